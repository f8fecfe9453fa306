/- klippelaw12.MeshGrids: at every argument that Grid refuses, or that the law leaves out. -/
import Derived.Test.YtccngnjkehibiaaGreatDoorM17
import Derived.Test.YtccngnjkehibiaaGreatDoorM10
namespace Go.Proofs.YtccngnjkehibiaaGreatDoor
open Go.RowKit Go.Lib

theorem four_get (lx ly hx hy : ByteArray) (hz : lx.size ≤ 20 ∧ ly.size ≤ 20 ∧ hx.size ≤ 20 ∧ hy.size ≤ 20) : ∀ i : Nat, i < 4 → ∃ s : ByteArray, s.size ≤ 20 ∧ [Value.string lx, .string ly, .string hx, .string hy][i]? = some (.string s) ∧ allQ ([lx, ly, hx, hy].take (i + 1)) = (allQ ([lx, ly, hx, hy].take i) && rightQ s.data.toList) := by
  intro i hi
  rcases (by omega : i = 0 ∨ i = 1 ∨ i = 2 ∨ i = 3) with rfl | rfl | rfl | rfl
  · exact ⟨lx, hz.1, rfl, by simp [allQ]⟩
  · exact ⟨ly, hz.2.1, rfl, by simp [allQ]⟩
  · exact ⟨hx, hz.2.2.1, rfl, by simp [allQ, Bool.and_assoc]⟩
  · exact ⟨hy, hz.2.2.2, rfl, by simp [allQ, Bool.and_assoc]⟩

set_option maxHeartbeats 4000000 in
set_option maxRecDepth 100000 in
theorem mg_number (lx ly hx hy : ByteArray) (c0 c1 : Int) (hz : lx.size ≤ 20 ∧ ly.size ≤ 20 ∧ hx.size ≤ 20 ∧ hy.size ≤ 20) (hall : allQ [lx, ly, hx, hy] = false) (hge : ∀ w, Good w → Calls Tryz.prog 15 #[.agg #[.string lx, .string ly], .agg #[.string hx, .string hy], .int .i64 c0, .int .i64 c1] w (Ret (fun r _ => r = .tuple #[.agg #[.slice none 0 0, .slice none 0 0], .int .i64 2]) w)) (w : World) (hg : Good w) :
    Calls Tryz.prog 3 #[.agg #[.string lx, .string ly], .agg #[.string hx, .string hy], .agg #[.int .i64 c0, .int .i64 c1]] w (Ret (fun r _ => r = .bool true) w) := by
  have HGE := Lib.hid hge
  clear hge
  have HF := Lib.hid (four_get lx ly hx hy hz)
  clear hz
  go_enter Tryz.func3, Tryz.ntmps3
  go_wp2_with fail
  obtain ⟨W, hW⟩ : ∃ W, W = ((w.alloc (.cells #[.string lx, .string ly] 24)).alloc (.cells #[.string hx, .string hy] 24)).alloc (.cells #[.int .i64 c0, .int .i64 c1] 25) := ⟨_, rfl⟩
  have hB : Below w.heap.size w W := by rw [hW]; exact (((Below.refl _ _).alloc (Nat.le_refl _) _).alloc (by simp) _).alloc (by simp; omega) _
  have b5 : BoxN W (w.heap.size + 2) 25 [.int .i64 c0, .int .i64 c1] := by rw [hW]; exact BoxN.new _ _ _ _ (by simp)
  have b4 : BoxN W (w.heap.size + 1) 24 [.string hx, .string hy] := by
    rw [hW]
    have h1 := (BoxN.new (w.alloc (.cells #[.string lx, .string ly] 24)) #[.string hx, .string hy] 24 (w.heap.size + 1) (by simp))
    exact h1.below ((Below.refl _ _).alloc (Nat.le_refl _) _) h1.lt
  have b3 : BoxN W w.heap.size 24 [.string lx, .string ly] := by
    rw [hW]
    have h1 := (BoxN.new w #[.string lx, .string ly] 24 _ rfl)
    exact (h1.below ((Below.refl _ _).alloc (Nat.le_refl _) _) h1.lt).below ((Below.refl _ _).alloc (Nat.le_refl _) _) (by simp; omega)
  rw [← hW]
  clear hW
  refine (known12_any W (hg.below hB)).mono ?_
  rintro e o1 ⟨_, rfl, rfl, hb1⟩
  have hB1 := hB.trans (hb1.mono hB.size)
  have b51 := b5.below hb1 b5.lt
  have b41 := b4.below hb1 b4.lt
  have b31 := b3.below hb1 b3.lt
  clear hb1 hB b5 b4 b3
  have k0 := b31.cell 0 rfl
  have k1 := b31.cell 1 rfl
  have k2 := b41.cell 0 rfl
  have k3 := b41.cell 1 rfl
  obtain ⟨o2, ho2⟩ : ∃ W, W = o1.alloc (.cells #[.string lx, .string ly, .string hx, .string hy] 22) := ⟨_, rfl⟩
  have hb2 : Below o1.heap.size o1 o2 := by rw [ho2]; exact (Below.refl _ _).alloc (Nat.le_refl _) _
  have e7 : BoxN o2 o1.heap.size 22 [.string lx, .string ly, .string hx, .string hy] := by rw [ho2]; exact BoxN.new _ _ _ _ rfl
  have hB2 := hB1.trans (hb2.mono hB1.size)
  have e5 := b51.below hb2 b51.lt
  have e4 := b41.below hb2 b41.lt
  have e3 := b31.below hb2 b31.lt
  go_upto_region 4 with fail
  rw [← ho2]
  clear ho2 hb2 hB1 b51 b41 b31 k0 k1 k2 k3
  go_wp2_with fail
  go_loopw [8, 9] (fun t8 t9 wr => ∃ (i : Nat) (b : Bool), t9 = .int .i64 i ∧ i ≤ 4 ∧ t8 = .int .i64 (errNum b) ∧ Hid (allQ ([lx, ly, hx, hy].take i) = b) ∧ Below o2.heap.size o2 wr) (fun _ t9 _ => 4 - (RowKit.intOf t9).toNat)
  case atStart => exact ⟨0, true, rfl, by omega, rfl, rfl, Below.refl _ _⟩
  case round =>
    obtain ⟨i, b, rfl, hi4, rfl, HB, hbr⟩ := hrel
    have hBr := hB2.trans (hbr.mono hB2.size)
    rcases Nat.lt_or_ge i 4 with h | h
    · obtain ⟨s, hs, hq, hst⟩ := HF.out i h
      have d0 := (e7.below hbr e7.lt).cell i hq
      have hsz : (s.size : Int) ≤ 20 := by omega
      have hiz : (i : Int) < 4 := by omega
      have HST := Lib.hid hst
      clear hq hst
      go_wp2_with fail
      refine (checkQ_any s (by omega) wr (hg.below hBr)).mono ?_
      rintro e w3 ⟨_, rfl, rfl, hb3⟩
      have hbr3 := hbr.trans (hb3.mono hbr.size)
      have HN : Hid (allQ ([lx, ly, hx, hy].take (i + 1)) = (b && rightQ s.data.toList)) := by unfold Hid; rw [HST.out, HB.out]
      generalize rightQ s.data.toList = q at *
      clear hb3 hsz d0
      cases q
      · rw [show errNum false = 2 from rfl]
        go_wp2_with fail
        go_roundw
        case rel => exact ⟨i + 1, false, by go_num, by omega, rfl, by unfold Hid; rw [HN.out, Bool.and_false], hbr3⟩
        case measure =>
          show 4 - ((i : Int) + 1).toNat < 4 - (i : Int).toNat
          omega
      · rw [show errNum true = 0 from rfl]
        go_wp2_with fail
        go_roundw
        case rel => exact ⟨i + 1, b, by go_num, by omega, rfl, by unfold Hid; rw [HN.out, Bool.and_true], hbr3⟩
        case measure =>
          show 4 - ((i : Int) + 1).toNat < 4 - (i : Int).toNat
          omega
    · have hige : (4 : Int) ≤ (i : Int) := by omega
      have hi4' : i = 4 := by omega
      rw [hi4'] at HB
      obtain rfl : b = allQ [lx, ly, hx, hy] := HB.out.symm
      rw [hall]
      have f5 := e5.below hbr e5.lt
      have f4 := e4.below hbr e4.lt
      have f3 := e3.below hbr e3.lt
      clear HB hbr hi4' e5 e4 e3 e7 hB2 HF
      rw [show errNum false = 2 from rfl]
      have hbd1 : Below wr.heap.size wr wr.drew := below_drewN wr 1
      have p0 := f5.cell 0 rfl
      have p1 := f5.cell 1 rfl
      go_upto_region 14 with fail
      go_region
      all_goals
        have m0 := (f3.below hbd1 f3.lt).cell 0 rfl
        have m1 := (f3.below hbd1 f3.lt).cell 1 rfl
        have m2 := (f4.below hbd1 f4.lt).cell 0 rfl
        have m3 := (f4.below hbd1 f4.lt).cell 1 rfl
        have hBd := hBr.trans (hbd1.mono hBr.size)
        clear p0 p1
        go_wp2_with fail
        refine (HGE.out _ (hg.below hBd)).mono ?_
        rintro e w9 ⟨_, rfl, rfl, hb9⟩
        obtain ⟨v9, hv9⟩ : ∃ W, W = w9.alloc (.cells #[.slice none 0 0, .slice none 0 0] 34) := ⟨_, rfl⟩
        have b12 : BoxN v9 w9.heap.size 34 [.slice none 0 0, .slice none 0 0] := by rw [hv9]; exact BoxN.new _ _ _ _ rfl
        have hb9' : Below wr.drew.heap.size wr.drew v9 := by rw [hv9]; exact hb9.trans ((Below.refl _ _).alloc hb9.size _)
        have hB9 := hBd.trans (hb9'.mono hBd.size)
        clear m0 m1 m2 m3
        go_upto_region 20 with fail
        rw [← hv9]
        clear hv9 hb9 hb9'
        have n0 := b12.cell 0 rfl
        have n1 := b12.cell 1 rfl
        go_wp2_with fail
        refine (none_true v9).mono ?_
        rintro e v8 ⟨_, rfl, rfl, hb8⟩
        have hB8 := hB9.trans (hb8.mono hB9.size)
        go_wp2_with fail
        go_ret
        exact ⟨_, rfl, rfl, hB8⟩

set_option maxHeartbeats 4000000 in
set_option maxRecDepth 100000 in
theorem mg_order1 (lx ly hx hy : ByteArray) (c0 c1 : Int) (hz : lx.size ≤ 20 ∧ ly.size ≤ 20 ∧ hx.size ≤ 20 ∧ hy.size ≤ 20) (hall : allQ [lx, ly, hx, hy] = true) (a : Int) (ha : 0 ≤ a) (hkx : ∀ w, Good w → Calls Tryz.prog 14 #[.string lx, .string hx] w (Ret (fun v _ => v = .int .i64 a) w)) (hge : ∀ w, Good w → Calls Tryz.prog 15 #[.agg #[.string lx, .string ly], .agg #[.string hx, .string hy], .int .i64 c0, .int .i64 c1] w (Ret (fun r _ => r = .tuple #[.agg #[.slice none 0 0, .slice none 0 0], .int .i64 6]) w)) (w : World) (hg : Good w) :
    Calls Tryz.prog 3 #[.agg #[.string lx, .string ly], .agg #[.string hx, .string hy], .agg #[.int .i64 c0, .int .i64 c1]] w (Ret (fun r _ => r = .bool true) w) := by
  have HKX := Lib.hid hkx
  clear hkx
  have HGE := Lib.hid hge
  clear hge
  have HF := Lib.hid (four_get lx ly hx hy hz)
  clear hz
  go_enter Tryz.func3, Tryz.ntmps3
  go_wp2_with fail
  obtain ⟨W, hW⟩ : ∃ W, W = ((w.alloc (.cells #[.string lx, .string ly] 24)).alloc (.cells #[.string hx, .string hy] 24)).alloc (.cells #[.int .i64 c0, .int .i64 c1] 25) := ⟨_, rfl⟩
  have hB : Below w.heap.size w W := by rw [hW]; exact (((Below.refl _ _).alloc (Nat.le_refl _) _).alloc (by simp) _).alloc (by simp; omega) _
  have b5 : BoxN W (w.heap.size + 2) 25 [.int .i64 c0, .int .i64 c1] := by rw [hW]; exact BoxN.new _ _ _ _ (by simp)
  have b4 : BoxN W (w.heap.size + 1) 24 [.string hx, .string hy] := by
    rw [hW]
    have h1 := (BoxN.new (w.alloc (.cells #[.string lx, .string ly] 24)) #[.string hx, .string hy] 24 (w.heap.size + 1) (by simp))
    exact h1.below ((Below.refl _ _).alloc (Nat.le_refl _) _) h1.lt
  have b3 : BoxN W w.heap.size 24 [.string lx, .string ly] := by
    rw [hW]
    have h1 := (BoxN.new w #[.string lx, .string ly] 24 _ rfl)
    exact (h1.below ((Below.refl _ _).alloc (Nat.le_refl _) _) h1.lt).below ((Below.refl _ _).alloc (Nat.le_refl _) _) (by simp; omega)
  rw [← hW]
  clear hW
  refine (known12_any W (hg.below hB)).mono ?_
  rintro e o1 ⟨_, rfl, rfl, hb1⟩
  have hB1 := hB.trans (hb1.mono hB.size)
  have b51 := b5.below hb1 b5.lt
  have b41 := b4.below hb1 b4.lt
  have b31 := b3.below hb1 b3.lt
  clear hb1 hB b5 b4 b3
  have k0 := b31.cell 0 rfl
  have k1 := b31.cell 1 rfl
  have k2 := b41.cell 0 rfl
  have k3 := b41.cell 1 rfl
  obtain ⟨o2, ho2⟩ : ∃ W, W = o1.alloc (.cells #[.string lx, .string ly, .string hx, .string hy] 22) := ⟨_, rfl⟩
  have hb2 : Below o1.heap.size o1 o2 := by rw [ho2]; exact (Below.refl _ _).alloc (Nat.le_refl _) _
  have e7 : BoxN o2 o1.heap.size 22 [.string lx, .string ly, .string hx, .string hy] := by rw [ho2]; exact BoxN.new _ _ _ _ rfl
  have hB2 := hB1.trans (hb2.mono hB1.size)
  have e5 := b51.below hb2 b51.lt
  have e4 := b41.below hb2 b41.lt
  have e3 := b31.below hb2 b31.lt
  go_upto_region 4 with fail
  rw [← ho2]
  clear ho2 hb2 hB1 b51 b41 b31 k0 k1 k2 k3
  go_wp2_with fail
  go_loopw [8, 9] (fun t8 t9 wr => ∃ (i : Nat) (b : Bool), t9 = .int .i64 i ∧ i ≤ 4 ∧ t8 = .int .i64 (errNum b) ∧ Hid (allQ ([lx, ly, hx, hy].take i) = b) ∧ Below o2.heap.size o2 wr) (fun _ t9 _ => 4 - (RowKit.intOf t9).toNat)
  case atStart => exact ⟨0, true, rfl, by omega, rfl, rfl, Below.refl _ _⟩
  case round =>
    obtain ⟨i, b, rfl, hi4, rfl, HB, hbr⟩ := hrel
    have hBr := hB2.trans (hbr.mono hB2.size)
    rcases Nat.lt_or_ge i 4 with h | h
    · obtain ⟨s, hs, hq, hst⟩ := HF.out i h
      have d0 := (e7.below hbr e7.lt).cell i hq
      have hsz : (s.size : Int) ≤ 20 := by omega
      have hiz : (i : Int) < 4 := by omega
      have HST := Lib.hid hst
      clear hq hst
      go_wp2_with fail
      refine (checkQ_any s (by omega) wr (hg.below hBr)).mono ?_
      rintro e w3 ⟨_, rfl, rfl, hb3⟩
      have hbr3 := hbr.trans (hb3.mono hbr.size)
      have HN : Hid (allQ ([lx, ly, hx, hy].take (i + 1)) = (b && rightQ s.data.toList)) := by unfold Hid; rw [HST.out, HB.out]
      generalize rightQ s.data.toList = q at *
      clear hb3 hsz d0
      cases q
      · rw [show errNum false = 2 from rfl]
        go_wp2_with fail
        go_roundw
        case rel => exact ⟨i + 1, false, by go_num, by omega, rfl, by unfold Hid; rw [HN.out, Bool.and_false], hbr3⟩
        case measure =>
          show 4 - ((i : Int) + 1).toNat < 4 - (i : Int).toNat
          omega
      · rw [show errNum true = 0 from rfl]
        go_wp2_with fail
        go_roundw
        case rel => exact ⟨i + 1, b, by go_num, by omega, rfl, by unfold Hid; rw [HN.out, Bool.and_true], hbr3⟩
        case measure =>
          show 4 - ((i : Int) + 1).toNat < 4 - (i : Int).toNat
          omega
    · have hige : (4 : Int) ≤ (i : Int) := by omega
      have hi4' : i = 4 := by omega
      rw [hi4'] at HB
      obtain rfl : b = allQ [lx, ly, hx, hy] := HB.out.symm
      rw [hall]
      have f5 := e5.below hbr e5.lt
      have f4 := e4.below hbr e4.lt
      have f3 := e3.below hbr e3.lt
      clear HB hbr hi4' e5 e4 e3 e7 hB2 HF
      rw [show errNum true = 0 from rfl]
      have q0 := f3.cell 0 rfl
      have q1 := f4.cell 0 rfl
      go_wp2_with fail
      refine (HKX.out wr (hg.below hBr)).mono ?_
      rintro e x1 ⟨_, rfl, rfl, hb⟩
      replace hBr := hBr.trans (hb.mono hBr.size)
      replace f5 := f5.below hb f5.lt
      replace f4 := f4.below hb f4.lt
      replace f3 := f3.below hb f3.lt
      clear hb q0 q1
      have hbd1 : Below x1.heap.size x1 x1.drew := below_drewN x1 1
      have p0 := f5.cell 0 rfl
      have p1 := f5.cell 1 rfl
      go_upto_region 14 with fail
      go_region
      all_goals
        have m0 := (f3.below hbd1 f3.lt).cell 0 rfl
        have m1 := (f3.below hbd1 f3.lt).cell 1 rfl
        have m2 := (f4.below hbd1 f4.lt).cell 0 rfl
        have m3 := (f4.below hbd1 f4.lt).cell 1 rfl
        have hBd := hBr.trans (hbd1.mono hBr.size)
        clear p0 p1
        go_wp2_with fail
        refine (HGE.out _ (hg.below hBd)).mono ?_
        rintro e w9 ⟨_, rfl, rfl, hb9⟩
        obtain ⟨v9, hv9⟩ : ∃ W, W = w9.alloc (.cells #[.slice none 0 0, .slice none 0 0] 34) := ⟨_, rfl⟩
        have b12 : BoxN v9 w9.heap.size 34 [.slice none 0 0, .slice none 0 0] := by rw [hv9]; exact BoxN.new _ _ _ _ rfl
        have hb9' : Below x1.drew.heap.size x1.drew v9 := by rw [hv9]; exact hb9.trans ((Below.refl _ _).alloc hb9.size _)
        have hB9 := hBd.trans (hb9'.mono hBd.size)
        clear m0 m1 m2 m3
        go_upto_region 20 with fail
        rw [← hv9]
        clear hv9 hb9 hb9'
        have n0 := b12.cell 0 rfl
        have n1 := b12.cell 1 rfl
        go_wp2_with fail
        refine (none_true v9).mono ?_
        rintro e v8 ⟨_, rfl, rfl, hb8⟩
        have hB8 := hB9.trans (hb8.mono hB9.size)
        go_wp2_with fail
        go_ret
        exact ⟨_, rfl, rfl, hB8⟩

set_option maxHeartbeats 4000000 in
set_option maxRecDepth 100000 in
theorem mg_order2 (lx ly hx hy : ByteArray) (c0 c1 : Int) (hz : lx.size ≤ 20 ∧ ly.size ≤ 20 ∧ hx.size ≤ 20 ∧ hy.size ≤ 20) (hall : allQ [lx, ly, hx, hy] = true) (hkx : ∀ w, Good w → Calls Tryz.prog 14 #[.string lx, .string hx] w (Ret (fun v _ => v = .int .i64 (-1)) w)) (a : Int) (ha : 0 ≤ a) (hky : ∀ w, Good w → Calls Tryz.prog 14 #[.string ly, .string hy] w (Ret (fun v _ => v = .int .i64 a) w)) (hge : ∀ w, Good w → Calls Tryz.prog 15 #[.agg #[.string lx, .string ly], .agg #[.string hx, .string hy], .int .i64 c0, .int .i64 c1] w (Ret (fun r _ => r = .tuple #[.agg #[.slice none 0 0, .slice none 0 0], .int .i64 6]) w)) (w : World) (hg : Good w) :
    Calls Tryz.prog 3 #[.agg #[.string lx, .string ly], .agg #[.string hx, .string hy], .agg #[.int .i64 c0, .int .i64 c1]] w (Ret (fun r _ => r = .bool true) w) := by
  have HKX := Lib.hid hkx
  clear hkx
  have HKY := Lib.hid hky
  clear hky
  have HGE := Lib.hid hge
  clear hge
  have HF := Lib.hid (four_get lx ly hx hy hz)
  clear hz
  go_enter Tryz.func3, Tryz.ntmps3
  go_wp2_with fail
  obtain ⟨W, hW⟩ : ∃ W, W = ((w.alloc (.cells #[.string lx, .string ly] 24)).alloc (.cells #[.string hx, .string hy] 24)).alloc (.cells #[.int .i64 c0, .int .i64 c1] 25) := ⟨_, rfl⟩
  have hB : Below w.heap.size w W := by rw [hW]; exact (((Below.refl _ _).alloc (Nat.le_refl _) _).alloc (by simp) _).alloc (by simp; omega) _
  have b5 : BoxN W (w.heap.size + 2) 25 [.int .i64 c0, .int .i64 c1] := by rw [hW]; exact BoxN.new _ _ _ _ (by simp)
  have b4 : BoxN W (w.heap.size + 1) 24 [.string hx, .string hy] := by
    rw [hW]
    have h1 := (BoxN.new (w.alloc (.cells #[.string lx, .string ly] 24)) #[.string hx, .string hy] 24 (w.heap.size + 1) (by simp))
    exact h1.below ((Below.refl _ _).alloc (Nat.le_refl _) _) h1.lt
  have b3 : BoxN W w.heap.size 24 [.string lx, .string ly] := by
    rw [hW]
    have h1 := (BoxN.new w #[.string lx, .string ly] 24 _ rfl)
    exact (h1.below ((Below.refl _ _).alloc (Nat.le_refl _) _) h1.lt).below ((Below.refl _ _).alloc (Nat.le_refl _) _) (by simp; omega)
  rw [← hW]
  clear hW
  refine (known12_any W (hg.below hB)).mono ?_
  rintro e o1 ⟨_, rfl, rfl, hb1⟩
  have hB1 := hB.trans (hb1.mono hB.size)
  have b51 := b5.below hb1 b5.lt
  have b41 := b4.below hb1 b4.lt
  have b31 := b3.below hb1 b3.lt
  clear hb1 hB b5 b4 b3
  have k0 := b31.cell 0 rfl
  have k1 := b31.cell 1 rfl
  have k2 := b41.cell 0 rfl
  have k3 := b41.cell 1 rfl
  obtain ⟨o2, ho2⟩ : ∃ W, W = o1.alloc (.cells #[.string lx, .string ly, .string hx, .string hy] 22) := ⟨_, rfl⟩
  have hb2 : Below o1.heap.size o1 o2 := by rw [ho2]; exact (Below.refl _ _).alloc (Nat.le_refl _) _
  have e7 : BoxN o2 o1.heap.size 22 [.string lx, .string ly, .string hx, .string hy] := by rw [ho2]; exact BoxN.new _ _ _ _ rfl
  have hB2 := hB1.trans (hb2.mono hB1.size)
  have e5 := b51.below hb2 b51.lt
  have e4 := b41.below hb2 b41.lt
  have e3 := b31.below hb2 b31.lt
  go_upto_region 4 with fail
  rw [← ho2]
  clear ho2 hb2 hB1 b51 b41 b31 k0 k1 k2 k3
  go_wp2_with fail
  go_loopw [8, 9] (fun t8 t9 wr => ∃ (i : Nat) (b : Bool), t9 = .int .i64 i ∧ i ≤ 4 ∧ t8 = .int .i64 (errNum b) ∧ Hid (allQ ([lx, ly, hx, hy].take i) = b) ∧ Below o2.heap.size o2 wr) (fun _ t9 _ => 4 - (RowKit.intOf t9).toNat)
  case atStart => exact ⟨0, true, rfl, by omega, rfl, rfl, Below.refl _ _⟩
  case round =>
    obtain ⟨i, b, rfl, hi4, rfl, HB, hbr⟩ := hrel
    have hBr := hB2.trans (hbr.mono hB2.size)
    rcases Nat.lt_or_ge i 4 with h | h
    · obtain ⟨s, hs, hq, hst⟩ := HF.out i h
      have d0 := (e7.below hbr e7.lt).cell i hq
      have hsz : (s.size : Int) ≤ 20 := by omega
      have hiz : (i : Int) < 4 := by omega
      have HST := Lib.hid hst
      clear hq hst
      go_wp2_with fail
      refine (checkQ_any s (by omega) wr (hg.below hBr)).mono ?_
      rintro e w3 ⟨_, rfl, rfl, hb3⟩
      have hbr3 := hbr.trans (hb3.mono hbr.size)
      have HN : Hid (allQ ([lx, ly, hx, hy].take (i + 1)) = (b && rightQ s.data.toList)) := by unfold Hid; rw [HST.out, HB.out]
      generalize rightQ s.data.toList = q at *
      clear hb3 hsz d0
      cases q
      · rw [show errNum false = 2 from rfl]
        go_wp2_with fail
        go_roundw
        case rel => exact ⟨i + 1, false, by go_num, by omega, rfl, by unfold Hid; rw [HN.out, Bool.and_false], hbr3⟩
        case measure =>
          show 4 - ((i : Int) + 1).toNat < 4 - (i : Int).toNat
          omega
      · rw [show errNum true = 0 from rfl]
        go_wp2_with fail
        go_roundw
        case rel => exact ⟨i + 1, b, by go_num, by omega, rfl, by unfold Hid; rw [HN.out, Bool.and_true], hbr3⟩
        case measure =>
          show 4 - ((i : Int) + 1).toNat < 4 - (i : Int).toNat
          omega
    · have hige : (4 : Int) ≤ (i : Int) := by omega
      have hi4' : i = 4 := by omega
      rw [hi4'] at HB
      obtain rfl : b = allQ [lx, ly, hx, hy] := HB.out.symm
      rw [hall]
      have f5 := e5.below hbr e5.lt
      have f4 := e4.below hbr e4.lt
      have f3 := e3.below hbr e3.lt
      clear HB hbr hi4' e5 e4 e3 e7 hB2 HF
      rw [show errNum true = 0 from rfl]
      have q0 := f3.cell 0 rfl
      have q1 := f4.cell 0 rfl
      go_wp2_with fail
      refine (HKX.out wr (hg.below hBr)).mono ?_
      rintro e x1 ⟨_, rfl, rfl, hb⟩
      replace hBr := hBr.trans (hb.mono hBr.size)
      replace f5 := f5.below hb f5.lt
      replace f4 := f4.below hb f4.lt
      replace f3 := f3.below hb f3.lt
      clear hb q0 q1
      have q0 := f3.cell 1 rfl
      have q1 := f4.cell 1 rfl
      go_wp2_with fail
      refine (HKY.out x1 (hg.below hBr)).mono ?_
      rintro e x2 ⟨_, rfl, rfl, hb⟩
      replace hBr := hBr.trans (hb.mono hBr.size)
      replace f5 := f5.below hb f5.lt
      replace f4 := f4.below hb f4.lt
      replace f3 := f3.below hb f3.lt
      clear hb q0 q1
      have hbd1 : Below x2.heap.size x2 x2.drew := below_drewN x2 1
      have p0 := f5.cell 0 rfl
      have p1 := f5.cell 1 rfl
      go_upto_region 14 with fail
      go_region
      all_goals
        have m0 := (f3.below hbd1 f3.lt).cell 0 rfl
        have m1 := (f3.below hbd1 f3.lt).cell 1 rfl
        have m2 := (f4.below hbd1 f4.lt).cell 0 rfl
        have m3 := (f4.below hbd1 f4.lt).cell 1 rfl
        have hBd := hBr.trans (hbd1.mono hBr.size)
        clear p0 p1
        go_wp2_with fail
        refine (HGE.out _ (hg.below hBd)).mono ?_
        rintro e w9 ⟨_, rfl, rfl, hb9⟩
        obtain ⟨v9, hv9⟩ : ∃ W, W = w9.alloc (.cells #[.slice none 0 0, .slice none 0 0] 34) := ⟨_, rfl⟩
        have b12 : BoxN v9 w9.heap.size 34 [.slice none 0 0, .slice none 0 0] := by rw [hv9]; exact BoxN.new _ _ _ _ rfl
        have hb9' : Below x2.drew.heap.size x2.drew v9 := by rw [hv9]; exact hb9.trans ((Below.refl _ _).alloc hb9.size _)
        have hB9 := hBd.trans (hb9'.mono hBd.size)
        clear m0 m1 m2 m3
        go_upto_region 20 with fail
        rw [← hv9]
        clear hv9 hb9 hb9'
        have n0 := b12.cell 0 rfl
        have n1 := b12.cell 1 rfl
        go_wp2_with fail
        refine (none_true v9).mono ?_
        rintro e v8 ⟨_, rfl, rfl, hb8⟩
        have hB8 := hB9.trans (hb8.mono hB9.size)
        go_wp2_with fail
        go_ret
        exact ⟨_, rfl, rfl, hB8⟩

set_option maxHeartbeats 4000000 in
set_option maxRecDepth 100000 in
theorem mg_range (lx ly hx hy : ByteArray) (c0 c1 : Int) (hz : lx.size ≤ 20 ∧ ly.size ≤ 20 ∧ hx.size ≤ 20 ∧ hy.size ≤ 20) (hall : allQ [lx, ly, hx, hy] = true) (hkx : ∀ w, Good w → Calls Tryz.prog 14 #[.string lx, .string hx] w (Ret (fun v _ => v = .int .i64 (-1)) w)) (hky : ∀ w, Good w → Calls Tryz.prog 14 #[.string ly, .string hy] w (Ret (fun v _ => v = .int .i64 (-1)) w)) (hr : c0 < 1 ∨ (1 ≤ c0 ∧ 15 < c0) ∨ (1 ≤ c0 ∧ c0 ≤ 15 ∧ c1 < 1) ∨ (1 ≤ c0 ∧ c0 ≤ 15 ∧ 1 ≤ c1 ∧ 15 < c1)) (hge : ∀ w, Good w → Calls Tryz.prog 15 #[.agg #[.string lx, .string ly], .agg #[.string hx, .string hy], .int .i64 c0, .int .i64 c1] w (Ret (fun r _ => r = .tuple #[.agg #[.slice none 0 0, .slice none 0 0], .int .i64 3]) w)) (w : World) (hg : Good w) :
    Calls Tryz.prog 3 #[.agg #[.string lx, .string ly], .agg #[.string hx, .string hy], .agg #[.int .i64 c0, .int .i64 c1]] w (Ret (fun r _ => r = .bool true) w) := by
  have HKX := Lib.hid hkx
  clear hkx
  have HKY := Lib.hid hky
  clear hky
  have HR := Lib.hid hr
  clear hr
  have HGE := Lib.hid hge
  clear hge
  have HF := Lib.hid (four_get lx ly hx hy hz)
  clear hz
  go_enter Tryz.func3, Tryz.ntmps3
  go_wp2_with fail
  obtain ⟨W, hW⟩ : ∃ W, W = ((w.alloc (.cells #[.string lx, .string ly] 24)).alloc (.cells #[.string hx, .string hy] 24)).alloc (.cells #[.int .i64 c0, .int .i64 c1] 25) := ⟨_, rfl⟩
  have hB : Below w.heap.size w W := by rw [hW]; exact (((Below.refl _ _).alloc (Nat.le_refl _) _).alloc (by simp) _).alloc (by simp; omega) _
  have b5 : BoxN W (w.heap.size + 2) 25 [.int .i64 c0, .int .i64 c1] := by rw [hW]; exact BoxN.new _ _ _ _ (by simp)
  have b4 : BoxN W (w.heap.size + 1) 24 [.string hx, .string hy] := by
    rw [hW]
    have h1 := (BoxN.new (w.alloc (.cells #[.string lx, .string ly] 24)) #[.string hx, .string hy] 24 (w.heap.size + 1) (by simp))
    exact h1.below ((Below.refl _ _).alloc (Nat.le_refl _) _) h1.lt
  have b3 : BoxN W w.heap.size 24 [.string lx, .string ly] := by
    rw [hW]
    have h1 := (BoxN.new w #[.string lx, .string ly] 24 _ rfl)
    exact (h1.below ((Below.refl _ _).alloc (Nat.le_refl _) _) h1.lt).below ((Below.refl _ _).alloc (Nat.le_refl _) _) (by simp; omega)
  rw [← hW]
  clear hW
  refine (known12_any W (hg.below hB)).mono ?_
  rintro e o1 ⟨_, rfl, rfl, hb1⟩
  have hB1 := hB.trans (hb1.mono hB.size)
  have b51 := b5.below hb1 b5.lt
  have b41 := b4.below hb1 b4.lt
  have b31 := b3.below hb1 b3.lt
  clear hb1 hB b5 b4 b3
  have k0 := b31.cell 0 rfl
  have k1 := b31.cell 1 rfl
  have k2 := b41.cell 0 rfl
  have k3 := b41.cell 1 rfl
  obtain ⟨o2, ho2⟩ : ∃ W, W = o1.alloc (.cells #[.string lx, .string ly, .string hx, .string hy] 22) := ⟨_, rfl⟩
  have hb2 : Below o1.heap.size o1 o2 := by rw [ho2]; exact (Below.refl _ _).alloc (Nat.le_refl _) _
  have e7 : BoxN o2 o1.heap.size 22 [.string lx, .string ly, .string hx, .string hy] := by rw [ho2]; exact BoxN.new _ _ _ _ rfl
  have hB2 := hB1.trans (hb2.mono hB1.size)
  have e5 := b51.below hb2 b51.lt
  have e4 := b41.below hb2 b41.lt
  have e3 := b31.below hb2 b31.lt
  go_upto_region 4 with fail
  rw [← ho2]
  clear ho2 hb2 hB1 b51 b41 b31 k0 k1 k2 k3
  go_wp2_with fail
  go_loopw [8, 9] (fun t8 t9 wr => ∃ (i : Nat) (b : Bool), t9 = .int .i64 i ∧ i ≤ 4 ∧ t8 = .int .i64 (errNum b) ∧ Hid (allQ ([lx, ly, hx, hy].take i) = b) ∧ Below o2.heap.size o2 wr) (fun _ t9 _ => 4 - (RowKit.intOf t9).toNat)
  case atStart => exact ⟨0, true, rfl, by omega, rfl, rfl, Below.refl _ _⟩
  case round =>
    obtain ⟨i, b, rfl, hi4, rfl, HB, hbr⟩ := hrel
    have hBr := hB2.trans (hbr.mono hB2.size)
    rcases Nat.lt_or_ge i 4 with h | h
    · obtain ⟨s, hs, hq, hst⟩ := HF.out i h
      have d0 := (e7.below hbr e7.lt).cell i hq
      have hsz : (s.size : Int) ≤ 20 := by omega
      have hiz : (i : Int) < 4 := by omega
      have HST := Lib.hid hst
      clear hq hst
      go_wp2_with fail
      refine (checkQ_any s (by omega) wr (hg.below hBr)).mono ?_
      rintro e w3 ⟨_, rfl, rfl, hb3⟩
      have hbr3 := hbr.trans (hb3.mono hbr.size)
      have HN : Hid (allQ ([lx, ly, hx, hy].take (i + 1)) = (b && rightQ s.data.toList)) := by unfold Hid; rw [HST.out, HB.out]
      generalize rightQ s.data.toList = q at *
      clear hb3 hsz d0
      cases q
      · rw [show errNum false = 2 from rfl]
        go_wp2_with fail
        go_roundw
        case rel => exact ⟨i + 1, false, by go_num, by omega, rfl, by unfold Hid; rw [HN.out, Bool.and_false], hbr3⟩
        case measure =>
          show 4 - ((i : Int) + 1).toNat < 4 - (i : Int).toNat
          omega
      · rw [show errNum true = 0 from rfl]
        go_wp2_with fail
        go_roundw
        case rel => exact ⟨i + 1, b, by go_num, by omega, rfl, by unfold Hid; rw [HN.out, Bool.and_true], hbr3⟩
        case measure =>
          show 4 - ((i : Int) + 1).toNat < 4 - (i : Int).toNat
          omega
    · have hige : (4 : Int) ≤ (i : Int) := by omega
      have hi4' : i = 4 := by omega
      rw [hi4'] at HB
      obtain rfl : b = allQ [lx, ly, hx, hy] := HB.out.symm
      rw [hall]
      have f5 := e5.below hbr e5.lt
      have f4 := e4.below hbr e4.lt
      have f3 := e3.below hbr e3.lt
      clear HB hbr hi4' e5 e4 e3 e7 hB2 HF
      rw [show errNum true = 0 from rfl]
      have q0 := f3.cell 0 rfl
      have q1 := f4.cell 0 rfl
      go_wp2_with fail
      refine (HKX.out wr (hg.below hBr)).mono ?_
      rintro e x1 ⟨_, rfl, rfl, hb⟩
      replace hBr := hBr.trans (hb.mono hBr.size)
      replace f5 := f5.below hb f5.lt
      replace f4 := f4.below hb f4.lt
      replace f3 := f3.below hb f3.lt
      clear hb q0 q1
      have q0 := f3.cell 1 rfl
      have q1 := f4.cell 1 rfl
      go_wp2_with fail
      refine (HKY.out x1 (hg.below hBr)).mono ?_
      rintro e x2 ⟨_, rfl, rfl, hb⟩
      replace hBr := hBr.trans (hb.mono hBr.size)
      replace f5 := f5.below hb f5.lt
      replace f4 := f4.below hb f4.lt
      replace f3 := f3.below hb f3.lt
      clear hb q0 q1
      rcases HR.out with h1 | ⟨h1, h2⟩ | ⟨h1, h2, h3⟩ | ⟨h1, h2, h3, h4⟩
      all_goals
        have hbd1 : Below x2.heap.size x2 x2.drew := below_drewN x2 1
        have p0 := f5.cell 0 rfl
        have p1 := f5.cell 1 rfl
        go_upto_region 14 with fail
        go_region
        all_goals
          have m0 := (f3.below hbd1 f3.lt).cell 0 rfl
          have m1 := (f3.below hbd1 f3.lt).cell 1 rfl
          have m2 := (f4.below hbd1 f4.lt).cell 0 rfl
          have m3 := (f4.below hbd1 f4.lt).cell 1 rfl
          have hBd := hBr.trans (hbd1.mono hBr.size)
          clear p0 p1
          go_wp2_with fail
          refine (HGE.out _ (hg.below hBd)).mono ?_
          rintro e w9 ⟨_, rfl, rfl, hb9⟩
          obtain ⟨v9, hv9⟩ : ∃ W, W = w9.alloc (.cells #[.slice none 0 0, .slice none 0 0] 34) := ⟨_, rfl⟩
          have b12 : BoxN v9 w9.heap.size 34 [.slice none 0 0, .slice none 0 0] := by rw [hv9]; exact BoxN.new _ _ _ _ rfl
          have hb9' : Below x2.drew.heap.size x2.drew v9 := by rw [hv9]; exact hb9.trans ((Below.refl _ _).alloc hb9.size _)
          have hB9 := hBd.trans (hb9'.mono hBd.size)
          clear m0 m1 m2 m3
          go_upto_region 20 with fail
          rw [← hv9]
          clear hv9 hb9 hb9'
          have n0 := b12.cell 0 rfl
          have n1 := b12.cell 1 rfl
          go_wp2_with fail
          refine (none_true v9).mono ?_
          rintro e v8 ⟨_, rfl, rfl, hb8⟩
          have hB8 := hB9.trans (hb8.mono hB9.size)
          go_wp2_with fail
          go_ret
          exact ⟨_, rfl, rfl, hB8⟩

theorem four_any (lx ly hx hy : ByteArray) : ∀ i : Nat, i < 4 → ∃ s : ByteArray, (([lx, ly, hx, hy] : List ByteArray)[i]?.getD ⟨#[]⟩) = s ∧ [Value.string lx, .string ly, .string hx, .string hy][i]? = some (.string s) := by
  intro i hi
  rcases (by omega : i = 0 ∨ i = 1 ∨ i = 2 ∨ i = 3) with rfl | rfl | rfl | rfl
  · exact ⟨lx, rfl, rfl⟩
  · exact ⟨ly, rfl, rfl⟩
  · exact ⟨hx, rfl, rfl⟩
  · exact ⟨hy, rfl, rfl⟩

set_option maxHeartbeats 4000000 in
set_option maxRecDepth 100000 in
theorem mg_big (lx ly hx hy : ByteArray) (c0 c1 : Int) (hz : ∃ j, j < 4 ∧ 20 < (([lx, ly, hx, hy] : List ByteArray)[j]?.getD ⟨#[]⟩).size) (w : World) (hg : Good w) :
    Calls Tryz.prog 3 #[.agg #[.string lx, .string ly], .agg #[.string hx, .string hy], .agg #[.int .i64 c0, .int .i64 c1]] w (Ret (fun r _ => r = .bool true) w) := by
  have HF := Lib.hid (four_any lx ly hx hy)
  have HZ := Lib.hid hz
  clear hz
  go_enter Tryz.func3, Tryz.ntmps3
  go_wp2_with fail
  obtain ⟨W, hW⟩ : ∃ W, W = ((w.alloc (.cells #[.string lx, .string ly] 24)).alloc (.cells #[.string hx, .string hy] 24)).alloc (.cells #[.int .i64 c0, .int .i64 c1] 25) := ⟨_, rfl⟩
  have hB : Below w.heap.size w W := by rw [hW]; exact (((Below.refl _ _).alloc (Nat.le_refl _) _).alloc (by simp) _).alloc (by simp; omega) _
  have b5 : BoxN W (w.heap.size + 2) 25 [.int .i64 c0, .int .i64 c1] := by rw [hW]; exact BoxN.new _ _ _ _ (by simp)
  have b4 : BoxN W (w.heap.size + 1) 24 [.string hx, .string hy] := by
    rw [hW]
    have h1 := (BoxN.new (w.alloc (.cells #[.string lx, .string ly] 24)) #[.string hx, .string hy] 24 (w.heap.size + 1) (by simp))
    exact h1.below ((Below.refl _ _).alloc (Nat.le_refl _) _) h1.lt
  have b3 : BoxN W w.heap.size 24 [.string lx, .string ly] := by
    rw [hW]
    have h1 := (BoxN.new w #[.string lx, .string ly] 24 _ rfl)
    exact (h1.below ((Below.refl _ _).alloc (Nat.le_refl _) _) h1.lt).below ((Below.refl _ _).alloc (Nat.le_refl _) _) (by simp; omega)
  rw [← hW]
  clear hW
  refine (known12_any W (hg.below hB)).mono ?_
  rintro e o1 ⟨_, rfl, rfl, hb1⟩
  have hB1 := hB.trans (hb1.mono hB.size)
  have b51 := b5.below hb1 b5.lt
  have b41 := b4.below hb1 b4.lt
  have b31 := b3.below hb1 b3.lt
  clear hb1 hB b5 b4 b3
  have k0 := b31.cell 0 rfl
  have k1 := b31.cell 1 rfl
  have k2 := b41.cell 0 rfl
  have k3 := b41.cell 1 rfl
  obtain ⟨o2, ho2⟩ : ∃ W, W = o1.alloc (.cells #[.string lx, .string ly, .string hx, .string hy] 22) := ⟨_, rfl⟩
  have hb2 : Below o1.heap.size o1 o2 := by rw [ho2]; exact (Below.refl _ _).alloc (Nat.le_refl _) _
  have e7 : BoxN o2 o1.heap.size 22 [.string lx, .string ly, .string hx, .string hy] := by rw [ho2]; exact BoxN.new _ _ _ _ rfl
  have hB2 := hB1.trans (hb2.mono hB1.size)
  have e5 := b51.below hb2 b51.lt
  have e4 := b41.below hb2 b41.lt
  have e3 := b31.below hb2 b31.lt
  go_upto_region 4 with fail
  rw [← ho2]
  clear ho2 hb2 hB1 b51 b41 b31 k0 k1 k2 k3
  go_wp2_with fail
  go_loopw [8, 9] (fun t8 t9 wr => ∃ (i : Nat) (b : Bool), t9 = .int .i64 i ∧ i ≤ 4 ∧ t8 = .int .i64 (errNum b) ∧ Hid (∀ j, j < i → (([lx, ly, hx, hy] : List ByteArray)[j]?.getD ⟨#[]⟩).size ≤ 20) ∧ Below o2.heap.size o2 wr) (fun _ t9 _ => 4 - (RowKit.intOf t9).toNat)
  case atStart => exact ⟨0, true, rfl, by omega, rfl, (fun j h => by omega), Below.refl _ _⟩
  case round =>
    obtain ⟨i, b, rfl, hi4, rfl, HB, hbr⟩ := hrel
    have hBr := hB2.trans (hbr.mono hB2.size)
    rcases Nat.lt_or_ge i 4 with h | h
    · obtain ⟨s, hs, hq⟩ := HF.out i h
      have d0 := (e7.below hbr e7.lt).cell i hq
      have hiz : (i : Int) < 4 := by omega
      rcases Nat.lt_or_ge 20 s.size with hbig | hsm
      · have hsz : (20 : Int) < (s.size : Int) := by omega
        clear hs hq
        go_wp2_with fail
        go_ret
        exact ⟨_, rfl, rfl, hBr⟩
      have hsz : (s.size : Int) ≤ 20 := by omega
      have HN : Hid (∀ j, j < i + 1 → (([lx, ly, hx, hy] : List ByteArray)[j]?.getD ⟨#[]⟩).size ≤ 20) := fun j hj => by
        rcases (by omega : j < i ∨ j = i) with h1 | h1
        · exact HB.out j h1
        · rw [h1, hs]; exact hsm
      clear hq hs
      go_wp2_with fail
      refine (checkQ_any s (by omega) wr (hg.below hBr)).mono ?_
      rintro e w3 ⟨_, rfl, rfl, hb3⟩
      have hbr3 := hbr.trans (hb3.mono hbr.size)
      generalize rightQ s.data.toList = q at *
      clear hb3 hsz d0
      cases q
      · rw [show errNum false = 2 from rfl]
        go_wp2_with fail
        go_roundw
        case rel => exact ⟨i + 1, false, by go_num, by omega, rfl, HN, hbr3⟩
        case measure =>
          show 4 - ((i : Int) + 1).toNat < 4 - (i : Int).toNat
          omega
      · rw [show errNum true = 0 from rfl]
        go_wp2_with fail
        go_roundw
        case rel => exact ⟨i + 1, b, by go_num, by omega, rfl, HN, hbr3⟩
        case measure =>
          show 4 - ((i : Int) + 1).toNat < 4 - (i : Int).toNat
          omega
    · obtain ⟨j, hj, hj20⟩ := HZ.out
      have := HB.out j (by omega)
      omega

set_option maxHeartbeats 4000000 in
set_option maxRecDepth 100000 in
theorem mg_many (lx ly hx hy : ByteArray) (c0 c1 : Int) (hz : lx.size ≤ 20 ∧ ly.size ≤ 20 ∧ hx.size ≤ 20 ∧ hy.size ≤ 20) (hall : allQ [lx, ly, hx, hy] = true) (hkx : ∀ w, Good w → Calls Tryz.prog 14 #[.string lx, .string hx] w (Ret (fun v _ => v = .int .i64 (-1)) w)) (hky : ∀ w, Good w → Calls Tryz.prog 14 #[.string ly, .string hy] w (Ret (fun v _ => v = .int .i64 (-1)) w)) (hr : 1 ≤ c0 ∧ c0 ≤ 15 ∧ 1 ≤ c1 ∧ c1 ≤ 15 ∧ (3 < c0 ∨ (c0 ≤ 3 ∧ 3 < c1))) (w : World) (hg : Good w) :
    Calls Tryz.prog 3 #[.agg #[.string lx, .string ly], .agg #[.string hx, .string hy], .agg #[.int .i64 c0, .int .i64 c1]] w (Ret (fun r _ => r = .bool true) w) := by
  have HKX := Lib.hid hkx
  clear hkx
  have HKY := Lib.hid hky
  clear hky
  have HR := Lib.hid hr
  clear hr
  have HF := Lib.hid (four_get lx ly hx hy hz)
  clear hz
  go_enter Tryz.func3, Tryz.ntmps3
  go_wp2_with fail
  obtain ⟨W, hW⟩ : ∃ W, W = ((w.alloc (.cells #[.string lx, .string ly] 24)).alloc (.cells #[.string hx, .string hy] 24)).alloc (.cells #[.int .i64 c0, .int .i64 c1] 25) := ⟨_, rfl⟩
  have hB : Below w.heap.size w W := by rw [hW]; exact (((Below.refl _ _).alloc (Nat.le_refl _) _).alloc (by simp) _).alloc (by simp; omega) _
  have b5 : BoxN W (w.heap.size + 2) 25 [.int .i64 c0, .int .i64 c1] := by rw [hW]; exact BoxN.new _ _ _ _ (by simp)
  have b4 : BoxN W (w.heap.size + 1) 24 [.string hx, .string hy] := by
    rw [hW]
    have h1 := (BoxN.new (w.alloc (.cells #[.string lx, .string ly] 24)) #[.string hx, .string hy] 24 (w.heap.size + 1) (by simp))
    exact h1.below ((Below.refl _ _).alloc (Nat.le_refl _) _) h1.lt
  have b3 : BoxN W w.heap.size 24 [.string lx, .string ly] := by
    rw [hW]
    have h1 := (BoxN.new w #[.string lx, .string ly] 24 _ rfl)
    exact (h1.below ((Below.refl _ _).alloc (Nat.le_refl _) _) h1.lt).below ((Below.refl _ _).alloc (Nat.le_refl _) _) (by simp; omega)
  rw [← hW]
  clear hW
  refine (known12_any W (hg.below hB)).mono ?_
  rintro e o1 ⟨_, rfl, rfl, hb1⟩
  have hB1 := hB.trans (hb1.mono hB.size)
  have b51 := b5.below hb1 b5.lt
  have b41 := b4.below hb1 b4.lt
  have b31 := b3.below hb1 b3.lt
  clear hb1 hB b5 b4 b3
  have k0 := b31.cell 0 rfl
  have k1 := b31.cell 1 rfl
  have k2 := b41.cell 0 rfl
  have k3 := b41.cell 1 rfl
  obtain ⟨o2, ho2⟩ : ∃ W, W = o1.alloc (.cells #[.string lx, .string ly, .string hx, .string hy] 22) := ⟨_, rfl⟩
  have hb2 : Below o1.heap.size o1 o2 := by rw [ho2]; exact (Below.refl _ _).alloc (Nat.le_refl _) _
  have e7 : BoxN o2 o1.heap.size 22 [.string lx, .string ly, .string hx, .string hy] := by rw [ho2]; exact BoxN.new _ _ _ _ rfl
  have hB2 := hB1.trans (hb2.mono hB1.size)
  have e5 := b51.below hb2 b51.lt
  have e4 := b41.below hb2 b41.lt
  have e3 := b31.below hb2 b31.lt
  go_upto_region 4 with fail
  rw [← ho2]
  clear ho2 hb2 hB1 b51 b41 b31 k0 k1 k2 k3
  go_wp2_with fail
  go_loopw [8, 9] (fun t8 t9 wr => ∃ (i : Nat) (b : Bool), t9 = .int .i64 i ∧ i ≤ 4 ∧ t8 = .int .i64 (errNum b) ∧ Hid (allQ ([lx, ly, hx, hy].take i) = b) ∧ Below o2.heap.size o2 wr) (fun _ t9 _ => 4 - (RowKit.intOf t9).toNat)
  case atStart => exact ⟨0, true, rfl, by omega, rfl, rfl, Below.refl _ _⟩
  case round =>
    obtain ⟨i, b, rfl, hi4, rfl, HB, hbr⟩ := hrel
    have hBr := hB2.trans (hbr.mono hB2.size)
    rcases Nat.lt_or_ge i 4 with h | h
    · obtain ⟨s, hs, hq, hst⟩ := HF.out i h
      have d0 := (e7.below hbr e7.lt).cell i hq
      have hsz : (s.size : Int) ≤ 20 := by omega
      have hiz : (i : Int) < 4 := by omega
      have HST := Lib.hid hst
      clear hq hst
      go_wp2_with fail
      refine (checkQ_any s (by omega) wr (hg.below hBr)).mono ?_
      rintro e w3 ⟨_, rfl, rfl, hb3⟩
      have hbr3 := hbr.trans (hb3.mono hbr.size)
      have HN : Hid (allQ ([lx, ly, hx, hy].take (i + 1)) = (b && rightQ s.data.toList)) := by unfold Hid; rw [HST.out, HB.out]
      generalize rightQ s.data.toList = q at *
      clear hb3 hsz d0
      cases q
      · rw [show errNum false = 2 from rfl]
        go_wp2_with fail
        go_roundw
        case rel => exact ⟨i + 1, false, by go_num, by omega, rfl, by unfold Hid; rw [HN.out, Bool.and_false], hbr3⟩
        case measure =>
          show 4 - ((i : Int) + 1).toNat < 4 - (i : Int).toNat
          omega
      · rw [show errNum true = 0 from rfl]
        go_wp2_with fail
        go_roundw
        case rel => exact ⟨i + 1, b, by go_num, by omega, rfl, by unfold Hid; rw [HN.out, Bool.and_true], hbr3⟩
        case measure =>
          show 4 - ((i : Int) + 1).toNat < 4 - (i : Int).toNat
          omega
    · have hige : (4 : Int) ≤ (i : Int) := by omega
      have hi4' : i = 4 := by omega
      rw [hi4'] at HB
      obtain rfl : b = allQ [lx, ly, hx, hy] := HB.out.symm
      rw [hall]
      have f5 := e5.below hbr e5.lt
      have f4 := e4.below hbr e4.lt
      have f3 := e3.below hbr e3.lt
      clear HB hbr hi4' e5 e4 e3 e7 hB2 HF
      rw [show errNum true = 0 from rfl]
      have q0 := f3.cell 0 rfl
      have q1 := f4.cell 0 rfl
      go_wp2_with fail
      refine (HKX.out wr (hg.below hBr)).mono ?_
      rintro e x1 ⟨_, rfl, rfl, hb⟩
      replace hBr := hBr.trans (hb.mono hBr.size)
      replace f5 := f5.below hb f5.lt
      replace f4 := f4.below hb f4.lt
      replace f3 := f3.below hb f3.lt
      clear hb q0 q1
      have q0 := f3.cell 1 rfl
      have q1 := f4.cell 1 rfl
      go_wp2_with fail
      refine (HKY.out x1 (hg.below hBr)).mono ?_
      rintro e x2 ⟨_, rfl, rfl, hb⟩
      replace hBr := hBr.trans (hb.mono hBr.size)
      replace f5 := f5.below hb f5.lt
      replace f4 := f4.below hb f4.lt
      replace f3 := f3.below hb f3.lt
      clear hb q0 q1
      have hbd1 : Below x2.heap.size x2 x2.drew := below_drewN x2 1
      have p0 := f5.cell 0 rfl
      have p1 := f5.cell 1 rfl
      obtain ⟨h1, h2, h3, h4, h5⟩ := HR.out
      rcases h5 with h5 | ⟨h5, h6⟩
      all_goals
        go_upto_region 14 with fail
        go_region
        all_goals
          go_wp2_with fail
          go_ret
          exact ⟨_, rfl, rfl, hBr.trans (hbd1.mono hBr.size)⟩

end Go.Proofs.YtccngnjkehibiaaGreatDoor
