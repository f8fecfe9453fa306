/- mesh.Grid: each error. klippelaw12.none, klippelaw12.sameMesh. -/
import Derived.Test.YtccngnjkehibiaaGreatDoorM12
import Derived.Test.YtccngnjkehibiaaGreatDoorM11
namespace Go.Proofs.YtccngnjkehibiaaGreatDoor
open Go.RowKit Go.Lib

set_option maxHeartbeats 1000000 in
set_option maxRecDepth 100000 in
theorem grid_e1 (slx sly shx shy : ByteArray) (cz rz : Int) (hcl : ∀ w, Good w → Calls Tryz.prog 56 #[.agg #[.string slx, .string sly]] w (Ret (fun r _ => r = .int .i64 2) w)) (w : World) (hg : Good w) :
    Calls Tryz.prog 15 #[.agg #[.string slx, .string sly], .agg #[.string shx, .string shy], .int .i64 cz, .int .i64 rz] w
      (Ret (fun r _ => r = .tuple #[.agg #[.slice none 0 0, .slice none 0 0], .int .i64 2]) w) := by
  have HCL := Lib.hid hcl
  clear hcl
  go_enter Tryz.func15, Tryz.ntmps15
  go_wp2_with fail
  obtain ⟨W0, hW0⟩ : ∃ W, W = ((w.alloc (.cells #[.string slx, .string sly] 24)).alloc (.cells #[.string shx, .string shy] 24)).alloc (.cells #[.slice none 0 0, .slice none 0 0] 34) := ⟨_, rfl⟩
  have hB0 : Below w.heap.size w W0 := by rw [hW0]; exact (((Below.refl _ _).alloc (Nat.le_refl _) _).alloc (by simp) _).alloc (by simp; omega) _
  have b80 : BoxN W0 (w.heap.size + 2) 34 [.slice none 0 0, .slice none 0 0] := by rw [hW0]; exact BoxN.new _ _ _ _ (by simp)
  have b50 : BoxN W0 (w.heap.size + 1) 24 [.string shx, .string shy] := by
    rw [hW0]
    have h1 := (BoxN.new (w.alloc (.cells #[.string slx, .string sly] 24)) #[.string shx, .string shy] 24 (w.heap.size + 1) (by simp))
    exact h1.below ((Below.refl _ _).alloc (Nat.le_refl _) _) h1.lt
  have b40 : BoxN W0 w.heap.size 24 [.string slx, .string sly] := by
    rw [hW0]
    have h1 := (BoxN.new w #[.string slx, .string sly] 24 _ rfl)
    exact (h1.below ((Below.refl _ _).alloc (Nat.le_refl _) _) h1.lt).below ((Below.refl _ _).alloc (Nat.le_refl _) _) (by simp; omega)
  rw [← hW0]
  clear hW0
  refine (HCL.out W0 (hg.below hB0)).mono ?_
  rintro e w1 ⟨_, rfl, rfl, hb1⟩
  have hB1 := hB0.trans (hb1.mono hB0.size)
  have b81 := b80.below hb1 b80.lt
  have b51 := b50.below hb1 b50.lt
  have b41 := b40.below hb1 b40.lt
  clear hb1 hB0 b80 b50 b40
  have d0 := b81.cell 0 rfl
  have d1 := b81.cell 1 rfl
  have f0 := b81.frozen 0
  have f1 := b81.frozen 1
  go_wp2_with fail
  have BF := (b81.set 0 (.slice none 0 0)).set 1 (.slice none 0 0)
  have hle : w.heap.size ≤ w.heap.size + 2 := by omega
  have hBF := (hB1.setCell (p := ⟨w.heap.size + 2, 0, none⟩) hle (.slice none 0 0)).setCell (p := ⟨w.heap.size + 2, 1, none⟩) hle (.slice none 0 0)
  have g0 := BF.cell 0 rfl
  have g1 := BF.cell 1 rfl
  exact bodyPost_ret (v := .tuple #[.agg #[.slice none 0 0, .slice none 0 0], .int .i64 2]) (by simp [results, Tryz.results15, go_sem, g0, g1]) rfl ⟨_, rfl, rfl, hBF⟩

set_option maxHeartbeats 1000000 in
set_option maxRecDepth 100000 in
theorem grid_e2 (slx sly shx shy : ByteArray) (cz rz : Int) (hcl : ∀ w, Good w → Calls Tryz.prog 56 #[.agg #[.string slx, .string sly]] w (Ret (fun r _ => r = .int .i64 0) w)) (hch : ∀ w, Good w → Calls Tryz.prog 56 #[.agg #[.string shx, .string shy]] w (Ret (fun r _ => r = .int .i64 2) w)) (w : World) (hg : Good w) :
    Calls Tryz.prog 15 #[.agg #[.string slx, .string sly], .agg #[.string shx, .string shy], .int .i64 cz, .int .i64 rz] w
      (Ret (fun r _ => r = .tuple #[.agg #[.slice none 0 0, .slice none 0 0], .int .i64 2]) w) := by
  have HCL := Lib.hid hcl
  clear hcl
  have HCH := Lib.hid hch
  clear hch
  go_enter Tryz.func15, Tryz.ntmps15
  go_wp2_with fail
  obtain ⟨W0, hW0⟩ : ∃ W, W = ((w.alloc (.cells #[.string slx, .string sly] 24)).alloc (.cells #[.string shx, .string shy] 24)).alloc (.cells #[.slice none 0 0, .slice none 0 0] 34) := ⟨_, rfl⟩
  have hB0 : Below w.heap.size w W0 := by rw [hW0]; exact (((Below.refl _ _).alloc (Nat.le_refl _) _).alloc (by simp) _).alloc (by simp; omega) _
  have b80 : BoxN W0 (w.heap.size + 2) 34 [.slice none 0 0, .slice none 0 0] := by rw [hW0]; exact BoxN.new _ _ _ _ (by simp)
  have b50 : BoxN W0 (w.heap.size + 1) 24 [.string shx, .string shy] := by
    rw [hW0]
    have h1 := (BoxN.new (w.alloc (.cells #[.string slx, .string sly] 24)) #[.string shx, .string shy] 24 (w.heap.size + 1) (by simp))
    exact h1.below ((Below.refl _ _).alloc (Nat.le_refl _) _) h1.lt
  have b40 : BoxN W0 w.heap.size 24 [.string slx, .string sly] := by
    rw [hW0]
    have h1 := (BoxN.new w #[.string slx, .string sly] 24 _ rfl)
    exact (h1.below ((Below.refl _ _).alloc (Nat.le_refl _) _) h1.lt).below ((Below.refl _ _).alloc (Nat.le_refl _) _) (by simp; omega)
  rw [← hW0]
  clear hW0
  refine (HCL.out W0 (hg.below hB0)).mono ?_
  rintro e w1 ⟨_, rfl, rfl, hb1⟩
  have hB1 := hB0.trans (hb1.mono hB0.size)
  have b81 := b80.below hb1 b80.lt
  have b51 := b50.below hb1 b50.lt
  have b41 := b40.below hb1 b40.lt
  clear hb1 hB0 b80 b50 b40
  have x0 := b51.cell 0 rfl
  have x1 := b51.cell 1 rfl
  go_wp2_with fail
  refine (HCH.out w1 (hg.below hB1)).mono ?_
  rintro e w2 ⟨_, rfl, rfl, hb2⟩
  have hB2 := hB1.trans (hb2.mono hB1.size)
  have b82 := b81.below hb2 b81.lt
  have b52 := b51.below hb2 b51.lt
  have b42 := b41.below hb2 b41.lt
  clear hb2 hB1 b81 b51 b41
  clear x0 x1
  have d0 := b82.cell 0 rfl
  have d1 := b82.cell 1 rfl
  have f0 := b82.frozen 0
  have f1 := b82.frozen 1
  go_wp2_with fail
  have BF := (b82.set 0 (.slice none 0 0)).set 1 (.slice none 0 0)
  have hle : w.heap.size ≤ w.heap.size + 2 := by omega
  have hBF := (hB2.setCell (p := ⟨w.heap.size + 2, 0, none⟩) hle (.slice none 0 0)).setCell (p := ⟨w.heap.size + 2, 1, none⟩) hle (.slice none 0 0)
  have g0 := BF.cell 0 rfl
  have g1 := BF.cell 1 rfl
  exact bodyPost_ret (v := .tuple #[.agg #[.slice none 0 0, .slice none 0 0], .int .i64 2]) (by simp [results, Tryz.results15, go_sem, g0, g1]) rfl ⟨_, rfl, rfl, hBF⟩

set_option maxHeartbeats 1000000 in
set_option maxRecDepth 100000 in
theorem grid_e3 (slx sly shx shy : ByteArray) (cz rz : Int) (hcl : ∀ w, Good w → Calls Tryz.prog 56 #[.agg #[.string slx, .string sly]] w (Ret (fun r _ => r = .int .i64 0) w)) (hch : ∀ w, Good w → Calls Tryz.prog 56 #[.agg #[.string shx, .string shy]] w (Ret (fun r _ => r = .int .i64 0) w)) (a : Int) (ha : 0 ≤ a) (hkx : ∀ w, Good w → Calls Tryz.prog 14 #[.string slx, .string shx] w (Ret (fun v _ => v = .int .i64 a) w)) (w : World) (hg : Good w) :
    Calls Tryz.prog 15 #[.agg #[.string slx, .string sly], .agg #[.string shx, .string shy], .int .i64 cz, .int .i64 rz] w
      (Ret (fun r _ => r = .tuple #[.agg #[.slice none 0 0, .slice none 0 0], .int .i64 6]) w) := by
  have HCL := Lib.hid hcl
  clear hcl
  have HCH := Lib.hid hch
  clear hch
  have HKX := Lib.hid hkx
  clear hkx
  go_enter Tryz.func15, Tryz.ntmps15
  go_wp2_with fail
  obtain ⟨W0, hW0⟩ : ∃ W, W = ((w.alloc (.cells #[.string slx, .string sly] 24)).alloc (.cells #[.string shx, .string shy] 24)).alloc (.cells #[.slice none 0 0, .slice none 0 0] 34) := ⟨_, rfl⟩
  have hB0 : Below w.heap.size w W0 := by rw [hW0]; exact (((Below.refl _ _).alloc (Nat.le_refl _) _).alloc (by simp) _).alloc (by simp; omega) _
  have b80 : BoxN W0 (w.heap.size + 2) 34 [.slice none 0 0, .slice none 0 0] := by rw [hW0]; exact BoxN.new _ _ _ _ (by simp)
  have b50 : BoxN W0 (w.heap.size + 1) 24 [.string shx, .string shy] := by
    rw [hW0]
    have h1 := (BoxN.new (w.alloc (.cells #[.string slx, .string sly] 24)) #[.string shx, .string shy] 24 (w.heap.size + 1) (by simp))
    exact h1.below ((Below.refl _ _).alloc (Nat.le_refl _) _) h1.lt
  have b40 : BoxN W0 w.heap.size 24 [.string slx, .string sly] := by
    rw [hW0]
    have h1 := (BoxN.new w #[.string slx, .string sly] 24 _ rfl)
    exact (h1.below ((Below.refl _ _).alloc (Nat.le_refl _) _) h1.lt).below ((Below.refl _ _).alloc (Nat.le_refl _) _) (by simp; omega)
  rw [← hW0]
  clear hW0
  refine (HCL.out W0 (hg.below hB0)).mono ?_
  rintro e w1 ⟨_, rfl, rfl, hb1⟩
  have hB1 := hB0.trans (hb1.mono hB0.size)
  have b81 := b80.below hb1 b80.lt
  have b51 := b50.below hb1 b50.lt
  have b41 := b40.below hb1 b40.lt
  clear hb1 hB0 b80 b50 b40
  have x0 := b51.cell 0 rfl
  have x1 := b51.cell 1 rfl
  go_wp2_with fail
  refine (HCH.out w1 (hg.below hB1)).mono ?_
  rintro e w2 ⟨_, rfl, rfl, hb2⟩
  have hB2 := hB1.trans (hb2.mono hB1.size)
  have b82 := b81.below hb2 b81.lt
  have b52 := b51.below hb2 b51.lt
  have b42 := b41.below hb2 b41.lt
  clear hb2 hB1 b81 b51 b41
  clear x0 x1
  have x0 := b52.cell 0 rfl
  have y0 := b42.cell 0 rfl
  go_wp2_with fail
  refine (HKX.out w2 (hg.below hB2)).mono ?_
  rintro e w3 ⟨_, rfl, rfl, hb3⟩
  have hB3 := hB2.trans (hb3.mono hB2.size)
  have b83 := b82.below hb3 b82.lt
  have b53 := b52.below hb3 b52.lt
  have b43 := b42.below hb3 b42.lt
  clear hb3 hB2 b82 b52 b42
  clear x0 y0
  have d0 := b83.cell 0 rfl
  have d1 := b83.cell 1 rfl
  have f0 := b83.frozen 0
  have f1 := b83.frozen 1
  go_wp2_with fail
  have BF := (b83.set 0 (.slice none 0 0)).set 1 (.slice none 0 0)
  have hle : w.heap.size ≤ w.heap.size + 2 := by omega
  have hBF := (hB3.setCell (p := ⟨w.heap.size + 2, 0, none⟩) hle (.slice none 0 0)).setCell (p := ⟨w.heap.size + 2, 1, none⟩) hle (.slice none 0 0)
  have g0 := BF.cell 0 rfl
  have g1 := BF.cell 1 rfl
  exact bodyPost_ret (v := .tuple #[.agg #[.slice none 0 0, .slice none 0 0], .int .i64 6]) (by simp [results, Tryz.results15, go_sem, g0, g1]) rfl ⟨_, rfl, rfl, hBF⟩

set_option maxHeartbeats 1000000 in
set_option maxRecDepth 100000 in
theorem grid_e4 (slx sly shx shy : ByteArray) (cz rz : Int) (hcl : ∀ w, Good w → Calls Tryz.prog 56 #[.agg #[.string slx, .string sly]] w (Ret (fun r _ => r = .int .i64 0) w)) (hch : ∀ w, Good w → Calls Tryz.prog 56 #[.agg #[.string shx, .string shy]] w (Ret (fun r _ => r = .int .i64 0) w)) (hkx : ∀ w, Good w → Calls Tryz.prog 14 #[.string slx, .string shx] w (Ret (fun v _ => v = .int .i64 (-1)) w)) (a : Int) (ha : 0 ≤ a) (hky : ∀ w, Good w → Calls Tryz.prog 14 #[.string sly, .string shy] w (Ret (fun v _ => v = .int .i64 a) w)) (w : World) (hg : Good w) :
    Calls Tryz.prog 15 #[.agg #[.string slx, .string sly], .agg #[.string shx, .string shy], .int .i64 cz, .int .i64 rz] w
      (Ret (fun r _ => r = .tuple #[.agg #[.slice none 0 0, .slice none 0 0], .int .i64 6]) w) := by
  have HCL := Lib.hid hcl
  clear hcl
  have HCH := Lib.hid hch
  clear hch
  have HKX := Lib.hid hkx
  clear hkx
  have HKY := Lib.hid hky
  clear hky
  go_enter Tryz.func15, Tryz.ntmps15
  go_wp2_with fail
  obtain ⟨W0, hW0⟩ : ∃ W, W = ((w.alloc (.cells #[.string slx, .string sly] 24)).alloc (.cells #[.string shx, .string shy] 24)).alloc (.cells #[.slice none 0 0, .slice none 0 0] 34) := ⟨_, rfl⟩
  have hB0 : Below w.heap.size w W0 := by rw [hW0]; exact (((Below.refl _ _).alloc (Nat.le_refl _) _).alloc (by simp) _).alloc (by simp; omega) _
  have b80 : BoxN W0 (w.heap.size + 2) 34 [.slice none 0 0, .slice none 0 0] := by rw [hW0]; exact BoxN.new _ _ _ _ (by simp)
  have b50 : BoxN W0 (w.heap.size + 1) 24 [.string shx, .string shy] := by
    rw [hW0]
    have h1 := (BoxN.new (w.alloc (.cells #[.string slx, .string sly] 24)) #[.string shx, .string shy] 24 (w.heap.size + 1) (by simp))
    exact h1.below ((Below.refl _ _).alloc (Nat.le_refl _) _) h1.lt
  have b40 : BoxN W0 w.heap.size 24 [.string slx, .string sly] := by
    rw [hW0]
    have h1 := (BoxN.new w #[.string slx, .string sly] 24 _ rfl)
    exact (h1.below ((Below.refl _ _).alloc (Nat.le_refl _) _) h1.lt).below ((Below.refl _ _).alloc (Nat.le_refl _) _) (by simp; omega)
  rw [← hW0]
  clear hW0
  refine (HCL.out W0 (hg.below hB0)).mono ?_
  rintro e w1 ⟨_, rfl, rfl, hb1⟩
  have hB1 := hB0.trans (hb1.mono hB0.size)
  have b81 := b80.below hb1 b80.lt
  have b51 := b50.below hb1 b50.lt
  have b41 := b40.below hb1 b40.lt
  clear hb1 hB0 b80 b50 b40
  have x0 := b51.cell 0 rfl
  have x1 := b51.cell 1 rfl
  go_wp2_with fail
  refine (HCH.out w1 (hg.below hB1)).mono ?_
  rintro e w2 ⟨_, rfl, rfl, hb2⟩
  have hB2 := hB1.trans (hb2.mono hB1.size)
  have b82 := b81.below hb2 b81.lt
  have b52 := b51.below hb2 b51.lt
  have b42 := b41.below hb2 b41.lt
  clear hb2 hB1 b81 b51 b41
  clear x0 x1
  have x0 := b52.cell 0 rfl
  have y0 := b42.cell 0 rfl
  go_wp2_with fail
  refine (HKX.out w2 (hg.below hB2)).mono ?_
  rintro e w3 ⟨_, rfl, rfl, hb3⟩
  have hB3 := hB2.trans (hb3.mono hB2.size)
  have b83 := b82.below hb3 b82.lt
  have b53 := b52.below hb3 b52.lt
  have b43 := b42.below hb3 b42.lt
  clear hb3 hB2 b82 b52 b42
  clear x0 y0
  have x1 := b53.cell 1 rfl
  have y1 := b43.cell 1 rfl
  go_wp2_with fail
  refine (HKY.out w3 (hg.below hB3)).mono ?_
  rintro e w4 ⟨_, rfl, rfl, hb4⟩
  have hB4 := hB3.trans (hb4.mono hB3.size)
  have b84 := b83.below hb4 b83.lt
  have b54 := b53.below hb4 b53.lt
  have b44 := b43.below hb4 b43.lt
  clear hb4 hB3 b83 b53 b43
  clear x1 y1
  have d0 := b84.cell 0 rfl
  have d1 := b84.cell 1 rfl
  have f0 := b84.frozen 0
  have f1 := b84.frozen 1
  go_wp2_with fail
  have BF := (b84.set 0 (.slice none 0 0)).set 1 (.slice none 0 0)
  have hle : w.heap.size ≤ w.heap.size + 2 := by omega
  have hBF := (hB4.setCell (p := ⟨w.heap.size + 2, 0, none⟩) hle (.slice none 0 0)).setCell (p := ⟨w.heap.size + 2, 1, none⟩) hle (.slice none 0 0)
  have g0 := BF.cell 0 rfl
  have g1 := BF.cell 1 rfl
  exact bodyPost_ret (v := .tuple #[.agg #[.slice none 0 0, .slice none 0 0], .int .i64 6]) (by simp [results, Tryz.results15, go_sem, g0, g1]) rfl ⟨_, rfl, rfl, hBF⟩

set_option maxHeartbeats 1000000 in
set_option maxRecDepth 100000 in
theorem grid_e5 (slx sly shx shy : ByteArray) (cz rz : Int) (hcl : ∀ w, Good w → Calls Tryz.prog 56 #[.agg #[.string slx, .string sly]] w (Ret (fun r _ => r = .int .i64 0) w)) (hch : ∀ w, Good w → Calls Tryz.prog 56 #[.agg #[.string shx, .string shy]] w (Ret (fun r _ => r = .int .i64 0) w)) (hkx : ∀ w, Good w → Calls Tryz.prog 14 #[.string slx, .string shx] w (Ret (fun v _ => v = .int .i64 (-1)) w)) (hky : ∀ w, Good w → Calls Tryz.prog 14 #[.string sly, .string shy] w (Ret (fun v _ => v = .int .i64 (-1)) w)) (hr : cz < 1 ∨ (1 ≤ cz ∧ 15 < cz) ∨ (1 ≤ cz ∧ cz ≤ 15 ∧ rz < 1) ∨ (1 ≤ cz ∧ cz ≤ 15 ∧ 1 ≤ rz ∧ 15 < rz)) (w : World) (hg : Good w) :
    Calls Tryz.prog 15 #[.agg #[.string slx, .string sly], .agg #[.string shx, .string shy], .int .i64 cz, .int .i64 rz] w
      (Ret (fun r _ => r = .tuple #[.agg #[.slice none 0 0, .slice none 0 0], .int .i64 3]) w) := by
  have HCL := Lib.hid hcl
  clear hcl
  have HCH := Lib.hid hch
  clear hch
  have HKX := Lib.hid hkx
  clear hkx
  have HKY := Lib.hid hky
  clear hky
  go_enter Tryz.func15, Tryz.ntmps15
  go_wp2_with fail
  obtain ⟨W0, hW0⟩ : ∃ W, W = ((w.alloc (.cells #[.string slx, .string sly] 24)).alloc (.cells #[.string shx, .string shy] 24)).alloc (.cells #[.slice none 0 0, .slice none 0 0] 34) := ⟨_, rfl⟩
  have hB0 : Below w.heap.size w W0 := by rw [hW0]; exact (((Below.refl _ _).alloc (Nat.le_refl _) _).alloc (by simp) _).alloc (by simp; omega) _
  have b80 : BoxN W0 (w.heap.size + 2) 34 [.slice none 0 0, .slice none 0 0] := by rw [hW0]; exact BoxN.new _ _ _ _ (by simp)
  have b50 : BoxN W0 (w.heap.size + 1) 24 [.string shx, .string shy] := by
    rw [hW0]
    have h1 := (BoxN.new (w.alloc (.cells #[.string slx, .string sly] 24)) #[.string shx, .string shy] 24 (w.heap.size + 1) (by simp))
    exact h1.below ((Below.refl _ _).alloc (Nat.le_refl _) _) h1.lt
  have b40 : BoxN W0 w.heap.size 24 [.string slx, .string sly] := by
    rw [hW0]
    have h1 := (BoxN.new w #[.string slx, .string sly] 24 _ rfl)
    exact (h1.below ((Below.refl _ _).alloc (Nat.le_refl _) _) h1.lt).below ((Below.refl _ _).alloc (Nat.le_refl _) _) (by simp; omega)
  rw [← hW0]
  clear hW0
  refine (HCL.out W0 (hg.below hB0)).mono ?_
  rintro e w1 ⟨_, rfl, rfl, hb1⟩
  have hB1 := hB0.trans (hb1.mono hB0.size)
  have b81 := b80.below hb1 b80.lt
  have b51 := b50.below hb1 b50.lt
  have b41 := b40.below hb1 b40.lt
  clear hb1 hB0 b80 b50 b40
  have x0 := b51.cell 0 rfl
  have x1 := b51.cell 1 rfl
  go_wp2_with fail
  refine (HCH.out w1 (hg.below hB1)).mono ?_
  rintro e w2 ⟨_, rfl, rfl, hb2⟩
  have hB2 := hB1.trans (hb2.mono hB1.size)
  have b82 := b81.below hb2 b81.lt
  have b52 := b51.below hb2 b51.lt
  have b42 := b41.below hb2 b41.lt
  clear hb2 hB1 b81 b51 b41
  clear x0 x1
  have x0 := b52.cell 0 rfl
  have y0 := b42.cell 0 rfl
  go_wp2_with fail
  refine (HKX.out w2 (hg.below hB2)).mono ?_
  rintro e w3 ⟨_, rfl, rfl, hb3⟩
  have hB3 := hB2.trans (hb3.mono hB2.size)
  have b83 := b82.below hb3 b82.lt
  have b53 := b52.below hb3 b52.lt
  have b43 := b42.below hb3 b42.lt
  clear hb3 hB2 b82 b52 b42
  clear x0 y0
  have x1 := b53.cell 1 rfl
  have y1 := b43.cell 1 rfl
  go_wp2_with fail
  refine (HKY.out w3 (hg.below hB3)).mono ?_
  rintro e w4 ⟨_, rfl, rfl, hb4⟩
  have hB4 := hB3.trans (hb4.mono hB3.size)
  have b84 := b83.below hb4 b83.lt
  have b54 := b53.below hb4 b53.lt
  have b44 := b43.below hb4 b43.lt
  clear hb4 hB3 b83 b53 b43
  clear x1 y1
  rcases hr with h1 | ⟨h1, h2⟩ | ⟨h1, h2, h3⟩ | ⟨h1, h2, h3, h4⟩
  all_goals
    have d0 := b84.cell 0 rfl
    have d1 := b84.cell 1 rfl
    have f0 := b84.frozen 0
    have f1 := b84.frozen 1
    go_wp2_with fail
    have BF := (b84.set 0 (.slice none 0 0)).set 1 (.slice none 0 0)
    have hle : w.heap.size ≤ w.heap.size + 2 := by omega
    have hBF := (hB4.setCell (p := ⟨w.heap.size + 2, 0, none⟩) hle (.slice none 0 0)).setCell (p := ⟨w.heap.size + 2, 1, none⟩) hle (.slice none 0 0)
    have g0 := BF.cell 0 rfl
    have g1 := BF.cell 1 rfl
    exact bodyPost_ret (v := .tuple #[.agg #[.slice none 0 0, .slice none 0 0], .int .i64 3]) (by simp [results, Tryz.results15, go_sem, g0, g1]) rfl ⟨_, rfl, rfl, hBF⟩

end Go.Proofs.YtccngnjkehibiaaGreatDoor
