/- The error of a pair of surfaces, handed on by all functions. -/
import Derived.Test.YtjfjkiibmfgplaaGreatDoorY8
namespace Go.Proofs.YtjfjkiibmfgplaaGreatDoor
open Go.RowKit Go.Lib

set_option maxHeartbeats 2000000 in
set_option maxRecDepth 100000 in
theorem vertical_err (w : World) (pp pt pl pu : Option Addr) (np cp nt ct nl cl nu cu : Nat) (e : Int) (he : e ≠ 0) 
    (HCK : (∀ w', Below w.heap.size w w' → Good w' → Calls Tryz.prog 46 #[.agg #[.slice pp np cp, .slice pt nt ct, .slice pl nl cl, .slice pu nu cu]] w' (Ret (fun r _ => r = .int .i64 e) w'))) (hg : Good w) :
    Calls Tryz.prog 21 #[.agg #[.slice pp np cp, .slice pt nt ct, .slice pl nl cl, .slice pu nu cu]] w (Ret (fun r _ => r = .tuple #[.slice none 0 0, .int .i64 e]) w) := by
  have HC := Lib.hid HCK
  clear HCK
  have hb1 : Below w.heap.size w (w.alloc (.cells #[.slice pp np cp, .slice pt nt ct, .slice pl nl cl, .slice pu nu cu] 44)) := ((Below.refl _ _).alloc (Nat.le_refl _) _)
  have hgg := hg.below hb1
  go_enter Tryz.func21, Tryz.ntmps21
  go_wp2_with fail
  refine (HC.out _ hb1 hgg).mono ?_
  rintro x w1 ⟨_, rfl, rfl, hb2⟩
  have hB := hb1.trans (hb2.mono hb1.size)
  clear hb1 hb2 hgg
  go_wp2_with fail
  go_ret2
  exact ⟨_, rfl, rfl, hB⟩
set_option maxHeartbeats 2000000 in
set_option maxRecDepth 100000 in
theorem at_err9 (w : World) (pp pt pl pu : Option Addr) (np cp nt ct nl cl nu cu : Nat) (e : Int) (he : e ≠ 0) (x y : ByteArray)
    (HCK : (∀ w', Below w.heap.size w w' → Good w' → Calls Tryz.prog 46 #[.agg #[.slice pp np cp, .slice pt nt ct, .slice pl nl cl, .slice pu nu cu]] w' (Ret (fun r _ => r = .int .i64 e) w'))) (hg : Good w) :
    Calls Tryz.prog 30 #[.agg #[.slice pp np cp, .slice pt nt ct, .slice pl nl cl, .slice pu nu cu], .agg #[.string x, .string y]] w (Ret (fun r _ => r = .tuple #[.string ⟨#[]⟩, .int .i64 e]) w) := by
  have HC := Lib.hid HCK
  clear HCK
  have hb1 : Below w.heap.size w ((w.alloc (.cells #[.slice pp np cp, .slice pt nt ct, .slice pl nl cl, .slice pu nu cu] 44)).alloc (.cells #[.string x, .string y] 54)) := (((Below.refl _ _).alloc (Nat.le_refl _) _).alloc (by simp) _)
  have hgg := hg.below hb1
  go_enter Tryz.func30, Tryz.ntmps30
  go_wp2_with fail
  refine (HC.out _ hb1 hgg).mono ?_
  rintro x w1 ⟨_, rfl, rfl, hb2⟩
  have hB := hb1.trans (hb2.mono hb1.size)
  clear hb1 hb2 hgg
  go_wp2_with fail
  go_ret2
  exact ⟨_, rfl, rfl, hB⟩
set_option maxHeartbeats 2000000 in
set_option maxRecDepth 100000 in
theorem mean_err (w : World) (pp pt pl pu : Option Addr) (np cp nt ct nl cl nu cu : Nat) (e : Int) (he : e ≠ 0) 
    (HCK : (∀ w', Below w.heap.size w w' → Good w' → Calls Tryz.prog 46 #[.agg #[.slice pp np cp, .slice pt nt ct, .slice pl nl cl, .slice pu nu cu]] w' (Ret (fun r _ => r = .int .i64 e) w'))) (hg : Good w) :
    Calls Tryz.prog 32 #[.agg #[.slice pp np cp, .slice pt nt ct, .slice pl nl cl, .slice pu nu cu]] w (Ret (fun r _ => r = .tuple #[.string ⟨#[]⟩, .int .i64 e]) w) := by
  have HC := Lib.hid HCK
  clear HCK
  have hb1 : Below w.heap.size w (w.alloc (.cells #[.slice pp np cp, .slice pt nt ct, .slice pl nl cl, .slice pu nu cu] 44)) := ((Below.refl _ _).alloc (Nat.le_refl _) _)
  have hgg := hg.below hb1
  go_enter Tryz.func32, Tryz.ntmps32
  go_wp2_with fail
  refine (HC.out _ hb1 hgg).mono ?_
  rintro x w1 ⟨_, rfl, rfl, hb2⟩
  have hB := hb1.trans (hb2.mono hb1.size)
  clear hb1 hb2 hgg
  go_wp2_with fail
  go_ret2
  exact ⟨_, rfl, rfl, hB⟩
set_option maxHeartbeats 2000000 in
set_option maxRecDepth 100000 in
theorem isopach_err (w : World) (pp pt pl pu : Option Addr) (np cp nt ct nl cl nu cu : Nat) (e : Int) (he : e ≠ 0) (s : ByteArray)
    (HCK : (∀ w', Below w.heap.size w w' → Good w' → Calls Tryz.prog 46 #[.agg #[.slice pp np cp, .slice pt nt ct, .slice pl nl cl, .slice pu nu cu]] w' (Ret (fun r _ => r = .int .i64 e) w'))) (hg : Good w) :
    Calls Tryz.prog 25 #[.agg #[.slice pp np cp, .slice pt nt ct, .slice pl nl cl, .slice pu nu cu], .string s] w (Ret (fun r _ => r = .tuple #[.slice none 0 0, .int .i64 e]) w) := by
  have HC := Lib.hid HCK
  clear HCK
  have hb1 : Below w.heap.size w (w.alloc (.cells #[.slice pp np cp, .slice pt nt ct, .slice pl nl cl, .slice pu nu cu] 44)) := ((Below.refl _ _).alloc (Nat.le_refl _) _)
  have hgg := hg.below hb1
  go_enter Tryz.func25, Tryz.ntmps25
  go_wp2_with fail
  refine (HC.out _ hb1 hgg).mono ?_
  rintro x w1 ⟨_, rfl, rfl, hb2⟩
  have hB := hb1.trans (hb2.mono hb1.size)
  clear hb1 hb2 hgg
  go_wp2_with fail
  go_ret2
  exact ⟨_, rfl, rfl, hB⟩
set_option maxHeartbeats 2000000 in
set_option maxRecDepth 100000 in
theorem toward_err9 (w : World) (pp pt pl pu : Option Addr) (np cp nt ct nl cl nu cu : Nat) (e : Int) (he : e ≠ 0) (tz : Int) (x y z : ByteArray)
    (HCK : (∀ w', Below w.heap.size w w' → Good w' → Calls Tryz.prog 46 #[.agg #[.slice pp np cp, .slice pt nt ct, .slice pl nl cl, .slice pu nu cu]] w' (Ret (fun r _ => r = .int .i64 e) w'))) (hg : Good w) :
    Calls Tryz.prog 14 #[.agg #[.slice pp np cp, .slice pt nt ct, .slice pl nl cl, .slice pu nu cu], .int .i64 tz, .agg #[.string x, .string y, .string z]] w (Ret (fun r _ => r = .tuple #[.string ⟨#[]⟩, .int .i64 e]) w) := by
  have HC := Lib.hid HCK
  clear HCK
  have hb1 : Below w.heap.size w ((w.alloc (.cells #[.slice pp np cp, .slice pt nt ct, .slice pl nl cl, .slice pu nu cu] 44)).alloc (.cells #[.string x, .string y, .string z] 35)) := (((Below.refl _ _).alloc (Nat.le_refl _) _).alloc (by simp) _)
  have hgg := hg.below hb1
  go_enter Tryz.func14, Tryz.ntmps14
  go_wp2_with fail
  refine (HC.out _ hb1 hgg).mono ?_
  rintro x w1 ⟨_, rfl, rfl, hb2⟩
  have hB := hb1.trans (hb2.mono hb1.size)
  clear hb1 hb2 hgg
  go_wp2_with fail
  go_ret2
  exact ⟨_, rfl, rfl, hB⟩
set_option maxHeartbeats 2000000 in
set_option maxRecDepth 100000 in
theorem extremes_err (w : World) (pp pt pl pu : Option Addr) (np cp nt ct nl cl nu cu : Nat) (e : Int) (he : e ≠ 0)
    (HCK : (∀ w', Below w.heap.size w w' → Good w' → Calls Tryz.prog 46 #[.agg #[.slice pp np cp, .slice pt nt ct, .slice pl nl cl, .slice pu nu cu]] w' (Ret (fun r _ => r = .int .i64 e) w'))) (hg : Good w) :
    Calls Tryz.prog 31 #[.agg #[.slice pp np cp, .slice pt nt ct, .slice pl nl cl, .slice pu nu cu]] w (Ret (fun r _ => r = .tuple #[.string ⟨#[]⟩, .string ⟨#[]⟩, .int .i64 e]) w) := by
  have HC : Hid (∀ w', Below w.heap.size w w' → Good w' → _) := fun w' hb hg' => vertical_err w' pp pt pl pu np cp nt ct nl cl nu cu e he (fun w'' hb' hg'' => HCK w'' (hb.trans (hb'.mono hb.size)) hg'') hg'
  clear HCK
  have hb1 : Below w.heap.size w (w.alloc (.cells #[.slice pp np cp, .slice pt nt ct, .slice pl nl cl, .slice pu nu cu] 44)) := (Below.refl _ _).alloc (Nat.le_refl _) _
  have hgg := hg.below hb1
  go_enter Tryz.func31, Tryz.ntmps31
  go_wp2_with fail
  refine (HC.out _ hb1 hgg).mono ?_
  rintro x w1 ⟨_, rfl, rfl, hb2⟩
  have hB := hb1.trans (hb2.mono hb1.size)
  clear hb1 hb2 hgg
  go_wp2_with fail
  exact bodyPost_ret (v := .tuple #[.string ⟨#[]⟩, .string ⟨#[]⟩, .int .i64 e]) (by simp [results, Tryz.results31, go_sem]) rfl ⟨_, rfl, rfl, hB⟩
set_option maxHeartbeats 2000000 in
set_option maxRecDepth 100000 in
theorem slopes_err (w : World) (pp pt pl pu : Option Addr) (np cp nt ct nl cl nu cu : Nat) (e : Int) (he : e ≠ 0) (tz : Int)
    (HCK : (∀ w', Below w.heap.size w w' → Good w' → Calls Tryz.prog 46 #[.agg #[.slice pp np cp, .slice pt nt ct, .slice pl nl cl, .slice pu nu cu]] w' (Ret (fun r _ => r = .int .i64 e) w'))) (hg : Good w) :
    Calls Tryz.prog 50 #[.agg #[.slice pp np cp, .slice pt nt ct, .slice pl nl cl, .slice pu nu cu], .int .i64 tz] w (Ret (fun r _ => r = .tuple #[.agg #[.string ⟨#[]⟩, .string ⟨#[]⟩], .agg #[.string ⟨#[]⟩, .string ⟨#[]⟩], .int .i64 e]) w) := by
  have HC := Lib.hid HCK
  clear HCK
  go_enter Tryz.func50, Tryz.ntmps50
  go_wp2_with fail
  obtain ⟨W, hW⟩ : ∃ W, W = ((w.alloc (.cells #[.slice pp np cp, .slice pt nt ct, .slice pl nl cl, .slice pu nu cu] 44)).alloc (.cells #[.string ⟨#[]⟩, .string ⟨#[]⟩] 54)).alloc (.cells #[.string ⟨#[]⟩, .string ⟨#[]⟩] 54) := ⟨_, rfl⟩
  have hB : Below w.heap.size w W := by rw [hW]; exact (((Below.refl _ _).alloc (Nat.le_refl _) _).alloc (by simp) _).alloc (by simp; omega) _
  have b2 : BoxN W w.heap.size 44 [.slice pp np cp, .slice pt nt ct, .slice pl nl cl, .slice pu nu cu] := by
    rw [hW]
    have h1 := (BoxN.new w #[.slice pp np cp, .slice pt nt ct, .slice pl nl cl, .slice pu nu cu] 44 _ rfl)
    exact (h1.below ((Below.refl _ _).alloc (Nat.le_refl _) _) h1.lt).below (((Below.refl _ _).alloc (Nat.le_refl _) _)) (by simp; omega)
  have b4 : BoxN W (w.heap.size + 1) 54 [.string ⟨#[]⟩, .string ⟨#[]⟩] := by
    rw [hW]
    have h1 := (BoxN.new (w.alloc (.cells #[.slice pp np cp, .slice pt nt ct, .slice pl nl cl, .slice pu nu cu] 44)) #[.string ⟨#[]⟩, .string ⟨#[]⟩] 54 (w.heap.size + 1) (by simp))
    exact h1.below ((Below.refl _ _).alloc (Nat.le_refl _) _) h1.lt
  have b5 : BoxN W (w.heap.size + 2) 54 [.string ⟨#[]⟩, .string ⟨#[]⟩] := by rw [hW]; exact BoxN.new _ _ _ _ (by simp)
  rw [← hW]
  clear hW
  refine (HC.out W hB (hg.below hB)).mono ?_
  rintro x w1 ⟨_, rfl, rfl, hb1⟩
  have hB1 := hB.trans (hb1.mono hB.size)
  have b21 := b2.below hb1 b2.lt
  have b41 := b4.below hb1 b4.lt
  have b51 := b5.below hb1 b5.lt
  have d0 := b41.cell 0 rfl
  have d1 := b41.cell 1 rfl
  have d2 := b41.frozen 0
  have d3 := b41.frozen 1
  have e0 := b51.cell 0 rfl
  have e1 := b51.cell 1 rfl
  have e2 := b51.frozen 0
  have e3 := b51.frozen 1
  clear hb1 hB b2 b4 b5
  obtain ⟨WF, hWF⟩ : ∃ WF, WF = (((w1.setCell ⟨w.heap.size + 1, 0, none⟩ (.string ⟨#[]⟩)).setCell ⟨w.heap.size + 1, 1, none⟩ (.string ⟨#[]⟩)).setCell ⟨w.heap.size + 2, 0, none⟩ (.string ⟨#[]⟩)).setCell ⟨w.heap.size + 2, 1, none⟩ (.string ⟨#[]⟩) := ⟨_, rfl⟩
  have bF4 : BoxN WF (w.heap.size + 1) 54 [.string ⟨#[]⟩, .string ⟨#[]⟩] := by
    rw [hWF]
    show ((((w1.setCell _ _).setCell _ _).setCell _ _).setCell _ _).heap[w.heap.size + 1]? = _
    rw [Below.heap_setCell _ _ _ _ (by simp), Below.heap_setCell _ _ _ _ (by simp)]
    exact (b41.set 0 (.string ⟨#[]⟩)).set 1 (.string ⟨#[]⟩)
  have bF5 : BoxN WF (w.heap.size + 2) 54 [.string ⟨#[]⟩, .string ⟨#[]⟩] := by
    rw [hWF]
    have h1 : BoxN ((w1.setCell ⟨w.heap.size + 1, 0, none⟩ (.string ⟨#[]⟩)).setCell ⟨w.heap.size + 1, 1, none⟩ (.string ⟨#[]⟩)) (w.heap.size + 2) 54 [.string ⟨#[]⟩, .string ⟨#[]⟩] := by
      show ((w1.setCell _ _).setCell _ _).heap[w.heap.size + 2]? = _
      rw [Below.heap_setCell _ _ _ _ (by simp), Below.heap_setCell _ _ _ _ (by simp)]; exact b51
    exact (h1.set 0 (.string ⟨#[]⟩)).set 1 (.string ⟨#[]⟩)
  have hBF : Below w.heap.size w WF := by
    rw [hWF]
    exact (((hB1.setCell (p := ⟨w.heap.size + 1, 0, none⟩) (by show w.heap.size ≤ w.heap.size + 1; omega) _).setCell (p := ⟨w.heap.size + 1, 1, none⟩) (by show w.heap.size ≤ w.heap.size + 1; omega) _).setCell (p := ⟨w.heap.size + 2, 0, none⟩) (by show w.heap.size ≤ w.heap.size + 2; omega) _).setCell (p := ⟨w.heap.size + 2, 1, none⟩) (by show w.heap.size ≤ w.heap.size + 2; omega) _
  have g0 := bF4.cell 0 rfl
  have g1 := bF4.cell 1 rfl
  have g2 := bF5.cell 0 rfl
  have g3 := bF5.cell 1 rfl
  have HWF := Lib.hid hWF
  clear hWF b21 b41 b51
  go_wp2_with fail
  rw [show (((w1.setCell ⟨w.heap.size + 1, 0, none⟩ (.string ⟨#[]⟩)).setCell ⟨w.heap.size + 1, 1, none⟩ (.string ⟨#[]⟩)).setCell ⟨w.heap.size + 1 + 1, 0, none⟩ (.string ⟨#[]⟩)).setCell ⟨w.heap.size + 1 + 1, 1, none⟩ (.string ⟨#[]⟩) = WF from HWF.out.symm]
  exact bodyPost_ret (v := .tuple #[.agg #[.string ⟨#[]⟩, .string ⟨#[]⟩], .agg #[.string ⟨#[]⟩, .string ⟨#[]⟩], .int .i64 e]) (by simp [results, Tryz.results50, go_sem, g0, g1, g2, g3]) rfl ⟨_, rfl, rfl, hBF⟩
set_option maxHeartbeats 2000000 in
set_option maxRecDepth 100000 in
theorem parallel_err9 (w : World) (pp pt pl pu : Option Addr) (np cp nt ct nl cl nu cu : Nat) (e : Int) (he : e ≠ 0) (tz : Int)
    (HCK : (∀ w', Below w.heap.size w w' → Good w' → Calls Tryz.prog 46 #[.agg #[.slice pp np cp, .slice pt nt ct, .slice pl nl cl, .slice pu nu cu]] w' (Ret (fun r _ => r = .int .i64 e) w'))) (hg : Good w) :
    Calls Tryz.prog 12 #[.agg #[.slice pp np cp, .slice pt nt ct, .slice pl nl cl, .slice pu nu cu], .int .i64 tz] w (Ret (fun r _ => r = .tuple #[.bool false, .int .i64 e]) w) := by
  have HC : Hid (∀ w', Below w.heap.size w w' → Good w' → _) := fun w' hb hg' => slopes_err w' pp pt pl pu np cp nt ct nl cl nu cu e he tz (fun w'' hb' hg'' => HCK w'' (hb.trans (hb'.mono hb.size)) hg'') hg'
  clear HCK
  go_enter Tryz.func12, Tryz.ntmps12
  go_wp2_with fail
  have hB : Below w.heap.size w (w.alloc (.cells #[.slice pp np cp, .slice pt nt ct, .slice pl nl cl, .slice pu nu cu] 44)) := (Below.refl _ _).alloc (Nat.le_refl _) _
  refine (HC.out _ hB (hg.below hB)).mono ?_
  rintro x w1 ⟨_, rfl, rfl, hb1⟩
  have hB1 := hB.trans (hb1.mono hB.size)
  clear hb1 hB
  go_wp2_with fail
  go_ret2
  exact ⟨_, rfl, rfl, (hB1.alloc hB1.size _).alloc (by have := hB1.size; simp; omega) _⟩
set_option maxHeartbeats 2000000 in
set_option maxRecDepth 100000 in
theorem par_err9 (w : World) (pp pt pl pu : Option Addr) (np cp nt ct nl cl nu cu : Nat) (e : Int) (he : e ≠ 0) (tz : Int)
    (HCK : (∀ w', Below w.heap.size w w' → Good w' → Calls Tryz.prog 46 #[.agg #[.slice pp np cp, .slice pt nt ct, .slice pl nl cl, .slice pu nu cu]] w' (Ret (fun r _ => r = .int .i64 e) w'))) (hg : Good w) :
    Calls Tryz.prog 51 #[.agg #[.slice pp np cp, .slice pt nt ct, .slice pl nl cl, .slice pu nu cu], .int .i64 tz] w (Ret (fun r _ => r = .tuple #[.agg #[.string ⟨#[]⟩, .string ⟨#[]⟩], .string ⟨#[]⟩, .int .i64 e]) w) := by
  have HC : Hid (∀ w', Below w.heap.size w w' → Good w' → _) := fun w' hb hg' => slopes_err w' pp pt pl pu np cp nt ct nl cl nu cu e he tz (fun w'' hb' hg'' => HCK w'' (hb.trans (hb'.mono hb.size)) hg'') hg'
  clear HCK
  go_enter Tryz.func51, Tryz.ntmps51
  go_wp2_with fail
  obtain ⟨W, hW⟩ : ∃ W, W = (w.alloc (.cells #[.slice pp np cp, .slice pt nt ct, .slice pl nl cl, .slice pu nu cu] 44)).alloc (.cells #[.string ⟨#[]⟩, .string ⟨#[]⟩] 54) := ⟨_, rfl⟩
  have hB : Below w.heap.size w W := by rw [hW]; exact ((Below.refl _ _).alloc (Nat.le_refl _) _).alloc (by simp) _
  have b4 : BoxN W (w.heap.size + 1) 54 [.string ⟨#[]⟩, .string ⟨#[]⟩] := by rw [hW]; exact BoxN.new _ _ _ _ (by simp)
  rw [← hW]
  clear hW
  refine (HC.out W hB (hg.below hB)).mono ?_
  rintro x w1 ⟨_, rfl, rfl, hb1⟩
  have hB1 := hB.trans (hb1.mono hB.size)
  have b41 := b4.below hb1 b4.lt
  have hz := b41.lt
  clear hb1 hB b4
  obtain ⟨W2, hW2⟩ : ∃ W2, W2 = (w1.alloc (.cells #[.string ⟨#[]⟩, .string ⟨#[]⟩] 54)).alloc (.cells #[.string ⟨#[]⟩, .string ⟨#[]⟩] 54) := ⟨_, rfl⟩
  have hb2 : Below w1.heap.size w1 W2 := by rw [hW2]; exact ((Below.refl _ _).alloc (Nat.le_refl _) _).alloc (by simp) _
  have b42 := b41.below hb2 hz
  have hB2 := hB1.trans (hb2.mono hB1.size)
  have d0 := b42.cell 0 rfl
  have d1 := b42.cell 1 rfl
  have d2 := b42.frozen 0
  have d3 := b42.frozen 1
  go_upto_region 2 with fail
  rw [← hW2]
  clear hW2 b41 hb2 hB1
  go_wp2_with fail
  have BF := (b42.set 0 (.string ⟨#[]⟩)).set 1 (.string ⟨#[]⟩)
  have hBF := (hB2.setCell (p := ⟨w.heap.size + 1, 0, none⟩) (by show w.heap.size ≤ w.heap.size + 1; omega) (.string ⟨#[]⟩)).setCell (p := ⟨w.heap.size + 1, 1, none⟩) (by show w.heap.size ≤ w.heap.size + 1; omega) (.string ⟨#[]⟩)
  have g0 := BF.cell 0 rfl
  have g1 := BF.cell 1 rfl
  exact bodyPost_ret (v := .tuple #[.agg #[.string ⟨#[]⟩, .string ⟨#[]⟩], .string ⟨#[]⟩, .int .i64 e]) (by simp [results, Tryz.results51, go_sem, g0, g1]) rfl ⟨_, rfl, rfl, hBF⟩
set_option maxHeartbeats 2000000 in
set_option maxRecDepth 100000 in
theorem squared_err9 (w : World) (pp pt pl pu : Option Addr) (np cp nt ct nl cl nu cu : Nat) (e : Int) (he : e ≠ 0) (tz : Int)
    (HCK : (∀ w', Below w.heap.size w w' → Good w' → Calls Tryz.prog 46 #[.agg #[.slice pp np cp, .slice pt nt ct, .slice pl nl cl, .slice pu nu cu]] w' (Ret (fun r _ => r = .int .i64 e) w'))) (hg : Good w) :
    Calls Tryz.prog 13 #[.agg #[.slice pp np cp, .slice pt nt ct, .slice pl nl cl, .slice pu nu cu], .int .i64 tz] w (Ret (fun r _ => r = .tuple #[.string ⟨#[]⟩, .int .i64 e]) w) := by
  have HC : Hid (∀ w', Below w.heap.size w w' → Good w' → _) := fun w' hb hg' => par_err9 w' pp pt pl pu np cp nt ct nl cl nu cu e he tz (fun w'' hb' hg'' => HCK w'' (hb.trans (hb'.mono hb.size)) hg'') hg'
  clear HCK
  have he2 : (e == 0) = false := beq_eq_false_iff_ne.2 he
  go_enter Tryz.func13, Tryz.ntmps13
  go_wp2_with fail
  have hB : Below w.heap.size w (w.alloc (.cells #[.slice pp np cp, .slice pt nt ct, .slice pl nl cl, .slice pu nu cu] 44)) := (Below.refl _ _).alloc (Nat.le_refl _) _
  refine (HC.out _ hB (hg.below hB)).mono ?_
  rintro x w1 ⟨_, rfl, rfl, hb1⟩
  have hB1 := hB.trans (hb1.mono hB.size)
  clear hb1 hB
  go_wp2_with fail
  go_ret2
  exact ⟨_, rfl, rfl, hB1.alloc hB1.size _⟩

/-- The error of a field over a mesh of right points and triangles. -/
def fieldE (P : List PtQ) (T : List Tri) (l : List ByteArray) : Int := if checkE P T = 0 then errF P.length l else checkE P T
def pairE (P : List PtQ) (T : List Tri) (l u : List ByteArray) : Int := if fieldE P T l = 0 then fieldE P T u else fieldE P T l
/-- A pair of any texts over such a mesh, in memory. -/
structure PairAny (w : World) (vp vt vl vu : Value) (P : List PtQ) (T : List Tri) (l u : List ByteArray) : Prop where
  p : RdP w vp (strP P)
  t : RdT w vt T
  l : RdS w vl l
  u : RdS w vu u
theorem PairAny.below {w w' : World} {vp vt vl vu : Value} {P : List PtQ} {T : List Tri} {l u : List ByteArray} (h : PairAny w vp vt vl vu P T l u) (hb : Below w.heap.size w w') : PairAny w' vp vt vl vu P T l u :=
  ⟨RdC.below h.p hb, RdC.below h.t hb, RdC.below h.l hb, RdC.below h.u hb⟩
theorem PairAny.open {w : World} {vp vt vl vu : Value} {P : List PtQ} {T : List Tri} {l u : List ByteArray} (h : PairAny w vp vt vl vu P T l u) : ∃ pp cp pt ct pl cl pu cu, vp = .slice pp P.length cp ∧ vt = .slice pt T.length ct ∧ vl = .slice pl l.length cl ∧ vu = .slice pu u.length cu := by
  obtain ⟨pp, cp, e1, -, -, -⟩ := h.p.open
  obtain ⟨pt, ct, e2, -, -, -⟩ := h.t.open
  obtain ⟨pl, cl, e3, -, -, -⟩ := h.l.open
  obtain ⟨pu, cu, e4, -, -, -⟩ := h.u.open
  rw [strP_length] at e1
  exact ⟨pp, cp, pt, ct, pl, cl, pu, cu, e1, e2, e3, e4⟩
/-- What the texts must be for the walks: not too long, not too many. -/
def TxtOK (l : List ByteArray) : Prop := (∀ x ∈ l, x.size < 1000000000) ∧ l.length ≤ 1000000
theorem fcheck_gen (w : World) (vp vt vf : Value) (P : List PtQ) (T : List Tri) (l : List ByteArray) (hpre : T ≠ [] → MeshPre P T 2) (hl : TxtOK l) (hp : RdP w vp (strP P)) (ht : RdT w vt T) (hf : RdS w vf l) (hg : Good w) :
    Calls Tryz.prog 39 #[.agg #[vp, vt], vf] w (Ret (fun r _ => r = .int .i64 (fieldE P T l)) w) := by
  unfold fieldE
  by_cases hc : checkE P T = 0
  · rw [if_pos hc]
    obtain ⟨hne, hwh⟩ := checkE_zero hc
    exact fcheck_any w vp vt vf P T 2 l hp ht ((hpre hne).ok hwh) hf hl.1 hl.2 hg
  · rw [if_neg hc]
    obtain ⟨pp, cp, h1, -, -, -⟩ := hp.open
    obtain ⟨pt, ct, h2, -, -, -⟩ := ht.open
    obtain ⟨pf, cf, h3, -, -, -⟩ := hf.open
    exact fcheck_err w vp vt vf _ pp pt pf _ cp _ ct _ cf h1 h2 h3 (fun w' hb hg' => check_gen w' vp vt P T (RdC.below hp hb) (RdC.below ht hb) hpre hg') hc hg
set_option maxHeartbeats 2000000 in
set_option maxRecDepth 100000 in
theorem tcheck_gen (w : World) (vp vt vl vu : Value) (P : List PtQ) (T : List Tri) (l u : List ByteArray) (h : PairAny w vp vt vl vu P T l u) (hpre : T ≠ [] → MeshPre P T 2) (hl : TxtOK l) (hu : TxtOK u) (hg : Good w) :
    Calls Tryz.prog 46 #[.agg #[vp, vt, vl, vu]] w (Ret (fun r _ => r = .int .i64 (pairE P T l u)) w) := by
  have H1 : Hid (∀ w', Below w.heap.size w w' → Good w' → _) := fun w' hb hg' => fcheck_gen w' vp vt vl P T l hpre hl (h.below hb).p (h.below hb).t (h.below hb).l hg'
  have H2 : Hid (∀ w', Below w.heap.size w w' → Good w' → _) := fun w' hb hg' => fcheck_gen w' vp vt vu P T u hpre hu (h.below hb).p (h.below hb).t (h.below hb).u hg'
  obtain ⟨pp, cp, pt, ct, pl, cl, pu, cu, rfl, rfl, rfl, rfl⟩ := h.open
  have HE : Hid (pairE P T l u = if fieldE P T l = 0 then fieldE P T u else fieldE P T l) := rfl
  generalize pairE P T l u = res at *
  generalize fieldE P T l = e1 at *
  generalize fieldE P T u = e2 at *
  clear h hpre hl hu
  go_enter Tryz.func46, Tryz.ntmps46
  go_wp2_with fail
  obtain ⟨W, hW⟩ : ∃ W, W = w.alloc (.cells #[.slice pp P.length cp, .slice pt T.length ct, .slice pl l.length cl, .slice pu u.length cu] 44) := ⟨_, rfl⟩
  have hB : Below w.heap.size w W := by rw [hW]; exact (Below.refl _ _).alloc (Nat.le_refl _) _
  have b0 : BoxN W w.heap.size 44 [.slice pp P.length cp, .slice pt T.length ct, .slice pl l.length cl, .slice pu u.length cu] := by rw [hW]; exact BoxN.new _ _ _ _ rfl
  rw [← hW]
  clear hW
  refine (H1.out W hB (hg.below hB)).mono ?_
  rintro x w1 ⟨_, rfl, rfl, hb1⟩
  have hB1 := hB.trans (hb1.mono hB.size)
  have b1 := b0.below hb1 b0.lt
  have c0 := b1.cell 0 rfl
  have c1 := b1.cell 1 rfl
  have c3 := b1.cell 3 rfl
  clear hb1 hB b0 b1
  by_cases he : e1 = 0
  · have HR : Hid (e2 = res) := by unfold Hid; rw [HE.out, if_pos he]
    clear HE
    subst he
    go_wp2_with fail
    refine (H2.out w1 hB1 (hg.below hB1)).mono ?_
    rintro x w2 ⟨_, rfl, rfl, hb2⟩
    have hB2 := hB1.trans (hb2.mono hB1.size)
    go_wp2_with fail
    go_ret
    exact ⟨_, rfl, congrArg (Value.int .i64) HR.out, hB2⟩
  · have HR : Hid (e1 = res) := by unfold Hid; rw [HE.out, if_neg he]
    clear HE
    go_wp2_with fail
    go_ret
    exact ⟨_, rfl, congrArg (Value.int .i64) HR.out, hB1⟩
set_option maxHeartbeats 2000000 in
set_option maxRecDepth 100000 in
theorem check38_gen (w : World) (vp vt vl vu : Value) (P : List PtQ) (T : List Tri) (l u : List ByteArray) (h : PairAny w vp vt vl vu P T l u) (hpre : T ≠ [] → MeshPre P T 2) (hl : TxtOK l) (hu : TxtOK u) (hg : Good w) :
    Calls Tryz.prog 45 #[.agg #[vp, vt, vl, vu]] w (Ret (fun r _ => r = .int .i64 (pairE P T l u)) w) := by
  have H1 : Hid (∀ w', Below w.heap.size w w' → Good w' → _) := fun w' hb hg' => fcheck_gen w' vp vt vl P T l hpre hl (h.below hb).p (h.below hb).t (h.below hb).l hg'
  have H2 : Hid (∀ w', Below w.heap.size w w' → Good w' → _) := fun w' hb hg' => fcheck_gen w' vp vt vu P T u hpre hu (h.below hb).p (h.below hb).t (h.below hb).u hg'
  obtain ⟨pp, cp, pt, ct, pl, cl, pu, cu, rfl, rfl, rfl, rfl⟩ := h.open
  have HE : Hid (pairE P T l u = if fieldE P T l = 0 then fieldE P T u else fieldE P T l) := rfl
  generalize pairE P T l u = res at *
  generalize fieldE P T l = e1 at *
  generalize fieldE P T u = e2 at *
  clear h hpre hl hu
  go_enter Tryz.func45, Tryz.ntmps45
  go_wp2_with fail
  obtain ⟨W, hW⟩ : ∃ W, W = w.alloc (.cells #[.slice pp P.length cp, .slice pt T.length ct, .slice pl l.length cl, .slice pu u.length cu] 44) := ⟨_, rfl⟩
  have hB : Below w.heap.size w W := by rw [hW]; exact (Below.refl _ _).alloc (Nat.le_refl _) _
  have b0 : BoxN W w.heap.size 44 [.slice pp P.length cp, .slice pt T.length ct, .slice pl l.length cl, .slice pu u.length cu] := by rw [hW]; exact BoxN.new _ _ _ _ rfl
  rw [← hW]
  clear hW
  refine (H1.out W hB (hg.below hB)).mono ?_
  rintro x w1 ⟨_, rfl, rfl, hb1⟩
  have hB1 := hB.trans (hb1.mono hB.size)
  have b1 := b0.below hb1 b0.lt
  have c0 := b1.cell 0 rfl
  have c1 := b1.cell 1 rfl
  have c3 := b1.cell 3 rfl
  clear hb1 hB b0 b1
  by_cases he : e1 = 0
  · have HR : Hid (e2 = res) := by unfold Hid; rw [HE.out, if_pos he]
    clear HE
    subst he
    go_wp2_with fail
    refine (H2.out w1 hB1 (hg.below hB1)).mono ?_
    rintro x w2 ⟨_, rfl, rfl, hb2⟩
    have hB2 := hB1.trans (hb2.mono hB1.size)
    go_wp2_with fail
    go_ret
    exact ⟨_, rfl, congrArg (Value.int .i64) HR.out, hB2⟩
  · have HR : Hid (e1 = res) := by unfold Hid; rw [HE.out, if_neg he]
    clear HE
    go_wp2_with fail
    go_ret
    exact ⟨_, rfl, congrArg (Value.int .i64) HR.out, hB1⟩
end Go.Proofs.YtjfjkiibmfgplaaGreatDoor
