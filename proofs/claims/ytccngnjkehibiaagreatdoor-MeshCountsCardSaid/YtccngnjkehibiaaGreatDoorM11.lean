/- The walk over klippelaw12.Place, by 2 and by 6. -/
import Derived.Test.YtccngnjkehibiaaGreatDoorM10
namespace Go.Proofs.YtccngnjkehibiaaGreatDoor
open Go.RowKit Go.Lib

/-- A place of a sheet: a small number, divided, moved and halved. -/
def placeB (b : Nat) (s : Int) (half : Bool) (x : Int) : Rat := mkRat (x + s.tmod 8 * (b : Int)) (halfD half * b)
theorem placeB_move (b : Nat) (hb : 0 < b) (s : Int) (half : Bool) (x : Int) : placeB b s half x = ((x : Rat) / (b : Rat) + (s.tmod 8 : Int)) * (1 / (halfD half : Rat)) := by
  unfold placeB
  have h0 : (halfD half : Rat) ≠ 0 := by cases half <;> decide
  have hb0 : (b : Rat) ≠ 0 := by
    intro e
    have : ((b : Nat) : Rat) = ((0 : Nat) : Rat) := e
    have := Rat.natCast_inj.1 this
    omega
  rw [Rat.mkRat_eq_div]
  push_cast
  rw [Rat.div_def, Rat.div_def, Rat.div_def, Rat.inv_mul_rev]
  grind
theorem placeB_Sz (b : Nat) (hb : 0 < b) (hb6 : b ≤ 6) (s : Int) (half : Bool) (x : Int) (hx : -128 ≤ x ∧ x ≤ 127) : Sz 3 (placeB b s half x) := by
  have h := tmod8_bound s
  have h1 : -42 ≤ s.tmod 8 * (b : Int) ∧ s.tmod 8 * (b : Int) ≤ 42 := by
    rcases (by omega : b = 1 ∨ b = 2 ∨ b = 3 ∨ b = 4 ∨ b = 5 ∨ b = 6) with rfl | rfl | rfl | rfl | rfl | rfl <;> omega
  refine Sz.mkRat ?_ (by omega) ?_
  · cases half <;> simp [halfD] <;> omega
  · cases half <;> simp [halfD] <;> omega

set_option maxHeartbeats 4000000 in
set_option maxRecDepth 100000 in
theorem place2_any (w : World) (kz s0 s1 : Int) (half : Bool) (x y : Int) (_hs0 : -128 ≤ s0 ∧ s0 ≤ 127) (_hs1 : -128 ≤ s1 ∧ s1 ≤ 127) (hx : -128 ≤ x ∧ x ≤ 127) (hy : -128 ≤ y ∧ y ≤ 127) (hg : Good w) :
    Calls Tryz.prog 24 #[.agg #[.int .u8 kz, .int .i8 s0, .int .i8 s1, .bool half], .agg #[.int .i8 x, .int .i8 y], .int .i64 2] w (Ret (fun r _ => r = .agg #[.string (RS (placeB 2 s0 half x)), .string (RS (placeB 2 s1 half y))]) w) := by
  have hb0 := tmod8_bound s0
  have hb1 := tmod8_bound s1
  have HO0 : Hid (∀ w, Good w → _) := fun w hg => ratOf_any (x + s0.tmod 8 * (2 : Nat)) ((halfD half * 2 : Nat) : Int) (x + s0.tmod 8 * (2 : Nat)) (halfD half * 2) ((halfD half * 2 : Nat) : Int) rfl (by cases half <;> decide) (by omega) (by cases half <;> decide) (.inl ⟨rfl, rfl⟩) w hg
  have HO1 : Hid (∀ w, Good w → _) := fun w hg => ratOf_any (y + s1.tmod 8 * (2 : Nat)) ((halfD half * 2 : Nat) : Int) (y + s1.tmod 8 * (2 : Nat)) (halfD half * 2) ((halfD half * 2 : Nat) : Int) rfl (by cases half <;> decide) (by omega) (by cases half <;> decide) (.inl ⟨rfl, rfl⟩) w hg
  unfold placeB
  obtain ⟨p0, hp0⟩ : ∃ p, p = mkRat (x + s0.tmod 8 * (2 : Nat)) (halfD half * 2) := ⟨_, rfl⟩
  obtain ⟨p1, hp1⟩ : ∃ p, p = mkRat (y + s1.tmod 8 * (2 : Nat)) (halfD half * 2) := ⟨_, rfl⟩
  rw [← hp0] at HO0 ⊢
  rw [← hp1] at HO1 ⊢
  obtain ⟨m0, hm0⟩ : ∃ m, m = s0.tmod 8 := ⟨_, rfl⟩
  obtain ⟨m1, hm1⟩ : ∃ m, m = s1.tmod 8 := ⟨_, rfl⟩
  rw [← hm0] at HO0 hb0
  rw [← hm1] at HO1 hb1
  have hw0 : IntKind.i8.wrap m0 = m0 := by unfold IntKind.wrap; simp [IntKind.signed, IntKind.bits]; omega
  have hw1 : IntKind.i8.wrap m1 = m1 := by unfold IntKind.wrap; simp [IntKind.signed, IntKind.bits]; omega
  have ha0 : IntKind.i64.wrap m0 = m0 := IntWalk.i64_in _ (by omega)
  have ha1 : IntKind.i64.wrap m1 = m1 := IntWalk.i64_in _ (by omega)
  have hx1 : IntKind.i64.wrap x = x := IntWalk.i64_in _ (by omega)
  have hy1 : IntKind.i64.wrap y = y := IntWalk.i64_in _ (by omega)
  have hmm0 : IntKind.i64.wrap (m0 * 2) = m0 * 2 := IntWalk.i64_in _ (by omega)
  have hmm1 : IntKind.i64.wrap (m1 * 2) = m1 * 2 := IntWalk.i64_in _ (by omega)
  have hxm : IntKind.i64.wrap (x + m0 * 2) = x + m0 * 2 := IntWalk.i64_in _ (by omega)
  have hym : IntKind.i64.wrap (y + m1 * 2) = y + m1 * 2 := IntWalk.i64_in _ (by omega)
  have hs0' := hm0.symm
  have hs1' := hm1.symm
  clear hp0 hp1 hm0 hm1
  cases half
  · simp only [halfD, Bool.false_eq_true, if_false, Nat.one_mul, Int.cast_ofNat_Int] at HO0 HO1
    go_enter Tryz.func24, Tryz.ntmps24
    go_wp2_with fail
    obtain ⟨W, hW⟩ : ∃ W, W = ((w.alloc (.cells #[.int .u8 kz, .int .i8 s0, .int .i8 s1, .bool false] 49)).alloc (.cells #[.int .i8 x, .int .i8 y] 47)).alloc (.cells #[.string ⟨#[]⟩, .string ⟨#[]⟩] 24) := ⟨_, rfl⟩
    have hB : Below w.heap.size w W := by rw [hW]; exact (((Below.refl _ _).alloc (Nat.le_refl _) _).alloc (by simp) _).alloc (by simp; omega) _
    have b3 : BoxN W w.heap.size 49 [.int .u8 kz, .int .i8 s0, .int .i8 s1, .bool false] := by
      rw [hW]
      have h1 := (BoxN.new w #[.int .u8 kz, .int .i8 s0, .int .i8 s1, .bool false] 49 _ rfl)
      exact (h1.below ((Below.refl _ _).alloc (Nat.le_refl _) _) h1.lt).below ((Below.refl _ _).alloc (Nat.le_refl _) _) (by simp; omega)
    have b4 : BoxN W (w.heap.size + 1) 47 [.int .i8 x, .int .i8 y] := by
      rw [hW]
      have h1 := (BoxN.new (w.alloc (.cells #[.int .u8 kz, .int .i8 s0, .int .i8 s1, .bool false] 49)) #[.int .i8 x, .int .i8 y] 47 (w.heap.size + 1) (by simp))
      exact h1.below ((Below.refl _ _).alloc (Nat.le_refl _) _) h1.lt
    have b6 : BoxN W (w.heap.size + 2) 24 [.string ⟨#[]⟩, .string ⟨#[]⟩] := by rw [hW]; exact BoxN.new _ _ _ _ (by simp)
    rw [← hW]
    clear hW
    refine (HO0.out W (hg.below hB)).mono ?_
    rintro e w1 ⟨_, rfl, rfl, hb1'⟩
    have hB1 := hB.trans (hb1'.mono hB.size)
    have b31 := b3.below hb1' b3.lt
    have b41 := b4.below hb1' b4.lt
    have b61 := b6.below hb1' b6.lt
    have c0 := b41.cell 1 rfl
    have c1 := b31.cell 2 rfl
    clear b3 b4 b6 hb1' hB
    go_wp2_with fail
    refine (HO1.out w1 (hg.below hB1)).mono ?_
    rintro e w2 ⟨_, rfl, rfl, hb2'⟩
    have hB2 := hB1.trans (hb2'.mono hB1.size)
    have b62 := b61.below hb2' b61.lt
    have d0 := b62.cell 0 rfl
    have d1 := b62.cell 1 rfl
    have d2 := b62.frozen 0
    have d3 := b62.frozen 1
    clear c0 c1 b31 b41 b61 hb2' hB1
    go_wp2_with fail
    have BF := (b62.set 0 (.string (RS p0))).set 1 (.string (RS p1))
    have hBF := (hB2.setCell (p := ⟨w.heap.size + 2, 0, none⟩) (by show w.heap.size ≤ w.heap.size + 2; omega) (.string (RS p0))).setCell (p := ⟨w.heap.size + 2, 1, none⟩) (by show w.heap.size ≤ w.heap.size + 2; omega) (.string (RS p1))
    have g0 := BF.cell 0 rfl
    have g1 := BF.cell 1 rfl
    exact bodyPost_ret (v := .agg #[.string (RS p0), .string (RS p1)]) (by simp [results, Tryz.results24, go_sem, g0, g1]) rfl ⟨_, rfl, rfl, hBF⟩
  · simp only [halfD, if_true, Nat.reduceMul, Int.cast_ofNat_Int] at HO0 HO1
    go_enter Tryz.func24, Tryz.ntmps24
    go_wp2_with fail
    obtain ⟨W, hW⟩ : ∃ W, W = ((w.alloc (.cells #[.int .u8 kz, .int .i8 s0, .int .i8 s1, .bool true] 49)).alloc (.cells #[.int .i8 x, .int .i8 y] 47)).alloc (.cells #[.string ⟨#[]⟩, .string ⟨#[]⟩] 24) := ⟨_, rfl⟩
    have hB : Below w.heap.size w W := by rw [hW]; exact (((Below.refl _ _).alloc (Nat.le_refl _) _).alloc (by simp) _).alloc (by simp; omega) _
    have b3 : BoxN W w.heap.size 49 [.int .u8 kz, .int .i8 s0, .int .i8 s1, .bool true] := by
      rw [hW]
      have h1 := (BoxN.new w #[.int .u8 kz, .int .i8 s0, .int .i8 s1, .bool true] 49 _ rfl)
      exact (h1.below ((Below.refl _ _).alloc (Nat.le_refl _) _) h1.lt).below ((Below.refl _ _).alloc (Nat.le_refl _) _) (by simp; omega)
    have b4 : BoxN W (w.heap.size + 1) 47 [.int .i8 x, .int .i8 y] := by
      rw [hW]
      have h1 := (BoxN.new (w.alloc (.cells #[.int .u8 kz, .int .i8 s0, .int .i8 s1, .bool true] 49)) #[.int .i8 x, .int .i8 y] 47 (w.heap.size + 1) (by simp))
      exact h1.below ((Below.refl _ _).alloc (Nat.le_refl _) _) h1.lt
    have b6 : BoxN W (w.heap.size + 2) 24 [.string ⟨#[]⟩, .string ⟨#[]⟩] := by rw [hW]; exact BoxN.new _ _ _ _ (by simp)
    rw [← hW]
    clear hW
    refine (HO0.out W (hg.below hB)).mono ?_
    rintro e w1 ⟨_, rfl, rfl, hb1'⟩
    have hB1 := hB.trans (hb1'.mono hB.size)
    have b31 := b3.below hb1' b3.lt
    have b41 := b4.below hb1' b4.lt
    have b61 := b6.below hb1' b6.lt
    have c0 := b41.cell 1 rfl
    have c1 := b31.cell 2 rfl
    clear b3 b4 b6 hb1' hB
    go_wp2_with fail
    refine (HO1.out w1 (hg.below hB1)).mono ?_
    rintro e w2 ⟨_, rfl, rfl, hb2'⟩
    have hB2 := hB1.trans (hb2'.mono hB1.size)
    have b62 := b61.below hb2' b61.lt
    have d0 := b62.cell 0 rfl
    have d1 := b62.cell 1 rfl
    have d2 := b62.frozen 0
    have d3 := b62.frozen 1
    clear c0 c1 b31 b41 b61 hb2' hB1
    go_wp2_with fail
    have BF := (b62.set 0 (.string (RS p0))).set 1 (.string (RS p1))
    have hBF := (hB2.setCell (p := ⟨w.heap.size + 2, 0, none⟩) (by show w.heap.size ≤ w.heap.size + 2; omega) (.string (RS p0))).setCell (p := ⟨w.heap.size + 2, 1, none⟩) (by show w.heap.size ≤ w.heap.size + 2; omega) (.string (RS p1))
    have g0 := BF.cell 0 rfl
    have g1 := BF.cell 1 rfl
    exact bodyPost_ret (v := .agg #[.string (RS p0), .string (RS p1)]) (by simp [results, Tryz.results24, go_sem, g0, g1]) rfl ⟨_, rfl, rfl, hBF⟩
set_option maxHeartbeats 4000000 in
set_option maxRecDepth 100000 in
theorem place6_any (w : World) (kz s0 s1 : Int) (half : Bool) (x y : Int) (_hs0 : -128 ≤ s0 ∧ s0 ≤ 127) (_hs1 : -128 ≤ s1 ∧ s1 ≤ 127) (hx : -128 ≤ x ∧ x ≤ 127) (hy : -128 ≤ y ∧ y ≤ 127) (hg : Good w) :
    Calls Tryz.prog 24 #[.agg #[.int .u8 kz, .int .i8 s0, .int .i8 s1, .bool half], .agg #[.int .i8 x, .int .i8 y], .int .i64 6] w (Ret (fun r _ => r = .agg #[.string (RS (placeB 6 s0 half x)), .string (RS (placeB 6 s1 half y))]) w) := by
  have hb0 := tmod8_bound s0
  have hb1 := tmod8_bound s1
  have HO0 : Hid (∀ w, Good w → _) := fun w hg => ratOf_any (x + s0.tmod 8 * (6 : Nat)) ((halfD half * 6 : Nat) : Int) (x + s0.tmod 8 * (6 : Nat)) (halfD half * 6) ((halfD half * 6 : Nat) : Int) rfl (by cases half <;> decide) (by omega) (by cases half <;> decide) (.inl ⟨rfl, rfl⟩) w hg
  have HO1 : Hid (∀ w, Good w → _) := fun w hg => ratOf_any (y + s1.tmod 8 * (6 : Nat)) ((halfD half * 6 : Nat) : Int) (y + s1.tmod 8 * (6 : Nat)) (halfD half * 6) ((halfD half * 6 : Nat) : Int) rfl (by cases half <;> decide) (by omega) (by cases half <;> decide) (.inl ⟨rfl, rfl⟩) w hg
  unfold placeB
  obtain ⟨p0, hp0⟩ : ∃ p, p = mkRat (x + s0.tmod 8 * (6 : Nat)) (halfD half * 6) := ⟨_, rfl⟩
  obtain ⟨p1, hp1⟩ : ∃ p, p = mkRat (y + s1.tmod 8 * (6 : Nat)) (halfD half * 6) := ⟨_, rfl⟩
  rw [← hp0] at HO0 ⊢
  rw [← hp1] at HO1 ⊢
  obtain ⟨m0, hm0⟩ : ∃ m, m = s0.tmod 8 := ⟨_, rfl⟩
  obtain ⟨m1, hm1⟩ : ∃ m, m = s1.tmod 8 := ⟨_, rfl⟩
  rw [← hm0] at HO0 hb0
  rw [← hm1] at HO1 hb1
  have hw0 : IntKind.i8.wrap m0 = m0 := by unfold IntKind.wrap; simp [IntKind.signed, IntKind.bits]; omega
  have hw1 : IntKind.i8.wrap m1 = m1 := by unfold IntKind.wrap; simp [IntKind.signed, IntKind.bits]; omega
  have ha0 : IntKind.i64.wrap m0 = m0 := IntWalk.i64_in _ (by omega)
  have ha1 : IntKind.i64.wrap m1 = m1 := IntWalk.i64_in _ (by omega)
  have hx1 : IntKind.i64.wrap x = x := IntWalk.i64_in _ (by omega)
  have hy1 : IntKind.i64.wrap y = y := IntWalk.i64_in _ (by omega)
  have hmm0 : IntKind.i64.wrap (m0 * 6) = m0 * 6 := IntWalk.i64_in _ (by omega)
  have hmm1 : IntKind.i64.wrap (m1 * 6) = m1 * 6 := IntWalk.i64_in _ (by omega)
  have hxm : IntKind.i64.wrap (x + m0 * 6) = x + m0 * 6 := IntWalk.i64_in _ (by omega)
  have hym : IntKind.i64.wrap (y + m1 * 6) = y + m1 * 6 := IntWalk.i64_in _ (by omega)
  have hs0' := hm0.symm
  have hs1' := hm1.symm
  clear hp0 hp1 hm0 hm1
  cases half
  · simp only [halfD, Bool.false_eq_true, if_false, Nat.one_mul, Int.cast_ofNat_Int] at HO0 HO1
    go_enter Tryz.func24, Tryz.ntmps24
    go_wp2_with fail
    obtain ⟨W, hW⟩ : ∃ W, W = ((w.alloc (.cells #[.int .u8 kz, .int .i8 s0, .int .i8 s1, .bool false] 49)).alloc (.cells #[.int .i8 x, .int .i8 y] 47)).alloc (.cells #[.string ⟨#[]⟩, .string ⟨#[]⟩] 24) := ⟨_, rfl⟩
    have hB : Below w.heap.size w W := by rw [hW]; exact (((Below.refl _ _).alloc (Nat.le_refl _) _).alloc (by simp) _).alloc (by simp; omega) _
    have b3 : BoxN W w.heap.size 49 [.int .u8 kz, .int .i8 s0, .int .i8 s1, .bool false] := by
      rw [hW]
      have h1 := (BoxN.new w #[.int .u8 kz, .int .i8 s0, .int .i8 s1, .bool false] 49 _ rfl)
      exact (h1.below ((Below.refl _ _).alloc (Nat.le_refl _) _) h1.lt).below ((Below.refl _ _).alloc (Nat.le_refl _) _) (by simp; omega)
    have b4 : BoxN W (w.heap.size + 1) 47 [.int .i8 x, .int .i8 y] := by
      rw [hW]
      have h1 := (BoxN.new (w.alloc (.cells #[.int .u8 kz, .int .i8 s0, .int .i8 s1, .bool false] 49)) #[.int .i8 x, .int .i8 y] 47 (w.heap.size + 1) (by simp))
      exact h1.below ((Below.refl _ _).alloc (Nat.le_refl _) _) h1.lt
    have b6 : BoxN W (w.heap.size + 2) 24 [.string ⟨#[]⟩, .string ⟨#[]⟩] := by rw [hW]; exact BoxN.new _ _ _ _ (by simp)
    rw [← hW]
    clear hW
    refine (HO0.out W (hg.below hB)).mono ?_
    rintro e w1 ⟨_, rfl, rfl, hb1'⟩
    have hB1 := hB.trans (hb1'.mono hB.size)
    have b31 := b3.below hb1' b3.lt
    have b41 := b4.below hb1' b4.lt
    have b61 := b6.below hb1' b6.lt
    have c0 := b41.cell 1 rfl
    have c1 := b31.cell 2 rfl
    clear b3 b4 b6 hb1' hB
    go_wp2_with fail
    refine (HO1.out w1 (hg.below hB1)).mono ?_
    rintro e w2 ⟨_, rfl, rfl, hb2'⟩
    have hB2 := hB1.trans (hb2'.mono hB1.size)
    have b62 := b61.below hb2' b61.lt
    have d0 := b62.cell 0 rfl
    have d1 := b62.cell 1 rfl
    have d2 := b62.frozen 0
    have d3 := b62.frozen 1
    clear c0 c1 b31 b41 b61 hb2' hB1
    go_wp2_with fail
    have BF := (b62.set 0 (.string (RS p0))).set 1 (.string (RS p1))
    have hBF := (hB2.setCell (p := ⟨w.heap.size + 2, 0, none⟩) (by show w.heap.size ≤ w.heap.size + 2; omega) (.string (RS p0))).setCell (p := ⟨w.heap.size + 2, 1, none⟩) (by show w.heap.size ≤ w.heap.size + 2; omega) (.string (RS p1))
    have g0 := BF.cell 0 rfl
    have g1 := BF.cell 1 rfl
    exact bodyPost_ret (v := .agg #[.string (RS p0), .string (RS p1)]) (by simp [results, Tryz.results24, go_sem, g0, g1]) rfl ⟨_, rfl, rfl, hBF⟩
  · simp only [halfD, if_true, Nat.reduceMul, Int.cast_ofNat_Int] at HO0 HO1
    go_enter Tryz.func24, Tryz.ntmps24
    go_wp2_with fail
    obtain ⟨W, hW⟩ : ∃ W, W = ((w.alloc (.cells #[.int .u8 kz, .int .i8 s0, .int .i8 s1, .bool true] 49)).alloc (.cells #[.int .i8 x, .int .i8 y] 47)).alloc (.cells #[.string ⟨#[]⟩, .string ⟨#[]⟩] 24) := ⟨_, rfl⟩
    have hB : Below w.heap.size w W := by rw [hW]; exact (((Below.refl _ _).alloc (Nat.le_refl _) _).alloc (by simp) _).alloc (by simp; omega) _
    have b3 : BoxN W w.heap.size 49 [.int .u8 kz, .int .i8 s0, .int .i8 s1, .bool true] := by
      rw [hW]
      have h1 := (BoxN.new w #[.int .u8 kz, .int .i8 s0, .int .i8 s1, .bool true] 49 _ rfl)
      exact (h1.below ((Below.refl _ _).alloc (Nat.le_refl _) _) h1.lt).below ((Below.refl _ _).alloc (Nat.le_refl _) _) (by simp; omega)
    have b4 : BoxN W (w.heap.size + 1) 47 [.int .i8 x, .int .i8 y] := by
      rw [hW]
      have h1 := (BoxN.new (w.alloc (.cells #[.int .u8 kz, .int .i8 s0, .int .i8 s1, .bool true] 49)) #[.int .i8 x, .int .i8 y] 47 (w.heap.size + 1) (by simp))
      exact h1.below ((Below.refl _ _).alloc (Nat.le_refl _) _) h1.lt
    have b6 : BoxN W (w.heap.size + 2) 24 [.string ⟨#[]⟩, .string ⟨#[]⟩] := by rw [hW]; exact BoxN.new _ _ _ _ (by simp)
    rw [← hW]
    clear hW
    refine (HO0.out W (hg.below hB)).mono ?_
    rintro e w1 ⟨_, rfl, rfl, hb1'⟩
    have hB1 := hB.trans (hb1'.mono hB.size)
    have b31 := b3.below hb1' b3.lt
    have b41 := b4.below hb1' b4.lt
    have b61 := b6.below hb1' b6.lt
    have c0 := b41.cell 1 rfl
    have c1 := b31.cell 2 rfl
    clear b3 b4 b6 hb1' hB
    go_wp2_with fail
    refine (HO1.out w1 (hg.below hB1)).mono ?_
    rintro e w2 ⟨_, rfl, rfl, hb2'⟩
    have hB2 := hB1.trans (hb2'.mono hB1.size)
    have b62 := b61.below hb2' b61.lt
    have d0 := b62.cell 0 rfl
    have d1 := b62.cell 1 rfl
    have d2 := b62.frozen 0
    have d3 := b62.frozen 1
    clear c0 c1 b31 b41 b61 hb2' hB1
    go_wp2_with fail
    have BF := (b62.set 0 (.string (RS p0))).set 1 (.string (RS p1))
    have hBF := (hB2.setCell (p := ⟨w.heap.size + 2, 0, none⟩) (by show w.heap.size ≤ w.heap.size + 2; omega) (.string (RS p0))).setCell (p := ⟨w.heap.size + 2, 1, none⟩) (by show w.heap.size ≤ w.heap.size + 2; omega) (.string (RS p1))
    have g0 := BF.cell 0 rfl
    have g1 := BF.cell 1 rfl
    exact bodyPost_ret (v := .agg #[.string (RS p0), .string (RS p1)]) (by simp [results, Tryz.results24, go_sem, g0, g1]) rfl ⟨_, rfl, rfl, hBF⟩

end Go.Proofs.YtccngnjkehibiaaGreatDoor
