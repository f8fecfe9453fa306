/- The walks over field.toward, field.side. -/
import Derived.Test.YtjfjkiibmfgplaaGreatDoorK3
import Derived.BigRegion
namespace Go.Proofs.YtjfjkiibmfgplaaGreatDoor
open Go.RowKit Go.Lib

/-- A corner: a place with a height. -/
abbrev Cor := PtQ × Rat
/-- A number at a share between two others. -/
def towQ (a b k : Rat) : Rat := a + k * (b - a)

theorem ftoward_any (a b x : Rat) (k : Nat) (hk : 0 < k) (hk2 : k ≤ 5000) (ha : Sz k a) (hb : Sz k b) (hx : Sz k x) (w : World) (hg : Good w) :
    Calls Tryz.prog 131 #[.string (RS a), .string (RS b), .string (RS x)] w (Ret (fun r _ => r = .string (RS (towQ a b x))) w) := by
  have d1 : Sz (2 * k + 1) (b - a) := (hb.sub ha).mono (by omega)
  have d2 : Sz (3 * k + 1) (x * (b - a)) := (hx.mul d1).mono (by omega)
  have H1 : Hid (∀ w, Good w → _) := fun w hg => ratSub_any b a k hk (by omega) hb ha w hg
  have H2 : Hid (∀ w, Good w → _) := fun w hg => ratMul_any x (b - a) (2 * k + 1) (by omega) (by omega) (hx.mono (by omega)) d1 w hg
  have H3 : Hid (∀ w, Good w → _) := fun w hg => ratAdd_any a (x * (b - a)) (3 * k + 1) (by omega) (by omega) (ha.mono (by omega)) d2 w hg
  unfold towQ
  generalize a + x * (b - a) = r at *
  generalize x * (b - a) = q at *
  generalize b - a = p at *
  clear ha hb hx d1 d2
  go_enter Tryz.func131, Tryz.ntmps131
  go_wp2_with fail
  refine (H1.out _ hg).mono ?_
  rintro e w1 ⟨_, rfl, rfl, hb1⟩
  go_wp2_with fail
  refine (H2.out w1 (hg.below hb1)).mono ?_
  rintro e w2 ⟨_, rfl, rfl, hb2⟩
  have hB2 := hb1.trans (hb2.mono hb1.size)
  go_wp2_with fail
  refine (H3.out w2 (hg.below hB2)).mono ?_
  rintro e w3 ⟨_, rfl, rfl, hb3⟩
  have hB3 := hB2.trans (hb3.mono hB2.size)
  go_wp2_with fail
  go_ret
  exact ⟨_, rfl, rfl, hB3⟩

theorem idx_C0 (a b c d e f g h i : Value) (w : World) : (Instr.index 132 (.agg #[a, b, c, d, e, f, g, h, i]) (.int .i64 0)).run Tryz.prog w = .ok (.agg #[a, b, c]) w := by kernel_rfl
theorem idx_C1 (a b c d e f g h i : Value) (w : World) : (Instr.index 132 (.agg #[a, b, c, d, e, f, g, h, i]) (.int .i64 1)).run Tryz.prog w = .ok (.agg #[d, e, f]) w := by kernel_rfl
theorem idx_C2 (a b c d e f g h i : Value) (w : World) : (Instr.index 132 (.agg #[a, b, c, d, e, f, g, h, i]) (.int .i64 2)).run Tryz.prog w = .ok (.agg #[g, h, i]) w := by kernel_rfl

/-- The side between two corners, or -1. -/
def sideL (c0 c1 c2 a b : PtQ) : Int := if c0 = a ∧ c1 = b then 0 else if c1 = a ∧ c2 = b then 1 else if c2 = a ∧ c0 = b then 2 else -1

set_option maxHeartbeats 4000000 in
set_option maxRecDepth 100000 in
theorem side_any (c0 c1 c2 a b : PtQ) (z0 z1 z2 : ByteArray) (w : World) :
    Calls Tryz.prog 80 #[.agg #[.string (RS c0.1), .string (RS c0.2), .string z0, .string (RS c1.1), .string (RS c1.2), .string z1, .string (RS c2.1), .string (RS c2.2), .string z2], .agg #[.string (RS a.1), .string (RS a.2)], .agg #[.string (RS b.1), .string (RS b.2)]] w (Ret (fun r _ => r = .int .i64 (sideL c0 c1 c2 a b)) w) := by
  have HT0 := Lib.hid (two_pts c0 a)
  have HT1 := Lib.hid (two_pts c1 a)
  have HT2 := Lib.hid (two_pts c2 a)
  have HU0 := Lib.hid (two_pts c1 b)
  have HU1 := Lib.hid (two_pts c2 b)
  have HU2 := Lib.hid (two_pts c0 b)
  obtain ⟨res, hres⟩ : ∃ r, r = sideL c0 c1 c2 a b := ⟨_, rfl⟩
  rw [← hres]
  have HR := Lib.hid hres
  clear hres
  generalize RS c0.1 = x0 at *
  generalize RS c0.2 = y0 at *
  generalize RS c1.1 = x1 at *
  generalize RS c1.2 = y1 at *
  generalize RS c2.1 = x2 at *
  generalize RS c2.2 = y2 at *
  generalize RS a.1 = ax at *
  generalize RS a.2 = ay at *
  generalize RS b.1 = bx at *
  generalize RS b.2 = by' at *
  go_enter Tryz.func80, Tryz.ntmps80
  go_wp2_with fail
  obtain ⟨W, hW⟩ : ∃ W, W = ((w.alloc (.cells #[.string x0, .string y0, .string z0, .string x1, .string y1, .string z1, .string x2, .string y2, .string z2] 132)).alloc (.cells #[.string ax, .string ay] 54)).alloc (.cells #[.string bx, .string by'] 54) := ⟨_, rfl⟩
  have hB : Below w.heap.size w W := by rw [hW]; exact (((Below.refl _ _).alloc (Nat.le_refl _) _).alloc (by simp) _).alloc (by simp; omega) _
  have e5 : BoxN W (w.heap.size + 1 + 1) 54 [.string bx, .string by'] := by rw [hW]; exact BoxN.new _ _ _ _ (by simp)
  have e4 : BoxN W (w.heap.size + 1) 54 [.string ax, .string ay] := by
    rw [hW]
    have h1 := (BoxN.new (w.alloc (.cells #[.string x0, .string y0, .string z0, .string x1, .string y1, .string z1, .string x2, .string y2, .string z2] 132)) #[.string ax, .string ay] 54 (w.heap.size + 1) (by simp))
    exact h1.below ((Below.refl _ _).alloc (Nat.le_refl _) _) h1.lt
  have e3 : BoxN W w.heap.size 132 [.string x0, .string y0, .string z0, .string x1, .string y1, .string z1, .string x2, .string y2, .string z2] := by
    rw [hW]
    have h1 := (BoxN.new w #[.string x0, .string y0, .string z0, .string x1, .string y1, .string z1, .string x2, .string y2, .string z2] 132 _ rfl)
    exact h1.below (((Below.refl _ _).alloc (Nat.le_refl _) _).alloc (by simp) _) h1.lt
  rw [← hW]
  clear hW
  have hzW := hB.size
  go_loopw [10] (fun t10 wr => ∃ (i : Nat), t10 = .int .i64 i ∧ i ≤ 3 ∧ Hid ((1 ≤ i → ¬(c0 = a ∧ c1 = b)) ∧ (2 ≤ i → ¬(c1 = a ∧ c2 = b)) ∧ (3 ≤ i → ¬(c2 = a ∧ c0 = b))) ∧ Below W.heap.size W wr) (fun t10 _ => 3 - (RowKit.intOf t10).toNat)
  case atStart => exact ⟨0, rfl, Nat.zero_le _, ⟨fun h => absurd h (by decide), fun h => absurd h (by decide), fun h => absurd h (by decide)⟩, Below.refl _ _⟩
  case round =>
    obtain ⟨i, rfl, hi, HN, hbr⟩ := hrel
    have f3 := e3.below hbr e3.lt
    have f4 := e4.below hbr e4.lt
    have f5 := e5.below hbr e5.lt
    have hzr := hbr.size
    have hzd := e5.lt
    have hbF : Below w.heap.size w wr := hB.trans (hbr.mono hB.size)
    clear e3 e4 e5 hB
    obtain rfl | rfl | rfl | rfl : i = 0 ∨ i = 1 ∨ i = 2 ∨ i = 3 := by omega
    · have i0 := idx_C0
      rw [show ((0 : Nat) : Int) = 0 from rfl]
      go_upto_region 4 with fail
      obtain ⟨W2, hW2⟩ : ∃ X, X = wr.alloc (.cells #[.string x0, .string y0, .string z0] 131) := ⟨_, rfl⟩
      have hb2 : Below wr.heap.size wr W2 := by rw [hW2]; exact (Below.refl _ _).alloc (Nat.le_refl _) _
      have e8 : BoxN W2 wr.heap.size 131 [.string x0, .string y0, .string z0] := by rw [hW2]; exact BoxN.new _ _ _ _ rfl
      rw [← hW2]
      clear hW2
      have g3 := f3.below hb2 f3.lt
      have g4 := f4.below hb2 f4.lt
      have g5 := f5.below hb2 f5.lt
      have hbF2 : Below w.heap.size w W2 := hbF.trans (hb2.mono hbF.size)
      have hbr2 : Below W.heap.size W W2 := hbr.trans (hb2.mono hbr.size)
      have k0 := e8.cell 0 rfl
      have k1 := e8.cell 1 rfl
      have l0 := g4.cell 0 rfl
      have l1 := g4.cell 1 rfl
      have m0 := g3.cell 3 rfl
      have m1 := g3.cell 4 rfl
      have n0 := g5.cell 0 rfl
      have n1 := g5.cell 1 rfl
      clear f3 f4 f5 g3 g4 g5 e8 hb2 hbF hbr
      have hbF3 : Hid (∀ n, Below w.heap.size w (W2.drewN n)) := fun n => hbF2.trans ((below_drewN W2 n).mono hbF2.size)
      have hbr3 : Hid (∀ n, Below W.heap.size W (W2.drewN n)) := fun n => hbr2.trans ((below_drewN W2 n).mono hbr2.size)
      have HGO : Hid (¬(c0 = a ∧ c1 = b) → (1 ≤ 1 → ¬(c0 = a ∧ c1 = b)) ∧ (2 ≤ 1 → ¬(c1 = a ∧ c2 = b)) ∧ (3 ≤ 1 → ¬(c2 = a ∧ c0 = b))) := fun hne => by
        obtain ⟨n0, n1, n2⟩ := HN.out
        refine ⟨fun _ => ?_, fun h => ?_, fun h => ?_⟩
        · first | exact n0 (by omega) | exact hne
        · first | exact n1 (by omega) | exact hne | exact absurd h (by decide)
        · first | exact n2 (by omega) | exact hne | exact absurd h (by decide)
      rcases HT0.out with ⟨e, e1, e2⟩ | ⟨e, e1 | ⟨e1, e2⟩⟩
      · rcases HU0.out with ⟨e', e3, e4⟩ | ⟨e', e3 | ⟨e3, e4⟩⟩
        · have HF : Hid (0 = res) := by
            obtain ⟨n0, n1, n2⟩ := HN.out
            unfold Hid
            rw [HR.out]; unfold sideL
            rw [if_pos ⟨e, e'⟩]
          clear e e'
          go_wp2_with fail
          go_quiet (fail)
          go_wp2_with fail
          go_ret
          exact ⟨_, rfl, congrArg (Value.int .i64) HF.out, hbF3.out _⟩
        · have HM := Lib.hid (HGO.out fun h => e' h.2)
          clear e e'
          go_wp2_with fail
          go_quiet (fail)
          go_wp2_with fail
          go_roundw
          case rel => exact ⟨1, by go_num, by decide, HM, hbr3.out _⟩
          case measure => simp [RowKit.intOf]
        · have HM := Lib.hid (HGO.out fun h => e' h.2)
          clear e e'
          go_wp2_with fail
          go_quiet (fail)
          go_wp2_with fail
          go_roundw
          case rel => exact ⟨1, by go_num, by decide, HM, hbr3.out _⟩
          case measure => simp [RowKit.intOf]
      · have HM := Lib.hid (HGO.out fun h => e h.1)
        clear e
        go_wp2_with fail
        go_quiet (fail)
        go_wp2_with fail
        go_roundw
        case rel => exact ⟨1, by go_num, by decide, HM, hbr3.out _⟩
        case measure => simp [RowKit.intOf]
      · have HM := Lib.hid (HGO.out fun h => e h.1)
        clear e
        go_wp2_with fail
        go_quiet (fail)
        go_wp2_with fail
        go_roundw
        case rel => exact ⟨1, by go_num, by decide, HM, hbr3.out _⟩
        case measure => simp [RowKit.intOf]
    · have i1 := idx_C1
      rw [show ((1 : Nat) : Int) = 1 from rfl]
      go_upto_region 4 with fail
      obtain ⟨W2, hW2⟩ : ∃ X, X = wr.alloc (.cells #[.string x1, .string y1, .string z1] 131) := ⟨_, rfl⟩
      have hb2 : Below wr.heap.size wr W2 := by rw [hW2]; exact (Below.refl _ _).alloc (Nat.le_refl _) _
      have e8 : BoxN W2 wr.heap.size 131 [.string x1, .string y1, .string z1] := by rw [hW2]; exact BoxN.new _ _ _ _ rfl
      rw [← hW2]
      clear hW2
      have g3 := f3.below hb2 f3.lt
      have g4 := f4.below hb2 f4.lt
      have g5 := f5.below hb2 f5.lt
      have hbF2 : Below w.heap.size w W2 := hbF.trans (hb2.mono hbF.size)
      have hbr2 : Below W.heap.size W W2 := hbr.trans (hb2.mono hbr.size)
      have k0 := e8.cell 0 rfl
      have k1 := e8.cell 1 rfl
      have l0 := g4.cell 0 rfl
      have l1 := g4.cell 1 rfl
      have m0 := g3.cell 6 rfl
      have m1 := g3.cell 7 rfl
      have n0 := g5.cell 0 rfl
      have n1 := g5.cell 1 rfl
      clear f3 f4 f5 g3 g4 g5 e8 hb2 hbF hbr
      have hbF3 : Hid (∀ n, Below w.heap.size w (W2.drewN n)) := fun n => hbF2.trans ((below_drewN W2 n).mono hbF2.size)
      have hbr3 : Hid (∀ n, Below W.heap.size W (W2.drewN n)) := fun n => hbr2.trans ((below_drewN W2 n).mono hbr2.size)
      have HGO : Hid (¬(c1 = a ∧ c2 = b) → (1 ≤ 2 → ¬(c0 = a ∧ c1 = b)) ∧ (2 ≤ 2 → ¬(c1 = a ∧ c2 = b)) ∧ (3 ≤ 2 → ¬(c2 = a ∧ c0 = b))) := fun hne => by
        obtain ⟨n0, n1, n2⟩ := HN.out
        refine ⟨fun _ => ?_, fun h => ?_, fun h => ?_⟩
        · first | exact n0 (by omega) | exact hne
        · first | exact n1 (by omega) | exact hne | exact absurd h (by decide)
        · first | exact n2 (by omega) | exact hne | exact absurd h (by decide)
      rcases HT1.out with ⟨e, e1, e2⟩ | ⟨e, e1 | ⟨e1, e2⟩⟩
      · rcases HU1.out with ⟨e', e3, e4⟩ | ⟨e', e3 | ⟨e3, e4⟩⟩
        · have HF : Hid (1 = res) := by
            obtain ⟨n0, n1, n2⟩ := HN.out
            unfold Hid
            rw [HR.out]; unfold sideL
            rw [if_neg (n0 (by decide)), if_pos ⟨e, e'⟩]
          clear e e'
          go_wp2_with fail
          go_quiet (fail)
          go_wp2_with fail
          go_ret
          exact ⟨_, rfl, congrArg (Value.int .i64) HF.out, hbF3.out _⟩
        · have HM := Lib.hid (HGO.out fun h => e' h.2)
          clear e e'
          go_wp2_with fail
          go_quiet (fail)
          go_wp2_with fail
          go_roundw
          case rel => exact ⟨2, by go_num, by decide, HM, hbr3.out _⟩
          case measure => simp [RowKit.intOf]
        · have HM := Lib.hid (HGO.out fun h => e' h.2)
          clear e e'
          go_wp2_with fail
          go_quiet (fail)
          go_wp2_with fail
          go_roundw
          case rel => exact ⟨2, by go_num, by decide, HM, hbr3.out _⟩
          case measure => simp [RowKit.intOf]
      · have HM := Lib.hid (HGO.out fun h => e h.1)
        clear e
        go_wp2_with fail
        go_quiet (fail)
        go_wp2_with fail
        go_roundw
        case rel => exact ⟨2, by go_num, by decide, HM, hbr3.out _⟩
        case measure => simp [RowKit.intOf]
      · have HM := Lib.hid (HGO.out fun h => e h.1)
        clear e
        go_wp2_with fail
        go_quiet (fail)
        go_wp2_with fail
        go_roundw
        case rel => exact ⟨2, by go_num, by decide, HM, hbr3.out _⟩
        case measure => simp [RowKit.intOf]
    · have i2 := idx_C2
      rw [show ((2 : Nat) : Int) = 2 from rfl]
      go_upto_region 4 with fail
      obtain ⟨W2, hW2⟩ : ∃ X, X = wr.alloc (.cells #[.string x2, .string y2, .string z2] 131) := ⟨_, rfl⟩
      have hb2 : Below wr.heap.size wr W2 := by rw [hW2]; exact (Below.refl _ _).alloc (Nat.le_refl _) _
      have e8 : BoxN W2 wr.heap.size 131 [.string x2, .string y2, .string z2] := by rw [hW2]; exact BoxN.new _ _ _ _ rfl
      rw [← hW2]
      clear hW2
      have g3 := f3.below hb2 f3.lt
      have g4 := f4.below hb2 f4.lt
      have g5 := f5.below hb2 f5.lt
      have hbF2 : Below w.heap.size w W2 := hbF.trans (hb2.mono hbF.size)
      have hbr2 : Below W.heap.size W W2 := hbr.trans (hb2.mono hbr.size)
      have k0 := e8.cell 0 rfl
      have k1 := e8.cell 1 rfl
      have l0 := g4.cell 0 rfl
      have l1 := g4.cell 1 rfl
      have m0 := g3.cell 0 rfl
      have m1 := g3.cell 1 rfl
      have n0 := g5.cell 0 rfl
      have n1 := g5.cell 1 rfl
      clear f3 f4 f5 g3 g4 g5 e8 hb2 hbF hbr
      have hbF3 : Hid (∀ n, Below w.heap.size w (W2.drewN n)) := fun n => hbF2.trans ((below_drewN W2 n).mono hbF2.size)
      have hbr3 : Hid (∀ n, Below W.heap.size W (W2.drewN n)) := fun n => hbr2.trans ((below_drewN W2 n).mono hbr2.size)
      have HGO : Hid (¬(c2 = a ∧ c0 = b) → (1 ≤ 3 → ¬(c0 = a ∧ c1 = b)) ∧ (2 ≤ 3 → ¬(c1 = a ∧ c2 = b)) ∧ (3 ≤ 3 → ¬(c2 = a ∧ c0 = b))) := fun hne => by
        obtain ⟨n0, n1, n2⟩ := HN.out
        refine ⟨fun _ => ?_, fun h => ?_, fun h => ?_⟩
        · first | exact n0 (by omega) | exact hne
        · first | exact n1 (by omega) | exact hne | exact absurd h (by decide)
        · first | exact n2 (by omega) | exact hne | exact absurd h (by decide)
      rcases HT2.out with ⟨e, e1, e2⟩ | ⟨e, e1 | ⟨e1, e2⟩⟩
      · rcases HU2.out with ⟨e', e3, e4⟩ | ⟨e', e3 | ⟨e3, e4⟩⟩
        · have HF : Hid (2 = res) := by
            obtain ⟨n0, n1, n2⟩ := HN.out
            unfold Hid
            rw [HR.out]; unfold sideL
            rw [if_neg (n0 (by decide)), if_neg (n1 (by decide)), if_pos ⟨e, e'⟩]
          clear e e'
          go_wp2_with fail
          go_quiet (fail)
          go_wp2_with fail
          go_ret
          exact ⟨_, rfl, congrArg (Value.int .i64) HF.out, hbF3.out _⟩
        · have HM := Lib.hid (HGO.out fun h => e' h.2)
          clear e e'
          go_wp2_with fail
          go_quiet (fail)
          go_wp2_with fail
          go_roundw
          case rel => exact ⟨3, by go_num, by decide, HM, hbr3.out _⟩
          case measure => simp [RowKit.intOf]
        · have HM := Lib.hid (HGO.out fun h => e' h.2)
          clear e e'
          go_wp2_with fail
          go_quiet (fail)
          go_wp2_with fail
          go_roundw
          case rel => exact ⟨3, by go_num, by decide, HM, hbr3.out _⟩
          case measure => simp [RowKit.intOf]
      · have HM := Lib.hid (HGO.out fun h => e h.1)
        clear e
        go_wp2_with fail
        go_quiet (fail)
        go_wp2_with fail
        go_roundw
        case rel => exact ⟨3, by go_num, by decide, HM, hbr3.out _⟩
        case measure => simp [RowKit.intOf]
      · have HM := Lib.hid (HGO.out fun h => e h.1)
        clear e
        go_wp2_with fail
        go_quiet (fail)
        go_wp2_with fail
        go_roundw
        case rel => exact ⟨3, by go_num, by decide, HM, hbr3.out _⟩
        case measure => simp [RowKit.intOf]
    · have HF : Hid (-1 = res) := by
        obtain ⟨n0, n1, n2⟩ := HN.out
        unfold Hid
        rw [HR.out]; unfold sideL
        rw [if_neg (n0 (by decide)), if_neg (n1 (by decide)), if_neg (n2 (by decide))]
      rw [show ((3 : Nat) : Int) = 3 from rfl]
      go_wp2_with fail
      go_ret
      exact ⟨_, rfl, congrArg (Value.int .i64) HF.out, hbF⟩

end Go.Proofs.YtjfjkiibmfgplaaGreatDoor
