import Derived.Test.YtbfcmipplhkkeaaGreatDoorRM3
/- The walks over field.toward, field.side. Parts of a triangle above a height Level lines Plain The walk over field.cut. -/
set_option maxHeartbeats 4000000
set_option maxRecDepth 100000
namespace Go.Proofs.YtbfcmipplhkkeaaGreatDoor
open Go.RowKit Go.Lib
abbrev Cor := PtQ × Rat
def towQ (a b k : Rat) : Rat := a + k * (b - a)
theorem ftoward_any (a b x : Rat) (k : Nat) (hk : 0 < k) (hk2 : k <= 5000) (ha : Sz k a) (hb : Sz k b) (hx : Sz k x) (w : World) (hg : Good w) :
 Calls Tryz.prog 60 #[.string (RS a), .string (RS b), .string (RS x)] w (Ret (fun r _ => r = .string (RS (towQ a b x))) w) := by
 have d1 : Sz (2 * k + 1) (b - a) := (hb.sub ha).mono (by omega);have d2 : Sz (3 * k + 1) (x * (b - a)) := (hx.mul d1).mono (by omega);have H1 := hid fun w hg => ratSub_any b a k hk (by omega) hb ha w hg
 have H2 := hid fun w hg => ratMul_any x (b - a) (2 * k + 1) (by omega) (by omega) (hx.mono (by omega)) d1 w hg
 have H3 := hid fun w hg => ratAdd_any a (x * (b - a)) (3 * k + 1) (by omega) (by omega) (ha.mono (by omega)) d2 w hg
 unfold towQ;generalize a + x * (b - a) = r at *;generalize x * (b - a) = q at *;generalize b - a = p at *;clear ha hb hx d1 d2;go_enter Tryz.func60, Tryz.ntmps60;go_wp2_with fail;refine (H1.out _ hg).mono ?_;rintro e w1 ⟨_, rfl, rfl, hb1⟩;go_wp2_with fail;refine (H2.out w1 (hg.below hb1)).mono ?_;rintro e w2 ⟨_, rfl, rfl, hb2⟩;have hB2 := hb1.trans (hb2.mono hb1.size);go_wp2_with fail;refine (H3.out w2 (hg.below hB2)).mono ?_;rintro e w3 ⟨_, rfl, rfl, hb3⟩;have hB3 := hB2.trans (hb3.mono hB2.size);go_wp2_with fail;go_ret;exact ⟨_, rfl, rfl, hB3⟩
theorem idx_C0 (a b c d e f g h i : Value) (w : World) : (Instr.index 90 (.agg #[a, b, c, d, e, f, g, h, i]) (.int .i64 0)).run Tryz.prog w = .ok (.agg #[a, b, c]) w := by kernel_rfl
theorem idx_C1 (a b c d e f g h i : Value) (w : World) : (Instr.index 90 (.agg #[a, b, c, d, e, f, g, h, i]) (.int .i64 1)).run Tryz.prog w = .ok (.agg #[d, e, f]) w := by kernel_rfl
theorem idx_C2 (a b c d e f g h i : Value) (w : World) : (Instr.index 90 (.agg #[a, b, c, d, e, f, g, h, i]) (.int .i64 2)).run Tryz.prog w = .ok (.agg #[g, h, i]) w := by kernel_rfl
def sideL (c0 c1 c2 a b : PtQ) : Int := if c0 = a /\ c1 = b then 0 else if c1 = a /\ c2 = b then 1 else if c2 = a /\ c0 = b then 2 else -1
theorem side_any (c0 c1 c2 a b : PtQ) (z0 z1 z2 : ByteArray) (w : World) :
 Calls Tryz.prog 30 #[.agg #[.string (RS c0.1), .string (RS c0.2), .string z0, .string (RS c1.1), .string (RS c1.2), .string z1, .string (RS c2.1), .string (RS c2.2), .string z2], .agg #[.string (RS a.1), .string (RS a.2)], .agg #[.string (RS b.1), .string (RS b.2)]] w (Ret (fun r _ => r = .int .i64 (sideL c0 c1 c2 a b)) w) := by
 have HT0 := hid (two_pts c0 a);have HT1 := hid (two_pts c1 a);have HT2 := hid (two_pts c2 a);have HU0 := hid (two_pts c1 b);have HU1 := hid (two_pts c2 b);have HU2 := hid (two_pts c0 b);obtain ⟨res, hres⟩ : ∃ r, r = sideL c0 c1 c2 a b := ⟨_, rfl⟩;rw [<- hres];have HR := hid hres;clear hres;generalize RS c0.1 = x0 at *;generalize RS c0.2 = y0 at *;generalize RS c1.1 = x1 at *;generalize RS c1.2 = y1 at *;generalize RS c2.1 = x2 at *;generalize RS c2.2 = y2 at *;generalize RS a.1 = ax at *;generalize RS a.2 = ay at *;generalize RS b.1 = bx at *;generalize RS b.2 = by' at *;go_enter Tryz.func30, Tryz.ntmps30;go_wp2_with fail;obtain ⟨W, hW⟩ : ∃ W, W = ((w.alloc (.cells #[.string x0, .string y0, .string z0, .string x1, .string y1, .string z1, .string x2, .string y2, .string z2] 90)).alloc (.cells #[.string ax, .string ay] 50)).alloc (.cells #[.string bx, .string by'] 50) := ⟨_, rfl⟩;have hB : Below w.heap.size w W := by rw [hW]; exact (((Below.refl _ _).alloc (Nat.le_refl _) _).alloc (by simp) _).alloc (by simp; omega) _
 have e5 : BoxN W (w.heap.size + 1 + 1) 50 [.string bx, .string by'] := by rw [hW]; exact BoxN.new _ _ _ _ (by simp)
 have e4 : BoxN W (w.heap.size + 1) 50 [.string ax, .string ay] := by
  rw [hW];have h1 := (BoxN.new (w.alloc (.cells #[.string x0, .string y0, .string z0, .string x1, .string y1, .string z1, .string x2, .string y2, .string z2] 90)) #[.string ax, .string ay] 50 (w.heap.size + 1) (by simp));exact h1.below (zal _ _) h1.lt
 have e3 : BoxN W w.heap.size 90 [.string x0, .string y0, .string z0, .string x1, .string y1, .string z1, .string x2, .string y2, .string z2] := by
  rw [hW];have h1 := (BoxN.new w #[.string x0, .string y0, .string z0, .string x1, .string y1, .string z1, .string x2, .string y2, .string z2] 90 _ rfl);exact h1.below (((Below.refl _ _).alloc (Nat.le_refl _) _).alloc (by simp) _) h1.lt
 rw [<- hW];clear hW;have hzW := hB.size;go_loopw [10] (fun t10 wr => ∃ (i : Nat), t10 = .int .i64 i /\ i <= 3 /\ Hid ((1 <= i -> ¬(c0 = a /\ c1 = b)) /\ (2 <= i -> ¬(c1 = a /\ c2 = b)) /\ (3 <= i -> ¬(c2 = a /\ c0 = b))) /\ Below W.heap.size W wr) (fun t10 _ => 3 - (RowKit.intOf t10).toNat)
 case atStart => exact ⟨0, rfl, Nat.zero_le _, ⟨fun h => absurd h (by decide), fun h => absurd h (by decide), fun h => absurd h (by decide)⟩, Below.refl _ _⟩
 case round =>
  obtain ⟨i, rfl, hi, HN, hbr⟩ := hrel;have f3 := e3.below hbr e3.lt;have f4 := e4.below hbr e4.lt;have f5 := e5.below hbr e5.lt;have hzr := hbr.size;have hzd := e5.lt;have hbF : Below w.heap.size w wr := hB.trans (hbr.mono hB.size);clear e3 e4 e5 hB;obtain rfl | rfl | rfl | rfl : i = 0 \/ i = 1 \/ i = 2 \/ i = 3 := by omega
  ·have i0 := idx_C0
   rw [show ((0 : Nat) : Int) = 0 from rfl];go_upto_region 4 with fail;obtain ⟨W2, hW2⟩ : ∃ X, X = wr.alloc (.cells #[.string x0, .string y0, .string z0] 89) := ⟨_, rfl⟩;have hb2 : Below wr.heap.size wr W2 := by rw [hW2]; exact zal _ _
   have e8 : BoxN W2 wr.heap.size 89 [.string x0, .string y0, .string z0] := by rw [hW2]; exact BoxN.new _ _ _ _ rfl
   rw [<- hW2];clear hW2;have g3 := f3.below hb2 f3.lt;have g4 := f4.below hb2 f4.lt;have g5 := f5.below hb2 f5.lt;have hbF2 : Below w.heap.size w W2 := hbF.trans (hb2.mono hbF.size);have hbr2 : Below W.heap.size W W2 := hbr.trans (hb2.mono hbr.size);have k0 := e8.cell 0 rfl;have k1 := e8.cell 1 rfl;have l0 := g4.cell 0 rfl;have l1 := g4.cell 1 rfl;have m0 := g3.cell 3 rfl;have m1 := g3.cell 4 rfl;have n0 := g5.cell 0 rfl;have n1 := g5.cell 1 rfl;clear f3 f4 f5 g3 g4 g5 e8 hb2 hbF hbr;have hbF3 : Hid (∀ n, Below w.heap.size w (W2.drewN n)) := fun n => hbF2.trans ((below_drewN W2 n).mono hbF2.size);have hbr3 : Hid (∀ n, Below W.heap.size W (W2.drewN n)) := fun n => hbr2.trans ((below_drewN W2 n).mono hbr2.size);have HGO : Hid (¬(c0 = a /\ c1 = b) -> (1 <= 1 -> ¬(c0 = a /\ c1 = b)) /\ (2 <= 1 -> ¬(c1 = a /\ c2 = b)) /\ (3 <= 1 -> ¬(c2 = a /\ c0 = b))) := fun hne => by
    obtain ⟨n0, n1, n2⟩ := HN.out;refine ⟨fun _ => ?_, fun h => ?_, fun h => ?_⟩
    ·first | exact n0 (by omega) | exact hne
    ·first | exact n1 (by omega) | exact hne | exact absurd h (by decide)
    ·first | exact n2 (by omega) | exact hne | exact absurd h (by decide)
   rcases HT0.out with ⟨e, e1, e2⟩ | ⟨e, e1 | ⟨e1, e2⟩⟩
   ·rcases HU0.out with ⟨e', e3, e4⟩ | ⟨e', e3 | ⟨e3, e4⟩⟩
    ·have HF : Hid (0 = res) := by
      obtain ⟨n0, n1, n2⟩ := HN.out;unfold Hid;rw [HR.out]; unfold sideL;rw [if_pos ⟨e, e'⟩]
     clear e e';go_wp2_with fail;go_quiet (fail);go_wp2_with fail;go_ret;exact ⟨_, rfl, congrArg (Value.int .i64) HF.out, hbF3.out _⟩
    ·have HM := hid (HGO.out fun h => e' h.2)
     clear e e';go_wp2_with fail;go_quiet (fail);go_wp2_with fail;go_roundw
     case rel => exact ⟨1, by go_num, by decide, HM, hbr3.out _⟩
     case measure => simp [RowKit.intOf]
    ·have HM := hid (HGO.out fun h => e' h.2)
     clear e e';go_wp2_with fail;go_quiet (fail);go_wp2_with fail;go_roundw
     case rel => exact ⟨1, by go_num, by decide, HM, hbr3.out _⟩
     case measure => simp [RowKit.intOf]
   ·have HM := hid (HGO.out fun h => e h.1)
    clear e;go_wp2_with fail;go_quiet (fail);go_wp2_with fail;go_roundw
    case rel => exact ⟨1, by go_num, by decide, HM, hbr3.out _⟩
    case measure => simp [RowKit.intOf]
   ·have HM := hid (HGO.out fun h => e h.1)
    clear e;go_wp2_with fail;go_quiet (fail);go_wp2_with fail;go_roundw
    case rel => exact ⟨1, by go_num, by decide, HM, hbr3.out _⟩
    case measure => simp [RowKit.intOf]
  ·have i1 := idx_C1
   rw [show ((1 : Nat) : Int) = 1 from rfl];go_upto_region 4 with fail;obtain ⟨W2, hW2⟩ : ∃ X, X = wr.alloc (.cells #[.string x1, .string y1, .string z1] 89) := ⟨_, rfl⟩;have hb2 : Below wr.heap.size wr W2 := by rw [hW2]; exact zal _ _
   have e8 : BoxN W2 wr.heap.size 89 [.string x1, .string y1, .string z1] := by rw [hW2]; exact BoxN.new _ _ _ _ rfl
   rw [<- hW2];clear hW2;have g3 := f3.below hb2 f3.lt;have g4 := f4.below hb2 f4.lt;have g5 := f5.below hb2 f5.lt;have hbF2 : Below w.heap.size w W2 := hbF.trans (hb2.mono hbF.size);have hbr2 : Below W.heap.size W W2 := hbr.trans (hb2.mono hbr.size);have k0 := e8.cell 0 rfl;have k1 := e8.cell 1 rfl;have l0 := g4.cell 0 rfl;have l1 := g4.cell 1 rfl;have m0 := g3.cell 6 rfl;have m1 := g3.cell 7 rfl;have n0 := g5.cell 0 rfl;have n1 := g5.cell 1 rfl;clear f3 f4 f5 g3 g4 g5 e8 hb2 hbF hbr;have hbF3 : Hid (∀ n, Below w.heap.size w (W2.drewN n)) := fun n => hbF2.trans ((below_drewN W2 n).mono hbF2.size);have hbr3 : Hid (∀ n, Below W.heap.size W (W2.drewN n)) := fun n => hbr2.trans ((below_drewN W2 n).mono hbr2.size);have HGO : Hid (¬(c1 = a /\ c2 = b) -> (1 <= 2 -> ¬(c0 = a /\ c1 = b)) /\ (2 <= 2 -> ¬(c1 = a /\ c2 = b)) /\ (3 <= 2 -> ¬(c2 = a /\ c0 = b))) := fun hne => by
    obtain ⟨n0, n1, n2⟩ := HN.out;refine ⟨fun _ => ?_, fun h => ?_, fun h => ?_⟩
    ·first | exact n0 (by omega) | exact hne
    ·first | exact n1 (by omega) | exact hne | exact absurd h (by decide)
    ·first | exact n2 (by omega) | exact hne | exact absurd h (by decide)
   rcases HT1.out with ⟨e, e1, e2⟩ | ⟨e, e1 | ⟨e1, e2⟩⟩
   ·rcases HU1.out with ⟨e', e3, e4⟩ | ⟨e', e3 | ⟨e3, e4⟩⟩
    ·have HF : Hid (1 = res) := by
      obtain ⟨n0, n1, n2⟩ := HN.out;unfold Hid;rw [HR.out]; unfold sideL;rw [if_neg (n0 (by decide)), if_pos ⟨e, e'⟩]
     clear e e';go_wp2_with fail;go_quiet (fail);go_wp2_with fail;go_ret;exact ⟨_, rfl, congrArg (Value.int .i64) HF.out, hbF3.out _⟩
    ·have HM := hid (HGO.out fun h => e' h.2)
     clear e e';go_wp2_with fail;go_quiet (fail);go_wp2_with fail;go_roundw
     case rel => exact ⟨2, by go_num, by decide, HM, hbr3.out _⟩
     case measure => simp [RowKit.intOf]
    ·have HM := hid (HGO.out fun h => e' h.2)
     clear e e';go_wp2_with fail;go_quiet (fail);go_wp2_with fail;go_roundw
     case rel => exact ⟨2, by go_num, by decide, HM, hbr3.out _⟩
     case measure => simp [RowKit.intOf]
   ·have HM := hid (HGO.out fun h => e h.1)
    clear e;go_wp2_with fail;go_quiet (fail);go_wp2_with fail;go_roundw
    case rel => exact ⟨2, by go_num, by decide, HM, hbr3.out _⟩
    case measure => simp [RowKit.intOf]
   ·have HM := hid (HGO.out fun h => e h.1)
    clear e;go_wp2_with fail;go_quiet (fail);go_wp2_with fail;go_roundw
    case rel => exact ⟨2, by go_num, by decide, HM, hbr3.out _⟩
    case measure => simp [RowKit.intOf]
  ·have i2 := idx_C2
   rw [show ((2 : Nat) : Int) = 2 from rfl];go_upto_region 4 with fail;obtain ⟨W2, hW2⟩ : ∃ X, X = wr.alloc (.cells #[.string x2, .string y2, .string z2] 89) := ⟨_, rfl⟩;have hb2 : Below wr.heap.size wr W2 := by rw [hW2]; exact zal _ _
   have e8 : BoxN W2 wr.heap.size 89 [.string x2, .string y2, .string z2] := by rw [hW2]; exact BoxN.new _ _ _ _ rfl
   rw [<- hW2];clear hW2;have g3 := f3.below hb2 f3.lt;have g4 := f4.below hb2 f4.lt;have g5 := f5.below hb2 f5.lt;have hbF2 : Below w.heap.size w W2 := hbF.trans (hb2.mono hbF.size);have hbr2 : Below W.heap.size W W2 := hbr.trans (hb2.mono hbr.size);have k0 := e8.cell 0 rfl;have k1 := e8.cell 1 rfl;have l0 := g4.cell 0 rfl;have l1 := g4.cell 1 rfl;have m0 := g3.cell 0 rfl;have m1 := g3.cell 1 rfl;have n0 := g5.cell 0 rfl;have n1 := g5.cell 1 rfl;clear f3 f4 f5 g3 g4 g5 e8 hb2 hbF hbr;have hbF3 : Hid (∀ n, Below w.heap.size w (W2.drewN n)) := fun n => hbF2.trans ((below_drewN W2 n).mono hbF2.size);have hbr3 : Hid (∀ n, Below W.heap.size W (W2.drewN n)) := fun n => hbr2.trans ((below_drewN W2 n).mono hbr2.size);have HGO : Hid (¬(c2 = a /\ c0 = b) -> (1 <= 3 -> ¬(c0 = a /\ c1 = b)) /\ (2 <= 3 -> ¬(c1 = a /\ c2 = b)) /\ (3 <= 3 -> ¬(c2 = a /\ c0 = b))) := fun hne => by
    obtain ⟨n0, n1, n2⟩ := HN.out;refine ⟨fun _ => ?_, fun h => ?_, fun h => ?_⟩
    ·first | exact n0 (by omega) | exact hne
    ·first | exact n1 (by omega) | exact hne | exact absurd h (by decide)
    ·first | exact n2 (by omega) | exact hne | exact absurd h (by decide)
   rcases HT2.out with ⟨e, e1, e2⟩ | ⟨e, e1 | ⟨e1, e2⟩⟩
   ·rcases HU2.out with ⟨e', e3, e4⟩ | ⟨e', e3 | ⟨e3, e4⟩⟩
    ·have HF : Hid (2 = res) := by
      obtain ⟨n0, n1, n2⟩ := HN.out;unfold Hid;rw [HR.out]; unfold sideL;rw [if_neg (n0 (by decide)), if_neg (n1 (by decide)), if_pos ⟨e, e'⟩]
     clear e e';go_wp2_with fail;go_quiet (fail);go_wp2_with fail;go_ret;exact ⟨_, rfl, congrArg (Value.int .i64) HF.out, hbF3.out _⟩
    ·have HM := hid (HGO.out fun h => e' h.2)
     clear e e';go_wp2_with fail;go_quiet (fail);go_wp2_with fail;go_roundw
     case rel => exact ⟨3, by go_num, by decide, HM, hbr3.out _⟩
     case measure => simp [RowKit.intOf]
    ·have HM := hid (HGO.out fun h => e' h.2)
     clear e e';go_wp2_with fail;go_quiet (fail);go_wp2_with fail;go_roundw
     case rel => exact ⟨3, by go_num, by decide, HM, hbr3.out _⟩
     case measure => simp [RowKit.intOf]
   ·have HM := hid (HGO.out fun h => e h.1)
    clear e;go_wp2_with fail;go_quiet (fail);go_wp2_with fail;go_roundw
    case rel => exact ⟨3, by go_num, by decide, HM, hbr3.out _⟩
    case measure => simp [RowKit.intOf]
   ·have HM := hid (HGO.out fun h => e h.1)
    clear e;go_wp2_with fail;go_quiet (fail);go_wp2_with fail;go_roundw
    case rel => exact ⟨3, by go_num, by decide, HM, hbr3.out _⟩
    case measure => simp [RowKit.intOf]
  ·have HF : Hid (-1 = res) := by
    obtain ⟨n0, n1, n2⟩ := HN.out;unfold Hid;rw [HR.out]; unfold sideL;rw [if_neg (n0 (by decide)), if_neg (n1 (by decide)), if_neg (n2 (by decide))]
   rw [show ((3 : Nat) : Int) = 3 from rfl];go_wp2_with fail;go_ret;exact ⟨_, rfl, congrArg (Value.int .i64) HF.out, hbF⟩
def cellC (c : Cor) : List Value := [.string (RS c.1.1), .string (RS c.1.2), .string (RS c.2)]
def cellsC (l : List Cor) : List Value := l.flatMap cellC
def RdK (w : World) (v : Value) (l : List Cor) : Prop := RdC 3 w v l.length (cellsC l)
theorem cellsC_snoc (l : List Cor) (c : Cor) : cellsC (l ++ [c]) = cellsC l ++ [.string (RS c.1.1), .string (RS c.1.2), .string (RS c.2)] := by simp [cellsC, cellC]
theorem RdK.open {w : World} {v : Value} {l : List Cor} (h : RdK w v l) : ∃ p c, v = .slice p l.length c /\ l.length <= c /\ c <= maxLen /\
 (l ≠ [] -> ∃ b off, p = some ⟨b, off, none⟩ /\ b < w.heap.size /\ ∀ (i : Nat) (hi : i < l.length), w.cell? ⟨b, off + i * 3, none⟩ = some (.string (RS l[i].1.1)) /\ w.cell? ⟨b, off + i * 3 + 1, none⟩ = some (.string (RS l[i].1.2)) /\ w.cell? ⟨b, off + i * 3 + 2, none⟩ = some (.string (RS l[i].2))) := by
 obtain ⟨p, c, hv, h1, h2, h3, h4⟩ := h;refine ⟨p, c, hv, h1, h2, fun hne => ?_⟩;obtain ⟨b, off, hp, hc⟩ := h4 (by
  cases l with
  | nil => exact absurd rfl hne
  | cons a l => simp [cellsC, cellC])
 have hcell : ∀ (i : Nat) (hi : i < l.length), w.cell? ⟨b, off + i * 3, none⟩ = some (.string (RS l[i].1.1)) /\ w.cell? ⟨b, off + i * 3 + 1, none⟩ = some (.string (RS l[i].1.2)) /\ w.cell? ⟨b, off + i * 3 + 2, none⟩ = some (.string (RS l[i].2)) := fun i hi => by
  have e := getElem?_flatMap_const cellC 3 (fun _ => rfl) l i;refine ⟨?_, ?_, ?_⟩
  ·have := hc (i * 3) (.string (RS l[i].1.1)) (by have := e 0 (by omega); rw [Nat.add_zero] at this; unfold cellsC; rw [this, List.getElem?_eq_getElem hi]; rfl)
   exact this
  ·have := hc (i * 3 + 1) (.string (RS l[i].1.2)) (by have := e 1 (by omega); unfold cellsC; rw [this, List.getElem?_eq_getElem hi]; rfl)
   rw [<- Nat.add_assoc] at this;exact this
  ·have := hc (i * 3 + 2) (.string (RS l[i].2)) (by have := e 2 (by omega); unfold cellsC; rw [this, List.getElem?_eq_getElem hi]; rfl)
   rw [<- Nat.add_assoc] at this;exact this
 exact ⟨b, off, hp, World.block_lt_of_cell? w _ (hcell 0 (List.length_pos_iff.2 hne)).1, hcell⟩
def crossK (a b : Cor) (z : Rat) : Cor := ((towQ a.1.1 b.1.1 ((a.2 - z) / ((a.2 - z) - (b.2 - z))), towQ a.1.2 b.1.2 ((a.2 - z) / ((a.2 - z) - (b.2 - z)))), z)
def cutS (a b : Cor) (z : Rat) : List Cor := (if 0 <= (a.2 - z).num.sign then [a] else []) ++ (if (a.2 - z).num.sign * (b.2 - z).num.sign < 0 then [crossK a b z] else [])
def corA (c0 c1 c2 : Cor) : Nat -> Cor | 0 => c0 | 1 => c1 | _ => c2
def corB (c0 c1 c2 : Cor) : Nat -> Cor | 0 => c1 | 1 => c2 | _ => c0
def cutTo (c0 c1 c2 : Cor) (z : Rat) : Nat -> List Cor | 0 => [] | i + 1 => cutTo c0 c1 c2 z i ++ cutS (corA c0 c1 c2 i) (corB c0 c1 c2 i) z
def someTo (c0 c1 c2 : Cor) (z : Rat) : Nat -> Bool | 0 => false | i + 1 => someTo c0 c1 c2 z i || decide (0 < ((corA c0 c1 c2 i).2 - z).num.sign)
def cutL (c0 c1 c2 : Cor) (z : Rat) : List Cor := if someTo c0 c1 c2 z 3 then cutTo c0 c1 c2 z 3 else []
theorem cutS_len (a b : Cor) (z : Rat) : (cutS a b z).length <= 2 := by
 unfold cutS;rw [List.length_append];split <;> split <;> simp
theorem cutTo_len (c0 c1 c2 : Cor) (z : Rat) : ∀ i, (cutTo c0 c1 c2 z i).length <= 2 * i
 | 0 => by simp [cutTo]
 | i + 1 => by
   have h1 := cutTo_len c0 c1 c2 z i;have h2 := cutS_len (corA c0 c1 c2 i) (corB c0 c1 c2 i) z;unfold cutTo;rw [List.length_append];omega
theorem cutTo_ne (c0 c1 c2 : Cor) (z : Rat) : ∀ i, someTo c0 c1 c2 z i = true -> cutTo c0 c1 c2 z i ≠ []
 | 0, h => by simp [someTo] at h
 | i + 1, h => by
   unfold someTo at h;rw [Bool.or_eq_true] at h;unfold cutTo;rcases h with h | h
   ·intro e
    exact cutTo_ne c0 c1 c2 z i h (List.append_eq_nil_iff.1 e).1
   ·have h1 := of_decide_eq_true h
    intro e;have e2 := (List.append_eq_nil_iff.1 e).2;unfold cutS at e2;rw [if_pos (by omega)] at e2;simp at e2
theorem str_zero_test (q : Rat) : (RS q).toList = [48] ↔ q.num.sign = 0 := by
 have h := RS_eq48 q;rw [Int.sign_eq_zero_iff_zero, Rat.num_eq_zero];by_cases hq : q = 0
 ·rw [decide_eq_true hq] at h
  exact ⟨fun _ => hq, fun _ => by simpa using h⟩
 ·rw [decide_eq_false hq] at h
  exact ⟨fun e => by rw [e] at h; simp at h, fun e => absurd e hq⟩
theorem sign3 (q : Rat) : q.num.sign = -1 \/ q.num.sign = 0 \/ q.num.sign = 1 := by
 rcases Int.lt_trichotomy q.num 0 with h | h | h
 ·exact .inl (Int.sign_eq_neg_one_of_neg h)
 ·exact .inr (.inl (by rw [h]; rfl))
 ·exact .inr (.inr (Int.sign_eq_one_of_pos h))
theorem info_corner : ((Tryz.prog).info? 89).map (fun i => (i.zero, i.size, i.bytes)) = some (some (.agg #[.string ⟨#[]⟩, .string ⟨#[]⟩, .string ⟨#[]⟩]), 3, 48) := by kernel_rfl
theorem cell_three (w : World) (x y z : Value) (E : Nat) : ∀ (j : Nat) (u : Value), [x, y, z][j]? = some u -> (w.alloc (.cells #[x, y, z] E)).cell? ((⟨w.heap.size, 0, none⟩ : Addr).add j) = some u := World.news_of_block (cs := #[x, y, z]) (t := E) (fr := (0, 0)) (World.alloc_heap_new w _)
theorem three_str (x y z : ByteArray) : ∀ u ∈ [Value.string x, .string y, .string z], u.oneCell' = true := by
 intro u hu; simp at hu; rcases hu with rfl | rfl | rfl <;> rfl
abbrev Seg := Int × PtQ × PtQ
def cellG (s : Seg) : List Value := [.int .i64 s.1, .string (RS s.2.1.1), .string (RS s.2.1.2), .string (RS s.2.2.1), .string (RS s.2.2.2)]
def cellsG (l : List Seg) : List Value := l.flatMap cellG
theorem cellsG_snoc (l : List Seg) (s : Seg) : cellsG (l ++ [s]) = cellsG l ++ [.int .i64 s.1, .string (RS s.2.1.1), .string (RS s.2.1.2), .string (RS s.2.2.1), .string (RS s.2.2.2)] := by simp [cellsG, cellG]
def nbI (T : List Tri) (s : Edge) : Int := match (ownL T).find? (fun x => x.1 == revE s) with | some x => x.2 | none => -1
theorem ownL_ix {T : List Tri} {x : Edge × Int} (h : x ∈ ownL T) : ∃ j : Nat, x.2 = (j : Int) /\ j < T.length := by
 unfold ownL at h;obtain ⟨y, hy, hx⟩ := List.mem_flatMap.1 h;obtain ⟨s, _, rfl⟩ := List.mem_map.1 hx;obtain ⟨_, h2, _⟩ := List.mem_zipIdx hy;exact ⟨y.2, rfl, by omega⟩
theorem nbI_lt {T : List Tri} {s : Edge} (h : 0 <= nbI T s) : ∃ j : Nat, nbI T s = (j : Int) /\ j < T.length := by
 unfold nbI at h ⊢;cases e : (ownL T).find? (fun x => x.1 == revE s) with
 | none => rw [e] at h; exact absurd h (by decide)
 | some x => exact ownL_ix (List.mem_of_find?_eq_some e)
theorem nbI_some {T : List Tri} {s : Edge} (h : revE s ∈ (ownL T).map (·.1)) : (revE s, nbI T s) ∈ ownL T := by
 unfold nbI;cases e : (ownL T).find? (fun x => x.1 == revE s) with
 | none =>
   obtain ⟨x, hx, hx2⟩ := List.mem_map.1 h;have := List.find?_eq_none.1 e x hx;simp [hx2] at this
 | some x =>
   have h1 := List.mem_of_find?_eq_some e;have h2 := List.find?_some e;simp at h2;rw [<- h2]; exact h1
theorem nbI_none {T : List Tri} {s : Edge} (h : revE s ∉ (ownL T).map (·.1)) : nbI T s = -1 := by
 unfold nbI;cases e : (ownL T).find? (fun x => x.1 == revE s) with
 | none => rfl
 | some x =>
   have h1 := List.mem_of_find?_eq_some e;have h2 := List.find?_some e;simp at h2;exact absurd (List.mem_map.2 ⟨x, h1, h2⟩) h
def corP (P : List PtQ) (F : List Rat) (z : Int) : Cor := (ptI P z, hI F z)
def partT (P : List PtQ) (F : List Rat) (z : Rat) (tr : Tri) : List Cor := cutL (corP P F tr.1) (corP P F tr.2.1) (corP P F tr.2.2) z
def sideT (P : List PtQ) (tr : Tri) (a b : PtQ) : Int := sideL (ptI P tr.1) (ptI P tr.2.1) (ptI P tr.2.2) a b
def nbT (T : List Tri) (tr : Tri) (k : Int) : Int := nbI T (if k = 0 then sideK tr 0 else if k = 1 then sideK tr 1 else sideK tr 2)
def triI (T : List Tri) (j : Int) : Tri := T[j.toNat]?.getD (0, 0, 0)
theorem triI_nat (T : List Tri) (m : Nat) (h : m < T.length) : triI T (m : Int) = T[m] := by
 unfold triI; rw [Int.toNat_natCast, List.getElem?_eq_getElem h]; rfl
def corI (l : List Cor) (i : Nat) : Cor := l[i]?.getD ((0, 0), 0)
theorem corI_nat (l : List Cor) (i : Nat) (h : i < l.length) : corI l i = l[i] := by
 unfold corI; rw [List.getElem?_eq_getElem h]; rfl
def keepB (P : List PtQ) (T : List Tri) (F : List Rat) (z : Rat) (tr : Tri) (a b : Cor) : Bool :=
 decide (a.2 = z) && decide (b.2 = z) && (decide (sideT P tr a.1 b.1 < 0) || (decide (0 <= nbT T tr (sideT P tr a.1 b.1)) && (partT P F z (triI T (nbT T tr (sideT P tr a.1 b.1)))).isEmpty))
def segA (P : List PtQ) (T : List Tri) (F : List Rat) (z : Rat) (t : Nat) (tr : Tri) (l : List Cor) (i : Nat) : List Seg :=
 if keepB P T F z tr (corI l i) (corI l ((i + 1) % l.length)) then [((t : Int), (corI l i).1, (corI l ((i + 1) % l.length)).1)] else []
def segTo (P : List PtQ) (T : List Tri) (F : List Rat) (z : Rat) (t : Nat) (tr : Tri) (l : List Cor) : Nat -> List Seg | 0 => [] | i + 1 => segTo P T F z t tr l i ++ segA P T F z t tr l i
def levTo (P : List PtQ) (T : List Tri) (F : List Rat) (z : Rat) : Nat -> List Seg
 | 0 => []
 | t + 1 => levTo P T F z t ++ segTo P T F z t (triI T t) (partT P F z (triI T t)) (partT P F z (triI T t)).length
def levelL (P : List PtQ) (T : List Tri) (F : List Rat) (z : Rat) : List Seg := levTo P T F z T.length
theorem segTo_len (P : List PtQ) (T : List Tri) (F : List Rat) (z : Rat) (t : Nat) (tr : Tri) (l : List Cor) : ∀ i, (segTo P T F z t tr l i).length <= i
 | 0 => Nat.le_refl _
 | i + 1 => by
   have h := segTo_len P T F z t tr l i;unfold segTo segA;rw [List.length_append];split <;> simp <;> omega
theorem cutL_len (c0 c1 c2 : Cor) (z : Rat) : (cutL c0 c1 c2 z).length <= 6 := by
 unfold cutL;split
 ·exact cutTo_len c0 c1 c2 z 3
 ·simp
theorem levTo_len (P : List PtQ) (T : List Tri) (F : List Rat) (z : Rat) : ∀ t, (levTo P T F z t).length <= 6 * t
 | 0 => Nat.le_refl _
 | t + 1 => by
   have h := levTo_len P T F z t;have h1 := segTo_len P T F z t (triI T t) (partT P F z (triI T t)) (partT P F z (triI T t)).length;have h2 : (partT P F z (triI T t)).length <= 6 := cutL_len _ _ _ _;unfold levTo;rw [List.length_append];omega
theorem cross_Sz {a b : Cor} {z : Rat} {k m : Nat} (ha : SzP k a.1 /\ Sz k a.2) (hb : SzP k b.1 /\ Sz k b.2) (hz : Sz m z) : SzP (6 * k + 3 * m + 6) (crossK a b z).1 := by
 have d1 := ha.2.sub hz;have d2 := hb.2.sub hz;have dd := d1.div (d1.sub d2) (by omega);unfold crossK towQ;exact ⟨(ha.1.1.add (dd.mul (hb.1.1.sub ha.1.1))).mono (by omega), (ha.1.2.add (dd.mul (hb.1.2.sub ha.1.2))).mono (by omega)⟩
theorem cutS_Sz {a b : Cor} {z : Rat} {k m : Nat} (ha : SzP k a.1 /\ Sz k a.2) (hb : SzP k b.1 /\ Sz k b.2) (hz : Sz m z) : ∀ c ∈ cutS a b z, SzP (6 * k + 3 * m + 6) c.1 := by
 intro c hc;unfold cutS at hc;rcases List.mem_append.1 hc with h | h
 ·split at h
  ·simp at h; subst h
   exact ⟨ha.1.1.mono (by omega), ha.1.2.mono (by omega)⟩
  ·simp at h
 ·split at h
  ·simp at h; subst h
   exact cross_Sz ha hb hz
  ·simp at h
theorem cutTo_Sz {c0 c1 c2 : Cor} {z : Rat} {k m : Nat} (h0 : SzP k c0.1 /\ Sz k c0.2) (h1 : SzP k c1.1 /\ Sz k c1.2) (h2 : SzP k c2.1 /\ Sz k c2.2) (hz : Sz m z) : ∀ (i : Nat), ∀ c ∈ cutTo c0 c1 c2 z i, SzP (6 * k + 3 * m + 6) c.1
 | 0 => fun c hc => by simp [cutTo] at hc
 | i + 1 => fun c hc => by
   unfold cutTo at hc;rcases List.mem_append.1 hc with h | h
   ·exact cutTo_Sz h0 h1 h2 hz i c h
   ·refine cutS_Sz ?_ ?_ hz c h
    ·unfold corA; split <;> assumption
    ·unfold corB; split <;> assumption
theorem cutL_Sz {c0 c1 c2 : Cor} {z : Rat} {k m : Nat} (h0 : SzP k c0.1 /\ Sz k c0.2) (h1 : SzP k c1.1 /\ Sz k c1.2) (h2 : SzP k c2.1 /\ Sz k c2.2) (hz : Sz m z) (c : Cor) (hc : c ∈ cutL c0 c1 c2 z) : SzP (6 * k + 3 * m + 6) c.1 := by
 unfold cutL at hc;split at hc
 ·exact cutTo_Sz h0 h1 h2 hz 3 c hc
 ·simp at hc
theorem sideL_cases (c0 c1 c2 a b : PtQ) : sideL c0 c1 c2 a b = -1 \/ sideL c0 c1 c2 a b = 0 \/ sideL c0 c1 c2 a b = 1 \/ sideL c0 c1 c2 a b = 2 := by
 unfold sideL;split
 ·exact .inr (.inl rfl)
 ·split
  ·exact .inr (.inr (.inl rfl))
  ·split
   ·exact .inr (.inr (.inr rfl))
   ·exact .inl rfl
def fanI (c : List Cor) (z : Rat) : Nat -> Rat
 | 0 => 0
 | n + 1 => fanI c z n + areaQ (corI c 0).1 (corI c (n + 1)).1 (corI c (n + 2)).1 * (1 / 2) * (((corI c 0).2 + (corI c (n + 1)).2 + (corI c (n + 2)).2) * (1 / 3) - z)
def integ (c : List Cor) (z : Rat) : Rat := fanI c z (c.length - 2)
def volTo (P : List PtQ) (T : List Tri) (F : List Rat) (z : Rat) : Nat -> Rat
 | 0 => 0
 | t + 1 => volTo P T F z t + integ (partT P F z (triI T t)) z
theorem cross_share {x y : Rat} (h : x.num.sign * y.num.sign < 0) : 0 < x / (x - y) /\ x / (x - y) < 1 /\ x / (x - y) * (x - y) = x := by
 have key : ∀ q : Rat, (q.num.sign = 1 -> 0 < q) /\ (q.num.sign = -1 -> q < 0) := fun q => ⟨fun e => num_pos_iff.1 (Int.sign_eq_one_iff_pos.1 e), fun e => num_lt_zero_iff.1 (Int.sign_eq_neg_one_iff_neg.1 e)⟩;have hne : x - y ≠ 0 := by
  rcases sign3 x with hx | hx | hx <;> rcases sign3 y with hy | hy | hy <;> rw [hx, hy] at h <;> first | (exact absurd h (by decide)) | skip
  ·have := (key x).2 hx; have := (key y).1 hy; grind
  ·have := (key x).1 hx; have := (key y).2 hy; grind
 have hm : x / (x - y) * (x - y) = x := by
  rw [Rat.div_def, Rat.mul_assoc, Rat.inv_mul_cancel _ hne, Rat.mul_one]
 generalize x / (x - y) = k at *;rcases sign3 x with hx | hx | hx <;> rcases sign3 y with hy | hy | hy <;> rw [hx, hy] at h <;> first | (exact absurd h (by decide)) | skip
 ·have h1 := (key x).2 hx; have h2 := (key y).1 hy
  refine ⟨?_, ?_, hm⟩
  ·refine Rat.not_le.1 fun h3 => ?_
   have := Rat.mul_nonneg (show (0 : Rat) <= -k by grind) (show (0 : Rat) <= -(x - y) by grind);grind
  ·refine Rat.not_le.1 fun h3 => ?_
   have := Rat.mul_nonneg (show (0 : Rat) <= k - 1 by grind) (show (0 : Rat) <= -(x - y) by grind);grind
 ·have h1 := (key x).1 hx; have h2 := (key y).2 hy
  refine ⟨?_, ?_, hm⟩
  ·refine Rat.not_le.1 fun h3 => ?_
   have := Rat.mul_nonneg (show (0 : Rat) <= -k by grind) (show (0 : Rat) <= x - y by grind);grind
  ·refine Rat.not_le.1 fun h3 => ?_
   have := Rat.mul_nonneg (show (0 : Rat) <= k - 1 by grind) (show (0 : Rat) <= x - y by grind);grind
theorem cutTo_plane (c0 c1 c2 : Cor) (z α sx sy : Rat) (h0 : c0.2 = α + sx * c0.1.1 + sy * c0.1.2) (h1 : c1.2 = α + sx * c1.1.1 + sy * c1.1.2) (h2 : c2.2 = α + sx * c2.1.1 + sy * c2.1.2) : ∀ a ∈ cutL c0 c1 c2 z, a.2 = α + sx * a.1.1 + sy * a.1.2 := by
 have step : ∀ a b : Cor, a.2 = α + sx * a.1.1 + sy * a.1.2 -> b.2 = α + sx * b.1.1 + sy * b.1.2 -> ∀ x ∈ cutS a b z, x.2 = α + sx * x.1.1 + sy * x.1.2 := fun a b ha hb x hx => by
  unfold cutS at hx;rcases List.mem_append.1 hx with hx | hx
  ·split at hx
   ·rw [List.mem_singleton.1 hx]; exact ha
   ·cases hx
  ·split at hx
   ·rename_i hs
    rw [List.mem_singleton.1 hx];obtain ⟨_, _, hk⟩ := cross_share hs;unfold crossK towQ;generalize (a.2 - z) / ((a.2 - z) - (b.2 - z)) = k at *;dsimp only;grind
   ·cases hx
 intro a ha;unfold cutL at ha;split at ha
 ·unfold cutTo cutTo cutTo cutTo corA corB at ha
  simp only [List.nil_append, List.mem_append] at ha;rcases ha with (ha | ha) | ha
  ·exact step _ _ h0 h1 _ ha
  ·exact step _ _ h1 h2 _ ha
  ·exact step _ _ h2 h0 _ ha
 ·cases ha
theorem ownsRow_base {w : World} {b b' e s n : Nat} {v : Value} {xs : List Value} (h : w.ownsRow b e s v n xs) (hb : b' <= b) : w.ownsRow b' e s v n xs := by
 obtain ⟨h1, h2⟩ := h;refine ⟨h1, ?_⟩;rcases h2 with h2 | ⟨g, cap, cur, hv, hg, hr⟩
 ·exact .inl h2
 ·exact .inr ⟨g, cap, cur, hv, Nat.le_trans hb hg, hr⟩
theorem owns_apart {w : World} {b1 b2 e1 e2 s1 s2 n1 n2 : Nat} {v1 v2 : Value} {x1 x2 : List Value} (h1 : w.ownsRow b1 e1 s1 v1 n1 x1) (h2 : w.ownsRow b2 e2 s2 v2 n2 x2) (hne : e1 ≠ e2) : v1.ownBlock = none \/ v1.ownBlock ≠ v2.ownBlock := by
 rcases h1.2 with ⟨rfl, _⟩ | ⟨g, cap, cur, rfl, _, hg, _⟩
 ·exact .inl rfl
 ·refine .inr fun e => ?_
  rcases h2.2 with ⟨rfl, _⟩ | ⟨g', cap', cur', rfl, _, hg', _⟩
  ·simp [Value.ownBlock] at e
  ·simp [Value.ownBlock] at e
   subst e;rw [hg] at hg';injection hg' with h
   injection h with _ h
   exact hne h
theorem owns_boxN {w : World} {b1 e1 s1 n1 b t : Nat} {v1 : Value} {x1 l : List Value} (h1 : w.ownsRow b1 e1 s1 v1 n1 x1) (h2 : BoxN w b t l) (hne : e1 ≠ t) : some b ≠ v1.ownBlock := by
 rcases h1.2 with ⟨rfl, _⟩ | ⟨g, cap, cur, rfl, _, hg, _⟩
 ·intro e; simp [Value.ownBlock] at e
 ·intro e
  simp [Value.ownBlock] at e;subst e;rw [show w.heap[b]? = _ from h2] at hg;injection hg with h
  injection h with _ h
  exact hne h.symm
theorem fcut_any (c0 c1 c2 : Cor) (z : Rat) (k : Nat) (hk : 0 < k) (hk2 : k <= 300) (h0 : SzP k c0.1 /\ Sz k c0.2) (h1 : SzP k c1.1 /\ Sz k c1.2) (h2 : SzP k c2.1 /\ Sz k c2.2) (hz : Sz k z) (w : World) (hg : Good w) :
 Calls Tryz.prog 29 #[.agg #[.string (RS c0.1.1), .string (RS c0.1.2), .string (RS c0.2), .string (RS c1.1.1), .string (RS c1.1.2), .string (RS c1.2), .string (RS c2.1.1), .string (RS c2.1.2), .string (RS c2.2)], .string (RS z)] w (Ret (fun r w' => w'.ownsRow w.heap.size 89 3 r (cutL c0 c1 c2 z).length (cellsC (cutL c0 c1 c2 z)) /\ (cutL c0 c1 c2 z = [] -> r = .slice none 0 0)) w) := by
 have HZ := hid hz;obtain ⟨s00, hs00⟩ : ∃ s, s = RS c0.1.1 := ⟨_, rfl⟩;obtain ⟨s01, hs01⟩ : ∃ s, s = RS c0.1.2 := ⟨_, rfl⟩;obtain ⟨s02, hs02⟩ : ∃ s, s = RS c0.2 := ⟨_, rfl⟩;obtain ⟨s10, hs10⟩ : ∃ s, s = RS c1.1.1 := ⟨_, rfl⟩;obtain ⟨s11, hs11⟩ : ∃ s, s = RS c1.1.2 := ⟨_, rfl⟩;obtain ⟨s12, hs12⟩ : ∃ s, s = RS c1.2 := ⟨_, rfl⟩;obtain ⟨s20, hs20⟩ : ∃ s, s = RS c2.1.1 := ⟨_, rfl⟩;obtain ⟨s21, hs21⟩ : ∃ s, s = RS c2.1.2 := ⟨_, rfl⟩;obtain ⟨s22, hs22⟩ : ∃ s, s = RS c2.2 := ⟨_, rfl⟩;rw [<- hs00, <- hs01, <- hs02, <- hs10, <- hs11, <- hs12, <- hs20, <- hs21, <- hs22];have HCO : Hid (∀ i : Nat, i < 3 -> ∃ (A B : Cor) (j : Nat), A = corA c0 c1 c2 i /\ B = corB c0 c1 c2 i /\ ((i : Int) + 1).tmod 3 = (j : Int) /\ j < 3 /\ (SzP k A.1 /\ Sz k A.2) /\ (SzP k B.1 /\ Sz k B.2) /\
  (∀ w, (Instr.index 90 (.agg #[.string s00, .string s01, .string s02, .string s10, .string s11, .string s12, .string s20, .string s21, .string s22]) (.int .i64 (i : Int))).run Tryz.prog w = .ok (.agg #[.string (RS A.1.1), .string (RS A.1.2), .string (RS A.2)]) w) /\
  (∀ (w : World) (b : Nat), BoxN w b 90 [.string s00, .string s01, .string s02, .string s10, .string s11, .string s12, .string s20, .string s21, .string s22] -> w.cell? ⟨b, j * 3, none⟩ = some (.string (RS B.1.1)) /\ w.cell? ⟨b, j * 3 + 1, none⟩ = some (.string (RS B.1.2)) /\ w.cell? ⟨b, j * 3 + 2, none⟩ = some (.string (RS B.2)))) := fun i hi => by
  subst hs00 hs01 hs02 hs10 hs11 hs12 hs20 hs21 hs22;obtain rfl | rfl | rfl : i = 0 \/ i = 1 \/ i = 2 := by omega
  ·exact ⟨c0, c1, 1, rfl, rfl, rfl, by decide, h0, h1, idx_C0 _ _ _ _ _ _ _ _ _, fun w b h => ⟨h.cell 3 rfl, h.cell 4 rfl, h.cell 5 rfl⟩⟩
  ·exact ⟨c1, c2, 2, rfl, rfl, rfl, by decide, h1, h2, idx_C1 _ _ _ _ _ _ _ _ _, fun w b h => ⟨h.cell 6 rfl, h.cell 7 rfl, h.cell 8 rfl⟩⟩
  ·exact ⟨c2, c0, 0, rfl, rfl, rfl, by decide, h2, h0, idx_C2 _ _ _ _ _ _ _ _ _, fun w b h => ⟨h.cell 0 rfl, h.cell 1 rfl, h.cell 2 rfl⟩⟩
 clear hs00 hs01 hs02 hs10 hs11 hs12 hs20 hs21 hs22 h0 h1 h2 hz;obtain ⟨i0, hi, hzz0, hzz1, hzz2⟩ := info_parts info_corner;go_enter Tryz.func29, Tryz.ntmps29;go_wp2_with fail;obtain ⟨W, hW⟩ : ∃ W, W = w.alloc (.cells #[.string s00, .string s01, .string s02, .string s10, .string s11, .string s12, .string s20, .string s21, .string s22] 90) := ⟨_, rfl⟩;have hB : Below w.heap.size w W := by rw [hW]; exact zal _ _
 have e2 : BoxN W w.heap.size 90 [.string s00, .string s01, .string s02, .string s10, .string s11, .string s12, .string s20, .string s21, .string s22] := by rw [hW]; exact BoxN.new _ _ _ _ rfl
 rw [<- hW];clear hW;have hzW := e2.lt;go_loopw [5, 6, 16] (fun t5 t6 t16 wr => ∃ (i n : Nat) (b : Bool), t16 = .int .i64 i /\ t6 = .bool b /\ i <= 3 /\ n <= 2 * i /\ Hid ((cutTo c0 c1 c2 z i).length = n) /\ Hid (b = someTo c0 c1 c2 z i) /\ wr.ownsRow W.heap.size 89 3 t5 n (cellsC (cutTo c0 c1 c2 z i)) /\ Below W.heap.size W wr) (fun _ _ t16 _ => 3 - (RowKit.intOf t16).toNat)
 case atStart => exact ⟨0, 0, false, rfl, rfl, Nat.zero_le _, Nat.le_refl _, rfl, rfl, World.ownsRow_nil _ _ _ _, Below.refl _ _⟩
 case round =>
  obtain ⟨i, n, b, rfl, rfl, hin, hni, HLN, HSM, hown, hbr⟩ := hrel;obtain ⟨p5, c5, rfl⟩ := ownsRow_shape hown;have hzr := hbr.size;have HOB0 : ∀ j, (Value.slice p5 n c5).ownBlock = some j -> W.heap.size <= j /\ j < wr.heap.size := fun j hj => hown.lt j hj;rcases Nat.lt_or_ge i 3 with h | h
  ·obtain ⟨A, B, j, hA, hBj, hj, hj3, hsA, hsB, hix, hbx⟩ := HCO.out i h
   have HST : Hid (cutTo c0 c1 c2 z (i + 1) = cutTo c0 c1 c2 z i ++ cutS A B z) := by rw [hA, hBj]; rfl
   have HSS : Hid (someTo c0 c1 c2 z (i + 1) = (b || decide (0 < (A.2 - z).num.sign))) := by rw [hA, HSM.out]; rfl
   clear hA hBj;have HSA := hid hsA;have HSB := hid hsB;have hzx : Sz (2 * k + 1) (A.2 - z) := (hsA.2.sub HZ.out).mono (by omega);have hzy : Sz (2 * k + 1) (B.2 - z) := (hsB.2.sub HZ.out).mono (by omega);have HX := hid fun w hg => ratSub_any A.2 z k hk (by omega) hsA.2 HZ.out w hg
   have HY := hid fun w hg => ratSub_any B.2 z k hk (by omega) hsB.2 HZ.out w hg
   obtain ⟨x, hx⟩ : ∃ x, x = A.2 - z := ⟨_, rfl⟩;obtain ⟨y, hy⟩ : ∃ y, y = B.2 - z := ⟨_, rfl⟩;rw [<- hx] at hzx HX HSS;rw [<- hy] at hzy HY;have HDV : Hid (x - y ≠ 0 -> ∀ w, Good w -> _) := fun hne w hg => ratDiv_any x (x - y) (4 * k + 3) (by omega) (by omega) (hzx.mono (by omega)) ((hzx.sub hzy).mono (by omega)) hne w hg
   have HDS := hid fun w hg => ratSub_any x y (2 * k + 1) (by omega) (by omega) hzx hzy w hg
   have HQZ : Hid (x - y ≠ 0 -> Sz (8 * k + 6) (x / (x - y))) := fun hne => (hzx.div ((hzx.sub hzy).mono (Nat.le_refl _)) (by omega)).mono (by omega)
   have HTX : Hid (x - y ≠ 0 -> ∀ w, Good w -> _) := fun hne w hg => ftoward_any A.1.1 B.1.1 (x / (x - y)) (8 * k + 6) (by omega) (by omega) (hsA.1.1.mono (by omega)) (hsB.1.1.mono (by omega)) (HQZ.out hne) w hg
   have HTY : Hid (x - y ≠ 0 -> ∀ w, Good w -> _) := fun hne w hg => ftoward_any A.1.2 B.1.2 (x / (x - y)) (8 * k + 6) (by omega) (by omega) (hsA.1.2.mono (by omega)) (hsB.1.2.mono (by omega)) (HQZ.out hne) w hg
   have HC1 : Hid (cutS A B z = (if 0 <= x.num.sign then [A] else []) ++ (if x.num.sign * y.num.sign < 0 then [crossK A B z] else [])) := by rw [hx, hy]; rfl
   have HCK : Hid (crossK A B z = ((towQ A.1.1 B.1.1 (x / (x - y)), towQ A.1.2 B.1.2 (x / (x - y))), z)) := by rw [hx, hy]; rfl
   have HGX : Hid (∀ w, _) := fun w => ratSign_any x w;have HGY : Hid (∀ w, _) := fun w => ratSign_any y w;have HNE : Hid (x.num.sign * y.num.sign < 0 -> x - y ≠ 0) := fun hlt e => by
    have e2 : x = y := by grind
    rw [e2] at hlt;rcases sign3 y with e | e | e <;> rw [e] at hlt <;> exact absurd hlt (by decide)
   have HZT := hid (str_zero_test x);have HSX3 := hid (sign3 x);have HSY3 := hid (sign3 y);generalize x.num.sign = sx at *;generalize y.num.sign = sy at *;clear hzx hzy hsA hsB hx hy;have e2r := e2.below hbr e2.lt;have hbW : Below w.heap.size w wr := hB.trans (hbr.mono hB.size);have hj3z : (j : Int) < 3 := by omega
   have hi3z : (i : Int) < 3 := by omega
   clear HCO;go_upto_region 6 with fail;obtain ⟨W1, hW1⟩ : ∃ X, X = wr.alloc (.cells #[.string (RS A.1.1), .string (RS A.1.2), .string (RS A.2)] 89) := ⟨_, rfl⟩;have hb1 : Below wr.heap.size wr W1 := by rw [hW1]; exact zal _ _
   have e8 : BoxN W1 wr.heap.size 89 [.string (RS A.1.1), .string (RS A.1.2), .string (RS A.2)] := by rw [hW1]; exact BoxN.new _ _ _ _ rfl
   rw [<- hW1];clear hW1;have HZ1 := hid hb1.size;obtain ⟨k0, k1, k2⟩ := hbx _ _ (e2r.below hb1 e2r.lt);go_upto_region 7 with fail;obtain ⟨W2, hW2⟩ : ∃ X, X = W1.alloc (.cells #[.string (RS B.1.1), .string (RS B.1.2), .string (RS B.2)] 89) := ⟨_, rfl⟩;have hb2 : Below W1.heap.size W1 W2 := by rw [hW2]; exact zal _ _
   have e9 : BoxN W2 W1.heap.size 89 [.string (RS B.1.1), .string (RS B.1.2), .string (RS B.2)] := by rw [hW2]; exact BoxN.new _ _ _ _ rfl
   rw [<- hW2];clear hW2 k0 k1 k2 hbx hix;have g8 := e8.below hb2 e8.lt;have hbr2 : Below wr.heap.size wr W2 := hb1.trans (hb2.mono hb1.size);have hbW2 : Below w.heap.size w W2 := hbW.trans (hbr2.mono hbW.size);have x0 := g8.cell 2 rfl;have y0 := e9.cell 2 rfl;have hz8 := g8.lt;have hz9 := e9.lt;have hgd : Good W2.drew := (hg.below hbW2).drewN 1;clear hb1 hb2 e8;go_region_held3 (fun w' => w'.cell? ⟨wr.heap.size, 2, none⟩ = some (.string (RS A.2)) /\ w'.cell? ⟨W1.heap.size, 2, none⟩ = some (.string (RS B.2)))
    (first | exact ⟨x0, y0⟩ | exact ⟨p_1_0, p_1_1⟩ | exact ⟨p_2_0, p_2_1⟩)
    (first
    | (go_at_call 68; refine (HY.out _ pg1).mono ?_; rintro e pw2 ⟨_, rfl, rfl, pb2⟩
       have p_2_0 := zct pb2 p_1_0;have p_2_1 := zct pb2 p_1_1;have ps2 := pb2.size;have pg2 := pg1.below pb2)
    | (go_at_call 68; refine (HX.out _ hgd).mono ?_; rintro e pw1 ⟨_, rfl, rfl, pb1⟩
       have p_1_0 := zct pb1 x0;have p_1_1 := zct pb1 y0;have ps1 : W2.heap.size <= pw1.heap.size := pb1.size;have pg1 := hgd.below pb1))
   have pB : Below W2.heap.size W2 pw2 := zbt (zbt (below_drewN W2 1) pb1) pb2;have hown2 := World.ownsRow.belowAll hown (hbr2.trans (pB.mono hbr2.size));have hbr3 : Below wr.heap.size wr pw2 := hbr2.trans (pB.mono hbr2.size);have h8 := g8.below pB g8.lt;have h9 := e9.below pB e9.lt;have hz2 := pB.size;clear pB pb1 pb2 ps1 ps2 pg1 pg2 p_1_0 p_1_1 p_2_0 p_2_1 x0 y0 hown hgd hbr2 hbW2 g8 e9 e2r;go_upto_region 9 with fail;refine (HGX.out pw2).mono ?_;rintro e w3 ⟨_, rfl, rfl, nd, rfl⟩;go_upto_if 35 with fail;obtain ⟨w3, hw3⟩ : ∃ X, X = pw2.drewN nd := ⟨_, rfl⟩;have hd3 : Below pw2.heap.size pw2 w3 := by rw [hw3]; exact below_drewN pw2 nd
   have hz3 : pw2.heap.size = w3.heap.size := by rw [hw3]; rfl
   rw [<- hw3];clear hw3;have hzW1 : wr.heap.size <= W1.heap.size := HZ1.out;have h83 := h8.below hd3 h8.lt;have h93 := h9.below hd3 h9.lt;have hown3 := World.ownsRow.belowAll hown2 hd3;have hbr3' : Below wr.heap.size wr w3 := hbr3.trans (hd3.mono hbr3.size);have HOB : Hid (∀ j, (Value.slice p5 n c5).ownBlock = some j -> W.heap.size <= j /\ j < wr.heap.size) := HOB0;generalize cutTo c0 c1 c2 z i = L at *;obtain ⟨L1, hL1⟩ : ∃ l, l = L ++ (if 0 <= sx then [A] else []) := ⟨_, rfl⟩;have HL1 := hid hL1;clear hL1 h8 h9 hown2 hbr3 hd3;go_cut [5, 6] (fun s5 s6 wx => ∃ (n' : Nat) (b' : Bool), s6 = .bool b' /\ Hid (b' = (b || decide (0 < sx))) /\ n' <= n + 1 /\ Hid (L1.length = n') /\ wx.ownsRow W.heap.size 89 3 s5 n' (cellsC L1) /\ Below W.heap.size W wx /\ w3.heap.size <= wx.heap.size /\ BoxN wx wr.heap.size 89 [.string (RS A.1.1), .string (RS A.1.2), .string (RS A.2)] /\ BoxN wx W1.heap.size 89 [.string (RS B.1.1), .string (RS B.1.2), .string (RS B.2)])
   case first =>
    rcases Int.lt_or_le sx 0 with hs | hs
    ·have HE : Hid (L1 = L) := by unfold Hid; rw [HL1.out, if_neg (by omega), List.append_nil]
     have HBB : Hid (b = (b || decide (0 < sx))) := by unfold Hid; rw [decide_eq_false (by omega), Bool.or_false]
     go_wp2_with fail;go_meet;exact ⟨n, b, rfl, HBB, by omega, by unfold Hid; rw [HE.out]; exact HLN.out, by rw [HE.out]; exact hown3, hbr.trans (hbr3'.mono hbr.size), Nat.le_refl _, h83, h93⟩
    ·have HE : Hid (L1 = L ++ [A]) := by unfold Hid; rw [HL1.out, if_pos hs]
     have HLE : Hid (L1.length = n + 1) := by unfold Hid; rw [HE.out, List.length_append, HLN.out]; rfl
     have HBE : Hid (cellsC L1 = cellsC L ++ [.string (RS A.1.1), .string (RS A.1.2), .string (RS A.2)]) := by unfold Hid; rw [HE.out, cellsC_snoc]
     obtain ⟨q, hq⟩ : ∃ q, q = decide (0 < sx) := ⟨_, rfl⟩;have a0 := h83.cell 0 rfl;have a1 := h83.cell 1 rfl;have a2 := h83.cell 2 rfl;have t1 : ((RS x).toList == [48]) = !q := by
      rw [hq, Bool.eq_iff_iff, beq_iff_eq, HZT.out];clear hq;rcases Int.lt_or_le 0 sx with h1 | h1
      ·rw [decide_eq_true h1]; simp; omega
      ·rw [decide_eq_false (by omega)]; simp; omega
     have HQ := hid hq;have hn4 : n <= 4 := by omega
     have hzB : W.heap.size <= w3.heap.size := by have := h83.lt; omega
     have hl8 := h83.lt;have hl9 := h93.lt;have hw1 : wr.heap.size <= W1.heap.size := by omega
     clear hq
     go_wp2_with (at_builtin; refine wpList_append_own _ rfl _ _ 92 rfl W.heap.size 89 i0 (.agg #[.string ⟨#[]⟩, .string ⟨#[]⟩, .string ⟨#[]⟩]) 3 48 Tryz.underlying92 hi hzz0 hzz1 hzz2 rfl (by decide) _ _ _ rfl (hown3.alloc _) ⟨w3.heap.size, 0, none⟩ 1 1 [.string (RS A.1.1), .string (RS A.1.2), .string (RS A.2)] rfl rfl (cell_three _ _ _ _ _) (three_str _ _ _) (by unfold maxLen; omega) (by omega) (by simp; omega) ?_
                  intro v4 w4 hown4 hgrow4 _;have hzw4 := hgrow4.size;have hbr4 : Below W.heap.size W w4 := ((hbr.trans (hbr3'.mono hbr.size)).alloc hzB _).grown hgrow4 (by simp; omega) (fun j hj => by have := (hown3.lt j hj).1; omega);have h84 := (hgrow4.block wr.heap.size (by simp; omega) (fun e => by have := (HOB.out _ e.symm).2; omega)).trans (h83.below ((Below.refl _ _).alloc (Nat.le_refl _) _) hl8);have h94 := (hgrow4.block W1.heap.size (by simp; omega) (fun e => by have := (HOB.out _ e.symm).2; omega)).trans (h93.below ((Below.refl _ _).alloc (Nat.le_refl _) _) hl9);clear hgrow4)
     all_goals
      have hbF4 : w3.heap.size <= w4.heap.size := by simp at hzw4; omega
      rw [<- HBE.out] at hown4;go_wp2_with fail;go_meet
      first
           | exact ⟨n + 1, q, rfl, (by unfold Hid; first | rw [HQ.out, (‹b = false› : b = false)]; rfl | rw [HQ.out, Bool.eq_false_iff.2 (‹¬ b = true› : ¬ b = true)]; rfl), Nat.le_refl _, HLE, hown4, hbr4, hbF4, h84, h94⟩
           | exact ⟨n + 1, true, rfl, (by unfold Hid; rw [(‹b = true› : b = true)]; rfl), Nat.le_refl _, HLE, hown4, hbr4, hbF4, h84, h94⟩
   case rest =>
    obtain ⟨n1, b1, rfl, HB1, hn1, HLE1, hownc, hbrc, hzc, h8c, h9c⟩ := hcut;obtain ⟨pc, cc, rfl⟩ := ownsRow_shape hownc;obtain ⟨cr, hcr⟩ : ∃ cr, cr = decide (sx * sy < 0) := ⟨_, rfl⟩;have HCR := hid hcr;have hbWc : Below w.heap.size w wc := hB.trans (hbrc.mono hB.size);clear hown3 h83 h93 HOB hbr3' hbr HZT e2 hcr;go_upto_region 11 with fail;go_cut [50] (fun s50 wx => s50 = .bool cr /\ ∃ nd, wx = wc.drewN nd)
    case first =>
     clear HL1 hownc hbrc hzc h8c h9c hbWc HB1 hn1 HLE1 HC1 HCK HNE HDV HDS HQZ HTX HTY HX HY HSA HSB HST HSS HLN HSM hzW hzr hzW1 hz2 hz3 HZ1 hg hi hzz0 hzz1 hzz2 HZ hB;go_wp2_with fail;refine (HGX.out wc).mono ?_;rintro e w5 ⟨_, rfl, rfl, nd5, rfl⟩;go_wp2_with fail;refine (HGY.out _).mono ?_;rintro e w6 ⟨_, rfl, rfl, nd6, rfl⟩;rcases HSX3.out with rfl | rfl | rfl <;> rcases HSY3.out with rfl | rfl | rfl
     all_goals
      go_wp2_with fail;go_meet;exact ⟨by rw [HCR.out]; rfl, _, rfl⟩
    case rest =>
     obtain ⟨rfl, nd6, rfl⟩ := hcut;obtain ⟨w6, hw6⟩ : ∃ X, X = wc.drewN nd6 := ⟨_, rfl⟩;have hd6 : Below wc.heap.size wc w6 := by rw [hw6]; exact below_drewN wc nd6
     have hz6 : wc.heap.size = w6.heap.size := by rw [hw6]; rfl
     rw [<- hw6];clear hw6;have hown6 := World.ownsRow.belowAll hownc hd6;have hbr6 : Below W.heap.size W w6 := hbrc.trans (hd6.mono hbrc.size);have hbW6 : Below w.heap.size w w6 := hbWc.trans (hd6.mono hbWc.size);have h86 := h8c.below hd6 h8c.lt;have h96 := h9c.below hd6 h9c.lt;clear hownc hbrc hbWc h8c h9c hd6;cases cr
     ·have HEL : Hid (cutTo c0 c1 c2 z (i + 1) = L1) := by
           unfold Hid;have hn : ¬ sx * sy < 0 := fun e => by have := HCR.out; rw [decide_eq_true e] at this; cases this
           rw [HST.out, HC1.out, HL1.out, if_neg hn, List.append_nil]
      have HLN' : Hid ((cutTo c0 c1 c2 z (i + 1)).length = n1) := by unfold Hid; rw [HEL.out, HLE1.out]
      have HSM' : Hid (b1 = someTo c0 c1 c2 z (i + 1)) := by unfold Hid; rw [HSS.out, HB1.out]
      rw [<- HEL.out] at hown6;go_wp2_with fail;go_roundw
      case rel => exact ⟨i + 1, n1, b1, by go_num, rfl, by omega, by omega, HLN', HSM', hown6, hbr6⟩
      case measure => simp [RowKit.intOf]; omega
     ·have hne := HNE.out (of_decide_eq_true HCR.out.symm)
      go_wp2_with fail;refine (HDS.out w6 (hg.below hbW6)).mono ?_;rintro e w7 ⟨_, rfl, rfl, hb7⟩;go_wp2_with fail;have hbW7 := hbW6.trans (hb7.mono hbW6.size);refine (HDV.out hne w7 (hg.below hbW7)).mono ?_;rintro e w8 ⟨_, rfl, rfl, hb8⟩;have hbb : Below w6.heap.size w6 w8 := hb7.trans (hb8.mono hb7.size);have hbW8 : Below w.heap.size w w8 := hbW6.trans (hbb.mono hbW6.size);have h88 := h86.below hbb h86.lt;have h98 := h96.below hbb h96.lt;have hown8 := World.ownsRow.belowAll hown6 hbb;have hbr8 : Below W.heap.size W w8 := hbr6.trans (hbb.mono hbr6.size);clear hb7 hb8 hbW7 h86 h96 hown6 hbr6;go_upto_region 13 with fail
      have HEL : Hid (cutTo c0 c1 c2 z (i + 1) = L1 ++ [((towQ A.1.1 B.1.1 (x / (x - y)), towQ A.1.2 B.1.2 (x / (x - y))), z)]) := by
           unfold Hid;rw [HST.out, HC1.out, HL1.out, if_pos (of_decide_eq_true HCR.out.symm), HCK.out, List.append_assoc]
      have HLE8 : Hid ((cutTo c0 c1 c2 z (i + 1)).length = n1 + 1) := by unfold Hid; rw [HEL.out, List.length_append, HLE1.out]; rfl
      have HBE8 : Hid (cellsC (cutTo c0 c1 c2 z (i + 1)) = cellsC L1 ++ [.string (RS (towQ A.1.1 B.1.1 (x / (x - y)))), .string (RS (towQ A.1.2 B.1.2 (x / (x - y)))), .string (RS z)]) := by unfold Hid; rw [HEL.out, cellsC_snoc]
      have HSM' : Hid (b1 = someTo c0 c1 c2 z (i + 1)) := by unfold Hid; rw [HSS.out, HB1.out]
      have HTX' := hid fun w hg => HTX.out hne w hg;have HTY' := hid fun w hg => HTY.out hne w hg;clear HDV HDS HQZ HTX HTY HC1 HCK HST HSS HB1 HL1 HNE HCR HX HY HGX HGY HSX3 HSY3 HSA HSB HEL;generalize RS (towQ A.1.1 B.1.1 (x / (x - y))) = px at *;generalize RS (towQ A.1.2 B.1.2 (x / (x - y))) = py at *;generalize RS (x / (x - y)) = qs at *;clear hne;have hl8 := h88.lt;have hl9 := h98.lt;go_cut [14] (fun s14 wx => ∃ b14 : Nat, s14 = .pointer (some ⟨b14, 0, none⟩) /\ w8.heap.size <= b14 /\ BoxN wx b14 50 [.string px, .string py] /\ Below w8.heap.size w8 wx)
      case first =>
           have HF : Hid (∀ w', Below w8.heap.size w8 w' -> w'.cell? ⟨wr.heap.size, 0, none⟩ = some (.string (RS A.1.1)) /\ w'.cell? ⟨wr.heap.size, 1, none⟩ = some (.string (RS A.1.2)) /\ w'.cell? ⟨W1.heap.size, 0, none⟩ = some (.string (RS B.1.1)) /\ w'.cell? ⟨W1.heap.size, 1, none⟩ = some (.string (RS B.1.2))) := fun w' hb => by
            have y1 := h88.below hb h88.lt;have y2 := h98.below hb h98.lt;exact ⟨y1.cell 0 rfl, y1.cell 1 rfl, y2.cell 0 rfl, y2.cell 1 rfl⟩
           have HGD : Hid (∀ w', Below w8.heap.size w8 w' -> Good w') := fun w' hb => (hg.below hbW8).below hb;have b0 : Below w8.heap.size w8 w8.drew := below_drewN w8 1;have hZZ : ∀ w' : World, BoxN (w'.alloc (.cells #[.string ⟨#[]⟩, .string ⟨#[]⟩] 50)) w'.heap.size 50 [.string ⟨#[]⟩, .string ⟨#[]⟩] := fun w' => BoxN.new _ _ _ _ rfl;have hAA : ∀ (w' : World) (o : Obj), Below w8.heap.size w8 w' -> Below w8.heap.size w8 (w'.alloc o) := fun w' o hb => hb.alloc hb.size _;have HSC : Hid (∀ (w' : World) (b i : Nat) (v : Value), w8.heap.size <= b -> Below w8.heap.size w8 w' -> Below w8.heap.size w8 (w'.setCell ⟨b, i, none⟩ v)) := fun w' b i v hb h => h.setCell (p := ⟨b, i, none⟩) hb v;have HTR : Hid (∀ w' w'', Below w8.heap.size w8 w' -> Below w'.heap.size w' w'' -> Below w8.heap.size w8 w'') := fun w' w'' h1 h2 => h1.trans (h2.mono h1.size);have HZZ := hid hZZ;have HAA := hid hAA;have h0a := (hAA _ (.cells #[.string ⟨#[]⟩, .string ⟨#[]⟩] 50) (Below.refl _ w8)).drew;have g0 := HGD.out _ b0;have g0a := HGD.out _ h0a;clear hZZ hAA hown8 hbr8 hbW8 h88 h98 hbb;go_region_held3 (fun w' => w'.cell? ⟨wr.heap.size, 0, none⟩ = some (.string (RS A.1.1)) /\ w'.cell? ⟨wr.heap.size, 1, none⟩ = some (.string (RS A.1.2)) /\ w'.cell? ⟨W1.heap.size, 0, none⟩ = some (.string (RS B.1.1)) /\ w'.cell? ⟨W1.heap.size, 1, none⟩ = some (.string (RS B.1.2)))
            ((refine HF.out _ ?_; first | with_reducible assumption | exact (HAA.out _ _ (by with_reducible assumption)).drew | exact HAA.out _ _ (by with_reducible assumption) | (iterate 2 (refine HSC.out _ _ _ _ (by omega) ?_)); with_reducible assumption))
            (first
                  | (go_at_call 60; (first | refine (HTY'.out _ g4).mono ?_ | refine (HTY'.out _ g4a).mono ?_); rintro e v5 ⟨_, rfl, rfl, hb5⟩
                     have h5 : Below w8.heap.size w8 v5 := by first | exact HTR.out _ _ h4 hb5 | exact HTR.out _ _ h4a hb5
                     have hs5 := h5.size;try have bz5 := bz4.below hb5 bz4.lt
                     try have bz5 := (HZZ.out v4).below hb5 (by simp)
                     try have q0 := bz5.cell 0 rfl
                     try have q1 := bz5.cell 1 rfl
                     try have e0 := bz5.frozen 0
                     try have e1 := bz5.frozen 1)
                  | (go_at_call 60; (first | refine (HTX'.out _ g0).mono ?_ | refine (HTX'.out _ g0a).mono ?_); rintro e v4 ⟨_, rfl, rfl, hb4⟩
                     have h4 : Below w8.heap.size w8 v4 := by first | exact HTR.out _ _ b0 hb4 | exact HTR.out _ _ h0a hb4
                     have h4a := HAA.out _ (.cells #[.string ⟨#[]⟩, .string ⟨#[]⟩] 50) h4;have g4 := HGD.out _ h4;have g4a := HGD.out _ h4a;have hs4 := h4.size;try have bz4 := (HZZ.out w8).drew.below hb4 (by simp)))
           ·go_wp2_with fail
            go_meet;exact ⟨_, rfl, hs5, BoxN.new _ _ _ _ rfl, HAA.out _ _ h5⟩
           ·go_wp2_with fail
            go_meet;exact ⟨_, rfl, hs4, (bz5.set 0 _).set 1 _, HSC.out _ _ _ _ hs4 (HSC.out _ _ _ _ hs4 h5)⟩
           ·go_wp2_with fail
            go_meet;exact ⟨_, rfl, Nat.le_refl _, (bz5.set 0 _).set 1 _, HSC.out _ _ _ _ (Nat.le_refl _) (HSC.out _ _ _ _ (Nat.le_refl _) h5)⟩
      case rest =>
           obtain ⟨b14, rfl, hb14, x14, hbx⟩ := hcut;have hownx := World.ownsRow.belowAll hown8 hbx;have hbrx : Below W.heap.size W wc := hbr8.trans (hbx.mono hbr8.size);have hzx := hbrx.size;have k0 := x14.cell 0 rfl;have k1 := x14.cell 1 rfl;have hn4 : n1 <= 6 := by omega
           clear hbx hbr8 hown8 h88 h98 x14 hbb
           go_wp2_with (at_builtin; refine wpList_append_own _ rfl _ _ 92 rfl W.heap.size 89 i0 (.agg #[.string ⟨#[]⟩, .string ⟨#[]⟩, .string ⟨#[]⟩]) 3 48 Tryz.underlying92 hi hzz0 hzz1 hzz2 rfl (by decide) _ _ _ rfl (hownx.alloc _) ⟨wc.heap.size, 0, none⟩ 1 1 [.string px, .string py, .string (RS z)] rfl rfl (cell_three _ _ _ _ _) (three_str _ _ _) (by unfold maxLen; omega) (by omega) (by simp; omega) ?_
                        intro v9 w9 hown9 hgrow9 _;have hzw9 := hgrow9.size;have hbr9 : Below W.heap.size W w9 := (hbrx.alloc hzx _).grown hgrow9 (by simp; omega) (fun j hj => by have := (hownx.lt j hj).1; omega);clear hgrow9)
           rw [<- HBE8.out] at hown9;go_wp2_with fail;go_roundw
           case rel => exact ⟨i + 1, n1 + 1, b1, by go_num, rfl, by omega, by omega, HLE8, HSM', hown9, hbr9⟩
           case measure => simp [RowKit.intOf]; omega
  ·obtain rfl : i = 3 := by omega
   have hbW : Below w.heap.size w wr := hB.trans (hbr.mono hB.size);cases b
   ·have HE : Hid (cutL c0 c1 c2 z = []) := by unfold Hid cutL; rw [<- HSM.out]; rfl
    go_wp2_with fail;go_ret;exact ⟨_, rfl, ⟨by rw [HE.out]; exact World.ownsRow_nil _ _ _ _, fun _ => rfl⟩, hbW⟩
   ·have HE : Hid (cutL c0 c1 c2 z = cutTo c0 c1 c2 z 3) := by unfold Hid cutL; rw [<- HSM.out]; rfl
    have HNE := hid (cutTo_ne c0 c1 c2 z 3 HSM.out.symm);have hrd : wr.ownsRow w.heap.size 89 3 (.slice p5 n c5) (cutTo c0 c1 c2 z 3).length (cellsC (cutTo c0 c1 c2 z 3)) := by rw [HLN.out]; exact ownsRow_base hown (by omega)
    go_wp2_with fail;go_ret;exact ⟨_, rfl, ⟨by rw [HE.out]; exact hrd, fun e => absurd (HE.out.symm.trans e) HNE.out⟩, hbW⟩
end Go.Proofs.YtbfcmipplhkkeaaGreatDoor
