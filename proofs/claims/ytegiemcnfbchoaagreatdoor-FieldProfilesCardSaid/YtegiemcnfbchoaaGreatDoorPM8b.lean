import Derived.Test.YtegiemcnfbchoaaGreatDoorPM7
/- The walks over field.toward, field.side. Parts of a triangle above a height The walk over field.cut. Plain The contracts of slices.SortFunc and slices.Compact at a slice of the call's -/
set_option maxHeartbeats 4000000
set_option maxRecDepth 100000
namespace Go.Proofs.YtegiemcnfbchoaaGreatDoor
open Go.RowKit Go.Lib
abbrev Cor := PtQ × Rat
def towQ (a b k : Rat) : Rat := a + k * (b - a)
theorem ftoward_any (a b x : Rat) (k : Nat) (hk : 0 < k) (hk2 : k <= 5000) (ha : Sz k a) (hb : Sz k b) (hx : Sz k x) (w : World) (hg : Good w) :
 Calls Tryz.prog 35 #[.string (RS a), .string (RS b), .string (RS x)] w (Ret (fun r _ => r = .string (RS (towQ a b x))) w) := by
 have d1 : Sz (2 * k + 1) (b - a) := (hb.sub ha).mono (by omega);have d2 : Sz (3 * k + 1) (x * (b - a)) := (hx.mul d1).mono (by omega);have H1 := hid fun w hg => rSa b a k hk (by omega) hb ha w hg
 have H2 := hid fun w hg => rMa x (b - a) (2 * k + 1) (by omega) (by omega) (hx.mono (by omega)) d1 w hg
 have H3 := hid fun w hg => ratAdd_any a (x * (b - a)) (3 * k + 1) (by omega) (by omega) (ha.mono (by omega)) d2 w hg
 unfold towQ;generalize a + x * (b - a) = r at *;generalize x * (b - a) = q at *;generalize b - a = p at *;clear ha hb hx d1 d2;go_enter Tryz.func35, Tryz.ntmps35;go_wp2_with fail;refine (H1.out _ hg).mono ?_;rintro e w1 ⟨_, rfl, rfl, hb1⟩;go_wp2_with fail;refine (H2.out w1 (hg.below hb1)).mono ?_;rintro e w2 ⟨_, rfl, rfl, hb2⟩;have hB2 := hb1.trans (hb2.mono hb1.size);go_wp2_with fail;refine (H3.out w2 (hg.below hB2)).mono ?_;rintro e w3 ⟨_, rfl, rfl, hb3⟩;have hB3 := hB2.trans (hb3.mono hB2.size);go_wp2_with fail;go_ret;exact ⟨_, rfl, rfl, hB3⟩
theorem idx_C0 (a b c d e f g h i : Value) (w : World) : (Instr.index 136 (.agg #[a, b, c, d, e, f, g, h, i]) (.int .i64 0)).run Tryz.prog w = .ok (.agg #[a, b, c]) w := by kernel_rfl
theorem idx_C1 (a b c d e f g h i : Value) (w : World) : (Instr.index 136 (.agg #[a, b, c, d, e, f, g, h, i]) (.int .i64 1)).run Tryz.prog w = .ok (.agg #[d, e, f]) w := by kernel_rfl
theorem idx_C2 (a b c d e f g h i : Value) (w : World) : (Instr.index 136 (.agg #[a, b, c, d, e, f, g, h, i]) (.int .i64 2)).run Tryz.prog w = .ok (.agg #[g, h, i]) w := by kernel_rfl
def sideL (c0 c1 c2 a b : PtQ) : Int := if c0 = a /\ c1 = b then 0 else if c1 = a /\ c2 = b then 1 else if c2 = a /\ c0 = b then 2 else -1
theorem side_any (c0 c1 c2 a b : PtQ) (z0 z1 z2 : ByteArray) (w : World) :
 Calls Tryz.prog 76 #[.agg #[.string (RS c0.1), .string (RS c0.2), .string z0, .string (RS c1.1), .string (RS c1.2), .string z1, .string (RS c2.1), .string (RS c2.2), .string z2], .agg #[.string (RS a.1), .string (RS a.2)], .agg #[.string (RS b.1), .string (RS b.2)]] w (Ret (fun r _ => r = .int .i64 (sideL c0 c1 c2 a b)) w) := by
 have HT0 := hid (two_pts c0 a);have HT1 := hid (two_pts c1 a);have HT2 := hid (two_pts c2 a);have HU0 := hid (two_pts c1 b);have HU1 := hid (two_pts c2 b);have HU2 := hid (two_pts c0 b);obtain ⟨res, hres⟩ : ∃ r, r = sideL c0 c1 c2 a b := ⟨_, rfl⟩;rw [<- hres];have HR := hid hres;clear hres;generalize RS c0.1 = x0 at *;generalize RS c0.2 = y0 at *;generalize RS c1.1 = x1 at *;generalize RS c1.2 = y1 at *;generalize RS c2.1 = x2 at *;generalize RS c2.2 = y2 at *;generalize RS a.1 = ax at *;generalize RS a.2 = ay at *;generalize RS b.1 = bx at *;generalize RS b.2 = by' at *;go_enter Tryz.func76, Tryz.ntmps76;go_wp2_with fail;obtain ⟨W, hW⟩ : ∃ W, W = ((w.alloc (.cells #[.string x0, .string y0, .string z0, .string x1, .string y1, .string z1, .string x2, .string y2, .string z2] 136)).alloc (.cells #[.string ax, .string ay] 33)).alloc (.cells #[.string bx, .string by'] 33) := ⟨_, rfl⟩;have hB : Below w.heap.size w W := by rw [hW]; exact (((Below.refl _ _).alloc (Nat.le_refl _) _).alloc (by simp) _).alloc (by simp; omega) _
 have e5 : BoxN W (w.heap.size + 1 + 1) 33 [.string bx, .string by'] := by rw [hW]; exact BoxN.new _ _ _ _ (by simp)
 have e4 : BoxN W (w.heap.size + 1) 33 [.string ax, .string ay] := by
  rw [hW];have h1 := (BoxN.new (w.alloc (.cells #[.string x0, .string y0, .string z0, .string x1, .string y1, .string z1, .string x2, .string y2, .string z2] 136)) #[.string ax, .string ay] 33 (w.heap.size + 1) (by simp));exact h1.below (zal _ _) h1.lt
 have e3 : BoxN W w.heap.size 136 [.string x0, .string y0, .string z0, .string x1, .string y1, .string z1, .string x2, .string y2, .string z2] := by
  rw [hW];have h1 := (BoxN.new w #[.string x0, .string y0, .string z0, .string x1, .string y1, .string z1, .string x2, .string y2, .string z2] 136 _ rfl);exact h1.below (((Below.refl _ _).alloc (Nat.le_refl _) _).alloc (by simp) _) h1.lt
 rw [<- hW];clear hW;have hzW := hB.size;go_loopw [10] (fun t10 wr => ∃ (i : Nat), t10 = .int .i64 i /\ i <= 3 /\ Hid ((1 <= i -> ¬(c0 = a /\ c1 = b)) /\ (2 <= i -> ¬(c1 = a /\ c2 = b)) /\ (3 <= i -> ¬(c2 = a /\ c0 = b))) /\ Below W.heap.size W wr) (fun t10 _ => 3 - (RowKit.intOf t10).toNat)
 case atStart => exact ⟨0, rfl, Nat.zero_le _, ⟨fun h => absurd h (by decide), fun h => absurd h (by decide), fun h => absurd h (by decide)⟩, Below.refl _ _⟩
 case round =>
  obtain ⟨i, rfl, hi, HN, hbr⟩ := hrel;have f3 := e3.below hbr e3.lt;have f4 := e4.below hbr e4.lt;have f5 := e5.below hbr e5.lt;have hzr := hbr.size;have hzd := e5.lt;have hbF : Below w.heap.size w wr := hB.trans (hbr.mono hB.size);clear e3 e4 e5 hB;obtain rfl | rfl | rfl | rfl : i = 0 \/ i = 1 \/ i = 2 \/ i = 3 := by omega
  ·have i0 := idx_C0
   rw [show ((0 : Nat) : Int) = 0 from rfl];go_upto_region 4 with fail;obtain ⟨W2, hW2⟩ : ∃ X, X = wr.alloc (.cells #[.string x0, .string y0, .string z0] 135) := ⟨_, rfl⟩;have hb2 : Below wr.heap.size wr W2 := by rw [hW2]; exact zal _ _
   have e8 : BoxN W2 wr.heap.size 135 [.string x0, .string y0, .string z0] := by rw [hW2]; exact BoxN.new _ _ _ _ rfl
   rw [<- hW2];clear hW2;have g3 := f3.below hb2 f3.lt;have g4 := f4.below hb2 f4.lt;have g5 := f5.below hb2 f5.lt;have hbF2 : Below w.heap.size w W2 := hbF.trans (hb2.mono hbF.size);have hbr2 : Below W.heap.size W W2 := hbr.trans (hb2.mono hbr.size);have k0 := e8.cell 0 rfl;have k1 := e8.cell 1 rfl;have l0 := g4.cell 0 rfl;have l1 := g4.cell 1 rfl;have m0 := g3.cell 3 rfl;have m1 := g3.cell 4 rfl;have n0 := g5.cell 0 rfl;have n1 := g5.cell 1 rfl;clear f3 f4 f5 g3 g4 g5 e8 hb2 hbF hbr;have hbF3 : Hid (∀ n, Below w.heap.size w (W2.drewN n)) := fun n => hbF2.trans ((bdN W2 n).mono hbF2.size);have hbr3 : Hid (∀ n, Below W.heap.size W (W2.drewN n)) := fun n => hbr2.trans ((bdN W2 n).mono hbr2.size);have HGO : Hid (¬(c0 = a /\ c1 = b) -> (1 <= 1 -> ¬(c0 = a /\ c1 = b)) /\ (2 <= 1 -> ¬(c1 = a /\ c2 = b)) /\ (3 <= 1 -> ¬(c2 = a /\ c0 = b))) := fun hne => by
    obtain ⟨n0, n1, n2⟩ := HN.out;refine ⟨fun _ => ?_, fun h => ?_, fun h => ?_⟩
    ·first | exact n0 (by omega) | exact hne
    ·first | exact n1 (by omega) | exact hne | exact absurd h (by decide)
    ·first | exact n2 (by omega) | exact hne | exact absurd h (by decide)
   rcases HT0.out with ⟨e, e1, e2⟩ | ⟨e, e1 | ⟨e1, e2⟩⟩
   ·rcases HU0.out with ⟨e', e3, e4⟩ | ⟨e', e3 | ⟨e3, e4⟩⟩
    ·have HF : Hid (0 = res) := by
      obtain ⟨n0, n1, n2⟩ := HN.out;unfold Hid;rw [HR.out]; unfold sideL;rw [if_pos ⟨e, e'⟩]
     clear e e';go_wp2_with fail;go_quiet (fail);go_wp2_with fail;go_ret;exact ⟨_, rfl, congrArg (Value.int .i64) HF.out, hbF3.out _⟩
    ·have HM := hid (HGO.out fun h => e' h.2)
     clear e e';go_wp2_with fail;go_quiet (fail);go_wp2_with fail;go_roundw
     case rel => exact ⟨1, by go_num, by decide, HM, hbr3.out _⟩
     case measure => simp [RowKit.intOf]
    ·have HM := hid (HGO.out fun h => e' h.2)
     clear e e';go_wp2_with fail;go_quiet (fail);go_wp2_with fail;go_roundw
     case rel => exact ⟨1, by go_num, by decide, HM, hbr3.out _⟩
     case measure => simp [RowKit.intOf]
   ·have HM := hid (HGO.out fun h => e h.1)
    clear e;go_wp2_with fail;go_quiet (fail);go_wp2_with fail;go_roundw
    case rel => exact ⟨1, by go_num, by decide, HM, hbr3.out _⟩
    case measure => simp [RowKit.intOf]
   ·have HM := hid (HGO.out fun h => e h.1)
    clear e;go_wp2_with fail;go_quiet (fail);go_wp2_with fail;go_roundw
    case rel => exact ⟨1, by go_num, by decide, HM, hbr3.out _⟩
    case measure => simp [RowKit.intOf]
  ·have i1 := idx_C1
   rw [show ((1 : Nat) : Int) = 1 from rfl];go_upto_region 4 with fail;obtain ⟨W2, hW2⟩ : ∃ X, X = wr.alloc (.cells #[.string x1, .string y1, .string z1] 135) := ⟨_, rfl⟩;have hb2 : Below wr.heap.size wr W2 := by rw [hW2]; exact zal _ _
   have e8 : BoxN W2 wr.heap.size 135 [.string x1, .string y1, .string z1] := by rw [hW2]; exact BoxN.new _ _ _ _ rfl
   rw [<- hW2];clear hW2;have g3 := f3.below hb2 f3.lt;have g4 := f4.below hb2 f4.lt;have g5 := f5.below hb2 f5.lt;have hbF2 : Below w.heap.size w W2 := hbF.trans (hb2.mono hbF.size);have hbr2 : Below W.heap.size W W2 := hbr.trans (hb2.mono hbr.size);have k0 := e8.cell 0 rfl;have k1 := e8.cell 1 rfl;have l0 := g4.cell 0 rfl;have l1 := g4.cell 1 rfl;have m0 := g3.cell 6 rfl;have m1 := g3.cell 7 rfl;have n0 := g5.cell 0 rfl;have n1 := g5.cell 1 rfl;clear f3 f4 f5 g3 g4 g5 e8 hb2 hbF hbr;have hbF3 : Hid (∀ n, Below w.heap.size w (W2.drewN n)) := fun n => hbF2.trans ((bdN W2 n).mono hbF2.size);have hbr3 : Hid (∀ n, Below W.heap.size W (W2.drewN n)) := fun n => hbr2.trans ((bdN W2 n).mono hbr2.size);have HGO : Hid (¬(c1 = a /\ c2 = b) -> (1 <= 2 -> ¬(c0 = a /\ c1 = b)) /\ (2 <= 2 -> ¬(c1 = a /\ c2 = b)) /\ (3 <= 2 -> ¬(c2 = a /\ c0 = b))) := fun hne => by
    obtain ⟨n0, n1, n2⟩ := HN.out;refine ⟨fun _ => ?_, fun h => ?_, fun h => ?_⟩
    ·first | exact n0 (by omega) | exact hne
    ·first | exact n1 (by omega) | exact hne | exact absurd h (by decide)
    ·first | exact n2 (by omega) | exact hne | exact absurd h (by decide)
   rcases HT1.out with ⟨e, e1, e2⟩ | ⟨e, e1 | ⟨e1, e2⟩⟩
   ·rcases HU1.out with ⟨e', e3, e4⟩ | ⟨e', e3 | ⟨e3, e4⟩⟩
    ·have HF : Hid (1 = res) := by
      obtain ⟨n0, n1, n2⟩ := HN.out;unfold Hid;rw [HR.out]; unfold sideL;rw [if_neg (n0 (by decide)), if_pos ⟨e, e'⟩]
     clear e e';go_wp2_with fail;go_quiet (fail);go_wp2_with fail;go_ret;exact ⟨_, rfl, congrArg (Value.int .i64) HF.out, hbF3.out _⟩
    ·have HM := hid (HGO.out fun h => e' h.2)
     clear e e';go_wp2_with fail;go_quiet (fail);go_wp2_with fail;go_roundw
     case rel => exact ⟨2, by go_num, by decide, HM, hbr3.out _⟩
     case measure => simp [RowKit.intOf]
    ·have HM := hid (HGO.out fun h => e' h.2)
     clear e e';go_wp2_with fail;go_quiet (fail);go_wp2_with fail;go_roundw
     case rel => exact ⟨2, by go_num, by decide, HM, hbr3.out _⟩
     case measure => simp [RowKit.intOf]
   ·have HM := hid (HGO.out fun h => e h.1)
    clear e;go_wp2_with fail;go_quiet (fail);go_wp2_with fail;go_roundw
    case rel => exact ⟨2, by go_num, by decide, HM, hbr3.out _⟩
    case measure => simp [RowKit.intOf]
   ·have HM := hid (HGO.out fun h => e h.1)
    clear e;go_wp2_with fail;go_quiet (fail);go_wp2_with fail;go_roundw
    case rel => exact ⟨2, by go_num, by decide, HM, hbr3.out _⟩
    case measure => simp [RowKit.intOf]
  ·have i2 := idx_C2
   rw [show ((2 : Nat) : Int) = 2 from rfl];go_upto_region 4 with fail;obtain ⟨W2, hW2⟩ : ∃ X, X = wr.alloc (.cells #[.string x2, .string y2, .string z2] 135) := ⟨_, rfl⟩;have hb2 : Below wr.heap.size wr W2 := by rw [hW2]; exact zal _ _
   have e8 : BoxN W2 wr.heap.size 135 [.string x2, .string y2, .string z2] := by rw [hW2]; exact BoxN.new _ _ _ _ rfl
   rw [<- hW2];clear hW2;have g3 := f3.below hb2 f3.lt;have g4 := f4.below hb2 f4.lt;have g5 := f5.below hb2 f5.lt;have hbF2 : Below w.heap.size w W2 := hbF.trans (hb2.mono hbF.size);have hbr2 : Below W.heap.size W W2 := hbr.trans (hb2.mono hbr.size);have k0 := e8.cell 0 rfl;have k1 := e8.cell 1 rfl;have l0 := g4.cell 0 rfl;have l1 := g4.cell 1 rfl;have m0 := g3.cell 0 rfl;have m1 := g3.cell 1 rfl;have n0 := g5.cell 0 rfl;have n1 := g5.cell 1 rfl;clear f3 f4 f5 g3 g4 g5 e8 hb2 hbF hbr;have hbF3 : Hid (∀ n, Below w.heap.size w (W2.drewN n)) := fun n => hbF2.trans ((bdN W2 n).mono hbF2.size);have hbr3 : Hid (∀ n, Below W.heap.size W (W2.drewN n)) := fun n => hbr2.trans ((bdN W2 n).mono hbr2.size);have HGO : Hid (¬(c2 = a /\ c0 = b) -> (1 <= 3 -> ¬(c0 = a /\ c1 = b)) /\ (2 <= 3 -> ¬(c1 = a /\ c2 = b)) /\ (3 <= 3 -> ¬(c2 = a /\ c0 = b))) := fun hne => by
    obtain ⟨n0, n1, n2⟩ := HN.out;refine ⟨fun _ => ?_, fun h => ?_, fun h => ?_⟩
    ·first | exact n0 (by omega) | exact hne
    ·first | exact n1 (by omega) | exact hne | exact absurd h (by decide)
    ·first | exact n2 (by omega) | exact hne | exact absurd h (by decide)
   rcases HT2.out with ⟨e, e1, e2⟩ | ⟨e, e1 | ⟨e1, e2⟩⟩
   ·rcases HU2.out with ⟨e', e3, e4⟩ | ⟨e', e3 | ⟨e3, e4⟩⟩
    ·have HF : Hid (2 = res) := by
      obtain ⟨n0, n1, n2⟩ := HN.out;unfold Hid;rw [HR.out]; unfold sideL;rw [if_neg (n0 (by decide)), if_neg (n1 (by decide)), if_pos ⟨e, e'⟩]
     clear e e';go_wp2_with fail;go_quiet (fail);go_wp2_with fail;go_ret;exact ⟨_, rfl, congrArg (Value.int .i64) HF.out, hbF3.out _⟩
    ·have HM := hid (HGO.out fun h => e' h.2)
     clear e e';go_wp2_with fail;go_quiet (fail);go_wp2_with fail;go_roundw
     case rel => exact ⟨3, by go_num, by decide, HM, hbr3.out _⟩
     case measure => simp [RowKit.intOf]
    ·have HM := hid (HGO.out fun h => e' h.2)
     clear e e';go_wp2_with fail;go_quiet (fail);go_wp2_with fail;go_roundw
     case rel => exact ⟨3, by go_num, by decide, HM, hbr3.out _⟩
     case measure => simp [RowKit.intOf]
   ·have HM := hid (HGO.out fun h => e h.1)
    clear e;go_wp2_with fail;go_quiet (fail);go_wp2_with fail;go_roundw
    case rel => exact ⟨3, by go_num, by decide, HM, hbr3.out _⟩
    case measure => simp [RowKit.intOf]
   ·have HM := hid (HGO.out fun h => e h.1)
    clear e;go_wp2_with fail;go_quiet (fail);go_wp2_with fail;go_roundw
    case rel => exact ⟨3, by go_num, by decide, HM, hbr3.out _⟩
    case measure => simp [RowKit.intOf]
  ·have HF : Hid (-1 = res) := by
    obtain ⟨n0, n1, n2⟩ := HN.out;unfold Hid;rw [HR.out]; unfold sideL;rw [if_neg (n0 (by decide)), if_neg (n1 (by decide)), if_neg (n2 (by decide))]
   rw [show ((3 : Nat) : Int) = 3 from rfl];go_wp2_with fail;go_ret;exact ⟨_, rfl, congrArg (Value.int .i64) HF.out, hbF⟩
def cellC (c : Cor) : List Value := [.string (RS c.1.1), .string (RS c.1.2), .string (RS c.2)]
def cCC (l : List Cor) : List Value := l.flatMap cellC
def RdK (w : World) (v : Value) (l : List Cor) : Prop := RdC 3 w v l.length (cCC l)
theorem cellsC_snoc (l : List Cor) (c : Cor) : cCC (l ++ [c]) = cCC l ++ [.string (RS c.1.1), .string (RS c.1.2), .string (RS c.2)] := by simp [cCC, cellC]
theorem RdK.open {w : World} {v : Value} {l : List Cor} (h : RdK w v l) : ∃ p c, v = .slice p l.length c /\ l.length <= c /\ c <= maxLen /\
 (l ≠ [] -> ∃ b off, p = some ⟨b, off, none⟩ /\ b < w.heap.size /\ ∀ (i : Nat) (hi : i < l.length), w.cell? ⟨b, off + i * 3, none⟩ = some (.string (RS l[i].1.1)) /\ w.cell? ⟨b, off + i * 3 + 1, none⟩ = some (.string (RS l[i].1.2)) /\ w.cell? ⟨b, off + i * 3 + 2, none⟩ = some (.string (RS l[i].2))) := by
 obtain ⟨p, c, hv, h1, h2, h3, h4⟩ := h;refine ⟨p, c, hv, h1, h2, fun hne => ?_⟩;obtain ⟨b, off, hp, hc⟩ := h4 (by
  cases l with
  | nil => exact absurd rfl hne
  | cons a l => simp [cCC, cellC])
 have hcell : ∀ (i : Nat) (hi : i < l.length), w.cell? ⟨b, off + i * 3, none⟩ = some (.string (RS l[i].1.1)) /\ w.cell? ⟨b, off + i * 3 + 1, none⟩ = some (.string (RS l[i].1.2)) /\ w.cell? ⟨b, off + i * 3 + 2, none⟩ = some (.string (RS l[i].2)) := fun i hi => by
  have e := gEf cellC 3 (fun _ => rfl) l i;refine ⟨?_, ?_, ?_⟩
  ·have := hc (i * 3) (.string (RS l[i].1.1)) (by have := e 0 (by omega); rw [Nat.add_zero] at this; unfold cCC; rw [this, List.getElem?_eq_getElem hi]; rfl)
   exact this
  ·have := hc (i * 3 + 1) (.string (RS l[i].1.2)) (by have := e 1 (by omega); unfold cCC; rw [this, List.getElem?_eq_getElem hi]; rfl)
   rw [<- Nat.add_assoc] at this;exact this
  ·have := hc (i * 3 + 2) (.string (RS l[i].2)) (by have := e 2 (by omega); unfold cCC; rw [this, List.getElem?_eq_getElem hi]; rfl)
   rw [<- Nat.add_assoc] at this;exact this
 exact ⟨b, off, hp, World.block_lt_of_cell? w _ (hcell 0 (List.length_pos_iff.2 hne)).1, hcell⟩
def crossK (a b : Cor) (z : Rat) : Cor := ((towQ a.1.1 b.1.1 ((a.2 - z) / ((a.2 - z) - (b.2 - z))), towQ a.1.2 b.1.2 ((a.2 - z) / ((a.2 - z) - (b.2 - z)))), z)
def cutS (a b : Cor) (z : Rat) : List Cor := (if 0 <= (a.2 - z).num.sign then [a] else []) ++ (if (a.2 - z).num.sign * (b.2 - z).num.sign < 0 then [crossK a b z] else [])
def corA (c0 c1 c2 : Cor) : Nat -> Cor | 0 => c0 | 1 => c1 | _ => c2
def corB (c0 c1 c2 : Cor) : Nat -> Cor | 0 => c1 | 1 => c2 | _ => c0
def cutTo (c0 c1 c2 : Cor) (z : Rat) : Nat -> List Cor | 0 => [] | i + 1 => cutTo c0 c1 c2 z i ++ cutS (corA c0 c1 c2 i) (corB c0 c1 c2 i) z
def someTo (c0 c1 c2 : Cor) (z : Rat) : Nat -> Bool | 0 => false | i + 1 => someTo c0 c1 c2 z i || decide (0 < ((corA c0 c1 c2 i).2 - z).num.sign)
def cutL (c0 c1 c2 : Cor) (z : Rat) : List Cor := if someTo c0 c1 c2 z 3 then cutTo c0 c1 c2 z 3 else []
theorem cutS_len (a b : Cor) (z : Rat) : (cutS a b z).length <= 2 := by
 unfold cutS;rw [List.length_append];split <;> split <;> simp
theorem cutTo_len (c0 c1 c2 : Cor) (z : Rat) : ∀ i, (cutTo c0 c1 c2 z i).length <= 2 * i
 | 0 => by simp [cutTo]
 | i + 1 => by
   have h1 := cutTo_len c0 c1 c2 z i;have h2 := cutS_len (corA c0 c1 c2 i) (corB c0 c1 c2 i) z;unfold cutTo;rw [List.length_append];omega
theorem cutTo_ne (c0 c1 c2 : Cor) (z : Rat) : ∀ i, someTo c0 c1 c2 z i = true -> cutTo c0 c1 c2 z i ≠ []
 | 0, h => by simp [someTo] at h
 | i + 1, h => by
   unfold someTo at h;rw [Bool.or_eq_true] at h;unfold cutTo;rcases h with h | h
   ·intro e
    exact cutTo_ne c0 c1 c2 z i h (List.append_eq_nil_iff.1 e).1
   ·have h1 := of_decide_eq_true h
    intro e;have e2 := (List.append_eq_nil_iff.1 e).2;unfold cutS at e2;rw [if_pos (by omega)] at e2;simp at e2
theorem str_zero_test (q : Rat) : (RS q).toList = [48] ↔ q.num.sign = 0 := by
 have h := RS_eq48 q;rw [Int.sign_eq_zero_iff_zero, Rat.num_eq_zero];by_cases hq : q = 0
 ·rw [decide_eq_true hq] at h
  exact ⟨fun _ => hq, fun _ => by simpa using h⟩
 ·rw [decide_eq_false hq] at h
  exact ⟨fun e => by rw [e] at h; simp at h, fun e => absurd e hq⟩
theorem sign3 (q : Rat) : q.num.sign = -1 \/ q.num.sign = 0 \/ q.num.sign = 1 := by
 rcases Int.lt_trichotomy q.num 0 with h | h | h
 ·exact .inl (Int.sign_eq_neg_one_of_neg h)
 ·exact .inr (.inl (by rw [h]; rfl))
 ·exact .inr (.inr (Int.sign_eq_one_of_pos h))
theorem info_corner : ((Tryz.prog).info? 135).map (fun i => (i.zero, i.size, i.bytes)) = some (some (.agg #[.string ⟨#[]⟩, .string ⟨#[]⟩, .string ⟨#[]⟩]), 3, 48) := by kernel_rfl
theorem cell_three (w : World) (x y z : Value) (E : Nat) : ∀ (j : Nat) (u : Value), [x, y, z][j]? = some u -> (w.alloc (.cells #[x, y, z] E)).cell? ((⟨w.heap.size, 0, none⟩ : Addr).add j) = some u := World.news_of_block (cs := #[x, y, z]) (t := E) (fr := (0, 0)) (World.alloc_heap_new w _)
theorem three_str (x y z : ByteArray) : ∀ u ∈ [Value.string x, .string y, .string z], u.oneCell' = true := by
 intro u hu; simp at hu; rcases hu with rfl | rfl | rfl <;> rfl
theorem ownsRow_base {w : World} {b b' e s n : Nat} {v : Value} {xs : List Value} (h : w.ownsRow b e s v n xs) (hb : b' <= b) : w.ownsRow b' e s v n xs := by
 obtain ⟨h1, h2⟩ := h;refine ⟨h1, ?_⟩;rcases h2 with h2 | ⟨g, cap, cur, hv, hg, hr⟩
 ·exact .inl h2
 ·exact .inr ⟨g, cap, cur, hv, Nat.le_trans hb hg, hr⟩
theorem owns_apart {w : World} {b1 b2 e1 e2 s1 s2 n1 n2 : Nat} {v1 v2 : Value} {x1 x2 : List Value} (h1 : w.ownsRow b1 e1 s1 v1 n1 x1) (h2 : w.ownsRow b2 e2 s2 v2 n2 x2) (hne : e1 ≠ e2) : v1.ownBlock = none \/ v1.ownBlock ≠ v2.ownBlock := by
 rcases h1.2 with ⟨rfl, _⟩ | ⟨g, cap, cur, rfl, _, hg, _⟩
 ·exact .inl rfl
 ·refine .inr fun e => ?_
  rcases h2.2 with ⟨rfl, _⟩ | ⟨g', cap', cur', rfl, _, hg', _⟩
  ·simp [Value.ownBlock] at e
  ·simp [Value.ownBlock] at e
   subst e;rw [hg] at hg';injection hg' with h
   injection h with _ h
   exact hne h
theorem obN {w : World} {b1 e1 s1 n1 b t : Nat} {v1 : Value} {x1 l : List Value} (h1 : w.ownsRow b1 e1 s1 v1 n1 x1) (h2 : BoxN w b t l) (hne : e1 ≠ t) : some b ≠ v1.ownBlock := by
 rcases h1.2 with ⟨rfl, _⟩ | ⟨g, cap, cur, rfl, _, hg, _⟩
 ·intro e; simp [Value.ownBlock] at e
 ·intro e
  simp [Value.ownBlock] at e;subst e;rw [show w.heap[b]? = _ from h2] at hg;injection hg with h
  injection h with _ h
  exact hne h.symm
theorem fcut_any (c0 c1 c2 : Cor) (z : Rat) (k : Nat) (hk : 0 < k) (hk2 : k <= 300) (h0 : SzP k c0.1 /\ Sz k c0.2) (h1 : SzP k c1.1 /\ Sz k c1.2) (h2 : SzP k c2.1 /\ Sz k c2.2) (hz : Sz k z) (w : World) (hg : Good w) :
 Calls Tryz.prog 75 #[.agg #[.string (RS c0.1.1), .string (RS c0.1.2), .string (RS c0.2), .string (RS c1.1.1), .string (RS c1.1.2), .string (RS c1.2), .string (RS c2.1.1), .string (RS c2.1.2), .string (RS c2.2)], .string (RS z)] w (Ret (fun r w' => w'.ownsRow w.heap.size 135 3 r (cutL c0 c1 c2 z).length (cCC (cutL c0 c1 c2 z)) /\ (cutL c0 c1 c2 z = [] -> r = .slice none 0 0)) w) := by
 have HZ := hid hz;obtain ⟨s00, hs00⟩ : ∃ s, s = RS c0.1.1 := ⟨_, rfl⟩;obtain ⟨s01, hs01⟩ : ∃ s, s = RS c0.1.2 := ⟨_, rfl⟩;obtain ⟨s02, hs02⟩ : ∃ s, s = RS c0.2 := ⟨_, rfl⟩;obtain ⟨s10, hs10⟩ : ∃ s, s = RS c1.1.1 := ⟨_, rfl⟩;obtain ⟨s11, hs11⟩ : ∃ s, s = RS c1.1.2 := ⟨_, rfl⟩;obtain ⟨s12, hs12⟩ : ∃ s, s = RS c1.2 := ⟨_, rfl⟩;obtain ⟨s20, hs20⟩ : ∃ s, s = RS c2.1.1 := ⟨_, rfl⟩;obtain ⟨s21, hs21⟩ : ∃ s, s = RS c2.1.2 := ⟨_, rfl⟩;obtain ⟨s22, hs22⟩ : ∃ s, s = RS c2.2 := ⟨_, rfl⟩;rw [<- hs00, <- hs01, <- hs02, <- hs10, <- hs11, <- hs12, <- hs20, <- hs21, <- hs22];have HCO : Hid (∀ i : Nat, i < 3 -> ∃ (A B : Cor) (j : Nat), A = corA c0 c1 c2 i /\ B = corB c0 c1 c2 i /\ ((i : Int) + 1).tmod 3 = (j : Int) /\ j < 3 /\ (SzP k A.1 /\ Sz k A.2) /\ (SzP k B.1 /\ Sz k B.2) /\
  (∀ w, (Instr.index 136 (.agg #[.string s00, .string s01, .string s02, .string s10, .string s11, .string s12, .string s20, .string s21, .string s22]) (.int .i64 (i : Int))).run Tryz.prog w = .ok (.agg #[.string (RS A.1.1), .string (RS A.1.2), .string (RS A.2)]) w) /\
  (∀ (w : World) (b : Nat), BoxN w b 136 [.string s00, .string s01, .string s02, .string s10, .string s11, .string s12, .string s20, .string s21, .string s22] -> w.cell? ⟨b, j * 3, none⟩ = some (.string (RS B.1.1)) /\ w.cell? ⟨b, j * 3 + 1, none⟩ = some (.string (RS B.1.2)) /\ w.cell? ⟨b, j * 3 + 2, none⟩ = some (.string (RS B.2)))) := fun i hi => by
  subst hs00 hs01 hs02 hs10 hs11 hs12 hs20 hs21 hs22;obtain rfl | rfl | rfl : i = 0 \/ i = 1 \/ i = 2 := by omega
  ·exact ⟨c0, c1, 1, rfl, rfl, rfl, by decide, h0, h1, idx_C0 _ _ _ _ _ _ _ _ _, fun w b h => ⟨h.cell 3 rfl, h.cell 4 rfl, h.cell 5 rfl⟩⟩
  ·exact ⟨c1, c2, 2, rfl, rfl, rfl, by decide, h1, h2, idx_C1 _ _ _ _ _ _ _ _ _, fun w b h => ⟨h.cell 6 rfl, h.cell 7 rfl, h.cell 8 rfl⟩⟩
  ·exact ⟨c2, c0, 0, rfl, rfl, rfl, by decide, h2, h0, idx_C2 _ _ _ _ _ _ _ _ _, fun w b h => ⟨h.cell 0 rfl, h.cell 1 rfl, h.cell 2 rfl⟩⟩
 clear hs00 hs01 hs02 hs10 hs11 hs12 hs20 hs21 hs22 h0 h1 h2 hz;obtain ⟨i0, hi, hzz0, hzz1, hzz2⟩ := info_parts info_corner;go_enter Tryz.func75, Tryz.ntmps75;go_wp2_with fail;obtain ⟨W, hW⟩ : ∃ W, W = w.alloc (.cells #[.string s00, .string s01, .string s02, .string s10, .string s11, .string s12, .string s20, .string s21, .string s22] 136) := ⟨_, rfl⟩;have hB : Below w.heap.size w W := by rw [hW]; exact zal _ _
 have e2 : BoxN W w.heap.size 136 [.string s00, .string s01, .string s02, .string s10, .string s11, .string s12, .string s20, .string s21, .string s22] := by rw [hW]; exact BoxN.new _ _ _ _ rfl
 rw [<- hW];clear hW;have hzW := e2.lt;go_loopw [5, 6, 16] (fun t5 t6 t16 wr => ∃ (i n : Nat) (b : Bool), t16 = .int .i64 i /\ t6 = .bool b /\ i <= 3 /\ n <= 2 * i /\ Hid ((cutTo c0 c1 c2 z i).length = n) /\ Hid (b = someTo c0 c1 c2 z i) /\ wr.ownsRow W.heap.size 135 3 t5 n (cCC (cutTo c0 c1 c2 z i)) /\ Below W.heap.size W wr) (fun _ _ t16 _ => 3 - (RowKit.intOf t16).toNat)
 case atStart => exact ⟨0, 0, false, rfl, rfl, Nat.zero_le _, Nat.le_refl _, rfl, rfl, World.ownsRow_nil _ _ _ _, Below.refl _ _⟩
 case round =>
  obtain ⟨i, n, b, rfl, rfl, hin, hni, HLN, HSM, hown, hbr⟩ := hrel;obtain ⟨p5, c5, rfl⟩ := oRs hown;have hzr := hbr.size;have HOB0 : ∀ j, (Value.slice p5 n c5).ownBlock = some j -> W.heap.size <= j /\ j < wr.heap.size := fun j hj => hown.lt j hj;rcases Nat.lt_or_ge i 3 with h | h
  ·obtain ⟨A, B, j, hA, hBj, hj, hj3, hsA, hsB, hix, hbx⟩ := HCO.out i h
   have HST : Hid (cutTo c0 c1 c2 z (i + 1) = cutTo c0 c1 c2 z i ++ cutS A B z) := by rw [hA, hBj]; rfl
   have HSS : Hid (someTo c0 c1 c2 z (i + 1) = (b || decide (0 < (A.2 - z).num.sign))) := by rw [hA, HSM.out]; rfl
   clear hA hBj;have HSA := hid hsA;have HSB := hid hsB;have hzx : Sz (2 * k + 1) (A.2 - z) := (hsA.2.sub HZ.out).mono (by omega);have hzy : Sz (2 * k + 1) (B.2 - z) := (hsB.2.sub HZ.out).mono (by omega);have HX := hid fun w hg => rSa A.2 z k hk (by omega) hsA.2 HZ.out w hg
   have HY := hid fun w hg => rSa B.2 z k hk (by omega) hsB.2 HZ.out w hg
   obtain ⟨x, hx⟩ : ∃ x, x = A.2 - z := ⟨_, rfl⟩;obtain ⟨y, hy⟩ : ∃ y, y = B.2 - z := ⟨_, rfl⟩;rw [<- hx] at hzx HX HSS;rw [<- hy] at hzy HY;have HDV : Hid (x - y ≠ 0 -> ∀ w, Good w -> _) := fun hne w hg => ratDiv_any x (x - y) (4 * k + 3) (by omega) (by omega) (hzx.mono (by omega)) ((hzx.sub hzy).mono (by omega)) hne w hg
   have HDS := hid fun w hg => rSa x y (2 * k + 1) (by omega) (by omega) hzx hzy w hg
   have HQZ : Hid (x - y ≠ 0 -> Sz (8 * k + 6) (x / (x - y))) := fun hne => (hzx.div ((hzx.sub hzy).mono (Nat.le_refl _)) (by omega)).mono (by omega)
   have HTX : Hid (x - y ≠ 0 -> ∀ w, Good w -> _) := fun hne w hg => ftoward_any A.1.1 B.1.1 (x / (x - y)) (8 * k + 6) (by omega) (by omega) (hsA.1.1.mono (by omega)) (hsB.1.1.mono (by omega)) (HQZ.out hne) w hg
   have HTY : Hid (x - y ≠ 0 -> ∀ w, Good w -> _) := fun hne w hg => ftoward_any A.1.2 B.1.2 (x / (x - y)) (8 * k + 6) (by omega) (by omega) (hsA.1.2.mono (by omega)) (hsB.1.2.mono (by omega)) (HQZ.out hne) w hg
   have HC1 : Hid (cutS A B z = (if 0 <= x.num.sign then [A] else []) ++ (if x.num.sign * y.num.sign < 0 then [crossK A B z] else [])) := by rw [hx, hy]; rfl
   have HCK : Hid (crossK A B z = ((towQ A.1.1 B.1.1 (x / (x - y)), towQ A.1.2 B.1.2 (x / (x - y))), z)) := by rw [hx, hy]; rfl
   have HGX : Hid (∀ w, _) := fun w => ratSign_any x w;have HGY : Hid (∀ w, _) := fun w => ratSign_any y w;have HNE : Hid (x.num.sign * y.num.sign < 0 -> x - y ≠ 0) := fun hlt e => by
    have e2 : x = y := by grind
    rw [e2] at hlt;rcases sign3 y with e | e | e <;> rw [e] at hlt <;> exact absurd hlt (by decide)
   have HZT := hid (str_zero_test x);have HSX3 := hid (sign3 x);have HSY3 := hid (sign3 y);generalize x.num.sign = sx at *;generalize y.num.sign = sy at *;clear hzx hzy hsA hsB hx hy;have e2r := e2.below hbr e2.lt;have hbW : Below w.heap.size w wr := hB.trans (hbr.mono hB.size);have hj3z : (j : Int) < 3 := by omega
   have hi3z : (i : Int) < 3 := by omega
   clear HCO;go_upto_region 6 with fail;obtain ⟨W1, hW1⟩ : ∃ X, X = wr.alloc (.cells #[.string (RS A.1.1), .string (RS A.1.2), .string (RS A.2)] 135) := ⟨_, rfl⟩;have hb1 : Below wr.heap.size wr W1 := by rw [hW1]; exact zal _ _
   have e8 : BoxN W1 wr.heap.size 135 [.string (RS A.1.1), .string (RS A.1.2), .string (RS A.2)] := by rw [hW1]; exact BoxN.new _ _ _ _ rfl
   rw [<- hW1];clear hW1;have HZ1 := hid hb1.size;obtain ⟨k0, k1, k2⟩ := hbx _ _ (e2r.below hb1 e2r.lt);go_upto_region 7 with fail;obtain ⟨W2, hW2⟩ : ∃ X, X = W1.alloc (.cells #[.string (RS B.1.1), .string (RS B.1.2), .string (RS B.2)] 135) := ⟨_, rfl⟩;have hb2 : Below W1.heap.size W1 W2 := by rw [hW2]; exact zal _ _
   have e9 : BoxN W2 W1.heap.size 135 [.string (RS B.1.1), .string (RS B.1.2), .string (RS B.2)] := by rw [hW2]; exact BoxN.new _ _ _ _ rfl
   rw [<- hW2];clear hW2 k0 k1 k2 hbx hix;have g8 := e8.below hb2 e8.lt;have hbr2 : Below wr.heap.size wr W2 := hb1.trans (hb2.mono hb1.size);have hbW2 : Below w.heap.size w W2 := hbW.trans (hbr2.mono hbW.size);have x0 := g8.cell 2 rfl;have y0 := e9.cell 2 rfl;have hz8 := g8.lt;have hz9 := e9.lt;have hgd : Good W2.drew := (hg.below hbW2).drewN 1;clear hb1 hb2 e8;go_region_held3 (fun w' => w'.cell? ⟨wr.heap.size, 2, none⟩ = some (.string (RS A.2)) /\ w'.cell? ⟨W1.heap.size, 2, none⟩ = some (.string (RS B.2)))
    (first | exact ⟨x0, y0⟩ | exact ⟨p_1_0, p_1_1⟩ | exact ⟨p_2_0, p_2_1⟩)
    (first
    | (go_at_call 53; refine (HY.out _ pg1).mono ?_; rintro e pw2 ⟨_, rfl, rfl, pb2⟩
       have p_2_0 := zct pb2 p_1_0;have p_2_1 := zct pb2 p_1_1;have ps2 := pb2.size;have pg2 := pg1.below pb2)
    | (go_at_call 53; refine (HX.out _ hgd).mono ?_; rintro e pw1 ⟨_, rfl, rfl, pb1⟩
       have p_1_0 := zct pb1 x0;have p_1_1 := zct pb1 y0;have ps1 : W2.heap.size <= pw1.heap.size := pb1.size;have pg1 := hgd.below pb1))
   have pB : Below W2.heap.size W2 pw2 := zbt (zbt (bdN W2 1) pb1) pb2;have hown2 := WRA hown (hbr2.trans (pB.mono hbr2.size));have hbr3 : Below wr.heap.size wr pw2 := hbr2.trans (pB.mono hbr2.size);have h8 := g8.below pB g8.lt;have h9 := e9.below pB e9.lt;have hz2 := pB.size;clear pB pb1 pb2 ps1 ps2 pg1 pg2 p_1_0 p_1_1 p_2_0 p_2_1 x0 y0 hown hgd hbr2 hbW2 g8 e9 e2r;go_upto_region 9 with fail;refine (HGX.out pw2).mono ?_;rintro e w3 ⟨_, rfl, rfl, nd, rfl⟩;go_upto_if 35 with fail;obtain ⟨w3, hw3⟩ : ∃ X, X = pw2.drewN nd := ⟨_, rfl⟩;have hd3 : Below pw2.heap.size pw2 w3 := by rw [hw3]; exact bdN pw2 nd
   have hz3 : pw2.heap.size = w3.heap.size := by rw [hw3]; rfl
   rw [<- hw3];clear hw3;have hzW1 : wr.heap.size <= W1.heap.size := HZ1.out;have h83 := h8.below hd3 h8.lt;have h93 := h9.below hd3 h9.lt;have hown3 := WRA hown2 hd3;have hbr3' : Below wr.heap.size wr w3 := hbr3.trans (hd3.mono hbr3.size);have HOB : Hid (∀ j, (Value.slice p5 n c5).ownBlock = some j -> W.heap.size <= j /\ j < wr.heap.size) := HOB0;generalize cutTo c0 c1 c2 z i = L at *;obtain ⟨L1, hL1⟩ : ∃ l, l = L ++ (if 0 <= sx then [A] else []) := ⟨_, rfl⟩;have HL1 := hid hL1;clear hL1 h8 h9 hown2 hbr3 hd3;go_cut [5, 6] (fun s5 s6 wx => ∃ (n' : Nat) (b' : Bool), s6 = .bool b' /\ Hid (b' = (b || decide (0 < sx))) /\ n' <= n + 1 /\ Hid (L1.length = n') /\ wx.ownsRow W.heap.size 135 3 s5 n' (cCC L1) /\ Below W.heap.size W wx /\ w3.heap.size <= wx.heap.size /\ BoxN wx wr.heap.size 135 [.string (RS A.1.1), .string (RS A.1.2), .string (RS A.2)] /\ BoxN wx W1.heap.size 135 [.string (RS B.1.1), .string (RS B.1.2), .string (RS B.2)])
   case first =>
    rcases Int.lt_or_le sx 0 with hs | hs
    ·have HE : Hid (L1 = L) := by unfold Hid; rw [HL1.out, if_neg (by omega), List.append_nil]
     have HBB : Hid (b = (b || decide (0 < sx))) := by unfold Hid; rw [decide_eq_false (by omega), Bool.or_false]
     go_wp2_with fail;go_meet;exact ⟨n, b, rfl, HBB, by omega, by unfold Hid; rw [HE.out]; exact HLN.out, by rw [HE.out]; exact hown3, hbr.trans (hbr3'.mono hbr.size), Nat.le_refl _, h83, h93⟩
    ·have HE : Hid (L1 = L ++ [A]) := by unfold Hid; rw [HL1.out, if_pos hs]
     have HLE : Hid (L1.length = n + 1) := by unfold Hid; rw [HE.out, List.length_append, HLN.out]; rfl
     have HBE : Hid (cCC L1 = cCC L ++ [.string (RS A.1.1), .string (RS A.1.2), .string (RS A.2)]) := by unfold Hid; rw [HE.out, cellsC_snoc]
     obtain ⟨q, hq⟩ : ∃ q, q = decide (0 < sx) := ⟨_, rfl⟩;have a0 := h83.cell 0 rfl;have a1 := h83.cell 1 rfl;have a2 := h83.cell 2 rfl;have t1 : ((RS x).toList == [48]) = !q := by
      rw [hq, Bool.eq_iff_iff, beq_iff_eq, HZT.out];clear hq;rcases Int.lt_or_le 0 sx with h1 | h1
      ·rw [decide_eq_true h1]; simp; omega
      ·rw [decide_eq_false (by omega)]; simp; omega
     have HQ := hid hq;have hn4 : n <= 4 := by omega
     have hzB : W.heap.size <= w3.heap.size := by have := h83.lt; omega
     have hl8 := h83.lt;have hl9 := h93.lt;have hw1 : wr.heap.size <= W1.heap.size := by omega
     clear hq
     go_wp2_with (at_builtin; refine wpList_append_own _ rfl _ _ 138 rfl W.heap.size 135 i0 (.agg #[.string ⟨#[]⟩, .string ⟨#[]⟩, .string ⟨#[]⟩]) 3 48 Tryz.underlying138 hi hzz0 hzz1 hzz2 rfl (by decide) _ _ _ rfl (hown3.alloc _) ⟨w3.heap.size, 0, none⟩ 1 1 [.string (RS A.1.1), .string (RS A.1.2), .string (RS A.2)] rfl rfl (cell_three _ _ _ _ _) (three_str _ _ _) (by unfold maxLen; omega) (by omega) (by simp; omega) ?_
                  intro v4 w4 hown4 hgrow4 _;have hzw4 := hgrow4.size;have hbr4 : Below W.heap.size W w4 := ((hbr.trans (hbr3'.mono hbr.size)).alloc hzB _).grown hgrow4 (by simp; omega) (fun j hj => by have := (hown3.lt j hj).1; omega);have h84 := (hgrow4.block wr.heap.size (by simp; omega) (fun e => by have := (HOB.out _ e.symm).2; omega)).trans (h83.below ((Below.refl _ _).alloc (Nat.le_refl _) _) hl8);have h94 := (hgrow4.block W1.heap.size (by simp; omega) (fun e => by have := (HOB.out _ e.symm).2; omega)).trans (h93.below ((Below.refl _ _).alloc (Nat.le_refl _) _) hl9);clear hgrow4)
     all_goals
      have hbF4 : w3.heap.size <= w4.heap.size := by simp at hzw4; omega
      rw [<- HBE.out] at hown4;go_wp2_with fail;go_meet
      first
           | exact ⟨n + 1, q, rfl, (by unfold Hid; first | rw [HQ.out, (‹b = false› : b = false)]; rfl | rw [HQ.out, Bool.eq_false_iff.2 (‹¬ b = true› : ¬ b = true)]; rfl), Nat.le_refl _, HLE, hown4, hbr4, hbF4, h84, h94⟩
           | exact ⟨n + 1, true, rfl, (by unfold Hid; rw [(‹b = true› : b = true)]; rfl), Nat.le_refl _, HLE, hown4, hbr4, hbF4, h84, h94⟩
   case rest =>
    obtain ⟨n1, b1, rfl, HB1, hn1, HLE1, hownc, hbrc, hzc, h8c, h9c⟩ := hcut;obtain ⟨pc, cc, rfl⟩ := oRs hownc;obtain ⟨cr, hcr⟩ : ∃ cr, cr = decide (sx * sy < 0) := ⟨_, rfl⟩;have HCR := hid hcr;have hbWc : Below w.heap.size w wc := hB.trans (hbrc.mono hB.size);clear hown3 h83 h93 HOB hbr3' hbr HZT e2 hcr;go_upto_region 11 with fail;go_cut [50] (fun s50 wx => s50 = .bool cr /\ ∃ nd, wx = wc.drewN nd)
    case first =>
     clear HL1 hownc hbrc hzc h8c h9c hbWc HB1 hn1 HLE1 HC1 HCK HNE HDV HDS HQZ HTX HTY HX HY HSA HSB HST HSS HLN HSM hzW hzr hzW1 hz2 hz3 HZ1 hg hi hzz0 hzz1 hzz2 HZ hB;go_wp2_with fail;refine (HGX.out wc).mono ?_;rintro e w5 ⟨_, rfl, rfl, nd5, rfl⟩;go_wp2_with fail;refine (HGY.out _).mono ?_;rintro e w6 ⟨_, rfl, rfl, nd6, rfl⟩;rcases HSX3.out with rfl | rfl | rfl <;> rcases HSY3.out with rfl | rfl | rfl
     all_goals
      go_wp2_with fail;go_meet;exact ⟨by rw [HCR.out]; rfl, _, rfl⟩
    case rest =>
     obtain ⟨rfl, nd6, rfl⟩ := hcut;obtain ⟨w6, hw6⟩ : ∃ X, X = wc.drewN nd6 := ⟨_, rfl⟩;have hd6 : Below wc.heap.size wc w6 := by rw [hw6]; exact bdN wc nd6
     have hz6 : wc.heap.size = w6.heap.size := by rw [hw6]; rfl
     rw [<- hw6];clear hw6;have hown6 := WRA hownc hd6;have hbr6 : Below W.heap.size W w6 := hbrc.trans (hd6.mono hbrc.size);have hbW6 : Below w.heap.size w w6 := hbWc.trans (hd6.mono hbWc.size);have h86 := h8c.below hd6 h8c.lt;have h96 := h9c.below hd6 h9c.lt;clear hownc hbrc hbWc h8c h9c hd6;cases cr
     ·have HEL : Hid (cutTo c0 c1 c2 z (i + 1) = L1) := by
           unfold Hid;have hn : ¬ sx * sy < 0 := fun e => by have := HCR.out; rw [decide_eq_true e] at this; cases this
           rw [HST.out, HC1.out, HL1.out, if_neg hn, List.append_nil]
      have HLN' : Hid ((cutTo c0 c1 c2 z (i + 1)).length = n1) := by unfold Hid; rw [HEL.out, HLE1.out]
      have HSM' : Hid (b1 = someTo c0 c1 c2 z (i + 1)) := by unfold Hid; rw [HSS.out, HB1.out]
      rw [<- HEL.out] at hown6;go_wp2_with fail;go_roundw
      case rel => exact ⟨i + 1, n1, b1, by go_num, rfl, by omega, by omega, HLN', HSM', hown6, hbr6⟩
      case measure => simp [RowKit.intOf]; omega
     ·have hne := HNE.out (of_decide_eq_true HCR.out.symm)
      go_wp2_with fail;refine (HDS.out w6 (hg.below hbW6)).mono ?_;rintro e w7 ⟨_, rfl, rfl, hb7⟩;go_wp2_with fail;have hbW7 := hbW6.trans (hb7.mono hbW6.size);refine (HDV.out hne w7 (hg.below hbW7)).mono ?_;rintro e w8 ⟨_, rfl, rfl, hb8⟩;have hbb : Below w6.heap.size w6 w8 := hb7.trans (hb8.mono hb7.size);have hbW8 : Below w.heap.size w w8 := hbW6.trans (hbb.mono hbW6.size);have h88 := h86.below hbb h86.lt;have h98 := h96.below hbb h96.lt;have hown8 := WRA hown6 hbb;have hbr8 : Below W.heap.size W w8 := hbr6.trans (hbb.mono hbr6.size);clear hb7 hb8 hbW7 h86 h96 hown6 hbr6;go_upto_region 13 with fail
      have HEL : Hid (cutTo c0 c1 c2 z (i + 1) = L1 ++ [((towQ A.1.1 B.1.1 (x / (x - y)), towQ A.1.2 B.1.2 (x / (x - y))), z)]) := by
           unfold Hid;rw [HST.out, HC1.out, HL1.out, if_pos (of_decide_eq_true HCR.out.symm), HCK.out, List.append_assoc]
      have HLE8 : Hid ((cutTo c0 c1 c2 z (i + 1)).length = n1 + 1) := by unfold Hid; rw [HEL.out, List.length_append, HLE1.out]; rfl
      have HBE8 : Hid (cCC (cutTo c0 c1 c2 z (i + 1)) = cCC L1 ++ [.string (RS (towQ A.1.1 B.1.1 (x / (x - y)))), .string (RS (towQ A.1.2 B.1.2 (x / (x - y)))), .string (RS z)]) := by unfold Hid; rw [HEL.out, cellsC_snoc]
      have HSM' : Hid (b1 = someTo c0 c1 c2 z (i + 1)) := by unfold Hid; rw [HSS.out, HB1.out]
      have HTX' := hid fun w hg => HTX.out hne w hg;have HTY' := hid fun w hg => HTY.out hne w hg;clear HDV HDS HQZ HTX HTY HC1 HCK HST HSS HB1 HL1 HNE HCR HX HY HGX HGY HSX3 HSY3 HSA HSB HEL;generalize RS (towQ A.1.1 B.1.1 (x / (x - y))) = px at *;generalize RS (towQ A.1.2 B.1.2 (x / (x - y))) = py at *;generalize RS (x / (x - y)) = qs at *;clear hne;have hl8 := h88.lt;have hl9 := h98.lt;go_cut [14] (fun s14 wx => ∃ b14 : Nat, s14 = .pointer (some ⟨b14, 0, none⟩) /\ w8.heap.size <= b14 /\ BoxN wx b14 33 [.string px, .string py] /\ Below w8.heap.size w8 wx)
      case first =>
           have HF : Hid (∀ w', Below w8.heap.size w8 w' -> w'.cell? ⟨wr.heap.size, 0, none⟩ = some (.string (RS A.1.1)) /\ w'.cell? ⟨wr.heap.size, 1, none⟩ = some (.string (RS A.1.2)) /\ w'.cell? ⟨W1.heap.size, 0, none⟩ = some (.string (RS B.1.1)) /\ w'.cell? ⟨W1.heap.size, 1, none⟩ = some (.string (RS B.1.2))) := fun w' hb => by
            have y1 := h88.below hb h88.lt;have y2 := h98.below hb h98.lt;exact ⟨y1.cell 0 rfl, y1.cell 1 rfl, y2.cell 0 rfl, y2.cell 1 rfl⟩
           have HGD : Hid (∀ w', Below w8.heap.size w8 w' -> Good w') := fun w' hb => (hg.below hbW8).below hb;have b0 : Below w8.heap.size w8 w8.drew := bdN w8 1;have hZZ : ∀ w' : World, BoxN (w'.alloc (.cells #[.string ⟨#[]⟩, .string ⟨#[]⟩] 33)) w'.heap.size 33 [.string ⟨#[]⟩, .string ⟨#[]⟩] := fun w' => BoxN.new _ _ _ _ rfl;have hAA : ∀ (w' : World) (o : Obj), Below w8.heap.size w8 w' -> Below w8.heap.size w8 (w'.alloc o) := fun w' o hb => hb.alloc hb.size _;have HSC : Hid (∀ (w' : World) (b i : Nat) (v : Value), w8.heap.size <= b -> Below w8.heap.size w8 w' -> Below w8.heap.size w8 (w'.setCell ⟨b, i, none⟩ v)) := fun w' b i v hb h => h.setCell (p := ⟨b, i, none⟩) hb v;have HTR : Hid (∀ w' w'', Below w8.heap.size w8 w' -> Below w'.heap.size w' w'' -> Below w8.heap.size w8 w'') := fun w' w'' h1 h2 => h1.trans (h2.mono h1.size);have HZZ := hid hZZ;have HAA := hid hAA;have h0a := (hAA _ (.cells #[.string ⟨#[]⟩, .string ⟨#[]⟩] 33) (Below.refl _ w8)).drew;have g0 := HGD.out _ b0;have g0a := HGD.out _ h0a;clear hZZ hAA hown8 hbr8 hbW8 h88 h98 hbb;go_region_held3 (fun w' => w'.cell? ⟨wr.heap.size, 0, none⟩ = some (.string (RS A.1.1)) /\ w'.cell? ⟨wr.heap.size, 1, none⟩ = some (.string (RS A.1.2)) /\ w'.cell? ⟨W1.heap.size, 0, none⟩ = some (.string (RS B.1.1)) /\ w'.cell? ⟨W1.heap.size, 1, none⟩ = some (.string (RS B.1.2)))
            ((refine HF.out _ ?_; first | with_reducible assumption | exact (HAA.out _ _ (by with_reducible assumption)).drew | exact HAA.out _ _ (by with_reducible assumption) | (iterate 2 (refine HSC.out _ _ _ _ (by omega) ?_)); with_reducible assumption))
            (first
                  | (go_at_call 35; (first | refine (HTY'.out _ g4).mono ?_ | refine (HTY'.out _ g4a).mono ?_); rintro e v5 ⟨_, rfl, rfl, hb5⟩
                     have h5 : Below w8.heap.size w8 v5 := by first | exact HTR.out _ _ h4 hb5 | exact HTR.out _ _ h4a hb5
                     have hs5 := h5.size;try have bz5 := bz4.below hb5 bz4.lt
                     try have bz5 := (HZZ.out v4).below hb5 (by simp)
                     try have q0 := bz5.cell 0 rfl
                     try have q1 := bz5.cell 1 rfl
                     try have e0 := bz5.frozen 0
                     try have e1 := bz5.frozen 1)
                  | (go_at_call 35; (first | refine (HTX'.out _ g0).mono ?_ | refine (HTX'.out _ g0a).mono ?_); rintro e v4 ⟨_, rfl, rfl, hb4⟩
                     have h4 : Below w8.heap.size w8 v4 := by first | exact HTR.out _ _ b0 hb4 | exact HTR.out _ _ h0a hb4
                     have h4a := HAA.out _ (.cells #[.string ⟨#[]⟩, .string ⟨#[]⟩] 33) h4;have g4 := HGD.out _ h4;have g4a := HGD.out _ h4a;have hs4 := h4.size;try have bz4 := (HZZ.out w8).drew.below hb4 (by simp)))
           ·go_wp2_with fail
            go_meet;exact ⟨_, rfl, hs5, BoxN.new _ _ _ _ rfl, HAA.out _ _ h5⟩
           ·go_wp2_with fail
            go_meet;exact ⟨_, rfl, hs4, (bz5.set 0 _).set 1 _, HSC.out _ _ _ _ hs4 (HSC.out _ _ _ _ hs4 h5)⟩
           ·go_wp2_with fail
            go_meet;exact ⟨_, rfl, Nat.le_refl _, (bz5.set 0 _).set 1 _, HSC.out _ _ _ _ (Nat.le_refl _) (HSC.out _ _ _ _ (Nat.le_refl _) h5)⟩
      case rest =>
           obtain ⟨b14, rfl, hb14, x14, hbx⟩ := hcut;have hownx := WRA hown8 hbx;have hbrx : Below W.heap.size W wc := hbr8.trans (hbx.mono hbr8.size);have hzx := hbrx.size;have k0 := x14.cell 0 rfl;have k1 := x14.cell 1 rfl;have hn4 : n1 <= 6 := by omega
           clear hbx hbr8 hown8 h88 h98 x14 hbb
           go_wp2_with (at_builtin; refine wpList_append_own _ rfl _ _ 138 rfl W.heap.size 135 i0 (.agg #[.string ⟨#[]⟩, .string ⟨#[]⟩, .string ⟨#[]⟩]) 3 48 Tryz.underlying138 hi hzz0 hzz1 hzz2 rfl (by decide) _ _ _ rfl (hownx.alloc _) ⟨wc.heap.size, 0, none⟩ 1 1 [.string px, .string py, .string (RS z)] rfl rfl (cell_three _ _ _ _ _) (three_str _ _ _) (by unfold maxLen; omega) (by omega) (by simp; omega) ?_
                        intro v9 w9 hown9 hgrow9 _;have hzw9 := hgrow9.size;have hbr9 : Below W.heap.size W w9 := (hbrx.alloc hzx _).grown hgrow9 (by simp; omega) (fun j hj => by have := (hownx.lt j hj).1; omega);clear hgrow9)
           rw [<- HBE8.out] at hown9;go_wp2_with fail;go_roundw
           case rel => exact ⟨i + 1, n1 + 1, b1, by go_num, rfl, by omega, by omega, HLE8, HSM', hown9, hbr9⟩
           case measure => simp [RowKit.intOf]; omega
  ·obtain rfl : i = 3 := by omega
   have hbW : Below w.heap.size w wr := hB.trans (hbr.mono hB.size);cases b
   ·have HE : Hid (cutL c0 c1 c2 z = []) := by unfold Hid cutL; rw [<- HSM.out]; rfl
    go_wp2_with fail;go_ret;exact ⟨_, rfl, ⟨by rw [HE.out]; exact World.ownsRow_nil _ _ _ _, fun _ => rfl⟩, hbW⟩
   ·have HE : Hid (cutL c0 c1 c2 z = cutTo c0 c1 c2 z 3) := by unfold Hid cutL; rw [<- HSM.out]; rfl
    have HNE := hid (cutTo_ne c0 c1 c2 z 3 HSM.out.symm);have hrd : wr.ownsRow w.heap.size 135 3 (.slice p5 n c5) (cutTo c0 c1 c2 z 3).length (cCC (cutTo c0 c1 c2 z 3)) := by rw [HLN.out]; exact ownsRow_base hown (by omega)
    go_wp2_with fail;go_ret;exact ⟨_, rfl, ⟨by rw [HE.out]; exact hrd, fun e => absurd (HE.out.symm.trans e) HNE.out⟩, hbW⟩
def spanAt (P : List PtQ) (T : List Tri) (a b : PtQ) (i : Nat) : List SpanQ :=
 match T[i]? with
 | none => []
 | some tr => match wFF (ptI P tr.1) (ptI P tr.2.1) (ptI P tr.2.2) a b with
   | none => []
   | some l => [(i, l.1, l.2)]
def sNN (P : List PtQ) (T : List Tri) (a b : PtQ) (n : Nat) : List SpanQ := (List.range n).flatMap (spanAt P T a b)
def endsS (A : List SpanQ) : List Rat := A.flatMap fun s => [s.2.1, s.2.2]
theorem sNs (P : List PtQ) (T : List Tri) (a b : PtQ) (n : Nat) : sNN P T a b (n + 1) = sNN P T a b n ++ spanAt P T a b n := by
 unfold sNN;rw [List.range_succ, List.flatMap_append];simp
theorem endsS_append (A B : List SpanQ) : endsS (A ++ B) = endsS A ++ endsS B := by simp [endsS]
theorem endsS_length (A : List SpanQ) : (endsS A).length = 2 * A.length := by
 induction A with
 | nil => rfl
 | cons s A ih => unfold endsS at *; rw [List.flatMap_cons, List.length_append, ih]; simp; omega
theorem spanAt_some {P : List PtQ} {T : List Tri} {a b : PtQ} {i : Nat} {tr : Tri} (ht : T[i]? = some tr) {l : Rat × Rat} (h : wFF (ptI P tr.1) (ptI P tr.2.1) (ptI P tr.2.2) a b = some l) : spanAt P T a b i = [(i, l.1, l.2)] := by
 unfold spanAt; rw [ht]; dsimp only; rw [h]
theorem spanAt_none {P : List PtQ} {T : List Tri} {a b : PtQ} {i : Nat} {tr : Tri} (ht : T[i]? = some tr) (h : wFF (ptI P tr.1) (ptI P tr.2.1) (ptI P tr.2.2) a b = none) : spanAt P T a b i = [] := by
 unfold spanAt; rw [ht]; dsimp only; rw [h]
theorem spanAt_le (P : List PtQ) (T : List Tri) (a b : PtQ) (i : Nat) : (spanAt P T a b i).length <= 1 := by
 unfold spanAt;split
 ·simp
 ·split <;> simp
theorem spansN_le (P : List PtQ) (T : List Tri) (a b : PtQ) (n : Nat) : (sNN P T a b n).length <= n := by
 induction n with
 | zero => simp [sNN]
 | succ n ih => rw [sNs, List.length_append]; have := spanAt_le P T a b n; omega
def stepO (A : List SpanQ) (out : List SpanQ) (x y : Rat) : List SpanQ :=
 match findK x y A with
 | none => out
 | some k => match out.getLast? with
   | none => out ++ [((A[k]?.getD (0, 0, 0)).1, x, y)]
   | some l => if l.1 = (A[k]?.getD (0, 0, 0)).1 /\ l.2.2 = x then out.dropLast ++ [(l.1, l.2.1, y)] else out ++ [((A[k]?.getD (0, 0, 0)).1, x, y)]
def joinN (A : List SpanQ) (E : List Rat) : Nat -> List SpanQ
 | 0 => []
 | i + 1 => stepO A (joinN A E i) (E[i]?.getD 0) (E[i + 1]?.getD 0)
def alongS (A : List SpanQ) : List SpanQ := joinN A (sortD (endsS A)) ((sortD (endsS A)).length - 1)
def alongL (P : List PtQ) (T : List Tri) (a b : PtQ) : List SpanQ := alongS (sNN P T a b T.length)
theorem stepO_len (A out : List SpanQ) (x y : Rat) : (stepO A out x y).length <= out.length + 1 := by
 unfold stepO;split
 ·omega
 ·split
  ·simp
  ·split
   ·simp [List.length_dropLast] <;> omega
   ·simp
theorem joinN_len (A : List SpanQ) (E : List Rat) (i : Nat) : (joinN A E i).length <= i := by
 induction i with
 | zero => exact Nat.le_refl _
 | succ i ih => have := stepO_len A (joinN A E i) (E[i]?.getD 0) (E[i + 1]?.getD 0); unfold joinN; omega
theorem stepO_Sz {A out : List SpanQ} {x y : Rat} (hx : Sz 200 x) (hy : Sz 200 y) (h : ∀ s ∈ out, Sz 200 s.2.1 /\ Sz 200 s.2.2) : ∀ s ∈ stepO A out x y, Sz 200 s.2.1 /\ Sz 200 s.2.2 := by
 intro s hs;have new : ∀ n : Nat, s ∈ out ++ [(n, x, y)] -> Sz 200 s.2.1 /\ Sz 200 s.2.2 := fun n hn => by
  rcases List.mem_append.1 hn with hn | hn
  ·exact h s hn
  ·rw [List.mem_singleton] at hn; subst hn; exact ⟨hx, hy⟩
 unfold stepO at hs;split at hs
 ·exact h s hs
 ·split at hs
  ·exact new _ hs
  ·rename_i l hl
   split at hs
   ·rcases List.mem_append.1 hs with hn | hn
    ·exact h s (List.dropLast_subset _ hn)
    ·rw [List.mem_singleton] at hn; subst hn
     exact ⟨(h l (List.mem_of_getLast? hl)).1, hy⟩
   ·exact new _ hs
theorem getD_Sz {E : List Rat} (h : ∀ q ∈ E, Sz 200 q) (i : Nat) : Sz 200 (E[i]?.getD 0) := by
 cases he : E[i]? with
 | none => exact Sz.zero _ (by omega)
 | some q => exact h q (List.mem_of_getElem? he)
theorem joinN_Sz {A : List SpanQ} {E : List Rat} (hE : ∀ q ∈ E, Sz 200 q) (i : Nat) : ∀ s ∈ joinN A E i, Sz 200 s.2.1 /\ Sz 200 s.2.2 := by
 induction i with
 | zero => intro s hs; cases hs
 | succ i ih => exact stepO_Sz (getD_Sz hE _) (getD_Sz hE _) ih
theorem info_Span : ((Tryz.prog).info? 54).map (fun i => (i.zero, i.size, i.bytes)) = some (some (.agg #[.int .i64 0, .string ⟨#[]⟩, .string ⟨#[]⟩]), 3, 40) := by kernel_rfl
theorem span_one (i : Int) (x y : ByteArray) : ∀ r ∈ [Value.int .i64 i, .string x, .string y], r.oneCell' = true := by
 intro r hr; simp at hr; rcases hr with rfl | rfl | rfl <;> rfl
structure ApW (W : World) (Be : Nat) (v0 : Value) (vA : Value) (nA : Nat) (LA : List Value) (vB : Value) (nB : Nat) (LB : List Value) (bA bB : Option Nat) (cA cB : List Value) (x : World) : Prop where
 oa : x.ownsRow W.heap.size 54 3 vA nA LA
 ob : x.ownsRow W.heap.size 31 1 vB nB LB
 box : BoxN x Be 40 [v0]
 gb : W.grownBy x (some Be)
 ka : ∀ b, bA = some b -> BoxN x b 54 cA /\ vA.ownBlock ≠ some b /\ W.heap.size <= b
 kb : ∀ b, bB = some b -> BoxN x b 31 cB /\ vB.ownBlock ≠ some b /\ W.heap.size <= b
theorem BoxN.alloc {w : World} {b t : Nat} {l : List Value} (h : BoxN w b t l) (o : Obj) : BoxN (w.alloc o) b t l := h.below ((Below.refl _ _).alloc (Nat.le_refl _) _) h.lt
theorem own_ne {w : World} {base e s n : Nat} {v : Value} {xs : List Value} (h : w.ownsRow base e s v n xs) : v.ownBlock ≠ some w.heap.size := fun e => by
 have := (h.lt _ e).2; omega
section
variable {W : World} {Be : Nat} {v0 vA vB : Value} {nA nB : Nat} {LA LB cA cB : List Value} {bA bB : Option Nat} {x : World}
theorem ApW.alloc_a (h : ApW W Be v0 vA nA LA vB nB LB none bB cA cB x) : ApW W Be v0 vA nA LA vB nB LB (some x.heap.size) bB cA cB (x.alloc (.cells cA.toArray 54)) where
 oa := h.oa.alloc _
 ob := h.ob.alloc _
 box := h.box.alloc _
 gb := gb_alloc h.gb _
 ka := fun b e => by cases e; exact ⟨BoxN.new _ _ _ _ rfl, own_ne h.oa, h.gb.size⟩
 kb := fun b e => ⟨(h.kb b e).1.alloc _, (h.kb b e).2⟩
theorem ApW.alloc_b (h : ApW W Be v0 vA nA LA vB nB LB bA none cA cB x) : ApW W Be v0 vA nA LA vB nB LB bA (some x.heap.size) cA cB (x.alloc (.cells cB.toArray 31)) where
 oa := h.oa.alloc _
 ob := h.ob.alloc _
 box := h.box.alloc _
 gb := gb_alloc h.gb _
 ka := fun b e => ⟨(h.ka b e).1.alloc _, (h.ka b e).2⟩
 kb := fun b e => by cases e; exact ⟨BoxN.new _ _ _ _ rfl, own_ne h.ob, h.gb.size⟩
theorem ApW.app_a {b : Nat} {w' : World} {vA' : Value} {n' : Nat} {L' : List Value} (h : ApW W Be v0 vA nA LA vB nB LB (some b) bB cA cB x) (ho : w'.ownsRow W.heap.size 54 3 vA' n' L') (hg : x.grownBy w' vA.ownBlock) : ApW W Be v0 vA' n' L' vB nB LB none bB cA cB w' where
 oa := ho
 ob := h.ob.kept hg (owns_apart h.ob h.oa (by decide))
 box := h.box.gb hg (fun e => obN h.oa h.box (by decide) e.symm)
 gb := gb_grown h.gb hg (fun j e => (h.oa.lt j e).1)
 ka := fun b e => by cases e
 kb := fun b e => ⟨(h.kb b e).1.gb hg (fun e2 => obN h.oa (h.kb b e).1 (by decide) e2.symm), (h.kb b e).2⟩
theorem ApW.app_b {b : Nat} {w' : World} {vB' : Value} {n' : Nat} {L' : List Value} (h : ApW W Be v0 vA nA LA vB nB LB bA (some b) cA cB x) (ho : w'.ownsRow W.heap.size 31 1 vB' n' L') (hg : x.grownBy w' vB.ownBlock) : ApW W Be v0 vA nA LA vB' n' L' bA none cA cB w' where
 oa := h.oa.kept hg (owns_apart h.oa h.ob (by decide))
 ob := ho
 box := h.box.gb hg (fun e => obN h.ob h.box (by decide) e.symm)
 gb := gb_grown h.gb hg (fun j e => (h.ob.lt j e).1)
 ka := fun b e => ⟨(h.ka b e).1.gb hg (fun e2 => obN h.ob (h.ka b e).1 (by decide) e2.symm), (h.ka b e).2⟩
 kb := fun b e => by cases e
theorem ApW.news_a {b : Nat} (h : ApW W Be v0 vA nA LA vB nB LB (some b) bB cA cB x) : ∀ j u, cA[j]? = some u -> x.cell? ((⟨b, 0, none⟩ : Addr).add j) = some u := by
 have := World.news_of_block (show x.heap[b]? = some (.cells cA.toArray 54 (0, 0)) from (h.ka b rfl).1);simpa using this
theorem ApW.news_b {b : Nat} (h : ApW W Be v0 vA nA LA vB nB LB bA (some b) cA cB x) : ∀ j u, cB[j]? = some u -> x.cell? ((⟨b, 0, none⟩ : Addr).add j) = some u := by
 have := World.news_of_block (show x.heap[b]? = some (.cells cB.toArray 31 (0, 0)) from (h.kb b rfl).1);simpa using this
theorem ApW.drew (h : ApW W Be v0 vA nA LA vB nB LB bA bB cA cB x) : ApW W Be v0 vA nA LA vB nB LB bA bB cA cB x.drew where
 oa := WRA h.oa (bdN x 1)
 ob := WRA h.ob (bdN x 1)
 box := h.box.drew
 gb := gb_below h.gb (bdN x 1)
 ka := h.ka
 kb := h.kb
end
end Go.Proofs.YtegiemcnfbchoaaGreatDoor
namespace Go.Proofs.YtegiemcnfbchoaaGreatDoor
open Go.RowKit Go.Lib
theorem ratChk_ok (q : Rat) (h : Sz 200 q) (w : World) (hg : Good w) :
 Calls Tryz.prog 37 #[.string (RS q)] w (Ret (fun r _ => r = .int .i64 0) w) := by
 have hs := h.size (by omega);refine (checkQ_any (RS q) (by omega) w hg).mono ?_;rintro e w' ⟨v, he, hv, hb⟩;exact ⟨v, he, by rw [hv, Rlt, rightQ_RL h]; rfl, hb⟩
def cellsQ (l : List Rat) : List Value := l.map fun q => Value.string (RS q)
theorem two_one (x y : ByteArray) : ∀ u ∈ [Value.string x, .string y], u.oneCell' = true := two_str x y
theorem insD_le (x : Rat) (l : List Rat) : (insD x l).length <= l.length + 1 := by
 induction l with
 | nil => simp [insD]
 | cons y l ih =>
   unfold insD;split
   ·simp
   ·split
    ·simpa using ih
    ·simp
theorem sortD_le (l : List Rat) : (sortD l).length <= l.length := by
 unfold sortD
 induction l with
 | nil => simp
 | cons x l ih => rw [List.foldr_cons, List.length_cons]; exact Nat.le_trans (insD_le x _) (by omega)
def RowV (w : World) (v : Value) (l : List Rat) : Prop := (v = .slice none 0 0 /\ l = []) \/ ∃ g cap, v = .slice (some ⟨g, 0, none⟩) l.length cap /\ RowQ w g l /\ l.length <= cap /\ g < w.heap.size
theorem RowV.of_own {w : World} {base e n : Nat} {v : Value} {l : List Rat} (h : w.ownsRow base e 1 v n (cellsQ l)) (hn : n = l.length) : RowV w v l := by
 subst hn;rcases h.2 with ⟨hv, h0⟩ | ⟨g, cap, cur, hv, hb, hg, hc, _⟩
 ·exact .inl ⟨hv, List.length_eq_zero_iff.1 h0⟩
 ·subst hv
  refine .inr ⟨g, cap, rfl, fun a q ha => ?_, hc, (Array.getElem?_eq_some_iff.1 hg).1⟩;have hal := (List.getElem?_eq_some_iff.1 ha).1;refine ⟨?_, h.frozenAt a⟩;rw [h.cellAt a (by omega)];unfold cellsQ;rw [List.getElem?_map, ha]; rfl
theorem RowV.shape {w : World} {v : Value} {l : List Rat} (h : RowV w v l) : ∃ p c, v = .slice p l.length c := by
 rcases h with ⟨rfl, rfl⟩ | ⟨g, cap, rfl, _⟩
 ·exact ⟨_, _, rfl⟩
 ·exact ⟨_, _, rfl⟩
theorem RowV.setFar {w : World} {v : Value} {l : List Rat} (h : RowV w v l) (b i : Nat) (u : Value) (hb : v.ownBlock ≠ some b) : RowV (w.setCell ⟨b, i, none⟩ u) v l := by
 rcases h with ⟨rfl, rfl⟩ | ⟨g, cap, rfl, hr, hc, hg⟩
 ·exact .inl ⟨rfl, rfl⟩
 ·have hne : b ≠ g := fun e => hb (by rw [e]; rfl)
  exact .inr ⟨g, cap, rfl, fun a q ha => ⟨(World.cell?_setCell_far _ _ _ _ hne).trans (hr a q ha).1, by rw [World.frozen?_setCell]; exact (hr a q ha).2⟩, hc, by simpa using hg⟩
theorem RowV.below {w w' : World} {v : Value} {l : List Rat} {B : Nat} (h : RowV w v l) (hb : Below B w w') (hB : ∀ g, v.ownBlock = some g -> g < B) : RowV w' v l := by
 rcases h with ⟨rfl, rfl⟩ | ⟨g, cap, rfl, hr, hc, hg⟩
 ·exact .inl ⟨rfl, rfl⟩
 ·have hgB := hB g rfl
  exact .inr ⟨g, cap, rfl, fun a q ha => ⟨(zcq hb hgB (hr a q ha).1 :), (hb.frozen (p := ⟨g, a, none⟩) hgB).trans (hr a q ha).2⟩, hc, Nat.lt_of_lt_of_le hg hb.size⟩
theorem RowV.lt {w : World} {v : Value} {l : List Rat} (h : RowV w v l) (g : Nat) (hg : v.ownBlock = some g) : g < w.heap.size := by
 rcases h with ⟨rfl, rfl⟩ | ⟨g', cap, rfl, hr, hc, hg'⟩
 ·cases hg
 ·cases hg; exact hg'
theorem RowV.at {w : World} {v : Value} {l : List Rat} (h : RowV w v l) {a : Nat} {q : Rat} (ha : l[a]? = some q) : ∃ g cap, v = .slice (some ⟨g, 0, none⟩) l.length cap /\ g < w.heap.size /\ RowQ w g l := by
 rcases h with ⟨rfl, rfl⟩ | ⟨g, cap, rfl, hr, hc, hg⟩
 ·cases ha
 ·exact ⟨g, cap, rfl, hg, hr⟩
theorem wStep_Sz {a b p q : PtQ} {m : Nat} (zp : SzP m p) (zq : SzP m q) (za : SzP m a) (zb : SzP m b) {l r : Rat × Rat} (hl : Sz (24 * m + 16) l.1 /\ Sz (24 * m + 16) l.2) (h : wStep a b (some l) (p, q) = some r) : Sz (24 * m + 16) r.1 /\ Sz (24 * m + 16) r.2 := by
 have zu := areaQ_Sz zp zq za;have zv := areaQ_Sz zp zq zb;have zs : Sz (24 * m + 16) (areaQ p q a / (areaQ p q a - areaQ p q b)) := (zu.div (zu.sub zv) (by omega)).mono (by omega);unfold wStep at h;dsimp only at h;split at h
 ·split at h
  ·cases h
  ·cases h; exact hl
 ·split at h
  ·cases h; exact ⟨maxQ_Sz hl.1 zs, hl.2⟩
  ·cases h; exact ⟨hl.1, minQ_Sz hl.2 zs⟩
theorem withinF_Sz {c0 c1 c2 a b : PtQ} {m : Nat} (hm7 : m <= 7) (z0 : SzP m c0) (z1 : SzP m c1) (z2 : SzP m c2) (za : SzP m a) (zb : SzP m b) {l : Rat × Rat} (h : wFF c0 c1 c2 a b = some l) : Sz 200 l.1 /\ Sz 200 l.2 /\ l.1 < l.2 := by
 have step : ∀ i, i <= 3 -> ∀ r, wNN c0 c1 c2 a b i = some r -> Sz (24 * m + 16) r.1 /\ Sz (24 * m + 16) r.2 := by
  intro i
  induction i with
  | zero => intro _ r hr; cases hr; exact ⟨Sz.zero _ (by omega), Sz.one.mono (by omega)⟩
  | succ i ih =>
    intro hi r hr;rw [withinN_step _ _ _ _ _ i (by omega)] at hr;cases hn : wNN c0 c1 c2 a b i with
    | none => rw [hn] at hr; cases hr
    | some l' =>
      rw [hn] at hr;have hl := ih (by omega) l' hn;rcases (by omega : i = 0 \/ i = 1 \/ i = 2) with rfl | rfl | rfl
      ·exact wStep_Sz z0 z1 za zb hl hr
      ·exact wStep_Sz z1 z2 za zb hl hr
      ·exact wStep_Sz z2 z0 za zb hl hr
 unfold wFF at h;cases hn : wNN c0 c1 c2 a b 3 with
 | none => rw [hn] at h; cases h
 | some l' =>
   rw [hn] at h;simp only [Option.bind_some] at h;split at h
   ·cases h
    have := step 3 (by omega) _ hn;exact ⟨this.1.mono (by omega), this.2.mono (by omega), by assumption⟩
   ·cases h
theorem spansN_Sz {P : List PtQ} {T : List Tri} {a b : PtQ} {k m : Nat} (hm : MeshOK P T k) (hkm : k <= m) (hm7 : m <= 7) (za : SzP m a) (zb : SzP m b) (n : Nat) : ∀ s ∈ sNN P T a b n, Sz 200 s.2.1 /\ Sz 200 s.2.2 := by
 intro s hs;unfold sNN at hs;obtain ⟨i, _, hi⟩ := List.mem_flatMap.1 hs;unfold spanAt at hi;split at hi
 ·cases hi
 ·rename_i tr htr
  obtain ⟨z0, z1, z2⟩ := ptI_SzP hm (List.mem_of_getElem? htr);split at hi
  ·cases hi
  ·rename_i l hl
   rw [List.mem_singleton] at hi;subst hi;have := withinF_Sz hm7 ⟨z0.1.mono hkm, z0.2.mono hkm⟩ ⟨z1.1.mono hkm, z1.2.mono hkm⟩ ⟨z2.1.mono hkm, z2.2.mono hkm⟩ za zb hl;exact ⟨this.1, this.2.1⟩
theorem endsS_Sz {A : List SpanQ} (h : ∀ s ∈ A, Sz 200 s.2.1 /\ Sz 200 s.2.2) : ∀ q ∈ endsS A, Sz 200 q := by
 intro q hq;unfold endsS at hq;obtain ⟨s, hs, hq⟩ := List.mem_flatMap.1 hq;simp at hq;rcases hq with rfl | rfl
 ·exact (h s hs).1
 ·exact (h s hs).2
theorem stepO_none {A out : List SpanQ} {x y : Rat} (h : findK x y A = none) : stepO A out x y = out := by unfold stepO; rw [h]
theorem stepO_nil {A : List SpanQ} {x y : Rat} {k : Nat} {s : SpanQ} (h : findK x y A = some k) (hs : A[k]? = some s) : stepO A [] x y = [(s.1, x, y)] := by
 unfold stepO; rw [h]; simp [hs]
theorem stepO_new {A L : List SpanQ} {l : SpanQ} {x y : Rat} {k : Nat} {s : SpanQ} (h : findK x y A = some k) (hs : A[k]? = some s) (hn : ¬ (l.1 = s.1 /\ l.2.2 = x)) : stepO A (L ++ [l]) x y = L ++ [l] ++ [(s.1, x, y)] := by
 unfold stepO; rw [h]; simp only [List.getLast?_concat, Option.getD_some, hs]; rw [if_neg hn]
theorem stepO_ext {A L : List SpanQ} {l : SpanQ} {x y : Rat} {k : Nat} {s : SpanQ} (h : findK x y A = some k) (hs : A[k]? = some s) (hn : l.1 = s.1 /\ l.2.2 = x) : stepO A (L ++ [l]) x y = L ++ [(l.1, l.2.1, y)] := by
 unfold stepO; rw [h]; simp only [List.getLast?_concat, Option.getD_some, hs]; rw [if_pos hn, List.dropLast_concat]
theorem cellsS_len (l : List SpanQ) : (cSS l).length = l.length * 3 := by
 induction l with
 | nil => rfl
 | cons s l ih => unfold cSS at *; rw [List.flatMap_cons, List.length_append, ih]; simp [cellS]; omega
theorem cellsS_ext (L : List SpanQ) (l : SpanQ) (y : Rat) : (cSS (L ++ [l])).set (L.length * 3 + 2) (.string (RS y)) = cSS (L ++ [(l.1, l.2.1, y)]) := by
 rw [cellsS_snoc, cellsS_snoc, List.set_append_right _ _ (by rw [cellsS_len]; omega), cellsS_len, show L.length * 3 + 2 - L.length * 3 = 2 by omega];rfl
theorem sortV_any (w0 w : World) (v : Value) (l0 : List Rat) (hln : l0.length <= 12) (hsz : ∀ q ∈ l0, Sz 200 q) (hrow : RowV w v l0) (hb0 : Below w0.heap.size w0 w) (h0g : ∀ g, v.ownBlock = some g -> w0.heap.size <= g) (hg : Good w0) :
 Calls Tryz.prog 44 #[v, .func (.func 45) #[] #[]] w
  (fun e w' => e = .returned (.tuple #[]) /\ ∃ l, l.Perm l0 /\ SortTo l l.length /\ RowV w' v l /\ w.grownBy w' v.ownBlock) := by
 rcases hrow with ⟨rfl, rfl⟩ | ⟨g, cap, rfl, hr, hc, hgl⟩
 ·have h := AnyF.slices_SortFunc_none (P := Tryz.prog) (ρ := Tryz.sortRat0_ren) Tryz.sortRat0 none 0 (.func (.func 45) #[] #[]) w
  change Calls Tryz.prog 44 _ _ _ at h;refine h.mono ?_;rintro e w' ⟨rfl, rfl⟩;exact ⟨rfl, [], List.Perm.refl _, (fun a b x y _ _ h => by cases h), .inl ⟨rfl, rfl⟩, gb_refl _ _⟩
 ·refine (sortRat_any w0 w g cap l0 hln hsz hr hgl hb0 (h0g g rfl) hg).mono ?_
  rintro e w' ⟨rfl, l, h1, h2, h3, h4⟩;exact ⟨rfl, l, h1, h2, .inr ⟨g, cap, by rw [h1.length_eq], h3, by rw [h1.length_eq]; exact hc, Nat.lt_of_lt_of_le hgl h4.size⟩, h4⟩
theorem compactNil_any (w : World) :
 Calls Tryz.prog 46 #[.slice none 0 0] w (fun e w' => e = .returned (.slice none 0 0) /\ w' = w) := by
 go_enter Tryz.func46, Tryz.ntmps46;go_wp2_with fail;go_ret;exact ⟨rfl, rfl⟩
theorem compactV_any (w : World) (v : Value) (l : List Rat) (hln : l.length <= 1000) (hs : SortTo l l.length) (hrow : RowV w v l) :
 Calls Tryz.prog 46 #[v] w
  (fun e w' => ∃ v', e = .returned v' /\ RowV w' v' (sortD l) /\ v'.ownBlock = v.ownBlock /\ w.grownBy w' v.ownBlock) := by
 rcases hrow with ⟨rfl, rfl⟩ | ⟨g, cap, rfl, hr, hc, hgl⟩
 ·refine (compactNil_any w).mono ?_
  rintro e w' ⟨rfl, rfl⟩;exact ⟨_, rfl, .inl ⟨rfl, rfl⟩, rfl, gb_refl _ _⟩
 ·refine (compactRat_any w g cap l hln hs hr hc).mono ?_
  rintro e w' ⟨rfl, h1, h2⟩;have hle := sortD_le l;exact ⟨_, rfl, .inr ⟨g, cap, rfl, h1, by omega, Nat.lt_of_lt_of_le hgl h2.size⟩, rfl, h2⟩
end Go.Proofs.YtegiemcnfbchoaaGreatDoor
