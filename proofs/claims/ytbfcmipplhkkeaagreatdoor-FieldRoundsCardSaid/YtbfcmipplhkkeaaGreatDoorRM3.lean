import Derived.Test.YtbfcmipplhkkeaaGreatDoorRW3
/- Klippelaw12.Place, Make Right sheets Plain The walks over rational.Whole, klippelaw12.point, mesh.Grid. mesh.checkTriangle The walks over mesh.Boundary, mesh.right, mesh.Shares, mesh.within. -/
set_option maxHeartbeats 8000000
set_option maxRecDepth 100000
namespace Go.Proofs.YtbfcmipplhkkeaaGreatDoor
open Go.RowKit Go.Lib
def halfD (half : Bool) : Nat := if half then 2 else 1
def placeQ (s : Int) (half : Bool) (x : Int) : Rat := mkRat (x + s.tmod 8) (halfD half)
theorem tmod8_bound (s : Int) : -7 <= s.tmod 8 /\ s.tmod 8 <= 7 := by
 rcases Int.le_total 0 s with h | h
 ·rw [Int.tmod_eq_emod_of_nonneg h]; omega
 ·have h1 : s.tmod 8 = -((-s).tmod 8) := by rw [Int.neg_tmod]; omega
  rw [h1, Int.tmod_eq_emod_of_nonneg (by omega)];omega
theorem place_any (w : World) (kz s0 s1 : Int) (half : Bool) (x y : Int) (_hs0 : -128 <= s0 /\ s0 <= 127) (_hs1 : -128 <= s1 /\ s1 <= 127) (hx : -100 <= x /\ x <= 100) (hy : -100 <= y /\ y <= 100) (hg : Good w) :
 Calls Tryz.prog 24 #[.agg #[.int .u8 kz, .int .i8 s0, .int .i8 s1, .bool half], .agg #[.int .i8 x, .int .i8 y], .int .i64 1] w (Ret (fun r _ => r = .agg #[.string (RS (placeQ s0 half x)), .string (RS (placeQ s1 half y))]) w) := by
 have hb0 := tmod8_bound s0;have hb1 := tmod8_bound s1;have HO0 := hid fun w hg => ratOf_any (x + s0.tmod 8) (halfD half : Int) (x + s0.tmod 8) (halfD half) (halfD half : Int) rfl (by cases half <;> decide) (by omega) (by cases half <;> decide) (.inl ⟨rfl, rfl⟩) w hg
 have HO1 := hid fun w hg => ratOf_any (y + s1.tmod 8) (halfD half : Int) (y + s1.tmod 8) (halfD half) (halfD half : Int) rfl (by cases half <;> decide) (by omega) (by cases half <;> decide) (.inl ⟨rfl, rfl⟩) w hg
 unfold placeQ;obtain ⟨p0, hp0⟩ : ∃ p, p = mkRat (x + s0.tmod 8) (halfD half) := ⟨_, rfl⟩;obtain ⟨p1, hp1⟩ : ∃ p, p = mkRat (y + s1.tmod 8) (halfD half) := ⟨_, rfl⟩;rw [<- hp0] at HO0 ⊢;rw [<- hp1] at HO1 ⊢;obtain ⟨m0, hm0⟩ : ∃ m, m = s0.tmod 8 := ⟨_, rfl⟩;obtain ⟨m1, hm1⟩ : ∃ m, m = s1.tmod 8 := ⟨_, rfl⟩;rw [<- hm0] at HO0 hb0;rw [<- hm1] at HO1 hb1;have hw0 : IntKind.i8.wrap m0 = m0 := by unfold IntKind.wrap; simp [IntKind.signed, IntKind.bits]; omega
 have hw1 : IntKind.i8.wrap m1 = m1 := by unfold IntKind.wrap; simp [IntKind.signed, IntKind.bits]; omega
 have ha0 : IntKind.i64.wrap m0 = m0 := IntWalk.i64_in _ (by omega);have ha1 : IntKind.i64.wrap m1 = m1 := IntWalk.i64_in _ (by omega);have hx1 : IntKind.i64.wrap x = x := IntWalk.i64_in _ (by omega);have hy1 : IntKind.i64.wrap y = y := IntWalk.i64_in _ (by omega);have hxm : IntKind.i64.wrap (x + m0) = x + m0 := IntWalk.i64_in _ (by omega);have hym : IntKind.i64.wrap (y + m1) = y + m1 := IntWalk.i64_in _ (by omega);have hs0' := hm0.symm;have hs1' := hm1.symm;clear hp0 hp1 hm0 hm1;cases half
 ·dsimp only [halfD] at HO0 HO1
  go_enter Tryz.func24, Tryz.ntmps24;go_wp2_with fail;obtain ⟨W, hW⟩ : ∃ W, W = ((w.alloc (.cells #[.int .u8 kz, .int .i8 s0, .int .i8 s1, .bool false] 25)).alloc (.cells #[.int .i8 x, .int .i8 y] 23)).alloc (.cells #[.string ⟨#[]⟩, .string ⟨#[]⟩] 50) := ⟨_, rfl⟩;have hB : Below w.heap.size w W := by rw [hW]; exact (((Below.refl _ _).alloc (Nat.le_refl _) _).alloc (by simp) _).alloc (by simp; omega) _
  have b3 : BoxN W w.heap.size 25 [.int .u8 kz, .int .i8 s0, .int .i8 s1, .bool false] := by
   rw [hW];have h1 := (BoxN.new w #[.int .u8 kz, .int .i8 s0, .int .i8 s1, .bool false] 25 _ rfl);exact (h1.below ((Below.refl _ _).alloc (Nat.le_refl _) _) h1.lt).below ((Below.refl _ _).alloc (Nat.le_refl _) _) (by simp; omega)
  have b4 : BoxN W (w.heap.size + 1) 23 [.int .i8 x, .int .i8 y] := by
   rw [hW];have h1 := (BoxN.new (w.alloc (.cells #[.int .u8 kz, .int .i8 s0, .int .i8 s1, .bool false] 25)) #[.int .i8 x, .int .i8 y] 23 (w.heap.size + 1) (by simp));exact h1.below (zal _ _) h1.lt
  have b6 : BoxN W (w.heap.size + 2) 50 [.string ⟨#[]⟩, .string ⟨#[]⟩] := by rw [hW]; exact BoxN.new _ _ _ _ (by simp)
  rw [<- hW];clear hW;refine (HO0.out W (hg.below hB)).mono ?_;rintro e w1 ⟨_, rfl, rfl, hb1'⟩;have hB1 := hB.trans (hb1'.mono hB.size);have b31 := b3.below hb1' b3.lt;have b41 := b4.below hb1' b4.lt;have b61 := b6.below hb1' b6.lt;have c0 := b41.cell 1 rfl;have c1 := b31.cell 2 rfl;clear b3 b4 b6 hb1' hB;go_wp2_with fail;refine (HO1.out w1 (hg.below hB1)).mono ?_;rintro e w2 ⟨_, rfl, rfl, hb2'⟩;have hB2 := hB1.trans (hb2'.mono hB1.size);have b62 := b61.below hb2' b61.lt;have d0 := b62.cell 0 rfl;have d1 := b62.cell 1 rfl;have d2 := b62.frozen 0;have d3 := b62.frozen 1;clear c0 c1 b31 b41 b61 hb2' hB1;go_wp2_with fail;have BF := (b62.set 0 (.string (RS p0))).set 1 (.string (RS p1));have hBF := (hB2.setCell (p := ⟨w.heap.size + 2, 0, none⟩) (by show w.heap.size <= w.heap.size + 2; omega) (.string (RS p0))).setCell (p := ⟨w.heap.size + 2, 1, none⟩) (by show w.heap.size <= w.heap.size + 2; omega) (.string (RS p1));have g0 := BF.cell 0 rfl;have g1 := BF.cell 1 rfl;exact bodyPost_ret (v := .agg #[.string (RS p0), .string (RS p1)]) (by simp [results, Tryz.results24, go_sem, g0, g1]) rfl ⟨_, rfl, rfl, hBF⟩
 ·dsimp only [halfD] at HO0 HO1
  go_enter Tryz.func24, Tryz.ntmps24;go_wp2_with fail;obtain ⟨W, hW⟩ : ∃ W, W = ((w.alloc (.cells #[.int .u8 kz, .int .i8 s0, .int .i8 s1, .bool true] 25)).alloc (.cells #[.int .i8 x, .int .i8 y] 23)).alloc (.cells #[.string ⟨#[]⟩, .string ⟨#[]⟩] 50) := ⟨_, rfl⟩;have hB : Below w.heap.size w W := by rw [hW]; exact (((Below.refl _ _).alloc (Nat.le_refl _) _).alloc (by simp) _).alloc (by simp; omega) _
  have b3 : BoxN W w.heap.size 25 [.int .u8 kz, .int .i8 s0, .int .i8 s1, .bool true] := by
   rw [hW];have h1 := (BoxN.new w #[.int .u8 kz, .int .i8 s0, .int .i8 s1, .bool true] 25 _ rfl);exact (h1.below ((Below.refl _ _).alloc (Nat.le_refl _) _) h1.lt).below ((Below.refl _ _).alloc (Nat.le_refl _) _) (by simp; omega)
  have b4 : BoxN W (w.heap.size + 1) 23 [.int .i8 x, .int .i8 y] := by
   rw [hW];have h1 := (BoxN.new (w.alloc (.cells #[.int .u8 kz, .int .i8 s0, .int .i8 s1, .bool true] 25)) #[.int .i8 x, .int .i8 y] 23 (w.heap.size + 1) (by simp));exact h1.below (zal _ _) h1.lt
  have b6 : BoxN W (w.heap.size + 2) 50 [.string ⟨#[]⟩, .string ⟨#[]⟩] := by rw [hW]; exact BoxN.new _ _ _ _ (by simp)
  rw [<- hW];clear hW;refine (HO0.out W (hg.below hB)).mono ?_;rintro e w1 ⟨_, rfl, rfl, hb1'⟩;have hB1 := hB.trans (hb1'.mono hB.size);have b31 := b3.below hb1' b3.lt;have b41 := b4.below hb1' b4.lt;have b61 := b6.below hb1' b6.lt;have c0 := b41.cell 1 rfl;have c1 := b31.cell 2 rfl;clear b3 b4 b6 hb1' hB;go_wp2_with fail;refine (HO1.out w1 (hg.below hB1)).mono ?_;rintro e w2 ⟨_, rfl, rfl, hb2'⟩;have hB2 := hB1.trans (hb2'.mono hB1.size);have b62 := b61.below hb2' b61.lt;have d0 := b62.cell 0 rfl;have d1 := b62.cell 1 rfl;have d2 := b62.frozen 0;have d3 := b62.frozen 1;clear c0 c1 b31 b41 b61 hb2' hB1;go_wp2_with fail;have BF := (b62.set 0 (.string (RS p0))).set 1 (.string (RS p1));have hBF := (hB2.setCell (p := ⟨w.heap.size + 2, 0, none⟩) (by show w.heap.size <= w.heap.size + 2; omega) (.string (RS p0))).setCell (p := ⟨w.heap.size + 2, 1, none⟩) (by show w.heap.size <= w.heap.size + 2; omega) (.string (RS p1));have g0 := BF.cell 0 rfl;have g1 := BF.cell 1 rfl;exact bodyPost_ret (v := .agg #[.string (RS p0), .string (RS p1)]) (by simp [results, Tryz.results24, go_sem, g0, g1]) rfl ⟨_, rfl, rfl, hBF⟩
def sheetP (k : Nat) (s0 s1 : Int) (half : Bool) : List PtQ := (shapeP k).map fun p => (placeQ s0 half p.1, placeQ s1 half p.2)
theorem shapeP_small (k : Nat) : ∀ p ∈ shapeP k, (0 <= p.1 /\ p.1 <= 6) /\ (0 <= p.2 /\ p.2 <= 6) := by
 unfold shapeP;split <;> decide
theorem shapeP_len (k : Nat) : (shapeP k).length <= 6 := by
 unfold shapeP;split <;> decide
theorem info_Point : ((Tryz.prog).info? 50).map (fun i => (i.zero, i.size, i.bytes)) = some (some (.agg #[.string ⟨#[]⟩, .string ⟨#[]⟩]), 2, 32) := by kernel_rfl
theorem two_str (x y : ByteArray) : ∀ u ∈ [Value.string x, .string y], u.oneCell' = true := by
 intro u hu;simp at hu;rcases hu with rfl | rfl <;> rfl
theorem make12_any (w : World) (kz s0 s1 : Int) (half : Bool) (k : Nat) (hk : kz.tmod 8 = (k : Int)) (hk0 : 0 <= kz) (hk1 : kz <= 255) (hs0 : -128 <= s0 /\ s0 <= 127) (hs1 : -128 <= s1 /\ s1 <= 127) (hg : Good w) :
 Calls Tryz.prog 6 #[.agg #[.int .u8 kz, .int .i8 s0, .int .i8 s1, .bool half]] w (Ret (fun r w' => ∃ vp vt, r = .agg #[vp, vt] /\ RdP w' vp (strP (sheetP k s0 s1 half)) /\ RdT w' vt (shapeT k)) w) := by
 obtain ⟨i0, hi, hz0, hz1, hz2⟩ := info_parts info_Point;have HSH := hid fun w hg => shape_any w kz k hk hk0 hk1 hg;have HSM := hid (shapeP_small k);have hln := shapeP_len k;have HPL : Hid (∀ (i : Nat) (h : i < (shapeP k).length) (w : World), Good w -> _) := fun i h w hg => place_any w kz s0 s1 half (shapeP k)[i].1 (shapeP k)[i].2 hs0 hs1 (by have := shapeP_small k _ (List.getElem_mem h); omega) (by have := shapeP_small k _ (List.getElem_mem h); omega) hg
 have HSP : Hid (sheetP k s0 s1 half = (shapeP k).map fun p => (placeQ s0 half p.1, placeQ s1 half p.2)) := rfl;generalize sheetP k s0 s1 half = Q at *;generalize shapeP k = N at *;generalize shapeT k = T at *;clear hk hk0 hk1 hs0 hs1;go_enter Tryz.func6, Tryz.ntmps6;go_wp2_with fail;obtain ⟨W, hW⟩ : ∃ W, W = (w.alloc (.cells #[.int .u8 kz, .int .i8 s0, .int .i8 s1, .bool half] 25)).alloc (.cells #[.slice none 0 0, .slice none 0 0] 35) := ⟨_, rfl⟩;have hB : Below w.heap.size w W := by rw [hW]; exact zal2 _ _ _
 have b1 : BoxN W w.heap.size 25 [.int .u8 kz, .int .i8 s0, .int .i8 s1, .bool half] := by
  rw [hW];have h1 := (BoxN.new w #[.int .u8 kz, .int .i8 s0, .int .i8 s1, .bool half] 25 _ rfl);exact h1.below (zal _ _) h1.lt
 have b2 : BoxN W (w.heap.size + 1) 35 [.slice none 0 0, .slice none 0 0] := by rw [hW]; exact BoxN.new _ _ _ _ (by simp)
 rw [<- hW];clear hW;have c0 := b1.cell 0 rfl;go_wp2_with fail;refine (HSH.out W (hg.below hB)).mono ?_;rintro e w1 ⟨_, rfl, ⟨vn, vt, rfl, hN, hT⟩, hb1⟩;have hB1 := hB.trans (hb1.mono hB.size);have b11 := b1.below hb1 b1.lt;have b21 := b2.below hb1 b2.lt;clear hb1 hB b1 b2 c0 HSH;obtain ⟨pn, cn, rfl, hnc, hnm, hnr⟩ := hN.open;have HNR := hid hnr;have HT := hid hT;obtain ⟨pt, ct, rfl, _, _, _⟩ := hT.open;clear hN hT hnr;go_wp2_with fail;obtain ⟨W2, hW2⟩ : ∃ W, W = w1.alloc (.cells #[.slice none 0 0, .slice pt T.length ct] 35) := ⟨_, rfl⟩;have hb2 : Below w1.heap.size w1 W2 := by rw [hW2]; exact zal _ _
 have b5 : BoxN W2 w1.heap.size 35 [.slice none 0 0, .slice pt T.length ct] := by rw [hW2]; exact BoxN.new _ _ _ _ rfl
 have hB2 := hB1.trans (hb2.mono hB1.size);have hl1 := b11.lt;have hl2 := b21.lt;have hl5 := b5.lt;rw [<- hW2];clear hW2;have BXX := hid b11;go_loopw [6] (fun t6 wr => ∃ (i : Nat) (v : Value), t6 = .int .i64 i /\ i <= N.length /\ BoxN wr w1.heap.size 35 [v, .slice pt T.length ct] /\ wr.ownsRow (w1.heap.size + 1) 50 2 v i (cellsP (strP (Q.take i))) /\ Below w1.heap.size w1 wr /\ w1.heap.size + 1 <= wr.heap.size) (fun t6 _ => N.length - (RowKit.intOf t6).toNat)
 case atStart => exact ⟨0, _, rfl, Nat.zero_le _, b5, World.ownsRow_nil _ _ _ _, hb2, hl5⟩
 case round =>
  obtain ⟨i, v, rfl, hin, b5r, hown, hbr, hzr⟩ := hrel;obtain ⟨p5, c5, rfl⟩ := ownsRow_shape hown;rcases Nat.lt_or_ge i N.length with h | h
  ·obtain ⟨bn, on, rfl, hbn, hnc'⟩ := HNR.out (by intro e; rw [e] at h; simp at h)
   obtain ⟨n0, n1⟩ := hnc' i h;obtain ⟨⟨e0, e1⟩, e2, e3⟩ := HSM.out _ (List.getElem_mem h);have HQ : Hid (Q.take (i + 1) = Q.take i ++ [(placeQ s0 half N[i].1, placeQ s1 half N[i].2)]) := take_snoc _ _ _ (by rw [HSP.out, List.getElem?_map, List.getElem?_eq_getElem h]; rfl);have HPI := hid (HPL.out i h);obtain ⟨⟨x, y⟩, hxy⟩ : ∃ q, q = N[i] := ⟨_, rfl⟩;rw [<- hxy] at n0 n1 e0 e1 e2 e3 HPI HQ;dsimp only at n0 n1 e0 e1 e2 e3 HPI HQ;generalize placeQ s0 half x = px at *;generalize placeQ s1 half y = py at *;have hx8 : IntKind.i8.wrap x = x := by unfold IntKind.wrap; simp [IntKind.signed, IntKind.bits]; omega
   have hy8 : IntKind.i8.wrap y = y := by unfold IntKind.wrap; simp [IntKind.signed, IntKind.bits]; omega
   have z0 := b5r.cell 0 rfl;have z1 := b5r.frozen 0;have hilt : (i : Int) < (N.length : Int) := by omega
   clear hnc' hxy HPL HSM;go_upto_region 6 with fail;have HF : Hid (∀ w', Below w1.heap.size w1 w' -> w'.cell? ⟨w.heap.size, 0, none⟩ = some (.int .u8 kz) /\ w'.cell? ⟨w.heap.size, 1, none⟩ = some (.int .i8 s0) /\ w'.cell? ⟨w.heap.size, 2, none⟩ = some (.int .i8 s1) /\ w'.cell? ⟨w.heap.size, 3, none⟩ = some (.bool half) /\ w'.cell? ⟨bn, on + i * 2, none⟩ = some (.int .i64 x) /\ w'.cell? ⟨bn, on + i * 2 + 1, none⟩ = some (.int .i64 y)) := fun w' hb => by
    have b1' := BXX.out.below hb hl1;exact ⟨b1'.cell 0 rfl, b1'.cell 1 rfl, b1'.cell 2 rfl, b1'.cell 3 rfl, (zcq hb hbn n0 :), (zcq hb hbn n1 :)⟩
   have h0 : Below w1.heap.size w1 wr.drew := hbr.trans ((below_drewN wr 1).mono (by omega));have hgd : Good wr.drew := (hg.below hB1).below h0;have HD4 : Hid (∀ w4, Below wr.drew.heap.size wr.drew w4 -> Below w1.heap.size w1 w4 /\ w4.cell? ⟨w1.heap.size, 0, none⟩ = some (.slice p5 i c5) /\ w4.frozen? ⟨w1.heap.size, 0, none⟩ = false /\ w4.ownsRow (w1.heap.size + 1) 50 2 (.slice p5 i c5) i (cellsP (strP (Q.take i))) /\ wr.heap.size <= w4.heap.size /\ BoxN w4 w1.heap.size 35 [.slice p5 i c5, .slice pt T.length ct]) := fun w4 hb4 => by
    have hb4' : Below wr.heap.size wr w4 := (below_drewN wr 1).trans hb4;exact ⟨h0.trans (hb4.mono (by show w1.heap.size <= wr.heap.size; omega)), (zcq hb4' b5r.lt z0 :), (hb4'.frozen (p := ⟨w1.heap.size, 0, none⟩) b5r.lt).trans z1, World.ownsRow.belowAll hown hb4', hb4'.size, b5r.below hb4' b5r.lt⟩
   clear n0 n1;rw [show Op.load 32 (.tmp 21) = id (Op.load 32 (.tmp 21)) from rfl];go_region_held3 (fun w' => w'.cell? ⟨w.heap.size, 0, none⟩ = some (.int .u8 kz) /\ w'.cell? ⟨w.heap.size, 1, none⟩ = some (.int .i8 s0) /\ w'.cell? ⟨w.heap.size, 2, none⟩ = some (.int .i8 s1) /\ w'.cell? ⟨w.heap.size, 3, none⟩ = some (.bool half) /\ w'.cell? ⟨bn, on + i * 2, none⟩ = some (.int .i64 x) /\ w'.cell? ⟨bn, on + i * 2 + 1, none⟩ = some (.int .i64 y))
    ((refine HF.out _ ?_; first | with_reducible assumption | exact hw4a | exact hw5s))
    (first
      | (refine step_append_lies _ (by rfl) (.tmp 22) (.tmp 38) 32 (by rfl) (w1.heap.size + 1) 50 i0 (.agg #[.string ⟨#[]⟩, .string ⟨#[]⟩]) 2 32 Tryz.underlying32 hi hz0 hz1 hz2 rfl (by decide) _ i _ (by simp [Act.eval]) (hown4.alloc _) ⟨w4.heap.size, 0, none⟩ 1 1 [.string (RS px), .string (RS py)] (by simp [Act.eval]) rfl (cell_two _ _ _ _) (two_str _ _) (by omega) (by unfold maxLen; omega) (by omega) (by simp; omega) _ rfl ?_
         intro g5 cap5 w5 hown5 hgr5 hat5 hlt5;have hne5 : some w1.heap.size ≠ (Value.slice p5 i c5).ownBlock := fun e => by have := (hown4.lt _ e.symm).1; omega
         have z5 := (hgr5.cell_far ⟨w1.heap.size, 0, none⟩ (by simp; omega) hne5).trans (cell_alloc_l _ z0');have z5f := (hgr5.frozen_far ⟨w1.heap.size, 0, none⟩ (by simp; omega) hne5).trans (frozen_alloc_l _ z0' z1');have bz5 : BoxN w5 w1.heap.size 35 [.slice p5 i c5, .slice pt T.length ct] := (hgr5.block w1.heap.size (by simp; omega) hne5).trans (bz4.below ((Below.refl _ _).alloc (Nat.le_refl _) _) bz4.lt);have hw5 : Below w1.heap.size w1 w5 := (hw4.alloc (by omega) _).grown hgr5 (by simp; omega) (fun j hj => by have := (hown4.lt j hj).1; omega);have hw5s : Below w1.heap.size w1 (w5.setCell ⟨w1.heap.size, 0, none⟩ (.slice (some ⟨g5, 0, none⟩) (i + 1) cap5)) := hw5.setCell (Nat.le_refl _) _;have hz5 := hgr5.size)
      | (go_at_call 24; refine (HPI.out _ hgd).mono ?_; rintro e w4 ⟨_, rfl, rfl, hb4⟩
         obtain ⟨hw4, z0', z1', hown4, hz4, bz4⟩ := HD4.out _ hb4;have z0a := cell_alloc_l (.cells #[.string (RS px), .string (RS py)] 50) z0';have hw4a : Below w1.heap.size w1 (w4.alloc (.cells #[.string (RS px), .string (RS py)] 50)) := hw4.alloc (by omega) _))
   all_goals
    go_wp2_with fail;go_roundw
    case rel => exact ⟨i + 1, _, by simp, by omega, bz5.set 0 _, by rw [HQ.out, show cellsP (strP (Q.take i ++ [(px, py)])) = cellsP (strP (Q.take i)) ++ [.string (RS px), .string (RS py)] by simp [cellsP, strP]]; exact ownsRow_setCell_below hown5 (by show w1.heap.size < w1.heap.size + 1; omega) _, hw5s, by simp [World.setCell] at hz5 ⊢; omega⟩
    case measure =>
     show N.length - ((i : Int) + 1).toNat < N.length - (i : Int).toNat;omega
  ·obtain rfl : i = N.length := by omega
   have HRP : Hid (RdP wr (.slice p5 N.length c5) (strP Q)) := by
    have h1 : RdC 2 wr (.slice p5 N.length c5) N.length (cellsP (strP (Q.take N.length))) := RdC.of_owns hown;have hql : Q.length = N.length := by rw [HSP.out, List.length_map]
    rw [List.take_of_length_le (by omega)] at h1;unfold Hid RdP;rw [strP_length, hql];exact h1
   have HRT : Hid (RdT wr (.slice pt T.length ct) T) := RdC.below HT.out hbr;have b2r := b21.below hbr hl2;have z0 := b5r.cell 0 rfl;have z1 := b5r.cell 1 rfl;have y0 := b2r.cell 0 rfl;have y1 := b2r.cell 1 rfl;have y2 := b2r.frozen 0;have y3 := b2r.frozen 1;have hBr : Below w.heap.size w wr := hB1.trans (hbr.mono (by have := hB1.size; omega));go_wp2_with fail;have BF := (b2r.set 0 (.slice p5 N.length c5)).set 1 (.slice pt T.length ct);have hBF := (hBr.setCell (p := ⟨w.heap.size + 1, 0, none⟩) (by show w.heap.size <= w.heap.size + 1; omega) (.slice p5 N.length c5)).setCell (p := ⟨w.heap.size + 1, 1, none⟩) (by show w.heap.size <= w.heap.size + 1; omega) (.slice pt T.length ct);have g0 := BF.cell 0 rfl;have g1 := BF.cell 1 rfl;have hne : ∀ y ∈ cellsP (strP Q), y ≠ .slice none 0 0 := by
    intro y hy;unfold cellsP at hy;obtain ⟨q, _, hq⟩ := List.mem_flatMap.1 hy;simp at hq;rcases hq with rfl | rfl <;> simp
   have hne2 : ∀ y ∈ cellsT T, y ≠ .slice none 0 0 := by
    intro y hy;unfold cellsT at hy;obtain ⟨q, _, hq⟩ := List.mem_flatMap.1 hy;simp at hq;rcases hq with rfl | rfl | rfl <;> simp
   have y1' := (b2r.set 0 (.slice p5 N.length c5)).cell 1 rfl;exact bodyPost_ret (v := .agg #[.slice p5 N.length c5, .slice pt T.length ct]) (by simp [results, Tryz.results6, go_sem, g0, g1]) rfl ⟨_, rfl, ⟨_, _, rfl, RdC.set_other (RdC.set_other HRP.out y0 hne) y1' hne, RdC.set_other (RdC.set_other HRT.out y0 hne2) y1' hne2⟩, hBF⟩
def heightQ (hs : List Int) (half : Bool) (i : Nat) : Rat := mkRat ((hs[i % 6]?.getD 0).tmod 20) (halfD half)
def heightsF (hs : List Int) (half : Bool) (n : Nat) : List Rat := (List.range n).map (heightQ hs half)
theorem heightsF_length (hs : List Int) (half : Bool) (n : Nat) : (heightsF hs half n).length = n := by simp [heightsF]
theorem heightsF_get (hs : List Int) (half : Bool) (n i : Nat) (h : i < n) : (heightsF hs half n)[i]? = some (heightQ hs half i) := by
 unfold heightsF;rw [List.getElem?_map, List.getElem?_range h]; rfl
theorem tmod20_bound (s : Int) : -19 <= s.tmod 20 /\ s.tmod 20 <= 19 := by
 rcases Int.le_total 0 s with h | h
 ·rw [Int.tmod_eq_emod_of_nonneg h]; omega
 ·have h1 : s.tmod 20 = -((-s).tmod 20) := by rw [Int.neg_tmod]; omega
  rw [h1, Int.tmod_eq_emod_of_nonneg (by omega)];omega
theorem make13_any (w : World) (pp : Option Addr) (n cp : Nat) (vt : Value) (v0 v1 v2 v3 v4 v5 : Int) (half : Bool) (hb : ∀ x ∈ [v0, v1, v2, v3, v4, v5], -128 <= x /\ x <= 127) (hn : n <= 6) (hg : Good w) :
 Calls Tryz.prog 7 #[.agg #[.slice pp n cp, vt], .agg #[.int .i8 v0, .int .i8 v1, .int .i8 v2, .int .i8 v3, .int .i8 v4, .int .i8 v5, .bool half]] w (Ret (fun r w' => RdQ w' r (heightsF [v0, v1, v2, v3, v4, v5] half n) /\ FreshV w.heap.size r) w) := by
 obtain ⟨i0, hi, hz0, hz1, hz2⟩ := info_parts info_str;obtain ⟨hs, hhs⟩ : ∃ hs : List Int, hs = [v0, v1, v2, v3, v4, v5] := ⟨_, rfl⟩;have HHS := hid hhs;rw [<- hhs] at hb ⊢;have HBD : Hid (∀ i, -128 <= hs[i % 6]?.getD 0 /\ hs[i % 6]?.getD 0 <= 127) := fun i => by
  cases hx : hs[i % 6]? with
  | none => simp
  | some x => exact hb x (List.mem_of_getElem? hx)
 clear hb;clear hhs;have HOF : Hid (∀ (i : Nat) (w : World), Good w -> _) := fun i w hg => ofQ_any ((hs[i % 6]?.getD 0).tmod 20) (halfD half : Int) ((hs[i % 6]?.getD 0).tmod 20) (halfD half) (halfD half : Int) rfl (by cases half <;> decide) (by have := tmod20_bound (hs[i % 6]?.getD 0); omega) (by cases half <;> decide) (.inl ⟨rfl, rfl⟩) w hg
 have HHQ : Hid (∀ i, mkRat ((hs[i % 6]?.getD 0).tmod 20) (halfD half) = heightQ hs half i) := fun i => rfl;have HG : Hid (∀ i, i < n -> (heightsF hs half n)[i]? = some (heightQ hs half i)) := fun i h => heightsF_get hs half n i h;have HGL : Hid ((heightsF hs half n).length = n) := heightsF_length _ _ _;generalize heightsF hs half n = F at *;cases half
 ·dsimp only [halfD] at HOF HHQ
  go_enter Tryz.func7, Tryz.ntmps7;go_wp2_with fail;obtain ⟨W, hW⟩ : ∃ W, W = ((w.alloc (.cells #[.slice pp n cp, vt] 35)).alloc (.cells #[.int .i8 v0, .int .i8 v1, .int .i8 v2, .int .i8 v3, .int .i8 v4, .int .i8 v5, .bool false] 28)).alloc (.cells #[] 40) := ⟨_, rfl⟩;have hB : Below w.heap.size w W := by rw [hW]; exact (((Below.refl _ _).alloc (Nat.le_refl _) _).alloc (by simp) _).alloc (by simp; omega) _
  have b2 : BoxN W w.heap.size 35 [.slice pp n cp, vt] := by
   rw [hW];have h1 := (BoxN.new w #[.slice pp n cp, vt] 35 _ rfl);exact (h1.below ((Below.refl _ _).alloc (Nat.le_refl _) _) h1.lt).below ((Below.refl _ _).alloc (Nat.le_refl _) _) (by simp; omega)
  have b3 : BoxN W (w.heap.size + 1) 28 [.int .i8 v0, .int .i8 v1, .int .i8 v2, .int .i8 v3, .int .i8 v4, .int .i8 v5, .bool false] := by
   rw [hW];have h1 := (BoxN.new (w.alloc (.cells #[.slice pp n cp, vt] 35)) #[.int .i8 v0, .int .i8 v1, .int .i8 v2, .int .i8 v3, .int .i8 v4, .int .i8 v5, .bool false] 28 (w.heap.size + 1) (by simp));exact h1.below (zal _ _) h1.lt
  have h0 : W.ownsRow (w.heap.size + 2) 40 1 (.slice (some ⟨w.heap.size + 2, 0, none⟩) 0 0) 0 ([] : List Value) := by
   rw [hW];have := World.ownsRow_lit (base := w.heap.size + 2) (e := 40) (size := 1) ((w.alloc (.cells #[.slice pp n cp, vt] 35)).alloc (.cells #[.int .i8 v0, .int .i8 v1, .int .i8 v2, .int .i8 v3, .int .i8 v4, .int .i8 v5, .bool false] 28)) #[] 0 (by simp) (by decide) rfl;simpa using this
  have hWz : W.heap.size = w.heap.size + 3 := by rw [hW]; simp
  rw [<- hW];clear hW;have HC : Hid (∀ i, i < 6 -> W.cell? ⟨w.heap.size + 1, i, none⟩ = some (.int .i8 (hs[i % 6]?.getD 0))) := fun i h6 => by
   rw [HHS.out];rcases (by omega : i = 0 \/ i = 1 \/ i = 2 \/ i = 3 \/ i = 4 \/ i = 5) with rfl | rfl | rfl | rfl | rfl | rfl
   ·exact b3.cell 0 rfl
   ·exact b3.cell 1 rfl
   ·exact b3.cell 2 rfl
   ·exact b3.cell 3 rfl
   ·exact b3.cell 4 rfl
   ·exact b3.cell 5 rfl
  have c0 := b2.cell 0 rfl;go_loopw [5, 7] (fun t5 t7 wr => ∃ (i : Nat), t7 = .int .i64 i /\ i <= n /\ wr.ownsRow (w.heap.size + 2) 40 1 t5 i ((F.take i).map fun q => Value.string (RS q)) /\ Below (w.heap.size + 2) W wr /\ w.heap.size + 2 <= wr.heap.size) (fun _ t7 _ => n - (RowKit.intOf t7).toNat)
  case atStart => exact ⟨0, rfl, Nat.zero_le _, h0, Below.refl _ _, by omega⟩
  case round =>
   obtain ⟨i, rfl, hin, hown, hbr, hzr⟩ := hrel;obtain ⟨p5, c5, rfl⟩ := ownsRow_shape hown;have x0 := zcq hbr (by show w.heap.size < w.heap.size + 2; omega) c0;have hbw : Below w.heap.size w wr := hB.trans (hbr.mono (by omega));rcases Nat.lt_or_ge i n with h | h
   ·have xi := (hbr.cell (p := ⟨w.heap.size + 1, i, none⟩) (by show w.heap.size + 1 < w.heap.size + 2; omega)).trans (HC.out i (by omega))
    have HTK := hid (take_snoc _ _ _ (HG.out i h));have HOI := hid (HOF.out i);rw [HHQ.out i] at HOI;have hbd := tmod20_bound (hs[i % 6]?.getD 0);obtain ⟨hv1, hv2⟩ := HBD.out i;generalize heightQ hs false i = q at *;generalize hs[i % 6]?.getD 0 = v at *;have hwv : IntKind.i64.wrap v = v := IntWalk.i64_in _ (by omega);have hwt : IntKind.i64.wrap (v.tmod 20) = v.tmod 20 := IntWalk.i64_in _ (by omega);have hrem : IntKind.i64.wrap ((i : Int).tmod 6) = (i : Int) := by
     rw [Int.tmod_eq_emod_of_nonneg (by omega), Int.emod_eq_of_lt (by omega) (by omega)];exact IntWalk.i64_in _ (by omega)
    have hrem2 : (i : Int).tmod 6 = (i : Int) := by rw [Int.tmod_eq_emod_of_nonneg (by omega), Int.emod_eq_of_lt (by omega) (by omega)]
    have hrem3 : (i : Int) % 6 = (i : Int) := Int.emod_eq_of_lt (by omega) (by omega);have hi6 : (i : Int) < 6 := by omega
    have hilt : (i : Int) < (n : Int) := by omega
    have hgr : Good wr := hg.below hbw;clear c0 HC;go_wp2_with fail;refine (HOI.out wr hgr).mono ?_;rintro e w2 ⟨_, rfl, rfl, hb2⟩;have hown2 := World.ownsRow.belowAll hown hb2;have hbr2 : Below (w.heap.size + 2) W w2 := hbr.trans (hb2.mono hzr);have hz2' : w.heap.size + 2 <= w2.heap.size := Nat.le_trans hzr hb2.size;clear hb2 hown hbr hgr x0 xi
    go_wp2_with (at_builtin; refine wpList_append_own _ rfl _ _ 38 rfl (w.heap.size + 2) 40 i0 (.string ⟨#[]⟩) 1 16 Tryz.underlying38 hi hz0 hz1 hz2 rfl (by decide) _ _ _ rfl (hown2.alloc _) ⟨w2.heap.size, 0, none⟩ 1 1 [.string (RS q)] rfl rfl (cell_one_str _ _ _) (one_cell_str _) (by unfold maxLen; omega) (by omega) (by simp; omega) ?_
                 intro v2 w3 hown3 hgrow3 _;have hzw3 := hgrow3.size;have hbr3 : Below (w.heap.size + 2) W w3 := (hbr2.alloc (by omega) _).grown hgrow3 (by simp; omega) (fun j hj => by have := (hown2.lt j hj).1; omega);clear hgrow3)
    go_roundw
    case rel => exact ⟨i + 1, by simp, by omega, by rw [HTK.out, List.map_append]; exact hown3, hbr3, by simp at hzw3; omega⟩
    case measure =>
     show n - ((i : Int) + 1).toNat < n - (i : Int).toNat;omega
   ·obtain rfl : i = n := by omega
    have hfr : FreshV (w.heap.size + 2) (.slice p5 i c5) := FreshV.of_owns hown;have hrd : RdQ wr (.slice p5 i c5) F := by
     have h1 : RdC 1 wr (.slice p5 i c5) i ((F.take i).map fun q => Value.string (RS q)) := RdC.of_owns hown;have hl := HGL.out;rw [List.take_of_length_le (by omega)] at h1;unfold RdQ;rw [hl];exact h1
    go_wp2_with fail;go_ret;exact ⟨_, rfl, ⟨hrd, fun a l c e => by have := hfr a l c e; omega⟩, hbw⟩
 ·dsimp only [halfD] at HOF HHQ
  go_enter Tryz.func7, Tryz.ntmps7;go_wp2_with fail;obtain ⟨W, hW⟩ : ∃ W, W = ((w.alloc (.cells #[.slice pp n cp, vt] 35)).alloc (.cells #[.int .i8 v0, .int .i8 v1, .int .i8 v2, .int .i8 v3, .int .i8 v4, .int .i8 v5, .bool true] 28)).alloc (.cells #[] 40) := ⟨_, rfl⟩;have hB : Below w.heap.size w W := by rw [hW]; exact (((Below.refl _ _).alloc (Nat.le_refl _) _).alloc (by simp) _).alloc (by simp; omega) _
  have b2 : BoxN W w.heap.size 35 [.slice pp n cp, vt] := by
   rw [hW];have h1 := (BoxN.new w #[.slice pp n cp, vt] 35 _ rfl);exact (h1.below ((Below.refl _ _).alloc (Nat.le_refl _) _) h1.lt).below ((Below.refl _ _).alloc (Nat.le_refl _) _) (by simp; omega)
  have b3 : BoxN W (w.heap.size + 1) 28 [.int .i8 v0, .int .i8 v1, .int .i8 v2, .int .i8 v3, .int .i8 v4, .int .i8 v5, .bool true] := by
   rw [hW];have h1 := (BoxN.new (w.alloc (.cells #[.slice pp n cp, vt] 35)) #[.int .i8 v0, .int .i8 v1, .int .i8 v2, .int .i8 v3, .int .i8 v4, .int .i8 v5, .bool true] 28 (w.heap.size + 1) (by simp));exact h1.below (zal _ _) h1.lt
  have h0 : W.ownsRow (w.heap.size + 2) 40 1 (.slice (some ⟨w.heap.size + 2, 0, none⟩) 0 0) 0 ([] : List Value) := by
   rw [hW];have := World.ownsRow_lit (base := w.heap.size + 2) (e := 40) (size := 1) ((w.alloc (.cells #[.slice pp n cp, vt] 35)).alloc (.cells #[.int .i8 v0, .int .i8 v1, .int .i8 v2, .int .i8 v3, .int .i8 v4, .int .i8 v5, .bool true] 28)) #[] 0 (by simp) (by decide) rfl;simpa using this
  have hWz : W.heap.size = w.heap.size + 3 := by rw [hW]; simp
  rw [<- hW];clear hW;have HC : Hid (∀ i, i < 6 -> W.cell? ⟨w.heap.size + 1, i, none⟩ = some (.int .i8 (hs[i % 6]?.getD 0))) := fun i h6 => by
   rw [HHS.out];rcases (by omega : i = 0 \/ i = 1 \/ i = 2 \/ i = 3 \/ i = 4 \/ i = 5) with rfl | rfl | rfl | rfl | rfl | rfl
   ·exact b3.cell 0 rfl
   ·exact b3.cell 1 rfl
   ·exact b3.cell 2 rfl
   ·exact b3.cell 3 rfl
   ·exact b3.cell 4 rfl
   ·exact b3.cell 5 rfl
  have c0 := b2.cell 0 rfl;go_loopw [5, 7] (fun t5 t7 wr => ∃ (i : Nat), t7 = .int .i64 i /\ i <= n /\ wr.ownsRow (w.heap.size + 2) 40 1 t5 i ((F.take i).map fun q => Value.string (RS q)) /\ Below (w.heap.size + 2) W wr /\ w.heap.size + 2 <= wr.heap.size) (fun _ t7 _ => n - (RowKit.intOf t7).toNat)
  case atStart => exact ⟨0, rfl, Nat.zero_le _, h0, Below.refl _ _, by omega⟩
  case round =>
   obtain ⟨i, rfl, hin, hown, hbr, hzr⟩ := hrel;obtain ⟨p5, c5, rfl⟩ := ownsRow_shape hown;have x0 := zcq hbr (by show w.heap.size < w.heap.size + 2; omega) c0;have hbw : Below w.heap.size w wr := hB.trans (hbr.mono (by omega));rcases Nat.lt_or_ge i n with h | h
   ·have xi := (hbr.cell (p := ⟨w.heap.size + 1, i, none⟩) (by show w.heap.size + 1 < w.heap.size + 2; omega)).trans (HC.out i (by omega))
    have HTK := hid (take_snoc _ _ _ (HG.out i h));have HOI := hid (HOF.out i);rw [HHQ.out i] at HOI;have hbd := tmod20_bound (hs[i % 6]?.getD 0);obtain ⟨hv1, hv2⟩ := HBD.out i;generalize heightQ hs true i = q at *;generalize hs[i % 6]?.getD 0 = v at *;have hwv : IntKind.i64.wrap v = v := IntWalk.i64_in _ (by omega);have hwt : IntKind.i64.wrap (v.tmod 20) = v.tmod 20 := IntWalk.i64_in _ (by omega);have hrem : IntKind.i64.wrap ((i : Int).tmod 6) = (i : Int) := by
     rw [Int.tmod_eq_emod_of_nonneg (by omega), Int.emod_eq_of_lt (by omega) (by omega)];exact IntWalk.i64_in _ (by omega)
    have hrem2 : (i : Int).tmod 6 = (i : Int) := by rw [Int.tmod_eq_emod_of_nonneg (by omega), Int.emod_eq_of_lt (by omega) (by omega)]
    have hrem3 : (i : Int) % 6 = (i : Int) := Int.emod_eq_of_lt (by omega) (by omega);have hi6 : (i : Int) < 6 := by omega
    have hilt : (i : Int) < (n : Int) := by omega
    have hgr : Good wr := hg.below hbw;clear c0 HC;go_wp2_with fail;refine (HOI.out wr hgr).mono ?_;rintro e w2 ⟨_, rfl, rfl, hb2⟩;have hown2 := World.ownsRow.belowAll hown hb2;have hbr2 : Below (w.heap.size + 2) W w2 := hbr.trans (hb2.mono hzr);have hz2' : w.heap.size + 2 <= w2.heap.size := Nat.le_trans hzr hb2.size;clear hb2 hown hbr hgr x0 xi
    go_wp2_with (at_builtin; refine wpList_append_own _ rfl _ _ 38 rfl (w.heap.size + 2) 40 i0 (.string ⟨#[]⟩) 1 16 Tryz.underlying38 hi hz0 hz1 hz2 rfl (by decide) _ _ _ rfl (hown2.alloc _) ⟨w2.heap.size, 0, none⟩ 1 1 [.string (RS q)] rfl rfl (cell_one_str _ _ _) (one_cell_str _) (by unfold maxLen; omega) (by omega) (by simp; omega) ?_
                 intro v2 w3 hown3 hgrow3 _;have hzw3 := hgrow3.size;have hbr3 : Below (w.heap.size + 2) W w3 := (hbr2.alloc (by omega) _).grown hgrow3 (by simp; omega) (fun j hj => by have := (hown2.lt j hj).1; omega);clear hgrow3)
    go_roundw
    case rel => exact ⟨i + 1, by simp, by omega, by rw [HTK.out, List.map_append]; exact hown3, hbr3, by simp at hzw3; omega⟩
    case measure =>
     show n - ((i : Int) + 1).toNat < n - (i : Int).toNat;omega
   ·obtain rfl : i = n := by omega
    have hfr : FreshV (w.heap.size + 2) (.slice p5 i c5) := FreshV.of_owns hown;have hrd : RdQ wr (.slice p5 i c5) F := by
     have h1 : RdC 1 wr (.slice p5 i c5) i ((F.take i).map fun q => Value.string (RS q)) := RdC.of_owns hown;have hl := HGL.out;rw [List.take_of_length_le (by omega)] at h1;unfold RdQ;rw [hl];exact h1
    go_wp2_with fail;go_ret;exact ⟨_, rfl, ⟨hrd, fun a l c e => by have := hfr a l c e; omega⟩, hbw⟩
def shapeQ (k : Nat) : List PtQ := (shapeP k).map fun p => ((p.1 : Rat), (p.2 : Rat))
def formB (P : List PtQ) (T : List Tri) : Bool :=
 !T.isEmpty && (decide P.Nodup && (T.all (fun t => (idxOf t).all fun x => decide (0 <= x /\ x < (P.length : Int))) && (T.all (fun t => decide (0 < turnZ (P[t.1.toNat]?.getD (0, 0)) (P[t.2.1.toNat]?.getD (0, 0)) (P[t.2.2.toNat]?.getD (0, 0)))) &&
  (wholeB P T && (outerL (keysOf T)).all fun x => decide (0 <= x /\ x < (P.length : Int))))))
theorem shape_form (k : Nat) : formB (shapeQ k) (shapeT k) = true := by
 unfold shapeQ shapeP shapeT;split <;> decide +kernel
theorem getD_move (s t d : Rat) (P : List PtQ) (i : Nat) (h : i < P.length) : (P.map (moveP s t d))[i]?.getD (0, 0) = moveP s t d (P[i]?.getD (0, 0)) := by
 rw [List.getElem?_map, List.getElem?_eq_getElem h]; rfl
theorem ptAt_move (s t d : Rat) (P : List PtQ) (c : List Int) (hc : ∀ x ∈ c, 0 <= x /\ x < (P.length : Int)) (hne : c ≠ []) (i : Nat) : ptAt (P.map (moveP s t d)) c i = moveP s t d (ptAt P c i) := by
 unfold ptAt;have hl : i % c.length < c.length := Nat.mod_lt _ (List.length_pos_iff.2 hne);have := hc c[i % c.length] (List.getElem_mem hl);rw [List.getElem?_eq_getElem hl, Option.getD_some];exact getD_move s t d P _ (by omega)
theorem moveP_inj (s t d : Rat) (hd : 0 < d) {p q : PtQ} (h : moveP s t d p = moveP s t d q) : p = q := by
 unfold moveP at h;have h1 := congrArg Prod.fst h;have h2 := congrArg Prod.snd h;dsimp only at h1 h2;have key : ∀ a b z : Rat, (a + z) * d = (b + z) * d -> a = b := fun a b z e => by
  have e1 : (a - b) * d = 0 := by grind
  rcases Rat.mul_eq_zero.1 e1 with e2 | e2
  ·grind
  ·rw [e2] at hd; exact absurd hd (Rat.lt_irrefl)
 exact Prod.ext (key _ _ _ h1) (key _ _ _ h2)
theorem form_move (s t d : Rat) (hd : 0 < d) (P : List PtQ) (T : List Tri) (h : formB P T = true) : formB (P.map (moveP s t d)) T = true := by
 unfold formB at *;simp only [Bool.and_eq_true, List.all_eq_true, decide_eq_true_eq, List.length_map] at *;obtain ⟨h1, h2, h3, h4, h5, h6⟩ := h;have hin : ∀ t ∈ T, ∀ x ∈ idxOf t, x.toNat < P.length := fun t ht x hx => by have := h3 t ht x hx; omega
 refine ⟨h1, ?_, h3, ?_, ?_, h6⟩
 ·exact List.Pairwise.map _ (fun a b hab e => hab (moveP_inj s t d hd e)) h2
 ·intro tr htr
  have i0 := hin tr htr tr.1 (by simp [idxOf]);have i1 := hin tr htr tr.2.1 (by simp [idxOf]);have i2 := hin tr htr tr.2.2 (by simp [idxOf]);rw [getD_move _ _ _ _ _ i0, getD_move _ _ _ _ _ i1, getD_move _ _ _ _ _ i2, turnZ_move s t d hd];exact h4 tr htr
 ·unfold wholeB at *
  simp only [Bool.and_eq_true, List.length_map] at *;refine ⟨h5.1, ⟨h5.2.1.1, h5.2.1.2⟩, ?_⟩;have hne : outerL (keysOf T) ≠ [] := by
   have := h5.2.1.1;intro e;rw [e] at this;simp at this
  have hpt := ptAt_move s t d P (outerL (keysOf T)) h6 hne;rw [<- h5.2.2];unfold onceB roundsN;have e1 : bentAt (P.map (moveP s t d)) (outerL (keysOf T)) = bentAt P (outerL (keysOf T)) := funext fun i => by unfold bentAt; rw [hpt, hpt, hpt, turnZ_move s t d hd]
  have e2 : riseAt (P.map (moveP s t d)) (outerL (keysOf T)) = riseAt P (outerL (keysOf T)) := funext fun i => by unfold riseAt upAt; rw [hpt, hpt, hpt, upB_move s t d hd, upB_move s t d hd]
  rw [e1, e2]
theorem MeshOK.of_form {P : List PtQ} {T : List Tri} {k : Nat} (hk : 0 < k) (hk2 : k <= 200) (hs : ∀ p ∈ P, SzP k p) (hp : P.length <= 400) (ht : T.length <= 800) (h : formB P T = true) : MeshOK P T k := by
 unfold formB at h;simp only [Bool.and_eq_true, List.all_eq_true, decide_eq_true_eq] at h;obtain ⟨h1, h2, h3, h4, h5, h6⟩ := h;exact { kpos := hk, klim := by omega, sz := hs, plen := hp, tlen := ht, idx := h3, klim2 := hk2, some := by intro e; rw [e] at h1; simp at h1, apart := h2, turns := h4, whole := h5 }
theorem placeQ_move (s : Int) (half : Bool) (x : Int) : placeQ s half x = ((x : Rat) + (s.tmod 8 : Int)) * (1 / (halfD half : Rat)) := by
 unfold placeQ;have h0 : (halfD half : Rat) ≠ 0 := by cases half <;> decide
 rw [Rat.mkRat_eq_div];grind
theorem placeQ_Sz (s : Int) (half : Bool) (x : Int) (hx : 0 <= x /\ x <= 6) : Sz 2 (placeQ s half x) := by
 have := tmod8_bound s;exact Sz.mkRat (by cases half <;> decide) (by omega) (by cases half <;> decide)
theorem sheet_ok (k : Nat) (s0 s1 : Int) (half : Bool) : MeshOK (sheetP k s0 s1 half) (shapeT k) 2 := by
 refine MeshOK.of_form (by omega) (by omega) ?_ ?_ ?_ ?_
 ·intro p hp
  obtain ⟨q, hq, rfl⟩ := List.mem_map.1 hp;have := shapeP_small k q hq;exact ⟨placeQ_Sz _ _ _ this.1, placeQ_Sz _ _ _ this.2⟩
 ·unfold sheetP
  have := shapeP_len k;rw [List.length_map]; omega
 ·unfold shapeT
  split <;> decide
 ·have e : sheetP k s0 s1 half = (shapeQ k).map (moveP (s0.tmod 8 : Int) (s1.tmod 8 : Int) (1 / (halfD half : Rat))) := by
   unfold sheetP shapeQ;rw [List.map_map];refine List.map_congr_left fun p _ => ?_;show (_, _) = moveP _ _ _ _;unfold moveP;rw [placeQ_move, placeQ_move]
  rw [e];exact form_move _ _ _ (by cases half <;> decide +kernel) _ _ (shape_form k)
theorem sz1 (n : Nat) (h : n < 10) : Sz 1 ((n : Int) : Rat) := ⟨by rw [Rat.num_intCast]; omega, by rw [Rat.den_intCast]; omega⟩
theorem heights_Sz (hs : List Int) (half : Bool) (n : Nat) : ∀ q ∈ heightsF hs half n, Sz 2 q := fun q hq => by
 obtain ⟨i, _, rfl⟩ := List.mem_map.1 hq;unfold heightQ;have := tmod20_bound (hs[i % 6]?.getD 0);exact Sz.mkRat (by cases half <;> decide) (by omega) (by cases half <;> decide)
theorem sheetP_length (k : Nat) (s0 s1 : Int) (half : Bool) : (sheetP k s0 s1 half).length = (shapeP k).length := by simp [sheetP]
theorem slope_Sz {P : List PtQ} {T : List Tri} {k : Nat} (hm : MeshOK P T k) (hk : k = 2) {F : List Rat} (hF : ∀ q ∈ F, Sz 2 q) {tr : Tri} (htr : tr ∈ T) : SzP 43 (slopeT P F tr) := by
 subst hk;have hidx := hm.idx tr htr;have hp : ∀ z ∈ idxOf tr, SzP 2 (ptI P z) := fun z hz => by
  obtain ⟨h0, h1⟩ := hidx z hz;obtain ⟨q, rfl⟩ : ∃ q : Nat, z = (q : Int) := ⟨z.toNat, by omega⟩;rw [ptI_nat P q (by omega)];exact hm.sz _ (List.getElem_mem _)
 have h0 := hp tr.1 (by simp [idxOf]);have h1 := hp tr.2.1 (by simp [idxOf]);have h2 := hp tr.2.2 (by simp [idxOf]);have f0 := hI_Sz (by omega) hF tr.1;have f1 := hI_Sz (by omega) hF tr.2.1;have f2 := hI_Sz (by omega) hF tr.2.2;have mn : ∀ {a b c d : Rat}, Sz 5 a -> Sz 5 b -> Sz 5 c -> Sz 5 d -> Sz 21 (minorQ a b c d) := fun ha hb hc hd => ((ha.mul hd).sub (hb.mul hc)).mono (by omega)
 have dx1 := h1.1.sub h0.1;have dy1 := h1.2.sub h0.2;have dx2 := h2.1.sub h0.1;have dy2 := h2.2.sub h0.2;have g1 := f1.sub f0;have g2 := f2.sub f0;have md := mn dx1 dy1 dx2 dy2;have m1 := mn g1 dy1 g2 dy2;have m2 := mn dx1 g1 dx2 g2;have iv := Sz.one.div md (by omega);unfold slopeT slopeQ;exact ⟨(iv.mul m1).mono (by omega), (iv.mul m2).mono (by omega)⟩
theorem sign_if (q : Rat) : q.num.sign = if q < 0 then -1 else if 0 < q then 1 else 0 := by
 split
 ·rename_i h; exact Int.sign_eq_neg_one_of_neg (num_lt_zero_iff.2 h)
 ·split
  ·rename_i h; exact Int.sign_eq_one_of_pos (num_pos_iff.2 h)
  ·rename_i h1 h2
   have : q = 0 := Rat.le_antisymm (Rat.not_lt.1 h2) (Rat.not_lt.1 h1);subst this; rfl
theorem gb_below {W wr wx : World} {M : Option Nat} (h : W.grownBy wr M) (hb : Below wr.heap.size wr wx) : W.grownBy wx M :=
 ⟨hb.os.trans h.os, hb.tape.trans h.tape, hb.output.trans h.output, Nat.le_trans h.size hb.size, fun j hj hjn => (hb.block j (Nat.lt_of_lt_of_le hj h.size)).trans (h.block j hj hjn)⟩
theorem gb_grown {W wr wx : World} {M row : Option Nat} (h : W.grownBy wr M) (hg : wr.grownBy wx row) (hr : ∀ j, row = some j -> W.heap.size <= j) : W.grownBy wx M :=
 ⟨hg.os.trans h.os, hg.tape.trans h.tape, hg.output.trans h.output, Nat.le_trans h.size hg.size, fun j hj hjn => (hg.block j (Nat.lt_of_lt_of_le hj h.size) (fun e => by have := hr _ e.symm; omega)).trans (h.block j hj hjn)⟩
theorem gb_set {W wr : World} {M : Nat} (h : W.grownBy wr (some M)) (i : Nat) (v : Value) : W.grownBy (wr.setCell ⟨M, i, none⟩ v) (some M) :=
 ⟨h.os, h.tape, h.output, by simpa using h.size, fun j hj hjn => (Below.heap_setCell _ _ _ j (by rintro rfl; exact hjn rfl)).trans (h.block j hj hjn)⟩
theorem gb_alloc {W wr : World} {M : Option Nat} (h : W.grownBy wr M) (o : Obj) : W.grownBy (wr.alloc o) M :=
 gb_below h ((Below.refl _ _).alloc (Nat.le_refl _) _)
theorem gb_refl (W : World) (M : Option Nat) : W.grownBy W M := ⟨rfl, rfl, rfl, Nat.le_refl _, fun _ _ _ => rfl⟩
theorem BoxN.gb {w w' : World} {M : Option Nat} {b t : Nat} {l : List Value} (h : BoxN w b t l) (hb : w.grownBy w' M) (hn : M ≠ some b) : BoxN w' b t l := (hb.block b h.lt (fun e => hn e.symm)).trans h
theorem below_gb {M : Nat} {w0 w w' : World} (h : Below w0.heap.size w0 w) (hb : w.grownBy w' (some M)) (hM : w0.heap.size <= M) : Below w0.heap.size w0 w' :=
 h.grown hb h.size (fun j e => by cases e; omega)
theorem RdC.gb {sz : Nat} {w w' : World} {v : Value} {n M t : Nat} {cs l : List Value} (h : RdC sz w v n cs) (hg : w.grownBy w' (some M)) (hb : BoxN w M t l) (hne : ∀ y ∈ cs, y ∉ l) : RdC sz w' v n cs := by
 obtain ⟨p, q, hv, h1, h2, h3, h4⟩ := h;refine ⟨p, q, hv, h1, h2, h3, fun hn => ?_⟩;obtain ⟨b, off, hp, hr⟩ := h4 hn;refine ⟨b, off, hp, fun i x hx => ?_⟩;have hc := hr i x hx;have hbM : b ≠ M := by
  rintro rfl;have hh : w.heap[b]? = some (.cells l.toArray t (0, 0)) := hb;have h5 : l[off + i]? = some x := by
   simp [World.cell?, hh] at hc;exact hc
  exact hne x (List.mem_of_getElem? hx) (List.mem_of_getElem? h5)
 have hlt : b < w.heap.size := by
  rcases Nat.lt_or_ge b w.heap.size with h | h
  ·exact h
  ·have : w.heap[b]? = none := Array.getElem?_eq_none h
   simp [World.cell?, this] at hc
 have he := hg.block b hlt (by intro e; injection e with e; exact hbM e);have : w'.cell? ⟨b, off + i, none⟩ = w.cell? ⟨b, off + i, none⟩ := by simp [World.cell?, he]
 rw [this]; exact hc
theorem cpt_ok (p : PtQ) (k : Nat) (h : SzP k p) (hk : 0 < k) (hk2 : k <= 200) (w : World) (hg : Good w) :
 Calls Tryz.prog 32 #[.agg #[.string (RS p.1), .string (RS p.2)]] w (Ret (fun r _ => r = .int .i64 0) w) := by
 have s1 := h.1.size hk;have s2 := h.2.size hk;refine (checkPoint_any (RS p.1) (RS p.2) (by omega) (by omega) w hg).mono ?_;rintro e w' ⟨v, he, hv, hb⟩;exact ⟨v, he, by rw [hv, h.right hk2], hb⟩
open Go.Shelf
attribute [local go_sem] Oper.semAt_some
theorem checkTriangle_ok (w : World) (vp vt : Value) (P : List PtQ) (T : List Tri) (k : Nat) (hp : RdP w vp (strP P)) (ht : RdT w vt T) (hm : MeshOK P T k) (t : Nat) (htl : t < T.length) (hg : Good w) :
 Calls Tryz.prog 71 #[.agg #[vp, vt], .int .i64 (t : Int)] w (Ret (fun r _ => r = .int .i64 0) w) := by
 have HCK : Hid (∀ w', Below w.heap.size w w' -> Good w' -> Calls Tryz.prog 33 #[.agg #[vp, vt]] w' (Ret (fun r _ => r = .int .i64 0) w')) := fun w' hb hg' => check_any w' vp vt P T k (RdC.below hp hb) (RdC.below ht hb) hm hg';obtain ⟨pp, cp, rfl, -, -, -⟩ := hp.open;obtain ⟨pt, ct, rfl, -, -, -⟩ := ht.open;clear hp ht hm;have htz : (t : Int) < (T.length : Int) := by omega
 clear htl;go_enter Tryz.func71, Tryz.ntmps71;go_wp2_with fail;obtain ⟨W, hW⟩ : ∃ W, W = w.alloc (.cells #[.slice pp (strP P).length cp, .slice pt T.length ct] 35) := ⟨_, rfl⟩;have hB : Below w.heap.size w W := by rw [hW]; exact zal _ _
 have b0 : BoxN W w.heap.size 35 [.slice pp (strP P).length cp, .slice pt T.length ct] := by rw [hW]; exact BoxN.new _ _ _ _ rfl
 rw [<- hW];clear hW;refine (HCK.out W hB (hg.below hB)).mono ?_;rintro e w1 ⟨_, rfl, rfl, hb1⟩;have hB1 := hB.trans (hb1.mono hB.size);have b1 := b0.below hb1 b0.lt;have x1 := b1.cell 1 rfl;clear hb1 hB b0 b1;go_wp2_with fail;go_ret;exact ⟨_, rfl, rfl, hB1⟩
theorem MeshOK.nodup {P : List PtQ} {T : List Tri} {k : Nat} (h : MeshOK P T k) : (keysOf T).Nodup := by
 have := h.whole;unfold wholeB at this;rw [Bool.and_eq_true] at this;exact of_decide_eq_true this.1
end Go.Proofs.YtbfcmipplhkkeaaGreatDoor
namespace Go.Proofs.YtbfcmipplhkkeaaGreatDoor
open Go.RowKit Go.Lib
theorem FreshV.mono {n m : Nat} {v : Value} (h : FreshV n v) (hm : m <= n) : FreshV m v := fun a l c e => Nat.le_trans hm (h a l c e)
theorem MeshOK.inI {P : List PtQ} {T : List Tri} {k : Nat} (hm : MeshOK P T k) : ∀ t ∈ T, InI t.1 /\ InI t.2.1 /\ InI t.2.2 := fun t ht => by
 have hpl := hm.plen;have key : ∀ x ∈ idxOf t, InI x := fun x hx => by
  have := hm.idx t ht x hx;unfold InI;omega
 exact ⟨key _ (by simp [idxOf]), key _ (by simp [idxOf]), key _ (by simp [idxOf])⟩
theorem boundary_ok (w : World) (vp vt : Value) (P : List PtQ) (T : List Tri) (k : Nat) (hp : RdP w vp (strP P)) (ht : RdT w vt T) (hm : MeshOK P T k) (hg : Good w) :
 Calls Tryz.prog 10 #[.agg #[vp, vt]] w (Ret (fun r w' => ∃ s, r = .tuple #[s, .int .i64 0] /\ RdI .i64 w' s (outerL (keysOf T)) /\ FreshV w.heap.size s) w) := by
 have HCK : Hid (∀ w', Below w.heap.size w w' -> Good w' -> Calls Tryz.prog 33 #[.agg #[vp, vt]] w' (Ret (fun r _ => r = .int .i64 0) w')) := fun w' hb hg' => check_any w' vp vt P T k (RdC.below hp hb) (RdC.below ht hb) hm hg';have HOW : Hid (∀ w', Below w.heap.size w w' -> Calls Tryz.prog 34 #[.agg #[vp, vt]] w' (Ret (OwnersP T w'.heap.size) w')) := fun w' hb => owners_any w' vp vt T (RdC.below ht hb) (by have := hm.tlen; omega) hm.inI
 have HND := hid hm.nodup;have htl := hm.tlen;have HEK : Hid (∀ s ∈ (ownL T).map (·.1), (0 <= s.1 /\ s.1 < 1000000) /\ (0 <= s.2 /\ s.2 < 1000000)) := fun s hs => by
  rw [ownL_keys] at hs;obtain ⟨t, ht, h1, h2⟩ := keysOf_mem hs;have a1 := hm.idx t ht _ h1;have a2 := hm.idx t ht _ h2;have := hm.plen;omega
 obtain ⟨pp, cp, rfl, -, -, -⟩ := hp.open;obtain ⟨pt, ct, rfl, -, -, -⟩ := ht.open;rw [strP_length] at *;clear hp ht hm;go_enter Tryz.func10, Tryz.ntmps10;go_wp2_with fail;obtain ⟨W, hW⟩ : ∃ W, W = w.alloc (.cells #[.slice pp P.length cp, .slice pt T.length ct] 35) := ⟨_, rfl⟩;have hB : Below w.heap.size w W := by rw [hW]; exact zal _ _
 have b2 : BoxN W w.heap.size 35 [.slice pp P.length cp, .slice pt T.length ct] := by rw [hW]; exact BoxN.new _ _ _ _ rfl
 rw [<- hW];clear hW;refine (HCK.out W hB (hg.below hB)).mono ?_;rintro e w1 ⟨_, rfl, rfl, hb1⟩;have hB1 := hB.trans (hb1.mono hB.size);have b21 := b2.below hb1 b2.lt;have x0 := b21.cell 0 rfl;have x1 := b21.cell 1 rfl;clear hb1 hB b2;go_wp2_with fail;refine (HOW.out w1 hB1).mono ?_;rintro e w2 ⟨v, rfl, hov, hb2⟩;rcases hov with hov | ⟨hnn, _⟩
 rotate_left
 ·exact absurd HND.out hnn
 obtain ⟨bm, D, hbm, rfl, hM⟩ := hov.2;have hB2 := hB1.trans (hb2.mono hB1.size);have b22 := b21.below hb2 b21.lt;have HM := hid hM;clear hb2 hB1 b21 x0 x1 hM hov;have x0 := b22.cell 0 rfl;have x1 := b22.cell 1 rfl;go_wp2_with fail;refine (outer_any w2 _ _ bm (3 * T.length) D (ownL T) HM.out (by rw [ownL_keys]; exact HND.out) (by omega) (by
  have := congrArg List.length (ownL_keys T); rw [List.length_map, keysOf_length] at this; omega) HEK.out).mono ?_
 rintro e w3 ⟨_, rfl, ⟨sv, rfl, hrs, hfr⟩, hb3⟩;rw [ownL_keys] at hrs ⊢;have HRS := hid hrs;have HFR := hid (hfr.mono hB2.size);obtain ⟨ps, cs, rfl, _, _, _⟩ := hrs.open;have hB3 := hB2.trans (hb3.mono hB2.size);clear hrs hfr hb3;go_wp2_with fail;go_ret2;exact ⟨_, rfl, ⟨_, rfl, HRS.out, HFR.out⟩, hB3⟩
theorem areaQ_Sz {a b c : PtQ} {k : Nat} (ha : SzP k a) (hb : SzP k b) (hc : SzP k c) : Sz (8 * k + 5) (areaQ a b c) := by
 unfold areaQ;exact (((hb.1.sub ha.1).mul (hc.2.sub ha.2)).sub ((hb.2.sub ha.2).mul (hc.1.sub ha.1))).mono (by omega)
theorem areaQ_pos {P : List PtQ} {T : List Tri} {k : Nat} (hm : MeshOK P T k) {tr : Tri} (ht : tr ∈ T) : 0 < areaQ (ptI P tr.1) (ptI P tr.2.1) (ptI P tr.2.2) := by
 have h := hm.turns tr ht;have hidx := hm.idx tr ht;have key : ∀ x ∈ idxOf tr, P[x.toNat]?.getD (0, 0) = ptI P x := fun x hx => by
  obtain ⟨h0, h1⟩ := hidx x hx;obtain ⟨q, rfl⟩ : ∃ q : Nat, x = (q : Int) := ⟨x.toNat, by omega⟩;have : q < P.length := by omega
  rw [ptI_nat P q this];simp [this]
 rw [key _ (by simp [idxOf]), key _ (by simp [idxOf]), key _ (by simp [idxOf])] at h;unfold turnZ at h;rw [sign_if] at h;split at h
 ·omega
 ·split at h
  ·assumption
  ·omega
theorem ptI_SzP {P : List PtQ} {T : List Tri} {k : Nat} (hm : MeshOK P T k) {tr : Tri} (ht : tr ∈ T) : SzP k (ptI P tr.1) /\ SzP k (ptI P tr.2.1) /\ SzP k (ptI P tr.2.2) := by
 have hidx := hm.idx tr ht;have key : ∀ x ∈ idxOf tr, SzP k (ptI P x) := fun x hx => by
  obtain ⟨h0, h1⟩ := hidx x hx;obtain ⟨q, rfl⟩ : ∃ q : Nat, x = (q : Int) := ⟨x.toNat, by omega⟩;rw [ptI_nat P q (by omega)];exact hm.sz _ (List.getElem_mem _)
 exact ⟨key _ (by simp [idxOf]), key _ (by simp [idxOf]), key _ (by simp [idxOf])⟩
end Go.Proofs.YtbfcmipplhkkeaaGreatDoor
