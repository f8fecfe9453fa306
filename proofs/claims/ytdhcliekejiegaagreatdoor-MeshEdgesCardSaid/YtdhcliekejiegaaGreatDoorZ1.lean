/- Klippelaw12.Place, Make; klippelaw13.Make; klippelaw38.square. -/
import Derived.Test.YtdhcliekejiegaaGreatDoorK3
import Derived.Deep.RegionHeld3
import Derived.Deep.AppendLies
/- The walk over klippelaw12.Place. -/
namespace Go.Proofs.YtdhcliekejiegaaGreatDoor
open Go.RowKit Go.Lib

/-- The divisor of a description. -/
def halfD (half : Bool) : Nat := if half then 2 else 1
/-- A small number, moved and halved. -/
def placeQ (s : Int) (half : Bool) (x : Int) : Rat := mkRat (x + s.tmod 8) (halfD half)
theorem tmod8_bound (s : Int) : -7 ≤ s.tmod 8 ∧ s.tmod 8 ≤ 7 := by
  rcases Int.le_total 0 s with h | h
  · rw [Int.tmod_eq_emod_of_nonneg h]; omega
  · have h1 : s.tmod 8 = -((-s).tmod 8) := by rw [Int.neg_tmod]; omega
    rw [h1, Int.tmod_eq_emod_of_nonneg (by omega)]
    omega

set_option maxHeartbeats 4000000 in
set_option maxRecDepth 100000 in
theorem place_any (w : World) (kz s0 s1 : Int) (half : Bool) (x y : Int) (_hs0 : -128 ≤ s0 ∧ s0 ≤ 127) (_hs1 : -128 ≤ s1 ∧ s1 ≤ 127) (hx : -100 ≤ x ∧ x ≤ 100) (hy : -100 ≤ y ∧ y ≤ 100) (hg : Good w) :
    Calls Tryz.prog 46 #[.agg #[.int .u8 kz, .int .i8 s0, .int .i8 s1, .bool half], .agg #[.int .i8 x, .int .i8 y], .int .i64 1] w (Ret (fun r _ => r = .agg #[.string (RS (placeQ s0 half x)), .string (RS (placeQ s1 half y))]) w) := by
  have hb0 := tmod8_bound s0
  have hb1 := tmod8_bound s1
  have HO0 : Hid (∀ w, Good w → _) := fun w hg => ratOf_any (x + s0.tmod 8) (halfD half : Int) (x + s0.tmod 8) (halfD half) (halfD half : Int) rfl (by cases half <;> decide) (by omega) (by cases half <;> decide) (.inl ⟨rfl, rfl⟩) w hg
  have HO1 : Hid (∀ w, Good w → _) := fun w hg => ratOf_any (y + s1.tmod 8) (halfD half : Int) (y + s1.tmod 8) (halfD half) (halfD half : Int) rfl (by cases half <;> decide) (by omega) (by cases half <;> decide) (.inl ⟨rfl, rfl⟩) w hg
  unfold placeQ
  obtain ⟨p0, hp0⟩ : ∃ p, p = mkRat (x + s0.tmod 8) (halfD half) := ⟨_, rfl⟩
  obtain ⟨p1, hp1⟩ : ∃ p, p = mkRat (y + s1.tmod 8) (halfD half) := ⟨_, rfl⟩
  rw [← hp0] at HO0 ⊢
  rw [← hp1] at HO1 ⊢
  obtain ⟨m0, hm0⟩ : ∃ m, m = s0.tmod 8 := ⟨_, rfl⟩
  obtain ⟨m1, hm1⟩ : ∃ m, m = s1.tmod 8 := ⟨_, rfl⟩
  rw [← hm0] at HO0 hb0
  rw [← hm1] at HO1 hb1
  have hw0 : IntKind.i8.wrap m0 = m0 := by unfold IntKind.wrap; simp [IntKind.signed, IntKind.bits]; omega
  have hw1 : IntKind.i8.wrap m1 = m1 := by unfold IntKind.wrap; simp [IntKind.signed, IntKind.bits]; omega
  have ha0 : IntKind.i64.wrap m0 = m0 := IntWalk.i64_in _ (by omega)
  have ha1 : IntKind.i64.wrap m1 = m1 := IntWalk.i64_in _ (by omega)
  have hx1 : IntKind.i64.wrap x = x := IntWalk.i64_in _ (by omega)
  have hy1 : IntKind.i64.wrap y = y := IntWalk.i64_in _ (by omega)
  have hxm : IntKind.i64.wrap (x + m0) = x + m0 := IntWalk.i64_in _ (by omega)
  have hym : IntKind.i64.wrap (y + m1) = y + m1 := IntWalk.i64_in _ (by omega)
  have hs0' := hm0.symm
  have hs1' := hm1.symm
  clear hp0 hp1 hm0 hm1
  cases half
  · dsimp only [halfD] at HO0 HO1
    go_enter Tryz.func46, Tryz.ntmps46
    go_wp2_with fail
    obtain ⟨W, hW⟩ : ∃ W, W = ((w.alloc (.cells #[.int .u8 kz, .int .i8 s0, .int .i8 s1, .bool false] 25)).alloc (.cells #[.int .i8 x, .int .i8 y] 23)).alloc (.cells #[.string ⟨#[]⟩, .string ⟨#[]⟩] 59) := ⟨_, rfl⟩
    have hB : Below w.heap.size w W := by rw [hW]; exact (((Below.refl _ _).alloc (Nat.le_refl _) _).alloc (by simp) _).alloc (by simp; omega) _
    have b3 : BoxN W w.heap.size 25 [.int .u8 kz, .int .i8 s0, .int .i8 s1, .bool false] := by
      rw [hW]
      have h1 := (BoxN.new w #[.int .u8 kz, .int .i8 s0, .int .i8 s1, .bool false] 25 _ rfl)
      exact (h1.below ((Below.refl _ _).alloc (Nat.le_refl _) _) h1.lt).below ((Below.refl _ _).alloc (Nat.le_refl _) _) (by simp; omega)
    have b4 : BoxN W (w.heap.size + 1) 23 [.int .i8 x, .int .i8 y] := by
      rw [hW]
      have h1 := (BoxN.new (w.alloc (.cells #[.int .u8 kz, .int .i8 s0, .int .i8 s1, .bool false] 25)) #[.int .i8 x, .int .i8 y] 23 (w.heap.size + 1) (by simp))
      exact h1.below ((Below.refl _ _).alloc (Nat.le_refl _) _) h1.lt
    have b6 : BoxN W (w.heap.size + 2) 59 [.string ⟨#[]⟩, .string ⟨#[]⟩] := by rw [hW]; exact BoxN.new _ _ _ _ (by simp)
    rw [← hW]
    clear hW
    refine (HO0.out W (hg.below hB)).mono ?_
    rintro e w1 ⟨_, rfl, rfl, hb1'⟩
    have hB1 := hB.trans (hb1'.mono hB.size)
    have b31 := b3.below hb1' b3.lt
    have b41 := b4.below hb1' b4.lt
    have b61 := b6.below hb1' b6.lt
    have c0 := b41.cell 1 rfl
    have c1 := b31.cell 2 rfl
    clear b3 b4 b6 hb1' hB
    go_wp2_with fail
    refine (HO1.out w1 (hg.below hB1)).mono ?_
    rintro e w2 ⟨_, rfl, rfl, hb2'⟩
    have hB2 := hB1.trans (hb2'.mono hB1.size)
    have b62 := b61.below hb2' b61.lt
    have d0 := b62.cell 0 rfl
    have d1 := b62.cell 1 rfl
    have d2 := b62.frozen 0
    have d3 := b62.frozen 1
    clear c0 c1 b31 b41 b61 hb2' hB1
    go_wp2_with fail
    have BF := (b62.set 0 (.string (RS p0))).set 1 (.string (RS p1))
    have hBF := (hB2.setCell (p := ⟨w.heap.size + 2, 0, none⟩) (by show w.heap.size ≤ w.heap.size + 2; omega) (.string (RS p0))).setCell (p := ⟨w.heap.size + 2, 1, none⟩) (by show w.heap.size ≤ w.heap.size + 2; omega) (.string (RS p1))
    have g0 := BF.cell 0 rfl
    have g1 := BF.cell 1 rfl
    exact bodyPost_ret (v := .agg #[.string (RS p0), .string (RS p1)]) (by simp [results, Tryz.results46, go_sem, g0, g1]) rfl ⟨_, rfl, rfl, hBF⟩
  · dsimp only [halfD] at HO0 HO1
    go_enter Tryz.func46, Tryz.ntmps46
    go_wp2_with fail
    obtain ⟨W, hW⟩ : ∃ W, W = ((w.alloc (.cells #[.int .u8 kz, .int .i8 s0, .int .i8 s1, .bool true] 25)).alloc (.cells #[.int .i8 x, .int .i8 y] 23)).alloc (.cells #[.string ⟨#[]⟩, .string ⟨#[]⟩] 59) := ⟨_, rfl⟩
    have hB : Below w.heap.size w W := by rw [hW]; exact (((Below.refl _ _).alloc (Nat.le_refl _) _).alloc (by simp) _).alloc (by simp; omega) _
    have b3 : BoxN W w.heap.size 25 [.int .u8 kz, .int .i8 s0, .int .i8 s1, .bool true] := by
      rw [hW]
      have h1 := (BoxN.new w #[.int .u8 kz, .int .i8 s0, .int .i8 s1, .bool true] 25 _ rfl)
      exact (h1.below ((Below.refl _ _).alloc (Nat.le_refl _) _) h1.lt).below ((Below.refl _ _).alloc (Nat.le_refl _) _) (by simp; omega)
    have b4 : BoxN W (w.heap.size + 1) 23 [.int .i8 x, .int .i8 y] := by
      rw [hW]
      have h1 := (BoxN.new (w.alloc (.cells #[.int .u8 kz, .int .i8 s0, .int .i8 s1, .bool true] 25)) #[.int .i8 x, .int .i8 y] 23 (w.heap.size + 1) (by simp))
      exact h1.below ((Below.refl _ _).alloc (Nat.le_refl _) _) h1.lt
    have b6 : BoxN W (w.heap.size + 2) 59 [.string ⟨#[]⟩, .string ⟨#[]⟩] := by rw [hW]; exact BoxN.new _ _ _ _ (by simp)
    rw [← hW]
    clear hW
    refine (HO0.out W (hg.below hB)).mono ?_
    rintro e w1 ⟨_, rfl, rfl, hb1'⟩
    have hB1 := hB.trans (hb1'.mono hB.size)
    have b31 := b3.below hb1' b3.lt
    have b41 := b4.below hb1' b4.lt
    have b61 := b6.below hb1' b6.lt
    have c0 := b41.cell 1 rfl
    have c1 := b31.cell 2 rfl
    clear b3 b4 b6 hb1' hB
    go_wp2_with fail
    refine (HO1.out w1 (hg.below hB1)).mono ?_
    rintro e w2 ⟨_, rfl, rfl, hb2'⟩
    have hB2 := hB1.trans (hb2'.mono hB1.size)
    have b62 := b61.below hb2' b61.lt
    have d0 := b62.cell 0 rfl
    have d1 := b62.cell 1 rfl
    have d2 := b62.frozen 0
    have d3 := b62.frozen 1
    clear c0 c1 b31 b41 b61 hb2' hB1
    go_wp2_with fail
    have BF := (b62.set 0 (.string (RS p0))).set 1 (.string (RS p1))
    have hBF := (hB2.setCell (p := ⟨w.heap.size + 2, 0, none⟩) (by show w.heap.size ≤ w.heap.size + 2; omega) (.string (RS p0))).setCell (p := ⟨w.heap.size + 2, 1, none⟩) (by show w.heap.size ≤ w.heap.size + 2; omega) (.string (RS p1))
    have g0 := BF.cell 0 rfl
    have g1 := BF.cell 1 rfl
    exact bodyPost_ret (v := .agg #[.string (RS p0), .string (RS p1)]) (by simp [results, Tryz.results46, go_sem, g0, g1]) rfl ⟨_, rfl, rfl, hBF⟩

end Go.Proofs.YtdhcliekejiegaaGreatDoor

/- The walk over klippelaw38.square. -/
namespace Go.Proofs.YtdhcliekejiegaaGreatDoor
open Go.RowKit Go.Lib

theorem dec_small (n : Nat) (h : n < 10) (h0 : 0 < n) : decDigits n = [UInt8.ofNat (48 + n)] := by
  rcases (by omega : n = 1 ∨ n = 2 ∨ n = 3 ∨ n = 4 ∨ n = 5 ∨ n = 6 ∨ n = 7 ∨ n = 8 ∨ n = 9) with rfl | rfl | rfl | rfl | rfl | rfl | rfl | rfl | rfl <;> rw [decDigits_one (by omega)]
end Go.Proofs.YtdhcliekejiegaaGreatDoor

/- Plain: the points of a sheet. -/
namespace Go.Proofs.YtdhcliekejiegaaGreatDoor
open Go.RowKit Go.Lib

/-- The points of a sheet. -/
def sheetP (k : Nat) (s0 s1 : Int) (half : Bool) : List PtQ := (shapeP k).map fun p => (placeQ s0 half p.1, placeQ s1 half p.2)
theorem shapeP_small (k : Nat) : ∀ p ∈ shapeP k, (0 ≤ p.1 ∧ p.1 ≤ 6) ∧ (0 ≤ p.2 ∧ p.2 ≤ 6) := by
  unfold shapeP
  split <;> decide
theorem shapeP_len (k : Nat) : (shapeP k).length ≤ 6 := by
  unfold shapeP
  split <;> decide

end Go.Proofs.YtdhcliekejiegaaGreatDoor

/- The walk over klippelaw12.Make. -/
namespace Go.Proofs.YtdhcliekejiegaaGreatDoor
open Go.RowKit Go.Lib

theorem info_Point : ((Tryz.prog).info? 59).map (fun i => (i.zero, i.size, i.bytes)) = some (some (.agg #[.string ⟨#[]⟩, .string ⟨#[]⟩]), 2, 32) := by kernel_rfl
theorem two_str (x y : ByteArray) : ∀ u ∈ [Value.string x, .string y], u.oneCell' = true := by
  intro u hu
  simp at hu
  rcases hu with rfl | rfl <;> rfl

set_option maxHeartbeats 8000000 in
set_option maxRecDepth 100000 in
theorem make12_any (w : World) (kz s0 s1 : Int) (half : Bool) (k : Nat) (hk : kz.tmod 8 = (k : Int)) (hk0 : 0 ≤ kz) (hk1 : kz ≤ 255) (hs0 : -128 ≤ s0 ∧ s0 ≤ 127) (hs1 : -128 ≤ s1 ∧ s1 ≤ 127) (hg : Good w) :
    Calls Tryz.prog 9 #[.agg #[.int .u8 kz, .int .i8 s0, .int .i8 s1, .bool half]] w (Ret (fun r w' => ∃ vp vt, r = .agg #[vp, vt] ∧ RdP w' vp (strP (sheetP k s0 s1 half)) ∧ RdT w' vt (shapeT k)) w) := by
  obtain ⟨i0, hi, hz0, hz1, hz2⟩ := info_parts info_Point
  have HSH : Hid (∀ w, Good w → _) := fun w hg => shape_any w kz k hk hk0 hk1 hg
  have HSM := Lib.hid (shapeP_small k)
  have hln := shapeP_len k
  have HPL : Hid (∀ (i : Nat) (h : i < (shapeP k).length) (w : World), Good w → _) := fun i h w hg => place_any w kz s0 s1 half (shapeP k)[i].1 (shapeP k)[i].2 hs0 hs1 (by have := shapeP_small k _ (List.getElem_mem h); omega) (by have := shapeP_small k _ (List.getElem_mem h); omega) hg
  have HSP : Hid (sheetP k s0 s1 half = (shapeP k).map fun p => (placeQ s0 half p.1, placeQ s1 half p.2)) := rfl
  generalize sheetP k s0 s1 half = Q at *
  generalize shapeP k = N at *
  generalize shapeT k = T at *
  clear hk hk0 hk1 hs0 hs1
  go_enter Tryz.func9, Tryz.ntmps9
  go_wp2_with fail
  obtain ⟨W, hW⟩ : ∃ W, W = (w.alloc (.cells #[.int .u8 kz, .int .i8 s0, .int .i8 s1, .bool half] 25)).alloc (.cells #[.slice none 0 0, .slice none 0 0] 30) := ⟨_, rfl⟩
  have hB : Below w.heap.size w W := by rw [hW]; exact ((Below.refl _ _).alloc (Nat.le_refl _) _).alloc (by simp) _
  have b1 : BoxN W w.heap.size 25 [.int .u8 kz, .int .i8 s0, .int .i8 s1, .bool half] := by
    rw [hW]
    have h1 := (BoxN.new w #[.int .u8 kz, .int .i8 s0, .int .i8 s1, .bool half] 25 _ rfl)
    exact h1.below ((Below.refl _ _).alloc (Nat.le_refl _) _) h1.lt
  have b2 : BoxN W (w.heap.size + 1) 30 [.slice none 0 0, .slice none 0 0] := by rw [hW]; exact BoxN.new _ _ _ _ (by simp)
  rw [← hW]
  clear hW
  have c0 := b1.cell 0 rfl
  go_wp2_with fail
  refine (HSH.out W (hg.below hB)).mono ?_
  rintro e w1 ⟨_, rfl, ⟨vn, vt, rfl, hN, hT⟩, hb1⟩
  have hB1 := hB.trans (hb1.mono hB.size)
  have b11 := b1.below hb1 b1.lt
  have b21 := b2.below hb1 b2.lt
  clear hb1 hB b1 b2 c0 HSH
  obtain ⟨pn, cn, rfl, hnc, hnm, hnr⟩ := hN.open
  have HNR := Lib.hid hnr
  have HT := Lib.hid hT
  obtain ⟨pt, ct, rfl, _, _, _⟩ := hT.open
  clear hN hT hnr
  go_wp2_with fail
  obtain ⟨W2, hW2⟩ : ∃ W, W = w1.alloc (.cells #[.slice none 0 0, .slice pt T.length ct] 30) := ⟨_, rfl⟩
  have hb2 : Below w1.heap.size w1 W2 := by rw [hW2]; exact (Below.refl _ _).alloc (Nat.le_refl _) _
  have b5 : BoxN W2 w1.heap.size 30 [.slice none 0 0, .slice pt T.length ct] := by rw [hW2]; exact BoxN.new _ _ _ _ rfl
  have hB2 := hB1.trans (hb2.mono hB1.size)
  have hl1 := b11.lt
  have hl2 := b21.lt
  have hl5 := b5.lt
  rw [← hW2]
  clear hW2
  have BXX := Lib.hid b11
  go_loopw [6] (fun t6 wr => ∃ (i : Nat) (v : Value), t6 = .int .i64 i ∧ i ≤ N.length ∧ BoxN wr w1.heap.size 30 [v, .slice pt T.length ct] ∧ wr.ownsRow (w1.heap.size + 1) 59 2 v i (cellsP (strP (Q.take i))) ∧ Below w1.heap.size w1 wr ∧ w1.heap.size + 1 ≤ wr.heap.size) (fun t6 _ => N.length - (RowKit.intOf t6).toNat)
  case atStart => exact ⟨0, _, rfl, Nat.zero_le _, b5, World.ownsRow_nil _ _ _ _, hb2, hl5⟩
  case round =>
    obtain ⟨i, v, rfl, hin, b5r, hown, hbr, hzr⟩ := hrel
    obtain ⟨p5, c5, rfl⟩ := ownsRow_shape hown
    rcases Nat.lt_or_ge i N.length with h | h
    · obtain ⟨bn, on, rfl, hbn, hnc'⟩ := HNR.out (by intro e; rw [e] at h; simp at h)
      obtain ⟨n0, n1⟩ := hnc' i h
      obtain ⟨⟨e0, e1⟩, e2, e3⟩ := HSM.out _ (List.getElem_mem h)
      have HQ : Hid (Q.take (i + 1) = Q.take i ++ [(placeQ s0 half N[i].1, placeQ s1 half N[i].2)]) := take_snoc _ _ _ (by rw [HSP.out, List.getElem?_map, List.getElem?_eq_getElem h]; rfl)
      have HPI := Lib.hid (HPL.out i h)
      obtain ⟨⟨x, y⟩, hxy⟩ : ∃ q, q = N[i] := ⟨_, rfl⟩
      rw [← hxy] at n0 n1 e0 e1 e2 e3 HPI HQ
      dsimp only at n0 n1 e0 e1 e2 e3 HPI HQ
      generalize placeQ s0 half x = px at *
      generalize placeQ s1 half y = py at *
      have hx8 : IntKind.i8.wrap x = x := by unfold IntKind.wrap; simp [IntKind.signed, IntKind.bits]; omega
      have hy8 : IntKind.i8.wrap y = y := by unfold IntKind.wrap; simp [IntKind.signed, IntKind.bits]; omega
      have z0 := b5r.cell 0 rfl
      have z1 := b5r.frozen 0
      have hilt : (i : Int) < (N.length : Int) := by omega
      clear hnc' hxy HPL HSM
      go_upto_region 6 with fail
      have HF : Hid (∀ w', Below w1.heap.size w1 w' → w'.cell? ⟨w.heap.size, 0, none⟩ = some (.int .u8 kz) ∧ w'.cell? ⟨w.heap.size, 1, none⟩ = some (.int .i8 s0) ∧ w'.cell? ⟨w.heap.size, 2, none⟩ = some (.int .i8 s1) ∧ w'.cell? ⟨w.heap.size, 3, none⟩ = some (.bool half) ∧ w'.cell? ⟨bn, on + i * 2, none⟩ = some (.int .i64 x) ∧ w'.cell? ⟨bn, on + i * 2 + 1, none⟩ = some (.int .i64 y)) := fun w' hb => by
        have b1' := BXX.out.below hb hl1
        exact ⟨b1'.cell 0 rfl, b1'.cell 1 rfl, b1'.cell 2 rfl, b1'.cell 3 rfl, (hb.cell (p := ⟨bn, on + i * 2, none⟩) hbn).trans n0, (hb.cell (p := ⟨bn, on + i * 2 + 1, none⟩) hbn).trans n1⟩
      have h0 : Below w1.heap.size w1 wr.drew := hbr.trans ((below_drewN wr 1).mono (by omega))
      have hgd : Good wr.drew := (hg.below hB1).below h0
      have HD4 : Hid (∀ w4, Below wr.drew.heap.size wr.drew w4 → Below w1.heap.size w1 w4 ∧ w4.cell? ⟨w1.heap.size, 0, none⟩ = some (.slice p5 i c5) ∧ w4.frozen? ⟨w1.heap.size, 0, none⟩ = false ∧ w4.ownsRow (w1.heap.size + 1) 59 2 (.slice p5 i c5) i (cellsP (strP (Q.take i))) ∧ wr.heap.size ≤ w4.heap.size ∧ BoxN w4 w1.heap.size 30 [.slice p5 i c5, .slice pt T.length ct]) := fun w4 hb4 => by
        have hb4' : Below wr.heap.size wr w4 := (below_drewN wr 1).trans hb4
        exact ⟨h0.trans (hb4.mono (by show w1.heap.size ≤ wr.heap.size; omega)), (hb4'.cell (p := ⟨w1.heap.size, 0, none⟩) b5r.lt).trans z0, (hb4'.frozen (p := ⟨w1.heap.size, 0, none⟩) b5r.lt).trans z1, World.ownsRow.belowAll hown hb4', hb4'.size, b5r.below hb4' b5r.lt⟩
      clear n0 n1
      rw [show Op.load 27 (.tmp 21) = id (Op.load 27 (.tmp 21)) from rfl]
      go_region_held3 (fun w' => w'.cell? ⟨w.heap.size, 0, none⟩ = some (.int .u8 kz) ∧ w'.cell? ⟨w.heap.size, 1, none⟩ = some (.int .i8 s0) ∧ w'.cell? ⟨w.heap.size, 2, none⟩ = some (.int .i8 s1) ∧ w'.cell? ⟨w.heap.size, 3, none⟩ = some (.bool half) ∧ w'.cell? ⟨bn, on + i * 2, none⟩ = some (.int .i64 x) ∧ w'.cell? ⟨bn, on + i * 2 + 1, none⟩ = some (.int .i64 y))
        ((refine HF.out _ ?_; first | with_reducible assumption | exact hw4a | exact hw5s))
        (first
          | (refine step_append_lies _ (by rfl) (.tmp 22) (.tmp 38) 27 (by rfl) (w1.heap.size + 1) 59 i0 (.agg #[.string ⟨#[]⟩, .string ⟨#[]⟩]) 2 32 Tryz.underlying27 hi hz0 hz1 hz2 rfl (by decide) _ i _ (by simp [Act.eval]) (hown4.alloc _) ⟨w4.heap.size, 0, none⟩ 1 1 [.string (RS px), .string (RS py)] (by simp [Act.eval]) rfl (cell_two _ _ _ _) (two_str _ _) (by omega) (by unfold maxLen; omega) (by omega) (by simp; omega) _ rfl ?_
             intro g5 cap5 w5 hown5 hgr5 hat5 hlt5
             have hne5 : some w1.heap.size ≠ (Value.slice p5 i c5).ownBlock := fun e => by have := (hown4.lt _ e.symm).1; omega
             have z5 := (hgr5.cell_far ⟨w1.heap.size, 0, none⟩ (by simp; omega) hne5).trans (cell_alloc_l _ z0')
             have z5f := (hgr5.frozen_far ⟨w1.heap.size, 0, none⟩ (by simp; omega) hne5).trans (frozen_alloc_l _ z0' z1')
             have bz5 : BoxN w5 w1.heap.size 30 [.slice p5 i c5, .slice pt T.length ct] := (hgr5.block w1.heap.size (by simp; omega) hne5).trans (bz4.below ((Below.refl _ _).alloc (Nat.le_refl _) _) bz4.lt)
             have hw5 : Below w1.heap.size w1 w5 := (hw4.alloc (by omega) _).grown hgr5 (by simp; omega) (fun j hj => by have := (hown4.lt j hj).1; omega)
             have hw5s : Below w1.heap.size w1 (w5.setCell ⟨w1.heap.size, 0, none⟩ (.slice (some ⟨g5, 0, none⟩) (i + 1) cap5)) := hw5.setCell (Nat.le_refl _) _
             have hz5 := hgr5.size)
          | (go_at_call 46; refine (HPI.out _ hgd).mono ?_; rintro e w4 ⟨_, rfl, rfl, hb4⟩
             obtain ⟨hw4, z0', z1', hown4, hz4, bz4⟩ := HD4.out _ hb4
             have z0a := cell_alloc_l (.cells #[.string (RS px), .string (RS py)] 59) z0'
             have hw4a : Below w1.heap.size w1 (w4.alloc (.cells #[.string (RS px), .string (RS py)] 59)) := hw4.alloc (by omega) _))
      all_goals
        go_wp2_with fail
        go_roundw
        case rel => exact ⟨i + 1, _, by simp, by omega, bz5.set 0 _, by rw [HQ.out, show cellsP (strP (Q.take i ++ [(px, py)])) = cellsP (strP (Q.take i)) ++ [.string (RS px), .string (RS py)] by simp [cellsP, strP]]; exact ownsRow_setCell_below hown5 (by show w1.heap.size < w1.heap.size + 1; omega) _, hw5s, by simp [World.setCell] at hz5 ⊢; omega⟩
        case measure =>
          show N.length - ((i : Int) + 1).toNat < N.length - (i : Int).toNat
          omega
    · obtain rfl : i = N.length := by omega
      have HRP : Hid (RdP wr (.slice p5 N.length c5) (strP Q)) := by
        have h1 : RdC 2 wr (.slice p5 N.length c5) N.length (cellsP (strP (Q.take N.length))) := RdC.of_owns hown
        have hql : Q.length = N.length := by rw [HSP.out, List.length_map]
        rw [List.take_of_length_le (by omega)] at h1
        unfold Hid RdP
        rw [strP_length, hql]
        exact h1
      have HRT : Hid (RdT wr (.slice pt T.length ct) T) := RdC.below HT.out hbr
      have b2r := b21.below hbr hl2
      have z0 := b5r.cell 0 rfl
      have z1 := b5r.cell 1 rfl
      have y0 := b2r.cell 0 rfl
      have y1 := b2r.cell 1 rfl
      have y2 := b2r.frozen 0
      have y3 := b2r.frozen 1
      have hBr : Below w.heap.size w wr := hB1.trans (hbr.mono (by have := hB1.size; omega))
      go_wp2_with fail
      have BF := (b2r.set 0 (.slice p5 N.length c5)).set 1 (.slice pt T.length ct)
      have hBF := (hBr.setCell (p := ⟨w.heap.size + 1, 0, none⟩) (by show w.heap.size ≤ w.heap.size + 1; omega) (.slice p5 N.length c5)).setCell (p := ⟨w.heap.size + 1, 1, none⟩) (by show w.heap.size ≤ w.heap.size + 1; omega) (.slice pt T.length ct)
      have g0 := BF.cell 0 rfl
      have g1 := BF.cell 1 rfl
      have hne : ∀ y ∈ cellsP (strP Q), y ≠ .slice none 0 0 := by
        intro y hy
        unfold cellsP at hy
        obtain ⟨q, _, hq⟩ := List.mem_flatMap.1 hy
        simp at hq
        rcases hq with rfl | rfl <;> simp
      have hne2 : ∀ y ∈ cellsT T, y ≠ .slice none 0 0 := by
        intro y hy
        unfold cellsT at hy
        obtain ⟨q, _, hq⟩ := List.mem_flatMap.1 hy
        simp at hq
        rcases hq with rfl | rfl | rfl <;> simp
      have y1' := (b2r.set 0 (.slice p5 N.length c5)).cell 1 rfl
      exact bodyPost_ret (v := .agg #[.slice p5 N.length c5, .slice pt T.length ct]) (by simp [results, Tryz.results9, go_sem, g0, g1]) rfl ⟨_, rfl, ⟨_, _, rfl, RdC.set_other (RdC.set_other HRP.out y0 hne) y1' hne, RdC.set_other (RdC.set_other HRT.out y0 hne2) y1' hne2⟩, hBF⟩

end Go.Proofs.YtdhcliekejiegaaGreatDoor

/- The walk over klippelaw13.Make. -/
namespace Go.Proofs.YtdhcliekejiegaaGreatDoor
open Go.RowKit Go.Lib

end Go.Proofs.YtdhcliekejiegaaGreatDoor
