import Derived.Test.YtdhcliekejiegaaGreatDoorE2
import Derived.Deep.RegionHeld3
/- The walks over thickness.Vertical, field.Normal, klipperef10.Dot. -/
set_option maxHeartbeats 2000000
set_option maxRecDepth 100000
namespace Go.Proofs.YtdhcliekejiegaaGreatDoor
open Go.RowKit Go.Lib
theorem normal_ok (w : World) (vp vt vf : Value) (P : List PtQ) (T : List Tri) (k : Nat) (F : List Rat) (h : FieldIn w vp vt vf P T k F) (t : Nat) (tz : Int) (htz : tz = (t : Int)) (htl : t < T.length) (tr : Tri) (htr : tr = T[t]) (hs : SzP 200 (slopeT P F tr)) (hg : Good w) :
 Calls Tryz.prog 25 #[.agg #[vp, vt], vf, .int .i64 tz] w (Ret (fun r _ => r = .tuple #[.agg #[.string (RS (-(slopeT P F tr).1)), .string (RS (-(slopeT P F tr).2)), .string ⟨#[49]⟩], .int .i64 0]) w) := by
 have HH := Lib.hid h
 obtain ⟨pp, cp, pt, ct, pf, cf, rfl, rfl, rfl⟩ := h.open
 have HS : Hid (∀ (w : World), FieldIn w (.slice pp P.length cp) (.slice pt T.length ct) (.slice pf F.length cf) P T k F → Good w → _) := fun w h hg => fslope_ok w _ _ _ P T k F h t tz htz htl tr htr hs hg
 have z1 := hs.1.size (by omega)
 have z2 := hs.2.size (by omega)
 have HN1 : Hid (∀ w, Good w → _) := fun w _ => (ratNeg_any (slopeT P F tr).1 (by omega) w).mono fun _ _ h => h.ret
 have HN2 : Hid (∀ w, Good w → _) := fun w _ => (ratNeg_any (slopeT P F tr).2 (by omega) w).mono fun _ _ h => h.ret
 generalize slopeT P F tr = S at *
 clear h htz htr hs z1 z2
 go_enter Tryz.func25, Tryz.ntmps25
 go_wp2_with fail
 obtain ⟨W, hW⟩ : ∃ W, W = (w.alloc (.cells #[.slice pp P.length cp, .slice pt T.length ct] 30)).alloc (.cells #[.string ⟨#[]⟩, .string ⟨#[]⟩, .string ⟨#[]⟩] 71) := ⟨_, rfl⟩
 have hB : Below w.heap.size w W := by rw [hW]; exact zal2 _ _ _
 have b6 : BoxN W (w.heap.size + 1) 71 [.string ⟨#[]⟩, .string ⟨#[]⟩, .string ⟨#[]⟩] := by rw [hW]; exact BoxN.new _ _ _ _ (by simp)
 rw [← hW]
 clear hW
 refine (HS.out _ (HH.out.below hB) (hg.below hB)).mono ?_
 rintro e w1 ⟨_, rfl, rfl, hb1⟩
 have hB1 := hB.trans (hb1.mono hB.size)
 have b61 := b6.below hb1 b6.lt
 clear hb1 hB b6
 go_upto_region 4 with fail
 obtain ⟨W2, hW2⟩ : ∃ W, W = w1.alloc (.cells #[.string (RS S.1), .string (RS S.2)] 59) := ⟨_, rfl⟩
 have hb2 : Below w1.heap.size w1 W2 := by rw [hW2]; exact zal _ _
 have b8 : BoxN W2 w1.heap.size 59 [.string (RS S.1), .string (RS S.2)] := by rw [hW2]; exact BoxN.new _ _ _ _ rfl
 rw [← hW2]
 clear hW2
 have hB2 := hB1.trans (hb2.mono hB1.size)
 have b62 := b61.below hb2 b61.lt
 have x0 := b8.cell 0 rfl
 have x1 := b8.cell 1 rfl
 have y0 := b62.cell 0 rfl
 have y1 := b62.cell 1 rfl
 have y2 := b62.cell 2 rfl
 have y0f := b62.frozen 0
 have y1f := b62.frozen 1
 have y2f := b62.frozen 2
 have hz := b62.lt
 have hz8 := b8.lt
 have hz1 := b61.lt
 have hgd : Good W2.drew := (hg.below hB2).drewN 1
 have HF : Hid (∀ w', Below W2.heap.size W2 w' → (w'.cell? ⟨w1.heap.size, 0, none⟩ = some (.string (RS S.1)) ∧ w'.cell? ⟨w1.heap.size, 1, none⟩ = some (.string (RS S.2))) ∧ Good w' ∧ BoxN w' (w.heap.size + 1) 71 [.string ⟨#[]⟩, .string ⟨#[]⟩, .string ⟨#[]⟩] ∧ Below w.heap.size w w') := fun w' hb =>
  ⟨⟨(zcq hb b8.lt x0 :), (zcq hb b8.lt x1 :)⟩, (hg.below hB2).below hb, b62.below hb b62.lt, hB2.trans (hb.mono hB2.size)⟩
 clear hb2 b61 hB1
 have hb0 := below_drewN W2 1
 have hxx := (HF.out _ hb0).1
 have HFAR : Hid (∀ (X : World) (i j l m : Nat) (u v x : Value), (((X.setCell ⟨w.heap.size + 1, i, none⟩ u).setCell ⟨w.heap.size + 1, j, none⟩ v).setCell ⟨w.heap.size + 1, l, none⟩ x).cell? ⟨w1.heap.size, m, none⟩ = X.cell? ⟨w1.heap.size, m, none⟩) := fun X i j l m u v x => by
  have hne : w.heap.size + 1 ≠ w1.heap.size := by omega
  rw [World.cell?_setCell_far _ _ _ _ hne, World.cell?_setCell_far _ _ _ _ hne, World.cell?_setCell_far _ _ _ _ hne]
 clear y0 y1 y2 y0f y1f y2f
 go_region_held3 (fun w' => w'.cell? ⟨w1.heap.size, 0, none⟩ = some (.string (RS S.1)) ∧ w'.cell? ⟨w1.heap.size, 1, none⟩ = some (.string (RS S.2)))
  (first | exact hxx | exact hx3 | exact hx4 | exact ⟨(HFAR.out _ _ _ _ _ _ _ _).trans hx4.1, (HFAR.out _ _ _ _ _ _ _ _).trans hx4.2⟩)
  (first
    | (go_at_call 77; refine (HN2.out w3 hg3).mono ?_; rintro e w4 ⟨_, rfl, rfl, hb4⟩
       have hb40 := hb30.trans (hb4.mono hb30.size)
       obtain ⟨hx4, hg4, b64, hB4⟩ := HF.out _ hb40
       have y0 := b64.cell 0 rfl
       have y1 := b64.cell 1 rfl
       have y2 := b64.cell 2 rfl
       have y0f := b64.frozen 0
       have y1f := b64.frozen 1
       have y2f := b64.frozen 2)
    | (go_at_call 77; refine (HN1.out _ hgd).mono ?_; rintro e w3 ⟨_, rfl, rfl, hb3⟩
       have hb30 := hb0.trans (hb3.mono hb0.size)
       obtain ⟨hx3, hg3, _, _⟩ := HF.out _ hb30))
 all_goals
  go_wp2_with fail
  have BF := ((b64.set 0 (.string (RS (-S.1)))).set 1 (.string (RS (-S.2)))).set 2 (.string ⟨#[49]⟩)
  have g0 := BF.cell 0 rfl
  have g1 := BF.cell 1 rfl
  have g2 := BF.cell 2 rfl
  have hBF := ((hB4.setCell (p := ⟨w.heap.size + 1, 0, none⟩) (by show w.heap.size ≤ w.heap.size + 1; omega) (.string (RS (-S.1)))).setCell (p := ⟨w.heap.size + 1, 1, none⟩) (by show w.heap.size ≤ w.heap.size + 1; omega) (.string (RS (-S.2)))).setCell (p := ⟨w.heap.size + 1, 2, none⟩) (by show w.heap.size ≤ w.heap.size + 1; omega) (.string ⟨#[49]⟩)
  exact bodyPost_ret (v := .tuple #[.agg #[.string (RS (-S.1)), .string (RS (-S.2)), .string ⟨#[49]⟩], .int .i64 0]) (by simp [results, Tryz.results25, go_sem, g0, g1, g2]) rfl ⟨_, rfl, rfl, hBF⟩
end Go.Proofs.YtdhcliekejiegaaGreatDoor
