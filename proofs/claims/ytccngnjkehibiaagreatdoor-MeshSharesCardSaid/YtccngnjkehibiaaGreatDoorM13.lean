/- klippelaw12.MeshShares returns true. -/
import Derived.Test.YtccngnjkehibiaaGreatDoorM12
namespace Go.Proofs.YtccngnjkehibiaaGreatDoor
open Go.RowKit Go.Lib

theorem checkTriangle_range (w : World) (vp vt : Value) (P : List PtQ) (T : List Tri) (k : Nat) (hp : RdP w vp (strP P)) (ht : RdT w vt T) (hm : MeshOK P T k) (tz : Int) (htz : tz < 0 ∨ (T.length : Int) ≤ tz) (hg : Good w) :
    Calls Tryz.prog 79 #[.agg #[vp, vt], .int .i64 tz] w (Ret (fun r _ => r = .int .i64 3) w) := by
  have HCK : Hid (∀ w', Below w.heap.size w w' → Good w' → Calls Tryz.prog 22 #[.agg #[vp, vt]] w' (Ret (fun r _ => r = .int .i64 0) w')) := fun w' hb hg' => check_any w' vp vt P T k (RdC.below hp hb) (RdC.below ht hb) hm hg'
  obtain ⟨pp, cp, rfl, -, -, -⟩ := hp.open
  obtain ⟨pt, ct, rfl, -, -, -⟩ := ht.open
  clear hp ht hm
  rcases htz with htz | htz
  all_goals
    go_enter Tryz.func79, Tryz.ntmps79
    go_wp2_with fail
    obtain ⟨W, hW⟩ : ∃ W, W = w.alloc (.cells #[.slice pp (strP P).length cp, .slice pt T.length ct] 34) := ⟨_, rfl⟩
    have hB : Below w.heap.size w W := by rw [hW]; exact (Below.refl _ _).alloc (Nat.le_refl _) _
    have b0 : BoxN W w.heap.size 34 [.slice pp (strP P).length cp, .slice pt T.length ct] := by rw [hW]; exact BoxN.new _ _ _ _ rfl
    rw [← hW]
    clear hW
    refine (HCK.out W hB (hg.below hB)).mono ?_
    rintro e w1 ⟨_, rfl, rfl, hb1⟩
    have hB1 := hB.trans (hb1.mono hB.size)
    have b1 := b0.below hb1 b0.lt
    have x1 := b1.cell 1 rfl
    clear hb1 hB b0 b1
    go_wp2_with fail
    go_ret
    exact ⟨_, rfl, rfl, hB1⟩

set_option maxHeartbeats 1000000 in
set_option maxRecDepth 100000 in
theorem shares_range (w : World) (vp vt : Value) (P : List PtQ) (T : List Tri) (k : Nat) (hp : RdP w vp (strP P)) (ht : RdT w vt T) (hm : MeshOK P T k) (tz : Int) (htz : tz < 0 ∨ (T.length : Int) ≤ tz) (px py : ByteArray) (hg : Good w) :
    Calls Tryz.prog 28 #[.agg #[vp, vt], .int .i64 tz, .agg #[.string px, .string py]] w (Ret (fun r _ => r = .tuple #[.agg #[.string ⟨#[]⟩, .string ⟨#[]⟩, .string ⟨#[]⟩], .int .i64 3]) w) := by
  have HCT : Hid (∀ w', Below w.heap.size w w' → Good w' → Calls Tryz.prog 79 #[.agg #[vp, vt], .int .i64 tz] w' (Ret (fun r _ => r = .int .i64 3) w')) := fun w' hb hg' => checkTriangle_range w' vp vt P T k (RdC.below hp hb) (RdC.below ht hb) hm tz htz hg'
  obtain ⟨pp, cp, rfl, -, -, -⟩ := hp.open
  obtain ⟨pt, ct, rfl, -, -, -⟩ := ht.open
  clear hp ht hm htz
  go_enter Tryz.func28, Tryz.ntmps28
  go_wp2_with fail
  obtain ⟨W, hW⟩ : ∃ W, W = ((w.alloc (.cells #[.slice pp (strP P).length cp, .slice pt T.length ct] 34)).alloc (.cells #[.string px, .string py] 24)).alloc (.cells #[.string ⟨#[]⟩, .string ⟨#[]⟩, .string ⟨#[]⟩] 63) := ⟨_, rfl⟩
  have hB : Below w.heap.size w W := by rw [hW]; exact (((Below.refl _ _).alloc (Nat.le_refl _) _).alloc (by simp) _).alloc (by simp; omega) _
  have b6 : BoxN W (w.heap.size + 2) 63 [.string ⟨#[]⟩, .string ⟨#[]⟩, .string ⟨#[]⟩] := by rw [hW]; exact BoxN.new _ _ _ _ (by simp)
  rw [← hW]
  clear hW
  refine (HCT.out W hB (hg.below hB)).mono ?_
  rintro e w1 ⟨_, rfl, rfl, hb1⟩
  have hB1 := hB.trans (hb1.mono hB.size)
  have b6r := b6.below hb1 b6.lt
  have d0 := b6r.cell 0 rfl
  have d1 := b6r.cell 1 rfl
  have d2 := b6r.cell 2 rfl
  have f0 := b6r.frozen 0
  have f1 := b6r.frozen 1
  have f2 := b6r.frozen 2
  clear hb1 hB b6
  go_wp2_with fail
  have BF := ((b6r.set 0 (.string ⟨#[]⟩)).set 1 (.string ⟨#[]⟩)).set 2 (.string ⟨#[]⟩)
  have hle : w.heap.size ≤ w.heap.size + 2 := by omega
  have hBF := ((hB1.setCell (p := ⟨w.heap.size + 2, 0, none⟩) hle (.string ⟨#[]⟩)).setCell (p := ⟨w.heap.size + 2, 1, none⟩) hle (.string ⟨#[]⟩)).setCell (p := ⟨w.heap.size + 2, 2, none⟩) hle (.string ⟨#[]⟩)
  have g0 := BF.cell 0 rfl
  have g1 := BF.cell 1 rfl
  have g2 := BF.cell 2 rfl
  exact bodyPost_ret (v := .tuple #[.agg #[.string ⟨#[]⟩, .string ⟨#[]⟩, .string ⟨#[]⟩], .int .i64 3]) (by simp [results, Tryz.results28, go_sem, g0, g1, g2]) rfl ⟨_, rfl, rfl, hBF⟩

set_option maxHeartbeats 1000000 in
set_option maxRecDepth 100000 in
theorem shares_number (w : World) (vp vt : Value) (P : List PtQ) (T : List Tri) (k : Nat) (hp : RdP w vp (strP P)) (ht : RdT w vt T) (hm : MeshOK P T k) (t : Nat) (htl : t < T.length) (px py : ByteArray) (hx : px.size < 1000000000) (hy : py.size < 1000000000) (he : errNum (allQ [px, py]) = 2) (hg : Good w) :
    Calls Tryz.prog 28 #[.agg #[vp, vt], .int .i64 (t : Int), .agg #[.string px, .string py]] w (Ret (fun r _ => r = .tuple #[.agg #[.string ⟨#[]⟩, .string ⟨#[]⟩, .string ⟨#[]⟩], .int .i64 2]) w) := by
  have HCT : Hid (∀ w', Below w.heap.size w w' → Good w' → Calls Tryz.prog 79 #[.agg #[vp, vt], .int .i64 (t : Int)] w' (Ret (fun r _ => r = .int .i64 0) w')) := fun w' hb hg' => checkTriangle_ok w' vp vt P T k (RdC.below hp hb) (RdC.below ht hb) hm t htl hg'
  have HCP : Hid (∀ w, Good w → Calls Tryz.prog 56 #[.agg #[.string px, .string py]] w (Ret (fun r _ => r = .int .i64 2) w)) := fun w hg => by
    have := checkPoint_any px py hx hy w hg
    rw [he] at this; exact this
  obtain ⟨pp, cp, rfl, -, -, -⟩ := hp.open
  obtain ⟨pt, ct, rfl, -, -, -⟩ := ht.open
  clear hp ht hm htl he
  go_enter Tryz.func28, Tryz.ntmps28
  go_wp2_with fail
  obtain ⟨W, hW⟩ : ∃ W, W = ((w.alloc (.cells #[.slice pp (strP P).length cp, .slice pt T.length ct] 34)).alloc (.cells #[.string px, .string py] 24)).alloc (.cells #[.string ⟨#[]⟩, .string ⟨#[]⟩, .string ⟨#[]⟩] 63) := ⟨_, rfl⟩
  have hB : Below w.heap.size w W := by rw [hW]; exact (((Below.refl _ _).alloc (Nat.le_refl _) _).alloc (by simp) _).alloc (by simp; omega) _
  have b6 : BoxN W (w.heap.size + 2) 63 [.string ⟨#[]⟩, .string ⟨#[]⟩, .string ⟨#[]⟩] := by rw [hW]; exact BoxN.new _ _ _ _ (by simp)
  have b5 : BoxN W (w.heap.size + 1) 24 [.string px, .string py] := by
    rw [hW]
    have h1 := (BoxN.new (w.alloc (.cells #[.slice pp (strP P).length cp, .slice pt T.length ct] 34)) #[.string px, .string py] 24 (w.heap.size + 1) (by simp))
    exact h1.below ((Below.refl _ _).alloc (Nat.le_refl _) _) h1.lt
  rw [← hW]
  clear hW
  refine (HCT.out W hB (hg.below hB)).mono ?_
  rintro e w1 ⟨_, rfl, rfl, hb1⟩
  have hB1 := hB.trans (hb1.mono hB.size)
  have b61 := b6.below hb1 b6.lt
  have b51 := b5.below hb1 b5.lt
  have x0 := b51.cell 0 rfl
  have x1 := b51.cell 1 rfl
  clear hb1 hB b6 b5
  go_wp2_with fail
  refine (HCP.out w1 (hg.below hB1)).mono ?_
  rintro e w2 ⟨_, rfl, rfl, hb2⟩
  have hB2 := hB1.trans (hb2.mono hB1.size)
  have b6r := b61.below hb2 b61.lt
  have d0 := b6r.cell 0 rfl
  have d1 := b6r.cell 1 rfl
  have d2 := b6r.cell 2 rfl
  have f0 := b6r.frozen 0
  have f1 := b6r.frozen 1
  have f2 := b6r.frozen 2
  clear hb2 hB1 b61 b51 x0 x1
  go_wp2_with fail
  have BF := ((b6r.set 0 (.string ⟨#[]⟩)).set 1 (.string ⟨#[]⟩)).set 2 (.string ⟨#[]⟩)
  have hle : w.heap.size ≤ w.heap.size + 2 := by omega
  have hBF := ((hB2.setCell (p := ⟨w.heap.size + 2, 0, none⟩) hle (.string ⟨#[]⟩)).setCell (p := ⟨w.heap.size + 2, 1, none⟩) hle (.string ⟨#[]⟩)).setCell (p := ⟨w.heap.size + 2, 2, none⟩) hle (.string ⟨#[]⟩)
  have g0 := BF.cell 0 rfl
  have g1 := BF.cell 1 rfl
  have g2 := BF.cell 2 rfl
  exact bodyPost_ret (v := .tuple #[.agg #[.string ⟨#[]⟩, .string ⟨#[]⟩, .string ⟨#[]⟩], .int .i64 2]) (by simp [results, Tryz.results28, go_sem, g0, g1, g2]) rfl ⟨_, rfl, rfl, hBF⟩

/-! ### plain: the shares add up -/
theorem share_one (c0 c1 c2 p : PtQ) (h : areaQ c0 c1 c2 ≠ 0) : shareQ c0 c1 c2 p 0 + shareQ c0 c1 c2 p 1 + shareQ c0 c1 c2 p 2 = 1 := by
  have e : areaQ p c1 c2 + areaQ p c2 c0 + areaQ p c0 c1 = areaQ c0 c1 c2 := by unfold areaQ; grind
  show areaQ p c1 c2 / areaQ c0 c1 c2 + areaQ p c2 c0 / areaQ c0 c1 c2 + areaQ p c0 c1 / areaQ c0 c1 c2 = 1
  generalize areaQ c0 c1 c2 = A at *
  generalize areaQ p c1 c2 = x at *
  generalize areaQ p c2 c0 = y at *
  generalize areaQ p c0 c1 = z at *
  subst e
  grind
theorem share_place (c0 c1 c2 p : PtQ) (h : areaQ c0 c1 c2 ≠ 0) : shareQ c0 c1 c2 p 0 * c0.1 + shareQ c0 c1 c2 p 1 * c1.1 + shareQ c0 c1 c2 p 2 * c2.1 = p.1 ∧ shareQ c0 c1 c2 p 0 * c0.2 + shareQ c0 c1 c2 p 1 * c1.2 + shareQ c0 c1 c2 p 2 * c2.2 = p.2 := by
  have e1 : areaQ p c1 c2 * c0.1 + areaQ p c2 c0 * c1.1 + areaQ p c0 c1 * c2.1 = areaQ c0 c1 c2 * p.1 := by unfold areaQ; grind
  have e2 : areaQ p c1 c2 * c0.2 + areaQ p c2 c0 * c1.2 + areaQ p c0 c1 * c2.2 = areaQ c0 c1 c2 * p.2 := by unfold areaQ; grind
  show areaQ p c1 c2 / areaQ c0 c1 c2 * c0.1 + areaQ p c2 c0 / areaQ c0 c1 c2 * c1.1 + areaQ p c0 c1 / areaQ c0 c1 c2 * c2.1 = p.1 ∧ areaQ p c1 c2 / areaQ c0 c1 c2 * c0.2 + areaQ p c2 c0 / areaQ c0 c1 c2 * c1.2 + areaQ p c0 c1 / areaQ c0 c1 c2 * c2.2 = p.2
  generalize areaQ c0 c1 c2 = A at *
  generalize areaQ p c1 c2 = x at *
  generalize areaQ p c2 c0 = y at *
  generalize areaQ p c0 c1 = z at *
  constructor <;> grind

end Go.Proofs.YtccngnjkehibiaaGreatDoor
