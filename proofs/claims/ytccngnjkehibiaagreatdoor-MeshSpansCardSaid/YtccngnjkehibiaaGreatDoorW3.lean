/- The walks over field.on, field.number, field.Value. -/
import Derived.Test.YtccngnjkehibiaaGreatDoorW2
namespace Go.Proofs.YtccngnjkehibiaaGreatDoor
open Go.RowKit Go.Lib

/-- The value of the plane of a triangle at a place. -/
def onQ (P : List PtQ) (F : List Rat) (tr : Tri) (p : PtQ) : Rat := hI F tr.1 + (slopeT P F tr).1 * (p.1 - (ptI P tr.1).1) + (slopeT P F tr).2 * (p.2 - (ptI P tr.1).2)



set_option maxHeartbeats 1000000 in
set_option maxRecDepth 100000 in
/-- A place that is not right. -/
theorem locate_number (w : World) (vp vt : Value) (P : List PtQ) (T : List Tri) (k : Nat) (hp : RdP w vp (strP P)) (ht : RdT w vt T) (hm : MeshOK P T k) (px py : ByteArray) (hx : px.size < 1000000000) (hy : py.size < 1000000000) (he : errNum (allQ [px, py]) = 2) (hg : Good w) :
    Calls Tryz.prog 31 #[.agg #[vp, vt], .agg #[.string px, .string py]] w (Ret (fun r _ => r = .tuple #[.slice none 0 0, .int .i64 2]) w) := by
  have HER := Lib.hid he
  have HCK : Hid (∀ w', Below w.heap.size w w' → Good w' → Calls Tryz.prog 22 #[.agg #[vp, vt]] w' (Ret (fun r _ => r = .int .i64 0) w')) := fun w' hb hg' => check_any w' vp vt P T k (RdC.below hp hb) (RdC.below ht hb) hm hg'
  have hpp := hp
  have htt := ht
  obtain ⟨pp, cp, rfl, -, -, -⟩ := hpp.open
  obtain ⟨pt, ct, rfl, -, -, -⟩ := htt.open
  rw [strP_length] at *
  clear hp ht hm hpp htt he
  go_enter Tryz.func31, Tryz.ntmps31
  go_wp2_with fail
  obtain ⟨W, hW⟩ : ∃ W, W = (w.alloc (.cells #[.slice pp P.length cp, .slice pt T.length ct] 34)).alloc (.cells #[.string px, .string py] 24) := ⟨_, rfl⟩
  have hB : Below w.heap.size w W := by rw [hW]; exact ((Below.refl _ _).alloc (Nat.le_refl _) _).alloc (by simp) _
  have e3 : BoxN W (w.heap.size + 1) 24 [.string px, .string py] := by rw [hW]; exact BoxN.new _ _ _ _ (by simp)
  rw [← hW]
  clear hW
  refine (HCK.out W hB (hg.below hB)).mono ?_
  rintro e w1 ⟨_, rfl, rfl, hb1⟩
  have hB1 := hB.trans (hb1.mono hB.size)
  have e31 := e3.below hb1 e3.lt
  have y0 := e31.cell 0 rfl
  have y1 := e31.cell 1 rfl
  clear hb1 hB e3
  go_wp2_with fail
  refine (checkPoint_any px py (by omega) (by omega) w1 (hg.below hB1)).mono ?_
  rw [HER.out]
  rintro e w2 ⟨_, rfl, rfl, hb2⟩
  have hB2 := hB1.trans (hb2.mono hB1.size)
  clear y0 y1 e31
  go_wp2_with fail
  go_ret2
  exact ⟨_, rfl, rfl, hB2⟩


end Go.Proofs.YtccngnjkehibiaaGreatDoor
