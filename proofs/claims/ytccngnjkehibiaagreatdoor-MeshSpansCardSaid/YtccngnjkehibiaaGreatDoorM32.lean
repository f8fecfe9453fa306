/- mesh.Along: a place that is not right; one place twice. -/
import Derived.Test.YtccngnjkehibiaaGreatDoorM9
namespace Go.Proofs.YtccngnjkehibiaaGreatDoor
open Go.RowKit Go.Lib

set_option maxHeartbeats 2000000 in
set_option maxRecDepth 100000 in
theorem along_number (w : World) (vp vt : Value) (P : List PtQ) (T : List Tri) (k m : Nat) (hp : RdP w vp (strP P)) (ht : RdT w vt T) (hm : MeshOK P T k) (hk0 : 0 < m) (hm7 : m ≤ 200) (a : PtQ) (za : SzP m a) (px py : ByteArray) (hx : px.size < 1000000000) (hy : py.size < 1000000000) (he : errNum (allQ [px, py]) = 2) (hg : Good w) :
    Calls Tryz.prog 25 #[.agg #[vp, vt], .agg #[.string (RS a.1), .string (RS a.2)], .agg #[.string px, .string py]] w (Ret (fun r _ => r = .tuple #[.slice none 0 0, .int .i64 2]) w) := by
  have HCK : Hid (∀ w', Below w.heap.size w w' → Good w' → Calls Tryz.prog 22 #[.agg #[vp, vt]] w' (Ret (fun r _ => r = .int .i64 0) w')) := fun w' hb hg' => check_any w' vp vt P T k (RdC.below hp hb) (RdC.below ht hb) hm hg'
  have HCA : Hid (∀ w, Good w → _) := fun w hg => cpt_ok a m za hk0 (by omega) w hg
  have HCB : Hid (∀ w, Good w → _) := fun w hg => checkPoint_any px py hx hy w hg
  rw [he] at HCB
  clear he hx hy
  obtain ⟨pp, cp, rfl, -, -, -⟩ := hp.open
  obtain ⟨pt, ct, rfl, -, -, -⟩ := ht.open
  rw [strP_length] at *
  clear hp ht hm hm7 za
  go_enter Tryz.func25, Tryz.ntmps25
  go_wp2_with fail
  obtain ⟨W0, hW0⟩ : ∃ W, W = ((w.alloc (.cells #[.slice pp P.length cp, .slice pt T.length ct] 34)).alloc (.cells #[.string (RS a.1), .string (RS a.2)] 24)).alloc (.cells #[.string px, .string py] 24) := ⟨_, rfl⟩
  have hB0 : Below w.heap.size w W0 := by rw [hW0]; exact (((Below.refl _ _).alloc (Nat.le_refl _) _).alloc (by simp) _).alloc (by simp; omega) _
  have b5 : BoxN W0 (w.heap.size + 1 + 1) 24 [.string px, .string py] := by rw [hW0]; exact BoxN.new _ _ _ _ (by simp)
  have b4 : BoxN W0 (w.heap.size + 1) 24 [.string (RS a.1), .string (RS a.2)] := by
    rw [hW0]
    have h1 := (BoxN.new (w.alloc (.cells #[.slice pp P.length cp, .slice pt T.length ct] 34)) #[.string (RS a.1), .string (RS a.2)] 24 (w.heap.size + 1) (by simp))
    exact h1.below ((Below.refl _ _).alloc (Nat.le_refl _) _) h1.lt
  rw [← hW0]
  clear hW0
  refine (HCK.out W0 hB0 (hg.below hB0)).mono ?_
  rintro e w1 ⟨_, rfl, rfl, hb1⟩
  have hB1 := hB0.trans (hb1.mono hB0.size)
  have b51 := b5.below hb1 b5.lt
  have b41 := b4.below hb1 b4.lt
  clear hb1 hB0 b5 b4
  have x0 := b41.cell 0 rfl
  have x1 := b41.cell 1 rfl
  go_wp2_with fail
  refine (HCA.out w1 (hg.below hB1)).mono ?_
  rintro e w2 ⟨_, rfl, rfl, hb2⟩
  have hB2 := hB1.trans (hb2.mono hB1.size)
  have b52 := b51.below hb2 b51.lt
  have b42 := b41.below hb2 b41.lt
  clear hb2 hB1 b51 b41 x0 x1
  have x0 := b52.cell 0 rfl
  have x1 := b52.cell 1 rfl
  go_wp2_with fail
  refine (HCB.out w2 (hg.below hB2)).mono ?_
  rintro e w3 ⟨_, rfl, rfl, hb3⟩
  have hB3 := hB2.trans (hb3.mono hB2.size)
  go_wp2_with fail
  go_ret2
  exact ⟨_, rfl, rfl, hB3⟩

set_option maxHeartbeats 2000000 in
set_option maxRecDepth 100000 in
theorem along_zero (w : World) (vp vt : Value) (P : List PtQ) (T : List Tri) (k m : Nat) (hp : RdP w vp (strP P)) (ht : RdT w vt T) (hm : MeshOK P T k) (hk0 : 0 < m) (hm7 : m ≤ 200) (a : PtQ) (za : SzP m a) (hg : Good w) :
    Calls Tryz.prog 25 #[.agg #[vp, vt], .agg #[.string (RS a.1), .string (RS a.2)], .agg #[.string (RS a.1), .string (RS a.2)]] w (Ret (fun r _ => r = .tuple #[.slice none 0 0, .int .i64 17]) w) := by
  have HCK : Hid (∀ w', Below w.heap.size w w' → Good w' → Calls Tryz.prog 22 #[.agg #[vp, vt]] w' (Ret (fun r _ => r = .int .i64 0) w')) := fun w' hb hg' => check_any w' vp vt P T k (RdC.below hp hb) (RdC.below ht hb) hm hg'
  have HCA : Hid (∀ w, Good w → _) := fun w hg => cpt_ok a m za hk0 (by omega) w hg
  obtain ⟨pp, cp, rfl, -, -, -⟩ := hp.open
  obtain ⟨pt, ct, rfl, -, -, -⟩ := ht.open
  rw [strP_length] at *
  clear hp ht hm hm7 za
  go_enter Tryz.func25, Tryz.ntmps25
  go_wp2_with fail
  obtain ⟨W0, hW0⟩ : ∃ W, W = ((w.alloc (.cells #[.slice pp P.length cp, .slice pt T.length ct] 34)).alloc (.cells #[.string (RS a.1), .string (RS a.2)] 24)).alloc (.cells #[.string (RS a.1), .string (RS a.2)] 24) := ⟨_, rfl⟩
  have hB0 : Below w.heap.size w W0 := by rw [hW0]; exact (((Below.refl _ _).alloc (Nat.le_refl _) _).alloc (by simp) _).alloc (by simp; omega) _
  have b5 : BoxN W0 (w.heap.size + 1 + 1) 24 [.string (RS a.1), .string (RS a.2)] := by rw [hW0]; exact BoxN.new _ _ _ _ (by simp)
  have b4 : BoxN W0 (w.heap.size + 1) 24 [.string (RS a.1), .string (RS a.2)] := by
    rw [hW0]
    have h1 := (BoxN.new (w.alloc (.cells #[.slice pp P.length cp, .slice pt T.length ct] 34)) #[.string (RS a.1), .string (RS a.2)] 24 (w.heap.size + 1) (by simp))
    exact h1.below ((Below.refl _ _).alloc (Nat.le_refl _) _) h1.lt
  rw [← hW0]
  clear hW0
  refine (HCK.out W0 hB0 (hg.below hB0)).mono ?_
  rintro e w1 ⟨_, rfl, rfl, hb1⟩
  have hB1 := hB0.trans (hb1.mono hB0.size)
  have b51 := b5.below hb1 b5.lt
  have b41 := b4.below hb1 b4.lt
  clear hb1 hB0 b5 b4
  have x0 := b41.cell 0 rfl
  have x1 := b41.cell 1 rfl
  go_wp2_with fail
  refine (HCA.out w1 (hg.below hB1)).mono ?_
  rintro e w2 ⟨_, rfl, rfl, hb2⟩
  have hB2 := hB1.trans (hb2.mono hB1.size)
  have b52 := b51.below hb2 b51.lt
  have b42 := b41.below hb2 b41.lt
  clear hb2 hB1 b51 b41 x0 x1
  have x0 := b52.cell 0 rfl
  have x1 := b52.cell 1 rfl
  go_wp2_with fail
  refine (HCA.out w2 (hg.below hB2)).mono ?_
  rintro e w3 ⟨_, rfl, rfl, hb3⟩
  have hB3 := hB2.trans (hb3.mono hB2.size)
  have b53 := b52.below hb3 b52.lt
  have b43 := b42.below hb3 b42.lt
  clear hb3 hB2 b52 b42 x0 x1
  have x0 := b53.cell 0 rfl
  have x1 := b53.cell 1 rfl
  have y0 := b43.cell 0 rfl
  have y1 := b43.cell 1 rfl
  go_wp2_with fail
  go_ret2
  exact ⟨_, rfl, rfl, hB3⟩

end Go.Proofs.YtccngnjkehibiaaGreatDoor
