/- mesh.checkTriangle; the sides of a right mesh are all different. -/
import Derived.Test.YtdhcliekejiegaaGreatDoorK3
namespace Go.Proofs.YtdhcliekejiegaaGreatDoor
open Go.RowKit Go.Shelf Go.Lib

attribute [local go_sem] Oper.semAt_some

theorem checkTriangle_ok (w : World) (vp vt : Value) (P : List PtQ) (T : List Tri) (k : Nat) (hp : RdP w vp (strP P)) (ht : RdT w vt T) (hm : MeshOK P T k) (t : Nat) (htl : t < T.length) (hg : Good w) :
    Calls Tryz.prog 56 #[.agg #[vp, vt], .int .i64 (t : Int)] w (Ret (fun r _ => r = .int .i64 0) w) := by
  have HCK : Hid (∀ w', Below w.heap.size w w' → Good w' → Calls Tryz.prog 47 #[.agg #[vp, vt]] w' (Ret (fun r _ => r = .int .i64 0) w')) := fun w' hb hg' => check_any w' vp vt P T k (RdC.below hp hb) (RdC.below ht hb) hm hg'
  obtain ⟨pp, cp, rfl, -, -, -⟩ := hp.open
  obtain ⟨pt, ct, rfl, -, -, -⟩ := ht.open
  clear hp ht hm
  have htz : (t : Int) < (T.length : Int) := by omega
  clear htl
  go_enter Tryz.func56, Tryz.ntmps56
  go_wp2_with fail
  obtain ⟨W, hW⟩ : ∃ W, W = w.alloc (.cells #[.slice pp (strP P).length cp, .slice pt T.length ct] 30) := ⟨_, rfl⟩
  have hB : Below w.heap.size w W := by rw [hW]; exact (Below.refl _ _).alloc (Nat.le_refl _) _
  have b0 : BoxN W w.heap.size 30 [.slice pp (strP P).length cp, .slice pt T.length ct] := by rw [hW]; exact BoxN.new _ _ _ _ rfl
  rw [← hW]
  clear hW
  refine (HCK.out W hB (hg.below hB)).mono ?_
  rintro e w1 ⟨_, rfl, rfl, hb1⟩
  have hB1 := hB.trans (hb1.mono hB.size)
  have b1 := b0.below hb1 b0.lt
  have x1 := b1.cell 1 rfl
  clear hb1 hB b0 b1
  go_wp2_with fail
  go_ret
  exact ⟨_, rfl, rfl, hB1⟩

theorem MeshOK.nodup {P : List PtQ} {T : List Tri} {k : Nat} (h : MeshOK P T k) : (keysOf T).Nodup := by
  have := h.whole
  unfold wholeB at this
  rw [Bool.and_eq_true] at this
  exact of_decide_eq_true this.1
end Go.Proofs.YtdhcliekejiegaaGreatDoor
