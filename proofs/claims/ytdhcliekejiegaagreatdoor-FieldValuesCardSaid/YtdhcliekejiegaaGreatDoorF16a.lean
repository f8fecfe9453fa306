import Derived.Test.YtdhcliekejiegaaGreatDoorK3
import Derived.Test.YtdhcliekejiegaaGreatDoorX1
/- The walk over klipperef05.RightPoint. -/
set_option maxHeartbeats 1000000
namespace Go.Proofs.YtdhcliekejiegaaGreatDoor
open Go.RowKit Go.Lib
theorem rightPoint_any (x y : ByteArray) (hx : x.size < 1000000000) (hy : y.size < 1000000000) (w : World) (hg : Good w) :
 Calls Tryz.prog 22 #[.agg #[.string x, .string y]] w (Ret (fun r _ => r = .bool (allQ [x, y])) w) := by
 have HX : Hid (∀ w, Good w → _) := fun w hg => rightRQ_any x hx w hg
 have HY : Hid (∀ w, Good w → _) := fun w hg => rightRQ_any y hy w hg
 have HQ : Hid (allQ [x, y] = (rightQ x.data.toList && rightQ y.data.toList)) := by unfold Hid allQ; simp
 rw [HQ.out]
 clear HQ
 generalize rightQ x.data.toList = bx at *
 generalize rightQ y.data.toList = bY at *
 go_enter Tryz.func22, Tryz.ntmps22
 go_upto_region 1 with fail
 obtain ⟨W, hW⟩ : ∃ W, W = w.alloc (.cells #[.string x, .string y] 59) := ⟨_, rfl⟩
 have hB : Below w.heap.size w W := by rw [hW]; exact zal _ _
 have b1 : BoxN W w.heap.size 59 [.string x, .string y] := by rw [hW]; exact BoxN.new _ _ _ _ rfl
 rw [← hW]
 clear hW
 have m0 := b1.cell 0 rfl
 go_wp2_with fail
 refine (HX.out W (hg.below hB)).mono ?_
 rintro e w1 ⟨_, rfl, rfl, hb1⟩
 have hB1 := hB.trans (hb1.mono hB.size)
 have b2 := b1.below hb1 b1.lt
 have m1 := b2.cell 1 rfl
 clear m0
 cases bx
 ·go_wp2_with fail
  go_ret
  exact ⟨_, rfl, rfl, hB1⟩
 ·go_wp2_with fail
  refine (HY.out w1 (hg.below hB1)).mono ?_
  rintro e w2 ⟨_, rfl, rfl, hb2⟩
  go_wp2_with fail
  go_ret
  exact ⟨_, rfl, by simp, hB1.trans (hb2.mono hB1.size)⟩
end Go.Proofs.YtdhcliekejiegaaGreatDoor
