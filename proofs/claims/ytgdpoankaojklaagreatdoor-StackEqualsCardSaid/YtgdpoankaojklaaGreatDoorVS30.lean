import Derived.Test.YtgdpoankaojklaaGreatDoorVS29
/- klippelaw28.fits, flat. -/
set_option maxHeartbeats 1000000
set_option maxRecDepth 100000
namespace Go.Proofs.YtgdpoankaojklaaGreatDoor
open Go.RowKit Go.Lib
theorem fits_any (w : World) (kz s0 s1 : Int) (half : Bool) (a0 a1 a2 a3 a4 a5 : Int) (ah : Bool) (p : Option Addr) (n c : Nat) (hn : n <= 9223372036854775807) :
 Calls Tryz.prog 14 #[.agg #[.int .u8 kz, .int .i8 s0, .int .i8 s1, .bool half, .int .i8 a0, .int .i8 a1, .int .i8 a2, .int .i8 a3, .int .i8 a4, .int .i8 a5, .bool ah, .slice p n c]] w (Ret (fun r _ => r = .bool (decide (n <= 3))) w) := by
 have HR : Hid (decide ((n : Int) <= 3) = decide (n <= 3)) := decide_eq_decide.2 (by omega);generalize decide (n <= 3) = res at *;go_enter Tryz.func14, Tryz.ntmps14;go_wp2_with fail;go_ret;exact ⟨_, rfl, congrArg Value.bool HR.out, (Below.refl _ _).alloc (Nat.le_refl _) _⟩
theorem flat_any (w : World) (q : Rat) :
 Calls Tryz.prog 52 #[.string (RS q)] w (Ret (fun r w' => RdQ w' r [q, q, q, q]) w) := by
 generalize hs : RS q = s;have HS := hid hs;clear hs;go_enter Tryz.func52, Tryz.ntmps52;go_wp2_with fail;go_ret;exact ⟨_, rfl, RdQ.fresh w [q, q, q, q] 57 #[.string s, .string s, .string s, .string s] (by rw [<- HS.out]; rfl) (by simp) 4 rfl _ rfl, (Below.refl _ _).alloc (Nat.le_refl _) _⟩
end Go.Proofs.YtgdpoankaojklaaGreatDoor
