/- The arguments of klippelaw38: a plan, a vector. -/
import Derived.Test.YtccngnjkehibiaaGreatDoorR1
namespace Go.Proofs.YtccngnjkehibiaaGreatDoor
open Go.ChangeShapes Go.WideShapes Go.ChangeAt Go.RowKit Go.Lib

theorem u8T : (Tryz.prog).underlying 5 = some (.int .u8) := by kernel_rfl
theorem i8T : (Tryz.prog).underlying 46 = some (.int .i8) := by kernel_rfl
theorem boolT : (Tryz.prog).underlying 4 = some .bool := by kernel_rfl
theorem ratT : (Tryz.prog).underlying 22 = some .string := by kernel_rfl
theorem intT : (Tryz.prog).underlying 3 = some (.int .i64) := by kernel_rfl


end Go.Proofs.YtccngnjkehibiaaGreatDoor
