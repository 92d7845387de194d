/-
  THE LOOP's BODY IN THE CLASSES OF KINDS, part E.
-/
import Derived.Test.YtdnomdojlkiadaaGreatDoorParts
open Go Go.Ev
namespace Go.Proofs.Tryz
theorem bod12 : bodyChk (.int .i64 244) (.tup [.str 12 36027715032981616184771375717, .bool true]) = true := by kernel_rfl
theorem bod13 : bodyChk (.int .i64 245) (.tup [.str 12 36027715032981616184771375717, .bool true]) = true := by kernel_rfl
theorem bod14 : bodyChk (.itv .i64 246 249) (.tup [.str 5 491496043109, .bool true]) = true := by kernel_rfl
end Go.Proofs.Tryz
