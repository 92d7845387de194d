/-
  THE LOOP's BODY IN THE CLASSES OF KINDS, part C.
-/
import Derived.Test.YtdnomdojlkiadaaGreatDoorParts
open Go Go.Ev
namespace Go.Proofs.Tryz
theorem bod12 : bodyChk (.int .i64 244) (.tup [.str 12 36027715032981616184771375717, .bool true]) = true := by kernel_rfl
theorem bod13 : bodyChk (.int .i64 245) (.tup [.str 12 36027715032981616184771375717, .bool true]) = true := by kernel_rfl
theorem bod14 : bodyChk (.itv .i64 246 249) (.tup [.str 5 491496043109, .bool true]) = true := by kernel_rfl
theorem bod15 : bodyChk (.int .i64 250) (.tup [.str 15 604545536566654534451010884661834341, .bool true]) = true := by kernel_rfl
theorem bod16 : bodyChk (.int .i64 251) (.tup [.str 15 593979747725232621729941189379125861, .bool true]) = true := by kernel_rfl
theorem bod17 : bodyChk (.int .i64 252) (.tup [.str 13 9224033221979753658523428483685, .bool true]) = true := by kernel_rfl
end Go.Proofs.Tryz
