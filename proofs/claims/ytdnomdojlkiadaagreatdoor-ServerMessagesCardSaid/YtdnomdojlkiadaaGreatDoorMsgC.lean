/-
  MESSAGES OF THE KINDS, part C.
-/
import Derived.Test.YtdnomdojlkiadaaGreatDoorIdle
open Go Go.Ev
namespace Go.Proofs.Tryz
theorem msg12 : Closed Tryz.prog noGl 5 [.int .i64 244] (.tup [.str 12 36027715032981616184771375717, .bool true]) := chkCall_ok (cE_ok 60) noGl_ok (by kernel_rfl)
theorem msg13 : Closed Tryz.prog noGl 5 [.int .i64 245] (.tup [.str 12 36027715032981616184771375717, .bool true]) := chkCall_ok (cE_ok 60) noGl_ok (by kernel_rfl)
theorem msg14 : Closed Tryz.prog noGl 5 [.itv .i64 246 249] (.tup [.str 5 491496043109, .bool true]) := chkCall_ok (cE_ok 60) noGl_ok (by kernel_rfl)
theorem msg15 : Closed Tryz.prog noGl 5 [.int .i64 250] (.tup [.str 15 604545536566654534451010884661834341, .bool true]) := chkCall_ok (cE_ok 60) noGl_ok (by kernel_rfl)
theorem msg16 : Closed Tryz.prog noGl 5 [.int .i64 251] (.tup [.str 15 593979747725232621729941189379125861, .bool true]) := chkCall_ok (cE_ok 60) noGl_ok (by kernel_rfl)
theorem msg17 : Closed Tryz.prog noGl 5 [.int .i64 252] (.tup [.str 13 9224033221979753658523428483685, .bool true]) := chkCall_ok (cE_ok 60) noGl_ok (by kernel_rfl)
end Go.Proofs.Tryz
