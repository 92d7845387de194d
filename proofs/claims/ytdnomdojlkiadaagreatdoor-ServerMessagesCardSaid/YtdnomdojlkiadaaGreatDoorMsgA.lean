/-
  MESSAGES OF THE KINDS, part A.
-/
import Derived.Test.YtdnomdojlkiadaaGreatDoorIdle
open Go Go.Ev
namespace Go.Proofs.Tryz
theorem msg0 : Closed Tryz.prog noGl 5 [.itv .i64 (-9223372036854775808) 69] (.tup [.str 5 491496043109, .bool true]) := chkCall_ok (cE_ok 60) noGl_ok (by kernel_rfl)
theorem msg1 : Closed Tryz.prog noGl 5 [.int .i64 70] (.tup [.str 13 9537540304760131123232459879013, .bool true]) := chkCall_ok (cE_ok 60) noGl_ok (by kernel_rfl)
theorem msg2 : Closed Tryz.prog noGl 5 [.int .i64 71] (.tup [.str 12 36027715032981616184771375717, .bool true]) := chkCall_ok (cE_ok 60) noGl_ok (by kernel_rfl)
theorem msg3 : Closed Tryz.prog noGl 5 [.itv .i64 72 119] (.tup [.str 5 491496043109, .bool true]) := chkCall_ok (cE_ok 60) noGl_ok (by kernel_rfl)
theorem msg4 : Closed Tryz.prog noGl 5 [.itv .i64 120 162] (.tup [.str 13 7718988224422586013128544383589, .bool true]) := chkCall_ok (cE_ok 60) noGl_ok (by kernel_rfl)
theorem msg5 : Closed Tryz.prog noGl 5 [.itv .i64 163 199] (.tup [.str 5 491496043109, .bool true]) := chkCall_ok (cE_ok 60) noGl_ok (by kernel_rfl)
end Go.Proofs.Tryz
