/-
  MESSAGES OF THE KINDS, part D.
-/
import Derived.Test.YtdnomdojlkiadaaGreatDoorIdle
open Go Go.Ev
namespace Go.Proofs.Tryz
theorem msg18 : Closed Tryz.prog noGl 5 [.int .i64 253] (.tup [.str 14 2057191876365926647955036778426981, .bool true]) := chkCall_ok (cE_ok 60) noGl_ok (by kernel_rfl)
theorem msg19 : Closed Tryz.prog noGl 5 [.int .i64 254] (.tup [.str 11 131076170302993303166153317, .bool true]) := chkCall_ok (cE_ok 60) noGl_ok (by kernel_rfl)
theorem msg20 : Closed Tryz.prog noGl 5 [.itv .i64 255 9223372036854775807] (.tup [.str 5 491496043109, .bool true]) := chkCall_ok (cE_ok 60) noGl_ok (by kernel_rfl)
end Go.Proofs.Tryz
