/-
  THE LOOP's BODY IN THE CLASSES OF KINDS, part D.
-/
import Derived.Test.YtdnomdojlkiadaaGreatDoorParts
open Go Go.Ev
namespace Go.Proofs.Tryz
theorem bod18 : bodyChk (.int .i64 253) (.tup [.str 14 2057191876365926647955036778426981, .bool true]) = true := by kernel_rfl
theorem bod19 : bodyChk (.int .i64 254) (.tup [.str 11 131076170302993303166153317, .bool true]) = true := by kernel_rfl
theorem bod20 : bodyChk (.itv .i64 255 9223372036854775807) (.tup [.str 5 491496043109, .bool true]) = true := by kernel_rfl
end Go.Proofs.Tryz
