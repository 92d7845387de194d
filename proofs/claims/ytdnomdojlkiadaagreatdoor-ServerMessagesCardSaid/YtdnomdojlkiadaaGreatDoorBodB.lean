/-
  THE LOOP's BODY IN THE CLASSES OF KINDS, part B.
-/
import Derived.Test.YtdnomdojlkiadaaGreatDoorParts
open Go Go.Ev
namespace Go.Proofs.Tryz
theorem bod3 : bodyChk (.itv .i64 72 119) (.tup [.str 5 491496043109, .bool true]) = true := by kernel_rfl
theorem bod4 : bodyChk (.itv .i64 120 162) (.tup [.str 13 7718988224422586013128544383589, .bool true]) = true := by kernel_rfl
theorem bod5 : bodyChk (.itv .i64 163 199) (.tup [.str 5 491496043109, .bool true]) = true := by kernel_rfl
end Go.Proofs.Tryz
