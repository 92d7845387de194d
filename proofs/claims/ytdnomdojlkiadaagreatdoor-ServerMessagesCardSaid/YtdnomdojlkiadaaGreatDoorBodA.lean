/-
  THE LOOP's BODY IN THE CLASSES OF KINDS, part A.
-/
import Derived.Test.YtdnomdojlkiadaaGreatDoorParts
open Go Go.Ev
namespace Go.Proofs.Tryz
theorem bod0 : bodyChk (.itv .i64 (-9223372036854775808) 69) (.tup [.str 5 491496043109, .bool true]) = true := by kernel_rfl
theorem bod1 : bodyChk (.int .i64 70) (.tup [.str 13 9537540304760131123232459879013, .bool true]) = true := by kernel_rfl
theorem bod2 : bodyChk (.int .i64 71) (.tup [.str 12 36027715032981616184771375717, .bool true]) = true := by kernel_rfl
theorem bod3 : bodyChk (.itv .i64 72 119) (.tup [.str 5 491496043109, .bool true]) = true := by kernel_rfl
theorem bod4 : bodyChk (.itv .i64 120 162) (.tup [.str 13 7718988224422586013128544383589, .bool true]) = true := by kernel_rfl
theorem bod5 : bodyChk (.itv .i64 163 199) (.tup [.str 5 491496043109, .bool true]) = true := by kernel_rfl
end Go.Proofs.Tryz
