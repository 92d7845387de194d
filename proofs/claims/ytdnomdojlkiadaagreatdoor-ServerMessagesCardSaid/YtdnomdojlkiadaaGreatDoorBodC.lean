/-
  THE LOOP's BODY IN THE CLASSES OF KINDS, part C.
-/
import Derived.Test.YtdnomdojlkiadaaGreatDoorParts
open Go Go.Ev
namespace Go.Proofs.Tryz
theorem bod6 : bodyChk (.itv .i64 200 229) (.tup [.str 17 37579152220481224537248555263321334510181, .bool true]) = true := by kernel_rfl
theorem bod7 : bodyChk (.itv .i64 230 239) (.tup [.str 5 491496043109, .bool true]) = true := by kernel_rfl
theorem bod8 : bodyChk (.int .i64 240) (.tup [.str 14 2361902152678545776117590669816421, .bool true]) = true := by kernel_rfl
end Go.Proofs.Tryz
