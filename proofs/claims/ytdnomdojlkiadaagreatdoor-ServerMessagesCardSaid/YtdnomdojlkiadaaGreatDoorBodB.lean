/-
  THE LOOP's BODY IN THE CLASSES OF KINDS, part B.
-/
import Derived.Test.YtdnomdojlkiadaaGreatDoorParts
open Go Go.Ev
namespace Go.Proofs.Tryz
theorem bod6 : bodyChk (.itv .i64 200 229) (.tup [.str 17 37579152220481224537248555263321334510181, .bool true]) = true := by kernel_rfl
theorem bod7 : bodyChk (.itv .i64 230 239) (.tup [.str 5 491496043109, .bool true]) = true := by kernel_rfl
theorem bod8 : bodyChk (.int .i64 240) (.tup [.str 14 2361902152678545776117590669816421, .bool true]) = true := by kernel_rfl
theorem bod9 : bodyChk (.int .i64 241) (.tup [.str 16 146793563361271689495407446918356431461, .bool true]) = true := by kernel_rfl
theorem bod10 : bodyChk (.int .i64 242) (.tup [.str 19 2462787319999444106488927319984832718484697701, .bool true]) = true := by kernel_rfl
theorem bod11 : bodyChk (.int .i64 243) (.tup [.str 15 526620277456661680147548177626722917, .bool true]) = true := by kernel_rfl
end Go.Proofs.Tryz
