/-
  THE CLASSES OF KINDS AND THEIR MESSAGES.
-/
import Derived.Test.YtdnomdojlkiadaaGreatDoorMsgA
import Derived.Test.YtdnomdojlkiadaaGreatDoorMsgB
import Derived.Test.YtdnomdojlkiadaaGreatDoorMsgC
import Derived.Test.YtdnomdojlkiadaaGreatDoorMsgD
open Go Go.Ev
namespace Go.Proofs.Tryz
/-- The classes of kinds. -/
noncomputable def clsE : List (AVal × AVal) := [(.itv .i64 (-9223372036854775808) 69, .tup [.str 5 491496043109, .bool true]),
  (.int .i64 70, .tup [.str 13 9537540304760131123232459879013, .bool true]),
  (.int .i64 71, .tup [.str 12 36027715032981616184771375717, .bool true]),
  (.itv .i64 72 119, .tup [.str 5 491496043109, .bool true]),
  (.itv .i64 120 162, .tup [.str 13 7718988224422586013128544383589, .bool true]),
  (.itv .i64 163 199, .tup [.str 5 491496043109, .bool true]),
  (.itv .i64 200 229, .tup [.str 17 37579152220481224537248555263321334510181, .bool true]),
  (.itv .i64 230 239, .tup [.str 5 491496043109, .bool true]),
  (.int .i64 240, .tup [.str 14 2361902152678545776117590669816421, .bool true]),
  (.int .i64 241, .tup [.str 16 146793563361271689495407446918356431461, .bool true]),
  (.int .i64 242, .tup [.str 19 2462787319999444106488927319984832718484697701, .bool true]),
  (.int .i64 243, .tup [.str 15 526620277456661680147548177626722917, .bool true]),
  (.int .i64 244, .tup [.str 12 36027715032981616184771375717, .bool true]),
  (.int .i64 245, .tup [.str 12 36027715032981616184771375717, .bool true]),
  (.itv .i64 246 249, .tup [.str 5 491496043109, .bool true]),
  (.int .i64 250, .tup [.str 15 604545536566654534451010884661834341, .bool true]),
  (.int .i64 251, .tup [.str 15 593979747725232621729941189379125861, .bool true]),
  (.int .i64 252, .tup [.str 13 9224033221979753658523428483685, .bool true]),
  (.int .i64 253, .tup [.str 14 2057191876365926647955036778426981, .bool true]),
  (.int .i64 254, .tup [.str 11 131076170302993303166153317, .bool true]),
  (.itv .i64 255 9223372036854775807, .tup [.str 5 491496043109, .bool true])]
theorem clsE_ok : ∀ p ∈ clsE, Closed Tryz.prog noGl 5 [p.1] p.2 := by
  intro p hp
  simp only [clsE, List.mem_cons, List.mem_nil_iff, or_false] at hp
  rcases hp with rfl | rfl | rfl | rfl | rfl | rfl | rfl | rfl | rfl | rfl | rfl | rfl | rfl | rfl | rfl | rfl | rfl | rfl | rfl | rfl | rfl
  · exact msg0
  · exact msg1
  · exact msg2
  · exact msg3
  · exact msg4
  · exact msg5
  · exact msg6
  · exact msg7
  · exact msg8
  · exact msg9
  · exact msg10
  · exact msg11
  · exact msg12
  · exact msg13
  · exact msg14
  · exact msg15
  · exact msg16
  · exact msg17
  · exact msg18
  · exact msg19
  · exact msg20
theorem msgNull : Closed Tryz.prog noGl 5 [.int .i64 254] (.tup [.str 11 131076170302993303166153317, .bool true]) := msg19
theorem msgSyntax : Closed Tryz.prog noGl 5 [.int .i64 70] (.tup [.str 13 9537540304760131123232459879013, .bool true]) := msg1
theorem clsE_all (n : Int) (h : -9223372036854775808 ≤ n ∧ n ≤ 9223372036854775807) : ∃ p ∈ clsE, ∀ (G : Gh) (w : World), VRel G w p.1 (.int .i64 n) := by
  obtain ⟨h1, h2⟩ := h
  by_cases c0 : n ≤ 69
  · exact ⟨_, (List.Mem.head _), fun G w => .itv _ _ _ _ (by omega) (by omega)⟩
  by_cases c1 : n ≤ 70
  · obtain rfl : n = 70 := by omega
    exact ⟨_, (List.Mem.tail _ (List.Mem.head _)), fun G w => .int _ _⟩
  by_cases c2 : n ≤ 71
  · obtain rfl : n = 71 := by omega
    exact ⟨_, (List.Mem.tail _ (List.Mem.tail _ (List.Mem.head _))), fun G w => .int _ _⟩
  by_cases c3 : n ≤ 119
  · exact ⟨_, (List.Mem.tail _ (List.Mem.tail _ (List.Mem.tail _ (List.Mem.head _)))), fun G w => .itv _ _ _ _ (by omega) (by omega)⟩
  by_cases c4 : n ≤ 162
  · exact ⟨_, (List.Mem.tail _ (List.Mem.tail _ (List.Mem.tail _ (List.Mem.tail _ (List.Mem.head _))))), fun G w => .itv _ _ _ _ (by omega) (by omega)⟩
  by_cases c5 : n ≤ 199
  · exact ⟨_, (List.Mem.tail _ (List.Mem.tail _ (List.Mem.tail _ (List.Mem.tail _ (List.Mem.tail _ (List.Mem.head _)))))), fun G w => .itv _ _ _ _ (by omega) (by omega)⟩
  by_cases c6 : n ≤ 229
  · exact ⟨_, (List.Mem.tail _ (List.Mem.tail _ (List.Mem.tail _ (List.Mem.tail _ (List.Mem.tail _ (List.Mem.tail _ (List.Mem.head _))))))), fun G w => .itv _ _ _ _ (by omega) (by omega)⟩
  by_cases c7 : n ≤ 239
  · exact ⟨_, (List.Mem.tail _ (List.Mem.tail _ (List.Mem.tail _ (List.Mem.tail _ (List.Mem.tail _ (List.Mem.tail _ (List.Mem.tail _ (List.Mem.head _)))))))), fun G w => .itv _ _ _ _ (by omega) (by omega)⟩
  by_cases c8 : n ≤ 240
  · obtain rfl : n = 240 := by omega
    exact ⟨_, (List.Mem.tail _ (List.Mem.tail _ (List.Mem.tail _ (List.Mem.tail _ (List.Mem.tail _ (List.Mem.tail _ (List.Mem.tail _ (List.Mem.tail _ (List.Mem.head _))))))))), fun G w => .int _ _⟩
  by_cases c9 : n ≤ 241
  · obtain rfl : n = 241 := by omega
    exact ⟨_, (List.Mem.tail _ (List.Mem.tail _ (List.Mem.tail _ (List.Mem.tail _ (List.Mem.tail _ (List.Mem.tail _ (List.Mem.tail _ (List.Mem.tail _ (List.Mem.tail _ (List.Mem.head _)))))))))), fun G w => .int _ _⟩
  by_cases c10 : n ≤ 242
  · obtain rfl : n = 242 := by omega
    exact ⟨_, (List.Mem.tail _ (List.Mem.tail _ (List.Mem.tail _ (List.Mem.tail _ (List.Mem.tail _ (List.Mem.tail _ (List.Mem.tail _ (List.Mem.tail _ (List.Mem.tail _ (List.Mem.tail _ (List.Mem.head _))))))))))), fun G w => .int _ _⟩
  by_cases c11 : n ≤ 243
  · obtain rfl : n = 243 := by omega
    exact ⟨_, (List.Mem.tail _ (List.Mem.tail _ (List.Mem.tail _ (List.Mem.tail _ (List.Mem.tail _ (List.Mem.tail _ (List.Mem.tail _ (List.Mem.tail _ (List.Mem.tail _ (List.Mem.tail _ (List.Mem.tail _ (List.Mem.head _)))))))))))), fun G w => .int _ _⟩
  by_cases c12 : n ≤ 244
  · obtain rfl : n = 244 := by omega
    exact ⟨_, (List.Mem.tail _ (List.Mem.tail _ (List.Mem.tail _ (List.Mem.tail _ (List.Mem.tail _ (List.Mem.tail _ (List.Mem.tail _ (List.Mem.tail _ (List.Mem.tail _ (List.Mem.tail _ (List.Mem.tail _ (List.Mem.tail _ (List.Mem.head _))))))))))))), fun G w => .int _ _⟩
  by_cases c13 : n ≤ 245
  · obtain rfl : n = 245 := by omega
    exact ⟨_, (List.Mem.tail _ (List.Mem.tail _ (List.Mem.tail _ (List.Mem.tail _ (List.Mem.tail _ (List.Mem.tail _ (List.Mem.tail _ (List.Mem.tail _ (List.Mem.tail _ (List.Mem.tail _ (List.Mem.tail _ (List.Mem.tail _ (List.Mem.tail _ (List.Mem.head _)))))))))))))), fun G w => .int _ _⟩
  by_cases c14 : n ≤ 249
  · exact ⟨_, (List.Mem.tail _ (List.Mem.tail _ (List.Mem.tail _ (List.Mem.tail _ (List.Mem.tail _ (List.Mem.tail _ (List.Mem.tail _ (List.Mem.tail _ (List.Mem.tail _ (List.Mem.tail _ (List.Mem.tail _ (List.Mem.tail _ (List.Mem.tail _ (List.Mem.tail _ (List.Mem.head _))))))))))))))), fun G w => .itv _ _ _ _ (by omega) (by omega)⟩
  by_cases c15 : n ≤ 250
  · obtain rfl : n = 250 := by omega
    exact ⟨_, (List.Mem.tail _ (List.Mem.tail _ (List.Mem.tail _ (List.Mem.tail _ (List.Mem.tail _ (List.Mem.tail _ (List.Mem.tail _ (List.Mem.tail _ (List.Mem.tail _ (List.Mem.tail _ (List.Mem.tail _ (List.Mem.tail _ (List.Mem.tail _ (List.Mem.tail _ (List.Mem.tail _ (List.Mem.head _)))))))))))))))), fun G w => .int _ _⟩
  by_cases c16 : n ≤ 251
  · obtain rfl : n = 251 := by omega
    exact ⟨_, (List.Mem.tail _ (List.Mem.tail _ (List.Mem.tail _ (List.Mem.tail _ (List.Mem.tail _ (List.Mem.tail _ (List.Mem.tail _ (List.Mem.tail _ (List.Mem.tail _ (List.Mem.tail _ (List.Mem.tail _ (List.Mem.tail _ (List.Mem.tail _ (List.Mem.tail _ (List.Mem.tail _ (List.Mem.tail _ (List.Mem.head _))))))))))))))))), fun G w => .int _ _⟩
  by_cases c17 : n ≤ 252
  · obtain rfl : n = 252 := by omega
    exact ⟨_, (List.Mem.tail _ (List.Mem.tail _ (List.Mem.tail _ (List.Mem.tail _ (List.Mem.tail _ (List.Mem.tail _ (List.Mem.tail _ (List.Mem.tail _ (List.Mem.tail _ (List.Mem.tail _ (List.Mem.tail _ (List.Mem.tail _ (List.Mem.tail _ (List.Mem.tail _ (List.Mem.tail _ (List.Mem.tail _ (List.Mem.tail _ (List.Mem.head _)))))))))))))))))), fun G w => .int _ _⟩
  by_cases c18 : n ≤ 253
  · obtain rfl : n = 253 := by omega
    exact ⟨_, (List.Mem.tail _ (List.Mem.tail _ (List.Mem.tail _ (List.Mem.tail _ (List.Mem.tail _ (List.Mem.tail _ (List.Mem.tail _ (List.Mem.tail _ (List.Mem.tail _ (List.Mem.tail _ (List.Mem.tail _ (List.Mem.tail _ (List.Mem.tail _ (List.Mem.tail _ (List.Mem.tail _ (List.Mem.tail _ (List.Mem.tail _ (List.Mem.tail _ (List.Mem.head _))))))))))))))))))), fun G w => .int _ _⟩
  by_cases c19 : n ≤ 254
  · obtain rfl : n = 254 := by omega
    exact ⟨_, (List.Mem.tail _ (List.Mem.tail _ (List.Mem.tail _ (List.Mem.tail _ (List.Mem.tail _ (List.Mem.tail _ (List.Mem.tail _ (List.Mem.tail _ (List.Mem.tail _ (List.Mem.tail _ (List.Mem.tail _ (List.Mem.tail _ (List.Mem.tail _ (List.Mem.tail _ (List.Mem.tail _ (List.Mem.tail _ (List.Mem.tail _ (List.Mem.tail _ (List.Mem.tail _ (List.Mem.head _)))))))))))))))))))), fun G w => .int _ _⟩
  · exact ⟨_, (List.Mem.tail _ (List.Mem.tail _ (List.Mem.tail _ (List.Mem.tail _ (List.Mem.tail _ (List.Mem.tail _ (List.Mem.tail _ (List.Mem.tail _ (List.Mem.tail _ (List.Mem.tail _ (List.Mem.tail _ (List.Mem.tail _ (List.Mem.tail _ (List.Mem.tail _ (List.Mem.tail _ (List.Mem.tail _ (List.Mem.tail _ (List.Mem.tail _ (List.Mem.tail _ (List.Mem.tail _ (List.Mem.head _))))))))))))))))))))), fun G w => .itv _ _ _ _ (by omega) (by omega)⟩
end Go.Proofs.Tryz
