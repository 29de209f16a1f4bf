/- A server is made: contracts. No condition. -/
import Derived.Test.YtcdiojlpmgfmeaaGreatDoorQI
namespace Go.Proofs.YtcdiojlpmgfmeaaGreatDoor.Q
open Go Go.RowKit Go.Proofs Go.Maps Go.WideMaps Go.ChangeMaps
set_option maxRecDepth 100000
set_option linter.unusedSimpArgs false
set_option linter.unusedVariables false
theorem few_ok {W : World} {n : Int} (h0 : 0 ≤ n) (h1 : n ≤ 1099511627776) : Calls Tryz.prog 39 #[.int .i64 n] W fun e w' => e = .returned (.bool true) ∧ w' = W := by
  go_enter Tryz.func39, Tryz.ntmps39
  go_wp2
  go_ret
  exact ⟨by simp, rfl⟩
theorem dNew_ok {W : World} : Calls Tryz.prog 40 #[.int .i64 4194304] W fun e w' => e = .returned (.tuple #[.pointer (some ⟨W.heap.size + 1, 0, none⟩), .int .i64 0]) ∧ w' = (W.alloc (.map #[] 0)).alloc (.cells #[.map (some W.heap.size), .int .i64 4194304, .bool false] 131) := by
  have hmm := @run_makeMap Tryz.prog
  go_enter Tryz.func40, Tryz.ntmps40
  go_wp2
  go_ret2
  exact ⟨rfl, rfl⟩
theorem xNew_ok {W : World} : Calls Tryz.prog 42 #[] W fun e w' => e = .returned (.pointer (some ⟨W.heap.size + 1, 0, none⟩)) ∧ w' = (W.alloc (.map #[] 0)).alloc (.cells #[.map (some W.heap.size), .int .i64 0] 125) := by
  have hmm := @run_makeMap Tryz.prog
  go_enter Tryz.func42, Tryz.ntmps42
  go_wp2
  go_ret
  exact ⟨rfl, rfl⟩
theorem lNew_ok {W : World} {D : Nat} : Calls Tryz.prog 72 #[.pointer (some ⟨D, 0, none⟩), .int .i64 0] W fun e w' => e = .returned (.tuple #[.pointer (some ⟨W.heap.size, 0, none⟩), .int .i64 0]) ∧ w' = W.alloc (.cells #[.pointer (some ⟨D, 0, none⟩), .int .i64 0, .int .i64 0, .int .i64 0, .bool false, .slice none 0 0] 117) := by
  go_enter Tryz.func72, Tryz.ntmps72
  go_wp2
  go_ret2
  exact ⟨rfl, rfl⟩
theorem kNew_ok {W : World} : Calls Tryz.prog 73 #[] W fun e w' => e = .returned (.pointer (some ⟨W.heap.size + 1, 0, none⟩)) ∧ w' = (W.alloc (.map #[] 0)).alloc (.cells #[.map (some W.heap.size)] 207) := by
  have hmm := @run_makeMap Tryz.prog
  go_enter Tryz.func73, Tryz.ntmps73
  go_wp2
  go_ret
  exact ⟨rfl, rfl⟩
theorem sNew_ok {W : World} : Calls Tryz.prog 74 #[] W fun e w' => e = .returned (.pointer (some ⟨W.heap.size, 0, none⟩)) ∧ w' = W.alloc (.cells #[.slice none 0 0, .slice none 0 0, .bool false, .bool false, .bool false, .slice none 0 0, .slice none 0 0, .slice none 0 0, .slice none 0 0] 115) := by
  go_enter Tryz.func74, Tryz.ntmps74
  go_wp2
  go_ret
  exact ⟨rfl, rfl⟩
end Go.Proofs.YtcdiojlpmgfmeaaGreatDoor.Q
