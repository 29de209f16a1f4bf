/- Some of the runs of this claim. No condition. -/
import Derived.Test.YtbcmnefofcnimaaGreatDoorServerDropsB
namespace Go.Proofs.YtbcmnefofcnimaaGreatDoor.KServerDrops
open Go Go.X
set_option maxRecDepth 100000
set_option maxHeartbeats 0
set_option linter.unusedVariables false
noncomputable def c15 : List (List AV) := [[.symU 10 7, .bool true, .bool false], [.symU 10 7, .bool true, .bool true]]
theorem e15 : runs C0 3 (hs0 5 gl) c15 = True := by kernel_rfl
noncomputable def c16 : List (List AV) := [[.symU 10 8, .bool false, .bool false], [.symU 10 8, .bool false, .bool true]]
theorem e16 : runs C0 3 (hs0 5 gl) c16 = True := by kernel_rfl
noncomputable def c17 : List (List AV) := [[.symU 10 8, .bool true, .bool false], [.symU 10 8, .bool true, .bool true]]
theorem e17 : runs C0 3 (hs0 5 gl) c17 = True := by kernel_rfl
end Go.Proofs.YtbcmnefofcnimaaGreatDoor.KServerDrops
