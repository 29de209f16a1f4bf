/- Some of the runs of this claim. No condition. -/
import Derived.Test.YtbcmnefofcnimaaGreatDoorServerDropsB
namespace Go.Proofs.YtbcmnefofcnimaaGreatDoor.KServerDrops
open Go Go.X
set_option maxRecDepth 100000
set_option maxHeartbeats 0
set_option linter.unusedVariables false
noncomputable def c6 : List (List AV) := [[.symU 10 3, .bool false, .bool false], [.symU 10 3, .bool false, .bool true]]
theorem e6 : runs C0 3 (hs0 5 gl) c6 = True := by kernel_rfl
noncomputable def c7 : List (List AV) := [[.symU 10 3, .bool true, .bool false], [.symU 10 3, .bool true, .bool true]]
theorem e7 : runs C0 3 (hs0 5 gl) c7 = True := by kernel_rfl
noncomputable def c8 : List (List AV) := [[.symU 10 4, .bool false, .bool false], [.symU 10 4, .bool false, .bool true]]
theorem e8 : runs C0 3 (hs0 5 gl) c8 = True := by kernel_rfl
end Go.Proofs.YtbcmnefofcnimaaGreatDoor.KServerDrops
