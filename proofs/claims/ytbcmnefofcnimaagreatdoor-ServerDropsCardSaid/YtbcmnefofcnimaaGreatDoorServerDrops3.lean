/- Some of the runs of this claim. No condition. -/
import Derived.Test.YtbcmnefofcnimaaGreatDoorServerDropsB
namespace Go.Proofs.YtbcmnefofcnimaaGreatDoor.KServerDrops
open Go Go.X
set_option maxRecDepth 100000
set_option maxHeartbeats 0
set_option linter.unusedVariables false
noncomputable def c9 : List (List AV) := [[.symU 10 4, .bool true, .bool false], [.symU 10 4, .bool true, .bool true]]
theorem e9 : runs C0 3 (hs0 5 gl) c9 = True := by kernel_rfl
noncomputable def c10 : List (List AV) := [[.symU 10 5, .bool false, .bool false], [.symU 10 5, .bool false, .bool true]]
theorem e10 : runs C0 3 (hs0 5 gl) c10 = True := by kernel_rfl
noncomputable def c11 : List (List AV) := [[.symU 10 5, .bool true, .bool false], [.symU 10 5, .bool true, .bool true]]
theorem e11 : runs C0 3 (hs0 5 gl) c11 = True := by kernel_rfl
end Go.Proofs.YtbcmnefofcnimaaGreatDoor.KServerDrops
