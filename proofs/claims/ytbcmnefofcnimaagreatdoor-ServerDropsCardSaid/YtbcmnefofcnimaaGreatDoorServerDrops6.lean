/- Some of the runs of this claim. No condition. -/
import Derived.Test.YtbcmnefofcnimaaGreatDoorServerDropsB
namespace Go.Proofs.YtbcmnefofcnimaaGreatDoor.KServerDrops
open Go Go.X
set_option maxRecDepth 100000
set_option maxHeartbeats 0
set_option linter.unusedVariables false
noncomputable def c18 : List (List AV) := [[.symU 10 9, .bool false, .bool false], [.symU 10 9, .bool false, .bool true]]
theorem e18 : runs C0 3 (hs0 5 gl) c18 = True := by kernel_rfl
noncomputable def c19 : List (List AV) := [[.symU 10 9, .bool true, .bool false], [.symU 10 9, .bool true, .bool true]]
theorem e19 : runs C0 3 (hs0 5 gl) c19 = True := by kernel_rfl
end Go.Proofs.YtbcmnefofcnimaaGreatDoor.KServerDrops
