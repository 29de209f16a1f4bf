/- Some of the runs of this claim. No condition. -/
import Derived.Test.YtbcmnefofcnimaaGreatDoorServerApartB
namespace Go.Proofs.YtbcmnefofcnimaaGreatDoor.KServerApart
open Go Go.X
set_option maxRecDepth 100000
set_option maxHeartbeats 0
set_option linter.unusedVariables false
noncomputable def c6 : List (List AV) := [[.symU 10 6, .bool false], [.symU 10 6, .bool true]]
theorem e6 : runs C0 4 (hs0 5 gl) c6 = True := by kernel_rfl
noncomputable def c7 : List (List AV) := [[.symU 10 7, .bool false], [.symU 10 7, .bool true]]
theorem e7 : runs C0 4 (hs0 5 gl) c7 = True := by kernel_rfl
end Go.Proofs.YtbcmnefofcnimaaGreatDoor.KServerApart
