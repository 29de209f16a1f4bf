/- Some of the runs of this claim. No condition. -/
import Derived.Test.YtbcmnefofcnimaaGreatDoorServerApartB
namespace Go.Proofs.YtbcmnefofcnimaaGreatDoor.KServerApart
open Go Go.X
set_option maxRecDepth 100000
set_option maxHeartbeats 0
set_option linter.unusedVariables false
noncomputable def c4 : List (List AV) := [[.symU 10 4, .bool false], [.symU 10 4, .bool true]]
theorem e4 : runs C0 4 (hs0 5 gl) c4 = True := by kernel_rfl
noncomputable def c5 : List (List AV) := [[.symU 10 5, .bool false], [.symU 10 5, .bool true]]
theorem e5 : runs C0 4 (hs0 5 gl) c5 = True := by kernel_rfl
end Go.Proofs.YtbcmnefofcnimaaGreatDoor.KServerApart
