/- Some of the runs of this claim. No condition. -/
import Derived.Test.YtbcmnefofcnimaaGreatDoorServerApartB
namespace Go.Proofs.YtbcmnefofcnimaaGreatDoor.KServerApart
open Go Go.X
set_option maxRecDepth 100000
set_option maxHeartbeats 0
set_option linter.unusedVariables false
noncomputable def c2 : List (List AV) := [[.symU 10 2, .bool false], [.symU 10 2, .bool true]]
theorem e2 : runs C0 4 (hs0 5 gl) c2 = True := by kernel_rfl
noncomputable def c3 : List (List AV) := [[.symU 10 3, .bool false], [.symU 10 3, .bool true]]
theorem e3 : runs C0 4 (hs0 5 gl) c3 = True := by kernel_rfl
end Go.Proofs.YtbcmnefofcnimaaGreatDoor.KServerApart
