/- Some of the runs of this claim. No condition. -/
import Derived.Test.YtbcmnefofcnimaaGreatDoorServerApartB
namespace Go.Proofs.YtbcmnefofcnimaaGreatDoor.KServerApart
open Go Go.X
set_option maxRecDepth 100000
set_option maxHeartbeats 0
set_option linter.unusedVariables false
noncomputable def c0 : List (List AV) := [[.symU 10 0, .bool false], [.symU 10 0, .bool true]]
theorem e0 : runs C0 4 (hs0 5 gl) c0 = True := by kernel_rfl
noncomputable def c1 : List (List AV) := [[.symU 10 1, .bool false], [.symU 10 1, .bool true]]
theorem e1 : runs C0 4 (hs0 5 gl) c1 = True := by kernel_rfl
end Go.Proofs.YtbcmnefofcnimaaGreatDoor.KServerApart
