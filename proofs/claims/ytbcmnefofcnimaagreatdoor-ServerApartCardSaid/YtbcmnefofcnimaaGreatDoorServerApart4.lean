/- Some of the runs of this claim. No condition. -/
import Derived.Test.YtbcmnefofcnimaaGreatDoorServerApartB
namespace Go.Proofs.YtbcmnefofcnimaaGreatDoor.KServerApart
open Go Go.X
set_option maxRecDepth 100000
set_option maxHeartbeats 0
set_option linter.unusedVariables false
noncomputable def c8 : List (List AV) := [[.symU 10 8, .bool false], [.symU 10 8, .bool true]]
theorem e8 : runs C0 4 (hs0 5 gl) c8 = True := by kernel_rfl
noncomputable def c9 : List (List AV) := [[.symU 10 9, .bool false], [.symU 10 9, .bool true]]
theorem e9 : runs C0 4 (hs0 5 gl) c9 = True := by kernel_rfl
end Go.Proofs.YtbcmnefofcnimaaGreatDoor.KServerApart
