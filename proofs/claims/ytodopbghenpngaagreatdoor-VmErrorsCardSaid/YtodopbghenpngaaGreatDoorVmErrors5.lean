/- Some of the runs of this claim. No condition. -/
import Derived.Test.YtodopbghenpngaaGreatDoorVmErrorsB
namespace Go.Proofs.YtodopbghenpngaaGreatDoor.KVmErrors
open Go Go.X
set_option maxRecDepth 100000
set_option maxHeartbeats 0
set_option linter.unusedVariables false
noncomputable def c5 : List (List AV) := [[.symS 31 (.ofNat 0), .bool false], [.symS 31 (.ofNat 0), .bool true], [.symS 31 (.ofNat 1), .bool false], [.symS 31 (.ofNat 1), .bool true], [.symS 31 (.ofNat 2), .bool false], [.symS 31 (.ofNat 2), .bool true], [.symS 31 (.ofNat 3), .bool false], [.symS 31 (.ofNat 3), .bool true], [.symS 31 (.ofNat 4), .bool false], [.symS 31 (.ofNat 4), .bool true], [.symS 31 (.ofNat 5), .bool false], [.symS 31 (.ofNat 5), .bool true]]
theorem e5 : runs C0 3 (hs0 5 gl) c5 = True := by kernel_rfl
end Go.Proofs.YtodopbghenpngaaGreatDoor.KVmErrors
