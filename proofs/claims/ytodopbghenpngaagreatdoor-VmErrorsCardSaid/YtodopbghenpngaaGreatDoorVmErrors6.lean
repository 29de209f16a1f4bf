/- Some of the runs of this claim. No condition. -/
import Derived.Test.YtodopbghenpngaaGreatDoorVmErrorsB
namespace Go.Proofs.YtodopbghenpngaaGreatDoor.KVmErrors
open Go Go.X
set_option maxRecDepth 100000
set_option maxHeartbeats 0
set_option linter.unusedVariables false
noncomputable def c6 : List (List AV) := [[.symS 31 (.ofNat 6), .bool false], [.symS 31 (.ofNat 6), .bool true], [.symS 31 (.ofNat 7), .bool false], [.symS 31 (.ofNat 7), .bool true], [.symS 31 (.ofNat 8), .bool false], [.symS 31 (.ofNat 8), .bool true], [.symS 31 (.ofNat 9), .bool false], [.symS 31 (.ofNat 9), .bool true], [.symS 31 (.ofNat 10), .bool false], [.symS 31 (.ofNat 10), .bool true], [.symS 31 (.ofNat 11), .bool false], [.symS 31 (.ofNat 11), .bool true]]
theorem e6 : runs C0 3 (hs0 5 gl) c6 = True := by kernel_rfl
end Go.Proofs.YtodopbghenpngaaGreatDoor.KVmErrors
