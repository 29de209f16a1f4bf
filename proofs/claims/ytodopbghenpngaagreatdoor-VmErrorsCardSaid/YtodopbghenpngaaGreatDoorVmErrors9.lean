/- Some of the runs of this claim. No condition. -/
import Derived.Test.YtodopbghenpngaaGreatDoorVmErrorsB
namespace Go.Proofs.YtodopbghenpngaaGreatDoor.KVmErrors
open Go Go.X
set_option maxRecDepth 100000
set_option maxHeartbeats 0
set_option linter.unusedVariables false
noncomputable def c9 : List (List AV) := [[.symS 31 (.ofNat 24), .bool false], [.symS 31 (.ofNat 24), .bool true], [.symS 31 (.ofNat 25), .bool false], [.symS 31 (.ofNat 25), .bool true], [.symS 31 (.ofNat 26), .bool false], [.symS 31 (.ofNat 26), .bool true], [.symS 31 (.ofNat 27), .bool false], [.symS 31 (.ofNat 27), .bool true], [.symS 31 (.ofNat 28), .bool false], [.symS 31 (.ofNat 28), .bool true], [.symS 31 (.ofNat 29), .bool false], [.symS 31 (.ofNat 29), .bool true]]
theorem e9 : runs C0 3 (hs0 5 gl) c9 = True := by kernel_rfl
end Go.Proofs.YtodopbghenpngaaGreatDoor.KVmErrors
