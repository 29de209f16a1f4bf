/- Some of the runs of this claim. No condition. -/
import Derived.Test.YtodopbghenpngaaGreatDoorVmErrorsB
namespace Go.Proofs.YtodopbghenpngaaGreatDoor.KVmErrors
open Go Go.X
set_option maxRecDepth 100000
set_option maxHeartbeats 0
set_option linter.unusedVariables false
noncomputable def c2 : List (List AV) := [[.symS 31 (.negSucc 17), .bool false], [.symS 31 (.negSucc 17), .bool true], [.symS 31 (.negSucc 16), .bool false], [.symS 31 (.negSucc 16), .bool true], [.symS 31 (.negSucc 15), .bool false], [.symS 31 (.negSucc 15), .bool true], [.symS 31 (.negSucc 14), .bool false], [.symS 31 (.negSucc 14), .bool true], [.symS 31 (.negSucc 13), .bool false], [.symS 31 (.negSucc 13), .bool true], [.symS 31 (.negSucc 12), .bool false], [.symS 31 (.negSucc 12), .bool true]]
theorem e2 : runs C0 3 (hs0 5 gl) c2 = True := by kernel_rfl
end Go.Proofs.YtodopbghenpngaaGreatDoor.KVmErrors
