/- Some of the runs of this claim. No condition. -/
import Derived.Test.YtodopbghenpngaaGreatDoorVmErrorsB
namespace Go.Proofs.YtodopbghenpngaaGreatDoor.KVmErrors
open Go Go.X
set_option maxRecDepth 100000
set_option maxHeartbeats 0
set_option linter.unusedVariables false
noncomputable def c3 : List (List AV) := [[.symS 31 (.negSucc 11), .bool false], [.symS 31 (.negSucc 11), .bool true], [.symS 31 (.negSucc 10), .bool false], [.symS 31 (.negSucc 10), .bool true], [.symS 31 (.negSucc 9), .bool false], [.symS 31 (.negSucc 9), .bool true], [.symS 31 (.negSucc 8), .bool false], [.symS 31 (.negSucc 8), .bool true], [.symS 31 (.negSucc 7), .bool false], [.symS 31 (.negSucc 7), .bool true], [.symS 31 (.negSucc 6), .bool false], [.symS 31 (.negSucc 6), .bool true]]
theorem e3 : runs C0 3 (hs0 5 gl) c3 = True := by kernel_rfl
end Go.Proofs.YtodopbghenpngaaGreatDoor.KVmErrors
