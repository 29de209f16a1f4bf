/- Some of the runs of this claim. No condition. -/
import Derived.Test.YtodopbghenpngaaGreatDoorVmErrorsB
namespace Go.Proofs.YtodopbghenpngaaGreatDoor.KVmErrors
open Go Go.X
set_option maxRecDepth 100000
set_option maxHeartbeats 0
set_option linter.unusedVariables false
noncomputable def c1 : List (List AV) := [[.symS 31 (.negSucc 23), .bool false], [.symS 31 (.negSucc 23), .bool true], [.symS 31 (.negSucc 22), .bool false], [.symS 31 (.negSucc 22), .bool true], [.symS 31 (.negSucc 21), .bool false], [.symS 31 (.negSucc 21), .bool true], [.symS 31 (.negSucc 20), .bool false], [.symS 31 (.negSucc 20), .bool true], [.symS 31 (.negSucc 19), .bool false], [.symS 31 (.negSucc 19), .bool true], [.symS 31 (.negSucc 18), .bool false], [.symS 31 (.negSucc 18), .bool true]]
theorem e1 : runs C0 3 (hs0 5 gl) c1 = True := by kernel_rfl
end Go.Proofs.YtodopbghenpngaaGreatDoor.KVmErrors
