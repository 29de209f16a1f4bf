/- Some of the runs of this claim. No condition. -/
import Derived.Test.YtodopbghenpngaaGreatDoorVmErrorsB
namespace Go.Proofs.YtodopbghenpngaaGreatDoor.KVmErrors
open Go Go.X
set_option maxRecDepth 100000
set_option maxHeartbeats 0
set_option linter.unusedVariables false
noncomputable def c4 : List (List AV) := [[.symS 31 (.negSucc 5), .bool false], [.symS 31 (.negSucc 5), .bool true], [.symS 31 (.negSucc 4), .bool false], [.symS 31 (.negSucc 4), .bool true], [.symS 31 (.negSucc 3), .bool false], [.symS 31 (.negSucc 3), .bool true], [.symS 31 (.negSucc 2), .bool false], [.symS 31 (.negSucc 2), .bool true], [.symS 31 (.negSucc 1), .bool false], [.symS 31 (.negSucc 1), .bool true], [.symS 31 (.negSucc 0), .bool false], [.symS 31 (.negSucc 0), .bool true]]
theorem e4 : runs C0 3 (hs0 5 gl) c4 = True := by kernel_rfl
end Go.Proofs.YtodopbghenpngaaGreatDoor.KVmErrors
