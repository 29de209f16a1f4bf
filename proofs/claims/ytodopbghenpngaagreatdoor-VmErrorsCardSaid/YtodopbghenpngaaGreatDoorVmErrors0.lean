/- Some of the runs of this claim. No condition. -/
import Derived.Test.YtodopbghenpngaaGreatDoorVmErrorsB
namespace Go.Proofs.YtodopbghenpngaaGreatDoor.KVmErrors
open Go Go.X
set_option maxRecDepth 100000
set_option maxHeartbeats 0
set_option linter.unusedVariables false
noncomputable def c0 : List (List AV) := [[.symS 31 (.negSucc 29), .bool false], [.symS 31 (.negSucc 29), .bool true], [.symS 31 (.negSucc 28), .bool false], [.symS 31 (.negSucc 28), .bool true], [.symS 31 (.negSucc 27), .bool false], [.symS 31 (.negSucc 27), .bool true], [.symS 31 (.negSucc 26), .bool false], [.symS 31 (.negSucc 26), .bool true], [.symS 31 (.negSucc 25), .bool false], [.symS 31 (.negSucc 25), .bool true], [.symS 31 (.negSucc 24), .bool false], [.symS 31 (.negSucc 24), .bool true]]
theorem e0 : runs C0 3 (hs0 5 gl) c0 = True := by kernel_rfl
end Go.Proofs.YtodopbghenpngaaGreatDoor.KVmErrors
