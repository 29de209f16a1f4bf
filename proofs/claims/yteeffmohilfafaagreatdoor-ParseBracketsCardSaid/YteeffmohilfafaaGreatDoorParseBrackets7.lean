/- Some of the runs of this claim. No condition. -/
import Derived.Test.YteeffmohilfafaaGreatDoorParseBracketsB
namespace Go.Proofs.YteeffmohilfafaaGreatDoor.KParseBrackets
open Go Go.X
set_option maxRecDepth 100000
set_option maxHeartbeats 0
set_option linter.unusedVariables false
noncomputable def c21 : List (List AV) := [[.symS 10 (.negSucc 4), .symU 21 0], [.symS 10 (.negSucc 4), .symU 21 1], [.symS 10 (.negSucc 4), .symU 21 2], [.symS 10 (.negSucc 4), .symU 21 3]]
theorem e21 : runs C0 3 (hs0 5 gl) c21 = True := by kernel_rfl
noncomputable def c22 : List (List AV) := [[.symS 10 (.negSucc 4), .symU 21 4], [.symS 10 (.negSucc 4), .symU 21 5], [.symS 10 (.negSucc 4), .symU 21 6], [.symS 10 (.negSucc 4), .symU 21 7]]
theorem e22 : runs C0 3 (hs0 5 gl) c22 = True := by kernel_rfl
noncomputable def c23 : List (List AV) := [[.symS 10 (.negSucc 4), .symU 21 8], [.symS 10 (.negSucc 4), .symU 21 9], [.symS 10 (.negSucc 4), .symU 21 10], [.symS 10 (.negSucc 4), .symU 21 11]]
theorem e23 : runs C0 3 (hs0 5 gl) c23 = True := by kernel_rfl
end Go.Proofs.YteeffmohilfafaaGreatDoor.KParseBrackets
