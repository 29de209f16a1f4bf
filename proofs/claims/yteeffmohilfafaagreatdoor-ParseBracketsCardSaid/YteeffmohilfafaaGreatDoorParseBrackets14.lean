/- Some of the runs of this claim. No condition. -/
import Derived.Test.YteeffmohilfafaaGreatDoorParseBracketsB
namespace Go.Proofs.YteeffmohilfafaaGreatDoor.KParseBrackets
open Go Go.X
set_option maxRecDepth 100000
set_option maxHeartbeats 0
set_option linter.unusedVariables false
noncomputable def c42 : List (List AV) := [[.symS 10 (.negSucc 0), .symU 21 0], [.symS 10 (.negSucc 0), .symU 21 1], [.symS 10 (.negSucc 0), .symU 21 2], [.symS 10 (.negSucc 0), .symU 21 3]]
theorem e42 : runs C0 3 (hs0 5 gl) c42 = True := by kernel_rfl
noncomputable def c43 : List (List AV) := [[.symS 10 (.negSucc 0), .symU 21 4], [.symS 10 (.negSucc 0), .symU 21 5], [.symS 10 (.negSucc 0), .symU 21 6], [.symS 10 (.negSucc 0), .symU 21 7]]
theorem e43 : runs C0 3 (hs0 5 gl) c43 = True := by kernel_rfl
noncomputable def c44 : List (List AV) := [[.symS 10 (.negSucc 0), .symU 21 8], [.symS 10 (.negSucc 0), .symU 21 9], [.symS 10 (.negSucc 0), .symU 21 10], [.symS 10 (.negSucc 0), .symU 21 11]]
theorem e44 : runs C0 3 (hs0 5 gl) c44 = True := by kernel_rfl
end Go.Proofs.YteeffmohilfafaaGreatDoor.KParseBrackets
