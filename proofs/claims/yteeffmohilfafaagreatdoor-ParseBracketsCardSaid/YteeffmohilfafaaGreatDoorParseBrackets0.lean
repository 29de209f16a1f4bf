/- Some of the runs of this claim. No condition. -/
import Derived.Test.YteeffmohilfafaaGreatDoorParseBracketsB
namespace Go.Proofs.YteeffmohilfafaaGreatDoor.KParseBrackets
open Go Go.X
set_option maxRecDepth 100000
set_option maxHeartbeats 0
set_option linter.unusedVariables false
noncomputable def c0 : List (List AV) := [[.symS 10 (.negSucc 8), .symU 21 0], [.symS 10 (.negSucc 8), .symU 21 1], [.symS 10 (.negSucc 8), .symU 21 2], [.symS 10 (.negSucc 8), .symU 21 3]]
theorem e0 : runs C0 3 (hs0 5 gl) c0 = True := by kernel_rfl
noncomputable def c1 : List (List AV) := [[.symS 10 (.negSucc 8), .symU 21 4], [.symS 10 (.negSucc 8), .symU 21 5], [.symS 10 (.negSucc 8), .symU 21 6], [.symS 10 (.negSucc 8), .symU 21 7]]
theorem e1 : runs C0 3 (hs0 5 gl) c1 = True := by kernel_rfl
noncomputable def c2 : List (List AV) := [[.symS 10 (.negSucc 8), .symU 21 8], [.symS 10 (.negSucc 8), .symU 21 9], [.symS 10 (.negSucc 8), .symU 21 10], [.symS 10 (.negSucc 8), .symU 21 11]]
theorem e2 : runs C0 3 (hs0 5 gl) c2 = True := by kernel_rfl
end Go.Proofs.YteeffmohilfafaaGreatDoor.KParseBrackets
