/- Some of the runs of this claim. No condition. -/
import Derived.Test.YteeffmohilfafaaGreatDoorParseBracketsB
namespace Go.Proofs.YteeffmohilfafaaGreatDoor.KParseBrackets
open Go Go.X
set_option maxRecDepth 100000
set_option maxHeartbeats 0
set_option linter.unusedVariables false
noncomputable def c30 : List (List AV) := [[.symS 10 (.negSucc 3), .symU 21 15], [.symS 10 (.negSucc 3), .symU 21 16], [.symS 10 (.negSucc 3), .symU 21 17], [.symS 10 (.negSucc 3), .symU 21 18]]
theorem e30 : runs C0 3 (hs0 5 gl) c30 = True := by kernel_rfl
noncomputable def c31 : List (List AV) := [[.symS 10 (.negSucc 3), .symU 21 19], [.symS 10 (.negSucc 3), .symU 21 20], [.symS 10 (.negSucc 2), .symU 21 0], [.symS 10 (.negSucc 2), .symU 21 1]]
theorem e31 : runs C0 3 (hs0 5 gl) c31 = True := by kernel_rfl
noncomputable def c32 : List (List AV) := [[.symS 10 (.negSucc 2), .symU 21 2], [.symS 10 (.negSucc 2), .symU 21 3], [.symS 10 (.negSucc 2), .symU 21 4], [.symS 10 (.negSucc 2), .symU 21 5]]
theorem e32 : runs C0 3 (hs0 5 gl) c32 = True := by kernel_rfl
end Go.Proofs.YteeffmohilfafaaGreatDoor.KParseBrackets
