/- Some of the runs of this claim. No condition. -/
import Derived.Test.YteeffmohilfafaaGreatDoorParseBracketsB
namespace Go.Proofs.YteeffmohilfafaaGreatDoor.KParseBrackets
open Go Go.X
set_option maxRecDepth 100000
set_option maxHeartbeats 0
set_option linter.unusedVariables false
noncomputable def c9 : List (List AV) := [[.symS 10 (.negSucc 7), .symU 21 15], [.symS 10 (.negSucc 7), .symU 21 16], [.symS 10 (.negSucc 7), .symU 21 17], [.symS 10 (.negSucc 7), .symU 21 18]]
theorem e9 : runs C0 3 (hs0 5 gl) c9 = True := by kernel_rfl
noncomputable def c10 : List (List AV) := [[.symS 10 (.negSucc 7), .symU 21 19], [.symS 10 (.negSucc 7), .symU 21 20], [.symS 10 (.negSucc 6), .symU 21 0], [.symS 10 (.negSucc 6), .symU 21 1]]
theorem e10 : runs C0 3 (hs0 5 gl) c10 = True := by kernel_rfl
noncomputable def c11 : List (List AV) := [[.symS 10 (.negSucc 6), .symU 21 2], [.symS 10 (.negSucc 6), .symU 21 3], [.symS 10 (.negSucc 6), .symU 21 4], [.symS 10 (.negSucc 6), .symU 21 5]]
theorem e11 : runs C0 3 (hs0 5 gl) c11 = True := by kernel_rfl
end Go.Proofs.YteeffmohilfafaaGreatDoor.KParseBrackets
