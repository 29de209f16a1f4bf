/- Some of the runs of this claim. No condition. -/
import Derived.Test.YteeffmohilfafaaGreatDoorParseBracketsB
namespace Go.Proofs.YteeffmohilfafaaGreatDoor.KParseBrackets
open Go Go.X
set_option maxRecDepth 100000
set_option maxHeartbeats 0
set_option linter.unusedVariables false
noncomputable def c3 : List (List AV) := [[.symS 10 (.negSucc 8), .symU 21 12], [.symS 10 (.negSucc 8), .symU 21 13], [.symS 10 (.negSucc 8), .symU 21 14], [.symS 10 (.negSucc 8), .symU 21 15]]
theorem e3 : runs C0 3 (hs0 5 gl) c3 = True := by kernel_rfl
noncomputable def c4 : List (List AV) := [[.symS 10 (.negSucc 8), .symU 21 16], [.symS 10 (.negSucc 8), .symU 21 17], [.symS 10 (.negSucc 8), .symU 21 18], [.symS 10 (.negSucc 8), .symU 21 19]]
theorem e4 : runs C0 3 (hs0 5 gl) c4 = True := by kernel_rfl
noncomputable def c5 : List (List AV) := [[.symS 10 (.negSucc 8), .symU 21 20], [.symS 10 (.negSucc 7), .symU 21 0], [.symS 10 (.negSucc 7), .symU 21 1], [.symS 10 (.negSucc 7), .symU 21 2]]
theorem e5 : runs C0 3 (hs0 5 gl) c5 = True := by kernel_rfl
end Go.Proofs.YteeffmohilfafaaGreatDoor.KParseBrackets
