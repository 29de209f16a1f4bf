/- Some of the runs of this claim. No condition. -/
import Derived.Test.YteeffmohilfafaaGreatDoorParseBracketsB
namespace Go.Proofs.YteeffmohilfafaaGreatDoor.KParseBrackets
open Go Go.X
set_option maxRecDepth 100000
set_option maxHeartbeats 0
set_option linter.unusedVariables false
noncomputable def c24 : List (List AV) := [[.symS 10 (.negSucc 4), .symU 21 12], [.symS 10 (.negSucc 4), .symU 21 13], [.symS 10 (.negSucc 4), .symU 21 14], [.symS 10 (.negSucc 4), .symU 21 15]]
theorem e24 : runs C0 3 (hs0 5 gl) c24 = True := by kernel_rfl
noncomputable def c25 : List (List AV) := [[.symS 10 (.negSucc 4), .symU 21 16], [.symS 10 (.negSucc 4), .symU 21 17], [.symS 10 (.negSucc 4), .symU 21 18], [.symS 10 (.negSucc 4), .symU 21 19]]
theorem e25 : runs C0 3 (hs0 5 gl) c25 = True := by kernel_rfl
noncomputable def c26 : List (List AV) := [[.symS 10 (.negSucc 4), .symU 21 20], [.symS 10 (.negSucc 3), .symU 21 0], [.symS 10 (.negSucc 3), .symU 21 1], [.symS 10 (.negSucc 3), .symU 21 2]]
theorem e26 : runs C0 3 (hs0 5 gl) c26 = True := by kernel_rfl
end Go.Proofs.YteeffmohilfafaaGreatDoor.KParseBrackets
