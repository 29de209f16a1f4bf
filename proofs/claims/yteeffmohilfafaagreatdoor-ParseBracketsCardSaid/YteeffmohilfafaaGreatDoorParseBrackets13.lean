/- Some of the runs of this claim. No condition. -/
import Derived.Test.YteeffmohilfafaaGreatDoorParseBracketsB
namespace Go.Proofs.YteeffmohilfafaaGreatDoor.KParseBrackets
open Go Go.X
set_option maxRecDepth 100000
set_option maxHeartbeats 0
set_option linter.unusedVariables false
noncomputable def c39 : List (List AV) := [[.symS 10 (.negSucc 1), .symU 21 9], [.symS 10 (.negSucc 1), .symU 21 10], [.symS 10 (.negSucc 1), .symU 21 11], [.symS 10 (.negSucc 1), .symU 21 12]]
theorem e39 : runs C0 3 (hs0 5 gl) c39 = True := by kernel_rfl
noncomputable def c40 : List (List AV) := [[.symS 10 (.negSucc 1), .symU 21 13], [.symS 10 (.negSucc 1), .symU 21 14], [.symS 10 (.negSucc 1), .symU 21 15], [.symS 10 (.negSucc 1), .symU 21 16]]
theorem e40 : runs C0 3 (hs0 5 gl) c40 = True := by kernel_rfl
noncomputable def c41 : List (List AV) := [[.symS 10 (.negSucc 1), .symU 21 17], [.symS 10 (.negSucc 1), .symU 21 18], [.symS 10 (.negSucc 1), .symU 21 19], [.symS 10 (.negSucc 1), .symU 21 20]]
theorem e41 : runs C0 3 (hs0 5 gl) c41 = True := by kernel_rfl
end Go.Proofs.YteeffmohilfafaaGreatDoor.KParseBrackets
