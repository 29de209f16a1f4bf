/- Some of the runs of this claim. No condition. -/
import Derived.Test.YteeffmohilfafaaGreatDoorParseBracketsB
namespace Go.Proofs.YteeffmohilfafaaGreatDoor.KParseBrackets
open Go Go.X
set_option maxRecDepth 100000
set_option maxHeartbeats 0
set_option linter.unusedVariables false
noncomputable def c6 : List (List AV) := [[.symS 10 (.negSucc 7), .symU 21 3], [.symS 10 (.negSucc 7), .symU 21 4], [.symS 10 (.negSucc 7), .symU 21 5], [.symS 10 (.negSucc 7), .symU 21 6]]
theorem e6 : runs C0 3 (hs0 5 gl) c6 = True := by kernel_rfl
noncomputable def c7 : List (List AV) := [[.symS 10 (.negSucc 7), .symU 21 7], [.symS 10 (.negSucc 7), .symU 21 8], [.symS 10 (.negSucc 7), .symU 21 9], [.symS 10 (.negSucc 7), .symU 21 10]]
theorem e7 : runs C0 3 (hs0 5 gl) c7 = True := by kernel_rfl
noncomputable def c8 : List (List AV) := [[.symS 10 (.negSucc 7), .symU 21 11], [.symS 10 (.negSucc 7), .symU 21 12], [.symS 10 (.negSucc 7), .symU 21 13], [.symS 10 (.negSucc 7), .symU 21 14]]
theorem e8 : runs C0 3 (hs0 5 gl) c8 = True := by kernel_rfl
end Go.Proofs.YteeffmohilfafaaGreatDoor.KParseBrackets
