/- Some of the runs of this claim. No condition. -/
import Derived.Test.YteeffmohilfafaaGreatDoorParseBracketsB
namespace Go.Proofs.YteeffmohilfafaaGreatDoor.KParseBrackets
open Go Go.X
set_option maxRecDepth 100000
set_option maxHeartbeats 0
set_option linter.unusedVariables false
noncomputable def c99 : List (List AV) := [[.symS 10 (.ofNat 9), .symU 21 18], [.symS 10 (.ofNat 9), .symU 21 19], [.symS 10 (.ofNat 9), .symU 21 20]]
theorem e99 : runs C0 3 (hs0 5 gl) c99 = True := by kernel_rfl
end Go.Proofs.YteeffmohilfafaaGreatDoor.KParseBrackets
