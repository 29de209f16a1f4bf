/- Some of the runs of this claim. No condition. -/
import Derived.Test.YteeffmohilfafaaGreatDoorParseBracketsB
namespace Go.Proofs.YteeffmohilfafaaGreatDoor.KParseBrackets
open Go Go.X
set_option maxRecDepth 100000
set_option maxHeartbeats 0
set_option linter.unusedVariables false
noncomputable def c66 : List (List AV) := [[.symS 10 (.ofNat 3), .symU 21 12], [.symS 10 (.ofNat 3), .symU 21 13], [.symS 10 (.ofNat 3), .symU 21 14], [.symS 10 (.ofNat 3), .symU 21 15]]
theorem e66 : runs C0 3 (hs0 5 gl) c66 = True := by kernel_rfl
noncomputable def c67 : List (List AV) := [[.symS 10 (.ofNat 3), .symU 21 16], [.symS 10 (.ofNat 3), .symU 21 17], [.symS 10 (.ofNat 3), .symU 21 18], [.symS 10 (.ofNat 3), .symU 21 19]]
theorem e67 : runs C0 3 (hs0 5 gl) c67 = True := by kernel_rfl
noncomputable def c68 : List (List AV) := [[.symS 10 (.ofNat 3), .symU 21 20], [.symS 10 (.ofNat 4), .symU 21 0], [.symS 10 (.ofNat 4), .symU 21 1], [.symS 10 (.ofNat 4), .symU 21 2]]
theorem e68 : runs C0 3 (hs0 5 gl) c68 = True := by kernel_rfl
end Go.Proofs.YteeffmohilfafaaGreatDoor.KParseBrackets
