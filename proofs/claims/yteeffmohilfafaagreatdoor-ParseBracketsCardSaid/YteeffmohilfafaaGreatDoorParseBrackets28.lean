/- Some of the runs of this claim. No condition. -/
import Derived.Test.YteeffmohilfafaaGreatDoorParseBracketsB
namespace Go.Proofs.YteeffmohilfafaaGreatDoor.KParseBrackets
open Go Go.X
set_option maxRecDepth 100000
set_option maxHeartbeats 0
set_option linter.unusedVariables false
noncomputable def c84 : List (List AV) := [[.symS 10 (.ofNat 7), .symU 21 0], [.symS 10 (.ofNat 7), .symU 21 1], [.symS 10 (.ofNat 7), .symU 21 2], [.symS 10 (.ofNat 7), .symU 21 3]]
theorem e84 : runs C0 3 (hs0 5 gl) c84 = True := by kernel_rfl
noncomputable def c85 : List (List AV) := [[.symS 10 (.ofNat 7), .symU 21 4], [.symS 10 (.ofNat 7), .symU 21 5], [.symS 10 (.ofNat 7), .symU 21 6], [.symS 10 (.ofNat 7), .symU 21 7]]
theorem e85 : runs C0 3 (hs0 5 gl) c85 = True := by kernel_rfl
noncomputable def c86 : List (List AV) := [[.symS 10 (.ofNat 7), .symU 21 8], [.symS 10 (.ofNat 7), .symU 21 9], [.symS 10 (.ofNat 7), .symU 21 10], [.symS 10 (.ofNat 7), .symU 21 11]]
theorem e86 : runs C0 3 (hs0 5 gl) c86 = True := by kernel_rfl
end Go.Proofs.YteeffmohilfafaaGreatDoor.KParseBrackets
