/- Some of the runs of this claim. No condition. -/
import Derived.Test.YteeffmohilfafaaGreatDoorParseBracketsB
namespace Go.Proofs.YteeffmohilfafaaGreatDoor.KParseBrackets
open Go Go.X
set_option maxRecDepth 100000
set_option maxHeartbeats 0
set_option linter.unusedVariables false
noncomputable def c87 : List (List AV) := [[.symS 10 (.ofNat 7), .symU 21 12], [.symS 10 (.ofNat 7), .symU 21 13], [.symS 10 (.ofNat 7), .symU 21 14], [.symS 10 (.ofNat 7), .symU 21 15]]
theorem e87 : runs C0 3 (hs0 5 gl) c87 = True := by kernel_rfl
noncomputable def c88 : List (List AV) := [[.symS 10 (.ofNat 7), .symU 21 16], [.symS 10 (.ofNat 7), .symU 21 17], [.symS 10 (.ofNat 7), .symU 21 18], [.symS 10 (.ofNat 7), .symU 21 19]]
theorem e88 : runs C0 3 (hs0 5 gl) c88 = True := by kernel_rfl
noncomputable def c89 : List (List AV) := [[.symS 10 (.ofNat 7), .symU 21 20], [.symS 10 (.ofNat 8), .symU 21 0], [.symS 10 (.ofNat 8), .symU 21 1], [.symS 10 (.ofNat 8), .symU 21 2]]
theorem e89 : runs C0 3 (hs0 5 gl) c89 = True := by kernel_rfl
end Go.Proofs.YteeffmohilfafaaGreatDoor.KParseBrackets
