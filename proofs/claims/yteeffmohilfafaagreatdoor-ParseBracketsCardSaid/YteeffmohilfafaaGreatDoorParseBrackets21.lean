/- Some of the runs of this claim. No condition. -/
import Derived.Test.YteeffmohilfafaaGreatDoorParseBracketsB
namespace Go.Proofs.YteeffmohilfafaaGreatDoor.KParseBrackets
open Go Go.X
set_option maxRecDepth 100000
set_option maxHeartbeats 0
set_option linter.unusedVariables false
noncomputable def c63 : List (List AV) := [[.symS 10 (.ofNat 3), .symU 21 0], [.symS 10 (.ofNat 3), .symU 21 1], [.symS 10 (.ofNat 3), .symU 21 2], [.symS 10 (.ofNat 3), .symU 21 3]]
theorem e63 : runs C0 3 (hs0 5 gl) c63 = True := by kernel_rfl
noncomputable def c64 : List (List AV) := [[.symS 10 (.ofNat 3), .symU 21 4], [.symS 10 (.ofNat 3), .symU 21 5], [.symS 10 (.ofNat 3), .symU 21 6], [.symS 10 (.ofNat 3), .symU 21 7]]
theorem e64 : runs C0 3 (hs0 5 gl) c64 = True := by kernel_rfl
noncomputable def c65 : List (List AV) := [[.symS 10 (.ofNat 3), .symU 21 8], [.symS 10 (.ofNat 3), .symU 21 9], [.symS 10 (.ofNat 3), .symU 21 10], [.symS 10 (.ofNat 3), .symU 21 11]]
theorem e65 : runs C0 3 (hs0 5 gl) c65 = True := by kernel_rfl
end Go.Proofs.YteeffmohilfafaaGreatDoor.KParseBrackets
