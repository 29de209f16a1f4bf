/- Some of the runs of this claim. No condition. -/
import Derived.Test.YteeffmohilfafaaGreatDoorParseBracketsB
namespace Go.Proofs.YteeffmohilfafaaGreatDoor.KParseBrackets
open Go Go.X
set_option maxRecDepth 100000
set_option maxHeartbeats 0
set_option linter.unusedVariables false
noncomputable def c69 : List (List AV) := [[.symS 10 (.ofNat 4), .symU 21 3], [.symS 10 (.ofNat 4), .symU 21 4], [.symS 10 (.ofNat 4), .symU 21 5], [.symS 10 (.ofNat 4), .symU 21 6]]
theorem e69 : runs C0 3 (hs0 5 gl) c69 = True := by kernel_rfl
noncomputable def c70 : List (List AV) := [[.symS 10 (.ofNat 4), .symU 21 7], [.symS 10 (.ofNat 4), .symU 21 8], [.symS 10 (.ofNat 4), .symU 21 9], [.symS 10 (.ofNat 4), .symU 21 10]]
theorem e70 : runs C0 3 (hs0 5 gl) c70 = True := by kernel_rfl
noncomputable def c71 : List (List AV) := [[.symS 10 (.ofNat 4), .symU 21 11], [.symS 10 (.ofNat 4), .symU 21 12], [.symS 10 (.ofNat 4), .symU 21 13], [.symS 10 (.ofNat 4), .symU 21 14]]
theorem e71 : runs C0 3 (hs0 5 gl) c71 = True := by kernel_rfl
end Go.Proofs.YteeffmohilfafaaGreatDoor.KParseBrackets
