/- Some of the runs of this claim. No condition. -/
import Derived.Test.YteeffmohilfafaaGreatDoorParseBracketsB
namespace Go.Proofs.YteeffmohilfafaaGreatDoor.KParseBrackets
open Go Go.X
set_option maxRecDepth 100000
set_option maxHeartbeats 0
set_option linter.unusedVariables false
noncomputable def c90 : List (List AV) := [[.symS 10 (.ofNat 8), .symU 21 3], [.symS 10 (.ofNat 8), .symU 21 4], [.symS 10 (.ofNat 8), .symU 21 5], [.symS 10 (.ofNat 8), .symU 21 6]]
theorem e90 : runs C0 3 (hs0 5 gl) c90 = True := by kernel_rfl
noncomputable def c91 : List (List AV) := [[.symS 10 (.ofNat 8), .symU 21 7], [.symS 10 (.ofNat 8), .symU 21 8], [.symS 10 (.ofNat 8), .symU 21 9], [.symS 10 (.ofNat 8), .symU 21 10]]
theorem e91 : runs C0 3 (hs0 5 gl) c91 = True := by kernel_rfl
noncomputable def c92 : List (List AV) := [[.symS 10 (.ofNat 8), .symU 21 11], [.symS 10 (.ofNat 8), .symU 21 12], [.symS 10 (.ofNat 8), .symU 21 13], [.symS 10 (.ofNat 8), .symU 21 14]]
theorem e92 : runs C0 3 (hs0 5 gl) c92 = True := by kernel_rfl
end Go.Proofs.YteeffmohilfafaaGreatDoor.KParseBrackets
