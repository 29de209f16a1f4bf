/- Some of the runs of this claim. No condition. -/
import Derived.Test.YteeffmohilfafaaGreatDoorParseBracketsB
namespace Go.Proofs.YteeffmohilfafaaGreatDoor.KParseBrackets
open Go Go.X
set_option maxRecDepth 100000
set_option maxHeartbeats 0
set_option linter.unusedVariables false
noncomputable def c78 : List (List AV) := [[.symS 10 (.ofNat 5), .symU 21 18], [.symS 10 (.ofNat 5), .symU 21 19], [.symS 10 (.ofNat 5), .symU 21 20], [.symS 10 (.ofNat 6), .symU 21 0]]
theorem e78 : runs C0 3 (hs0 5 gl) c78 = True := by kernel_rfl
noncomputable def c79 : List (List AV) := [[.symS 10 (.ofNat 6), .symU 21 1], [.symS 10 (.ofNat 6), .symU 21 2], [.symS 10 (.ofNat 6), .symU 21 3], [.symS 10 (.ofNat 6), .symU 21 4]]
theorem e79 : runs C0 3 (hs0 5 gl) c79 = True := by kernel_rfl
noncomputable def c80 : List (List AV) := [[.symS 10 (.ofNat 6), .symU 21 5], [.symS 10 (.ofNat 6), .symU 21 6], [.symS 10 (.ofNat 6), .symU 21 7], [.symS 10 (.ofNat 6), .symU 21 8]]
theorem e80 : runs C0 3 (hs0 5 gl) c80 = True := by kernel_rfl
end Go.Proofs.YteeffmohilfafaaGreatDoor.KParseBrackets
