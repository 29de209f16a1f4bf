/- Some of the runs of this claim. No condition. -/
import Derived.Test.YteeffmohilfafaaGreatDoorParseBracketsB
namespace Go.Proofs.YteeffmohilfafaaGreatDoor.KParseBrackets
open Go Go.X
set_option maxRecDepth 100000
set_option maxHeartbeats 0
set_option linter.unusedVariables false
noncomputable def c81 : List (List AV) := [[.symS 10 (.ofNat 6), .symU 21 9], [.symS 10 (.ofNat 6), .symU 21 10], [.symS 10 (.ofNat 6), .symU 21 11], [.symS 10 (.ofNat 6), .symU 21 12]]
theorem e81 : runs C0 3 (hs0 5 gl) c81 = True := by kernel_rfl
noncomputable def c82 : List (List AV) := [[.symS 10 (.ofNat 6), .symU 21 13], [.symS 10 (.ofNat 6), .symU 21 14], [.symS 10 (.ofNat 6), .symU 21 15], [.symS 10 (.ofNat 6), .symU 21 16]]
theorem e82 : runs C0 3 (hs0 5 gl) c82 = True := by kernel_rfl
noncomputable def c83 : List (List AV) := [[.symS 10 (.ofNat 6), .symU 21 17], [.symS 10 (.ofNat 6), .symU 21 18], [.symS 10 (.ofNat 6), .symU 21 19], [.symS 10 (.ofNat 6), .symU 21 20]]
theorem e83 : runs C0 3 (hs0 5 gl) c83 = True := by kernel_rfl
end Go.Proofs.YteeffmohilfafaaGreatDoor.KParseBrackets
