/- Some of the runs of this claim. No condition. -/
import Derived.Test.YteeffmohilfafaaGreatDoorParseBracketsB
namespace Go.Proofs.YteeffmohilfafaaGreatDoor.KParseBrackets
open Go Go.X
set_option maxRecDepth 100000
set_option maxHeartbeats 0
set_option linter.unusedVariables false
noncomputable def c75 : List (List AV) := [[.symS 10 (.ofNat 5), .symU 21 6], [.symS 10 (.ofNat 5), .symU 21 7], [.symS 10 (.ofNat 5), .symU 21 8], [.symS 10 (.ofNat 5), .symU 21 9]]
theorem e75 : runs C0 3 (hs0 5 gl) c75 = True := by kernel_rfl
noncomputable def c76 : List (List AV) := [[.symS 10 (.ofNat 5), .symU 21 10], [.symS 10 (.ofNat 5), .symU 21 11], [.symS 10 (.ofNat 5), .symU 21 12], [.symS 10 (.ofNat 5), .symU 21 13]]
theorem e76 : runs C0 3 (hs0 5 gl) c76 = True := by kernel_rfl
noncomputable def c77 : List (List AV) := [[.symS 10 (.ofNat 5), .symU 21 14], [.symS 10 (.ofNat 5), .symU 21 15], [.symS 10 (.ofNat 5), .symU 21 16], [.symS 10 (.ofNat 5), .symU 21 17]]
theorem e77 : runs C0 3 (hs0 5 gl) c77 = True := by kernel_rfl
end Go.Proofs.YteeffmohilfafaaGreatDoor.KParseBrackets
