/- Some of the runs of this claim. No condition. -/
import Derived.Test.YtbcmnefofcnimaaGreatDoorServerRoomsB
namespace Go.Proofs.YtbcmnefofcnimaaGreatDoor.KServerRooms
open Go Go.X
set_option maxRecDepth 100000
set_option maxHeartbeats 0
set_option linter.unusedVariables false
noncomputable def c0 : List (List AV) := [[.symU 5 0, .symU 5 0], [.symU 5 0, .symU 5 1], [.symU 5 0, .symU 5 2], [.symU 5 0, .symU 5 3], [.symU 5 0, .symU 5 4]]
theorem e0 : runs C0 5 (hs0 5 gl) c0 = True := by kernel_rfl
noncomputable def c1 : List (List AV) := [[.symU 5 1, .symU 5 0], [.symU 5 1, .symU 5 1], [.symU 5 1, .symU 5 2], [.symU 5 1, .symU 5 3], [.symU 5 1, .symU 5 4]]
theorem e1 : runs C0 5 (hs0 5 gl) c1 = True := by kernel_rfl
noncomputable def c2 : List (List AV) := [[.symU 5 2, .symU 5 0], [.symU 5 2, .symU 5 1], [.symU 5 2, .symU 5 2], [.symU 5 2, .symU 5 3], [.symU 5 2, .symU 5 4]]
theorem e2 : runs C0 5 (hs0 5 gl) c2 = True := by kernel_rfl
noncomputable def c3 : List (List AV) := [[.symU 5 3, .symU 5 0], [.symU 5 3, .symU 5 1], [.symU 5 3, .symU 5 2], [.symU 5 3, .symU 5 3], [.symU 5 3, .symU 5 4]]
theorem e3 : runs C0 5 (hs0 5 gl) c3 = True := by kernel_rfl
noncomputable def c4 : List (List AV) := [[.symU 5 4, .symU 5 0], [.symU 5 4, .symU 5 1], [.symU 5 4, .symU 5 2], [.symU 5 4, .symU 5 3], [.symU 5 4, .symU 5 4]]
theorem e4 : runs C0 5 (hs0 5 gl) c4 = True := by kernel_rfl
end Go.Proofs.YtbcmnefofcnimaaGreatDoor.KServerRooms
