/- Some of the runs of this claim. No condition. -/
import Derived.Test.YtcdiojlpmgfmeaaGreatDoorServerPipesB
namespace Go.Proofs.YtcdiojlpmgfmeaaGreatDoor.KServerPipes
open Go Go.X
set_option maxRecDepth 100000
set_option maxHeartbeats 0
set_option linter.unusedVariables false
noncomputable def c21 : List (List AV) := [[.symU 20 7, .symU 3 0]]
theorem e21 : runs C0 3 (hs0 5 gl) c21 = True := by kernel_rfl
noncomputable def c22 : List (List AV) := [[.symU 20 7, .symU 3 1]]
theorem e22 : runs C0 3 (hs0 5 gl) c22 = True := by kernel_rfl
noncomputable def c23 : List (List AV) := [[.symU 20 7, .symU 3 2]]
theorem e23 : runs C0 3 (hs0 5 gl) c23 = True := by kernel_rfl
end Go.Proofs.YtcdiojlpmgfmeaaGreatDoor.KServerPipes
