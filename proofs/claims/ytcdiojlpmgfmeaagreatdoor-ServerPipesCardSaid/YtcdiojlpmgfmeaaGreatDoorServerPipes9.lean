/- Some of the runs of this claim. No condition. -/
import Derived.Test.YtcdiojlpmgfmeaaGreatDoorServerPipesB
namespace Go.Proofs.YtcdiojlpmgfmeaaGreatDoor.KServerPipes
open Go Go.X
set_option maxRecDepth 100000
set_option maxHeartbeats 0
set_option linter.unusedVariables false
noncomputable def c27 : List (List AV) := [[.symU 20 9, .symU 3 0]]
theorem e27 : runs C0 3 (hs0 5 gl) c27 = True := by kernel_rfl
noncomputable def c28 : List (List AV) := [[.symU 20 9, .symU 3 1]]
theorem e28 : runs C0 3 (hs0 5 gl) c28 = True := by kernel_rfl
noncomputable def c29 : List (List AV) := [[.symU 20 9, .symU 3 2]]
theorem e29 : runs C0 3 (hs0 5 gl) c29 = True := by kernel_rfl
end Go.Proofs.YtcdiojlpmgfmeaaGreatDoor.KServerPipes
