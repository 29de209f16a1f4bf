/- Some of the runs of this claim. No condition. -/
import Derived.Test.YtcdiojlpmgfmeaaGreatDoorServerPipesB
namespace Go.Proofs.YtcdiojlpmgfmeaaGreatDoor.KServerPipes
open Go Go.X
set_option maxRecDepth 100000
set_option maxHeartbeats 0
set_option linter.unusedVariables false
noncomputable def c48 : List (List AV) := [[.symU 20 16, .symU 3 0]]
theorem e48 : runs C0 3 (hs0 5 gl) c48 = True := by kernel_rfl
noncomputable def c49 : List (List AV) := [[.symU 20 16, .symU 3 1]]
theorem e49 : runs C0 3 (hs0 5 gl) c49 = True := by kernel_rfl
noncomputable def c50 : List (List AV) := [[.symU 20 16, .symU 3 2]]
theorem e50 : runs C0 3 (hs0 5 gl) c50 = True := by kernel_rfl
end Go.Proofs.YtcdiojlpmgfmeaaGreatDoor.KServerPipes
