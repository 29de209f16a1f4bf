/- Some of the runs of this claim. No condition. -/
import Derived.Test.YtcdiojlpmgfmeaaGreatDoorServerPipesB
namespace Go.Proofs.YtcdiojlpmgfmeaaGreatDoor.KServerPipes
open Go Go.X
set_option maxRecDepth 100000
set_option maxHeartbeats 0
set_option linter.unusedVariables false
noncomputable def c39 : List (List AV) := [[.symU 20 13, .symU 3 0]]
theorem e39 : runs C0 3 (hs0 5 gl) c39 = True := by kernel_rfl
noncomputable def c40 : List (List AV) := [[.symU 20 13, .symU 3 1]]
theorem e40 : runs C0 3 (hs0 5 gl) c40 = True := by kernel_rfl
noncomputable def c41 : List (List AV) := [[.symU 20 13, .symU 3 2]]
theorem e41 : runs C0 3 (hs0 5 gl) c41 = True := by kernel_rfl
end Go.Proofs.YtcdiojlpmgfmeaaGreatDoor.KServerPipes
