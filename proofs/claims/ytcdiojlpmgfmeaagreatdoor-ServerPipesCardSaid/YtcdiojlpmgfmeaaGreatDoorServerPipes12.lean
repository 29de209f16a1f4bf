/- Some of the runs of this claim. No condition. -/
import Derived.Test.YtcdiojlpmgfmeaaGreatDoorServerPipesB
namespace Go.Proofs.YtcdiojlpmgfmeaaGreatDoor.KServerPipes
open Go Go.X
set_option maxRecDepth 100000
set_option maxHeartbeats 0
set_option linter.unusedVariables false
noncomputable def c36 : List (List AV) := [[.symU 20 12, .symU 3 0]]
theorem e36 : runs C0 3 (hs0 5 gl) c36 = True := by kernel_rfl
noncomputable def c37 : List (List AV) := [[.symU 20 12, .symU 3 1]]
theorem e37 : runs C0 3 (hs0 5 gl) c37 = True := by kernel_rfl
noncomputable def c38 : List (List AV) := [[.symU 20 12, .symU 3 2]]
theorem e38 : runs C0 3 (hs0 5 gl) c38 = True := by kernel_rfl
end Go.Proofs.YtcdiojlpmgfmeaaGreatDoor.KServerPipes
