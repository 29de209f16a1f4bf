/- Some of the runs of this claim. No condition. -/
import Derived.Test.YtcdiojlpmgfmeaaGreatDoorServerPipesB
namespace Go.Proofs.YtcdiojlpmgfmeaaGreatDoor.KServerPipes
open Go Go.X
set_option maxRecDepth 100000
set_option maxHeartbeats 0
set_option linter.unusedVariables false
noncomputable def c33 : List (List AV) := [[.symU 20 11, .symU 3 0]]
theorem e33 : runs C0 3 (hs0 5 gl) c33 = True := by kernel_rfl
noncomputable def c34 : List (List AV) := [[.symU 20 11, .symU 3 1]]
theorem e34 : runs C0 3 (hs0 5 gl) c34 = True := by kernel_rfl
noncomputable def c35 : List (List AV) := [[.symU 20 11, .symU 3 2]]
theorem e35 : runs C0 3 (hs0 5 gl) c35 = True := by kernel_rfl
end Go.Proofs.YtcdiojlpmgfmeaaGreatDoor.KServerPipes
