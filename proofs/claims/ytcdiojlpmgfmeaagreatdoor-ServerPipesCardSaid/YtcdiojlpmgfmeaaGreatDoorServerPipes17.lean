/- Some of the runs of this claim. No condition. -/
import Derived.Test.YtcdiojlpmgfmeaaGreatDoorServerPipesB
namespace Go.Proofs.YtcdiojlpmgfmeaaGreatDoor.KServerPipes
open Go Go.X
set_option maxRecDepth 100000
set_option maxHeartbeats 0
set_option linter.unusedVariables false
noncomputable def c51 : List (List AV) := [[.symU 20 17, .symU 3 0]]
theorem e51 : runs C0 3 (hs0 5 gl) c51 = True := by kernel_rfl
noncomputable def c52 : List (List AV) := [[.symU 20 17, .symU 3 1]]
theorem e52 : runs C0 3 (hs0 5 gl) c52 = True := by kernel_rfl
noncomputable def c53 : List (List AV) := [[.symU 20 17, .symU 3 2]]
theorem e53 : runs C0 3 (hs0 5 gl) c53 = True := by kernel_rfl
end Go.Proofs.YtcdiojlpmgfmeaaGreatDoor.KServerPipes
