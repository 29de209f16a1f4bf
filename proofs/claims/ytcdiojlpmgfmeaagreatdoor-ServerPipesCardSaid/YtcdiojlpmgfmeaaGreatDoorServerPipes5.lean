/- Some of the runs of this claim. No condition. -/
import Derived.Test.YtcdiojlpmgfmeaaGreatDoorServerPipesB
namespace Go.Proofs.YtcdiojlpmgfmeaaGreatDoor.KServerPipes
open Go Go.X
set_option maxRecDepth 100000
set_option maxHeartbeats 0
set_option linter.unusedVariables false
noncomputable def c15 : List (List AV) := [[.symU 20 5, .symU 3 0]]
theorem e15 : runs C0 3 (hs0 5 gl) c15 = True := by kernel_rfl
noncomputable def c16 : List (List AV) := [[.symU 20 5, .symU 3 1]]
theorem e16 : runs C0 3 (hs0 5 gl) c16 = True := by kernel_rfl
noncomputable def c17 : List (List AV) := [[.symU 20 5, .symU 3 2]]
theorem e17 : runs C0 3 (hs0 5 gl) c17 = True := by kernel_rfl
end Go.Proofs.YtcdiojlpmgfmeaaGreatDoor.KServerPipes
