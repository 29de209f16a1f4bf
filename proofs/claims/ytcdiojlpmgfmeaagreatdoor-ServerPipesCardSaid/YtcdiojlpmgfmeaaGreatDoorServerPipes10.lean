/- Some of the runs of this claim. No condition. -/
import Derived.Test.YtcdiojlpmgfmeaaGreatDoorServerPipesB
namespace Go.Proofs.YtcdiojlpmgfmeaaGreatDoor.KServerPipes
open Go Go.X
set_option maxRecDepth 100000
set_option maxHeartbeats 0
set_option linter.unusedVariables false
noncomputable def c30 : List (List AV) := [[.symU 20 10, .symU 3 0]]
theorem e30 : runs C0 3 (hs0 5 gl) c30 = True := by kernel_rfl
noncomputable def c31 : List (List AV) := [[.symU 20 10, .symU 3 1]]
theorem e31 : runs C0 3 (hs0 5 gl) c31 = True := by kernel_rfl
noncomputable def c32 : List (List AV) := [[.symU 20 10, .symU 3 2]]
theorem e32 : runs C0 3 (hs0 5 gl) c32 = True := by kernel_rfl
end Go.Proofs.YtcdiojlpmgfmeaaGreatDoor.KServerPipes
