/- Some of the runs of this claim. No condition. -/
import Derived.Test.YtcdiojlpmgfmeaaGreatDoorServerPipesB
namespace Go.Proofs.YtcdiojlpmgfmeaaGreatDoor.KServerPipes
open Go Go.X
set_option maxRecDepth 100000
set_option maxHeartbeats 0
set_option linter.unusedVariables false
noncomputable def c6 : List (List AV) := [[.symU 20 2, .symU 3 0]]
theorem e6 : runs C0 3 (hs0 5 gl) c6 = True := by kernel_rfl
noncomputable def c7 : List (List AV) := [[.symU 20 2, .symU 3 1]]
theorem e7 : runs C0 3 (hs0 5 gl) c7 = True := by kernel_rfl
noncomputable def c8 : List (List AV) := [[.symU 20 2, .symU 3 2]]
theorem e8 : runs C0 3 (hs0 5 gl) c8 = True := by kernel_rfl
end Go.Proofs.YtcdiojlpmgfmeaaGreatDoor.KServerPipes
