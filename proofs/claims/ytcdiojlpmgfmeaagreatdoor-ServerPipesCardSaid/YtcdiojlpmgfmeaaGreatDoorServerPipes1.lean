/- Some of the runs of this claim. No condition. -/
import Derived.Test.YtcdiojlpmgfmeaaGreatDoorServerPipesB
namespace Go.Proofs.YtcdiojlpmgfmeaaGreatDoor.KServerPipes
open Go Go.X
set_option maxRecDepth 100000
set_option maxHeartbeats 0
set_option linter.unusedVariables false
noncomputable def c3 : List (List AV) := [[.symU 20 1, .symU 3 0]]
theorem e3 : runs C0 3 (hs0 5 gl) c3 = True := by kernel_rfl
noncomputable def c4 : List (List AV) := [[.symU 20 1, .symU 3 1]]
theorem e4 : runs C0 3 (hs0 5 gl) c4 = True := by kernel_rfl
noncomputable def c5 : List (List AV) := [[.symU 20 1, .symU 3 2]]
theorem e5 : runs C0 3 (hs0 5 gl) c5 = True := by kernel_rfl
end Go.Proofs.YtcdiojlpmgfmeaaGreatDoor.KServerPipes
