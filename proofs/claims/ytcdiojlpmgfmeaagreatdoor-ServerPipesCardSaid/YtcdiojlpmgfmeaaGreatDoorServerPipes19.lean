/- Some of the runs of this claim. No condition. -/
import Derived.Test.YtcdiojlpmgfmeaaGreatDoorServerPipesB
namespace Go.Proofs.YtcdiojlpmgfmeaaGreatDoor.KServerPipes
open Go Go.X
set_option maxRecDepth 100000
set_option maxHeartbeats 0
set_option linter.unusedVariables false
noncomputable def c57 : List (List AV) := [[.symU 20 19, .symU 3 0]]
theorem e57 : runs C0 3 (hs0 5 gl) c57 = True := by kernel_rfl
noncomputable def c58 : List (List AV) := [[.symU 20 19, .symU 3 1]]
theorem e58 : runs C0 3 (hs0 5 gl) c58 = True := by kernel_rfl
noncomputable def c59 : List (List AV) := [[.symU 20 19, .symU 3 2]]
theorem e59 : runs C0 3 (hs0 5 gl) c59 = True := by kernel_rfl
end Go.Proofs.YtcdiojlpmgfmeaaGreatDoor.KServerPipes
