/- Some of the runs of this claim. No condition. -/
import Derived.Test.YtcdiojlpmgfmeaaGreatDoorServerPipesB
namespace Go.Proofs.YtcdiojlpmgfmeaaGreatDoor.KServerPipes
open Go Go.X
set_option maxRecDepth 100000
set_option maxHeartbeats 0
set_option linter.unusedVariables false
noncomputable def c9 : List (List AV) := [[.symU 20 3, .symU 3 0]]
theorem e9 : runs C0 3 (hs0 5 gl) c9 = True := by kernel_rfl
noncomputable def c10 : List (List AV) := [[.symU 20 3, .symU 3 1]]
theorem e10 : runs C0 3 (hs0 5 gl) c10 = True := by kernel_rfl
noncomputable def c11 : List (List AV) := [[.symU 20 3, .symU 3 2]]
theorem e11 : runs C0 3 (hs0 5 gl) c11 = True := by kernel_rfl
end Go.Proofs.YtcdiojlpmgfmeaaGreatDoor.KServerPipes
