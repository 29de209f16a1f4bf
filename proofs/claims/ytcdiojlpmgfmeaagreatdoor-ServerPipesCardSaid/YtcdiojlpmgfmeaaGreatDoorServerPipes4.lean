/- Some of the runs of this claim. No condition. -/
import Derived.Test.YtcdiojlpmgfmeaaGreatDoorServerPipesB
namespace Go.Proofs.YtcdiojlpmgfmeaaGreatDoor.KServerPipes
open Go Go.X
set_option maxRecDepth 100000
set_option maxHeartbeats 0
set_option linter.unusedVariables false
noncomputable def c12 : List (List AV) := [[.symU 20 4, .symU 3 0]]
theorem e12 : runs C0 3 (hs0 5 gl) c12 = True := by kernel_rfl
noncomputable def c13 : List (List AV) := [[.symU 20 4, .symU 3 1]]
theorem e13 : runs C0 3 (hs0 5 gl) c13 = True := by kernel_rfl
noncomputable def c14 : List (List AV) := [[.symU 20 4, .symU 3 2]]
theorem e14 : runs C0 3 (hs0 5 gl) c14 = True := by kernel_rfl
end Go.Proofs.YtcdiojlpmgfmeaaGreatDoor.KServerPipes
