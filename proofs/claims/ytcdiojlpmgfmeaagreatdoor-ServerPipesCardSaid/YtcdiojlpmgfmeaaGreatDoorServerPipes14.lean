/- Some of the runs of this claim. No condition. -/
import Derived.Test.YtcdiojlpmgfmeaaGreatDoorServerPipesB
namespace Go.Proofs.YtcdiojlpmgfmeaaGreatDoor.KServerPipes
open Go Go.X
set_option maxRecDepth 100000
set_option maxHeartbeats 0
set_option linter.unusedVariables false
noncomputable def c42 : List (List AV) := [[.symU 20 14, .symU 3 0]]
theorem e42 : runs C0 3 (hs0 5 gl) c42 = True := by kernel_rfl
noncomputable def c43 : List (List AV) := [[.symU 20 14, .symU 3 1]]
theorem e43 : runs C0 3 (hs0 5 gl) c43 = True := by kernel_rfl
noncomputable def c44 : List (List AV) := [[.symU 20 14, .symU 3 2]]
theorem e44 : runs C0 3 (hs0 5 gl) c44 = True := by kernel_rfl
end Go.Proofs.YtcdiojlpmgfmeaaGreatDoor.KServerPipes
