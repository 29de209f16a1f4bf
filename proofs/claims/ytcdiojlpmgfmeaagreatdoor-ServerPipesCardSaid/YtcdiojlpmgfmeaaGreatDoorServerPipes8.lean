/- Some of the runs of this claim. No condition. -/
import Derived.Test.YtcdiojlpmgfmeaaGreatDoorServerPipesB
namespace Go.Proofs.YtcdiojlpmgfmeaaGreatDoor.KServerPipes
open Go Go.X
set_option maxRecDepth 100000
set_option maxHeartbeats 0
set_option linter.unusedVariables false
noncomputable def c24 : List (List AV) := [[.symU 20 8, .symU 3 0]]
theorem e24 : runs C0 3 (hs0 5 gl) c24 = True := by kernel_rfl
noncomputable def c25 : List (List AV) := [[.symU 20 8, .symU 3 1]]
theorem e25 : runs C0 3 (hs0 5 gl) c25 = True := by kernel_rfl
noncomputable def c26 : List (List AV) := [[.symU 20 8, .symU 3 2]]
theorem e26 : runs C0 3 (hs0 5 gl) c26 = True := by kernel_rfl
end Go.Proofs.YtcdiojlpmgfmeaaGreatDoor.KServerPipes
