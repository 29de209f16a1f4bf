/- Some of the runs of this claim. No condition. -/
import Derived.Test.YtcdiojlpmgfmeaaGreatDoorServerPipesB
namespace Go.Proofs.YtcdiojlpmgfmeaaGreatDoor.KServerPipes
open Go Go.X
set_option maxRecDepth 100000
set_option maxHeartbeats 0
set_option linter.unusedVariables false
noncomputable def c0 : List (List AV) := [[.symU 20 0, .symU 3 0]]
theorem e0 : runs C0 3 (hs0 5 gl) c0 = True := by kernel_rfl
noncomputable def c1 : List (List AV) := [[.symU 20 0, .symU 3 1]]
theorem e1 : runs C0 3 (hs0 5 gl) c1 = True := by kernel_rfl
noncomputable def c2 : List (List AV) := [[.symU 20 0, .symU 3 2]]
theorem e2 : runs C0 3 (hs0 5 gl) c2 = True := by kernel_rfl
end Go.Proofs.YtcdiojlpmgfmeaaGreatDoor.KServerPipes
