/- Some of the runs of this claim. No condition. -/
import Derived.Test.YtcdiojlpmgfmeaaGreatDoorServerPipesB
namespace Go.Proofs.YtcdiojlpmgfmeaaGreatDoor.KServerPipes
open Go Go.X
set_option maxRecDepth 100000
set_option maxHeartbeats 0
set_option linter.unusedVariables false
noncomputable def c54 : List (List AV) := [[.symU 20 18, .symU 3 0]]
theorem e54 : runs C0 3 (hs0 5 gl) c54 = True := by kernel_rfl
noncomputable def c55 : List (List AV) := [[.symU 20 18, .symU 3 1]]
theorem e55 : runs C0 3 (hs0 5 gl) c55 = True := by kernel_rfl
noncomputable def c56 : List (List AV) := [[.symU 20 18, .symU 3 2]]
theorem e56 : runs C0 3 (hs0 5 gl) c56 = True := by kernel_rfl
end Go.Proofs.YtcdiojlpmgfmeaaGreatDoor.KServerPipes
