/- Some of the runs of this claim. No condition. -/
import Derived.Test.YtcdiojlpmgfmeaaGreatDoorServerPipesB
namespace Go.Proofs.YtcdiojlpmgfmeaaGreatDoor.KServerPipes
open Go Go.X
set_option maxRecDepth 100000
set_option maxHeartbeats 0
set_option linter.unusedVariables false
noncomputable def c45 : List (List AV) := [[.symU 20 15, .symU 3 0]]
theorem e45 : runs C0 3 (hs0 5 gl) c45 = True := by kernel_rfl
noncomputable def c46 : List (List AV) := [[.symU 20 15, .symU 3 1]]
theorem e46 : runs C0 3 (hs0 5 gl) c46 = True := by kernel_rfl
noncomputable def c47 : List (List AV) := [[.symU 20 15, .symU 3 2]]
theorem e47 : runs C0 3 (hs0 5 gl) c47 = True := by kernel_rfl
end Go.Proofs.YtcdiojlpmgfmeaaGreatDoor.KServerPipes
