/- Some of the runs of this claim. No condition. -/
import Derived.Test.YtcdiojlpmgfmeaaGreatDoorServerPipesB
namespace Go.Proofs.YtcdiojlpmgfmeaaGreatDoor.KServerPipes
open Go Go.X
set_option maxRecDepth 100000
set_option maxHeartbeats 0
set_option linter.unusedVariables false
noncomputable def c18 : List (List AV) := [[.symU 20 6, .symU 3 0]]
theorem e18 : runs C0 3 (hs0 5 gl) c18 = True := by kernel_rfl
noncomputable def c19 : List (List AV) := [[.symU 20 6, .symU 3 1]]
theorem e19 : runs C0 3 (hs0 5 gl) c19 = True := by kernel_rfl
noncomputable def c20 : List (List AV) := [[.symU 20 6, .symU 3 2]]
theorem e20 : runs C0 3 (hs0 5 gl) c20 = True := by kernel_rfl
end Go.Proofs.YtcdiojlpmgfmeaaGreatDoor.KServerPipes
