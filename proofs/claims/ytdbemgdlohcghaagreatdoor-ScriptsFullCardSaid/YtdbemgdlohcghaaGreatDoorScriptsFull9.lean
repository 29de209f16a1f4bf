/- Some of the runs of this claim. No condition. -/
import Derived.Test.YtdbemgdlohcghaaGreatDoorScriptsFullB
namespace Go.Proofs.YtdbemgdlohcghaaGreatDoor.KScriptsFull
open Go Go.X
set_option maxRecDepth 100000
set_option maxHeartbeats 0
set_option linter.unusedVariables false
theorem et18 : runsV C00 5 (hs0 5 gl) (cT 18) = True := by kernel_rfl
theorem er18 : runsV C00 6 (hs0 5 gl) (cS 18) = True := by kernel_rfl
theorem eq18 : runsQ C00 15 (hs0 5 gl) (cQ 18) = True := by kernel_rfl
theorem es18 : runsV C2 16 (hs0 5 gl) (cS 18) = True := by kernel_rfl
theorem et19 : runsV C00 5 (hs0 5 gl) (cT 19) = True := by kernel_rfl
theorem er19 : runsV C00 6 (hs0 5 gl) (cS 19) = True := by kernel_rfl
theorem eq19 : runsQ C00 15 (hs0 5 gl) (cQ 19) = True := by kernel_rfl
theorem es19 : runsV C2 16 (hs0 5 gl) (cS 19) = True := by kernel_rfl
end Go.Proofs.YtdbemgdlohcghaaGreatDoor.KScriptsFull
