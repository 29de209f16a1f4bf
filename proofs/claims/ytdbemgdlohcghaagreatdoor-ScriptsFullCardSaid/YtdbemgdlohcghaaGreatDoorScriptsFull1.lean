/- Some of the runs of this claim. No condition. -/
import Derived.Test.YtdbemgdlohcghaaGreatDoorScriptsFullB
namespace Go.Proofs.YtdbemgdlohcghaaGreatDoor.KScriptsFull
open Go Go.X
set_option maxRecDepth 100000
set_option maxHeartbeats 0
set_option linter.unusedVariables false
theorem et2 : runsV C00 5 (hs0 5 gl) (cT 2) = True := by kernel_rfl
theorem er2 : runsV C00 6 (hs0 5 gl) (cS 2) = True := by kernel_rfl
theorem eq2 : runsQ C00 15 (hs0 5 gl) (cQ 2) = True := by kernel_rfl
theorem es2 : runsV C2 16 (hs0 5 gl) (cS 2) = True := by kernel_rfl
theorem et3 : runsV C00 5 (hs0 5 gl) (cT 3) = True := by kernel_rfl
theorem er3 : runsV C00 6 (hs0 5 gl) (cS 3) = True := by kernel_rfl
theorem eq3 : runsQ C00 15 (hs0 5 gl) (cQ 3) = True := by kernel_rfl
theorem es3 : runsV C2 16 (hs0 5 gl) (cS 3) = True := by kernel_rfl
end Go.Proofs.YtdbemgdlohcghaaGreatDoor.KScriptsFull
