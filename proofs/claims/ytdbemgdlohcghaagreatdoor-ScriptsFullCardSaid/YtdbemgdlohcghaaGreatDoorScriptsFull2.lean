/- Some of the runs of this claim. No condition. -/
import Derived.Test.YtdbemgdlohcghaaGreatDoorScriptsFullB
namespace Go.Proofs.YtdbemgdlohcghaaGreatDoor.KScriptsFull
open Go Go.X
set_option maxRecDepth 100000
set_option maxHeartbeats 0
set_option linter.unusedVariables false
theorem et4 : runsV C00 5 (hs0 5 gl) (cT 4) = True := by kernel_rfl
theorem er4 : runsV C00 6 (hs0 5 gl) (cS 4) = True := by kernel_rfl
theorem eq4 : runsQ C00 15 (hs0 5 gl) (cQ 4) = True := by kernel_rfl
theorem es4 : runsV C2 16 (hs0 5 gl) (cS 4) = True := by kernel_rfl
theorem et5 : runsV C00 5 (hs0 5 gl) (cT 5) = True := by kernel_rfl
theorem er5 : runsV C00 6 (hs0 5 gl) (cS 5) = True := by kernel_rfl
theorem eq5 : runsQ C00 15 (hs0 5 gl) (cQ 5) = True := by kernel_rfl
theorem es5 : runsV C2 16 (hs0 5 gl) (cS 5) = True := by kernel_rfl
end Go.Proofs.YtdbemgdlohcghaaGreatDoor.KScriptsFull
