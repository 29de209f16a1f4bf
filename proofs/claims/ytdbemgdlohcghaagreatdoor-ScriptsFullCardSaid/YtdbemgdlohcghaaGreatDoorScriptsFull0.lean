/- Some of the runs of this claim. No condition. -/
import Derived.Test.YtdbemgdlohcghaaGreatDoorScriptsFullB
namespace Go.Proofs.YtdbemgdlohcghaaGreatDoor.KScriptsFull
open Go Go.X
set_option maxRecDepth 100000
set_option maxHeartbeats 0
set_option linter.unusedVariables false
theorem et0 : runsV C00 5 (hs0 5 gl) (cT 0) = True := by kernel_rfl
theorem er0 : runsV C00 6 (hs0 5 gl) (cS 0) = True := by kernel_rfl
theorem eq0 : runsQ C00 15 (hs0 5 gl) (cQ 0) = True := by kernel_rfl
theorem es0 : runsV C2 16 (hs0 5 gl) (cS 0) = True := by kernel_rfl
theorem et1 : runsV C00 5 (hs0 5 gl) (cT 1) = True := by kernel_rfl
theorem er1 : runsV C00 6 (hs0 5 gl) (cS 1) = True := by kernel_rfl
theorem eq1 : runsQ C00 15 (hs0 5 gl) (cQ 1) = True := by kernel_rfl
theorem es1 : runsV C2 16 (hs0 5 gl) (cS 1) = True := by kernel_rfl
end Go.Proofs.YtdbemgdlohcghaaGreatDoor.KScriptsFull
