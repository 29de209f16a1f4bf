/- Some of the runs of this claim. No condition. -/
import Derived.Test.YtdbemgdlohcghaaGreatDoorScriptsFullB
namespace Go.Proofs.YtdbemgdlohcghaaGreatDoor.KScriptsFull
open Go Go.X
set_option maxRecDepth 100000
set_option maxHeartbeats 0
set_option linter.unusedVariables false
theorem et8 : runsV C00 5 (hs0 5 gl) (cT 8) = True := by kernel_rfl
theorem er8 : runsV C00 6 (hs0 5 gl) (cS 8) = True := by kernel_rfl
theorem eq8 : runsQ C00 15 (hs0 5 gl) (cQ 8) = True := by kernel_rfl
theorem es8 : runsV C2 16 (hs0 5 gl) (cS 8) = True := by kernel_rfl
theorem et9 : runsV C00 5 (hs0 5 gl) (cT 9) = True := by kernel_rfl
theorem er9 : runsV C00 6 (hs0 5 gl) (cS 9) = True := by kernel_rfl
theorem eq9 : runsQ C00 15 (hs0 5 gl) (cQ 9) = True := by kernel_rfl
theorem es9 : runsV C2 16 (hs0 5 gl) (cS 9) = True := by kernel_rfl
end Go.Proofs.YtdbemgdlohcghaaGreatDoor.KScriptsFull
