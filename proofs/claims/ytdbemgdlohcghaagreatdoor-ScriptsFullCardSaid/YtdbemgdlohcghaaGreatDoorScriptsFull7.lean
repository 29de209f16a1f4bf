/- Some of the runs of this claim. No condition. -/
import Derived.Test.YtdbemgdlohcghaaGreatDoorScriptsFullB
namespace Go.Proofs.YtdbemgdlohcghaaGreatDoor.KScriptsFull
open Go Go.X
set_option maxRecDepth 100000
set_option maxHeartbeats 0
set_option linter.unusedVariables false
theorem et14 : runsV C00 5 (hs0 5 gl) (cT 14) = True := by kernel_rfl
theorem er14 : runsV C00 6 (hs0 5 gl) (cS 14) = True := by kernel_rfl
theorem eq14 : runsQ C00 15 (hs0 5 gl) (cQ 14) = True := by kernel_rfl
theorem es14 : runsV C2 16 (hs0 5 gl) (cS 14) = True := by kernel_rfl
theorem et15 : runsV C00 5 (hs0 5 gl) (cT 15) = True := by kernel_rfl
theorem er15 : runsV C00 6 (hs0 5 gl) (cS 15) = True := by kernel_rfl
theorem eq15 : runsQ C00 15 (hs0 5 gl) (cQ 15) = True := by kernel_rfl
theorem es15 : runsV C2 16 (hs0 5 gl) (cS 15) = True := by kernel_rfl
end Go.Proofs.YtdbemgdlohcghaaGreatDoor.KScriptsFull
