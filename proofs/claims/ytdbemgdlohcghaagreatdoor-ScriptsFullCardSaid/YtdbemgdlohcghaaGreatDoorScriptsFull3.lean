/- Some of the runs of this claim. No condition. -/
import Derived.Test.YtdbemgdlohcghaaGreatDoorScriptsFullB
namespace Go.Proofs.YtdbemgdlohcghaaGreatDoor.KScriptsFull
open Go Go.X
set_option maxRecDepth 100000
set_option maxHeartbeats 0
set_option linter.unusedVariables false
theorem et6 : runsV C00 5 (hs0 5 gl) (cT 6) = True := by kernel_rfl
theorem er6 : runsV C00 6 (hs0 5 gl) (cS 6) = True := by kernel_rfl
theorem eq6 : runsQ C00 15 (hs0 5 gl) (cQ 6) = True := by kernel_rfl
theorem es6 : runsV C2 16 (hs0 5 gl) (cS 6) = True := by kernel_rfl
theorem et7 : runsV C00 5 (hs0 5 gl) (cT 7) = True := by kernel_rfl
theorem er7 : runsV C00 6 (hs0 5 gl) (cS 7) = True := by kernel_rfl
theorem eq7 : runsQ C00 15 (hs0 5 gl) (cQ 7) = True := by kernel_rfl
theorem es7 : runsV C2 16 (hs0 5 gl) (cS 7) = True := by kernel_rfl
end Go.Proofs.YtdbemgdlohcghaaGreatDoor.KScriptsFull
