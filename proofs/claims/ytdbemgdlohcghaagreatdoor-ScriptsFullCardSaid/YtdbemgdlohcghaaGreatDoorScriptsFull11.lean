/- Some of the runs of this claim. No condition. -/
import Derived.Test.YtdbemgdlohcghaaGreatDoorScriptsFullB
namespace Go.Proofs.YtdbemgdlohcghaaGreatDoor.KScriptsFull
open Go Go.X
set_option maxRecDepth 100000
set_option maxHeartbeats 0
set_option linter.unusedVariables false
theorem et22 : runsV C00 5 (hs0 5 gl) (cT 22) = True := by kernel_rfl
theorem er22 : runsV C00 6 (hs0 5 gl) (cS 22) = True := by kernel_rfl
theorem eq22 : runsQ C00 15 (hs0 5 gl) (cQ 22) = True := by kernel_rfl
theorem es22 : runsV C2 16 (hs0 5 gl) (cS 22) = True := by kernel_rfl
theorem et23 : runsV C00 5 (hs0 5 gl) (cT 23) = True := by kernel_rfl
theorem er23 : runsV C00 6 (hs0 5 gl) (cS 23) = True := by kernel_rfl
theorem eq23 : runsQ C00 15 (hs0 5 gl) (cQ 23) = True := by kernel_rfl
theorem es23 : runsV C2 16 (hs0 5 gl) (cS 23) = True := by kernel_rfl
end Go.Proofs.YtdbemgdlohcghaaGreatDoor.KScriptsFull
