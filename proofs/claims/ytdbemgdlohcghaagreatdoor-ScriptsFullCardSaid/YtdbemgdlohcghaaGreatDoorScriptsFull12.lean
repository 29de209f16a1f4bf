/- Some of the runs of this claim. No condition. -/
import Derived.Test.YtdbemgdlohcghaaGreatDoorScriptsFullB
namespace Go.Proofs.YtdbemgdlohcghaaGreatDoor.KScriptsFull
open Go Go.X
set_option maxRecDepth 100000
set_option maxHeartbeats 0
set_option linter.unusedVariables false
theorem et24 : runsV C00 5 (hs0 5 gl) (cT 24) = True := by kernel_rfl
theorem er24 : runsV C00 6 (hs0 5 gl) (cS 24) = True := by kernel_rfl
theorem eq24 : runsQ C00 15 (hs0 5 gl) (cQ 24) = True := by kernel_rfl
theorem es24 : runsV C2 16 (hs0 5 gl) (cS 24) = True := by kernel_rfl
theorem et25 : runsV C00 5 (hs0 5 gl) (cT 25) = True := by kernel_rfl
theorem er25 : runsV C00 6 (hs0 5 gl) (cS 25) = True := by kernel_rfl
theorem eq25 : runsQ C00 15 (hs0 5 gl) (cQ 25) = True := by kernel_rfl
theorem es25 : runsV C2 16 (hs0 5 gl) (cS 25) = True := by kernel_rfl
end Go.Proofs.YtdbemgdlohcghaaGreatDoor.KScriptsFull
