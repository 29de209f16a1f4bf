/- Some of the runs of this claim. No condition. -/
import Derived.Test.YtdbemgdlohcghaaGreatDoorScriptsFullB
namespace Go.Proofs.YtdbemgdlohcghaaGreatDoor.KScriptsFull
open Go Go.X
set_option maxRecDepth 100000
set_option maxHeartbeats 0
set_option linter.unusedVariables false
theorem et10 : runsV C00 5 (hs0 5 gl) (cT 10) = True := by kernel_rfl
theorem er10 : runsV C00 6 (hs0 5 gl) (cS 10) = True := by kernel_rfl
theorem eq10 : runsQ C00 15 (hs0 5 gl) (cQ 10) = True := by kernel_rfl
theorem es10 : runsV C2 16 (hs0 5 gl) (cS 10) = True := by kernel_rfl
theorem et11 : runsV C00 5 (hs0 5 gl) (cT 11) = True := by kernel_rfl
theorem er11 : runsV C00 6 (hs0 5 gl) (cS 11) = True := by kernel_rfl
theorem eq11 : runsQ C00 15 (hs0 5 gl) (cQ 11) = True := by kernel_rfl
theorem es11 : runsV C2 16 (hs0 5 gl) (cS 11) = True := by kernel_rfl
end Go.Proofs.YtdbemgdlohcghaaGreatDoor.KScriptsFull
