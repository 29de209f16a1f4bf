/- Some of the runs of this claim. No condition. -/
import Derived.Test.YtdbemgdlohcghaaGreatDoorScriptsFullB
namespace Go.Proofs.YtdbemgdlohcghaaGreatDoor.KScriptsFull
open Go Go.X
set_option maxRecDepth 100000
set_option maxHeartbeats 0
set_option linter.unusedVariables false
theorem et16 : runsV C00 5 (hs0 5 gl) (cT 16) = True := by kernel_rfl
theorem er16 : runsV C00 6 (hs0 5 gl) (cS 16) = True := by kernel_rfl
theorem eq16 : runsQ C00 15 (hs0 5 gl) (cQ 16) = True := by kernel_rfl
theorem es16 : runsV C2 16 (hs0 5 gl) (cS 16) = True := by kernel_rfl
theorem et17 : runsV C00 5 (hs0 5 gl) (cT 17) = True := by kernel_rfl
theorem er17 : runsV C00 6 (hs0 5 gl) (cS 17) = True := by kernel_rfl
theorem eq17 : runsQ C00 15 (hs0 5 gl) (cQ 17) = True := by kernel_rfl
theorem es17 : runsV C2 16 (hs0 5 gl) (cS 17) = True := by kernel_rfl
end Go.Proofs.YtdbemgdlohcghaaGreatDoor.KScriptsFull
