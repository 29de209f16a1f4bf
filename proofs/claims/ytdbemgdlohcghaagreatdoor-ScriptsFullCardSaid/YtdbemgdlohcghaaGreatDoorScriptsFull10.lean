/- Some of the runs of this claim. No condition. -/
import Derived.Test.YtdbemgdlohcghaaGreatDoorScriptsFullB
namespace Go.Proofs.YtdbemgdlohcghaaGreatDoor.KScriptsFull
open Go Go.X
set_option maxRecDepth 100000
set_option maxHeartbeats 0
set_option linter.unusedVariables false
theorem et20 : runsV C00 5 (hs0 5 gl) (cT 20) = True := by kernel_rfl
theorem er20 : runsV C00 6 (hs0 5 gl) (cS 20) = True := by kernel_rfl
theorem eq20 : runsQ C00 15 (hs0 5 gl) (cQ 20) = True := by kernel_rfl
theorem es20 : runsV C2 16 (hs0 5 gl) (cS 20) = True := by kernel_rfl
theorem et21 : runsV C00 5 (hs0 5 gl) (cT 21) = True := by kernel_rfl
theorem er21 : runsV C00 6 (hs0 5 gl) (cS 21) = True := by kernel_rfl
theorem eq21 : runsQ C00 15 (hs0 5 gl) (cQ 21) = True := by kernel_rfl
theorem es21 : runsV C2 16 (hs0 5 gl) (cS 21) = True := by kernel_rfl
end Go.Proofs.YtdbemgdlohcghaaGreatDoor.KScriptsFull
