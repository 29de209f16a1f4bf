/- Some of the runs of this claim. No condition. -/
import Derived.Test.YtdbemgdlohcghaaGreatDoorScriptsFullB
namespace Go.Proofs.YtdbemgdlohcghaaGreatDoor.KScriptsFull
open Go Go.X
set_option maxRecDepth 100000
set_option maxHeartbeats 0
set_option linter.unusedVariables false
theorem et12 : runsV C00 5 (hs0 5 gl) (cT 12) = True := by kernel_rfl
theorem er12 : runsV C00 6 (hs0 5 gl) (cS 12) = True := by kernel_rfl
theorem eq12 : runsQ C00 15 (hs0 5 gl) (cQ 12) = True := by kernel_rfl
theorem es12 : runsV C2 16 (hs0 5 gl) (cS 12) = True := by kernel_rfl
theorem et13 : runsV C00 5 (hs0 5 gl) (cT 13) = True := by kernel_rfl
theorem er13 : runsV C00 6 (hs0 5 gl) (cS 13) = True := by kernel_rfl
theorem eq13 : runsQ C00 15 (hs0 5 gl) (cQ 13) = True := by kernel_rfl
theorem es13 : runsV C2 16 (hs0 5 gl) (cS 13) = True := by kernel_rfl
end Go.Proofs.YtdbemgdlohcghaaGreatDoor.KScriptsFull
