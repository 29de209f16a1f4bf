/- The numbers of the rounds, and what is told of a few. No condition. -/
import Derived.Test.YtdbemgdlohcghaaGreatDoorScriptsFullB
namespace Go.Proofs.YtdbemgdlohcghaaGreatDoor.KScriptsFull
open Go Go.X
set_option maxRecDepth 100000
set_option maxHeartbeats 0
set_option linter.unusedVariables false
theorem ec : C1 22 (aL []) (fun v hs => tupK 5 zc v hs) (fun _ _ => False) (hs0 5 gl) = True := by kernel_rfl
theorem ek : runs C2 7 (hs0 5 gl) [[]] = True := by kernel_rfl
end Go.Proofs.YtdbemgdlohcghaaGreatDoor.KScriptsFull
