/- What command.Find answers to some names. No condition. -/
import Derived.Test.YtcdiojlpmgfmeaaGreatDoorServerPipesB
namespace Go.Proofs.YtcdiojlpmgfmeaaGreatDoor.KServerPipes
open Go Go.X
set_option maxRecDepth 100000
set_option maxHeartbeats 0
set_option linter.unusedVariables false
theorem ew0 : C00 165 (aL [w0.1]) (fun v hs => tupK 5 w0.2 v hs) (fun _ _ => False) (hs0 5 gl) = True := by kernel_rfl
theorem ew1 : C00 165 (aL [w1.1]) (fun v hs => tupK 5 w1.2 v hs) (fun _ _ => False) (hs0 5 gl) = True := by kernel_rfl
end Go.Proofs.YtcdiojlpmgfmeaaGreatDoor.KServerPipes
