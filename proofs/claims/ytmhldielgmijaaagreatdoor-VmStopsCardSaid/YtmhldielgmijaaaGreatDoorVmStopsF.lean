/- What strings.Fields answers to two texts. No condition. -/
import Derived.Test.YtmhldielgmijaaaGreatDoorVmStopsB
namespace Go.Proofs.YtmhldielgmijaaaGreatDoor.KVmStops
open Go Go.X
set_option maxRecDepth 100000
set_option maxHeartbeats 0
set_option linter.unusedVariables false
theorem ef0 : C00 160 (aL [q0.1]) (fun v hs => rowK 5 q0.2 v hs) (fun _ _ => False) (hs0 5 gl) = True := by kernel_rfl
theorem ef1 : C00 160 (aL [q1.1]) (fun v hs => rowK 5 q1.2 v hs) (fun _ _ => False) (hs0 5 gl) = True := by kernel_rfl
end Go.Proofs.YtmhldielgmijaaaGreatDoor.KVmStops
