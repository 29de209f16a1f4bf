/- Some of the runs of this claim. No condition. -/
import Derived.Test.YtmhldielgmijaaaGreatDoorVmStopsB
namespace Go.Proofs.YtmhldielgmijaaaGreatDoor.KVmStops
open Go Go.X
set_option maxRecDepth 100000
set_option maxHeartbeats 0
set_option linter.unusedVariables false
noncomputable def c1 : List (List AV) := [[.symU 4 1, .symU 1 0]]
theorem e1 : runs C0 3 (hs0 5 gl) c1 = True := by kernel_rfl
end Go.Proofs.YtmhldielgmijaaaGreatDoor.KVmStops
