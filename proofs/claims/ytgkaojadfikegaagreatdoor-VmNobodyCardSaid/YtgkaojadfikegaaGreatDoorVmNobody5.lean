/- Some of the runs of this claim. No condition. -/
import Derived.Test.YtgkaojadfikegaaGreatDoorVmNobodyB
namespace Go.Proofs.YtgkaojadfikegaaGreatDoor.KVmNobody
open Go Go.X
set_option maxRecDepth 100000
set_option maxHeartbeats 0
set_option linter.unusedVariables false
theorem e20 : runs C0 3 (hs0 5 (gl ++ [some (keys 20)])) (six 20 (.slice 9 0 20 20 1 false)) = True := by kernel_rfl
theorem eN : runs C0 3 (hs0 5 gl) (six 0 .nslice) = True := by kernel_rfl
end Go.Proofs.YtgkaojadfikegaaGreatDoor.KVmNobody
