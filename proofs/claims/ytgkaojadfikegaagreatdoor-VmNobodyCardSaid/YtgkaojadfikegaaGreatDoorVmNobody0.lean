/- Some of the runs of this claim. No condition. -/
import Derived.Test.YtgkaojadfikegaaGreatDoorVmNobodyB
namespace Go.Proofs.YtgkaojadfikegaaGreatDoor.KVmNobody
open Go Go.X
set_option maxRecDepth 100000
set_option maxHeartbeats 0
set_option linter.unusedVariables false
theorem e0 : runs C0 3 (hs0 5 (gl ++ [some (keys 0)])) (six 0 (.slice 9 0 0 0 1 false)) = True := by kernel_rfl
theorem e1 : runs C0 3 (hs0 5 (gl ++ [some (keys 1)])) (six 1 (.slice 9 0 1 1 1 false)) = True := by kernel_rfl
theorem e2 : runs C0 3 (hs0 5 (gl ++ [some (keys 2)])) (six 2 (.slice 9 0 2 2 1 false)) = True := by kernel_rfl
theorem e3 : runs C0 3 (hs0 5 (gl ++ [some (keys 3)])) (six 3 (.slice 9 0 3 3 1 false)) = True := by kernel_rfl
end Go.Proofs.YtgkaojadfikegaaGreatDoor.KVmNobody
