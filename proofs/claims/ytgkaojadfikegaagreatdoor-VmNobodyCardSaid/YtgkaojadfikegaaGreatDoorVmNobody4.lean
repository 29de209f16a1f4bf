/- Some of the runs of this claim. No condition. -/
import Derived.Test.YtgkaojadfikegaaGreatDoorVmNobodyB
namespace Go.Proofs.YtgkaojadfikegaaGreatDoor.KVmNobody
open Go Go.X
set_option maxRecDepth 100000
set_option maxHeartbeats 0
set_option linter.unusedVariables false
theorem e16 : runs C0 3 (hs0 5 (gl ++ [some (keys 16)])) (six 16 (.slice 9 0 16 16 1 false)) = True := by kernel_rfl
theorem e17 : runs C0 3 (hs0 5 (gl ++ [some (keys 17)])) (six 17 (.slice 9 0 17 17 1 false)) = True := by kernel_rfl
theorem e18 : runs C0 3 (hs0 5 (gl ++ [some (keys 18)])) (six 18 (.slice 9 0 18 18 1 false)) = True := by kernel_rfl
theorem e19 : runs C0 3 (hs0 5 (gl ++ [some (keys 19)])) (six 19 (.slice 9 0 19 19 1 false)) = True := by kernel_rfl
end Go.Proofs.YtgkaojadfikegaaGreatDoor.KVmNobody
