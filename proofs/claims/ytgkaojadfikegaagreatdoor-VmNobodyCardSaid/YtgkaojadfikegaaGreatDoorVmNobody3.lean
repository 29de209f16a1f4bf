/- Some of the runs of this claim. No condition. -/
import Derived.Test.YtgkaojadfikegaaGreatDoorVmNobodyB
namespace Go.Proofs.YtgkaojadfikegaaGreatDoor.KVmNobody
open Go Go.X
set_option maxRecDepth 100000
set_option maxHeartbeats 0
set_option linter.unusedVariables false
theorem e12 : runs C0 3 (hs0 5 (gl ++ [some (keys 12)])) (six 12 (.slice 9 0 12 12 1 false)) = True := by kernel_rfl
theorem e13 : runs C0 3 (hs0 5 (gl ++ [some (keys 13)])) (six 13 (.slice 9 0 13 13 1 false)) = True := by kernel_rfl
theorem e14 : runs C0 3 (hs0 5 (gl ++ [some (keys 14)])) (six 14 (.slice 9 0 14 14 1 false)) = True := by kernel_rfl
theorem e15 : runs C0 3 (hs0 5 (gl ++ [some (keys 15)])) (six 15 (.slice 9 0 15 15 1 false)) = True := by kernel_rfl
end Go.Proofs.YtgkaojadfikegaaGreatDoor.KVmNobody
