/- Some of the runs of this claim. No condition. -/
import Derived.Test.YtgkaojadfikegaaGreatDoorVmNobodyB
namespace Go.Proofs.YtgkaojadfikegaaGreatDoor.KVmNobody
open Go Go.X
set_option maxRecDepth 100000
set_option maxHeartbeats 0
set_option linter.unusedVariables false
theorem e8 : runs C0 3 (hs0 5 (gl ++ [some (keys 8)])) (six 8 (.slice 9 0 8 8 1 false)) = True := by kernel_rfl
theorem e9 : runs C0 3 (hs0 5 (gl ++ [some (keys 9)])) (six 9 (.slice 9 0 9 9 1 false)) = True := by kernel_rfl
theorem e10 : runs C0 3 (hs0 5 (gl ++ [some (keys 10)])) (six 10 (.slice 9 0 10 10 1 false)) = True := by kernel_rfl
theorem e11 : runs C0 3 (hs0 5 (gl ++ [some (keys 11)])) (six 11 (.slice 9 0 11 11 1 false)) = True := by kernel_rfl
end Go.Proofs.YtgkaojadfikegaaGreatDoor.KVmNobody
