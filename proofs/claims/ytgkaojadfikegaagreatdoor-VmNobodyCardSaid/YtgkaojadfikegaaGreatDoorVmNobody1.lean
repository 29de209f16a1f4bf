/- Some of the runs of this claim. No condition. -/
import Derived.Test.YtgkaojadfikegaaGreatDoorVmNobodyB
namespace Go.Proofs.YtgkaojadfikegaaGreatDoor.KVmNobody
open Go Go.X
set_option maxRecDepth 100000
set_option maxHeartbeats 0
set_option linter.unusedVariables false
theorem e4 : runs C0 3 (hs0 5 (gl ++ [some (keys 4)])) (six 4 (.slice 9 0 4 4 1 false)) = True := by kernel_rfl
theorem e5 : runs C0 3 (hs0 5 (gl ++ [some (keys 5)])) (six 5 (.slice 9 0 5 5 1 false)) = True := by kernel_rfl
theorem e6 : runs C0 3 (hs0 5 (gl ++ [some (keys 6)])) (six 6 (.slice 9 0 6 6 1 false)) = True := by kernel_rfl
theorem e7 : runs C0 3 (hs0 5 (gl ++ [some (keys 7)])) (six 7 (.slice 9 0 7 7 1 false)) = True := by kernel_rfl
end Go.Proofs.YtgkaojadfikegaaGreatDoor.KVmNobody
