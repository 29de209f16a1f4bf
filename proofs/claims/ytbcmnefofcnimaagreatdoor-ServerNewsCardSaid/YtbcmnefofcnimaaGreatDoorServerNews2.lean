/- Some of the runs of this claim. No condition. -/
import Derived.Test.YtbcmnefofcnimaaGreatDoorServerNewsB
namespace Go.Proofs.YtbcmnefofcnimaaGreatDoor.KServerNews
open Go Go.X
set_option maxRecDepth 100000
set_option maxHeartbeats 0
set_option linter.unusedVariables false
noncomputable def c20 : List AV := mk any (.int 0 (.ofNat 2)) low any any
noncomputable def c21 : List AV := mk any (.int 0 (.ofNat 2)) big any any
noncomputable def c22 : List AV := mk any (.int 0 (.ofNat 2)) fit low any
noncomputable def c23 : List AV := mk any (.int 0 (.ofNat 2)) fit big any
noncomputable def c24 : List AV := mk any (.int 0 (.ofNat 2)) fit fit low
noncomputable def c25 : List AV := mk any (.int 0 (.ofNat 2)) fit fit big
noncomputable def c26 : List AV := mk low (.int 0 (.ofNat 2)) fit fit fit
noncomputable def c27 : List AV := mk wide (.int 0 (.ofNat 2)) fit fit fit
noncomputable def c28 : List AV := mk room (.int 0 (.ofNat 2)) fit fit fit
theorem e2 : runs C0 6 (hs0 5 gl) [c20, c21, c22, c23, c24, c25, c26, c27, c28] = True := by kernel_rfl
end Go.Proofs.YtbcmnefofcnimaaGreatDoor.KServerNews
