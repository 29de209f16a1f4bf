/- Some of the runs of this claim. No condition. -/
import Derived.Test.YtbcmnefofcnimaaGreatDoorServerNewsB
namespace Go.Proofs.YtbcmnefofcnimaaGreatDoor.KServerNews
open Go Go.X
set_option maxRecDepth 100000
set_option maxHeartbeats 0
set_option linter.unusedVariables false
noncomputable def c10 : List AV := mk room (.int 0 (.ofNat 0)) fit fit fit
noncomputable def c11 : List AV := mk any (.int 0 (.ofNat 1)) low any any
noncomputable def c12 : List AV := mk any (.int 0 (.ofNat 1)) big any any
noncomputable def c13 : List AV := mk any (.int 0 (.ofNat 1)) fit low any
noncomputable def c14 : List AV := mk any (.int 0 (.ofNat 1)) fit big any
noncomputable def c15 : List AV := mk any (.int 0 (.ofNat 1)) fit fit low
noncomputable def c16 : List AV := mk any (.int 0 (.ofNat 1)) fit fit big
noncomputable def c17 : List AV := mk low (.int 0 (.ofNat 1)) fit fit fit
noncomputable def c18 : List AV := mk wide (.int 0 (.ofNat 1)) fit fit fit
noncomputable def c19 : List AV := mk room (.int 0 (.ofNat 1)) fit fit fit
theorem e1 : runs C0 6 (hs0 5 gl) [c10, c11, c12, c13, c14, c15, c16, c17, c18, c19] = True := by kernel_rfl
end Go.Proofs.YtbcmnefofcnimaaGreatDoor.KServerNews
