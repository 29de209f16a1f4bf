/- Some of the runs of this claim. No condition. -/
import Derived.Test.YtbcmnefofcnimaaGreatDoorServerNewsB
namespace Go.Proofs.YtbcmnefofcnimaaGreatDoor.KServerNews
open Go Go.X
set_option maxRecDepth 100000
set_option maxHeartbeats 0
set_option linter.unusedVariables false
noncomputable def c0 : List AV := mk any low any any any
noncomputable def c1 : List AV := mk any (.rng (.ofNat 3) (.ofNat 9223372036854775807)) any any any
noncomputable def c2 : List AV := mk any (.int 0 (.ofNat 0)) low any any
noncomputable def c3 : List AV := mk any (.int 0 (.ofNat 0)) big any any
noncomputable def c4 : List AV := mk any (.int 0 (.ofNat 0)) fit low any
noncomputable def c5 : List AV := mk any (.int 0 (.ofNat 0)) fit big any
noncomputable def c6 : List AV := mk any (.int 0 (.ofNat 0)) fit fit low
noncomputable def c7 : List AV := mk any (.int 0 (.ofNat 0)) fit fit big
noncomputable def c8 : List AV := mk low (.int 0 (.ofNat 0)) fit fit fit
noncomputable def c9 : List AV := mk wide (.int 0 (.ofNat 0)) fit fit fit
theorem e0 : runs C0 6 (hs0 5 gl) [c0, c1, c2, c3, c4, c5, c6, c7, c8, c9] = True := by kernel_rfl
end Go.Proofs.YtbcmnefofcnimaaGreatDoor.KServerNews
