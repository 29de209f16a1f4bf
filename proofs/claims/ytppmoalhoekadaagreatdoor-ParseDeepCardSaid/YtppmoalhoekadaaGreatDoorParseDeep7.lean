/- Some of the runs of this claim. No condition. -/
import Derived.Test.YtppmoalhoekadaaGreatDoorParseDeepB
namespace Go.Proofs.YtppmoalhoekadaaGreatDoor.KParseDeep
open Go Go.X
set_option maxRecDepth 100000
set_option maxHeartbeats 0
set_option linter.unusedVariables false
noncomputable def c28 : List (List AV) := [[.symU 8 5, .symU 5 3]]
theorem e28 : runs C0 4 (hs0 5 gl) c28 = True := by kernel_rfl
noncomputable def c29 : List (List AV) := [[.symU 8 5, .symU 5 4]]
theorem e29 : runs C0 4 (hs0 5 gl) c29 = True := by kernel_rfl
noncomputable def c30 : List (List AV) := [[.symU 8 6, .symU 5 0]]
theorem e30 : runs C0 4 (hs0 5 gl) c30 = True := by kernel_rfl
noncomputable def c31 : List (List AV) := [[.symU 8 6, .symU 5 1]]
theorem e31 : runs C0 4 (hs0 5 gl) c31 = True := by kernel_rfl
end Go.Proofs.YtppmoalhoekadaaGreatDoor.KParseDeep
