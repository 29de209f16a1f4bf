/- Some of the runs of this claim. No condition. -/
import Derived.Test.YtppmoalhoekadaaGreatDoorParseDeepB
namespace Go.Proofs.YtppmoalhoekadaaGreatDoor.KParseDeep
open Go Go.X
set_option maxRecDepth 100000
set_option maxHeartbeats 0
set_option linter.unusedVariables false
noncomputable def c36 : List (List AV) := [[.symU 8 7, .symU 5 1]]
theorem e36 : runs C0 4 (hs0 5 gl) c36 = True := by kernel_rfl
noncomputable def c37 : List (List AV) := [[.symU 8 7, .symU 5 2]]
theorem e37 : runs C0 4 (hs0 5 gl) c37 = True := by kernel_rfl
noncomputable def c38 : List (List AV) := [[.symU 8 7, .symU 5 3]]
theorem e38 : runs C0 4 (hs0 5 gl) c38 = True := by kernel_rfl
noncomputable def c39 : List (List AV) := [[.symU 8 7, .symU 5 4]]
theorem e39 : runs C0 4 (hs0 5 gl) c39 = True := by kernel_rfl
end Go.Proofs.YtppmoalhoekadaaGreatDoor.KParseDeep
