/- Some of the runs of this claim. No condition. -/
import Derived.Test.YtppmoalhoekadaaGreatDoorParseDeepB
namespace Go.Proofs.YtppmoalhoekadaaGreatDoor.KParseDeep
open Go Go.X
set_option maxRecDepth 100000
set_option maxHeartbeats 0
set_option linter.unusedVariables false
noncomputable def c20 : List (List AV) := [[.symU 8 4, .symU 5 0]]
theorem e20 : runs C0 4 (hs0 5 gl) c20 = True := by kernel_rfl
noncomputable def c21 : List (List AV) := [[.symU 8 4, .symU 5 1]]
theorem e21 : runs C0 4 (hs0 5 gl) c21 = True := by kernel_rfl
noncomputable def c22 : List (List AV) := [[.symU 8 4, .symU 5 2]]
theorem e22 : runs C0 4 (hs0 5 gl) c22 = True := by kernel_rfl
noncomputable def c23 : List (List AV) := [[.symU 8 4, .symU 5 3]]
theorem e23 : runs C0 4 (hs0 5 gl) c23 = True := by kernel_rfl
end Go.Proofs.YtppmoalhoekadaaGreatDoor.KParseDeep
