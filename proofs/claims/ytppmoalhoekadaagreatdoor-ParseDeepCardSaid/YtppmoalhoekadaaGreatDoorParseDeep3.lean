/- Some of the runs of this claim. No condition. -/
import Derived.Test.YtppmoalhoekadaaGreatDoorParseDeepB
namespace Go.Proofs.YtppmoalhoekadaaGreatDoor.KParseDeep
open Go Go.X
set_option maxRecDepth 100000
set_option maxHeartbeats 0
set_option linter.unusedVariables false
noncomputable def c12 : List (List AV) := [[.symU 8 2, .symU 5 2]]
theorem e12 : runs C0 4 (hs0 5 gl) c12 = True := by kernel_rfl
noncomputable def c13 : List (List AV) := [[.symU 8 2, .symU 5 3]]
theorem e13 : runs C0 4 (hs0 5 gl) c13 = True := by kernel_rfl
noncomputable def c14 : List (List AV) := [[.symU 8 2, .symU 5 4]]
theorem e14 : runs C0 4 (hs0 5 gl) c14 = True := by kernel_rfl
noncomputable def c15 : List (List AV) := [[.symU 8 3, .symU 5 0]]
theorem e15 : runs C0 4 (hs0 5 gl) c15 = True := by kernel_rfl
end Go.Proofs.YtppmoalhoekadaaGreatDoor.KParseDeep
