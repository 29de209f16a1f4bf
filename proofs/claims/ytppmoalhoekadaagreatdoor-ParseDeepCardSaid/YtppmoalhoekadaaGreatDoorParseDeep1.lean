/- Some of the runs of this claim. No condition. -/
import Derived.Test.YtppmoalhoekadaaGreatDoorParseDeepB
namespace Go.Proofs.YtppmoalhoekadaaGreatDoor.KParseDeep
open Go Go.X
set_option maxRecDepth 100000
set_option maxHeartbeats 0
set_option linter.unusedVariables false
noncomputable def c4 : List (List AV) := [[.symU 8 0, .symU 5 4]]
theorem e4 : runs C0 4 (hs0 5 gl) c4 = True := by kernel_rfl
noncomputable def c5 : List (List AV) := [[.symU 8 1, .symU 5 0]]
theorem e5 : runs C0 4 (hs0 5 gl) c5 = True := by kernel_rfl
noncomputable def c6 : List (List AV) := [[.symU 8 1, .symU 5 1]]
theorem e6 : runs C0 4 (hs0 5 gl) c6 = True := by kernel_rfl
noncomputable def c7 : List (List AV) := [[.symU 8 1, .symU 5 2]]
theorem e7 : runs C0 4 (hs0 5 gl) c7 = True := by kernel_rfl
end Go.Proofs.YtppmoalhoekadaaGreatDoor.KParseDeep
