/- Some of the runs of this claim. No condition. -/
import Derived.Test.YtppmoalhoekadaaGreatDoorParseDeepB
namespace Go.Proofs.YtppmoalhoekadaaGreatDoor.KParseDeep
open Go Go.X
set_option maxRecDepth 100000
set_option maxHeartbeats 0
set_option linter.unusedVariables false
noncomputable def c8 : List (List AV) := [[.symU 8 1, .symU 5 3]]
theorem e8 : runs C0 4 (hs0 5 gl) c8 = True := by kernel_rfl
noncomputable def c9 : List (List AV) := [[.symU 8 1, .symU 5 4]]
theorem e9 : runs C0 4 (hs0 5 gl) c9 = True := by kernel_rfl
noncomputable def c10 : List (List AV) := [[.symU 8 2, .symU 5 0]]
theorem e10 : runs C0 4 (hs0 5 gl) c10 = True := by kernel_rfl
noncomputable def c11 : List (List AV) := [[.symU 8 2, .symU 5 1]]
theorem e11 : runs C0 4 (hs0 5 gl) c11 = True := by kernel_rfl
end Go.Proofs.YtppmoalhoekadaaGreatDoor.KParseDeep
