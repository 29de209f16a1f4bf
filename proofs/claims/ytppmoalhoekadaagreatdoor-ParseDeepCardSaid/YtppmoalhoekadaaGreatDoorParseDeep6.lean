/- Some of the runs of this claim. No condition. -/
import Derived.Test.YtppmoalhoekadaaGreatDoorParseDeepB
namespace Go.Proofs.YtppmoalhoekadaaGreatDoor.KParseDeep
open Go Go.X
set_option maxRecDepth 100000
set_option maxHeartbeats 0
set_option linter.unusedVariables false
noncomputable def c24 : List (List AV) := [[.symU 8 4, .symU 5 4]]
theorem e24 : runs C0 4 (hs0 5 gl) c24 = True := by kernel_rfl
noncomputable def c25 : List (List AV) := [[.symU 8 5, .symU 5 0]]
theorem e25 : runs C0 4 (hs0 5 gl) c25 = True := by kernel_rfl
noncomputable def c26 : List (List AV) := [[.symU 8 5, .symU 5 1]]
theorem e26 : runs C0 4 (hs0 5 gl) c26 = True := by kernel_rfl
noncomputable def c27 : List (List AV) := [[.symU 8 5, .symU 5 2]]
theorem e27 : runs C0 4 (hs0 5 gl) c27 = True := by kernel_rfl
end Go.Proofs.YtppmoalhoekadaaGreatDoor.KParseDeep
