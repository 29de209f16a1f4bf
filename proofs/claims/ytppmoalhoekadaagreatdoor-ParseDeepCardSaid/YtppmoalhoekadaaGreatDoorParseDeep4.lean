/- Some of the runs of this claim. No condition. -/
import Derived.Test.YtppmoalhoekadaaGreatDoorParseDeepB
namespace Go.Proofs.YtppmoalhoekadaaGreatDoor.KParseDeep
open Go Go.X
set_option maxRecDepth 100000
set_option maxHeartbeats 0
set_option linter.unusedVariables false
noncomputable def c16 : List (List AV) := [[.symU 8 3, .symU 5 1]]
theorem e16 : runs C0 4 (hs0 5 gl) c16 = True := by kernel_rfl
noncomputable def c17 : List (List AV) := [[.symU 8 3, .symU 5 2]]
theorem e17 : runs C0 4 (hs0 5 gl) c17 = True := by kernel_rfl
noncomputable def c18 : List (List AV) := [[.symU 8 3, .symU 5 3]]
theorem e18 : runs C0 4 (hs0 5 gl) c18 = True := by kernel_rfl
noncomputable def c19 : List (List AV) := [[.symU 8 3, .symU 5 4]]
theorem e19 : runs C0 4 (hs0 5 gl) c19 = True := by kernel_rfl
end Go.Proofs.YtppmoalhoekadaaGreatDoor.KParseDeep
