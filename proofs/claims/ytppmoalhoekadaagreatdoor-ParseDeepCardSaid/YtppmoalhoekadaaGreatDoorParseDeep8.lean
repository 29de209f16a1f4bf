/- Some of the runs of this claim. No condition. -/
import Derived.Test.YtppmoalhoekadaaGreatDoorParseDeepB
namespace Go.Proofs.YtppmoalhoekadaaGreatDoor.KParseDeep
open Go Go.X
set_option maxRecDepth 100000
set_option maxHeartbeats 0
set_option linter.unusedVariables false
noncomputable def c32 : List (List AV) := [[.symU 8 6, .symU 5 2]]
theorem e32 : runs C0 4 (hs0 5 gl) c32 = True := by kernel_rfl
noncomputable def c33 : List (List AV) := [[.symU 8 6, .symU 5 3]]
theorem e33 : runs C0 4 (hs0 5 gl) c33 = True := by kernel_rfl
noncomputable def c34 : List (List AV) := [[.symU 8 6, .symU 5 4]]
theorem e34 : runs C0 4 (hs0 5 gl) c34 = True := by kernel_rfl
noncomputable def c35 : List (List AV) := [[.symU 8 7, .symU 5 0]]
theorem e35 : runs C0 4 (hs0 5 gl) c35 = True := by kernel_rfl
end Go.Proofs.YtppmoalhoekadaaGreatDoor.KParseDeep
