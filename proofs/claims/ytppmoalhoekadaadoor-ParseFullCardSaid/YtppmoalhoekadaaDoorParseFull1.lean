/- Some of the runs of this claim. No condition. -/
import Derived.Test.YtppmoalhoekadaaDoorParseFullB
namespace Go.Proofs.YtppmoalhoekadaaDoor.KParseFull
open Go Go.X
set_option maxRecDepth 100000
set_option maxHeartbeats 0
set_option linter.unusedVariables false
noncomputable def c4 : List (List AV) := [[.symU 3 1, .symU 20 12], [.symU 3 1, .symU 20 13], [.symU 3 1, .symU 20 14], [.symU 3 1, .symU 20 15], [.symU 3 1, .symU 20 16], [.symU 3 1, .symU 20 17], [.symU 3 1, .symU 20 18], [.symU 3 1, .symU 20 19]]
theorem e4 : runs C0 3 (hs0 5 gl) c4 = True := by kernel_rfl
noncomputable def c5 : List (List AV) := [[.symU 3 2, .symU 20 0], [.symU 3 2, .symU 20 1], [.symU 3 2, .symU 20 2], [.symU 3 2, .symU 20 3], [.symU 3 2, .symU 20 4], [.symU 3 2, .symU 20 5], [.symU 3 2, .symU 20 6], [.symU 3 2, .symU 20 7]]
theorem e5 : runs C0 3 (hs0 5 gl) c5 = True := by kernel_rfl
noncomputable def c6 : List (List AV) := [[.symU 3 2, .symU 20 8], [.symU 3 2, .symU 20 9], [.symU 3 2, .symU 20 10], [.symU 3 2, .symU 20 11], [.symU 3 2, .symU 20 12], [.symU 3 2, .symU 20 13], [.symU 3 2, .symU 20 14], [.symU 3 2, .symU 20 15]]
theorem e6 : runs C0 3 (hs0 5 gl) c6 = True := by kernel_rfl
noncomputable def c7 : List (List AV) := [[.symU 3 2, .symU 20 16], [.symU 3 2, .symU 20 17], [.symU 3 2, .symU 20 18], [.symU 3 2, .symU 20 19]]
theorem e7 : runs C0 3 (hs0 5 gl) c7 = True := by kernel_rfl
end Go.Proofs.YtppmoalhoekadaaDoor.KParseFull
