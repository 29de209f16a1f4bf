/- told, run by the machine. No condition: lemmas. -/
import Derived.Test.YtcedghechlgecaaDoorMa
import Derived.Test.YtcedghechlgecaaDoorChecked
import Derived.Lib.LaidTab
import Derived.Lib.Space
set_option maxRecDepth 100000
set_option maxHeartbeats 0
set_option linter.unusedVariables false
set_option linter.unusedSimpArgs false
namespace Go.Proofs.YtcedghechlgecaaDoor.M
open Go Go.X
noncomputable def spaces:List AV:=Lib.asciiSpaceTab.map λz=>.int 1 z
noncomputable def gl:List (Option (List AV)):=[some spaces,none,none]
noncomputable def C00:fM 5:=Tj Tryd.prog 3 5 1000000 10000 (λ_=>none) 1000
theorem ek:runs C00 6 (hs0 5 gl) [[]]=True:=by kernel_rfl
end Go.Proofs.YtcedghechlgecaaDoor.M
