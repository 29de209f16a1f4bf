/- told, run by the machine. No condition: definitions and lemmas. -/
import Derived.Test.YthmjeojcciefcaaDoorXe
import Derived.Test.YthmjeojcciefcaaDoorChecked
import Derived.Lib.LaidTab
import Derived.Lib.Space
set_option linter.unusedVariables false
set_option linter.unusedSimpArgs false
namespace Go.Proofs.YthmjeojcciefcaaDoor.M
open Go Go.X
set_option maxRecDepth 100000
set_option maxHeartbeats 0
noncomputable def spaces : List AV := Lib.asciiSpaceTab.map fun z => .int 1 z
noncomputable def gl : List (Option (List AV)) := [some spaces, none, none, none, none, none, none, none, none]
noncomputable def C00 : CallF 5 := callF Tryd.prog 9 5 1000000 10000 (fun _ => none) 1000
theorem ek : runs C00 8 (hs0 5 gl) [[]] = True := by kernel_rfl
end Go.Proofs.YthmjeojcciefcaaDoor.M
