/- What is told, run by the machine. No condition. -/
import Derived.Test.YtcdiojlpmgfmeaaGreatDoorXe
import Derived.Test.YtcdiojlpmgfmeaaGreatDoorProg
import Derived.Lib.LaidTab
import Derived.Lib.Space
namespace Go.Proofs.YtcdiojlpmgfmeaaGreatDoor.KTopQuiet
open Go Go.X
noncomputable def spaces : List AV := Lib.asciiSpaceTab.map fun z => .int 1 z
noncomputable def gl : List (Option (List AV)) := [none, none, none, none, none, some spaces, none, none, none, none]
noncomputable def C00 : CallF 5 := callF Tryz.prog 10 5 1000000 100000 (fun _ => none) 4000
set_option maxRecDepth 100000
set_option maxHeartbeats 0
set_option linter.unusedVariables false
theorem ek : runs C00 14 (hs0 5 gl) [[]] = True := by kernel_rfl
end Go.Proofs.YtcdiojlpmgfmeaaGreatDoor.KTopQuiet
