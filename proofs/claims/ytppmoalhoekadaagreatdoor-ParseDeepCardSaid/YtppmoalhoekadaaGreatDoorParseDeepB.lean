/- What the runs of this claim begin with. No condition: definitions. -/
import Derived.Test.YtppmoalhoekadaaGreatDoorXe
import Derived.Test.YtppmoalhoekadaaGreatDoorChecked
import Derived.Lib.LaidTab
import Derived.Lib.Space
namespace Go.Proofs.YtppmoalhoekadaaGreatDoor.KParseDeep
open Go Go.X
noncomputable def spaces : List AV := Lib.asciiSpaceTab.map fun z => .int 1 z
noncomputable def gl : List (Option (List AV)) := [some spaces, none, none, none, none, none, none, none, none]
noncomputable def C0 : CallF 5 := callF Tryz.prog 9 5 1000000 400 (fun _ => none) 4000
end Go.Proofs.YtppmoalhoekadaaGreatDoor.KParseDeep
