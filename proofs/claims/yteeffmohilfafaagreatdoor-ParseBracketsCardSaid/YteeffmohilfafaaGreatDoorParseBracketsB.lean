/- What the runs of this claim begin with. No condition: definitions. -/
import Derived.Test.YteeffmohilfafaaGreatDoorXe
import Derived.Test.YteeffmohilfafaaGreatDoorChecked
import Derived.Lib.LaidTab
import Derived.Lib.Space
namespace Go.Proofs.YteeffmohilfafaaGreatDoor.KParseBrackets
open Go Go.X
noncomputable def spaces : List AV := Lib.asciiSpaceTab.map fun z => .int 1 z
noncomputable def gl : List (Option (List AV)) := [some spaces, none, none, none, none, none, none, none, none]
noncomputable def C00 : CallF 5 := callF Tryz.prog 9 5 1000000 400 (fun _ => none) 1000
noncomputable def kn (g : Nat) : Option (FnC 5) := bif Nat.beq g 5 then some (knC 5 gl) else none
noncomputable def C0 : CallF 5 := callF Tryz.prog 9 5 1000000 400 kn 1000
end Go.Proofs.YteeffmohilfafaaGreatDoor.KParseBrackets
