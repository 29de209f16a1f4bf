/- What the runs of this claim begin with. No condition: definitions. -/
import Derived.Test.YtbcmnefofcnimaaGreatDoorXe
import Derived.Test.YtbcmnefofcnimaaGreatDoorProg
import Derived.Lib.LaidTab
import Derived.Lib.Space
namespace Go.Proofs.YtbcmnefofcnimaaGreatDoor.KServerRooms
open Go Go.X
noncomputable def spaces : List AV := Lib.asciiSpaceTab.map fun z => .int 1 z
noncomputable def gl : List (Option (List AV)) := [none, none, none, none, none, some spaces, none, none, none, none]
noncomputable def C00 : CallF 5 := callF Tryz.prog 10 5 1000000 100000 (fun _ => none) 4000
noncomputable def kn (g : Nat) : Option (FnC 5) := bif Nat.beq g 10 then some (knC 5 gl) else bif Nat.beq g 36 then some (keysC 5 0 false) else none
noncomputable def C0 : CallF 5 := callF Tryz.prog 10 5 1000000 100000 kn 4000
end Go.Proofs.YtbcmnefofcnimaaGreatDoor.KServerRooms
