/- What the runs of this claim begin with. No condition: definitions. -/
import Derived.Test.YtcdiojlpmgfmeaaGreatDoorXe
import Derived.Test.YtcdiojlpmgfmeaaGreatDoorProg
import Derived.Lib.LaidTab
import Derived.Lib.Space
namespace Go.Proofs.YtcdiojlpmgfmeaaGreatDoor.KServerPipes
open Go Go.X
noncomputable def spaces : List AV := Lib.asciiSpaceTab.map fun z => .int 1 z
noncomputable def gl : List (Option (List AV)) := [none, none, none, none, none, some spaces, none, none, none, none]
noncomputable def C00 : CallF 5 := callF Tryz.prog 10 5 1000000 100000 (fun _ => none) 4000
noncomputable def w0 : AV × List AV := (.str 5 310635745362, [.agg [.str 5 310635745362, .int 0 (.ofNat 3), .int 0 (.ofNat 0), .bool true, .int 0 (.ofNat 1), .int 0 (.ofNat 1), .int 0 (.ofNat 1)], .bool true])
noncomputable def w1 : AV × List AV := (.str 4 1380142665, [.agg [.str 4 1380142665, .int 0 (.ofNat 2), .int 0 (.ofNat 2), .bool true, .int 0 (.ofNat 1), .int 0 (.ofNat 1), .int 0 (.ofNat 1)], .bool true])
noncomputable def finds : List (AV × List AV) := [w0, w1]
noncomputable def kn (g : Nat) : Option (FnC 5) := bif Nat.beq g 10 then some (knC 5 gl) else bif Nat.beq g 37 then some (keysC 5 0 true) else bif Nat.beq g 165 then some (tupC 5 gl finds) else none
noncomputable def C0 : CallF 5 := callF Tryz.prog 10 5 1000000 100000 kn 4000
end Go.Proofs.YtcdiojlpmgfmeaaGreatDoor.KServerPipes
