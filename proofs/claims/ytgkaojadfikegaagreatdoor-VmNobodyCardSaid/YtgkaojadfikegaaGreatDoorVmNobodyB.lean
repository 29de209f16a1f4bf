/- What the runs of this claim begin with. No condition: definitions. -/
import Derived.Test.YtgkaojadfikegaaGreatDoorXe
import Derived.Test.YtgkaojadfikegaaGreatDoorChecked
import Derived.Lib.LaidTab
import Derived.Lib.Space
namespace Go.Proofs.YtgkaojadfikegaaGreatDoor.KVmNobody
open Go Go.X
noncomputable def spaces : List AV := Lib.asciiSpaceTab.map fun z => .int 1 z
noncomputable def gl : List (Option (List AV)) := [some spaces, none, none, none, none, none, none, none, none]
noncomputable def C00 : CallF 5 := callF Tryz.prog 9 5 1000000 100000 (fun _ => none) 4000
noncomputable def kn (g : Nat) : Option (FnC 5) := bif Nat.beq g 5 then some (knC 5 gl) else none
noncomputable def C0 : CallF 5 := callF Tryz.prog 9 5 1000000 100000 kn 4000
def any : AV := .rng (.negSucc 9223372036854775807) (.ofNat 9223372036854775807)
def low : AV := .rng (.negSucc 9223372036854775807) (.negSucc 0)
def big : AV := .rng (.ofNat 1099511627777) (.ofNat 9223372036854775807)
def fit : AV := .rng (.ofNat 0) (.ofNat 1099511627776)
def keys (n : Nat) : List AV := List.replicate n (.txt 300)
/-- Steps and cells in each of six ways, ahead of so many keys. -/
def six (n : Nat) (l : AV) : List (List AV) := [[low, any, l], [big, any, l], [fit, low, l], [fit, big, l], [fit, .rng (.ofNat 0) (.ofNat (n + 1)), l], [fit, .rng (.ofNat (n + 2)) (.ofNat 1099511627776), l]]
end Go.Proofs.YtgkaojadfikegaaGreatDoor.KVmNobody
