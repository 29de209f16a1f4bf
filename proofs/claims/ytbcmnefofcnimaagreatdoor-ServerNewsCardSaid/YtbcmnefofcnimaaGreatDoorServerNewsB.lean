/- What the runs of this claim begin with. No condition: definitions. -/
import Derived.Test.YtbcmnefofcnimaaGreatDoorXe
import Derived.Test.YtbcmnefofcnimaaGreatDoorProg
import Derived.Lib.LaidTab
import Derived.Lib.Space
namespace Go.Proofs.YtbcmnefofcnimaaGreatDoor.KServerNews
open Go Go.X
noncomputable def spaces : List AV := Lib.asciiSpaceTab.map fun z => .int 1 z
noncomputable def gl : List (Option (List AV)) := [none, none, none, none, none, some spaces, none, none, none, none]
noncomputable def C00 : CallF 5 := callF Tryz.prog 10 5 1000000 100000 (fun _ => none) 4000
noncomputable def kn (g : Nat) : Option (FnC 5) := bif Nat.beq g 10 then some (knC 5 gl) else none
noncomputable def C0 : CallF 5 := callF Tryz.prog 10 5 1000000 100000 kn 4000
def any : AV := .rng (.negSucc 9223372036854775807) (.ofNat 9223372036854775807)
def low : AV := .rng (.negSucc 9223372036854775807) (.negSucc 0)
def big : AV := .rng (.ofNat 1099511627777) (.ofNat 9223372036854775807)
def fit : AV := .rng (.ofNat 0) (.ofNat 1099511627776)
def wide : AV := .rng (.ofNat 16777217) (.ofNat 9223372036854775807)
def room : AV := .rng (.ofNat 0) (.ofNat 16777216)
def ev : AV := .agg [any, any, any, .txt 9223372036854775807, .symV 0 0]
def mk (a b c d e : AV) : List AV := [.agg [a, b, c, d, e], ev]
end Go.Proofs.YtbcmnefofcnimaaGreatDoor.KServerNews
