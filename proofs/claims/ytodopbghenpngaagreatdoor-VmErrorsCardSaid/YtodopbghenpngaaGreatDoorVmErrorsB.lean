/- What the runs of this claim begin with. No condition: definitions. -/
import Derived.Test.YtodopbghenpngaaGreatDoorXe
import Derived.Test.YtodopbghenpngaaGreatDoorChecked
import Derived.Lib.LaidTab
import Derived.Lib.Space
namespace Go.Proofs.YtodopbghenpngaaGreatDoor.KVmErrors
open Go Go.X
noncomputable def spaces : List AV := Lib.asciiSpaceTab.map fun z => .int 1 z
noncomputable def gl : List (Option (List AV)) := [none, some spaces, none, none, none, none, none, none, none]
noncomputable def C00 : CallF 5 := callF Tryz.prog 9 5 1000000 100000 (fun _ => none) 4000
noncomputable def q0 : AV × List AV := ((.str 106 743592293415549159464884965273623582657807955486870022263567599881100855398344308852071505921708641523013298851144444062831057050381886688874167040862228978947257244481257785676058839983701114737916356931020761369637418783173010486990440839896469216718433), [(.str 3 6581857), (.str 5 461195539042), (.str 2 28516), (.str 4 1702063205), (.str 6 112602859662437), (.str 3 6581861), (.str 5 435728179558), (.str 3 7499622), (.str 8 7957695015192261990), (.str 2 26217), (.str 2 28265), (.str 5 465490374508), (.str 3 7104878), (.str 3 7630702), (.str 2 29295), (.str 6 127961662514546), (.str 6 121437875889522), (.str 4 1852139636), (.str 4 1702195828), (.str 5 465625706101), (.str 5 435610544247)])
noncomputable def q1 : AV × List AV := ((.str 130 4989745452750927712642869024936041018982183869112399744596646328559347698139019358746423479417311085373974869505494574274628988303325946808601483887101106809989390966068797068531459062952690525578417336589675308608346298249300317674214036809461764501959304432550546839486516338336139505618763273980857346390260084), [(.str 4 1701869940), (.str 5 491496043109), (.str 5 465674789744), (.str 6 111550524650083), (.str 6 111520796337522), (.str 5 431315315065), (.str 6 126948300911731), (.str 8 7453010373645660020), (.str 5 500068609908), (.str 3 6452595), (.str 4 1702132066), (.str 4 1918986339), (.str 3 7366002), (.str 5 491328139381), (.str 5 491328597868), (.str 7 28555907813500274), (.str 4 1684957542), (.str 6 128034677157481), (.str 6 111559349986674), (.str 4 1937335659), (.str 4 1852403562), (.str 4 1819042147)])
noncomputable def kn (g : Nat) : Option (FnC 5) := bif Nat.beq g 7 then some (knC 5 gl) else bif Nat.beq g 96 then some (rowC 5 gl [q0, q1]) else bif Nat.beq g 230 then some (repC 5) else bif Nat.beq g 173 then some (joinC 5) else none
noncomputable def C0 : CallF 5 := callF Tryz.prog 9 5 1000000 100000 kn 4000
end Go.Proofs.YtodopbghenpngaaGreatDoor.KVmErrors
