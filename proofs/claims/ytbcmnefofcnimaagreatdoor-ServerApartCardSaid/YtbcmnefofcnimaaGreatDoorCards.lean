/-
  DERIVED. GIVEN WITH THE SEED: THE CARDS: each row of YtbcmnefofcnimaaGreatDoorRows.lean that lists a variable, with what it lists TIED to the program's text (the seventh form; the later family's looks); each row that meets fmt, with fmt's text TOLD by the authors' own Lean function (tested against real Go, not proved from fmt's source: count such statements apart). THE CARD IS WHAT COUNTS. Prove the row's statement (the work); the ties are given (YtbcmnefofcnimaaGreatDoorTie.lean); close each card by the builder's one call (the guide's Derived/Test/ToyasCard.lean, 'card_holds'). Laid BY PROGRAM, IN A SANDBOX (cutbox-door.mjs). By AI agents, Wed Nov 11 2026. No macro, syntax, notation, axiom, sorry.
-/
import Derived.Test.YtbcmnefofcnimaaGreatDoorRows
import GoSem.ClaimSeven
namespace Go.Proofs.YtbcmnefofcnimaaGreatDoor
namespace Rows

/-- THE TIED CARD OF 'scriptoriumlaw38.ServerDrops'. -/
def serverDropsCard : Claim7 := { stood := { row := serverDropsRow, standIns := [], harness := (true, "717b4f5cb6870cf11e5b3b779197e5fb4485064fb28980e26eb3d40b9ad2c604"), looks := true }, kinds := [], alts := [], laidByText := true, laidKinds := [.data, .data, .data, .sentinel, .sentinel, .listed, .data], laidTests := true, laidLooks := .later }
def ServerDropsCardSaid : Prop := Claim7.holds Tryz.pinned (.plain (OpenSpec.ofChange serverDropsSpec)) serverDropsCard

/-- THE TIED CARD OF 'scriptoriumlaw38.ServerApart'. -/
def serverApartCard : Claim7 := { stood := { row := serverApartRow, standIns := [], harness := (true, "717b4f5cb6870cf11e5b3b779197e5fb4485064fb28980e26eb3d40b9ad2c604"), looks := true }, kinds := [], alts := [], laidByText := true, laidKinds := [.data, .data, .data, .sentinel, .sentinel, .listed, .data], laidTests := true, laidLooks := .later }
def ServerApartCardSaid : Prop := Claim7.holds Tryz.pinned (.plain (OpenSpec.ofChange serverApartSpec)) serverApartCard

/-- THE TIED CARD OF 'scriptoriumlaw38.ServerRooms'. -/
def serverRoomsCard : Claim7 := { stood := { row := serverRoomsRow, standIns := [], harness := (true, "717b4f5cb6870cf11e5b3b779197e5fb4485064fb28980e26eb3d40b9ad2c604"), looks := true }, kinds := [], alts := [], laidByText := true, laidKinds := [.data, .data, .data, .sentinel, .sentinel, .listed, .data], laidTests := true, laidLooks := .later }
def ServerRoomsCardSaid : Prop := Claim7.holds Tryz.pinned (.plain (OpenSpec.ofChange serverRoomsSpec)) serverRoomsCard

/-- THE TIED CARD OF 'scriptoriumlaw38.ServerNews'. -/
def serverNewsCard : Claim7 := { stood := { row := serverNewsRow, standIns := [], harness := (true, "717b4f5cb6870cf11e5b3b779197e5fb4485064fb28980e26eb3d40b9ad2c604"), looks := true }, kinds := [], alts := [], laidByText := true, laidKinds := [.data, .data, .data, .sentinel, .sentinel, .listed, .data], laidTests := true, laidLooks := .later }
def ServerNewsCardSaid : Prop := Claim7.holds Tryz.pinned (.plain (OpenSpec.ofChange serverNewsSpec)) serverNewsCard

/-- THE SECOND FORM's CARD OF 'scriptoriumlaw38.ServerDrops'. -/
def serverDropsUptoCard : Claim7 := { stood := { row := serverDropsUptoRow, standIns := [], harness := (true, "717b4f5cb6870cf11e5b3b779197e5fb4485064fb28980e26eb3d40b9ad2c604"), looks := true }, kinds := [], alts := [], laidByText := true, laidKinds := [.data, .data, .data, .sentinel, .sentinel, .listed, .data], laidTests := true, laidLooks := .later }
def ServerDropsUptoCardSaid : Prop := Claim7.holds Tryz.pinned (.plain (OpenSpec.upto serverDropsSpec)) serverDropsUptoCard

/-- THE SECOND FORM's CARD OF 'scriptoriumlaw38.ServerApart'. -/
def serverApartUptoCard : Claim7 := { stood := { row := serverApartUptoRow, standIns := [], harness := (true, "717b4f5cb6870cf11e5b3b779197e5fb4485064fb28980e26eb3d40b9ad2c604"), looks := true }, kinds := [], alts := [], laidByText := true, laidKinds := [.data, .data, .data, .sentinel, .sentinel, .listed, .data], laidTests := true, laidLooks := .later }
def ServerApartUptoCardSaid : Prop := Claim7.holds Tryz.pinned (.plain (OpenSpec.upto serverApartSpec)) serverApartUptoCard

/-- THE SECOND FORM's CARD OF 'scriptoriumlaw38.ServerRooms'. -/
def serverRoomsUptoCard : Claim7 := { stood := { row := serverRoomsUptoRow, standIns := [], harness := (true, "717b4f5cb6870cf11e5b3b779197e5fb4485064fb28980e26eb3d40b9ad2c604"), looks := true }, kinds := [], alts := [], laidByText := true, laidKinds := [.data, .data, .data, .sentinel, .sentinel, .listed, .data], laidTests := true, laidLooks := .later }
def ServerRoomsUptoCardSaid : Prop := Claim7.holds Tryz.pinned (.plain (OpenSpec.upto serverRoomsSpec)) serverRoomsUptoCard

/-- THE SECOND FORM's CARD OF 'scriptoriumlaw38.ServerNews'. -/
def serverNewsUptoCard : Claim7 := { stood := { row := serverNewsUptoRow, standIns := [], harness := (true, "717b4f5cb6870cf11e5b3b779197e5fb4485064fb28980e26eb3d40b9ad2c604"), looks := true }, kinds := [], alts := [], laidByText := true, laidKinds := [.data, .data, .data, .sentinel, .sentinel, .listed, .data], laidTests := true, laidLooks := .later }
def ServerNewsUptoCardSaid : Prop := Claim7.holds Tryz.pinned (.plain (OpenSpec.upto serverNewsSpec)) serverNewsUptoCard
end Rows
end Go.Proofs.YtbcmnefofcnimaaGreatDoor
