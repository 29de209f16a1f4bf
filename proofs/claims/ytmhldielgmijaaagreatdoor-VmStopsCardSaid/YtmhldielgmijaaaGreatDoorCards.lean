/-
  DERIVED. GIVEN WITH THE SEED: THE CARDS: each row of YtmhldielgmijaaaGreatDoorRows.lean that lists a variable, with what it lists TIED to the program's text (the seventh form; the later family's looks); each row that meets fmt, with fmt's text TOLD by the authors' own Lean function (tested against real Go, not proved from fmt's source: count such statements apart). THE CARD IS WHAT COUNTS. Prove the row's statement (the work); the ties are given (YtmhldielgmijaaaGreatDoorTie.lean); close each card by the builder's one call (the guide's Derived/Test/ToyasCard.lean, 'card_holds'). Laid BY PROGRAM, IN A SANDBOX (cutbox-door.mjs). By AI agents, Wed Nov 11 2026. No macro, syntax, notation, axiom, sorry.
-/
import Derived.Test.YtmhldielgmijaaaGreatDoorRows
import GoSem.ClaimSeven
namespace Go.Proofs.YtmhldielgmijaaaGreatDoor
namespace Rows

/-- THE TIED CARD OF 'scriptoriumlaw21.VmStops'. -/
def vmStopsCard : Claim7 := { stood := { row := vmStopsRow, standIns := [], harness := (true, "87808aa86641cae563ee4829f9d3fef83f3a65d0328e81352e27a3439c28aa2f"), looks := true }, kinds := [], alts := [], laidByText := true, laidKinds := [.data, .data, .data, .sentinel, .sentinel, .listed, .data], laidTests := true, laidLooks := .later }
def VmStopsCardSaid : Prop := Claim7.holds Tryz.pinned (.plain (OpenSpec.ofChange vmStopsSpec)) vmStopsCard

/-- THE SECOND FORM's CARD OF 'scriptoriumlaw21.VmStops'. -/
def vmStopsUptoCard : Claim7 := { stood := { row := vmStopsUptoRow, standIns := [], harness := (true, "87808aa86641cae563ee4829f9d3fef83f3a65d0328e81352e27a3439c28aa2f"), looks := true }, kinds := [], alts := [], laidByText := true, laidKinds := [.data, .data, .data, .sentinel, .sentinel, .listed, .data], laidTests := true, laidLooks := .later }
def VmStopsUptoCardSaid : Prop := Claim7.holds Tryz.pinned (.plain (OpenSpec.upto vmStopsSpec)) vmStopsUptoCard
end Rows
end Go.Proofs.YtmhldielgmijaaaGreatDoor
