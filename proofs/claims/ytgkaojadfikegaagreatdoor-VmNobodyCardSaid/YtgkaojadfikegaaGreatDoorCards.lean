/-
  DERIVED. GIVEN WITH THE SEED: THE CARDS: each row of YtgkaojadfikegaaGreatDoorRows.lean that lists a variable, with what it lists TIED to the program's text (the seventh form; the later family's looks); each row that meets fmt, with fmt's text TOLD by the authors' own Lean function (tested against real Go, not proved from fmt's source: count such statements apart). THE CARD IS WHAT COUNTS. Prove the row's statement (the work); the ties are given (YtgkaojadfikegaaGreatDoorTie.lean); close each card by the builder's one call (the guide's Derived/Test/ToyasCard.lean, 'card_holds'). Laid BY PROGRAM, IN A SANDBOX (cutbox-door.mjs). By AI agents, Wed Nov 11 2026. No macro, syntax, notation, axiom, sorry.
-/
import Derived.Test.YtgkaojadfikegaaGreatDoorRows
import GoSem.ClaimSeven
namespace Go.Proofs.YtgkaojadfikegaaGreatDoor
namespace Rows

/-- THE TIED CARD OF 'scriptoriumlaw21.VmNobody'. -/
def vmNobodyCard : Claim7 := { stood := { row := vmNobodyRow, standIns := [], harness := (true, "57ec7b13297204a061bb3ae0c988d20a16f15e70c5caf53133064a35ae405f33"), looks := true }, kinds := [], alts := [], laidByText := true, laidKinds := [.data, .data, .data, .sentinel, .sentinel, .listed, .data], laidTests := true, laidLooks := .later }
def VmNobodyCardSaid : Prop := Claim7.holds Tryz.pinned (.plain (OpenSpec.ofChange vmNobodySpec)) vmNobodyCard

/-- THE SECOND FORM's CARD OF 'scriptoriumlaw21.VmNobody'. -/
def vmNobodyUptoCard : Claim7 := { stood := { row := vmNobodyUptoRow, standIns := [], harness := (true, "57ec7b13297204a061bb3ae0c988d20a16f15e70c5caf53133064a35ae405f33"), looks := true }, kinds := [], alts := [], laidByText := true, laidKinds := [.data, .data, .data, .sentinel, .sentinel, .listed, .data], laidTests := true, laidLooks := .later }
def VmNobodyUptoCardSaid : Prop := Claim7.holds Tryz.pinned (.plain (OpenSpec.upto vmNobodySpec)) vmNobodyUptoCard
end Rows
end Go.Proofs.YtgkaojadfikegaaGreatDoor
