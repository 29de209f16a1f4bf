/-
  DERIVED. GIVEN WITH THE SEED: THE CARDS: each row of YtdbemgdlohcghaaGreatDoorRows.lean that lists a variable, with what it lists TIED to the program's text (the seventh form; the later family's looks); each row that meets fmt, with fmt's text TOLD by the authors' own Lean function (tested against real Go, not proved from fmt's source: count such statements apart). THE CARD IS WHAT COUNTS. Prove the row's statement (the work); the ties are given (YtdbemgdlohcghaaGreatDoorTie.lean); close each card by the builder's one call (the guide's Derived/Test/ToyasCard.lean, 'card_holds'). Laid BY PROGRAM, IN A SANDBOX (cutbox-door.mjs). By AI agents, Wed Nov 11 2026. No macro, syntax, notation, axiom, sorry.
-/
import Derived.Test.YtdbemgdlohcghaaGreatDoorRows
import GoSem.ClaimSeven
namespace Go.Proofs.YtdbemgdlohcghaaGreatDoor
namespace Rows

/-- THE TIED CARD OF 'scriptoriumlaw23.ScriptsFull'. -/
def scriptsFullCard : Claim7 := { stood := { row := scriptsFullRow, standIns := [], harness := (true, "e035b1d9ae6f4bab6cf66ec271a5aed59b9d785bdffed2ed6aa7e69b0445d307"), looks := true }, kinds := [], alts := [], laidByText := true, laidKinds := [.data, .data, .data, .sentinel, .sentinel, .listed, .data], laidTests := true, laidLooks := .later }
def ScriptsFullCardSaid : Prop := Claim7.holds Tryz.pinned (.plain (OpenSpec.ofChange scriptsFullSpec)) scriptsFullCard

/-- THE SECOND FORM's CARD OF 'scriptoriumlaw23.ScriptsFull'. -/
def scriptsFullUptoCard : Claim7 := { stood := { row := scriptsFullUptoRow, standIns := [], harness := (true, "e035b1d9ae6f4bab6cf66ec271a5aed59b9d785bdffed2ed6aa7e69b0445d307"), looks := true }, kinds := [], alts := [], laidByText := true, laidKinds := [.data, .data, .data, .sentinel, .sentinel, .listed, .data], laidTests := true, laidLooks := .later }
def ScriptsFullUptoCardSaid : Prop := Claim7.holds Tryz.pinned (.plain (OpenSpec.upto scriptsFullSpec)) scriptsFullUptoCard
end Rows
end Go.Proofs.YtdbemgdlohcghaaGreatDoor
