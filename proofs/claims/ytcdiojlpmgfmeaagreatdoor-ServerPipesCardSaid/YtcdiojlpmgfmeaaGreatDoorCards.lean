/-
  DERIVED. GIVEN WITH THE SEED: THE CARDS: each row of YtcdiojlpmgfmeaaGreatDoorRows.lean that lists a variable, with what it lists TIED to the program's text (the seventh form; the later family's looks); each row that meets fmt, with fmt's text TOLD by the authors' own Lean function (tested against real Go, not proved from fmt's source: count such statements apart). THE CARD IS WHAT COUNTS. Prove the row's statement (the work); the ties are given (YtcdiojlpmgfmeaaGreatDoorTie.lean); close each card by the builder's one call (the guide's Derived/Test/ToyasCard.lean, 'card_holds'). Laid BY PROGRAM, IN A SANDBOX (cutbox-door.mjs). By AI agents, Wed Nov 11 2026. No macro, syntax, notation, axiom, sorry.
-/
import Derived.Test.YtcdiojlpmgfmeaaGreatDoorRows
import GoSem.ClaimSeven
namespace Go.Proofs.YtcdiojlpmgfmeaaGreatDoor
namespace Rows

/-- THE TIED CARD OF 'scriptoriumlaw38.ServerPipes'. -/
def serverPipesCard : Claim7 := { stood := { row := serverPipesRow, standIns := [], harness := (true, "b0acdad4d94bbaa9e5ff85c09d1b1300e2064a009a455e4859811ba58ad4b12e"), looks := true }, kinds := [], alts := [], laidByText := true, laidKinds := [.data, .data, .data, .data, .listed, .sentinel, .sentinel], laidTests := true, laidLooks := .later }
def ServerPipesCardSaid : Prop := Claim7.holds Tryz.pinned (.plain (OpenSpec.ofChange serverPipesSpec)) serverPipesCard

/-- THE TIED CARD OF 'scriptoriumtop.TopQuiet'. -/
def topQuietCard : Claim7 := { stood := { row := topQuietRow, standIns := [], harness := (true, "b0acdad4d94bbaa9e5ff85c09d1b1300e2064a009a455e4859811ba58ad4b12e"), looks := true }, kinds := [], alts := [], laidByText := true, laidKinds := [.data, .data, .data, .data, .listed, .sentinel, .sentinel], laidTests := true, laidLooks := .later }
def TopQuietCardSaid : Prop := Claim7.holds Tryz.pinned (.plain (OpenSpec.ofChange topQuietSpec)) topQuietCard

/-- THE SECOND FORM's CARD OF 'scriptoriumlaw38.ServerPipes'. -/
def serverPipesUptoCard : Claim7 := { stood := { row := serverPipesUptoRow, standIns := [], harness := (true, "b0acdad4d94bbaa9e5ff85c09d1b1300e2064a009a455e4859811ba58ad4b12e"), looks := true }, kinds := [], alts := [], laidByText := true, laidKinds := [.data, .data, .data, .data, .listed, .sentinel, .sentinel], laidTests := true, laidLooks := .later }
def ServerPipesUptoCardSaid : Prop := Claim7.holds Tryz.pinned (.plain (OpenSpec.upto serverPipesSpec)) serverPipesUptoCard

/-- THE SECOND FORM's CARD OF 'scriptoriumtop.TopQuiet'. -/
def topQuietUptoCard : Claim7 := { stood := { row := topQuietUptoRow, standIns := [], harness := (true, "b0acdad4d94bbaa9e5ff85c09d1b1300e2064a009a455e4859811ba58ad4b12e"), looks := true }, kinds := [], alts := [], laidByText := true, laidKinds := [.data, .data, .data, .data, .listed, .sentinel, .sentinel], laidTests := true, laidLooks := .later }
def TopQuietUptoCardSaid : Prop := Claim7.holds Tryz.pinned (.plain (OpenSpec.upto topQuietSpec)) topQuietUptoCard
end Rows
end Go.Proofs.YtcdiojlpmgfmeaaGreatDoor
