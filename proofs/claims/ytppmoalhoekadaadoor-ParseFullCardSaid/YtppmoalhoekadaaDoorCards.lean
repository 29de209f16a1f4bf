/-
  DERIVED. GIVEN WITH THE SEED: THE CARDS: each row of YtppmoalhoekadaaDoorRows.lean that lists a variable, with what it lists TIED to the program's text (the seventh form; the later family's looks); each row that meets fmt, with fmt's text TOLD by the authors' own Lean function (tested against real Go, not proved from fmt's source: count such statements apart). THE CARD IS WHAT COUNTS. Prove the row's statement (the work); the ties are given (YtppmoalhoekadaaDoorTie.lean); close each card by the builder's one call (the guide's Derived/Test/ToyasCard.lean, 'card_holds'). Laid BY PROGRAM, IN A SANDBOX (cutbox-door.mjs). By AI agents, Wed Nov 11 2026. No macro, syntax, notation, axiom, sorry.
-/
import Derived.Test.YtppmoalhoekadaaDoorRows
import GoSem.ClaimSeven
namespace Go.Proofs.YtppmoalhoekadaaDoor
namespace Rows

/-- THE TIED CARD OF 'scriptoriumlaw16.ParseFull'. -/
def parseFullCard : Claim7 := { stood := { row := parseFullRow, standIns := [], harness := (true, "7cdf07edf952082a07820d06182cdc1df8c7c371bcc51c65db878bbf2ed37a9a"), looks := true }, kinds := [], alts := [], laidByText := true, laidKinds := [.data, .data, .data, .sentinel, .sentinel, .listed, .data], laidTests := true, laidLooks := .later }
def ParseFullCardSaid : Prop := Claim7.holds Tryd.pinned (.plain (OpenSpec.ofChange parseFullSpec)) parseFullCard

/-- THE TIED CARD OF 'scriptoriumlaw16.ParseKnown'. -/
def parseKnownCard : Claim7 := { stood := { row := parseKnownRow, standIns := [], harness := (true, "7cdf07edf952082a07820d06182cdc1df8c7c371bcc51c65db878bbf2ed37a9a"), looks := true }, kinds := [], alts := [], laidByText := true, laidKinds := [.data, .data, .data, .sentinel, .sentinel, .listed, .data], laidTests := true, laidLooks := .later }
def ParseKnownCardSaid : Prop := Claim7.holds Tryd.pinned (.plain (OpenSpec.ofChange parseKnownSpec)) parseKnownCard

/-- THE SECOND FORM's CARD OF 'scriptoriumlaw16.ParseFull'. -/
def parseFullUptoCard : Claim7 := { stood := { row := parseFullUptoRow, standIns := [], harness := (true, "7cdf07edf952082a07820d06182cdc1df8c7c371bcc51c65db878bbf2ed37a9a"), looks := true }, kinds := [], alts := [], laidByText := true, laidKinds := [.data, .data, .data, .sentinel, .sentinel, .listed, .data], laidTests := true, laidLooks := .later }
def ParseFullUptoCardSaid : Prop := Claim7.holds Tryd.pinned (.plain (OpenSpec.upto parseFullSpec)) parseFullUptoCard

/-- THE SECOND FORM's CARD OF 'scriptoriumlaw16.ParseKnown'. -/
def parseKnownUptoCard : Claim7 := { stood := { row := parseKnownUptoRow, standIns := [], harness := (true, "7cdf07edf952082a07820d06182cdc1df8c7c371bcc51c65db878bbf2ed37a9a"), looks := true }, kinds := [], alts := [], laidByText := true, laidKinds := [.data, .data, .data, .sentinel, .sentinel, .listed, .data], laidTests := true, laidLooks := .later }
def ParseKnownUptoCardSaid : Prop := Claim7.holds Tryd.pinned (.plain (OpenSpec.upto parseKnownSpec)) parseKnownUptoCard
end Rows
end Go.Proofs.YtppmoalhoekadaaDoor
