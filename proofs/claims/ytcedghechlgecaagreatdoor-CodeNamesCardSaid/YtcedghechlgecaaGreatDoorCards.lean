/-
  DERIVED. GIVEN WITH THE SEED: THE CARDS: each row of YtcedghechlgecaaGreatDoorRows.lean that lists a variable, with what it lists TIED to the program's text (the seventh form; the later family's looks); each row that meets fmt, with fmt's text TOLD by the authors' own Lean function (tested against real Go, not proved from fmt's source: count such statements apart). THE CARD IS WHAT COUNTS. Prove the row's statement (the work); the ties are given (YtcedghechlgecaaGreatDoorTie.lean); close each card by the builder's one call (the guide's Derived/Test/ToyasCard.lean, 'card_holds'). Laid BY PROGRAM, IN A SANDBOX (cutbox-door.mjs). By AI agents, Wed Nov 11 2026. No macro, syntax, notation, axiom, sorry.
-/
import Derived.Test.YtcedghechlgecaaGreatDoorRows
import GoSem.ClaimSeven
namespace Go.Proofs.YtcedghechlgecaaGreatDoor
namespace Rows

/-- THE TIED CARD OF 'scriptoriumlaw16.ParseReads'. -/
def parseReadsCard : Claim7 := { stood := { row := parseReadsRow, standIns := [], harness := (true, "1ed9d05091b2439af0f837ccd3ab11488e78fc670e5bea41bb60aa54226580f7"), looks := true }, kinds := [], alts := [], laidByText := true, laidKinds := [.data, .data, .data, .sentinel, .sentinel, .listed, .data], laidTests := true, laidLooks := .later }
def ParseReadsCardSaid : Prop := Claim7.holds Tryz.pinned (.plain (OpenSpec.ofChange parseReadsSpec)) parseReadsCard

/-- THE TIED CARD OF 'scriptoriumlaw16.ParseJoins'. -/
def parseJoinsCard : Claim7 := { stood := { row := parseJoinsRow, standIns := [], harness := (true, "1ed9d05091b2439af0f837ccd3ab11488e78fc670e5bea41bb60aa54226580f7"), looks := true }, kinds := [], alts := [], laidByText := true, laidKinds := [.data, .data, .data, .sentinel, .sentinel, .listed, .data], laidTests := true, laidLooks := .later }
def ParseJoinsCardSaid : Prop := Claim7.holds Tryz.pinned (.plain (OpenSpec.ofChange parseJoinsSpec)) parseJoinsCard

/-- THE TIED CARD OF 'scriptoriumlaw18.CodeSources'. -/
def codeSourcesCard : Claim7 := { stood := { row := codeSourcesRow, standIns := [], harness := (true, "1ed9d05091b2439af0f837ccd3ab11488e78fc670e5bea41bb60aa54226580f7"), looks := true }, kinds := [], alts := [], laidByText := true, laidKinds := [.data, .data, .data, .sentinel, .sentinel, .listed, .data], laidTests := true, laidLooks := .later }
def CodeSourcesCardSaid : Prop := Claim7.holds Tryz.pinned (.plain (OpenSpec.ofChange codeSourcesSpec)) codeSourcesCard

/-- THE TIED CARD OF 'scriptoriumlaw18.CodeNames'. -/
def codeNamesCard : Claim7 := { stood := { row := codeNamesRow, standIns := [], harness := (true, "1ed9d05091b2439af0f837ccd3ab11488e78fc670e5bea41bb60aa54226580f7"), looks := true }, kinds := [], alts := [], laidByText := true, laidKinds := [.data, .data, .data, .sentinel, .sentinel, .listed, .data], laidTests := true, laidLooks := .later }
def CodeNamesCardSaid : Prop := Claim7.holds Tryz.pinned (.plain (OpenSpec.ofChange codeNamesSpec)) codeNamesCard

/-- THE SECOND FORM's CARD OF 'scriptoriumlaw16.ParseReads'. -/
def parseReadsUptoCard : Claim7 := { stood := { row := parseReadsUptoRow, standIns := [], harness := (true, "1ed9d05091b2439af0f837ccd3ab11488e78fc670e5bea41bb60aa54226580f7"), looks := true }, kinds := [], alts := [], laidByText := true, laidKinds := [.data, .data, .data, .sentinel, .sentinel, .listed, .data], laidTests := true, laidLooks := .later }
def ParseReadsUptoCardSaid : Prop := Claim7.holds Tryz.pinned (.plain (OpenSpec.upto parseReadsSpec)) parseReadsUptoCard

/-- THE SECOND FORM's CARD OF 'scriptoriumlaw16.ParseJoins'. -/
def parseJoinsUptoCard : Claim7 := { stood := { row := parseJoinsUptoRow, standIns := [], harness := (true, "1ed9d05091b2439af0f837ccd3ab11488e78fc670e5bea41bb60aa54226580f7"), looks := true }, kinds := [], alts := [], laidByText := true, laidKinds := [.data, .data, .data, .sentinel, .sentinel, .listed, .data], laidTests := true, laidLooks := .later }
def ParseJoinsUptoCardSaid : Prop := Claim7.holds Tryz.pinned (.plain (OpenSpec.upto parseJoinsSpec)) parseJoinsUptoCard

/-- THE SECOND FORM's CARD OF 'scriptoriumlaw18.CodeSources'. -/
def codeSourcesUptoCard : Claim7 := { stood := { row := codeSourcesUptoRow, standIns := [], harness := (true, "1ed9d05091b2439af0f837ccd3ab11488e78fc670e5bea41bb60aa54226580f7"), looks := true }, kinds := [], alts := [], laidByText := true, laidKinds := [.data, .data, .data, .sentinel, .sentinel, .listed, .data], laidTests := true, laidLooks := .later }
def CodeSourcesUptoCardSaid : Prop := Claim7.holds Tryz.pinned (.plain (OpenSpec.upto codeSourcesSpec)) codeSourcesUptoCard

/-- THE SECOND FORM's CARD OF 'scriptoriumlaw18.CodeNames'. -/
def codeNamesUptoCard : Claim7 := { stood := { row := codeNamesUptoRow, standIns := [], harness := (true, "1ed9d05091b2439af0f837ccd3ab11488e78fc670e5bea41bb60aa54226580f7"), looks := true }, kinds := [], alts := [], laidByText := true, laidKinds := [.data, .data, .data, .sentinel, .sentinel, .listed, .data], laidTests := true, laidLooks := .later }
def CodeNamesUptoCardSaid : Prop := Claim7.holds Tryz.pinned (.plain (OpenSpec.upto codeNamesSpec)) codeNamesUptoCard
end Rows
end Go.Proofs.YtcedghechlgecaaGreatDoor
