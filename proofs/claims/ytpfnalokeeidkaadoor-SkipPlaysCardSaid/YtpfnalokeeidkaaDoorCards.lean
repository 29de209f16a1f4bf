/-
  DERIVED. GIVEN WITH THE SEED: THE CARDS: each row of YtpfnalokeeidkaaDoorRows.lean that lists a variable, with what it lists TIED to the program's text (the seventh form; the later family's looks); each row that meets fmt, with fmt's text TOLD by the authors' own Lean function (tested against real Go, not proved from fmt's source: count such statements apart). THE CARD IS WHAT COUNTS. Prove the row's statement (the work); the ties are given (YtpfnalokeeidkaaDoorTie.lean); close each card by the builder's one call (the guide's Derived/Test/ToyasCard.lean, 'card_holds'). Laid BY PROGRAM, IN A SANDBOX (cutbox-door.mjs). By AI agents, Wed Nov 11 2026. No macro, syntax, notation, axiom, sorry.
-/
import Derived.Test.YtpfnalokeeidkaaDoorRows
import GoSem.ClaimSeven
namespace Go.Proofs.YtpfnalokeeidkaaDoor
namespace Rows

/-- THE TIED CARD OF 'scriptoriumlaw8.SkipParts'. -/
def skipPartsCard : Claim7 := { stood := { row := skipPartsRow, standIns := [], harness := (true, "30a09ee7bcda269139f67f4759a0a7bae4954b4d99d4961840b67e49d0bda13f"), looks := false }, kinds := [], alts := [], laidByText := true, laidKinds := [.data, .data], laidTests := true, laidLooks := .later }
def SkipPartsCardSaid : Prop := Claim7.holds Tryd.pinned (.plain (OpenSpec.ofChange skipPartsSpec)) skipPartsCard

/-- THE TIED CARD OF 'scriptoriumlaw8.SkipMany'. -/
def skipManyCard : Claim7 := { stood := { row := skipManyRow, standIns := [], harness := (true, "30a09ee7bcda269139f67f4759a0a7bae4954b4d99d4961840b67e49d0bda13f"), looks := false }, kinds := [], alts := [], laidByText := true, laidKinds := [.data, .data], laidTests := true, laidLooks := .later }
def SkipManyCardSaid : Prop := Claim7.holds Tryd.pinned (.plain (OpenSpec.ofChange skipManySpec)) skipManyCard

/-- THE TIED CARD OF 'scriptoriumlaw8.SkipOrder'. -/
def skipOrderCard : Claim7 := { stood := { row := skipOrderRow, standIns := [], harness := (true, "30a09ee7bcda269139f67f4759a0a7bae4954b4d99d4961840b67e49d0bda13f"), looks := false }, kinds := [], alts := [], laidByText := true, laidKinds := [.data, .data], laidTests := true, laidLooks := .later }
def SkipOrderCardSaid : Prop := Claim7.holds Tryd.pinned (.plain (OpenSpec.ofChange skipOrderSpec)) skipOrderCard

/-- THE TIED CARD OF 'scriptoriumlaw8.SkipPlays'. -/
def skipPlaysCard : Claim7 := { stood := { row := skipPlaysRow, standIns := [], harness := (true, "30a09ee7bcda269139f67f4759a0a7bae4954b4d99d4961840b67e49d0bda13f"), looks := false }, kinds := [], alts := [], laidByText := true, laidKinds := [.data, .data], laidTests := true, laidLooks := .later }
def SkipPlaysCardSaid : Prop := Claim7.holds Tryd.pinned (.plain (OpenSpec.ofChange skipPlaysSpec)) skipPlaysCard

/-- THE SECOND FORM's CARD OF 'scriptoriumlaw8.SkipParts'. -/
def skipPartsUptoCard : Claim7 := { stood := { row := skipPartsUptoRow, standIns := [], harness := (true, "30a09ee7bcda269139f67f4759a0a7bae4954b4d99d4961840b67e49d0bda13f"), looks := false }, kinds := [], alts := [], laidByText := true, laidKinds := [.data, .data], laidTests := true, laidLooks := .later }
def SkipPartsUptoCardSaid : Prop := Claim7.holds Tryd.pinned (.plain (OpenSpec.upto skipPartsSpec)) skipPartsUptoCard

/-- THE SECOND FORM's CARD OF 'scriptoriumlaw8.SkipMany'. -/
def skipManyUptoCard : Claim7 := { stood := { row := skipManyUptoRow, standIns := [], harness := (true, "30a09ee7bcda269139f67f4759a0a7bae4954b4d99d4961840b67e49d0bda13f"), looks := false }, kinds := [], alts := [], laidByText := true, laidKinds := [.data, .data], laidTests := true, laidLooks := .later }
def SkipManyUptoCardSaid : Prop := Claim7.holds Tryd.pinned (.plain (OpenSpec.upto skipManySpec)) skipManyUptoCard

/-- THE SECOND FORM's CARD OF 'scriptoriumlaw8.SkipOrder'. -/
def skipOrderUptoCard : Claim7 := { stood := { row := skipOrderUptoRow, standIns := [], harness := (true, "30a09ee7bcda269139f67f4759a0a7bae4954b4d99d4961840b67e49d0bda13f"), looks := false }, kinds := [], alts := [], laidByText := true, laidKinds := [.data, .data], laidTests := true, laidLooks := .later }
def SkipOrderUptoCardSaid : Prop := Claim7.holds Tryd.pinned (.plain (OpenSpec.upto skipOrderSpec)) skipOrderUptoCard

/-- THE SECOND FORM's CARD OF 'scriptoriumlaw8.SkipPlays'. -/
def skipPlaysUptoCard : Claim7 := { stood := { row := skipPlaysUptoRow, standIns := [], harness := (true, "30a09ee7bcda269139f67f4759a0a7bae4954b4d99d4961840b67e49d0bda13f"), looks := false }, kinds := [], alts := [], laidByText := true, laidKinds := [.data, .data], laidTests := true, laidLooks := .later }
def SkipPlaysUptoCardSaid : Prop := Claim7.holds Tryd.pinned (.plain (OpenSpec.upto skipPlaysSpec)) skipPlaysUptoCard
end Rows
end Go.Proofs.YtpfnalokeeidkaaDoor
