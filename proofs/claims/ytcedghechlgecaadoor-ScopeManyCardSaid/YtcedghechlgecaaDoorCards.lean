/-
  DERIVED. GIVEN WITH THE SEED: THE CARDS: each row of YtcedghechlgecaaDoorRows.lean that lists a variable, with what it lists TIED to the program's text (the seventh form; the later family's looks); each row that meets fmt, with fmt's text TOLD by the authors' own Lean function (tested against real Go, not proved from fmt's source: count such statements apart). THE CARD IS WHAT COUNTS. Prove the row's statement (the work); the ties are given (YtcedghechlgecaaDoorTie.lean); close each card by the builder's one call (the guide's Derived/Test/ToyasCard.lean, 'card_holds'). Laid BY PROGRAM, IN A SANDBOX (cutbox-door.mjs). By AI agents, Wed Nov 11 2026. No macro, syntax, notation, axiom, sorry.
-/
import Derived.Test.YtcedghechlgecaaDoorRows
import GoSem.ClaimSeven
namespace Go.Proofs.YtcedghechlgecaaDoor
namespace Rows

/-- THE TIED CARD OF 'scriptoriumlaw17.ScopeChecks'. -/
def scopeChecksCard : Claim7 := { stood := { row := scopeChecksRow, standIns := [], harness := (true, "5ccc04e67c6688cfb64492ea3a59a9546e88a400448c7ddc22206f917b19c9e2"), looks := true }, kinds := [], alts := [], laidByText := true, laidKinds := [.listed, .data], laidTests := true, laidLooks := .later }
def ScopeChecksCardSaid : Prop := Claim7.holds Tryd.pinned (.plain (OpenSpec.ofChange scopeChecksSpec)) scopeChecksCard

/-- THE TIED CARD OF 'scriptoriumlaw17.ScopeOuter'. -/
def scopeOuterCard : Claim7 := { stood := { row := scopeOuterRow, standIns := [], harness := (true, "5ccc04e67c6688cfb64492ea3a59a9546e88a400448c7ddc22206f917b19c9e2"), looks := true }, kinds := [], alts := [], laidByText := true, laidKinds := [.listed, .data], laidTests := true, laidLooks := .later }
def ScopeOuterCardSaid : Prop := Claim7.holds Tryd.pinned (.plain (OpenSpec.ofChange scopeOuterSpec)) scopeOuterCard

/-- THE TIED CARD OF 'scriptoriumlaw17.ScopeMany'. -/
def scopeManyCard : Claim7 := { stood := { row := scopeManyRow, standIns := [], harness := (true, "5ccc04e67c6688cfb64492ea3a59a9546e88a400448c7ddc22206f917b19c9e2"), looks := true }, kinds := [], alts := [], laidByText := true, laidKinds := [.listed, .data], laidTests := true, laidLooks := .later }
def ScopeManyCardSaid : Prop := Claim7.holds Tryd.pinned (.plain (OpenSpec.ofChange scopeManySpec)) scopeManyCard

/-- THE SECOND FORM's CARD OF 'scriptoriumlaw17.ScopeChecks'. -/
def scopeChecksUptoCard : Claim7 := { stood := { row := scopeChecksUptoRow, standIns := [], harness := (true, "5ccc04e67c6688cfb64492ea3a59a9546e88a400448c7ddc22206f917b19c9e2"), looks := true }, kinds := [], alts := [], laidByText := true, laidKinds := [.listed, .data], laidTests := true, laidLooks := .later }
def ScopeChecksUptoCardSaid : Prop := Claim7.holds Tryd.pinned (.plain (OpenSpec.upto scopeChecksSpec)) scopeChecksUptoCard

/-- THE SECOND FORM's CARD OF 'scriptoriumlaw17.ScopeOuter'. -/
def scopeOuterUptoCard : Claim7 := { stood := { row := scopeOuterUptoRow, standIns := [], harness := (true, "5ccc04e67c6688cfb64492ea3a59a9546e88a400448c7ddc22206f917b19c9e2"), looks := true }, kinds := [], alts := [], laidByText := true, laidKinds := [.listed, .data], laidTests := true, laidLooks := .later }
def ScopeOuterUptoCardSaid : Prop := Claim7.holds Tryd.pinned (.plain (OpenSpec.upto scopeOuterSpec)) scopeOuterUptoCard

/-- THE SECOND FORM's CARD OF 'scriptoriumlaw17.ScopeMany'. -/
def scopeManyUptoCard : Claim7 := { stood := { row := scopeManyUptoRow, standIns := [], harness := (true, "5ccc04e67c6688cfb64492ea3a59a9546e88a400448c7ddc22206f917b19c9e2"), looks := true }, kinds := [], alts := [], laidByText := true, laidKinds := [.listed, .data], laidTests := true, laidLooks := .later }
def ScopeManyUptoCardSaid : Prop := Claim7.holds Tryd.pinned (.plain (OpenSpec.upto scopeManySpec)) scopeManyUptoCard
end Rows
end Go.Proofs.YtcedghechlgecaaDoor
