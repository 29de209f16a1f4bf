/-
  DERIVED. GIVEN WITH THE SEED: THE CARDS: each row of YtafjpaidnddlcaaGreatDoorRows.lean that lists a variable, with what it lists TIED to the program's text (the seventh form; the later family's looks); each row that meets fmt, with fmt's text TOLD by the authors' own Lean function (tested against real Go, not proved from fmt's source: count such statements apart). THE CARD IS WHAT COUNTS. Prove the row's statement (the work); the ties are given (YtafjpaidnddlcaaGreatDoorTie.lean); close each card by the builder's one call (the guide's Derived/Test/ToyasCard.lean, 'card_holds'). Laid BY PROGRAM, IN A SANDBOX (cutbox-door.mjs). By AI agents, Wed Nov 11 2026. No macro, syntax, notation, axiom, sorry.
-/
import Derived.Test.YtafjpaidnddlcaaGreatDoorRows
import GoSem.ClaimSeven
namespace Go.Proofs.YtafjpaidnddlcaaGreatDoor
namespace Rows

/-- THE TIED CARD OF 'scriptoriumlaw21.VmKnown'. -/
def vmKnownCard : Claim7 := { stood := { row := vmKnownRow, standIns := [], harness := (true, "a241caa26fe4da677c7422a72d9bd31c1c2b02f63c6ea6de91c0bbbb7729aa3a"), looks := true }, kinds := [], alts := [], laidByText := true, laidKinds := [.data, .data, .data, .sentinel, .sentinel, .listed, .data], laidTests := true, laidLooks := .later }
def VmKnownCardSaid : Prop := Claim7.holds Tryz.pinned (.plain (OpenSpec.ofChange vmKnownSpec)) vmKnownCard

/-- THE TIED CARD OF 'scriptoriumlaw21.VmErrors'. -/
def vmErrorsCard : Claim7 := { stood := { row := vmErrorsRow, standIns := [], harness := (true, "a241caa26fe4da677c7422a72d9bd31c1c2b02f63c6ea6de91c0bbbb7729aa3a"), looks := true }, kinds := [], alts := [], laidByText := true, laidKinds := [.data, .data, .data, .sentinel, .sentinel, .listed, .data], laidTests := true, laidLooks := .later }
def VmErrorsCardSaid : Prop := Claim7.holds Tryz.pinned (.plain (OpenSpec.ofChange vmErrorsSpec)) vmErrorsCard

/-- THE TIED CARD OF 'scriptoriumlaw21.VmGreat'. -/
def vmGreatCard : Claim7 := { stood := { row := vmGreatRow, standIns := [], harness := (true, "a241caa26fe4da677c7422a72d9bd31c1c2b02f63c6ea6de91c0bbbb7729aa3a"), looks := true }, kinds := [], alts := [], laidByText := true, laidKinds := [.data, .data, .data, .sentinel, .sentinel, .listed, .data], laidTests := true, laidLooks := .later }
def VmGreatCardSaid : Prop := Claim7.holds Tryz.pinned (.plain (OpenSpec.ofChange vmGreatSpec)) vmGreatCard

/-- THE TIED CARD OF 'scriptoriumlaw21.VmDeep'. -/
def vmDeepCard : Claim7 := { stood := { row := vmDeepRow, standIns := [], harness := (true, "a241caa26fe4da677c7422a72d9bd31c1c2b02f63c6ea6de91c0bbbb7729aa3a"), looks := true }, kinds := [], alts := [], laidByText := true, laidKinds := [.data, .data, .data, .sentinel, .sentinel, .listed, .data], laidTests := true, laidLooks := .later }
def VmDeepCardSaid : Prop := Claim7.holds Tryz.pinned (.plain (OpenSpec.ofChange vmDeepSpec)) vmDeepCard

/-- THE SECOND FORM's CARD OF 'scriptoriumlaw21.VmKnown'. -/
def vmKnownUptoCard : Claim7 := { stood := { row := vmKnownUptoRow, standIns := [], harness := (true, "a241caa26fe4da677c7422a72d9bd31c1c2b02f63c6ea6de91c0bbbb7729aa3a"), looks := true }, kinds := [], alts := [], laidByText := true, laidKinds := [.data, .data, .data, .sentinel, .sentinel, .listed, .data], laidTests := true, laidLooks := .later }
def VmKnownUptoCardSaid : Prop := Claim7.holds Tryz.pinned (.plain (OpenSpec.upto vmKnownSpec)) vmKnownUptoCard

/-- THE SECOND FORM's CARD OF 'scriptoriumlaw21.VmErrors'. -/
def vmErrorsUptoCard : Claim7 := { stood := { row := vmErrorsUptoRow, standIns := [], harness := (true, "a241caa26fe4da677c7422a72d9bd31c1c2b02f63c6ea6de91c0bbbb7729aa3a"), looks := true }, kinds := [], alts := [], laidByText := true, laidKinds := [.data, .data, .data, .sentinel, .sentinel, .listed, .data], laidTests := true, laidLooks := .later }
def VmErrorsUptoCardSaid : Prop := Claim7.holds Tryz.pinned (.plain (OpenSpec.upto vmErrorsSpec)) vmErrorsUptoCard

/-- THE SECOND FORM's CARD OF 'scriptoriumlaw21.VmGreat'. -/
def vmGreatUptoCard : Claim7 := { stood := { row := vmGreatUptoRow, standIns := [], harness := (true, "a241caa26fe4da677c7422a72d9bd31c1c2b02f63c6ea6de91c0bbbb7729aa3a"), looks := true }, kinds := [], alts := [], laidByText := true, laidKinds := [.data, .data, .data, .sentinel, .sentinel, .listed, .data], laidTests := true, laidLooks := .later }
def VmGreatUptoCardSaid : Prop := Claim7.holds Tryz.pinned (.plain (OpenSpec.upto vmGreatSpec)) vmGreatUptoCard

/-- THE SECOND FORM's CARD OF 'scriptoriumlaw21.VmDeep'. -/
def vmDeepUptoCard : Claim7 := { stood := { row := vmDeepUptoRow, standIns := [], harness := (true, "a241caa26fe4da677c7422a72d9bd31c1c2b02f63c6ea6de91c0bbbb7729aa3a"), looks := true }, kinds := [], alts := [], laidByText := true, laidKinds := [.data, .data, .data, .sentinel, .sentinel, .listed, .data], laidTests := true, laidLooks := .later }
def VmDeepUptoCardSaid : Prop := Claim7.holds Tryz.pinned (.plain (OpenSpec.upto vmDeepSpec)) vmDeepUptoCard
end Rows
end Go.Proofs.YtafjpaidnddlcaaGreatDoor
