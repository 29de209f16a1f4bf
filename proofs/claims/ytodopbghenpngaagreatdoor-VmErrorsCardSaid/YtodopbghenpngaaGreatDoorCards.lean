/-
  DERIVED. GIVEN WITH THE SEED: THE CARDS: each row of YtodopbghenpngaaGreatDoorRows.lean that lists a variable, with what it lists TIED to the program's text (the seventh form; the later family's looks); each row that meets fmt, with fmt's text TOLD by the authors' own Lean function (tested against real Go, not proved from fmt's source: count such statements apart). THE CARD IS WHAT COUNTS. Prove the row's statement (the work); the ties are given (YtodopbghenpngaaGreatDoorTie.lean); close each card by the builder's one call (the guide's Derived/Test/ToyasCard.lean, 'card_holds'). Laid BY PROGRAM, IN A SANDBOX (cutbox-door.mjs). By AI agents, Wed Nov 11 2026. No macro, syntax, notation, axiom, sorry.
-/
import Derived.Test.YtodopbghenpngaaGreatDoorRows
import GoSem.ClaimSeven
namespace Go.Proofs.YtodopbghenpngaaGreatDoor
namespace Rows

/-- THE TIED CARD OF 'scriptoriumlaw21.VmErrors'. -/
def vmErrorsCard : Claim7 := { stood := { row := vmErrorsRow, standIns := [], harness := (true, "87496610c1d91e9a7ccb2fc89c08cb67ebfc450770b3366b95f8516c63ff9e73"), looks := true }, kinds := [], alts := [], laidByText := true, laidKinds := [.data, .data, .data, .sentinel, .sentinel, .listed, .data], laidTests := true, laidLooks := .later }
def VmErrorsCardSaid : Prop := Claim7.holds Tryz.pinned (.plain (OpenSpec.ofChange vmErrorsSpec)) vmErrorsCard

/-- THE TIED CARD OF 'scriptoriumlaw21.VmDeep'. -/
def vmDeepCard : Claim7 := { stood := { row := vmDeepRow, standIns := [], harness := (true, "87496610c1d91e9a7ccb2fc89c08cb67ebfc450770b3366b95f8516c63ff9e73"), looks := true }, kinds := [], alts := [], laidByText := true, laidKinds := [.data, .data, .data, .sentinel, .sentinel, .listed, .data], laidTests := true, laidLooks := .later }
def VmDeepCardSaid : Prop := Claim7.holds Tryz.pinned (.plain (OpenSpec.ofChange vmDeepSpec)) vmDeepCard

/-- THE TIED CARD OF 'scriptoriumlaw21.VmSteps'. -/
def vmStepsCard : Claim7 := { stood := { row := vmStepsRow, standIns := [], harness := (true, "87496610c1d91e9a7ccb2fc89c08cb67ebfc450770b3366b95f8516c63ff9e73"), looks := true }, kinds := [], alts := [], laidByText := true, laidKinds := [.data, .data, .data, .sentinel, .sentinel, .listed, .data], laidTests := true, laidLooks := .later }
def VmStepsCardSaid : Prop := Claim7.holds Tryz.pinned (.plain (OpenSpec.ofChange vmStepsSpec)) vmStepsCard

/-- THE SECOND FORM's CARD OF 'scriptoriumlaw21.VmErrors'. -/
def vmErrorsUptoCard : Claim7 := { stood := { row := vmErrorsUptoRow, standIns := [], harness := (true, "87496610c1d91e9a7ccb2fc89c08cb67ebfc450770b3366b95f8516c63ff9e73"), looks := true }, kinds := [], alts := [], laidByText := true, laidKinds := [.data, .data, .data, .sentinel, .sentinel, .listed, .data], laidTests := true, laidLooks := .later }
def VmErrorsUptoCardSaid : Prop := Claim7.holds Tryz.pinned (.plain (OpenSpec.upto vmErrorsSpec)) vmErrorsUptoCard

/-- THE SECOND FORM's CARD OF 'scriptoriumlaw21.VmDeep'. -/
def vmDeepUptoCard : Claim7 := { stood := { row := vmDeepUptoRow, standIns := [], harness := (true, "87496610c1d91e9a7ccb2fc89c08cb67ebfc450770b3366b95f8516c63ff9e73"), looks := true }, kinds := [], alts := [], laidByText := true, laidKinds := [.data, .data, .data, .sentinel, .sentinel, .listed, .data], laidTests := true, laidLooks := .later }
def VmDeepUptoCardSaid : Prop := Claim7.holds Tryz.pinned (.plain (OpenSpec.upto vmDeepSpec)) vmDeepUptoCard

/-- THE SECOND FORM's CARD OF 'scriptoriumlaw21.VmSteps'. -/
def vmStepsUptoCard : Claim7 := { stood := { row := vmStepsUptoRow, standIns := [], harness := (true, "87496610c1d91e9a7ccb2fc89c08cb67ebfc450770b3366b95f8516c63ff9e73"), looks := true }, kinds := [], alts := [], laidByText := true, laidKinds := [.data, .data, .data, .sentinel, .sentinel, .listed, .data], laidTests := true, laidLooks := .later }
def VmStepsUptoCardSaid : Prop := Claim7.holds Tryz.pinned (.plain (OpenSpec.upto vmStepsSpec)) vmStepsUptoCard
end Rows
end Go.Proofs.YtodopbghenpngaaGreatDoor
