/- 'TopQuiet': for every input the law returns true, and each argument reads as it did: the statement of the card. No condition. -/
import Derived.Test.YtcdiojlpmgfmeaaGreatDoorTopQuietC
import Derived.Test.YtcdiojlpmgfmeaaGreatDoorCards
import Derived.Test.YtcdiojlpmgfmeaaGreatDoorTie2
import Derived.Test.YtcdiojlpmgfmeaaGreatDoorGn
import Derived.SevenTiedAt
namespace Go.Proofs.YtcdiojlpmgfmeaaGreatDoor.KTopQuiet
open Go Go.X Go.Proofs.YtcdiojlpmgfmeaaGreatDoor
open Go.ChangeShapes Go.WideShapes Go.ChangeAt Go.RowKit
set_option maxRecDepth 100000
set_option maxHeartbeats 0
set_option linter.unusedVariables false
theorem d_w : Rows.topQuietRow.wfByText (OpenSpec.ofChange Rows.topQuietSpec) = true := by decide +kernel
theorem d_g : false = Rows.topQuietRow.goesBy Tryz.pinned.checked.prog := Gn.goesBy_of Gn.noGo rfl
theorem proved : Rows.TopQuietCardSaid :=
  Claim7.holds_tied_plain_at .later [] [.data, .data, .data, .data, .listed, .sentinel, .sentinel] true (true, "b0acdad4d94bbaa9e5ff85c09d1b1300e2064a009a455e4859811ba58ad4b12e") true
    holds (fun _ h => by cases h) d_w (fun _ h => by cases h) topQuiet_row_tie rfl ⟨rfl, rfl⟩ (by decide +kernel) rfl
    (fun f fn hf hfn => by
      obtain rfl : f = 4 := Option.some.inj ((show Tryz.prog.funcNamed Rows.topQuietRow.func = some 4 by kernel_rfl).symm.trans hf) |>.symm
      obtain rfl : fn = Tryz.f4 := (Option.some.inj (Tryz.func4.symm.trans hfn)).symm
      exact ⟨by decide +kernel, fun j t ht => by
        rw [Tryz.params4] at ht
        have hall : ∀ x ∈ ([34] : List Nat), Tryz.prog.wantsStandIn x = false := by
          intro x hx
          simp only [List.mem_cons, List.mem_nil_iff, or_false] at hx
          rcases hx with rfl
          all_goals decide +kernel
        exact hall t (by have := Array.mem_of_getElem? ht; simpa using this)⟩)
    d_g

end Go.Proofs.YtcdiojlpmgfmeaaGreatDoor.KTopQuiet
