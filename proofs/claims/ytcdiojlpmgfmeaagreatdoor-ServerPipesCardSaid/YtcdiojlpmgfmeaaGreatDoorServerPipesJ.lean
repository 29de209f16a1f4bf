/- 'ServerPipes': for every input the law returns true, and each argument reads as it did: the statement of the card. No condition. -/
import Derived.Test.YtcdiojlpmgfmeaaGreatDoorServerPipesC
import Derived.Test.YtcdiojlpmgfmeaaGreatDoorCards
import Derived.Test.YtcdiojlpmgfmeaaGreatDoorTie2
import Derived.Test.YtcdiojlpmgfmeaaGreatDoorGn
import Derived.SevenTiedAt
namespace Go.Proofs.YtcdiojlpmgfmeaaGreatDoor.KServerPipes
open Go Go.X
open Go.ChangeShapes Go.WideShapes Go.ChangeAt Go.RowKit
set_option maxRecDepth 100000
set_option maxHeartbeats 0
set_option linter.unusedVariables false
theorem d_w : Rows.serverPipesRow.wfByText (OpenSpec.ofChange Rows.serverPipesSpec) = true := by decide +kernel
theorem d_g : false = Rows.serverPipesRow.goesBy Tryz.pinned.checked.prog := Gn.goesBy_of Gn.noGo rfl
theorem proved : Rows.ServerPipesCardSaid :=
  Claim7.holds_tied_plain_at .later [] [.data, .data, .data, .data, .listed, .sentinel, .sentinel] true (true, "b0acdad4d94bbaa9e5ff85c09d1b1300e2064a009a455e4859811ba58ad4b12e") true
    holds (fun _ h => by cases h) d_w (fun _ h => by cases h) serverPipes_row_tie rfl ⟨rfl, rfl⟩ (by decide +kernel) rfl
    (fun f fn hf hfn => by
      obtain rfl : f = 3 := Option.some.inj ((show Tryz.prog.funcNamed Rows.serverPipesRow.func = some 3 by kernel_rfl).symm.trans hf) |>.symm
      obtain rfl : fn = Tryz.f3 := (Option.some.inj (Tryz.func3.symm.trans hfn)).symm
      exact ⟨by decide +kernel, fun j t ht => by
        rw [Tryz.params3] at ht
        have hall : ∀ x ∈ ([3, 3] : List Nat), Tryz.prog.wantsStandIn x = false := by
          intro x hx
          simp only [List.mem_cons, List.mem_nil_iff, or_false] at hx
          rcases hx with rfl | rfl
          all_goals decide +kernel
        exact hall t (by have := Array.mem_of_getElem? ht; simpa using this)⟩)
    d_g
end Go.Proofs.YtcdiojlpmgfmeaaGreatDoor.KServerPipes
