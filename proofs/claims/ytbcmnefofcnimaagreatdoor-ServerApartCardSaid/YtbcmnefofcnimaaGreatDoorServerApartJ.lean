/- 'ServerApart': for every input the law returns true, and each argument reads as it did: the statement of the card. No condition. -/
import Derived.Test.YtbcmnefofcnimaaGreatDoorServerApartC
import Derived.Test.YtbcmnefofcnimaaGreatDoorCards
import Derived.Test.YtbcmnefofcnimaaGreatDoorTie2
import Derived.Test.YtbcmnefofcnimaaGreatDoorGn
import Derived.SevenTiedAt
namespace Go.Proofs.YtbcmnefofcnimaaGreatDoor.KServerApart
open Go Go.X
open Go.ChangeShapes Go.WideShapes Go.ChangeAt Go.RowKit
set_option maxRecDepth 100000
set_option maxHeartbeats 0
set_option linter.unusedVariables false
theorem d_w : Rows.serverApartRow.wfByText (OpenSpec.ofChange Rows.serverApartSpec) = true := by decide +kernel
theorem d_g : false = Rows.serverApartRow.goesBy Tryz.pinned.checked.prog := Gn.goesBy_of Gn.noGo rfl
theorem proved : Rows.ServerApartCardSaid :=
  Claim7.holds_tied_plain_at .later [] [.data, .data, .data, .sentinel, .sentinel, .listed, .data] true (true, "717b4f5cb6870cf11e5b3b779197e5fb4485064fb28980e26eb3d40b9ad2c604") true
    holds (fun _ h => by cases h) d_w (fun _ h => by cases h) serverApart_row_tie rfl ⟨rfl, rfl⟩ (by decide +kernel) rfl
    (fun f fn hf hfn => by
      obtain rfl : f = 4 := Option.some.inj ((show Tryz.prog.funcNamed Rows.serverApartRow.func = some 4 by kernel_rfl).symm.trans hf) |>.symm
      obtain rfl : fn = Tryz.f4 := (Option.some.inj (Tryz.func4.symm.trans hfn)).symm
      exact ⟨by decide +kernel, fun j t ht => by
        rw [Tryz.params4] at ht
        have hall : ∀ x ∈ ([3, 4] : List Nat), Tryz.prog.wantsStandIn x = false := by
          intro x hx
          simp only [List.mem_cons, List.mem_nil_iff, or_false] at hx
          rcases hx with rfl | rfl
          all_goals decide +kernel
        exact hall t (by have := Array.mem_of_getElem? ht; simpa using this)⟩)
    d_g
end Go.Proofs.YtbcmnefofcnimaaGreatDoor.KServerApart
