/- 'TopQuiet': what the row says holds. No condition. -/
import Derived.Test.YtcdiojlpmgfmeaaGreatDoorTopQuietE
import Derived.Test.YtcdiojlpmgfmeaaGreatDoorTopQuietF
namespace Go.Proofs.YtcdiojlpmgfmeaaGreatDoor.KTopQuiet
open Go Go.X Go.Proofs.YtcdiojlpmgfmeaaGreatDoor
open Go.ChangeShapes Go.WideShapes Go.ChangeAt Go.RowKit
set_option maxRecDepth 100000
set_option maxHeartbeats 0
set_option linter.unusedVariables false
theorem holds : Rows.TopQuietSaid :=
  OpenClaim.holds_of_cond 4 Tryz.f4 rfl rfl rfl rfl rfl rfl rfl ⟨rfl, rfl, rfl, rfl, rfl⟩ rfl rfl rfl rfl rfl (by decide +kernel) Tryz.func4 KTopQuietF.closed
    (of_decide_eq_true (by decide +kernel)) (by unfold Func.isWrapper; rw [if_neg (of_decide_eq_false (by decide +kernel))]; exact ⟨rfl, rfl⟩)
    (fun os started H enc _ F0 => by rw [OpenClaim.pre_eq_preRow]; exact lifted os started H enc F0)
end Go.Proofs.YtcdiojlpmgfmeaaGreatDoor.KTopQuiet
