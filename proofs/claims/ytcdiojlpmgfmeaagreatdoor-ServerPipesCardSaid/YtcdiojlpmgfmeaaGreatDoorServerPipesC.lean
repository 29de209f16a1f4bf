/- 'ServerPipes': what the row says holds. No condition. -/
import Derived.Test.YtcdiojlpmgfmeaaGreatDoorServerPipesE
import Derived.Test.YtcdiojlpmgfmeaaGreatDoorServerPipesF
namespace Go.Proofs.YtcdiojlpmgfmeaaGreatDoor.KServerPipes
open Go Go.X
open Go.ChangeShapes Go.WideShapes Go.ChangeAt Go.RowKit
set_option maxRecDepth 100000
set_option maxHeartbeats 0
set_option linter.unusedVariables false
theorem holds : Rows.ServerPipesSaid :=
  OpenClaim.holds_of_cond 3 Tryz.f3 rfl rfl rfl rfl rfl rfl rfl ⟨rfl, rfl, rfl, rfl, rfl⟩ rfl rfl rfl rfl rfl (by decide +kernel) Tryz.func3 KServerPipesF.closed
    (of_decide_eq_true (by decide +kernel)) (by unfold Func.isWrapper; rw [if_neg (of_decide_eq_false (by decide +kernel))]; exact ⟨rfl, rfl⟩)
    (fun os started H enc _ F0 => by rw [OpenClaim.pre_eq_preRow]; exact lifted os started H enc F0)
end Go.Proofs.YtcdiojlpmgfmeaaGreatDoor.KServerPipes
