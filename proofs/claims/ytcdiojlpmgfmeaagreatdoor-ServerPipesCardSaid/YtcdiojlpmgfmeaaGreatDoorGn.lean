/- No function of the program starts another goroutine. No condition. -/
import Derived.Test.YtcdiojlpmgfmeaaGreatDoorRows
import Derived.SevenTiedAt
namespace Go.Proofs.YtcdiojlpmgfmeaaGreatDoor.Gn
open Go
set_option maxRecDepth 100000
set_option maxHeartbeats 0
theorem goes_of {P : Program} (h : P.funcs.any Func.goes = false) (f : FuncId) : P.goes f = false := by
  unfold Program.goes
  rw [h, Bool.and_false, Bool.or_false, List.any_eq_false]
  intro g _
  cases e : P.funcs[g]? with
  | none => simp
  | some fn =>
    obtain ⟨hg, e⟩ := Array.getElem?_eq_some_iff.1 e
    have h1 := Array.any_eq_false.1 h g hg
    rw [e] at h1
    simpa using h1
theorem goesBy_of {P : Program} {c : OpenClaim} (h : P.funcs.any Func.goes = false) (hs : c.start = .entering) : false = c.goesBy P := by
  unfold OpenClaim.goesBy Program.goesAt Program.goesFrom
  rw [hs]
  cases e : P.funcNamed c.func with
  | none => rfl
  | some f => simp [goes_of h f]
theorem noGo : Tryz.pinned.checked.prog.funcs.any Func.goes = false := by kernel_rfl
end Go.Proofs.YtcdiojlpmgfmeaaGreatDoor.Gn
