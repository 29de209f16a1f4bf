/- Some of the runs of this claim. No condition. -/
import Derived.Test.YtafjpaidnddlcaaGreatDoorVmKnownB
namespace Go.Proofs.YtafjpaidnddlcaaGreatDoor.KVmKnown
open Go Go.X
set_option maxRecDepth 100000
set_option maxHeartbeats 0
set_option linter.unusedVariables false
noncomputable def c56 : List (List AV) := [[.symS 30 (.ofNat 27)]]
theorem e56 : runs C0 3 (hs0 5 gl) c56 = True := by kernel_rfl
noncomputable def c57 : List (List AV) := [[.symS 30 (.ofNat 28)]]
theorem e57 : runs C0 3 (hs0 5 gl) c57 = True := by kernel_rfl
noncomputable def c58 : List (List AV) := [[.symS 30 (.ofNat 29)]]
theorem e58 : runs C0 3 (hs0 5 gl) c58 = True := by kernel_rfl
end Go.Proofs.YtafjpaidnddlcaaGreatDoor.KVmKnown
