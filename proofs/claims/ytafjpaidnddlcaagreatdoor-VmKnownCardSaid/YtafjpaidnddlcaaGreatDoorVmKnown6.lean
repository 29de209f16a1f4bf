/- Some of the runs of this claim. No condition. -/
import Derived.Test.YtafjpaidnddlcaaGreatDoorVmKnownB
namespace Go.Proofs.YtafjpaidnddlcaaGreatDoor.KVmKnown
open Go Go.X
set_option maxRecDepth 100000
set_option maxHeartbeats 0
set_option linter.unusedVariables false
noncomputable def c48 : List (List AV) := [[.symS 30 (.ofNat 19)]]
theorem e48 : runs C0 3 (hs0 5 gl) c48 = True := by kernel_rfl
noncomputable def c49 : List (List AV) := [[.symS 30 (.ofNat 20)]]
theorem e49 : runs C0 3 (hs0 5 gl) c49 = True := by kernel_rfl
noncomputable def c50 : List (List AV) := [[.symS 30 (.ofNat 21)]]
theorem e50 : runs C0 3 (hs0 5 gl) c50 = True := by kernel_rfl
noncomputable def c51 : List (List AV) := [[.symS 30 (.ofNat 22)]]
theorem e51 : runs C0 3 (hs0 5 gl) c51 = True := by kernel_rfl
noncomputable def c52 : List (List AV) := [[.symS 30 (.ofNat 23)]]
theorem e52 : runs C0 3 (hs0 5 gl) c52 = True := by kernel_rfl
noncomputable def c53 : List (List AV) := [[.symS 30 (.ofNat 24)]]
theorem e53 : runs C0 3 (hs0 5 gl) c53 = True := by kernel_rfl
noncomputable def c54 : List (List AV) := [[.symS 30 (.ofNat 25)]]
theorem e54 : runs C0 3 (hs0 5 gl) c54 = True := by kernel_rfl
noncomputable def c55 : List (List AV) := [[.symS 30 (.ofNat 26)]]
theorem e55 : runs C0 3 (hs0 5 gl) c55 = True := by kernel_rfl
end Go.Proofs.YtafjpaidnddlcaaGreatDoor.KVmKnown
