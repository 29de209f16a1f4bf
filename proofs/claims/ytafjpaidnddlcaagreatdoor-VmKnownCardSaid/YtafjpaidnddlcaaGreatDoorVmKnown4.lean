/- Some of the runs of this claim. No condition. -/
import Derived.Test.YtafjpaidnddlcaaGreatDoorVmKnownB
namespace Go.Proofs.YtafjpaidnddlcaaGreatDoor.KVmKnown
open Go Go.X
set_option maxRecDepth 100000
set_option maxHeartbeats 0
set_option linter.unusedVariables false
noncomputable def c32 : List (List AV) := [[.symS 30 (.ofNat 3)]]
theorem e32 : runs C0 3 (hs0 5 gl) c32 = True := by kernel_rfl
noncomputable def c33 : List (List AV) := [[.symS 30 (.ofNat 4)]]
theorem e33 : runs C0 3 (hs0 5 gl) c33 = True := by kernel_rfl
noncomputable def c34 : List (List AV) := [[.symS 30 (.ofNat 5)]]
theorem e34 : runs C0 3 (hs0 5 gl) c34 = True := by kernel_rfl
noncomputable def c35 : List (List AV) := [[.symS 30 (.ofNat 6)]]
theorem e35 : runs C0 3 (hs0 5 gl) c35 = True := by kernel_rfl
noncomputable def c36 : List (List AV) := [[.symS 30 (.ofNat 7)]]
theorem e36 : runs C0 3 (hs0 5 gl) c36 = True := by kernel_rfl
noncomputable def c37 : List (List AV) := [[.symS 30 (.ofNat 8)]]
theorem e37 : runs C0 3 (hs0 5 gl) c37 = True := by kernel_rfl
noncomputable def c38 : List (List AV) := [[.symS 30 (.ofNat 9)]]
theorem e38 : runs C0 3 (hs0 5 gl) c38 = True := by kernel_rfl
noncomputable def c39 : List (List AV) := [[.symS 30 (.ofNat 10)]]
theorem e39 : runs C0 3 (hs0 5 gl) c39 = True := by kernel_rfl
end Go.Proofs.YtafjpaidnddlcaaGreatDoor.KVmKnown
