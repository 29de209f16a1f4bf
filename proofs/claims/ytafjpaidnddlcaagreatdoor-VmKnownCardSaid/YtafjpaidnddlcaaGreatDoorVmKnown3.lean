/- Some of the runs of this claim. No condition. -/
import Derived.Test.YtafjpaidnddlcaaGreatDoorVmKnownB
namespace Go.Proofs.YtafjpaidnddlcaaGreatDoor.KVmKnown
open Go Go.X
set_option maxRecDepth 100000
set_option maxHeartbeats 0
set_option linter.unusedVariables false
noncomputable def c24 : List (List AV) := [[.symS 30 (.negSucc 4)]]
theorem e24 : runs C0 3 (hs0 5 gl) c24 = True := by kernel_rfl
noncomputable def c25 : List (List AV) := [[.symS 30 (.negSucc 3)]]
theorem e25 : runs C0 3 (hs0 5 gl) c25 = True := by kernel_rfl
noncomputable def c26 : List (List AV) := [[.symS 30 (.negSucc 2)]]
theorem e26 : runs C0 3 (hs0 5 gl) c26 = True := by kernel_rfl
noncomputable def c27 : List (List AV) := [[.symS 30 (.negSucc 1)]]
theorem e27 : runs C0 3 (hs0 5 gl) c27 = True := by kernel_rfl
noncomputable def c28 : List (List AV) := [[.symS 30 (.negSucc 0)]]
theorem e28 : runs C0 3 (hs0 5 gl) c28 = True := by kernel_rfl
noncomputable def c29 : List (List AV) := [[.symS 30 (.ofNat 0)]]
theorem e29 : runs C0 3 (hs0 5 gl) c29 = True := by kernel_rfl
noncomputable def c30 : List (List AV) := [[.symS 30 (.ofNat 1)]]
theorem e30 : runs C0 3 (hs0 5 gl) c30 = True := by kernel_rfl
noncomputable def c31 : List (List AV) := [[.symS 30 (.ofNat 2)]]
theorem e31 : runs C0 3 (hs0 5 gl) c31 = True := by kernel_rfl
end Go.Proofs.YtafjpaidnddlcaaGreatDoor.KVmKnown
