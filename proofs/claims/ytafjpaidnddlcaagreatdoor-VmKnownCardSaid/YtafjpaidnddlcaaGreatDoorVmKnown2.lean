/- Some of the runs of this claim. No condition. -/
import Derived.Test.YtafjpaidnddlcaaGreatDoorVmKnownB
namespace Go.Proofs.YtafjpaidnddlcaaGreatDoor.KVmKnown
open Go Go.X
set_option maxRecDepth 100000
set_option maxHeartbeats 0
set_option linter.unusedVariables false
noncomputable def c16 : List (List AV) := [[.symS 30 (.negSucc 12)]]
theorem e16 : runs C0 3 (hs0 5 gl) c16 = True := by kernel_rfl
noncomputable def c17 : List (List AV) := [[.symS 30 (.negSucc 11)]]
theorem e17 : runs C0 3 (hs0 5 gl) c17 = True := by kernel_rfl
noncomputable def c18 : List (List AV) := [[.symS 30 (.negSucc 10)]]
theorem e18 : runs C0 3 (hs0 5 gl) c18 = True := by kernel_rfl
noncomputable def c19 : List (List AV) := [[.symS 30 (.negSucc 9)]]
theorem e19 : runs C0 3 (hs0 5 gl) c19 = True := by kernel_rfl
noncomputable def c20 : List (List AV) := [[.symS 30 (.negSucc 8)]]
theorem e20 : runs C0 3 (hs0 5 gl) c20 = True := by kernel_rfl
noncomputable def c21 : List (List AV) := [[.symS 30 (.negSucc 7)]]
theorem e21 : runs C0 3 (hs0 5 gl) c21 = True := by kernel_rfl
noncomputable def c22 : List (List AV) := [[.symS 30 (.negSucc 6)]]
theorem e22 : runs C0 3 (hs0 5 gl) c22 = True := by kernel_rfl
noncomputable def c23 : List (List AV) := [[.symS 30 (.negSucc 5)]]
theorem e23 : runs C0 3 (hs0 5 gl) c23 = True := by kernel_rfl
end Go.Proofs.YtafjpaidnddlcaaGreatDoor.KVmKnown
