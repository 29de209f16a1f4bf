/- Some of the runs of this claim. No condition. -/
import Derived.Test.YtafjpaidnddlcaaGreatDoorVmKnownB
namespace Go.Proofs.YtafjpaidnddlcaaGreatDoor.KVmKnown
open Go Go.X
set_option maxRecDepth 100000
set_option maxHeartbeats 0
set_option linter.unusedVariables false
noncomputable def c8 : List (List AV) := [[.symS 30 (.negSucc 20)]]
theorem e8 : runs C0 3 (hs0 5 gl) c8 = True := by kernel_rfl
noncomputable def c9 : List (List AV) := [[.symS 30 (.negSucc 19)]]
theorem e9 : runs C0 3 (hs0 5 gl) c9 = True := by kernel_rfl
noncomputable def c10 : List (List AV) := [[.symS 30 (.negSucc 18)]]
theorem e10 : runs C0 3 (hs0 5 gl) c10 = True := by kernel_rfl
noncomputable def c11 : List (List AV) := [[.symS 30 (.negSucc 17)]]
theorem e11 : runs C0 3 (hs0 5 gl) c11 = True := by kernel_rfl
noncomputable def c12 : List (List AV) := [[.symS 30 (.negSucc 16)]]
theorem e12 : runs C0 3 (hs0 5 gl) c12 = True := by kernel_rfl
noncomputable def c13 : List (List AV) := [[.symS 30 (.negSucc 15)]]
theorem e13 : runs C0 3 (hs0 5 gl) c13 = True := by kernel_rfl
noncomputable def c14 : List (List AV) := [[.symS 30 (.negSucc 14)]]
theorem e14 : runs C0 3 (hs0 5 gl) c14 = True := by kernel_rfl
noncomputable def c15 : List (List AV) := [[.symS 30 (.negSucc 13)]]
theorem e15 : runs C0 3 (hs0 5 gl) c15 = True := by kernel_rfl
end Go.Proofs.YtafjpaidnddlcaaGreatDoor.KVmKnown
