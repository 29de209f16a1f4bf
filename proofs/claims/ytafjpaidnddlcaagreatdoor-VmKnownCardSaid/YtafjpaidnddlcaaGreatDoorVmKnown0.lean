/- Some of the runs of this claim. No condition. -/
import Derived.Test.YtafjpaidnddlcaaGreatDoorVmKnownB
namespace Go.Proofs.YtafjpaidnddlcaaGreatDoor.KVmKnown
open Go Go.X
set_option maxRecDepth 100000
set_option maxHeartbeats 0
set_option linter.unusedVariables false
noncomputable def c0 : List (List AV) := [[.symS 30 (.negSucc 28)]]
theorem e0 : runs C0 3 (hs0 5 gl) c0 = True := by kernel_rfl
noncomputable def c1 : List (List AV) := [[.symS 30 (.negSucc 27)]]
theorem e1 : runs C0 3 (hs0 5 gl) c1 = True := by kernel_rfl
noncomputable def c2 : List (List AV) := [[.symS 30 (.negSucc 26)]]
theorem e2 : runs C0 3 (hs0 5 gl) c2 = True := by kernel_rfl
noncomputable def c3 : List (List AV) := [[.symS 30 (.negSucc 25)]]
theorem e3 : runs C0 3 (hs0 5 gl) c3 = True := by kernel_rfl
noncomputable def c4 : List (List AV) := [[.symS 30 (.negSucc 24)]]
theorem e4 : runs C0 3 (hs0 5 gl) c4 = True := by kernel_rfl
noncomputable def c5 : List (List AV) := [[.symS 30 (.negSucc 23)]]
theorem e5 : runs C0 3 (hs0 5 gl) c5 = True := by kernel_rfl
noncomputable def c6 : List (List AV) := [[.symS 30 (.negSucc 22)]]
theorem e6 : runs C0 3 (hs0 5 gl) c6 = True := by kernel_rfl
noncomputable def c7 : List (List AV) := [[.symS 30 (.negSucc 21)]]
theorem e7 : runs C0 3 (hs0 5 gl) c7 = True := by kernel_rfl
end Go.Proofs.YtafjpaidnddlcaaGreatDoor.KVmKnown
