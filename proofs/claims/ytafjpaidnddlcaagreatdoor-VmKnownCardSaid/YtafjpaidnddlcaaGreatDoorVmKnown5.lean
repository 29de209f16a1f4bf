/- Some of the runs of this claim. No condition. -/
import Derived.Test.YtafjpaidnddlcaaGreatDoorVmKnownB
namespace Go.Proofs.YtafjpaidnddlcaaGreatDoor.KVmKnown
open Go Go.X
set_option maxRecDepth 100000
set_option maxHeartbeats 0
set_option linter.unusedVariables false
noncomputable def c40 : List (List AV) := [[.symS 30 (.ofNat 11)]]
theorem e40 : runs C0 3 (hs0 5 gl) c40 = True := by kernel_rfl
noncomputable def c41 : List (List AV) := [[.symS 30 (.ofNat 12)]]
theorem e41 : runs C0 3 (hs0 5 gl) c41 = True := by kernel_rfl
noncomputable def c42 : List (List AV) := [[.symS 30 (.ofNat 13)]]
theorem e42 : runs C0 3 (hs0 5 gl) c42 = True := by kernel_rfl
noncomputable def c43 : List (List AV) := [[.symS 30 (.ofNat 14)]]
theorem e43 : runs C0 3 (hs0 5 gl) c43 = True := by kernel_rfl
noncomputable def c44 : List (List AV) := [[.symS 30 (.ofNat 15)]]
theorem e44 : runs C0 3 (hs0 5 gl) c44 = True := by kernel_rfl
noncomputable def c45 : List (List AV) := [[.symS 30 (.ofNat 16)]]
theorem e45 : runs C0 3 (hs0 5 gl) c45 = True := by kernel_rfl
noncomputable def c46 : List (List AV) := [[.symS 30 (.ofNat 17)]]
theorem e46 : runs C0 3 (hs0 5 gl) c46 = True := by kernel_rfl
noncomputable def c47 : List (List AV) := [[.symS 30 (.ofNat 18)]]
theorem e47 : runs C0 3 (hs0 5 gl) c47 = True := by kernel_rfl
end Go.Proofs.YtafjpaidnddlcaaGreatDoor.KVmKnown
