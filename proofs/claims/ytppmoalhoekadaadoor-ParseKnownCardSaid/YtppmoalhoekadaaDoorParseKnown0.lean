/- Some of the runs of this claim. No condition. -/
import Derived.Test.YtppmoalhoekadaaDoorParseKnownB
namespace Go.Proofs.YtppmoalhoekadaaDoor.KParseKnown
open Go Go.X
set_option maxRecDepth 100000
set_option maxHeartbeats 0
set_option linter.unusedVariables false
noncomputable def c0 : List (List AV) := [[.symS 32 (.negSucc 30)], [.symS 32 (.negSucc 29)], [.symS 32 (.negSucc 28)], [.symS 32 (.negSucc 27)], [.symS 32 (.negSucc 26)], [.symS 32 (.negSucc 25)], [.symS 32 (.negSucc 24)], [.symS 32 (.negSucc 23)]]
theorem e0 : runs C0 4 (hs0 5 gl) c0 = True := by kernel_rfl
noncomputable def c1 : List (List AV) := [[.symS 32 (.negSucc 22)], [.symS 32 (.negSucc 21)], [.symS 32 (.negSucc 20)], [.symS 32 (.negSucc 19)], [.symS 32 (.negSucc 18)], [.symS 32 (.negSucc 17)], [.symS 32 (.negSucc 16)], [.symS 32 (.negSucc 15)]]
theorem e1 : runs C0 4 (hs0 5 gl) c1 = True := by kernel_rfl
noncomputable def c2 : List (List AV) := [[.symS 32 (.negSucc 14)], [.symS 32 (.negSucc 13)], [.symS 32 (.negSucc 12)], [.symS 32 (.negSucc 11)], [.symS 32 (.negSucc 10)], [.symS 32 (.negSucc 9)], [.symS 32 (.negSucc 8)], [.symS 32 (.negSucc 7)]]
theorem e2 : runs C0 4 (hs0 5 gl) c2 = True := by kernel_rfl
noncomputable def c3 : List (List AV) := [[.symS 32 (.negSucc 6)], [.symS 32 (.negSucc 5)], [.symS 32 (.negSucc 4)], [.symS 32 (.negSucc 3)], [.symS 32 (.negSucc 2)], [.symS 32 (.negSucc 1)], [.symS 32 (.negSucc 0)], [.symS 32 (.ofNat 0)]]
theorem e3 : runs C0 4 (hs0 5 gl) c3 = True := by kernel_rfl
noncomputable def c4 : List (List AV) := [[.symS 32 (.ofNat 1)], [.symS 32 (.ofNat 2)], [.symS 32 (.ofNat 3)], [.symS 32 (.ofNat 4)], [.symS 32 (.ofNat 5)], [.symS 32 (.ofNat 6)], [.symS 32 (.ofNat 7)], [.symS 32 (.ofNat 8)]]
theorem e4 : runs C0 4 (hs0 5 gl) c4 = True := by kernel_rfl
noncomputable def c5 : List (List AV) := [[.symS 32 (.ofNat 9)], [.symS 32 (.ofNat 10)], [.symS 32 (.ofNat 11)], [.symS 32 (.ofNat 12)], [.symS 32 (.ofNat 13)], [.symS 32 (.ofNat 14)], [.symS 32 (.ofNat 15)], [.symS 32 (.ofNat 16)]]
theorem e5 : runs C0 4 (hs0 5 gl) c5 = True := by kernel_rfl
noncomputable def c6 : List (List AV) := [[.symS 32 (.ofNat 17)], [.symS 32 (.ofNat 18)], [.symS 32 (.ofNat 19)], [.symS 32 (.ofNat 20)], [.symS 32 (.ofNat 21)], [.symS 32 (.ofNat 22)], [.symS 32 (.ofNat 23)], [.symS 32 (.ofNat 24)]]
theorem e6 : runs C0 4 (hs0 5 gl) c6 = True := by kernel_rfl
noncomputable def c7 : List (List AV) := [[.symS 32 (.ofNat 25)], [.symS 32 (.ofNat 26)], [.symS 32 (.ofNat 27)], [.symS 32 (.ofNat 28)], [.symS 32 (.ofNat 29)], [.symS 32 (.ofNat 30)], [.symS 32 (.ofNat 31)]]
theorem e7 : runs C0 4 (hs0 5 gl) c7 = True := by kernel_rfl
end Go.Proofs.YtppmoalhoekadaaDoor.KParseKnown
