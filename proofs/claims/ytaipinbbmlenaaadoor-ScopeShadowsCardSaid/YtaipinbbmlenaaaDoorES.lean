/- The small scripts of 'ScopeShadows', each worked out. No condition. -/
import Derived.Test.YtaipinbbmlenaaaDoorGs
import Derived.Lib.LaidTab
import Derived.Lib.Space
namespace Go.Proofs.YtaipinbbmlenaaaDoor.G
open Go Go.X
set_option maxRecDepth 100000
set_option maxHeartbeats 0
set_option linter.unusedVariables false
def spaces : List AV := Lib.asciiSpaceTab.map fun z => .int 1 z
noncomputable def init (k : AH → Prop) : Prop := storeL spaces .e 0 fun c n => setK ⟨.e, 3⟩ 0 (.cells c n 2) fun H => setK H 1 .dead fun H => setK H 2 .dead k
noncomputable def hS (c d : (Int → Prop) → Prop) (H : AH) (K : KF) : Prop := (fun (R : f7_R) (x1 : AV → AV → AH → Prop) => pNewS (newK H) 6 1 [(.str 4 1701869940), (.str 4 1819042147), (.str 1 120), (.str 4 1398359371), (.str 5 491496043109), (.str 2 31097)] fun v1 H2 => c (fun z11 => (pIdx 1 v1 (.int 0 z11) fun v12 => pLoad v12 H2 fun v13 => sCat (.str 9 598105442917749387108) v13 fun v14 => sCat v14 (.str 5 138263149856) fun v15 => sCat v15 v13 fun v16 => sCat v16 (.str 9 597532643198890949920) fun v17 => sCat (.str 4 544370534) v13 fun v18 => sCat v18 (.str 11 39211655901626167388552480) fun v19 => sCat v19 v13 fun v20 => sCat v20 (.str 9 597532643198907727136) fun v21 => sCat (.str 7 9056037872234342) v13 fun v22 => sCat v22 (.str 12 10038183913210271127856638240) fun v23 => sCat v23 v13 fun v24 => sCat v24 (.str 9 597532643199847251232) fun v25 => sCat (.str 19 901650070909709479950055364702517598932397932) v13 fun v26 => sCat v26 (.str 2 8233) fun v27 => sCat v27 v13 fun v28 => sCat v28 (.str 12 10037042670875990535618706720) fun v29 => sCat v29 v13 fun v30 => sCat v30 (.str 5 139123909920) fun v31 => sCat (.str 13 2568843316891328441039279121778) v13 fun v32 => sCat v32 (.str 11 39197587105717731738008864) fun v33 => sCat v33 v13 fun v34 => sCat v34 (.str 1 32) fun v35 => one v17 (one v21 (one v25 (one v31 (one v35 (pNewS (newK H2) 5 1 [v17, v21, v25, v31, v35] fun v36 H37 => d (fun z39 => wrapK 0 z39 fun z40 => pIdx 1 v36 (.int 0 z40) fun v41 => pLoad v41 H37 fun v42 => x1 v13 v42 H37))))))))) f7_rr (f7_p1 f7_rr K)
def cS (n : Int) (k : Int → Prop) : Prop := forceI (Int.tmod n 6) fun z => wrapK 0 (Int.add z 6) fun z => forceI (Int.tmod z 6) k
def dS (n : Int) (k : Int → Prop) : Prop := wrapK 3 n fun z => bI (iEq (.ofNat 5) 0) False (forceI (Int.tmod z (.ofNat 5)) k)
theorem stA (n m : Int) (K : KF) : (init fun H => f7 n m H K) = init fun H => hS (cS n) (dS m) H K := by kernel_rfl
theorem e0_0 : (init fun H => hS (forceI (.ofNat 0)) (forceI (.ofNat 0)) H (isB true)) = True := by kernel_rfl
theorem e0_1 : (init fun H => hS (forceI (.ofNat 0)) (forceI (.ofNat 1)) H (isB true)) = True := by kernel_rfl
theorem e0_2 : (init fun H => hS (forceI (.ofNat 0)) (forceI (.ofNat 2)) H (isB true)) = True := by kernel_rfl
theorem e0_3 : (init fun H => hS (forceI (.ofNat 0)) (forceI (.ofNat 3)) H (isB true)) = True := by kernel_rfl
theorem e0_4 : (init fun H => hS (forceI (.ofNat 0)) (forceI (.ofNat 4)) H (isB true)) = True := by kernel_rfl
theorem e1_0 : (init fun H => hS (forceI (.ofNat 1)) (forceI (.ofNat 0)) H (isB true)) = True := by kernel_rfl
theorem e1_1 : (init fun H => hS (forceI (.ofNat 1)) (forceI (.ofNat 1)) H (isB true)) = True := by kernel_rfl
theorem e1_2 : (init fun H => hS (forceI (.ofNat 1)) (forceI (.ofNat 2)) H (isB true)) = True := by kernel_rfl
theorem e1_3 : (init fun H => hS (forceI (.ofNat 1)) (forceI (.ofNat 3)) H (isB true)) = True := by kernel_rfl
theorem e1_4 : (init fun H => hS (forceI (.ofNat 1)) (forceI (.ofNat 4)) H (isB true)) = True := by kernel_rfl
theorem e2_0 : (init fun H => hS (forceI (.ofNat 2)) (forceI (.ofNat 0)) H (isB true)) = True := by kernel_rfl
theorem e2_1 : (init fun H => hS (forceI (.ofNat 2)) (forceI (.ofNat 1)) H (isB true)) = True := by kernel_rfl
theorem e2_2 : (init fun H => hS (forceI (.ofNat 2)) (forceI (.ofNat 2)) H (isB true)) = True := by kernel_rfl
theorem e2_3 : (init fun H => hS (forceI (.ofNat 2)) (forceI (.ofNat 3)) H (isB true)) = True := by kernel_rfl
theorem e2_4 : (init fun H => hS (forceI (.ofNat 2)) (forceI (.ofNat 4)) H (isB true)) = True := by kernel_rfl
theorem e3_0 : (init fun H => hS (forceI (.ofNat 3)) (forceI (.ofNat 0)) H (isB true)) = True := by kernel_rfl
theorem e3_1 : (init fun H => hS (forceI (.ofNat 3)) (forceI (.ofNat 1)) H (isB true)) = True := by kernel_rfl
theorem e3_2 : (init fun H => hS (forceI (.ofNat 3)) (forceI (.ofNat 2)) H (isB true)) = True := by kernel_rfl
theorem e3_3 : (init fun H => hS (forceI (.ofNat 3)) (forceI (.ofNat 3)) H (isB true)) = True := by kernel_rfl
theorem e3_4 : (init fun H => hS (forceI (.ofNat 3)) (forceI (.ofNat 4)) H (isB true)) = True := by kernel_rfl
theorem e4_0 : (init fun H => hS (forceI (.ofNat 4)) (forceI (.ofNat 0)) H (isB true)) = True := by kernel_rfl
theorem e4_1 : (init fun H => hS (forceI (.ofNat 4)) (forceI (.ofNat 1)) H (isB true)) = True := by kernel_rfl
theorem e4_2 : (init fun H => hS (forceI (.ofNat 4)) (forceI (.ofNat 2)) H (isB true)) = True := by kernel_rfl
theorem e4_3 : (init fun H => hS (forceI (.ofNat 4)) (forceI (.ofNat 3)) H (isB true)) = True := by kernel_rfl
theorem e4_4 : (init fun H => hS (forceI (.ofNat 4)) (forceI (.ofNat 4)) H (isB true)) = True := by kernel_rfl
theorem e5_0 : (init fun H => hS (forceI (.ofNat 5)) (forceI (.ofNat 0)) H (isB true)) = True := by kernel_rfl
theorem e5_1 : (init fun H => hS (forceI (.ofNat 5)) (forceI (.ofNat 1)) H (isB true)) = True := by kernel_rfl
theorem e5_2 : (init fun H => hS (forceI (.ofNat 5)) (forceI (.ofNat 2)) H (isB true)) = True := by kernel_rfl
theorem e5_3 : (init fun H => hS (forceI (.ofNat 5)) (forceI (.ofNat 3)) H (isB true)) = True := by kernel_rfl
theorem e5_4 : (init fun H => hS (forceI (.ofNat 5)) (forceI (.ofNat 4)) H (isB true)) = True := by kernel_rfl
end Go.Proofs.YtaipinbbmlenaaaDoor.G
