/- The small scripts of this claim, each worked out. No condition. -/
import Derived.Test.YtaipinbbmlenaaaDoorGc
import Derived.Test.YtaipinbbmlenaaaDoorY
import Derived.Lib.LaidTab
import Derived.Lib.Space
namespace Go.Proofs.YtaipinbbmlenaaaDoor.G
open Go Go.X
set_option maxRecDepth 100000
set_option maxHeartbeats 0
set_option linter.unusedVariables false
def spaces : List AV := Lib.asciiSpaceTab.map fun z => .int 1 z
noncomputable def init (k : AH → Prop) : Prop := storeL spaces .e 0 fun c n => setK ⟨.e, 3⟩ 0 (.cells c n 2) fun H => setK H 1 .dead fun H => setK H 2 .dead k
noncomputable def hG (r : Int) (H : AH) (K : KF) : Prop := (fun (R : f6_R) (x1 : AV → Int → AV → Int → AH → Prop) => pNewS (newK H) 20 1 [(.str 11 100762411883778895858918770), (.str 11 145223341672251482175663980), (.str 31 177446624942604592100216532417488874029336110181849848422253252826192113516), (.str 5 210994274424), (.str 8 3539896516463327604), (.str 23 4801110523168672460116579167516221651110075364272205676), (.str 5 461195539042), (.str 23 9619400813266782827012598941099129825149750847692433527), (.str 48 15457781129565232719794333424739654477568496718145342871535062070795554641399951597662837425679715103880935656482935), (.str 26 193036090819469996509929469962876167432324386167255918724539762), (.str 23 11505850596531562201247643574951433370350429971903704932), (.str 19 2239691282938286564258895520886718284474511206), (.str 40 877145456667180822533431902805296001588143549940102450832003383096962832603564676509025717874534), (.str 41 214519806504544754653975395644925166775593995369965329193931779583595342691877824971066801447399270), (.str 38 12786376864048229181537673876022563576614682776591127447780514031209603070866455442013316713), (.str 43 13596186418835030665422333114371179614743083641833644733568754818971120400171163055367252502828569292652), (.str 17 40536454348282491038074305623106460544876), (.str 19 1102090671558229872501094836899339219906880882), (.str 8 3539896516159817035), (.str 30 693150878596880262216199982294598179269061086705970790059736358147288940)] fun v1 H2 => pNewS (newK H2) 20 1 [(.int 0 (.negSucc 0)), (.int 0 (.ofNat 10)), (.int 0 (.negSucc 0)), (.int 0 (.ofNat 0)), (.int 0 (.ofNat 0)), (.int 0 (.negSucc 0)), (.int 0 (.ofNat 0)), (.int 0 (.negSucc 0)), (.int 0 (.ofNat 35)), (.int 0 (.negSucc 0)), (.int 0 (.ofNat 22)), (.int 0 (.ofNat 8)), (.int 0 (.ofNat 39)), (.int 0 (.negSucc 0)), (.int 0 (.ofNat 33)), (.int 0 (.ofNat 42)), (.int 0 (.ofNat 16)), (.int 0 (.ofNat 13)), (.int 0 (.negSucc 0)), (.int 0 (.ofNat 21))] fun v3 H4 => pLen v1 fun v5 => cI 0 v5 fun z6 => bI (iEq z6 0) False (bT (iEq z6 20) (forceI r fun z7 => pLen v1 fun v8 => cI 0 v8 fun z9 => wrapK 0 (Int.add z7 z9) fun z10 => pLen v1 fun v11 => cI 0 v11 fun z12 => bI (iEq z12 0) False (forceI (Int.tmod z10 z12) fun z13 => pIdx 1 v1 (.int 0 z13) fun v14 => pLoad v14 H4 fun v15 => R.2.1 v15 H4 fun o16 H17 => cR K o16 H17 fun v18 => onTup v18 fun l19 => nthK l19 0 fun v20 => onTup v18 fun l21 => nthK l21 1 fun v22 => cI 0 v22 fun z23 => onTup v18 fun l24 => nthK l24 2 fun v25 => cI 0 v25 fun z26 => x1 v3 z13 v20 z23 H17)))) f6_rr (f6_p1 f6_rr K)
theorem m19 : init (fun H => hG (.negSucc 18) H (isB true)) = True := by kernel_rfl
theorem m18 : init (fun H => hG (.negSucc 17) H (isB true)) = True := by kernel_rfl
theorem m17 : init (fun H => hG (.negSucc 16) H (isB true)) = True := by kernel_rfl
theorem m16 : init (fun H => hG (.negSucc 15) H (isB true)) = True := by kernel_rfl
theorem m15 : init (fun H => hG (.negSucc 14) H (isB true)) = True := by kernel_rfl
theorem m14 : init (fun H => hG (.negSucc 13) H (isB true)) = True := by kernel_rfl
theorem m13 : init (fun H => hG (.negSucc 12) H (isB true)) = True := by kernel_rfl
theorem m12 : init (fun H => hG (.negSucc 11) H (isB true)) = True := by kernel_rfl
theorem m11 : init (fun H => hG (.negSucc 10) H (isB true)) = True := by kernel_rfl
theorem m10 : init (fun H => hG (.negSucc 9) H (isB true)) = True := by kernel_rfl
theorem m9 : init (fun H => hG (.negSucc 8) H (isB true)) = True := by kernel_rfl
theorem m8 : init (fun H => hG (.negSucc 7) H (isB true)) = True := by kernel_rfl
theorem m7 : init (fun H => hG (.negSucc 6) H (isB true)) = True := by kernel_rfl
theorem m6 : init (fun H => hG (.negSucc 5) H (isB true)) = True := by kernel_rfl
theorem m5 : init (fun H => hG (.negSucc 4) H (isB true)) = True := by kernel_rfl
theorem m4 : init (fun H => hG (.negSucc 3) H (isB true)) = True := by kernel_rfl
theorem m3 : init (fun H => hG (.negSucc 2) H (isB true)) = True := by kernel_rfl
theorem m2 : init (fun H => hG (.negSucc 1) H (isB true)) = True := by kernel_rfl
theorem m1 : init (fun H => hG (.negSucc 0) H (isB true)) = True := by kernel_rfl
theorem e0 : init (fun H => hG (.ofNat 0) H (isB true)) = True := by kernel_rfl
theorem e1 : init (fun H => hG (.ofNat 1) H (isB true)) = True := by kernel_rfl
theorem e2 : init (fun H => hG (.ofNat 2) H (isB true)) = True := by kernel_rfl
theorem e3 : init (fun H => hG (.ofNat 3) H (isB true)) = True := by kernel_rfl
theorem e4 : init (fun H => hG (.ofNat 4) H (isB true)) = True := by kernel_rfl
theorem e5 : init (fun H => hG (.ofNat 5) H (isB true)) = True := by kernel_rfl
theorem e6 : init (fun H => hG (.ofNat 6) H (isB true)) = True := by kernel_rfl
theorem e7 : init (fun H => hG (.ofNat 7) H (isB true)) = True := by kernel_rfl
theorem e8 : init (fun H => hG (.ofNat 8) H (isB true)) = True := by kernel_rfl
theorem e9 : init (fun H => hG (.ofNat 9) H (isB true)) = True := by kernel_rfl
theorem e10 : init (fun H => hG (.ofNat 10) H (isB true)) = True := by kernel_rfl
theorem e11 : init (fun H => hG (.ofNat 11) H (isB true)) = True := by kernel_rfl
theorem e12 : init (fun H => hG (.ofNat 12) H (isB true)) = True := by kernel_rfl
theorem e13 : init (fun H => hG (.ofNat 13) H (isB true)) = True := by kernel_rfl
theorem e14 : init (fun H => hG (.ofNat 14) H (isB true)) = True := by kernel_rfl
theorem e15 : init (fun H => hG (.ofNat 15) H (isB true)) = True := by kernel_rfl
theorem e16 : init (fun H => hG (.ofNat 16) H (isB true)) = True := by kernel_rfl
theorem e17 : init (fun H => hG (.ofNat 17) H (isB true)) = True := by kernel_rfl
theorem e18 : init (fun H => hG (.ofNat 18) H (isB true)) = True := by kernel_rfl
theorem e19 : init (fun H => hG (.ofNat 19) H (isB true)) = True := by kernel_rfl
end Go.Proofs.YtaipinbbmlenaaaDoor.G
