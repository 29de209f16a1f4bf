/- The functions of the lexer of the document and of Scope, by program. No condition. -/
import Derived.Test.YtcedghechlgecaaDoorGa
set_option maxRecDepth 100000
set_option maxHeartbeats 0
set_option linter.unusedVariables false
set_option linter.unusedSimpArgs false
namespace Go.Proofs.YtcedghechlgecaaDoor.G
open Go Go.X
abbrev T_:Type:=AH→Prop
abbrev lr:Type:=AV→AV→AV→Int→AH→Prop
abbrev xq:Type:=AV→AV→Int→AV→AV→Int→Bool→AH→Prop
abbrev kO:Type:=AV→AV→Int→AV→Int→AH→Prop
abbrev dn:Type:=AV→Int→AV→Int→AH→Prop
abbrev zO:Type:=AV→Int→AV→Int→Int→Bool→AH→Prop
abbrev Ti:Type:=Int→AH→Prop
abbrev fu:Type:=Unit
def alm(R:fu):List (Nat×cY):=[]
abbrev mN(R:fu):Prop:=af gPa (alm R)
abbrev DD(K:KF)(F:Ti):Prop:=aR 29 K [1,1] 59 [1] [.i 0] F
abbrev mg(K:KF)(F:dU):Prop:=aR 29 K [0,0,1] 59 [0,1] [.a,.i 0] F
abbrev Ln(K:KF)(F:dU):Prop:=aR 29 K [1,0,1,0,0,0,1] 59 [0,1] [.a,.i 0] F
abbrev Lo(K:KF)(F:dU):Prop:=aR 29 K [0,1,0,1,0,1,0,0,0,1] 59 [0,1] [.a,.i 0] F
abbrev sM(K:KF)(F:dU):Prop:=aR 29 K [0,0,0,1,0,1,0,1,0,0,0,1] 59 [0,1] [.a,.i 0] F
def DE(R:fu)(K:KF)(x5 x2:dU)(a0:AV)(a1:Int)(H:AH):Prop:=sLen a0 λv1=>cI 0 v1 λz2=>bI (cx a1 z2) (gX a0 (.int 0 a1) λv3=>cI 1 v3 λz4=>bI (!(bA z4 (.ofNat 10))) (aC 0 (Int.add a1 (.ofNat 1)) λz5=>x5 a0 z5 H) (x2 a0 a1 H)) (x2 a0 a1 H)
theorem WH{R:fu}(hR:mN R){K:KF}{x5 x2:dU}(h5:sM K x5)(h2:mg K x2):sM K (DE R K x5 x2):=λa0 a1 H h=>pk hR (cc h5 (cc h2 .nil)) h
def WI(R:fu)(K:KF)(i2 i5:dU):dU:=DE R K i5 i2
theorem WJ{R:fu}(hR:mN R){K:KF}{i2 i5:dU}(g2:mg K i2)(g5:sM K i5):sM K (WI R K i2 i5):=WH hR g5 g2
def vK(R:fu)(K:KF)(i2:dU)(n:Nat):dU:=Nat.rec (motive:=λ_=>dU) (λ_ _ _=>False) (λ_ i=>WI R K i2 i) n
theorem WK{R:fu}(hR:mN R){K:KF}{i2:dU}(g2:mg K i2)(n:Nat):sM K (vK R K i2 n):=Nat.rec (motive:=λn=>sM K (vK R K i2 n)) (λa0 a1 H h=>h.elim) (λn ih=>WJ hR g2 ih) n
def DF(R:fu)(K:KF)(x5:dU)(a0:AV)(a1:Int)(H:AH):Prop:=x5 a0 a1 H
theorem WL{R:fu}(hR:mN R){K:KF}{x5:dU}(h5:sM K x5):Lo K (DF R K x5):=λa0 a1 H h=>pk hR (cc h5 .nil) h
def Lq(R:fu)(K:KF)(i2:dU):dU:=DF R K (vK R K i2 NL)
theorem WM{R:fu}(hR:mN R){K:KF}{i2:dU}(g2:mg K i2):Lo K (Lq R K i2):=WL hR (WK hR g2 NL)
def sN(R:fu)(K:KF)(a1:Int)(H:AH):Prop:=K (.ret (.int 0 a1)) H
theorem WN{R:fu}(hR:mN R){K:KF}:DD K (sN R K):=λa1 H h=>pk hR .nil h
def vM(R:fu)(K:KF):Ti:=sN R K
theorem HP{R:fu}(hR:mN R){K:KF}:DD K (vM R K):=WN hR
def vN(R:fu)(K:KF)(x4:dU)(x1:Ti)(a0:AV)(a1:Int)(H:AH):Prop:=aC 0 (Int.add a1 (.ofNat 1)) λz1=>sLen a0 λv2=>cI 0 v2 λz3=>bI (cx z1 z3) (aC 0 (Int.add a1 (.ofNat 2)) λz4=>lC a0 (some (.int 0 a1)) (some (.int 0 z4)) λv5=>uZ v5 (.str 2 11565) λv6=>bY v6 λz7=>bI z7 (x4 a0 a1 H) (x1 a1 H)) (x1 a1 H)
theorem WO{R:fu}(hR:mN R){K:KF}{x4:dU}{x1:Ti}(h4:Lo K x4)(h1:DD K x1):Ln K (vN R K x4 x1):=λa0 a1 H h=>pk hR (cc h4 (cc h1 .nil)) h
def vO(R:fu)(K:KF)(i2:dU):dU:=vN R K (Lq R K i2) (vM R K)
theorem WQ{R:fu}(hR:mN R){K:KF}{i2:dU}(g2:mg K i2):Ln K (vO R K i2):=WO hR (WM hR g2) (HP hR)
def qW(R:fu)(K:KF)(x2 x3:dU)(x1:Ti)(a0:AV)(a1:Int)(H:AH):Prop:=sLen a0 λv1=>cI 0 v1 λz2=>bI (cx a1 z2) (gX a0 (.int 0 a1) λv3=>cI 1 v3 λz4=>bI (bA z4 (.ofNat 32)) (aC 0 (Int.add a1 (.ofNat 1)) λz5=>x2 a0 z5 H) (gX a0 (.int 0 a1) λv6=>cI 1 v6 λz7=>bI (bA z7 (.ofNat 9)) (aC 0 (Int.add a1 (.ofNat 1)) λz8=>x2 a0 z8 H) (gX a0 (.int 0 a1) λv9=>cI 1 v9 λz10=>bI (bA z10 (.ofNat 10)) (aC 0 (Int.add a1 (.ofNat 1)) λz11=>x2 a0 z11 H) (gX a0 (.int 0 a1) λv12=>cI 1 v12 λz13=>bI (bA z13 (.ofNat 13)) (aC 0 (Int.add a1 (.ofNat 1)) λoe=>x2 a0 oe H) (x3 a0 a1 H))))) (x1 a1 H)
theorem WR{R:fu}(hR:mN R){K:KF}{x2 x3:dU}{x1:Ti}(h2:mg K x2)(h3:Ln K x3)(h1:DD K x1):mg K (qW R K x2 x3 x1):=λa0 a1 H h=>pk hR (cc h2 (cc h3 (cc h1 .nil))) h
def WS(R:fu)(K:KF)(i2:dU):dU:=qW R K i2 (vO R K i2) (vM R K)
theorem WT{R:fu}(hR:mN R){K:KF}{i2:dU}(g2:mg K i2):mg K (WS R K i2):=WR hR g2 (WQ hR g2) (HP hR)
def eG(R:fu)(K:KF)(n:Nat):dU:=Nat.rec (motive:=λ_=>dU) (λ_ _ _=>False) (λ_ i=>WS R K i) n
theorem WU{R:fu}(hR:mN R){K:KF}(n:Nat):mg K (eG R K n):=Nat.rec (motive:=λn=>mg K (eG R K n)) (λa0 a1 H h=>h.elim) (λn ih=>WT hR ih) n
def vP(R:fu)(K:KF)(x2:dU)(a0:AV)(a1:Int)(H:AH):Prop:=x2 a0 a1 H
theorem WV{R:fu}(hR:mN R){K:KF}{x2:dU}(h2:mg K x2)(a0:AV)(a1:Int)(H:AH)(h:vP R K x2 a0 a1 H):dQ 29 K [] (bz (dy 29) [a0,(.int 0 a1)]) [] H:=pk hR (cc h2 .nil) h
def aln(R:fu)(K:KF):dU:=vP R K (eG R K NL)
def agT(R:fu):AV→Int→AH→KF→Prop:=λa0 a1 H K=>aln R K a0 a1 H
theorem aiH(R:fu)(hR:mN R):aw gPa 29 (ao [.a,.i 0] (agT R)):=rk λK a0 a1 H h=>WV hR (WU hR NL) a0 a1 H h
def bZ:fu:=()
def f29:AV→Int→AH→KF→Prop:=agT bZ
theorem alo:aw gPa 29 (ao [.a,.i 0] f29):=aiH bZ af.nil
abbrev tV:Type:=Unit
def alp(R:tV):List (Nat×cY):=[]
abbrev agU(R:tV):Prop:=af gPa (alp R)
def DG(R:tV)(K:KF)(a0:Int)(H:AH):Prop:=bI (!(cx a0 (.ofNat 97))) (bI (!(cx (.ofNat 122) a0)) (K (.ret (.bool true)) H) (bI (!(cx a0 (.ofNat 65))) (bI (!(cx (.ofNat 90) a0)) (K (.ret (.bool true)) H) (K (.ret (.bool (bA a0 (.ofNat 95)))) H)) (K (.ret (.bool (bA a0 (.ofNat 95)))) H))) (bI (!(cx a0 (.ofNat 65))) (bI (!(cx (.ofNat 90) a0)) (K (.ret (.bool true)) H) (K (.ret (.bool (bA a0 (.ofNat 95)))) H)) (K (.ret (.bool (bA a0 (.ofNat 95)))) H))
theorem WW{R:tV}(hR:agU R){K:KF}(a0:Int)(H:AH)(h:DG R K a0 H):dQ 31 K [] (bz (dy 31) [(.int 1 a0)]) [] H:=pk hR .nil h
def alq(R:tV)(K:KF):Ti:=DG R K
def agV(R:tV):Int→AH→KF→Prop:=λa0 H K=>alq R K a0 H
theorem aiI(R:tV)(hR:agU R):aw gPa 31 (ao [.i 1] (agV R)):=rk λK a0 H h=>WW hR a0 H h
def Lr:tV:=()
def f31:Int→AH→KF→Prop:=agV Lr
theorem WX:aw gPa 31 (ao [.i 1] f31):=aiI Lr af.nil
abbrev tW:Type:=Unit
def alr(R:tW):List (Nat×cY):=[]
abbrev agW(R:tW):Prop:=af gPa (alr R)
def DH(R:tW)(K:KF)(a0:Int)(H:AH):Prop:=bI (!(cx a0 (.ofNat 48))) (K (.ret (.bool (!(cx (.ofNat 57) a0)))) H) (K (.ret (.bool false)) H)
theorem WY{R:tW}(hR:agW R){K:KF}(a0:Int)(H:AH)(h:DH R K a0 H):dQ 33 K [] (bz (dy 33) [(.int 1 a0)]) [] H:=pk hR .nil h
def als(R:tW)(K:KF):Ti:=DH R K
def agX(R:tW):Int→AH→KF→Prop:=λa0 H K=>als R K a0 H
theorem aiJ(R:tW)(hR:agW R):aw gPa 33 (ao [.i 1] (agX R)):=rk λK a0 H h=>WY hR a0 H h
def Ls:tW:=()
def f33:Int→AH→KF→Prop:=agX Ls
theorem DI:aw gPa 33 (ao [.i 1] f33):=aiJ Ls af.nil
abbrev j5:Type:=(Int→AH→KF→Prop)×(Int→AH→KF→Prop)
def alu(R:j5):List (Nat×cY):=[(31,ao [.i 1] R.1),(33,ao [.i 1] R.2)]
abbrev xr(R:j5):Prop:=af gPa (alu R)
abbrev Lt(K:KF)(F:Ti):Prop:=aR 30 K [1,1] 24 [1] [.i 0] F
abbrev sO(K:KF)(F:dU):Prop:=aR 30 K [0,0,1] 24 [0,1] [.a,.i 0] F
def DJ(R:j5)(K:KF)(a1:Int)(H:AH):Prop:=K (.ret (.int 0 a1)) H
theorem WZ{R:j5}(hR:xr R){K:KF}:Lt K (DJ R K):=λa1 H h=>pk hR .nil h
def W0(R:j5)(K:KF):Ti:=DJ R K
theorem W1{R:j5}(hR:xr R){K:KF}:Lt K (W0 R K):=WZ hR
def DK(R:j5)(K:KF)(x2:dU)(x1:Ti)(a0:AV)(a1:Int)(H:AH):Prop:=sLen a0 λv1=>cI 0 v1 λz2=>bI (cx a1 z2) (gX a0 (.int 0 a1) λv3=>cI 1 v3 λz4=>R.1 z4 H λo5 H6=>cR K o5 H6 λv7=>bY v7 λz8=>bI z8 (aC 0 (Int.add a1 (.ofNat 1)) λz9=>x2 a0 z9 H6) (gX a0 (.int 0 a1) λv10=>cI 1 v10 λz11=>R.2 z11 H6 λqS fH=>cR K qS fH λv14=>bY v14 λmK=>bI mK (aC 0 (Int.add a1 (.ofNat 1)) λqN=>x2 a0 qN fH) (x1 a1 fH))) (x1 a1 H)
theorem W2{R:j5}(hR:xr R){K:KF}{x2:dU}{x1:Ti}(h2:sO K x2)(h1:Lt K x1):sO K (DK R K x2 x1):=λa0 a1 H h=>pk hR (cc h2 (cc h1 .nil)) h
def W3(R:j5)(K:KF)(i2:dU):dU:=DK R K i2 (W0 R K)
theorem W4{R:j5}(hR:xr R){K:KF}{i2:dU}(g2:sO K i2):sO K (W3 R K i2):=W2 hR g2 (W1 hR)
def sP(R:j5)(K:KF)(n:Nat):dU:=Nat.rec (motive:=λ_=>dU) (λ_ _ _=>False) (λ_ i=>W3 R K i) n
theorem W5{R:j5}(hR:xr R){K:KF}(n:Nat):sO K (sP R K n):=Nat.rec (motive:=λn=>sO K (sP R K n)) (λa0 a1 H h=>h.elim) (λn ih=>W4 hR ih) n
def DL(R:j5)(K:KF)(x2:dU)(a0:AV)(a1:Int)(H:AH):Prop:=x2 a0 a1 H
theorem W6{R:j5}(hR:xr R){K:KF}{x2:dU}(h2:sO K x2)(a0:AV)(a1:Int)(H:AH)(h:DL R K x2 a0 a1 H):dQ 30 K [] (bz (dy 30) [a0,(.int 0 a1)]) [] H:=pk hR (cc h2 .nil) h
def alv(R:j5)(K:KF):dU:=DL R K (sP R K NL)
def agY(R:j5):AV→Int→AH→KF→Prop:=λa0 a1 H K=>alv R K a0 a1 H
theorem aiK(R:j5)(hR:xr R):aw gPa 30 (ao [.a,.i 0] (agY R)):=rk λK a0 a1 H h=>W6 hR (W5 hR NL) a0 a1 H h
def np:j5:=(f31,f33)
def f30:AV→Int→AH→KF→Prop:=agY np
theorem alw:aw gPa 30 (ao [.a,.i 0] f30):=aiK np (af.cons WX (af.cons DI af.nil))
abbrev j6:Type:=Unit
def alx(R:j6):List (Nat×cY):=[]
abbrev xt(R:j6):Prop:=af gPa (alx R)
abbrev Lu(K:KF)(F:T_):Prop:=aR 25 K [1,1] 18 [] [] F
abbrev sQ(K:KF)(F:ax):Prop:=aR 25 K [0,1,0,1] 18 [0,1,5] [.a,.a,.i 0] F
def yG(R:j6)(K:KF)(H:AH):Prop:=K (.ret (.bool false)) H
theorem W7{R:j6}(hR:xt R){K:KF}:Lu K (yG R K):=λH h=>pk hR .nil h
def W8(R:j6)(K:KF):T_:=yG R K
theorem W9{R:j6}(hR:xt R){K:KF}:Lu K (W8 R K):=W7 hR
def vQ(R:j6)(K:KF)(x2:ax)(x1:T_)(a0 a1:AV)(a5:Int)(H:AH):Prop:=bO a0 λv1=>cI 0 v1 λz2=>bI (cx a5 z2) (bb 1 a0 (.int 0 a5) λv3=>ad v3 H λv4=>uZ v4 a1 λv5=>bY v5 λz6=>bI z6 (K (.ret (.bool true)) H) (aC 0 (Int.add a5 (.ofNat 1)) λz7=>x2 a0 a1 z7 H)) (x1 H)
theorem Xa{R:j6}(hR:xt R){K:KF}{x2:ax}{x1:T_}(h2:sQ K x2)(h1:Lu K x1):sQ K (vQ R K x2 x1):=λa0 a1 a5 H h=>pk hR (cc h2 (cc h1 .nil)) h
def Xb(R:j6)(K:KF)(i2:ax):ax:=vQ R K i2 (W8 R K)
theorem Xc{R:j6}(hR:xt R){K:KF}{i2:ax}(g2:sQ K i2):sQ K (Xb R K i2):=Xa hR g2 (W9 hR)
def pB(R:j6)(K:KF)(n:Nat):ax:=Nat.rec (motive:=λ_=>ax) (λ_ _ _ _=>False) (λ_ i=>Xb R K i) n
theorem Xd{R:j6}(hR:xt R){K:KF}(n:Nat):sQ K (pB R K n):=Nat.rec (motive:=λn=>sQ K (pB R K n)) (λa0 a1 a5 H h=>h.elim) (λn ih=>Xc hR ih) n
def vR(R:j6)(K:KF)(x2:ax)(a0 a1:AV)(H:AH):Prop:=x2 a0 a1 (.ofNat 0) H
theorem Xe{R:j6}(hR:xt R){K:KF}{x2:ax}(h2:sQ K x2)(a0 a1:AV)(H:AH)(h:vR R K x2 a0 a1 H):dQ 25 K [] (bz (dy 25) [a0,a1]) [] H:=pk hR (cc h2 .nil) h
def aly(R:j6)(K:KF):cN:=vR R K (pB R K NL)
def agZ(R:j6):AV→AV→AH→KF→Prop:=λa0 a1 H K=>aly R K a0 a1 H
theorem aiL(R:j6)(hR:xt R):aw gPa 25 (ao [.a,.a] (agZ R)):=rk λK a0 a1 H h=>Xe hR (Xd hR NL) a0 a1 H h
def kP:j6:=()
def f25:AV→AV→AH→KF→Prop:=agZ kP
theorem yH:aw gPa 25 (ao [.a,.a] f25):=aiL kP af.nil
abbrev tX:Type:=(AV→AV→AH→KF→Prop)
def alz(R:tX):List (Nat×cY):=[(25,ao [.a,.a] R)]
abbrev ag0(R:tX):Prop:=af gPa (alz R)
def DM(R:tX)(K:KF)(a0:AV)(H:AH):Prop:=aT (aE H) 21 1 [(.str 3 6581857),(.str 5 461195539042),(.str 2 28516),(.str 4 1702063205),(.str 6 112602859662437),(.str 3 6581861),(.str 5 435728179558),(.str 3 7499622),(.str 8 7957695015192261990),(.str 2 26217),(.str 2 28265),(.str 5 465490374508),(.str 3 7104878),(.str 3 7630702),(.str 2 29295),(.str 6 127961662514546),(.str 6 121437875889522),(.str 4 1852139636),(.str 4 1702195828),(.str 5 465625706101),(.str 5 435610544247)] λv1 H2=>R v1 a0 H2 λo3 H4=>cR K o3 H4 λv5=>bY v5 λz6=>K (.ret (.bool z6)) H4
theorem Xf{R:tX}(hR:ag0 R){K:KF}(a0:AV)(H:AH)(h:DM R K a0 H):dQ 32 K [] (bz (dy 32) [a0]) [] H:=pk hR .nil h
def alA(R:tX)(K:KF):Ta:=DM R K
def ag1(R:tX):AV→AH→KF→Prop:=λa0 H K=>alA R K a0 H
theorem aiM(R:tX)(hR:ag0 R):aw gPa 32 (ao [.a] (ag1 R)):=rk λK a0 H h=>Xf hR a0 H h
def DN:tX:=(f25)
def f32:AV→AH→KF→Prop:=ag1 DN
theorem alB:aw gPa 32 (ao [.a] f32):=aiM DN (af.cons yH af.nil)
abbrev iT:Type:=(Int→AH→KF→Prop)
def alC(R:iT):List (Nat×cY):=[(33,ao [.i 1] R)]
abbrev rS(R:iT):Prop:=af gPa (alC R)
abbrev Lw(K:KF)(F:Ti):Prop:=aR 34 K [1,1,1] 33 [4] [.i 3] F
abbrev qX(K:KF)(F:hO):Prop:=aR 34 K [0,1,0,1,1] 33 [0,4,5] [.a,.i 3,.i 0] F
abbrev Ly(K:KF)(F:hO):Prop:=aR 34 K [1,1,0,0,1,0,1,1] 33 [0,4,5] [.a,.i 3,.i 0] F
def DO(R:iT)(K:KF)(x2:hO)(a0:AV)(a4 a5:Int)(H:AH):Prop:=aC 0 (Int.add a5 (.ofNat 1)) λz1=>x2 a0 a4 z1 H
theorem Xg{R:iT}(hR:rS R){K:KF}{x2:hO}(h2:qX K x2):Ly K (DO R K x2):=λa0 a4 a5 H h=>pk hR (cc h2 .nil) h
def Xh(R:iT)(K:KF)(i2:hO):hO:=DO R K i2
theorem Xi{R:iT}(hR:rS R){K:KF}{i2:hO}(g2:qX K i2):Ly K (Xh R K i2):=Xg hR g2
def DQ(R:iT)(K:KF)(a4:Int)(H:AH):Prop:=bI (cx (.ofNat 9223372036854775807) a4) (K (.ret (.aP [(.int 0 (.ofNat 0)),(.bool false)])) H) (aC 0 a4 λz1=>K (.ret (.aP [(.int 0 z1),(.bool true)])) H)
theorem Xj{R:iT}(hR:rS R){K:KF}:Lw K (DQ R K):=λa4 H h=>pk hR .nil h
def Xk(R:iT)(K:KF):Ti:=DQ R K
theorem Xl{R:iT}(hR:rS R){K:KF}:Lw K (Xk R K):=Xj hR
def DS(R:iT)(K:KF)(x3:hO)(x1:Ti)(a0:AV)(a4 a5:Int)(H:AH):Prop:=sLen a0 λv1=>cI 0 v1 λz2=>bI (cx a5 z2) (gX a0 (.int 0 a5) λv3=>cI 1 v3 λz4=>R z4 H λo5 H6=>cR K o5 H6 λv7=>bY v7 λz8=>bI (!z8) (K (.ret (.aP [(.int 0 (.ofNat 0)),(.bool false)])) H6) (bI (cx (.ofNat 922337203685477580) a4) (K (.ret (.aP [(.int 0 (.ofNat 0)),(.bool false)])) H6) (aC 3 (Int.mul a4 (.ofNat 10)) λz9=>gX a0 (.int 0 a5) λv10=>cI 1 v10 λz11=>aC 1 (Int.sub z11 (.ofNat 48)) λz12=>aC 3 z12 λz13=>aC 3 (Int.add z9 z13) λoe=>x3 a0 oe a5 H6))) (x1 a4 H)
theorem Xm{R:iT}(hR:rS R){K:KF}{x3:hO}{x1:Ti}(h3:Ly K x3)(h1:Lw K x1):qX K (DS R K x3 x1):=λa0 a4 a5 H h=>pk hR (cc h3 (cc h1 .nil)) h
def Xn(R:iT)(K:KF)(i2:hO):hO:=DS R K (Xh R K i2) (Xk R K)
theorem Xo{R:iT}(hR:rS R){K:KF}{i2:hO}(g2:qX K i2):qX K (Xn R K i2):=Xm hR (Xi hR g2) (Xl hR)
def vS(R:iT)(K:KF)(n:Nat):hO:=Nat.rec (motive:=λ_=>hO) (λ_ _ _ _=>False) (λ_ i=>Xn R K i) n
theorem Xp{R:iT}(hR:rS R){K:KF}(n:Nat):qX K (vS R K n):=Nat.rec (motive:=λn=>qX K (vS R K n)) (λa0 a4 a5 H h=>h.elim) (λn ih=>Xo hR ih) n
def DU(R:iT)(K:KF)(x2:hO)(a0:AV)(H:AH):Prop:=x2 a0 (.ofNat 0) (.ofNat 0) H
theorem Xq{R:iT}(hR:rS R){K:KF}{x2:hO}(h2:qX K x2)(a0:AV)(H:AH)(h:DU R K x2 a0 H):dQ 34 K [] (bz (dy 34) [a0]) [] H:=pk hR (cc h2 .nil) h
def alD(R:iT)(K:KF):Ta:=DU R K (vS R K NL)
def ag2(R:iT):AV→AH→KF→Prop:=λa0 H K=>alD R K a0 H
theorem aiN(R:iT)(hR:rS R):aw gPa 34 (ao [.a] (ag2 R)):=rk λK a0 H h=>Xq hR (Xp hR NL) a0 H h
def oh:iT:=(f33)
def f34:AV→AH→KF→Prop:=ag2 oh
theorem alE:aw gPa 34 (ao [.a] f34):=aiN oh (af.cons DI af.nil)
abbrev jv:Type:=(Int→AH→KF→Prop)
def alF(R:jv):List (Nat×cY):=[(33,ao [.i 1] R)]
abbrev tY(R:jv):Prop:=af gPa (alF R)
abbrev Lz(K:KF)(F:Ti):Prop:=aR 55 K [0,1,1,1,0,0,1] 31 [0] [.i 1] F
abbrev LA(K:KF)(F:Ti):Prop:=aR 55 K [1,1,1,1,0,0,1] 31 [0] [.i 1] F
abbrev LB(K:KF)(F:Ti):Prop:=aR 55 K [0,1,1,1,1,1,0,0,1] 31 [0] [.i 1] F
def DV(R:jv)(K:KF)(a0:Int)(H:AH):Prop:=aC 1 (Int.sub a0 (.ofNat 97)) λz1=>aC 0 z1 λz2=>aC 0 (Int.add z2 (.ofNat 10)) λz3=>K (.ret (.int 0 z3)) H
theorem Xr{R:jv}(hR:tY R){K:KF}:Lz K (DV R K):=λa0 H h=>pk hR .nil h
def Xs(R:jv)(K:KF):Ti:=DV R K
theorem Xt{R:jv}(hR:tY R){K:KF}:Lz K (Xs R K):=Xr hR
def yI(R:jv)(K:KF)(a0:Int)(H:AH):Prop:=aC 1 (Int.sub a0 (.ofNat 65)) λz1=>aC 0 z1 λz2=>aC 0 (Int.add z2 (.ofNat 10)) λz3=>K (.ret (.int 0 z3)) H
theorem Xu{R:jv}(hR:tY R){K:KF}:LB K (yI R K):=λa0 H h=>pk hR .nil h
def Xv(R:jv)(K:KF):Ti:=yI R K
theorem Xw{R:jv}(hR:tY R){K:KF}:LB K (Xv R K):=Xu hR
def yJ(R:jv)(K:KF)(x3:Ti)(a0:Int)(H:AH):Prop:=bI (!(cx a0 (.ofNat 65))) (bI (!(cx (.ofNat 70) a0)) (x3 a0 H) (K (.ret (.int 0 (.negSucc 0))) H)) (K (.ret (.int 0 (.negSucc 0))) H)
theorem Xx{R:jv}(hR:tY R){K:KF}{x3:Ti}(h3:LB K x3):LA K (yJ R K x3):=λa0 H h=>pk hR (cc h3 .nil) h
def Xy(R:jv)(K:KF):Ti:=yJ R K (Xv R K)
theorem Xz{R:jv}(hR:tY R){K:KF}:LA K (Xy R K):=Xx hR (Xw hR)
def DW(R:jv)(K:KF)(x1 x2:Ti)(a0:Int)(H:AH):Prop:=R a0 H λo1 H2=>cR K o1 H2 λv3=>bY v3 λz4=>bI z4 (aC 1 (Int.sub a0 (.ofNat 48)) λz5=>aC 0 z5 λz6=>K (.ret (.int 0 z6)) H2) (bI (!(cx a0 (.ofNat 97))) (bI (!(cx (.ofNat 102) a0)) (x1 a0 H2) (x2 a0 H2)) (x2 a0 H2))
theorem XA{R:jv}(hR:tY R){K:KF}{x1 x2:Ti}(h1:Lz K x1)(h2:LA K x2)(a0:Int)(H:AH)(h:DW R K x1 x2 a0 H):dQ 55 K [] (bz (dy 55) [(.int 1 a0)]) [] H:=pk hR (cc h1 (cc h2 .nil)) h
def alG(R:jv)(K:KF):Ti:=DW R K (Xs R K) (Xy R K)
def ag3(R:jv):Int→AH→KF→Prop:=λa0 H K=>alG R K a0 H
theorem aiO(R:jv)(hR:tY R):aw gPa 55 (ao [.i 1] (ag3 R)):=rk λK a0 H h=>XA hR (Xt hR) (Xz hR) a0 H h
def pC:jv:=(f33)
def f55:Int→AH→KF→Prop:=ag3 pC
theorem alH:aw gPa 55 (ao [.i 1] f55):=aiO pC (af.cons DI af.nil)
abbrev eK:Type:=(Int→AH→KF→Prop)
def alI(R:eK):List (Nat×cY):=[(55,ao [.i 1] R)]
abbrev kQ(R:eK):Prop:=af gPa (alI R)
abbrev LC(K:KF)(F:T_):Prop:=aR 35 K [1,1,1,1] 116 [] [] F
abbrev mh(K:KF)(F:dn):Prop:=aR 35 K [0,1,0,1,1,1] 116 [0,7,8,9] [.a,.i 1,.a,.i 0] F
abbrev vU(K:KF)(F:dn):Prop:=aR 35 K [1,1,0,0,1,0,1,1,1] 116 [0,7,8,9] [.a,.i 1,.a,.i 0] F
abbrev LD(K:KF)(F:qL):Prop:=aR 35 K [1,1,1,1,1,0,0,1,0,0,1,0,1,1,1] 116 [0,7,8,9,54] [.a,.i 1,.a,.i 0,.i 1] F
abbrev LF(K:KF)(F:zO):Prop:=aR 35 K [1,1,1,1,1,0,1,1,1,1,1,0,0,1,0,0,1,0,1,1,1] 116 [0,7,8,9,54,65] [.a,.i 1,.a,.i 0,.i 1,.b] F
abbrev LG(K:KF)(F:dn):Prop:=aR 35 K [1,0,1,1,1,1,1,1,1,0,1,1,1,1,1,0,0,1,0,0,1,0,1,1,1] 116 [0,7,8,9] [.a,.i 1,.a,.i 0] F
abbrev LH(K:KF)(F:dn):Prop:=aR 35 K [1,1,0,1,1,1,1,1,1,1,0,1,1,1,1,1,0,0,1,0,0,1,0,1,1,1] 116 [0,7,8,9] [.a,.i 1,.a,.i 0] F
def oi(R:eK)(K:KF)(x2:dn)(a0:AV)(a7:Int)(a8:AV)(a9:Int)(H:AH):Prop:=aC 0 (Int.add a9 (.ofNat 1)) λz1=>x2 a0 a7 a8 z1 H
theorem XB{R:eK}(hR:kQ R){K:KF}{x2:dn}(h2:mh K x2):vU K (oi R K x2):=λa0 a7 a8 a9 H h=>pk hR (cc h2 .nil) h
def yK(R:eK)(K:KF)(i2:dn):dn:=oi R K i2
theorem tZ{R:eK}(hR:kQ R){K:KF}{i2:dn}(g2:mh K i2):vU K (yK R K i2):=XB hR g2
def LJ(R:eK)(K:KF)(H:AH):Prop:=K (.ret (.aP [(.str 0 0),(.int 0 (.ofNat 0)),(.bool false)])) H
theorem XC{R:eK}(hR:kQ R){K:KF}:LC K (LJ R K):=λH h=>pk hR .nil h
def XD(R:eK)(K:KF):T_:=LJ R K
theorem XE{R:eK}(hR:kQ R){K:KF}:LC K (XD R K):=XC hR
def DX(R:eK)(K:KF)(x3:dn)(a0:AV)(a7:Int)(a8:AV)(a9:Int)(H:AH):Prop:=aC 0 (Int.add a9 (.ofNat 2)) λz1=>x3 a0 a7 a8 z1 H
theorem XF{R:eK}(hR:kQ R){K:KF}{x3:dn}(h3:vU K x3):LH K (DX R K x3):=λa0 a7 a8 a9 H h=>pk hR (cc h3 .nil) h
def LK(R:eK)(K:KF)(i2:dn):dn:=DX R K (yK R K i2)
theorem XG{R:eK}(hR:kQ R){K:KF}{i2:dn}(g2:mh K i2):LH K (LK R K i2):=XF hR (tZ hR g2)
def DY(R:eK)(K:KF)(x7:dn)(a0:AV)(a7:Int)(a8:AV)(a9:Int)(H:AH):Prop:=aC 0 (Int.add a9 (.ofNat 1)) λz1=>gX a0 (.int 0 z1) λv2=>cI 1 v2 λz3=>aC 0 (Int.add a9 (.ofNat 2)) λz4=>gX a0 (.int 0 z4) λv5=>cI 1 v5 λz6=>R z3 H λo7 H8=>cR K o7 H8 λv9=>cI 0 v9 λz10=>Qs 0 (.int 0 z10) (.int 3 (.ofNat 4)) λv11=>cI 0 v11 λz12=>R z6 H8 λlI dk=>cR K lI dk λv15=>cI 0 v15 λqN=>bD (nQ 0 z12) λu17=>bD (nQ 0 qN) λu18=>aC 0 (.ofNat (Nat.lor u17 u18)) λvD=>aC 1 vD λz20=>cP dk (aT (aE dk) 1 1 [(.int 1 z20)] λv21 js=>bT (Nat.beq js.n (Nat.succ dk.n)) (cO 1 1 a8 v21 js λv23 p5=>x7 a0 a7 v23 a9 p5))
theorem XH{R:eK}(hR:kQ R){K:KF}{x7:dn}(h7:LH K x7):LG K (DY R K x7):=λa0 a7 a8 a9 H h=>pk hR (cc h7 .nil) h
def DZ(R:eK)(K:KF)(i2:dn):dn:=DY R K (LK R K i2)
theorem XI{R:eK}(hR:kQ R){K:KF}{i2:dn}(g2:mh K i2):LG K (DZ R K i2):=XH hR (XG hR g2)
def vV(R:eK)(K:KF)(x6 x3:dn)(a0:AV)(a7:Int)(a8:AV)(a9 a54:Int)(a65:Bool)(H:AH):Prop:=bI a65 (gX a0 (.int 0 a9) λv1=>cI 1 v1 λz2=>aT (aE H) 1 1 [(.int 1 z2)] λv3 H4=>cO 1 1 a8 v3 H4 λv5 H6=>x3 a0 a7 v5 a9 H6) (bI (bA a54 (.ofNat 120)) (aC 0 (Int.add a9 (.ofNat 2)) λz7=>sLen a0 λv8=>cI 0 v8 λz9=>bI (!(cx z7 z9)) (K (.ret (.aP [(.str 0 0),(.int 0 (.ofNat 0)),(.bool false)])) H) (aC 0 (Int.add a9 (.ofNat 1)) λz10=>gX a0 (.int 0 z10) λv11=>cI 1 v11 λz12=>R z12 H λlI dk=>cR K lI dk λv15=>cI 0 v15 λqN=>bI (cx qN (.ofNat 0)) (K (.ret (.aP [(.str 0 0),(.int 0 (.ofNat 0)),(.bool false)])) dk) (aC 0 (Int.add a9 (.ofNat 2)) λz17=>gX a0 (.int 0 z17) λv18=>cI 1 v18 λvD=>R vD dk λU1 gZ=>cR K U1 gZ λv22=>cI 0 v22 λz23=>bI (cx z23 (.ofNat 0)) (K (.ret (.aP [(.str 0 0),(.int 0 (.ofNat 0)),(.bool false)])) gZ) (x6 a0 a7 a8 a9 gZ)))) (K (.ret (.aP [(.str 0 0),(.int 0 (.ofNat 0)),(.bool false)])) H))
theorem XJ{R:eK}(hR:kQ R){K:KF}{x6 x3:dn}(h6:LG K x6)(h3:vU K x3):LF K (vV R K x6 x3):=λa0 a7 a8 a9 a54 a65 H h=>pk hR (cc h6 (cc h3 .nil)) h
def D0(R:eK)(K:KF)(i2:dn):zO:=vV R K (DZ R K i2) (yK R K i2)
theorem XK{R:eK}(hR:kQ R){K:KF}{i2:dn}(g2:mh K i2):LF K (D0 R K i2):=XJ hR (XI hR g2) (tZ hR g2)
def D6(R:eK)(K:KF)(x3:dn)(x5:zO)(a0:AV)(a7:Int)(a8:AV)(a9 a54:Int)(H:AH):Prop:=bI (bA a54 (.ofNat 110)) (aT (aE H) 1 1 [(.int 1 (.ofNat 10))] λv1 H2=>cO 1 1 a8 v1 H2 λv3 H4=>x3 a0 a7 v3 a9 H4) (bI (bA a54 (.ofNat 116)) (aT (aE H) 1 1 [(.int 1 (.ofNat 9))] λv5 H6=>cO 1 1 a8 v5 H6 λv7 H8=>x3 a0 a7 v7 a9 H8) (bI (bA a54 (.ofNat 92)) (x5 a0 a7 a8 a9 a54 (bA a54 (.ofNat 92)) H) (bI (bA a54 (.ofNat 34)) (x5 a0 a7 a8 a9 a54 (bA a54 (.ofNat 34)) H) (x5 a0 a7 a8 a9 a54 (bA a54 (.ofNat 39)) H))))
theorem XL{R:eK}(hR:kQ R){K:KF}{x3:dn}{x5:zO}(h3:vU K x3)(h5:LF K x5):LD K (D6 R K x3 x5):=λa0 a7 a8 a9 a54 H h=>pk hR (cc h3 (cc h5 .nil)) h
def LL(R:eK)(K:KF)(i2:dn):qL:=D6 R K (yK R K i2) (D0 R K i2)
theorem XM{R:eK}(hR:kQ R){K:KF}{i2:dn}(g2:mh K i2):LD K (LL R K i2):=XL hR (tZ hR g2) (XK hR g2)
def D7(R:eK)(K:KF)(x3:dn)(x1:T_)(x4:qL)(a0:AV)(a7:Int)(a8:AV)(a9:Int)(H:AH):Prop:=sLen a0 λv1=>cI 0 v1 λz2=>bI (cx a9 z2) (gX a0 (.int 0 a9) λv3=>cI 1 v3 λz4=>bI (bA z4 (.ofNat 10)) (K (.ret (.aP [(.str 0 0),(.int 0 (.ofNat 0)),(.bool false)])) H) (bI (bA z4 a7) (zm a8 H λv5=>aC 0 (Int.add a9 (.ofNat 1)) λz6=>bO a8 λv7=>cI 0 v7 λz8=>K (.ret (.aP [v5,(.int 0 z6),(.bool (!(cx (.ofNat 4096) z8)))])) H) (bI (!(bA z4 (.ofNat 92))) (aT (aE H) 1 1 [(.int 1 z4)] λv9 cn=>cO 1 1 a8 v9 cn λv11 bQ=>x3 a0 a7 v11 a9 bQ) (aC 0 (Int.add a9 (.ofNat 1)) λz13=>sLen a0 λv14=>cI 0 v14 λmK=>bI (!(cx z13 mK)) (K (.ret (.aP [(.str 0 0),(.int 0 (.ofNat 0)),(.bool false)])) H) (gX a0 (.int 0 z13) λv16=>cI 1 v16 λz17=>x4 a0 a7 a8 z13 z17 H))))) (x1 H)
theorem XN{R:eK}(hR:kQ R){K:KF}{x3:dn}{x1:T_}{x4:qL}(h3:vU K x3)(h1:LC K x1)(h4:LD K x4):mh K (D7 R K x3 x1 x4):=λa0 a7 a8 a9 H h=>pk hR (cc h3 (cc h1 (cc h4 .nil))) h
def XO(R:eK)(K:KF)(i2:dn):dn:=D7 R K (yK R K i2) (XD R K) (LL R K i2)
theorem XP{R:eK}(hR:kQ R){K:KF}{i2:dn}(g2:mh K i2):mh K (XO R K i2):=XN hR (tZ hR g2) (XE hR) (XM hR g2)
def gp(R:eK)(K:KF)(n:Nat):dn:=Nat.rec (motive:=λ_=>dn) (λ_ _ _ _ _=>False) (λ_ i=>XO R K i) n
theorem XQ{R:eK}(hR:kQ R){K:KF}(n:Nat):mh K (gp R K n):=Nat.rec (motive:=λn=>mh K (gp R K n)) (λa0 a7 a8 a9 H h=>h.elim) (λn ih=>XP hR ih) n
def D8(R:eK)(K:KF)(x2:dn)(a0:AV)(a1:Int)(H:AH):Prop:=gX a0 (.int 0 a1) λv1=>cI 1 v1 λz2=>aC 0 (Int.add a1 (.ofNat 1)) λz3=>x2 a0 z2 .ab z3 H
theorem XR{R:eK}(hR:kQ R){K:KF}{x2:dn}(h2:mh K x2)(a0:AV)(a1:Int)(H:AH)(h:D8 R K x2 a0 a1 H):dQ 35 K [] (bz (dy 35) [a0,(.int 0 a1)]) [] H:=pk hR (cc h2 .nil) h
def alJ(R:eK)(K:KF):dU:=D8 R K (gp R K NL)
def ag4(R:eK):AV→Int→AH→KF→Prop:=λa0 a1 H K=>alJ R K a0 a1 H
theorem aiP(R:eK)(hR:kQ R):aw gPa 35 (ao [.a,.i 0] (ag4 R)):=rk λK a0 a1 H h=>XR hR (XQ hR NL) a0 a1 H h
def cV:eK:=(f55)
def f35:AV→Int→AH→KF→Prop:=ag4 cV
theorem alK:aw gPa 35 (ao [.a,.i 0] f35):=aiP cV (af.cons alH af.nil)
abbrev j7:Type:=(AV→AV→AH→KF→Prop)
def alL(R:j7):List (Nat×cY):=[(25,ao [.a,.a] R)]
abbrev xv(R:j7):Prop:=af gPa (alL R)
abbrev LM(K:KF)(F:T_):Prop:=aR 36 K [1,1,1,1] 34 [] [] F
abbrev sR(K:KF)(F:dn):Prop:=aR 36 K [0,1,0,1,1,1] 34 [0,1,5,6] [.a,.i 0,.a,.i 0] F
def D9(R:j7)(K:KF)(H:AH):Prop:=K (.ret (.int 0 (.ofNat 0))) H
theorem XS{R:j7}(hR:xv R){K:KF}:LM K (D9 R K):=λH h=>pk hR .nil h
def XT(R:j7)(K:KF):T_:=D9 R K
theorem XU{R:j7}(hR:xv R){K:KF}:LM K (XT R K):=XS hR
def Ea(R:j7)(K:KF)(x2:dn)(x1:T_)(a0:AV)(a1:Int)(a5:AV)(a6:Int)(H:AH):Prop:=sLen a5 λv1=>cI 0 v1 λz2=>bI (cx a6 z2) (gX a5 (.int 0 a6) λv3=>cI 1 v3 λz4=>gX a0 (.int 0 a1) λv5=>cI 1 v5 λz6=>bI (bA z4 z6) (K (.ret (.int 0 (.ofNat 1))) H) (aC 0 (Int.add a6 (.ofNat 1)) λz7=>x2 a0 a1 a5 z7 H)) (x1 H)
theorem XV{R:j7}(hR:xv R){K:KF}{x2:dn}{x1:T_}(h2:sR K x2)(h1:LM K x1):sR K (Ea R K x2 x1):=λa0 a1 a5 a6 H h=>pk hR (cc h2 (cc h1 .nil)) h
def XW(R:j7)(K:KF)(i2:dn):dn:=Ea R K i2 (XT R K)
theorem XX{R:j7}(hR:xv R){K:KF}{i2:dn}(g2:sR K i2):sR K (XW R K i2):=XV hR g2 (XU hR)
def vW(R:j7)(K:KF)(n:Nat):dn:=Nat.rec (motive:=λ_=>dn) (λ_ _ _ _ _=>False) (λ_ i=>XW R K i) n
theorem XY{R:j7}(hR:xv R){K:KF}(n:Nat):sR K (vW R K n):=Nat.rec (motive:=λn=>sR K (vW R K n)) (λa0 a1 a5 a6 H h=>h.elim) (λn ih=>XX hR ih) n
def Eb(R:j7)(K:KF)(x2:dn)(a0:AV)(a1:Int)(H:AH):Prop:=aC 0 (Int.add a1 (.ofNat 1)) λz1=>sLen a0 λv2=>cI 0 v2 λz3=>bI (cx z1 z3) (aT (aE H) 6 1 [(.str 2 11822),(.str 2 15677),(.str 2 15742),(.str 2 15676),(.str 2 15678),(.str 2 12079)] λv4 H5=>aC 0 (Int.add a1 (.ofNat 2)) λz6=>lC a0 (some (.int 0 a1)) (some (.int 0 z6)) λv7=>R v4 v7 H5 λo8 H9=>cR K o8 H9 λv10=>bY v10 λz11=>bI z11 (K (.ret (.int 0 (.ofNat 2))) H9) (x2 a0 a1 (.str 17 20123422373665890509693217210346309823787) (.ofNat 0) H9)) (x2 a0 a1 (.str 17 20123422373665890509693217210346309823787) (.ofNat 0) H)
theorem XZ{R:j7}(hR:xv R){K:KF}{x2:dn}(h2:sR K x2)(a0:AV)(a1:Int)(H:AH)(h:Eb R K x2 a0 a1 H):dQ 36 K [] (bz (dy 36) [a0,(.int 0 a1)]) [] H:=pk hR (cc h2 .nil) h
def alM(R:j7)(K:KF):dU:=Eb R K (vW R K NL)
def ag5(R:j7):AV→Int→AH→KF→Prop:=λa0 a1 H K=>alM R K a0 a1 H
theorem aiQ(R:j7)(hR:xv R):aw gPa 36 (ao [.a,.i 0] (ag5 R)):=rk λK a0 a1 H h=>XZ hR (XY hR NL) a0 a1 H h
def pD:j7:=(f25)
def f36:AV→Int→AH→KF→Prop:=ag5 pD
theorem alN:aw gPa 36 (ao [.a,.i 0] f36):=aiQ pD (af.cons yH af.nil)
abbrev dc:Type:=(AV→Int→AH→KF→Prop)×(AV→Int→AH→KF→Prop)×(Int→AH→KF→Prop)×(AV→AH→KF→Prop)×(Int→AH→KF→Prop)×(AV→AH→KF→Prop)×(AV→Int→AH→KF→Prop)×(AV→Int→AH→KF→Prop)
def alO(R:dc):List (Nat×cY):=[(29,ao [.a,.i 0] R.1),(30,ao [.a,.i 0] R.2.1),(31,ao [.i 1] R.2.2.1),(32,ao [.a] R.2.2.2.1),(33,ao [.i 1] R.2.2.2.2.1),(34,ao [.a] R.2.2.2.2.2.1),(35,ao [.a,.i 0] R.2.2.2.2.2.2.1),(36,ao [.a,.i 0] R.2.2.2.2.2.2.2)]
abbrev iF(R:dc):Prop:=af gPa (alO R)
abbrev LN(K:KF)(F:cN):Prop:=aR 16 K [1,1,1,1,1] 123 [0,5] [.a,.a] F
abbrev jZ(K:KF)(F:ax):Prop:=aR 16 K [0,0,1,1,1,1] 123 [0,5,6] [.a,.a,.i 0] F
abbrev vX(K:KF)(F:lr):Prop:=aR 16 K [1,1,1,0,1,0,0,0,1,1,1,1] 123 [0,5,7,8] [.a,.a,.a,.i 0] F
abbrev LO(K:KF)(F:kO):Prop:=aR 16 K [1,0,1,0,0,1,1,0,1,0,0,0,1,1,1,1] 123 [0,5,6,7,8] [.a,.a,.i 0,.a,.i 0] F
abbrev LQ(K:KF)(F:kO):Prop:=aR 16 K [1,1,0,1,0,0,1,1,0,1,0,0,0,1,1,1,1] 123 [0,5,6,7,8] [.a,.a,.i 0,.a,.i 0] F
abbrev LU(K:KF)(F:kO):Prop:=aR 16 K [1,0,1,1,1,0,0,1,1,0,1,0,0,0,1,1,1,1] 123 [0,5,6,7,8] [.a,.a,.i 0,.a,.i 0] F
abbrev LV(K:KF)(F:gN):Prop:=aR 16 K [0,1,1,1,1,1,0,0,1,1,0,1,0,0,0,1,1,1,1] 123 [0,5,6,7] [.a,.a,.i 0,.a] F
abbrev LW(K:KF)(F:gN):Prop:=aR 16 K [1,1,1,1,1,1,0,0,1,1,0,1,0,0,0,1,1,1,1] 123 [0,5,6,7] [.a,.a,.i 0,.a] F
abbrev LX(K:KF)(F:xq):Prop:=aR 16 K [1,0,1,1,1,1,1,0,0,1,1,0,1,0,0,0,1,1,1,1] 123 [0,5,6,7,11,12,13] [.a,.a,.i 0,.a,.a,.i 0,.b] F
abbrev GZ(K:KF)(F:kO):Prop:=aR 16 K [1,1,1,1,1,1,1,0,0,1,1,0,1,0,0,0,1,1,1,1] 123 [0,5,6,7,14] [.a,.a,.i 0,.a,.i 0] F
def Ec(R:dc)(K:KF)(x2:ax)(a0 a5 a7:AV)(a8:Int)(H:AH):Prop:=aQ 4 a7 H λv1=>onVal v1 λl2=>gK l2 4 (aT (aE H) 1 4 (spl l2 [(.int 0 (.ofNat 0)),(.str 0 0),(.int 0 (.ofNat 0)),(.int 0 (.ofNat 0))] 0) λv3 H4=>cO 4 40 a5 v3 H4 λv5 H6=>R.1 a0 a8 H6 λo7 H8=>cR K o7 H8 λv9=>cI 0 v9 λz10=>x2 a0 v5 z10 H8)
theorem X0{R:dc}(hR:iF R){K:KF}{x2:ax}(h2:jZ K x2):vX K (Ec R K x2):=λa0 a5 a7 a8 H h=>pk hR (cc h2 .nil) h
def nq(R:dc)(K:KF)(i2:ax):lr:=Ec R K i2
theorem ua{R:dc}(hR:iF R){K:KF}{i2:ax}(g2:jZ K i2):vX K (nq R K i2):=X0 hR g2
def vY(R:dc)(K:KF)(x3:lr)(a0 a5:AV)(a6:Int)(a7 a11:AV)(a12:Int)(mL:Bool)(H:AH):Prop:=bI (!mL) (K (.ret (.aP [.ab,(.int 0 (.ofNat 14)),(.int 0 a6)])) H) (ag 0 a7 λv1=>ah 1 v1 (.int 0 (.ofNat 4)) H λH2=>ag 1 a7 λv3=>ah 1 v3 a11 H2 λH4=>x3 a0 a5 a7 a12 H4)
theorem X1{R:dc}(hR:iF R){K:KF}{x3:lr}(h3:vX K x3):LX K (vY R K x3):=λa0 a5 a6 a7 a11 a12 mL H h=>pk hR (cc h3 .nil) h
def LY(R:dc)(K:KF)(i2:ax):xq:=vY R K (nq R K i2)
theorem X2{R:dc}(hR:iF R){K:KF}{i2:ax}(g2:jZ K i2):LX K (LY R K i2):=X1 hR (ua hR g2)
def Ed(R:dc)(K:KF)(x9:xq)(a0 a5:AV)(a6:Int)(a7:AV)(H:AH):Prop:=R.2.2.2.2.2.2.1 a0 a6 H λo1 H2=>cR K o1 H2 λv3=>eU v3 λl4=>fh l4 0 λv5=>eU v3 λl6=>fh l6 1 λv7=>cI 0 v7 λz8=>eU v3 λl9=>fh l9 2 λv10=>bY v10 λz11=>x9 a0 a5 a6 a7 v5 z8 z11 H2
theorem X3{R:dc}(hR:iF R){K:KF}{x9:xq}(h9:LX K x9):LV K (Ed R K x9):=λa0 a5 a6 a7 H h=>pk hR (cc h9 .nil) h
def vZ(R:dc)(K:KF)(i2:ax):gN:=Ed R K (LY R K i2)
theorem X4{R:dc}(hR:iF R){K:KF}{i2:ax}(g2:jZ K i2):LV K (vZ R K i2):=X3 hR (X2 hR g2)
def Ee(R:dc)(K:KF)(x3:lr)(a0 a5:AV)(a6:Int)(a7:AV)(a8:Int)(H:AH):Prop:=aC 0 (Int.sub a8 a6) λz1=>bI (cx (.ofNat 32) z1) (K (.ret (.aP [.ab,(.int 0 (.ofNat 14)),(.int 0 a6)])) H) (x3 a0 a5 a7 a8 H)
theorem X5{R:dc}(hR:iF R){K:KF}{x3:lr}(h3:vX K x3):LQ K (Ee R K x3):=λa0 a5 a6 a7 a8 H h=>pk hR (cc h3 .nil) h
def Ef(R:dc)(K:KF)(i2:ax):kO:=Ee R K (nq R K i2)
theorem X6{R:dc}(hR:iF R){K:KF}{i2:ax}(g2:jZ K i2):LQ K (Ef R K i2):=X5 hR (ua hR g2)
def Eg(R:dc)(K:KF)(x5:kO)(a0 a5:AV)(a6:Int)(a7:AV)(a8:Int)(H:AH):Prop:=ag 1 a7 λv1=>ad v1 H λv2=>R.2.2.2.1 v2 H λo3 H4=>cR K o3 H4 λv5=>bY v5 λz6=>bI z6 (ag 0 a7 λv7=>ah 1 v7 (.int 0 (.ofNat 1)) H4 λH8=>x5 a0 a5 a6 a7 a8 H8) (x5 a0 a5 a6 a7 a8 H4)
theorem X7{R:dc}(hR:iF R){K:KF}{x5:kO}(h5:LQ K x5):LO K (Eg R K x5):=λa0 a5 a6 a7 a8 H h=>pk hR (cc h5 .nil) h
def yL(R:dc)(K:KF)(i2:ax):kO:=Eg R K (Ef R K i2)
theorem X8{R:dc}(hR:iF R){K:KF}{i2:ax}(g2:jZ K i2):LO K (yL R K i2):=X7 hR (X6 hR g2)
def Eh(R:dc)(K:KF)(x3:lr)(a0 a5:AV)(a6:Int)(a7:AV)(a8:Int)(H:AH):Prop:=lC a0 (some (.int 0 a6)) (some (.int 0 a8)) λv1=>R.2.2.2.2.2.1 v1 H λo2 H3=>cR K o2 H3 λv4=>eU v4 λl5=>fh l5 0 λv6=>cI 0 v6 λz7=>eU v4 λl8=>fh l8 1 λv9=>bY v9 λz10=>bI (!z10) (K (.ret (.aP [.ab,(.int 0 (.ofNat 14)),(.int 0 a6)])) H3) (ag 2 a7 λv11=>ah 1 v11 (.int 0 z7) H3 λbQ=>x3 a0 a5 a7 a8 bQ)
theorem X9{R:dc}(hR:iF R){K:KF}{x3:lr}(h3:vX K x3):LU K (Eh R K x3):=λa0 a5 a6 a7 a8 H h=>pk hR (cc h3 .nil) h
def yM(R:dc)(K:KF)(i2:ax):kO:=Eh R K (nq R K i2)
theorem Ya{R:dc}(hR:iF R){K:KF}{i2:ax}(g2:jZ K i2):LU K (yM R K i2):=X9 hR (ua hR g2)
def Ei(R:dc)(K:KF)(a0 a5:AV)(H:AH):Prop:=sLen a0 λv1=>cI 0 v1 λz2=>aT (aE H) 1 4 [(.int 0 (.ofNat 0)),(.str 0 0),(.int 0 (.ofNat 0)),(.int 0 z2)] λv3 H4=>cO 4 40 a5 v3 H4 λv5 H6=>K (.ret (.aP [v5,(.int 0 (.ofNat 0)),(.int 0 (.ofNat 0))])) H6
theorem Yb{R:dc}(hR:iF R){K:KF}:LN K (Ei R K):=λa0 a5 H h=>pk hR .nil h
def Ej(R:dc)(K:KF):cN:=Ei R K
theorem Yc{R:dc}(hR:iF R){K:KF}:LN K (Ej R K):=Yb hR
def zP(R:dc)(K:KF)(x3:lr)(a0 a5:AV)(a6:Int)(a7:AV)(p9:Int)(H:AH):Prop:=bI (bA p9 (.ofNat 0)) (K (.ret (.aP [.ab,(.int 0 (.ofNat 14)),(.int 0 a6)])) H) (aC 0 (Int.add a6 p9) λz1=>lC a0 (some (.int 0 a6)) (some (.int 0 z1)) λv2=>aC 0 (Int.add a6 p9) λz3=>ag 0 a7 λv4=>ah 1 v4 (.int 0 (.ofNat 5)) H λH5=>ag 1 a7 λv6=>ah 1 v6 v2 H5 λH7=>x3 a0 a5 a7 z3 H7)
theorem RM{R:dc}(hR:iF R){K:KF}{x3:lr}(h3:vX K x3):GZ K (zP R K x3):=λa0 a5 a6 a7 p9 H h=>pk hR (cc h3 .nil) h
def G0(R:dc)(K:KF)(i2:ax):kO:=zP R K (nq R K i2)
theorem RN{R:dc}(hR:iF R){K:KF}{i2:ax}(g2:jZ K i2):GZ K (G0 R K i2):=RM hR (ua hR g2)
def Ek(R:dc)(K:KF)(x10:kO)(a0 a5:AV)(a6:Int)(a7:AV)(H:AH):Prop:=R.2.2.2.2.2.2.2 a0 a6 H λo1 H2=>cR K o1 H2 λv3=>cI 0 v3 λz4=>x10 a0 a5 a6 a7 z4 H2
theorem Yd{R:dc}(hR:iF R){K:KF}{x10:kO}(h10:GZ K x10):LW K (Ek R K x10):=λa0 a5 a6 a7 H h=>pk hR (cc h10 .nil) h
def yN(R:dc)(K:KF)(i2:ax):gN:=Ek R K (G0 R K i2)
theorem Ye{R:dc}(hR:iF R){K:KF}{i2:ax}(g2:jZ K i2):LW K (yN R K i2):=Yd hR (RN hR g2)
def wa(R:dc)(K:KF)(x7:gN)(x4 x6:kO)(x1:cN)(x8:gN)(a0 a5:AV)(a6:Int)(H:AH):Prop:=sLen a0 λv1=>cI 0 v1 λz2=>bI (cx a6 z2) (eI H (hN (aE H) [(.int 0 (.ofNat 0)),(.str 0 0),(.int 0 (.ofNat 0)),(.int 0 (.ofNat 0))] λv3 H4=>ah 4 v3 (.agg [(.int 0 (.ofNat 0)),(.str 0 0),(.int 0 (.ofNat 0)),(.int 0 a6)]) H4 λH5=>R.2.1 a0 a6 H5 λo6 H7=>cR K o6 H7 λv8=>cI 0 v8 λz9=>gX a0 (.int 0 a6) λv10=>cI 1 v10 λz11=>R.2.2.1 z11 H7 λqS fH=>cR K qS fH λv14=>bY v14 λmK=>bI mK (lC a0 (some (.int 0 a6)) (some (.int 0 z9)) λv16=>ag 1 v3 λv17=>ah 1 v17 v16 fH λiz=>ag 0 v3 λv19=>ah 1 v19 (.int 0 (.ofNat 2)) iz λjt=>x4 a0 a5 a6 v3 z9 jt) (gX a0 (.int 0 a6) λv21=>cI 1 v21 λz22=>R.2.2.2.2.1 z22 fH λVU p5=>cR K VU p5 λv25=>bY v25 λz26=>bI z26 (ag 0 v3 λv27=>ah 1 v27 (.int 0 (.ofNat 3)) p5 λp7=>x6 a0 a5 a6 v3 z9 p7) (gX a0 (.int 0 a6) λv29=>cI 1 v29 λz30=>bI (bA z30 (.ofNat 34)) (x7 a0 a5 a6 v3 p5) (gX a0 (.int 0 a6) λv31=>cI 1 v31 λz32=>bI (bA z32 (.ofNat 39)) (x7 a0 a5 a6 v3 p5) (x8 a0 a5 a6 v3 p5)))))) (x1 a0 a5 H)
theorem Yf{R:dc}(hR:iF R){K:KF}{x7:gN}{x4 x6:kO}{x1:cN}{x8:gN}(h7:LV K x7)(h4:LO K x4)(h6:LU K x6)(h1:LN K x1)(h8:LW K x8):jZ K (wa R K x7 x4 x6 x1 x8):=λa0 a5 a6 H h=>pk hR (cc h7 (cc h4 (cc h6 (cc h1 (cc h8 .nil))))) h
def Yg(R:dc)(K:KF)(i2:ax):ax:=wa R K (vZ R K i2) (yL R K i2) (yM R K i2) (Ej R K) (yN R K i2)
theorem Yh{R:dc}(hR:iF R){K:KF}{i2:ax}(g2:jZ K i2):jZ K (Yg R K i2):=Yf hR (X4 hR g2) (X8 hR g2) (Ya hR g2) (Yc hR) (Ye hR g2)
def eH(R:dc)(K:KF)(n:Nat):ax:=Nat.rec (motive:=λ_=>ax) (λ_ _ _ _=>False) (λ_ i=>Yg R K i) n
theorem Yi{R:dc}(hR:iF R){K:KF}(n:Nat):jZ K (eH R K n):=Nat.rec (motive:=λn=>jZ K (eH R K n)) (λa0 a5 a6 H h=>h.elim) (λn ih=>Yh hR ih) n
def El(R:dc)(K:KF)(x2:ax)(a0:AV)(H:AH):Prop:=sLen a0 λv1=>cI 0 v1 λz2=>bI (cx (.ofNat 16384) z2) (K (.ret (.aP [.ab,(.int 0 (.ofNat 8)),(.int 0 (.ofNat 0))])) H) (R.1 a0 (.ofNat 0) H λo3 H4=>cR K o3 H4 λv5=>cI 0 v5 λz6=>x2 a0 .ab z6 H4)
theorem Yj{R:dc}(hR:iF R){K:KF}{x2:ax}(h2:jZ K x2)(a0:AV)(H:AH)(h:El R K x2 a0 H):dQ 16 K [] (bz (dy 16) [a0]) [] H:=pk hR (cc h2 .nil) h
def alP(R:dc)(K:KF):Ta:=El R K (eH R K NL)
def ag6(R:dc):AV→AH→KF→Prop:=λa0 H K=>alP R K a0 H
theorem aiR(R:dc)(hR:iF R):aw gPa 16 (ao [.a] (ag6 R)):=rk λK a0 H h=>Yj hR (Yi hR NL) a0 H h
def bq:dc:=(f29,f30,f31,f32,f33,f34,f35,f36)
def f16:AV→AH→KF→Prop:=ag6 bq
theorem alQ:aw gPa 16 (ao [.a] f16):=aiR bq (af.cons alo (af.cons alw (af.cons WX (af.cons alB (af.cons DI (af.cons alE (af.cons alK (af.cons alN af.nil))))))))
abbrev ub:Type:=AV→AV→AV→AV→AH→Prop
abbrev iM:Type:=AV→AV→AV→AV→Int→Int→AH→Prop
abbrev aJ:Type:=AV→AV→AV→Int→Int→AH→Prop
abbrev o0:Type:=AV→AV→AV→Int→Int→AV→AH→Prop
abbrev iG:Type:=AV→AV→AV→Int→Int→AV→Int→AH→Prop
abbrev Em:Type:=AV→AV→AV→Int→Int→AV→Int→Int→Bool→AH→Prop
abbrev mz:Type:=AV→AV→Int→AV→Int→Int→AH→Prop
abbrev aF:Type:=AV→AV→Int→Int→AH→Prop
abbrev dN:Type:=AV→AV→Int→Int→AV→Int→Int→AH→Prop
abbrev ly:Type:=(AV→AH→KF→Prop)×(AV→AH→KF→Prop)
def alR(R:ly)(K:KF)(x2:ax)(a0 a3:AV)(a4:Int)(H:AH):Prop:=aC 0 (Int.add a4 (.ofNat 1)) λz1=>x2 a0 a3 z1 H
def alS(R:ly)(K:KF)(i2:ax):ax:=alR R K i2
def alT(R:ly)(K:KF)(x4:aF)(a0 a3:AV)(a4 a5:Int)(H:AH):Prop:=aC 0 (Int.add a5 (.ofNat 1)) λz1=>x4 a0 a3 a4 z1 H
def alU(R:ly)(K:KF)(i2:ax)(i4:aF):aF:=alT R K i4
def alV(R:ly)(K:KF)(x3:ax)(x5:aF)(a0 a3:AV)(a4 a5:Int)(H:AH):Prop:=bb 5 a0 (.int 0 a4) λv1=>ag 4 v1 λv2=>ad v2 H λv3=>bO v3 λv4=>cI 0 v4 λz5=>bI (cx a5 z5) (bb 5 a0 (.int 0 a4) λv6=>ag 4 v6 λv7=>ad v7 H λv8=>bb 1 v8 (.int 0 a5) λv9=>ad v9 H λv10=>R.1 v10 H λkM bQ=>cR K kM bQ λv13=>cO 2 48 a3 v13 bQ λv14 dZ=>x5 a0 v14 a4 a5 dZ) (x3 a0 a3 a4 H)
def alW(R:ly)(K:KF)(i2:ax)(i4:aF):aF:=alV R K (alS R K i2) (alU R K i2 i4)
def alX(R:ly)(K:KF)(i2:ax)(n:Nat):aF:=Nat.rec (motive:=λ_=>aF) (λ_ _ _ _ _=>False) (λ_ i=>alW R K i2 i) n
def alY(R:ly)(K:KF)(a3:AV)(H:AH):Prop:=K (.ret a3) H
def alZ(R:ly)(K:KF):Ta:=alY R K
def al0(R:ly)(K:KF)(x4:aF)(x1:Ta)(a0 a3:AV)(a4:Int)(H:AH):Prop:=bO a0 λv1=>cI 0 v1 λz2=>bI (cx a4 z2) (bb 5 a0 (.int 0 a4) λv3=>ag 3 v3 λv4=>ad v4 H λv5=>R.2 v5 H λo6 H7=>cR K o6 H7 λv8=>cO 2 48 a3 v8 H7 λv9 cn=>x4 a0 v9 a4 (.ofNat 0) cn) (x1 a3 H)
def al1(R:ly)(K:KF)(i2:ax):ax:=al0 R K (alX R K i2 NL) (alZ R K)
def al2(R:ly)(K:KF)(n:Nat):ax:=Nat.rec (motive:=λ_=>ax) (λ_ _ _ _=>False) (λ_ i=>al1 R K i) n
def al3(R:ly)(K:KF)(x2:ax)(a0:AV)(H:AH):Prop:=x2 a0 .ab (.ofNat 0) H
def al4(R:ly)(K:KF):Ta:=al3 R K (al2 R K NL)
def apz(R:ly):AV→AH→KF→Prop:=λa0 H K=>al4 R K a0 H
abbrev lz:Type:=(AV→AH→KF→Prop)×(AV→AH→KF→Prop)
def al5(R:lz)(K:KF)(x2:ax)(a0 a3:AV)(a4:Int)(H:AH):Prop:=aC 0 (Int.add a4 (.ofNat 1)) λz1=>x2 a0 a3 z1 H
def al6(R:lz)(K:KF)(i2:ax):ax:=al5 R K i2
def al7(R:lz)(K:KF)(x4:aF)(a0 a3:AV)(a4 a5:Int)(H:AH):Prop:=aC 0 (Int.add a5 (.ofNat 1)) λz1=>x4 a0 a3 a4 z1 H
def al8(R:lz)(K:KF)(i2:ax)(i4:aF):aF:=al7 R K i4
def al9(R:lz)(K:KF)(x3:ax)(x5:aF)(a0 a3:AV)(a4 a5:Int)(H:AH):Prop:=bb 7 a0 (.int 0 a4) λv1=>ag 6 v1 λv2=>ad v2 H λv3=>bO v3 λv4=>cI 0 v4 λz5=>bI (cx a5 z5) (bb 7 a0 (.int 0 a4) λv6=>ag 6 v6 λv7=>ad v7 H λv8=>bb 2 v8 (.int 0 a5) λv9=>aQ 2 v9 H λv10=>cP H (onVal v10 λHN=>gK HN 2 (aT (aE H) 1 2 (spl HN [.ab,.ab] 0) λv12 fH=>bT (Nat.beq fH.n (Nat.succ H.n)) (bb 7 a0 (.int 0 a4) λv14=>ag 6 v14 λv15=>ad v15 fH λv16=>bb 2 v16 (.int 0 a5) λv17=>ag 1 v17 λv18=>ad v18 fH λv19=>cO 2 48 a3 v12 fH λv20 gZ=>ad v18 gZ λv22=>bT (bu v22 v19) (ad v15 gZ λv23=>bT (bu v23 v16) (R.1 v19 gZ λUS rI=>cR K US rI λv26=>cO 2 48 v20 v26 rI λv27 p7=>x5 a0 v27 a4 a5 p7)))))) (x3 a0 a3 a4 H)
def ama(R:lz)(K:KF)(i2:ax)(i4:aF):aF:=al9 R K (al6 R K i2) (al8 R K i2 i4)
def amb(R:lz)(K:KF)(i2:ax)(n:Nat):aF:=Nat.rec (motive:=λ_=>aF) (λ_ _ _ _ _=>False) (λ_ i=>ama R K i2 i) n
def amc(R:lz)(K:KF)(a3:AV)(H:AH):Prop:=K (.ret a3) H
def amd(R:lz)(K:KF):Ta:=amc R K
def ame(R:lz)(K:KF)(x4:aF)(x1:Ta)(a0 a3:AV)(a4:Int)(H:AH):Prop:=bO a0 λv1=>cI 0 v1 λz2=>bI (cx a4 z2) (bb 7 a0 (.int 0 a4) λv3=>ag 5 v3 λv4=>ad v4 H λv5=>R.2 v5 H λo6 H7=>cR K o6 H7 λv8=>cO 2 48 a3 v8 H7 λv9 cn=>x4 a0 v9 a4 (.ofNat 0) cn) (x1 a3 H)
def amf(R:lz)(K:KF)(i2:ax):ax:=ame R K (amb R K i2 NL) (amd R K)
def amg(R:lz)(K:KF)(n:Nat):ax:=Nat.rec (motive:=λ_=>ax) (λ_ _ _ _=>False) (λ_ i=>amf R K i) n
def amh(R:lz)(K:KF)(x2:ax)(a0:AV)(H:AH):Prop:=x2 a0 .ab (.ofNat 0) H
def ami(R:lz)(K:KF):Ta:=amh R K (amg R K NL)
def apA(R:lz):AV→AH→KF→Prop:=λa0 H K=>ami R K a0 H
abbrev s2R:Type:=(AV→AH→KF→Prop)×(AV→AH→KF→Prop)
def amj(S:s2R):ly:=(S.1,S.2)
def amk(S:s2R):lz:=(S.1,S.2)
noncomputable def s2(n:Nat):s2R:=Nat.rec (motive:=λ_=>s2R) (λ_ _ _=>False,λ_ _ _=>False) (λ_ S=>(apz (amj S),apA (amk S))) n
def f12:AV→AH→KF→Prop:=(s2 NL).1
abbrev j8:Type:=Unit
def aml(R:j8):List (Nat×cY):=[]
abbrev xw(R:j8):Prop:=af gPa (aml R)
abbrev LZ(K:KF)(F:T_):Prop:=aR 13 K [1,1,1] 26 [] [] F
abbrev sS(K:KF)(F:ax):Prop:=aR 13 K [0,1,0,1,1] 26 [0,1,5] [.a,.a,.i 0] F
def Yk(R:j8)(K:KF)(H:AH):Prop:=K (.ret (.bool true)) H
theorem Yl{R:j8}(hR:xw R){K:KF}:LZ K (Yk R K):=λH h=>pk hR .nil h
def Ym(R:j8)(K:KF):T_:=Yk R K
theorem Yn{R:j8}(hR:xw R){K:KF}:LZ K (Ym R K):=Yl hR
def Yo(R:j8)(K:KF)(x2:ax)(x1:T_)(a0 a1:AV)(a5:Int)(H:AH):Prop:=bO a0 λv1=>cI 0 v1 λz2=>bI (cx a5 z2) (bb 1 a0 (.int 0 a5) λv3=>ad v3 H λv4=>bb 1 a1 (.int 0 a5) λv5=>ad v5 H λv6=>sNe v4 v6 λv7=>bY v7 λz8=>bI z8 (K (.ret (.bool false)) H) (aC 0 (Int.add a5 (.ofNat 1)) λz9=>x2 a0 a1 z9 H)) (x1 H)
theorem Yp{R:j8}(hR:xw R){K:KF}{x2:ax}{x1:T_}(h2:sS K x2)(h1:LZ K x1):sS K (Yo R K x2 x1):=λa0 a1 a5 H h=>pk hR (cc h2 (cc h1 .nil)) h
def Yq(R:j8)(K:KF)(i2:ax):ax:=Yo R K i2 (Ym R K)
theorem Yr{R:j8}(hR:xw R){K:KF}{i2:ax}(g2:sS K i2):sS K (Yq R K i2):=Yp hR g2 (Yn hR)
def L9(R:j8)(K:KF)(n:Nat):ax:=Nat.rec (motive:=λ_=>ax) (λ_ _ _ _=>False) (λ_ i=>Yq R K i) n
theorem Ys{R:j8}(hR:xw R){K:KF}(n:Nat):sS K (L9 R K n):=Nat.rec (motive:=λn=>sS K (L9 R K n)) (λa0 a1 a5 H h=>h.elim) (λn ih=>Yr hR ih) n
def Yt(R:j8)(K:KF)(x2:ax)(a0 a1:AV)(H:AH):Prop:=bO a0 λv1=>cI 0 v1 λz2=>bO a1 λv3=>cI 0 v3 λz4=>bI (!(bA z2 z4)) (K (.ret (.bool false)) H) (x2 a0 a1 (.ofNat 0) H)
theorem Yu{R:j8}(hR:xw R){K:KF}{x2:ax}(h2:sS K x2)(a0 a1:AV)(H:AH)(h:Yt R K x2 a0 a1 H):dQ 13 K [] (bz (dy 13) [a0,a1]) [] H:=pk hR (cc h2 .nil) h
def amm(R:j8)(K:KF):cN:=Yt R K (L9 R K NL)
def ag7(R:j8):AV→AV→AH→KF→Prop:=λa0 a1 H K=>amm R K a0 a1 H
theorem aiS(R:j8)(hR:xw R):aw gPa 13 (ao [.a,.a] (ag7 R)):=rk λK a0 a1 H h=>Yu hR (Ys hR NL) a0 a1 H h
def Yv:j8:=()
def f13:AV→AV→AH→KF→Prop:=ag7 Yv
theorem amn:aw gPa 13 (ao [.a,.a] f13):=aiS Yv af.nil
abbrev j9:Type:=Unit
def amo(R:j9):List (Nat×cY):=[]
abbrev xx(R:j9):Prop:=af gPa (amo R)
abbrev Ma(K:KF)(F:T_):Prop:=aR 49 K [1,1] 19 [] [] F
abbrev sT(K:KF)(F:aF):Prop:=aR 49 K [0,1,0,1] 19 [0,1,7,8] [.a,.a,.i 0,.i 0] F
def Eo(R:j9)(K:KF)(H:AH):Prop:=K (.ret (.int 0 (.negSucc 0))) H
theorem Yw{R:j9}(hR:xx R){K:KF}:Ma K (Eo R K):=λH h=>pk hR .nil h
def Yx(R:j9)(K:KF):T_:=Eo R K
theorem Yy{R:j9}(hR:xx R){K:KF}:Ma K (Yx R K):=Yw hR
def Ep(R:j9)(K:KF)(x2:aF)(x1:T_)(a0 a1:AV)(a7 a8:Int)(H:AH):Prop:=bI (cx a8 a7) (bb 1 a0 (.int 0 a8) λv1=>ad v1 H λv2=>uZ a1 v2 λv3=>bY v3 λz4=>bI z4 (K (.ret (.int 0 a8)) H) (aC 0 (Int.add a8 (.ofNat 1)) λz5=>x2 a0 a1 a7 z5 H)) (x1 H)
theorem Yz{R:j9}(hR:xx R){K:KF}{x2:aF}{x1:T_}(h2:sT K x2)(h1:Ma K x1):sT K (Ep R K x2 x1):=λa0 a1 a7 a8 H h=>pk hR (cc h2 (cc h1 .nil)) h
def YA(R:j9)(K:KF)(i2:aF):aF:=Ep R K i2 (Yx R K)
theorem YB{R:j9}(hR:xx R){K:KF}{i2:aF}(g2:sT K i2):sT K (YA R K i2):=Yz hR g2 (Yy hR)
def wc(R:j9)(K:KF)(n:Nat):aF:=Nat.rec (motive:=λ_=>aF) (λ_ _ _ _ _=>False) (λ_ i=>YA R K i) n
theorem YC{R:j9}(hR:xx R){K:KF}(n:Nat):sT K (wc R K n):=Nat.rec (motive:=λn=>sT K (wc R K n)) (λa0 a1 a7 a8 H h=>h.elim) (λn ih=>YB hR ih) n
def Er(R:j9)(K:KF)(x2:aF)(a0 a1:AV)(H:AH):Prop:=bO a0 λv1=>cI 0 v1 λz2=>x2 a0 a1 z2 (.ofNat 0) H
theorem YD{R:j9}(hR:xx R){K:KF}{x2:aF}(h2:sT K x2)(a0 a1:AV)(H:AH)(h:Er R K x2 a0 a1 H):dQ 49 K [] (bz (dy 49) [a0,a1]) [] H:=pk hR (cc h2 .nil) h
def amp(R:j9)(K:KF):cN:=Er R K (wc R K NL)
def ag8(R:j9):AV→AV→AH→KF→Prop:=λa0 a1 H K=>amp R K a0 a1 H
theorem aiT(R:j9)(hR:xx R):aw gPa 49 (ao [.a,.a] (ag8 R)):=rk λK a0 a1 H h=>YD hR (YC hR NL) a0 a1 H h
def qY:j9:=()
def f49:AV→AV→AH→KF→Prop:=ag8 qY
theorem amq:aw gPa 49 (ao [.a,.a] f49):=aiT qY af.nil
abbrev uc:Type:=(AV→AV→AH→KF→Prop)
def amr(R:uc):List (Nat×cY):=[(49,ao [.a,.a] R)]
abbrev ag9(R:uc):Prop:=af gPa (amr R)
def Es(R:uc)(K:KF)(a0 a1:AV)(H:AH):Prop:=R a0 a1 H λo1 H2=>cR K o1 H2 λv3=>cI 0 v3 λz4=>K (.ret (.bool (!(cx z4 (.ofNat 0))))) H2
theorem YE{R:uc}(hR:ag9 R){K:KF}(a0 a1:AV)(H:AH)(h:Es R K a0 a1 H):dQ 23 K [] (bz (dy 23) [a0,a1]) [] H:=pk hR .nil h
def ams(R:uc)(K:KF):cN:=Es R K
def aha(R:uc):AV→AV→AH→KF→Prop:=λa0 a1 H K=>ams R K a0 a1 H
theorem aiU(R:uc)(hR:ag9 R):aw gPa 23 (ao [.a,.a] (aha R)):=rk λK a0 a1 H h=>YE hR a0 a1 H h
def Mb:uc:=(f49)
def f23:AV→AV→AH→KF→Prop:=aha Mb
theorem Mc:aw gPa 23 (ao [.a,.a] f23):=aiU Mb (af.cons amq af.nil)
abbrev ud:Type:=(AV→AV→AH→KF→Prop)×(AV→AH→KF→Prop)
def amt(R:ud):List (Nat×cY):=[(23,ao [.a,.a] R.1),(24,ao [.a] R.2)]
abbrev ahb(R:ud):Prop:=af gPa (amt R)
def Et(R:ud)(K:KF)(a0:AV)(H:AH):Prop:=R.2 (.str 130 4989745452750927712642869024936041018982183869112399744596646328559347698139019358746423479417311085373974869505494574274628988303325946808601483887101106809989390966068797068531459062952690525578417336589675308608346298249300317674214036809461764501959304432550546839486516338336139505618763273980857346390260084) H λo1 H2=>cR K o1 H2 λv3=>R.1 v3 a0 H2 λo4 H5=>cR K o4 H5 λv6=>bY v6 λz7=>K (.ret (.bool z7)) H5
theorem YF{R:ud}(hR:ahb R){K:KF}(a0:AV)(H:AH)(h:Et R K a0 H):dQ 10 K [] (bz (dy 10) [a0]) [] H:=pk hR .nil h
def amu(R:ud)(K:KF):Ta:=Et R K
def RO(R:ud):AV→AH→KF→Prop:=λa0 H K=>amu R K a0 H
theorem Pu(R:ud)(hR:ahb R):aw gPa 10 (ao [.a] (RO R)):=rk λK a0 H h=>YF hR a0 H h
abbrev oA:Type:=(AV→AH→KF→Prop)×(AV→AV→AH→KF→Prop)
def amv(R:oA):List (Nat×cY):=[(10,ao [.a] R.1),(23,ao [.a,.a] R.2)]
abbrev IA(R:oA):Prop:=af gPa (amv R)
abbrev Md(K:KF)(F:cN):Prop:=aR 73 K [0,1] 35 [0,1] [.a,.a] F
def YG(R:oA)(K:KF)(a0 a1:AV)(H:AH):Prop:=au a0 (ag 1 a0 λv1=>ad v1 H λv2=>one a1 (aT (aE H) 1 1 [a1] λv3 H4=>cO 1 16 v2 v3 H4 λv5 H6=>au a0 (ag 1 a0 λv7=>ah 1 v7 v5 H6 λH8=>K (.ret (.aP [])) H8)))
theorem YH{R:oA}(hR:IA R){K:KF}:Md K (YG R K):=λa0 a1 H h=>pk hR .nil h
def YI(R:oA)(K:KF):cN:=YG R K
theorem YJ{R:oA}(hR:IA R){K:KF}:Md K (YI R K):=YH hR
def YK(R:oA)(K:KF)(x1:cN)(a0 a1:AV)(H:AH):Prop:=au a0 (ag 0 a0 λv1=>ad v1 H λv2=>R.2 v2 a1 H λo3 H4=>cR K o3 H4 λv5=>bY v5 λz6=>bI (!z6) (R.1 a1 H4 λo7 H8=>cR K o7 H8 λv9=>bY v9 λz10=>bI (!z10) (au a0 (ag 1 a0 λv11=>ad v11 H8 λv12=>R.2 v12 a1 H8 λlI dk=>cR K lI dk λv15=>bY v15 λqN=>bI (!qN) (x1 a0 a1 dk) (K (.ret (.aP [])) dk))) (K (.ret (.aP [])) H8)) (K (.ret (.aP [])) H4))
theorem YL{R:oA}(hR:IA R){K:KF}{x1:cN}(h1:Md K x1)(a0 a1:AV)(H:AH)(h:YK R K x1 a0 a1 H):dQ 73 K [] (bz (dy 73) [a0,a1]) [] H:=pk hR (cc h1 .nil) h
def amw(R:oA)(K:KF):cN:=YK R K (YI R K)
def RP(R:oA):AV→AV→AH→KF→Prop:=λa0 a1 H K=>amw R K a0 a1 H
theorem aiV(R:oA)(hR:IA R):aw gPa 73 (ao [.a,.a] (RP R)):=rk λK a0 a1 H h=>YL hR (YJ hR) a0 a1 H h
abbrev jg:Type:=(AV→AV→AH→KF→Prop)×(AV→AV→AH→KF→Prop)
def amx(R:jg):List (Nat×cY):=[(52,ao [.a,.a] R.1),(53,ao [.a,.a] R.2)]
abbrev rT(R:jg):Prop:=af gPa (amx R)
abbrev Me(K:KF)(F:lr):Prop:=aR 27 K [1,1] 47 [0,2,3,8] [.a,.a,.a,.i 0] F
abbrev Mf(K:KF)(F:ax):Prop:=aR 27 K [1,1,1] 47 [0,3,8] [.a,.a,.i 0] F
abbrev sU(K:KF)(F:mz):Prop:=aR 27 K [0,1,0,1,1] 47 [0,3,8,25,26,27] [.a,.a,.i 0,.a,.i 0,.i 0] F
def YM(R:jg)(K:KF)(a0 a3:AV)(a8:Int)(H:AH):Prop:=R.2 a0 a3 H λo1 H2=>cR K o1 H2 λv3=>au a0 (ag 0 a0 λv4=>ad v4 H2 λv5=>fx 1 v5 none (some (.int 0 a8)) none λv6=>au a0 (ag 0 a0 λv7=>ah 1 v7 v6 H2 λH8=>K (.ret (.aP [])) H8))
theorem YN{R:jg}(hR:rT R){K:KF}:Mf K (YM R K):=λa0 a3 a8 H h=>pk hR .nil h
def YO(R:jg)(K:KF):ax:=YM R K
theorem YP{R:jg}(hR:rT R){K:KF}:Mf K (YO R K):=YN hR
def YQ(R:jg)(K:KF)(x3:mz)(x2:ax)(a0 a3:AV)(a8:Int)(a25:AV)(a26 a27:Int)(H:AH):Prop:=bI (cx a27 a26) (bb 5 a25 (.int 0 a27) λv1=>aQ 5 v1 H λv2=>eI H (hN (aE H) [(.int 0 (.ofNat 0)),(.int 0 (.ofNat 0)),.ab,.ab,.ab] λv3 H4=>ah 5 v3 v2 H4 λH5=>aQ 5 v3 H5 λv6=>R.1 a0 v6 H5 λo7 H8=>cR K o7 H8 λv9=>aC 0 (Int.add a27 (.ofNat 1)) λz10=>x3 a0 a3 a8 a25 a26 z10 H8)) (x2 a0 a3 a8 H)
theorem YR{R:jg}(hR:rT R){K:KF}{x3:mz}{x2:ax}(h3:sU K x3)(h2:Mf K x2):sU K (YQ R K x3 x2):=λa0 a3 a8 a25 a26 a27 H h=>pk hR (cc h3 (cc h2 .nil)) h
def YS(R:jg)(K:KF)(i3:mz):mz:=YQ R K i3 (YO R K)
theorem YT{R:jg}(hR:rT R){K:KF}{i3:mz}(g3:sU K i3):sU K (YS R K i3):=YR hR g3 (YP hR)
def Mg(R:jg)(K:KF)(n:Nat):mz:=Nat.rec (motive:=λ_=>mz) (λ_ _ _ _ _ _ _=>False) (λ_ i=>YS R K i) n
theorem YU{R:jg}(hR:rT R){K:KF}(n:Nat):sU K (Mg R K n):=Nat.rec (motive:=λn=>sU K (Mg R K n)) (λa0 a3 a8 a25 a26 a27 H h=>h.elim) (λn ih=>YT hR ih) n
def YV(R:jg)(K:KF)(x3:mz)(a0 a2 a3:AV)(a8:Int)(H:AH):Prop:=bO a2 λv1=>cI 0 v1 λz2=>x3 a0 a3 a8 a2 z2 (.ofNat 0) H
theorem YW{R:jg}(hR:rT R){K:KF}{x3:mz}(h3:sU K x3):Me K (YV R K x3):=λa0 a2 a3 a8 H h=>pk hR (cc h3 .nil) h
def YX(R:jg)(K:KF):lr:=YV R K (Mg R K NL)
theorem YY{R:jg}(hR:rT R){K:KF}:Me K (YX R K):=YW hR (YU hR NL)
def YZ(R:jg)(K:KF)(x1:lr)(a0 a1 a2 a3:AV)(H:AH):Prop:=au a0 (ag 0 a0 λv1=>ad v1 H λv2=>bO v2 λv3=>cI 0 v3 λz4=>au a0 (ag 0 a0 λv5=>ad v5 H λv6=>cO 1 16 v6 a1 H λv7 H8=>au a0 (ag 0 a0 λv9=>ah 1 v9 v7 H8 λcn=>x1 a0 a2 a3 z4 cn)))
theorem Y0{R:jg}(hR:rT R){K:KF}{x1:lr}(h1:Me K x1)(a0 a1 a2 a3:AV)(H:AH)(h:YZ R K x1 a0 a1 a2 a3 H):dQ 27 K [] (bz (dy 27) [a0,a1,a2,a3]) [] H:=pk hR (cc h1 .nil) h
def amy(R:jg)(K:KF):ub:=YZ R K (YX R K)
def RQ(R:jg):AV→AV→AV→AV→AH→KF→Prop:=λa0 a1 a2 a3 H K=>amy R K a0 a1 a2 a3 H
theorem aiW(R:jg)(hR:rT R):aw gPa 27 (ao [.a,.a,.a,.a] (RQ R)):=rk λK a0 a1 a2 a3 H h=>Y0 hR (YY hR) a0 a1 a2 a3 H h
abbrev dx:Type:=(AV→AV→AV→AV→AH→KF→Prop)×(AV→AV→AH→KF→Prop)
def amz(R:dx):List (Nat×cY):=[(27,ao [.a,.a,.a,.a] R.1),(53,ao [.a,.a] R.2)]
abbrev jh(R:dx):Prop:=af gPa (amz R)
abbrev Mh(K:KF)(F:cN):Prop:=aR 52 K [1,0,1,1,1,0,1,1] 103 [0,3] [.a,.a] F
abbrev sV(K:KF)(F:aJ):Prop:=aR 52 K [0,1,0,1,1,1,1,1,0,1,1] 103 [0,3,64,65,66] [.a,.a,.a,.i 0,.i 0] F
abbrev Mi(K:KF)(F:aJ):Prop:=aR 52 K [1,0,1,1,1,1,1,1,1,0,1,1] 103 [0,3,79,80,81] [.a,.a,.a,.i 0,.i 0] F
abbrev Mj(K:KF)(F:cN):Prop:=aR 52 K [1,1,1,1,1,1,1,1,1,0,1,1] 103 [0,3] [.a,.a] F
abbrev pE(K:KF)(F:aJ):Prop:=aR 52 K [0,1,0,1,1,1,1,1,1,1,0,1,1] 103 [0,3,79,80,81] [.a,.a,.a,.i 0,.i 0] F
abbrev sW(K:KF)(F:aJ):Prop:=aR 52 K [0,1,1,1,1,1,1,1,1,1,1,0,1,1] 103 [0,3,17,18,19] [.a,.a,.a,.i 0,.i 0] F
abbrev Mk(K:KF)(F:aJ):Prop:=aR 52 K [1,1,1,0,0,1,0,1,1,1,1,1,1,1,0,1,1] 103 [0,3,79,80,81] [.a,.a,.a,.i 0,.i 0] F
abbrev Ml(K:KF)(F:iM):Prop:=aR 52 K [1,1,0,0,1,1,0,0,1,0,1,1,1,1,1,1,1,0,1,1] 103 [0,3,7,79,80,81] [.a,.a,.a,.a,.i 0,.i 0] F
def Y1(R:dx)(K:KF)(x2:aJ)(a0 a3 a64:AV)(a65 a66:Int)(H:AH):Prop:=bI (cx a66 a65) (bb 1 a64 (.int 0 a66) λv1=>ad v1 H λv2=>ag 3 a3 λv3=>ad v3 H λv4=>R.1 a0 .ab v2 v4 H λo5 H6=>cR K o5 H6 λv7=>aC 0 (Int.add a66 (.ofNat 1)) λz8=>x2 a0 a3 a64 a65 z8 H6) (K (.ret (.aP [])) H)
theorem Y2{R:dx}(hR:jh R){K:KF}{x2:aJ}(h2:sV K x2):sV K (Y1 R K x2):=λa0 a3 a64 a65 a66 H h=>pk hR (cc h2 .nil) h
def Y3(R:dx)(K:KF)(i2:aJ):aJ:=Y1 R K i2
theorem Y4{R:dx}(hR:jh R){K:KF}{i2:aJ}(g2:sV K i2):sV K (Y3 R K i2):=Y2 hR g2
def Mm(R:dx)(K:KF)(n:Nat):aJ:=Nat.rec (motive:=λ_=>aJ) (λ_ _ _ _ _ _=>False) (λ_ i=>Y3 R K i) n
theorem Y5{R:dx}(hR:jh R){K:KF}(n:Nat):sV K (Mm R K n):=Nat.rec (motive:=λn=>sV K (Mm R K n)) (λa0 a3 a64 a65 a66 H h=>h.elim) (λn ih=>Y4 hR ih) n
def Y6(R:dx)(K:KF)(a0 a3:AV)(H:AH):Prop:=ag 3 a3 λv1=>ad v1 H λv2=>R.2 a0 v2 H λo3 H4=>cR K o3 H4 λv5=>K (.ret (.aP [])) H4
theorem Y7{R:dx}(hR:jh R){K:KF}:Mh K (Y6 R K):=λa0 a3 H h=>pk hR .nil h
def Y8(R:dx)(K:KF):cN:=Y6 R K
theorem Y9{R:dx}(hR:jh R){K:KF}:Mh K (Y8 R K):=Y7 hR
def Za(R:dx)(K:KF)(x5:aJ)(a0 a3 a79:AV)(a80 qa:Int)(H:AH):Prop:=aC 0 (Int.add qa (.ofNat 1)) λz1=>x5 a0 a3 a79 a80 z1 H
theorem Zb{R:dx}(hR:jh R){K:KF}{x5:aJ}(h5:pE K x5):Mk K (Za R K x5):=λa0 a3 a79 a80 qa H h=>pk hR (cc h5 .nil) h
def Zc(R:dx)(K:KF)(i5:aJ):aJ:=Za R K i5
theorem Zd{R:dx}(hR:jh R){K:KF}{i5:aJ}(g5:pE K i5):Mk K (Zc R K i5):=Zb hR g5
def Ze(R:dx)(K:KF)(x7:aJ)(a0 a3 a7 a79:AV)(a80 qa:Int)(H:AH):Prop:=R.1 a0 .ab a7 .ab H λo1 H2=>cR K o1 H2 λv3=>x7 a0 a3 a79 a80 qa H2
theorem Zf{R:dx}(hR:jh R){K:KF}{x7:aJ}(h7:Mk K x7):Ml K (Ze R K x7):=λa0 a3 a7 a79 a80 qa H h=>pk hR (cc h7 .nil) h
def Zg(R:dx)(K:KF)(i5:aJ):iM:=Ze R K (Zc R K i5)
theorem Zh{R:dx}(hR:jh R){K:KF}{i5:aJ}(g5:pE K i5):Ml K (Zg R K i5):=Zf hR (Zd hR g5)
def Zi(R:dx)(K:KF)(x8:iM)(a0 a3 a79:AV)(a80 qa:Int)(H:AH):Prop:=bI (cx qa a80) (bb 1 a79 (.int 0 qa) λv1=>ad v1 H λv2=>ag 3 a3 λv3=>ad v3 H λv4=>bO v4 λv5=>cI 0 v5 λz6=>bI (cx qa z6) (ag 3 a3 λv7=>ad v7 H λv8=>aC 0 (Int.add qa (.ofNat 1)) λz9=>fx 7 v8 (some (.int 0 qa)) (some (.int 0 z9)) none λv10=>R.2 a0 v10 H λkM bQ=>cR K kM bQ λv13=>x8 a0 a3 v2 a79 a80 qa bQ) (x8 a0 a3 v2 a79 a80 qa H)) (K (.ret (.aP [])) H)
theorem Zj{R:dx}(hR:jh R){K:KF}{x8:iM}(h8:Ml K x8):pE K (Zi R K x8):=λa0 a3 a79 a80 qa H h=>pk hR (cc h8 .nil) h
def Zk(R:dx)(K:KF)(i5:aJ):aJ:=Zi R K (Zg R K i5)
theorem Zl{R:dx}(hR:jh R){K:KF}{i5:aJ}(g5:pE K i5):pE K (Zk R K i5):=Zj hR (Zh hR g5)
def Mn(R:dx)(K:KF)(n:Nat):aJ:=Nat.rec (motive:=λ_=>aJ) (λ_ _ _ _ _ _=>False) (λ_ i=>Zk R K i) n
theorem Zm{R:dx}(hR:jh R){K:KF}(n:Nat):pE K (Mn R K n):=Nat.rec (motive:=λn=>pE K (Mn R K n)) (λa0 a3 a79 a80 qa H h=>h.elim) (λn ih=>Zl hR ih) n
def Zn(R:dx)(K:KF)(x5:aJ)(a0 a3 a79:AV)(a80 qa:Int)(H:AH):Prop:=x5 a0 a3 a79 a80 qa H
theorem Zo{R:dx}(hR:jh R){K:KF}{x5:aJ}(h5:pE K x5):Mi K (Zn R K x5):=λa0 a3 a79 a80 qa H h=>pk hR (cc h5 .nil) h
def Zp(R:dx)(K:KF):aJ:=Zn R K (Mn R K NL)
theorem Zq{R:dx}(hR:jh R){K:KF}:Mi K (Zp R K):=Zo hR (Zm hR NL)
def Zr(R:dx)(K:KF)(x6:aJ)(a0 a3 a17:AV)(Eu yO:Int)(H:AH):Prop:=bI (cx yO Eu) (bb 1 a17 (.int 0 yO) λv1=>ad v1 H λv2=>ag 2 a3 λv3=>ad v3 H λv4=>R.1 a0 v4 v2 .ab H λo5 H6=>cR K o5 H6 λv7=>aC 0 (Int.add yO (.ofNat 1)) λz8=>x6 a0 a3 a17 Eu z8 H6) (K (.ret (.aP [])) H)
theorem Zs{R:dx}(hR:jh R){K:KF}{x6:aJ}(h6:sW K x6):sW K (Zr R K x6):=λa0 a3 a17 Eu yO H h=>pk hR (cc h6 .nil) h
def Zt(R:dx)(K:KF)(i6:aJ):aJ:=Zr R K i6
theorem Zu{R:dx}(hR:jh R){K:KF}{i6:aJ}(g6:sW K i6):sW K (Zt R K i6):=Zs hR g6
def Mo(R:dx)(K:KF)(n:Nat):aJ:=Nat.rec (motive:=λ_=>aJ) (λ_ _ _ _ _ _=>False) (λ_ i=>Zt R K i) n
theorem Zv{R:dx}(hR:jh R){K:KF}(n:Nat):sW K (Mo R K n):=Nat.rec (motive:=λn=>sW K (Mo R K n)) (λa0 a3 a17 Eu yO H h=>h.elim) (λn ih=>Zu hR ih) n
def Zw(R:dx)(K:KF)(x6:aJ)(a0 a3:AV)(H:AH):Prop:=ag 4 a3 λv1=>ad v1 H λv2=>bO v2 λv3=>cI 0 v3 λz4=>x6 a0 a3 v2 z4 (.ofNat 0) H
theorem Zx{R:dx}(hR:jh R){K:KF}{x6:aJ}(h6:sW K x6):Mj K (Zw R K x6):=λa0 a3 H h=>pk hR (cc h6 .nil) h
def Zy(R:dx)(K:KF):cN:=Zw R K (Mo R K NL)
theorem Zz{R:dx}(hR:jh R){K:KF}:Mj K (Zy R K):=Zx hR (Zv hR NL)
def ZA(R:dx)(K:KF)(x2:aJ)(x1:cN)(x3:aJ)(x4:cN)(a0 a1:AV)(H:AH):Prop:=mB (aE H) a1 λv1 H2=>ag 0 v1 λv3=>ad v3 H2 λv4=>cI 0 v4 λz5=>bI (bA z5 (.ofNat 1)) (ag 3 v1 λv6=>ad v6 H2 λv7=>R.2 a0 v7 H2 λo8 H9=>cR K o8 H9 λv10=>au a0 (ag 0 a0 λv11=>ad v11 H9 λv12=>ag 2 v1 λv13=>ad v13 H9 λv14=>cO 1 16 v12 v14 H9 λv15 eE=>au a0 (ag 0 a0 λv17=>ah 1 v17 v15 eE λiz=>K (.ret (.aP [])) iz))) (bI (bA z5 (.ofNat 12)) (au a0 (ag 0 a0 λv19=>ad v19 H2 λv20=>ag 2 v1 λv21=>ad v21 H2 λv22=>cO 1 16 v20 v22 H2 λv23 p5=>au a0 (ag 0 a0 λv25=>ah 1 v25 v23 p5 λAp=>x1 a0 v1 Ap))) (bI (bA z5 (.ofNat 8)) (ag 4 v1 λv27=>ad v27 H2 λv28=>bO v28 λv29=>cI 0 v29 λz30=>x2 a0 v1 v28 z30 (.ofNat 0) H2) (bI (bA z5 (.ofNat 4)) (ag 4 v1 λv31=>ad v31 H2 λv32=>bO v32 λv33=>cI 0 v33 λz34=>x3 a0 v1 v32 z34 (.ofNat 0) H2) (ag 3 v1 λv35=>ad v35 H2 λv36=>R.2 a0 v36 H2 λo37 Kp=>cR K o37 Kp λv39=>x4 a0 v1 Kp))))
theorem ZB{R:dx}(hR:jh R){K:KF}{x2:aJ}{x1:cN}{x3:aJ}{x4:cN}(h2:sV K x2)(h1:Mh K x1)(h3:Mi K x3)(h4:Mj K x4)(a0 a1:AV)(H:AH)(h:ZA R K x2 x1 x3 x4 a0 a1 H):dQ 52 K [] (bz (dy 52) [a0,a1]) [] H:=pk hR (cc h2 (cc h1 (cc h3 (cc h4 .nil)))) h
def amA(R:dx)(K:KF):cN:=ZA R K (Mm R K NL) (Y8 R K) (Zp R K) (Zy R K)
def RR(R:dx):AV→AV→AH→KF→Prop:=λa0 a1 H K=>amA R K a0 a1 H
theorem aiX(R:dx)(hR:jh R):aw gPa 52 (ao [.a,.a] (RR R)):=rk λK a0 a1 H h=>ZB hR (Y5 hR NL) (Y9 hR) (Zq hR) (Zz hR) a0 a1 H h
abbrev fC:Type:=(AV→AV→AV→AV→AH→KF→Prop)×(AV→AV→AH→KF→Prop)×(AV→AV→AH→KF→Prop)
def amB(R:fC):List (Nat×cY):=[(27,ao [.a,.a,.a,.a] R.1),(53,ao [.a,.a] R.2.1),(73,ao [.a,.a] R.2.2)]
abbrev mO(R:fC):Prop:=af gPa (amB R)
abbrev mi(K:KF)(F:aF):Prop:=aR 53 K [0,1] 40 [0,8,9,10] [.a,.a,.i 0,.i 0] F
abbrev Mp(K:KF)(F:aF):Prop:=aR 53 K [1,1,1,0,0,1] 40 [0,8,9,10] [.a,.a,.i 0,.i 0] F
abbrev Mq(K:KF)(F:aJ):Prop:=aR 53 K [1,1,0,0,1,1,0,0,1] 40 [0,5,8,9,10] [.a,.a,.a,.i 0,.i 0] F
abbrev qZ(K:KF)(F:dN):Prop:=aR 53 K [0,1,1,1,1,0,0,1,1,0,0,1] 40 [0,8,9,10,26,27,28] [.a,.a,.i 0,.i 0,.a,.i 0,.i 0] F
abbrev Mr(K:KF)(F:dN):Prop:=aR 53 K [1,1,1,0,0,1,1,1,1,0,0,1,1,0,0,1] 40 [0,8,9,10,26,27,28] [.a,.a,.i 0,.i 0,.a,.i 0,.i 0] F
def ZC(R:fC)(K:KF)(x1:aF)(a0 a8:AV)(a9 a10:Int)(H:AH):Prop:=aC 0 (Int.add a10 (.ofNat 1)) λz1=>x1 a0 a8 a9 z1 H
theorem ZD{R:fC}(hR:mO R){K:KF}{x1:aF}(h1:mi K x1):Mp K (ZC R K x1):=λa0 a8 a9 a10 H h=>pk hR (cc h1 .nil) h
def ZF(R:fC)(K:KF)(i1:aF):aF:=ZC R K i1
theorem ZG{R:fC}(hR:mO R){K:KF}{i1:aF}(g1:mi K i1):Mp K (ZF R K i1):=ZD hR g1
def ZH(R:fC)(K:KF)(x4:dN)(a0 a8:AV)(a9 a10:Int)(a26:AV)(a27 a28:Int)(H:AH):Prop:=aC 0 (Int.add a28 (.ofNat 1)) λz1=>x4 a0 a8 a9 a10 a26 a27 z1 H
theorem ZI{R:fC}(hR:mO R){K:KF}{x4:dN}(h4:qZ K x4):Mr K (ZH R K x4):=λa0 a8 a9 a10 a26 a27 a28 H h=>pk hR (cc h4 .nil) h
def ZJ(R:fC)(K:KF)(i1:aF)(i4:dN):dN:=ZH R K i4
theorem ZK{R:fC}(hR:mO R){K:KF}{i1:aF}{i4:dN}(g1:mi K i1)(g4:qZ K i4):Mr K (ZJ R K i1 i4):=ZI hR g4
def ZL(R:fC)(K:KF)(x2:aF)(x5:dN)(a0 a8:AV)(a9 a10:Int)(a26:AV)(a27 a28:Int)(H:AH):Prop:=bI (cx a28 a27) (bb 2 a26 (.int 0 a28) λv1=>aQ 2 v1 H λv2=>eI H (hN (aE H) [.ab,.ab] λv3 H4=>ah 2 v3 v2 H4 λH5=>ag 0 v3 λv6=>ad v6 H5 λv7=>ag 1 v3 λv8=>ad v8 H5 λv9=>R.1 a0 v7 v9 .ab H5 λCu iQ=>cR K Cu iQ λv12=>x5 a0 a8 a9 a10 a26 a27 a28 iQ)) (x2 a0 a8 a9 a10 H)
theorem ZM{R:fC}(hR:mO R){K:KF}{x2:aF}{x5:dN}(h2:Mp K x2)(h5:Mr K x5):qZ K (ZL R K x2 x5):=λa0 a8 a9 a10 a26 a27 a28 H h=>pk hR (cc h2 (cc h5 .nil)) h
def ZN(R:fC)(K:KF)(i1:aF)(i4:dN):dN:=ZL R K (ZF R K i1) (ZJ R K i1 i4)
theorem ZO{R:fC}(hR:mO R){K:KF}{i1:aF}{i4:dN}(g1:mi K i1)(g4:qZ K i4):qZ K (ZN R K i1 i4):=ZM hR (ZG hR g1) (ZK hR g1 g4)
def Ms(R:fC)(K:KF)(i1:aF)(n:Nat):dN:=Nat.rec (motive:=λ_=>dN) (λ_ _ _ _ _ _ _ _=>False) (λ_ i=>ZN R K i1 i) n
theorem ZQ{R:fC}(hR:mO R){K:KF}{i1:aF}(g1:mi K i1)(n:Nat):qZ K (Ms R K i1 n):=Nat.rec (motive:=λn=>qZ K (Ms R K i1 n)) (λa0 a8 a9 a10 a26 a27 a28 H h=>h.elim) (λn ih=>ZO hR g1 ih) n
def ZR(R:fC)(K:KF)(x4:dN)(a0 a5 a8:AV)(a9 a10:Int)(H:AH):Prop:=ag 5 a5 λv1=>ad v1 H λv2=>R.2.1 a0 v2 H λo3 H4=>cR K o3 H4 λv5=>ag 6 a5 λv6=>ad v6 H4 λv7=>bO v7 λv8=>cI 0 v8 λz9=>x4 a0 a8 a9 a10 v7 z9 (.ofNat 0) H4
theorem ZS{R:fC}(hR:mO R){K:KF}{x4:dN}(h4:qZ K x4):Mq K (ZR R K x4):=λa0 a5 a8 a9 a10 H h=>pk hR (cc h4 .nil) h
def ZT(R:fC)(K:KF)(i1:aF):aJ:=ZR R K (Ms R K i1 NL)
theorem ZU{R:fC}(hR:mO R){K:KF}{i1:aF}(g1:mi K i1):Mq K (ZT R K i1):=ZS hR (ZQ hR g1 NL)
def ZV(R:fC)(K:KF)(x3:aJ)(a0 a8:AV)(a9 a10:Int)(H:AH):Prop:=bI (cx a10 a9) (bb 7 a8 (.int 0 a10) λv1=>aQ 7 v1 H λv2=>eI H (eX gPa (aE H) 41 λv3 H4=>ah 7 v3 v2 H4 λH5=>ag 0 v3 λv6=>ad v6 H5 λv7=>cI 0 v7 λz8=>bI (bA z8 (.ofNat 6)) (ag 3 v3 λv9=>ad v9 H5 λv10=>R.2.2 a0 v10 H5 λkM bQ=>cR K kM bQ λv13=>x3 a0 v3 a8 a9 a10 bQ) (x3 a0 v3 a8 a9 a10 H5))) (K (.ret (.aP [])) H)
theorem ZW{R:fC}(hR:mO R){K:KF}{x3:aJ}(h3:Mq K x3):mi K (ZV R K x3):=λa0 a8 a9 a10 H h=>pk hR (cc h3 .nil) h
def ZX(R:fC)(K:KF)(i1:aF):aF:=ZV R K (ZT R K i1)
theorem ZY{R:fC}(hR:mO R){K:KF}{i1:aF}(g1:mi K i1):mi K (ZX R K i1):=ZW hR (ZU hR g1)
def Mt(R:fC)(K:KF)(n:Nat):aF:=Nat.rec (motive:=λ_=>aF) (λ_ _ _ _ _=>False) (λ_ i=>ZX R K i) n
theorem ZZ{R:fC}(hR:mO R){K:KF}(n:Nat):mi K (Mt R K n):=Nat.rec (motive:=λn=>mi K (Mt R K n)) (λa0 a8 a9 a10 H h=>h.elim) (λn ih=>ZY hR ih) n
def Z0(R:fC)(K:KF)(x1:aF)(a0 a1:AV)(H:AH):Prop:=bO a1 λv1=>cI 0 v1 λz2=>x1 a0 a1 z2 (.ofNat 0) H
theorem Z1{R:fC}(hR:mO R){K:KF}{x1:aF}(h1:mi K x1)(a0 a1:AV)(H:AH)(h:Z0 R K x1 a0 a1 H):dQ 53 K [] (bz (dy 53) [a0,a1]) [] H:=pk hR (cc h1 .nil) h
def amC(R:fC)(K:KF):cN:=Z0 R K (Mt R K NL)
def RS(R:fC):AV→AV→AH→KF→Prop:=λa0 a1 H K=>amC R K a0 a1 H
theorem aiY(R:fC)(hR:mO R):aw gPa 53 (ao [.a,.a] (RS R)):=rk λK a0 a1 H h=>Z1 hR (ZZ hR NL) a0 a1 H h
abbrev xy:Type:=(AV→AV→AV→AV→AH→KF→Prop)
def amD(R:xy):List (Nat×cY):=[(27,ao [.a,.a,.a,.a] R)]
abbrev ahc(R:xy):Prop:=af gPa (amD R)
def Z2(R:xy)(K:KF)(a0:AV)(H:AH):Prop:=mB (aE H) a0 λv1 H2=>hN (aE H2) [.ab,.ab] λv3 H4=>ag 0 v1 λv5=>ad v5 H4 λv6=>ag 1 v1 λv7=>ad v7 H4 λv8=>R v3 v6 v8 .ab H4 λo9 cn=>cR K o9 cn λv11=>au v3 (ag 1 v3 λv12=>ad v12 cn λv13=>K (.ret v13) cn)
theorem Z3{R:xy}(hR:ahc R){K:KF}(a0:AV)(H:AH)(h:Z2 R K a0 H):dQ 14 K [] (bz (dy 14) [a0]) [] H:=pk hR .nil h
def amE(R:xy)(K:KF):Ta:=Z2 R K
def RU(R:xy):AV→AH→KF→Prop:=λa0 H K=>amE R K a0 H
theorem aiZ(R:xy)(hR:ahc R):aw gPa 14 (ao [.a] (RU R)):=rk λK a0 H h=>Z3 hR a0 H h
abbrev ue:Type:=(AV→AV→AH→KF→Prop)
def amF(R:ue):List (Nat×cY):=[(25,ao [.a,.a] R)]
abbrev ahd(R:ue):Prop:=af gPa (amF R)
def Ev(R:ue)(K:KF)(a0:AV)(H:AH):Prop:=aT (aE H) 22 1 [(.str 4 1701869940),(.str 5 491496043109),(.str 5 465674789744),(.str 6 111550524650083),(.str 6 111520796337522),(.str 5 431315315065),(.str 6 126948300911731),(.str 8 7453010373645660020),(.str 5 500068609908),(.str 3 6452595),(.str 4 1702132066),(.str 4 1918986339),(.str 3 7366002),(.str 5 491328139381),(.str 5 491328597868),(.str 7 28555907813500274),(.str 4 1684957542),(.str 6 128034677157481),(.str 6 111559349986674),(.str 4 1937335659),(.str 4 1852403562),(.str 4 1819042147)] λv1 H2=>R v1 a0 H2 λo3 H4=>cR K o3 H4 λv5=>bY v5 λz6=>K (.ret (.bool z6)) H4
theorem Z4{R:ue}(hR:ahd R){K:KF}(a0:AV)(H:AH)(h:Ev R K a0 H):dQ 11 K [] (bz (dy 11) [a0]) [] H:=pk hR .nil h
def amG(R:ue)(K:KF):Ta:=Ev R K
def ahe(R:ue):AV→AH→KF→Prop:=λa0 H K=>amG R K a0 H
theorem ai0(R:ue)(hR:ahd R):aw gPa 11 (ao [.a] (ahe R)):=rk λK a0 H h=>Z4 hR a0 H h
def Ew:ue:=(f25)
def f11:AV→AH→KF→Prop:=ahe Ew
theorem Z5:aw gPa 11 (ao [.a] f11):=ai0 Ew (af.cons yH af.nil)
abbrev fD:Type:=(AV→AV→AV→AV→AH→KF→Prop)×(AV→AV→AH→KF→Prop)
def ai1(R:fD)(K:KF)(x9:iG)(a0 a1 a3:AV)(a8 a9:Int)(a10:AV)(a11:Int)(H:AH):Prop:=aC 0 (Int.add a11 (.ofNat 1)) λz1=>x9 a0 a1 a3 a8 a9 a10 z1 H
def G1(R:fD)(K:KF)(i3:aJ)(i9:iG):iG:=ai1 R K i9
def ai2(R:fD)(K:KF)(x10:iG)(a0 a1 a3:AV)(a8 a9:Int)(a10:AV)(a11:Int)(H:AH):Prop:=ag 4 a10 λv1=>ad v1 H λv2=>bb 1 v2 (.int 0 a11) λv3=>ad v3 H λv4=>R.1 a0 v4 .ab .ab H λo5 H6=>cR K o5 H6 λv7=>x10 a0 a1 a3 a8 a9 a10 a11 H6
def ai3(R:fD)(K:KF)(i3:aJ)(i9:iG):iG:=ai2 R K (G1 R K i3 i9)
def ai4(R:fD)(K:KF)(x12 x10:iG)(a0 a1 a3:AV)(a8 a9:Int)(a10:AV)(a11 a69:Int)(a88:Bool)(H:AH):Prop:=bI a88 (ag 4 a10 λv1=>ad v1 H λv2=>bb 1 v2 (.int 0 a11) λv3=>ad v3 H λv4=>ag 2 a10 λv5=>ad v5 H λv6=>R.1 a0 v4 v6 .ab H λo7 H8=>cR K o7 H8 λv9=>x10 a0 a1 a3 a8 a9 a10 a11 H8) (bI (bA a69 (.ofNat 4)) (ag 3 a10 λv10=>ad v10 H λv11=>bO v11 λv12=>cI 0 v12 λz13=>bI (cx a11 z13) (ag 3 a10 λv14=>ad v14 H λv15=>aC 0 (Int.add a11 (.ofNat 1)) λqN=>fx 7 v15 (some (.int 0 a11)) (some (.int 0 qN)) none λv17=>R.2 a0 v17 H λJ6 kj=>cR K J6 kj λv20=>x12 a0 a1 a3 a8 a9 a10 a11 kj) (x12 a0 a1 a3 a8 a9 a10 a11 H)) (ag 4 a10 λv21=>ad v21 H λv22=>bb 1 v22 (.int 0 a11) λv23=>ad v23 H λv24=>R.1 a0 v24 .ab .ab H λUb Ap=>cR K Ub Ap λv27=>x10 a0 a1 a3 a8 a9 a10 a11 Ap))
def ai5(R:fD)(K:KF)(i3:aJ)(i9:iG):Em:=ai4 R K (ai3 R K i3 i9) (G1 R K i3 i9)
def amH(R:fD)(K:KF)(x3:aJ)(a0 a1 a3:AV)(a8 a9:Int)(H:AH):Prop:=aC 0 (Int.add a9 (.ofNat 1)) λz1=>x3 a0 a1 a3 a8 z1 H
def amI(R:fD)(K:KF)(i3:aJ):aJ:=amH R K i3
def amJ(R:fD)(K:KF)(x4:aJ)(a0 a1 a3:AV)(a8 a9:Int)(a10:AV)(H:AH):Prop:=ag 0 a10 λv1=>ad v1 H λv2=>cI 0 v2 λz3=>bI (bA z3 (.ofNat 1)) (au a0 (ag 0 a0 λv4=>ad v4 H λv5=>ag 2 a10 λv6=>ad v6 H λv7=>cO 1 16 v5 v7 H λv8 H9=>au a0 (ag 0 a0 λv10=>ah 1 v10 v8 H9 λiQ=>x4 a0 a1 a3 a8 a9 iQ))) (x4 a0 a1 a3 a8 a9 H)
def amK(R:fD)(K:KF)(i3:aJ):o0:=amJ R K (amI R K i3)
def amL(R:fD)(K:KF)(x10:iG)(x11:Em)(x7:o0)(a0 a1 a3:AV)(a8 a9:Int)(a10:AV)(a11:Int)(H:AH):Prop:=ag 4 a10 λv1=>ad v1 H λv2=>bO v2 λv3=>cI 0 v3 λz4=>bI (cx a11 z4) (ag 0 a10 λv5=>ad v5 H λv6=>cI 0 v6 λz7=>bI (bA z7 (.ofNat 8)) (ag 4 a10 λv8=>ad v8 H λv9=>bb 1 v9 (.int 0 a11) λv10=>ad v10 H λv11=>ag 3 a10 λv12=>ad v12 H λv13=>R.1 a0 v11 .ab v13 H λyF dZ=>cR K yF dZ λv16=>x10 a0 a1 a3 a8 a9 a10 a11 dZ) (bI (bA z7 (.ofNat 6)) (x11 a0 a1 a3 a8 a9 a10 a11 z7 (bA z7 (.ofNat 6)) H) (x11 a0 a1 a3 a8 a9 a10 a11 z7 (bA z7 (.ofNat 7)) H))) (x7 a0 a1 a3 a8 a9 a10 H)
def amM(R:fD)(K:KF)(i3:aJ)(i9:iG):iG:=amL R K (G1 R K i3 i9) (ai5 R K i3 i9) (amK R K i3)
def amN(R:fD)(K:KF)(i3:aJ)(n:Nat):iG:=Nat.rec (motive:=λ_=>iG) (λ_ _ _ _ _ _ _ _=>False) (λ_ i=>amM R K i3 i) n
def amO(R:fD)(K:KF)(x9:iG)(a0 a1 a3:AV)(a8 a9:Int)(a10:AV)(H:AH):Prop:=x9 a0 a1 a3 a8 a9 a10 (.ofNat 0) H
def Z6(R:fD)(K:KF)(i3:aJ):o0:=amO R K (amN R K i3 NL)
def amP(R:fD)(K:KF)(x6:o0)(a0 a1 a3:AV)(a8 a9:Int)(a10:AV)(H:AH):Prop:=ag 3 a10 λv1=>ad v1 H λv2=>R.2 a0 v2 H λo3 H4=>cR K o3 H4 λv5=>x6 a0 a1 a3 a8 a9 a10 H4
def amQ(R:fD)(K:KF)(i3:aJ):o0:=amP R K (Z6 R K i3)
def amR(R:fD)(K:KF)(x8 x6:o0)(a0 a1 a3:AV)(a8 a9:Int)(a10:AV)(H:AH):Prop:=ag 0 a10 λv1=>ad v1 H λv2=>cI 0 v2 λz3=>bI (!(bA z3 (.ofNat 8))) (ag 0 a10 λv4=>ad v4 H λv5=>cI 0 v5 λz6=>bI (!(bA z6 (.ofNat 4))) (x8 a0 a1 a3 a8 a9 a10 H) (x6 a0 a1 a3 a8 a9 a10 H)) (x6 a0 a1 a3 a8 a9 a10 H)
def amS(R:fD)(K:KF)(i3:aJ):o0:=amR R K (amQ R K i3) (Z6 R K i3)
def amT(R:fD)(K:KF)(a0 a3:AV)(a8:Int)(H:AH):Prop:=R.2 a0 a3 H λo1 H2=>cR K o1 H2 λv3=>au a0 (ag 0 a0 λv4=>ad v4 H2 λv5=>fx 1 v5 none (some (.int 0 a8)) none λv6=>au a0 (ag 0 a0 λv7=>ah 1 v7 v6 H2 λH8=>K (.ret (.aP [])) H8))
def amU(R:fD)(K:KF):ax:=amT R K
def amV(R:fD)(K:KF)(x5:o0)(x2:ax)(a0 a1 a3:AV)(a8 a9:Int)(H:AH):Prop:=bO a1 λv1=>cI 0 v1 λz2=>bI (cx a9 z2) (bb 5 a1 (.int 0 a9) λv3=>aQ 5 v3 H λv4=>eI H (hN (aE H) [(.int 0 (.ofNat 0)),(.int 0 (.ofNat 0)),.ab,.ab,.ab] λv5 H6=>ah 5 v5 v4 H6 λH7=>ag 0 v5 λv8=>ad v8 H7 λv9=>cI 0 v9 λz10=>bI (bA z10 (.ofNat 12)) (au a0 (ag 0 a0 λv11=>ad v11 H7 λv12=>ag 2 v5 λv13=>ad v13 H7 λv14=>cO 1 16 v12 v14 H7 λv15 eE=>au a0 (ag 0 a0 λv17=>ah 1 v17 v15 eE λiz=>x5 a0 a1 a3 a8 a9 v5 iz))) (x5 a0 a1 a3 a8 a9 v5 H7))) (x2 a0 a3 a8 H)
def amW(R:fD)(K:KF)(i3:aJ):aJ:=amV R K (amS R K i3) (amU R K)
def amX(R:fD)(K:KF)(n:Nat):aJ:=Nat.rec (motive:=λ_=>aJ) (λ_ _ _ _ _ _=>False) (λ_ i=>amW R K i) n
def amY(R:fD)(K:KF)(x3:aJ)(a0 a1 a3:AV)(a8:Int)(H:AH):Prop:=x3 a0 a1 a3 a8 (.ofNat 0) H
def amZ(R:fD)(K:KF):lr:=amY R K (amX R K NL)
def am0(R:fD)(K:KF)(x1:lr)(a0 a1 a2 a3:AV)(H:AH):Prop:=au a0 (ag 0 a0 λv1=>ad v1 H λv2=>bO v2 λv3=>cI 0 v3 λz4=>au a0 (ag 0 a0 λv5=>ad v5 H λv6=>cO 1 16 v6 a2 H λv7 H8=>au a0 (ag 0 a0 λv9=>ah 1 v9 v7 H8 λcn=>x1 a0 a1 a3 z4 cn)))
def am1(R:fD)(K:KF):ub:=am0 R K (amZ R K)
def apB(R:fD):AV→AV→AV→AV→AH→KF→Prop:=λa0 a1 a2 a3 H K=>am1 R K a0 a1 a2 a3 H
abbrev kc:Type:=(AV→AH→KF→Prop)×(AV→AV→AH→KF→Prop)×(AV→AV→AV→AV→AH→KF→Prop)×(AV→AV→AH→KF→Prop)
def am2(R:kc)(K:KF)(x1:ax)(a0 a1:AV)(a4:Int)(H:AH):Prop:=aC 0 (Int.add a4 (.ofNat 1)) λz1=>x1 a0 a1 z1 H
def am3(R:kc)(K:KF)(i1:ax):ax:=am2 R K i1
def am4(R:kc)(K:KF)(x5:aF)(a0 a1:AV)(a4 a6:Int)(H:AH):Prop:=aC 0 (Int.add a6 (.ofNat 1)) λz1=>x5 a0 a1 a4 z1 H
def am5(R:kc)(K:KF)(i1:ax)(i5:aF):aF:=am4 R K i5
def am6(R:kc)(K:KF)(x2:ax)(x6:aF)(a0 a1:AV)(a4 a6:Int)(H:AH):Prop:=bb 7 a1 (.int 0 a4) λv1=>ag 6 v1 λv2=>ad v2 H λv3=>bO v3 λv4=>cI 0 v4 λz5=>bI (cx a6 z5) (bb 7 a1 (.int 0 a4) λv6=>ag 6 v6 λv7=>ad v7 H λv8=>bb 2 v8 (.int 0 a6) λv9=>ag 1 v9 λv10=>ad v10 H λv11=>bb 7 a1 (.int 0 a4) λv12=>ag 6 v12 λv13=>ad v13 H λv14=>bb 2 v14 (.int 0 a6) λv15=>ag 0 v15 λv16=>ad v16 H λv17=>R.2.2.1 a0 v11 v17 .ab H λJ6 kj=>cR K J6 kj λv20=>x6 a0 a1 a4 a6 kj) (x2 a0 a1 a4 H)
def am7(R:kc)(K:KF)(i1:ax)(i5:aF):aF:=am6 R K (am3 R K i1) (am5 R K i1 i5)
def am8(R:kc)(K:KF)(i1:ax)(n:Nat):aF:=Nat.rec (motive:=λ_=>aF) (λ_ _ _ _ _=>False) (λ_ i=>am7 R K i1 i) n
def am9(R:kc)(K:KF)(x5:aF)(a0 a1:AV)(a4:Int)(H:AH):Prop:=bb 7 a1 (.int 0 a4) λv1=>ag 5 v1 λv2=>ad v2 H λv3=>R.2.2.2 a0 v3 H λo4 H5=>cR K o4 H5 λv6=>x5 a0 a1 a4 (.ofNat 0) H5
def Z7(R:kc)(K:KF)(i1:ax):ax:=am9 R K (am8 R K i1 NL)
def ana(R:kc)(K:KF)(x3:ax)(a0 a1:AV)(a4:Int)(a5:AV)(H:AH):Prop:=au a0 (ag 1 a0 λv1=>ad v1 H λv2=>ag 3 a5 λv3=>ad v3 H λv4=>cP H (one v4 (aT (aE H) 1 1 [v4] λv5 H6=>bT (Nat.beq H6.n (Nat.succ H.n)) (cO 1 16 v2 v5 H6 λv7 H8=>au a0 (ag 1 a0 λv9=>ah 1 v9 v7 H8 λcn=>x3 a0 a1 a4 cn)))))
def anb(R:kc)(K:KF)(i1:ax):gN:=ana R K (Z7 R K i1)
def anc(R:kc)(K:KF)(x4:gN)(x3:ax)(a0 a1:AV)(a4:Int)(H:AH):Prop:=bO a1 λv1=>cI 0 v1 λz2=>bI (cx a4 z2) (bb 7 a1 (.int 0 a4) λv3=>aQ 7 v3 H λv4=>eI H (eX gPa (aE H) 41 λv5 H6=>ah 7 v5 v4 H6 λH7=>ag 0 v5 λv8=>ad v8 H7 λv9=>cI 0 v9 λz10=>bI (bA z10 (.ofNat 6)) (au a0 (ag 0 a0 λv11=>ad v11 H7 λv12=>ag 3 v5 λv13=>ad v13 H7 λv14=>R.2.1 v12 v14 H7 λDe eE=>cR K De eE λv17=>bY v17 λyE=>bI (!yE) (ag 3 v5 λv19=>ad v19 eE λv20=>R.1 v20 eE λyt js=>cR K yt js λv23=>bY v23 λz24=>bI (!z24) (au a0 (ag 1 a0 λv25=>ad v25 js λv26=>ag 3 v5 λv27=>ad v27 js λv28=>R.2.1 v26 v28 js λVV xM=>cR K VV xM λv31=>bY v31 λz32=>bI (!z32) (x4 a0 a1 a4 v5 xM) (x3 a0 a1 a4 xM))) (x3 a0 a1 a4 js)) (x3 a0 a1 a4 eE))) (x3 a0 a1 a4 H7))) (K (.ret (.aP [])) H)
def ane(R:kc)(K:KF)(i1:ax):ax:=anc R K (anb R K i1) (Z7 R K i1)
def anf(R:kc)(K:KF)(n:Nat):ax:=Nat.rec (motive:=λ_=>ax) (λ_ _ _ _=>False) (λ_ i=>ane R K i) n
def ang(R:kc)(K:KF)(x1:ax)(a0 a1:AV)(H:AH):Prop:=x1 a0 a1 (.ofNat 0) H
def anh(R:kc)(K:KF):cN:=ang R K (anf R K NL)
def apC(R:kc):AV→AV→AH→KF→Prop:=λa0 a1 H K=>anh R K a0 a1 H
abbrev RV:Type:=(AV→AV→AV→AV→AH→KF→Prop)×(AV→AV→AH→KF→Prop)
def ani(S:RV):fD:=(S.1,S.2)
def anj(S:RV):kc:=(f11,f25,S.1,S.2)
noncomputable def s13(n:Nat):RV:=Nat.rec (motive:=λ_=>RV) (λ_ _ _ _ _ _=>False,λ_ _ _ _=>False) (λ_ S=>(apB (ani S),apC (anj S))) n
def f28:AV→AV→AV→AV→AH→KF→Prop:=(s13 NL).1
abbrev IB:Type:=(AV→AV→AV→AV→AH→KF→Prop)
def ank(R:IB)(K:KF)(a0:AV)(H:AH):Prop:=mB (aE H) a0 λv1 H2=>hN (aE H2) [.ab,.ab] λv3 H4=>ag 1 v1 λv5=>ad v5 H4 λv6=>ag 0 v1 λv7=>ad v7 H4 λv8=>R v3 v6 v8 .ab H4 λo9 cn=>cR K o9 cn λv11=>au v3 (ag 1 v3 λv12=>ad v12 cn λv13=>K (.ret v13) cn)
def anl(R:IB)(K:KF):Ta:=ank R K
def apD(R:IB):AV→AH→KF→Prop:=λa0 H K=>anl R K a0 H
def anm:IB:=(f28)
def f15:AV→AH→KF→Prop:=apD anm
abbrev sX:Type:=(AH→KF→Prop)×(AV→AH→KF→Prop)×(AV→AH→KF→Prop)×(AV→AV→AH→KF→Prop)×(AV→AH→KF→Prop)×(AV→AH→KF→Prop)
def apE(R:sX)(K:KF)(x2:dU)(a6:AV)(a7:Int)(H:AH):Prop:=aC 0 (Int.add a7 (.ofNat 1)) λz1=>x2 a6 z1 H
def apF(R:sX)(K:KF)(i2:dU):dU:=apE R K i2
def apG(R:sX)(K:KF)(H:AH):Prop:=R.1  H λo1 H2=>cR K o1 H2 λv3=>bY v3 λz4=>K (.ret (.bool z4)) H2
def apH(R:sX)(K:KF):T_:=apG R K
def apI(R:sX)(K:KF)(x3:dU)(x1:T_)(a6:AV)(a7:Int)(H:AH):Prop:=bO a6 λv1=>cI 0 v1 λz2=>bI (cx a7 z2) (bb 2 a6 (.int 0 a7) λv3=>aQ 2 v3 H λv4=>bb 2 a6 (.int 0 a7) λv5=>aQ 2 v5 H λv6=>R.2.2.2.2.1 v4 H λo7 H8=>cR K o7 H8 λv9=>aQ 2 v5 H8 λv10=>bT (bu v10 v6) (R.2.2.2.2.2 v6 H8 λkM bQ=>cR K kM bQ λv13=>R.2.2.2.1 v9 v13 bQ λyF dZ=>cR K yF dZ λv16=>bY v16 λz17=>bI (!z17) (K (.ret (.bool false)) dZ) (x3 a6 a7 dZ))) (x1 H)
def apJ(R:sX)(K:KF)(i2:dU):dU:=apI R K (apF R K i2) (apH R K)
def apK(R:sX)(K:KF)(n:Nat):dU:=Nat.rec (motive:=λ_=>dU) (λ_ _ _=>False) (λ_ i=>apJ R K i) n
def apL(R:sX)(K:KF)(x2:dU)(a0:AV)(H:AH):Prop:=sLen a0 λv1=>cI 0 v1 λz2=>bI (cx (.ofNat 1500) z2) (R.1  H λo3 H4=>cR K o3 H4 λv5=>bY v5 λz6=>K (.ret (.bool z6)) H4) (R.2.1 a0 H λo7 H8=>cR K o7 H8 λv9=>eU v9 λl10=>fh l10 0 λv11=>eU v9 λl12=>fh l12 1 λv13=>cI 0 v13 λoe=>eU v9 λl15=>fh l15 2 λv16=>cI 0 v16 λz17=>bI (!(bA oe (.ofNat 0))) (R.1  H8 λJ6 kj=>cR K J6 kj λv20=>bY v20 λz21=>K (.ret (.bool z21)) kj) (R.2.2.1 v11 H8 λUx qT=>cR K Ux qT λv24=>x2 v24 (.ofNat 0) qT))
def apM(R:sX)(K:KF):Ta:=apL R K (apK R K NL)
def aq0(R:sX):AV→AH→KF→Prop:=λa0 H K=>apM R K a0 H
abbrev ie:Type:=AV→AV→Int→Int→Int→AH→Prop
abbrev jA:Type:=AV→Int→Int→Int→Int→AH→Prop
abbrev cw:Type:=Unit
def ann(R:cw):List (Nat×cY):=[]
abbrev gb(R:cw):Prop:=af gPa (ann R)
abbrev Mu(K:KF)(F:hO):Prop:=aR 24 K [1,1,1,1,1] 106 [0,3,5] [.a,.i 0,.i 1] F
abbrev q7(K:KF)(F:jA):Prop:=aR 24 K [0,1,0,1,1,1,1] 106 [0,3,4,5,6] [.a,.i 0,.i 0,.i 1,.i 0] F
abbrev Mv(K:KF)(F:aF):Prop:=aR 24 K [1,1,1,1,1,1,1,1,1,1,1] 106 [0,9,10,12] [.a,.a,.i 0,.i 0] F
abbrev sY(K:KF)(F:aF):Prop:=aR 24 K [0,0,1,1,1,1,1,1,1,1,1,1] 106 [0,9,10,12] [.a,.a,.i 0,.i 0] F
abbrev Mw(K:KF)(F:aF):Prop:=aR 24 K [1,1,1,1,1,1,1,1,1,1,1,1,1] 106 [0,9,10,11] [.a,.a,.i 0,.i 0] F
abbrev mj(K:KF)(F:ie):Prop:=aR 24 K [0,0,1,1,1,1,1,1,1,1,1,1,1,1] 106 [0,9,10,11,12] [.a,.a,.i 0,.i 0,.i 0] F
abbrev Mx(K:KF)(F:Ta):Prop:=aR 24 K [1,1,1,1,1,1,1,1,1,1,1,1,1,1] 106 [9] [.a] F
abbrev My(K:KF)(F:jA):Prop:=aR 24 K [1,1,1,1,0,0,1,0,0,1,0,1,1,1,1] 106 [0,3,5,6,8] [.a,.i 0,.i 1,.i 0,.i 0] F
abbrev Mz(K:KF)(F:aF):Prop:=aR 24 K [1,1,1,0,1,0,0,0,1,1,1,1,1,1,1,1,1,1,1,1] 106 [0,9,10,12] [.a,.a,.i 0,.i 0] F
abbrev G2(K:KF)(F:aF):Prop:=aR 24 K [1,1,1,1,1,0,1,0,0,0,1,1,1,1,1,1,1,1,1,1,1,1] 106 [0,9,10,12] [.a,.a,.i 0,.i 0] F
abbrev qs(K:KF)(F:aF):Prop:=aR 24 K [0,0,1,1,1,1,0,1,0,0,0,1,1,1,1,1,1,1,1,1,1,1,1] 106 [0,9,10,12] [.a,.a,.i 0,.i 0] F
def Z8(R:cw)(K:KF)(x2:jA)(a0:AV)(a3 a5 a6 a8:Int)(H:AH):Prop:=aC 0 (Int.add a6 (.ofNat 1)) λz1=>x2 a0 a3 a8 a5 z1 H
theorem Z9{R:cw}(hR:gb R){K:KF}{x2:jA}(h2:q7 K x2):My K (Z8 R K x2):=λa0 a3 a5 a6 a8 H h=>pk hR (cc h2 .nil) h
def aaa(R:cw)(K:KF)(i2:jA):jA:=Z8 R K i2
theorem aab{R:cw}(hR:gb R){K:KF}{i2:jA}(g2:q7 K i2):My K (aaa R K i2):=Z9 hR g2
def Pv(R:cw)(K:KF)(x6:ie)(a0 a9:AV)(a10 a12:Int)(H:AH):Prop:=x6 a0 a9 a10 a12 a12 H
theorem RW{R:cw}(hR:gb R){K:KF}{x6:ie}(h6:mj K x6):G2 K (Pv R K x6):=λa0 a9 a10 a12 H h=>pk hR (cc h6 .nil) h
def Pw(R:cw)(K:KF)(i6:ie):aF:=Pv R K i6
theorem RX{R:cw}(hR:gb R){K:KF}{i6:ie}(g6:mj K i6):G2 K (Pw R K i6):=RW hR g6
def Px(R:cw)(K:KF)(x11 x10:aF)(a0 a9:AV)(a10 a12:Int)(H:AH):Prop:=sLen a0 λv1=>cI 0 v1 λz2=>bI (cx a12 z2) (gX a0 (.int 0 a12) λv3=>cI 1 v3 λz4=>zj 256 1 (.ptr 0 0) (.int 1 z4) λv5=>ad v5 H λv6=>cI 1 v6 λz7=>bI (!(bA z7 (.ofNat 0))) (aC 0 (Int.add a12 (.ofNat 1)) λz8=>x11 a0 a9 a10 z8 H) (x10 a0 a9 a10 a12 H)) (x10 a0 a9 a10 a12 H)
theorem RY{R:cw}(hR:gb R){K:KF}{x11 x10:aF}(h11:qs K x11)(h10:G2 K x10):qs K (Px R K x11 x10):=λa0 a9 a10 a12 H h=>pk hR (cc h11 (cc h10 .nil)) h
def Py(R:cw)(K:KF)(i6:ie)(i11:aF):aF:=Px R K i11 (Pw R K i6)
theorem RZ{R:cw}(hR:gb R){K:KF}{i6:ie}{i11:aF}(g6:mj K i6)(g11:qs K i11):qs K (Py R K i6 i11):=RY hR g11 (RX hR g6)
def G3(R:cw)(K:KF)(i6:ie)(n:Nat):aF:=Nat.rec (motive:=λ_=>aF) (λ_ _ _ _ _=>False) (λ_ i=>Py R K i6 i) n
theorem R0{R:cw}(hR:gb R){K:KF}{i6:ie}(g6:mj K i6)(n:Nat):qs K (G3 R K i6 n):=Nat.rec (motive:=λn=>qs K (G3 R K i6 n)) (λa0 a9 a10 a12 H h=>h.elim) (λn ih=>RZ hR g6 ih) n
def aac(R:cw)(K:KF)(x11:aF)(a0 a9:AV)(a10 a12:Int)(H:AH):Prop:=aC 0 (Int.add a12 (.ofNat 1)) λz1=>x11 a0 a9 a10 z1 H
theorem aad{R:cw}(hR:gb R){K:KF}{x11:aF}(h11:qs K x11):Mz K (aac R K x11):=λa0 a9 a10 a12 H h=>pk hR (cc h11 .nil) h
def aae(R:cw)(K:KF)(i6:ie):aF:=aac R K (G3 R K i6 NL)
theorem aaf{R:cw}(hR:gb R){K:KF}{i6:ie}(g6:mj K i6):Mz K (aae R K i6):=aad hR (R0 hR g6 NL)
def aag(R:cw)(K:KF)(a9:AV)(H:AH):Prop:=K (.ret a9) H
theorem aah{R:cw}(hR:gb R){K:KF}:Mx K (aag R K):=λa9 H h=>pk hR .nil h
def aai(R:cw)(K:KF):Ta:=aag R K
theorem aaj{R:cw}(hR:gb R){K:KF}:Mx K (aai R K):=aah hR
def aak(R:cw)(K:KF)(x7:Ta)(a0 a9:AV)(a10 a11:Int)(H:AH):Prop:=sLen a0 λv1=>cI 0 v1 λz2=>bI (cx a11 z2) (lC a0 (some (.int 0 a11)) none λv3=>bb 1 a9 (.int 0 a10) λv4=>ah 1 v4 v3 H λH5=>x7 a9 H5) (x7 a9 H)
theorem aal{R:cw}(hR:gb R){K:KF}{x7:Ta}(h7:Mx K x7):Mw K (aak R K x7):=λa0 a9 a10 a11 H h=>pk hR (cc h7 .nil) h
def aam(R:cw)(K:KF):aF:=aak R K (aai R K)
theorem aan{R:cw}(hR:gb R){K:KF}:Mw K (aam R K):=aal hR (aaj hR)
def aao(R:cw)(K:KF)(x6:ie)(x9 x5:aF)(a0 a9:AV)(a10 a11 a12:Int)(H:AH):Prop:=sLen a0 λv1=>cI 0 v1 λz2=>bI (cx a12 z2) (gX a0 (.int 0 a12) λv3=>cI 1 v3 λz4=>zj 256 1 (.ptr 0 0) (.int 1 z4) λv5=>ad v5 H λv6=>cI 1 v6 λz7=>bI (bA z7 (.ofNat 0)) (aC 0 (Int.add a12 (.ofNat 1)) λz8=>x6 a0 a9 a10 a11 z8 H) (lC a0 (some (.int 0 a11)) (some (.int 0 a12)) λv9=>bb 1 a9 (.int 0 a10) λv10=>ah 1 v10 v9 H λiQ=>aC 0 (Int.add a10 (.ofNat 1)) λz12=>x9 a0 a9 z12 a12 iQ)) (x5 a0 a9 a10 a11 H)
theorem aap{R:cw}(hR:gb R){K:KF}{x6:ie}{x9 x5:aF}(h6:mj K x6)(h9:Mz K x9)(h5:Mw K x5):mj K (aao R K x6 x9 x5):=λa0 a9 a10 a11 a12 H h=>pk hR (cc h6 (cc h9 (cc h5 .nil))) h
def aaq(R:cw)(K:KF)(i6:ie):ie:=aao R K i6 (aae R K i6) (aam R K)
theorem aar{R:cw}(hR:gb R){K:KF}{i6:ie}(g6:mj K i6):mj K (aaq R K i6):=aap hR g6 (aaf hR g6) (aan hR)
def MA(R:cw)(K:KF)(n:Nat):ie:=Nat.rec (motive:=λ_=>ie) (λ_ _ _ _ _ _=>False) (λ_ i=>aaq R K i) n
theorem aas{R:cw}(hR:gb R){K:KF}(n:Nat):mj K (MA R K n):=Nat.rec (motive:=λn=>mj K (MA R K n)) (λa0 a9 a10 a11 a12 H h=>h.elim) (λn ih=>aar hR ih) n
def aat(R:cw)(K:KF)(x6:ie)(a0 a9:AV)(a10 a12:Int)(H:AH):Prop:=x6 a0 a9 a10 a12 a12 H
theorem aau{R:cw}(hR:gb R){K:KF}{x6:ie}(h6:mj K x6):Mv K (aat R K x6):=λa0 a9 a10 a12 H h=>pk hR (cc h6 .nil) h
def aav(R:cw)(K:KF):aF:=aat R K (MA R K NL)
theorem aaw{R:cw}(hR:gb R){K:KF}:Mv K (aav R K):=aau hR (aas hR NL)
def aax(R:cw)(K:KF)(x4 x3:aF)(a0 a9:AV)(a10 a12:Int)(H:AH):Prop:=sLen a0 λv1=>cI 0 v1 λz2=>bI (cx a12 z2) (gX a0 (.int 0 a12) λv3=>cI 1 v3 λz4=>zj 256 1 (.ptr 0 0) (.int 1 z4) λv5=>ad v5 H λv6=>cI 1 v6 λz7=>bI (!(bA z7 (.ofNat 0))) (aC 0 (Int.add a12 (.ofNat 1)) λz8=>x4 a0 a9 a10 z8 H) (x3 a0 a9 a10 a12 H)) (x3 a0 a9 a10 a12 H)
theorem aay{R:cw}(hR:gb R){K:KF}{x4 x3:aF}(h4:sY K x4)(h3:Mv K x3):sY K (aax R K x4 x3):=λa0 a9 a10 a12 H h=>pk hR (cc h4 (cc h3 .nil)) h
def aaz(R:cw)(K:KF)(i4:aF):aF:=aax R K i4 (aav R K)
theorem aaA{R:cw}(hR:gb R){K:KF}{i4:aF}(g4:sY K i4):sY K (aaz R K i4):=aay hR g4 (aaw hR)
def MB(R:cw)(K:KF)(n:Nat):aF:=Nat.rec (motive:=λ_=>aF) (λ_ _ _ _ _=>False) (λ_ i=>aaz R K i) n
theorem aaB{R:cw}(hR:gb R){K:KF}(n:Nat):sY K (MB R K n):=Nat.rec (motive:=λn=>sY K (MB R K n)) (λa0 a9 a10 a12 H h=>h.elim) (λn ih=>aaA hR ih) n
def aaC(R:cw)(K:KF)(x4:aF)(a0:AV)(a3 a5:Int)(H:AH):Prop:=bI (!(cx a5 (.ofNat 128))) (False) (eI H (Tl (aE H) 1 16 [(.str 0 0)] (.int 0 a3) (.int 0 a3) λv4 H5=>x4 a0 v4 (.ofNat 0) (.ofNat 0) H5))
theorem aaD{R:cw}(hR:gb R){K:KF}{x4:aF}(h4:sY K x4):Mu K (aaC R K x4):=λa0 a3 a5 H h=>pk hR (cc h4 .nil) h
def aaE(R:cw)(K:KF):hO:=aaC R K (MB R K NL)
theorem aaF{R:cw}(hR:gb R){K:KF}:Mu K (aaE R K):=aaD hR (aaB hR NL)
def aaG(R:cw)(K:KF)(x8:jA)(x1:hO)(a0:AV)(a3 a4 a5 a6:Int)(H:AH):Prop:=sLen a0 λv1=>cI 0 v1 λz2=>bI (cx a6 z2) (gX a0 (.int 0 a6) λv3=>cI 1 v3 λz4=>bD (nQ 1 a5) λu5=>bD (nQ 1 z4) λu6=>aC 1 (.ofNat (Nat.lor u5 u6)) λz7=>zj 256 1 (.ptr 0 0) (.int 1 z4) λv8=>ad v8 H λv9=>cI 1 v9 λz10=>aC 0 z10 λz11=>Qr 0 (.int 0 (.negSucc 0)) (.int 0 z11) λv12=>cI 0 v12 λz13=>bD (nQ 0 a4) λu14=>bD (nQ 0 z13) λu15=>aC 0 (.ofNat (Nat.land u14 u15)) λqN=>aC 0 (Int.add a3 qN) λz17=>x8 a0 z17 z7 a6 z11 H) (x1 a0 a3 a5 H)
theorem aaH{R:cw}(hR:gb R){K:KF}{x8:jA}{x1:hO}(h8:My K x8)(h1:Mu K x1):q7 K (aaG R K x8 x1):=λa0 a3 a4 a5 a6 H h=>pk hR (cc h8 (cc h1 .nil)) h
def aaI(R:cw)(K:KF)(i2:jA):jA:=aaG R K (aaa R K i2) (aaE R K)
theorem aaJ{R:cw}(hR:gb R){K:KF}{i2:jA}(g2:q7 K i2):q7 K (aaI R K i2):=aaH hR (aab hR g2) (aaF hR)
def MC(R:cw)(K:KF)(n:Nat):jA:=Nat.rec (motive:=λ_=>jA) (λ_ _ _ _ _ _=>False) (λ_ i=>aaI R K i) n
theorem aaK{R:cw}(hR:gb R){K:KF}(n:Nat):q7 K (MC R K n):=Nat.rec (motive:=λn=>q7 K (MC R K n)) (λa0 a3 a4 a5 a6 H h=>h.elim) (λn ih=>aaJ hR ih) n
def aaL(R:cw)(K:KF)(x2:jA)(a0:AV)(H:AH):Prop:=x2 a0 (.ofNat 0) (.ofNat 1) (.ofNat 0) (.ofNat 0) H
theorem aaM{R:cw}(hR:gb R){K:KF}{x2:jA}(h2:q7 K x2)(a0:AV)(H:AH)(h:aaL R K x2 a0 H):dQ 24 K [] (bz (dy 24) [a0]) [] H:=pk hR (cc h2 .nil) h
def ano(R:cw)(K:KF):Ta:=aaL R K (MC R K NL)
def ahf(R:cw):AV→AH→KF→Prop:=λa0 H K=>ano R K a0 H
theorem ai6(R:cw)(hR:gb R):aw gPa 24 (ao [.a] (ahf R)):=rk λK a0 H h=>aaM hR (aaK hR NL) a0 H h
def aaN:cw:=()
def f24:AV→AH→KF→Prop:=ahf aaN
theorem aaO:aw gPa 24 (ao [.a] f24):=ai6 aaN af.nil
end Go.Proofs.YtcedghechlgecaaDoor.G
