/- The functions of the lexers, of ParseUint and of told, cut into pieces by program (names shortened). No condition: definitions and lemmas. -/
import Derived.Test.YtcedghechlgecaaGreatDoorGa
set_option maxRecDepth 100000
set_option maxHeartbeats 0
set_option linter.unusedVariables false
set_option linter.unusedSimpArgs false
namespace Go.Proofs.YtcedghechlgecaaGreatDoor.G
open Go Go.X
abbrev aB:Type:=AV→AV→AV→Int→Int→AH→Prop
abbrev fK:Type:=AV→AV→Int→Int→Int→AH→Prop
abbrev Qv:Type:=AV→Int→Bool→AH→Prop
abbrev jI:Type:=AV→Int→Int→Int→Int→AH→Prop
abbrev Ti:Type:=Int→AH→Prop
abbrev tG:Type:=Unit
def afQ(R:tG):List (Nat×cW):=[]
abbrev abF(R:tG):Prop:=ad gP (afQ R)
def BM(R:tG)(K:KF)(a0 a1:AV)(H:AH):Prop:=sLen a0 λv1=>cI 0 v1 λz2=>sLen a1 λv3=>cI 0 v3 λz4=>bI (!(cE z2 z4)) (sLen a1 λv5=>cI 0 v5 λz6=>eT a0 none (some (.int 0 z6)) λv7=>sW v7 a1 λv8=>bO v8 λz9=>K (.ret (.bool z9)) H) (K (.ret (.bool false)) H)
theorem Vn{R:tG}(hR:abF R){K:KF}(a0 a1:AV)(H:AH)(h:BM R K a0 a1 H):dD 88 K [] (bz (dt 88) [a0,a1]) [] H:=pk hR .nil h
def afR(R:tG)(K:KF):bA:=BM R K
def abG(R:tG):AV→AV→AH→KF→Prop:=λa0 a1 H K=>afR R K a0 a1 H
theorem adB(R:tG)(hR:abF R):az gP 88 (ao [.a,.a] (abG R)):=rk λK a0 a1 H h=>Vn hR a0 a1 H h
def Jj:tG:=()
def f88:AV→AV→AH→KF→Prop:=abG Jj
theorem afS:az gP 88 (ao [.a,.a] f88):=adB Jj ad.nil
abbrev tH:Type:=(AV→AV→AH→KF→Prop)
def afT(R:tH):List (Nat×cW):=[(88,ao [.a,.a] R)]
abbrev abH(R:tH):Prop:=ad gP (afT R)
def BN(R:tH)(K:KF)(a0 a1:AV)(H:AH):Prop:=R a0 a1 H λo1 H2=>cR K o1 H2 λv3=>bO v3 λz4=>K (.ret (.bool z4)) H2
theorem Vo{R:tH}(hR:abH R){K:KF}(a0 a1:AV)(H:AH)(h:BN R K a0 a1 H):dD 46 K [] (bz (dt 46) [a0,a1]) [] H:=pk hR .nil h
def afU(R:tH)(K:KF):bA:=BN R K
def abI(R:tH):AV→AV→AH→KF→Prop:=λa0 a1 H K=>afU R K a0 a1 H
theorem adC(R:tH)(hR:abH R):az gP 46 (ao [.a,.a] (abI R)):=rk λK a0 a1 H h=>Vo hR a0 a1 H h
def BO:tH:=(f88)
def f46:AV→AV→AH→KF→Prop:=abI BO
theorem Vp:az gP 46 (ao [.a,.a] f46):=adC BO (ad.cons afS ad.nil)
abbrev tI:Type:=Unit
def afV(R:tI):List (Nat×cW):=[]
abbrev abJ(R:tI):Prop:=ad gP (afV R)
def BP(R:tI)(K:KF)(a0:Int)(H:AH):Prop:=bI (!(cE a0 (.ofNat 48))) (K (.ret (.bool (!(cE (.ofNat 57) a0)))) H) (K (.ret (.bool false)) H)
theorem Vq{R:tI}(hR:abJ R){K:KF}(a0:Int)(H:AH)(h:BP R K a0 H):dD 48 K [] (bz (dt 48) [(.int 1 a0)]) [] H:=pk hR .nil h
def afW(R:tI)(K:KF):Ti:=BP R K
def abK(R:tI):Int→AH→KF→Prop:=λa0 H K=>afW R K a0 H
theorem adD(R:tI)(hR:abJ R):az gP 48 (ao [.i 1] (abK R)):=rk λK a0 H h=>Vq hR a0 H h
def Jk:tI:=()
def f48:Int→AH→KF→Prop:=abK Jk
theorem Jl:az gP 48 (ao [.i 1] f48):=adD Jk ad.nil
abbrev tJ:Type:=(Int→AH→KF→Prop)
def afX(R:tJ):List (Nat×cW):=[(48,ao [.i 1] R)]
abbrev abL(R:tJ):Prop:=ad gP (afX R)
def BQ(R:tJ)(K:KF)(a0:Int)(H:AH):Prop:=bI (!(cE a0 (.ofNat 97))) (bI (!(cE (.ofNat 122) a0)) (K (.ret (.bool true)) H) (bI (!(cE a0 (.ofNat 65))) (bI (!(cE (.ofNat 90) a0)) (K (.ret (.bool true)) H) (bI (bX a0 (.ofNat 95)) (K (.ret (.bool true)) H) (R a0 H λo1 H2=>cR K o1 H2 λv3=>bO v3 λz4=>K (.ret (.bool z4)) H2))) (bI (bX a0 (.ofNat 95)) (K (.ret (.bool true)) H) (R a0 H λo5 H6=>cR K o5 H6 λv7=>bO v7 λz8=>K (.ret (.bool z8)) H6)))) (bI (!(cE a0 (.ofNat 65))) (bI (!(cE (.ofNat 90) a0)) (K (.ret (.bool true)) H) (bI (bX a0 (.ofNat 95)) (K (.ret (.bool true)) H) (R a0 H λo9 bM=>cR K o9 bM λv11=>bO v11 λz12=>K (.ret (.bool z12)) bM))) (bI (bX a0 (.ofNat 95)) (K (.ret (.bool true)) H) (R a0 H λkT dL=>cR K kT dL λv15=>bO v15 λlO=>K (.ret (.bool lO)) dL)))
theorem Vr{R:tJ}(hR:abL R){K:KF}(a0:Int)(H:AH)(h:BQ R K a0 H):dD 47 K [] (bz (dt 47) [(.int 1 a0)]) [] H:=pk hR .nil h
def afY(R:tJ)(K:KF):Ti:=BQ R K
def abM(R:tJ):Int→AH→KF→Prop:=λa0 H K=>afY R K a0 H
theorem adE(R:tJ)(hR:abL R):az gP 47 (ao [.i 1] (abM R)):=rk λK a0 H h=>Vr hR a0 H h
def BS:tJ:=(f48)
def f47:Int→AH→KF→Prop:=abM BS
theorem afZ:az gP 47 (ao [.i 1] f47):=adE BS (ad.cons Jl ad.nil)
abbrev ky:Type:=(AV→Int→AH→KF→Prop)×(AV→AV→AH→KF→Prop)
def af0(R:ky):List (Nat×cW):=[(45,ao [.a,.i 1] R.1),(46,ao [.a,.a] R.2)]
abbrev wg(R:ky):Prop:=ad gP (af0 R)
abbrev Jm(K:KF)(F:Ta):Prop:=bq 49 K [1,1] 26 [0] [.a] F
abbrev sA(K:KF)(F:bZ):Prop:=bq 49 K [0,1,0,1] 26 [0,5,6,7] [.a,.a,.i 0,.i 0] F
def BT(R:ky)(K:KF)(a0:AV)(H:AH):Prop:=LK a0 (.str 0 0) λv1=>bO v1 λz2=>bI z2 (gB a0 (.int 0 (.ofNat 0)) λv3=>cI 1 v3 λz4=>R.1 (.str 17 20123422373665890509693217210346309823787) z4 H λo5 H6=>cR K o5 H6 λv7=>cI 0 v7 λz8=>bI (!(cE z8 (.ofNat 0))) (eT a0 none (some (.int 0 (.ofNat 1))) λv9=>K (.ret v9) H6) (K (.ret (.str 0 0)) H6)) (K (.ret (.str 0 0)) H)
theorem Vs{R:ky}(hR:wg R){K:KF}:Jm K (BT R K):=λa0 H h=>pk hR .nil h
def Vt(R:ky)(K:KF):Ta:=BT R K
theorem Vu{R:ky}(hR:wg R){K:KF}:Jm K (Vt R K):=Vs hR
def BU(R:ky)(K:KF)(x2:bZ)(x1:Ta)(a0 a5:AV)(a6 a7:Int)(H:AH):Prop:=bI (cE a7 a6) (dj 1 a5 (.int 0 a7) λv1=>aC v1 H λv2=>R.2 a0 v2 H λo3 H4=>cR K o3 H4 λv5=>bO v5 λz6=>bI z6 (K (.ret v2) H4) (bg 0 (Int.add a7 (.ofNat 1)) λz7=>x2 a0 a5 a6 z7 H4)) (x1 a0 H)
theorem Vv{R:ky}(hR:wg R){K:KF}{x2:bZ}{x1:Ta}(h2:sA K x2)(h1:Jm K x1):sA K (BU R K x2 x1):=λa0 a5 a6 a7 H h=>pk hR (cc h2 (cc h1 .nil)) h
def Vw(R:ky)(K:KF)(i2:bZ):bZ:=BU R K i2 (Vt R K)
theorem Vx{R:ky}(hR:wg R){K:KF}{i2:bZ}(g2:sA K i2):sA K (Vw R K i2):=Vv hR g2 (Vu hR)
def sB(R:ky)(K:KF)(n:Nat):bZ:=Nat.rec (motive:=λ_=>bZ) (λ_ _ _ _ _=>False) (λ_ i=>Vw R K i) n
theorem Vy{R:ky}(hR:wg R){K:KF}(n:Nat):sA K (sB R K n):=Nat.rec (motive:=λn=>sA K (sB R K n)) (λa0 a5 a6 a7 H h=>h.elim) (λn ih=>Vx hR ih) n
def BV(R:ky)(K:KF)(x2:bZ)(a0:AV)(H:AH):Prop:=bY (aP H) 6 1 [(.str 2 11822),(.str 2 15677),(.str 2 15742),(.str 2 15676),(.str 2 15678),(.str 2 12079)] λv1 H2=>cN v1 λv3=>cI 0 v3 λz4=>x2 a0 v1 z4 (.ofNat 0) H2
theorem Vz{R:ky}(hR:wg R){K:KF}{x2:bZ}(h2:sA K x2)(a0:AV)(H:AH)(h:BV R K x2 a0 H):dD 49 K [] (bz (dt 49) [a0]) [] H:=pk hR (cc h2 .nil) h
def af1(R:ky)(K:KF):Ta:=BV R K (sB R K NL)
def abN(R:ky):AV→AH→KF→Prop:=λa0 H K=>af1 R K a0 H
theorem adF(R:ky)(hR:wg R):az gP 49 (ao [.a] (abN R)):=rk λK a0 H h=>Vz hR (Vy hR NL) a0 H h
abbrev iG:Type:=Unit
def adG(R:iG):List (Nat×cW):=[]
abbrev sC(R:iG):Prop:=ad gP (adG R)
abbrev Er(K:KF)(F:T_):Prop:=bq 121 K [1,1] 19 [] [] F
abbrev pw(K:KF)(F:bZ):Prop:=bq 121 K [0,1,0,1] 19 [0,1,7,8] [.a,.a,.i 0,.i 0] F
def Es(R:iG)(K:KF)(H:AH):Prop:=K (.ret (.int 0 (.negSucc 0))) H
theorem Qw{R:iG}(hR:sC R){K:KF}:Er K (Es R K):=λH h=>pk hR .nil h
def M9(R:iG)(K:KF):T_:=Es R K
theorem Qx{R:iG}(hR:sC R){K:KF}:Er K (M9 R K):=Qw hR
def yR(R:iG)(K:KF)(x2:bZ)(x1:T_)(a0 a1:AV)(a7 a8:Int)(H:AH):Prop:=bI (cE a8 a7) (dj 1 a0 (.int 0 a8) λv1=>aC v1 H λv2=>sW a1 v2 λv3=>bO v3 λz4=>bI z4 (K (.ret (.int 0 a8)) H) (bg 0 (Int.add a8 (.ofNat 1)) λz5=>x2 a0 a1 a7 z5 H)) (x1 H)
theorem Qy{R:iG}(hR:sC R){K:KF}{x2:bZ}{x1:T_}(h2:pw K x2)(h1:Er K x1):pw K (yR R K x2 x1):=λa0 a1 a7 a8 H h=>pk hR (cc h2 (cc h1 .nil)) h
def Na(R:iG)(K:KF)(i2:bZ):bZ:=yR R K i2 (M9 R K)
theorem Qz{R:iG}(hR:sC R){K:KF}{i2:bZ}(g2:pw K i2):pw K (Na R K i2):=Qy hR g2 (Qx hR)
def rB(R:iG)(K:KF)(n:Nat):bZ:=Nat.rec (motive:=λ_=>bZ) (λ_ _ _ _ _=>False) (λ_ i=>Na R K i) n
theorem QA{R:iG}(hR:sC R){K:KF}(n:Nat):pw K (rB R K n):=Nat.rec (motive:=λn=>pw K (rB R K n)) (λa0 a1 a7 a8 H h=>h.elim) (λn ih=>Qz hR ih) n
def yS(R:iG)(K:KF)(x2:bZ)(a0 a1:AV)(H:AH):Prop:=cN a0 λv1=>cI 0 v1 λz2=>x2 a0 a1 z2 (.ofNat 0) H
theorem QB{R:iG}(hR:sC R){K:KF}{x2:bZ}(h2:pw K x2)(a0 a1:AV)(H:AH)(h:yS R K x2 a0 a1 H):dD 121 K [] (bz (dt 121) [a0,a1]) [] H:=pk hR (cc h2 .nil) h
def adH(R:iG)(K:KF):bA:=yS R K (rB R K NL)
def VA(R:iG):AV→AV→AH→KF→Prop:=λa0 a1 H K=>adH R K a0 a1 H
theorem aaE(R:iG)(hR:sC R):az gP 121 (ao [.a,.a] (VA R)):=rk λK a0 a1 H h=>QB hR (QA hR NL) a0 a1 H h
def nJ:iG:=()
def f121:AV→AV→AH→KF→Prop:=VA nJ
theorem adI:az gP 121 (ao [.a,.a] f121):=aaE nJ ad.nil
abbrev tK:Type:=(AV→AV→AH→KF→Prop)
def af2(R:tK):List (Nat×cW):=[(121,ao [.a,.a] R)]
abbrev abO(R:tK):Prop:=ad gP (af2 R)
def BW(R:tK)(K:KF)(a0 a1:AV)(H:AH):Prop:=R a0 a1 H λo1 H2=>cR K o1 H2 λv3=>cI 0 v3 λz4=>K (.ret (.bool (!(cE z4 (.ofNat 0))))) H2
theorem VB{R:tK}(hR:abO R){K:KF}(a0 a1:AV)(H:AH)(h:BW R K a0 a1 H):dD 89 K [] (bz (dt 89) [a0,a1]) [] H:=pk hR .nil h
def af3(R:tK)(K:KF):bA:=BW R K
def abP(R:tK):AV→AV→AH→KF→Prop:=λa0 a1 H K=>af3 R K a0 a1 H
theorem adJ(R:tK)(hR:abO R):az gP 89 (ao [.a,.a] (abP R)):=rk λK a0 a1 H h=>VB hR a0 a1 H h
def BX:tK:=(f121)
def f89:AV→AV→AH→KF→Prop:=abP BX
theorem af4:az gP 89 (ao [.a,.a] f89):=adJ BX (ad.cons adI ad.nil)
abbrev cw:Type:=Unit
def af5(R:cw):List (Nat×cW):=[]
abbrev fS(R:cw):Prop:=ad gP (af5 R)
abbrev Jn(K:KF)(F:DF):Prop:=bq 90 K [1,1,1,1,1] 106 [0,3,5] [.a,.i 0,.i 1] F
abbrev qg(K:KF)(F:jI):Prop:=bq 90 K [0,1,0,1,1,1,1] 106 [0,3,4,5,6] [.a,.i 0,.i 0,.i 1,.i 0] F
abbrev Jo(K:KF)(F:bZ):Prop:=bq 90 K [1,1,1,1,1,1,1,1,1,1,1] 106 [0,9,10,12] [.a,.a,.i 0,.i 0] F
abbrev sD(K:KF)(F:bZ):Prop:=bq 90 K [0,0,1,1,1,1,1,1,1,1,1,1] 106 [0,9,10,12] [.a,.a,.i 0,.i 0] F
abbrev Jp(K:KF)(F:bZ):Prop:=bq 90 K [1,1,1,1,1,1,1,1,1,1,1,1,1] 106 [0,9,10,11] [.a,.a,.i 0,.i 0] F
abbrev ll(K:KF)(F:fK):Prop:=bq 90 K [0,0,1,1,1,1,1,1,1,1,1,1,1,1] 106 [0,9,10,11,12] [.a,.a,.i 0,.i 0,.i 0] F
abbrev Jq(K:KF)(F:Ta):Prop:=bq 90 K [1,1,1,1,1,1,1,1,1,1,1,1,1,1] 106 [9] [.a] F
abbrev Jr(K:KF)(F:jI):Prop:=bq 90 K [1,1,1,1,0,0,1,0,0,1,0,1,1,1,1] 106 [0,3,5,6,8] [.a,.i 0,.i 1,.i 0,.i 0] F
abbrev Js(K:KF)(F:bZ):Prop:=bq 90 K [1,1,1,0,1,0,0,0,1,1,1,1,1,1,1,1,1,1,1,1] 106 [0,9,10,12] [.a,.a,.i 0,.i 0] F
abbrev Et(K:KF)(F:bZ):Prop:=bq 90 K [1,1,1,1,1,0,1,0,0,0,1,1,1,1,1,1,1,1,1,1,1,1] 106 [0,9,10,12] [.a,.a,.i 0,.i 0] F
abbrev px(K:KF)(F:bZ):Prop:=bq 90 K [0,0,1,1,1,1,0,1,0,0,0,1,1,1,1,1,1,1,1,1,1,1,1] 106 [0,9,10,12] [.a,.a,.i 0,.i 0] F
def VC(R:cw)(K:KF)(x2:jI)(a0:AV)(a3 a5 a6 a8:Int)(H:AH):Prop:=bg 0 (Int.add a6 (.ofNat 1)) λz1=>x2 a0 a3 a8 a5 z1 H
theorem VD{R:cw}(hR:fS R){K:KF}{x2:jI}(h2:qg K x2):Jr K (VC R K x2):=λa0 a3 a5 a6 a8 H h=>pk hR (cc h2 .nil) h
def VE(R:cw)(K:KF)(i2:jI):jI:=VC R K i2
theorem VF{R:cw}(hR:fS R){K:KF}{i2:jI}(g2:qg K i2):Jr K (VE R K i2):=VD hR g2
def Nb(R:cw)(K:KF)(x6:fK)(a0 a9:AV)(a10 a12:Int)(H:AH):Prop:=x6 a0 a9 a10 a12 a12 H
theorem QC{R:cw}(hR:fS R){K:KF}{x6:fK}(h6:ll K x6):Et K (Nb R K x6):=λa0 a9 a10 a12 H h=>pk hR (cc h6 .nil) h
def Nc(R:cw)(K:KF)(i6:fK):bZ:=Nb R K i6
theorem QD{R:cw}(hR:fS R){K:KF}{i6:fK}(g6:ll K i6):Et K (Nc R K i6):=QC hR g6
def Nd(R:cw)(K:KF)(x11 x10:bZ)(a0 a9:AV)(a10 a12:Int)(H:AH):Prop:=sLen a0 λv1=>cI 0 v1 λz2=>bI (cE a12 z2) (gB a0 (.int 0 a12) λv3=>cI 1 v3 λz4=>yc 256 1 (.ptr 0 0) (.int 1 z4) λv5=>aC v5 H λv6=>cI 1 v6 λz7=>bI (!(bX z7 (.ofNat 0))) (bg 0 (Int.add a12 (.ofNat 1)) λz8=>x11 a0 a9 a10 z8 H) (x10 a0 a9 a10 a12 H)) (x10 a0 a9 a10 a12 H)
theorem QE{R:cw}(hR:fS R){K:KF}{x11 x10:bZ}(h11:px K x11)(h10:Et K x10):px K (Nd R K x11 x10):=λa0 a9 a10 a12 H h=>pk hR (cc h11 (cc h10 .nil)) h
def Nf(R:cw)(K:KF)(i6:fK)(i11:bZ):bZ:=Nd R K i11 (Nc R K i6)
theorem QF{R:cw}(hR:fS R){K:KF}{i6:fK}{i11:bZ}(g6:ll K i6)(g11:px K i11):px K (Nf R K i6 i11):=QE hR g11 (QD hR g6)
def Eu(R:cw)(K:KF)(i6:fK)(n:Nat):bZ:=Nat.rec (motive:=λ_=>bZ) (λ_ _ _ _ _=>False) (λ_ i=>Nf R K i6 i) n
theorem QG{R:cw}(hR:fS R){K:KF}{i6:fK}(g6:ll K i6)(n:Nat):px K (Eu R K i6 n):=Nat.rec (motive:=λn=>px K (Eu R K i6 n)) (λa0 a9 a10 a12 H h=>h.elim) (λn ih=>QF hR g6 ih) n
def VG(R:cw)(K:KF)(x11:bZ)(a0 a9:AV)(a10 a12:Int)(H:AH):Prop:=bg 0 (Int.add a12 (.ofNat 1)) λz1=>x11 a0 a9 a10 z1 H
theorem VH{R:cw}(hR:fS R){K:KF}{x11:bZ}(h11:px K x11):Js K (VG R K x11):=λa0 a9 a10 a12 H h=>pk hR (cc h11 .nil) h
def VI(R:cw)(K:KF)(i6:fK):bZ:=VG R K (Eu R K i6 NL)
theorem VJ{R:cw}(hR:fS R){K:KF}{i6:fK}(g6:ll K i6):Js K (VI R K i6):=VH hR (QG hR g6 NL)
def VK(R:cw)(K:KF)(a9:AV)(H:AH):Prop:=K (.ret a9) H
theorem VM{R:cw}(hR:fS R){K:KF}:Jq K (VK R K):=λa9 H h=>pk hR .nil h
def VN(R:cw)(K:KF):Ta:=VK R K
theorem VO{R:cw}(hR:fS R){K:KF}:Jq K (VN R K):=VM hR
def VP(R:cw)(K:KF)(x7:Ta)(a0 a9:AV)(a10 a11:Int)(H:AH):Prop:=sLen a0 λv1=>cI 0 v1 λz2=>bI (cE a11 z2) (eT a0 (some (.int 0 a11)) none λv3=>dj 1 a9 (.int 0 a10) λv4=>ag 1 v4 v3 H λH5=>x7 a9 H5) (x7 a9 H)
theorem VQ{R:cw}(hR:fS R){K:KF}{x7:Ta}(h7:Jq K x7):Jp K (VP R K x7):=λa0 a9 a10 a11 H h=>pk hR (cc h7 .nil) h
def VS(R:cw)(K:KF):bZ:=VP R K (VN R K)
theorem VT{R:cw}(hR:fS R){K:KF}:Jp K (VS R K):=VQ hR (VO hR)
def VU(R:cw)(K:KF)(x6:fK)(x9 x5:bZ)(a0 a9:AV)(a10 a11 a12:Int)(H:AH):Prop:=sLen a0 λv1=>cI 0 v1 λz2=>bI (cE a12 z2) (gB a0 (.int 0 a12) λv3=>cI 1 v3 λz4=>yc 256 1 (.ptr 0 0) (.int 1 z4) λv5=>aC v5 H λv6=>cI 1 v6 λz7=>bI (bX z7 (.ofNat 0)) (bg 0 (Int.add a12 (.ofNat 1)) λz8=>x6 a0 a9 a10 a11 z8 H) (eT a0 (some (.int 0 a11)) (some (.int 0 a12)) λv9=>dj 1 a9 (.int 0 a10) λv10=>ag 1 v10 v9 H λfD=>bg 0 (Int.add a10 (.ofNat 1)) λz12=>x9 a0 a9 z12 a12 fD)) (x5 a0 a9 a10 a11 H)
theorem VV{R:cw}(hR:fS R){K:KF}{x6:fK}{x9 x5:bZ}(h6:ll K x6)(h9:Js K x9)(h5:Jp K x5):ll K (VU R K x6 x9 x5):=λa0 a9 a10 a11 a12 H h=>pk hR (cc h6 (cc h9 (cc h5 .nil))) h
def VW(R:cw)(K:KF)(i6:fK):fK:=VU R K i6 (VI R K i6) (VS R K)
theorem VX{R:cw}(hR:fS R){K:KF}{i6:fK}(g6:ll K i6):ll K (VW R K i6):=VV hR g6 (VJ hR g6) (VT hR)
def Jt(R:cw)(K:KF)(n:Nat):fK:=Nat.rec (motive:=λ_=>fK) (λ_ _ _ _ _ _=>False) (λ_ i=>VW R K i) n
theorem VY{R:cw}(hR:fS R){K:KF}(n:Nat):ll K (Jt R K n):=Nat.rec (motive:=λn=>ll K (Jt R K n)) (λa0 a9 a10 a11 a12 H h=>h.elim) (λn ih=>VX hR ih) n
def VZ(R:cw)(K:KF)(x6:fK)(a0 a9:AV)(a10 a12:Int)(H:AH):Prop:=x6 a0 a9 a10 a12 a12 H
theorem V0{R:cw}(hR:fS R){K:KF}{x6:fK}(h6:ll K x6):Jo K (VZ R K x6):=λa0 a9 a10 a12 H h=>pk hR (cc h6 .nil) h
def V1(R:cw)(K:KF):bZ:=VZ R K (Jt R K NL)
theorem V2{R:cw}(hR:fS R){K:KF}:Jo K (V1 R K):=V0 hR (VY hR NL)
def V3(R:cw)(K:KF)(x4 x3:bZ)(a0 a9:AV)(a10 a12:Int)(H:AH):Prop:=sLen a0 λv1=>cI 0 v1 λz2=>bI (cE a12 z2) (gB a0 (.int 0 a12) λv3=>cI 1 v3 λz4=>yc 256 1 (.ptr 0 0) (.int 1 z4) λv5=>aC v5 H λv6=>cI 1 v6 λz7=>bI (!(bX z7 (.ofNat 0))) (bg 0 (Int.add a12 (.ofNat 1)) λz8=>x4 a0 a9 a10 z8 H) (x3 a0 a9 a10 a12 H)) (x3 a0 a9 a10 a12 H)
theorem V4{R:cw}(hR:fS R){K:KF}{x4 x3:bZ}(h4:sD K x4)(h3:Jo K x3):sD K (V3 R K x4 x3):=λa0 a9 a10 a12 H h=>pk hR (cc h4 (cc h3 .nil)) h
def V5(R:cw)(K:KF)(i4:bZ):bZ:=V3 R K i4 (V1 R K)
theorem V6{R:cw}(hR:fS R){K:KF}{i4:bZ}(g4:sD K i4):sD K (V5 R K i4):=V4 hR g4 (V2 hR)
def Ju(R:cw)(K:KF)(n:Nat):bZ:=Nat.rec (motive:=λ_=>bZ) (λ_ _ _ _ _=>False) (λ_ i=>V5 R K i) n
theorem V7{R:cw}(hR:fS R){K:KF}(n:Nat):sD K (Ju R K n):=Nat.rec (motive:=λn=>sD K (Ju R K n)) (λa0 a9 a10 a12 H h=>h.elim) (λn ih=>V6 hR ih) n
def V8(R:cw)(K:KF)(x4:bZ)(a0:AV)(a3 a5:Int)(H:AH):Prop:=bI (!(cE a5 (.ofNat 128))) (False) (cD H (Tc (aP H) 1 16 [(.str 0 0)] (.int 0 a3) (.int 0 a3) λv4 H5=>x4 a0 v4 (.ofNat 0) (.ofNat 0) H5))
theorem V9{R:cw}(hR:fS R){K:KF}{x4:bZ}(h4:sD K x4):Jn K (V8 R K x4):=λa0 a3 a5 H h=>pk hR (cc h4 .nil) h
def Wa(R:cw)(K:KF):DF:=V8 R K (Ju R K NL)
theorem Wb{R:cw}(hR:fS R){K:KF}:Jn K (Wa R K):=V9 hR (V7 hR NL)
def Wc(R:cw)(K:KF)(x8:jI)(x1:DF)(a0:AV)(a3 a4 a5 a6:Int)(H:AH):Prop:=sLen a0 λv1=>cI 0 v1 λz2=>bI (cE a6 z2) (gB a0 (.int 0 a6) λv3=>cI 1 v3 λz4=>bw (j0 1 a5) λu5=>bw (j0 1 z4) λu6=>bg 1 (.ofNat (Nat.lor u5 u6)) λz7=>yc 256 1 (.ptr 0 0) (.int 1 z4) λv8=>aC v8 H λv9=>cI 1 v9 λz10=>bg 0 z10 λz11=>Oc 0 (.int 0 (.negSucc 0)) (.int 0 z11) λv12=>cI 0 v12 λz13=>bw (j0 0 a4) λu14=>bw (j0 0 z13) λu15=>bg 0 (.ofNat (Nat.land u14 u15)) λlO=>bg 0 (Int.add a3 lO) λz17=>x8 a0 z17 z7 a6 z11 H) (x1 a0 a3 a5 H)
theorem Wd{R:cw}(hR:fS R){K:KF}{x8:jI}{x1:DF}(h8:Jr K x8)(h1:Jn K x1):qg K (Wc R K x8 x1):=λa0 a3 a4 a5 a6 H h=>pk hR (cc h8 (cc h1 .nil)) h
def We(R:cw)(K:KF)(i2:jI):jI:=Wc R K (VE R K i2) (Wa R K)
theorem Wf{R:cw}(hR:fS R){K:KF}{i2:jI}(g2:qg K i2):qg K (We R K i2):=Wd hR (VF hR g2) (Wb hR)
def Jv(R:cw)(K:KF)(n:Nat):jI:=Nat.rec (motive:=λ_=>jI) (λ_ _ _ _ _ _=>False) (λ_ i=>We R K i) n
theorem Wg{R:cw}(hR:fS R){K:KF}(n:Nat):qg K (Jv R K n):=Nat.rec (motive:=λn=>qg K (Jv R K n)) (λa0 a3 a4 a5 a6 H h=>h.elim) (λn ih=>Wf hR ih) n
def Wh(R:cw)(K:KF)(x2:jI)(a0:AV)(H:AH):Prop:=x2 a0 (.ofNat 0) (.ofNat 1) (.ofNat 0) (.ofNat 0) H
theorem Wi{R:cw}(hR:fS R){K:KF}{x2:jI}(h2:qg K x2)(a0:AV)(H:AH)(h:Wh R K x2 a0 H):dD 90 K [] (bz (dt 90) [a0]) [] H:=pk hR (cc h2 .nil) h
def af6(R:cw)(K:KF):Ta:=Wh R K (Jv R K NL)
def abQ(R:cw):AV→AH→KF→Prop:=λa0 H K=>af6 R K a0 H
theorem adK(R:cw)(hR:fS R):az gP 90 (ao [.a] (abQ R)):=rk λK a0 H h=>Wi hR (Wg hR NL) a0 H h
def Wj:cw:=()
def f90:AV→AH→KF→Prop:=abQ Wj
theorem af7:az gP 90 (ao [.a] f90):=adK Wj ad.nil
abbrev tL:Type:=(AV→AV→AH→KF→Prop)×(AV→AH→KF→Prop)
def af8(R:tL):List (Nat×cW):=[(89,ao [.a,.a] R.1),(90,ao [.a] R.2)]
abbrev abR(R:tL):Prop:=ad gP (af8 R)
def BY(R:tL)(K:KF)(a0:AV)(H:AH):Prop:=R.2 (.str 106 743592293415549159464884965273623582657807955486870022263567599881100855398344308852071505921708641523013298851144444062831057050381886688874167040862228978947257244481257785676058839983701114737916356931020761369637418783173010486990440839896469216718433) H λo1 H2=>cR K o1 H2 λv3=>R.1 v3 a0 H2 λo4 H5=>cR K o4 H5 λv6=>bO v6 λz7=>K (.ret (.bool z7)) H5
theorem Wk{R:tL}(hR:abR R){K:KF}(a0:AV)(H:AH)(h:BY R K a0 H):dD 50 K [] (bz (dt 50) [a0]) [] H:=pk hR .nil h
def af9(R:tL)(K:KF):Ta:=BY R K
def abS(R:tL):AV→AH→KF→Prop:=λa0 H K=>af9 R K a0 H
theorem adL(R:tL)(hR:abR R):az gP 50 (ao [.a] (abS R)):=rk λK a0 H h=>Wk hR a0 H h
abbrev fh:Type:=(Int→AH→KF→Prop)×(AV→Int→Int→AH→KF→Prop)
def aga(R:fh):List (Nat×cW):=[(48,ao [.i 1] R.1),(129,ao [.a,.i 0,.i 0] R.2)]
abbrev mz(R:fh):Prop:=ad gP (aga R)
abbrev Jw(K:KF)(F:T_):Prop:=bq 93 K [1,1,1] 57 [] [] F
abbrev Jx(K:KF)(F:Qv):Prop:=bq 93 K [1,1,1,1,1,0,1,0,1,1] 57 [0,10,15] [.a,.i 1,.b] F
abbrev Jy(K:KF)(F:Ta):Prop:=bq 93 K [1,1,0,1,1,1,1,1,1,1,0,1,0,1,1] 57 [0] [.a] F
abbrev qh(K:KF)(F:oh):Prop:=bq 93 K [0,1,0,1,0,1,1,1,1,1,1,1,0,1,0,1,1] 57 [0,4] [.a,.i 0] F
abbrev Jz(K:KF)(F:oh):Prop:=bq 93 K [1,1,0,0,1,0,1,0,1,1,1,1,1,1,1,0,1,0,1,1] 57 [0,4] [.a,.i 0] F
def xH(R:fh)(K:KF)(x4:oh)(a0:AV)(a4:Int)(H:AH):Prop:=bg 0 (Int.add a4 (.ofNat 1)) λz1=>x4 a0 z1 H
theorem Wl{R:fh}(hR:mz R){K:KF}{x4:oh}(h4:qh K x4):Jz K (xH R K x4):=λa0 a4 H h=>pk hR (cc h4 .nil) h
def Wm(R:fh)(K:KF)(i4:oh):oh:=xH R K i4
theorem Wn{R:fh}(hR:mz R){K:KF}{i4:oh}(g4:qh K i4):Jz K (Wm R K i4):=Wl hR g4
def BZ(R:fh)(K:KF)(a0:AV)(H:AH):Prop:=eT a0 (some (.int 0 (.ofNat 1))) (some (.int 0 (.ofNat 3))) λv1=>R.2 v1 (.ofNat 16) (.ofNat 8) H λo2 H3=>cR K o2 H3 λv4=>dX v4 λl5=>cP l5 0 λv6=>cI 3 v6 λz7=>dX v4 λl8=>cP l8 1 λv9=>bg 1 z7 λz10=>K (.ret (.bD [(.int 1 z10),(.int 0 (.ofNat 3))])) H3
theorem Wo{R:fh}(hR:mz R){K:KF}:Jy K (BZ R K):=λa0 H h=>pk hR .nil h
def Wp(R:fh)(K:KF):Ta:=BZ R K
theorem Wq{R:fh}(hR:mz R){K:KF}:Jy K (Wp R K):=Wo hR
def B0(R:fh)(K:KF)(x5:oh)(x3:Ta)(a0:AV)(a4:Int)(H:AH):Prop:=bI (cE a4 (.ofNat 3)) (gB a0 (.int 0 a4) λv1=>cI 1 v1 λz2=>R.1 z2 H λo3 H4=>cR K o3 H4 λv5=>bO v5 λz6=>bI (!z6) (gB a0 (.int 0 a4) λv7=>cI 1 v7 λz8=>bw (j0 1 z8) λu9=>bw (j0 1 (.ofNat 32)) λu10=>bg 1 (.ofNat (Nat.lor u9 u10)) λz11=>bI (cE z11 (.ofNat 97)) (K (.ret (.bD [(.int 1 (.ofNat 0)),(.int 0 (.ofNat 0))])) H4) (gB a0 (.int 0 a4) λv12=>cI 1 v12 λz13=>bw (j0 1 z13) λu14=>bw (j0 1 (.ofNat 32)) λu15=>bg 1 (.ofNat (Nat.lor u14 u15)) λlO=>bI (cE (.ofNat 102) lO) (K (.ret (.bD [(.int 1 (.ofNat 0)),(.int 0 (.ofNat 0))])) H4) (x5 a0 a4 H4))) (x5 a0 a4 H4)) (x3 a0 H)
theorem Wr{R:fh}(hR:mz R){K:KF}{x5:oh}{x3:Ta}(h5:Jz K x5)(h3:Jy K x3):qh K (B0 R K x5 x3):=λa0 a4 H h=>pk hR (cc h5 (cc h3 .nil)) h
def Ws(R:fh)(K:KF)(i4:oh):oh:=B0 R K (Wm R K i4) (Wp R K)
theorem Wt{R:fh}(hR:mz R){K:KF}{i4:oh}(g4:qh K i4):qh K (Ws R K i4):=Wr hR (Wn hR g4) (Wq hR)
def qi(R:fh)(K:KF)(n:Nat):oh:=Nat.rec (motive:=λ_=>oh) (λ_ _ _=>False) (λ_ i=>Ws R K i) n
theorem Wu{R:fh}(hR:mz R){K:KF}(n:Nat):qh K (qi R K n):=Nat.rec (motive:=λn=>qh K (qi R K n)) (λa0 a4 H h=>h.elim) (λn ih=>Wt hR ih) n
def B5(R:fh)(K:KF)(H:AH):Prop:=K (.ret (.bD [(.int 1 (.ofNat 0)),(.int 0 (.ofNat 0))])) H
theorem Wv{R:fh}(hR:mz R){K:KF}:Jw K (B5 R K):=λH h=>pk hR .nil h
def Ww(R:fh)(K:KF):T_:=B5 R K
theorem Wx{R:fh}(hR:mz R){K:KF}:Jw K (Ww R K):=Wv hR
def uV(R:fh)(K:KF)(x4:oh)(x1:T_)(a0:AV)(a10:Int)(gf:Bool)(H:AH):Prop:=bI gf (gB a0 (.int 0 (.ofNat 0)) λv1=>cI 1 v1 λz2=>K (.ret (.bD [(.int 1 z2),(.int 0 (.ofNat 1))])) H) (bI (bX a10 (.ofNat 120)) (sLen a0 λv3=>cI 0 v3 λz4=>bI (cE z4 (.ofNat 3)) (K (.ret (.bD [(.int 1 (.ofNat 0)),(.int 0 (.ofNat 0))])) H) (x4 a0 (.ofNat 1) H)) (x1 H))
theorem Wy{R:fh}(hR:mz R){K:KF}{x4:oh}{x1:T_}(h4:qh K x4)(h1:Jw K x1):Jx K (uV R K x4 x1):=λa0 a10 gf H h=>pk hR (cc h4 (cc h1 .nil)) h
def Wz(R:fh)(K:KF):Qv:=uV R K (qi R K NL) (Ww R K)
theorem WA{R:fh}(hR:mz R){K:KF}:Jx K (Wz R K):=Wy hR (Wu hR NL) (Wx hR)
def B6(R:fh)(K:KF)(x2:Qv)(a0:AV)(H:AH):Prop:=sW a0 (.str 0 0) λv1=>bO v1 λz2=>bI z2 (K (.ret (.bD [(.int 1 (.ofNat 0)),(.int 0 (.ofNat 0))])) H) (gB a0 (.int 0 (.ofNat 0)) λv3=>cI 1 v3 λz4=>bI (bX z4 (.ofNat 110)) (K (.ret (.bD [(.int 1 (.ofNat 10)),(.int 0 (.ofNat 1))])) H) (bI (bX z4 (.ofNat 116)) (K (.ret (.bD [(.int 1 (.ofNat 9)),(.int 0 (.ofNat 1))])) H) (bI (bX z4 (.ofNat 92)) (x2 a0 z4 (bX z4 (.ofNat 92)) H) (bI (bX z4 (.ofNat 34)) (x2 a0 z4 (bX z4 (.ofNat 34)) H) (x2 a0 z4 (bX z4 (.ofNat 39)) H)))))
theorem WB{R:fh}(hR:mz R){K:KF}{x2:Qv}(h2:Jx K x2)(a0:AV)(H:AH)(h:B6 R K x2 a0 H):dD 93 K [] (bz (dt 93) [a0]) [] H:=pk hR (cc h2 .nil) h
def agb(R:fh)(K:KF):Ta:=B6 R K (Wz R K)
def abT(R:fh):AV→AH→KF→Prop:=λa0 H K=>agb R K a0 H
theorem adM(R:fh)(hR:mz R):az gP 93 (ao [.a] (abT R)):=rk λK a0 H h=>WB hR (WA hR) a0 H h
abbrev gH:Type:=(AV→AH→KF→Prop)
def agc(R:gH):List (Nat×cW):=[(93,ao [.a] R)]
abbrev ou(R:gH):Prop:=ad gP (agc R)
abbrev JA(K:KF)(F:T_):Prop:=bq 52 K [1,1,1] 59 [] [] F
abbrev ov(K:KF)(F:jf):Prop:=bq 52 K [0,1,0,1,1] 59 [0,4,5] [.a,.a,.i 0] F
abbrev B9(K:KF)(F:jf):Prop:=bq 52 K [1,1,0,0,1,0,1,1] 59 [0,4,5] [.a,.a,.i 0] F
abbrev JB(K:KF)(F:fK):Prop:=bq 52 K [1,1,1,1,1,1,1,0,1,0,0,1,0,0,1,0,1,1] 59 [0,4,5,7,8] [.a,.a,.i 0,.i 1,.i 0] F
def uW(R:gH)(K:KF)(x2:jf)(a0 a4:AV)(a5:Int)(H:AH):Prop:=bg 0 (Int.add a5 (.ofNat 1)) λz1=>x2 a0 a4 z1 H
theorem WC{R:gH}(hR:ou R){K:KF}{x2:jf}(h2:ov K x2):B9 K (uW R K x2):=λa0 a4 a5 H h=>pk hR (cc h2 .nil) h
def JC(R:gH)(K:KF)(i2:jf):jf:=uW R K i2
theorem FT{R:gH}(hR:ou R){K:KF}{i2:jf}(g2:ov K i2):B9 K (JC R K i2):=WC hR g2
def JD(R:gH)(K:KF)(H:AH):Prop:=K (.ret (.bD [(.str 0 0),(.int 0 (.ofNat 0))])) H
theorem WD{R:gH}(hR:ou R){K:KF}:JA K (JD R K):=λH h=>pk hR .nil h
def WE(R:gH)(K:KF):T_:=JD R K
theorem WG{R:gH}(hR:ou R){K:KF}:JA K (WE R K):=WD hR
def xI(R:gH)(K:KF)(x3:jf)(a0 a4:AV)(a5 a7 a8:Int)(H:AH):Prop:=bI (bX a8 (.ofNat 0)) (K (.ret (.bD [(.str 0 0),(.int 0 (.ofNat 0))])) H) (bY (aP H) 1 1 [(.int 1 a7)] λv1 H2=>ef 1 1 a4 v1 H2 λv3 H4=>bg 0 (Int.add a5 a8) λz5=>x3 a0 v3 z5 H4)
theorem WH{R:gH}(hR:ou R){K:KF}{x3:jf}(h3:B9 K x3):JB K (xI R K x3):=λa0 a4 a5 a7 a8 H h=>pk hR (cc h3 .nil) h
def WI(R:gH)(K:KF)(i2:jf):fK:=xI R K (JC R K i2)
theorem WJ{R:gH}(hR:ou R){K:KF}{i2:jf}(g2:ov K i2):JB K (WI R K i2):=WH hR (FT hR g2)
def Ca(R:gH)(K:KF)(x3:jf)(x1:T_)(x4:fK)(a0 a4:AV)(a5:Int)(H:AH):Prop:=sLen a0 λv1=>cI 0 v1 λz2=>bI (cE a5 z2) (cN a4 λv3=>cI 0 v3 λz4=>bI (!(cE (.ofNat 4096) z4)) (gB a0 (.int 0 a5) λv5=>cI 1 v5 λz6=>gB a0 (.int 0 (.ofNat 0)) λv7=>cI 1 v7 λz8=>bI (bX z6 z8) (yf a4 H λv9=>bg 0 (Int.add a5 (.ofNat 1)) λz10=>K (.ret (.bD [v9,(.int 0 z10)])) H) (bI (bX z6 (.ofNat 10)) (K (.ret (.bD [(.str 0 0),(.int 0 (.ofNat 0))])) H) (bI (!(bX z6 (.ofNat 92))) (bY (aP H) 1 1 [(.int 1 z6)] λv11 dA=>ef 1 1 a4 v11 dA λv13 dL=>x3 a0 v13 a5 dL) (bg 0 (Int.add a5 (.ofNat 1)) λqc=>eT a0 (some (.int 0 qc)) none λv16=>R v16 H λoi gm=>cR K oi gm λv19=>dX v19 λTX=>cP TX 0 λv21=>cI 1 v21 λz22=>dX v19 λl23=>cP l23 1 λv24=>cI 0 v24 λz25=>x4 a0 a4 a5 z22 z25 gm)))) (x1 H)) (x1 H)
theorem WK{R:gH}(hR:ou R){K:KF}{x3:jf}{x1:T_}{x4:fK}(h3:B9 K x3)(h1:JA K x1)(h4:JB K x4):ov K (Ca R K x3 x1 x4):=λa0 a4 a5 H h=>pk hR (cc h3 (cc h1 (cc h4 .nil))) h
def WL(R:gH)(K:KF)(i2:jf):jf:=Ca R K (JC R K i2) (WE R K) (WI R K i2)
theorem WM{R:gH}(hR:ou R){K:KF}{i2:jf}(g2:ov K i2):ov K (WL R K i2):=WK hR (FT hR g2) (WG hR) (WJ hR g2)
def kQ(R:gH)(K:KF)(n:Nat):jf:=Nat.rec (motive:=λ_=>jf) (λ_ _ _ _=>False) (λ_ i=>WL R K i) n
theorem WN{R:gH}(hR:ou R){K:KF}(n:Nat):ov K (kQ R K n):=Nat.rec (motive:=λn=>ov K (kQ R K n)) (λa0 a4 a5 H h=>h.elim) (λn ih=>WM hR ih) n
def Cb(R:gH)(K:KF)(x2:jf)(a0:AV)(H:AH):Prop:=x2 a0 .ab (.ofNat 1) H
theorem WO{R:gH}(hR:ou R){K:KF}{x2:jf}(h2:ov K x2)(a0:AV)(H:AH)(h:Cb R K x2 a0 H):dD 52 K [] (bz (dt 52) [a0]) [] H:=pk hR (cc h2 .nil) h
def agd(R:gH)(K:KF):Ta:=Cb R K (kQ R K NL)
def abU(R:gH):AV→AH→KF→Prop:=λa0 H K=>agd R K a0 H
theorem adN(R:gH)(hR:ou R):az gP 52 (ao [.a] (abU R)):=rk λK a0 H h=>WO hR (WN hR NL) a0 H h
abbrev aO:Type:=(AV→Int→AH→KF→Prop)×(AV→AV→AH→KF→Prop)×(Int→AH→KF→Prop)×(Int→AH→KF→Prop)×(AV→AH→KF→Prop)×(AV→AH→KF→Prop)×(AV→Int→Int→AH→KF→Prop)×(AV→AH→KF→Prop)
def age(R:aO):List (Nat×cW):=[(45,ao [.a,.i 1] R.1),(46,ao [.a,.a] R.2.1),(47,ao [.i 1] R.2.2.1),(48,ao [.i 1] R.2.2.2.1),(49,ao [.a] R.2.2.2.2.1),(50,ao [.a] R.2.2.2.2.2.1),(51,ao [.a,.i 0,.i 0] R.2.2.2.2.2.2.1),(52,ao [.a] R.2.2.2.2.2.2.2)]
abbrev bV(R:aO):Prop:=ad gP (age R)
abbrev eo(K:KF)(F:aJ):Prop:=bq 21 K [2,1] 155 [0,5,6,8] [.a,.a,.a,.i 0] F
abbrev Cc(K:KF)(F:aB):Prop:=bq 21 K [3,1] 155 [0,5,6,8,9] [.a,.a,.a,.i 0,.i 0] F
abbrev Cd(K:KF)(F:aB):Prop:=bq 21 K [4,1] 155 [0,5,6,8,9] [.a,.a,.a,.i 0,.i 0] F
abbrev Ce(K:KF)(F:aJ):Prop:=bq 21 K [5,1] 155 [0,5,6,8] [.a,.a,.a,.i 0] F
abbrev sE(K:KF)(F:Ti):Prop:=bq 21 K [6,1] 155 [8] [.i 0] F
abbrev uX(K:KF)(F:aJ):Prop:=bq 21 K [7,1] 155 [0,5,6,9] [.a,.a,.a,.i 0] F
abbrev JE(K:KF)(F:aJ):Prop:=bq 21 K [1,1,2,1] 155 [0,5,6,8] [.a,.a,.a,.i 0] F
abbrev sF(K:KF)(F:aJ):Prop:=bq 21 K [0,0,1,2,1] 155 [0,5,6,8] [.a,.a,.a,.i 0] F
abbrev JF(K:KF)(F:aJ):Prop:=bq 21 K [1,1,1,2,1] 155 [0,5,6,8] [.a,.a,.a,.i 0] F
abbrev Ev(K:KF)(F:aJ):Prop:=bq 21 K [1,1,1,3,1] 155 [0,5,6,9] [.a,.a,.a,.i 0] F
abbrev Ew(K:KF)(F:aB):Prop:=bq 21 K [1,1,1,4,1] 155 [0,5,6,8,9] [.a,.a,.a,.i 0,.i 0] F
abbrev Ex(K:KF)(F:aJ):Prop:=bq 21 K [1,1,1,1,5,1] 155 [0,5,6,9] [.a,.a,.a,.i 0] F
abbrev Ey(K:KF)(F:aJ):Prop:=bq 21 K [1,0,1,0,1,1,2,1] 155 [0,5,6,8] [.a,.a,.a,.i 0] F
abbrev Ez(K:KF)(F:aB):Prop:=bq 21 K [1,1,1,1,1,1,2,1] 155 [0,5,6,8,9] [.a,.a,.a,.i 0,.i 0] F
abbrev py(K:KF)(F:aJ):Prop:=bq 21 K [0,0,0,1,0,1,1,2,1] 155 [0,5,6,8] [.a,.a,.a,.i 0] F
abbrev EA(K:KF)(F:aJ):Prop:=bq 21 K [1,1,1,1,1,1,1,0,1] 155 [0,5,6,8] [.a,.a,.a,.i 0] F
abbrev pz(K:KF)(F:aJ):Prop:=bq 21 K [0,0,1,1,1,1,1,1,0,1] 155 [0,5,6,8] [.a,.a,.a,.i 0] F
abbrev pA(K:KF)(F:aB):Prop:=bq 21 K [0,1,0,1,1,1,1,1,2,1] 155 [0,5,6,8,9] [.a,.a,.a,.i 0,.i 0] F
abbrev EB(K:KF)(F:aJ):Prop:=bq 21 K [1,1,1,1,1,1,1,1,0,1] 155 [0,5,6,8] [.a,.a,.a,.i 0] F
abbrev EC(K:KF)(F:aJ):Prop:=bq 21 K [1,1,1,1,1,1,1,1,2,1] 155 [0,5,6,8] [.a,.a,.a,.i 0] F
abbrev ED(K:KF)(F:aJ):Prop:=bq 21 K [1,0,1,0,1,1,1,1,1,1,1,0,1] 155 [0,5,6,8] [.a,.a,.a,.i 0] F
abbrev EE(K:KF)(F:aB):Prop:=bq 21 K [1,0,1,1,1,1,1,1,1,1,1,2,1] 155 [0,5,6,8,9] [.a,.a,.a,.i 0,.i 0] F
abbrev EF(K:KF)(F:aB):Prop:=bq 21 K [1,1,0,0,1,1,1,1,1,1,1,2,1] 155 [0,5,6,8,9] [.a,.a,.a,.i 0,.i 0] F
abbrev EG(K:KF)(F:aB):Prop:=bq 21 K [1,1,1,1,1,1,1,1,1,1,1,0,1] 155 [0,5,6,8,9] [.a,.a,.a,.i 0,.i 0] F
abbrev pB(K:KF)(F:aJ):Prop:=bq 21 K [0,0,0,1,0,1,1,1,1,1,1,1,0,1] 155 [0,5,6,8] [.a,.a,.a,.i 0] F
abbrev pC(K:KF)(F:aB):Prop:=bq 21 K [0,1,0,1,1,1,1,1,1,1,1,1,1,0,1] 155 [0,5,6,8,9] [.a,.a,.a,.i 0,.i 0] F
abbrev EH(K:KF)(F:aJ):Prop:=bq 21 K [1,1,1,1,1,1,1,1,1,1,1,1,1,0,1] 155 [0,5,6,8] [.a,.a,.a,.i 0] F
abbrev EI(K:KF)(F:aB):Prop:=bq 21 K [1,0,1,1,1,1,1,1,1,1,1,1,1,1,1,1,0,1] 155 [0,5,6,8,9] [.a,.a,.a,.i 0,.i 0] F
abbrev EJ(K:KF)(F:aB):Prop:=bq 21 K [1,1,0,0,1,1,1,1,1,1,1,1,1,1,1,1,0,1] 155 [0,5,6,8,9] [.a,.a,.a,.i 0,.i 0] F
def rC(R:aO)(K:KF)(x1:aJ)(a0 a5 a6:AV)(a8:Int)(H:AH):Prop:=x1 a0 a5 a6 a8 H
theorem QH{R:aO}(hR:bV R){K:KF}{x1:aJ}(h1:eo K x1):Ey K (rC R K x1):=λa0 a5 a6 a8 H h=>pk hR (cc h1 .nil) h
def uY(R:aO)(K:KF)(i1:aJ):aJ:=rC R K i1
theorem QI{R:aO}(hR:bV R){K:KF}{i1:aJ}(g1:eo K i1):Ey K (uY R K i1):=QH hR g1
def rD(R:aO)(K:KF)(x15 kD:aJ)(a0 a5 a6:AV)(a8:Int)(H:AH):Prop:=sLen a0 λv1=>cI 0 v1 λz2=>bI (cE a8 z2) (gB a0 (.int 0 a8) λv3=>cI 1 v3 λz4=>bI (!(bX z4 (.ofNat 10))) (bg 0 (Int.add a8 (.ofNat 1)) λz5=>x15 a0 a5 a6 z5 H) (kD a0 a5 a6 a8 H)) (kD a0 a5 a6 a8 H)
theorem QJ{R:aO}(hR:bV R){K:KF}{x15 kD:aJ}(h15:py K x15)(h13:Ey K kD):py K (rD R K x15 kD):=λa0 a5 a6 a8 H h=>pk hR (cc h15 (cc h13 .nil)) h
def Ng(R:aO)(K:KF)(i1 i15:aJ):aJ:=rD R K i15 (uY R K i1)
theorem QK{R:aO}(hR:bV R){K:KF}{i1 i15:aJ}(g1:eo K i1)(g15:py K i15):py K (Ng R K i1 i15):=QJ hR g15 (QI hR g1)
def kf(R:aO)(K:KF)(i1:aJ)(n:Nat):aJ:=Nat.rec (motive:=λ_=>aJ) (λ_ _ _ _ _=>False) (λ_ i=>Ng R K i1 i) n
theorem QL{R:aO}(hR:bV R){K:KF}{i1:aJ}(g1:eo K i1)(n:Nat):py K (kf R K i1 n):=Nat.rec (motive:=λn=>py K (kf R K i1 n)) (λa0 a5 a6 a8 H h=>h.elim) (λn ih=>QK hR g1 ih) n
def ow(R:aO)(K:KF)(a8:Int)(H:AH):Prop:=K (.ret (.bD [.ab,(.int 0 (.ofNat 14)),(.int 0 a8)])) H
theorem WQ{R:aO}(hR:bV R){K:KF}:sE K (ow R K):=λa8 H h=>pk hR .nil h
def uZ(R:aO)(K:KF):Ti:=ow R K
theorem qj{R:aO}(hR:bV R){K:KF}:sE K (uZ R K):=WQ hR
def qk(R:aO)(K:KF)(x1:aJ)(a0 a5 a6:AV)(a9:Int)(H:AH):Prop:=aQ 4 a6 H λv1=>onVal v1 λl2=>hH l2 4 (bY (aP H) 1 4 (spl l2 [(.int 0 (.ofNat 0)),(.str 0 0),(.int 0 (.ofNat 0)),(.int 0 (.ofNat 0))] 0) λv3 H4=>ef 4 40 a5 v3 H4 λv5 H6=>x1 a0 v5 a6 a9 H6)
theorem WR{R:aO}(hR:bV R){K:KF}{x1:aJ}(h1:eo K x1):uX K (qk R K x1):=λa0 a5 a6 a9 H h=>pk hR (cc h1 .nil) h
def xJ(R:aO)(K:KF)(i1:aJ):aJ:=qk R K i1
theorem tM{R:aO}(hR:bV R){K:KF}{i1:aJ}(g1:eo K i1):uX K (xJ R K i1):=WR hR g1
def u7(R:aO)(K:KF)(x5:Ti)(x6:aJ)(a0 a5 a6:AV)(a8 a9:Int)(H:AH):Prop:=bI (bX a9 a8) (x5 a8 H) (x6 a0 a5 a6 a9 H)
theorem QM{R:aO}(hR:bV R){K:KF}{x5:Ti}{x6:aJ}(h5:sE K x5)(h6:uX K x6):EE K (u7 R K x5 x6):=λa0 a5 a6 a8 a9 H h=>pk hR (cc h5 (cc h6 .nil)) h
def yT(R:aO)(K:KF)(i1:aJ):aB:=u7 R K (uZ R K) (xJ R K i1)
theorem QO{R:aO}(hR:bV R){K:KF}{i1:aJ}(g1:eo K i1):EE K (yT R K i1):=QM hR (qj hR) (tM hR g1)
def va(R:aO)(K:KF)(x24:aB)(a0 a5 a6:AV)(a8:Int)(H:AH):Prop:=eT a0 (some (.int 0 a8)) none λv1=>R.2.2.2.2.1 v1 H λo2 H3=>cR K o2 H3 λv4=>aL 0 a6 λv5=>ag 1 v5 (.int 0 (.ofNat 5)) H3 λH6=>aL 1 a6 λv7=>ag 1 v7 v4 H6 λH8=>aL 1 a6 λv9=>aC v9 H8 λv10=>sLen v10 λv11=>cI 0 v11 λz12=>bg 0 (Int.add a8 z12) λz13=>x24 a0 a5 a6 a8 z13 H8
theorem QP{R:aO}(hR:bV R){K:KF}{x24:aB}(Jf:EE K x24):EC K (va R K x24):=λa0 a5 a6 a8 H h=>pk hR (cc Jf .nil) h
def rE(R:aO)(K:KF)(i1:aJ):aJ:=va R K (yT R K i1)
theorem QQ{R:aO}(hR:bV R){K:KF}{i1:aJ}(g1:eo K i1):EC K (rE R K i1):=QP hR (QO hR g1)
def vc(R:aO)(K:KF)(x5:Ti)(x6:aJ)(a0 a5 a6:AV)(a8 a9:Int)(H:AH):Prop:=aL 1 a6 λv1=>aC v1 H λv2=>sLen v2 λv3=>cI 0 v3 λz4=>bI (cE (.ofNat 32) z4) (x5 a8 H) (x6 a0 a5 a6 a9 H)
theorem QR{R:aO}(hR:bV R){K:KF}{x5:Ti}{x6:aJ}(h5:sE K x5)(h6:uX K x6):Ew K (vc R K x5 x6):=λa0 a5 a6 a8 a9 H h=>pk hR (cc h5 (cc h6 .nil)) h
def Nh(R:aO)(K:KF)(i1:aJ):aB:=vc R K (uZ R K) (xJ R K i1)
theorem QS{R:aO}(hR:bV R){K:KF}{i1:aJ}(g1:eo K i1):Ew K (Nh R K i1):=QR hR (qj hR) (tM hR g1)
def Cf(R:aO)(K:KF)(x11:aB)(a0 a5 a6:AV)(a8 a9:Int)(H:AH):Prop:=aL 0 a6 λv1=>ag 1 v1 (.int 0 (.ofNat 2)) H λH2=>aL 1 a6 λv3=>aC v3 H2 λv4=>R.2.2.2.2.2.1 v4 H2 λo5 H6=>cR K o5 H6 λv7=>bO v7 λz8=>bI z8 (aL 0 a6 λv9=>ag 1 v9 (.int 0 (.ofNat 1)) H6 λbM=>x11 a0 a5 a6 a8 a9 bM) (x11 a0 a5 a6 a8 a9 H6)
theorem WS{R:aO}(hR:bV R){K:KF}{x11:aB}(h11:Ew K x11):Cd K (Cf R K x11):=λa0 a5 a6 a8 a9 H h=>pk hR (cc h11 .nil) h
def xK(R:aO)(K:KF)(i1:aJ):aB:=Cf R K (Nh R K i1)
theorem FU{R:aO}(hR:bV R){K:KF}{i1:aJ}(g1:eo K i1):Cd K (xK R K i1):=WS hR (QS hR g1)
def vd(R:aO)(K:KF)(x1:aJ)(a0 a5 a6:AV)(a9:Int)(H:AH):Prop:=aQ 4 a6 H λv1=>onVal v1 λl2=>hH l2 4 (bY (aP H) 1 4 (spl l2 [(.int 0 (.ofNat 0)),(.str 0 0),(.int 0 (.ofNat 0)),(.int 0 (.ofNat 0))] 0) λv3 H4=>ef 4 40 a5 v3 H4 λv5 H6=>x1 a0 v5 a6 a9 H6)
theorem QT{R:aO}(hR:bV R){K:KF}{x1:aJ}(h1:eo K x1):Ex K (vd R K x1):=λa0 a5 a6 a9 H h=>pk hR (cc h1 .nil) h
def Ni(R:aO)(K:KF)(i1:aJ):aJ:=vd R K i1
theorem QU{R:aO}(hR:bV R){K:KF}{i1:aJ}(g1:eo K i1):Ex K (Ni R K i1):=QT hR g1
def Cg(R:aO)(K:KF)(x12:aJ)(x5:Ti)(a0 a5 a6:AV)(a8:Int)(H:AH):Prop:=aL 0 a6 λv1=>ag 1 v1 (.int 0 (.ofNat 4)) H λH2=>eT a0 (some (.int 0 a8)) none λv3=>R.2.2.2.2.2.2.2 v3 H2 λo4 H5=>cR K o4 H5 λv6=>dX v6 λl7=>cP l7 0 λv8=>dX v6 λl9=>cP l9 1 λv10=>cI 0 v10 λz11=>aL 1 a6 λv12=>ag 1 v12 v8 H5 λfk=>bI (bX z11 (.ofNat 0)) (x5 a8 fk) (bg 0 (Int.add z11 a8) λqe=>x12 a0 a5 a6 qe fk)
theorem WT{R:aO}(hR:bV R){K:KF}{x12:aJ}{x5:Ti}(h12:Ex K x12)(h5:sE K x5):Ce K (Cg R K x12 x5):=λa0 a5 a6 a8 H h=>pk hR (cc h12 (cc h5 .nil)) h
def ve(R:aO)(K:KF)(i1:aJ):aJ:=Cg R K (Ni R K i1) (uZ R K)
theorem FV{R:aO}(hR:bV R){K:KF}{i1:aJ}(g1:eo K i1):Ce K (ve R K i1):=WT hR (QU hR g1) (qj hR)
def vg(R:aO)(K:KF)(x20:aJ)(x3:aB)(x4:aJ)(a0 a5 a6:AV)(a8 a9:Int)(H:AH):Prop:=bI (cE a8 a9) (x3 a0 a5 a6 a8 a9 H) (gB a0 (.int 0 a8) λv1=>cI 1 v1 λz2=>bI (bX z2 (.ofNat 34)) (x4 a0 a5 a6 a8 H) (gB a0 (.int 0 a8) λv3=>cI 1 v3 λz4=>bI (bX z4 (.ofNat 39)) (x4 a0 a5 a6 a8 H) (x20 a0 a5 a6 a8 H)))
theorem QV{R:aO}(hR:bV R){K:KF}{x20:aJ}{x3:aB}{x4:aJ}(h20:EC K x20)(h3:Cd K x3)(h4:Ce K x4):EF K (vg R K x20 x3 x4):=λa0 a5 a6 a8 a9 H h=>pk hR (cc h20 (cc h3 (cc h4 .nil))) h
def rF(R:aO)(K:KF)(i1:aJ):aB:=vg R K (rE R K i1) (xK R K i1) (ve R K i1)
theorem QW{R:aO}(hR:bV R){K:KF}{i1:aJ}(g1:eo K i1):EF K (rF R K i1):=QV hR (QQ hR g1) (FU hR g1) (FV hR g1)
def yU(R:aO)(K:KF)(x6:aJ)(a0 a5 a6:AV)(a9:Int)(H:AH):Prop:=aL 1 a6 λv1=>ag 1 v1 (.str 0 0) H λH2=>x6 a0 a5 a6 a9 H2
theorem QX{R:aO}(hR:bV R){K:KF}{x6:aJ}(h6:uX K x6):Ev K (yU R K x6):=λa0 a5 a6 a9 H h=>pk hR (cc h6 .nil) h
def Nj(R:aO)(K:KF)(i1:aJ):aJ:=yU R K (xJ R K i1)
theorem QY{R:aO}(hR:bV R){K:KF}{i1:aJ}(g1:eo K i1):Ev K (Nj R K i1):=QX hR (tM hR g1)
def Ch(R:aO)(K:KF)(x10:aJ)(x5:Ti)(a0 a5 a6:AV)(a8 a9:Int)(H:AH):Prop:=aL 0 a6 λv1=>ag 1 v1 (.int 0 (.ofNat 3)) H λH2=>aL 1 a6 λv3=>aC v3 H2 λv4=>R.2.2.2.2.2.2.1 v4 (.ofNat 10) (.ofNat 64) H2 λo5 H6=>cR K o5 H6 λv7=>dX v7 λl8=>cP l8 0 λv9=>cI 0 v9 λz10=>dX v7 λMC=>cP MC 1 λv12=>aL 2 a6 λv13=>ag 1 v13 (.int 0 z10) H6 λdL=>s4 false v12 λv15=>bO v15 λlO=>bI lO (x5 a8 dL) (aL 1 a6 λv17=>aC v17 dL λv18=>R.1 v18 (.ofNat 95) dL λIN jj=>cR K IN jj λv21=>cI 0 v21 λz22=>bI (!(cE z22 (.ofNat 0))) (x5 a8 jj) (x10 a0 a5 a6 a9 jj))
theorem WU{R:aO}(hR:bV R){K:KF}{x10:aJ}{x5:Ti}(h10:Ev K x10)(h5:sE K x5):Cc K (Ch R K x10 x5):=λa0 a5 a6 a8 a9 H h=>pk hR (cc h10 (cc h5 .nil)) h
def xL(R:aO)(K:KF)(i1:aJ):aB:=Ch R K (Nj R K i1) (uZ R K)
theorem FW{R:aO}(hR:bV R){K:KF}{i1:aJ}(g1:eo K i1):Cc K (xL R K i1):=WU hR (QY hR g1) (qj hR)
def vh(R:aO)(K:KF)(x25 x2:aB)(a0 a5 a6:AV)(a8 a9:Int)(H:AH):Prop:=eT a0 (some (.int 0 a8)) (some (.int 0 a9)) λv1=>aL 1 a6 λv2=>ag 1 v2 v1 H λH3=>bI (cE a8 a9) (gB a0 (.int 0 a8) λv4=>cI 1 v4 λz5=>R.2.2.2.1 z5 H3 λo6 H7=>cR K o6 H7 λv8=>bO v8 λz9=>bI z9 (x2 a0 a5 a6 a8 a9 H7) (x25 a0 a5 a6 a8 a9 H7)) (x25 a0 a5 a6 a8 a9 H3)
theorem QZ{R:aO}(hR:bV R){K:KF}{x25 x2:aB}(h25:EF K x25)(h2:Cc K x2):Ez K (vh R K x25 x2):=λa0 a5 a6 a8 a9 H h=>pk hR (cc h25 (cc h2 .nil)) h
def nK(R:aO)(K:KF)(i1:aJ):aB:=vh R K (rF R K i1) (xL R K i1)
theorem Q0{R:aO}(hR:bV R){K:KF}{i1:aJ}(g1:eo K i1):Ez K (nK R K i1):=QZ hR (QW hR g1) (FW hR g1)
def rG(R:aO)(K:KF)(x18 x14:aB)(a0 a5 a6:AV)(a8 a9:Int)(H:AH):Prop:=sLen a0 λv1=>cI 0 v1 λz2=>bI (cE a9 z2) (gB a0 (.int 0 a9) λv3=>cI 1 v3 λz4=>R.2.2.1 z4 H λo5 H6=>cR K o5 H6 λv7=>bO v7 λz8=>bI z8 (bg 0 (Int.add a9 (.ofNat 1)) λz9=>x18 a0 a5 a6 a8 z9 H6) (x14 a0 a5 a6 a8 a9 H6)) (x14 a0 a5 a6 a8 a9 H)
theorem Q1{R:aO}(hR:bV R){K:KF}{x18 x14:aB}(h18:pA K x18)(WV:Ez K x14):pA K (rG R K x18 x14):=λa0 a5 a6 a8 a9 H h=>pk hR (cc h18 (cc WV .nil)) h
def Nk(R:aO)(K:KF)(i1:aJ)(i18:aB):aB:=rG R K i18 (nK R K i1)
theorem Q2{R:aO}(hR:bV R){K:KF}{i1:aJ}{i18:aB}(g1:eo K i1)(g18:pA K i18):pA K (Nk R K i1 i18):=Q1 hR g18 (Q0 hR g1)
def jP(R:aO)(K:KF)(i1:aJ)(n:Nat):aB:=Nat.rec (motive:=λ_=>aB) (λ_ _ _ _ _ _=>False) (λ_ i=>Nk R K i1 i) n
theorem Q3{R:aO}(hR:bV R){K:KF}{i1:aJ}(g1:eo K i1)(n:Nat):pA K (jP R K i1 n):=Nat.rec (motive:=λn=>pA K (jP R K i1 n)) (λa0 a5 a6 a8 a9 H h=>h.elim) (λn ih=>Q2 hR g1 ih) n
def ox(R:aO)(K:KF)(x18:aB)(a0 a5 a6:AV)(a8:Int)(H:AH):Prop:=ag 4 a6 (.agg [(.int 0 (.ofNat 0)),(.str 0 0),(.int 0 (.ofNat 0)),(.int 0 a8)]) H λH1=>sLen a0 λv2=>cI 0 v2 λz3=>bI (bX a8 z3) (aQ 4 a6 H1 λv4=>onVal v4 λl5=>hH l5 4 (bY (aP H1) 1 4 (spl l5 [(.int 0 (.ofNat 0)),(.str 0 0),(.int 0 (.ofNat 0)),(.int 0 (.ofNat 0))] 0) λv6 H7=>ef 4 40 a5 v6 H7 λv8 H9=>K (.ret (.bD [v8,(.int 0 (.ofNat 0)),(.int 0 (.ofNat 0))])) H9)) (x18 a0 a5 a6 a8 a8 H1)
theorem WW{R:aO}(hR:bV R){K:KF}{x18:aB}(h18:pA K x18):JF K (ox R K x18):=λa0 a5 a6 a8 H h=>pk hR (cc h18 .nil) h
def Ci(R:aO)(K:KF)(i1:aJ):aJ:=ox R K (jP R K i1 NL)
theorem WX{R:aO}(hR:bV R){K:KF}{i1:aJ}(g1:eo K i1):JF K (Ci R K i1):=WW hR (Q3 hR g1 NL)
def mV(R:aO)(K:KF)(x15 x9:aJ)(a0 a5 a6:AV)(a8:Int)(H:AH):Prop:=eT a0 (some (.int 0 a8)) none λv1=>R.2.1 v1 (.str 2 11565) H λo2 H3=>cR K o2 H3 λv4=>bO v4 λz5=>bI z5 (x15 a0 a5 a6 a8 H3) (x9 a0 a5 a6 a8 H3)
theorem WY{R:aO}(hR:bV R){K:KF}{x15 x9:aJ}(h15:py K x15)(h9:JF K x9):JE K (mV R K x15 x9):=λa0 a5 a6 a8 H h=>pk hR (cc h15 (cc h9 .nil)) h
def xM(R:aO)(K:KF)(i1:aJ):aJ:=mV R K (kf R K i1 NL) (Ci R K i1)
theorem WZ{R:aO}(hR:bV R){K:KF}{i1:aJ}(g1:eo K i1):JE K (xM R K i1):=WY hR (QL hR g1 NL) (WX hR g1)
def ln(R:aO)(K:KF)(x8 x7:aJ)(a0 a5 a6:AV)(a8:Int)(H:AH):Prop:=sLen a0 λv1=>cI 0 v1 λz2=>bI (cE a8 z2) (gB a0 (.int 0 a8) λv3=>cI 1 v3 λz4=>R.1 (.str 4 218761504) z4 H λo5 H6=>cR K o5 H6 λv7=>cI 0 v7 λz8=>bI (!(cE z8 (.ofNat 0))) (bg 0 (Int.add a8 (.ofNat 1)) λz9=>x8 a0 a5 a6 z9 H6) (x7 a0 a5 a6 a8 H6)) (x7 a0 a5 a6 a8 H)
theorem W0{R:aO}(hR:bV R){K:KF}{x8 x7:aJ}(h8:sF K x8)(h7:JE K x7):sF K (ln R K x8 x7):=λa0 a5 a6 a8 H h=>pk hR (cc h8 (cc h7 .nil)) h
def W1(R:aO)(K:KF)(i1 i8:aJ):aJ:=ln R K i8 (xM R K i1)
theorem W2{R:aO}(hR:bV R){K:KF}{i1 i8:aJ}(g1:eo K i1)(g8:sF K i8):sF K (W1 R K i1 i8):=W0 hR g8 (WZ hR g1)
def iH(R:aO)(K:KF)(i1:aJ)(n:Nat):aJ:=Nat.rec (motive:=λ_=>aJ) (λ_ _ _ _ _=>False) (λ_ i=>W1 R K i1 i) n
theorem W3{R:aO}(hR:bV R){K:KF}{i1:aJ}(g1:eo K i1)(n:Nat):sF K (iH R K i1 n):=Nat.rec (motive:=λn=>sF K (iH R K i1 n)) (λa0 a5 a6 a8 H h=>h.elim) (λn ih=>W2 hR g1 ih) n
def Cj(R:aO)(K:KF)(x8:aJ)(a0 a5 a6:AV)(a8:Int)(H:AH):Prop:=x8 a0 a5 a6 a8 H
theorem W4{R:aO}(hR:bV R){K:KF}{x8:aJ}(h8:sF K x8):eo K (Cj R K x8):=λa0 a5 a6 a8 H h=>pk hR (cc h8 .nil) h
def W5(R:aO)(K:KF)(i1:aJ):aJ:=Cj R K (iH R K i1 NL)
theorem W6{R:aO}(hR:bV R){K:KF}{i1:aJ}(g1:eo K i1):eo K (W5 R K i1):=W4 hR (W3 hR g1 NL)
def eV(R:aO)(K:KF)(n:Nat):aJ:=Nat.rec (motive:=λ_=>aJ) (λ_ _ _ _ _=>False) (λ_ i=>W5 R K i) n
theorem ql{R:aO}(hR:bV R){K:KF}(n:Nat):eo K (eV R K n):=Nat.rec (motive:=λn=>eo K (eV R K n)) (λa0 a5 a6 a8 H h=>h.elim) (λn ih=>W6 hR ih) n
def EK(R:aO)(K:KF)(x1:aJ)(a0 a5 a6:AV)(a8:Int)(H:AH):Prop:=x1 a0 a5 a6 a8 H
theorem Q4{R:aO}(hR:bV R){K:KF}{x1:aJ}(h1:eo K x1):ED K (EK R K x1):=λa0 a5 a6 a8 H h=>pk hR (cc h1 .nil) h
def vi(R:aO)(K:KF):aJ:=EK R K (eV R K NL)
theorem Q5{R:aO}(hR:bV R){K:KF}:ED K (vi R K):=Q4 hR (ql hR NL)
def yV(R:aO)(K:KF)(x27 x23:aJ)(a0 a5 a6:AV)(a8:Int)(H:AH):Prop:=sLen a0 λv1=>cI 0 v1 λz2=>bI (cE a8 z2) (gB a0 (.int 0 a8) λv3=>cI 1 v3 λz4=>bI (!(bX z4 (.ofNat 10))) (bg 0 (Int.add a8 (.ofNat 1)) λz5=>x27 a0 a5 a6 z5 H) (x23 a0 a5 a6 a8 H)) (x23 a0 a5 a6 a8 H)
theorem Q6{R:aO}(hR:bV R){K:KF}{x27 x23:aJ}(h27:pB K x27)(h23:ED K x23):pB K (yV R K x27 x23):=λa0 a5 a6 a8 H h=>pk hR (cc h27 (cc h23 .nil)) h
def Nl(R:aO)(K:KF)(i27:aJ):aJ:=yV R K i27 (vi R K)
theorem Q8{R:aO}(hR:bV R){K:KF}{i27:aJ}(g27:pB K i27):pB K (Nl R K i27):=Q6 hR g27 (Q5 hR)
def rH(R:aO)(K:KF)(n:Nat):aJ:=Nat.rec (motive:=λ_=>aJ) (λ_ _ _ _ _=>False) (λ_ i=>Nl R K i) n
theorem Q9{R:aO}(hR:bV R){K:KF}(n:Nat):pB K (rH R K n):=Nat.rec (motive:=λn=>pB K (rH R K n)) (λa0 a5 a6 a8 H h=>h.elim) (λn ih=>Q8 hR ih) n
def EL(R:aO)(K:KF)(x5:Ti)(x6:aJ)(a0 a5 a6:AV)(a8 a9:Int)(H:AH):Prop:=bI (bX a9 a8) (x5 a8 H) (x6 a0 a5 a6 a9 H)
theorem Ra{R:aO}(hR:bV R){K:KF}{x5:Ti}{x6:aJ}(h5:sE K x5)(h6:uX K x6):EI K (EL R K x5 x6):=λa0 a5 a6 a8 a9 H h=>pk hR (cc h5 (cc h6 .nil)) h
def yW(R:aO)(K:KF):aB:=EL R K (uZ R K) (xJ R K (eV R K NL))
theorem Rb{R:aO}(hR:bV R){K:KF}:EI K (yW R K):=Ra hR (qj hR) (tM hR (ql hR NL))
def EM(R:aO)(K:KF)(x32:aB)(a0 a5 a6:AV)(a8:Int)(H:AH):Prop:=eT a0 (some (.int 0 a8)) none λv1=>R.2.2.2.2.1 v1 H λo2 H3=>cR K o2 H3 λv4=>aL 0 a6 λv5=>ag 1 v5 (.int 0 (.ofNat 5)) H3 λH6=>aL 1 a6 λv7=>ag 1 v7 v4 H6 λH8=>aL 1 a6 λv9=>aC v9 H8 λv10=>sLen v10 λv11=>cI 0 v11 λz12=>bg 0 (Int.add a8 z12) λz13=>x32 a0 a5 a6 a8 z13 H8
theorem Rc{R:aO}(hR:bV R){K:KF}{x32:aB}(h32:EI K x32):EH K (EM R K x32):=λa0 a5 a6 a8 H h=>pk hR (cc h32 .nil) h
def yX(R:aO)(K:KF):aJ:=EM R K (yW R K)
theorem Rd{R:aO}(hR:bV R){K:KF}:EH K (yX R K):=Rc hR (Rb hR)
def EN(R:aO)(K:KF)(x30:aJ)(x3:aB)(x4:aJ)(a0 a5 a6:AV)(a8 a9:Int)(H:AH):Prop:=bI (cE a8 a9) (x3 a0 a5 a6 a8 a9 H) (gB a0 (.int 0 a8) λv1=>cI 1 v1 λz2=>bI (bX z2 (.ofNat 34)) (x4 a0 a5 a6 a8 H) (gB a0 (.int 0 a8) λv3=>cI 1 v3 λz4=>bI (bX z4 (.ofNat 39)) (x4 a0 a5 a6 a8 H) (x30 a0 a5 a6 a8 H)))
theorem Re{R:aO}(hR:bV R){K:KF}{x30:aJ}{x3:aB}{x4:aJ}(h30:EH K x30)(h3:Cd K x3)(h4:Ce K x4):EJ K (EN R K x30 x3 x4):=λa0 a5 a6 a8 a9 H h=>pk hR (cc h30 (cc h3 (cc h4 .nil))) h
def yY(R:aO)(K:KF):aB:=EN R K (yX R K) (xK R K (eV R K NL)) (ve R K (eV R K NL))
theorem Rf{R:aO}(hR:bV R){K:KF}:EJ K (yY R K):=Re hR (Rd hR) (FU hR (ql hR NL)) (FV hR (ql hR NL))
def EP(R:aO)(K:KF)(W7 x2:aB)(a0 a5 a6:AV)(a8 a9:Int)(H:AH):Prop:=eT a0 (some (.int 0 a8)) (some (.int 0 a9)) λv1=>aL 1 a6 λv2=>ag 1 v2 v1 H λH3=>bI (cE a8 a9) (gB a0 (.int 0 a8) λv4=>cI 1 v4 λz5=>R.2.2.2.1 z5 H3 λo6 H7=>cR K o6 H7 λv8=>bO v8 λz9=>bI z9 (x2 a0 a5 a6 a8 a9 H7) (W7 a0 a5 a6 a8 a9 H7)) (W7 a0 a5 a6 a8 a9 H3)
theorem Rg{R:aO}(hR:bV R){K:KF}{W7 x2:aB}(h33:EJ K W7)(h2:Cc K x2):EG K (EP R K W7 x2):=λa0 a5 a6 a8 a9 H h=>pk hR (cc h33 (cc h2 .nil)) h
def vj(R:aO)(K:KF):aB:=EP R K (yY R K) (xL R K (eV R K NL))
theorem Rh{R:aO}(hR:bV R){K:KF}:EG K (vj R K):=Rg hR (Rf hR) (FW hR (ql hR NL))
def yZ(R:aO)(K:KF)(x29 W8:aB)(a0 a5 a6:AV)(a8 a9:Int)(H:AH):Prop:=sLen a0 λv1=>cI 0 v1 λz2=>bI (cE a9 z2) (gB a0 (.int 0 a9) λv3=>cI 1 v3 λz4=>R.2.2.1 z4 H λo5 H6=>cR K o5 H6 λv7=>bO v7 λz8=>bI z8 (bg 0 (Int.add a9 (.ofNat 1)) λz9=>x29 a0 a5 a6 a8 z9 H6) (W8 a0 a5 a6 a8 a9 H6)) (W8 a0 a5 a6 a8 a9 H)
theorem Ri{R:aO}(hR:bV R){K:KF}{x29 W8:aB}(h29:pC K x29)(h26:EG K W8):pC K (yZ R K x29 W8):=λa0 a5 a6 a8 a9 H h=>pk hR (cc h29 (cc h26 .nil)) h
def Nn(R:aO)(K:KF)(i29:aB):aB:=yZ R K i29 (vj R K)
theorem Rj{R:aO}(hR:bV R){K:KF}{i29:aB}(g29:pC K i29):pC K (Nn R K i29):=Ri hR g29 (Rh hR)
def rI(R:aO)(K:KF)(n:Nat):aB:=Nat.rec (motive:=λ_=>aB) (λ_ _ _ _ _ _=>False) (λ_ i=>Nn R K i) n
theorem Rk{R:aO}(hR:bV R){K:KF}(n:Nat):pC K (rI R K n):=Nat.rec (motive:=λn=>pC K (rI R K n)) (λa0 a5 a6 a8 a9 H h=>h.elim) (λn ih=>Rj hR ih) n
def ES(R:aO)(K:KF)(x29:aB)(a0 a5 a6:AV)(a8:Int)(H:AH):Prop:=ag 4 a6 (.agg [(.int 0 (.ofNat 0)),(.str 0 0),(.int 0 (.ofNat 0)),(.int 0 a8)]) H λH1=>sLen a0 λv2=>cI 0 v2 λz3=>bI (bX a8 z3) (aQ 4 a6 H1 λv4=>onVal v4 λl5=>hH l5 4 (bY (aP H1) 1 4 (spl l5 [(.int 0 (.ofNat 0)),(.str 0 0),(.int 0 (.ofNat 0)),(.int 0 (.ofNat 0))] 0) λv6 H7=>ef 4 40 a5 v6 H7 λv8 H9=>K (.ret (.bD [v8,(.int 0 (.ofNat 0)),(.int 0 (.ofNat 0))])) H9)) (x29 a0 a5 a6 a8 a8 H1)
theorem Rl{R:aO}(hR:bV R){K:KF}{x29:aB}(h29:pC K x29):EB K (ES R K x29):=λa0 a5 a6 a8 H h=>pk hR (cc h29 .nil) h
def y0(R:aO)(K:KF):aJ:=ES R K (rI R K NL)
theorem Rm{R:aO}(hR:bV R){K:KF}:EB K (y0 R K):=Rl hR (Rk hR NL)
def EU(R:aO)(K:KF)(x27 x19:aJ)(a0 a5 a6:AV)(a8:Int)(H:AH):Prop:=eT a0 (some (.int 0 a8)) none λv1=>R.2.1 v1 (.str 2 11565) H λo2 H3=>cR K o2 H3 λv4=>bO v4 λz5=>bI z5 (x27 a0 a5 a6 a8 H3) (x19 a0 a5 a6 a8 H3)
theorem Rn{R:aO}(hR:bV R){K:KF}{x27 x19:aJ}(h27:pB K x27)(h19:EB K x19):EA K (EU R K x27 x19):=λa0 a5 a6 a8 H h=>pk hR (cc h27 (cc h19 .nil)) h
def vk(R:aO)(K:KF):aJ:=EU R K (rH R K NL) (y0 R K)
theorem Ro{R:aO}(hR:bV R){K:KF}:EA K (vk R K):=Rn hR (Q9 hR NL) (Rm hR)
def y7(R:aO)(K:KF)(x17 x16:aJ)(a0 a5 a6:AV)(a8:Int)(H:AH):Prop:=sLen a0 λv1=>cI 0 v1 λz2=>bI (cE a8 z2) (gB a0 (.int 0 a8) λv3=>cI 1 v3 λz4=>R.1 (.str 4 218761504) z4 H λo5 H6=>cR K o5 H6 λv7=>cI 0 v7 λz8=>bI (!(cE z8 (.ofNat 0))) (bg 0 (Int.add a8 (.ofNat 1)) λz9=>x17 a0 a5 a6 z9 H6) (x16 a0 a5 a6 a8 H6)) (x16 a0 a5 a6 a8 H)
theorem Rq{R:aO}(hR:bV R){K:KF}{x17 x16:aJ}(h17:pz K x17)(h16:EA K x16):pz K (y7 R K x17 x16):=λa0 a5 a6 a8 H h=>pk hR (cc h17 (cc h16 .nil)) h
def No(R:aO)(K:KF)(i17:aJ):aJ:=y7 R K i17 (vk R K)
theorem Rr{R:aO}(hR:bV R){K:KF}{i17:aJ}(g17:pz K i17):pz K (No R K i17):=Rq hR g17 (Ro hR)
def pD(R:aO)(K:KF)(n:Nat):aJ:=Nat.rec (motive:=λ_=>aJ) (λ_ _ _ _ _=>False) (λ_ i=>No R K i) n
theorem Rs{R:aO}(hR:bV R){K:KF}(n:Nat):pz K (pD R K n):=Nat.rec (motive:=λn=>pz K (pD R K n)) (λa0 a5 a6 a8 H h=>h.elim) (λn ih=>Rr hR ih) n
def Ck(R:aO)(K:KF)(x17:aJ)(a0:AV)(H:AH):Prop:=sLen a0 λv1=>cI 0 v1 λz2=>bI (cE (.ofNat 16384) z2) (K (.ret (.bD [.ab,(.int 0 (.ofNat 8)),(.int 0 (.ofNat 0))])) H) (cD H (fV (aP H) [(.int 0 (.ofNat 0)),(.str 0 0),(.int 0 (.ofNat 0)),(.int 0 (.ofNat 0))] λv3 H4=>x17 a0 .ab v3 (.ofNat 0) H4))
theorem W9{R:aO}(hR:bV R){K:KF}{x17:aJ}(h17:pz K x17)(a0:AV)(H:AH)(h:Ck R K x17 a0 H):dD 21 K [] (bz (dt 21) [a0]) [] H:=pk hR (cc h17 .nil) h
def agf(R:aO)(K:KF):Ta:=Ck R K (pD R K NL)
def abV(R:aO):AV→AH→KF→Prop:=λa0 H K=>agf R K a0 H
theorem adO(R:aO)(hR:bV R):az gP 21 (ao [.a] (abV R)):=rk λK a0 H h=>W9 hR (Rs hR NL) a0 H h
abbrev Rt:Type:=AV→Bool→Int→AH→Prop
abbrev tN:Type:=AV→Int→Bool→AV→AH→Prop
abbrev dw:Type:=AV→Int→Int→Bool→AV→AH→Prop
abbrev y9:Type:=AV→Int→Int→Bool→AV→Int→AH→Prop
abbrev bP:Type:=Int→Bool→AV→Int→Int→Bool→Int→AV→Int→Int→AH→Prop
abbrev dB:Type:=Int→Bool→AV→Int→Int→Bool→Int→Int→AV→Int→Int→AH→Prop
abbrev qm:Type:=Unit
def adP(R:qm):List (Nat×cW):=[]
abbrev Xa(R:qm):Prop:=ad gP (adP R)
def Np(R:qm)(K:KF)(a0:Int)(H:AH):Prop:=bw (j0 1 a0) λu1=>bw (j0 1 (.ofNat 32)) λu2=>bg 1 (.ofNat (Nat.lor u1 u2)) λz3=>K (.ret (.int 1 z3)) H
theorem Ru{R:qm}(hR:Xa R){K:KF}(a0:Int)(H:AH)(h:Np R K a0 H):dD 158 K [] (bz (dt 158) [(.int 1 a0)]) [] H:=pk hR .nil h
def adQ(R:qm)(K:KF):Ti:=Np R K
def Xb(R:qm):Int→AH→KF→Prop:=λa0 H K=>adQ R K a0 H
theorem aaF(R:qm)(hR:Xa R):az gP 158 (ao [.i 1] (Xb R)):=rk λK a0 H h=>Ru hR a0 H h
def Nq:qm:=()
def f158:Int→AH→KF→Prop:=Xb Nq
theorem adR:az gP 158 (ao [.i 1] f158):=aaF Nq ad.nil
abbrev aY:Type:=(Int→AH→KF→Prop)×(AV→AH→KF→Prop)
def adS(R:aY):List (Nat×cW):=[(158,ao [.i 1] R.1),(159,ao [.a] R.2)]
abbrev da(R:aY):Prop:=ad gP (adS R)
abbrev nL(K:KF)(F:dw):Prop:=bq 124 K [1,1,1,1,1] 172 [0,1,2,8,9] [.a,.i 0,.i 0,.b,.a] F
abbrev EV(K:KF)(F:dw):Prop:=bq 124 K [1,1,1,1,1,1] 172 [0,1,2,8,9] [.a,.i 0,.i 0,.b,.a] F
abbrev EW(K:KF)(F:dw):Prop:=bq 124 K [1,1,0,0,1,1,1,1] 172 [0,1,2,8,9] [.a,.i 0,.i 0,.b,.a] F
abbrev EX(K:KF)(F:y9):Prop:=bq 124 K [1,1,1,1,1,1,1,1] 172 [0,1,2,8,9,10] [.a,.i 0,.i 0,.b,.a,.i 3] F
abbrev EY(K:KF)(F:Rt):Prop:=bq 124 K [1,1,1,1,1,1,1,1,1,1,1,1] 172 [9,12,13] [.a,.b,.i 3] F
abbrev jQ(K:KF)(F:bP):Prop:=bq 124 K [0,1,0,1,1,1,1,1,1,1,1,1,1,1] 172 [1,8,9,10,11,12,13,99,100,101] [.i 0,.b,.a,.i 3,.i 3,.b,.i 3,.a,.i 0,.i 0] F
abbrev EZ(K:KF)(F:tN):Prop:=bq 124 K [1,1,0,0,1,1,0,1,1,1,0,0,1,1,1,1] 172 [0,2,8,9] [.a,.i 0,.b,.a] F
abbrev E0(K:KF)(F:dw):Prop:=bq 124 K [1,0,1,0,0,1,1,0,1,1,1,0,0,1,1,1,1] 172 [0,1,2,8,9] [.a,.i 0,.i 0,.b,.a] F
abbrev zd(K:KF)(F:bP):Prop:=bq 124 K [1,1,1,0,0,1,0,1,1,1,1,1,1,1,1,1,1,1] 172 [1,8,9,10,11,12,13,99,100,101] [.i 0,.b,.a,.i 3,.i 3,.b,.i 3,.a,.i 0,.i 0] F
abbrev zZ(K:KF)(F:tN):Prop:=bq 124 K [1,1,1,1,0,0,1,1,0,1,1,1,0,0,1,1,1,1] 172 [0,2,8,9] [.a,.i 0,.b,.a] F
abbrev Aa(K:KF)(F:dw):Prop:=bq 124 K [1,0,1,1,1,0,0,1,1,0,1,1,1,0,0,1,1,1,1] 172 [0,1,2,8,9] [.a,.i 0,.i 0,.b,.a] F
abbrev Ab(K:KF)(F:dw):Prop:=bq 124 K [1,0,1,1,1,1,1,0,0,1,1,0,1,1,1,0,0,1,1,1,1] 172 [0,1,2,8,9] [.a,.i 0,.i 0,.b,.a] F
abbrev Ac(K:KF)(F:dw):Prop:=bq 124 K [1,1,1,1,1,1,1,0,0,1,1,0,1,1,1,0,0,1,1,1,1] 172 [0,1,2,8,9] [.a,.i 0,.i 0,.b,.a] F
abbrev wh(K:KF)(F:dB):Prop:=bq 124 K [1,1,1,0,0,1,1,0,0,1,0,1,1,1,1,1,1,1,1,1,1,1] 172 [1,8,9,10,11,12,13,16,99,100,101] [.i 0,.b,.a,.i 3,.i 3,.b,.i 3,.i 1,.a,.i 0,.i 0] F
abbrev Ad(K:KF)(F:dB):Prop:=bq 124 K [1,1,0,0,1,1,0,0,1,1,0,0,1,0,1,1,1,1,1,1,1,1,1,1,1] 172 [1,8,9,10,11,12,13,15,99,100,101] [.i 0,.b,.a,.i 3,.i 3,.b,.i 3,.i 1,.a,.i 0,.i 0] F
abbrev Ae(K:KF)(F:dB):Prop:=bq 124 K [1,1,1,1,0,0,1,1,0,0,1,1,0,0,1,0,1,1,1,1,1,1,1,1,1,1,1] 172 [1,8,9,10,11,12,13,15,99,100,101] [.i 0,.b,.a,.i 3,.i 3,.b,.i 3,.i 1,.a,.i 0,.i 0] F
abbrev Af(K:KF)(F:bP):Prop:=bq 124 K [1,1,1,1,1,1,1,1,0,0,1,1,0,0,1,0,1,1,1,1,1,1,1,1,1,1,1] 172 [1,8,9,10,11,12,17,99,100,101] [.i 0,.b,.a,.i 3,.i 3,.b,.i 3,.a,.i 0,.i 0] F
abbrev Ag(K:KF)(F:dB):Prop:=bq 124 K [0,1,1,1,1,1,0,0,1,1,0,0,1,1,0,0,1,0,1,1,1,1,1,1,1,1,1,1,1] 172 [1,8,9,10,11,12,13,15,99,100,101] [.i 0,.b,.a,.i 3,.i 3,.b,.i 3,.i 1,.a,.i 0,.i 0] F
def Nr(R:aY)(K:KF)(x6:bP)(a1:Int)(a8:Bool)(a9:AV)(a10 a11:Int)(a12:Bool)(jm:Int)(kU:AV)(jn iS:Int)(H:AH):Prop:=bg 0 (Int.add iS (.ofNat 1)) λz1=>x6 a1 a8 a9 a10 a11 a12 jm kU jn z1 H
theorem Rv{R:aY}(hR:da R){K:KF}{x6:bP}(h6:jQ K x6):zd K (Nr R K x6):=λa1 a8 a9 a10 a11 a12 jm kU jn iS H h=>pk hR (cc h6 .nil) h
def E1(R:aY)(K:KF)(i6:bP):bP:=Nr R K i6
theorem Cl{R:aY}(hR:da R){K:KF}{i6:bP}(g6:jQ K i6):zd K (E1 R K i6):=Rv hR g6
def JG(R:aY)(K:KF)(x9:bP)(a1:Int)(a8:Bool)(a9:AV)(a10 a11:Int)(a12:Bool)(a17:Int)(kU:AV)(jn iS:Int)(H:AH):Prop:=x9 a1 a8 a9 a10 a11 a12 a17 kU jn iS H
theorem Lk{R:aY}(hR:da R){K:KF}{x9:bP}(h9:zd K x9):Af K (JG R K x9):=λa1 a8 a9 a10 a11 a12 a17 kU jn iS H h=>pk hR (cc h9 .nil) h
def JH(R:aY)(K:KF)(i6:bP):bP:=JG R K (E1 R K i6)
theorem Ll{R:aY}(hR:da R){K:KF}{i6:bP}(g6:jQ K i6):Af K (JH R K i6):=Lk hR (Cl hR g6)
def JI(R:aY)(K:KF)(x17:bP)(a1:Int)(a8:Bool)(a9:AV)(a10 a11:Int)(a12:Bool)(jm a16:Int)(kU:AV)(jn iS:Int)(H:AH):Prop:=bg 1 a1 λz1=>bI (!(cE a16 z1)) (K (.ret (.bD [(.int 3 (.ofNat 0)),(.iface 171 (.int 0 (.ofNat 2)))])) H) (bI (!(cE jm a10)) (K (.ret (.bD [(.int 3 a11),(.iface 171 (.int 0 (.ofNat 1)))])) H) (bg 3 a1 λz2=>bg 3 (Int.mul jm z2) λz3=>bg 3 a16 λz4=>bg 3 (Int.add z3 z4) λz5=>bI (cE z5 z3) (K (.ret (.bD [(.int 3 a11),(.iface 171 (.int 0 (.ofNat 1)))])) H) (bI (cE a11 z5) (K (.ret (.bD [(.int 3 a11),(.iface 171 (.int 0 (.ofNat 1)))])) H) (x17 a1 a8 a9 a10 a11 a12 z5 kU jn iS H))))
theorem Lm{R:aY}(hR:da R){K:KF}{x17:bP}(h17:Af K x17):wh K (JI R K x17):=λa1 a8 a9 a10 a11 a12 jm a16 kU jn iS H h=>pk hR (cc h17 .nil) h
def Ah(R:aY)(K:KF)(i6:bP):dB:=JI R K (JH R K i6)
theorem zy{R:aY}(hR:da R){K:KF}{i6:bP}(g6:jQ K i6):wh K (Ah R K i6):=Lm hR (Ll hR g6)
def JJ(R:aY)(K:KF)(x14:dB)(a1:Int)(a8:Bool)(a9:AV)(a10 a11:Int)(a12:Bool)(jm gf:Int)(kU:AV)(jn iS:Int)(H:AH):Prop:=R.1 gf H λo1 H2=>cR K o1 H2 λv3=>cI 1 v3 λz4=>bg 1 (Int.sub z4 (.ofNat 97)) λz5=>bg 1 (Int.add z5 (.ofNat 10)) λz6=>x14 a1 a8 a9 a10 a11 a12 jm z6 kU jn iS H2
theorem Ln{R:aY}(hR:da R){K:KF}{x14:dB}(WV:wh K x14):Ag K (JJ R K x14):=λa1 a8 a9 a10 a11 a12 jm gf kU jn iS H h=>pk hR (cc WV .nil) h
def JK(R:aY)(K:KF)(i6:bP):dB:=JJ R K (Ah R K i6)
theorem Lo{R:aY}(hR:da R){K:KF}{i6:bP}(g6:jQ K i6):Ag K (JK R K i6):=Ln hR (zy hR g6)
def JL(R:aY)(K:KF)(x18:dB)(a1:Int)(a8:Bool)(a9:AV)(a10 a11:Int)(a12:Bool)(jm gf:Int)(kU:AV)(jn iS:Int)(H:AH):Prop:=R.1 gf H λo1 H2=>cR K o1 H2 λv3=>cI 1 v3 λz4=>bI (!(cE z4 (.ofNat 97))) (R.1 gf H2 λo5 H6=>cR K o5 H6 λv7=>cI 1 v7 λz8=>bI (!(cE (.ofNat 122) z8)) (x18 a1 a8 a9 a10 a11 a12 jm gf kU jn iS H6) (K (.ret (.bD [(.int 3 (.ofNat 0)),(.iface 171 (.int 0 (.ofNat 2)))])) H6)) (K (.ret (.bD [(.int 3 (.ofNat 0)),(.iface 171 (.int 0 (.ofNat 2)))])) H2)
theorem Lp{R:aY}(hR:da R){K:KF}{x18:dB}(h18:Ag K x18):Ae K (JL R K x18):=λa1 a8 a9 a10 a11 a12 jm gf kU jn iS H h=>pk hR (cc h18 .nil) h
def JM(R:aY)(K:KF)(i6:bP):dB:=JL R K (JK R K i6)
theorem Lq{R:aY}(hR:da R){K:KF}{i6:bP}(g6:jQ K i6):Ae K (JM R K i6):=Lp hR (Lo hR g6)
def JN(R:aY)(K:KF)(x14 x16:dB)(a1:Int)(a8:Bool)(a9:AV)(a10 a11:Int)(a12:Bool)(jm gf:Int)(kU:AV)(jn iS:Int)(H:AH):Prop:=bI (!(cE gf (.ofNat 48))) (bI (!(cE (.ofNat 57) gf)) (bg 1 (Int.sub gf (.ofNat 48)) λz1=>x14 a1 a8 a9 a10 a11 a12 jm z1 kU jn iS H) (x16 a1 a8 a9 a10 a11 a12 jm gf kU jn iS H)) (x16 a1 a8 a9 a10 a11 a12 jm gf kU jn iS H)
theorem Lr{R:aY}(hR:da R){K:KF}{x14 x16:dB}(WV:wh K x14)(h16:Ae K x16):Ad K (JN R K x14 x16):=λa1 a8 a9 a10 a11 a12 jm gf kU jn iS H h=>pk hR (cc WV (cc h16 .nil)) h
def JO(R:aY)(K:KF)(i6:bP):dB:=JN R K (Ah R K i6) (JM R K i6)
theorem Ls{R:aY}(hR:da R){K:KF}{i6:bP}(g6:jQ K i6):Ad K (JO R K i6):=Lr hR (zy hR g6) (Lq hR g6)
def Ns(R:aY)(K:KF)(a9:AV)(a12:Bool)(jm:Int)(H:AH):Prop:=bI a12 (R.2 a9 H λo1 H2=>cR K o1 H2 λv3=>bO v3 λz4=>bI (!z4) (K (.ret (.bD [(.int 3 (.ofNat 0)),(.iface 171 (.int 0 (.ofNat 2)))])) H2) (K (.ret (.bD [(.int 3 jm),.dZ])) H2)) (K (.ret (.bD [(.int 3 jm),.dZ])) H)
theorem Rx{R:aY}(hR:da R){K:KF}:EY K (Ns R K):=λa9 a12 jm H h=>pk hR .nil h
def Nt(R:aY)(K:KF):Rt:=Ns R K
theorem Ry{R:aY}(hR:da R){K:KF}:EY K (Nt R K):=Rx hR
def Nu(R:aY)(K:KF)(x15:dB)(x9:bP)(x5:Rt)(a1:Int)(a8:Bool)(a9:AV)(a10 a11:Int)(a12:Bool)(jm:Int)(kU:AV)(jn iS:Int)(H:AH):Prop:=bI (cE iS jn) (dj 1 kU (.int 0 iS) λv1=>aC v1 H λv2=>cI 1 v2 λz3=>bI (bX z3 (.ofNat 95)) (bI a8 (x9 a1 a8 a9 a10 a11 true jm kU jn iS H) (x15 a1 a8 a9 a10 a11 a12 jm z3 kU jn iS H)) (x15 a1 a8 a9 a10 a11 a12 jm z3 kU jn iS H)) (x5 a9 a12 jm H)
theorem Rz{R:aY}(hR:da R){K:KF}{x15:dB}{x9:bP}{x5:Rt}(h15:Ad K x15)(h9:zd K x9)(h5:EY K x5):jQ K (Nu R K x15 x9 x5):=λa1 a8 a9 a10 a11 a12 jm kU jn iS H h=>pk hR (cc h15 (cc h9 (cc h5 .nil))) h
def Nv(R:aY)(K:KF)(i6:bP):bP:=Nu R K (JO R K i6) (E1 R K i6) (Nt R K)
theorem RA{R:aY}(hR:da R){K:KF}{i6:bP}(g6:jQ K i6):jQ K (Nv R K i6):=Rz hR (Ls hR g6) (Cl hR g6) (Ry hR)
def E2(R:aY)(K:KF)(n:Nat):bP:=Nat.rec (motive:=λ_=>bP) (λ_ _ _ _ _ _ _ _ _ _ _=>False) (λ_ i=>Nv R K i) n
theorem RB{R:aY}(hR:da R){K:KF}(n:Nat):jQ K (E2 R K n):=Nat.rec (motive:=λn=>jQ K (E2 R K n)) (λa1 a8 a9 a10 a11 a12 jm kU jn iS H h=>h.elim) (λn ih=>RA hR ih) n
def Nw(R:aY)(K:KF)(x6:bP)(a0:AV)(a1 a2:Int)(a8:Bool)(a9:AV)(a10:Int)(H:AH):Prop:=bg 3 a2 λz1=>Zc 3 (.int 3 (.ofNat 1)) (.int 3 z1) λv2=>cI 3 v2 λz3=>bg 3 (Int.sub z3 (.ofNat 1)) λz4=>zM (aP H) a0 λv5 H6=>cN v5 λv7=>cI 0 v7 λz8=>x6 a1 a8 a9 a10 z4 false (.ofNat 0) v5 z8 (.ofNat 0) H6
theorem RC{R:aY}(hR:da R){K:KF}{x6:bP}(h6:jQ K x6):EX K (Nw R K x6):=λa0 a1 a2 a8 a9 a10 H h=>pk hR (cc h6 .nil) h
def Nx(R:aY)(K:KF):y9:=Nw R K (E2 R K NL)
theorem RD{R:aY}(hR:da R){K:KF}:EX K (Nx R K):=RC hR (RB hR NL)
def Ny(R:aY)(K:KF)(x4:y9)(a0:AV)(a1 a2:Int)(a8:Bool)(a9:AV)(H:AH):Prop:=bI (bX a1 (.ofNat 10)) (x4 a0 a1 a2 a8 a9 (.ofNat 1844674407370955162) H) (bI (bX a1 (.ofNat 16)) (x4 a0 a1 a2 a8 a9 (.ofNat 1152921504606846976) H) (bg 3 a1 λz1=>bI (bX z1 0) False (bg 3 (Int.tdiv (.ofNat 18446744073709551615) z1) λz2=>bg 3 (Int.add z2 (.ofNat 1)) λz3=>x4 a0 a1 a2 a8 a9 z3 H)))
theorem RG{R:aY}(hR:da R){K:KF}{x4:y9}(h4:EX K x4):EV K (Ny R K x4):=λa0 a1 a2 a8 a9 H h=>pk hR (cc h4 .nil) h
def Nz(R:aY)(K:KF):dw:=Ny R K (Nx R K)
theorem RH{R:aY}(hR:da R){K:KF}:EV K (Nz R K):=RG hR (RD hR)
def NA(R:aY)(K:KF)(x2:dw)(a0:AV)(a1 a2:Int)(a8:Bool)(a9:AV)(H:AH):Prop:=bI (bX a2 (.ofNat 0)) (x2 a0 a1 (.ofNat 64) a8 a9 H) (bI (cE a2 (.ofNat 0)) (K (.ret (.bD [(.int 3 (.ofNat 0)),(.iface 171 (.int 0 (.ofNat 4)))])) H) (bI (cE (.ofNat 64) a2) (K (.ret (.bD [(.int 3 (.ofNat 0)),(.iface 171 (.int 0 (.ofNat 4)))])) H) (x2 a0 a1 a2 a8 a9 H)))
theorem RI{R:aY}(hR:da R){K:KF}{x2:dw}(h2:EV K x2):nL K (NA R K x2):=λa0 a1 a2 a8 a9 H h=>pk hR (cc h2 .nil) h
def pE(R:aY)(K:KF):dw:=NA R K (Nz R K)
theorem mA{R:aY}(hR:da R){K:KF}:nL K (pE R K):=RI hR (RH hR)
def NB(R:aY)(K:KF)(x1:dw)(a0:AV)(a1 a2:Int)(a8:Bool)(a9:AV)(H:AH):Prop:=eT a0 (some (.int 0 (.ofNat 2))) none λv1=>x1 v1 a1 a2 a8 a9 H
theorem RJ{R:aY}(hR:da R){K:KF}{x1:dw}(h1:nL K x1):E0 K (NB R K x1):=λa0 a1 a2 a8 a9 H h=>pk hR (cc h1 .nil) h
def NC(R:aY)(K:KF):dw:=NB R K (pE R K)
theorem RK{R:aY}(hR:da R){K:KF}:E0 K (NC R K):=RJ hR (mA hR)
def JP(R:aY)(K:KF)(x1:dw)(a0:AV)(a1 a2:Int)(a8:Bool)(a9:AV)(H:AH):Prop:=eT a0 (some (.int 0 (.ofNat 2))) none λv1=>x1 v1 a1 a2 a8 a9 H
theorem Lt{R:aY}(hR:da R){K:KF}{x1:dw}(h1:nL K x1):Aa K (JP R K x1):=λa0 a1 a2 a8 a9 H h=>pk hR (cc h1 .nil) h
def JQ(R:aY)(K:KF):dw:=JP R K (pE R K)
theorem Lu{R:aY}(hR:da R){K:KF}:Aa K (JQ R K):=Lt hR (mA hR)
def JR(R:aY)(K:KF)(x1:dw)(a0:AV)(a1 a2:Int)(a8:Bool)(a9:AV)(H:AH):Prop:=eT a0 (some (.int 0 (.ofNat 2))) none λv1=>x1 v1 a1 a2 a8 a9 H
theorem Lv{R:aY}(hR:da R){K:KF}{x1:dw}(h1:nL K x1):Ab K (JR R K x1):=λa0 a1 a2 a8 a9 H h=>pk hR (cc h1 .nil) h
def JS(R:aY)(K:KF):dw:=JR R K (pE R K)
theorem Lw{R:aY}(hR:da R){K:KF}:Ab K (JS R K):=Lv hR (mA hR)
def JT(R:aY)(K:KF)(x1:dw)(a0:AV)(a1 a2:Int)(a8:Bool)(a9:AV)(H:AH):Prop:=eT a0 (some (.int 0 (.ofNat 1))) none λv1=>x1 v1 a1 a2 a8 a9 H
theorem Ly{R:aY}(hR:da R){K:KF}{x1:dw}(h1:nL K x1):Ac K (JT R K x1):=λa0 a1 a2 a8 a9 H h=>pk hR (cc h1 .nil) h
def JU(R:aY)(K:KF):dw:=JT R K (pE R K)
theorem Lz{R:aY}(hR:da R){K:KF}:Ac K (JU R K):=Ly hR (mA hR)
def JV(R:aY)(K:KF)(x12 kD:dw)(a0:AV)(a2:Int)(a8:Bool)(a9:AV)(H:AH):Prop:=sLen a0 λv1=>cI 0 v1 λz2=>bI (!(cE z2 (.ofNat 3))) (gB a0 (.int 0 (.ofNat 1)) λv3=>cI 1 v3 λz4=>R.1 z4 H λo5 H6=>cR K o5 H6 λv7=>cI 1 v7 λz8=>bI (bX z8 (.ofNat 120)) (x12 a0 (.ofNat 16) a2 a8 a9 H6) (kD a0 (.ofNat 8) a2 a8 a9 H6)) (kD a0 (.ofNat 8) a2 a8 a9 H)
theorem LA{R:aY}(hR:da R){K:KF}{x12 kD:dw}(h12:Ab K x12)(h13:Ac K kD):zZ K (JV R K x12 kD):=λa0 a2 a8 a9 H h=>pk hR (cc h12 (cc h13 .nil)) h
def JW(R:aY)(K:KF):tN:=JV R K (JS R K) (JU R K)
theorem LB{R:aY}(hR:da R){K:KF}:zZ K (JW R K):=LA hR (Lw hR) (Lz hR)
def ND(R:aY)(K:KF)(x11:dw)(x10:tN)(a0:AV)(a2:Int)(a8:Bool)(a9:AV)(H:AH):Prop:=sLen a0 λv1=>cI 0 v1 λz2=>bI (!(cE z2 (.ofNat 3))) (gB a0 (.int 0 (.ofNat 1)) λv3=>cI 1 v3 λz4=>R.1 z4 H λo5 H6=>cR K o5 H6 λv7=>cI 1 v7 λz8=>bI (bX z8 (.ofNat 111)) (x11 a0 (.ofNat 8) a2 a8 a9 H6) (x10 a0 a2 a8 a9 H6)) (x10 a0 a2 a8 a9 H)
theorem RL{R:aY}(hR:da R){K:KF}{x11:dw}{x10:tN}(h11:Aa K x11)(h10:zZ K x10):EZ K (ND R K x11 x10):=λa0 a2 a8 a9 H h=>pk hR (cc h11 (cc h10 .nil)) h
def NF(R:aY)(K:KF):tN:=ND R K (JQ R K) (JW R K)
theorem RM{R:aY}(hR:da R){K:KF}:EZ K (NF R K):=RL hR (Lu hR) (LB hR)
def NG(R:aY)(K:KF)(x8:dw)(x7:tN)(x1:dw)(a0:AV)(a1 a2:Int)(a8:Bool)(a9:AV)(H:AH):Prop:=bI (bX a1 (.ofNat 0)) (gB a0 (.int 0 (.ofNat 0)) λv1=>cI 1 v1 λz2=>bI (bX z2 (.ofNat 48)) (sLen a0 λv3=>cI 0 v3 λz4=>bI (!(cE z4 (.ofNat 3))) (gB a0 (.int 0 (.ofNat 1)) λv5=>cI 1 v5 λz6=>R.1 z6 H λo7 H8=>cR K o7 H8 λv9=>cI 1 v9 λz10=>bI (bX z10 (.ofNat 98)) (x8 a0 (.ofNat 2) a2 a8 a9 H8) (x7 a0 a2 a8 a9 H8)) (x7 a0 a2 a8 a9 H)) (x1 a0 (.ofNat 10) a2 a8 a9 H)) (K (.ret (.bD [(.int 3 (.ofNat 0)),(.iface 171 (.int 0 (.ofNat 3)))])) H)
theorem RN{R:aY}(hR:da R){K:KF}{x8:dw}{x7:tN}{x1:dw}(h8:E0 K x8)(h7:EZ K x7)(h1:nL K x1):EW K (NG R K x8 x7 x1):=λa0 a1 a2 a8 a9 H h=>pk hR (cc h8 (cc h7 (cc h1 .nil))) h
def NH(R:aY)(K:KF):dw:=NG R K (NC R K) (NF R K) (pE R K)
theorem RO{R:aY}(hR:da R){K:KF}:EW K (NH R K):=RN hR (RK hR) (RM hR) (mA hR)
def NI(R:aY)(K:KF)(x3 x1:dw)(a0:AV)(a1 a2:Int)(H:AH):Prop:=sW a0 (.str 0 0) λv1=>bO v1 λz2=>bI z2 (K (.ret (.bD [(.int 3 (.ofNat 0)),(.iface 171 (.int 0 (.ofNat 2)))])) H) (bI (!(cE a1 (.ofNat 2))) (bI (!(cE (.ofNat 36) a1)) (x1 a0 a1 a2 (bX a1 (.ofNat 0)) a0 H) (x3 a0 a1 a2 (bX a1 (.ofNat 0)) a0 H)) (x3 a0 a1 a2 (bX a1 (.ofNat 0)) a0 H))
theorem RP{R:aY}(hR:da R){K:KF}{x3 x1:dw}(h3:EW K x3)(h1:nL K x1)(a0:AV)(a1 a2:Int)(H:AH)(h:NI R K x3 x1 a0 a1 a2 H):dD 124 K [] (bz (dt 124) [a0,(.int 0 a1),(.int 0 a2)]) [] H:=pk hR (cc h3 (cc h1 .nil)) h
def adT(R:aY)(K:KF):DF:=NI R K (NH R K) (pE R K)
def Xc(R:aY):AV→Int→Int→AH→KF→Prop:=λa0 a1 a2 H K=>adT R K a0 a1 a2 H
theorem aaG(R:aY)(hR:da R):az gP 124 (ao [.a,.i 0,.i 0] (Xc R)):=rk λK a0 a1 a2 H h=>RP hR (RO hR) (mA hR) a0 a1 a2 H h
abbrev qn:Type:=(AV→AV→Int→Int→AV→AH→KF→Prop)×(AV→Int→Int→AH→KF→Prop)
def adU(R:qn):List (Nat×cW):=[(92,ao [.a,.a,.i 0,.i 0,.a] R.1),(124,ao [.a,.i 0,.i 0] R.2)]
abbrev Xd(R:qn):Prop:=ad gP (adU R)
def NJ(R:qn)(K:KF)(a0:AV)(a1 a2:Int)(H:AH):Prop:=R.2 a0 a1 a2 H λo1 H2=>cR K o1 H2 λv3=>dX v3 λl4=>cP l4 0 λv5=>cI 3 v5 λz6=>dX v3 λl7=>cP l7 1 λv8=>s4 false v8 λv9=>bO v9 λz10=>bI z10 (R.1 (.str 9 2147778296661251613008) a0 a1 a2 v8 H2 λpZ dA=>cR K pZ dA λv13=>K (.ret (.bD [(.int 3 z6),v13])) dA) (K (.ret (.bD [(.int 3 z6),.dZ])) H2)
theorem RQ{R:qn}(hR:Xd R){K:KF}(a0:AV)(a1 a2:Int)(H:AH)(h:NJ R K a0 a1 a2 H):dD 129 K [] (bz (dt 129) [a0,(.int 0 a1),(.int 0 a2)]) [] H:=pk hR .nil h
def adV(R:qn)(K:KF):DF:=NJ R K
def Xe(R:qn):AV→Int→Int→AH→KF→Prop:=λa0 a1 a2 H K=>adV R K a0 a1 a2 H
theorem aaH(R:qn)(hR:Xd R):az gP 129 (ao [.a,.i 0,.i 0] (Xe R)):=rk λK a0 a1 a2 H h=>RQ hR a0 a1 a2 H h
abbrev Ai:Type:=(AV→AH→KF→Prop)
def ahE(R:Ai):List (Nat×cW):=[(8,ao [.a] R)]
abbrev agh(R:Ai):Prop:=ad gP (ahE R)
def GB(R:Ai)(K:KF)(H:AH):Prop:=R (.str 16 67957635696521517601713190803061630322) H λo1 H2=>cR K o1 H2 λv3=>dX v3 λl4=>cP l4 0 λv5=>dX v3 λl6=>cP l6 1 λv7=>cI 0 v7 λz8=>dX v3 λl9=>cP l9 2 λv10=>cI 0 v10 λz11=>R (.str 1 120) H2 λUy fk=>cR K Uy fk λv14=>dX v14 λl15=>cP l15 0 λv16=>dX v14 λl17=>cP l17 1 λv18=>cI 0 v18 λmS=>dX v14 λTX=>cP TX 2 λv21=>cI 0 v21 λz22=>bI (bX z8 (.ofNat 0)) (bI (bX z11 (.ofNat 0)) (cN v5 λv23=>cI 0 v23 λz24=>bI (bX z24 (.ofNat 1)) (dj 5 v5 (.int 0 (.ofNat 0)) λv25=>aL 3 v25 λv26=>aC v26 fk λv27=>cN v27 λv28=>cI 0 v28 λz29=>bI (bX z29 (.ofNat 1)) (dj 5 v5 (.int 0 (.ofNat 0)) λv30=>aL 3 v30 λv31=>aC v31 fk λv32=>dj 7 v32 (.int 0 (.ofNat 0)) λv33=>aL 1 v33 λv34=>aC v34 fk λv35=>cI 0 v35 λz36=>bI (bX z36 (.ofNat 9)) (dj 5 v5 (.int 0 (.ofNat 0)) λv37=>aL 3 v37 λv38=>aC v38 fk λv39=>dj 7 v39 (.int 0 (.ofNat 0)) λv40=>aL 4 v40 λv41=>aC v41 fk λv42=>cI 0 v42 λz43=>bI (bX z43 (.ofNat 1)) (bI (bX mS (.ofNat 14)) (K (.ret (.bool (bX z22 (.ofNat 1)))) fk) (K (.ret (.bool false)) fk)) (K (.ret (.bool false)) fk)) (K (.ret (.bool false)) fk)) (K (.ret (.bool false)) fk)) (K (.ret (.bool false)) fk)) (K (.ret (.bool false)) fk)) (K (.ret (.bool false)) fk)
theorem aaI{R:Ai}(hR:agh R){K:KF}(H:AH)(h:GB R K H):dD 7 K [] (bz (dt 7) []) [] H:=pk hR .nil h
def ahF(R:Ai)(K:KF):T_:=GB R K
def agi(R:Ai):AH→KF→Prop:=fun  H K=>ahF R K  H
theorem agj(R:Ai)(hR:agh R):az gP 7 (ao [] (agi R)):=rk λK  H h=>aaI hR  H h
abbrev ze:Type:=AV→AV→AV→Int→AV→Int→AH→Prop
abbrev jY:Type:=Unit
def agk(R:jY):List (Nat×cW):=[]
abbrev wi(R:jY):Prop:=ad gP (agk R)
abbrev JX(K:KF)(F:T_):Prop:=bq 72 K [1,1,1] 26 [] [] F
abbrev sG(K:KF)(F:bZ):Prop:=bq 72 K [0,1,0,1,1] 26 [0,1,12,13] [.a,.a,.i 0,.i 0] F
def Cm(R:jY)(K:KF)(H:AH):Prop:=K (.ret (.bool true)) H
theorem Xf{R:jY}(hR:wi R){K:KF}:JX K (Cm R K):=λH h=>pk hR .nil h
def Xg(R:jY)(K:KF):T_:=Cm R K
theorem Xh{R:jY}(hR:wi R){K:KF}:JX K (Xg R K):=Xf hR
def Cn(R:jY)(K:KF)(x2:bZ)(x1:T_)(a0 a1:AV)(a12 jm:Int)(H:AH):Prop:=bI (cE jm a12) (dj 1 a0 (.int 0 jm) λv1=>aC v1 H λv2=>dj 1 a1 (.int 0 jm) λv3=>aC v3 H λv4=>LK v2 v4 λv5=>bO v5 λz6=>bI z6 (K (.ret (.bool false)) H) (bg 0 (Int.add jm (.ofNat 1)) λz7=>x2 a0 a1 a12 z7 H)) (x1 H)
theorem Xi{R:jY}(hR:wi R){K:KF}{x2:bZ}{x1:T_}(h2:sG K x2)(h1:JX K x1):sG K (Cn R K x2 x1):=λa0 a1 a12 jm H h=>pk hR (cc h2 (cc h1 .nil)) h
def Xj(R:jY)(K:KF)(i2:bZ):bZ:=Cn R K i2 (Xg R K)
theorem Xk{R:jY}(hR:wi R){K:KF}{i2:bZ}(g2:sG K i2):sG K (Xj R K i2):=Xi hR g2 (Xh hR)
def vm(R:jY)(K:KF)(n:Nat):bZ:=Nat.rec (motive:=λ_=>bZ) (λ_ _ _ _ _=>False) (λ_ i=>Xj R K i) n
theorem Xl{R:jY}(hR:wi R){K:KF}(n:Nat):sG K (vm R K n):=Nat.rec (motive:=λn=>sG K (vm R K n)) (λa0 a1 a12 jm H h=>h.elim) (λn ih=>Xk hR ih) n
def Co(R:jY)(K:KF)(x2:bZ)(a0 a1:AV)(H:AH):Prop:=cN a0 λv1=>cI 0 v1 λz2=>cN a1 λv3=>cI 0 v3 λz4=>bI (!(bX z2 z4)) (K (.ret (.bool false)) H) (cN a0 λv5=>cI 0 v5 λz6=>x2 a0 a1 z6 (.ofNat 0) H)
theorem Xm{R:jY}(hR:wi R){K:KF}{x2:bZ}(h2:sG K x2)(a0 a1:AV)(H:AH)(h:Co R K x2 a0 a1 H):dD 72 K [] (bz (dt 72) [a0,a1]) [] H:=pk hR (cc h2 .nil) h
def agl(R:jY)(K:KF):bA:=Co R K (vm R K NL)
def abW(R:jY):AV→AV→AH→KF→Prop:=λa0 a1 H K=>agl R K a0 a1 H
theorem adW(R:jY)(hR:wi R):az gP 72 (ao [.a,.a] (abW R)):=rk λK a0 a1 H h=>Xm hR (Xl hR NL) a0 a1 H h
def qo:jY:=()
def f72:AV→AV→AH→KF→Prop:=abW qo
theorem Xn:az gP 72 (ao [.a,.a] f72):=adW qo ad.nil
abbrev qO:Type:=(AV→AV→AV→AH→KF→Prop)
def agm(R:qO):List (Nat×cW):=[(31,ao [.a,.a,.a] R)]
abbrev abX(R:qO):Prop:=ad gP (agm R)
def Cp(R:qO)(K:KF)(a0 a1:AV)(H:AH):Prop:=R a0 a1 (.func 32 [] []) H λo1 H2=>cR K o1 H2 λv3=>bO v3 λz4=>K (.ret (.bool z4)) H2
theorem Xo{R:qO}(hR:abX R){K:KF}(a0 a1:AV)(H:AH)(h:Cp R K a0 a1 H):dD 11 K [] (bz (dt 11) [a0,a1]) [] H:=pk hR .nil h
def agn(R:qO)(K:KF):bA:=Cp R K
def GC(R:qO):AV→AV→AH→KF→Prop:=λa0 a1 H K=>agn R K a0 a1 H
theorem adX(R:qO)(hR:abX R):az gP 11 (ao [.a,.a] (GC R)):=rk λK a0 a1 H h=>Xo hR a0 a1 H h
abbrev gV:Type:=(AV→AV→AH→KF→Prop)
def Cq(R:gV):List (Nat×cW):=[(32,ao [.a,.a] R)]
abbrev qP(R:gV):Prop:=ad gP (Cq R)
abbrev JY(K:KF)(F:T_):Prop:=bq 31 K [1,1,1] 32 [] [] F
abbrev qp(K:KF)(F:aB):Prop:=bq 31 K [0,1,0,1,1] 32 [1,2,15,16,17] [.a,.a,.a,.i 0,.i 0] F
abbrev JZ(K:KF)(F:aB):Prop:=bq 31 K [1,1,1,0,0,1,0,1,1] 32 [1,2,15,16,17] [.a,.a,.a,.i 0,.i 0] F
def J0(R:gV)(K:KF)(H:AH):Prop:=K (.ret (.bool true)) H
theorem Xp{R:gV}(hR:qP R){K:KF}:JY K (J0 R K):=λH h=>pk hR .nil h
def Xq(R:gV)(K:KF):T_:=J0 R K
theorem Xr{R:gV}(hR:qP R){K:KF}:JY K (Xq R K):=Xp hR
def xN(R:gV)(K:KF)(x2:aB)(a1 a2 gf:AV)(a16 a17:Int)(H:AH):Prop:=bg 0 (Int.add a17 (.ofNat 1)) λz1=>x2 a1 a2 gf a16 z1 H
theorem Xs{R:gV}(hR:qP R){K:KF}{x2:aB}(h2:qp K x2):JZ K (xN R K x2):=λa1 a2 gf a16 a17 H h=>pk hR (cc h2 .nil) h
def Xt(R:gV)(K:KF)(i2:aB):aB:=xN R K i2
theorem Xu{R:gV}(hR:qP R){K:KF}{i2:aB}(g2:qp K i2):JZ K (Xt R K i2):=Xs hR g2
def Cr(R:gV)(K:KF)(x1:T_)(x3:aB)(a1 a2 gf:AV)(a16 a17:Int)(H:AH):Prop:=bI (cE a17 a16) (dj 5 gf (.int 0 a17) λv1=>aQ 5 v1 H λv2=>cD H (fV (aP H) [(.int 0 (.ofNat 0)),(.int 0 (.ofNat 0)),.ab,.ab,.ab] λv3 H4=>ag 5 v3 v2 H4 λH5=>dj 5 a1 (.int 0 a17) λv6=>aQ 5 v6 H5 λv7=>cD H5 (fV (aP H5) [(.int 0 (.ofNat 0)),(.int 0 (.ofNat 0)),.ab,.ab,.ab] λv8 H9=>ag 5 v8 v7 H9 λbM=>aQ 5 v3 bM λv11=>aQ 5 v8 bM λv12=>hY a2 λg16 x17 Xv=>bT (cY gP g16) (eO (Cq R) g16 (x17++([v11,v12]++Xv)) bM λkT dL=>cR K kT dL λv15=>bO v15 λmS=>bI (!mS) (K (.ret (.bool false)) dL) (x3 a1 a2 gf a16 a17 dL))))) (x1 H)
theorem Xw{R:gV}(hR:qP R){K:KF}{x1:T_}{x3:aB}(h1:JY K x1)(h3:JZ K x3):qp K (Cr R K x1 x3):=λa1 a2 gf a16 a17 H h=>pk hR (cc h1 (cc h3 .nil)) h
def Xx(R:gV)(K:KF)(i2:aB):aB:=Cr R K (Xq R K) (Xt R K i2)
theorem Xy{R:gV}(hR:qP R){K:KF}{i2:aB}(g2:qp K i2):qp K (Xx R K i2):=Xw hR (Xr hR) (Xu hR g2)
def sH(R:gV)(K:KF)(n:Nat):aB:=Nat.rec (motive:=λ_=>aB) (λ_ _ _ _ _ _=>False) (λ_ i=>Xx R K i) n
theorem Xz{R:gV}(hR:qP R){K:KF}(n:Nat):qp K (sH R K n):=Nat.rec (motive:=λn=>qp K (sH R K n)) (λa1 a2 gf a16 a17 H h=>h.elim) (λn ih=>Xy hR ih) n
def Cs(R:gV)(K:KF)(x2:aB)(a0 a1 a2:AV)(H:AH):Prop:=cN a0 λv1=>cI 0 v1 λz2=>cN a1 λv3=>cI 0 v3 λz4=>bI (!(bX z2 z4)) (K (.ret (.bool false)) H) (cN a0 λv5=>cI 0 v5 λz6=>x2 a1 a2 a0 z6 (.ofNat 0) H)
theorem XA{R:gV}(hR:qP R){K:KF}{x2:aB}(h2:qp K x2)(a0 a1 a2:AV)(H:AH)(h:Cs R K x2 a0 a1 a2 H):dD 31 K [] (bz (dt 31) [a0,a1,a2]) [] H:=pk hR (cc h2 .nil) h
def ago(R:gV)(K:KF):bN:=Cs R K (sH R K NL)
def GD(R:gV):AV→AV→AV→AH→KF→Prop:=λa0 a1 a2 H K=>ago R K a0 a1 a2 H
theorem adY(R:gV)(hR:qP R):az gP 31 (ao [.a,.a,.a] (GD R)):=rk λK a0 a1 a2 H h=>XA hR (Xz hR NL) a0 a1 a2 H h
abbrev qQ:Type:=(AV→AV→AH→KF→Prop)×(AV→AV→AV→AH→KF→Prop)×(AV→AV→AV→AH→KF→Prop)
def agp(R:qQ):List (Nat×cW):=[(72,ao [.a,.a] R.1),(73,ao [.a,.a,.a] R.2.1),(75,ao [.a,.a,.a] R.2.2)]
abbrev abY(R:qQ):Prop:=ad gP (agp R)
def Ct(R:qQ)(K:KF)(a0 a1:AV)(H:AH):Prop:=ng (aP H) a0 λv1 H2=>ng (aP H2) a1 λv3 H4=>aL 0 v1 λv5=>aC v5 H4 λv6=>cI 0 v6 λz7=>aL 0 v3 λv8=>aC v8 H4 λv9=>cI 0 v9 λz10=>bI (bX z7 z10) (aL 1 v1 λv11=>aC v11 H4 λv12=>cI 0 v12 λz13=>aL 1 v3 λv14=>aC v14 H4 λv15=>cI 0 v15 λlO=>bI (bX z13 lO) (aL 2 v1 λv17=>aC v17 H4 λv18=>aL 2 v3 λv19=>aC v19 H4 λv20=>R.1 v18 v20 H4 λuR iC=>cR K uR iC λv23=>bO v23 λz24=>bI z24 (aL 3 v1 λv25=>aC v25 iC λv26=>aL 3 v3 λv27=>aC v27 iC λv28=>R.2.1 v26 v28 (.func 74 [] []) iC λo29 FR=>cR K o29 FR λv31=>bO v31 λz32=>bI z32 (aL 4 v1 λv33=>aC v33 FR λv34=>aL 4 v3 λv35=>aC v35 FR λv36=>R.2.2 v34 v36 (.func 11 [] []) FR λMA nG=>cR K MA nG λv39=>bO v39 λz40=>K (.ret (.bool z40)) nG) (K (.ret (.bool false)) FR)) (K (.ret (.bool false)) iC)) (K (.ret (.bool false)) H4)) (K (.ret (.bool false)) H4)
theorem XB{R:qQ}(hR:abY R){K:KF}(a0 a1:AV)(H:AH)(h:Ct R K a0 a1 H):dD 32 K [] (bz (dt 32) [a0,a1]) [] H:=pk hR .nil h
def agq(R:qQ)(K:KF):bA:=Ct R K
def GF(R:qQ):AV→AV→AH→KF→Prop:=λa0 a1 H K=>agq R K a0 a1 H
theorem adZ(R:qQ)(hR:abY R):az gP 32 (ao [.a,.a] (GF R)):=rk λK a0 a1 H h=>XB hR a0 a1 H h
abbrev gX:Type:=(AV→AV→AH→KF→Prop)
def Cu(R:gX):List (Nat×cW):=[(74,ao [.a,.a] R)]
abbrev qR(R:gX):Prop:=ad gP (Cu R)
abbrev J1(K:KF)(F:T_):Prop:=bq 73 K [1,1,1] 32 [] [] F
abbrev qq(K:KF)(F:aB):Prop:=bq 73 K [0,1,0,1,1] 32 [1,2,15,16,17] [.a,.a,.a,.i 0,.i 0] F
abbrev J2(K:KF)(F:aB):Prop:=bq 73 K [1,1,1,0,0,1,0,1,1] 32 [1,2,15,16,17] [.a,.a,.a,.i 0,.i 0] F
def J3(R:gX)(K:KF)(H:AH):Prop:=K (.ret (.bool true)) H
theorem XC{R:gX}(hR:qR R){K:KF}:J1 K (J3 R K):=λH h=>pk hR .nil h
def XD(R:gX)(K:KF):T_:=J3 R K
theorem XE{R:gX}(hR:qR R){K:KF}:J1 K (XD R K):=XC hR
def xO(R:gX)(K:KF)(x2:aB)(a1 a2 gf:AV)(a16 a17:Int)(H:AH):Prop:=bg 0 (Int.add a17 (.ofNat 1)) λz1=>x2 a1 a2 gf a16 z1 H
theorem XF{R:gX}(hR:qR R){K:KF}{x2:aB}(h2:qq K x2):J2 K (xO R K x2):=λa1 a2 gf a16 a17 H h=>pk hR (cc h2 .nil) h
def XG(R:gX)(K:KF)(i2:aB):aB:=xO R K i2
theorem XH{R:gX}(hR:qR R){K:KF}{i2:aB}(g2:qq K i2):J2 K (XG R K i2):=XF hR g2
def Cv(R:gX)(K:KF)(x1:T_)(x3:aB)(a1 a2 gf:AV)(a16 a17:Int)(H:AH):Prop:=bI (cE a17 a16) (dj 7 gf (.int 0 a17) λv1=>aQ 7 v1 H λv2=>cD H (dd gP (aP H) 49 λv3 H4=>ag 7 v3 v2 H4 λH5=>dj 7 a1 (.int 0 a17) λv6=>aQ 7 v6 H5 λv7=>cD H5 (dd gP (aP H5) 49 λv8 H9=>ag 7 v8 v7 H9 λbM=>aQ 7 v3 bM λv11=>aQ 7 v8 bM λv12=>hY a2 λg16 x17 Xv=>bT (cY gP g16) (eO (Cu R) g16 (x17++([v11,v12]++Xv)) bM λkT dL=>cR K kT dL λv15=>bO v15 λmS=>bI (!mS) (K (.ret (.bool false)) dL) (x3 a1 a2 gf a16 a17 dL))))) (x1 H)
theorem XI{R:gX}(hR:qR R){K:KF}{x1:T_}{x3:aB}(h1:J1 K x1)(h3:J2 K x3):qq K (Cv R K x1 x3):=λa1 a2 gf a16 a17 H h=>pk hR (cc h1 (cc h3 .nil)) h
def XJ(R:gX)(K:KF)(i2:aB):aB:=Cv R K (XD R K) (XG R K i2)
theorem XK{R:gX}(hR:qR R){K:KF}{i2:aB}(g2:qq K i2):qq K (XJ R K i2):=XI hR (XE hR) (XH hR g2)
def sI(R:gX)(K:KF)(n:Nat):aB:=Nat.rec (motive:=λ_=>aB) (λ_ _ _ _ _ _=>False) (λ_ i=>XJ R K i) n
theorem XL{R:gX}(hR:qR R){K:KF}(n:Nat):qq K (sI R K n):=Nat.rec (motive:=λn=>qq K (sI R K n)) (λa1 a2 gf a16 a17 H h=>h.elim) (λn ih=>XK hR ih) n
def Cw(R:gX)(K:KF)(x2:aB)(a0 a1 a2:AV)(H:AH):Prop:=cN a0 λv1=>cI 0 v1 λz2=>cN a1 λv3=>cI 0 v3 λz4=>bI (!(bX z2 z4)) (K (.ret (.bool false)) H) (cN a0 λv5=>cI 0 v5 λz6=>x2 a1 a2 a0 z6 (.ofNat 0) H)
theorem XM{R:gX}(hR:qR R){K:KF}{x2:aB}(h2:qq K x2)(a0 a1 a2:AV)(H:AH)(h:Cw R K x2 a0 a1 a2 H):dD 73 K [] (bz (dt 73) [a0,a1,a2]) [] H:=pk hR (cc h2 .nil) h
def agr(R:gX)(K:KF):bN:=Cw R K (sI R K NL)
def GG(R:gX):AV→AV→AV→AH→KF→Prop:=λa0 a1 a2 H K=>agr R K a0 a1 a2 H
theorem ad0(R:gX)(hR:qR R):az gP 73 (ao [.a,.a,.a] (GG R)):=rk λK a0 a1 a2 H h=>XM hR (XL hR NL) a0 a1 a2 H h
abbrev qS:Type:=(AV→AV→AV→AH→KF→Prop)×(AV→AV→AV→AH→KF→Prop)
def ags(R:qS):List (Nat×cW):=[(73,ao [.a,.a,.a] R.1),(108,ao [.a,.a,.a] R.2)]
abbrev abZ(R:qS):Prop:=ad gP (ags R)
def Cx(R:qS)(K:KF)(a0 a1:AV)(H:AH):Prop:=ng (aP H) a0 λv1 H2=>ng (aP H2) a1 λv3 H4=>aL 0 v1 λv5=>aC v5 H4 λv6=>cI 0 v6 λz7=>aL 0 v3 λv8=>aC v8 H4 λv9=>cI 0 v9 λz10=>bI (bX z7 z10) (aL 1 v1 λv11=>aC v11 H4 λv12=>cI 0 v12 λz13=>aL 1 v3 λv14=>aC v14 H4 λv15=>cI 0 v15 λlO=>bI (bX z13 lO) (aL 2 v1 λv17=>aC v17 H4 λv18=>cI 0 v18 λmS=>aL 2 v3 λv20=>aC v20 H4 λv21=>cI 0 v21 λz22=>bI (bX mS z22) (aL 3 v1 λv23=>aC v23 H4 λv24=>aL 3 v3 λv25=>aC v25 H4 λv26=>sW v24 v26 λv27=>bO v27 λz28=>bI z28 (aL 4 v1 λv29=>aC v29 H4 λv30=>cI 0 v30 λz31=>aL 4 v3 λv32=>aC v32 H4 λv33=>cI 0 v33 λz34=>bI (bX z31 z34) (aL 5 v1 λv35=>aC v35 H4 λv36=>aL 5 v3 λv37=>aC v37 H4 λv38=>R.1 v36 v38 (.func 74 [] []) H4 λo39 XN=>cR K o39 XN λv41=>bO v41 λz42=>bI z42 (aL 6 v1 λv43=>aC v43 XN λv44=>aL 6 v3 λv45=>aC v45 XN λv46=>R.2 v44 v46 (.func 109 [] []) XN λo47 tF=>cR K o47 tF λv49=>bO v49 λz50=>K (.ret (.bool z50)) tF) (K (.ret (.bool false)) XN)) (K (.ret (.bool false)) H4)) (K (.ret (.bool false)) H4)) (K (.ret (.bool false)) H4)) (K (.ret (.bool false)) H4)) (K (.ret (.bool false)) H4)
theorem XO{R:qS}(hR:abZ R){K:KF}(a0 a1:AV)(H:AH)(h:Cx R K a0 a1 H):dD 74 K [] (bz (dt 74) [a0,a1]) [] H:=pk hR .nil h
def agt(R:qS)(K:KF):bA:=Cx R K
def GH(R:qS):AV→AV→AH→KF→Prop:=λa0 a1 H K=>agt R K a0 a1 H
theorem ad1(R:qS)(hR:abZ R):az gP 74 (ao [.a,.a] (GH R)):=rk λK a0 a1 H h=>XO hR a0 a1 H h
abbrev jt:Type:=(AV→AV→AH→KF→Prop)
def Cy(R:jt):List (Nat×cW):=[(11,ao [.a,.a] R)]
abbrev wj(R:jt):Prop:=ad gP (Cy R)
abbrev J4(K:KF)(F:T_):Prop:=bq 75 K [1,1,1] 32 [] [] F
abbrev sJ(K:KF)(F:aB):Prop:=bq 75 K [0,1,0,1,1] 32 [1,2,15,16,17] [.a,.a,.a,.i 0,.i 0] F
def J5(R:jt)(K:KF)(H:AH):Prop:=K (.ret (.bool true)) H
theorem XP{R:jt}(hR:wj R){K:KF}:J4 K (J5 R K):=λH h=>pk hR .nil h
def XQ(R:jt)(K:KF):T_:=J5 R K
theorem XR{R:jt}(hR:wj R){K:KF}:J4 K (XQ R K):=XP hR
def Cz(R:jt)(K:KF)(x2:aB)(x1:T_)(a1 a2 gf:AV)(a16 a17:Int)(H:AH):Prop:=bI (cE a17 a16) (dj 1 gf (.int 0 a17) λv1=>aC v1 H λv2=>dj 1 a1 (.int 0 a17) λv3=>aC v3 H λv4=>hY a2 λg8 x9 y10=>bT (cY gP g8) (eO (Cy R) g8 (x9++([v2,v4]++y10)) H λo5 H6=>cR K o5 H6 λv7=>bO v7 λz11=>bI (!z11) (K (.ret (.bool false)) H6) (bg 0 (Int.add a17 (.ofNat 1)) λz12=>x2 a1 a2 gf a16 z12 H6))) (x1 H)
theorem XS{R:jt}(hR:wj R){K:KF}{x2:aB}{x1:T_}(h2:sJ K x2)(h1:J4 K x1):sJ K (Cz R K x2 x1):=λa1 a2 gf a16 a17 H h=>pk hR (cc h2 (cc h1 .nil)) h
def XT(R:jt)(K:KF)(i2:aB):aB:=Cz R K i2 (XQ R K)
theorem XU{R:jt}(hR:wj R){K:KF}{i2:aB}(g2:sJ K i2):sJ K (XT R K i2):=XS hR g2 (XR hR)
def vo(R:jt)(K:KF)(n:Nat):aB:=Nat.rec (motive:=λ_=>aB) (λ_ _ _ _ _ _=>False) (λ_ i=>XT R K i) n
theorem XV{R:jt}(hR:wj R){K:KF}(n:Nat):sJ K (vo R K n):=Nat.rec (motive:=λn=>sJ K (vo R K n)) (λa1 a2 gf a16 a17 H h=>h.elim) (λn ih=>XU hR ih) n
def CA(R:jt)(K:KF)(x2:aB)(a0 a1 a2:AV)(H:AH):Prop:=cN a0 λv1=>cI 0 v1 λz2=>cN a1 λv3=>cI 0 v3 λz4=>bI (!(bX z2 z4)) (K (.ret (.bool false)) H) (cN a0 λv5=>cI 0 v5 λz6=>x2 a1 a2 a0 z6 (.ofNat 0) H)
theorem XW{R:jt}(hR:wj R){K:KF}{x2:aB}(h2:sJ K x2)(a0 a1 a2:AV)(H:AH)(h:CA R K x2 a0 a1 a2 H):dD 75 K [] (bz (dt 75) [a0,a1,a2]) [] H:=pk hR (cc h2 .nil) h
def agu(R:jt)(K:KF):bN:=CA R K (vo R K NL)
def GI(R:jt):AV→AV→AV→AH→KF→Prop:=λa0 a1 a2 H K=>agu R K a0 a1 a2 H
theorem ad2(R:jt)(hR:wj R):az gP 75 (ao [.a,.a,.a] (GI R)):=rk λK a0 a1 a2 H h=>XW hR (XV hR NL) a0 a1 a2 H h
abbrev fL:Type:=(AV→AV→AH→KF→Prop)
def zf(R:fL):List (Nat×cW):=[(109,ao [.a,.a] R)]
abbrev oy(R:fL):Prop:=ad gP (zf R)
abbrev E3(K:KF)(F:T_):Prop:=bq 108 K [1,1,1] 32 [] [] F
abbrev nM(K:KF)(F:aB):Prop:=bq 108 K [0,1,0,1,1] 32 [1,2,15,16,17] [.a,.a,.a,.i 0,.i 0] F
abbrev E4(K:KF)(F:aB):Prop:=bq 108 K [1,1,1,0,0,1,0,1,1] 32 [1,2,15,16,17] [.a,.a,.a,.i 0,.i 0] F
def E5(R:fL)(K:KF)(H:AH):Prop:=K (.ret (.bool true)) H
theorem RR{R:fL}(hR:oy R){K:KF}:E3 K (E5 R K):=λH h=>pk hR .nil h
def NK(R:fL)(K:KF):T_:=E5 R K
theorem RS{R:fL}(hR:oy R){K:KF}:E3 K (NK R K):=RR hR
def vq(R:fL)(K:KF)(x2:aB)(a1 a2 gf:AV)(a16 a17:Int)(H:AH):Prop:=bg 0 (Int.add a17 (.ofNat 1)) λz1=>x2 a1 a2 gf a16 z1 H
theorem RU{R:fL}(hR:oy R){K:KF}{x2:aB}(h2:nM K x2):E4 K (vq R K x2):=λa1 a2 gf a16 a17 H h=>pk hR (cc h2 .nil) h
def NM(R:fL)(K:KF)(i2:aB):aB:=vq R K i2
theorem RV{R:fL}(hR:oy R){K:KF}{i2:aB}(g2:nM K i2):E4 K (NM R K i2):=RU hR g2
def zg(R:fL)(K:KF)(x1:T_)(x3:aB)(a1 a2 gf:AV)(a16 a17:Int)(H:AH):Prop:=bI (cE a17 a16) (dj 2 gf (.int 0 a17) λv1=>aQ 2 v1 H λv2=>cD H (fV (aP H) [.ab,.ab] λv3 H4=>ag 2 v3 v2 H4 λH5=>dj 2 a1 (.int 0 a17) λv6=>aQ 2 v6 H5 λv7=>cD H5 (fV (aP H5) [.ab,.ab] λv8 H9=>ag 2 v8 v7 H9 λbM=>aQ 2 v3 bM λv11=>aQ 2 v8 bM λv12=>hY a2 λg16 x17 Xv=>bT (cY gP g16) (eO (zf R) g16 (x17++([v11,v12]++Xv)) bM λkT dL=>cR K kT dL λv15=>bO v15 λmS=>bI (!mS) (K (.ret (.bool false)) dL) (x3 a1 a2 gf a16 a17 dL))))) (x1 H)
theorem RW{R:fL}(hR:oy R){K:KF}{x1:T_}{x3:aB}(h1:E3 K x1)(h3:E4 K x3):nM K (zg R K x1 x3):=λa1 a2 gf a16 a17 H h=>pk hR (cc h1 (cc h3 .nil)) h
def NN(R:fL)(K:KF)(i2:aB):aB:=zg R K (NK R K) (NM R K i2)
theorem RX{R:fL}(hR:oy R){K:KF}{i2:aB}(g2:nM K i2):nM K (NN R K i2):=RW hR (RS hR) (RV hR g2)
def pF(R:fL)(K:KF)(n:Nat):aB:=Nat.rec (motive:=λ_=>aB) (λ_ _ _ _ _ _=>False) (λ_ i=>NN R K i) n
theorem RY{R:fL}(hR:oy R){K:KF}(n:Nat):nM K (pF R K n):=Nat.rec (motive:=λn=>nM K (pF R K n)) (λa1 a2 gf a16 a17 H h=>h.elim) (λn ih=>RX hR ih) n
def zh(R:fL)(K:KF)(x2:aB)(a0 a1 a2:AV)(H:AH):Prop:=cN a0 λv1=>cI 0 v1 λz2=>cN a1 λv3=>cI 0 v3 λz4=>bI (!(bX z2 z4)) (K (.ret (.bool false)) H) (cN a0 λv5=>cI 0 v5 λz6=>x2 a1 a2 a0 z6 (.ofNat 0) H)
theorem RZ{R:fL}(hR:oy R){K:KF}{x2:aB}(h2:nM K x2)(a0 a1 a2:AV)(H:AH)(h:zh R K x2 a0 a1 a2 H):dD 108 K [] (bz (dt 108) [a0,a1,a2]) [] H:=pk hR (cc h2 .nil) h
def ad3(R:fL)(K:KF):bN:=zh R K (pF R K NL)
def CB(R:fL):AV→AV→AV→AH→KF→Prop:=λa0 a1 a2 H K=>ad3 R K a0 a1 a2 H
theorem aaJ(R:fL)(hR:oy R):az gP 108 (ao [.a,.a,.a] (CB R)):=rk λK a0 a1 a2 H h=>RZ hR (RY hR NL) a0 a1 a2 H h
abbrev oz:Type:=(AV→AV→AH→KF→Prop)×(AV→AV→AH→KF→Prop)
def ad4(R:oz):List (Nat×cW):=[(11,ao [.a,.a] R.1),(72,ao [.a,.a] R.2)]
abbrev XX(R:oz):Prop:=ad gP (ad4 R)
def zi(R:oz)(K:KF)(a0 a1:AV)(H:AH):Prop:=ng (aP H) a0 λv1 H2=>ng (aP H2) a1 λv3 H4=>aL 0 v1 λv5=>aC v5 H4 λv6=>aL 0 v3 λv7=>aC v7 H4 λv8=>R.2 v6 v8 H4 λo9 bM=>cR K o9 bM λv11=>bO v11 λz12=>bI z12 (aL 1 v1 λv13=>aC v13 bM λv14=>aL 1 v3 λv15=>aC v15 bM λv16=>R.1 v14 v16 bM λoi gm=>cR K oi gm λv19=>bO v19 λz20=>K (.ret (.bool z20)) gm) (K (.ret (.bool false)) bM)
theorem R1{R:oz}(hR:XX R){K:KF}(a0 a1:AV)(H:AH)(h:zi R K a0 a1 H):dD 109 K [] (bz (dt 109) [a0,a1]) [] H:=pk hR .nil h
def ad5(R:oz)(K:KF):bA:=zi R K
def CC(R:oz):AV→AV→AH→KF→Prop:=λa0 a1 H K=>ad5 R K a0 a1 H
theorem aaK(R:oz)(hR:XX R):az gP 109 (ao [.a,.a] (CC R)):=rk λK a0 a1 H h=>R1 hR a0 a1 H h
abbrev xP:Type:=(AV→AV→AH→KF→Prop)×(AV→AV→AV→AH→KF→Prop)×(AV→AV→AH→KF→Prop)×(AV→AV→AV→AH→KF→Prop)×(AV→AV→AH→KF→Prop)×(AV→AV→AV→AH→KF→Prop)×(AV→AV→AV→AH→KF→Prop)×(AV→AV→AH→KF→Prop)
def J6(S:xP):qO:=(S.2.1)
def J7(S:xP):gV:=(S.2.2.1)
def J8(S:xP):qQ:=(f72,S.2.2.2.1,S.2.2.2.2.2.1)
def J9(S:xP):gX:=(S.2.2.2.2.1)
def Ka(S:xP):qS:=(S.2.2.2.1,S.2.2.2.2.2.2.1)
def Kb(S:xP):jt:=(S.1)
def E6(S:xP):fL:=(S.2.2.2.2.2.2.2)
def E7(S:xP):oz:=(S.1,f72)
noncomputable def s3(n:Nat):xP:=Nat.rec (motive:=λ_=>xP) (λ_ _ _ _=>False,λ_ _ _ _ _=>False,λ_ _ _ _=>False,λ_ _ _ _ _=>False,λ_ _ _ _=>False,λ_ _ _ _ _=>False,λ_ _ _ _ _=>False,λ_ _ _ _=>False) (λ_ S=>(GC (J6 S),GD (J7 S),GF (J8 S),GG (J9 S),GH (Ka S),GI (Kb S),CB (E6 S),CC (E7 S))) n
theorem ahG(n:Nat):az gP 11 (ao [.a,.a] (s3 n).1)∧az gP 31 (ao [.a,.a,.a] (s3 n).2.1)∧az gP 32 (ao [.a,.a] (s3 n).2.2.1)∧az gP 73 (ao [.a,.a,.a] (s3 n).2.2.2.1)∧az gP 74 (ao [.a,.a] (s3 n).2.2.2.2.1)∧az gP 75 (ao [.a,.a,.a] (s3 n).2.2.2.2.2.1)∧az gP 108 (ao [.a,.a,.a] (s3 n).2.2.2.2.2.2.1)∧az gP 109 (ao [.a,.a] (s3 n).2.2.2.2.2.2.2):=by
 induction n with
 |zero=>exact⟨cF [.a,.a],cF [.a,.a,.a],cF [.a,.a],cF [.a,.a,.a],cF [.a,.a],cF [.a,.a,.a],cF [.a,.a,.a],cF [.a,.a]⟩
 |succ n ih=>exact⟨adX (J6 (s3 n)) (ad.cons (ih.2.1) ad.nil),adY (J7 (s3 n)) (ad.cons (ih.2.2.1) ad.nil),adZ (J8 (s3 n)) (ad.cons Xn (ad.cons (ih.2.2.2.1) (ad.cons (ih.2.2.2.2.2.1) ad.nil))),ad0 (J9 (s3 n)) (ad.cons (ih.2.2.2.2.1) ad.nil),ad1 (Ka (s3 n)) (ad.cons (ih.2.2.2.1) (ad.cons (ih.2.2.2.2.2.2.1) ad.nil)),ad2 (Kb (s3 n)) (ad.cons (ih.1) ad.nil),aaJ (E6 (s3 n)) (ad.cons (ih.2.2.2.2.2.2.2) ad.nil),aaK (E7 (s3 n)) (ad.cons (ih.1) (ad.cons Xn ad.nil))⟩
def f11:AV→AV→AH→KF→Prop:=(s3 NL).1
theorem agv:az gP 11 (ao [.a,.a] f11):=(ahG NL).1
abbrev tO:Type:=Unit
def agw(R:tO):List (Nat×cW):=[]
abbrev ab0(R:tO):Prop:=ad gP (agw R)
def CE(R:tO)(K:KF)(a0:AV)(H:AH):Prop:=ye true a0 λv1=>bO v1 λz2=>bI z2 (K (.ret .ab) H) (bY (aP H) 0 1 [] λv3 H4=>ef 1 16 v3 a0 H4 λv5 H6=>K (.ret v5) H6)
theorem XY{R:tO}(hR:ab0 R){K:KF}(a0:AV)(H:AH)(h:CE R K a0 H):dD 35 K [] (bz (dt 35) [a0]) [] H:=pk hR .nil h
def agx(R:tO)(K:KF):Ta:=CE R K
def ab1(R:tO):AV→AH→KF→Prop:=λa0 H K=>agx R K a0 H
theorem ad6(R:tO)(hR:ab0 R):az gP 35 (ao [.a] (ab1 R)):=rk λK a0 H h=>XY hR a0 H h
def Kd:tO:=()
def f35:AV→AH→KF→Prop:=ab1 Kd
theorem XZ:az gP 35 (ao [.a] f35):=ad6 Kd ad.nil
abbrev qT:Type:=(AV→AV→AH→KF→Prop)
def agy(R:qT):List (Nat×cW):=[(33,ao [.a,.a] R)]
abbrev ab2(R:qT):Prop:=ad gP (agy R)
def CF(R:qT)(K:KF)(a0:AV)(H:AH):Prop:=R a0 (.func 34 [] []) H λo1 H2=>cR K o1 H2 λv3=>K (.ret v3) H2
theorem X0{R:qT}(hR:ab2 R){K:KF}(a0:AV)(H:AH)(h:CF R K a0 H):dD 12 K [] (bz (dt 12) [a0]) [] H:=pk hR .nil h
def agz(R:qT)(K:KF):Ta:=CF R K
def GJ(R:qT):AV→AH→KF→Prop:=λa0 H K=>agz R K a0 H
theorem ad7(R:qT)(hR:ab2 R):az gP 12 (ao [.a] (GJ R)):=rk λK a0 H h=>X0 hR a0 H h
abbrev ju:Type:=(AV→AH→KF→Prop)
def CG(R:ju):List (Nat×cW):=[(34,ao [.a] R)]
abbrev wk(R:ju):Prop:=ad gP (CG R)
abbrev Ke(K:KF)(F:Ta):Prop:=bq 33 K [1,1,1] 22 [5] [.a] F
abbrev sK(K:KF)(F:aB):Prop:=bq 33 K [0,1,0,1,1] 22 [1,5,8,9,10] [.a,.a,.a,.i 0,.i 0] F
def CH(R:ju)(K:KF)(a5:AV)(H:AH):Prop:=K (.ret a5) H
theorem X1{R:ju}(hR:wk R){K:KF}:Ke K (CH R K):=λa5 H h=>pk hR .nil h
def X2(R:ju)(K:KF):Ta:=CH R K
theorem X4{R:ju}(hR:wk R){K:KF}:Ke K (X2 R K):=X1 hR
def CI(R:ju)(K:KF)(x2:aB)(x1:Ta)(a1 a5 a8:AV)(a9 a10:Int)(H:AH):Prop:=bI (cE a10 a9) (dj 5 a8 (.int 0 a10) λv1=>aQ 5 v1 H λv2=>cD H (fV (aP H) [(.int 0 (.ofNat 0)),(.int 0 (.ofNat 0)),.ab,.ab,.ab] λv3 H4=>ag 5 v3 v2 H4 λH5=>aQ 5 v3 H5 λv6=>hY a1 λg10 x11 X5=>bT (cY gP g10) (eO (CG R) g10 (x11++([v6]++X5)) H5 λo7 H8=>cR K o7 H8 λv9=>onVal v9 λxw=>hH xw 5 (bY (aP H8) 1 5 (spl xw [(.int 0 (.ofNat 0)),(.int 0 (.ofNat 0)),.ab,.ab,.ab] 0) λv14 eM=>ef 5 88 a5 v14 eM λv16 jl=>bg 0 (Int.add a10 (.ofNat 1)) λBJ=>x2 a1 v16 a8 a9 BJ jl)))) (x1 a5 H)
theorem X6{R:ju}(hR:wk R){K:KF}{x2:aB}{x1:Ta}(h2:sK K x2)(h1:Ke K x1):sK K (CI R K x2 x1):=λa1 a5 a8 a9 a10 H h=>pk hR (cc h2 (cc h1 .nil)) h
def X7(R:ju)(K:KF)(i2:aB):aB:=CI R K i2 (X2 R K)
theorem X8{R:ju}(hR:wk R){K:KF}{i2:aB}(g2:sK K i2):sK K (X7 R K i2):=X6 hR g2 (X4 hR)
def vr(R:ju)(K:KF)(n:Nat):aB:=Nat.rec (motive:=λ_=>aB) (λ_ _ _ _ _ _=>False) (λ_ i=>X7 R K i) n
theorem X9{R:ju}(hR:wk R){K:KF}(n:Nat):sK K (vr R K n):=Nat.rec (motive:=λn=>sK K (vr R K n)) (λa1 a5 a8 a9 a10 H h=>h.elim) (λn ih=>X8 hR ih) n
def CJ(R:ju)(K:KF)(x2:aB)(a0 a1:AV)(H:AH):Prop:=cN a0 λv1=>cI 0 v1 λz2=>x2 a1 .ab a0 z2 (.ofNat 0) H
theorem Ya{R:ju}(hR:wk R){K:KF}{x2:aB}(h2:sK K x2)(a0 a1:AV)(H:AH)(h:CJ R K x2 a0 a1 H):dD 33 K [] (bz (dt 33) [a0,a1]) [] H:=pk hR (cc h2 .nil) h
def agA(R:ju)(K:KF):bA:=CJ R K (vr R K NL)
def GK(R:ju):AV→AV→AH→KF→Prop:=λa0 a1 H K=>agA R K a0 a1 H
theorem ad8(R:ju)(hR:wk R):az gP 33 (ao [.a,.a] (GK R)):=rk λK a0 a1 H h=>Ya hR (X9 hR NL) a0 a1 H h
abbrev qU:Type:=(AV→AH→KF→Prop)×(AV→AV→AH→KF→Prop)×(AV→AV→AH→KF→Prop)
def agB(R:qU):List (Nat×cW):=[(35,ao [.a] R.1),(36,ao [.a,.a] R.2.1),(38,ao [.a,.a] R.2.2)]
abbrev ab3(R:qU):Prop:=ad gP (agB R)
def CK(R:qU)(K:KF)(a0:AV)(H:AH):Prop:=ng (aP H) a0 λv1 H2=>cD H2 (fV (aP H2) [(.int 0 (.ofNat 0)),(.int 0 (.ofNat 0)),.ab,.ab,.ab] λv3 H4=>aL 0 v1 λv5=>aC v5 H4 λv6=>cI 0 v6 λz7=>aL 2 v1 λv8=>aC v8 H4 λv9=>aL 3 v1 λv10=>aC v10 H4 λv11=>aL 4 v1 λv12=>aC v12 H4 λv13=>R.1 v9 H4 λoD eM=>cR K oD eM λv16=>aC v12 eM λv17=>bT (aT v17 v13) (aC v10 eM λv18=>bT (aT v18 v11) (aC v5 eM λv19=>cI 0 v19 λz20=>bT (aT (.int 0 z20) (.int 0 z7)) (R.2.1 v11 (.func 37 [] []) eM λuR iC=>cR K uR iC λv23=>aC v12 iC λv24=>bT (aT v24 v13) (aC v5 iC λv25=>cI 0 v25 λz26=>bT (aT (.int 0 z26) (.int 0 z7)) (R.2.2 v13 (.func 12 [] []) iC λYb sj=>cR K Yb sj λv29=>aC v5 sj λv30=>cI 0 v30 λz31=>bT (aT (.int 0 z31) (.int 0 z7)) (one v16 (one v23 (one v29 (ag 5 v3 (.agg [(.int 0 z7),(.int 0 (.ofNat 0)),v16,v23,v29]) sj λlQ=>aQ 5 v3 lQ λv33=>K (.ret v33) lQ))))))))))
theorem Yc{R:qU}(hR:ab3 R){K:KF}(a0:AV)(H:AH)(h:CK R K a0 H):dD 34 K [] (bz (dt 34) [a0]) [] H:=pk hR .nil h
def agC(R:qU)(K:KF):Ta:=CK R K
def GL(R:qU):AV→AH→KF→Prop:=λa0 H K=>agC R K a0 H
theorem ad9(R:qU)(hR:ab3 R):az gP 34 (ao [.a] (GL R)):=rk λK a0 H h=>Yc hR a0 H h
abbrev jv:Type:=(AV→AH→KF→Prop)
def CL(R:jv):List (Nat×cW):=[(37,ao [.a] R)]
abbrev wm(R:jv):Prop:=ad gP (CL R)
abbrev Kf(K:KF)(F:Ta):Prop:=bq 36 K [1,1,1] 22 [5] [.a] F
abbrev sL(K:KF)(F:aB):Prop:=bq 36 K [0,1,0,1,1] 22 [1,5,8,9,10] [.a,.a,.a,.i 0,.i 0] F
def CM(R:jv)(K:KF)(a5:AV)(H:AH):Prop:=K (.ret a5) H
theorem Yd{R:jv}(hR:wm R){K:KF}:Kf K (CM R K):=λa5 H h=>pk hR .nil h
def Ye(R:jv)(K:KF):Ta:=CM R K
theorem Yf{R:jv}(hR:wm R){K:KF}:Kf K (Ye R K):=Yd hR
def CN(R:jv)(K:KF)(x2:aB)(x1:Ta)(a1 a5 a8:AV)(a9 a10:Int)(H:AH):Prop:=bI (cE a10 a9) (dj 7 a8 (.int 0 a10) λv1=>aQ 7 v1 H λv2=>cD H (dd gP (aP H) 49 λv3 H4=>ag 7 v3 v2 H4 λH5=>aQ 7 v3 H5 λv6=>hY a1 λg10 x11 X5=>bT (cY gP g10) (eO (CL R) g10 (x11++([v6]++X5)) H5 λo7 H8=>cR K o7 H8 λv9=>onVal v9 λxw=>hH xw 7 (bY (aP H8) 1 7 (spl xw [(.int 0 (.ofNat 0)),(.int 0 (.ofNat 0)),(.int 0 (.ofNat 0)),(.str 0 0),(.int 0 (.ofNat 0)),.ab,.ab] 0) λv14 eM=>ef 7 96 a5 v14 eM λv16 jl=>bg 0 (Int.add a10 (.ofNat 1)) λBJ=>x2 a1 v16 a8 a9 BJ jl)))) (x1 a5 H)
theorem Yg{R:jv}(hR:wm R){K:KF}{x2:aB}{x1:Ta}(h2:sL K x2)(h1:Kf K x1):sL K (CN R K x2 x1):=λa1 a5 a8 a9 a10 H h=>pk hR (cc h2 (cc h1 .nil)) h
def Yh(R:jv)(K:KF)(i2:aB):aB:=CN R K i2 (Ye R K)
theorem Yi{R:jv}(hR:wm R){K:KF}{i2:aB}(g2:sL K i2):sL K (Yh R K i2):=Yg hR g2 (Yf hR)
def vt(R:jv)(K:KF)(n:Nat):aB:=Nat.rec (motive:=λ_=>aB) (λ_ _ _ _ _ _=>False) (λ_ i=>Yh R K i) n
theorem Yj{R:jv}(hR:wm R){K:KF}(n:Nat):sL K (vt R K n):=Nat.rec (motive:=λn=>sL K (vt R K n)) (λa1 a5 a8 a9 a10 H h=>h.elim) (λn ih=>Yi hR ih) n
def CO(R:jv)(K:KF)(x2:aB)(a0 a1:AV)(H:AH):Prop:=cN a0 λv1=>cI 0 v1 λz2=>x2 a1 .ab a0 z2 (.ofNat 0) H
theorem Yk{R:jv}(hR:wm R){K:KF}{x2:aB}(h2:sL K x2)(a0 a1:AV)(H:AH)(h:CO R K x2 a0 a1 H):dD 36 K [] (bz (dt 36) [a0,a1]) [] H:=pk hR (cc h2 .nil) h
def agD(R:jv)(K:KF):bA:=CO R K (vt R K NL)
def GM(R:jv):AV→AV→AH→KF→Prop:=λa0 a1 H K=>agD R K a0 a1 H
theorem aea(R:jv)(hR:wm R):az gP 36 (ao [.a,.a] (GM R)):=rk λK a0 a1 H h=>Yk hR (Yj hR NL) a0 a1 H h
abbrev mB:Type:=(AV→AV→AH→KF→Prop)×(AV→AV→AH→KF→Prop)
def agE(R:mB):List (Nat×cW):=[(36,ao [.a,.a] R.1),(76,ao [.a,.a] R.2)]
abbrev GN(R:mB):Prop:=ad gP (agE R)
abbrev Kg(K:KF)(F:bA):Prop:=bq 37 K [1,1,1] 13 [1,2] [.a,.a] F
def CP(R:mB)(K:KF)(a1 a2:AV)(H:AH):Prop:=aQ 7 a1 H λv1=>ag 7 a2 v1 H λH2=>aQ 7 a2 H2 λv3=>K (.ret v3) H2
theorem Yl{R:mB}(hR:GN R){K:KF}:Kg K (CP R K):=λa1 a2 H h=>pk hR .nil h
def Ym(R:mB)(K:KF):bA:=CP R K
theorem Yn{R:mB}(hR:GN R){K:KF}:Kg K (Ym R K):=Yl hR
def CQ(R:mB)(K:KF)(x1:bA)(a0:AV)(H:AH):Prop:=ng (aP H) a0 λv1 H2=>cD H2 (dd gP (aP H2) 49 λv3 H4=>aL 5 v1 λv5=>aC v5 H4 λv6=>R.1 v6 (.func 37 [] []) H4 λo7 H8=>cR K o7 H8 λv9=>aL 1 v1 λv10=>ag 1 v10 (.int 0 (.ofNat 0)) H8 λfD=>aL 5 v1 λv12=>ag 1 v12 v9 fD λfk=>aL 6 v1 λv14=>aC v14 fk λv15=>R.2 v15 (.func 77 [] []) fk λo16 jl=>cR K o16 jl λv18=>aL 6 v1 λv19=>ag 1 v19 v18 jl λjj=>x1 v1 v3 jj)
theorem Yo{R:mB}(hR:GN R){K:KF}{x1:bA}(h1:Kg K x1)(a0:AV)(H:AH)(h:CQ R K x1 a0 H):dD 37 K [] (bz (dt 37) [a0]) [] H:=pk hR (cc h1 .nil) h
def agF(R:mB)(K:KF):Ta:=CQ R K (Ym R K)
def GO(R:mB):AV→AH→KF→Prop:=λa0 H K=>agF R K a0 H
theorem aeb(R:mB)(hR:GN R):az gP 37 (ao [.a] (GO R)):=rk λK a0 H h=>Yo hR (Yn hR) a0 H h
abbrev jw:Type:=(AV→AH→KF→Prop)
def CR(R:jw):List (Nat×cW):=[(12,ao [.a] R)]
abbrev wo(R:jw):Prop:=ad gP (CR R)
abbrev Kh(K:KF)(F:Ta):Prop:=bq 38 K [1,1,1] 22 [5] [.a] F
abbrev sM(K:KF)(F:aB):Prop:=bq 38 K [0,1,0,1,1] 22 [1,5,8,9,10] [.a,.a,.a,.i 0,.i 0] F
def CS(R:jw)(K:KF)(a5:AV)(H:AH):Prop:=K (.ret a5) H
theorem Yp{R:jw}(hR:wo R){K:KF}:Kh K (CS R K):=λa5 H h=>pk hR .nil h
def Yq(R:jw)(K:KF):Ta:=CS R K
theorem Yr{R:jw}(hR:wo R){K:KF}:Kh K (Yq R K):=Yp hR
def CT(R:jw)(K:KF)(x2:aB)(x1:Ta)(a1 a5 a8:AV)(a9 a10:Int)(H:AH):Prop:=bI (cE a10 a9) (dj 1 a8 (.int 0 a10) λv1=>aC v1 H λv2=>hY a1 λg6 x7 y8=>bT (cY gP g6) (eO (CR R) g6 (x7++([v2]++y8)) H λo3 H4=>cR K o3 H4 λv5=>one v5 (bY (aP H4) 1 1 [v5] λv9 bM=>ef 1 24 a5 v9 bM λv11 dA=>bg 0 (Int.add a10 (.ofNat 1)) λz13=>x2 a1 v11 a8 a9 z13 dA))) (x1 a5 H)
theorem Ys{R:jw}(hR:wo R){K:KF}{x2:aB}{x1:Ta}(h2:sM K x2)(h1:Kh K x1):sM K (CT R K x2 x1):=λa1 a5 a8 a9 a10 H h=>pk hR (cc h2 (cc h1 .nil)) h
def Yt(R:jw)(K:KF)(i2:aB):aB:=CT R K i2 (Yq R K)
theorem Yu{R:jw}(hR:wo R){K:KF}{i2:aB}(g2:sM K i2):sM K (Yt R K i2):=Ys hR g2 (Yr hR)
def vu(R:jw)(K:KF)(n:Nat):aB:=Nat.rec (motive:=λ_=>aB) (λ_ _ _ _ _ _=>False) (λ_ i=>Yt R K i) n
theorem Yv{R:jw}(hR:wo R){K:KF}(n:Nat):sM K (vu R K n):=Nat.rec (motive:=λn=>sM K (vu R K n)) (λa1 a5 a8 a9 a10 H h=>h.elim) (λn ih=>Yu hR ih) n
def CU(R:jw)(K:KF)(x2:aB)(a0 a1:AV)(H:AH):Prop:=cN a0 λv1=>cI 0 v1 λz2=>x2 a1 .ab a0 z2 (.ofNat 0) H
theorem Yw{R:jw}(hR:wo R){K:KF}{x2:aB}(h2:sM K x2)(a0 a1:AV)(H:AH)(h:CU R K x2 a0 a1 H):dD 38 K [] (bz (dt 38) [a0,a1]) [] H:=pk hR (cc h2 .nil) h
def agG(R:jw)(K:KF):bA:=CU R K (vu R K NL)
def GP(R:jw):AV→AV→AH→KF→Prop:=λa0 a1 H K=>agG R K a0 a1 H
theorem aec(R:jw)(hR:wo R):az gP 38 (ao [.a,.a] (GP R)):=rk λK a0 a1 H h=>Yw hR (Yv hR NL) a0 a1 H h
abbrev jx:Type:=(AV→AH→KF→Prop)
def CV(R:jx):List (Nat×cW):=[(77,ao [.a] R)]
abbrev wq(R:jx):Prop:=ad gP (CV R)
abbrev Ki(K:KF)(F:Ta):Prop:=bq 76 K [1,1,1] 22 [5] [.a] F
abbrev sN(K:KF)(F:aB):Prop:=bq 76 K [0,1,0,1,1] 22 [1,5,8,9,10] [.a,.a,.a,.i 0,.i 0] F
def CW(R:jx)(K:KF)(a5:AV)(H:AH):Prop:=K (.ret a5) H
theorem Yx{R:jx}(hR:wq R){K:KF}:Ki K (CW R K):=λa5 H h=>pk hR .nil h
def Yy(R:jx)(K:KF):Ta:=CW R K
theorem Yz{R:jx}(hR:wq R){K:KF}:Ki K (Yy R K):=Yx hR
def CX(R:jx)(K:KF)(x2:aB)(x1:Ta)(a1 a5 a8:AV)(a9 a10:Int)(H:AH):Prop:=bI (cE a10 a9) (dj 2 a8 (.int 0 a10) λv1=>aQ 2 v1 H λv2=>cD H (fV (aP H) [.ab,.ab] λv3 H4=>ag 2 v3 v2 H4 λH5=>aQ 2 v3 H5 λv6=>hY a1 λg10 x11 X5=>bT (cY gP g10) (eO (CV R) g10 (x11++([v6]++X5)) H5 λo7 H8=>cR K o7 H8 λv9=>onVal v9 λxw=>hH xw 2 (bY (aP H8) 1 2 (spl xw [.ab,.ab] 0) λv14 eM=>ef 2 48 a5 v14 eM λv16 jl=>bg 0 (Int.add a10 (.ofNat 1)) λBJ=>x2 a1 v16 a8 a9 BJ jl)))) (x1 a5 H)
theorem YA{R:jx}(hR:wq R){K:KF}{x2:aB}{x1:Ta}(h2:sN K x2)(h1:Ki K x1):sN K (CX R K x2 x1):=λa1 a5 a8 a9 a10 H h=>pk hR (cc h2 (cc h1 .nil)) h
def YB(R:jx)(K:KF)(i2:aB):aB:=CX R K i2 (Yy R K)
theorem YC{R:jx}(hR:wq R){K:KF}{i2:aB}(g2:sN K i2):sN K (YB R K i2):=YA hR g2 (Yz hR)
def vw(R:jx)(K:KF)(n:Nat):aB:=Nat.rec (motive:=λ_=>aB) (λ_ _ _ _ _ _=>False) (λ_ i=>YB R K i) n
theorem YD{R:jx}(hR:wq R){K:KF}(n:Nat):sN K (vw R K n):=Nat.rec (motive:=λn=>sN K (vw R K n)) (λa1 a5 a8 a9 a10 H h=>h.elim) (λn ih=>YC hR ih) n
def CY(R:jx)(K:KF)(x2:aB)(a0 a1:AV)(H:AH):Prop:=cN a0 λv1=>cI 0 v1 λz2=>x2 a1 .ab a0 z2 (.ofNat 0) H
theorem YE{R:jx}(hR:wq R){K:KF}{x2:aB}(h2:sN K x2)(a0 a1:AV)(H:AH)(h:CY R K x2 a0 a1 H):dD 76 K [] (bz (dt 76) [a0,a1]) [] H:=pk hR (cc h2 .nil) h
def agH(R:jx)(K:KF):bA:=CY R K (vw R K NL)
def GQ(R:jx):AV→AV→AH→KF→Prop:=λa0 a1 H K=>agH R K a0 a1 H
theorem aed(R:jx)(hR:wq R):az gP 76 (ao [.a,.a] (GQ R)):=rk λK a0 a1 H h=>YE hR (YD hR NL) a0 a1 H h
abbrev qV:Type:=(AV→AH→KF→Prop)×(AV→AH→KF→Prop)
def agI(R:qV):List (Nat×cW):=[(12,ao [.a] R.1),(35,ao [.a] R.2)]
abbrev ab4(R:qV):Prop:=ad gP (agI R)
def CZ(R:qV)(K:KF)(a0:AV)(H:AH):Prop:=ng (aP H) a0 λv1 H2=>cD H2 (fV (aP H2) [.ab,.ab] λv3 H4=>aL 0 v1 λv5=>aC v5 H4 λv6=>aL 1 v1 λv7=>aC v7 H4 λv8=>R.2 v6 H4 λo9 bM=>cR K o9 bM λv11=>aC v7 bM λv12=>bT (aT v12 v8) (R.1 v8 bM λkT dL=>cR K kT dL λv15=>one v11 (one v15 (ag 2 v3 (.agg [v11,v15]) dL λiU=>aQ 2 v3 iU λv17=>K (.ret v17) iU))))
theorem YF{R:qV}(hR:ab4 R){K:KF}(a0:AV)(H:AH)(h:CZ R K a0 H):dD 77 K [] (bz (dt 77) [a0]) [] H:=pk hR .nil h
def agJ(R:qV)(K:KF):Ta:=CZ R K
def GR(R:qV):AV→AH→KF→Prop:=λa0 H K=>agJ R K a0 H
theorem aee(R:qV)(hR:ab4 R):az gP 77 (ao [.a] (GR R)):=rk λK a0 H h=>YF hR a0 H h
abbrev xQ:Type:=(AV→AH→KF→Prop)×(AV→AV→AH→KF→Prop)×(AV→AH→KF→Prop)×(AV→AV→AH→KF→Prop)×(AV→AH→KF→Prop)×(AV→AV→AH→KF→Prop)×(AV→AV→AH→KF→Prop)×(AV→AH→KF→Prop)
def Kj(S:xQ):qT:=(S.2.1)
def Kk(S:xQ):ju:=(S.2.2.1)
def Kl(S:xQ):qU:=(f35,S.2.2.2.1,S.2.2.2.2.2.1)
def Km(S:xQ):jv:=(S.2.2.2.2.1)
def Kn(S:xQ):mB:=(S.2.2.2.1,S.2.2.2.2.2.2.1)
def Ko(S:xQ):jw:=(S.1)
def Kp(S:xQ):jx:=(S.2.2.2.2.2.2.2)
def Kq(S:xQ):qV:=(S.1,f35)
noncomputable def s5(n:Nat):xQ:=Nat.rec (motive:=λ_=>xQ) (λ_ _ _=>False,λ_ _ _ _=>False,λ_ _ _=>False,λ_ _ _ _=>False,λ_ _ _=>False,λ_ _ _ _=>False,λ_ _ _ _=>False,λ_ _ _=>False) (λ_ S=>(GJ (Kj S),GK (Kk S),GL (Kl S),GM (Km S),GO (Kn S),GP (Ko S),GQ (Kp S),GR (Kq S))) n
theorem ahH(n:Nat):az gP 12 (ao [.a] (s5 n).1)∧az gP 33 (ao [.a,.a] (s5 n).2.1)∧az gP 34 (ao [.a] (s5 n).2.2.1)∧az gP 36 (ao [.a,.a] (s5 n).2.2.2.1)∧az gP 37 (ao [.a] (s5 n).2.2.2.2.1)∧az gP 38 (ao [.a,.a] (s5 n).2.2.2.2.2.1)∧az gP 76 (ao [.a,.a] (s5 n).2.2.2.2.2.2.1)∧az gP 77 (ao [.a] (s5 n).2.2.2.2.2.2.2):=by
 induction n with
 |zero=>exact⟨cF [.a],cF [.a,.a],cF [.a],cF [.a,.a],cF [.a],cF [.a,.a],cF [.a,.a],cF [.a]⟩
 |succ n ih=>exact⟨ad7 (Kj (s5 n)) (ad.cons (ih.2.1) ad.nil),ad8 (Kk (s5 n)) (ad.cons (ih.2.2.1) ad.nil),ad9 (Kl (s5 n)) (ad.cons XZ (ad.cons (ih.2.2.2.1) (ad.cons (ih.2.2.2.2.2.1) ad.nil))),aea (Km (s5 n)) (ad.cons (ih.2.2.2.2.1) ad.nil),aeb (Kn (s5 n)) (ad.cons (ih.2.2.2.1) (ad.cons (ih.2.2.2.2.2.2.1) ad.nil)),aec (Ko (s5 n)) (ad.cons (ih.1) ad.nil),aed (Kp (s5 n)) (ad.cons (ih.2.2.2.2.2.2.2) ad.nil),aee (Kq (s5 n)) (ad.cons (ih.1) (ad.cons XZ ad.nil))⟩
def f12:AV→AH→KF→Prop:=(s5 NL).1
theorem agK:az gP 12 (ao [.a] f12):=(ahH NL).1
abbrev kR:Type:=(AH→KF→Prop)×(AV→AH→KF→Prop)×(AV→AV→AH→KF→Prop)×(AV→AH→KF→Prop)
def ahI(R:kR):List (Nat×cW):=[(7,ao [] R.1),(8,ao [.a] R.2.1),(11,ao [.a,.a] R.2.2.1),(12,ao [.a] R.2.2.2)]
abbrev xR(R:kR):Prop:=ad gP (ahI R)
abbrev R3(K:KF)(F:ze):Prop:=bq 4 K [1,1,1,1] 107 [0,1,5,6,8,9] [.a,.a,.a,.i 0,.a,.i 0] F
abbrev R5(K:KF)(F:gT):Prop:=bq 4 K [1,1,1,1,1] 107 [0,1,5,8] [.a,.a,.a,.a] F
abbrev R6(K:KF)(F:bN):Prop:=bq 4 K [1,1,1,1,1,1,1] 107 [5,8,11] [.a,.a,.a] F
def wu(R:kR)(K:KF)(a5 a8 a11:AV)(H:AH):Prop:=R.1  H λo1 H2=>cR K o1 H2 λv3=>bO v3 λz4=>bI z4 (cN a5 λv5=>cI 0 v5 λz6=>pQ 5 a11 none (some (.int 0 z6)) none λv7=>R.2.2.2 v7 H2 λo8 H9=>cR K o8 H9 λv10=>R.2.2.2 a5 H9 λpZ dA=>cR K pZ dA λv13=>R.2.2.1 v10 v13 dA λoD eM=>cR K oD eM λv16=>bO v16 λz17=>bI z17 (cN a5 λv18=>cI 0 v18 λmS=>pQ 5 a11 (some (.int 0 mS)) none none λv20=>R.2.2.2 v20 eM λuR iC=>cR K uR iC λv23=>R.2.2.2 a8 iC λJe kN=>cR K Je kN λv26=>R.2.2.1 v23 v26 kN λYb sj=>cR K Yb sj λv29=>bO v29 λz30=>bI z30 (cN a5 λv31=>cI 0 v31 λz32=>pQ 5 a11 none (some (.int 0 z32)) none λv33=>R.2.2.1 v33 a5 sj λUd wK=>cR K Ud wK λv36=>bO v36 λz37=>K (.ret (.bool z37)) wK) (K (.ret (.bool false)) sj)) (K (.ret (.bool false)) eM)) (K (.ret (.bool false)) H2)
theorem aaL{R:kR}(hR:xR R){K:KF}:R6 K (wu R K):=λa5 a8 a11 H h=>pk hR .nil h
def ab5(R:kR)(K:KF):bN:=wu R K
theorem aaM{R:kR}(hR:xR R){K:KF}:R6 K (ab5 R K):=aaL hR
def wv(R:kR)(K:KF)(x3:bN)(a0 a1 a5 a8:AV)(H:AH):Prop:=G5 a0 (.str 1 10) λv1=>G5 v1 a1 λv2=>R.2.1 v2 H λo3 H4=>cR K o3 H4 λv5=>dX v5 λl6=>cP l6 0 λv7=>dX v5 λl8=>cP l8 1 λv9=>cI 0 v9 λz10=>dX v5 λMC=>cP MC 2 λv12=>cI 0 v12 λz13=>bI (!(bX z10 (.ofNat 0))) (K (.ret (.bool false)) H4) (cN v7 λv14=>cI 0 v14 λqc=>cN a5 λv16=>cI 0 v16 λz17=>cN a8 λv18=>cI 0 v18 λmS=>bg 0 (Int.add z17 mS) λz20=>bI (!(bX qc z20)) (K (.ret (.bool false)) H4) (x3 a5 a8 v7 H4))
theorem aaN{R:kR}(hR:xR R){K:KF}{x3:bN}(h3:R6 K x3):R5 K (wv R K x3):=λa0 a1 a5 a8 H h=>pk hR (cc h3 .nil) h
def ab6(R:kR)(K:KF):gT:=wv R K (ab5 R K)
theorem aaO{R:kR}(hR:xR R){K:KF}:R5 K (ab6 R K):=aaN hR (aaM hR)
def tP(R:kR)(K:KF)(x2:gT)(a0 a1 a5:AV)(a6:Int)(a8:AV)(a9:Int)(H:AH):Prop:=bI (!(bX a6 (.ofNat 0))) (R.1  H λo1 H2=>cR K o1 H2 λv3=>bO v3 λz4=>K (.ret (.bool z4)) H2) (bI (!(bX a9 (.ofNat 0))) (R.1  H λo5 H6=>cR K o5 H6 λv7=>bO v7 λz8=>K (.ret (.bool z8)) H6) (cN a5 λv9=>cI 0 v9 λz10=>bI (cE (.ofNat 0) z10) (cN a5 λv11=>cI 0 v11 λz12=>bg 0 (Int.sub z12 (.ofNat 1)) λz13=>dj 5 a5 (.int 0 z13) λv14=>aL 0 v14 λv15=>aC v15 H λv16=>cI 0 v16 λz17=>bI (bX z17 (.ofNat 10)) (R.1  H λJb jN=>cR K Jb jN λv20=>bO v20 λz21=>K (.ret (.bool z21)) jN) (x2 a0 a1 a5 a8 H)) (x2 a0 a1 a5 a8 H)))
theorem aaP{R:kR}(hR:xR R){K:KF}{x2:gT}(h2:R5 K x2):R3 K (tP R K x2):=λa0 a1 a5 a6 a8 a9 H h=>pk hR (cc h2 .nil) h
def ab7(R:kR)(K:KF):ze:=tP R K (ab6 R K)
theorem aaQ{R:kR}(hR:xR R){K:KF}:R3 K (ab7 R K):=aaP hR (aaO hR)
def GS(R:kR)(K:KF)(x1:ze)(a0 a1:AV)(H:AH):Prop:=sLen a0 λv1=>cI 0 v1 λz2=>bI (cE (.ofNat 400) z2) (R.1  H λo3 H4=>cR K o3 H4 λv5=>bO v5 λz6=>K (.ret (.bool z6)) H4) (sLen a1 λv7=>cI 0 v7 λz8=>bI (cE (.ofNat 400) z8) (R.1  H λo9 bM=>cR K o9 bM λv11=>bO v11 λz12=>K (.ret (.bool z12)) bM) (R.2.1 a0 H λkT dL=>cR K kT dL λv15=>dX v15 λl16=>cP l16 0 λv17=>dX v15 λl18=>cP l18 1 λv19=>cI 0 v19 λz20=>dX v15 λMz=>cP Mz 2 λv22=>cI 0 v22 λz23=>R.2.1 a1 dL λJe kN=>cR K Je kN λv26=>dX v26 λl27=>cP l27 0 λv28=>dX v26 λl29=>cP l29 1 λv30=>cI 0 v30 λz31=>dX v26 λl32=>cP l32 2 λv33=>cI 0 v33 λz34=>x1 a0 a1 v17 z20 v28 z31 kN))
theorem aaR{R:kR}(hR:xR R){K:KF}{x1:ze}(h1:R3 K x1)(a0 a1:AV)(H:AH)(h:GS R K x1 a0 a1 H):dD 4 K [] (bz (dt 4) [a0,a1]) [] H:=pk hR (cc h1 .nil) h
def ahJ(R:kR)(K:KF):bA:=GS R K (ab7 R K)
def agL(R:kR):AV→AV→AH→KF→Prop:=λa0 a1 H K=>ahJ R K a0 a1 H
theorem agM(R:kR)(hR:xR R):az gP 4 (ao [.a,.a] (agL R)):=rk λK a0 a1 H h=>aaR hR (aaQ hR) a0 a1 H h
end Go.Proofs.YtcedghechlgecaaGreatDoor.G
