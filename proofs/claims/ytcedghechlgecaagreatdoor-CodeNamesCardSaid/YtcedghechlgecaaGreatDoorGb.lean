/- The functions of the lexer, of Check and of the compiler, by program. No condition. -/
import Derived.Test.YtcedghechlgecaaGreatDoorGa
set_option maxRecDepth 100000
set_option maxHeartbeats 0
set_option linter.unusedVariables false
set_option linter.unusedSimpArgs false
namespace Go.Proofs.YtcedghechlgecaaGreatDoor.G
open Go Go.X
abbrev gJ:Type:=AV→AV→AV→AV→Int→Int→AH→Prop
abbrev aQ:Type:=AV→AV→AV→Int→Int→AH→Prop
abbrev fQ:Type:=AV→AV→Int→Int→Int→AH→Prop
abbrev aaW:Type:=AV→Int→Bool→AH→Prop
abbrev jW:Type:=AV→Int→Int→Int→Int→AH→Prop
abbrev Ti:Type:=Int→AH→Prop
abbrev yo:Type:=Unit
def avp(R:yo):List (Nat×bQ):=[]
abbrev apD(R:yo):Prop:=ad gPa (avp R)
def HN(R:yo)(K:KF)(a0 a1:AV)(H:AH):Prop:=sLen a0 λv1=>cI 0 v1 λz2=>sLen a1 λv3=>cI 0 v3 λz4=>bI (!(bO z2 z4)) (sLen a1 λv5=>cI 0 v5 λz6=>eX a0 none (some (.int 0 z6)) λv7=>wo v7 a1 λv8=>bC v8 λz9=>K (.ret (.bool z9)) H) (K (.ret (.bool false)) H)
theorem ahK{R:yo}(hR:apD R){K:KF}(a0 a1:AV)(H:AH)(h:HN R K a0 a1 H):cx 88 K [] (aT (cv 88) [a0,a1]) [] H:=pk hR .nil h
def avq(R:yo)(K:KF):aU:=HN R K
def apE(R:yo):AV→AV→AH→KF→Prop:=λa0 a1 H K=>avq R K a0 a1 H
theorem arR(R:yo)(hR:apD R):an gPa 88 (ai [.a,.a] (apE R)):=rk λK a0 a1 H h=>ahK hR a0 a1 H h
def QH:yo:=()
def f88:AV→AV→AH→KF→Prop:=apE QH
theorem avr:an gPa 88 (ai [.a,.a] f88):=arR QH ad.nil
abbrev yp:Type:=(AV→AV→AH→KF→Prop)
def avs(R:yp):List (Nat×bQ):=[(88,ai [.a,.a] R)]
abbrev apF(R:yp):Prop:=ad gPa (avs R)
def HO(R:yp)(K:KF)(a0 a1:AV)(H:AH):Prop:=R a0 a1 H λo1 H2=>cR K o1 H2 λv3=>bC v3 λz4=>K (.ret (.bool z4)) H2
theorem ahL{R:yp}(hR:apF R){K:KF}(a0 a1:AV)(H:AH)(h:HO R K a0 a1 H):cx 46 K [] (aT (cv 46) [a0,a1]) [] H:=pk hR .nil h
def avt(R:yp)(K:KF):aU:=HO R K
def apG(R:yp):AV→AV→AH→KF→Prop:=λa0 a1 H K=>avt R K a0 a1 H
theorem arS(R:yp)(hR:apF R):an gPa 46 (ai [.a,.a] (apG R)):=rk λK a0 a1 H h=>ahL hR a0 a1 H h
def HP:yp:=(f88)
def f46:AV→AV→AH→KF→Prop:=apG HP
theorem ahM:an gPa 46 (ai [.a,.a] f46):=arS HP (ad.cons avr ad.nil)
abbrev yq:Type:=Unit
def avu(R:yq):List (Nat×bQ):=[]
abbrev apH(R:yq):Prop:=ad gPa (avu R)
def HQ(R:yq)(K:KF)(a0:Int)(H:AH):Prop:=bI (!(bO a0 (.ofNat 48))) (K (.ret (.bool (!(bO (.ofNat 57) a0)))) H) (K (.ret (.bool false)) H)
theorem ahN{R:yq}(hR:apH R){K:KF}(a0:Int)(H:AH)(h:HQ R K a0 H):cx 48 K [] (aT (cv 48) [(.int 1 a0)]) [] H:=pk hR .nil h
def avv(R:yq)(K:KF):Ti:=HQ R K
def apI(R:yq):Int→AH→KF→Prop:=λa0 H K=>avv R K a0 H
theorem arT(R:yq)(hR:apH R):an gPa 48 (ai [.i 1] (apI R)):=rk λK a0 H h=>ahN hR a0 H h
def QI:yq:=()
def f48:Int→AH→KF→Prop:=apI QI
theorem QJ:an gPa 48 (ai [.i 1] f48):=arT QI ad.nil
abbrev yr:Type:=(Int→AH→KF→Prop)
def avw(R:yr):List (Nat×bQ):=[(48,ai [.i 1] R)]
abbrev apJ(R:yr):Prop:=ad gPa (avw R)
def HS(R:yr)(K:KF)(a0:Int)(H:AH):Prop:=bI (!(bO a0 (.ofNat 97))) (bI (!(bO (.ofNat 122) a0)) (K (.ret (.bool true)) H) (bI (!(bO a0 (.ofNat 65))) (bI (!(bO (.ofNat 90) a0)) (K (.ret (.bool true)) H) (bI (aV a0 (.ofNat 95)) (K (.ret (.bool true)) H) (R a0 H λo1 H2=>cR K o1 H2 λv3=>bC v3 λz4=>K (.ret (.bool z4)) H2))) (bI (aV a0 (.ofNat 95)) (K (.ret (.bool true)) H) (R a0 H λo5 H6=>cR K o5 H6 λv7=>bC v7 λz8=>K (.ret (.bool z8)) H6)))) (bI (!(bO a0 (.ofNat 65))) (bI (!(bO (.ofNat 90) a0)) (K (.ret (.bool true)) H) (bI (aV a0 (.ofNat 95)) (K (.ret (.bool true)) H) (R a0 H λo9 bo=>cR K o9 bo λv11=>bC v11 λz12=>K (.ret (.bool z12)) bo))) (bI (aV a0 (.ofNat 95)) (K (.ret (.bool true)) H) (R a0 H λwL dG=>cR K wL dG λv15=>bC v15 λlK=>K (.ret (.bool lK)) dG)))
theorem ahO{R:yr}(hR:apJ R){K:KF}(a0:Int)(H:AH)(h:HS R K a0 H):cx 47 K [] (aT (cv 47) [(.int 1 a0)]) [] H:=pk hR .nil h
def avx(R:yr)(K:KF):Ti:=HS R K
def apK(R:yr):Int→AH→KF→Prop:=λa0 H K=>avx R K a0 H
theorem arU(R:yr)(hR:apJ R):an gPa 47 (ai [.i 1] (apK R)):=rk λK a0 H h=>ahO hR a0 H h
def HT:yr:=(f48)
def f47:Int→AH→KF→Prop:=apK HT
theorem avy:an gPa 47 (ai [.i 1] f47):=arU HT (ad.cons QJ ad.nil)
abbrev lh:Type:=(AV→Int→AH→KF→Prop)×(AV→AV→AH→KF→Prop)
def avz(R:lh):List (Nat×bQ):=[(45,ai [.a,.i 1] R.1),(46,ai [.a,.a] R.2)]
abbrev Bb(R:lh):Prop:=ad gPa (avz R)
abbrev QK(K:KF)(F:Ta):Prop:=aN 49 K [1,1] 26 [0] [.a] F
abbrev wX(K:KF)(F:aB):Prop:=aN 49 K [0,1,0,1] 26 [0,5,6,7] [.a,.a,.i 0,.i 0] F
def HU(R:lh)(K:KF)(a0:AV)(H:AH):Prop:=sNe a0 (.str 0 0) λv1=>bC v1 λz2=>bI z2 (gN a0 (.int 0 (.ofNat 0)) λv3=>cI 1 v3 λz4=>R.1 (.str 17 20123422373665890509693217210346309823787) z4 H λo5 H6=>cR K o5 H6 λv7=>cI 0 v7 λz8=>bI (!(bO z8 (.ofNat 0))) (eX a0 none (some (.int 0 (.ofNat 1))) λv9=>K (.ret v9) H6) (K (.ret (.str 0 0)) H6)) (K (.ret (.str 0 0)) H)
theorem ahP{R:lh}(hR:Bb R){K:KF}:QK K (HU R K):=λa0 H h=>pk hR .nil h
def ahQ(R:lh)(K:KF):Ta:=HU R K
theorem ahR{R:lh}(hR:Bb R){K:KF}:QK K (ahQ R K):=ahP hR
def HV(R:lh)(K:KF)(x2:aB)(x1:Ta)(a0 a5:AV)(a6 a7:Int)(H:AH):Prop:=bI (bO a7 a6) (cw 1 a5 (.int 0 a7) λv1=>af v1 H λv2=>R.2 a0 v2 H λo3 H4=>cR K o3 H4 λv5=>bC v5 λz6=>bI z6 (K (.ret v2) H4) (aJ 0 (Int.add a7 (.ofNat 1)) λz7=>x2 a0 a5 a6 z7 H4)) (x1 a0 H)
theorem ahS{R:lh}(hR:Bb R){K:KF}{x2:aB}{x1:Ta}(h2:wX K x2)(h1:QK K x1):wX K (HV R K x2 x1):=λa0 a5 a6 a7 H h=>pk hR (cc h2 (cc h1 .nil)) h
def ahT(R:lh)(K:KF)(i2:aB):aB:=HV R K i2 (ahQ R K)
theorem ahU{R:lh}(hR:Bb R){K:KF}{i2:aB}(g2:wX K i2):wX K (ahT R K i2):=ahS hR g2 (ahR hR)
def wY(R:lh)(K:KF)(n:Nat):aB:=Nat.rec (motive:=λ_=>aB) (λ_ _ _ _ _=>False) (λ_ i=>ahT R K i) n
theorem ahV{R:lh}(hR:Bb R){K:KF}(n:Nat):wX K (wY R K n):=Nat.rec (motive:=λn=>wX K (wY R K n)) (λa0 a5 a6 a7 H h=>h.elim) (λn ih=>ahU hR ih) n
def HW(R:lh)(K:KF)(x2:aB)(a0:AV)(H:AH):Prop:=bG (aA H) 6 1 [(.str 2 11822),(.str 2 15677),(.str 2 15742),(.str 2 15676),(.str 2 15678),(.str 2 12079)] λv1 H2=>bR v1 λv3=>cI 0 v3 λz4=>x2 a0 v1 z4 (.ofNat 0) H2
theorem ahW{R:lh}(hR:Bb R){K:KF}{x2:aB}(h2:wX K x2)(a0:AV)(H:AH)(h:HW R K x2 a0 H):cx 49 K [] (aT (cv 49) [a0]) [] H:=pk hR (cc h2 .nil) h
def avA(R:lh)(K:KF):Ta:=HW R K (wY R K NL)
def apL(R:lh):AV→AH→KF→Prop:=λa0 H K=>avA R K a0 H
theorem arV(R:lh)(hR:Bb R):an gPa 49 (ai [.a] (apL R)):=rk λK a0 H h=>ahW hR (ahV hR NL) a0 H h
abbrev iT:Type:=Unit
def arW(R:iT):List (Nat×bQ):=[]
abbrev wZ(R:iT):Prop:=ad gPa (arW R)
abbrev Kq(K:KF)(F:T_):Prop:=aN 121 K [1,1] 19 [] [] F
abbrev sq(K:KF)(F:aB):Prop:=aN 121 K [0,1,0,1] 19 [0,1,7,8] [.a,.a,.i 0,.i 0] F
def sr(R:iT)(K:KF)(H:AH):Prop:=K (.ret (.int 0 (.negSucc 0))) H
theorem aaX{R:iT}(hR:wZ R){K:KF}:Kq K (sr R K):=λH h=>pk hR .nil h
def VN(R:iT)(K:KF):T_:=sr R K
theorem aaY{R:iT}(hR:wZ R){K:KF}:Kq K (VN R K):=aaX hR
def qx(R:iT)(K:KF)(x2:aB)(x1:T_)(a0 a1:AV)(a7 a8:Int)(H:AH):Prop:=bI (bO a8 a7) (cw 1 a0 (.int 0 a8) λv1=>af v1 H λv2=>wo a1 v2 λv3=>bC v3 λz4=>bI z4 (K (.ret (.int 0 a8)) H) (aJ 0 (Int.add a8 (.ofNat 1)) λz5=>x2 a0 a1 a7 z5 H)) (x1 H)
theorem aaZ{R:iT}(hR:wZ R){K:KF}{x2:aB}{x1:T_}(h2:sq K x2)(h1:Kq K x1):sq K (qx R K x2 x1):=λa0 a1 a7 a8 H h=>pk hR (cc h2 (cc h1 .nil)) h
def VO(R:iT)(K:KF)(i2:aB):aB:=qx R K i2 (VN R K)
theorem aa0{R:iT}(hR:wZ R){K:KF}{i2:aB}(g2:sq K i2):sq K (VO R K i2):=aaZ hR g2 (aaY hR)
def lO(R:iT)(K:KF)(n:Nat):aB:=Nat.rec (motive:=λ_=>aB) (λ_ _ _ _ _=>False) (λ_ i=>VO R K i) n
theorem aa1{R:iT}(hR:wZ R){K:KF}(n:Nat):sq K (lO R K n):=Nat.rec (motive:=λn=>sq K (lO R K n)) (λa0 a1 a7 a8 H h=>h.elim) (λn ih=>aa0 hR ih) n
def qy(R:iT)(K:KF)(x2:aB)(a0 a1:AV)(H:AH):Prop:=bR a0 λv1=>cI 0 v1 λz2=>x2 a0 a1 z2 (.ofNat 0) H
theorem aa2{R:iT}(hR:wZ R){K:KF}{x2:aB}(h2:sq K x2)(a0 a1:AV)(H:AH)(h:qy R K x2 a0 a1 H):cx 121 K [] (aT (cv 121) [a0,a1]) [] H:=pk hR (cc h2 .nil) h
def arX(R:iT)(K:KF):aU:=qy R K (lO R K NL)
def ahX(R:iT):AV→AV→AH→KF→Prop:=λa0 a1 H K=>arX R K a0 a1 H
theorem anQ(R:iT)(hR:wZ R):an gPa 121 (ai [.a,.a] (ahX R)):=rk λK a0 a1 H h=>aa2 hR (aa1 hR NL) a0 a1 H h
def gq:iT:=()
def f121:AV→AV→AH→KF→Prop:=ahX gq
theorem Kr:an gPa 121 (ai [.a,.a] f121):=anQ gq ad.nil
abbrev yt:Type:=(AV→AV→AH→KF→Prop)
def avB(R:yt):List (Nat×bQ):=[(121,ai [.a,.a] R)]
abbrev apM(R:yt):Prop:=ad gPa (avB R)
def zH(R:yt)(K:KF)(a0 a1:AV)(H:AH):Prop:=R a0 a1 H λo1 H2=>cR K o1 H2 λv3=>cI 0 v3 λz4=>K (.ret (.bool (!(bO z4 (.ofNat 0))))) H2
theorem ahY{R:yt}(hR:apM R){K:KF}(a0 a1:AV)(H:AH)(h:zH R K a0 a1 H):cx 89 K [] (aT (cv 89) [a0,a1]) [] H:=pk hR .nil h
def avC(R:yt)(K:KF):aU:=zH R K
def apN(R:yt):AV→AV→AH→KF→Prop:=λa0 a1 H K=>avC R K a0 a1 H
theorem arY(R:yt)(hR:apM R):an gPa 89 (ai [.a,.a] (apN R)):=rk λK a0 a1 H h=>ahY hR a0 a1 H h
def Cz:yt:=(f121)
def f89:AV→AV→AH→KF→Prop:=apN Cz
theorem ahZ:an gPa 89 (ai [.a,.a] f89):=arY Cz (ad.cons Kr ad.nil)
abbrev cq:Type:=Unit
def avD(R:cq):List (Nat×bQ):=[]
abbrev fZ(R:cq):Prop:=ad gPa (avD R)
abbrev QL(K:KF)(F:wK):Prop:=aN 90 K [1,1,1,1,1] 106 [0,3,5] [.a,.i 0,.i 1] F
abbrev tM(K:KF)(F:jW):Prop:=aN 90 K [0,1,0,1,1,1,1] 106 [0,3,4,5,6] [.a,.i 0,.i 0,.i 1,.i 0] F
abbrev QM(K:KF)(F:aB):Prop:=aN 90 K [1,1,1,1,1,1,1,1,1,1,1] 106 [0,9,10,12] [.a,.a,.i 0,.i 0] F
abbrev w7(K:KF)(F:aB):Prop:=aN 90 K [0,0,1,1,1,1,1,1,1,1,1,1] 106 [0,9,10,12] [.a,.a,.i 0,.i 0] F
abbrev QO(K:KF)(F:aB):Prop:=aN 90 K [1,1,1,1,1,1,1,1,1,1,1,1,1] 106 [0,9,10,11] [.a,.a,.i 0,.i 0] F
abbrev mG(K:KF)(F:fQ):Prop:=aN 90 K [0,0,1,1,1,1,1,1,1,1,1,1,1,1] 106 [0,9,10,11,12] [.a,.a,.i 0,.i 0,.i 0] F
abbrev QP(K:KF)(F:Ta):Prop:=aN 90 K [1,1,1,1,1,1,1,1,1,1,1,1,1,1] 106 [9] [.a] F
abbrev QQ(K:KF)(F:jW):Prop:=aN 90 K [1,1,1,1,0,0,1,0,0,1,0,1,1,1,1] 106 [0,3,5,6,8] [.a,.i 0,.i 1,.i 0,.i 0] F
abbrev QR(K:KF)(F:aB):Prop:=aN 90 K [1,1,1,0,1,0,0,0,1,1,1,1,1,1,1,1,1,1,1,1] 106 [0,9,10,12] [.a,.a,.i 0,.i 0] F
abbrev Ks(K:KF)(F:aB):Prop:=aN 90 K [1,1,1,1,1,0,1,0,0,0,1,1,1,1,1,1,1,1,1,1,1,1] 106 [0,9,10,12] [.a,.a,.i 0,.i 0] F
abbrev ss(K:KF)(F:aB):Prop:=aN 90 K [0,0,1,1,1,1,0,1,0,0,0,1,1,1,1,1,1,1,1,1,1,1,1] 106 [0,9,10,12] [.a,.a,.i 0,.i 0] F
def ah0(R:cq)(K:KF)(x2:jW)(a0:AV)(a3 a5 a6 a8:Int)(H:AH):Prop:=aJ 0 (Int.add a6 (.ofNat 1)) λz1=>x2 a0 a3 a8 a5 z1 H
theorem ah1{R:cq}(hR:fZ R){K:KF}{x2:jW}(h2:tM K x2):QQ K (ah0 R K x2):=λa0 a3 a5 a6 a8 H h=>pk hR (cc h2 .nil) h
def ah2(R:cq)(K:KF)(i2:jW):jW:=ah0 R K i2
theorem ah3{R:cq}(hR:fZ R){K:KF}{i2:jW}(g2:tM K i2):QQ K (ah2 R K i2):=ah1 hR g2
def VP(R:cq)(K:KF)(x6:fQ)(a0 a9:AV)(a10 a12:Int)(H:AH):Prop:=x6 a0 a9 a10 a12 a12 H
theorem aa3{R:cq}(hR:fZ R){K:KF}{x6:fQ}(h6:mG K x6):Ks K (VP R K x6):=λa0 a9 a10 a12 H h=>pk hR (cc h6 .nil) h
def VQ(R:cq)(K:KF)(i6:fQ):aB:=VP R K i6
theorem aa4{R:cq}(hR:fZ R){K:KF}{i6:fQ}(g6:mG K i6):Ks K (VQ R K i6):=aa3 hR g6
def VS(R:cq)(K:KF)(x11 x10:aB)(a0 a9:AV)(a10 a12:Int)(H:AH):Prop:=sLen a0 λv1=>cI 0 v1 λz2=>bI (bO a12 z2) (gN a0 (.int 0 a12) λv3=>cI 1 v3 λz4=>Dd 256 1 (.ptr 0 0) (.int 1 z4) λv5=>af v5 H λv6=>cI 1 v6 λz7=>bI (!(aV z7 (.ofNat 0))) (aJ 0 (Int.add a12 (.ofNat 1)) λz8=>x11 a0 a9 a10 z8 H) (x10 a0 a9 a10 a12 H)) (x10 a0 a9 a10 a12 H)
theorem aa5{R:cq}(hR:fZ R){K:KF}{x11 x10:aB}(h11:ss K x11)(h10:Ks K x10):ss K (VS R K x11 x10):=λa0 a9 a10 a12 H h=>pk hR (cc h11 (cc h10 .nil)) h
def VT(R:cq)(K:KF)(i6:fQ)(i11:aB):aB:=VS R K i11 (VQ R K i6)
theorem aa6{R:cq}(hR:fZ R){K:KF}{i6:fQ}{i11:aB}(g6:mG K i6)(g11:ss K i11):ss K (VT R K i6 i11):=aa5 hR g11 (aa4 hR g6)
def Kt(R:cq)(K:KF)(i6:fQ)(n:Nat):aB:=Nat.rec (motive:=λ_=>aB) (λ_ _ _ _ _=>False) (λ_ i=>VT R K i6 i) n
theorem aa7{R:cq}(hR:fZ R){K:KF}{i6:fQ}(g6:mG K i6)(n:Nat):ss K (Kt R K i6 n):=Nat.rec (motive:=λn=>ss K (Kt R K i6 n)) (λa0 a9 a10 a12 H h=>h.elim) (λn ih=>aa6 hR g6 ih) n
def ah4(R:cq)(K:KF)(x11:aB)(a0 a9:AV)(a10 a12:Int)(H:AH):Prop:=aJ 0 (Int.add a12 (.ofNat 1)) λz1=>x11 a0 a9 a10 z1 H
theorem ah5{R:cq}(hR:fZ R){K:KF}{x11:aB}(h11:ss K x11):QR K (ah4 R K x11):=λa0 a9 a10 a12 H h=>pk hR (cc h11 .nil) h
def ah6(R:cq)(K:KF)(i6:fQ):aB:=ah4 R K (Kt R K i6 NL)
theorem ah7{R:cq}(hR:fZ R){K:KF}{i6:fQ}(g6:mG K i6):QR K (ah6 R K i6):=ah5 hR (aa7 hR g6 NL)
def ah8(R:cq)(K:KF)(a9:AV)(H:AH):Prop:=K (.ret a9) H
theorem ah9{R:cq}(hR:fZ R){K:KF}:QP K (ah8 R K):=λa9 H h=>pk hR .nil h
def aia(R:cq)(K:KF):Ta:=ah8 R K
theorem aib{R:cq}(hR:fZ R){K:KF}:QP K (aia R K):=ah9 hR
def aic(R:cq)(K:KF)(x7:Ta)(a0 a9:AV)(a10 a11:Int)(H:AH):Prop:=sLen a0 λv1=>cI 0 v1 λz2=>bI (bO a11 z2) (eX a0 (some (.int 0 a11)) none λv3=>cw 1 a9 (.int 0 a10) λv4=>ag 1 v4 v3 H λH5=>x7 a9 H5) (x7 a9 H)
theorem aid{R:cq}(hR:fZ R){K:KF}{x7:Ta}(h7:QP K x7):QO K (aic R K x7):=λa0 a9 a10 a11 H h=>pk hR (cc h7 .nil) h
def aie(R:cq)(K:KF):aB:=aic R K (aia R K)
theorem aif{R:cq}(hR:fZ R){K:KF}:QO K (aie R K):=aid hR (aib hR)
def aih(R:cq)(K:KF)(x6:fQ)(x9 x5:aB)(a0 a9:AV)(a10 a11 a12:Int)(H:AH):Prop:=sLen a0 λv1=>cI 0 v1 λz2=>bI (bO a12 z2) (gN a0 (.int 0 a12) λv3=>cI 1 v3 λz4=>Dd 256 1 (.ptr 0 0) (.int 1 z4) λv5=>af v5 H λv6=>cI 1 v6 λz7=>bI (aV z7 (.ofNat 0)) (aJ 0 (Int.add a12 (.ofNat 1)) λz8=>x6 a0 a9 a10 a11 z8 H) (eX a0 (some (.int 0 a11)) (some (.int 0 a12)) λv9=>cw 1 a9 (.int 0 a10) λv10=>ag 1 v10 v9 H λdq=>aJ 0 (Int.add a10 (.ofNat 1)) λz12=>x9 a0 a9 z12 a12 dq)) (x5 a0 a9 a10 a11 H)
theorem aii{R:cq}(hR:fZ R){K:KF}{x6:fQ}{x9 x5:aB}(h6:mG K x6)(h9:QR K x9)(h5:QO K x5):mG K (aih R K x6 x9 x5):=λa0 a9 a10 a11 a12 H h=>pk hR (cc h6 (cc h9 (cc h5 .nil))) h
def aij(R:cq)(K:KF)(i6:fQ):fQ:=aih R K i6 (ah6 R K i6) (aie R K)
theorem aik{R:cq}(hR:fZ R){K:KF}{i6:fQ}(g6:mG K i6):mG K (aij R K i6):=aii hR g6 (ah7 hR g6) (aif hR)
def QS(R:cq)(K:KF)(n:Nat):fQ:=Nat.rec (motive:=λ_=>fQ) (λ_ _ _ _ _ _=>False) (λ_ i=>aij R K i) n
theorem ail{R:cq}(hR:fZ R){K:KF}(n:Nat):mG K (QS R K n):=Nat.rec (motive:=λn=>mG K (QS R K n)) (λa0 a9 a10 a11 a12 H h=>h.elim) (λn ih=>aik hR ih) n
def aim(R:cq)(K:KF)(x6:fQ)(a0 a9:AV)(a10 a12:Int)(H:AH):Prop:=x6 a0 a9 a10 a12 a12 H
theorem ain{R:cq}(hR:fZ R){K:KF}{x6:fQ}(h6:mG K x6):QM K (aim R K x6):=λa0 a9 a10 a12 H h=>pk hR (cc h6 .nil) h
def aio(R:cq)(K:KF):aB:=aim R K (QS R K NL)
theorem aip{R:cq}(hR:fZ R){K:KF}:QM K (aio R K):=ain hR (ail hR NL)
def aiq(R:cq)(K:KF)(x4 x3:aB)(a0 a9:AV)(a10 a12:Int)(H:AH):Prop:=sLen a0 λv1=>cI 0 v1 λz2=>bI (bO a12 z2) (gN a0 (.int 0 a12) λv3=>cI 1 v3 λz4=>Dd 256 1 (.ptr 0 0) (.int 1 z4) λv5=>af v5 H λv6=>cI 1 v6 λz7=>bI (!(aV z7 (.ofNat 0))) (aJ 0 (Int.add a12 (.ofNat 1)) λz8=>x4 a0 a9 a10 z8 H) (x3 a0 a9 a10 a12 H)) (x3 a0 a9 a10 a12 H)
theorem air{R:cq}(hR:fZ R){K:KF}{x4 x3:aB}(h4:w7 K x4)(h3:QM K x3):w7 K (aiq R K x4 x3):=λa0 a9 a10 a12 H h=>pk hR (cc h4 (cc h3 .nil)) h
def ais(R:cq)(K:KF)(i4:aB):aB:=aiq R K i4 (aio R K)
theorem ait{R:cq}(hR:fZ R){K:KF}{i4:aB}(g4:w7 K i4):w7 K (ais R K i4):=air hR g4 (aip hR)
def QT(R:cq)(K:KF)(n:Nat):aB:=Nat.rec (motive:=λ_=>aB) (λ_ _ _ _ _=>False) (λ_ i=>ais R K i) n
theorem aiu{R:cq}(hR:fZ R){K:KF}(n:Nat):w7 K (QT R K n):=Nat.rec (motive:=λn=>w7 K (QT R K n)) (λa0 a9 a10 a12 H h=>h.elim) (λn ih=>ait hR ih) n
def aiv(R:cq)(K:KF)(x4:aB)(a0:AV)(a3 a5:Int)(H:AH):Prop:=bI (!(bO a5 (.ofNat 128))) (False) (cm H (afZ (aA H) 1 16 [(.str 0 0)] (.int 0 a3) (.int 0 a3) λv4 H5=>x4 a0 v4 (.ofNat 0) (.ofNat 0) H5))
theorem aiw{R:cq}(hR:fZ R){K:KF}{x4:aB}(h4:w7 K x4):QL K (aiv R K x4):=λa0 a3 a5 H h=>pk hR (cc h4 .nil) h
def aix(R:cq)(K:KF):wK:=aiv R K (QT R K NL)
theorem aiy{R:cq}(hR:fZ R){K:KF}:QL K (aix R K):=aiw hR (aiu hR NL)
def aiz(R:cq)(K:KF)(x8:jW)(x1:wK)(a0:AV)(a3 a4 a5 a6:Int)(H:AH):Prop:=sLen a0 λv1=>cI 0 v1 λz2=>bI (bO a6 z2) (gN a0 (.int 0 a6) λv3=>cI 1 v3 λz4=>bj (kK 1 a5) λu5=>bj (kK 1 z4) λu6=>aJ 1 (.ofNat (Nat.lor u5 u6)) λz7=>Dd 256 1 (.ptr 0 0) (.int 1 z4) λv8=>af v8 H λv9=>cI 1 v9 λz10=>aJ 0 z10 λz11=>YM 0 (.int 0 (.negSucc 0)) (.int 0 z11) λv12=>cI 0 v12 λz13=>bj (kK 0 a4) λu14=>bj (kK 0 z13) λu15=>aJ 0 (.ofNat (Nat.land u14 u15)) λlK=>aJ 0 (Int.add a3 lK) λz17=>x8 a0 z17 z7 a6 z11 H) (x1 a0 a3 a5 H)
theorem aiA{R:cq}(hR:fZ R){K:KF}{x8:jW}{x1:wK}(h8:QQ K x8)(h1:QL K x1):tM K (aiz R K x8 x1):=λa0 a3 a4 a5 a6 H h=>pk hR (cc h8 (cc h1 .nil)) h
def aiB(R:cq)(K:KF)(i2:jW):jW:=aiz R K (ah2 R K i2) (aix R K)
theorem aiC{R:cq}(hR:fZ R){K:KF}{i2:jW}(g2:tM K i2):tM K (aiB R K i2):=aiA hR (ah3 hR g2) (aiy hR)
def QU(R:cq)(K:KF)(n:Nat):jW:=Nat.rec (motive:=λ_=>jW) (λ_ _ _ _ _ _=>False) (λ_ i=>aiB R K i) n
theorem aiD{R:cq}(hR:fZ R){K:KF}(n:Nat):tM K (QU R K n):=Nat.rec (motive:=λn=>tM K (QU R K n)) (λa0 a3 a4 a5 a6 H h=>h.elim) (λn ih=>aiC hR ih) n
def aiE(R:cq)(K:KF)(x2:jW)(a0:AV)(H:AH):Prop:=x2 a0 (.ofNat 0) (.ofNat 1) (.ofNat 0) (.ofNat 0) H
theorem aiF{R:cq}(hR:fZ R){K:KF}{x2:jW}(h2:tM K x2)(a0:AV)(H:AH)(h:aiE R K x2 a0 H):cx 90 K [] (aT (cv 90) [a0]) [] H:=pk hR (cc h2 .nil) h
def avE(R:cq)(K:KF):Ta:=aiE R K (QU R K NL)
def apO(R:cq):AV→AH→KF→Prop:=λa0 H K=>avE R K a0 H
theorem arZ(R:cq)(hR:fZ R):an gPa 90 (ai [.a] (apO R)):=rk λK a0 H h=>aiF hR (aiD hR NL) a0 H h
def aiG:cq:=()
def f90:AV→AH→KF→Prop:=apO aiG
theorem aiH:an gPa 90 (ai [.a] f90):=arZ aiG ad.nil
abbrev yu:Type:=(AV→AV→AH→KF→Prop)×(AV→AH→KF→Prop)
def avF(R:yu):List (Nat×bQ):=[(89,ai [.a,.a] R.1),(90,ai [.a] R.2)]
abbrev apP(R:yu):Prop:=ad gPa (avF R)
def HX(R:yu)(K:KF)(a0:AV)(H:AH):Prop:=R.2 (.str 106 743592293415549159464884965273623582657807955486870022263567599881100855398344308852071505921708641523013298851144444062831057050381886688874167040862228978947257244481257785676058839983701114737916356931020761369637418783173010486990440839896469216718433) H λo1 H2=>cR K o1 H2 λv3=>R.1 v3 a0 H2 λo4 H5=>cR K o4 H5 λv6=>bC v6 λz7=>K (.ret (.bool z7)) H5
theorem aiI{R:yu}(hR:apP R){K:KF}(a0:AV)(H:AH)(h:HX R K a0 H):cx 50 K [] (aT (cv 50) [a0]) [] H:=pk hR .nil h
def avG(R:yu)(K:KF):Ta:=HX R K
def apQ(R:yu):AV→AH→KF→Prop:=λa0 H K=>avG R K a0 H
theorem ar0(R:yu)(hR:apP R):an gPa 50 (ai [.a] (apQ R)):=rk λK a0 H h=>aiI hR a0 H h
abbrev fq:Type:=(Int→AH→KF→Prop)×(AV→Int→Int→AH→KF→Prop)
def avH(R:fq):List (Nat×bQ):=[(48,ai [.i 1] R.1),(129,ai [.a,.i 0,.i 0] R.2)]
abbrev oy(R:fq):Prop:=ad gPa (avH R)
abbrev QV(K:KF)(F:T_):Prop:=aN 93 K [1,1,1] 57 [] [] F
abbrev QW(K:KF)(F:aaW):Prop:=aN 93 K [1,1,1,1,1,0,1,0,1,1] 57 [0,10,15] [.a,.i 1,.b] F
abbrev QX(K:KF)(F:Ta):Prop:=aN 93 K [1,1,0,1,1,1,1,1,1,1,0,1,0,1,1] 57 [0] [.a] F
abbrev tN(K:KF)(F:kM):Prop:=aN 93 K [0,1,0,1,0,1,1,1,1,1,1,1,0,1,0,1,1] 57 [0,4] [.a,.i 0] F
abbrev QY(K:KF)(F:kM):Prop:=aN 93 K [1,1,0,0,1,0,1,0,1,1,1,1,1,1,1,0,1,0,1,1] 57 [0,4] [.a,.i 0] F
def CA(R:fq)(K:KF)(x4:kM)(a0:AV)(a4:Int)(H:AH):Prop:=aJ 0 (Int.add a4 (.ofNat 1)) λz1=>x4 a0 z1 H
theorem aiJ{R:fq}(hR:oy R){K:KF}{x4:kM}(h4:tN K x4):QY K (CA R K x4):=λa0 a4 H h=>pk hR (cc h4 .nil) h
def aiK(R:fq)(K:KF)(i4:kM):kM:=CA R K i4
theorem aiL{R:fq}(hR:oy R){K:KF}{i4:kM}(g4:tN K i4):QY K (aiK R K i4):=aiJ hR g4
def HY(R:fq)(K:KF)(a0:AV)(H:AH):Prop:=eX a0 (some (.int 0 (.ofNat 1))) (some (.int 0 (.ofNat 3))) λv1=>R.2 v1 (.ofNat 16) (.ofNat 8) H λo2 H3=>cR K o2 H3 λv4=>dv v4 λl5=>cE l5 0 λv6=>cI 3 v6 λz7=>dv v4 λl8=>cE l8 1 λv9=>aJ 1 z7 λz10=>K (.ret (.aE [(.int 1 z10),(.int 0 (.ofNat 3))])) H3
theorem aiM{R:fq}(hR:oy R){K:KF}:QX K (HY R K):=λa0 H h=>pk hR .nil h
def aiN(R:fq)(K:KF):Ta:=HY R K
theorem aiO{R:fq}(hR:oy R){K:KF}:QX K (aiN R K):=aiM hR
def HZ(R:fq)(K:KF)(x5:kM)(x3:Ta)(a0:AV)(a4:Int)(H:AH):Prop:=bI (bO a4 (.ofNat 3)) (gN a0 (.int 0 a4) λv1=>cI 1 v1 λz2=>R.1 z2 H λo3 H4=>cR K o3 H4 λv5=>bC v5 λz6=>bI (!z6) (gN a0 (.int 0 a4) λv7=>cI 1 v7 λz8=>bj (kK 1 z8) λu9=>bj (kK 1 (.ofNat 32)) λu10=>aJ 1 (.ofNat (Nat.lor u9 u10)) λz11=>bI (bO z11 (.ofNat 97)) (K (.ret (.aE [(.int 1 (.ofNat 0)),(.int 0 (.ofNat 0))])) H4) (gN a0 (.int 0 a4) λv12=>cI 1 v12 λz13=>bj (kK 1 z13) λu14=>bj (kK 1 (.ofNat 32)) λu15=>aJ 1 (.ofNat (Nat.lor u14 u15)) λlK=>bI (bO (.ofNat 102) lK) (K (.ret (.aE [(.int 1 (.ofNat 0)),(.int 0 (.ofNat 0))])) H4) (x5 a0 a4 H4))) (x5 a0 a4 H4)) (x3 a0 H)
theorem aiP{R:fq}(hR:oy R){K:KF}{x5:kM}{x3:Ta}(h5:QY K x5)(h3:QX K x3):tN K (HZ R K x5 x3):=λa0 a4 H h=>pk hR (cc h5 (cc h3 .nil)) h
def aiQ(R:fq)(K:KF)(i4:kM):kM:=HZ R K (aiK R K i4) (aiN R K)
theorem aiR{R:fq}(hR:oy R){K:KF}{i4:kM}(g4:tN K i4):tN K (aiQ R K i4):=aiP hR (aiL hR g4) (aiO hR)
def tO(R:fq)(K:KF)(n:Nat):kM:=Nat.rec (motive:=λ_=>kM) (λ_ _ _=>False) (λ_ i=>aiQ R K i) n
theorem aiS{R:fq}(hR:oy R){K:KF}(n:Nat):tN K (tO R K n):=Nat.rec (motive:=λn=>tN K (tO R K n)) (λa0 a4 H h=>h.elim) (λn ih=>aiR hR ih) n
def Ia(R:fq)(K:KF)(H:AH):Prop:=K (.ret (.aE [(.int 1 (.ofNat 0)),(.int 0 (.ofNat 0))])) H
theorem aiT{R:fq}(hR:oy R){K:KF}:QV K (Ia R K):=λH h=>pk hR .nil h
def aiU(R:fq)(K:KF):T_:=Ia R K
theorem aiV{R:fq}(hR:oy R){K:KF}:QV K (aiU R K):=aiT hR
def zI(R:fq)(K:KF)(x4:kM)(x1:T_)(a0:AV)(a10:Int)(tP:Bool)(H:AH):Prop:=bI tP (gN a0 (.int 0 (.ofNat 0)) λv1=>cI 1 v1 λz2=>K (.ret (.aE [(.int 1 z2),(.int 0 (.ofNat 1))])) H) (bI (aV a10 (.ofNat 120)) (sLen a0 λv3=>cI 0 v3 λz4=>bI (bO z4 (.ofNat 3)) (K (.ret (.aE [(.int 1 (.ofNat 0)),(.int 0 (.ofNat 0))])) H) (x4 a0 (.ofNat 1) H)) (x1 H))
theorem aiW{R:fq}(hR:oy R){K:KF}{x4:kM}{x1:T_}(h4:tN K x4)(h1:QV K x1):QW K (zI R K x4 x1):=λa0 a10 tP H h=>pk hR (cc h4 (cc h1 .nil)) h
def aiX(R:fq)(K:KF):aaW:=zI R K (tO R K NL) (aiU R K)
theorem aiY{R:fq}(hR:oy R){K:KF}:QW K (aiX R K):=aiW hR (aiS hR NL) (aiV hR)
def Ib(R:fq)(K:KF)(x2:aaW)(a0:AV)(H:AH):Prop:=wo a0 (.str 0 0) λv1=>bC v1 λz2=>bI z2 (K (.ret (.aE [(.int 1 (.ofNat 0)),(.int 0 (.ofNat 0))])) H) (gN a0 (.int 0 (.ofNat 0)) λv3=>cI 1 v3 λz4=>bI (aV z4 (.ofNat 110)) (K (.ret (.aE [(.int 1 (.ofNat 10)),(.int 0 (.ofNat 1))])) H) (bI (aV z4 (.ofNat 116)) (K (.ret (.aE [(.int 1 (.ofNat 9)),(.int 0 (.ofNat 1))])) H) (bI (aV z4 (.ofNat 92)) (x2 a0 z4 (aV z4 (.ofNat 92)) H) (bI (aV z4 (.ofNat 34)) (x2 a0 z4 (aV z4 (.ofNat 34)) H) (x2 a0 z4 (aV z4 (.ofNat 39)) H)))))
theorem aiZ{R:fq}(hR:oy R){K:KF}{x2:aaW}(h2:QW K x2)(a0:AV)(H:AH)(h:Ib R K x2 a0 H):cx 93 K [] (aT (cv 93) [a0]) [] H:=pk hR (cc h2 .nil) h
def avI(R:fq)(K:KF):Ta:=Ib R K (aiX R K)
def apR(R:fq):AV→AH→KF→Prop:=λa0 H K=>avI R K a0 H
theorem ar1(R:fq)(hR:oy R):an gPa 93 (ai [.a] (apR R)):=rk λK a0 H h=>aiZ hR (aiY hR) a0 H h
abbrev gT:Type:=(AV→AH→KF→Prop)
def avJ(R:gT):List (Nat×bQ):=[(93,ai [.a] R)]
abbrev rj(R:gT):Prop:=ad gPa (avJ R)
abbrev QZ(K:KF)(F:T_):Prop:=aN 52 K [1,1,1] 59 [] [] F
abbrev rl(K:KF)(F:da):Prop:=aN 52 K [0,1,0,1,1] 59 [0,4,5] [.a,.a,.i 0] F
abbrev Ic(K:KF)(F:da):Prop:=aN 52 K [1,1,0,0,1,0,1,1] 59 [0,4,5] [.a,.a,.i 0] F
abbrev Q0(K:KF)(F:fQ):Prop:=aN 52 K [1,1,1,1,1,1,1,0,1,0,0,1,0,0,1,0,1,1] 59 [0,4,5,7,8] [.a,.a,.i 0,.i 1,.i 0] F
def zJ(R:gT)(K:KF)(x2:da)(a0 a4:AV)(a5:Int)(H:AH):Prop:=aJ 0 (Int.add a5 (.ofNat 1)) λz1=>x2 a0 a4 z1 H
theorem ai0{R:gT}(hR:rj R){K:KF}{x2:da}(h2:rl K x2):Ic K (zJ R K x2):=λa0 a4 a5 H h=>pk hR (cc h2 .nil) h
def Q1(R:gT)(K:KF)(i2:da):da:=zJ R K i2
theorem Nt{R:gT}(hR:rj R){K:KF}{i2:da}(g2:rl K i2):Ic K (Q1 R K i2):=ai0 hR g2
def Q2(R:gT)(K:KF)(H:AH):Prop:=K (.ret (.aE [(.str 0 0),(.int 0 (.ofNat 0))])) H
theorem ai1{R:gT}(hR:rj R){K:KF}:QZ K (Q2 R K):=λH h=>pk hR .nil h
def ai2(R:gT)(K:KF):T_:=Q2 R K
theorem ai3{R:gT}(hR:rj R){K:KF}:QZ K (ai2 R K):=ai1 hR
def CE(R:gT)(K:KF)(x3:da)(a0 a4:AV)(a5 a7 a8:Int)(H:AH):Prop:=bI (aV a8 (.ofNat 0)) (K (.ret (.aE [(.str 0 0),(.int 0 (.ofNat 0))])) H) (bG (aA H) 1 1 [(.int 1 a7)] λv1 H2=>cV 1 1 a4 v1 H2 λv3 H4=>aJ 0 (Int.add a5 a8) λz5=>x3 a0 v3 z5 H4)
theorem ai4{R:gT}(hR:rj R){K:KF}{x3:da}(h3:Ic K x3):Q0 K (CE R K x3):=λa0 a4 a5 a7 a8 H h=>pk hR (cc h3 .nil) h
def ai5(R:gT)(K:KF)(i2:da):fQ:=CE R K (Q1 R K i2)
theorem ai6{R:gT}(hR:rj R){K:KF}{i2:da}(g2:rl K i2):Q0 K (ai5 R K i2):=ai4 hR (Nt hR g2)
def Ie(R:gT)(K:KF)(x3:da)(x1:T_)(x4:fQ)(a0 a4:AV)(a5:Int)(H:AH):Prop:=sLen a0 λv1=>cI 0 v1 λz2=>bI (bO a5 z2) (bR a4 λv3=>cI 0 v3 λz4=>bI (!(bO (.ofNat 4096) z4)) (gN a0 (.int 0 a5) λv5=>cI 1 v5 λz6=>gN a0 (.int 0 (.ofNat 0)) λv7=>cI 1 v7 λz8=>bI (aV z6 z8) (Df a4 H λv9=>aJ 0 (Int.add a5 (.ofNat 1)) λz10=>K (.ret (.aE [v9,(.int 0 z10)])) H) (bI (aV z6 (.ofNat 10)) (K (.ret (.aE [(.str 0 0),(.int 0 (.ofNat 0))])) H) (bI (!(aV z6 (.ofNat 92))) (bG (aA H) 1 1 [(.int 1 z6)] λv11 cU=>cV 1 1 a4 v11 cU λv13 dG=>x3 a0 v13 a5 dG) (aJ 0 (Int.add a5 (.ofNat 1)) λnk=>eX a0 (some (.int 0 nk)) none λv16=>R v16 H λtD eB=>cR K tD eB λv19=>dv v19 λPM=>cE PM 0 λv21=>cI 1 v21 λz22=>dv v19 λl23=>cE l23 1 λv24=>cI 0 v24 λz25=>x4 a0 a4 a5 z22 z25 eB)))) (x1 H)) (x1 H)
theorem ai7{R:gT}(hR:rj R){K:KF}{x3:da}{x1:T_}{x4:fQ}(h3:Ic K x3)(h1:QZ K x1)(h4:Q0 K x4):rl K (Ie R K x3 x1 x4):=λa0 a4 a5 H h=>pk hR (cc h3 (cc h1 (cc h4 .nil))) h
def ai8(R:gT)(K:KF)(i2:da):da:=Ie R K (Q1 R K i2) (ai2 R K) (ai5 R K i2)
theorem ai9{R:gT}(hR:rj R){K:KF}{i2:da}(g2:rl K i2):rl K (ai8 R K i2):=ai7 hR (Nt hR g2) (ai3 hR) (ai6 hR g2)
def lP(R:gT)(K:KF)(n:Nat):da:=Nat.rec (motive:=λ_=>da) (λ_ _ _ _=>False) (λ_ i=>ai8 R K i) n
theorem aja{R:gT}(hR:rj R){K:KF}(n:Nat):rl K (lP R K n):=Nat.rec (motive:=λn=>rl K (lP R K n)) (λa0 a4 a5 H h=>h.elim) (λn ih=>ai9 hR ih) n
def Ig(R:gT)(K:KF)(x2:da)(a0:AV)(H:AH):Prop:=x2 a0 .ab (.ofNat 1) H
theorem ajb{R:gT}(hR:rj R){K:KF}{x2:da}(h2:rl K x2)(a0:AV)(H:AH)(h:Ig R K x2 a0 H):cx 52 K [] (aT (cv 52) [a0]) [] H:=pk hR (cc h2 .nil) h
def avK(R:gT)(K:KF):Ta:=Ig R K (lP R K NL)
def apS(R:gT):AV→AH→KF→Prop:=λa0 H K=>avK R K a0 H
theorem ar2(R:gT)(hR:rj R):an gPa 52 (ai [.a] (apS R)):=rk λK a0 H h=>ajb hR (aja hR NL) a0 H h
abbrev aK:Type:=(AV→Int→AH→KF→Prop)×(AV→AV→AH→KF→Prop)×(Int→AH→KF→Prop)×(Int→AH→KF→Prop)×(AV→AH→KF→Prop)×(AV→AH→KF→Prop)×(AV→Int→Int→AH→KF→Prop)×(AV→AH→KF→Prop)
def avL(R:aK):List (Nat×bQ):=[(45,ai [.a,.i 1] R.1),(46,ai [.a,.a] R.2.1),(47,ai [.i 1] R.2.2.1),(48,ai [.i 1] R.2.2.2.1),(49,ai [.a] R.2.2.2.2.1),(50,ai [.a] R.2.2.2.2.2.1),(51,ai [.a,.i 0,.i 0] R.2.2.2.2.2.2.1),(52,ai [.a] R.2.2.2.2.2.2.2)]
abbrev bS(R:aK):Prop:=ad gPa (avL R)
abbrev eE(K:KF)(F:ay):Prop:=aN 21 K [2,1] 155 [0,5,6,8] [.a,.a,.a,.i 0] F
abbrev Ih(K:KF)(F:aQ):Prop:=aN 21 K [3,1] 155 [0,5,6,8,9] [.a,.a,.a,.i 0,.i 0] F
abbrev Ii(K:KF)(F:aQ):Prop:=aN 21 K [4,1] 155 [0,5,6,8,9] [.a,.a,.a,.i 0,.i 0] F
abbrev Ij(K:KF)(F:ay):Prop:=aN 21 K [5,1] 155 [0,5,6,8] [.a,.a,.a,.i 0] F
abbrev w8(K:KF)(F:Ti):Prop:=aN 21 K [6,1] 155 [8] [.i 0] F
abbrev zK(K:KF)(F:ay):Prop:=aN 21 K [7,1] 155 [0,5,6,9] [.a,.a,.a,.i 0] F
abbrev Q3(K:KF)(F:ay):Prop:=aN 21 K [1,1,2,1] 155 [0,5,6,8] [.a,.a,.a,.i 0] F
abbrev w9(K:KF)(F:ay):Prop:=aN 21 K [0,0,1,2,1] 155 [0,5,6,8] [.a,.a,.a,.i 0] F
abbrev Q4(K:KF)(F:ay):Prop:=aN 21 K [1,1,1,2,1] 155 [0,5,6,8] [.a,.a,.a,.i 0] F
abbrev Ku(K:KF)(F:ay):Prop:=aN 21 K [1,1,1,3,1] 155 [0,5,6,9] [.a,.a,.a,.i 0] F
abbrev Kv(K:KF)(F:aQ):Prop:=aN 21 K [1,1,1,4,1] 155 [0,5,6,8,9] [.a,.a,.a,.i 0,.i 0] F
abbrev Kw(K:KF)(F:ay):Prop:=aN 21 K [1,1,1,1,5,1] 155 [0,5,6,9] [.a,.a,.a,.i 0] F
abbrev Kx(K:KF)(F:ay):Prop:=aN 21 K [1,0,1,0,1,1,2,1] 155 [0,5,6,8] [.a,.a,.a,.i 0] F
abbrev Ky(K:KF)(F:aQ):Prop:=aN 21 K [1,1,1,1,1,1,2,1] 155 [0,5,6,8,9] [.a,.a,.a,.i 0,.i 0] F
abbrev sv(K:KF)(F:ay):Prop:=aN 21 K [0,0,0,1,0,1,1,2,1] 155 [0,5,6,8] [.a,.a,.a,.i 0] F
abbrev Kz(K:KF)(F:ay):Prop:=aN 21 K [1,1,1,1,1,1,1,0,1] 155 [0,5,6,8] [.a,.a,.a,.i 0] F
abbrev sw(K:KF)(F:ay):Prop:=aN 21 K [0,0,1,1,1,1,1,1,0,1] 155 [0,5,6,8] [.a,.a,.a,.i 0] F
abbrev sx(K:KF)(F:aQ):Prop:=aN 21 K [0,1,0,1,1,1,1,1,2,1] 155 [0,5,6,8,9] [.a,.a,.a,.i 0,.i 0] F
abbrev KA(K:KF)(F:ay):Prop:=aN 21 K [1,1,1,1,1,1,1,1,0,1] 155 [0,5,6,8] [.a,.a,.a,.i 0] F
abbrev KB(K:KF)(F:ay):Prop:=aN 21 K [1,1,1,1,1,1,1,1,2,1] 155 [0,5,6,8] [.a,.a,.a,.i 0] F
abbrev KC(K:KF)(F:ay):Prop:=aN 21 K [1,0,1,0,1,1,1,1,1,1,1,0,1] 155 [0,5,6,8] [.a,.a,.a,.i 0] F
abbrev KE(K:KF)(F:aQ):Prop:=aN 21 K [1,0,1,1,1,1,1,1,1,1,1,2,1] 155 [0,5,6,8,9] [.a,.a,.a,.i 0,.i 0] F
abbrev KG(K:KF)(F:aQ):Prop:=aN 21 K [1,1,0,0,1,1,1,1,1,1,1,2,1] 155 [0,5,6,8,9] [.a,.a,.a,.i 0,.i 0] F
abbrev KH(K:KF)(F:aQ):Prop:=aN 21 K [1,1,1,1,1,1,1,1,1,1,1,0,1] 155 [0,5,6,8,9] [.a,.a,.a,.i 0,.i 0] F
abbrev sy(K:KF)(F:ay):Prop:=aN 21 K [0,0,0,1,0,1,1,1,1,1,1,1,0,1] 155 [0,5,6,8] [.a,.a,.a,.i 0] F
abbrev sA(K:KF)(F:aQ):Prop:=aN 21 K [0,1,0,1,1,1,1,1,1,1,1,1,1,0,1] 155 [0,5,6,8,9] [.a,.a,.a,.i 0,.i 0] F
abbrev KI(K:KF)(F:ay):Prop:=aN 21 K [1,1,1,1,1,1,1,1,1,1,1,1,1,0,1] 155 [0,5,6,8] [.a,.a,.a,.i 0] F
abbrev KJ(K:KF)(F:aQ):Prop:=aN 21 K [1,0,1,1,1,1,1,1,1,1,1,1,1,1,1,1,0,1] 155 [0,5,6,8,9] [.a,.a,.a,.i 0,.i 0] F
abbrev KK(K:KF)(F:aQ):Prop:=aN 21 K [1,1,0,0,1,1,1,1,1,1,1,1,1,1,1,1,0,1] 155 [0,5,6,8,9] [.a,.a,.a,.i 0,.i 0] F
def vy(R:aK)(K:KF)(x1:ay)(a0 a5 a6:AV)(a8:Int)(H:AH):Prop:=x1 a0 a5 a6 a8 H
theorem aa8{R:aK}(hR:bS R){K:KF}{x1:ay}(h1:eE K x1):Kx K (vy R K x1):=λa0 a5 a6 a8 H h=>pk hR (cc h1 .nil) h
def zL(R:aK)(K:KF)(i1:ay):ay:=vy R K i1
theorem aa9{R:aK}(hR:bS R){K:KF}{i1:ay}(g1:eE K i1):Kx K (zL R K i1):=aa8 hR g1
def vz(R:aK)(K:KF)(x15 xe:ay)(a0 a5 a6:AV)(a8:Int)(H:AH):Prop:=sLen a0 λv1=>cI 0 v1 λz2=>bI (bO a8 z2) (gN a0 (.int 0 a8) λv3=>cI 1 v3 λz4=>bI (!(aV z4 (.ofNat 10))) (aJ 0 (Int.add a8 (.ofNat 1)) λz5=>x15 a0 a5 a6 z5 H) (xe a0 a5 a6 a8 H)) (xe a0 a5 a6 a8 H)
theorem aba{R:aK}(hR:bS R){K:KF}{x15 xe:ay}(h15:sv K x15)(h13:Kx K xe):sv K (vz R K x15 xe):=λa0 a5 a6 a8 H h=>pk hR (cc h15 (cc h13 .nil)) h
def VU(R:aK)(K:KF)(i1 i15:ay):ay:=vz R K i15 (zL R K i1)
theorem abb{R:aK}(hR:bS R){K:KF}{i1 i15:ay}(g1:eE K i1)(g15:sv K i15):sv K (VU R K i1 i15):=aba hR g15 (aa9 hR g1)
def kP(R:aK)(K:KF)(i1:ay)(n:Nat):ay:=Nat.rec (motive:=λ_=>ay) (λ_ _ _ _ _=>False) (λ_ i=>VU R K i1 i) n
theorem abc{R:aK}(hR:bS R){K:KF}{i1:ay}(g1:eE K i1)(n:Nat):sv K (kP R K i1 n):=Nat.rec (motive:=λn=>sv K (kP R K i1 n)) (λa0 a5 a6 a8 H h=>h.elim) (λn ih=>abb hR g1 ih) n
def rm(R:aK)(K:KF)(a8:Int)(H:AH):Prop:=K (.ret (.aE [.ab,(.int 0 (.ofNat 14)),(.int 0 a8)])) H
theorem ajc{R:aK}(hR:bS R){K:KF}:w8 K (rm R K):=λa8 H h=>pk hR .nil h
def zM(R:aK)(K:KF):Ti:=rm R K
theorem tQ{R:aK}(hR:bS R){K:KF}:w8 K (zM R K):=ajc hR
def tT(R:aK)(K:KF)(x1:ay)(a0 a5 a6:AV)(a9:Int)(H:AH):Prop:=aM 4 a6 H λv1=>onVal v1 λl2=>iE l2 4 (bG (aA H) 1 4 (spl l2 [(.int 0 (.ofNat 0)),(.str 0 0),(.int 0 (.ofNat 0)),(.int 0 (.ofNat 0))] 0) λv3 H4=>cV 4 40 a5 v3 H4 λv5 H6=>x1 a0 v5 a6 a9 H6)
theorem ajd{R:aK}(hR:bS R){K:KF}{x1:ay}(h1:eE K x1):zK K (tT R K x1):=λa0 a5 a6 a9 H h=>pk hR (cc h1 .nil) h
def CF(R:aK)(K:KF)(i1:ay):ay:=tT R K i1
theorem yv{R:aK}(hR:bS R){K:KF}{i1:ay}(g1:eE K i1):zK K (CF R K i1):=ajd hR g1
def zN(R:aK)(K:KF)(x5:Ti)(x6:ay)(a0 a5 a6:AV)(a8 a9:Int)(H:AH):Prop:=bI (aV a9 a8) (x5 a8 H) (x6 a0 a5 a6 a9 H)
theorem abd{R:aK}(hR:bS R){K:KF}{x5:Ti}{x6:ay}(h5:w8 K x5)(h6:zK K x6):KE K (zN R K x5 x6):=λa0 a5 a6 a8 a9 H h=>pk hR (cc h5 (cc h6 .nil)) h
def DV(R:aK)(K:KF)(i1:ay):aQ:=zN R K (zM R K) (CF R K i1)
theorem abe{R:aK}(hR:bS R){K:KF}{i1:ay}(g1:eE K i1):KE K (DV R K i1):=abd hR (tQ hR) (yv hR g1)
def zO(R:aK)(K:KF)(x24:aQ)(a0 a5 a6:AV)(a8:Int)(H:AH):Prop:=eX a0 (some (.int 0 a8)) none λv1=>R.2.2.2.2.1 v1 H λo2 H3=>cR K o2 H3 λv4=>ah 0 a6 λv5=>ag 1 v5 (.int 0 (.ofNat 5)) H3 λH6=>ah 1 a6 λv7=>ag 1 v7 v4 H6 λH8=>ah 1 a6 λv9=>af v9 H8 λv10=>sLen v10 λv11=>cI 0 v11 λz12=>aJ 0 (Int.add a8 z12) λz13=>x24 a0 a5 a6 a8 z13 H8
theorem abf{R:aK}(hR:bS R){K:KF}{x24:aQ}(QG:KE K x24):KB K (zO R K x24):=λa0 a5 a6 a8 H h=>pk hR (cc QG .nil) h
def vA(R:aK)(K:KF)(i1:ay):ay:=zO R K (DV R K i1)
theorem abg{R:aK}(hR:bS R){K:KF}{i1:ay}(g1:eE K i1):KB K (vA R K i1):=abf hR (abe hR g1)
def zP(R:aK)(K:KF)(x5:Ti)(x6:ay)(a0 a5 a6:AV)(a8 a9:Int)(H:AH):Prop:=ah 1 a6 λv1=>af v1 H λv2=>sLen v2 λv3=>cI 0 v3 λz4=>bI (bO (.ofNat 32) z4) (x5 a8 H) (x6 a0 a5 a6 a9 H)
theorem abh{R:aK}(hR:bS R){K:KF}{x5:Ti}{x6:ay}(h5:w8 K x5)(h6:zK K x6):Kv K (zP R K x5 x6):=λa0 a5 a6 a8 a9 H h=>pk hR (cc h5 (cc h6 .nil)) h
def VV(R:aK)(K:KF)(i1:ay):aQ:=zP R K (zM R K) (CF R K i1)
theorem abi{R:aK}(hR:bS R){K:KF}{i1:ay}(g1:eE K i1):Kv K (VV R K i1):=abh hR (tQ hR) (yv hR g1)
def Ik(R:aK)(K:KF)(x11:aQ)(a0 a5 a6:AV)(a8 a9:Int)(H:AH):Prop:=ah 0 a6 λv1=>ag 1 v1 (.int 0 (.ofNat 2)) H λH2=>ah 1 a6 λv3=>af v3 H2 λv4=>R.2.2.2.2.2.1 v4 H2 λo5 H6=>cR K o5 H6 λv7=>bC v7 λz8=>bI z8 (ah 0 a6 λv9=>ag 1 v9 (.int 0 (.ofNat 1)) H6 λbo=>x11 a0 a5 a6 a8 a9 bo) (x11 a0 a5 a6 a8 a9 H6)
theorem aje{R:aK}(hR:bS R){K:KF}{x11:aQ}(h11:Kv K x11):Ii K (Ik R K x11):=λa0 a5 a6 a8 a9 H h=>pk hR (cc h11 .nil) h
def CG(R:aK)(K:KF)(i1:ay):aQ:=Ik R K (VV R K i1)
theorem Nu{R:aK}(hR:bS R){K:KF}{i1:ay}(g1:eE K i1):Ii K (CG R K i1):=aje hR (abi hR g1)
def zQ(R:aK)(K:KF)(x1:ay)(a0 a5 a6:AV)(a9:Int)(H:AH):Prop:=aM 4 a6 H λv1=>onVal v1 λl2=>iE l2 4 (bG (aA H) 1 4 (spl l2 [(.int 0 (.ofNat 0)),(.str 0 0),(.int 0 (.ofNat 0)),(.int 0 (.ofNat 0))] 0) λv3 H4=>cV 4 40 a5 v3 H4 λv5 H6=>x1 a0 v5 a6 a9 H6)
theorem abj{R:aK}(hR:bS R){K:KF}{x1:ay}(h1:eE K x1):Kw K (zQ R K x1):=λa0 a5 a6 a9 H h=>pk hR (cc h1 .nil) h
def VW(R:aK)(K:KF)(i1:ay):ay:=zQ R K i1
theorem abk{R:aK}(hR:bS R){K:KF}{i1:ay}(g1:eE K i1):Kw K (VW R K i1):=abj hR g1
def Il(R:aK)(K:KF)(x12:ay)(x5:Ti)(a0 a5 a6:AV)(a8:Int)(H:AH):Prop:=ah 0 a6 λv1=>ag 1 v1 (.int 0 (.ofNat 4)) H λH2=>eX a0 (some (.int 0 a8)) none λv3=>R.2.2.2.2.2.2.2 v3 H2 λo4 H5=>cR K o4 H5 λv6=>dv v6 λl7=>cE l7 0 λv8=>dv v6 λl9=>cE l9 1 λv10=>cI 0 v10 λz11=>ah 1 a6 λv12=>ag 1 v12 v8 H5 λdj=>bI (aV z11 (.ofNat 0)) (x5 a8 dj) (aJ 0 (Int.add z11 a8) λlL=>x12 a0 a5 a6 lL dj)
theorem ajf{R:aK}(hR:bS R){K:KF}{x12:ay}{x5:Ti}(h12:Kw K x12)(h5:w8 K x5):Ij K (Il R K x12 x5):=λa0 a5 a6 a8 H h=>pk hR (cc h12 (cc h5 .nil)) h
def zR(R:aK)(K:KF)(i1:ay):ay:=Il R K (VW R K i1) (zM R K)
theorem Nv{R:aK}(hR:bS R){K:KF}{i1:ay}(g1:eE K i1):Ij K (zR R K i1):=ajf hR (abk hR g1) (tQ hR)
def zS(R:aK)(K:KF)(x20:ay)(x3:aQ)(x4:ay)(a0 a5 a6:AV)(a8 a9:Int)(H:AH):Prop:=bI (bO a8 a9) (x3 a0 a5 a6 a8 a9 H) (gN a0 (.int 0 a8) λv1=>cI 1 v1 λz2=>bI (aV z2 (.ofNat 34)) (x4 a0 a5 a6 a8 H) (gN a0 (.int 0 a8) λv3=>cI 1 v3 λz4=>bI (aV z4 (.ofNat 39)) (x4 a0 a5 a6 a8 H) (x20 a0 a5 a6 a8 H)))
theorem abl{R:aK}(hR:bS R){K:KF}{x20:ay}{x3:aQ}{x4:ay}(h20:KB K x20)(h3:Ii K x3)(h4:Ij K x4):KG K (zS R K x20 x3 x4):=λa0 a5 a6 a8 a9 H h=>pk hR (cc h20 (cc h3 (cc h4 .nil))) h
def vB(R:aK)(K:KF)(i1:ay):aQ:=zS R K (vA R K i1) (CG R K i1) (zR R K i1)
theorem abm{R:aK}(hR:bS R){K:KF}{i1:ay}(g1:eE K i1):KG K (vB R K i1):=abl hR (abg hR g1) (Nu hR g1) (Nv hR g1)
def DW(R:aK)(K:KF)(x6:ay)(a0 a5 a6:AV)(a9:Int)(H:AH):Prop:=ah 1 a6 λv1=>ag 1 v1 (.str 0 0) H λH2=>x6 a0 a5 a6 a9 H2
theorem abn{R:aK}(hR:bS R){K:KF}{x6:ay}(h6:zK K x6):Ku K (DW R K x6):=λa0 a5 a6 a9 H h=>pk hR (cc h6 .nil) h
def VX(R:aK)(K:KF)(i1:ay):ay:=DW R K (CF R K i1)
theorem abo{R:aK}(hR:bS R){K:KF}{i1:ay}(g1:eE K i1):Ku K (VX R K i1):=abn hR (yv hR g1)
def Im(R:aK)(K:KF)(x10:ay)(x5:Ti)(a0 a5 a6:AV)(a8 a9:Int)(H:AH):Prop:=ah 0 a6 λv1=>ag 1 v1 (.int 0 (.ofNat 3)) H λH2=>ah 1 a6 λv3=>af v3 H2 λv4=>R.2.2.2.2.2.2.1 v4 (.ofNat 10) (.ofNat 64) H2 λo5 H6=>cR K o5 H6 λv7=>dv v7 λl8=>cE l8 0 λv9=>cI 0 v9 λz10=>dv v7 λVh=>cE Vh 1 λv12=>ah 2 a6 λv13=>ag 1 v13 (.int 0 z10) H6 λdG=>xS false v12 λv15=>bC v15 λlK=>bI lK (x5 a8 dG) (ah 1 a6 λv17=>af v17 dG λv18=>R.1 v18 (.ofNat 95) dG λzu gV=>cR K zu gV λv21=>cI 0 v21 λz22=>bI (!(bO z22 (.ofNat 0))) (x5 a8 gV) (x10 a0 a5 a6 a9 gV))
theorem ajg{R:aK}(hR:bS R){K:KF}{x10:ay}{x5:Ti}(h10:Ku K x10)(h5:w8 K x5):Ih K (Im R K x10 x5):=λa0 a5 a6 a8 a9 H h=>pk hR (cc h10 (cc h5 .nil)) h
def CH(R:aK)(K:KF)(i1:ay):aQ:=Im R K (VX R K i1) (zM R K)
theorem Nw{R:aK}(hR:bS R){K:KF}{i1:ay}(g1:eE K i1):Ih K (CH R K i1):=ajg hR (abo hR g1) (tQ hR)
def zT(R:aK)(K:KF)(x25 x2:aQ)(a0 a5 a6:AV)(a8 a9:Int)(H:AH):Prop:=eX a0 (some (.int 0 a8)) (some (.int 0 a9)) λv1=>ah 1 a6 λv2=>ag 1 v2 v1 H λH3=>bI (bO a8 a9) (gN a0 (.int 0 a8) λv4=>cI 1 v4 λz5=>R.2.2.2.1 z5 H3 λo6 H7=>cR K o6 H7 λv8=>bC v8 λz9=>bI z9 (x2 a0 a5 a6 a8 a9 H7) (x25 a0 a5 a6 a8 a9 H7)) (x25 a0 a5 a6 a8 a9 H3)
theorem abp{R:aK}(hR:bS R){K:KF}{x25 x2:aQ}(h25:KG K x25)(h2:Ih K x2):Ky K (zT R K x25 x2):=λa0 a5 a6 a8 a9 H h=>pk hR (cc h25 (cc h2 .nil)) h
def qz(R:aK)(K:KF)(i1:ay):aQ:=zT R K (vB R K i1) (CH R K i1)
theorem abq{R:aK}(hR:bS R){K:KF}{i1:ay}(g1:eE K i1):Ky K (qz R K i1):=abp hR (abm hR g1) (Nw hR g1)
def vC(R:aK)(K:KF)(x18 x14:aQ)(a0 a5 a6:AV)(a8 a9:Int)(H:AH):Prop:=sLen a0 λv1=>cI 0 v1 λz2=>bI (bO a9 z2) (gN a0 (.int 0 a9) λv3=>cI 1 v3 λz4=>R.2.2.1 z4 H λo5 H6=>cR K o5 H6 λv7=>bC v7 λz8=>bI z8 (aJ 0 (Int.add a9 (.ofNat 1)) λz9=>x18 a0 a5 a6 a8 z9 H6) (x14 a0 a5 a6 a8 a9 H6)) (x14 a0 a5 a6 a8 a9 H)
theorem abr{R:aK}(hR:bS R){K:KF}{x18 x14:aQ}(h18:sx K x18)(h14:Ky K x14):sx K (vC R K x18 x14):=λa0 a5 a6 a8 a9 H h=>pk hR (cc h18 (cc h14 .nil)) h
def VY(R:aK)(K:KF)(i1:ay)(i18:aQ):aQ:=vC R K i18 (qz R K i1)
theorem abt{R:aK}(hR:bS R){K:KF}{i1:ay}{i18:aQ}(g1:eE K i1)(g18:sx K i18):sx K (VY R K i1 i18):=abr hR g18 (abq hR g1)
def kh(R:aK)(K:KF)(i1:ay)(n:Nat):aQ:=Nat.rec (motive:=λ_=>aQ) (λ_ _ _ _ _ _=>False) (λ_ i=>VY R K i1 i) n
theorem abu{R:aK}(hR:bS R){K:KF}{i1:ay}(g1:eE K i1)(n:Nat):sx K (kh R K i1 n):=Nat.rec (motive:=λn=>sx K (kh R K i1 n)) (λa0 a5 a6 a8 a9 H h=>h.elim) (λn ih=>abt hR g1 ih) n
def rn(R:aK)(K:KF)(x18:aQ)(a0 a5 a6:AV)(a8:Int)(H:AH):Prop:=ag 4 a6 (.agg [(.int 0 (.ofNat 0)),(.str 0 0),(.int 0 (.ofNat 0)),(.int 0 a8)]) H λH1=>sLen a0 λv2=>cI 0 v2 λz3=>bI (aV a8 z3) (aM 4 a6 H1 λv4=>onVal v4 λl5=>iE l5 4 (bG (aA H1) 1 4 (spl l5 [(.int 0 (.ofNat 0)),(.str 0 0),(.int 0 (.ofNat 0)),(.int 0 (.ofNat 0))] 0) λv6 H7=>cV 4 40 a5 v6 H7 λv8 H9=>K (.ret (.aE [v8,(.int 0 (.ofNat 0)),(.int 0 (.ofNat 0))])) H9)) (x18 a0 a5 a6 a8 a8 H1)
theorem ajh{R:aK}(hR:bS R){K:KF}{x18:aQ}(h18:sx K x18):Q4 K (rn R K x18):=λa0 a5 a6 a8 H h=>pk hR (cc h18 .nil) h
def Io(R:aK)(K:KF)(i1:ay):ay:=rn R K (kh R K i1 NL)
theorem aji{R:aK}(hR:bS R){K:KF}{i1:ay}(g1:eE K i1):Q4 K (Io R K i1):=ajh hR (abu hR g1 NL)
def pF(R:aK)(K:KF)(x15 x9:ay)(a0 a5 a6:AV)(a8:Int)(H:AH):Prop:=eX a0 (some (.int 0 a8)) none λv1=>R.2.1 v1 (.str 2 11565) H λo2 H3=>cR K o2 H3 λv4=>bC v4 λz5=>bI z5 (x15 a0 a5 a6 a8 H3) (x9 a0 a5 a6 a8 H3)
theorem ajj{R:aK}(hR:bS R){K:KF}{x15 x9:ay}(h15:sv K x15)(h9:Q4 K x9):Q3 K (pF R K x15 x9):=λa0 a5 a6 a8 H h=>pk hR (cc h15 (cc h9 .nil)) h
def CI(R:aK)(K:KF)(i1:ay):ay:=pF R K (kP R K i1 NL) (Io R K i1)
theorem ajk{R:aK}(hR:bS R){K:KF}{i1:ay}(g1:eE K i1):Q3 K (CI R K i1):=ajj hR (abc hR g1 NL) (aji hR g1)
def mH(R:aK)(K:KF)(x8 x7:ay)(a0 a5 a6:AV)(a8:Int)(H:AH):Prop:=sLen a0 λv1=>cI 0 v1 λz2=>bI (bO a8 z2) (gN a0 (.int 0 a8) λv3=>cI 1 v3 λz4=>R.1 (.str 4 218761504) z4 H λo5 H6=>cR K o5 H6 λv7=>cI 0 v7 λz8=>bI (!(bO z8 (.ofNat 0))) (aJ 0 (Int.add a8 (.ofNat 1)) λz9=>x8 a0 a5 a6 z9 H6) (x7 a0 a5 a6 a8 H6)) (x7 a0 a5 a6 a8 H)
theorem ajl{R:aK}(hR:bS R){K:KF}{x8 x7:ay}(h8:w9 K x8)(h7:Q3 K x7):w9 K (mH R K x8 x7):=λa0 a5 a6 a8 H h=>pk hR (cc h8 (cc h7 .nil)) h
def ajm(R:aK)(K:KF)(i1 i8:ay):ay:=mH R K i8 (CI R K i1)
theorem ajn{R:aK}(hR:bS R){K:KF}{i1 i8:ay}(g1:eE K i1)(g8:w9 K i8):w9 K (ajm R K i1 i8):=ajl hR g8 (ajk hR g1)
def iU(R:aK)(K:KF)(i1:ay)(n:Nat):ay:=Nat.rec (motive:=λ_=>ay) (λ_ _ _ _ _=>False) (λ_ i=>ajm R K i1 i) n
theorem ajo{R:aK}(hR:bS R){K:KF}{i1:ay}(g1:eE K i1)(n:Nat):w9 K (iU R K i1 n):=Nat.rec (motive:=λn=>w9 K (iU R K i1 n)) (λa0 a5 a6 a8 H h=>h.elim) (λn ih=>ajn hR g1 ih) n
def Ip(R:aK)(K:KF)(x8:ay)(a0 a5 a6:AV)(a8:Int)(H:AH):Prop:=x8 a0 a5 a6 a8 H
theorem ajp{R:aK}(hR:bS R){K:KF}{x8:ay}(h8:w9 K x8):eE K (Ip R K x8):=λa0 a5 a6 a8 H h=>pk hR (cc h8 .nil) h
def ajq(R:aK)(K:KF)(i1:ay):ay:=Ip R K (iU R K i1 NL)
theorem ajr{R:aK}(hR:bS R){K:KF}{i1:ay}(g1:eE K i1):eE K (ajq R K i1):=ajp hR (ajo hR g1 NL)
def eZ(R:aK)(K:KF)(n:Nat):ay:=Nat.rec (motive:=λ_=>ay) (λ_ _ _ _ _=>False) (λ_ i=>ajq R K i) n
theorem tU{R:aK}(hR:bS R){K:KF}(n:Nat):eE K (eZ R K n):=Nat.rec (motive:=λn=>eE K (eZ R K n)) (λa0 a5 a6 a8 H h=>h.elim) (λn ih=>ajr hR ih) n
def KL(R:aK)(K:KF)(x1:ay)(a0 a5 a6:AV)(a8:Int)(H:AH):Prop:=x1 a0 a5 a6 a8 H
theorem abv{R:aK}(hR:bS R){K:KF}{x1:ay}(h1:eE K x1):KC K (KL R K x1):=λa0 a5 a6 a8 H h=>pk hR (cc h1 .nil) h
def zU(R:aK)(K:KF):ay:=KL R K (eZ R K NL)
theorem abw{R:aK}(hR:bS R){K:KF}:KC K (zU R K):=abv hR (tU hR NL)
def DX(R:aK)(K:KF)(x27 x23:ay)(a0 a5 a6:AV)(a8:Int)(H:AH):Prop:=sLen a0 λv1=>cI 0 v1 λz2=>bI (bO a8 z2) (gN a0 (.int 0 a8) λv3=>cI 1 v3 λz4=>bI (!(aV z4 (.ofNat 10))) (aJ 0 (Int.add a8 (.ofNat 1)) λz5=>x27 a0 a5 a6 z5 H) (x23 a0 a5 a6 a8 H)) (x23 a0 a5 a6 a8 H)
theorem abx{R:aK}(hR:bS R){K:KF}{x27 x23:ay}(h27:sy K x27)(h23:KC K x23):sy K (DX R K x27 x23):=λa0 a5 a6 a8 H h=>pk hR (cc h27 (cc h23 .nil)) h
def VZ(R:aK)(K:KF)(i27:ay):ay:=DX R K i27 (zU R K)
theorem aby{R:aK}(hR:bS R){K:KF}{i27:ay}(g27:sy K i27):sy K (VZ R K i27):=abx hR g27 (abw hR)
def vD(R:aK)(K:KF)(n:Nat):ay:=Nat.rec (motive:=λ_=>ay) (λ_ _ _ _ _=>False) (λ_ i=>VZ R K i) n
theorem abz{R:aK}(hR:bS R){K:KF}(n:Nat):sy K (vD R K n):=Nat.rec (motive:=λn=>sy K (vD R K n)) (λa0 a5 a6 a8 H h=>h.elim) (λn ih=>aby hR ih) n
def KM(R:aK)(K:KF)(x5:Ti)(x6:ay)(a0 a5 a6:AV)(a8 a9:Int)(H:AH):Prop:=bI (aV a9 a8) (x5 a8 H) (x6 a0 a5 a6 a9 H)
theorem abA{R:aK}(hR:bS R){K:KF}{x5:Ti}{x6:ay}(h5:w8 K x5)(h6:zK K x6):KJ K (KM R K x5 x6):=λa0 a5 a6 a8 a9 H h=>pk hR (cc h5 (cc h6 .nil)) h
def DY(R:aK)(K:KF):aQ:=KM R K (zM R K) (CF R K (eZ R K NL))
theorem abB{R:aK}(hR:bS R){K:KF}:KJ K (DY R K):=abA hR (tQ hR) (yv hR (tU hR NL))
def KN(R:aK)(K:KF)(x32:aQ)(a0 a5 a6:AV)(a8:Int)(H:AH):Prop:=eX a0 (some (.int 0 a8)) none λv1=>R.2.2.2.2.1 v1 H λo2 H3=>cR K o2 H3 λv4=>ah 0 a6 λv5=>ag 1 v5 (.int 0 (.ofNat 5)) H3 λH6=>ah 1 a6 λv7=>ag 1 v7 v4 H6 λH8=>ah 1 a6 λv9=>af v9 H8 λv10=>sLen v10 λv11=>cI 0 v11 λz12=>aJ 0 (Int.add a8 z12) λz13=>x32 a0 a5 a6 a8 z13 H8
theorem abC{R:aK}(hR:bS R){K:KF}{x32:aQ}(h32:KJ K x32):KI K (KN R K x32):=λa0 a5 a6 a8 H h=>pk hR (cc h32 .nil) h
def DZ(R:aK)(K:KF):ay:=KN R K (DY R K)
theorem abD{R:aK}(hR:bS R){K:KF}:KI K (DZ R K):=abC hR (abB hR)
def KO(R:aK)(K:KF)(x30:ay)(x3:aQ)(x4:ay)(a0 a5 a6:AV)(a8 a9:Int)(H:AH):Prop:=bI (bO a8 a9) (x3 a0 a5 a6 a8 a9 H) (gN a0 (.int 0 a8) λv1=>cI 1 v1 λz2=>bI (aV z2 (.ofNat 34)) (x4 a0 a5 a6 a8 H) (gN a0 (.int 0 a8) λv3=>cI 1 v3 λz4=>bI (aV z4 (.ofNat 39)) (x4 a0 a5 a6 a8 H) (x30 a0 a5 a6 a8 H)))
theorem abE{R:aK}(hR:bS R){K:KF}{x30:ay}{x3:aQ}{x4:ay}(h30:KI K x30)(h3:Ii K x3)(h4:Ij K x4):KK K (KO R K x30 x3 x4):=λa0 a5 a6 a8 a9 H h=>pk hR (cc h30 (cc h3 (cc h4 .nil))) h
def D0(R:aK)(K:KF):aQ:=KO R K (DZ R K) (CG R K (eZ R K NL)) (zR R K (eZ R K NL))
theorem abF{R:aK}(hR:bS R){K:KF}:KK K (D0 R K):=abE hR (abD hR) (Nu hR (tU hR NL)) (Nv hR (tU hR NL))
def KQ(R:aK)(K:KF)(x33 x2:aQ)(a0 a5 a6:AV)(a8 a9:Int)(H:AH):Prop:=eX a0 (some (.int 0 a8)) (some (.int 0 a9)) λv1=>ah 1 a6 λv2=>ag 1 v2 v1 H λH3=>bI (bO a8 a9) (gN a0 (.int 0 a8) λv4=>cI 1 v4 λz5=>R.2.2.2.1 z5 H3 λo6 H7=>cR K o6 H7 λv8=>bC v8 λz9=>bI z9 (x2 a0 a5 a6 a8 a9 H7) (x33 a0 a5 a6 a8 a9 H7)) (x33 a0 a5 a6 a8 a9 H3)
theorem abG{R:aK}(hR:bS R){K:KF}{x33 x2:aQ}(h33:KK K x33)(h2:Ih K x2):KH K (KQ R K x33 x2):=λa0 a5 a6 a8 a9 H h=>pk hR (cc h33 (cc h2 .nil)) h
def zV(R:aK)(K:KF):aQ:=KQ R K (D0 R K) (CH R K (eZ R K NL))
theorem abH{R:aK}(hR:bS R){K:KF}:KH K (zV R K):=abG hR (abF hR) (Nw hR (tU hR NL))
def D2(R:aK)(K:KF)(x29 Fs:aQ)(a0 a5 a6:AV)(a8 a9:Int)(H:AH):Prop:=sLen a0 λv1=>cI 0 v1 λz2=>bI (bO a9 z2) (gN a0 (.int 0 a9) λv3=>cI 1 v3 λz4=>R.2.2.1 z4 H λo5 H6=>cR K o5 H6 λv7=>bC v7 λz8=>bI z8 (aJ 0 (Int.add a9 (.ofNat 1)) λz9=>x29 a0 a5 a6 a8 z9 H6) (Fs a0 a5 a6 a8 a9 H6)) (Fs a0 a5 a6 a8 a9 H)
theorem abI{R:aK}(hR:bS R){K:KF}{x29 Fs:aQ}(h29:sA K x29)(h26:KH K Fs):sA K (D2 R K x29 Fs):=λa0 a5 a6 a8 a9 H h=>pk hR (cc h29 (cc h26 .nil)) h
def V0(R:aK)(K:KF)(i29:aQ):aQ:=D2 R K i29 (zV R K)
theorem abJ{R:aK}(hR:bS R){K:KF}{i29:aQ}(g29:sA K i29):sA K (V0 R K i29):=abI hR g29 (abH hR)
def vE(R:aK)(K:KF)(n:Nat):aQ:=Nat.rec (motive:=λ_=>aQ) (λ_ _ _ _ _ _=>False) (λ_ i=>V0 R K i) n
theorem abK{R:aK}(hR:bS R){K:KF}(n:Nat):sA K (vE R K n):=Nat.rec (motive:=λn=>sA K (vE R K n)) (λa0 a5 a6 a8 a9 H h=>h.elim) (λn ih=>abJ hR ih) n
def KS(R:aK)(K:KF)(x29:aQ)(a0 a5 a6:AV)(a8:Int)(H:AH):Prop:=ag 4 a6 (.agg [(.int 0 (.ofNat 0)),(.str 0 0),(.int 0 (.ofNat 0)),(.int 0 a8)]) H λH1=>sLen a0 λv2=>cI 0 v2 λz3=>bI (aV a8 z3) (aM 4 a6 H1 λv4=>onVal v4 λl5=>iE l5 4 (bG (aA H1) 1 4 (spl l5 [(.int 0 (.ofNat 0)),(.str 0 0),(.int 0 (.ofNat 0)),(.int 0 (.ofNat 0))] 0) λv6 H7=>cV 4 40 a5 v6 H7 λv8 H9=>K (.ret (.aE [v8,(.int 0 (.ofNat 0)),(.int 0 (.ofNat 0))])) H9)) (x29 a0 a5 a6 a8 a8 H1)
theorem abL{R:aK}(hR:bS R){K:KF}{x29:aQ}(h29:sA K x29):KA K (KS R K x29):=λa0 a5 a6 a8 H h=>pk hR (cc h29 .nil) h
def D3(R:aK)(K:KF):ay:=KS R K (vE R K NL)
theorem abM{R:aK}(hR:bS R){K:KF}:KA K (D3 R K):=abL hR (abK hR NL)
def KU(R:aK)(K:KF)(x27 x19:ay)(a0 a5 a6:AV)(a8:Int)(H:AH):Prop:=eX a0 (some (.int 0 a8)) none λv1=>R.2.1 v1 (.str 2 11565) H λo2 H3=>cR K o2 H3 λv4=>bC v4 λz5=>bI z5 (x27 a0 a5 a6 a8 H3) (x19 a0 a5 a6 a8 H3)
theorem abN{R:aK}(hR:bS R){K:KF}{x27 x19:ay}(h27:sy K x27)(h19:KA K x19):Kz K (KU R K x27 x19):=λa0 a5 a6 a8 H h=>pk hR (cc h27 (cc h19 .nil)) h
def zW(R:aK)(K:KF):ay:=KU R K (vD R K NL) (D3 R K)
theorem abO{R:aK}(hR:bS R){K:KF}:Kz K (zW R K):=abN hR (abz hR NL) (abM hR)
def D4(R:aK)(K:KF)(x17 x16:ay)(a0 a5 a6:AV)(a8:Int)(H:AH):Prop:=sLen a0 λv1=>cI 0 v1 λz2=>bI (bO a8 z2) (gN a0 (.int 0 a8) λv3=>cI 1 v3 λz4=>R.1 (.str 4 218761504) z4 H λo5 H6=>cR K o5 H6 λv7=>cI 0 v7 λz8=>bI (!(bO z8 (.ofNat 0))) (aJ 0 (Int.add a8 (.ofNat 1)) λz9=>x17 a0 a5 a6 z9 H6) (x16 a0 a5 a6 a8 H6)) (x16 a0 a5 a6 a8 H)
theorem abP{R:aK}(hR:bS R){K:KF}{x17 x16:ay}(h17:sw K x17)(h16:Kz K x16):sw K (D4 R K x17 x16):=λa0 a5 a6 a8 H h=>pk hR (cc h17 (cc h16 .nil)) h
def V1(R:aK)(K:KF)(i17:ay):ay:=D4 R K i17 (zW R K)
theorem abQ{R:aK}(hR:bS R){K:KF}{i17:ay}(g17:sw K i17):sw K (V1 R K i17):=abP hR g17 (abO hR)
def sB(R:aK)(K:KF)(n:Nat):ay:=Nat.rec (motive:=λ_=>ay) (λ_ _ _ _ _=>False) (λ_ i=>V1 R K i) n
theorem abR{R:aK}(hR:bS R){K:KF}(n:Nat):sw K (sB R K n):=Nat.rec (motive:=λn=>sw K (sB R K n)) (λa0 a5 a6 a8 H h=>h.elim) (λn ih=>abQ hR ih) n
def Iq(R:aK)(K:KF)(x17:ay)(a0:AV)(H:AH):Prop:=sLen a0 λv1=>cI 0 v1 λz2=>bI (bO (.ofNat 16384) z2) (K (.ret (.aE [.ab,(.int 0 (.ofNat 8)),(.int 0 (.ofNat 0))])) H) (cm H (dC (aA H) [(.int 0 (.ofNat 0)),(.str 0 0),(.int 0 (.ofNat 0)),(.int 0 (.ofNat 0))] λv3 H4=>x17 a0 .ab v3 (.ofNat 0) H4))
theorem ajs{R:aK}(hR:bS R){K:KF}{x17:ay}(h17:sw K x17)(a0:AV)(H:AH)(h:Iq R K x17 a0 H):cx 21 K [] (aT (cv 21) [a0]) [] H:=pk hR (cc h17 .nil) h
def avM(R:aK)(K:KF):Ta:=Iq R K (sB R K NL)
def apT(R:aK):AV→AH→KF→Prop:=λa0 H K=>avM R K a0 H
theorem ar3(R:aK)(hR:bS R):an gPa 21 (ai [.a] (apT R)):=rk λK a0 H h=>ajs hR (abR hR NL) a0 H h
abbrev gx:Type:=AV→AV→AV→AV→Int→AH→Prop
abbrev Og:Type:=AV→AV→AV→Bool→AH→Prop
abbrev yw:Type:=AV→AV→AV→Int→AV→AV→Int→Int→AH→Prop
abbrev de:Type:=AV→AV→AV→Int→AV→Int→Int→AH→Prop
abbrev Ir:Type:=AV→AV→AV→Int→Bool→AH→Prop
abbrev ie:Type:=AV→AV→Int→Bool→AH→Prop
abbrev dA:Type:=AV→AV→Int→Int→AV→Int→Int→AH→Prop
abbrev tm:Type:=AV→Int→Int→Int→AH→Prop
abbrev avN:Type:=AV→Int→Int→Int→AV→AH→Prop
abbrev anR:Type:=Int→AV→AV→AH→Prop
abbrev pG:Type:=Int→AV→AV→AV→Int→AH→Prop
abbrev qA:Type:=Int→Int→AV→AV→AV→AV→AH→Prop
abbrev cT:Type:=Unit
def avO(R:cT):List (Nat×bQ):=[]
abbrev iH(R:cT):Prop:=ad gPa (avO R)
abbrev Q5(K:KF)(F:bf):Prop:=aN 20 K [1,1,1] 54 [1,2,5] [.a,.a,.a] F
abbrev xf(K:KF)(F:pG):Prop:=aN 20 K [0,1,0,1,1] 54 [0,1,2,5,6] [.i 0,.a,.a,.a,.i 0] F
abbrev Q6(K:KF)(F:bf):Prop:=aN 20 K [1,1,1,1,1] 54 [2,5,7] [.a,.a,.a] F
abbrev Q8(K:KF)(F:bf):Prop:=aN 20 K [1,1,1,1,1,1] 54 [2,5,7] [.a,.a,.a] F
abbrev xg(K:KF)(F:gx):Prop:=aN 20 K [0,1,0,1,1,1,1] 54 [1,2,5,7,8] [.a,.a,.a,.a,.i 0] F
abbrev xi(K:KF)(F:ay):Prop:=aN 20 K [0,1,0,1,1,1,1,1] 54 [2,5,7,9] [.a,.a,.a,.i 0] F
abbrev Q9(K:KF)(F:aU):Prop:=aN 20 K [1,1,1,1,1,1,1,1] 54 [5,7] [.a,.a] F
abbrev xj(K:KF)(F:ay):Prop:=aN 20 K [0,1,0,1,1,1,1,1,1,1] 54 [2,5,7,10] [.a,.a,.a,.i 0] F
def Ra(R:cT)(K:KF)(a5 a7:AV)(H:AH):Prop:=oT a7 (.str 7 9128637130630514) λv1=>oT v1 a5 λv2=>K (.ret v2) H
theorem ajt{R:cT}(hR:iH R){K:KF}:Q9 K (Ra R K):=λa5 a7 H h=>pk hR .nil h
def Is(R:cT)(K:KF):aU:=Ra R K
theorem aju{R:cT}(hR:iH R){K:KF}:Q9 K (Is R K):=ajt hR
def It(R:cT)(K:KF)(x8:ay)(x7:aU)(a2 a5 a7:AV)(a10:Int)(H:AH):Prop:=af a2 H λv1=>cI 0 v1 λz2=>bI (bO a10 z2) (oT a7 (.str 4 543452773) λv3=>aJ 0 (Int.add a10 (.ofNat 1)) λz4=>x8 a2 a5 v3 z4 H) (x7 a5 a7 H)
theorem ajv{R:cT}(hR:iH R){K:KF}{x8:ay}{x7:aU}(h8:xj K x8)(h7:Q9 K x7):xj K (It R K x8 x7):=λa2 a5 a7 a10 H h=>pk hR (cc h8 (cc h7 .nil)) h
def ajw(R:cT)(K:KF)(i8:ay):ay:=It R K i8 (Is R K)
theorem ajx{R:cT}(hR:iH R){K:KF}{i8:ay}(g8:xj K i8):xj K (ajw R K i8):=ajv hR g8 (aju hR)
def zX(R:cT)(K:KF)(n:Nat):ay:=Nat.rec (motive:=λ_=>ay) (λ_ _ _ _ _=>False) (λ_ i=>ajw R K i) n
theorem ajy{R:cT}(hR:iH R){K:KF}(n:Nat):xj K (zX R K n):=Nat.rec (motive:=λn=>xj K (zX R K n)) (λa2 a5 a7 a10 H h=>h.elim) (λn ih=>ajx hR ih) n
def Iu(R:cT)(K:KF)(x8:ay)(a2 a5 a7:AV)(H:AH):Prop:=oT a7 (.str 7 9128637130630514) λv1=>oT v1 a5 λv2=>oT v2 (.str 1 32) λv3=>x8 a2 a5 v3 (.ofNat 0) H
theorem ajz{R:cT}(hR:iH R){K:KF}{x8:ay}(h8:xj K x8):Q8 K (Iu R K x8):=λa2 a5 a7 H h=>pk hR (cc h8 .nil) h
def ajA(R:cT)(K:KF):bf:=Iu R K (zX R K NL)
theorem ajB{R:cT}(hR:iH R){K:KF}:Q8 K (ajA R K):=ajz hR (ajy hR NL)
def Iv(R:cT)(K:KF)(x6:ay)(x4:bf)(a2 a5 a7:AV)(a9:Int)(H:AH):Prop:=af a2 H λv1=>cI 0 v1 λz2=>bI (bO a9 z2) (oT a7 (.str 6 35649862463340) λv3=>oT v3 a5 λv4=>oT v4 (.str 14 652297974888299277214257271291168) λv5=>aJ 0 (Int.add a9 (.ofNat 1)) λz6=>x6 a2 a5 v5 z6 H) (x4 a2 a5 a7 H)
theorem ajC{R:cT}(hR:iH R){K:KF}{x6:ay}{x4:bf}(h6:xi K x6)(h4:Q8 K x4):xi K (Iv R K x6 x4):=λa2 a5 a7 a9 H h=>pk hR (cc h6 (cc h4 .nil)) h
def ajD(R:cT)(K:KF)(i6:ay):ay:=Iv R K i6 (ajA R K)
theorem ajE{R:cT}(hR:iH R){K:KF}{i6:ay}(g6:xi K i6):xi K (ajD R K i6):=ajC hR g6 (ajB hR)
def zY(R:cT)(K:KF)(n:Nat):ay:=Nat.rec (motive:=λ_=>ay) (λ_ _ _ _ _=>False) (λ_ i=>ajD R K i) n
theorem ajF{R:cT}(hR:iH R){K:KF}(n:Nat):xi K (zY R K n):=Nat.rec (motive:=λn=>xi K (zY R K n)) (λa2 a5 a7 a9 H h=>h.elim) (λn ih=>ajE hR ih) n
def Iw(R:cT)(K:KF)(x6:ay)(a2 a5 a7:AV)(H:AH):Prop:=x6 a2 a5 a7 (.ofNat 0) H
theorem ajG{R:cT}(hR:iH R){K:KF}{x6:ay}(h6:xi K x6):Q6 K (Iw R K x6):=λa2 a5 a7 H h=>pk hR (cc h6 .nil) h
def ajH(R:cT)(K:KF):bf:=Iw R K (zY R K NL)
theorem ajI{R:cT}(hR:iH R){K:KF}:Q6 K (ajH R K):=ajG hR (ajF hR NL)
def Ix(R:cT)(K:KF)(x5:gx)(x3:bf)(a1 a2 a5 a7:AV)(a8:Int)(H:AH):Prop:=af a1 H λv1=>cI 0 v1 λz2=>bI (bO a8 z2) (oT a7 (.str 6 35649862463340) λv3=>oT v3 a5 λv4=>oT v4 (.str 5 138263149856) λv5=>aJ 0 (Int.add a8 (.ofNat 1)) λz6=>x5 a1 a2 a5 v5 z6 H) (x3 a2 a5 a7 H)
theorem ajJ{R:cT}(hR:iH R){K:KF}{x5:gx}{x3:bf}(h5:xg K x5)(h3:Q6 K x3):xg K (Ix R K x5 x3):=λa1 a2 a5 a7 a8 H h=>pk hR (cc h5 (cc h3 .nil)) h
def ajK(R:cT)(K:KF)(i5:gx):gx:=Ix R K i5 (ajH R K)
theorem ajL{R:cT}(hR:iH R){K:KF}{i5:gx}(g5:xg K i5):xg K (ajK R K i5):=ajJ hR g5 (ajI hR)
def zZ(R:cT)(K:KF)(n:Nat):gx:=Nat.rec (motive:=λ_=>gx) (λ_ _ _ _ _ _=>False) (λ_ i=>ajK R K i) n
theorem ajM{R:cT}(hR:iH R){K:KF}(n:Nat):xg K (zZ R K n):=Nat.rec (motive:=λn=>xg K (zZ R K n)) (λa1 a2 a5 a7 a8 H h=>h.elim) (λn ih=>ajL hR ih) n
def Iy(R:cT)(K:KF)(x5:gx)(a1 a2 a5:AV)(H:AH):Prop:=x5 a1 a2 a5 (.str 0 0) (.ofNat 0) H
theorem ajN{R:cT}(hR:iH R){K:KF}{x5:gx}(h5:xg K x5):Q5 K (Iy R K x5):=λa1 a2 a5 H h=>pk hR (cc h5 .nil) h
def ajO(R:cT)(K:KF):bf:=Iy R K (zZ R K NL)
theorem ajP{R:cT}(hR:iH R){K:KF}:Q5 K (ajO R K):=ajN hR (ajM hR NL)
def Iz(R:cT)(K:KF)(x2:pG)(x1:bf)(a0:Int)(a1 a2 a5:AV)(a6:Int)(H:AH):Prop:=bI (bO a6 a0) (oT a5 (.str 1 110) λv1=>aJ 0 (Int.add a6 (.ofNat 1)) λz2=>x2 a0 a1 a2 v1 z2 H) (x1 a1 a2 a5 H)
theorem ajQ{R:cT}(hR:iH R){K:KF}{x2:pG}{x1:bf}(h2:xf K x2)(h1:Q5 K x1):xf K (Iz R K x2 x1):=λa0 a1 a2 a5 a6 H h=>pk hR (cc h2 (cc h1 .nil)) h
def ajR(R:cT)(K:KF)(i2:pG):pG:=Iz R K i2 (ajO R K)
theorem ajS{R:cT}(hR:iH R){K:KF}{i2:pG}(g2:xf K i2):xf K (ajR R K i2):=ajQ hR g2 (ajP hR)
def Aa(R:cT)(K:KF)(n:Nat):pG:=Nat.rec (motive:=λ_=>pG) (λ_ _ _ _ _ _=>False) (λ_ i=>ajR R K i) n
theorem ajT{R:cT}(hR:iH R){K:KF}(n:Nat):xf K (Aa R K n):=Nat.rec (motive:=λn=>xf K (Aa R K n)) (λa0 a1 a2 a5 a6 H h=>h.elim) (λn ih=>ajS hR ih) n
def IA(R:cT)(K:KF)(x2:pG)(a0:Int)(a1 a2:AV)(H:AH):Prop:=x2 a0 a1 a2 (.str 0 0) (.ofNat 0) H
theorem ajU{R:cT}(hR:iH R){K:KF}{x2:pG}(h2:xf K x2)(a0:Int)(a1 a2:AV)(H:AH)(h:IA R K x2 a0 a1 a2 H):cx 20 K [] (aT (cv 20) [(.int 0 a0),a1,a2]) [] H:=pk hR (cc h2 .nil) h
def avP(R:cT)(K:KF):anR:=IA R K (Aa R K NL)
def apU(R:cT):Int→AV→AV→AH→KF→Prop:=λa0 a1 a2 H K=>avP R K a0 a1 a2 H
theorem ar4(R:cT)(hR:iH R):an gPa 20 (ai [.i 0,.a,.a] (apU R)):=rk λK a0 a1 a2 H h=>ajU hR (ajT hR NL) a0 a1 a2 H h
def gj:cT:=()
def f20:Int→AV→AV→AH→KF→Prop:=apU gj
theorem ajV:an gPa 20 (ai [.i 0,.a,.a] f20):=ar4 gj ad.nil
abbrev yx:Type:=Unit
def avQ(R:yx):List (Nat×bQ):=[]
abbrev apV(R:yx):Prop:=ad gPa (avQ R)
def IB(R:yx)(K:KF)(a0:AV)(H:AH):Prop:=AG true a0 λv1=>bC v1 λz2=>bI z2 (K (.ret .ab) H) (bG (aA H) 0 1 [] λv3 H4=>cV 1 16 v3 a0 H4 λv5 H6=>K (.ret v5) H6)
theorem ajW{R:yx}(hR:apV R){K:KF}(a0:AV)(H:AH)(h:IB R K a0 H):cx 35 K [] (aT (cv 35) [a0]) [] H:=pk hR .nil h
def avR(R:yx)(K:KF):Ta:=IB R K
def apW(R:yx):AV→AH→KF→Prop:=λa0 H K=>avR R K a0 H
theorem ar5(R:yx)(hR:apV R):an gPa 35 (ai [.a] (apW R)):=rk λK a0 H h=>ajW hR a0 H h
def Rb:yx:=()
def f35:AV→AH→KF→Prop:=apW Rb
theorem avS:an gPa 35 (ai [.a] f35):=ar5 Rb ad.nil
abbrev IC:Type:=Unit
def Rc(R:IC):List (Nat×bQ):=[]
noncomputable def apX(R:IC):bQ:=GV (fY (Rc R)) (Dk gPa (fY (Rc R))) gPa gPa.globals.size NL 400 81
def abS(R:IC):AV→AV→AH→KF→Prop:=λa0 a1 H K=>apX R [a0,a1] H K
theorem ar6(R:IC)(hR:ad gPa (Rc R)):an gPa 81 (ai [.a,.a] (abS R)):=an.aqY (an.FP hR mix NL 400) (λH K=>(λa0 a1 h=>h:oZ [.a,.a] (abS R) λr l=>r H K→apX R l H K))
def ajX:IC:=()
def f81:AV→AV→AH→KF→Prop:=abS ajX
theorem avT:an gPa 81 (ai [.a,.a] f81):=ar6 ajX ad.nil
abbrev yy:Type:=Unit
def avU(R:yy):List (Nat×bQ):=[]
abbrev apY(R:yy):Prop:=ad gPa (avU R)
def ajY(R:yy)(K:KF)(H:AH):Prop:=K (.ret (.aE [])) H
theorem ajZ{R:yy}(hR:apY R){K:KF}(H:AH)(h:ajY R K H):cx 83 K [] (aT (cv 83) []) [] H:=pk hR .nil h
def avV(R:yy)(K:KF):T_:=ajY R K
def apZ(R:yy):AH→KF→Prop:=fun  H K=>avV R K  H
theorem ar7(R:yy)(hR:apY R):an gPa 83 (ai [] (apZ R)):=rk λK  H h=>ajZ hR  H h
def aj0:yy:=()
def f83:AH→KF→Prop:=apZ aj0
theorem Rd:an gPa 83 (ai [] f83):=ar7 aj0 ad.nil
abbrev tV:Type:=Unit
def ar8(R:tV):List (Nat×bQ):=[]
abbrev aj1(R:tV):Prop:=ad gPa (ar8 R)
def D5(R:tV)(K:KF)(a0:AV)(H:AH):Prop:=aC a0 (ah 0 a0 λv1=>af v1 H λv2=>aC a0 (ah 0 a0 λv3=>af v3 H λv4=>bR v4 λv5=>cI 0 v5 λz6=>aJ 0 (Int.sub z6 (.ofNat 1)) λz7=>cw 1 v2 (.int 0 z7) λv8=>af v8 H λv9=>K (.ret v9) H))
theorem abT{R:tV}(hR:aj1 R){K:KF}(a0:AV)(H:AH)(h:D5 R K a0 H):cx 115 K [] (aT (cv 115) [a0]) [] H:=pk hR .nil h
def ar9(R:tV)(K:KF):Ta:=D5 R K
def aj2(R:tV):AV→AH→KF→Prop:=λa0 H K=>ar9 R K a0 H
theorem anS(R:tV)(hR:aj1 R):an gPa 115 (ai [.a] (aj2 R)):=rk λK a0 H h=>abT hR a0 H h
def KV:tV:=()
def f115:AV→AH→KF→Prop:=aj2 KV
theorem KW:an gPa 115 (ai [.a] f115):=anS KV ad.nil
abbrev eO:Type:=Unit
def asa(R:eO):List (Nat×bQ):=[]
abbrev mI(R:eO):Prop:=ad gPa (asa R)
abbrev KX(K:KF)(F:T_):Prop:=aN 138 K [1,1,0,1] 32 [] [] F
abbrev mS(K:KF)(F:aB):Prop:=aN 138 K [0,1,0,1,0,1] 32 [1,12,13,14] [.a,.a,.i 0,.i 0] F
abbrev KY(K:KF)(F:aB):Prop:=aN 138 K [1,1,1,0,0,1,0,1,0,1] 32 [1,12,13,14] [.a,.a,.i 0,.i 0] F
abbrev sC(K:KF)(F:dA):Prop:=aN 138 K [0,1,0,1,0,0,1,1,0,0,1,0,1,0,1] 32 [1,12,13,14,21,22,23] [.a,.a,.i 0,.i 0,.a,.i 0,.i 0] F
def D6(R:eO)(K:KF)(x4:aB)(a1 a12:AV)(fU Ab:Int)(H:AH):Prop:=aJ 0 (Int.add Ab (.ofNat 1)) λz1=>x4 a1 a12 fU z1 H
theorem abU{R:eO}(hR:mI R){K:KF}{x4:aB}(h4:mS K x4):KY K (D6 R K x4):=λa1 a12 fU Ab H h=>pk hR (cc h4 .nil) h
def V2(R:eO)(K:KF)(i4:aB):aB:=D6 R K i4
theorem abV{R:eO}(hR:mI R){K:KF}{i4:aB}(g4:mS K i4):KY K (V2 R K i4):=abU hR g4
def D7(R:eO)(K:KF)(x8:dA)(x6:aB)(a1 a12:AV)(fU Ab:Int)(a21:AV)(a22 a23:Int)(H:AH):Prop:=bI (bO a23 a22) (cw 1 a21 (.int 0 a23) λv1=>af v1 H λv2=>wo v2 a1 λv3=>bC v3 λz4=>bI z4 (K (.ret (.bool true)) H) (aJ 0 (Int.add a23 (.ofNat 1)) λz5=>x8 a1 a12 fU Ab a21 a22 z5 H)) (x6 a1 a12 fU Ab H)
theorem abW{R:eO}(hR:mI R){K:KF}{x8:dA}{x6:aB}(h8:sC K x8)(h6:KY K x6):sC K (D7 R K x8 x6):=λa1 a12 fU Ab a21 a22 a23 H h=>pk hR (cc h8 (cc h6 .nil)) h
def V3(R:eO)(K:KF)(i4:aB)(i8:dA):dA:=D7 R K i8 (V2 R K i4)
theorem abX{R:eO}(hR:mI R){K:KF}{i4:aB}{i8:dA}(g4:mS K i4)(g8:sC K i8):sC K (V3 R K i4 i8):=abW hR g8 (abV hR g4)
def vF(R:eO)(K:KF)(i4:aB)(n:Nat):dA:=Nat.rec (motive:=λ_=>dA) (λ_ _ _ _ _ _ _ _=>False) (λ_ i=>V3 R K i4 i) n
theorem abY{R:eO}(hR:mI R){K:KF}{i4:aB}(g4:mS K i4)(n:Nat):sC K (vF R K i4 n):=Nat.rec (motive:=λn=>sC K (vF R K i4 n)) (λa1 a12 fU Ab a21 a22 a23 H h=>h.elim) (λn ih=>abX hR g4 ih) n
def D8(R:eO)(K:KF)(H:AH):Prop:=K (.ret (.bool false)) H
theorem abZ{R:eO}(hR:mI R){K:KF}:KX K (D8 R K):=λH h=>pk hR .nil h
def V4(R:eO)(K:KF):T_:=D8 R K
theorem ab0{R:eO}(hR:mI R){K:KF}:KX K (V4 R K):=abZ hR
def D9(R:eO)(K:KF)(x8:dA)(x2:T_)(a1 a12:AV)(fU Ab:Int)(H:AH):Prop:=bI (bO Ab fU) (cw 1 a12 (.int 0 Ab) λv1=>af v1 H λv2=>aC v2 (ah 0 v2 λv3=>af v3 H λv4=>bR v4 λv5=>cI 0 v5 λz6=>x8 a1 a12 fU Ab v4 z6 (.ofNat 0) H)) (x2 H)
theorem ab1{R:eO}(hR:mI R){K:KF}{x8:dA}{x2:T_}(h8:sC K x8)(h2:KX K x2):mS K (D9 R K x8 x2):=λa1 a12 fU Ab H h=>pk hR (cc h8 (cc h2 .nil)) h
def V5(R:eO)(K:KF)(i4:aB):aB:=D9 R K (vF R K i4 NL) (V4 R K)
theorem ab2{R:eO}(hR:mI R){K:KF}{i4:aB}(g4:mS K i4):mS K (V5 R K i4):=ab1 hR (abY hR g4 NL) (ab0 hR)
def oz(R:eO)(K:KF)(n:Nat):aB:=Nat.rec (motive:=λ_=>aB) (λ_ _ _ _ _=>False) (λ_ i=>V5 R K i) n
theorem ab3{R:eO}(hR:mI R){K:KF}(n:Nat):mS K (oz R K n):=Nat.rec (motive:=λn=>mS K (oz R K n)) (λa1 a12 fU Ab H h=>h.elim) (λn ih=>ab2 hR ih) n
def Ea(R:eO)(K:KF)(x4:aB)(a0 a1:AV)(H:AH):Prop:=aC a0 (ah 0 a0 λv1=>af v1 H λv2=>bR v2 λv3=>cI 0 v3 λz4=>x4 a1 v2 z4 (.ofNat 0) H)
theorem ab4{R:eO}(hR:mI R){K:KF}{x4:aB}(h4:mS K x4)(a0 a1:AV)(H:AH)(h:Ea R K x4 a0 a1 H):cx 138 K [] (aT (cv 138) [a0,a1]) [] H:=pk hR (cc h4 .nil) h
def asb(R:eO)(K:KF):aU:=Ea R K (oz R K NL)
def aj3(R:eO):AV→AV→AH→KF→Prop:=λa0 a1 H K=>asb R K a0 a1 H
theorem anT(R:eO)(hR:mI R):an gPa 138 (ai [.a,.a] (aj3 R)):=rk λK a0 a1 H h=>ab4 hR (ab3 hR NL) a0 a1 H h
def iA:eO:=()
def f138:AV→AV→AH→KF→Prop:=aj3 iA
theorem V6:an gPa 138 (ai [.a,.a] f138):=anT iA ad.nil
abbrev tW:Type:=(AV→AV→AH→KF→Prop)×(AV→AH→KF→Prop)
def asc(R:tW):List (Nat×bQ):=[(89,ai [.a,.a] R.1),(90,ai [.a] R.2)]
abbrev aj4(R:tW):Prop:=ad gPa (asc R)
def Eb(R:tW)(K:KF)(a0:AV)(H:AH):Prop:=R.2 (.str 130 4989745452750927712642869024936041018982183869112399744596646328559347698139019358746423479417311085373974869505494574274628988303325946808601483887101106809989390966068797068531459062952690525578417336589675308608346298249300317674214036809461764501959304432550546839486516338336139505618763273980857346390260084) H λo1 H2=>cR K o1 H2 λv3=>R.1 v3 a0 H2 λo4 H5=>cR K o4 H5 λv6=>bC v6 λz7=>K (.ret (.bool z7)) H5
theorem ab5{R:tW}(hR:aj4 R){K:KF}(a0:AV)(H:AH)(h:Eb R K a0 H):cx 187 K [] (aT (cv 187) [a0]) [] H:=pk hR .nil h
def asd(R:tW)(K:KF):Ta:=Eb R K
def aj5(R:tW):AV→AH→KF→Prop:=λa0 H K=>asd R K a0 H
theorem anU(R:tW)(hR:aj4 R):an gPa 187 (ai [.a] (aj5 R)):=rk λK a0 H h=>ab5 hR a0 H h
abbrev tX:Type:=Unit
def ase(R:tX):List (Nat×bQ):=[]
abbrev aj6(R:tX):Prop:=ad gPa (ase R)
def V7(R:tX)(K:KF)(H:AH):Prop:=K (.ret (.aE [])) H
theorem ab6{R:tX}(hR:aj6 R){K:KF}(H:AH)(h:V7 R K H):cx 141 K [] (aT (cv 141) []) [] H:=pk hR .nil h
def asf(R:tX)(K:KF):T_:=V7 R K
def aj7(R:tX):AH→KF→Prop:=fun  H K=>asf R K  H
theorem anV(R:tX)(hR:aj6 R):an gPa 141 (ai [] (aj7 R)):=rk λK  H h=>ab6 hR  H h
def V8:tX:=()
def f141:AH→KF→Prop:=aj7 V8
theorem KZ:an gPa 141 (ai [] f141):=anV V8 ad.nil
abbrev tY:Type:=Unit
def asg(R:tY):List (Nat×bQ):=[]
abbrev aj8(R:tY):Prop:=ad gPa (asg R)
def V9(R:tY)(K:KF)(H:AH):Prop:=K (.ret (.aE [])) H
theorem ab7{R:tY}(hR:aj8 R){K:KF}(H:AH)(h:V9 R K H):cx 143 K [] (aT (cv 143) []) [] H:=pk hR .nil h
def ash(R:tY)(K:KF):T_:=V9 R K
def aj9(R:tY):AH→KF→Prop:=fun  H K=>ash R K  H
theorem anW(R:tY)(hR:aj8 R):an gPa 143 (ai [] (aj9 R)):=rk λK  H h=>ab7 hR  H h
def Wa:tY:=()
def f143:AH→KF→Prop:=aj9 Wa
theorem K0:an gPa 143 (ai [] f143):=anW Wa ad.nil
abbrev yz:Type:=Unit
def avW(R:yz):List (Nat×bQ):=[]
abbrev ap0(R:yz):Prop:=ad gPa (avW R)
def ID(R:yz)(K:KF)(a0:AV)(a1 a2:Int)(H:AH):Prop:=aC a0 (ah 0 a0 λv1=>af v1 H λv2=>aC a0 (ah 0 a0 λv3=>af v3 H λv4=>aC v4 (ah 0 v4 λv5=>af v5 H λv6=>bP H (bG (aA H) 1 3 [(.int 0 a1),(.int 0 a2),(.int 0 (.ofNat 0))] λv7 H8=>bT (Nat.beq H8.n (Nat.succ H.n)) (cV 3 24 v6 v7 H8 λv9 bo=>af v1 bo λv11=>bT (aH v11 v2) (aC v2 (ah 0 v2 λv12=>ag 1 v12 v9 bo λdj=>K (.ret (.aE [])) dj)))))))
theorem aka{R:yz}(hR:ap0 R){K:KF}(a0:AV)(a1 a2:Int)(H:AH)(h:ID R K a0 a1 a2 H):cx 86 K [] (aT (cv 86) [a0,(.int 0 a1),(.int 0 a2)]) [] H:=pk hR .nil h
def avX(R:yz)(K:KF):wK:=ID R K
def ap1(R:yz):AV→Int→Int→AH→KF→Prop:=λa0 a1 a2 H K=>avX R K a0 a1 a2 H
theorem asi(R:yz)(hR:ap0 R):an gPa 86 (ai [.a,.i 0,.i 0] (ap1 R)):=rk λK a0 a1 a2 H h=>aka hR a0 a1 a2 H h
def Re:yz:=()
def f86:AV→Int→Int→AH→KF→Prop:=ap1 Re
theorem tZ:an gPa 86 (ai [.a,.i 0,.i 0] f86):=asi Re ad.nil
abbrev ua:Type:=(AV→Int→Int→AH→KF→Prop)
def asj(R:ua):List (Nat×bQ):=[(86,ai [.a,.i 0,.i 0] R)]
abbrev akb(R:ua):Prop:=ad gPa (asj R)
def Ec(R:ua)(K:KF)(a0:AV)(H:AH):Prop:=R a0 (.ofNat 0) (.ofNat 0) H λo1 H2=>cR K o1 H2 λv3=>K (.ret (.aE [])) H2
theorem ab8{R:ua}(hR:akb R){K:KF}(a0:AV)(H:AH)(h:Ec R K a0 H):cx 144 K [] (aT (cv 144) [a0]) [] H:=pk hR .nil h
def asl(R:ua)(K:KF):Ta:=Ec R K
def akc(R:ua):AV→AH→KF→Prop:=λa0 H K=>asl R K a0 H
theorem anX(R:ua)(hR:akb R):an gPa 144 (ai [.a] (akc R)):=rk λK a0 H h=>ab8 hR a0 H h
def Ed:ua:=(f86)
def f144:AV→AH→KF→Prop:=akc Ed
theorem Wb:an gPa 144 (ai [.a] f144):=anX Ed (ad.cons tZ ad.nil)
abbrev lC:Type:=Unit
def avY(R:lC):List (Nat×bQ):=[]
abbrev Ee(R:lC):Prop:=ad gPa (avY R)
abbrev Rf(K:KF)(F:kM):Prop:=aN 84 K [1,1,1] 40 [0,5] [.a,.i 0] F
abbrev Rg(K:KF)(F:Ti):Prop:=aN 84 K [1,1,1,1] 40 [5] [.i 0] F
def Rh(R:lC)(K:KF)(a5:Int)(H:AH):Prop:=K (.ret (.int 0 a5)) H
theorem akd{R:lC}(hR:Ee R){K:KF}:Rg K (Rh R K):=λa5 H h=>pk hR .nil h
def ake(R:lC)(K:KF):Ti:=Rh R K
theorem akf{R:lC}(hR:Ee R){K:KF}:Rg K (ake R K):=akd hR
def IE(R:lC)(K:KF)(x2:Ti)(a0:AV)(a5:Int)(H:AH):Prop:=aC a0 (ah 0 a0 λv1=>af v1 H λv2=>aC a0 (ah 0 a0 λv3=>af v3 H λv4=>aC v4 (ah 6 v4 λv5=>af v5 H λv6=>cI 0 v6 λz7=>aJ 0 (Int.add a5 (.ofNat 1)) λz8=>oh GJ [(.int 0 z8)] (.int 0 z7) λv9=>cI 0 v9 λz10=>aC v2 (ah 6 v2 λv11=>ag 1 v11 (.int 0 z10) H λcU=>x2 a5 cU))))
theorem akg{R:lC}(hR:Ee R){K:KF}{x2:Ti}(h2:Rg K x2):Rf K (IE R K x2):=λa0 a5 H h=>pk hR (cc h2 .nil) h
def akh(R:lC)(K:KF):kM:=IE R K (ake R K)
theorem aki{R:lC}(hR:Ee R){K:KF}:Rf K (akh R K):=akg hR (akf hR)
def IF(R:lC)(K:KF)(x1:kM)(a0 a1:AV)(H:AH):Prop:=aC a0 (ah 2 a0 λv1=>af v1 H λv2=>bR v2 λv3=>cI 0 v3 λz4=>aC a0 (ah 2 a0 λv5=>af v5 H λv6=>one a1 (bG (aA H) 1 2 [a1,(.int 0 z4)] λv7 H8=>cV 2 24 v6 v7 H8 λv9 bo=>aC a0 (ah 2 a0 λv11=>ag 1 v11 v9 bo λcU=>x1 a0 z4 cU))))
theorem akj{R:lC}(hR:Ee R){K:KF}{x1:kM}(h1:Rf K x1)(a0 a1:AV)(H:AH)(h:IF R K x1 a0 a1 H):cx 84 K [] (aT (cv 84) [a0,a1]) [] H:=pk hR (cc h1 .nil) h
def avZ(R:lC)(K:KF):aU:=IF R K (akh R K)
def ap3(R:lC):AV→AV→AH→KF→Prop:=λa0 a1 H K=>avZ R K a0 a1 H
theorem asm(R:lC)(hR:Ee R):an gPa 84 (ai [.a,.a] (ap3 R)):=rk λK a0 a1 H h=>akj hR (aki hR) a0 a1 H h
def CJ:lC:=()
def f84:AV→AV→AH→KF→Prop:=ap3 CJ
theorem akk:an gPa 84 (ai [.a,.a] f84):=asm CJ ad.nil
abbrev ub:Type:=Unit
def asn(R:ub):List (Nat×bQ):=[]
abbrev akl(R:ub):Prop:=ad gPa (asn R)
def Wc(R:ub)(K:KF)(a0:AV)(H:AH):Prop:=aC a0 (ah 0 a0 λv1=>af v1 H λv2=>aC v2 (ah 0 v2 λv3=>af v3 H λv4=>bR v4 λv5=>cI 0 v5 λz6=>K (.ret (.int 0 z6)) H))
theorem ab9{R:ub}(hR:akl R){K:KF}(a0:AV)(H:AH)(h:Wc R K a0 H):cx 152 K [] (aT (cv 152) [a0]) [] H:=pk hR .nil h
def aso(R:ub)(K:KF):Ta:=Wc R K
def akm(R:ub):AV→AH→KF→Prop:=λa0 H K=>aso R K a0 H
theorem anY(R:ub)(hR:akl R):an gPa 152 (ai [.a] (akm R)):=rk λK a0 H h=>ab9 hR a0 H h
def Wd:ub:=()
def f152:AV→AH→KF→Prop:=akm Wd
theorem We:an gPa 152 (ai [.a] f152):=anY Wd ad.nil
abbrev uc:Type:=(AV→Int→Int→AH→KF→Prop)×(AV→AH→KF→Prop)
def asp(R:uc):List (Nat×bQ):=[(86,ai [.a,.i 0,.i 0] R.1),(152,ai [.a] R.2)]
abbrev akn(R:uc):Prop:=ad gPa (asp R)
def Wf(R:uc)(K:KF)(a0:AV)(a1:Int)(H:AH):Prop:=kc (aA H) a0 λv1 H2=>af v1 H2 λv3=>R.2 v3 H2 λo4 H5=>cR K o4 H5 λv6=>cI 0 v6 λz7=>cm H5 (dC (aA H5) [(.int 0 (.ofNat 0))] λv8 H9=>ag 1 v8 (.int 0 z7) H9 λbo=>af v1 bo λv11=>R.1 v11 a1 (.ofNat 0) bo λqZ dj=>cR K qZ dj λv14=>K (.ret (.func 177 [] [v1,v8])) dj)
theorem aca{R:uc}(hR:akn R){K:KF}(a0:AV)(a1:Int)(H:AH)(h:Wf R K a0 a1 H):cx 153 K [] (aT (cv 153) [a0,(.int 0 a1)]) [] H:=pk hR .nil h
def asq(R:uc)(K:KF):kM:=Wf R K
def ako(R:uc):AV→Int→AH→KF→Prop:=λa0 a1 H K=>asq R K a0 a1 H
theorem anZ(R:uc)(hR:akn R):an gPa 153 (ai [.a,.i 0] (ako R)):=rk λK a0 a1 H h=>aca hR a0 a1 H h
def Wg:uc:=(f86,f152)
def f153:AV→Int→AH→KF→Prop:=ako Wg
theorem Wh:an gPa 153 (ai [.a,.i 0] f153):=anZ Wg (ad.cons tZ (ad.cons We ad.nil))
abbrev iV:Type:=Unit
def asr(R:iV):List (Nat×bQ):=[]
abbrev xk(R:iV):Prop:=ad gPa (asr R)
abbrev K1(K:KF)(F:T_):Prop:=aN 189 K [1,1] 19 [] [] F
abbrev sD(K:KF)(F:tm):Prop:=aN 189 K [0,1,0,1] 19 [0,1,7,8] [.a,.i 0,.i 0,.i 0] F
def Ef(R:iV)(K:KF)(H:AH):Prop:=K (.ret (.int 0 (.negSucc 0))) H
theorem acb{R:iV}(hR:xk R){K:KF}:K1 K (Ef R K):=λH h=>pk hR .nil h
def Wi(R:iV)(K:KF):T_:=Ef R K
theorem acd{R:iV}(hR:xk R){K:KF}:K1 K (Wi R K):=acb hR
def Eg(R:iV)(K:KF)(x2:tm)(x1:T_)(a0:AV)(a1 a7 a8:Int)(H:AH):Prop:=bI (bO a8 a7) (cw 1 a0 (.int 0 a8) λv1=>af v1 H λv2=>cI 0 v2 λz3=>bI (aV a1 z3) (K (.ret (.int 0 a8)) H) (aJ 0 (Int.add a8 (.ofNat 1)) λz4=>x2 a0 a1 a7 z4 H)) (x1 H)
theorem ace{R:iV}(hR:xk R){K:KF}{x2:tm}{x1:T_}(h2:sD K x2)(h1:K1 K x1):sD K (Eg R K x2 x1):=λa0 a1 a7 a8 H h=>pk hR (cc h2 (cc h1 .nil)) h
def Wj(R:iV)(K:KF)(i2:tm):tm:=Eg R K i2 (Wi R K)
theorem acf{R:iV}(hR:xk R){K:KF}{i2:tm}(g2:sD K i2):sD K (Wj R K i2):=ace hR g2 (acd hR)
def vG(R:iV)(K:KF)(n:Nat):tm:=Nat.rec (motive:=λ_=>tm) (λ_ _ _ _ _=>False) (λ_ i=>Wj R K i) n
theorem acg{R:iV}(hR:xk R){K:KF}(n:Nat):sD K (vG R K n):=Nat.rec (motive:=λn=>sD K (vG R K n)) (λa0 a1 a7 a8 H h=>h.elim) (λn ih=>acf hR ih) n
def Eh(R:iV)(K:KF)(x2:tm)(a0:AV)(a1:Int)(H:AH):Prop:=bR a0 λv1=>cI 0 v1 λz2=>x2 a0 a1 z2 (.ofNat 0) H
theorem ach{R:iV}(hR:xk R){K:KF}{x2:tm}(h2:sD K x2)(a0:AV)(a1:Int)(H:AH)(h:Eh R K x2 a0 a1 H):cx 189 K [] (aT (cv 189) [a0,(.int 0 a1)]) [] H:=pk hR (cc h2 .nil) h
def ass(R:iV)(K:KF):kM:=Eh R K (vG R K NL)
def akp(R:iV):AV→Int→AH→KF→Prop:=λa0 a1 H K=>ass R K a0 a1 H
theorem an0(R:iV)(hR:xk R):an gPa 189 (ai [.a,.i 0] (akp R)):=rk λK a0 a1 H h=>ach hR (acg hR NL) a0 a1 H h
def qB:iV:=()
def f189:AV→Int→AH→KF→Prop:=akp qB
theorem ast:an gPa 189 (ai [.a,.i 0] f189):=an0 qB ad.nil
abbrev jX:Type:=(AV→Int→AH→KF→Prop)
def asu(R:jX):List (Nat×bQ):=[(189,ai [.a,.i 0] R)]
abbrev Ac(R:jX):Prop:=ad gPa (asu R)
abbrev Ei(K:KF)(F:Ti):Prop:=aN 173 K [1,1,1] 42 [5] [.i 0] F
abbrev K5(K:KF)(F:wK):Prop:=aN 173 K [1,0,1,0,1,1] 42 [0,1,5] [.a,.i 0,.i 0] F
def vH(R:jX)(K:KF)(a5:Int)(H:AH):Prop:=K (.ret (.int 0 a5)) H
theorem aci{R:jX}(hR:Ac R){K:KF}:Ei K (vH R K):=λa5 H h=>pk hR .nil h
def K6(R:jX)(K:KF):Ti:=vH R K
theorem IG{R:jX}(hR:Ac R){K:KF}:Ei K (K6 R K):=aci hR
def Ej(R:jX)(K:KF)(x1:Ti)(a0:AV)(a1 a5:Int)(H:AH):Prop:=aC a0 (ah 0 a0 λv1=>af v1 H λv2=>aC a0 (ah 0 a0 λv3=>af v3 H λv4=>aC v4 (ah 1 v4 λv5=>af v5 H λv6=>bP H (bG (aA H) 1 1 [(.int 0 a1)] λv7 H8=>bT (Nat.beq H8.n (Nat.succ H.n)) (cV 1 8 v6 v7 H8 λv9 bo=>af v1 bo λv11=>bT (aH v11 v2) (aC v2 (ah 1 v2 λv12=>ag 1 v12 v9 bo λdj=>x1 a5 dj)))))))
theorem acj{R:jX}(hR:Ac R){K:KF}{x1:Ti}(h1:Ei K x1):K5 K (Ej R K x1):=λa0 a1 a5 H h=>pk hR (cc h1 .nil) h
def Wk(R:jX)(K:KF):wK:=Ej R K (K6 R K)
theorem ack{R:jX}(hR:Ac R){K:KF}:K5 K (Wk R K):=acj hR (IG hR)
def Ek(R:jX)(K:KF)(x2:wK)(x1:Ti)(a0:AV)(a1:Int)(H:AH):Prop:=aC a0 (ah 0 a0 λv1=>af v1 H λv2=>aC v2 (ah 1 v2 λv3=>af v3 H λv4=>R v4 a1 H λo5 H6=>cR K o5 H6 λv7=>cI 0 v7 λz8=>bI (bO z8 (.ofNat 0)) (aC a0 (ah 0 a0 λv9=>af v9 H6 λv10=>aC v10 (ah 1 v10 λv11=>af v11 H6 λv12=>bR v12 λv13=>cI 0 v13 λlL=>x2 a0 a1 lL H6))) (x1 z8 H6)))
theorem acm{R:jX}(hR:Ac R){K:KF}{x2:wK}{x1:Ti}(h2:K5 K x2)(h1:Ei K x1)(a0:AV)(a1:Int)(H:AH)(h:Ek R K x2 x1 a0 a1 H):cx 173 K [] (aT (cv 173) [a0,(.int 0 a1)]) [] H:=pk hR (cc h2 (cc h1 .nil)) h
def asv(R:jX)(K:KF):kM:=Ek R K (Wk R K) (K6 R K)
def akq(R:jX):AV→Int→AH→KF→Prop:=λa0 a1 H K=>asv R K a0 a1 H
theorem an1(R:jX)(hR:Ac R):an gPa 173 (ai [.a,.i 0] (akq R)):=rk λK a0 a1 H h=>acm hR (ack hR) (IG hR) a0 a1 H h
def sG:jX:=(f189)
def f173:AV→Int→AH→KF→Prop:=akq sG
theorem asw:an gPa 173 (ai [.a,.i 0] f173):=an1 sG (ad.cons ast ad.nil)
abbrev jY:Type:=(AV→AV→AH→KF→Prop)
def asx(R:jY):List (Nat×bQ):=[(121,ai [.a,.a] R)]
abbrev Ad(R:jY):Prop:=ad gPa (asx R)
abbrev El(K:KF)(F:Ti):Prop:=aN 174 K [1,1,1] 42 [5] [.i 0] F
abbrev K7(K:KF)(F:da):Prop:=aN 174 K [1,0,1,0,1,1] 42 [0,1,5] [.a,.a,.i 0] F
def Wl(R:jY)(K:KF)(a5:Int)(H:AH):Prop:=K (.ret (.int 0 a5)) H
theorem acn{R:jY}(hR:Ad R){K:KF}:El K (Wl R K):=λa5 H h=>pk hR .nil h
def K8(R:jY)(K:KF):Ti:=Wl R K
theorem IH{R:jY}(hR:Ad R){K:KF}:El K (K8 R K):=acn hR
def Wm(R:jY)(K:KF)(x1:Ti)(a0 a1:AV)(a5:Int)(H:AH):Prop:=aC a0 (ah 0 a0 λv1=>af v1 H λv2=>aC a0 (ah 0 a0 λv3=>af v3 H λv4=>aC v4 (ah 2 v4 λv5=>af v5 H λv6=>bP H (one a1 (bG (aA H) 1 1 [a1] λv7 H8=>bT (Nat.beq H8.n (Nat.succ H.n)) (cV 1 16 v6 v7 H8 λv9 bo=>af v1 bo λv11=>bT (aH v11 v2) (aC v2 (ah 2 v2 λv12=>ag 1 v12 v9 bo λdj=>x1 a5 dj))))))))
theorem aco{R:jY}(hR:Ad R){K:KF}{x1:Ti}(h1:El K x1):K7 K (Wm R K x1):=λa0 a1 a5 H h=>pk hR (cc h1 .nil) h
def Wn(R:jY)(K:KF):da:=Wm R K (K8 R K)
theorem acp{R:jY}(hR:Ad R){K:KF}:K7 K (Wn R K):=aco hR (IH hR)
def Wo(R:jY)(K:KF)(x2:da)(x1:Ti)(a0 a1:AV)(H:AH):Prop:=aC a0 (ah 0 a0 λv1=>af v1 H λv2=>aC v2 (ah 2 v2 λv3=>af v3 H λv4=>R v4 a1 H λo5 H6=>cR K o5 H6 λv7=>cI 0 v7 λz8=>bI (bO z8 (.ofNat 0)) (aC a0 (ah 0 a0 λv9=>af v9 H6 λv10=>aC v10 (ah 2 v10 λv11=>af v11 H6 λv12=>bR v12 λv13=>cI 0 v13 λlL=>x2 a0 a1 lL H6))) (x1 z8 H6)))
theorem acq{R:jY}(hR:Ad R){K:KF}{x2:da}{x1:Ti}(h2:K7 K x2)(h1:El K x1)(a0 a1:AV)(H:AH)(h:Wo R K x2 x1 a0 a1 H):cx 174 K [] (aT (cv 174) [a0,a1]) [] H:=pk hR (cc h2 (cc h1 .nil)) h
def asy(R:jY)(K:KF):aU:=Wo R K (Wn R K) (K8 R K)
def akr(R:jY):AV→AV→AH→KF→Prop:=λa0 a1 H K=>asy R K a0 a1 H
theorem an2(R:jY)(hR:Ad R):an gPa 174 (ai [.a,.a] (akr R)):=rk λK a0 a1 H h=>acq hR (acp hR) (IH hR) a0 a1 H h
def Wp:jY:=(f121)
def f174:AV→AV→AH→KF→Prop:=akr Wp
theorem Wq:an gPa 174 (ai [.a,.a] f174):=an2 Wp (ad.cons Kr ad.nil)
abbrev iW:Type:=Unit
def asz(R:iW):List (Nat×bQ):=[]
abbrev xl(R:iW):Prop:=ad gPa (asz R)
abbrev K9(K:KF)(F:T_):Prop:=aN 171 K [1,1] 34 [] [] F
abbrev sH(K:KF)(F:da):Prop:=aN 171 K [0,1,0,1] 34 [0,1,5] [.a,.a,.i 0] F
def Em(R:iW)(K:KF)(H:AH):Prop:=K (.ret (.int 0 (.negSucc 0))) H
theorem acr{R:iW}(hR:xl R){K:KF}:K9 K (Em R K):=λH h=>pk hR .nil h
def Wr(R:iW)(K:KF):T_:=Em R K
theorem acs{R:iW}(hR:xl R){K:KF}:K9 K (Wr R K):=acr hR
def En(R:iW)(K:KF)(x2:da)(x1:T_)(a0 a1:AV)(a5:Int)(H:AH):Prop:=bI (!(bO a5 (.ofNat 0))) (aC a0 (ah 2 a0 λv1=>af v1 H λv2=>cw 2 v2 (.int 0 a5) λv3=>ah 0 v3 λv4=>af v4 H λv5=>wo v5 a1 λv6=>bC v6 λz7=>bI z7 (aC a0 (ah 2 a0 λv8=>af v8 H λv9=>cw 2 v9 (.int 0 a5) λv10=>ah 1 v10 λv11=>af v11 H λv12=>cI 0 v12 λz13=>K (.ret (.int 0 z13)) H)) (aJ 0 (Int.sub a5 (.ofNat 1)) λlL=>x2 a0 a1 lL H))) (x1 H)
theorem acu{R:iW}(hR:xl R){K:KF}{x2:da}{x1:T_}(h2:sH K x2)(h1:K9 K x1):sH K (En R K x2 x1):=λa0 a1 a5 H h=>pk hR (cc h2 (cc h1 .nil)) h
def Ws(R:iW)(K:KF)(i2:da):da:=En R K i2 (Wr R K)
theorem acv{R:iW}(hR:xl R){K:KF}{i2:da}(g2:sH K i2):sH K (Ws R K i2):=acu hR g2 (acs hR)
def vI(R:iW)(K:KF)(n:Nat):da:=Nat.rec (motive:=λ_=>da) (λ_ _ _ _=>False) (λ_ i=>Ws R K i) n
theorem acw{R:iW}(hR:xl R){K:KF}(n:Nat):sH K (vI R K n):=Nat.rec (motive:=λn=>sH K (vI R K n)) (λa0 a1 a5 H h=>h.elim) (λn ih=>acv hR ih) n
def Eo(R:iW)(K:KF)(x2:da)(a0 a1:AV)(H:AH):Prop:=aC a0 (ah 2 a0 λv1=>af v1 H λv2=>bR v2 λv3=>cI 0 v3 λz4=>aJ 0 (Int.sub z4 (.ofNat 1)) λz5=>x2 a0 a1 z5 H)
theorem acx{R:iW}(hR:xl R){K:KF}{x2:da}(h2:sH K x2)(a0 a1:AV)(H:AH)(h:Eo R K x2 a0 a1 H):cx 171 K [] (aT (cv 171) [a0,a1]) [] H:=pk hR (cc h2 .nil) h
def asA(R:iW)(K:KF):aU:=Eo R K (vI R K NL)
def aks(R:iW):AV→AV→AH→KF→Prop:=λa0 a1 H K=>asA R K a0 a1 H
theorem an3(R:iW)(hR:xl R):an gPa 171 (ai [.a,.a] (aks R)):=rk λK a0 a1 H h=>acx hR (acw hR NL) a0 a1 H h
def qC:iW:=()
def f171:AV→AV→AH→KF→Prop:=aks qC
theorem La:an gPa 171 (ai [.a,.a] f171):=an3 qC ad.nil
abbrev gO:Type:=(AV→AV→AH→KF→Prop)×(AV→AV→AH→KF→Prop)×(AV→AV→AH→KF→Prop)
def asB(R:gO):List (Nat×bQ):=[(121,ai [.a,.a] R.1),(171,ai [.a,.a] R.2.1),(172,ai [.a,.a] R.2.2)]
abbrev ud(R:gO):Prop:=ad gPa (asB R)
abbrev Lb(K:KF)(F:bf):Prop:=aN 172 K [1,1,1,1] 73 [0,1,6] [.a,.a,.a] F
abbrev Lc(K:KF)(F:bf):Prop:=aN 172 K [1,1,1,1,1] 73 [0,1,6] [.a,.a,.a] F
abbrev Ld(K:KF)(F:Ta):Prop:=aN 172 K [1,1,1,1,1,1] 73 [0] [.a] F
def vJ(R:gO)(K:KF)(a0:AV)(H:AH):Prop:=aC a0 (ah 3 a0 λv1=>af v1 H λv2=>bR v2 λv3=>cI 0 v3 λz4=>aJ 0 (Int.sub z4 (.ofNat 1)) λz5=>K (.ret (.int 0 z5)) H)
theorem acy{R:gO}(hR:ud R){K:KF}:Ld K (vJ R K):=λa0 H h=>pk hR .nil h
def Wt(R:gO)(K:KF):Ta:=vJ R K
theorem acz{R:gO}(hR:ud R){K:KF}:Ld K (Wt R K):=acy hR
def vK(R:gO)(K:KF)(x3:Ta)(a0 a1 a6:AV)(H:AH):Prop:=aC a0 (ah 0 a0 λv1=>af v1 H λv2=>aC a0 (ah 3 a0 λv3=>af v3 H λv4=>bP H (one a1 (bG (aA H) 1 1 [a1] λv5 H6=>bT (Nat.beq H6.n (Nat.succ H.n)) (aC a0 (ah 0 a0 λv7=>af v7 H6 λv8=>aC v8 (ah 4 v8 λv9=>af v9 H6 λv10=>aM 2 a6 H6 λv11=>bP H6 (onVal v11 λl12=>iE l12 2 (bG (aA H6) 1 2 (spl l12 [(.bool false),(.int 0 (.ofNat 0))] 0) λv13 dG=>bT (Nat.beq dG.n (Nat.succ H6.n)) (cV 1 16 v4 v5 dG λv15 dJ=>aM 2 a6 dJ λv17=>bT (aH v17 v11) (af v9 dJ λv18=>bT (aH v18 v10) (af v7 dJ λv19=>bT (aH v19 v8) (af v1 dJ λv20=>bT (aH v20 v2) (cV 2 16 v10 v13 dJ λv21 jC=>af v1 jC λv23=>bT (aH v23 v2) (aC a0 (ah 3 a0 λv24=>ag 1 v24 v15 jC λmE=>aC v2 (ah 4 v2 λv26=>ag 1 v26 v21 mE λly=>x3 a0 ly)))))))))))))))))
theorem acA{R:gO}(hR:ud R){K:KF}{x3:Ta}(h3:Ld K x3):Lc K (vK R K x3):=λa0 a1 a6 H h=>pk hR (cc h3 .nil) h
def Wu(R:gO)(K:KF):bf:=vK R K (Wt R K)
theorem acB{R:gO}(hR:ud R){K:KF}:Lc K (Wu R K):=acA hR (acz hR)
def vM(R:gO)(K:KF)(x2:bf)(a0 a1 a6:AV)(H:AH):Prop:=ah 1 a6 λv1=>af v1 H λv2=>cI 0 v2 λz3=>bI (bO z3 (.ofNat 0)) (aC a0 (ah 1 a0 λv4=>af v4 H λv5=>R.2.2 v5 a1 H λo6 H7=>cR K o6 H7 λv8=>cI 0 v8 λz9=>ag 2 a6 (.agg [(.bool false),(.int 0 z9)]) H7 λbo=>ah 1 a6 λv11=>af v11 bo λv12=>cI 0 v12 λz13=>bI (bO z13 (.ofNat 0)) (K (.ret (.int 0 (.negSucc 0))) bo) (x2 a0 a1 a6 bo))) (x2 a0 a1 a6 H)
theorem acC{R:gO}(hR:ud R){K:KF}{x2:bf}(h2:Lc K x2):Lb K (vM R K x2):=λa0 a1 a6 H h=>pk hR (cc h2 .nil) h
def Wv(R:gO)(K:KF):bf:=vM R K (Wu R K)
theorem acD{R:gO}(hR:ud R){K:KF}:Lb K (Wv R K):=acC hR (acB hR)
def vN(R:gO)(K:KF)(x1:bf)(a0 a1:AV)(H:AH):Prop:=aC a0 (ah 3 a0 λv1=>af v1 H λv2=>R.1 v2 a1 H λo3 H4=>cR K o3 H4 λv5=>cI 0 v5 λz6=>bI (!(bO z6 (.ofNat 0))) (K (.ret (.int 0 z6)) H4) (aC a0 (ah 1 a0 λv7=>af v7 H4 λv8=>oU true v8 .eH H4 λv9=>bC v9 λz10=>bI z10 (K (.ret (.int 0 (.negSucc 0))) H4) (aC a0 (ah 1 a0 λv11=>af v11 H4 λv12=>R.2.1 v12 a1 H4 λwL dG=>cR K wL dG λv15=>cI 0 v15 λlK=>cm dG (dC (aA dG) [(.bool false),(.int 0 (.ofNat 0))] λv17 eB=>ag 2 v17 (.agg [(.bool true),(.int 0 lK)]) eB λik=>x1 a0 a1 v17 ik))))))
theorem acE{R:gO}(hR:ud R){K:KF}{x1:bf}(h1:Lb K x1)(a0 a1:AV)(H:AH)(h:vN R K x1 a0 a1 H):cx 172 K [] (aT (cv 172) [a0,a1]) [] H:=pk hR (cc h1 .nil) h
def asC(R:gO)(K:KF):aU:=vN R K (Wv R K)
def akt(R:gO):AV→AV→AH→KF→Prop:=λa0 a1 H K=>asC R K a0 a1 H
theorem an4(R:gO)(hR:ud R):an gPa 172 (ai [.a,.a] (akt R)):=rk λK a0 a1 H h=>acE hR (acD hR) a0 a1 H h
abbrev an5:Type:=(AV→AV→AH→KF→Prop)
def mT(S:an5):gO:=(f121,f171,S)
noncomputable def yA(n:Nat):an5:=Nat.rec (motive:=λ_=>an5) (λ_ _ _ _=>False) (λ_ S=>(akt (mT S))) n
theorem av0(n:Nat):an gPa 172 (ai [.a,.a] (yA n)):=by
 induction n with
 |zero=>exact ey [.a,.a]
 |succ n ih=>exact an4 (mT (yA n)) (ad.cons Kr (ad.cons La (ad.cons ih ad.nil)))
def f172:AV→AV→AH→KF→Prop:=(yA NL)
theorem Ww:an gPa 172 (ai [.a,.a] f172):=(av0 NL)
abbrev ue:Type:=(AV→Int→Int→AH→KF→Prop)×(AV→AV→AH→KF→Prop)×(AV→AV→AH→KF→Prop)×(AV→AV→AH→KF→Prop)
def asD(R:ue):List (Nat×bQ):=[(86,ai [.a,.i 0,.i 0] R.1),(171,ai [.a,.a] R.2.1),(172,ai [.a,.a] R.2.2.1),(174,ai [.a,.a] R.2.2.2)]
abbrev aku(R:ue):Prop:=ad gPa (asD R)
def vO(R:ue)(K:KF)(a0 a1:AV)(H:AH):Prop:=R.2.1 a0 a1 H λo1 H2=>cR K o1 H2 λv3=>cI 0 v3 λz4=>bI (!(bO z4 (.ofNat 0))) (R.1 a0 (.ofNat 6) z4 H2 λo5 H6=>cR K o5 H6 λv7=>K (.ret (.aE [])) H6) (R.2.2.1 a0 a1 H2 λo8 H9=>cR K o8 H9 λv10=>cI 0 v10 λz11=>bI (!(bO z11 (.ofNat 0))) (R.1 a0 (.ofNat 9) z11 H9 λqZ dj=>cR K qZ dj λv14=>K (.ret (.aE [])) dj) (R.2.2.2 a0 a1 H9 λtK dJ=>cR K tK dJ λv17=>cI 0 v17 λyn=>R.1 a0 (.ofNat 11) yn dJ λzu gV=>cR K zu gV λv21=>K (.ret (.aE [])) gV))
theorem acF{R:ue}(hR:aku R){K:KF}(a0 a1:AV)(H:AH)(h:vO R K a0 a1 H):cx 175 K [] (aT (cv 175) [a0,a1]) [] H:=pk hR .nil h
def asE(R:ue)(K:KF):aU:=vO R K
def akv(R:ue):AV→AV→AH→KF→Prop:=λa0 a1 H K=>asE R K a0 a1 H
theorem an6(R:ue)(hR:aku R):an gPa 175 (ai [.a,.a] (akv R)):=rk λK a0 a1 H h=>acF hR a0 a1 H h
def Ep:ue:=(f86,f171,f172,f174)
def f175:AV→AV→AH→KF→Prop:=akv Ep
theorem asF:an gPa 175 (ai [.a,.a] f175):=an6 Ep (ad.cons tZ (ad.cons La (ad.cons Ww (ad.cons Wq ad.nil))))
abbrev uf:Type:=Unit
def asG(R:uf):List (Nat×bQ):=[]
abbrev akw(R:uf):Prop:=ad gPa (asG R)
def Wx(R:uf)(K:KF)(a0:Int)(a1 a2:AV)(H:AH):Prop:=af a1 H λv1=>aC v1 (ah 0 v1 λv2=>af v2 H λv3=>aC v3 (ah 0 v3 λv4=>af v4 H λv5=>af a2 H λv6=>cI 0 v6 λz7=>cw 3 v5 (.int 0 z7) λv8=>ah 1 v8 λv9=>ag 1 v9 (.int 0 a0) H λbo=>K (.ret (.aE [])) bo))
theorem acG{R:uf}(hR:akw R){K:KF}(a0:Int)(a1 a2:AV)(H:AH)(h:Wx R K a0 a1 a2 H):cx 177 K [] (aT (cv 177) [(.int 0 a0),a1,a2]) [] H:=pk hR .nil h
def asH(R:uf)(K:KF):anR:=Wx R K
def akx(R:uf):Int→AV→AV→AH→KF→Prop:=λa0 a1 a2 H K=>asH R K a0 a1 a2 H
theorem an7(R:uf)(hR:akw R):an gPa 177 (ai [.i 0,.a,.a] (akx R)):=rk λK a0 a1 a2 H h=>acG hR a0 a1 a2 H h
def Wy:uf:=()
def f177:Int→AV→AV→AH→KF→Prop:=akx Wy
theorem asI:an gPa 177 (ai [.i 0,.a,.a] f177):=an7 Wy ad.nil
abbrev ug:Type:=Unit
def asJ(R:ug):List (Nat×bQ):=[]
abbrev aky(R:ug):Prop:=ad gPa (asJ R)
def Wz(R:ug)(K:KF)(a0:Int)(a1 a2:AV)(H:AH):Prop:=af a1 H λv1=>aC v1 (ah 0 v1 λv2=>af v2 H λv3=>aC v3 (ah 0 v3 λv4=>af v4 H λv5=>af a2 H λv6=>cI 0 v6 λz7=>cw 3 v5 (.int 0 z7) λv8=>ah 2 v8 λv9=>ag 1 v9 (.int 0 a0) H λbo=>K (.ret (.aE [])) bo))
theorem acH{R:ug}(hR:aky R){K:KF}(a0:Int)(a1 a2:AV)(H:AH)(h:Wz R K a0 a1 a2 H):cx 190 K [] (aT (cv 190) [(.int 0 a0),a1,a2]) [] H:=pk hR .nil h
def asK(R:ug)(K:KF):anR:=Wz R K
def akz(R:ug):Int→AV→AV→AH→KF→Prop:=λa0 a1 a2 H K=>asK R K a0 a1 a2 H
theorem an8(R:ug)(hR:aky R):an gPa 190 (ai [.i 0,.a,.a] (akz R)):=rk λK a0 a1 a2 H h=>acH hR a0 a1 a2 H h
def WA:ug:=()
def f190:Int→AV→AV→AH→KF→Prop:=akz WA
theorem asL:an gPa 190 (ai [.i 0,.a,.a] f190):=an8 WA ad.nil
abbrev uh:Type:=Unit
def asM(R:uh):List (Nat×bQ):=[]
abbrev akA(R:uh):Prop:=ad gPa (asM R)
def WB(R:uh)(K:KF)(H:AH):Prop:=K (.ret (.aE [])) H
theorem acI{R:uh}(hR:akA R){K:KF}(H:AH)(h:WB R K H):cx 170 K [] (aT (cv 170) []) [] H:=pk hR .nil h
def asN(R:uh)(K:KF):T_:=WB R K
def akB(R:uh):AH→KF→Prop:=fun  H K=>asN R K  H
theorem an9(R:uh)(hR:akA R):an gPa 170 (ai [] (akB R)):=rk λK  H h=>acI hR  H h
def WC:uh:=()
def f170:AH→KF→Prop:=akB WC
theorem Le:an gPa 170 (ai [] f170):=an9 WC ad.nil
abbrev ui:Type:=Unit
def asO(R:ui):List (Nat×bQ):=[]
abbrev akC(R:ui):Prop:=ad gPa (asO R)
def WD(R:ui)(K:KF)(H:AH):Prop:=K (.ret (.aE [])) H
theorem acJ{R:ui}(hR:akC R){K:KF}(H:AH)(h:WD R K H):cx 188 K [] (aT (cv 188) []) [] H:=pk hR .nil h
def asP(R:ui)(K:KF):T_:=WD R K
def akD(R:ui):AH→KF→Prop:=fun  H K=>asP R K  H
theorem aoa(R:ui)(hR:akC R):an gPa 188 (ai [] (akD R)):=rk λK  H h=>acJ hR  H h
def WE:ui:=()
def f188:AH→KF→Prop:=akD WE
theorem Lf:an gPa 188 (ai [] f188):=aoa WE ad.nil
abbrev uj:Type:=(AV→AV→AH→KF→Prop)×(AV→Int→Int→AH→KF→Prop)
def asQ(R:uj):List (Nat×bQ):=[(84,ai [.a,.a] R.1),(86,ai [.a,.i 0,.i 0] R.2)]
abbrev akE(R:uj):Prop:=ad gPa (asQ R)
def Er(R:uj)(K:KF)(a0 a1:AV)(H:AH):Prop:=R.1 a0 a1 H λo1 H2=>cR K o1 H2 λv3=>cI 0 v3 λz4=>R.2 a0 (.ofNat 8) z4 H2 λo5 H6=>cR K o5 H6 λv7=>K (.ret (.aE [])) H6
theorem acK{R:uj}(hR:akE R){K:KF}(a0 a1:AV)(H:AH)(h:Er R K a0 a1 H):cx 146 K [] (aT (cv 146) [a0,a1]) [] H:=pk hR .nil h
def asR(R:uj)(K:KF):aU:=Er R K
def akF(R:uj):AV→AV→AH→KF→Prop:=λa0 a1 H K=>asR R K a0 a1 H
theorem aob(R:uj)(hR:akE R):an gPa 146 (ai [.a,.a] (akF R)):=rk λK a0 a1 H h=>acK hR a0 a1 H h
def Lg:uj:=(f84,f86)
def f146:AV→AV→AH→KF→Prop:=akF Lg
theorem asS:an gPa 146 (ai [.a,.a] f146):=aob Lg (ad.cons akk (ad.cons tZ ad.nil))
abbrev uo:Type:=(AV→Int→Int→AH→KF→Prop)×(AV→AV→AH→KF→Prop)×(AV→AV→AH→KF→Prop)
def asT(R:uo):List (Nat×bQ):=[(86,ai [.a,.i 0,.i 0] R.1),(171,ai [.a,.a] R.2.1),(172,ai [.a,.a] R.2.2)]
abbrev akG(R:uo):Prop:=ad gPa (asT R)
def WG(R:uo)(K:KF)(a0 a1:AV)(H:AH):Prop:=R.2.1 a0 a1 H λo1 H2=>cR K o1 H2 λv3=>cI 0 v3 λz4=>bI (!(bO z4 (.ofNat 0))) (R.1 a0 (.ofNat 7) z4 H2 λo5 H6=>cR K o5 H6 λv7=>K (.ret (.aE [])) H6) (R.2.2 a0 a1 H2 λo8 H9=>cR K o8 H9 λv10=>cI 0 v10 λz11=>R.1 a0 (.ofNat 10) z11 H9 λqZ dj=>cR K qZ dj λv14=>K (.ret (.aE [])) dj)
theorem acL{R:uo}(hR:akG R){K:KF}(a0 a1:AV)(H:AH)(h:WG R K a0 a1 H):cx 147 K [] (aT (cv 147) [a0,a1]) [] H:=pk hR .nil h
def asU(R:uo)(K:KF):aU:=WG R K
def akH(R:uo):AV→AV→AH→KF→Prop:=λa0 a1 H K=>asU R K a0 a1 H
theorem aoc(R:uo)(hR:akG R):an gPa 147 (ai [.a,.a] (akH R)):=rk λK a0 a1 H h=>acL hR a0 a1 H h
def WH:uo:=(f86,f171,f172)
def f147:AV→AV→AH→KF→Prop:=akH WH
theorem asV:an gPa 147 (ai [.a,.a] f147):=aoc WH (ad.cons tZ (ad.cons La (ad.cons Ww ad.nil)))
abbrev iI:Type:=(AV→AV→AH→KF→Prop)×(AV→AV→AH→KF→Prop)×(AV→Int→Int→AH→KF→Prop)
def av1(R:iI):List (Nat×bQ):=[(84,ai [.a,.a] R.1),(85,ai [.a,.a] R.2.1),(86,ai [.a,.i 0,.i 0] R.2.2)]
abbrev uX(R:iI):Prop:=ad gPa (av1 R)
abbrev Ri(K:KF)(F:bf):Prop:=aN 41 K [1,1] 38 [0,1,2] [.a,.a,.a] F
abbrev xm(K:KF)(F:gJ):Prop:=aN 41 K [0,1,0,1] 38 [0,1,2,9,10,11] [.a,.a,.a,.a,.i 0,.i 0] F
abbrev Rj(K:KF)(F:Ta):Prop:=aN 41 K [1,1,1,1,1,1] 38 [0] [.a] F
def rp(R:iI)(K:KF)(a0:AV)(H:AH):Prop:=aC a0 (ah 0 a0 λv1=>af v1 H λv2=>K (.ret v2) H)
theorem akI{R:iI}(hR:uX R){K:KF}:Rj K (rp R K):=λa0 H h=>pk hR .nil h
def akJ(R:iI)(K:KF):Ta:=rp R K
theorem akK{R:iI}(hR:uX R){K:KF}:Rj K (akJ R K):=akI hR
def uq(R:iI)(K:KF)(x3:Ta)(a0 a1 a2:AV)(H:AH):Prop:=aC a0 (ah 0 a0 λv1=>af v1 H λv2=>bR a1 λv3=>cI 0 v3 λz4=>aC v2 (ah 5 v2 λv5=>ag 1 v5 (.int 0 z4) H λH6=>R.2.1 a0 a2 H6 λo7 H8=>cR K o7 H8 λv9=>R.2.2 a0 (.ofNat 1) (.ofNat 0) H8 λpB dq=>cR K pB dq λv12=>R.2.2 a0 (.ofNat 31) (.ofNat 0) dq λwL dG=>cR K wL dG λv15=>x3 a0 dG))
theorem akL{R:iI}(hR:uX R){K:KF}{x3:Ta}(h3:Rj K x3):Ri K (uq R K x3):=λa0 a1 a2 H h=>pk hR (cc h3 .nil) h
def akM(R:iI)(K:KF):bf:=uq R K (akJ R K)
theorem akN{R:iI}(hR:uX R){K:KF}:Ri K (akM R K):=akL hR (akK hR)
def pH(R:iI)(K:KF)(x2:gJ)(x1:bf)(a0 a1 a2 a9:AV)(a10 a11:Int)(H:AH):Prop:=bI (bO a11 a10) (cw 1 a9 (.int 0 a11) λv1=>af v1 H λv2=>R.1 a0 v2 H λo3 H4=>cR K o3 H4 λv5=>cI 0 v5 λz6=>aJ 0 (Int.add a11 (.ofNat 1)) λz7=>x2 a0 a1 a2 a9 a10 z7 H4) (x1 a0 a1 a2 H)
theorem akO{R:iI}(hR:uX R){K:KF}{x2:gJ}{x1:bf}(h2:xm K x2)(h1:Ri K x1):xm K (pH R K x2 x1):=λa0 a1 a2 a9 a10 a11 H h=>pk hR (cc h2 (cc h1 .nil)) h
def akP(R:iI)(K:KF)(i2:gJ):gJ:=pH R K i2 (akM R K)
theorem akQ{R:iI}(hR:uX R){K:KF}{i2:gJ}(g2:xm K i2):xm K (akP R K i2):=akO hR g2 (akN hR)
def rq(R:iI)(K:KF)(n:Nat):gJ:=Nat.rec (motive:=λ_=>gJ) (λ_ _ _ _ _ _ _=>False) (λ_ i=>akP R K i) n
theorem akR{R:iI}(hR:uX R){K:KF}(n:Nat):xm K (rq R K n):=Nat.rec (motive:=λn=>xm K (rq R K n)) (λa0 a1 a2 a9 a10 a11 H h=>h.elim) (λn ih=>akQ hR ih) n
def Ae(R:iI)(K:KF)(x2:gJ)(a0 a1 a2:AV)(H:AH):Prop:=bR a1 λv1=>cI 0 v1 λz2=>x2 a0 a1 a2 a1 z2 (.ofNat 0) H
theorem akS{R:iI}(hR:uX R){K:KF}{x2:gJ}(h2:xm K x2)(a0 a1 a2:AV)(H:AH)(h:Ae R K x2 a0 a1 a2 H):cx 41 K [] (aT (cv 41) [a0,a1,a2]) [] H:=pk hR (cc h2 .nil) h
def av2(R:iI)(K:KF):bf:=Ae R K (rq R K NL)
def Es(R:iI):AV→AV→AV→AH→KF→Prop:=λa0 a1 a2 H K=>av2 R K a0 a1 a2 H
theorem asW(R:iI)(hR:uX R):an gPa 41 (ai [.a,.a,.a] (Es R)):=rk λK a0 a1 a2 H h=>akS hR (akR hR NL) a0 a1 a2 H h
abbrev iJ:Type:=(AV→AV→AH→KF→Prop)×(AH→KF→Prop)×(AV→AH→KF→Prop)×(AV→AV→AH→KF→Prop)×(AV→AV→AH→KF→Prop)×(AV→AV→AH→KF→Prop)×(AH→KF→Prop)×(AH→KF→Prop)×(AV→AV→AH→KF→Prop)×(AV→AV→AH→KF→Prop)×(AV→AV→AH→KF→Prop)×(AV→AV→AH→KF→Prop)×(AH→KF→Prop)×(AV→AV→AV→AV→AH→KF→Prop)×(AV→AV→AH→KF→Prop)×(AH→KF→Prop)
def jZ(R:iJ):List (Nat×bQ):=[(81,ai [.a,.a] R.1),(83,ai [] R.2.1),(115,ai [.a] R.2.2.1),(116,ai [.a,.a] R.2.2.2.1),(118,ai [.a,.a] R.2.2.2.2.1),(140,ai [.a,.a] R.2.2.2.2.2.1),(141,ai [] R.2.2.2.2.2.2.1),(143,ai [] R.2.2.2.2.2.2.2.1),(151,ai [.a,.a] R.2.2.2.2.2.2.2.2.1),(154,ai [.a,.a] R.2.2.2.2.2.2.2.2.2.1),(155,ai [.a,.a] R.2.2.2.2.2.2.2.2.2.2.1),(169,ai [.a,.a] R.2.2.2.2.2.2.2.2.2.2.2.1),(170,ai [] R.2.2.2.2.2.2.2.2.2.2.2.2.1),(178,ai [.a,.a,.a,.a] R.2.2.2.2.2.2.2.2.2.2.2.2.2.1),(180,ai [.a,.a] R.2.2.2.2.2.2.2.2.2.2.2.2.2.2.1),(188,ai [] R.2.2.2.2.2.2.2.2.2.2.2.2.2.2.2)]
abbrev Bc(R:iJ):Prop:=ad gPa (jZ R)
abbrev Rk(K:KF)(F:da):Prop:=aN 82 K [1,1,1] 38 [2,6,7] [.a,.a,.i 0] F
abbrev xn(K:KF)(F:de):Prop:=aN 82 K [0,1,0,1,1] 38 [0,2,6,7,17,18,19] [.a,.a,.a,.i 0,.a,.i 0,.i 0] F
def II(R:iJ)(K:KF)(a2 a6:AV)(a7:Int)(H:AH):Prop:=qR a2 λg4 x5 y6=>bT (ew gPa g4) (fY (jZ R) g4 (x5++([]++y6)) H λo1 H2=>cR K o1 H2 λv3=>aC a6 (ah 0 a6 λv7=>af v7 H2 λv8=>kU 1 v8 none (some (.int 0 a7)) none λv9=>aC a6 (ah 0 a6 λv10=>ag 1 v10 v9 H2 λdq=>K (.ret (.aE [])) dq)))
theorem akT{R:iJ}(hR:Bc R){K:KF}:Rk K (II R K):=λa2 a6 a7 H h=>pk hR .nil h
def akU(R:iJ)(K:KF):da:=II R K
theorem akV{R:iJ}(hR:Bc R){K:KF}:Rk K (akU R K):=akT hR
def IJ(R:iJ)(K:KF)(x2:de)(x1:da)(a0 a2 a6:AV)(a7:Int)(a17:AV)(Ft a19:Int)(H:AH):Prop:=bI (bO a19 Ft) (cw 5 a17 (.int 0 a19) λv1=>aM 5 v1 H λv2=>cm H (dC (aA H) [(.int 0 (.ofNat 0)),(.int 0 (.ofNat 0)),.ab,.ab,.ab] λv3 H4=>ag 5 v3 v2 H4 λH5=>aM 5 v3 H5 λv6=>R.2.2.2.1 a0 v6 H5 λo7 H8=>cR K o7 H8 λv9=>aJ 0 (Int.add a19 (.ofNat 1)) λz10=>x2 a0 a2 a6 a7 a17 Ft z10 H8)) (x1 a2 a6 a7 H)
theorem akW{R:iJ}(hR:Bc R){K:KF}{x2:de}{x1:da}(h2:xn K x2)(h1:Rk K x1):xn K (IJ R K x2 x1):=λa0 a2 a6 a7 a17 Ft a19 H h=>pk hR (cc h2 (cc h1 .nil)) h
def akX(R:iJ)(K:KF)(i2:de):de:=IJ R K i2 (akU R K)
theorem akY{R:iJ}(hR:Bc R){K:KF}{i2:de}(g2:xn K i2):xn K (akX R K i2):=akW hR g2 (akV hR)
def Af(R:iJ)(K:KF)(n:Nat):de:=Nat.rec (motive:=λ_=>de) (λ_ _ _ _ _ _ _ _=>False) (λ_ i=>akX R K i) n
theorem akZ{R:iJ}(hR:Bc R){K:KF}(n:Nat):xn K (Af R K n):=Nat.rec (motive:=λn=>xn K (Af R K n)) (λa0 a2 a6 a7 a17 Ft a19 H h=>h.elim) (λn ih=>akY hR ih) n
def IK(R:iJ)(K:KF)(x2:de)(a0 a1 a2:AV)(H:AH):Prop:=R.2.2.1 a0 H λo1 H2=>cR K o1 H2 λv3=>aC v3 (ah 0 v3 λv4=>af v4 H2 λv5=>bR v5 λv6=>cI 0 v6 λz7=>bR a1 λv8=>cI 0 v8 λz9=>x2 a0 a2 v3 z7 a1 z9 (.ofNat 0) H2)
theorem ak0{R:iJ}(hR:Bc R){K:KF}{x2:de}(h2:xn K x2)(a0 a1 a2:AV)(H:AH)(h:IK R K x2 a0 a1 a2 H):cx 82 K [] (aT (cv 82) [a0,a1,a2]) [] H:=pk hR (cc h2 .nil) h
def av3(R:iJ)(K:KF):bf:=IK R K (Af R K NL)
def acM(R:iJ):AV→AV→AV→AH→KF→Prop:=λa0 a1 a2 H K=>av3 R K a0 a1 a2 H
theorem asX(R:iJ)(hR:Bc R):an gPa 82 (ai [.a,.a,.a] (acM R)):=rk λK a0 a1 a2 H h=>ak0 hR (akZ hR NL) a0 a1 a2 H h
abbrev Be:Type:=(AV→AV→AH→KF→Prop)
def av4(R:Be):List (Nat×bQ):=[(117,ai [.a,.a] R)]
abbrev ap4(R:Be):Prop:=ad gPa (av4 R)
def IL(R:Be)(K:KF)(a0 a1:AV)(H:AH):Prop:=kc (aA H) a0 λv1 H2=>kc (aA H2) a1 λv3 H4=>af v1 H4 λv5=>R v5 (.func 118 [] [v3,v1]) H4 λo6 H7=>cR K o6 H7 λv8=>K (.ret (.aE [])) H7
theorem ak1{R:Be}(hR:ap4 R){K:KF}(a0 a1:AV)(H:AH)(h:IL R K a0 a1 H):cx 85 K [] (aT (cv 85) [a0,a1]) [] H:=pk hR .nil h
def av5(R:Be)(K:KF):aU:=IL R K
def IM(R:Be):AV→AV→AH→KF→Prop:=λa0 a1 H K=>av5 R K a0 a1 H
theorem asY(R:Be)(hR:ap4 R):an gPa 85 (ai [.a,.a] (IM R)):=rk λK a0 a1 H h=>ak1 hR a0 a1 H h
abbrev b9:Type:=(AV→AV→AV→AH→KF→Prop)×(AV→AH→KF→Prop)×(AV→AV→AH→KF→Prop)×(AV→AV→AH→KF→Prop)×(AV→AV→AV→AH→KF→Prop)×(AV→AV→AH→KF→Prop)
def asZ(R:b9):List (Nat×bQ):=[(82,ai [.a,.a,.a] R.1),(115,ai [.a] R.2.1),(137,ai [.a,.a] R.2.2.1),(138,ai [.a,.a] R.2.2.2.1),(139,ai [.a,.a,.a] R.2.2.2.2.1),(142,ai [.a,.a] R.2.2.2.2.2)]
abbrev fR(R:b9):Prop:=ad gPa (asZ R)
abbrev Lh(K:KF)(F:bf):Prop:=aN 116 K [1,1,1] 147 [2,3,4] [.a,.a,.a] F
abbrev Li(K:KF)(F:Og):Prop:=aN 116 K [1,0,1,0,1,1] 147 [2,3,4,13] [.a,.a,.a,.b] F
abbrev Lj(K:KF)(F:aU):Prop:=aN 116 K [1,0,1,1,1,0,1,1,1,1] 147 [2,3] [.a,.a] F
abbrev Lk(K:KF)(F:aU):Prop:=aN 116 K [1,0,1,1,1,1,1,0,1,1,1,1] 147 [2,3] [.a,.a] F
abbrev Ll(K:KF)(F:aQ):Prop:=aN 116 K [1,0,0,1,1,1,1,1,0,1,1,1,1] 147 [2,3,89,90,91] [.a,.a,.a,.i 0,.i 0] F
abbrev qD(K:KF)(F:aQ):Prop:=aN 116 K [0,1,0,0,1,1,1,1,1,0,1,1,1,1] 147 [2,3,89,90,91] [.a,.a,.a,.i 0,.i 0] F
abbrev Lm(K:KF)(F:Ir):Prop:=aN 116 K [1,1,1,1,1,1,1,1,1,0,1,1,1,1] 147 [2,3,4,33,120] [.a,.a,.a,.i 0,.b] F
abbrev Ln(K:KF)(F:aQ):Prop:=aN 116 K [1,1,1,0,0,1,0,0,1,1,1,1,1,0,1,1,1,1] 147 [2,3,89,90,91] [.a,.a,.a,.i 0,.i 0] F
abbrev Lo(K:KF)(F:gJ):Prop:=aN 116 K [0,1,1,0,0,1,1,0,0,1,0,0,1,1,1,1,1,0,1,1,1,1] 147 [2,3,6,89,90,91] [.a,.a,.a,.a,.i 0,.i 0] F
abbrev qc(K:KF)(F:aB):Prop:=aN 116 K [0,1,1,1,1,1,1,1,1,1,1,1,1,1,1,1,1,0,1,1,1,1] 147 [2,39,40,41] [.a,.a,.i 0,.i 0] F
def Ag(R:b9)(K:KF)(a2 a3 a6 a89:AV)(yB a91:Int)(H:AH):Prop:=ah 1 a6 λv1=>af v1 H λv2=>cI 0 v2 λz3=>rU (.iface 132 (.agg [(.int 0 (.ofNat 14)),(.int 0 z3)])) (K (.cj (.iface 132 (.agg [(.int 0 (.ofNat 14)),(.int 0 z3)]))) H)
theorem acN{R:b9}(hR:fR R){K:KF}:Lo K (Ag R K):=λa2 a3 a6 a89 yB a91 H h=>pk hR .nil h
def WI(R:b9)(K:KF):gJ:=Ag R K
theorem acO{R:b9}(hR:fR R){K:KF}:Lo K (WI R K):=acN hR
def Ah(R:b9)(K:KF)(a2 a3:AV)(H:AH):Prop:=af a2 H λv1=>ah 3 a3 λv2=>af v2 H λv3=>R.2.2.1 v1 v3 H λo4 H5=>cR K o4 H5 λv6=>K (.ret (.aE [])) H5
theorem acP{R:b9}(hR:fR R){K:KF}:Lk K (Ah R K):=λa2 a3 H h=>pk hR .nil h
def WJ(R:b9)(K:KF):aU:=Ah R K
theorem acQ{R:b9}(hR:fR R){K:KF}:Lk K (WJ R K):=acP hR
def vP(R:b9)(K:KF)(x6:aQ)(a2 a3 a89:AV)(yB a91:Int)(H:AH):Prop:=aJ 0 (Int.add a91 (.ofNat 1)) λz1=>x6 a2 a3 a89 yB z1 H
theorem acR{R:b9}(hR:fR R){K:KF}{x6:aQ}(h6:qD K x6):Ln K (vP R K x6):=λa2 a3 a89 yB a91 H h=>pk hR (cc h6 .nil) h
def WK(R:b9)(K:KF)(i6:aQ):aQ:=vP R K i6
theorem acS{R:b9}(hR:fR R){K:KF}{i6:aQ}(g6:qD K i6):Ln K (WK R K i6):=acR hR g6
def vQ(R:b9)(K:KF)(x9:gJ)(x4:aU)(x8:aQ)(a2 a3 a89:AV)(yB a91:Int)(H:AH):Prop:=bI (bO a91 yB) (cw 7 a89 (.int 0 a91) λv1=>aM 7 v1 H λv2=>cm H (cW gPa (aA H) 49 λv3 H4=>ag 7 v3 v2 H4 λH5=>ah 0 v3 λv6=>af v6 H5 λv7=>cI 0 v7 λz8=>bI (aV z8 (.ofNat 6)) (af a2 H5 λv9=>ah 3 v3 λv10=>af v10 H5 λv11=>R.2.2.2.1 v9 v11 H5 λqZ dj=>cR K qZ dj λv14=>bC v14 λnk=>bI (!nk) (x9 a2 a3 v3 a89 yB a91 dj) (x8 a2 a3 a89 yB a91 dj)) (x8 a2 a3 a89 yB a91 H5))) (x4 a2 a3 H)
theorem acT{R:b9}(hR:fR R){K:KF}{x9:gJ}{x4:aU}{x8:aQ}(h9:Lo K x9)(h4:Lk K x4)(h8:Ln K x8):qD K (vQ R K x9 x4 x8):=λa2 a3 a89 yB a91 H h=>pk hR (cc h9 (cc h4 (cc h8 .nil))) h
def WL(R:b9)(K:KF)(i6:aQ):aQ:=vQ R K (WI R K) (WJ R K) (WK R K i6)
theorem acU{R:b9}(hR:fR R){K:KF}{i6:aQ}(g6:qD K i6):qD K (WL R K i6):=acT hR (acO hR) (acQ hR) (acS hR g6)
def oA(R:b9)(K:KF)(n:Nat):aQ:=Nat.rec (motive:=λ_=>aQ) (λ_ _ _ _ _ _=>False) (λ_ i=>WL R K i) n
theorem acV{R:b9}(hR:fR R){K:KF}(n:Nat):qD K (oA R K n):=Nat.rec (motive:=λn=>qD K (oA R K n)) (λa2 a3 a89 yB a91 H h=>h.elim) (λn ih=>acU hR ih) n
def vR(R:b9)(K:KF)(x6:aQ)(a2 a3 a89:AV)(yB a91:Int)(H:AH):Prop:=x6 a2 a3 a89 yB a91 H
theorem acW{R:b9}(hR:fR R){K:KF}{x6:aQ}(h6:qD K x6):Ll K (vR R K x6):=λa2 a3 a89 yB a91 H h=>pk hR (cc h6 .nil) h
def WM(R:b9)(K:KF):aQ:=vR R K (oA R K NL)
theorem acX{R:b9}(hR:fR R){K:KF}:Ll K (WM R K):=acW hR (acV hR NL)
def vS(R:b9)(K:KF)(a2 a3:AV)(H:AH):Prop:=af a2 H λv1=>ah 3 a3 λv2=>af v2 H λv3=>R.2.2.1 v1 v3 H λo4 H5=>cR K o4 H5 λv6=>K (.ret (.aE [])) H5
theorem acY{R:b9}(hR:fR R){K:KF}:Lj K (vS R K):=λa2 a3 H h=>pk hR .nil h
def WN(R:b9)(K:KF):aU:=vS R K
theorem acZ{R:b9}(hR:fR R){K:KF}:Lj K (WN R K):=acY hR
def Bf(R:b9)(K:KF)(x10:aB)(a2 a39:AV)(a40 a41:Int)(H:AH):Prop:=bI (bO a41 a40) (cw 1 a39 (.int 0 a41) λv1=>af v1 H λv2=>af a2 H λv3=>R.1 v3 v2 (.func 143 [] []) H λo4 H5=>cR K o4 H5 λv6=>aJ 0 (Int.add a41 (.ofNat 1)) λz7=>x10 a2 a39 a40 z7 H5) (K (.ret (.aE [])) H)
theorem Ua{R:b9}(hR:fR R){K:KF}{x10:aB}(h10:qc K x10):qc K (Bf R K x10):=λa2 a39 a40 a41 H h=>pk hR (cc h10 .nil) h
def Rl(R:b9)(K:KF)(i10:aB):aB:=Bf R K i10
theorem Ub{R:b9}(hR:fR R){K:KF}{i10:aB}(g10:qc K i10):qc K (Rl R K i10):=Ua hR g10
def my(R:b9)(K:KF)(n:Nat):aB:=Nat.rec (motive:=λ_=>aB) (λ_ _ _ _ _=>False) (λ_ i=>Rl R K i) n
theorem Uc{R:b9}(hR:fR R){K:KF}(n:Nat):qc K (my R K n):=Nat.rec (motive:=λn=>qc K (my R K n)) (λa2 a39 a40 a41 H h=>h.elim) (λn ih=>Ub hR ih) n
def qE(R:b9)(K:KF)(x10:aB)(a2 a3 a4:AV)(a33:Int)(av6:Bool)(H:AH):Prop:=bI av6 (af a2 H λv1=>ah 3 a3 λv2=>af v2 H λv3=>R.2.2.1 v1 v3 H λo4 H5=>cR K o4 H5 λv6=>af a2 H5 λv7=>aM 5 a3 H5 λv8=>R.2.2.2.2.1 v7 v8 (.func 141 [] []) H5 λo9 bo=>cR K o9 bo λv11=>K (.ret (.aE [])) bo) (bI (aV a33 (.ofNat 4)) (af a2 H λv12=>aM 5 a3 H λv13=>R.2.2.2.2.2 v12 v13 H λzt dH=>cR K zt dH λv16=>K (.ret (.aE [])) dH) (bI (aV a33 (.ofNat 9)) (aC a4 (ah 1 a4 λv17=>af v17 H λv18=>cI 0 v18 λzy=>bI (aV zy (.ofNat 0)) (ah 1 a3 λv20=>af v20 H λv21=>cI 0 v21 λz22=>rU (.iface 132 (.agg [(.int 0 (.ofNat 14)),(.int 0 z22)])) (K (.cj (.iface 132 (.agg [(.int 0 (.ofNat 14)),(.int 0 z22)]))) H)) (K (.ret (.aE [])) H))) (af a2 H λv23=>ah 3 a3 λv24=>af v24 H λv25=>R.2.2.1 v23 v25 H λPT ly=>cR K PT ly λv28=>ah 4 a3 λv29=>af v29 ly λv30=>bR v30 λv31=>cI 0 v31 λz32=>x10 a2 v30 z32 (.ofNat 0) ly)))
theorem ac0{R:b9}(hR:fR R){K:KF}{x10:aB}(h10:qc K x10):Lm K (qE R K x10):=λa2 a3 a4 a33 av6 H h=>pk hR (cc h10 .nil) h
def WO(R:b9)(K:KF):Ir:=qE R K (my R K NL)
theorem ac1{R:b9}(hR:fR R){K:KF}:Lm K (WO R K):=ac0 hR (Uc hR NL)
def vU(R:b9)(K:KF)(x5:aQ)(x3:aU)(x7:Ir)(a2 a3 a4:AV)(H:AH):Prop:=ah 0 a3 λv1=>af v1 H λv2=>cI 0 v2 λz3=>bI (aV z3 (.ofNat 1)) (af a2 H λv4=>ah 3 a3 λv5=>af v5 H λv6=>R.2.2.1 v4 v6 H λo7 H8=>cR K o7 H8 λv9=>aC a4 (ah 0 a4 λv10=>af v10 H8 λv11=>ah 2 a3 λv12=>af v12 H8 λv13=>cV 1 16 v11 v13 H8 λv14 dH=>aC a4 (ah 0 a4 λv16=>ag 1 v16 v14 dH λjt=>K (.ret (.aE [])) jt))) (bI (aV z3 (.ofNat 12)) (aC a4 (ah 0 a4 λv18=>af v18 H λv19=>ah 2 a3 λv20=>af v20 H λv21=>cV 1 16 v19 v21 H λv22 nh=>aC a4 (ah 0 a4 λv24=>ag 1 v24 v22 nh λmE=>x3 a2 a3 mE))) (bI (aV z3 (.ofNat 2)) (ah 3 a3 λv26=>af v26 H λv27=>ah 3 a3 λv28=>af v28 H λv29=>bR v29 λv30=>cI 0 v30 λz31=>oh xW [(.int 0 z31)] (.int 0 (.ofNat 1)) λv32=>cI 0 v32 λz33=>kU 7 v27 none (some (.int 0 z33)) none λv34=>bR v34 λv35=>cI 0 v35 λz36=>x5 a2 a3 v34 z36 (.ofNat 0) H) (bI (aV z3 (.ofNat 8)) (af a2 H λv37=>aM 5 a3 H λv38=>R.2.2.2.2.1 v37 v38 (.func 140 [] [a2,a3]) H λo39 H40=>cR K o39 H40 λv41=>K (.ret (.aE [])) H40) (bI (aV z3 (.ofNat 5)) (x7 a2 a3 a4 z3 (aV z3 (.ofNat 5)) H) (bI (aV z3 (.ofNat 6)) (x7 a2 a3 a4 z3 (aV z3 (.ofNat 6)) H) (x7 a2 a3 a4 z3 (aV z3 (.ofNat 7)) H))))))
theorem ac2{R:b9}(hR:fR R){K:KF}{x5:aQ}{x3:aU}{x7:Ir}(h5:Ll K x5)(h3:Lj K x3)(h7:Lm K x7):Lh K (vU R K x5 x3 x7):=λa2 a3 a4 H h=>pk hR (cc h5 (cc h3 (cc h7 .nil))) h
def WQ(R:b9)(K:KF):bf:=vU R K (WM R K) (WN R K) (WO R K)
theorem ac3{R:b9}(hR:fR R){K:KF}:Lh K (WQ R K):=ac2 hR (acX hR) (acZ hR) (ac1 hR)
def vV(R:b9)(K:KF)(x1:bf)(a2 a3 a4:AV)(fU:Bool)(H:AH):Prop:=bI fU (aC a4 (ah 0 a4 λv1=>af v1 H λv2=>bR v2 λv3=>cI 0 v3 λz4=>ah 2 a3 λv5=>af v5 H λv6=>bR v6 λv7=>cI 0 v7 λz8=>aJ 0 (Int.add z4 z8) λz9=>bI (bO (.ofNat 150) z9) (ah 1 a3 λv10=>af v10 H λv11=>cI 0 v11 λz12=>rU (.iface 132 (.agg [(.int 0 (.ofNat 8)),(.int 0 z12)])) (K (.cj (.iface 132 (.agg [(.int 0 (.ofNat 8)),(.int 0 z12)]))) H)) (x1 a2 a3 a4 H))) (x1 a2 a3 a4 H)
theorem ac4{R:b9}(hR:fR R){K:KF}{x1:bf}(h1:Lh K x1):Li K (vV R K x1):=λa2 a3 a4 fU H h=>pk hR (cc h1 .nil) h
def WR(R:b9)(K:KF):Og:=vV R K (WQ R K)
theorem ac5{R:b9}(hR:fR R){K:KF}:Li K (WR R K):=ac4 hR (ac3 hR)
def Et(R:b9)(K:KF)(x2:Og)(a0 a1:AV)(H:AH):Prop:=kc (aA H) a0 λv1 H2=>kc (aA H2) a1 λv3 H4=>af v1 H4 λv5=>R.2.1 v5 H4 λo6 H7=>cR K o6 H7 λv8=>ah 0 v3 λv9=>af v9 H7 λv10=>cI 0 v10 λz11=>bI (aV z11 (.ofNat 1)) (x2 v1 v3 v8 (aV z11 (.ofNat 1)) H7) (bI (aV z11 (.ofNat 12)) (x2 v1 v3 v8 (aV z11 (.ofNat 12)) H7) (bI (aV z11 (.ofNat 6)) (x2 v1 v3 v8 (aV z11 (.ofNat 6)) H7) (x2 v1 v3 v8 (aV z11 (.ofNat 7)) H7)))
theorem ac6{R:b9}(hR:fR R){K:KF}{x2:Og}(h2:Li K x2)(a0 a1:AV)(H:AH)(h:Et R K x2 a0 a1 H):cx 116 K [] (aT (cv 116) [a0,a1]) [] H:=pk hR (cc h2 .nil) h
def as0(R:b9)(K:KF):aU:=Et R K (WR R K)
def Rm(R:b9):AV→AV→AH→KF→Prop:=λa0 a1 H K=>as0 R K a0 a1 H
theorem aod(R:b9)(hR:fR R):an gPa 116 (ai [.a,.a] (Rm R)):=rk λK a0 a1 H h=>ac6 hR (ac5 hR) a0 a1 H h
abbrev ur:Type:=(AV→AV→AH→KF→Prop)×(AH→KF→Prop)×(AV→AV→AH→KF→Prop)×(AV→AV→AH→KF→Prop)×(AH→KF→Prop)×(AH→KF→Prop)×(AV→AV→AH→KF→Prop)×(AV→AV→AH→KF→Prop)×(AV→AV→AH→KF→Prop)×(AV→AV→AH→KF→Prop)×(AH→KF→Prop)×(AV→AV→AV→AV→AH→KF→Prop)×(AV→AV→AH→KF→Prop)×(AH→KF→Prop)
def Lq(R:ur):List (Nat×bQ):=[(81,ai [.a,.a] R.1),(83,ai [] R.2.1),(118,ai [.a,.a] R.2.2.1),(140,ai [.a,.a] R.2.2.2.1),(141,ai [] R.2.2.2.2.1),(143,ai [] R.2.2.2.2.2.1),(151,ai [.a,.a] R.2.2.2.2.2.2.1),(154,ai [.a,.a] R.2.2.2.2.2.2.2.1),(155,ai [.a,.a] R.2.2.2.2.2.2.2.2.1),(169,ai [.a,.a] R.2.2.2.2.2.2.2.2.2.1),(170,ai [] R.2.2.2.2.2.2.2.2.2.2.1),(178,ai [.a,.a,.a,.a] R.2.2.2.2.2.2.2.2.2.2.2.1),(180,ai [.a,.a] R.2.2.2.2.2.2.2.2.2.2.2.2.1),(188,ai [] R.2.2.2.2.2.2.2.2.2.2.2.2.2)]
abbrev ak2(R:ur):Prop:=ad gPa (Lq R)
def Eu(R:ur)(K:KF)(a0 a1:AV)(H:AH):Prop:=aC a0 (ah 2 a0 λv1=>af v1 H λv2=>bR v2 λv3=>cI 0 v3 λz4=>qR a1 λg8 x9 y10=>bT (ew gPa g8) (fY (Lq R) g8 (x9++([]++y10)) H λo5 H6=>cR K o5 H6 λv7=>aC a0 (ah 2 a0 λv11=>af v11 H6 λv12=>kU 2 v12 none (some (.int 0 z4)) none λv13=>aC a0 (ah 2 a0 λv14=>ag 1 v14 v13 H6 λdH=>K (.ret (.aE [])) dH))))
theorem ac7{R:ur}(hR:ak2 R){K:KF}(a0 a1:AV)(H:AH)(h:Eu R K a0 a1 H):cx 117 K [] (aT (cv 117) [a0,a1]) [] H:=pk hR .nil h
def as3(R:ur)(K:KF):aU:=Eu R K
def CK(R:ur):AV→AV→AH→KF→Prop:=λa0 a1 H K=>as3 R K a0 a1 H
theorem aoe(R:ur)(hR:ak2 R):an gPa 117 (ai [.a,.a] (CK R)):=rk λK a0 a1 H h=>ac7 hR a0 a1 H h
abbrev lQ:Type:=(AV→AV→AH→KF→Prop)
def as4(R:lQ):List (Nat×bQ):=[(119,ai [.a,.a] R)]
abbrev CL(R:lQ):Prop:=ad gPa (as4 R)
abbrev sI(K:KF)(F:aB):Prop:=aN 118 K [0,1] 14 [1,4,5,6] [.a,.a,.i 0,.i 0] F
def Ev(R:lQ)(K:KF)(x1:aB)(a1 a4:AV)(a5 a6:Int)(H:AH):Prop:=bI (bO a6 a5) (cw 5 a4 (.int 0 a6) λv1=>aM 5 v1 H λv2=>cm H (dC (aA H) [(.int 0 (.ofNat 0)),(.int 0 (.ofNat 0)),.ab,.ab,.ab] λv3 H4=>ag 5 v3 v2 H4 λH5=>af a1 H5 λv6=>aM 5 v3 H5 λv7=>R v6 v7 H5 λo8 H9=>cR K o8 H9 λv10=>aJ 0 (Int.add a6 (.ofNat 1)) λz11=>x1 a1 a4 a5 z11 H9)) (K (.ret (.aE [])) H)
theorem ac8{R:lQ}(hR:CL R){K:KF}{x1:aB}(h1:sI K x1):sI K (Ev R K x1):=λa1 a4 a5 a6 H h=>pk hR (cc h1 .nil) h
def WS(R:lQ)(K:KF)(i1:aB):aB:=Ev R K i1
theorem ac9{R:lQ}(hR:CL R){K:KF}{i1:aB}(g1:sI K i1):sI K (WS R K i1):=ac8 hR g1
def vW(R:lQ)(K:KF)(n:Nat):aB:=Nat.rec (motive:=λ_=>aB) (λ_ _ _ _ _=>False) (λ_ i=>WS R K i) n
theorem ada{R:lQ}(hR:CL R){K:KF}(n:Nat):sI K (vW R K n):=Nat.rec (motive:=λn=>sI K (vW R K n)) (λa1 a4 a5 a6 H h=>h.elim) (λn ih=>ac9 hR ih) n
def Ew(R:lQ)(K:KF)(x1:aB)(a0 a1:AV)(H:AH):Prop:=af a0 H λv1=>bR v1 λv2=>cI 0 v2 λz3=>x1 a1 v1 z3 (.ofNat 0) H
theorem adb{R:lQ}(hR:CL R){K:KF}{x1:aB}(h1:sI K x1)(a0 a1:AV)(H:AH)(h:Ew R K x1 a0 a1 H):cx 118 K [] (aT (cv 118) [a0,a1]) [] H:=pk hR (cc h1 .nil) h
def as5(R:lQ)(K:KF):aU:=Ew R K (vW R K NL)
def CM(R:lQ):AV→AV→AH→KF→Prop:=λa0 a1 H K=>as5 R K a0 a1 H
theorem aof(R:lQ)(hR:CL R):an gPa 118 (ai [.a,.a] (CM R)):=rk λK a0 a1 H h=>adb hR (ada hR NL) a0 a1 H h
abbrev cF:Type:=(AV→AV→AH→KF→Prop)×(AV→Int→Int→AH→KF→Prop)×(AV→AH→KF→Prop)×(AV→AV→AH→KF→Prop)×(AV→AV→AH→KF→Prop)×(AV→AV→AH→KF→Prop)×(AV→AV→AH→KF→Prop)×(AV→AV→AH→KF→Prop)×(AV→AV→AH→KF→Prop)×(AV→Int→AH→KF→Prop)×(AV→Int→Int→Int→AV→AH→KF→Prop)
def as6(R:cF):List (Nat×bQ):=[(85,ai [.a,.a] R.1),(86,ai [.a,.i 0,.i 0] R.2.1),(144,ai [.a] R.2.2.1),(145,ai [.a,.a] R.2.2.2.1),(146,ai [.a,.a] R.2.2.2.2.1),(147,ai [.a,.a] R.2.2.2.2.2.1),(148,ai [.a,.a] R.2.2.2.2.2.2.1),(149,ai [.a,.a] R.2.2.2.2.2.2.2.1),(150,ai [.a,.a] R.2.2.2.2.2.2.2.2.1),(153,ai [.a,.i 0] R.2.2.2.2.2.2.2.2.2.1),(156,ai [.a,.i 0,.i 0,.i 0,.a] R.2.2.2.2.2.2.2.2.2.2)]
abbrev hY(R:cF):Prop:=ad gPa (as6 R)
abbrev Lr(K:KF)(F:aU):Prop:=aN 119 K [1,0,1,0,1,1,1] 149 [2,3] [.a,.a] F
abbrev Ls(K:KF)(F:aU):Prop:=aN 119 K [1,0,0,1,0,1,1,1] 149 [2,3] [.a,.a] F
abbrev Lt(K:KF)(F:aU):Prop:=aN 119 K [1,0,1,1,1,0,1,1,1] 149 [2,3] [.a,.a] F
abbrev Lu(K:KF)(F:bf):Prop:=aN 119 K [1,0,1,1,1,1,1,0,1,1,1] 149 [2,3,4] [.a,.a,.a] F
abbrev Lw(K:KF)(F:aU):Prop:=aN 119 K [1,1,1,0,1,1,1,0,1,1,1] 149 [2,3] [.a,.a] F
abbrev Ly(K:KF)(F:Ta):Prop:=aN 119 K [1,0,1,1,1,1,1,1,1,0,1,1,1] 149 [2] [.a] F
abbrev Lz(K:KF)(F:Ta):Prop:=aN 119 K [1,1,1,1,1,0,1,1,1,1,1,0,1,1,1] 149 [2] [.a] F
abbrev LA(K:KF)(F:Ta):Prop:=aN 119 K [1,0,1,1,1,1,1,1,1,1,1,1,1,1,1,1,1,1,1,1,1,1,1,0,1,1,1] 149 [2] [.a] F
abbrev LB(K:KF)(F:aU):Prop:=aN 119 K [1,0,0,1,1,1,1,1,1,1,1,1,1,1,1,1,1,1,1,1,1,1,1,1,0,1,1,1] 149 [2,3] [.a,.a] F
def LC(R:cF)(K:KF)(a2 a3:AV)(H:AH):Prop:=af a2 H λv1=>ah 2 a3 λv2=>af v2 H λv3=>cw 1 v3 (.int 0 (.ofNat 0)) λv4=>af v4 H λv5=>R.2.2.2.2.1 v1 v5 H λo6 H7=>cR K o6 H7 λv8=>K (.ret (.aE [])) H7
theorem ade{R:cF}(hR:hY R){K:KF}:Lr K (LC R K):=λa2 a3 H h=>pk hR .nil h
def LD(R:cF)(K:KF):aU:=LC R K
theorem adf{R:cF}(hR:hY R){K:KF}:Lr K (LD R K):=ade hR
def LF(R:cF)(K:KF)(x1:aU)(a2 a3:AV)(H:AH):Prop:=ah 3 a3 λv1=>af v1 H λv2=>bR v2 λv3=>cI 0 v3 λz4=>bI (aV z4 (.ofNat 0)) (af a2 H λv5=>R.2.1 v5 (.ofNat 1) (.ofNat 0) H λo6 H7=>cR K o6 H7 λv8=>x1 a2 a3 H7) (x1 a2 a3 H)
theorem adg{R:cF}(hR:hY R){K:KF}{x1:aU}(h1:Lr K x1):Ls K (LF R K x1):=λa2 a3 H h=>pk hR (cc h1 .nil) h
def LG(R:cF)(K:KF):aU:=LF R K (LD R K)
theorem adh{R:cF}(hR:hY R){K:KF}:Ls K (LG R K):=adg hR (adf hR)
def LH(R:cF)(K:KF)(a2:AV)(H:AH):Prop:=af a2 H λv1=>R.2.1 v1 (.ofNat 31) (.ofNat 0) H λo2 H3=>cR K o2 H3 λv4=>K (.ret (.aE [])) H3
theorem adi{R:cF}(hR:hY R){K:KF}:LA K (LH R K):=λa2 H h=>pk hR .nil h
def LJ(R:cF)(K:KF):Ta:=LH R K
theorem adj{R:cF}(hR:hY R){K:KF}:LA K (LJ R K):=adi hR
def LK(R:cF)(K:KF)(x8:Ta)(a2 a3:AV)(H:AH):Prop:=ah 3 a3 λv1=>af v1 H λv2=>bR v2 λv3=>cI 0 v3 λz4=>bI (aV z4 (.ofNat 0)) (af a2 H λv5=>R.2.1 v5 (.ofNat 1) (.ofNat 0) H λo6 H7=>cR K o6 H7 λv8=>x8 a2 H7) (x8 a2 H)
theorem adk{R:cF}(hR:hY R){K:KF}{x8:Ta}(h8:LA K x8):LB K (LK R K x8):=λa2 a3 H h=>pk hR (cc h8 .nil) h
def LL(R:cF)(K:KF):aU:=LK R K (LJ R K)
theorem adl{R:cF}(hR:hY R){K:KF}:LB K (LL R K):=adk hR (adj hR)
def WT(R:cF)(K:KF)(a2 a3:AV)(H:AH):Prop:=af a2 H λv1=>ah 2 a3 λv2=>af v2 H λv3=>cw 1 v3 (.int 0 (.ofNat 0)) λv4=>af v4 H λv5=>R.2.2.2.2.2.1 v1 v5 H λo6 H7=>cR K o6 H7 λv8=>K (.ret (.aE [])) H7
theorem adm{R:cF}(hR:hY R){K:KF}:Lw K (WT R K):=λa2 a3 H h=>pk hR .nil h
def WU(R:cF)(K:KF):aU:=WT R K
theorem adn{R:cF}(hR:hY R){K:KF}:Lw K (WU R K):=adm hR
def WV(R:cF)(K:KF)(x5:aU)(a2 a3:AV)(H:AH):Prop:=af a2 H λv1=>ah 2 a3 λv2=>af v2 H λv3=>cw 1 v3 (.int 0 (.ofNat 0)) λv4=>af v4 H λv5=>R.2.2.2.2.1 v1 v5 H λo6 H7=>cR K o6 H7 λv8=>af a2 H7 λv9=>ah 3 a3 λv10=>af v10 H7 λv11=>R.2.2.2.1 v9 v11 H7 λqZ dj=>cR K qZ dj λv14=>x5 a2 a3 dj
theorem ado{R:cF}(hR:hY R){K:KF}{x5:aU}(h5:Lw K x5):Lt K (WV R K x5):=λa2 a3 H h=>pk hR (cc h5 .nil) h
def WW(R:cF)(K:KF):aU:=WV R K (WU R K)
theorem adp{R:cF}(hR:hY R){K:KF}:Lt K (WW R K):=ado hR (adn hR)
def WX(R:cF)(K:KF)(a2:AV)(H:AH):Prop:=af a2 H λv1=>R.2.1 v1 (.ofNat 16) (.ofNat 0) H λo2 H3=>cR K o2 H3 λv4=>K (.ret (.aE [])) H3
theorem adq{R:cF}(hR:hY R){K:KF}:Lz K (WX R K):=λa2 H h=>pk hR .nil h
def WY(R:cF)(K:KF):Ta:=WX R K
theorem adr{R:cF}(hR:hY R){K:KF}:Lz K (WY R K):=adq hR
def WZ(R:cF)(K:KF)(x7:Ta)(a2 a3 a4:AV)(H:AH):Prop:=ah 0 a4 λv1=>af v1 H λv2=>cI 0 v2 λz3=>bI (aV z3 (.ofNat 6)) (af a2 H λv4=>ah 3 a3 λv5=>af v5 H λv6=>cw 7 v6 (.int 0 (.ofNat 1)) λv7=>aM 7 v7 H λv8=>R.2.2.2.2.2.2.1 v4 v8 H λo9 bo=>cR K o9 bo λv11=>af a2 bo λv12=>ah 3 a4 λv13=>af v13 bo λv14=>R.2.2.2.2.2.1 v12 v14 bo λtK dJ=>cR K tK dJ λv17=>K (.ret (.aE [])) dJ) (af a2 H λv18=>ah 5 a4 λv19=>af v19 H λv20=>R.2.2.2.1 v18 v20 H λCr jC=>cR K Cr jC λv23=>af a2 jC λv24=>ah 3 a3 λv25=>af v25 jC λv26=>cw 7 v26 (.int 0 (.ofNat 1)) λv27=>aM 7 v27 jC λv28=>R.2.2.2.2.2.2.1 v24 v28 jC λo29 HK=>cR K o29 HK λv31=>x7 a2 HK)
theorem ads{R:cF}(hR:hY R){K:KF}{x7:Ta}(h7:Lz K x7):Lu K (WZ R K x7):=λa2 a3 a4 H h=>pk hR (cc h7 .nil) h
def W0(R:cF)(K:KF):bf:=WZ R K (WY R K)
theorem adt{R:cF}(hR:hY R){K:KF}:Lu K (W0 R K):=ads hR (adr hR)
def W1(R:cF)(K:KF)(a2:AV)(H:AH):Prop:=af a2 H λv1=>R.2.1 v1 (.ofNat 18) (.ofNat 0) H λo2 H3=>cR K o2 H3 λv4=>K (.ret (.aE [])) H3
theorem adu{R:cF}(hR:hY R){K:KF}:Ly K (W1 R K):=λa2 H h=>pk hR .nil h
def W2(R:cF)(K:KF):Ta:=W1 R K
theorem adw{R:cF}(hR:hY R){K:KF}:Ly K (W2 R K):=adu hR
def Ex(R:cF)(K:KF)(x2 x9 x3:aU)(x4:bf)(x6:Ta)(a0 a1:AV)(H:AH):Prop:=kc (aA H) a0 λv1 H2=>kc (aA H2) a1 λv3 H4=>af v1 H4 λv5=>R.2.2.1 v5 H4 λo6 H7=>cR K o6 H7 λv8=>ah 0 v3 λv9=>af v9 H7 λv10=>cI 0 v10 λz11=>bI (aV z11 (.ofNat 1)) (af v1 H7 λv12=>ah 3 v3 λv13=>af v13 H7 λv14=>R.2.2.2.1 v12 v14 H7 λtK dJ=>cR K tK dJ λv17=>x2 v1 v3 dJ) (bI (aV z11 (.ofNat 12)) (af v1 H7 λv18=>R.2.1 v18 (.ofNat 1) (.ofNat 0) H7 λzu gV=>cR K zu gV λv21=>x3 v1 v3 gV) (bI (aV z11 (.ofNat 2)) (ah 3 v3 λv22=>af v22 H7 λv23=>cw 7 v23 (.int 0 (.ofNat 0)) λv24=>aM 7 v24 H7 λv25=>cm H7 (cW gPa (aA H7) 49 λv26 ly=>ag 7 v26 v25 ly λHJ=>x4 v1 v3 v26 HJ)) (bI (aV z11 (.ofNat 3)) (af v1 H7 λv29=>ah 3 v3 λv30=>af v30 H7 λv31=>R.2.2.2.1 v29 v31 H7 λo32 Cp=>cR K o32 Cp λv34=>x6 v1 Cp) (bI (aV z11 (.ofNat 4)) (af v1 H7 λv35=>aM 5 v3 H7 λv36=>R.2.2.2.2.2.2.2.1 v35 v36 H7 λVf qt=>cR K Vf qt λv39=>K (.ret (.aE [])) qt) (bI (aV z11 (.ofNat 5)) (af v1 H7 λv40=>R.2.2.2.2.2.2.2.2.1 v40 (.func 151 [] [v1,v3]) H7 λo41 qv=>cR K o41 qv λv43=>K (.ret (.aE [])) qv) (bI (aV z11 (.ofNat 8)) (af v1 H7 λv44=>R.2.2.2.2.2.2.2.2.1 v44 (.func 154 [] [v1,v3]) H7 λo45 H46=>cR K o45 H46 λv47=>K (.ret (.aE [])) H46) (bI (aV z11 (.ofNat 6)) (af v1 H7 λv48=>ah 3 v3 λv49=>af v49 H7 λv50=>bR v50 λv51=>cI 0 v51 λz52=>aM 5 v3 H7 λv53=>R.2.2.2.2.2.2.2.2.2.2 v48 (.ofNat 27) (.ofNat 28) z52 v53 H7 λo54 H55=>cR K o54 H55 λv56=>K (.ret (.aE [])) H55) (bI (aV z11 (.ofNat 7)) (af v1 H7 λv57=>aM 5 v3 H7 λv58=>R.2.2.2.2.2.2.2.2.2.2 v57 (.ofNat 29) (.ofNat 30) (.ofNat 1) v58 H7 λo59 Vv=>cR K o59 Vv λv61=>K (.ret (.aE [])) Vv) (bI (aV z11 (.ofNat 9)) (af v1 H7 λv62=>af v1 H7 λv63=>aC v63 (ah 5 v63 λv64=>af v64 H7 λv65=>af v1 H7 λv66=>R.2.2.2.2.2.2.2.2.2.1 v66 (.ofNat 23) H7 λo67 Rn=>cR K o67 Rn λv69=>af v64 Rn λv70=>bT (aH v70 v65) (af v1 Rn λv71=>bT (aH v71 v63) (af v1 Rn λv72=>bT (aH v72 v62) (bP Rn (one v69 (bG (aA Rn) 1 1 [v69] λv73 H74=>bT (Nat.beq H74.n (Nat.succ Rn.n)) (cV 1 8 v65 v73 H74 λv75 H76=>af v1 H76 λv77=>bT (aH v77 v62) (aC v62 (ah 5 v62 λv78=>ag 1 v78 v75 H76 λH79=>K (.ret (.aE [])) H79)))))))))) (bI (aV z11 (.ofNat 10)) (af v1 H7 λv80=>ah 3 v3 λv81=>af v81 H7 λv82=>R.2.2.2.1 v80 v82 H7 λo83 H84=>cR K o83 H84 λv85=>x9 v1 v3 H84) (bI (aV z11 (.ofNat 11)) (af v1 H7 λv86=>ah 4 v3 λv87=>af v87 H7 λv88=>cw 1 v88 (.int 0 (.ofNat 0)) λv89=>af v89 H7 λv90=>R.1 v86 v90 H7 λo91 H92=>cR K o91 H92 λv93=>K (.ret (.aE [])) H92) (K (.ret (.aE [])) H7))))))))))))
theorem adx{R:cF}(hR:hY R){K:KF}{x2 x9 x3:aU}{x4:bf}{x6:Ta}(h2:Ls K x2)(h9:LB K x9)(h3:Lt K x3)(h4:Lu K x4)(h6:Ly K x6)(a0 a1:AV)(H:AH)(h:Ex R K x2 x9 x3 x4 x6 a0 a1 H):cx 119 K [] (aT (cv 119) [a0,a1]) [] H:=pk hR (cc h2 (cc h9 (cc h3 (cc h4 (cc h6 .nil))))) h
def Ai(R:cF)(K:KF):aU:=Ex R K (LG R K) (LL R K) (WW R K) (W0 R K) (W2 R K)
def pI(R:cF):AV→AV→AH→KF→Prop:=λa0 a1 H K=>Ai R K a0 a1 H
theorem aog(R:cF)(hR:hY R):an gPa 119 (ai [.a,.a] (pI R)):=rk λK a0 a1 H h=>adx hR (adh hR) (adl hR) (adp hR) (adt hR) (adw hR) a0 a1 H h
abbrev lj:Type:=(AV→AV→AH→KF→Prop)
def as7(R:lj):List (Nat×bQ):=[(168,ai [.a,.a] R)]
abbrev CN(R:lj):Prop:=ad gPa (as7 R)
abbrev sJ(K:KF)(F:aB):Prop:=aN 137 K [0,1] 16 [0,6,7,8] [.a,.a,.i 0,.i 0] F
def Ey(R:lj)(K:KF)(x1:aB)(a0 a6:AV)(a7 a8:Int)(H:AH):Prop:=bI (bO a8 a7) (cw 7 a6 (.int 0 a8) λv1=>aM 7 v1 H λv2=>cm H (cW gPa (aA H) 49 λv3 H4=>ag 7 v3 v2 H4 λH5=>aM 7 v3 H5 λv6=>R a0 v6 H5 λo7 H8=>cR K o7 H8 λv9=>aJ 0 (Int.add a8 (.ofNat 1)) λz10=>x1 a0 a6 a7 z10 H8)) (K (.ret (.aE [])) H)
theorem ady{R:lj}(hR:CN R){K:KF}{x1:aB}(h1:sJ K x1):sJ K (Ey R K x1):=λa0 a6 a7 a8 H h=>pk hR (cc h1 .nil) h
def W3(R:lj)(K:KF)(i1:aB):aB:=Ey R K i1
theorem adz{R:lj}(hR:CN R){K:KF}{i1:aB}(g1:sJ K i1):sJ K (W3 R K i1):=ady hR g1
def vX(R:lj)(K:KF)(n:Nat):aB:=Nat.rec (motive:=λ_=>aB) (λ_ _ _ _ _=>False) (λ_ i=>W3 R K i) n
theorem adA{R:lj}(hR:CN R){K:KF}(n:Nat):sJ K (vX R K n):=Nat.rec (motive:=λn=>sJ K (vX R K n)) (λa0 a6 a7 a8 H h=>h.elim) (λn ih=>adz hR ih) n
def Ez(R:lj)(K:KF)(x1:aB)(a0 a1:AV)(H:AH):Prop:=bR a1 λv1=>cI 0 v1 λz2=>x1 a0 a1 z2 (.ofNat 0) H
theorem adB{R:lj}(hR:CN R){K:KF}{x1:aB}(h1:sJ K x1)(a0 a1:AV)(H:AH)(h:Ez R K x1 a0 a1 H):cx 137 K [] (aT (cv 137) [a0,a1]) [] H:=pk hR (cc h1 .nil) h
def as8(R:lj)(K:KF):aU:=Ez R K (vX R K NL)
def Ro(R:lj):AV→AV→AH→KF→Prop:=λa0 a1 H K=>as8 R K a0 a1 H
theorem aoh(R:lj)(hR:CN R):an gPa 137 (ai [.a,.a] (Ro R)):=rk λK a0 a1 H h=>adB hR (adA hR NL) a0 a1 H h
abbrev dd:Type:=(AV→AV→AV→AH→KF→Prop)×(AV→AH→KF→Prop)
def as9(R:dd):List (Nat×bQ):=[(82,ai [.a,.a,.a] R.1),(115,ai [.a] R.2)]
abbrev jD(R:dd):Prop:=ad gPa (as9 R)
abbrev LM(K:KF)(F:gx):Prop:=aN 139 K [1,1,1] 70 [0,4,5,6,7] [.a,.a,.a,.a,.i 0] F
abbrev EA(K:KF)(F:gx):Prop:=aN 139 K [1,1,1,1] 70 [0,4,5,6,7] [.a,.a,.a,.a,.i 0] F
abbrev LN(K:KF)(F:kM):Prop:=aN 139 K [1,1,1,1,1] 70 [6,7] [.a,.i 0] F
abbrev LO(K:KF)(F:gx):Prop:=aN 139 K [0,1,0,1,1,1] 70 [0,4,5,6,7] [.a,.a,.a,.a,.i 0] F
abbrev oB(K:KF)(F:de):Prop:=aN 139 K [0,1,0,1,1,1,1] 70 [0,5,6,7,36,37,38] [.a,.a,.a,.i 0,.a,.i 0,.i 0] F
abbrev LQ(K:KF)(F:de):Prop:=aN 139 K [1,1,1,0,0,1,0,1,1,1,1] 70 [0,5,6,7,36,37,38] [.a,.a,.a,.i 0,.a,.i 0,.i 0] F
abbrev LU(K:KF)(F:yw):Prop:=aN 139 K [1,1,0,0,1,1,0,0,1,0,1,1,1,1] 70 [0,5,6,7,9,36,37,38] [.a,.a,.a,.i 0,.a,.a,.i 0,.i 0] F
def Aj(R:dd)(K:KF)(x5:de)(a0 a5 a6:AV)(a7:Int)(a36:AV)(a37 a38:Int)(H:AH):Prop:=aJ 0 (Int.add a38 (.ofNat 1)) λz1=>x5 a0 a5 a6 a7 a36 a37 z1 H
theorem adC{R:dd}(hR:jD R){K:KF}{x5:de}(h5:oB K x5):LQ K (Aj R K x5):=λa0 a5 a6 a7 a36 a37 a38 H h=>pk hR (cc h5 .nil) h
def W4(R:dd)(K:KF)(i5:de):de:=Aj R K i5
theorem adD{R:dd}(hR:jD R){K:KF}{i5:de}(g5:oB K i5):LQ K (W4 R K i5):=adC hR g5
def Ak(R:dd)(K:KF)(x6:de)(a0 a5 a6:AV)(a7:Int)(a9 a36:AV)(a37 a38:Int)(H:AH):Prop:=R.1 a0 a9 (.func 169 [] [a6,a5]) H λo1 H2=>cR K o1 H2 λv3=>af a6 H2 λv4=>aC v4 (ah 1 v4 λv5=>af v5 H2 λv6=>cI 0 v6 λz7=>aJ 0 (Int.sub z7 (.ofNat 1)) λz8=>aC v4 (ah 1 v4 λv9=>ag 1 v9 (.int 0 z8) H2 λbo=>x6 a0 a5 a6 a7 a36 a37 a38 bo))
theorem adE{R:dd}(hR:jD R){K:KF}{x6:de}(h6:LQ K x6):LU K (Ak R K x6):=λa0 a5 a6 a7 a9 a36 a37 a38 H h=>pk hR (cc h6 .nil) h
def W5(R:dd)(K:KF)(i5:de):yw:=Ak R K (W4 R K i5)
theorem adF{R:dd}(hR:jD R){K:KF}{i5:de}(g5:oB K i5):LU K (W5 R K i5):=adE hR (adD hR g5)
def EB(R:dd)(K:KF)(a6:AV)(a7:Int)(H:AH):Prop:=af a6 H λv1=>af a6 H λv2=>aC v2 (ah 0 v2 λv3=>af v3 H λv4=>kU 1 v4 none (some (.int 0 a7)) none λv5=>aC v1 (ah 0 v1 λv6=>ag 1 v6 v5 H λH7=>K (.ret (.aE [])) H7))
theorem adG{R:dd}(hR:jD R){K:KF}:LN K (EB R K):=λa6 a7 H h=>pk hR .nil h
def W6(R:dd)(K:KF):kM:=EB R K
theorem adH{R:dd}(hR:jD R){K:KF}:LN K (W6 R K):=adG hR
def EC(R:dd)(K:KF)(x7:yw)(x3:kM)(a0 a5 a6:AV)(a7:Int)(a36:AV)(a37 a38:Int)(H:AH):Prop:=bI (bO a38 a37) (cw 1 a36 (.int 0 a38) λv1=>af v1 H λv2=>af a6 H λv3=>aC v3 (ah 1 v3 λv4=>af v4 H λv5=>cI 0 v5 λz6=>aJ 0 (Int.add z6 (.ofNat 1)) λz7=>aC v3 (ah 1 v3 λv8=>ag 1 v8 (.int 0 z7) H λH9=>x7 a0 a5 a6 a7 v2 a36 a37 a38 H9))) (x3 a6 a7 H)
theorem adI{R:dd}(hR:jD R){K:KF}{x7:yw}{x3:kM}(h7:LU K x7)(h3:LN K x3):oB K (EC R K x7 x3):=λa0 a5 a6 a7 a36 a37 a38 H h=>pk hR (cc h7 (cc h3 .nil)) h
def W7(R:dd)(K:KF)(i5:de):de:=EC R K (W5 R K i5) (W6 R K)
theorem adJ{R:dd}(hR:jD R){K:KF}{i5:de}(g5:oB K i5):oB K (W7 R K i5):=adI hR (adF hR g5) (adH hR)
def oC(R:dd)(K:KF)(n:Nat):de:=Nat.rec (motive:=λ_=>de) (λ_ _ _ _ _ _ _ _=>False) (λ_ i=>W7 R K i) n
theorem adK{R:dd}(hR:jD R){K:KF}(n:Nat):oB K (oC R K n):=Nat.rec (motive:=λn=>oB K (oC R K n)) (λa0 a5 a6 a7 a36 a37 a38 H h=>h.elim) (λn ih=>adJ hR ih) n
def vY(R:dd)(K:KF)(x5:de)(a0 a4 a5 a6:AV)(a7:Int)(H:AH):Prop:=ah 4 a4 λv1=>af v1 H λv2=>bR v2 λv3=>cI 0 v3 λz4=>x5 a0 a5 a6 a7 v2 z4 (.ofNat 0) H
theorem adL{R:dd}(hR:jD R){K:KF}{x5:de}(h5:oB K x5):EA K (vY R K x5):=λa0 a4 a5 a6 a7 H h=>pk hR (cc h5 .nil) h
def LV(R:dd)(K:KF):gx:=vY R K (oC R K NL)
theorem IN{R:dd}(hR:jD R){K:KF}:EA K (LV R K):=adL hR (adK hR NL)
def ED(R:dd)(K:KF)(x2:gx)(a0 a4 a5 a6:AV)(a7:Int)(H:AH):Prop:=af a6 H λv1=>af a6 H λv2=>aC v2 (ah 0 v2 λv3=>af v3 H λv4=>ah 2 a4 λv5=>af v5 H λv6=>cV 1 16 v4 v6 H λv7 H8=>af a6 H8 λv9=>bT (aH v9 v1) (aC v1 (ah 0 v1 λv10=>ag 1 v10 v7 H8 λdq=>x2 a0 a4 a5 a6 a7 dq)))
theorem adM{R:dd}(hR:jD R){K:KF}{x2:gx}(h2:EA K x2):LO K (ED R K x2):=λa0 a4 a5 a6 a7 H h=>pk hR (cc h2 .nil) h
def W8(R:dd)(K:KF):gx:=ED R K (LV R K)
theorem adN{R:dd}(hR:jD R){K:KF}:LO K (W8 R K):=adM hR (IN hR)
def EE(R:dd)(K:KF)(x4 x2:gx)(a0 a4 a5 a6:AV)(a7:Int)(H:AH):Prop:=ah 0 a4 λv1=>af v1 H λv2=>cI 0 v2 λz3=>bI (!(aV z3 (.ofNat 5))) (ah 0 a4 λv4=>af v4 H λv5=>cI 0 v5 λz6=>bI (!(aV z6 (.ofNat 8))) (x4 a0 a4 a5 a6 a7 H) (x2 a0 a4 a5 a6 a7 H)) (x2 a0 a4 a5 a6 a7 H)
theorem adO{R:dd}(hR:jD R){K:KF}{x4 x2:gx}(h4:LO K x4)(h2:EA K x2):LM K (EE R K x4 x2):=λa0 a4 a5 a6 a7 H h=>pk hR (cc h4 (cc h2 .nil)) h
def W9(R:dd)(K:KF):gx:=EE R K (W8 R K) (LV R K)
theorem adP{R:dd}(hR:jD R){K:KF}:LM K (W9 R K):=adO hR (adN hR) (IN hR)
def EF(R:dd)(K:KF)(x1:gx)(a0 a1 a2:AV)(H:AH):Prop:=kc (aA H) a1 λv1 H2=>kc (aA H2) a2 λv3 H4=>R.2 a0 H4 λo5 H6=>cR K o5 H6 λv7=>cm H6 (dC (aA H6) [.eH] λv8 H9=>ag 1 v8 v7 H9 λbo=>af v8 bo λv11=>aC v11 (ah 0 v11 λv12=>af v12 bo λv13=>bR v13 λv14=>cI 0 v14 λnk=>x1 a0 v1 v3 v8 nk bo))
theorem adQ{R:dd}(hR:jD R){K:KF}{x1:gx}(h1:LM K x1)(a0 a1 a2:AV)(H:AH)(h:EF R K x1 a0 a1 a2 H):cx 139 K [] (aT (cv 139) [a0,a1,a2]) [] H:=pk hR (cc h1 .nil) h
def ata(R:dd)(K:KF):bf:=EF R K (W9 R K)
def IP(R:dd):AV→AV→AV→AH→KF→Prop:=λa0 a1 a2 H K=>ata R K a0 a1 a2 H
theorem aoi(R:dd)(hR:jD R):an gPa 139 (ai [.a,.a,.a] (IP R)):=rk λK a0 a1 a2 H h=>adQ hR (adP hR) a0 a1 a2 H h
abbrev rr:Type:=(AV→AV→AH→KF→Prop)
def atb(R:rr):List (Nat×bQ):=[(137,ai [.a,.a] R)]
abbrev ak3(R:rr):Prop:=ad gPa (atb R)
def EG(R:rr)(K:KF)(a0 a1:AV)(H:AH):Prop:=af a0 H λv1=>ah 3 a1 λv2=>af v2 H λv3=>R v1 v3 H λo4 H5=>cR K o4 H5 λv6=>K (.ret (.aE [])) H5
theorem adR{R:rr}(hR:ak3 R){K:KF}(a0 a1:AV)(H:AH)(h:EG R K a0 a1 H):cx 140 K [] (aT (cv 140) [a0,a1]) [] H:=pk hR .nil h
def atc(R:rr)(K:KF):aU:=EG R K
def CO(R:rr):AV→AV→AH→KF→Prop:=λa0 a1 H K=>atc R K a0 a1 H
theorem aoj(R:rr)(hR:ak3 R):an gPa 140 (ai [.a,.a] (CO R)):=rk λK a0 a1 H h=>adR hR a0 a1 H h
abbrev gy:Type:=(AV→AV→AV→AH→KF→Prop)×(AV→AV→AH→KF→Prop)
def atd(R:gy):List (Nat×bQ):=[(82,ai [.a,.a,.a] R.1),(168,ai [.a,.a] R.2)]
abbrev ru(R:gy):Prop:=ad gPa (atd R)
abbrev oD(K:KF)(F:aQ):Prop:=aN 142 K [0,1,1] 30 [0,3,7,8,9] [.a,.a,.a,.i 0,.i 0] F
abbrev LW(K:KF)(F:aQ):Prop:=aN 142 K [1,1,1,0,0,1,1] 30 [0,3,7,8,9] [.a,.a,.a,.i 0,.i 0] F
abbrev LX(K:KF)(F:gJ):Prop:=aN 142 K [1,1,0,0,1,1,0,0,1,1] 30 [0,3,5,7,8,9] [.a,.a,.a,.a,.i 0,.i 0] F
def Al(R:gy)(K:KF)(x1:aQ)(a0 a3 a7:AV)(a8 a9:Int)(H:AH):Prop:=aJ 0 (Int.add a9 (.ofNat 1)) λz1=>x1 a0 a3 a7 a8 z1 H
theorem adS{R:gy}(hR:ru R){K:KF}{x1:aQ}(h1:oD K x1):LW K (Al R K x1):=λa0 a3 a7 a8 a9 H h=>pk hR (cc h1 .nil) h
def Xa(R:gy)(K:KF)(i1:aQ):aQ:=Al R K i1
theorem adT{R:gy}(hR:ru R){K:KF}{i1:aQ}(g1:oD K i1):LW K (Xa R K i1):=adS hR g1
def Am(R:gy)(K:KF)(x2:aQ)(a0 a3 a5 a7:AV)(a8 a9:Int)(H:AH):Prop:=R.1 a0 a5 (.func 170 [] []) H λo1 H2=>cR K o1 H2 λv3=>x2 a0 a3 a7 a8 a9 H2
theorem adU{R:gy}(hR:ru R){K:KF}{x2:aQ}(h2:LW K x2):LX K (Am R K x2):=λa0 a3 a5 a7 a8 a9 H h=>pk hR (cc h2 .nil) h
def Xb(R:gy)(K:KF)(i1:aQ):gJ:=Am R K (Xa R K i1)
theorem adV{R:gy}(hR:ru R){K:KF}{i1:aQ}(g1:oD K i1):LX K (Xb R K i1):=adU hR (adT hR g1)
def EH(R:gy)(K:KF)(x3:gJ)(a0 a3 a7:AV)(a8 a9:Int)(H:AH):Prop:=bI (bO a9 a8) (cw 1 a7 (.int 0 a9) λv1=>af v1 H λv2=>ah 3 a3 λv3=>af v3 H λv4=>bR v4 λv5=>cI 0 v5 λz6=>bI (bO a9 z6) (ah 3 a3 λv7=>af v7 H λv8=>cw 7 v8 (.int 0 a9) λv9=>aM 7 v9 H λv10=>R.2 a0 v10 H λqY cU=>cR K qY cU λv13=>x3 a0 a3 v2 a7 a8 a9 cU) (x3 a0 a3 v2 a7 a8 a9 H)) (K (.ret (.aE [])) H)
theorem adW{R:gy}(hR:ru R){K:KF}{x3:gJ}(h3:LX K x3):oD K (EH R K x3):=λa0 a3 a7 a8 a9 H h=>pk hR (cc h3 .nil) h
def Xc(R:gy)(K:KF)(i1:aQ):aQ:=EH R K (Xb R K i1)
theorem adX{R:gy}(hR:ru R){K:KF}{i1:aQ}(g1:oD K i1):oD K (Xc R K i1):=adW hR (adV hR g1)
def sK(R:gy)(K:KF)(n:Nat):aQ:=Nat.rec (motive:=λ_=>aQ) (λ_ _ _ _ _ _=>False) (λ_ i=>Xc R K i) n
theorem adY{R:gy}(hR:ru R){K:KF}(n:Nat):oD K (sK R K n):=Nat.rec (motive:=λn=>oD K (sK R K n)) (λa0 a3 a7 a8 a9 H h=>h.elim) (λn ih=>adX hR ih) n
def EI(R:gy)(K:KF)(x1:aQ)(a0 a1:AV)(H:AH):Prop:=kc (aA H) a1 λv1 H2=>ah 4 v1 λv3=>af v3 H2 λv4=>bR v4 λv5=>cI 0 v5 λz6=>x1 a0 v1 v4 z6 (.ofNat 0) H2
theorem adZ{R:gy}(hR:ru R){K:KF}{x1:aQ}(h1:oD K x1)(a0 a1:AV)(H:AH)(h:EI R K x1 a0 a1 H):cx 142 K [] (aT (cv 142) [a0,a1]) [] H:=pk hR (cc h1 .nil) h
def ate(R:gy)(K:KF):aU:=EI R K (sK R K NL)
def Rq(R:gy):AV→AV→AH→KF→Prop:=λa0 a1 H K=>ate R K a0 a1 H
theorem aok(R:gy)(hR:ru R):an gPa 142 (ai [.a,.a] (Rq R)):=rk λK a0 a1 H h=>adZ hR (adY hR NL) a0 a1 H h
abbrev lR:Type:=(AV→AV→AH→KF→Prop)
def atf(R:lR):List (Nat×bQ):=[(148,ai [.a,.a] R)]
abbrev CP(R:lR):Prop:=ad gPa (atf R)
abbrev sM(K:KF)(F:aB):Prop:=aN 145 K [0,1] 16 [0,6,7,8] [.a,.a,.i 0,.i 0] F
def vZ(R:lR)(K:KF)(x1:aB)(a0 a6:AV)(a7 a8:Int)(H:AH):Prop:=bI (bO a8 a7) (cw 7 a6 (.int 0 a8) λv1=>aM 7 v1 H λv2=>cm H (cW gPa (aA H) 49 λv3 H4=>ag 7 v3 v2 H4 λH5=>aM 7 v3 H5 λv6=>R a0 v6 H5 λo7 H8=>cR K o7 H8 λv9=>aJ 0 (Int.add a8 (.ofNat 1)) λz10=>x1 a0 a6 a7 z10 H8)) (K (.ret (.aE [])) H)
theorem ad0{R:lR}(hR:CP R){K:KF}{x1:aB}(h1:sM K x1):sM K (vZ R K x1):=λa0 a6 a7 a8 H h=>pk hR (cc h1 .nil) h
def Xd(R:lR)(K:KF)(i1:aB):aB:=vZ R K i1
theorem ad1{R:lR}(hR:CP R){K:KF}{i1:aB}(g1:sM K i1):sM K (Xd R K i1):=ad0 hR g1
def wa(R:lR)(K:KF)(n:Nat):aB:=Nat.rec (motive:=λ_=>aB) (λ_ _ _ _ _=>False) (λ_ i=>Xd R K i) n
theorem ad2{R:lR}(hR:CP R){K:KF}(n:Nat):sM K (wa R K n):=Nat.rec (motive:=λn=>sM K (wa R K n)) (λa0 a6 a7 a8 H h=>h.elim) (λn ih=>ad1 hR ih) n
def EJ(R:lR)(K:KF)(x1:aB)(a0 a1:AV)(H:AH):Prop:=bR a1 λv1=>cI 0 v1 λz2=>x1 a0 a1 z2 (.ofNat 0) H
theorem ad3{R:lR}(hR:CP R){K:KF}{x1:aB}(h1:sM K x1)(a0 a1:AV)(H:AH)(h:EJ R K x1 a0 a1 H):cx 145 K [] (aT (cv 145) [a0,a1]) [] H:=pk hR (cc h1 .nil) h
def atg(R:lR)(K:KF):aU:=EJ R K (wa R K NL)
def rv(R:lR):AV→AV→AH→KF→Prop:=λa0 a1 H K=>atg R K a0 a1 H
theorem aol(R:lR)(hR:CP R):an gPa 145 (ai [.a,.a] (rv R)):=rk λK a0 a1 H h=>ad3 hR (ad2 hR NL) a0 a1 H h
abbrev cn:Type:=(Int→AV→AV→AH→KF→Prop)×(AV→AV→AV→AH→KF→Prop)×(AV→Int→Int→AH→KF→Prop)×(AV→AH→KF→Prop)×(AV→AV→AH→KF→Prop)×(AV→AV→AH→KF→Prop)×(AV→AH→KF→Prop)×(AV→Int→AH→KF→Prop)×(AV→Int→AH→KF→Prop)×(AV→AV→AH→KF→Prop)×(AV→AV→AH→KF→Prop)×(AV→AV→AH→KF→Prop)×(Int→AV→AV→AH→KF→Prop)×(Int→AV→AV→AH→KF→Prop)
def Xe(R:cn):List (Nat×bQ):=[(20,ai [.i 0,.a,.a] R.1),(41,ai [.a,.a,.a] R.2.1),(86,ai [.a,.i 0,.i 0] R.2.2.1),(144,ai [.a] R.2.2.2.1),(145,ai [.a,.a] R.2.2.2.2.1),(148,ai [.a,.a] R.2.2.2.2.2.1),(152,ai [.a] R.2.2.2.2.2.2.1),(153,ai [.a,.i 0] R.2.2.2.2.2.2.2.1),(173,ai [.a,.i 0] R.2.2.2.2.2.2.2.2.1),(174,ai [.a,.a] R.2.2.2.2.2.2.2.2.2.1),(175,ai [.a,.a] R.2.2.2.2.2.2.2.2.2.2.1),(176,ai [.a,.a] R.2.2.2.2.2.2.2.2.2.2.2.1),(177,ai [.i 0,.a,.a] R.2.2.2.2.2.2.2.2.2.2.2.2.1),(190,ai [.i 0,.a,.a] R.2.2.2.2.2.2.2.2.2.2.2.2.2)]
abbrev gk(R:cn):Prop:=ad gPa (Xe R)
abbrev LY(K:KF)(F:bf):Prop:=aN 148 K [1,0,1,1,1,1,1,1,1,1,1,1,1,1,1,0,1,1,1] 197 [0,3,4] [.a,.a,.a] F
abbrev LZ(K:KF)(F:Ta):Prop:=aN 148 K [1,1,0,1,1,1,1,1,1,1,1,1,1,1,1,1,0,1,1,1] 197 [0] [.a] F
abbrev L8(K:KF)(F:aU):Prop:=aN 148 K [1,0,1,1,1,1,1,1,1,1,1,1,1,1,1,1,1,0,1,1,1] 197 [0,3] [.a,.a] F
abbrev qF(K:KF)(F:da):Prop:=aN 148 K [0,1,1,0,1,1,1,1,1,1,1,1,1,1,1,1,1,1,1,0,1,1,1] 197 [0,3,5] [.a,.a,.i 0] F
abbrev L9(K:KF)(F:Ta):Prop:=aN 148 K [1,0,1,1,1,1,1,1,1,1,1,1,1,1,1,1,1,1,1,0,1,1,1] 197 [0] [.a] F
abbrev Ma(K:KF)(F:aU):Prop:=aN 148 K [1,0,1,1,1,1,1,1,1,1,1,1,1,1,1,1,1,1,1,1,1,0,1,1,1] 197 [0,3] [.a,.a] F
abbrev Mb(K:KF)(F:ie):Prop:=aN 148 K [1,1,1,1,1,1,1,1,1,1,1,1,1,1,1,1,1,1,1,1,1,0,1,1,1] 197 [0,3,11,148] [.a,.a,.i 0,.b] F
abbrev Mc(K:KF)(F:da):Prop:=aN 148 K [1,0,0,1,0,0,1,1,0,1,1,1,1,1,1,1,1,1,1,1,1,1,1,1,0,1,1,1] 197 [0,3,5] [.a,.a,.i 0] F
abbrev Md(K:KF)(F:da):Prop:=aN 148 K [1,1,0,1,1,1,1,1,1,1,1,1,1,1,1,1,1,1,1,1,1,1,1,1,0,1,1,1] 197 [0,3,6] [.a,.a,.i 0] F
abbrev FU(K:KF)(F:aU):Prop:=aN 148 K [1,1,1,1,1,0,1,1,1,1,1,1,1,1,1,1,1,1,1,1,1,1,1,1,1,1,1,0,1,1,1] 197 [0,7] [.a,.a] F
def Me(R:cn)(K:KF)(a0:AV)(H:AH):Prop:=aC a0 (ah 0 a0 λv1=>af v1 H λv2=>aC v2 (ah 3 v2 λv3=>af v3 H λv4=>bR v4 λv5=>cI 0 v5 λz6=>aJ 0 (Int.sub z6 (.ofNat 1)) λz7=>R.2.2.1 a0 (.ofNat 12) z7 H λo8 H9=>cR K o8 H9 λv10=>K (.ret (.aE [])) H9))
theorem ad4{R:cn}(hR:gk R){K:KF}:LZ K (Me R K):=λa0 H h=>pk hR .nil h
def Mf(R:cn)(K:KF):Ta:=Me R K
theorem ad5{R:cn}(hR:gk R){K:KF}:LZ K (Mf R K):=ad4 hR
def Mg(R:cn)(K:KF)(x2:Ta)(a0 a3 a4:AV)(H:AH):Prop:=aC a0 (ah 0 a0 λv1=>af v1 H λv2=>aC a0 (ah 0 a0 λv3=>af v3 H λv4=>aC v4 (ah 3 v4 λv5=>af v5 H λv6=>ah 6 a3 λv7=>af v7 H λv8=>cw 2 v8 (.int 0 (.ofNat 0)) λv9=>ah 0 v9 λv10=>af v10 H λv11=>ah 6 a3 λv12=>af v12 H λv13=>cw 2 v13 (.int 0 (.ofNat 0)) λv14=>ah 1 v14 λv15=>af v15 H λv16=>R.2.1 a4 v11 v16 H λtD eB=>cR K tD eB λv19=>af v5 eB λv20=>bT (aH v20 v6) (af v3 eB λv21=>bT (aH v21 v4) (af v1 eB λv22=>bT (aH v22 v2) (bP eB (one v19 (bG (aA eB) 1 1 [v19] λv23 gD=>bT (Nat.beq gD.n (Nat.succ eB.n)) (cV 1 8 v6 v23 gD λv25 jS=>af v1 jS λv27=>bT (aH v27 v2) (aC v2 (ah 3 v2 λv28=>ag 1 v28 v25 jS λFq=>x2 a0 Fq)))))))))))
theorem ad6{R:cn}(hR:gk R){K:KF}{x2:Ta}(h2:LZ K x2):LY K (Mg R K x2):=λa0 a3 a4 H h=>pk hR (cc h2 .nil) h
def Mh(R:cn)(K:KF):bf:=Mg R K (Mf R K)
theorem ad7{R:cn}(hR:gk R){K:KF}:LY K (Mh R K):=ad6 hR (ad5 hR)
def Xf(R:cn)(K:KF)(x4:da)(a0 a3:AV)(a5:Int)(H:AH):Prop:=ah 5 a3 λv1=>af v1 H λv2=>aJ 0 (Int.add a5 (.ofNat 1)) λz3=>cw 7 v2 (.int 0 z3) λv4=>aM 7 v4 H λv5=>R.2.2.2.2.2.1 a0 v5 H λo6 H7=>cR K o6 H7 λv8=>R.2.2.1 a0 (.ofNat 14) (.ofNat 0) H7 λo9 bo=>cR K o9 bo λv11=>aJ 0 (Int.add a5 (.ofNat 2)) λz12=>x4 a0 a3 z12 bo
theorem ad8{R:cn}(hR:gk R){K:KF}{x4:da}(h4:qF K x4):Mc K (Xf R K x4):=λa0 a3 a5 H h=>pk hR (cc h4 .nil) h
def Xg(R:cn)(K:KF)(i4:da):da:=Xf R K i4
theorem ad9{R:cn}(hR:gk R){K:KF}{i4:da}(g4:qF K i4):Mc K (Xg R K i4):=ad8 hR g4
def Xh(R:cn)(K:KF)(x8:da)(a0 a3:AV)(a5:Int)(H:AH):Prop:=aJ 0 (Int.add a5 (.ofNat 1)) λz1=>ah 5 a3 λv2=>af v2 H λv3=>bR v3 λv4=>cI 0 v4 λz5=>bI (bO z1 z5) (ah 5 a3 λv6=>af v6 H λv7=>cw 7 v7 (.int 0 a5) λv8=>aM 7 v8 H λv9=>R.2.2.2.2.2.2.2.2.2.2.2.1 a0 v9 H λpB dq=>cR K pB dq λv12=>x8 a0 a3 a5 dq) (K (.ret (.aE [])) H)
theorem aea{R:cn}(hR:gk R){K:KF}{x8:da}(h8:Mc K x8):qF K (Xh R K x8):=λa0 a3 a5 H h=>pk hR (cc h8 .nil) h
def Xi(R:cn)(K:KF)(i4:da):da:=Xh R K (Xg R K i4)
theorem aeb{R:cn}(hR:gk R){K:KF}{i4:da}(g4:qF K i4):qF K (Xi R K i4):=aea hR (ad9 hR g4)
def Mi(R:cn)(K:KF)(n:Nat):da:=Nat.rec (motive:=λ_=>da) (λ_ _ _ _=>False) (λ_ i=>Xi R K i) n
theorem aec{R:cn}(hR:gk R){K:KF}(n:Nat):qF K (Mi R K n):=Nat.rec (motive:=λn=>qF K (Mi R K n)) (λa0 a3 a5 H h=>h.elim) (λn ih=>aeb hR ih) n
def Xj(R:cn)(K:KF)(x4:da)(a0 a3:AV)(H:AH):Prop:=x4 a0 a3 (.ofNat 0) H
theorem aed{R:cn}(hR:gk R){K:KF}{x4:da}(h4:qF K x4):L8 K (Xj R K x4):=λa0 a3 H h=>pk hR (cc h4 .nil) h
def Xk(R:cn)(K:KF):aU:=Xj R K (Mi R K NL)
theorem aee{R:cn}(hR:gk R){K:KF}:L8 K (Xk R K):=aed hR (aec hR NL)
def Xl(R:cn)(K:KF)(a0:AV)(H:AH):Prop:=R.2.2.1 a0 (.ofNat 15) (.ofNat 0) H λo1 H2=>cR K o1 H2 λv3=>K (.ret (.aE [])) H2
theorem aef{R:cn}(hR:gk R){K:KF}:L9 K (Xl R K):=λa0 H h=>pk hR .nil h
def Xm(R:cn)(K:KF):Ta:=Xl R K
theorem aeg{R:cn}(hR:gk R){K:KF}:L9 K (Xm R K):=aef hR
def Xn(R:cn)(K:KF)(a0 a3:AV)(H:AH):Prop:=ah 5 a3 λv1=>af v1 H λv2=>bR v2 λv3=>cI 0 v3 λz4=>aJ 0 (Int.sub z4 (.ofNat 1)) λz5=>R.2.2.1 a0 (.ofNat 17) z5 H λo6 H7=>cR K o6 H7 λv8=>K (.ret (.aE [])) H7
theorem aeh{R:cn}(hR:gk R){K:KF}:Ma K (Xn R K):=λa0 a3 H h=>pk hR .nil h
def Xo(R:cn)(K:KF):aU:=Xn R K
theorem aei{R:cn}(hR:gk R){K:KF}:Ma K (Xo R K):=aeh hR
def Rr(R:cn)(K:KF)(a0 a7:AV)(H:AH):Prop:=R.2.2.2.2.2.2.1 a0 H λo1 H2=>cR K o1 H2 λv3=>cI 0 v3 λz4=>qR a7 λg8 x9 y10=>bT (ew gPa g8) (fY (Xe R) g8 (x9++([(.int 0 z4)]++y10)) H2 λo5 H6=>cR K o5 H6 λv7=>K (.ret (.aE [])) H6)
theorem Ud{R:cn}(hR:gk R){K:KF}:FU K (Rr R K):=λa0 a7 H h=>pk hR .nil h
def Rs(R:cn)(K:KF):aU:=Rr R K
theorem Ue{R:cn}(hR:gk R){K:KF}:FU K (Rs R K):=Ud hR
def Xp(R:cn)(K:KF)(x10:aU)(a0 a3:AV)(a6:Int)(H:AH):Prop:=ah 5 a3 λv1=>af v1 H λv2=>cw 7 v2 (.int 0 (.ofNat 0)) λv3=>aM 7 v3 H λv4=>R.2.2.2.2.2.1 a0 v4 H λo5 H6=>cR K o5 H6 λv7=>R.2.2.2.2.2.2.2.1 a0 a6 H6 λo8 H9=>cR K o8 H9 λv10=>ah 5 a3 λv11=>af v11 H9 λv12=>cw 7 v12 (.int 0 (.ofNat 1)) λv13=>aM 7 v13 H9 λv14=>R.2.2.2.2.2.1 a0 v14 H9 λtK dJ=>cR K tK dJ λv17=>x10 a0 v10 dJ
theorem aej{R:cn}(hR:gk R){K:KF}{x10:aU}(h10:FU K x10):Md K (Xp R K x10):=λa0 a3 a6 H h=>pk hR (cc h10 .nil) h
def Xq(R:cn)(K:KF):da:=Xp R K (Rs R K)
theorem aek{R:cn}(hR:gk R){K:KF}:Md K (Xq R K):=aej hR (Ue hR)
def Xr(R:cn)(K:KF)(x9:da)(a0 a3:AV)(a11:Int)(a148:Bool)(H:AH):Prop:=bI a148 (ah 0 a3 λv1=>af v1 H λv2=>cI 0 v2 λz3=>bI (aV z3 (.ofNat 16)) (x9 a0 a3 (.ofNat 26) H) (x9 a0 a3 (.ofNat 25) H)) (bI (aV a11 (.ofNat 11)) (ah 5 a3 λv4=>af v4 H λv5=>R.2.2.2.2.1 a0 v5 H λo6 H7=>cR K o6 H7 λv8=>R.2.2.1 a0 (.ofNat 19) (.ofNat 0) H7 λo9 bo=>cR K o9 bo λv11=>K (.ret (.aE [])) bo) (bI (aV a11 (.ofNat 12)) (ah 5 a3 λv12=>af v12 H λv13=>R.2.2.2.2.1 a0 v13 H λzt dH=>cR K zt dH λv16=>R.2.2.1 a0 (.ofNat 20) (.ofNat 0) dH λtD eB=>cR K tD eB λv19=>K (.ret (.aE [])) eB) (bI (aV a11 (.ofNat 13)) (ah 5 a3 λv20=>af v20 H λv21=>R.2.2.2.2.1 a0 v21 H λo22 nh=>cR K o22 nh λv24=>R.2.2.1 a0 (.ofNat 21) (.ofNat 0) nh λCn jS=>cR K Cn jS λv27=>K (.ret (.aE [])) jS) (ah 5 a3 λv28=>af v28 H λv29=>R.2.2.2.2.1 a0 v29 H λCe mj=>cR K Ce mj λv32=>ah 4 a3 λv33=>af v33 mj λv34=>cI 0 v34 λz35=>R.2.2.1 a0 (.ofNat 22) z35 mj λo36 Hz=>cR K o36 Hz λv38=>K (.ret (.aE [])) Hz))))
theorem ael{R:cn}(hR:gk R){K:KF}{x9:da}(h9:Md K x9):Mb K (Xr R K x9):=λa0 a3 a11 a148 H h=>pk hR (cc h9 .nil) h
def Xs(R:cn)(K:KF):ie:=Xr R K (Xq R K)
theorem aem{R:cn}(hR:gk R){K:KF}:Mb K (Xs R K):=ael hR (aek hR)
def wc(R:cn)(K:KF)(x1:bf)(x3:aU)(x5:Ta)(x6:aU)(x7:ie)(a0 a1:AV)(H:AH):Prop:=kc (aA H) a1 λv1 H2=>R.2.2.2.1 a0 H2 λo3 H4=>cR K o3 H4 λv5=>ah 0 v1 λv6=>af v6 H4 λv7=>cI 0 v7 λz8=>bI (aV z8 (.ofNat 1)) (R.2.2.1 a0 (.ofNat 1) (.ofNat 0) H4 λo9 bo=>cR K o9 bo λv11=>K (.ret (.aE [])) bo) (bI (aV z8 (.ofNat 2)) (R.2.2.1 a0 (.ofNat 2) (.ofNat 0) H4 λqZ dj=>cR K qZ dj λv14=>K (.ret (.aE [])) dj) (bI (aV z8 (.ofNat 3)) (R.2.2.1 a0 (.ofNat 3) (.ofNat 0) H4 λtK dJ=>cR K tK dJ λv17=>K (.ret (.aE [])) dJ) (bI (aV z8 (.ofNat 4)) (ah 2 v1 λv18=>af v18 H4 λv19=>cI 0 v19 λz20=>R.2.2.2.2.2.2.2.2.1 a0 z20 H4 λCr jC=>cR K Cr jC λv23=>cI 0 v23 λz24=>R.2.2.1 a0 (.ofNat 4) z24 jC λCn jS=>cR K Cn jS λv27=>K (.ret (.aE [])) jS) (bI (aV z8 (.ofNat 5)) (ah 3 v1 λv28=>af v28 H4 λv29=>R.2.2.2.2.2.2.2.2.2.1 a0 v29 H4 λCe mj=>cR K Ce mj λv32=>cI 0 v32 λz33=>R.2.2.1 a0 (.ofNat 5) z33 mj λo34 BB=>cR K o34 BB λv36=>K (.ret (.aE [])) BB) (bI (aV z8 (.ofNat 6)) (ah 3 v1 λv37=>af v37 H4 λv38=>R.2.2.2.2.2.2.2.2.2.2.1 a0 v38 H4 λo39 H40=>cR K o39 H40 λv41=>K (.ret (.aE [])) H40) (bI (aV z8 (.ofNat 7)) (dC (aA H4) [.ab,.ab,.ab,.ab,.ab,(.int 0 (.ofNat 0)),(.int 0 (.ofNat 0)),(.int 0 (.ofNat 0))] λv42 ym=>one v42 (one a0 (dC (aA ym) [v42,a0,.ab,.ab,(.int 0 (.ofNat 0)),.ab] λv44 H45=>x1 a0 v1 v44 H45))) (bI (aV z8 (.ofNat 8)) (R.2.2.1 a0 (.ofNat 13) (.ofNat 0) H4 λo46 H47=>cR K o46 H47 λv48=>x3 a0 v1 H47) (bI (aV z8 (.ofNat 9)) (ah 5 v1 λv49=>af v49 H4 λv50=>R.2.2.2.2.1 a0 v50 H4 λo51 Nq=>cR K o51 Nq λv53=>x5 a0 Nq) (bI (aV z8 (.ofNat 10)) (ah 5 v1 λv54=>af v54 H4 λv55=>R.2.2.2.2.1 a0 v55 H4 λo56 H57=>cR K o56 H57 λv58=>x6 a0 v1 H57) (bI (aV z8 (.ofNat 15)) (x7 a0 v1 z8 (aV z8 (.ofNat 15)) H4) (x7 a0 v1 z8 (aV z8 (.ofNat 16)) H4)))))))))))
theorem aen{R:cn}(hR:gk R){K:KF}{x1:bf}{x3:aU}{x5:Ta}{x6:aU}{x7:ie}(h1:LY K x1)(h3:L8 K x3)(h5:L9 K x5)(h6:Ma K x6)(h7:Mb K x7)(a0 a1:AV)(H:AH)(h:wc R K x1 x3 x5 x6 x7 a0 a1 H):cx 148 K [] (aT (cv 148) [a0,a1]) [] H:=pk hR (cc h1 (cc h3 (cc h5 (cc h6 (cc h7 .nil))))) h
def oG(R:cn)(K:KF):aU:=wc R K (Mh R K) (Xk R K) (Xm R K) (Xo R K) (Xs R K)
def mJ(R:cn):AV→AV→AH→KF→Prop:=λa0 a1 H K=>oG R K a0 a1 H
theorem aom(R:cn)(hR:gk R):an gPa 148 (ai [.a,.a] (mJ R)):=rk λK a0 a1 H h=>aen hR (ad7 hR) (aee hR) (aeg hR) (aei hR) (aem hR) a0 a1 H h
abbrev iw:Type:=(AV→AV→AH→KF→Prop)×(AV→AV→AH→KF→Prop)
def ath(R:iw):List (Nat×bQ):=[(145,ai [.a,.a] R.1),(150,ai [.a,.a] R.2)]
abbrev uu(R:iw):Prop:=ad gPa (ath R)
abbrev Mj(K:KF)(F:qA):Prop:=aN 156 K [1,1,1] 73 [1,3,5,7,9,10] [.i 0,.i 0,.a,.a,.a,.a] F
abbrev Mk(K:KF)(F:qA):Prop:=aN 156 K [1,1,1,1,1] 73 [1,3,5,7,9,10] [.i 0,.i 0,.a,.a,.a,.a] F
abbrev Ml(K:KF)(F:ib):Prop:=aN 156 K [1,1,1,1,1,1] 73 [5,7,9,10] [.a,.a,.a,.a] F
def Xt(R:iw)(K:KF)(a5 a7 a9 a10:AV)(H:AH):Prop:=af a5 H λv1=>R.2 v1 (.func 178 [] [a5,a7,a10,a9]) H λo2 H3=>cR K o2 H3 λv4=>af a5 H3 λv5=>aC v5 (ah 4 v5 λv6=>af v6 H3 λv7=>cI 0 v7 λz8=>aJ 0 (Int.sub z8 (.ofNat 1)) λz9=>aC v5 (ah 4 v5 λv10=>ag 1 v10 (.int 0 z9) H3 λdq=>K (.ret (.aE [])) dq))
theorem aeo{R:iw}(hR:uu R){K:KF}:Ml K (Xt R K):=λa5 a7 a9 a10 H h=>pk hR .nil h
def Xu(R:iw)(K:KF):ib:=Xt R K
theorem aep{R:iw}(hR:uu R){K:KF}:Ml K (Xu R K):=aeo hR
def Xv(R:iw)(K:KF)(x3:ib)(a1 a3:Int)(a5 a7 a9 a10:AV)(H:AH):Prop:=af a5 H λv1=>aC v1 (ah 0 v1 λv2=>af v2 H λv3=>af a5 H λv4=>aC v4 (ah 0 v4 λv5=>af v5 H λv6=>aC v6 (ah 0 v6 λv7=>af v7 H λv8=>af a10 H λv9=>cI 0 v9 λz10=>bP H (bG (aA H) 1 3 [(.int 0 a1),(.int 0 z10),(.int 0 a3)] λv11 cU=>bT (Nat.beq cU.n (Nat.succ H.n)) (cV 3 24 v8 v11 cU λv13 dG=>af v2 dG λv15=>bT (aH v15 v3) (af a5 dG λv16=>bT (aH v16 v1) (aC v3 (ah 0 v3 λv17=>ag 1 v17 v13 dG λeB=>x3 a5 a7 a9 a10 eB))))))))
theorem aeq{R:iw}(hR:uu R){K:KF}{x3:ib}(h3:Ml K x3):Mk K (Xv R K x3):=λa1 a3 a5 a7 a9 a10 H h=>pk hR (cc h3 .nil) h
def Xw(R:iw)(K:KF):qA:=Xv R K (Xu R K)
theorem aer{R:iw}(hR:uu R){K:KF}:Mk K (Xw R K):=aeq hR (aep hR)
def Xx(R:iw)(K:KF)(x2:qA)(a1 a3:Int)(a5 a7 a9 a10:AV)(H:AH):Prop:=af a5 H λv1=>aC v1 (ah 4 v1 λv2=>af v2 H λv3=>cI 0 v3 λz4=>aJ 0 (Int.add z4 (.ofNat 1)) λz5=>aC v1 (ah 4 v1 λv6=>ag 1 v6 (.int 0 z5) H λH7=>af a5 H7 λv8=>aC v8 (ah 0 v8 λv9=>af v9 H7 λv10=>af a5 H7 λv11=>aC v11 (ah 0 v11 λv12=>af v12 H7 λv13=>aC v13 (ah 7 v13 λv14=>af v14 H7 λv15=>cI 0 v15 λlK=>af a5 H7 λv17=>aC v17 (ah 4 v17 λv18=>af v18 H7 λv19=>cI 0 v19 λz20=>oh GJ [(.int 0 z20)] (.int 0 lK) λv21=>cI 0 v21 λz22=>aC v10 (ah 7 v10 λv23=>ag 1 v23 (.int 0 z22) H7 λgD=>x2 a1 a3 a5 a7 a9 a10 gD)))))))
theorem aes{R:iw}(hR:uu R){K:KF}{x2:qA}(h2:Mk K x2):Mj K (Xx R K x2):=λa1 a3 a5 a7 a9 a10 H h=>pk hR (cc h2 .nil) h
def Xy(R:iw)(K:KF):qA:=Xx R K (Xw R K)
theorem aet{R:iw}(hR:uu R){K:KF}:Mj K (Xy R K):=aes hR (aer hR)
def Xz(R:iw)(K:KF)(x1:qA)(a0:AV)(a1 a2 a3:Int)(a4:AV)(H:AH):Prop:=kc (aA H) a0 λv1 H2=>dC (aA H2) [(.int 0 a2)] λv3 H4=>kc (aA H4) a4 λv5 H6=>af v1 H6 λv7=>ah 3 v5 λv8=>af v8 H6 λv9=>R.1 v7 v9 H6 λpB dq=>cR K pB dq λv12=>af v1 dq λv13=>aC v13 (ah 4 v13 λv14=>af v14 dq λv15=>cI 0 v15 λlK=>cm dq (dC (aA dq) [(.int 0 (.ofNat 0))] λv17 eB=>ag 1 v17 (.int 0 lK) eB λik=>x1 a1 a3 v1 v3 v5 v17 ik))
theorem aeu{R:iw}(hR:uu R){K:KF}{x1:qA}(h1:Mj K x1)(a0:AV)(a1 a2 a3:Int)(a4:AV)(H:AH)(h:Xz R K x1 a0 a1 a2 a3 a4 H):cx 156 K [] (aT (cv 156) [a0,(.int 0 a1),(.int 0 a2),(.int 0 a3),a4]) [] H:=pk hR (cc h1 .nil) h
def ati(R:iw)(K:KF):avN:=Xz R K (Xy R K)
def ak4(R:iw):AV→Int→Int→Int→AV→AH→KF→Prop:=λa0 a1 a2 a3 a4 H K=>ati R K a0 a1 a2 a3 a4 H
theorem aon(R:iw)(hR:uu R):an gPa 156 (ai [.a,.i 0,.i 0,.i 0,.a] (ak4 R)):=rk λK a0 a1 a2 a3 a4 H h=>aeu hR (aet hR) a0 a1 a2 a3 a4 H h
abbrev cL:Type:=(AV→AH→KF→Prop)×(AV→AV→AV→AH→KF→Prop)×(AV→AV→AH→KF→Prop)×(AV→AV→AH→KF→Prop)×(AV→AH→KF→Prop)
def atj(R:cL):List (Nat×bQ):=[(35,ai [.a] R.1),(82,ai [.a,.a,.a] R.2.1),(138,ai [.a,.a] R.2.2.1),(168,ai [.a,.a] R.2.2.2.1),(187,ai [.a] R.2.2.2.2)]
abbrev iX(R:cL):Prop:=ad gPa (atj R)
abbrev Mm(K:KF)(F:aU):Prop:=aN 168 K [1,1] 79 [0,3] [.a,.a] F
abbrev Mn(K:KF)(F:aU):Prop:=aN 168 K [1,1,1] 79 [0,3] [.a,.a] F
abbrev Mo(K:KF)(F:aU):Prop:=aN 168 K [0,1,0,1] 79 [0,3] [.a,.a] F
abbrev sN(K:KF)(F:aQ):Prop:=aN 168 K [0,1,0,1,1] 79 [0,3,29,30,31] [.a,.a,.a,.i 0,.i 0] F
abbrev oH(K:KF)(F:aB):Prop:=aN 168 K [0,1,1,1,1] 79 [0,40,41,42] [.a,.a,.i 0,.i 0] F
abbrev Mp(K:KF)(F:aB):Prop:=aN 168 K [1,1,1,0,0,1,1,1,1] 79 [0,40,41,42] [.a,.a,.i 0,.i 0] F
abbrev Mq(K:KF)(F:aQ):Prop:=aN 168 K [1,1,0,0,1,1,0,0,1,1,1,1] 79 [0,7,40,41,42] [.a,.a,.a,.i 0,.i 0] F
def EK(R:cL)(K:KF)(a0 a3:AV)(H:AH):Prop:=ah 1 a3 λv1=>af v1 H λv2=>cI 0 v2 λz3=>rU (.iface 132 (.agg [(.int 0 (.ofNat 14)),(.int 0 z3)])) (K (.cj (.iface 132 (.agg [(.int 0 (.ofNat 14)),(.int 0 z3)]))) H)
theorem aew{R:cL}(hR:iX R){K:KF}:Mo K (EK R K):=λa0 a3 H h=>pk hR .nil h
def XA(R:cL)(K:KF):aU:=EK R K
theorem aex{R:cL}(hR:iX R){K:KF}:Mo K (XA R K):=aew hR
def we(R:cL)(K:KF)(x5:aB)(a0 a40:AV)(a41 a42:Int)(H:AH):Prop:=aJ 0 (Int.add a42 (.ofNat 1)) λz1=>x5 a0 a40 a41 z1 H
theorem aey{R:cL}(hR:iX R){K:KF}{x5:aB}(h5:oH K x5):Mp K (we R K x5):=λa0 a40 a41 a42 H h=>pk hR (cc h5 .nil) h
def XB(R:cL)(K:KF)(i5:aB):aB:=we R K i5
theorem aez{R:cL}(hR:iX R){K:KF}{i5:aB}(g5:oH K i5):Mp K (XB R K i5):=aey hR g5
def An(R:cL)(K:KF)(x6:aB)(a0 a7 a40:AV)(a41 a42:Int)(H:AH):Prop:=ah 1 a7 λv1=>af v1 H λv2=>R.2.1 a0 v2 (.func 188 [] []) H λo3 H4=>cR K o3 H4 λv5=>aC a0 (ah 0 a0 λv6=>af v6 H4 λv7=>aC a0 (ah 0 a0 λv8=>af v8 H4 λv9=>bR v9 λv10=>cI 0 v10 λz11=>aJ 0 (Int.sub z11 (.ofNat 1)) λz12=>kU 1 v7 none (some (.int 0 z12)) none λv13=>aC a0 (ah 0 a0 λv14=>ag 1 v14 v13 H4 λdH=>x6 a0 a40 a41 a42 dH)))
theorem aeA{R:cL}(hR:iX R){K:KF}{x6:aB}(h6:Mp K x6):Mq K (An R K x6):=λa0 a7 a40 a41 a42 H h=>pk hR (cc h6 .nil) h
def XC(R:cL)(K:KF)(i5:aB):aQ:=An R K (XB R K i5)
theorem aeB{R:cL}(hR:iX R){K:KF}{i5:aB}(g5:oH K i5):Mq K (XC R K i5):=aeA hR (aez hR g5)
def EL(R:cL)(K:KF)(x7:aQ)(a0 a40:AV)(a41 a42:Int)(H:AH):Prop:=bI (bO a42 a41) (cw 2 a40 (.int 0 a42) λv1=>aM 2 v1 H λv2=>cm H (dC (aA H) [.ab,.ab] λv3 H4=>ag 2 v3 v2 H4 λH5=>aC a0 (ah 0 a0 λv6=>af v6 H5 λv7=>ah 0 v3 λv8=>af v8 H5 λv9=>R.1 v9 H5 λpB dq=>cR K pB dq λv12=>af v6 dq λv13=>bT (aH v13 v7) (one v12 (bP dq (dC (aA dq) [v12,(.int 0 (.ofNat 0))] λv14 dH=>bT (Nat.beq dH.n (Nat.succ dq.n)) (bP dH (one v14 (bG (aA dH) 1 1 [v14] λv16 jt=>bT (Nat.beq jt.n (Nat.succ dH.n)) (cV 1 8 v7 v16 jt λv18 ik=>aC a0 (ah 0 a0 λv20=>ag 1 v20 v18 ik λkL=>x7 a0 v3 a40 a41 a42 kL))))))))))) (K (.ret (.aE [])) H)
theorem aeC{R:cL}(hR:iX R){K:KF}{x7:aQ}(h7:Mq K x7):oH K (EL R K x7):=λa0 a40 a41 a42 H h=>pk hR (cc h7 .nil) h
def XD(R:cL)(K:KF)(i5:aB):aB:=EL R K (XC R K i5)
theorem aeD{R:cL}(hR:iX R){K:KF}{i5:aB}(g5:oH K i5):oH K (XD R K i5):=aeC hR (aeB hR g5)
def qG(R:cL)(K:KF)(n:Nat):aB:=Nat.rec (motive:=λ_=>aB) (λ_ _ _ _ _=>False) (λ_ i=>XD R K i) n
theorem aeE{R:cL}(hR:iX R){K:KF}(n:Nat):oH K (qG R K n):=Nat.rec (motive:=λn=>oH K (qG R K n)) (λa0 a40 a41 a42 H h=>h.elim) (λn ih=>aeD hR ih) n
def EM(R:cL)(K:KF)(x5:aB)(a0 a3:AV)(H:AH):Prop:=ah 6 a3 λv1=>af v1 H λv2=>bR v2 λv3=>cI 0 v3 λz4=>x5 a0 v2 z4 (.ofNat 0) H
theorem aeF{R:cL}(hR:iX R){K:KF}{x5:aB}(h5:oH K x5):Mn K (EM R K x5):=λa0 a3 H h=>pk hR (cc h5 .nil) h
def XE(R:cL)(K:KF):aU:=EM R K (qG R K NL)
theorem aeG{R:cL}(hR:iX R){K:KF}:Mn K (XE R K):=aeF hR (aeE hR NL)
def EN(R:cL)(K:KF)(x4:aQ)(x2:aU)(a0 a3 a29:AV)(a30 a31:Int)(H:AH):Prop:=bI (bO a31 a30) (cw 7 a29 (.int 0 a31) λv1=>aM 7 v1 H λv2=>cm H (cW gPa (aA H) 49 λv3 H4=>ag 7 v3 v2 H4 λH5=>aM 7 v3 H5 λv6=>R.2.2.2.1 a0 v6 H5 λo7 H8=>cR K o7 H8 λv9=>aJ 0 (Int.add a31 (.ofNat 1)) λz10=>x4 a0 a3 a29 a30 z10 H8)) (x2 a0 a3 H)
theorem aeH{R:cL}(hR:iX R){K:KF}{x4:aQ}{x2:aU}(h4:sN K x4)(h2:Mn K x2):sN K (EN R K x4 x2):=λa0 a3 a29 a30 a31 H h=>pk hR (cc h4 (cc h2 .nil)) h
def XF(R:cL)(K:KF)(i4:aQ):aQ:=EN R K i4 (XE R K)
theorem aeI{R:cL}(hR:iX R){K:KF}{i4:aQ}(g4:sN K i4):sN K (XF R K i4):=aeH hR g4 (aeG hR)
def sO(R:cL)(K:KF)(n:Nat):aQ:=Nat.rec (motive:=λ_=>aQ) (λ_ _ _ _ _ _=>False) (λ_ i=>XF R K i) n
theorem aeJ{R:cL}(hR:iX R){K:KF}(n:Nat):sN K (sO R K n):=Nat.rec (motive:=λn=>sN K (sO R K n)) (λa0 a3 a29 a30 a31 H h=>h.elim) (λn ih=>aeI hR ih) n
def Ao(R:cL)(K:KF)(x4:aQ)(a0 a3:AV)(H:AH):Prop:=ah 5 a3 λv1=>af v1 H λv2=>bR v2 λv3=>cI 0 v3 λz4=>x4 a0 a3 v2 z4 (.ofNat 0) H
theorem aeK{R:cL}(hR:iX R){K:KF}{x4:aQ}(h4:sN K x4):Mm K (Ao R K x4):=λa0 a3 H h=>pk hR (cc h4 .nil) h
def XG(R:cL)(K:KF):aU:=Ao R K (sO R K NL)
theorem aeL{R:cL}(hR:iX R){K:KF}:Mm K (XG R K):=aeK hR (aeJ hR NL)
def EP(R:cL)(K:KF)(x3 x1:aU)(a0 a1:AV)(H:AH):Prop:=kc (aA H) a1 λv1 H2=>ah 0 v1 λv3=>af v3 H2 λv4=>cI 0 v4 λz5=>bI (aV z5 (.ofNat 6)) (ah 3 v1 λv6=>af v6 H2 λv7=>R.2.2.1 a0 v7 H2 λo8 H9=>cR K o8 H9 λv10=>bC v10 λz11=>bI (!z11) (ah 3 v1 λv12=>af v12 H9 λv13=>R.2.2.2.2 v13 H9 λzt dH=>cR K zt dH λv16=>bC v16 λz17=>bI (!z17) (x3 a0 v1 dH) (x1 a0 v1 dH)) (x1 a0 v1 H9)) (x1 a0 v1 H2)
theorem aeM{R:cL}(hR:iX R){K:KF}{x3 x1:aU}(h3:Mo K x3)(h1:Mm K x1)(a0 a1:AV)(H:AH)(h:EP R K x3 x1 a0 a1 H):cx 168 K [] (aT (cv 168) [a0,a1]) [] H:=pk hR (cc h3 (cc h1 .nil)) h
def atk(R:cL)(K:KF):aU:=EP R K (XA R K) (XG R K)
def Rt(R:cL):AV→AV→AH→KF→Prop:=λa0 a1 H K=>atk R K a0 a1 H
theorem aoo(R:cL)(hR:iX R):an gPa 168 (ai [.a,.a] (Rt R)):=rk λK a0 a1 H h=>aeM hR (aex hR) (aeL hR) a0 a1 H h
abbrev jE:Type:=(AV→AV→AH→KF→Prop)×(AH→KF→Prop)×(AV→AV→AH→KF→Prop)×(AV→AV→AH→KF→Prop)×(AH→KF→Prop)×(AH→KF→Prop)×(AV→AV→AH→KF→Prop)×(AV→AV→AH→KF→Prop)×(AV→AV→AH→KF→Prop)×(AV→AV→AH→KF→Prop)×(AH→KF→Prop)×(AV→AV→AV→AV→AH→KF→Prop)×(AV→AV→AH→KF→Prop)×(AH→KF→Prop)
def lS(R:jE):List (Nat×bQ):=[(81,ai [.a,.a] R.1),(83,ai [] R.2.1),(118,ai [.a,.a] R.2.2.1),(140,ai [.a,.a] R.2.2.2.1),(141,ai [] R.2.2.2.2.1),(143,ai [] R.2.2.2.2.2.1),(151,ai [.a,.a] R.2.2.2.2.2.2.1),(154,ai [.a,.a] R.2.2.2.2.2.2.2.1),(155,ai [.a,.a] R.2.2.2.2.2.2.2.2.1),(169,ai [.a,.a] R.2.2.2.2.2.2.2.2.2.1),(170,ai [] R.2.2.2.2.2.2.2.2.2.2.1),(178,ai [.a,.a,.a,.a] R.2.2.2.2.2.2.2.2.2.2.2.1),(180,ai [.a,.a] R.2.2.2.2.2.2.2.2.2.2.2.2.1),(188,ai [] R.2.2.2.2.2.2.2.2.2.2.2.2.2)]
abbrev IQ(R:jE):Prop:=ad gPa (lS R)
abbrev Mr(K:KF)(F:Ta):Prop:=aN 169 K [1,1] 18 [0] [.a] F
def Ap(R:jE)(K:KF)(a0:AV)(H:AH):Prop:=af a0 H λv1=>aC v1 (ah 1 v1 λv2=>af v2 H λv3=>cI 0 v3 λz4=>aJ 0 (Int.add z4 (.ofNat 1)) λz5=>aC v1 (ah 1 v1 λv6=>ag 1 v6 (.int 0 z5) H λH7=>K (.ret (.aE [])) H7))
theorem aeN{R:jE}(hR:IQ R){K:KF}:Mr K (Ap R K):=λa0 H h=>pk hR .nil h
def XH(R:jE)(K:KF):Ta:=Ap R K
theorem aeO{R:jE}(hR:IQ R){K:KF}:Mr K (XH R K):=aeN hR
def ES(R:jE)(K:KF)(x1:Ta)(a0 a1:AV)(H:AH):Prop:=af a0 H λv1=>aC v1 (ah 1 v1 λv2=>af v2 H λv3=>cI 0 v3 λz4=>aJ 0 (Int.sub z4 (.ofNat 1)) λz5=>aC v1 (ah 1 v1 λv6=>ag 1 v6 (.int 0 z5) H λH7=>af a1 H7 λv8=>qR v8 λg12 xe y14=>bT (ew gPa g12) (fY (lS R) g12 (xe++([]++y14)) H7 λo9 bo=>cR K o9 bo λv11=>x1 a0 bo)))
theorem aeP{R:jE}(hR:IQ R){K:KF}{x1:Ta}(h1:Mr K x1)(a0 a1:AV)(H:AH)(h:ES R K x1 a0 a1 H):cx 169 K [] (aT (cv 169) [a0,a1]) [] H:=pk hR (cc h1 .nil) h
def atl(R:jE)(K:KF):aU:=ES R K (XH R K)
def CQ(R:jE):AV→AV→AH→KF→Prop:=λa0 a1 H K=>atl R K a0 a1 H
theorem aop(R:jE)(hR:IQ R):an gPa 169 (ai [.a,.a] (CQ R)):=rk λK a0 a1 H h=>aeP hR (aeO hR) a0 a1 H h
abbrev aeQ:Type:=AV→Bool→Int→AH→Prop
abbrev yC:Type:=AV→Int→Bool→AV→AH→Prop
abbrev dE:Type:=AV→Int→Int→Bool→AV→AH→Prop
abbrev EU:Type:=AV→Int→Int→Bool→AV→Int→AH→Prop
abbrev bM:Type:=Int→Bool→AV→Int→Int→Bool→Int→AV→Int→Int→AH→Prop
abbrev dK:Type:=Int→Bool→AV→Int→Int→Bool→Int→Int→AV→Int→Int→AH→Prop
abbrev uw:Type:=Unit
def atm(R:uw):List (Nat×bQ):=[]
abbrev ak5(R:uw):Prop:=ad gPa (atm R)
def XI(R:uw)(K:KF)(a0:Int)(H:AH):Prop:=bj (kK 1 a0) λu1=>bj (kK 1 (.ofNat 32)) λu2=>aJ 1 (.ofNat (Nat.lor u1 u2)) λz3=>K (.ret (.int 1 z3)) H
theorem aeR{R:uw}(hR:ak5 R){K:KF}(a0:Int)(H:AH)(h:XI R K a0 H):cx 158 K [] (aT (cv 158) [(.int 1 a0)]) [] H:=pk hR .nil h
def atn(R:uw)(K:KF):Ti:=XI R K
def ak6(R:uw):Int→AH→KF→Prop:=λa0 H K=>atn R K a0 H
theorem aoq(R:uw)(hR:ak5 R):an gPa 158 (ai [.i 1] (ak6 R)):=rk λK a0 H h=>aeR hR a0 H h
def XJ:uw:=()
def f158:Int→AH→KF→Prop:=ak6 XJ
theorem ato:an gPa 158 (ai [.i 1] f158):=aoq XJ ad.nil
abbrev bb:Type:=(Int→AH→KF→Prop)×(AV→AH→KF→Prop)
def atp(R:bb):List (Nat×bQ):=[(158,ai [.i 1] R.1),(159,ai [.a] R.2)]
abbrev cX(R:bb):Prop:=ad gPa (atp R)
abbrev qH(K:KF)(F:dE):Prop:=aN 124 K [1,1,1,1,1] 172 [0,1,2,8,9] [.a,.i 0,.i 0,.b,.a] F
abbrev Ms(K:KF)(F:dE):Prop:=aN 124 K [1,1,1,1,1,1] 172 [0,1,2,8,9] [.a,.i 0,.i 0,.b,.a] F
abbrev Mt(K:KF)(F:dE):Prop:=aN 124 K [1,1,0,0,1,1,1,1] 172 [0,1,2,8,9] [.a,.i 0,.i 0,.b,.a] F
abbrev Mu(K:KF)(F:EU):Prop:=aN 124 K [1,1,1,1,1,1,1,1] 172 [0,1,2,8,9,10] [.a,.i 0,.i 0,.b,.a,.i 3] F
abbrev Mv(K:KF)(F:aeQ):Prop:=aN 124 K [1,1,1,1,1,1,1,1,1,1,1,1] 172 [9,12,13] [.a,.b,.i 3] F
abbrev ki(K:KF)(F:bM):Prop:=aN 124 K [0,1,0,1,1,1,1,1,1,1,1,1,1,1] 172 [1,8,9,10,11,12,13,99,100,101] [.i 0,.b,.a,.i 3,.i 3,.b,.i 3,.a,.i 0,.i 0] F
abbrev Mw(K:KF)(F:yC):Prop:=aN 124 K [1,1,0,0,1,1,0,1,1,1,0,0,1,1,1,1] 172 [0,2,8,9] [.a,.i 0,.b,.a] F
abbrev Mx(K:KF)(F:dE):Prop:=aN 124 K [1,0,1,0,0,1,1,0,1,1,1,0,0,1,1,1,1] 172 [0,1,2,8,9] [.a,.i 0,.i 0,.b,.a] F
abbrev EV(K:KF)(F:bM):Prop:=aN 124 K [1,1,1,0,0,1,0,1,1,1,1,1,1,1,1,1,1,1] 172 [1,8,9,10,11,12,13,99,100,101] [.i 0,.b,.a,.i 3,.i 3,.b,.i 3,.a,.i 0,.i 0] F
abbrev FV(K:KF)(F:yC):Prop:=aN 124 K [1,1,1,1,0,0,1,1,0,1,1,1,0,0,1,1,1,1] 172 [0,2,8,9] [.a,.i 0,.b,.a] F
abbrev FW(K:KF)(F:dE):Prop:=aN 124 K [1,0,1,1,1,0,0,1,1,0,1,1,1,0,0,1,1,1,1] 172 [0,1,2,8,9] [.a,.i 0,.i 0,.b,.a] F
abbrev FX(K:KF)(F:dE):Prop:=aN 124 K [1,0,1,1,1,1,1,0,0,1,1,0,1,1,1,0,0,1,1,1,1] 172 [0,1,2,8,9] [.a,.i 0,.i 0,.b,.a] F
abbrev FY(K:KF)(F:dE):Prop:=aN 124 K [1,1,1,1,1,1,1,0,0,1,1,0,1,1,1,0,0,1,1,1,1] 172 [0,1,2,8,9] [.a,.i 0,.i 0,.b,.a] F
abbrev Bg(K:KF)(F:dK):Prop:=aN 124 K [1,1,1,0,0,1,1,0,0,1,0,1,1,1,1,1,1,1,1,1,1,1] 172 [1,8,9,10,11,12,13,16,99,100,101] [.i 0,.b,.a,.i 3,.i 3,.b,.i 3,.i 1,.a,.i 0,.i 0] F
abbrev FZ(K:KF)(F:dK):Prop:=aN 124 K [1,1,0,0,1,1,0,0,1,1,0,0,1,0,1,1,1,1,1,1,1,1,1,1,1] 172 [1,8,9,10,11,12,13,15,99,100,101] [.i 0,.b,.a,.i 3,.i 3,.b,.i 3,.i 1,.a,.i 0,.i 0] F
abbrev Ga(K:KF)(F:dK):Prop:=aN 124 K [1,1,1,1,0,0,1,1,0,0,1,1,0,0,1,0,1,1,1,1,1,1,1,1,1,1,1] 172 [1,8,9,10,11,12,13,15,99,100,101] [.i 0,.b,.a,.i 3,.i 3,.b,.i 3,.i 1,.a,.i 0,.i 0] F
abbrev Gb(K:KF)(F:bM):Prop:=aN 124 K [1,1,1,1,1,1,1,1,0,0,1,1,0,0,1,0,1,1,1,1,1,1,1,1,1,1,1] 172 [1,8,9,10,11,12,17,99,100,101] [.i 0,.b,.a,.i 3,.i 3,.b,.i 3,.a,.i 0,.i 0] F
abbrev Gc(K:KF)(F:dK):Prop:=aN 124 K [0,1,1,1,1,1,0,0,1,1,0,0,1,1,0,0,1,0,1,1,1,1,1,1,1,1,1,1,1] 172 [1,8,9,10,11,12,13,15,99,100,101] [.i 0,.b,.a,.i 3,.i 3,.b,.i 3,.i 1,.a,.i 0,.i 0] F
def XK(R:bb)(K:KF)(x6:bM)(a1:Int)(a8:Bool)(a9:AV)(a10 a11:Int)(a12:Bool)(fU:Int)(ml:AV)(jF jr:Int)(H:AH):Prop:=aJ 0 (Int.add jr (.ofNat 1)) λz1=>x6 a1 a8 a9 a10 a11 a12 fU ml jF z1 H
theorem aeS{R:bb}(hR:cX R){K:KF}{x6:bM}(h6:ki K x6):EV K (XK R K x6):=λa1 a8 a9 a10 a11 a12 fU ml jF jr H h=>pk hR (cc h6 .nil) h
def My(R:bb)(K:KF)(i6:bM):bM:=XK R K i6
theorem IS{R:bb}(hR:cX R){K:KF}{i6:bM}(g6:ki K i6):EV K (My R K i6):=aeS hR g6
def Ru(R:bb)(K:KF)(x9:bM)(a1:Int)(a8:Bool)(a9:AV)(a10 a11:Int)(a12:Bool)(a17:Int)(ml:AV)(jF jr:Int)(H:AH):Prop:=x9 a1 a8 a9 a10 a11 a12 a17 ml jF jr H
theorem Uf{R:bb}(hR:cX R){K:KF}{x9:bM}(h9:EV K x9):Gb K (Ru R K x9):=λa1 a8 a9 a10 a11 a12 a17 ml jF jr H h=>pk hR (cc h9 .nil) h
def Rv(R:bb)(K:KF)(i6:bM):bM:=Ru R K (My R K i6)
theorem Ug{R:bb}(hR:cX R){K:KF}{i6:bM}(g6:ki K i6):Gb K (Rv R K i6):=Uf hR (IS hR g6)
def Rx(R:bb)(K:KF)(x17:bM)(a1:Int)(a8:Bool)(a9:AV)(a10 a11:Int)(a12:Bool)(fU a16:Int)(ml:AV)(jF jr:Int)(H:AH):Prop:=aJ 1 a1 λz1=>bI (!(bO a16 z1)) (K (.ret (.aE [(.int 3 (.ofNat 0)),(.iface 171 (.int 0 (.ofNat 2)))])) H) (bI (!(bO fU a10)) (K (.ret (.aE [(.int 3 a11),(.iface 171 (.int 0 (.ofNat 1)))])) H) (aJ 3 a1 λz2=>aJ 3 (Int.mul fU z2) λz3=>aJ 3 a16 λz4=>aJ 3 (Int.add z3 z4) λz5=>bI (bO z5 z3) (K (.ret (.aE [(.int 3 a11),(.iface 171 (.int 0 (.ofNat 1)))])) H) (bI (bO a11 z5) (K (.ret (.aE [(.int 3 a11),(.iface 171 (.int 0 (.ofNat 1)))])) H) (x17 a1 a8 a9 a10 a11 a12 z5 ml jF jr H))))
theorem Uh{R:bb}(hR:cX R){K:KF}{x17:bM}(h17:Gb K x17):Bg K (Rx R K x17):=λa1 a8 a9 a10 a11 a12 fU a16 ml jF jr H h=>pk hR (cc h17 .nil) h
def Ge(R:bb)(K:KF)(i6:bM):dK:=Rx R K (Rv R K i6)
theorem Fv{R:bb}(hR:cX R){K:KF}{i6:bM}(g6:ki K i6):Bg K (Ge R K i6):=Uh hR (Ug hR g6)
def Ry(R:bb)(K:KF)(x14:dK)(a1:Int)(a8:Bool)(a9:AV)(a10 a11:Int)(a12:Bool)(fU tP:Int)(ml:AV)(jF jr:Int)(H:AH):Prop:=R.1 tP H λo1 H2=>cR K o1 H2 λv3=>cI 1 v3 λz4=>aJ 1 (Int.sub z4 (.ofNat 97)) λz5=>aJ 1 (Int.add z5 (.ofNat 10)) λz6=>x14 a1 a8 a9 a10 a11 a12 fU z6 ml jF jr H2
theorem Ui{R:bb}(hR:cX R){K:KF}{x14:dK}(h14:Bg K x14):Gc K (Ry R K x14):=λa1 a8 a9 a10 a11 a12 fU tP ml jF jr H h=>pk hR (cc h14 .nil) h
def Rz(R:bb)(K:KF)(i6:bM):dK:=Ry R K (Ge R K i6)
theorem Uj{R:bb}(hR:cX R){K:KF}{i6:bM}(g6:ki K i6):Gc K (Rz R K i6):=Ui hR (Fv hR g6)
def RA(R:bb)(K:KF)(x18:dK)(a1:Int)(a8:Bool)(a9:AV)(a10 a11:Int)(a12:Bool)(fU tP:Int)(ml:AV)(jF jr:Int)(H:AH):Prop:=R.1 tP H λo1 H2=>cR K o1 H2 λv3=>cI 1 v3 λz4=>bI (!(bO z4 (.ofNat 97))) (R.1 tP H2 λo5 H6=>cR K o5 H6 λv7=>cI 1 v7 λz8=>bI (!(bO (.ofNat 122) z8)) (x18 a1 a8 a9 a10 a11 a12 fU tP ml jF jr H6) (K (.ret (.aE [(.int 3 (.ofNat 0)),(.iface 171 (.int 0 (.ofNat 2)))])) H6)) (K (.ret (.aE [(.int 3 (.ofNat 0)),(.iface 171 (.int 0 (.ofNat 2)))])) H2)
theorem Uk{R:bb}(hR:cX R){K:KF}{x18:dK}(h18:Gc K x18):Ga K (RA R K x18):=λa1 a8 a9 a10 a11 a12 fU tP ml jF jr H h=>pk hR (cc h18 .nil) h
def RB(R:bb)(K:KF)(i6:bM):dK:=RA R K (Rz R K i6)
theorem Ul{R:bb}(hR:cX R){K:KF}{i6:bM}(g6:ki K i6):Ga K (RB R K i6):=Uk hR (Uj hR g6)
def RC(R:bb)(K:KF)(x14 x16:dK)(a1:Int)(a8:Bool)(a9:AV)(a10 a11:Int)(a12:Bool)(fU tP:Int)(ml:AV)(jF jr:Int)(H:AH):Prop:=bI (!(bO tP (.ofNat 48))) (bI (!(bO (.ofNat 57) tP)) (aJ 1 (Int.sub tP (.ofNat 48)) λz1=>x14 a1 a8 a9 a10 a11 a12 fU z1 ml jF jr H) (x16 a1 a8 a9 a10 a11 a12 fU tP ml jF jr H)) (x16 a1 a8 a9 a10 a11 a12 fU tP ml jF jr H)
theorem Um{R:bb}(hR:cX R){K:KF}{x14 x16:dK}(h14:Bg K x14)(h16:Ga K x16):FZ K (RC R K x14 x16):=λa1 a8 a9 a10 a11 a12 fU tP ml jF jr H h=>pk hR (cc h14 (cc h16 .nil)) h
def RD(R:bb)(K:KF)(i6:bM):dK:=RC R K (Ge R K i6) (RB R K i6)
theorem Un{R:bb}(hR:cX R){K:KF}{i6:bM}(g6:ki K i6):FZ K (RD R K i6):=Um hR (Fv hR g6) (Ul hR g6)
def XL(R:bb)(K:KF)(a9:AV)(a12:Bool)(fU:Int)(H:AH):Prop:=bI a12 (R.2 a9 H λo1 H2=>cR K o1 H2 λv3=>bC v3 λz4=>bI (!z4) (K (.ret (.aE [(.int 3 (.ofNat 0)),(.iface 171 (.int 0 (.ofNat 2)))])) H2) (K (.ret (.aE [(.int 3 fU),.dS])) H2)) (K (.ret (.aE [(.int 3 fU),.dS])) H)
theorem aeT{R:bb}(hR:cX R){K:KF}:Mv K (XL R K):=λa9 a12 fU H h=>pk hR .nil h
def XM(R:bb)(K:KF):aeQ:=XL R K
theorem aeU{R:bb}(hR:cX R){K:KF}:Mv K (XM R K):=aeT hR
def XN(R:bb)(K:KF)(x15:dK)(x9:bM)(x5:aeQ)(a1:Int)(a8:Bool)(a9:AV)(a10 a11:Int)(a12:Bool)(fU:Int)(ml:AV)(jF jr:Int)(H:AH):Prop:=bI (bO jr jF) (cw 1 ml (.int 0 jr) λv1=>af v1 H λv2=>cI 1 v2 λz3=>bI (aV z3 (.ofNat 95)) (bI a8 (x9 a1 a8 a9 a10 a11 true fU ml jF jr H) (x15 a1 a8 a9 a10 a11 a12 fU z3 ml jF jr H)) (x15 a1 a8 a9 a10 a11 a12 fU z3 ml jF jr H)) (x5 a9 a12 fU H)
theorem aeV{R:bb}(hR:cX R){K:KF}{x15:dK}{x9:bM}{x5:aeQ}(h15:FZ K x15)(h9:EV K x9)(h5:Mv K x5):ki K (XN R K x15 x9 x5):=λa1 a8 a9 a10 a11 a12 fU ml jF jr H h=>pk hR (cc h15 (cc h9 (cc h5 .nil))) h
def XO(R:bb)(K:KF)(i6:bM):bM:=XN R K (RD R K i6) (My R K i6) (XM R K)
theorem aeW{R:bb}(hR:cX R){K:KF}{i6:bM}(g6:ki K i6):ki K (XO R K i6):=aeV hR (Un hR g6) (IS hR g6) (aeU hR)
def Mz(R:bb)(K:KF)(n:Nat):bM:=Nat.rec (motive:=λ_=>bM) (λ_ _ _ _ _ _ _ _ _ _ _=>False) (λ_ i=>XO R K i) n
theorem aeX{R:bb}(hR:cX R){K:KF}(n:Nat):ki K (Mz R K n):=Nat.rec (motive:=λn=>ki K (Mz R K n)) (λa1 a8 a9 a10 a11 a12 fU ml jF jr H h=>h.elim) (λn ih=>aeW hR ih) n
def XQ(R:bb)(K:KF)(x6:bM)(a0:AV)(a1 a2:Int)(a8:Bool)(a9:AV)(a10:Int)(H:AH):Prop:=aJ 3 a2 λz1=>amq 3 (.int 3 (.ofNat 1)) (.int 3 z1) λv2=>cI 3 v2 λz3=>aJ 3 (Int.sub z3 (.ofNat 1)) λz4=>FG (aA H) a0 λv5 H6=>bR v5 λv7=>cI 0 v7 λz8=>x6 a1 a8 a9 a10 z4 false (.ofNat 0) v5 z8 (.ofNat 0) H6
theorem aeY{R:bb}(hR:cX R){K:KF}{x6:bM}(h6:ki K x6):Mu K (XQ R K x6):=λa0 a1 a2 a8 a9 a10 H h=>pk hR (cc h6 .nil) h
def XR(R:bb)(K:KF):EU:=XQ R K (Mz R K NL)
theorem aeZ{R:bb}(hR:cX R){K:KF}:Mu K (XR R K):=aeY hR (aeX hR NL)
def XS(R:bb)(K:KF)(x4:EU)(a0:AV)(a1 a2:Int)(a8:Bool)(a9:AV)(H:AH):Prop:=bI (aV a1 (.ofNat 10)) (x4 a0 a1 a2 a8 a9 (.ofNat 1844674407370955162) H) (bI (aV a1 (.ofNat 16)) (x4 a0 a1 a2 a8 a9 (.ofNat 1152921504606846976) H) (aJ 3 a1 λz1=>bI (aV z1 0) False (aJ 3 (Int.tdiv (.ofNat 18446744073709551615) z1) λz2=>aJ 3 (Int.add z2 (.ofNat 1)) λz3=>x4 a0 a1 a2 a8 a9 z3 H)))
theorem ae0{R:bb}(hR:cX R){K:KF}{x4:EU}(h4:Mu K x4):Ms K (XS R K x4):=λa0 a1 a2 a8 a9 H h=>pk hR (cc h4 .nil) h
def XT(R:bb)(K:KF):dE:=XS R K (XR R K)
theorem ae1{R:bb}(hR:cX R){K:KF}:Ms K (XT R K):=ae0 hR (aeZ hR)
def XU(R:bb)(K:KF)(x2:dE)(a0:AV)(a1 a2:Int)(a8:Bool)(a9:AV)(H:AH):Prop:=bI (aV a2 (.ofNat 0)) (x2 a0 a1 (.ofNat 64) a8 a9 H) (bI (bO a2 (.ofNat 0)) (K (.ret (.aE [(.int 3 (.ofNat 0)),(.iface 171 (.int 0 (.ofNat 4)))])) H) (bI (bO (.ofNat 64) a2) (K (.ret (.aE [(.int 3 (.ofNat 0)),(.iface 171 (.int 0 (.ofNat 4)))])) H) (x2 a0 a1 a2 a8 a9 H)))
theorem ae2{R:bb}(hR:cX R){K:KF}{x2:dE}(h2:Ms K x2):qH K (XU R K x2):=λa0 a1 a2 a8 a9 H h=>pk hR (cc h2 .nil) h
def sP(R:bb)(K:KF):dE:=XU R K (XT R K)
theorem oI{R:bb}(hR:cX R){K:KF}:qH K (sP R K):=ae2 hR (ae1 hR)
def XV(R:bb)(K:KF)(x1:dE)(a0:AV)(a1 a2:Int)(a8:Bool)(a9:AV)(H:AH):Prop:=eX a0 (some (.int 0 (.ofNat 2))) none λv1=>x1 v1 a1 a2 a8 a9 H
theorem ae3{R:bb}(hR:cX R){K:KF}{x1:dE}(h1:qH K x1):Mx K (XV R K x1):=λa0 a1 a2 a8 a9 H h=>pk hR (cc h1 .nil) h
def XW(R:bb)(K:KF):dE:=XV R K (sP R K)
theorem ae4{R:bb}(hR:cX R){K:KF}:Mx K (XW R K):=ae3 hR (oI hR)
def RG(R:bb)(K:KF)(x1:dE)(a0:AV)(a1 a2:Int)(a8:Bool)(a9:AV)(H:AH):Prop:=eX a0 (some (.int 0 (.ofNat 2))) none λv1=>x1 v1 a1 a2 a8 a9 H
theorem Uo{R:bb}(hR:cX R){K:KF}{x1:dE}(h1:qH K x1):FW K (RG R K x1):=λa0 a1 a2 a8 a9 H h=>pk hR (cc h1 .nil) h
def RH(R:bb)(K:KF):dE:=RG R K (sP R K)
theorem Up{R:bb}(hR:cX R){K:KF}:FW K (RH R K):=Uo hR (oI hR)
def RI(R:bb)(K:KF)(x1:dE)(a0:AV)(a1 a2:Int)(a8:Bool)(a9:AV)(H:AH):Prop:=eX a0 (some (.int 0 (.ofNat 2))) none λv1=>x1 v1 a1 a2 a8 a9 H
theorem Uq{R:bb}(hR:cX R){K:KF}{x1:dE}(h1:qH K x1):FX K (RI R K x1):=λa0 a1 a2 a8 a9 H h=>pk hR (cc h1 .nil) h
def RJ(R:bb)(K:KF):dE:=RI R K (sP R K)
theorem Ur{R:bb}(hR:cX R){K:KF}:FX K (RJ R K):=Uq hR (oI hR)
def RK(R:bb)(K:KF)(x1:dE)(a0:AV)(a1 a2:Int)(a8:Bool)(a9:AV)(H:AH):Prop:=eX a0 (some (.int 0 (.ofNat 1))) none λv1=>x1 v1 a1 a2 a8 a9 H
theorem Us{R:bb}(hR:cX R){K:KF}{x1:dE}(h1:qH K x1):FY K (RK R K x1):=λa0 a1 a2 a8 a9 H h=>pk hR (cc h1 .nil) h
def RL(R:bb)(K:KF):dE:=RK R K (sP R K)
theorem Ut{R:bb}(hR:cX R){K:KF}:FY K (RL R K):=Us hR (oI hR)
def RM(R:bb)(K:KF)(x12 xe:dE)(a0:AV)(a2:Int)(a8:Bool)(a9:AV)(H:AH):Prop:=sLen a0 λv1=>cI 0 v1 λz2=>bI (!(bO z2 (.ofNat 3))) (gN a0 (.int 0 (.ofNat 1)) λv3=>cI 1 v3 λz4=>R.1 z4 H λo5 H6=>cR K o5 H6 λv7=>cI 1 v7 λz8=>bI (aV z8 (.ofNat 120)) (x12 a0 (.ofNat 16) a2 a8 a9 H6) (xe a0 (.ofNat 8) a2 a8 a9 H6)) (xe a0 (.ofNat 8) a2 a8 a9 H)
theorem Uu{R:bb}(hR:cX R){K:KF}{x12 xe:dE}(h12:FX K x12)(h13:FY K xe):FV K (RM R K x12 xe):=λa0 a2 a8 a9 H h=>pk hR (cc h12 (cc h13 .nil)) h
def RN(R:bb)(K:KF):yC:=RM R K (RJ R K) (RL R K)
theorem Uv{R:bb}(hR:cX R){K:KF}:FV K (RN R K):=Uu hR (Ur hR) (Ut hR)
def XX(R:bb)(K:KF)(x11:dE)(x10:yC)(a0:AV)(a2:Int)(a8:Bool)(a9:AV)(H:AH):Prop:=sLen a0 λv1=>cI 0 v1 λz2=>bI (!(bO z2 (.ofNat 3))) (gN a0 (.int 0 (.ofNat 1)) λv3=>cI 1 v3 λz4=>R.1 z4 H λo5 H6=>cR K o5 H6 λv7=>cI 1 v7 λz8=>bI (aV z8 (.ofNat 111)) (x11 a0 (.ofNat 8) a2 a8 a9 H6) (x10 a0 a2 a8 a9 H6)) (x10 a0 a2 a8 a9 H)
theorem ae5{R:bb}(hR:cX R){K:KF}{x11:dE}{x10:yC}(h11:FW K x11)(h10:FV K x10):Mw K (XX R K x11 x10):=λa0 a2 a8 a9 H h=>pk hR (cc h11 (cc h10 .nil)) h
def XY(R:bb)(K:KF):yC:=XX R K (RH R K) (RN R K)
theorem ae6{R:bb}(hR:cX R){K:KF}:Mw K (XY R K):=ae5 hR (Up hR) (Uv hR)
def XZ(R:bb)(K:KF)(x8:dE)(x7:yC)(x1:dE)(a0:AV)(a1 a2:Int)(a8:Bool)(a9:AV)(H:AH):Prop:=bI (aV a1 (.ofNat 0)) (gN a0 (.int 0 (.ofNat 0)) λv1=>cI 1 v1 λz2=>bI (aV z2 (.ofNat 48)) (sLen a0 λv3=>cI 0 v3 λz4=>bI (!(bO z4 (.ofNat 3))) (gN a0 (.int 0 (.ofNat 1)) λv5=>cI 1 v5 λz6=>R.1 z6 H λo7 H8=>cR K o7 H8 λv9=>cI 1 v9 λz10=>bI (aV z10 (.ofNat 98)) (x8 a0 (.ofNat 2) a2 a8 a9 H8) (x7 a0 a2 a8 a9 H8)) (x7 a0 a2 a8 a9 H)) (x1 a0 (.ofNat 10) a2 a8 a9 H)) (K (.ret (.aE [(.int 3 (.ofNat 0)),(.iface 171 (.int 0 (.ofNat 3)))])) H)
theorem ae7{R:bb}(hR:cX R){K:KF}{x8:dE}{x7:yC}{x1:dE}(h8:Mx K x8)(h7:Mw K x7)(h1:qH K x1):Mt K (XZ R K x8 x7 x1):=λa0 a1 a2 a8 a9 H h=>pk hR (cc h8 (cc h7 (cc h1 .nil))) h
def X0(R:bb)(K:KF):dE:=XZ R K (XW R K) (XY R K) (sP R K)
theorem ae8{R:bb}(hR:cX R){K:KF}:Mt K (X0 R K):=ae7 hR (ae4 hR) (ae6 hR) (oI hR)
def X1(R:bb)(K:KF)(x3 x1:dE)(a0:AV)(a1 a2:Int)(H:AH):Prop:=wo a0 (.str 0 0) λv1=>bC v1 λz2=>bI z2 (K (.ret (.aE [(.int 3 (.ofNat 0)),(.iface 171 (.int 0 (.ofNat 2)))])) H) (bI (!(bO a1 (.ofNat 2))) (bI (!(bO (.ofNat 36) a1)) (x1 a0 a1 a2 (aV a1 (.ofNat 0)) a0 H) (x3 a0 a1 a2 (aV a1 (.ofNat 0)) a0 H)) (x3 a0 a1 a2 (aV a1 (.ofNat 0)) a0 H))
theorem ae9{R:bb}(hR:cX R){K:KF}{x3 x1:dE}(h3:Mt K x3)(h1:qH K x1)(a0:AV)(a1 a2:Int)(H:AH)(h:X1 R K x3 x1 a0 a1 a2 H):cx 124 K [] (aT (cv 124) [a0,(.int 0 a1),(.int 0 a2)]) [] H:=pk hR (cc h3 (cc h1 .nil)) h
def atq(R:bb)(K:KF):wK:=X1 R K (X0 R K) (sP R K)
def ak7(R:bb):AV→Int→Int→AH→KF→Prop:=λa0 a1 a2 H K=>atq R K a0 a1 a2 H
theorem aor(R:bb)(hR:cX R):an gPa 124 (ai [.a,.i 0,.i 0] (ak7 R)):=rk λK a0 a1 a2 H h=>ae9 hR (ae8 hR) (oI hR) a0 a1 a2 H h
abbrev ux:Type:=(AV→AV→Int→Int→AV→AH→KF→Prop)×(AV→Int→Int→AH→KF→Prop)
def atr(R:ux):List (Nat×bQ):=[(92,ai [.a,.a,.i 0,.i 0,.a] R.1),(124,ai [.a,.i 0,.i 0] R.2)]
abbrev ak8(R:ux):Prop:=ad gPa (atr R)
def X2(R:ux)(K:KF)(a0:AV)(a1 a2:Int)(H:AH):Prop:=R.2 a0 a1 a2 H λo1 H2=>cR K o1 H2 λv3=>dv v3 λl4=>cE l4 0 λv5=>cI 3 v5 λz6=>dv v3 λl7=>cE l7 1 λv8=>xS false v8 λv9=>bC v9 λz10=>bI z10 (R.1 (.str 9 2147778296661251613008) a0 a1 a2 v8 H2 λqY cU=>cR K qY cU λv13=>K (.ret (.aE [(.int 3 z6),v13])) cU) (K (.ret (.aE [(.int 3 z6),.dS])) H2)
theorem afa{R:ux}(hR:ak8 R){K:KF}(a0:AV)(a1 a2:Int)(H:AH)(h:X2 R K a0 a1 a2 H):cx 129 K [] (aT (cv 129) [a0,(.int 0 a1),(.int 0 a2)]) [] H:=pk hR .nil h
def ats(R:ux)(K:KF):wK:=X2 R K
def ak9(R:ux):AV→Int→Int→AH→KF→Prop:=λa0 a1 a2 H K=>ats R K a0 a1 a2 H
theorem aos(R:ux)(hR:ak8 R):an gPa 129 (ai [.a,.i 0,.i 0] (ak9 R)):=rk λK a0 a1 a2 H h=>afa hR a0 a1 a2 H h
end Go.Proofs.YtcedghechlgecaaGreatDoor.G
