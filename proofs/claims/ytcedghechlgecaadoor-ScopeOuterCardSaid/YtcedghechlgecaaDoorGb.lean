/- The functions of the lexer of the document and of Scope, by program. No condition. -/
import Derived.Test.YtcedghechlgecaaDoorGa
set_option maxRecDepth 100000
set_option maxHeartbeats 0
set_option linter.unusedVariables false
set_option linter.unusedSimpArgs false
namespace Go.Proofs.YtcedghechlgecaaDoor.G
open Go Go.X
abbrev T_:Type:=AH→Prop
abbrev ka:Type:=AV→AV→AV→Int→AH→Prop
abbrev xM:Type:=AV→AV→Int→AV→AV→Int→Bool→AH→Prop
abbrev kV:Type:=AV→AV→Int→AV→Int→AH→Prop
abbrev dh:Type:=AV→Int→AV→Int→AH→Prop
abbrev AK:Type:=AV→Int→AV→Int→Int→Bool→AH→Prop
abbrev Ti:Type:=Int→AH→Prop
abbrev fh:Type:=Unit
def aj1(R:fh):List (Nat×eM):=[]
abbrev nh(R:fh):Prop:=ad gPa (aj1 R)
abbrev Fl(K:KF)(F:Ti):Prop:=ba 29 K [1,1] 59 [1] [.i 0] F
abbrev mH(K:KF)(F:dP):Prop:=ba 29 K [0,0,1] 59 [0,1] [.a,.i 0] F
abbrev N9(K:KF)(F:dP):Prop:=ba 29 K [1,0,1,0,0,0,1] 59 [0,1] [.a,.i 0] F
abbrev Oa(K:KF)(F:dP):Prop:=ba 29 K [0,1,0,1,0,1,0,0,0,1] 59 [0,1] [.a,.i 0] F
abbrev tK(K:KF)(F:dP):Prop:=ba 29 K [0,0,0,1,0,1,0,1,0,0,0,1] 59 [0,1] [.a,.i 0] F
def Fm(R:fh)(K:KF)(x5 x2:dP)(a0:AV)(a1:Int)(H:AH):Prop:=sLen a0 λv1=>cI 0 v1 λz2=>bI (df a1 z2) (gC a0 (.int 0 a1) λv3=>cI 1 v3 λz4=>bI (!(cA z4 (.ofNat 10))) (aN 0 (Int.add a1 (.ofNat 1)) λz5=>x5 a0 z5 H) (x2 a0 a1 H)) (x2 a0 a1 H)
theorem Yh{R:fh}(hR:nh R){K:KF}{x5 x2:dP}(h5:tK K x5)(h2:mH K x2):tK K (Fm R K x5 x2):=λa0 a1 H h=>pk hR (cc h5 (cc h2 .nil)) h
def Yi(R:fh)(K:KF)(i2 i5:dP):dP:=Fm R K i5 i2
theorem Yj{R:fh}(hR:nh R){K:KF}{i2 i5:dP}(g2:mH K i2)(g5:tK K i5):tK K (Yi R K i2 i5):=Yh hR g5 g2
def wx(R:fh)(K:KF)(i2:dP)(n:Nat):dP:=Nat.rec (motive:=λ_=>dP) (λ_ _ _=>False) (λ_ i=>Yi R K i2 i) n
theorem Yk{R:fh}(hR:nh R){K:KF}{i2:dP}(g2:mH K i2)(n:Nat):tK K (wx R K i2 n):=Nat.rec (motive:=λn=>tK K (wx R K i2 n)) (λa0 a1 H h=>h.elim) (λn ih=>Yj hR g2 ih) n
def Fo(R:fh)(K:KF)(x5:dP)(a0:AV)(a1:Int)(H:AH):Prop:=x5 a0 a1 H
theorem Yl{R:fh}(hR:nh R){K:KF}{x5:dP}(h5:tK K x5):Oa K (Fo R K x5):=λa0 a1 H h=>pk hR (cc h5 .nil) h
def Ob(R:fh)(K:KF)(i2:dP):dP:=Fo R K (wx R K i2 NL)
theorem Ym{R:fh}(hR:nh R){K:KF}{i2:dP}(g2:mH K i2):Oa K (Ob R K i2):=Yl hR (Yk hR g2 NL)
def tL(R:fh)(K:KF)(a1:Int)(H:AH):Prop:=K (.ret (.int 0 a1)) H
theorem Yn{R:fh}(hR:nh R){K:KF}:Fl K (tL R K):=λa1 H h=>pk hR .nil h
def wy(R:fh)(K:KF):Ti:=tL R K
theorem JJ{R:fh}(hR:nh R){K:KF}:Fl K (wy R K):=Yn hR
def wz(R:fh)(K:KF)(x4:dP)(x1:Ti)(a0:AV)(a1:Int)(H:AH):Prop:=aN 0 (Int.add a1 (.ofNat 1)) λz1=>sLen a0 λv2=>cI 0 v2 λz3=>bI (df z1 z3) (aN 0 (Int.add a1 (.ofNat 2)) λz4=>lB a0 (some (.int 0 a1)) (some (.int 0 z4)) λv5=>yg v5 (.str 2 11565) λv6=>cH v6 λz7=>bI z7 (x4 a0 a1 H) (x1 a1 H)) (x1 a1 H)
theorem Yo{R:fh}(hR:nh R){K:KF}{x4:dP}{x1:Ti}(h4:Oa K x4)(h1:Fl K x1):N9 K (wz R K x4 x1):=λa0 a1 H h=>pk hR (cc h4 (cc h1 .nil)) h
def wA(R:fh)(K:KF)(i2:dP):dP:=wz R K (Ob R K i2) (wy R K)
theorem Yp{R:fh}(hR:nh R){K:KF}{i2:dP}(g2:mH K i2):N9 K (wA R K i2):=Yo hR (Ym hR g2) (JJ hR)
def rQ(R:fh)(K:KF)(x2 x3:dP)(x1:Ti)(a0:AV)(a1:Int)(H:AH):Prop:=sLen a0 λv1=>cI 0 v1 λz2=>bI (df a1 z2) (gC a0 (.int 0 a1) λv3=>cI 1 v3 λz4=>bI (cA z4 (.ofNat 32)) (aN 0 (Int.add a1 (.ofNat 1)) λz5=>x2 a0 z5 H) (gC a0 (.int 0 a1) λv6=>cI 1 v6 λz7=>bI (cA z7 (.ofNat 9)) (aN 0 (Int.add a1 (.ofNat 1)) λz8=>x2 a0 z8 H) (gC a0 (.int 0 a1) λv9=>cI 1 v9 λz10=>bI (cA z10 (.ofNat 10)) (aN 0 (Int.add a1 (.ofNat 1)) λz11=>x2 a0 z11 H) (gC a0 (.int 0 a1) λv12=>cI 1 v12 λz13=>bI (cA z13 (.ofNat 13)) (aN 0 (Int.add a1 (.ofNat 1)) λEM=>x2 a0 EM H) (x3 a0 a1 H))))) (x1 a1 H)
theorem Yq{R:fh}(hR:nh R){K:KF}{x2 x3:dP}{x1:Ti}(h2:mH K x2)(h3:N9 K x3)(h1:Fl K x1):mH K (rQ R K x2 x3 x1):=λa0 a1 H h=>pk hR (cc h2 (cc h3 (cc h1 .nil))) h
def Yr(R:fh)(K:KF)(i2:dP):dP:=rQ R K i2 (wA R K i2) (wy R K)
theorem Ys{R:fh}(hR:nh R){K:KF}{i2:dP}(g2:mH K i2):mH K (Yr R K i2):=Yq hR g2 (Yp hR g2) (JJ hR)
def dY(R:fh)(K:KF)(n:Nat):dP:=Nat.rec (motive:=λ_=>dP) (λ_ _ _=>False) (λ_ i=>Yr R K i) n
theorem Yt{R:fh}(hR:nh R){K:KF}(n:Nat):mH K (dY R K n):=Nat.rec (motive:=λn=>mH K (dY R K n)) (λa0 a1 H h=>h.elim) (λn ih=>Ys hR ih) n
def wB(R:fh)(K:KF)(x2:dP)(a0:AV)(a1:Int)(H:AH):Prop:=x2 a0 a1 H
theorem Yu{R:fh}(hR:nh R){K:KF}{x2:dP}(h2:mH K x2)(a0:AV)(a1:Int)(H:AH)(h:wB R K x2 a0 a1 H):fN 29 K [] (bL (ff 29) [a0,(.int 0 a1)]) [] H:=pk hR (cc h2 .nil) h
def aj2(R:fh)(K:KF):dP:=wB R K (dY R K NL)
def af7(R:fh):AV→Int→AH→KF→Prop:=λa0 a1 H K=>aj2 R K a0 a1 H
theorem ahC(R:fh)(hR:nh R):aE gPa 29 (aD [.a,.i 0] (af7 R)):=rk λK a0 a1 H h=>Yu hR (Yt hR NL) a0 a1 H h
def bR:fh:=()
def f29:AV→Int→AH→KF→Prop:=af7 bR
theorem aj3:aE gPa 29 (aD [.a,.i 0] f29):=ahC bR ad.nil
abbrev uP:Type:=Unit
def aj4(R:uP):List (Nat×eM):=[]
abbrev af8(R:uP):Prop:=ad gPa (aj4 R)
def Fp(R:uP)(K:KF)(a0:Int)(H:AH):Prop:=bI (!(df a0 (.ofNat 97))) (bI (!(df (.ofNat 122) a0)) (K (.ret (.bool true)) H) (bI (!(df a0 (.ofNat 65))) (bI (!(df (.ofNat 90) a0)) (K (.ret (.bool true)) H) (K (.ret (.bool (cA a0 (.ofNat 95)))) H)) (K (.ret (.bool (cA a0 (.ofNat 95)))) H))) (bI (!(df a0 (.ofNat 65))) (bI (!(df (.ofNat 90) a0)) (K (.ret (.bool true)) H) (K (.ret (.bool (cA a0 (.ofNat 95)))) H)) (K (.ret (.bool (cA a0 (.ofNat 95)))) H))
theorem Yv{R:uP}(hR:af8 R){K:KF}(a0:Int)(H:AH)(h:Fp R K a0 H):fN 31 K [] (bL (ff 31) [(.int 1 a0)]) [] H:=pk hR .nil h
def aj5(R:uP)(K:KF):Ti:=Fp R K
def af9(R:uP):Int→AH→KF→Prop:=λa0 H K=>aj5 R K a0 H
theorem ahD(R:uP)(hR:af8 R):aE gPa 31 (aD [.i 1] (af9 R)):=rk λK a0 H h=>Yv hR a0 H h
def Oc:uP:=()
def f31:Int→AH→KF→Prop:=af9 Oc
theorem Yw:aE gPa 31 (aD [.i 1] f31):=ahD Oc ad.nil
abbrev uQ:Type:=Unit
def aj6(R:uQ):List (Nat×eM):=[]
abbrev aga(R:uQ):Prop:=ad gPa (aj6 R)
def Fq(R:uQ)(K:KF)(a0:Int)(H:AH):Prop:=bI (!(df a0 (.ofNat 48))) (K (.ret (.bool (!(df (.ofNat 57) a0)))) H) (K (.ret (.bool false)) H)
theorem Yx{R:uQ}(hR:aga R){K:KF}(a0:Int)(H:AH)(h:Fq R K a0 H):fN 33 K [] (bL (ff 33) [(.int 1 a0)]) [] H:=pk hR .nil h
def aj7(R:uQ)(K:KF):Ti:=Fq R K
def agb(R:uQ):Int→AH→KF→Prop:=λa0 H K=>aj7 R K a0 H
theorem ahE(R:uQ)(hR:aga R):aE gPa 33 (aD [.i 1] (agb R)):=rk λK a0 H h=>Yx hR a0 H h
def Od:uQ:=()
def f33:Int→AH→KF→Prop:=agb Od
theorem Fs:aE gPa 33 (aD [.i 1] f33):=ahE Od ad.nil
abbrev kc:Type:=(Int→AH→KF→Prop)×(Int→AH→KF→Prop)
def aj8(R:kc):List (Nat×eM):=[(31,aD [.i 1] R.1),(33,aD [.i 1] R.2)]
abbrev xN(R:kc):Prop:=ad gPa (aj8 R)
abbrev Oe(K:KF)(F:Ti):Prop:=ba 30 K [1,1] 24 [1] [.i 0] F
abbrev tM(K:KF)(F:dP):Prop:=ba 30 K [0,0,1] 24 [0,1] [.a,.i 0] F
def Ft(R:kc)(K:KF)(a1:Int)(H:AH):Prop:=K (.ret (.int 0 a1)) H
theorem Yy{R:kc}(hR:xN R){K:KF}:Oe K (Ft R K):=λa1 H h=>pk hR .nil h
def Yz(R:kc)(K:KF):Ti:=Ft R K
theorem YA{R:kc}(hR:xN R){K:KF}:Oe K (Yz R K):=Yy hR
def Fv(R:kc)(K:KF)(x2:dP)(x1:Ti)(a0:AV)(a1:Int)(H:AH):Prop:=sLen a0 λv1=>cI 0 v1 λz2=>bI (df a1 z2) (gC a0 (.int 0 a1) λv3=>cI 1 v3 λz4=>R.1 z4 H λo5 H6=>cR K o5 H6 λv7=>cH v7 λz8=>bI z8 (aN 0 (Int.add a1 (.ofNat 1)) λz9=>x2 a0 z9 H6) (gC a0 (.int 0 a1) λv10=>cI 1 v10 λz11=>R.2 z11 H6 λMF ln=>cR K MF ln λv14=>cH v14 λzu=>bI zu (aN 0 (Int.add a1 (.ofNat 1)) λrH=>x2 a0 rH ln) (x1 a1 ln))) (x1 a1 H)
theorem YB{R:kc}(hR:xN R){K:KF}{x2:dP}{x1:Ti}(h2:tM K x2)(h1:Oe K x1):tM K (Fv R K x2 x1):=λa0 a1 H h=>pk hR (cc h2 (cc h1 .nil)) h
def YC(R:kc)(K:KF)(i2:dP):dP:=Fv R K i2 (Yz R K)
theorem YD{R:kc}(hR:xN R){K:KF}{i2:dP}(g2:tM K i2):tM K (YC R K i2):=YB hR g2 (YA hR)
def tN(R:kc)(K:KF)(n:Nat):dP:=Nat.rec (motive:=λ_=>dP) (λ_ _ _=>False) (λ_ i=>YC R K i) n
theorem YE{R:kc}(hR:xN R){K:KF}(n:Nat):tM K (tN R K n):=Nat.rec (motive:=λn=>tM K (tN R K n)) (λa0 a1 H h=>h.elim) (λn ih=>YD hR ih) n
def Fw(R:kc)(K:KF)(x2:dP)(a0:AV)(a1:Int)(H:AH):Prop:=x2 a0 a1 H
theorem YF{R:kc}(hR:xN R){K:KF}{x2:dP}(h2:tM K x2)(a0:AV)(a1:Int)(H:AH)(h:Fw R K x2 a0 a1 H):fN 30 K [] (bL (ff 30) [a0,(.int 0 a1)]) [] H:=pk hR (cc h2 .nil) h
def aj9(R:kc)(K:KF):dP:=Fw R K (tN R K NL)
def agc(R:kc):AV→Int→AH→KF→Prop:=λa0 a1 H K=>aj9 R K a0 a1 H
theorem ahF(R:kc)(hR:xN R):aE gPa 30 (aD [.a,.i 0] (agc R)):=rk λK a0 a1 H h=>YF hR (YE hR NL) a0 a1 H h
def nL:kc:=(f31,f33)
def f30:AV→Int→AH→KF→Prop:=agc nL
theorem aka:aE gPa 30 (aD [.a,.i 0] f30):=ahF nL (ad.cons Yw (ad.cons Fs ad.nil))
abbrev ke:Type:=Unit
def akb(R:ke):List (Nat×eM):=[]
abbrev xO(R:ke):Prop:=ad gPa (akb R)
abbrev Of(K:KF)(F:T_):Prop:=ba 25 K [1,1] 18 [] [] F
abbrev tO(K:KF)(F:aA):Prop:=ba 25 K [0,1,0,1] 18 [0,1,5] [.a,.a,.i 0] F
def zG(R:ke)(K:KF)(H:AH):Prop:=K (.ret (.bool false)) H
theorem YG{R:ke}(hR:xO R){K:KF}:Of K (zG R K):=λH h=>pk hR .nil h
def YH(R:ke)(K:KF):T_:=zG R K
theorem YI{R:ke}(hR:xO R){K:KF}:Of K (YH R K):=YG hR
def wC(R:ke)(K:KF)(x2:aA)(x1:T_)(a0 a1:AV)(a5:Int)(H:AH):Prop:=eP a0 λv1=>cI 0 v1 λz2=>bI (df a5 z2) (cn 1 a0 (.int 0 a5) λv3=>af v3 H λv4=>yg v4 a1 λv5=>cH v5 λz6=>bI z6 (K (.ret (.bool true)) H) (aN 0 (Int.add a5 (.ofNat 1)) λz7=>x2 a0 a1 z7 H)) (x1 H)
theorem YJ{R:ke}(hR:xO R){K:KF}{x2:aA}{x1:T_}(h2:tO K x2)(h1:Of K x1):tO K (wC R K x2 x1):=λa0 a1 a5 H h=>pk hR (cc h2 (cc h1 .nil)) h
def YK(R:ke)(K:KF)(i2:aA):aA:=wC R K i2 (YH R K)
theorem YL{R:ke}(hR:xO R){K:KF}{i2:aA}(g2:tO K i2):tO K (YK R K i2):=YJ hR g2 (YI hR)
def qj(R:ke)(K:KF)(n:Nat):aA:=Nat.rec (motive:=λ_=>aA) (λ_ _ _ _=>False) (λ_ i=>YK R K i) n
theorem YM{R:ke}(hR:xO R){K:KF}(n:Nat):tO K (qj R K n):=Nat.rec (motive:=λn=>tO K (qj R K n)) (λa0 a1 a5 H h=>h.elim) (λn ih=>YL hR ih) n
def wD(R:ke)(K:KF)(x2:aA)(a0 a1:AV)(H:AH):Prop:=x2 a0 a1 (.ofNat 0) H
theorem YN{R:ke}(hR:xO R){K:KF}{x2:aA}(h2:tO K x2)(a0 a1:AV)(H:AH)(h:wD R K x2 a0 a1 H):fN 25 K [] (bL (ff 25) [a0,a1]) [] H:=pk hR (cc h2 .nil) h
def akc(R:ke)(K:KF):gi:=wD R K (qj R K NL)
def agd(R:ke):AV→AV→AH→KF→Prop:=λa0 a1 H K=>akc R K a0 a1 H
theorem ahG(R:ke)(hR:xO R):aE gPa 25 (aD [.a,.a] (agd R)):=rk λK a0 a1 H h=>YN hR (YM hR NL) a0 a1 H h
def kW:ke:=()
def f25:AV→AV→AH→KF→Prop:=agd kW
theorem Fy:aE gPa 25 (aD [.a,.a] f25):=ahG kW ad.nil
abbrev uR:Type:=(AV→AV→AH→KF→Prop)
def akd(R:uR):List (Nat×eM):=[(25,aD [.a,.a] R)]
abbrev age(R:uR):Prop:=ad gPa (akd R)
def Fz(R:uR)(K:KF)(a0:AV)(H:AH):Prop:=aX (ay H) 21 1 [(.str 3 6581857),(.str 5 461195539042),(.str 2 28516),(.str 4 1702063205),(.str 6 112602859662437),(.str 3 6581861),(.str 5 435728179558),(.str 3 7499622),(.str 8 7957695015192261990),(.str 2 26217),(.str 2 28265),(.str 5 465490374508),(.str 3 7104878),(.str 3 7630702),(.str 2 29295),(.str 6 127961662514546),(.str 6 121437875889522),(.str 4 1852139636),(.str 4 1702195828),(.str 5 465625706101),(.str 5 435610544247)] λv1 H2=>R v1 a0 H2 λo3 H4=>cR K o3 H4 λv5=>cH v5 λz6=>K (.ret (.bool z6)) H4
theorem YO{R:uR}(hR:age R){K:KF}(a0:AV)(H:AH)(h:Fz R K a0 H):fN 32 K [] (bL (ff 32) [a0]) [] H:=pk hR .nil h
def ake(R:uR)(K:KF):Ta:=Fz R K
def agf(R:uR):AV→AH→KF→Prop:=λa0 H K=>ake R K a0 H
theorem ahH(R:uR)(hR:age R):aE gPa 32 (aD [.a] (agf R)):=rk λK a0 H h=>YO hR a0 H h
def FA:uR:=(f25)
def f32:AV→AH→KF→Prop:=agf FA
theorem akf:aE gPa 32 (aD [.a] f32):=ahH FA (ad.cons Fy ad.nil)
abbrev iL:Type:=(Int→AH→KF→Prop)
def akg(R:iL):List (Nat×eM):=[(33,aD [.i 1] R)]
abbrev sP(R:iL):Prop:=ad gPa (akg R)
abbrev Og(K:KF)(F:Ti):Prop:=ba 34 K [1,1,1] 33 [4] [.i 3] F
abbrev rR(K:KF)(F:j2):Prop:=ba 34 K [0,1,0,1,1] 33 [0,4,5] [.a,.i 3,.i 0] F
abbrev Oh(K:KF)(F:j2):Prop:=ba 34 K [1,1,0,0,1,0,1,1] 33 [0,4,5] [.a,.i 3,.i 0] F
def FB(R:iL)(K:KF)(x2:j2)(a0:AV)(a4 a5:Int)(H:AH):Prop:=aN 0 (Int.add a5 (.ofNat 1)) λz1=>x2 a0 a4 z1 H
theorem YP{R:iL}(hR:sP R){K:KF}{x2:j2}(h2:rR K x2):Oh K (FB R K x2):=λa0 a4 a5 H h=>pk hR (cc h2 .nil) h
def YQ(R:iL)(K:KF)(i2:j2):j2:=FB R K i2
theorem YR{R:iL}(hR:sP R){K:KF}{i2:j2}(g2:rR K i2):Oh K (YQ R K i2):=YP hR g2
def FC(R:iL)(K:KF)(a4:Int)(H:AH):Prop:=bI (df (.ofNat 9223372036854775807) a4) (K (.ret (.bF [(.int 0 (.ofNat 0)),(.bool false)])) H) (aN 0 a4 λz1=>K (.ret (.bF [(.int 0 z1),(.bool true)])) H)
theorem YS{R:iL}(hR:sP R){K:KF}:Og K (FC R K):=λa4 H h=>pk hR .nil h
def YT(R:iL)(K:KF):Ti:=FC R K
theorem YU{R:iL}(hR:sP R){K:KF}:Og K (YT R K):=YS hR
def FD(R:iL)(K:KF)(x3:j2)(x1:Ti)(a0:AV)(a4 a5:Int)(H:AH):Prop:=sLen a0 λv1=>cI 0 v1 λz2=>bI (df a5 z2) (gC a0 (.int 0 a5) λv3=>cI 1 v3 λz4=>R z4 H λo5 H6=>cR K o5 H6 λv7=>cH v7 λz8=>bI (!z8) (K (.ret (.bF [(.int 0 (.ofNat 0)),(.bool false)])) H6) (bI (df (.ofNat 922337203685477580) a4) (K (.ret (.bF [(.int 0 (.ofNat 0)),(.bool false)])) H6) (aN 3 (Int.mul a4 (.ofNat 10)) λz9=>gC a0 (.int 0 a5) λv10=>cI 1 v10 λz11=>aN 1 (Int.sub z11 (.ofNat 48)) λz12=>aN 3 z12 λz13=>aN 3 (Int.add z9 z13) λEM=>x3 a0 EM a5 H6))) (x1 a4 H)
theorem YV{R:iL}(hR:sP R){K:KF}{x3:j2}{x1:Ti}(h3:Oh K x3)(h1:Og K x1):rR K (FD R K x3 x1):=λa0 a4 a5 H h=>pk hR (cc h3 (cc h1 .nil)) h
def YW(R:iL)(K:KF)(i2:j2):j2:=FD R K (YQ R K i2) (YT R K)
theorem YX{R:iL}(hR:sP R){K:KF}{i2:j2}(g2:rR K i2):rR K (YW R K i2):=YV hR (YR hR g2) (YU hR)
def wE(R:iL)(K:KF)(n:Nat):j2:=Nat.rec (motive:=λ_=>j2) (λ_ _ _ _=>False) (λ_ i=>YW R K i) n
theorem YY{R:iL}(hR:sP R){K:KF}(n:Nat):rR K (wE R K n):=Nat.rec (motive:=λn=>rR K (wE R K n)) (λa0 a4 a5 H h=>h.elim) (λn ih=>YX hR ih) n
def FE(R:iL)(K:KF)(x2:j2)(a0:AV)(H:AH):Prop:=x2 a0 (.ofNat 0) (.ofNat 0) H
theorem YZ{R:iL}(hR:sP R){K:KF}{x2:j2}(h2:rR K x2)(a0:AV)(H:AH)(h:FE R K x2 a0 H):fN 34 K [] (bL (ff 34) [a0]) [] H:=pk hR (cc h2 .nil) h
def akh(R:iL)(K:KF):Ta:=FE R K (wE R K NL)
def agh(R:iL):AV→AH→KF→Prop:=λa0 H K=>akh R K a0 H
theorem ahI(R:iL)(hR:sP R):aE gPa 34 (aD [.a] (agh R)):=rk λK a0 H h=>YZ hR (YY hR NL) a0 H h
def oX:iL:=(f33)
def f34:AV→AH→KF→Prop:=agh oX
theorem aki:aE gPa 34 (aD [.a] f34):=ahI oX (ad.cons Fs ad.nil)
abbrev jw:Type:=(Int→AH→KF→Prop)
def akj(R:jw):List (Nat×eM):=[(33,aD [.i 1] R)]
abbrev uS(R:jw):Prop:=ad gPa (akj R)
abbrev Oi(K:KF)(F:Ti):Prop:=ba 55 K [0,1,1,1,0,0,1] 31 [0] [.i 1] F
abbrev Oj(K:KF)(F:Ti):Prop:=ba 55 K [1,1,1,1,0,0,1] 31 [0] [.i 1] F
abbrev Ok(K:KF)(F:Ti):Prop:=ba 55 K [0,1,1,1,1,1,0,0,1] 31 [0] [.i 1] F
def FF(R:jw)(K:KF)(a0:Int)(H:AH):Prop:=aN 1 (Int.sub a0 (.ofNat 97)) λz1=>aN 0 z1 λz2=>aN 0 (Int.add z2 (.ofNat 10)) λz3=>K (.ret (.int 0 z3)) H
theorem Y0{R:jw}(hR:uS R){K:KF}:Oi K (FF R K):=λa0 H h=>pk hR .nil h
def Y1(R:jw)(K:KF):Ti:=FF R K
theorem Y2{R:jw}(hR:uS R){K:KF}:Oi K (Y1 R K):=Y0 hR
def zH(R:jw)(K:KF)(a0:Int)(H:AH):Prop:=aN 1 (Int.sub a0 (.ofNat 65)) λz1=>aN 0 z1 λz2=>aN 0 (Int.add z2 (.ofNat 10)) λz3=>K (.ret (.int 0 z3)) H
theorem Y3{R:jw}(hR:uS R){K:KF}:Ok K (zH R K):=λa0 H h=>pk hR .nil h
def Y4(R:jw)(K:KF):Ti:=zH R K
theorem Y5{R:jw}(hR:uS R){K:KF}:Ok K (Y4 R K):=Y3 hR
def zI(R:jw)(K:KF)(x3:Ti)(a0:Int)(H:AH):Prop:=bI (!(df a0 (.ofNat 65))) (bI (!(df (.ofNat 70) a0)) (x3 a0 H) (K (.ret (.int 0 (.negSucc 0))) H)) (K (.ret (.int 0 (.negSucc 0))) H)
theorem Y6{R:jw}(hR:uS R){K:KF}{x3:Ti}(h3:Ok K x3):Oj K (zI R K x3):=λa0 H h=>pk hR (cc h3 .nil) h
def Y7(R:jw)(K:KF):Ti:=zI R K (Y4 R K)
theorem Y8{R:jw}(hR:uS R){K:KF}:Oj K (Y7 R K):=Y6 hR (Y5 hR)
def FG(R:jw)(K:KF)(x1 x2:Ti)(a0:Int)(H:AH):Prop:=R a0 H λo1 H2=>cR K o1 H2 λv3=>cH v3 λz4=>bI z4 (aN 1 (Int.sub a0 (.ofNat 48)) λz5=>aN 0 z5 λz6=>K (.ret (.int 0 z6)) H2) (bI (!(df a0 (.ofNat 97))) (bI (!(df (.ofNat 102) a0)) (x1 a0 H2) (x2 a0 H2)) (x2 a0 H2))
theorem Y9{R:jw}(hR:uS R){K:KF}{x1 x2:Ti}(h1:Oi K x1)(h2:Oj K x2)(a0:Int)(H:AH)(h:FG R K x1 x2 a0 H):fN 55 K [] (bL (ff 55) [(.int 1 a0)]) [] H:=pk hR (cc h1 (cc h2 .nil)) h
def akk(R:jw)(K:KF):Ti:=FG R K (Y1 R K) (Y7 R K)
def agi(R:jw):Int→AH→KF→Prop:=λa0 H K=>akk R K a0 H
theorem ahJ(R:jw)(hR:uS R):aE gPa 55 (aD [.i 1] (agi R)):=rk λK a0 H h=>Y9 hR (Y2 hR) (Y8 hR) a0 H h
def qk:jw:=(f33)
def f55:Int→AH→KF→Prop:=agi qk
theorem akl:aE gPa 55 (aD [.i 1] f55):=ahJ qk (ad.cons Fs ad.nil)
abbrev ey:Type:=(Int→AH→KF→Prop)
def akm(R:ey):List (Nat×eM):=[(55,aD [.i 1] R)]
abbrev kX(R:ey):Prop:=ad gPa (akm R)
abbrev Ol(K:KF)(F:T_):Prop:=ba 35 K [1,1,1,1] 116 [] [] F
abbrev mI(K:KF)(F:dh):Prop:=ba 35 K [0,1,0,1,1,1] 116 [0,7,8,9] [.a,.i 1,.a,.i 0] F
abbrev wF(K:KF)(F:dh):Prop:=ba 35 K [1,1,0,0,1,0,1,1,1] 116 [0,7,8,9] [.a,.i 1,.a,.i 0] F
abbrev Om(K:KF)(F:rE):Prop:=ba 35 K [1,1,1,1,1,0,0,1,0,0,1,0,1,1,1] 116 [0,7,8,9,54] [.a,.i 1,.a,.i 0,.i 1] F
abbrev Oo(K:KF)(F:AK):Prop:=ba 35 K [1,1,1,1,1,0,1,1,1,1,1,0,0,1,0,0,1,0,1,1,1] 116 [0,7,8,9,54,65] [.a,.i 1,.a,.i 0,.i 1,.b] F
abbrev Oq(K:KF)(F:dh):Prop:=ba 35 K [1,0,1,1,1,1,1,1,1,0,1,1,1,1,1,0,0,1,0,0,1,0,1,1,1] 116 [0,7,8,9] [.a,.i 1,.a,.i 0] F
abbrev Ot(K:KF)(F:dh):Prop:=ba 35 K [1,1,0,1,1,1,1,1,1,1,0,1,1,1,1,1,0,0,1,0,0,1,0,1,1,1] 116 [0,7,8,9] [.a,.i 1,.a,.i 0] F
def oY(R:ey)(K:KF)(x2:dh)(a0:AV)(a7:Int)(a8:AV)(a9:Int)(H:AH):Prop:=aN 0 (Int.add a9 (.ofNat 1)) λz1=>x2 a0 a7 a8 z1 H
theorem Za{R:ey}(hR:kX R){K:KF}{x2:dh}(h2:mI K x2):wF K (oY R K x2):=λa0 a7 a8 a9 H h=>pk hR (cc h2 .nil) h
def zJ(R:ey)(K:KF)(i2:dh):dh:=oY R K i2
theorem uT{R:ey}(hR:kX R){K:KF}{i2:dh}(g2:mI K i2):wF K (zJ R K i2):=Za hR g2
def Ou(R:ey)(K:KF)(H:AH):Prop:=K (.ret (.bF [(.str 0 0),(.int 0 (.ofNat 0)),(.bool false)])) H
theorem Zb{R:ey}(hR:kX R){K:KF}:Ol K (Ou R K):=λH h=>pk hR .nil h
def Zc(R:ey)(K:KF):T_:=Ou R K
theorem Zd{R:ey}(hR:kX R){K:KF}:Ol K (Zc R K):=Zb hR
def FH(R:ey)(K:KF)(x3:dh)(a0:AV)(a7:Int)(a8:AV)(a9:Int)(H:AH):Prop:=aN 0 (Int.add a9 (.ofNat 2)) λz1=>x3 a0 a7 a8 z1 H
theorem Ze{R:ey}(hR:kX R){K:KF}{x3:dh}(h3:wF K x3):Ot K (FH R K x3):=λa0 a7 a8 a9 H h=>pk hR (cc h3 .nil) h
def Ov(R:ey)(K:KF)(i2:dh):dh:=FH R K (zJ R K i2)
theorem Zf{R:ey}(hR:kX R){K:KF}{i2:dh}(g2:mI K i2):Ot K (Ov R K i2):=Ze hR (uT hR g2)
def FI(R:ey)(K:KF)(x7:dh)(a0:AV)(a7:Int)(a8:AV)(a9:Int)(H:AH):Prop:=aN 0 (Int.add a9 (.ofNat 1)) λz1=>gC a0 (.int 0 z1) λv2=>cI 1 v2 λz3=>aN 0 (Int.add a9 (.ofNat 2)) λz4=>gC a0 (.int 0 z4) λv5=>cI 1 v5 λz6=>R z3 H λo7 H8=>cR K o7 H8 λv9=>cI 0 v9 λz10=>RW 0 (.int 0 z10) (.int 3 (.ofNat 4)) λv11=>cI 0 v11 λz12=>R z6 H8 λrG fw=>cR K rG fw λv15=>cI 0 v15 λrH=>aB (mz 0 z12) λu17=>aB (mz 0 rH) λu18=>aN 0 (.ofNat (Nat.lor u17 u18)) λMZ=>aN 1 MZ λz20=>dx fw (aX (ay fw) 1 1 [(.int 1 z20)] λv21 lK=>bT (Nat.beq lK.n (Nat.succ fw.n)) (dw 1 1 a8 v21 lK λv23 tJ=>x7 a0 a7 v23 a9 tJ))
theorem Zg{R:ey}(hR:kX R){K:KF}{x7:dh}(h7:Ot K x7):Oq K (FI R K x7):=λa0 a7 a8 a9 H h=>pk hR (cc h7 .nil) h
def FJ(R:ey)(K:KF)(i2:dh):dh:=FI R K (Ov R K i2)
theorem Zh{R:ey}(hR:kX R){K:KF}{i2:dh}(g2:mI K i2):Oq K (FJ R K i2):=Zg hR (Zf hR g2)
def wG(R:ey)(K:KF)(x6 x3:dh)(a0:AV)(a7:Int)(a8:AV)(a9 a54:Int)(a65:Bool)(H:AH):Prop:=bI a65 (gC a0 (.int 0 a9) λv1=>cI 1 v1 λz2=>aX (ay H) 1 1 [(.int 1 z2)] λv3 H4=>dw 1 1 a8 v3 H4 λv5 H6=>x3 a0 a7 v5 a9 H6) (bI (cA a54 (.ofNat 120)) (aN 0 (Int.add a9 (.ofNat 2)) λz7=>sLen a0 λv8=>cI 0 v8 λz9=>bI (!(df z7 z9)) (K (.ret (.bF [(.str 0 0),(.int 0 (.ofNat 0)),(.bool false)])) H) (aN 0 (Int.add a9 (.ofNat 1)) λz10=>gC a0 (.int 0 z10) λv11=>cI 1 v11 λz12=>R z12 H λrG fw=>cR K rG fw λv15=>cI 0 v15 λrH=>bI (df rH (.ofNat 0)) (K (.ret (.bF [(.str 0 0),(.int 0 (.ofNat 0)),(.bool false)])) fw) (aN 0 (Int.add a9 (.ofNat 2)) λz17=>gC a0 (.int 0 z17) λv18=>cI 1 v18 λMZ=>R MZ fw λo20 iO=>cR K o20 iO λv22=>cI 0 v22 λz23=>bI (df z23 (.ofNat 0)) (K (.ret (.bF [(.str 0 0),(.int 0 (.ofNat 0)),(.bool false)])) iO) (x6 a0 a7 a8 a9 iO)))) (K (.ret (.bF [(.str 0 0),(.int 0 (.ofNat 0)),(.bool false)])) H))
theorem Zi{R:ey}(hR:kX R){K:KF}{x6 x3:dh}(h6:Oq K x6)(h3:wF K x3):Oo K (wG R K x6 x3):=λa0 a7 a8 a9 a54 a65 H h=>pk hR (cc h6 (cc h3 .nil)) h
def FK(R:ey)(K:KF)(i2:dh):AK:=wG R K (FJ R K i2) (zJ R K i2)
theorem Zj{R:ey}(hR:kX R){K:KF}{i2:dh}(g2:mI K i2):Oo K (FK R K i2):=Zi hR (Zh hR g2) (uT hR g2)
def FL(R:ey)(K:KF)(x3:dh)(x5:AK)(a0:AV)(a7:Int)(a8:AV)(a9 a54:Int)(H:AH):Prop:=bI (cA a54 (.ofNat 110)) (aX (ay H) 1 1 [(.int 1 (.ofNat 10))] λv1 H2=>dw 1 1 a8 v1 H2 λv3 H4=>x3 a0 a7 v3 a9 H4) (bI (cA a54 (.ofNat 116)) (aX (ay H) 1 1 [(.int 1 (.ofNat 9))] λv5 H6=>dw 1 1 a8 v5 H6 λv7 H8=>x3 a0 a7 v7 a9 H8) (bI (cA a54 (.ofNat 92)) (x5 a0 a7 a8 a9 a54 (cA a54 (.ofNat 92)) H) (bI (cA a54 (.ofNat 34)) (x5 a0 a7 a8 a9 a54 (cA a54 (.ofNat 34)) H) (x5 a0 a7 a8 a9 a54 (cA a54 (.ofNat 39)) H))))
theorem Zk{R:ey}(hR:kX R){K:KF}{x3:dh}{x5:AK}(h3:wF K x3)(h5:Oo K x5):Om K (FL R K x3 x5):=λa0 a7 a8 a9 a54 H h=>pk hR (cc h3 (cc h5 .nil)) h
def Ow(R:ey)(K:KF)(i2:dh):rE:=FL R K (zJ R K i2) (FK R K i2)
theorem Zl{R:ey}(hR:kX R){K:KF}{i2:dh}(g2:mI K i2):Om K (Ow R K i2):=Zk hR (uT hR g2) (Zj hR g2)
def FM(R:ey)(K:KF)(x3:dh)(x1:T_)(x4:rE)(a0:AV)(a7:Int)(a8:AV)(a9:Int)(H:AH):Prop:=sLen a0 λv1=>cI 0 v1 λz2=>bI (df a9 z2) (gC a0 (.int 0 a9) λv3=>cI 1 v3 λz4=>bI (cA z4 (.ofNat 10)) (K (.ret (.bF [(.str 0 0),(.int 0 (.ofNat 0)),(.bool false)])) H) (bI (cA z4 a7) (vE a8 H λv5=>aN 0 (Int.add a9 (.ofNat 1)) λz6=>eP a8 λv7=>cI 0 v7 λz8=>K (.ret (.bF [v5,(.int 0 z6),(.bool (!(df (.ofNat 4096) z8)))])) H) (bI (!(cA z4 (.ofNat 92))) (aX (ay H) 1 1 [(.int 1 z4)] λv9 dD=>dw 1 1 a8 v9 dD λv11 bS=>x3 a0 a7 v11 a9 bS) (aN 0 (Int.add a9 (.ofNat 1)) λz13=>sLen a0 λv14=>cI 0 v14 λzu=>bI (!(df z13 zu)) (K (.ret (.bF [(.str 0 0),(.int 0 (.ofNat 0)),(.bool false)])) H) (gC a0 (.int 0 z13) λv16=>cI 1 v16 λz17=>x4 a0 a7 a8 z13 z17 H))))) (x1 H)
theorem Zm{R:ey}(hR:kX R){K:KF}{x3:dh}{x1:T_}{x4:rE}(h3:wF K x3)(h1:Ol K x1)(h4:Om K x4):mI K (FM R K x3 x1 x4):=λa0 a7 a8 a9 H h=>pk hR (cc h3 (cc h1 (cc h4 .nil))) h
def Zn(R:ey)(K:KF)(i2:dh):dh:=FM R K (zJ R K i2) (Zc R K) (Ow R K i2)
theorem Zo{R:ey}(hR:kX R){K:KF}{i2:dh}(g2:mI K i2):mI K (Zn R K i2):=Zm hR (uT hR g2) (Zd hR) (Zl hR g2)
def gj(R:ey)(K:KF)(n:Nat):dh:=Nat.rec (motive:=λ_=>dh) (λ_ _ _ _ _=>False) (λ_ i=>Zn R K i) n
theorem Zp{R:ey}(hR:kX R){K:KF}(n:Nat):mI K (gj R K n):=Nat.rec (motive:=λn=>mI K (gj R K n)) (λa0 a7 a8 a9 H h=>h.elim) (λn ih=>Zo hR ih) n
def FN(R:ey)(K:KF)(x2:dh)(a0:AV)(a1:Int)(H:AH):Prop:=gC a0 (.int 0 a1) λv1=>cI 1 v1 λz2=>aN 0 (Int.add a1 (.ofNat 1)) λz3=>x2 a0 z2 .ab z3 H
theorem Zq{R:ey}(hR:kX R){K:KF}{x2:dh}(h2:mI K x2)(a0:AV)(a1:Int)(H:AH)(h:FN R K x2 a0 a1 H):fN 35 K [] (bL (ff 35) [a0,(.int 0 a1)]) [] H:=pk hR (cc h2 .nil) h
def akn(R:ey)(K:KF):dP:=FN R K (gj R K NL)
def agj(R:ey):AV→Int→AH→KF→Prop:=λa0 a1 H K=>akn R K a0 a1 H
theorem ahK(R:ey)(hR:kX R):aE gPa 35 (aD [.a,.i 0] (agj R)):=rk λK a0 a1 H h=>Zq hR (Zp hR NL) a0 a1 H h
def cN:ey:=(f55)
def f35:AV→Int→AH→KF→Prop:=agj cN
theorem ako:aE gPa 35 (aD [.a,.i 0] f35):=ahK cN (ad.cons akl ad.nil)
abbrev kh:Type:=(AV→AV→AH→KF→Prop)
def akp(R:kh):List (Nat×eM):=[(25,aD [.a,.a] R)]
abbrev xP(R:kh):Prop:=ad gPa (akp R)
abbrev Ox(K:KF)(F:T_):Prop:=ba 36 K [1,1,1,1] 34 [] [] F
abbrev tP(K:KF)(F:dh):Prop:=ba 36 K [0,1,0,1,1,1] 34 [0,1,5,6] [.a,.i 0,.a,.i 0] F
def FO(R:kh)(K:KF)(H:AH):Prop:=K (.ret (.int 0 (.ofNat 0))) H
theorem Zr{R:kh}(hR:xP R){K:KF}:Ox K (FO R K):=λH h=>pk hR .nil h
def Zs(R:kh)(K:KF):T_:=FO R K
theorem Zt{R:kh}(hR:xP R){K:KF}:Ox K (Zs R K):=Zr hR
def FP(R:kh)(K:KF)(x2:dh)(x1:T_)(a0:AV)(a1:Int)(a5:AV)(a6:Int)(H:AH):Prop:=sLen a5 λv1=>cI 0 v1 λz2=>bI (df a6 z2) (gC a5 (.int 0 a6) λv3=>cI 1 v3 λz4=>gC a0 (.int 0 a1) λv5=>cI 1 v5 λz6=>bI (cA z4 z6) (K (.ret (.int 0 (.ofNat 1))) H) (aN 0 (Int.add a6 (.ofNat 1)) λz7=>x2 a0 a1 a5 z7 H)) (x1 H)
theorem Zu{R:kh}(hR:xP R){K:KF}{x2:dh}{x1:T_}(h2:tP K x2)(h1:Ox K x1):tP K (FP R K x2 x1):=λa0 a1 a5 a6 H h=>pk hR (cc h2 (cc h1 .nil)) h
def Zv(R:kh)(K:KF)(i2:dh):dh:=FP R K i2 (Zs R K)
theorem Zw{R:kh}(hR:xP R){K:KF}{i2:dh}(g2:tP K i2):tP K (Zv R K i2):=Zu hR g2 (Zt hR)
def wH(R:kh)(K:KF)(n:Nat):dh:=Nat.rec (motive:=λ_=>dh) (λ_ _ _ _ _=>False) (λ_ i=>Zv R K i) n
theorem Zx{R:kh}(hR:xP R){K:KF}(n:Nat):tP K (wH R K n):=Nat.rec (motive:=λn=>tP K (wH R K n)) (λa0 a1 a5 a6 H h=>h.elim) (λn ih=>Zw hR ih) n
def FQ(R:kh)(K:KF)(x2:dh)(a0:AV)(a1:Int)(H:AH):Prop:=aN 0 (Int.add a1 (.ofNat 1)) λz1=>sLen a0 λv2=>cI 0 v2 λz3=>bI (df z1 z3) (aX (ay H) 6 1 [(.str 2 11822),(.str 2 15677),(.str 2 15742),(.str 2 15676),(.str 2 15678),(.str 2 12079)] λv4 H5=>aN 0 (Int.add a1 (.ofNat 2)) λz6=>lB a0 (some (.int 0 a1)) (some (.int 0 z6)) λv7=>R v4 v7 H5 λo8 H9=>cR K o8 H9 λv10=>cH v10 λz11=>bI z11 (K (.ret (.int 0 (.ofNat 2))) H9) (x2 a0 a1 (.str 17 20123422373665890509693217210346309823787) (.ofNat 0) H9)) (x2 a0 a1 (.str 17 20123422373665890509693217210346309823787) (.ofNat 0) H)
theorem Zy{R:kh}(hR:xP R){K:KF}{x2:dh}(h2:tP K x2)(a0:AV)(a1:Int)(H:AH)(h:FQ R K x2 a0 a1 H):fN 36 K [] (bL (ff 36) [a0,(.int 0 a1)]) [] H:=pk hR (cc h2 .nil) h
def akq(R:kh)(K:KF):dP:=FQ R K (wH R K NL)
def agk(R:kh):AV→Int→AH→KF→Prop:=λa0 a1 H K=>akq R K a0 a1 H
theorem ahL(R:kh)(hR:xP R):aE gPa 36 (aD [.a,.i 0] (agk R)):=rk λK a0 a1 H h=>Zy hR (Zx hR NL) a0 a1 H h
def ql:kh:=(f25)
def f36:AV→Int→AH→KF→Prop:=agk ql
theorem akr:aE gPa 36 (aD [.a,.i 0] f36):=ahL ql (ad.cons Fy ad.nil)
abbrev cX:Type:=(AV→Int→AH→KF→Prop)×(AV→Int→AH→KF→Prop)×(Int→AH→KF→Prop)×(AV→AH→KF→Prop)×(Int→AH→KF→Prop)×(AV→AH→KF→Prop)×(AV→Int→AH→KF→Prop)×(AV→Int→AH→KF→Prop)
def aks(R:cX):List (Nat×eM):=[(29,aD [.a,.i 0] R.1),(30,aD [.a,.i 0] R.2.1),(31,aD [.i 1] R.2.2.1),(32,aD [.a] R.2.2.2.1),(33,aD [.i 1] R.2.2.2.2.1),(34,aD [.a] R.2.2.2.2.2.1),(35,aD [.a,.i 0] R.2.2.2.2.2.2.1),(36,aD [.a,.i 0] R.2.2.2.2.2.2.2)]
abbrev iv(R:cX):Prop:=ad gPa (aks R)
abbrev Oy(K:KF)(F:gi):Prop:=ba 16 K [1,1,1,1,1] 123 [0,5] [.a,.a] F
abbrev j4(K:KF)(F:aA):Prop:=ba 16 K [0,0,1,1,1,1] 123 [0,5,6] [.a,.a,.i 0] F
abbrev wI(K:KF)(F:ka):Prop:=ba 16 K [1,1,1,0,1,0,0,0,1,1,1,1] 123 [0,5,7,8] [.a,.a,.a,.i 0] F
abbrev Oz(K:KF)(F:kV):Prop:=ba 16 K [1,0,1,0,0,1,1,0,1,0,0,0,1,1,1,1] 123 [0,5,6,7,8] [.a,.a,.i 0,.a,.i 0] F
abbrev OA(K:KF)(F:kV):Prop:=ba 16 K [1,1,0,1,0,0,1,1,0,1,0,0,0,1,1,1,1] 123 [0,5,6,7,8] [.a,.a,.i 0,.a,.i 0] F
abbrev OB(K:KF)(F:kV):Prop:=ba 16 K [1,0,1,1,1,0,0,1,1,0,1,0,0,0,1,1,1,1] 123 [0,5,6,7,8] [.a,.a,.i 0,.a,.i 0] F
abbrev OC(K:KF)(F:jt):Prop:=ba 16 K [0,1,1,1,1,1,0,0,1,1,0,1,0,0,0,1,1,1,1] 123 [0,5,6,7] [.a,.a,.i 0,.a] F
abbrev OD(K:KF)(F:jt):Prop:=ba 16 K [1,1,1,1,1,1,0,0,1,1,0,1,0,0,0,1,1,1,1] 123 [0,5,6,7] [.a,.a,.i 0,.a] F
abbrev OE(K:KF)(F:xM):Prop:=ba 16 K [1,0,1,1,1,1,1,0,0,1,1,0,1,0,0,0,1,1,1,1] 123 [0,5,6,7,11,12,13] [.a,.a,.i 0,.a,.a,.i 0,.b] F
abbrev IB(K:KF)(F:kV):Prop:=ba 16 K [1,1,1,1,1,1,1,0,0,1,1,0,1,0,0,0,1,1,1,1] 123 [0,5,6,7,14] [.a,.a,.i 0,.a,.i 0] F
def FR(R:cX)(K:KF)(x2:aA)(a0 a5 a7:AV)(a8:Int)(H:AH):Prop:=aZ 4 a7 H λv1=>onVal v1 λl2=>gv l2 4 (aX (ay H) 1 4 (spl l2 [(.int 0 (.ofNat 0)),(.str 0 0),(.int 0 (.ofNat 0)),(.int 0 (.ofNat 0))] 0) λv3 H4=>dw 4 40 a5 v3 H4 λv5 H6=>R.1 a0 a8 H6 λo7 H8=>cR K o7 H8 λv9=>cI 0 v9 λz10=>x2 a0 v5 z10 H8)
theorem Zz{R:cX}(hR:iv R){K:KF}{x2:aA}(h2:j4 K x2):wI K (FR R K x2):=λa0 a5 a7 a8 H h=>pk hR (cc h2 .nil) h
def nM(R:cX)(K:KF)(i2:aA):ka:=FR R K i2
theorem uU{R:cX}(hR:iv R){K:KF}{i2:aA}(g2:j4 K i2):wI K (nM R K i2):=Zz hR g2
def wJ(R:cX)(K:KF)(x3:ka)(a0 a5:AV)(a6:Int)(a7 a11:AV)(a12:Int)(JB:Bool)(H:AH):Prop:=bI (!JB) (K (.ret (.bF [.ab,(.int 0 (.ofNat 14)),(.int 0 a6)])) H) (ag 0 a7 λv1=>ak 1 v1 (.int 0 (.ofNat 4)) H λH2=>ag 1 a7 λv3=>ak 1 v3 a11 H2 λH4=>x3 a0 a5 a7 a12 H4)
theorem ZA{R:cX}(hR:iv R){K:KF}{x3:ka}(h3:wI K x3):OE K (wJ R K x3):=λa0 a5 a6 a7 a11 a12 JB H h=>pk hR (cc h3 .nil) h
def OF(R:cX)(K:KF)(i2:aA):xM:=wJ R K (nM R K i2)
theorem ZB{R:cX}(hR:iv R){K:KF}{i2:aA}(g2:j4 K i2):OE K (OF R K i2):=ZA hR (uU hR g2)
def FT(R:cX)(K:KF)(x9:xM)(a0 a5:AV)(a6:Int)(a7:AV)(H:AH):Prop:=R.2.2.2.2.2.2.1 a0 a6 H λo1 H2=>cR K o1 H2 λv3=>na v3 λl4=>jd l4 0 λv5=>na v3 λl6=>jd l6 1 λv7=>cI 0 v7 λz8=>na v3 λl9=>jd l9 2 λv10=>cH v10 λz11=>x9 a0 a5 a6 a7 v5 z8 z11 H2
theorem ZC{R:cX}(hR:iv R){K:KF}{x9:xM}(h9:OE K x9):OC K (FT R K x9):=λa0 a5 a6 a7 H h=>pk hR (cc h9 .nil) h
def wK(R:cX)(K:KF)(i2:aA):jt:=FT R K (OF R K i2)
theorem ZD{R:cX}(hR:iv R){K:KF}{i2:aA}(g2:j4 K i2):OC K (wK R K i2):=ZC hR (ZB hR g2)
def FU(R:cX)(K:KF)(x3:ka)(a0 a5:AV)(a6:Int)(a7:AV)(a8:Int)(H:AH):Prop:=aN 0 (Int.sub a8 a6) λz1=>bI (df (.ofNat 32) z1) (K (.ret (.bF [.ab,(.int 0 (.ofNat 14)),(.int 0 a6)])) H) (x3 a0 a5 a7 a8 H)
theorem ZE{R:cX}(hR:iv R){K:KF}{x3:ka}(h3:wI K x3):OA K (FU R K x3):=λa0 a5 a6 a7 a8 H h=>pk hR (cc h3 .nil) h
def FV(R:cX)(K:KF)(i2:aA):kV:=FU R K (nM R K i2)
theorem ZF{R:cX}(hR:iv R){K:KF}{i2:aA}(g2:j4 K i2):OA K (FV R K i2):=ZE hR (uU hR g2)
def FW(R:cX)(K:KF)(x5:kV)(a0 a5:AV)(a6:Int)(a7:AV)(a8:Int)(H:AH):Prop:=ag 1 a7 λv1=>af v1 H λv2=>R.2.2.2.1 v2 H λo3 H4=>cR K o3 H4 λv5=>cH v5 λz6=>bI z6 (ag 0 a7 λv7=>ak 1 v7 (.int 0 (.ofNat 1)) H4 λH8=>x5 a0 a5 a6 a7 a8 H8) (x5 a0 a5 a6 a7 a8 H4)
theorem ZG{R:cX}(hR:iv R){K:KF}{x5:kV}(h5:OA K x5):Oz K (FW R K x5):=λa0 a5 a6 a7 a8 H h=>pk hR (cc h5 .nil) h
def zL(R:cX)(K:KF)(i2:aA):kV:=FW R K (FV R K i2)
theorem ZH{R:cX}(hR:iv R){K:KF}{i2:aA}(g2:j4 K i2):Oz K (zL R K i2):=ZG hR (ZF hR g2)
def FX(R:cX)(K:KF)(x3:ka)(a0 a5:AV)(a6:Int)(a7:AV)(a8:Int)(H:AH):Prop:=lB a0 (some (.int 0 a6)) (some (.int 0 a8)) λv1=>R.2.2.2.2.2.1 v1 H λo2 H3=>cR K o2 H3 λv4=>na v4 λl5=>jd l5 0 λv6=>cI 0 v6 λz7=>na v4 λl8=>jd l8 1 λv9=>cH v9 λz10=>bI (!z10) (K (.ret (.bF [.ab,(.int 0 (.ofNat 14)),(.int 0 a6)])) H3) (ag 2 a7 λv11=>ak 1 v11 (.int 0 z7) H3 λbS=>x3 a0 a5 a7 a8 bS)
theorem ZI{R:cX}(hR:iv R){K:KF}{x3:ka}(h3:wI K x3):OB K (FX R K x3):=λa0 a5 a6 a7 a8 H h=>pk hR (cc h3 .nil) h
def zM(R:cX)(K:KF)(i2:aA):kV:=FX R K (nM R K i2)
theorem ZJ{R:cX}(hR:iv R){K:KF}{i2:aA}(g2:j4 K i2):OB K (zM R K i2):=ZI hR (uU hR g2)
def FY(R:cX)(K:KF)(a0 a5:AV)(H:AH):Prop:=sLen a0 λv1=>cI 0 v1 λz2=>aX (ay H) 1 4 [(.int 0 (.ofNat 0)),(.str 0 0),(.int 0 (.ofNat 0)),(.int 0 z2)] λv3 H4=>dw 4 40 a5 v3 H4 λv5 H6=>K (.ret (.bF [v5,(.int 0 (.ofNat 0)),(.int 0 (.ofNat 0))])) H6
theorem ZK{R:cX}(hR:iv R){K:KF}:Oy K (FY R K):=λa0 a5 H h=>pk hR .nil h
def FZ(R:cX)(K:KF):gi:=FY R K
theorem ZL{R:cX}(hR:iv R){K:KF}:Oy K (FZ R K):=ZK hR
def AL(R:cX)(K:KF)(x3:ka)(a0 a5:AV)(a6:Int)(a7:AV)(a14:Int)(H:AH):Prop:=bI (cA a14 (.ofNat 0)) (K (.ret (.bF [.ab,(.int 0 (.ofNat 14)),(.int 0 a6)])) H) (aN 0 (Int.add a6 a14) λz1=>lB a0 (some (.int 0 a6)) (some (.int 0 z1)) λv2=>aN 0 (Int.add a6 a14) λz3=>ag 0 a7 λv4=>ak 1 v4 (.int 0 (.ofNat 5)) H λH5=>ag 1 a7 λv6=>ak 1 v6 v2 H5 λH7=>x3 a0 a5 a7 z3 H7)
theorem TN{R:cX}(hR:iv R){K:KF}{x3:ka}(h3:wI K x3):IB K (AL R K x3):=λa0 a5 a6 a7 a14 H h=>pk hR (cc h3 .nil) h
def IC(R:cX)(K:KF)(i2:aA):kV:=AL R K (nM R K i2)
theorem TO{R:cX}(hR:iv R){K:KF}{i2:aA}(g2:j4 K i2):IB K (IC R K i2):=TN hR (uU hR g2)
def F8(R:cX)(K:KF)(x10:kV)(a0 a5:AV)(a6:Int)(a7:AV)(H:AH):Prop:=R.2.2.2.2.2.2.2 a0 a6 H λo1 H2=>cR K o1 H2 λv3=>cI 0 v3 λz4=>x10 a0 a5 a6 a7 z4 H2
theorem ZM{R:cX}(hR:iv R){K:KF}{x10:kV}(h10:IB K x10):OD K (F8 R K x10):=λa0 a5 a6 a7 H h=>pk hR (cc h10 .nil) h
def zN(R:cX)(K:KF)(i2:aA):jt:=F8 R K (IC R K i2)
theorem ZN{R:cX}(hR:iv R){K:KF}{i2:aA}(g2:j4 K i2):OD K (zN R K i2):=ZM hR (TO hR g2)
def wL(R:cX)(K:KF)(x7:jt)(x4 x6:kV)(x1:gi)(x8:jt)(a0 a5:AV)(a6:Int)(H:AH):Prop:=sLen a0 λv1=>cI 0 v1 λz2=>bI (df a6 z2) (fW H (lA (ay H) [(.int 0 (.ofNat 0)),(.str 0 0),(.int 0 (.ofNat 0)),(.int 0 (.ofNat 0))] λv3 H4=>ak 4 v3 (.agg [(.int 0 (.ofNat 0)),(.str 0 0),(.int 0 (.ofNat 0)),(.int 0 a6)]) H4 λH5=>R.2.1 a0 a6 H5 λo6 H7=>cR K o6 H7 λv8=>cI 0 v8 λz9=>gC a0 (.int 0 a6) λv10=>cI 1 v10 λz11=>R.2.2.1 z11 H7 λMF ln=>cR K MF ln λv14=>cH v14 λzu=>bI zu (lB a0 (some (.int 0 a6)) (some (.int 0 z9)) λv16=>ag 1 v3 λv17=>ak 1 v17 v16 ln λju=>ag 0 v3 λv19=>ak 1 v19 (.int 0 (.ofNat 2)) ju λnf=>x4 a0 a5 a6 v3 z9 nf) (gC a0 (.int 0 a6) λv21=>cI 1 v21 λz22=>R.2.2.2.2.1 z22 ln λo23 tJ=>cR K o23 tJ λv25=>cH v25 λz26=>bI z26 (ag 0 v3 λv27=>ak 1 v27 (.int 0 (.ofNat 3)) tJ λJG=>x6 a0 a5 a6 v3 z9 JG) (gC a0 (.int 0 a6) λv29=>cI 1 v29 λz30=>bI (cA z30 (.ofNat 34)) (x7 a0 a5 a6 v3 tJ) (gC a0 (.int 0 a6) λv31=>cI 1 v31 λz32=>bI (cA z32 (.ofNat 39)) (x7 a0 a5 a6 v3 tJ) (x8 a0 a5 a6 v3 tJ)))))) (x1 a0 a5 H)
theorem ZO{R:cX}(hR:iv R){K:KF}{x7:jt}{x4 x6:kV}{x1:gi}{x8:jt}(h7:OC K x7)(h4:Oz K x4)(h6:OB K x6)(h1:Oy K x1)(h8:OD K x8):j4 K (wL R K x7 x4 x6 x1 x8):=λa0 a5 a6 H h=>pk hR (cc h7 (cc h4 (cc h6 (cc h1 (cc h8 .nil))))) h
def ZP(R:cX)(K:KF)(i2:aA):aA:=wL R K (wK R K i2) (zL R K i2) (zM R K i2) (FZ R K) (zN R K i2)
theorem ZQ{R:cX}(hR:iv R){K:KF}{i2:aA}(g2:j4 K i2):j4 K (ZP R K i2):=ZO hR (ZD hR g2) (ZH hR g2) (ZJ hR g2) (ZL hR) (ZN hR g2)
def dZ(R:cX)(K:KF)(n:Nat):aA:=Nat.rec (motive:=λ_=>aA) (λ_ _ _ _=>False) (λ_ i=>ZP R K i) n
theorem ZR{R:cX}(hR:iv R){K:KF}(n:Nat):j4 K (dZ R K n):=Nat.rec (motive:=λn=>j4 K (dZ R K n)) (λa0 a5 a6 H h=>h.elim) (λn ih=>ZQ hR ih) n
def Ga(R:cX)(K:KF)(x2:aA)(a0:AV)(H:AH):Prop:=sLen a0 λv1=>cI 0 v1 λz2=>bI (df (.ofNat 16384) z2) (K (.ret (.bF [.ab,(.int 0 (.ofNat 8)),(.int 0 (.ofNat 0))])) H) (R.1 a0 (.ofNat 0) H λo3 H4=>cR K o3 H4 λv5=>cI 0 v5 λz6=>x2 a0 .ab z6 H4)
theorem ZS{R:cX}(hR:iv R){K:KF}{x2:aA}(h2:j4 K x2)(a0:AV)(H:AH)(h:Ga R K x2 a0 H):fN 16 K [] (bL (ff 16) [a0]) [] H:=pk hR (cc h2 .nil) h
def akt(R:cX)(K:KF):Ta:=Ga R K (dZ R K NL)
def agl(R:cX):AV→AH→KF→Prop:=λa0 H K=>akt R K a0 H
theorem ahM(R:cX)(hR:iv R):aE gPa 16 (aD [.a] (agl R)):=rk λK a0 H h=>ZS hR (ZR hR NL) a0 H h
def bq:cX:=(f29,f30,f31,f32,f33,f34,f35,f36)
def f16:AV→AH→KF→Prop:=agl bq
theorem aku:aE gPa 16 (aD [.a] f16):=ahM bq (ad.cons aj3 (ad.cons aka (ad.cons Yw (ad.cons akf (ad.cons Fs (ad.cons aki (ad.cons ako (ad.cons akr ad.nil))))))))
abbrev agm:Type:=AV→AV→AV→AV→AH→Prop
abbrev AM:Type:=AV→AV→AV→AV→Int→Int→AH→Prop
abbrev bf:Type:=AV→AV→AV→Int→Int→AH→Prop
abbrev iB:Type:=AV→AV→AV→Int→Int→AV→AH→Prop
abbrev dN:Type:=AV→AV→AV→Int→Int→AV→Int→AH→Prop
abbrev sQ:Type:=AV→AV→AV→Int→Int→AV→Int→Int→Bool→AH→Prop
abbrev mT:Type:=AV→AV→Int→AV→Int→Int→AH→Prop
abbrev aP:Type:=AV→AV→Int→Int→AH→Prop
abbrev gD:Type:=AV→AV→Int→Int→AV→Int→Int→AH→Prop
abbrev eW:Type:=(AV→AH→KF→Prop)×(AV→AH→KF→Prop)
def akv(R:eW):List (Nat×eM):=[(12,aD [.a] R.1),(26,aD [.a] R.2)]
abbrev ni(R:eW):Prop:=ad gPa (akv R)
abbrev OG(K:KF)(F:Ta):Prop:=ba 12 K [1,1,1] 42 [3] [.a] F
abbrev nN(K:KF)(F:aA):Prop:=ba 12 K [0,1,0,1,1] 42 [0,3,4] [.a,.a,.i 0] F
abbrev OH(K:KF)(F:aA):Prop:=ba 12 K [1,1,0,0,1,0,1,1] 42 [0,3,4] [.a,.a,.i 0] F
abbrev rS(K:KF)(F:aP):Prop:=ba 12 K [0,1,1,0,0,1,0,0,1,0,1,1] 42 [0,3,4,5] [.a,.a,.i 0,.i 0] F
abbrev OI(K:KF)(F:aP):Prop:=ba 12 K [1,1,0,0,1,1,0,0,1,0,0,1,0,1,1] 42 [0,3,4,5] [.a,.a,.i 0,.i 0] F
def Gb(R:eW)(K:KF)(x2:aA)(a0 a3:AV)(a4:Int)(H:AH):Prop:=aN 0 (Int.add a4 (.ofNat 1)) λz1=>x2 a0 a3 z1 H
theorem ZT{R:eW}(hR:ni R){K:KF}{x2:aA}(h2:nN K x2):OH K (Gb R K x2):=λa0 a3 a4 H h=>pk hR (cc h2 .nil) h
def ZU(R:eW)(K:KF)(i2:aA):aA:=Gb R K i2
theorem ZV{R:eW}(hR:ni R){K:KF}{i2:aA}(g2:nN K i2):OH K (ZU R K i2):=ZT hR g2
def Gc(R:eW)(K:KF)(x4:aP)(a0 a3:AV)(a4 a5:Int)(H:AH):Prop:=aN 0 (Int.add a5 (.ofNat 1)) λz1=>x4 a0 a3 a4 z1 H
theorem ZW{R:eW}(hR:ni R){K:KF}{x4:aP}(h4:rS K x4):OI K (Gc R K x4):=λa0 a3 a4 a5 H h=>pk hR (cc h4 .nil) h
def ZX(R:eW)(K:KF)(i2:aA)(i4:aP):aP:=Gc R K i4
theorem ZY{R:eW}(hR:ni R){K:KF}{i2:aA}{i4:aP}(g2:nN K i2)(g4:rS K i4):OI K (ZX R K i2 i4):=ZW hR g4
def Gd(R:eW)(K:KF)(x3:aA)(x5:aP)(a0 a3:AV)(a4 a5:Int)(H:AH):Prop:=cn 5 a0 (.int 0 a4) λv1=>ag 4 v1 λv2=>af v2 H λv3=>eP v3 λv4=>cI 0 v4 λz5=>bI (df a5 z5) (cn 5 a0 (.int 0 a4) λv6=>ag 4 v6 λv7=>af v7 H λv8=>cn 1 v8 (.int 0 a5) λv9=>af v9 H λv10=>R.1 v10 H λmG bS=>cR K mG bS λv13=>dw 2 48 a3 v13 bS λv14 iG=>x5 a0 v14 a4 a5 iG) (x3 a0 a3 a4 H)
theorem ZZ{R:eW}(hR:ni R){K:KF}{x3:aA}{x5:aP}(h3:OH K x3)(h5:OI K x5):rS K (Gd R K x3 x5):=λa0 a3 a4 a5 H h=>pk hR (cc h3 (cc h5 .nil)) h
def Z0(R:eW)(K:KF)(i2:aA)(i4:aP):aP:=Gd R K (ZU R K i2) (ZX R K i2 i4)
theorem Z1{R:eW}(hR:ni R){K:KF}{i2:aA}{i4:aP}(g2:nN K i2)(g4:rS K i4):rS K (Z0 R K i2 i4):=ZZ hR (ZV hR g2) (ZY hR g2 g4)
def wM(R:eW)(K:KF)(i2:aA)(n:Nat):aP:=Nat.rec (motive:=λ_=>aP) (λ_ _ _ _ _=>False) (λ_ i=>Z0 R K i2 i) n
theorem Z2{R:eW}(hR:ni R){K:KF}{i2:aA}(g2:nN K i2)(n:Nat):rS K (wM R K i2 n):=Nat.rec (motive:=λn=>rS K (wM R K i2 n)) (λa0 a3 a4 a5 H h=>h.elim) (λn ih=>Z1 hR g2 ih) n
def OJ(R:eW)(K:KF)(a3:AV)(H:AH):Prop:=K (.ret a3) H
theorem Z3{R:eW}(hR:ni R){K:KF}:OG K (OJ R K):=λa3 H h=>pk hR .nil h
def Z4(R:eW)(K:KF):Ta:=OJ R K
theorem Z5{R:eW}(hR:ni R){K:KF}:OG K (Z4 R K):=Z3 hR
def Ge(R:eW)(K:KF)(x4:aP)(x1:Ta)(a0 a3:AV)(a4:Int)(H:AH):Prop:=eP a0 λv1=>cI 0 v1 λz2=>bI (df a4 z2) (cn 5 a0 (.int 0 a4) λv3=>ag 3 v3 λv4=>af v4 H λv5=>R.2 v5 H λo6 H7=>cR K o6 H7 λv8=>dw 2 48 a3 v8 H7 λv9 dD=>x4 a0 v9 a4 (.ofNat 0) dD) (x1 a3 H)
theorem Z6{R:eW}(hR:ni R){K:KF}{x4:aP}{x1:Ta}(h4:rS K x4)(h1:OG K x1):nN K (Ge R K x4 x1):=λa0 a3 a4 H h=>pk hR (cc h4 (cc h1 .nil)) h
def Z7(R:eW)(K:KF)(i2:aA):aA:=Ge R K (wM R K i2 NL) (Z4 R K)
theorem Z8{R:eW}(hR:ni R){K:KF}{i2:aA}(g2:nN K i2):nN K (Z7 R K i2):=Z6 hR (Z2 hR g2 NL) (Z5 hR)
def qm(R:eW)(K:KF)(n:Nat):aA:=Nat.rec (motive:=λ_=>aA) (λ_ _ _ _=>False) (λ_ i=>Z7 R K i) n
theorem Z9{R:eW}(hR:ni R){K:KF}(n:Nat):nN K (qm R K n):=Nat.rec (motive:=λn=>nN K (qm R K n)) (λa0 a3 a4 H h=>h.elim) (λn ih=>Z8 hR ih) n
def Gf(R:eW)(K:KF)(x2:aA)(a0:AV)(H:AH):Prop:=x2 a0 .ab (.ofNat 0) H
theorem aaa{R:eW}(hR:ni R){K:KF}{x2:aA}(h2:nN K x2)(a0:AV)(H:AH)(h:Gf R K x2 a0 H):fN 12 K [] (bL (ff 12) [a0]) [] H:=pk hR (cc h2 .nil) h
def akw(R:eW)(K:KF):Ta:=Gf R K (qm R K NL)
def Kk(R:eW):AV→AH→KF→Prop:=λa0 H K=>akw R K a0 H
theorem ahN(R:eW)(hR:ni R):aE gPa 12 (aD [.a] (Kk R)):=rk λK a0 H h=>aaa hR (Z9 hR NL) a0 H h
abbrev eX:Type:=(AV→AH→KF→Prop)×(AV→AH→KF→Prop)
def akx(R:eX):List (Nat×eM):=[(12,aD [.a] R.1),(26,aD [.a] R.2)]
abbrev nj(R:eX):Prop:=ad gPa (akx R)
abbrev OK(K:KF)(F:Ta):Prop:=ba 26 K [1,1,1] 53 [3] [.a] F
abbrev nO(K:KF)(F:aA):Prop:=ba 26 K [0,1,0,1,1] 53 [0,3,4] [.a,.a,.i 0] F
abbrev OL(K:KF)(F:aA):Prop:=ba 26 K [1,1,0,0,1,0,1,1] 53 [0,3,4] [.a,.a,.i 0] F
abbrev rT(K:KF)(F:aP):Prop:=ba 26 K [0,1,1,0,0,1,0,0,1,0,1,1] 53 [0,3,4,5] [.a,.a,.i 0,.i 0] F
abbrev OM(K:KF)(F:aP):Prop:=ba 26 K [1,1,0,0,1,1,0,0,1,0,0,1,0,1,1] 53 [0,3,4,5] [.a,.a,.i 0,.i 0] F
def Gg(R:eX)(K:KF)(x2:aA)(a0 a3:AV)(a4:Int)(H:AH):Prop:=aN 0 (Int.add a4 (.ofNat 1)) λz1=>x2 a0 a3 z1 H
theorem aab{R:eX}(hR:nj R){K:KF}{x2:aA}(h2:nO K x2):OL K (Gg R K x2):=λa0 a3 a4 H h=>pk hR (cc h2 .nil) h
def aac(R:eX)(K:KF)(i2:aA):aA:=Gg R K i2
theorem aad{R:eX}(hR:nj R){K:KF}{i2:aA}(g2:nO K i2):OL K (aac R K i2):=aab hR g2
def Gh(R:eX)(K:KF)(x4:aP)(a0 a3:AV)(a4 a5:Int)(H:AH):Prop:=aN 0 (Int.add a5 (.ofNat 1)) λz1=>x4 a0 a3 a4 z1 H
theorem aae{R:eX}(hR:nj R){K:KF}{x4:aP}(h4:rT K x4):OM K (Gh R K x4):=λa0 a3 a4 a5 H h=>pk hR (cc h4 .nil) h
def aaf(R:eX)(K:KF)(i2:aA)(i4:aP):aP:=Gh R K i4
theorem aag{R:eX}(hR:nj R){K:KF}{i2:aA}{i4:aP}(g2:nO K i2)(g4:rT K i4):OM K (aaf R K i2 i4):=aae hR g4
def Gi(R:eX)(K:KF)(x3:aA)(x5:aP)(a0 a3:AV)(a4 a5:Int)(H:AH):Prop:=cn 7 a0 (.int 0 a4) λv1=>ag 6 v1 λv2=>af v2 H λv3=>eP v3 λv4=>cI 0 v4 λz5=>bI (df a5 z5) (cn 7 a0 (.int 0 a4) λv6=>ag 6 v6 λv7=>af v7 H λv8=>cn 2 v8 (.int 0 a5) λv9=>aZ 2 v9 H λv10=>dx H (onVal v10 λJH=>gv JH 2 (aX (ay H) 1 2 (spl JH [.ab,.ab] 0) λv12 ln=>bT (Nat.beq ln.n (Nat.succ H.n)) (cn 7 a0 (.int 0 a4) λv14=>ag 6 v14 λv15=>af v15 ln λv16=>cn 2 v16 (.int 0 a5) λv17=>ag 1 v17 λv18=>af v18 ln λv19=>dw 2 48 a3 v12 ln λv20 iO=>af v18 iO λv22=>bT (bw v22 v19) (af v15 iO λv23=>bT (bw v23 v16) (R.1 v19 iO λo24 zx=>cR K o24 zx λv26=>dw 2 48 v20 v26 zx λv27 JG=>x5 a0 v27 a4 a5 JG)))))) (x3 a0 a3 a4 H)
theorem aah{R:eX}(hR:nj R){K:KF}{x3:aA}{x5:aP}(h3:OL K x3)(h5:OM K x5):rT K (Gi R K x3 x5):=λa0 a3 a4 a5 H h=>pk hR (cc h3 (cc h5 .nil)) h
def aai(R:eX)(K:KF)(i2:aA)(i4:aP):aP:=Gi R K (aac R K i2) (aaf R K i2 i4)
theorem aaj{R:eX}(hR:nj R){K:KF}{i2:aA}{i4:aP}(g2:nO K i2)(g4:rT K i4):rT K (aai R K i2 i4):=aah hR (aad hR g2) (aag hR g2 g4)
def wN(R:eX)(K:KF)(i2:aA)(n:Nat):aP:=Nat.rec (motive:=λ_=>aP) (λ_ _ _ _ _=>False) (λ_ i=>aai R K i2 i) n
theorem aak{R:eX}(hR:nj R){K:KF}{i2:aA}(g2:nO K i2)(n:Nat):rT K (wN R K i2 n):=Nat.rec (motive:=λn=>rT K (wN R K i2 n)) (λa0 a3 a4 a5 H h=>h.elim) (λn ih=>aaj hR g2 ih) n
def ON(R:eX)(K:KF)(a3:AV)(H:AH):Prop:=K (.ret a3) H
theorem aal{R:eX}(hR:nj R){K:KF}:OK K (ON R K):=λa3 H h=>pk hR .nil h
def aam(R:eX)(K:KF):Ta:=ON R K
theorem aan{R:eX}(hR:nj R){K:KF}:OK K (aam R K):=aal hR
def Gj(R:eX)(K:KF)(x4:aP)(x1:Ta)(a0 a3:AV)(a4:Int)(H:AH):Prop:=eP a0 λv1=>cI 0 v1 λz2=>bI (df a4 z2) (cn 7 a0 (.int 0 a4) λv3=>ag 5 v3 λv4=>af v4 H λv5=>R.2 v5 H λo6 H7=>cR K o6 H7 λv8=>dw 2 48 a3 v8 H7 λv9 dD=>x4 a0 v9 a4 (.ofNat 0) dD) (x1 a3 H)
theorem aao{R:eX}(hR:nj R){K:KF}{x4:aP}{x1:Ta}(h4:rT K x4)(h1:OK K x1):nO K (Gj R K x4 x1):=λa0 a3 a4 H h=>pk hR (cc h4 (cc h1 .nil)) h
def aap(R:eX)(K:KF)(i2:aA):aA:=Gj R K (wN R K i2 NL) (aam R K)
theorem aaq{R:eX}(hR:nj R){K:KF}{i2:aA}(g2:nO K i2):nO K (aap R K i2):=aao hR (aak hR g2 NL) (aan hR)
def qn(R:eX)(K:KF)(n:Nat):aA:=Nat.rec (motive:=λ_=>aA) (λ_ _ _ _=>False) (λ_ i=>aap R K i) n
theorem aar{R:eX}(hR:nj R){K:KF}(n:Nat):nO K (qn R K n):=Nat.rec (motive:=λn=>nO K (qn R K n)) (λa0 a3 a4 H h=>h.elim) (λn ih=>aaq hR ih) n
def Gk(R:eX)(K:KF)(x2:aA)(a0:AV)(H:AH):Prop:=x2 a0 .ab (.ofNat 0) H
theorem aas{R:eX}(hR:nj R){K:KF}{x2:aA}(h2:nO K x2)(a0:AV)(H:AH)(h:Gk R K x2 a0 H):fN 26 K [] (bL (ff 26) [a0]) [] H:=pk hR (cc h2 .nil) h
def aky(R:eX)(K:KF):Ta:=Gk R K (qn R K NL)
def Kl(R:eX):AV→AH→KF→Prop:=λa0 H K=>aky R K a0 H
theorem ahO(R:eX)(hR:nj R):aE gPa 26 (aD [.a] (Kl R)):=rk λK a0 H h=>aas hR (aar hR NL) a0 H h
abbrev s2R:Type:=(AV→AH→KF→Prop)×(AV→AH→KF→Prop)
def Gl(S:s2R):eW:=(S.1,S.2)
def Gm(S:s2R):eX:=(S.1,S.2)
noncomputable def s2(n:Nat):s2R:=Nat.rec (motive:=λ_=>s2R) (λ_ _ _=>False,λ_ _ _=>False) (λ_ S=>(Kk (Gl S),Kl (Gm S))) n
theorem akz(n:Nat):s2 (n+1)=(Kk (Gl (s2 n)),Kl (Gm (s2 n))):=by kernel_rfl
theorem amg(n:Nat):aE gPa 12 (aD [.a] (s2 n).1)∧aE gPa 26 (aD [.a] (s2 n).2):=by
 induction n with
 |zero=>exact⟨hN [.a],hN [.a]⟩
 |succ n ih=>
  rw[akz];exact⟨ahN (Gl (s2 n)) (ad.cons (ih.1) (ad.cons (ih.2) ad.nil)),ahO (Gm (s2 n)) (ad.cons (ih.1) (ad.cons (ih.2) ad.nil))⟩
def f12:AV→AH→KF→Prop:=(s2 NL).1
theorem akA:aE gPa 12 (aD [.a] f12):=(amg NL).1
abbrev ki:Type:=Unit
def akB(R:ki):List (Nat×eM):=[]
abbrev xQ(R:ki):Prop:=ad gPa (akB R)
abbrev OO(K:KF)(F:T_):Prop:=ba 13 K [1,1,1] 26 [] [] F
abbrev tQ(K:KF)(F:aA):Prop:=ba 13 K [0,1,0,1,1] 26 [0,1,5] [.a,.a,.i 0] F
def Gn(R:ki)(K:KF)(H:AH):Prop:=K (.ret (.bool true)) H
theorem aat{R:ki}(hR:xQ R){K:KF}:OO K (Gn R K):=λH h=>pk hR .nil h
def aau(R:ki)(K:KF):T_:=Gn R K
theorem aav{R:ki}(hR:xQ R){K:KF}:OO K (aau R K):=aat hR
def Gp(R:ki)(K:KF)(x2:aA)(x1:T_)(a0 a1:AV)(a5:Int)(H:AH):Prop:=eP a0 λv1=>cI 0 v1 λz2=>bI (df a5 z2) (cn 1 a0 (.int 0 a5) λv3=>af v3 H λv4=>cn 1 a1 (.int 0 a5) λv5=>af v5 H λv6=>sNe v4 v6 λv7=>cH v7 λz8=>bI z8 (K (.ret (.bool false)) H) (aN 0 (Int.add a5 (.ofNat 1)) λz9=>x2 a0 a1 z9 H)) (x1 H)
theorem aaw{R:ki}(hR:xQ R){K:KF}{x2:aA}{x1:T_}(h2:tQ K x2)(h1:OO K x1):tQ K (Gp R K x2 x1):=λa0 a1 a5 H h=>pk hR (cc h2 (cc h1 .nil)) h
def aax(R:ki)(K:KF)(i2:aA):aA:=Gp R K i2 (aau R K)
theorem aay{R:ki}(hR:xQ R){K:KF}{i2:aA}(g2:tQ K i2):tQ K (aax R K i2):=aaw hR g2 (aav hR)
def wO(R:ki)(K:KF)(n:Nat):aA:=Nat.rec (motive:=λ_=>aA) (λ_ _ _ _=>False) (λ_ i=>aax R K i) n
theorem aaz{R:ki}(hR:xQ R){K:KF}(n:Nat):tQ K (wO R K n):=Nat.rec (motive:=λn=>tQ K (wO R K n)) (λa0 a1 a5 H h=>h.elim) (λn ih=>aay hR ih) n
def Gq(R:ki)(K:KF)(x2:aA)(a0 a1:AV)(H:AH):Prop:=eP a0 λv1=>cI 0 v1 λz2=>eP a1 λv3=>cI 0 v3 λz4=>bI (!(cA z2 z4)) (K (.ret (.bool false)) H) (x2 a0 a1 (.ofNat 0) H)
theorem aaA{R:ki}(hR:xQ R){K:KF}{x2:aA}(h2:tQ K x2)(a0 a1:AV)(H:AH)(h:Gq R K x2 a0 a1 H):fN 13 K [] (bL (ff 13) [a0,a1]) [] H:=pk hR (cc h2 .nil) h
def akC(R:ki)(K:KF):gi:=Gq R K (wO R K NL)
def agn(R:ki):AV→AV→AH→KF→Prop:=λa0 a1 H K=>akC R K a0 a1 H
theorem ahP(R:ki)(hR:xQ R):aE gPa 13 (aD [.a,.a] (agn R)):=rk λK a0 a1 H h=>aaA hR (aaz hR NL) a0 a1 H h
def rU:ki:=()
def f13:AV→AV→AH→KF→Prop:=agn rU
theorem akD:aE gPa 13 (aD [.a,.a] f13):=ahP rU ad.nil
abbrev kj:Type:=Unit
def akE(R:kj):List (Nat×eM):=[]
abbrev xR(R:kj):Prop:=ad gPa (akE R)
abbrev OP(K:KF)(F:T_):Prop:=ba 49 K [1,1] 19 [] [] F
abbrev tR(K:KF)(F:aP):Prop:=ba 49 K [0,1,0,1] 19 [0,1,7,8] [.a,.a,.i 0,.i 0] F
def Gr(R:kj)(K:KF)(H:AH):Prop:=K (.ret (.int 0 (.negSucc 0))) H
theorem aaB{R:kj}(hR:xR R){K:KF}:OP K (Gr R K):=λH h=>pk hR .nil h
def aaC(R:kj)(K:KF):T_:=Gr R K
theorem aaD{R:kj}(hR:xR R){K:KF}:OP K (aaC R K):=aaB hR
def Gs(R:kj)(K:KF)(x2:aP)(x1:T_)(a0 a1:AV)(a7 a8:Int)(H:AH):Prop:=bI (df a8 a7) (cn 1 a0 (.int 0 a8) λv1=>af v1 H λv2=>yg a1 v2 λv3=>cH v3 λz4=>bI z4 (K (.ret (.int 0 a8)) H) (aN 0 (Int.add a8 (.ofNat 1)) λz5=>x2 a0 a1 a7 z5 H)) (x1 H)
theorem aaE{R:kj}(hR:xR R){K:KF}{x2:aP}{x1:T_}(h2:tR K x2)(h1:OP K x1):tR K (Gs R K x2 x1):=λa0 a1 a7 a8 H h=>pk hR (cc h2 (cc h1 .nil)) h
def aaF(R:kj)(K:KF)(i2:aP):aP:=Gs R K i2 (aaC R K)
theorem aaG{R:kj}(hR:xR R){K:KF}{i2:aP}(g2:tR K i2):tR K (aaF R K i2):=aaE hR g2 (aaD hR)
def wP(R:kj)(K:KF)(n:Nat):aP:=Nat.rec (motive:=λ_=>aP) (λ_ _ _ _ _=>False) (λ_ i=>aaF R K i) n
theorem aaH{R:kj}(hR:xR R){K:KF}(n:Nat):tR K (wP R K n):=Nat.rec (motive:=λn=>tR K (wP R K n)) (λa0 a1 a7 a8 H h=>h.elim) (λn ih=>aaG hR ih) n
def Gt(R:kj)(K:KF)(x2:aP)(a0 a1:AV)(H:AH):Prop:=eP a0 λv1=>cI 0 v1 λz2=>x2 a0 a1 z2 (.ofNat 0) H
theorem aaI{R:kj}(hR:xR R){K:KF}{x2:aP}(h2:tR K x2)(a0 a1:AV)(H:AH)(h:Gt R K x2 a0 a1 H):fN 49 K [] (bL (ff 49) [a0,a1]) [] H:=pk hR (cc h2 .nil) h
def akF(R:kj)(K:KF):gi:=Gt R K (wP R K NL)
def ago(R:kj):AV→AV→AH→KF→Prop:=λa0 a1 H K=>akF R K a0 a1 H
theorem ahQ(R:kj)(hR:xR R):aE gPa 49 (aD [.a,.a] (ago R)):=rk λK a0 a1 H h=>aaI hR (aaH hR NL) a0 a1 H h
def rV:kj:=()
def f49:AV→AV→AH→KF→Prop:=ago rV
theorem akG:aE gPa 49 (aD [.a,.a] f49):=ahQ rV ad.nil
abbrev uV:Type:=(AV→AV→AH→KF→Prop)
def akH(R:uV):List (Nat×eM):=[(49,aD [.a,.a] R)]
abbrev agp(R:uV):Prop:=ad gPa (akH R)
def Gu(R:uV)(K:KF)(a0 a1:AV)(H:AH):Prop:=R a0 a1 H λo1 H2=>cR K o1 H2 λv3=>cI 0 v3 λz4=>K (.ret (.bool (!(df z4 (.ofNat 0))))) H2
theorem aaJ{R:uV}(hR:agp R){K:KF}(a0 a1:AV)(H:AH)(h:Gu R K a0 a1 H):fN 23 K [] (bL (ff 23) [a0,a1]) [] H:=pk hR .nil h
def akI(R:uV)(K:KF):gi:=Gu R K
def agq(R:uV):AV→AV→AH→KF→Prop:=λa0 a1 H K=>akI R K a0 a1 H
theorem ahR(R:uV)(hR:agp R):aE gPa 23 (aD [.a,.a] (agq R)):=rk λK a0 a1 H h=>aaJ hR a0 a1 H h
def OQ:uV:=(f49)
def f23:AV→AV→AH→KF→Prop:=agq OQ
theorem aaK:aE gPa 23 (aD [.a,.a] f23):=ahR OQ (ad.cons akG ad.nil)
abbrev uW:Type:=(AV→AV→AH→KF→Prop)×(AV→AH→KF→Prop)
def akJ(R:uW):List (Nat×eM):=[(23,aD [.a,.a] R.1),(24,aD [.a] R.2)]
abbrev agr(R:uW):Prop:=ad gPa (akJ R)
def Gv(R:uW)(K:KF)(a0:AV)(H:AH):Prop:=R.2 (.str 130 4989745452750927712642869024936041018982183869112399744596646328559347698139019358746423479417311085373974869505494574274628988303325946808601483887101106809989390966068797068531459062952690525578417336589675308608346298249300317674214036809461764501959304432550546839486516338336139505618763273980857346390260084) H λo1 H2=>cR K o1 H2 λv3=>R.1 v3 a0 H2 λo4 H5=>cR K o4 H5 λv6=>cH v6 λz7=>K (.ret (.bool z7)) H5
theorem aaL{R:uW}(hR:agr R){K:KF}(a0:AV)(H:AH)(h:Gv R K a0 H):fN 10 K [] (bL (ff 10) [a0]) [] H:=pk hR .nil h
def akK(R:uW)(K:KF):Ta:=Gv R K
def ags(R:uW):AV→AH→KF→Prop:=λa0 H K=>akK R K a0 H
theorem ahS(R:uW)(hR:agr R):aE gPa 10 (aD [.a] (ags R)):=rk λK a0 H h=>aaL hR a0 H h
abbrev pq:Type:=(AV→AH→KF→Prop)×(AV→AV→AH→KF→Prop)
def akL(R:pq):List (Nat×eM):=[(10,aD [.a] R.1),(23,aD [.a,.a] R.2)]
abbrev Km(R:pq):Prop:=ad gPa (akL R)
abbrev OS(K:KF)(F:gi):Prop:=ba 73 K [0,1] 35 [0,1] [.a,.a] F
def Gw(R:pq)(K:KF)(a0 a1:AV)(H:AH):Prop:=aI a0 (ag 1 a0 λv1=>af v1 H λv2=>one a1 (aX (ay H) 1 1 [a1] λv3 H4=>dw 1 16 v2 v3 H4 λv5 H6=>aI a0 (ag 1 a0 λv7=>ak 1 v7 v5 H6 λH8=>K (.ret (.bF [])) H8)))
theorem aaM{R:pq}(hR:Km R){K:KF}:OS K (Gw R K):=λa0 a1 H h=>pk hR .nil h
def aaN(R:pq)(K:KF):gi:=Gw R K
theorem aaO{R:pq}(hR:Km R){K:KF}:OS K (aaN R K):=aaM hR
def Gx(R:pq)(K:KF)(x1:gi)(a0 a1:AV)(H:AH):Prop:=aI a0 (ag 0 a0 λv1=>af v1 H λv2=>R.2 v2 a1 H λo3 H4=>cR K o3 H4 λv5=>cH v5 λz6=>bI (!z6) (R.1 a1 H4 λo7 H8=>cR K o7 H8 λv9=>cH v9 λz10=>bI (!z10) (aI a0 (ag 1 a0 λv11=>af v11 H8 λv12=>R.2 v12 a1 H8 λrG fw=>cR K rG fw λv15=>cH v15 λrH=>bI (!rH) (x1 a0 a1 fw) (K (.ret (.bF [])) fw))) (K (.ret (.bF [])) H8)) (K (.ret (.bF [])) H4))
theorem aaP{R:pq}(hR:Km R){K:KF}{x1:gi}(h1:OS K x1)(a0 a1:AV)(H:AH)(h:Gx R K x1 a0 a1 H):fN 73 K [] (bL (ff 73) [a0,a1]) [] H:=pk hR (cc h1 .nil) h
def akM(R:pq)(K:KF):gi:=Gx R K (aaN R K)
def agt(R:pq):AV→AV→AH→KF→Prop:=λa0 a1 H K=>akM R K a0 a1 H
theorem ahT(R:pq)(hR:Km R):aE gPa 73 (aD [.a,.a] (agt R)):=rk λK a0 a1 H h=>aaP hR (aaO hR) a0 a1 H h
abbrev iM:Type:=(AV→AV→AH→KF→Prop)×(AV→AV→AH→KF→Prop)
def akN(R:iM):List (Nat×eM):=[(52,aD [.a,.a] R.1),(53,aD [.a,.a] R.2)]
abbrev sR(R:iM):Prop:=ad gPa (akN R)
abbrev OT(K:KF)(F:ka):Prop:=ba 27 K [1,1] 47 [0,2,3,8] [.a,.a,.a,.i 0] F
abbrev OU(K:KF)(F:aA):Prop:=ba 27 K [1,1,1] 47 [0,3,8] [.a,.a,.i 0] F
abbrev tT(K:KF)(F:mT):Prop:=ba 27 K [0,1,0,1,1] 47 [0,3,8,25,26,27] [.a,.a,.i 0,.a,.i 0,.i 0] F
def Gy(R:iM)(K:KF)(a0 a3:AV)(a8:Int)(H:AH):Prop:=R.2 a0 a3 H λo1 H2=>cR K o1 H2 λv3=>aI a0 (ag 0 a0 λv4=>af v4 H2 λv5=>nz 1 v5 none (some (.int 0 a8)) none λv6=>aI a0 (ag 0 a0 λv7=>ak 1 v7 v6 H2 λH8=>K (.ret (.bF [])) H8))
theorem aaQ{R:iM}(hR:sR R){K:KF}:OU K (Gy R K):=λa0 a3 a8 H h=>pk hR .nil h
def aaR(R:iM)(K:KF):aA:=Gy R K
theorem aaS{R:iM}(hR:sR R){K:KF}:OU K (aaR R K):=aaQ hR
def Gz(R:iM)(K:KF)(x3:mT)(x2:aA)(a0 a3:AV)(a8:Int)(a25:AV)(a26 a27:Int)(H:AH):Prop:=bI (df a27 a26) (cn 5 a25 (.int 0 a27) λv1=>aZ 5 v1 H λv2=>fW H (lA (ay H) [(.int 0 (.ofNat 0)),(.int 0 (.ofNat 0)),.ab,.ab,.ab] λv3 H4=>ak 5 v3 v2 H4 λH5=>aZ 5 v3 H5 λv6=>R.1 a0 v6 H5 λo7 H8=>cR K o7 H8 λv9=>aN 0 (Int.add a27 (.ofNat 1)) λz10=>x3 a0 a3 a8 a25 a26 z10 H8)) (x2 a0 a3 a8 H)
theorem aaT{R:iM}(hR:sR R){K:KF}{x3:mT}{x2:aA}(h3:tT K x3)(h2:OU K x2):tT K (Gz R K x3 x2):=λa0 a3 a8 a25 a26 a27 H h=>pk hR (cc h3 (cc h2 .nil)) h
def aaU(R:iM)(K:KF)(i3:mT):mT:=Gz R K i3 (aaR R K)
theorem aaV{R:iM}(hR:sR R){K:KF}{i3:mT}(g3:tT K i3):tT K (aaU R K i3):=aaT hR g3 (aaS hR)
def wQ(R:iM)(K:KF)(n:Nat):mT:=Nat.rec (motive:=λ_=>mT) (λ_ _ _ _ _ _ _=>False) (λ_ i=>aaU R K i) n
theorem aaW{R:iM}(hR:sR R){K:KF}(n:Nat):tT K (wQ R K n):=Nat.rec (motive:=λn=>tT K (wQ R K n)) (λa0 a3 a8 a25 a26 a27 H h=>h.elim) (λn ih=>aaV hR ih) n
def GA(R:iM)(K:KF)(x3:mT)(a0 a2 a3:AV)(a8:Int)(H:AH):Prop:=eP a2 λv1=>cI 0 v1 λz2=>x3 a0 a3 a8 a2 z2 (.ofNat 0) H
theorem aaX{R:iM}(hR:sR R){K:KF}{x3:mT}(h3:tT K x3):OT K (GA R K x3):=λa0 a2 a3 a8 H h=>pk hR (cc h3 .nil) h
def aaY(R:iM)(K:KF):ka:=GA R K (wQ R K NL)
theorem aaZ{R:iM}(hR:sR R){K:KF}:OT K (aaY R K):=aaX hR (aaW hR NL)
def GB(R:iM)(K:KF)(x1:ka)(a0 a1 a2 a3:AV)(H:AH):Prop:=aI a0 (ag 0 a0 λv1=>af v1 H λv2=>eP v2 λv3=>cI 0 v3 λz4=>aI a0 (ag 0 a0 λv5=>af v5 H λv6=>dw 1 16 v6 a1 H λv7 H8=>aI a0 (ag 0 a0 λv9=>ak 1 v9 v7 H8 λdD=>x1 a0 a2 a3 z4 dD)))
theorem aa0{R:iM}(hR:sR R){K:KF}{x1:ka}(h1:OT K x1)(a0 a1 a2 a3:AV)(H:AH)(h:GB R K x1 a0 a1 a2 a3 H):fN 27 K [] (bL (ff 27) [a0,a1,a2,a3]) [] H:=pk hR (cc h1 .nil) h
def akO(R:iM)(K:KF):agm:=GB R K (aaY R K)
def Ko(R:iM):AV→AV→AV→AV→AH→KF→Prop:=λa0 a1 a2 a3 H K=>akO R K a0 a1 a2 a3 H
theorem ahU(R:iM)(hR:sR R):aE gPa 27 (aD [.a,.a,.a,.a] (Ko R)):=rk λK a0 a1 a2 a3 H h=>aa0 hR (aaZ hR) a0 a1 a2 a3 H h
abbrev di:Type:=(AV→AV→AV→AV→AH→KF→Prop)×(AV→AV→AH→KF→Prop)
def akP(R:di):List (Nat×eM):=[(27,aD [.a,.a,.a,.a] R.1),(53,aD [.a,.a] R.2)]
abbrev iZ(R:di):Prop:=ad gPa (akP R)
abbrev OV(K:KF)(F:gi):Prop:=ba 52 K [1,0,1,1,1,0,1,1] 103 [0,3] [.a,.a] F
abbrev tU(K:KF)(F:bf):Prop:=ba 52 K [0,1,0,1,1,1,1,1,0,1,1] 103 [0,3,64,65,66] [.a,.a,.a,.i 0,.i 0] F
abbrev OW(K:KF)(F:bf):Prop:=ba 52 K [1,0,1,1,1,1,1,1,1,0,1,1] 103 [0,3,79,80,81] [.a,.a,.a,.i 0,.i 0] F
abbrev OX(K:KF)(F:gi):Prop:=ba 52 K [1,1,1,1,1,1,1,1,1,0,1,1] 103 [0,3] [.a,.a] F
abbrev qo(K:KF)(F:bf):Prop:=ba 52 K [0,1,0,1,1,1,1,1,1,1,0,1,1] 103 [0,3,79,80,81] [.a,.a,.a,.i 0,.i 0] F
abbrev tV(K:KF)(F:bf):Prop:=ba 52 K [0,1,1,1,1,1,1,1,1,1,1,0,1,1] 103 [0,3,17,18,19] [.a,.a,.a,.i 0,.i 0] F
abbrev OY(K:KF)(F:bf):Prop:=ba 52 K [1,1,1,0,0,1,0,1,1,1,1,1,1,1,0,1,1] 103 [0,3,79,80,81] [.a,.a,.a,.i 0,.i 0] F
abbrev OZ(K:KF)(F:AM):Prop:=ba 52 K [1,1,0,0,1,1,0,0,1,0,1,1,1,1,1,1,1,0,1,1] 103 [0,3,7,79,80,81] [.a,.a,.a,.a,.i 0,.i 0] F
def GC(R:di)(K:KF)(x2:bf)(a0 a3 a64:AV)(a65 a66:Int)(H:AH):Prop:=bI (df a66 a65) (cn 1 a64 (.int 0 a66) λv1=>af v1 H λv2=>ag 3 a3 λv3=>af v3 H λv4=>R.1 a0 .ab v2 v4 H λo5 H6=>cR K o5 H6 λv7=>aN 0 (Int.add a66 (.ofNat 1)) λz8=>x2 a0 a3 a64 a65 z8 H6) (K (.ret (.bF [])) H)
theorem aa1{R:di}(hR:iZ R){K:KF}{x2:bf}(h2:tU K x2):tU K (GC R K x2):=λa0 a3 a64 a65 a66 H h=>pk hR (cc h2 .nil) h
def aa2(R:di)(K:KF)(i2:bf):bf:=GC R K i2
theorem aa3{R:di}(hR:iZ R){K:KF}{i2:bf}(g2:tU K i2):tU K (aa2 R K i2):=aa1 hR g2
def wR(R:di)(K:KF)(n:Nat):bf:=Nat.rec (motive:=λ_=>bf) (λ_ _ _ _ _ _=>False) (λ_ i=>aa2 R K i) n
theorem aa4{R:di}(hR:iZ R){K:KF}(n:Nat):tU K (wR R K n):=Nat.rec (motive:=λn=>tU K (wR R K n)) (λa0 a3 a64 a65 a66 H h=>h.elim) (λn ih=>aa3 hR ih) n
def GD(R:di)(K:KF)(a0 a3:AV)(H:AH):Prop:=ag 3 a3 λv1=>af v1 H λv2=>R.2 a0 v2 H λo3 H4=>cR K o3 H4 λv5=>K (.ret (.bF [])) H4
theorem aa5{R:di}(hR:iZ R){K:KF}:OV K (GD R K):=λa0 a3 H h=>pk hR .nil h
def aa6(R:di)(K:KF):gi:=GD R K
theorem aa7{R:di}(hR:iZ R){K:KF}:OV K (aa6 R K):=aa5 hR
def zO(R:di)(K:KF)(x5:bf)(a0 a3 a79:AV)(a80 qv:Int)(H:AH):Prop:=aN 0 (Int.add qv (.ofNat 1)) λz1=>x5 a0 a3 a79 a80 z1 H
theorem aa8{R:di}(hR:iZ R){K:KF}{x5:bf}(h5:qo K x5):OY K (zO R K x5):=λa0 a3 a79 a80 qv H h=>pk hR (cc h5 .nil) h
def aa9(R:di)(K:KF)(i5:bf):bf:=zO R K i5
theorem aba{R:di}(hR:iZ R){K:KF}{i5:bf}(g5:qo K i5):OY K (aa9 R K i5):=aa8 hR g5
def zP(R:di)(K:KF)(x7:bf)(a0 a3 a7 a79:AV)(a80 qv:Int)(H:AH):Prop:=R.1 a0 .ab a7 .ab H λo1 H2=>cR K o1 H2 λv3=>x7 a0 a3 a79 a80 qv H2
theorem abb{R:di}(hR:iZ R){K:KF}{x7:bf}(h7:OY K x7):OZ K (zP R K x7):=λa0 a3 a7 a79 a80 qv H h=>pk hR (cc h7 .nil) h
def abc(R:di)(K:KF)(i5:bf):AM:=zP R K (aa9 R K i5)
theorem abd{R:di}(hR:iZ R){K:KF}{i5:bf}(g5:qo K i5):OZ K (abc R K i5):=abb hR (aba hR g5)
def GF(R:di)(K:KF)(x8:AM)(a0 a3 a79:AV)(a80 qv:Int)(H:AH):Prop:=bI (df qv a80) (cn 1 a79 (.int 0 qv) λv1=>af v1 H λv2=>ag 3 a3 λv3=>af v3 H λv4=>eP v4 λv5=>cI 0 v5 λz6=>bI (df qv z6) (ag 3 a3 λv7=>af v7 H λv8=>aN 0 (Int.add qv (.ofNat 1)) λz9=>nz 7 v8 (some (.int 0 qv)) (some (.int 0 z9)) none λv10=>R.2 a0 v10 H λmG bS=>cR K mG bS λv13=>x8 a0 a3 v2 a79 a80 qv bS) (x8 a0 a3 v2 a79 a80 qv H)) (K (.ret (.bF [])) H)
theorem abe{R:di}(hR:iZ R){K:KF}{x8:AM}(h8:OZ K x8):qo K (GF R K x8):=λa0 a3 a79 a80 qv H h=>pk hR (cc h8 .nil) h
def abf(R:di)(K:KF)(i5:bf):bf:=GF R K (abc R K i5)
theorem abg{R:di}(hR:iZ R){K:KF}{i5:bf}(g5:qo K i5):qo K (abf R K i5):=abe hR (abd hR g5)
def tW(R:di)(K:KF)(n:Nat):bf:=Nat.rec (motive:=λ_=>bf) (λ_ _ _ _ _ _=>False) (λ_ i=>abf R K i) n
theorem abh{R:di}(hR:iZ R){K:KF}(n:Nat):qo K (tW R K n):=Nat.rec (motive:=λn=>qo K (tW R K n)) (λa0 a3 a79 a80 qv H h=>h.elim) (λn ih=>abg hR ih) n
def GG(R:di)(K:KF)(x5:bf)(a0 a3 a79:AV)(a80 qv:Int)(H:AH):Prop:=x5 a0 a3 a79 a80 qv H
theorem abi{R:di}(hR:iZ R){K:KF}{x5:bf}(h5:qo K x5):OW K (GG R K x5):=λa0 a3 a79 a80 qv H h=>pk hR (cc h5 .nil) h
def abj(R:di)(K:KF):bf:=GG R K (tW R K NL)
theorem abk{R:di}(hR:iZ R){K:KF}:OW K (abj R K):=abi hR (abh hR NL)
def GH(R:di)(K:KF)(x6:bf)(a0 a3 a17:AV)(a18 a19:Int)(H:AH):Prop:=bI (df a19 a18) (cn 1 a17 (.int 0 a19) λv1=>af v1 H λv2=>ag 2 a3 λv3=>af v3 H λv4=>R.1 a0 v4 v2 .ab H λo5 H6=>cR K o5 H6 λv7=>aN 0 (Int.add a19 (.ofNat 1)) λz8=>x6 a0 a3 a17 a18 z8 H6) (K (.ret (.bF [])) H)
theorem abl{R:di}(hR:iZ R){K:KF}{x6:bf}(h6:tV K x6):tV K (GH R K x6):=λa0 a3 a17 a18 a19 H h=>pk hR (cc h6 .nil) h
def abm(R:di)(K:KF)(i6:bf):bf:=GH R K i6
theorem abn{R:di}(hR:iZ R){K:KF}{i6:bf}(g6:tV K i6):tV K (abm R K i6):=abl hR g6
def wS(R:di)(K:KF)(n:Nat):bf:=Nat.rec (motive:=λ_=>bf) (λ_ _ _ _ _ _=>False) (λ_ i=>abm R K i) n
theorem abo{R:di}(hR:iZ R){K:KF}(n:Nat):tV K (wS R K n):=Nat.rec (motive:=λn=>tV K (wS R K n)) (λa0 a3 a17 a18 a19 H h=>h.elim) (λn ih=>abn hR ih) n
def GI(R:di)(K:KF)(x6:bf)(a0 a3:AV)(H:AH):Prop:=ag 4 a3 λv1=>af v1 H λv2=>eP v2 λv3=>cI 0 v3 λz4=>x6 a0 a3 v2 z4 (.ofNat 0) H
theorem abp{R:di}(hR:iZ R){K:KF}{x6:bf}(h6:tV K x6):OX K (GI R K x6):=λa0 a3 H h=>pk hR (cc h6 .nil) h
def abq(R:di)(K:KF):gi:=GI R K (wS R K NL)
theorem abr{R:di}(hR:iZ R){K:KF}:OX K (abq R K):=abp hR (abo hR NL)
def GJ(R:di)(K:KF)(x2:bf)(x1:gi)(x3:bf)(x4:gi)(a0 a1:AV)(H:AH):Prop:=vd (ay H) a1 λv1 H2=>ag 0 v1 λv3=>af v3 H2 λv4=>cI 0 v4 λz5=>bI (cA z5 (.ofNat 1)) (ag 3 v1 λv6=>af v6 H2 λv7=>R.2 a0 v7 H2 λo8 H9=>cR K o8 H9 λv10=>aI a0 (ag 0 a0 λv11=>af v11 H9 λv12=>ag 2 v1 λv13=>af v13 H9 λv14=>dw 1 16 v12 v14 H9 λv15 fy=>aI a0 (ag 0 a0 λv17=>ak 1 v17 v15 fy λju=>K (.ret (.bF [])) ju))) (bI (cA z5 (.ofNat 12)) (aI a0 (ag 0 a0 λv19=>af v19 H2 λv20=>ag 2 v1 λv21=>af v21 H2 λv22=>dw 1 16 v20 v22 H2 λv23 tJ=>aI a0 (ag 0 a0 λv25=>ak 1 v25 v23 tJ λMw=>x1 a0 v1 Mw))) (bI (cA z5 (.ofNat 8)) (ag 4 v1 λv27=>af v27 H2 λv28=>eP v28 λv29=>cI 0 v29 λz30=>x2 a0 v1 v28 z30 (.ofNat 0) H2) (bI (cA z5 (.ofNat 4)) (ag 4 v1 λv31=>af v31 H2 λv32=>eP v32 λv33=>cI 0 v33 λz34=>x3 a0 v1 v32 z34 (.ofNat 0) H2) (ag 3 v1 λv35=>af v35 H2 λv36=>R.2 a0 v36 H2 λo37 M0=>cR K o37 M0 λv39=>x4 a0 v1 M0))))
theorem abt{R:di}(hR:iZ R){K:KF}{x2:bf}{x1:gi}{x3:bf}{x4:gi}(h2:tU K x2)(h1:OV K x1)(h3:OW K x3)(h4:OX K x4)(a0 a1:AV)(H:AH)(h:GJ R K x2 x1 x3 x4 a0 a1 H):fN 52 K [] (bL (ff 52) [a0,a1]) [] H:=pk hR (cc h2 (cc h1 (cc h3 (cc h4 .nil)))) h
def akQ(R:di)(K:KF):gi:=GJ R K (wR R K NL) (aa6 R K) (abj R K) (abq R K)
def Kp(R:di):AV→AV→AH→KF→Prop:=λa0 a1 H K=>akQ R K a0 a1 H
theorem ahV(R:di)(hR:iZ R):aE gPa 52 (aD [.a,.a] (Kp R)):=rk λK a0 a1 H h=>abt hR (aa4 hR NL) (aa7 hR) (abk hR) (abr hR) a0 a1 H h
abbrev fi:Type:=(AV→AV→AV→AV→AH→KF→Prop)×(AV→AV→AH→KF→Prop)×(AV→AV→AH→KF→Prop)
def akR(R:fi):List (Nat×eM):=[(27,aD [.a,.a,.a,.a] R.1),(53,aD [.a,.a] R.2.1),(73,aD [.a,.a] R.2.2)]
abbrev nk(R:fi):Prop:=ad gPa (akR R)
abbrev mJ(K:KF)(F:aP):Prop:=ba 53 K [0,1] 40 [0,8,9,10] [.a,.a,.i 0,.i 0] F
abbrev O0(K:KF)(F:aP):Prop:=ba 53 K [1,1,1,0,0,1] 40 [0,8,9,10] [.a,.a,.i 0,.i 0] F
abbrev O1(K:KF)(F:bf):Prop:=ba 53 K [1,1,0,0,1,1,0,0,1] 40 [0,5,8,9,10] [.a,.a,.a,.i 0,.i 0] F
abbrev rW(K:KF)(F:gD):Prop:=ba 53 K [0,1,1,1,1,0,0,1,1,0,0,1] 40 [0,8,9,10,26,27,28] [.a,.a,.i 0,.i 0,.a,.i 0,.i 0] F
abbrev O2(K:KF)(F:gD):Prop:=ba 53 K [1,1,1,0,0,1,1,1,1,0,0,1,1,0,0,1] 40 [0,8,9,10,26,27,28] [.a,.a,.i 0,.i 0,.a,.i 0,.i 0] F
def GK(R:fi)(K:KF)(x1:aP)(a0 a8:AV)(a9 a10:Int)(H:AH):Prop:=aN 0 (Int.add a10 (.ofNat 1)) λz1=>x1 a0 a8 a9 z1 H
theorem abu{R:fi}(hR:nk R){K:KF}{x1:aP}(h1:mJ K x1):O0 K (GK R K x1):=λa0 a8 a9 a10 H h=>pk hR (cc h1 .nil) h
def abv(R:fi)(K:KF)(i1:aP):aP:=GK R K i1
theorem abw{R:fi}(hR:nk R){K:KF}{i1:aP}(g1:mJ K i1):O0 K (abv R K i1):=abu hR g1
def GL(R:fi)(K:KF)(x4:gD)(a0 a8:AV)(a9 a10:Int)(a26:AV)(a27 a28:Int)(H:AH):Prop:=aN 0 (Int.add a28 (.ofNat 1)) λz1=>x4 a0 a8 a9 a10 a26 a27 z1 H
theorem abx{R:fi}(hR:nk R){K:KF}{x4:gD}(h4:rW K x4):O2 K (GL R K x4):=λa0 a8 a9 a10 a26 a27 a28 H h=>pk hR (cc h4 .nil) h
def aby(R:fi)(K:KF)(i1:aP)(i4:gD):gD:=GL R K i4
theorem abz{R:fi}(hR:nk R){K:KF}{i1:aP}{i4:gD}(g1:mJ K i1)(g4:rW K i4):O2 K (aby R K i1 i4):=abx hR g4
def GM(R:fi)(K:KF)(x2:aP)(x5:gD)(a0 a8:AV)(a9 a10:Int)(a26:AV)(a27 a28:Int)(H:AH):Prop:=bI (df a28 a27) (cn 2 a26 (.int 0 a28) λv1=>aZ 2 v1 H λv2=>fW H (lA (ay H) [.ab,.ab] λv3 H4=>ak 2 v3 v2 H4 λH5=>ag 0 v3 λv6=>af v6 H5 λv7=>ag 1 v3 λv8=>af v8 H5 λv9=>R.1 a0 v7 v9 .ab H5 λWt mF=>cR K Wt mF λv12=>x5 a0 a8 a9 a10 a26 a27 a28 mF)) (x2 a0 a8 a9 a10 H)
theorem abA{R:fi}(hR:nk R){K:KF}{x2:aP}{x5:gD}(h2:O0 K x2)(h5:O2 K x5):rW K (GM R K x2 x5):=λa0 a8 a9 a10 a26 a27 a28 H h=>pk hR (cc h2 (cc h5 .nil)) h
def abB(R:fi)(K:KF)(i1:aP)(i4:gD):gD:=GM R K (abv R K i1) (aby R K i1 i4)
theorem abC{R:fi}(hR:nk R){K:KF}{i1:aP}{i4:gD}(g1:mJ K i1)(g4:rW K i4):rW K (abB R K i1 i4):=abA hR (abw hR g1) (abz hR g1 g4)
def tX(R:fi)(K:KF)(i1:aP)(n:Nat):gD:=Nat.rec (motive:=λ_=>gD) (λ_ _ _ _ _ _ _ _=>False) (λ_ i=>abB R K i1 i) n
theorem abD{R:fi}(hR:nk R){K:KF}{i1:aP}(g1:mJ K i1)(n:Nat):rW K (tX R K i1 n):=Nat.rec (motive:=λn=>rW K (tX R K i1 n)) (λa0 a8 a9 a10 a26 a27 a28 H h=>h.elim) (λn ih=>abC hR g1 ih) n
def zQ(R:fi)(K:KF)(x4:gD)(a0 a5 a8:AV)(a9 a10:Int)(H:AH):Prop:=ag 5 a5 λv1=>af v1 H λv2=>R.2.1 a0 v2 H λo3 H4=>cR K o3 H4 λv5=>ag 6 a5 λv6=>af v6 H4 λv7=>eP v7 λv8=>cI 0 v8 λz9=>x4 a0 a8 a9 a10 v7 z9 (.ofNat 0) H4
theorem abE{R:fi}(hR:nk R){K:KF}{x4:gD}(h4:rW K x4):O1 K (zQ R K x4):=λa0 a5 a8 a9 a10 H h=>pk hR (cc h4 .nil) h
def abF(R:fi)(K:KF)(i1:aP):bf:=zQ R K (tX R K i1 NL)
theorem abG{R:fi}(hR:nk R){K:KF}{i1:aP}(g1:mJ K i1):O1 K (abF R K i1):=abE hR (abD hR g1 NL)
def GN(R:fi)(K:KF)(x3:bf)(a0 a8:AV)(a9 a10:Int)(H:AH):Prop:=bI (df a10 a9) (cn 7 a8 (.int 0 a10) λv1=>aZ 7 v1 H λv2=>fW H (fl gPa (ay H) 41 λv3 H4=>ak 7 v3 v2 H4 λH5=>ag 0 v3 λv6=>af v6 H5 λv7=>cI 0 v7 λz8=>bI (cA z8 (.ofNat 6)) (ag 3 v3 λv9=>af v9 H5 λv10=>R.2.2 a0 v10 H5 λmG bS=>cR K mG bS λv13=>x3 a0 v3 a8 a9 a10 bS) (x3 a0 v3 a8 a9 a10 H5))) (K (.ret (.bF [])) H)
theorem abH{R:fi}(hR:nk R){K:KF}{x3:bf}(h3:O1 K x3):mJ K (GN R K x3):=λa0 a8 a9 a10 H h=>pk hR (cc h3 .nil) h
def abI(R:fi)(K:KF)(i1:aP):aP:=GN R K (abF R K i1)
theorem abJ{R:fi}(hR:nk R){K:KF}{i1:aP}(g1:mJ K i1):mJ K (abI R K i1):=abH hR (abG hR g1)
def oZ(R:fi)(K:KF)(n:Nat):aP:=Nat.rec (motive:=λ_=>aP) (λ_ _ _ _ _=>False) (λ_ i=>abI R K i) n
theorem abK{R:fi}(hR:nk R){K:KF}(n:Nat):mJ K (oZ R K n):=Nat.rec (motive:=λn=>mJ K (oZ R K n)) (λa0 a8 a9 a10 H h=>h.elim) (λn ih=>abJ hR ih) n
def GO(R:fi)(K:KF)(x1:aP)(a0 a1:AV)(H:AH):Prop:=eP a1 λv1=>cI 0 v1 λz2=>x1 a0 a1 z2 (.ofNat 0) H
theorem abL{R:fi}(hR:nk R){K:KF}{x1:aP}(h1:mJ K x1)(a0 a1:AV)(H:AH)(h:GO R K x1 a0 a1 H):fN 53 K [] (bL (ff 53) [a0,a1]) [] H:=pk hR (cc h1 .nil) h
def akS(R:fi)(K:KF):gi:=GO R K (oZ R K NL)
def GP(R:fi):AV→AV→AH→KF→Prop:=λa0 a1 H K=>akS R K a0 a1 H
theorem ahW(R:fi)(hR:nk R):aE gPa 53 (aD [.a,.a] (GP R)):=rk λK a0 a1 H h=>abL hR (abK hR NL) a0 a1 H h
abbrev xS:Type:=(AV→AV→AV→AV→AH→KF→Prop)
def akT(R:xS):List (Nat×eM):=[(27,aD [.a,.a,.a,.a] R)]
abbrev agu(R:xS):Prop:=ad gPa (akT R)
def GQ(R:xS)(K:KF)(a0:AV)(H:AH):Prop:=vd (ay H) a0 λv1 H2=>lA (ay H2) [.ab,.ab] λv3 H4=>ag 0 v1 λv5=>af v5 H4 λv6=>ag 1 v1 λv7=>af v7 H4 λv8=>R v3 v6 v8 .ab H4 λo9 dD=>cR K o9 dD λv11=>aI v3 (ag 1 v3 λv12=>af v12 dD λv13=>K (.ret v13) dD)
theorem abM{R:xS}(hR:agu R){K:KF}(a0:AV)(H:AH)(h:GQ R K a0 H):fN 14 K [] (bL (ff 14) [a0]) [] H:=pk hR .nil h
def akU(R:xS)(K:KF):Ta:=GQ R K
def agv(R:xS):AV→AH→KF→Prop:=λa0 H K=>akU R K a0 H
theorem ahX(R:xS)(hR:agu R):aE gPa 14 (aD [.a] (agv R)):=rk λK a0 H h=>abM hR a0 H h
abbrev uX:Type:=(AV→AV→AH→KF→Prop)
def akV(R:uX):List (Nat×eM):=[(25,aD [.a,.a] R)]
abbrev agw(R:uX):Prop:=ad gPa (akV R)
def GR(R:uX)(K:KF)(a0:AV)(H:AH):Prop:=aX (ay H) 22 1 [(.str 4 1701869940),(.str 5 491496043109),(.str 5 465674789744),(.str 6 111550524650083),(.str 6 111520796337522),(.str 5 431315315065),(.str 6 126948300911731),(.str 8 7453010373645660020),(.str 5 500068609908),(.str 3 6452595),(.str 4 1702132066),(.str 4 1918986339),(.str 3 7366002),(.str 5 491328139381),(.str 5 491328597868),(.str 7 28555907813500274),(.str 4 1684957542),(.str 6 128034677157481),(.str 6 111559349986674),(.str 4 1937335659),(.str 4 1852403562),(.str 4 1819042147)] λv1 H2=>R v1 a0 H2 λo3 H4=>cR K o3 H4 λv5=>cH v5 λz6=>K (.ret (.bool z6)) H4
theorem abN{R:uX}(hR:agw R){K:KF}(a0:AV)(H:AH)(h:GR R K a0 H):fN 11 K [] (bL (ff 11) [a0]) [] H:=pk hR .nil h
def akW(R:uX)(K:KF):Ta:=GR R K
def agx(R:uX):AV→AH→KF→Prop:=λa0 H K=>akW R K a0 H
theorem ahY(R:uX)(hR:agw R):aE gPa 11 (aD [.a] (agx R)):=rk λK a0 H h=>abN hR a0 H h
def GS:uX:=(f25)
def f11:AV→AH→KF→Prop:=agx GS
theorem akX:aE gPa 11 (aD [.a] f11):=ahY GS (ad.cons Fy ad.nil)
abbrev cj:Type:=(AV→AV→AV→AV→AH→KF→Prop)×(AV→AV→AH→KF→Prop)
def akY(R:cj):List (Nat×eM):=[(28,aD [.a,.a,.a,.a] R.1),(54,aD [.a,.a] R.2)]
abbrev fZ(R:cj):Prop:=ad gPa (akY R)
abbrev O3(K:KF)(F:ka):Prop:=ba 28 K [1,1] 147 [0,1,3,8] [.a,.a,.a,.i 0] F
abbrev O4(K:KF)(F:aA):Prop:=ba 28 K [1,1,1] 147 [0,3,8] [.a,.a,.i 0] F
abbrev jk(K:KF)(F:bf):Prop:=ba 28 K [0,1,0,1,1] 147 [0,1,3,8,9] [.a,.a,.a,.i 0,.i 0] F
abbrev O5(K:KF)(F:bf):Prop:=ba 28 K [1,1,0,0,1,0,1,1] 147 [0,1,3,8,9] [.a,.a,.a,.i 0,.i 0] F
abbrev O6(K:KF)(F:iB):Prop:=ba 28 K [1,1,0,0,1,0,0,1,0,1,1] 147 [0,1,3,8,9,10] [.a,.a,.a,.i 0,.i 0,.a] F
abbrev GU(K:KF)(F:iB):Prop:=ba 28 K [1,1,1,0,0,1,0,0,1,0,1,1] 147 [0,1,3,8,9,10] [.a,.a,.a,.i 0,.i 0,.a] F
abbrev O7(K:KF)(F:iB):Prop:=ba 28 K [1,1,1,1,0,0,1,0,0,1,0,1,1] 147 [0,1,3,8,9,10] [.a,.a,.a,.i 0,.i 0,.a] F
abbrev O8(K:KF)(F:iB):Prop:=ba 28 K [0,1,0,1,1,0,0,1,0,0,1,0,1,1] 147 [0,1,3,8,9,10] [.a,.a,.a,.i 0,.i 0,.a] F
abbrev o0(K:KF)(F:dN):Prop:=ba 28 K [0,1,0,1,1,1,0,0,1,0,0,1,0,1,1] 147 [0,1,3,8,9,10,11] [.a,.a,.a,.i 0,.i 0,.a,.i 0] F
abbrev wT(K:KF)(F:dN):Prop:=ba 28 K [1,1,0,0,1,0,1,1,1,0,0,1,0,0,1,0,1,1] 147 [0,1,3,8,9,10,11] [.a,.a,.a,.i 0,.i 0,.a,.i 0] F
abbrev ID(K:KF)(F:sQ):Prop:=ba 28 K [1,1,1,0,1,0,0,1,0,0,1,0,1,1,1,0,0,1,0,0,1,0,1,1] 147 [0,1,3,8,9,10,11,69,88] [.a,.a,.a,.i 0,.i 0,.a,.i 0,.i 0,.b] F
abbrev IE(K:KF)(F:dN):Prop:=ba 28 K [1,0,1,1,1,1,1,0,1,0,0,1,0,0,1,0,1,1,1,0,0,1,0,0,1,0,1,1] 147 [0,1,3,8,9,10,11] [.a,.a,.a,.i 0,.i 0,.a,.i 0] F
def gJ(R:cj)(K:KF)(x9:dN)(a0 a1 a3:AV)(a8 a9:Int)(a10:AV)(a11:Int)(H:AH):Prop:=aN 0 (Int.add a11 (.ofNat 1)) λz1=>x9 a0 a1 a3 a8 a9 a10 z1 H
theorem TP{R:cj}(hR:fZ R){K:KF}{x9:dN}(h9:o0 K x9):wT K (gJ R K x9):=λa0 a1 a3 a8 a9 a10 a11 H h=>pk hR (cc h9 .nil) h
def AN(R:cj)(K:KF)(i3:bf)(i9:dN):dN:=gJ R K i9
theorem xT{R:cj}(hR:fZ R){K:KF}{i3:bf}{i9:dN}(g3:jk K i3)(g9:o0 K i9):wT K (AN R K i3 i9):=TP hR g9
def pT(R:cj)(K:KF)(x10:dN)(a0 a1 a3:AV)(a8 a9:Int)(a10:AV)(a11:Int)(H:AH):Prop:=ag 4 a10 λv1=>af v1 H λv2=>cn 1 v2 (.int 0 a11) λv3=>af v3 H λv4=>R.1 a0 v4 .ab .ab H λo5 H6=>cR K o5 H6 λv7=>x10 a0 a1 a3 a8 a9 a10 a11 H6
theorem TQ{R:cj}(hR:fZ R){K:KF}{x10:dN}(h10:wT K x10):IE K (pT R K x10):=λa0 a1 a3 a8 a9 a10 a11 H h=>pk hR (cc h10 .nil) h
def Rl(R:cj)(K:KF)(i3:bf)(i9:dN):dN:=pT R K (AN R K i3 i9)
theorem TS{R:cj}(hR:fZ R){K:KF}{i3:bf}{i9:dN}(g3:jk K i3)(g9:o0 K i9):IE K (Rl R K i3 i9):=TQ hR (xT hR g3 g9)
def oB(R:cj)(K:KF)(x12 x10:dN)(a0 a1 a3:AV)(a8 a9:Int)(a10:AV)(a11 a69:Int)(a88:Bool)(H:AH):Prop:=bI a88 (ag 4 a10 λv1=>af v1 H λv2=>cn 1 v2 (.int 0 a11) λv3=>af v3 H λv4=>ag 2 a10 λv5=>af v5 H λv6=>R.1 a0 v4 v6 .ab H λo7 H8=>cR K o7 H8 λv9=>x10 a0 a1 a3 a8 a9 a10 a11 H8) (bI (cA a69 (.ofNat 4)) (ag 3 a10 λv10=>af v10 H λv11=>eP v11 λv12=>cI 0 v12 λz13=>bI (df a11 z13) (ag 3 a10 λv14=>af v14 H λv15=>aN 0 (Int.add a11 (.ofNat 1)) λrH=>nz 7 v15 (some (.int 0 a11)) (some (.int 0 rH)) none λv17=>R.2 a0 v17 H λMG oI=>cR K MG oI λv20=>x12 a0 a1 a3 a8 a9 a10 a11 oI) (x12 a0 a1 a3 a8 a9 a10 a11 H)) (ag 4 a10 λv21=>af v21 H λv22=>cn 1 v22 (.int 0 a11) λv23=>af v23 H λv24=>R.1 a0 v24 .ab .ab H λo25 Mw=>cR K o25 Mw λv27=>x10 a0 a1 a3 a8 a9 a10 a11 Mw))
theorem TT{R:cj}(hR:fZ R){K:KF}{x12 x10:dN}(h12:IE K x12)(h10:wT K x10):ID K (oB R K x12 x10):=λa0 a1 a3 a8 a9 a10 a11 a69 a88 H h=>pk hR (cc h12 (cc h10 .nil)) h
def Rm(R:cj)(K:KF)(i3:bf)(i9:dN):sQ:=oB R K (Rl R K i3 i9) (AN R K i3 i9)
theorem TU{R:cj}(hR:fZ R){K:KF}{i3:bf}{i9:dN}(g3:jk K i3)(g9:o0 K i9):ID K (Rm R K i3 i9):=TT hR (TS hR g3 g9) (xT hR g3 g9)
def GV(R:cj)(K:KF)(x3:bf)(a0 a1 a3:AV)(a8 a9:Int)(H:AH):Prop:=aN 0 (Int.add a9 (.ofNat 1)) λz1=>x3 a0 a1 a3 a8 z1 H
theorem abO{R:cj}(hR:fZ R){K:KF}{x3:bf}(h3:jk K x3):O5 K (GV R K x3):=λa0 a1 a3 a8 a9 H h=>pk hR (cc h3 .nil) h
def GW(R:cj)(K:KF)(i3:bf):bf:=GV R K i3
theorem abP{R:cj}(hR:fZ R){K:KF}{i3:bf}(g3:jk K i3):O5 K (GW R K i3):=abO hR g3
def O9(R:cj)(K:KF)(x4:bf)(a0 a1 a3:AV)(a8 a9:Int)(a10:AV)(H:AH):Prop:=ag 0 a10 λv1=>af v1 H λv2=>cI 0 v2 λz3=>bI (cA z3 (.ofNat 1)) (aI a0 (ag 0 a0 λv4=>af v4 H λv5=>ag 2 a10 λv6=>af v6 H λv7=>dw 1 16 v5 v7 H λv8 H9=>aI a0 (ag 0 a0 λv10=>ak 1 v10 v8 H9 λmF=>x4 a0 a1 a3 a8 a9 mF))) (x4 a0 a1 a3 a8 a9 H)
theorem abQ{R:cj}(hR:fZ R){K:KF}{x4:bf}(h4:O5 K x4):O7 K (O9 R K x4):=λa0 a1 a3 a8 a9 a10 H h=>pk hR (cc h4 .nil) h
def tY(R:cj)(K:KF)(i3:bf):iB:=O9 R K (GW R K i3)
theorem abR{R:cj}(hR:fZ R){K:KF}{i3:bf}(g3:jk K i3):O7 K (tY R K i3):=abQ hR (abP hR g3)
def rX(R:cj)(K:KF)(x10:dN)(x11:sQ)(x7:iB)(a0 a1 a3:AV)(a8 a9:Int)(a10:AV)(a11:Int)(H:AH):Prop:=ag 4 a10 λv1=>af v1 H λv2=>eP v2 λv3=>cI 0 v3 λz4=>bI (df a11 z4) (ag 0 a10 λv5=>af v5 H λv6=>cI 0 v6 λz7=>bI (cA z7 (.ofNat 8)) (ag 4 a10 λv8=>af v8 H λv9=>cn 1 v9 (.int 0 a11) λv10=>af v10 H λv11=>ag 3 a10 λv12=>af v12 H λv13=>R.1 a0 v11 .ab v13 H λYg iG=>cR K Yg iG λv16=>x10 a0 a1 a3 a8 a9 a10 a11 iG) (bI (cA z7 (.ofNat 6)) (x11 a0 a1 a3 a8 a9 a10 a11 z7 (cA z7 (.ofNat 6)) H) (x11 a0 a1 a3 a8 a9 a10 a11 z7 (cA z7 (.ofNat 7)) H))) (x7 a0 a1 a3 a8 a9 a10 H)
theorem abS{R:cj}(hR:fZ R){K:KF}{x10:dN}{x11:sQ}{x7:iB}(h10:wT K x10)(h11:ID K x11)(h7:O7 K x7):o0 K (rX R K x10 x11 x7):=λa0 a1 a3 a8 a9 a10 a11 H h=>pk hR (cc h10 (cc h11 (cc h7 .nil))) h
def abT(R:cj)(K:KF)(i3:bf)(i9:dN):dN:=rX R K (AN R K i3 i9) (Rm R K i3 i9) (tY R K i3)
theorem abU{R:cj}(hR:fZ R){K:KF}{i3:bf}{i9:dN}(g3:jk K i3)(g9:o0 K i9):o0 K (abT R K i3 i9):=abS hR (xT hR g3 g9) (TU hR g3 g9) (abR hR g3)
def fz(R:cj)(K:KF)(i3:bf)(n:Nat):dN:=Nat.rec (motive:=λ_=>dN) (λ_ _ _ _ _ _ _ _=>False) (λ_ i=>abT R K i3 i) n
theorem abV{R:cj}(hR:fZ R){K:KF}{i3:bf}(g3:jk K i3)(n:Nat):o0 K (fz R K i3 n):=Nat.rec (motive:=λn=>o0 K (fz R K i3 n)) (λa0 a1 a3 a8 a9 a10 a11 H h=>h.elim) (λn ih=>abU hR g3 ih) n
def rY(R:cj)(K:KF)(x9:dN)(a0 a1 a3:AV)(a8 a9:Int)(a10:AV)(H:AH):Prop:=x9 a0 a1 a3 a8 a9 a10 (.ofNat 0) H
theorem abW{R:cj}(hR:fZ R){K:KF}{x9:dN}(h9:o0 K x9):GU K (rY R K x9):=λa0 a1 a3 a8 a9 a10 H h=>pk hR (cc h9 .nil) h
def Pa(R:cj)(K:KF)(i3:bf):iB:=rY R K (fz R K i3 NL)
theorem JK{R:cj}(hR:fZ R){K:KF}{i3:bf}(g3:jk K i3):GU K (Pa R K i3):=abW hR (abV hR g3 NL)
def zR(R:cj)(K:KF)(x6:iB)(a0 a1 a3:AV)(a8 a9:Int)(a10:AV)(H:AH):Prop:=ag 3 a10 λv1=>af v1 H λv2=>R.2 a0 v2 H λo3 H4=>cR K o3 H4 λv5=>x6 a0 a1 a3 a8 a9 a10 H4
theorem abX{R:cj}(hR:fZ R){K:KF}{x6:iB}(h6:GU K x6):O8 K (zR R K x6):=λa0 a1 a3 a8 a9 a10 H h=>pk hR (cc h6 .nil) h
def abY(R:cj)(K:KF)(i3:bf):iB:=zR R K (Pa R K i3)
theorem abZ{R:cj}(hR:fZ R){K:KF}{i3:bf}(g3:jk K i3):O8 K (abY R K i3):=abX hR (JK hR g3)
def zT(R:cj)(K:KF)(x8 x6:iB)(a0 a1 a3:AV)(a8 a9:Int)(a10:AV)(H:AH):Prop:=ag 0 a10 λv1=>af v1 H λv2=>cI 0 v2 λz3=>bI (!(cA z3 (.ofNat 8))) (ag 0 a10 λv4=>af v4 H λv5=>cI 0 v5 λz6=>bI (!(cA z6 (.ofNat 4))) (x8 a0 a1 a3 a8 a9 a10 H) (x6 a0 a1 a3 a8 a9 a10 H)) (x6 a0 a1 a3 a8 a9 a10 H)
theorem ab0{R:cj}(hR:fZ R){K:KF}{x8 x6:iB}(h8:O8 K x8)(h6:GU K x6):O6 K (zT R K x8 x6):=λa0 a1 a3 a8 a9 a10 H h=>pk hR (cc h8 (cc h6 .nil)) h
def ab1(R:cj)(K:KF)(i3:bf):iB:=zT R K (abY R K i3) (Pa R K i3)
theorem ab2{R:cj}(hR:fZ R){K:KF}{i3:bf}(g3:jk K i3):O6 K (ab1 R K i3):=ab0 hR (abZ hR g3) (JK hR g3)
def GX(R:cj)(K:KF)(a0 a3:AV)(a8:Int)(H:AH):Prop:=R.2 a0 a3 H λo1 H2=>cR K o1 H2 λv3=>aI a0 (ag 0 a0 λv4=>af v4 H2 λv5=>nz 1 v5 none (some (.int 0 a8)) none λv6=>aI a0 (ag 0 a0 λv7=>ak 1 v7 v6 H2 λH8=>K (.ret (.bF [])) H8))
theorem ab3{R:cj}(hR:fZ R){K:KF}:O4 K (GX R K):=λa0 a3 a8 H h=>pk hR .nil h
def ab4(R:cj)(K:KF):aA:=GX R K
theorem ab5{R:cj}(hR:fZ R){K:KF}:O4 K (ab4 R K):=ab3 hR
def GY(R:cj)(K:KF)(x5:iB)(x2:aA)(a0 a1 a3:AV)(a8 a9:Int)(H:AH):Prop:=eP a1 λv1=>cI 0 v1 λz2=>bI (df a9 z2) (cn 5 a1 (.int 0 a9) λv3=>aZ 5 v3 H λv4=>fW H (lA (ay H) [(.int 0 (.ofNat 0)),(.int 0 (.ofNat 0)),.ab,.ab,.ab] λv5 H6=>ak 5 v5 v4 H6 λH7=>ag 0 v5 λv8=>af v8 H7 λv9=>cI 0 v9 λz10=>bI (cA z10 (.ofNat 12)) (aI a0 (ag 0 a0 λv11=>af v11 H7 λv12=>ag 2 v5 λv13=>af v13 H7 λv14=>dw 1 16 v12 v14 H7 λv15 fy=>aI a0 (ag 0 a0 λv17=>ak 1 v17 v15 fy λju=>x5 a0 a1 a3 a8 a9 v5 ju))) (x5 a0 a1 a3 a8 a9 v5 H7))) (x2 a0 a3 a8 H)
theorem ab6{R:cj}(hR:fZ R){K:KF}{x5:iB}{x2:aA}(h5:O6 K x5)(h2:O4 K x2):jk K (GY R K x5 x2):=λa0 a1 a3 a8 a9 H h=>pk hR (cc h5 (cc h2 .nil)) h
def ab7(R:cj)(K:KF)(i3:bf):bf:=GY R K (ab1 R K i3) (ab4 R K)
theorem ab8{R:cj}(hR:fZ R){K:KF}{i3:bf}(g3:jk K i3):jk K (ab7 R K i3):=ab6 hR (ab2 hR g3) (ab5 hR)
def pa(R:cj)(K:KF)(n:Nat):bf:=Nat.rec (motive:=λ_=>bf) (λ_ _ _ _ _ _=>False) (λ_ i=>ab7 R K i) n
theorem ab9{R:cj}(hR:fZ R){K:KF}(n:Nat):jk K (pa R K n):=Nat.rec (motive:=λn=>jk K (pa R K n)) (λa0 a1 a3 a8 a9 H h=>h.elim) (λn ih=>ab8 hR ih) n
def GZ(R:cj)(K:KF)(x3:bf)(a0 a1 a3:AV)(a8:Int)(H:AH):Prop:=x3 a0 a1 a3 a8 (.ofNat 0) H
theorem aca{R:cj}(hR:fZ R){K:KF}{x3:bf}(h3:jk K x3):O3 K (GZ R K x3):=λa0 a1 a3 a8 H h=>pk hR (cc h3 .nil) h
def acb(R:cj)(K:KF):ka:=GZ R K (pa R K NL)
theorem acd{R:cj}(hR:fZ R){K:KF}:O3 K (acb R K):=aca hR (ab9 hR NL)
def G0(R:cj)(K:KF)(x1:ka)(a0 a1 a2 a3:AV)(H:AH):Prop:=aI a0 (ag 0 a0 λv1=>af v1 H λv2=>eP v2 λv3=>cI 0 v3 λz4=>aI a0 (ag 0 a0 λv5=>af v5 H λv6=>dw 1 16 v6 a2 H λv7 H8=>aI a0 (ag 0 a0 λv9=>ak 1 v9 v7 H8 λdD=>x1 a0 a1 a3 z4 dD)))
theorem ace{R:cj}(hR:fZ R){K:KF}{x1:ka}(h1:O3 K x1)(a0 a1 a2 a3:AV)(H:AH)(h:G0 R K x1 a0 a1 a2 a3 H):fN 28 K [] (bL (ff 28) [a0,a1,a2,a3]) [] H:=pk hR (cc h1 .nil) h
def akZ(R:cj)(K:KF):agm:=G0 R K (acb R K)
def Kq(R:cj):AV→AV→AV→AV→AH→KF→Prop:=λa0 a1 a2 a3 H K=>akZ R K a0 a1 a2 a3 H
theorem ahZ(R:cj)(hR:fZ R):aE gPa 28 (aD [.a,.a,.a,.a] (Kq R)):=rk λK a0 a1 a2 a3 H h=>ace hR (acd hR) a0 a1 a2 a3 H h
abbrev eG:Type:=(AV→AH→KF→Prop)×(AV→AV→AH→KF→Prop)×(AV→AV→AV→AV→AH→KF→Prop)×(AV→AV→AH→KF→Prop)
def ak0(R:eG):List (Nat×eM):=[(11,aD [.a] R.1),(25,aD [.a,.a] R.2.1),(28,aD [.a,.a,.a,.a] R.2.2.1),(54,aD [.a,.a] R.2.2.2)]
abbrev lz(R:eG):Prop:=ad gPa (ak0 R)
abbrev lM(K:KF)(F:aA):Prop:=ba 54 K [0,1] 94 [0,1,4] [.a,.a,.i 0] F
abbrev Pb(K:KF)(F:aA):Prop:=ba 54 K [1,1,0,0,1] 94 [0,1,4] [.a,.a,.i 0] F
abbrev G2(K:KF)(F:aA):Prop:=ba 54 K [1,0,0,1,0,0,1] 94 [0,1,4] [.a,.a,.i 0] F
abbrev Pc(K:KF)(F:jt):Prop:=ba 54 K [0,1,1,0,0,0,1,0,0,1] 94 [0,1,4,5] [.a,.a,.i 0,.a] F
abbrev rZ(K:KF)(F:aP):Prop:=ba 54 K [0,1,1,1,0,0,1,0,0,1] 94 [0,1,4,6] [.a,.a,.i 0,.i 0] F
abbrev Pd(K:KF)(F:aP):Prop:=ba 54 K [1,1,0,0,1,1,1,0,0,1,0,0,1] 94 [0,1,4,6] [.a,.a,.i 0,.i 0] F
def G3(R:eG)(K:KF)(x1:aA)(a0 a1:AV)(a4:Int)(H:AH):Prop:=aN 0 (Int.add a4 (.ofNat 1)) λz1=>x1 a0 a1 z1 H
theorem acf{R:eG}(hR:lz R){K:KF}{x1:aA}(h1:lM K x1):Pb K (G3 R K x1):=λa0 a1 a4 H h=>pk hR (cc h1 .nil) h
def acg(R:eG)(K:KF)(i1:aA):aA:=G3 R K i1
theorem ach{R:eG}(hR:lz R){K:KF}{i1:aA}(g1:lM K i1):Pb K (acg R K i1):=acf hR g1
def G5(R:eG)(K:KF)(x5:aP)(a0 a1:AV)(a4 a6:Int)(H:AH):Prop:=aN 0 (Int.add a6 (.ofNat 1)) λz1=>x5 a0 a1 a4 z1 H
theorem aci{R:eG}(hR:lz R){K:KF}{x5:aP}(h5:rZ K x5):Pd K (G5 R K x5):=λa0 a1 a4 a6 H h=>pk hR (cc h5 .nil) h
def acj(R:eG)(K:KF)(i1:aA)(i5:aP):aP:=G5 R K i5
theorem ack{R:eG}(hR:lz R){K:KF}{i1:aA}{i5:aP}(g1:lM K i1)(g5:rZ K i5):Pd K (acj R K i1 i5):=aci hR g5
def G6(R:eG)(K:KF)(x2:aA)(x6:aP)(a0 a1:AV)(a4 a6:Int)(H:AH):Prop:=cn 7 a1 (.int 0 a4) λv1=>ag 6 v1 λv2=>af v2 H λv3=>eP v3 λv4=>cI 0 v4 λz5=>bI (df a6 z5) (cn 7 a1 (.int 0 a4) λv6=>ag 6 v6 λv7=>af v7 H λv8=>cn 2 v8 (.int 0 a6) λv9=>ag 1 v9 λv10=>af v10 H λv11=>cn 7 a1 (.int 0 a4) λv12=>ag 6 v12 λv13=>af v13 H λv14=>cn 2 v14 (.int 0 a6) λv15=>ag 0 v15 λv16=>af v16 H λv17=>R.2.2.1 a0 v11 v17 .ab H λMG oI=>cR K MG oI λv20=>x6 a0 a1 a4 a6 oI) (x2 a0 a1 a4 H)
theorem acm{R:eG}(hR:lz R){K:KF}{x2:aA}{x6:aP}(h2:Pb K x2)(h6:Pd K x6):rZ K (G6 R K x2 x6):=λa0 a1 a4 a6 H h=>pk hR (cc h2 (cc h6 .nil)) h
def acn(R:eG)(K:KF)(i1:aA)(i5:aP):aP:=G6 R K (acg R K i1) (acj R K i1 i5)
theorem aco{R:eG}(hR:lz R){K:KF}{i1:aA}{i5:aP}(g1:lM K i1)(g5:rZ K i5):rZ K (acn R K i1 i5):=acm hR (ach hR g1) (ack hR g1 g5)
def sd(R:eG)(K:KF)(i1:aA)(n:Nat):aP:=Nat.rec (motive:=λ_=>aP) (λ_ _ _ _ _=>False) (λ_ i=>acn R K i1 i) n
theorem acp{R:eG}(hR:lz R){K:KF}{i1:aA}(g1:lM K i1)(n:Nat):rZ K (sd R K i1 n):=Nat.rec (motive:=λn=>rZ K (sd R K i1 n)) (λa0 a1 a4 a6 H h=>h.elim) (λn ih=>aco hR g1 ih) n
def wU(R:eG)(K:KF)(x5:aP)(a0 a1:AV)(a4:Int)(H:AH):Prop:=cn 7 a1 (.int 0 a4) λv1=>ag 5 v1 λv2=>af v2 H λv3=>R.2.2.2 a0 v3 H λo4 H5=>cR K o4 H5 λv6=>x5 a0 a1 a4 (.ofNat 0) H5
theorem acq{R:eG}(hR:lz R){K:KF}{x5:aP}(h5:rZ K x5):G2 K (wU R K x5):=λa0 a1 a4 H h=>pk hR (cc h5 .nil) h
def Pe(R:eG)(K:KF)(i1:aA):aA:=wU R K (sd R K i1 NL)
theorem JL{R:eG}(hR:lz R){K:KF}{i1:aA}(g1:lM K i1):G2 K (Pe R K i1):=acq hR (acp hR g1 NL)
def G7(R:eG)(K:KF)(x3:aA)(a0 a1:AV)(a4:Int)(a5:AV)(H:AH):Prop:=aI a0 (ag 1 a0 λv1=>af v1 H λv2=>ag 3 a5 λv3=>af v3 H λv4=>dx H (one v4 (aX (ay H) 1 1 [v4] λv5 H6=>bT (Nat.beq H6.n (Nat.succ H.n)) (dw 1 16 v2 v5 H6 λv7 H8=>aI a0 (ag 1 a0 λv9=>ak 1 v9 v7 H8 λdD=>x3 a0 a1 a4 dD)))))
theorem acr{R:eG}(hR:lz R){K:KF}{x3:aA}(h3:G2 K x3):Pc K (G7 R K x3):=λa0 a1 a4 a5 H h=>pk hR (cc h3 .nil) h
def acs(R:eG)(K:KF)(i1:aA):jt:=G7 R K (Pe R K i1)
theorem acu{R:eG}(hR:lz R){K:KF}{i1:aA}(g1:lM K i1):Pc K (acs R K i1):=acr hR (JL hR g1)
def G8(R:eG)(K:KF)(x4:jt)(x3:aA)(a0 a1:AV)(a4:Int)(H:AH):Prop:=eP a1 λv1=>cI 0 v1 λz2=>bI (df a4 z2) (cn 7 a1 (.int 0 a4) λv3=>aZ 7 v3 H λv4=>fW H (fl gPa (ay H) 41 λv5 H6=>ak 7 v5 v4 H6 λH7=>ag 0 v5 λv8=>af v8 H7 λv9=>cI 0 v9 λz10=>bI (cA z10 (.ofNat 6)) (aI a0 (ag 0 a0 λv11=>af v11 H7 λv12=>ag 3 v5 λv13=>af v13 H7 λv14=>R.2.1 v12 v14 H7 λNz fy=>cR K Nz fy λv17=>cH v17 λXI=>bI (!XI) (ag 3 v5 λv19=>af v19 fy λv20=>R.1 v20 fy λMv lK=>cR K Mv lK λv23=>cH v23 λz24=>bI (!z24) (aI a0 (ag 1 a0 λv25=>af v25 lK λv26=>ag 3 v5 λv27=>af v27 lK λv28=>R.2.1 v26 v28 lK λXu yp=>cR K Xu yp λv31=>cH v31 λz32=>bI (!z32) (x4 a0 a1 a4 v5 yp) (x3 a0 a1 a4 yp))) (x3 a0 a1 a4 lK)) (x3 a0 a1 a4 fy))) (x3 a0 a1 a4 H7))) (K (.ret (.bF [])) H)
theorem acv{R:eG}(hR:lz R){K:KF}{x4:jt}{x3:aA}(h4:Pc K x4)(h3:G2 K x3):lM K (G8 R K x4 x3):=λa0 a1 a4 H h=>pk hR (cc h4 (cc h3 .nil)) h
def acw(R:eG)(K:KF)(i1:aA):aA:=G8 R K (acs R K i1) (Pe R K i1)
theorem acx{R:eG}(hR:lz R){K:KF}{i1:aA}(g1:lM K i1):lM K (acw R K i1):=acv hR (acu hR g1) (JL hR g1)
def nP(R:eG)(K:KF)(n:Nat):aA:=Nat.rec (motive:=λ_=>aA) (λ_ _ _ _=>False) (λ_ i=>acw R K i) n
theorem acy{R:eG}(hR:lz R){K:KF}(n:Nat):lM K (nP R K n):=Nat.rec (motive:=λn=>lM K (nP R K n)) (λa0 a1 a4 H h=>h.elim) (λn ih=>acx hR ih) n
def G9(R:eG)(K:KF)(x1:aA)(a0 a1:AV)(H:AH):Prop:=x1 a0 a1 (.ofNat 0) H
theorem acz{R:eG}(hR:lz R){K:KF}{x1:aA}(h1:lM K x1)(a0 a1:AV)(H:AH)(h:G9 R K x1 a0 a1 H):fN 54 K [] (bL (ff 54) [a0,a1]) [] H:=pk hR (cc h1 .nil) h
def ak1(R:eG)(K:KF):gi:=G9 R K (nP R K NL)
def AO(R:eG):AV→AV→AH→KF→Prop:=λa0 a1 H K=>ak1 R K a0 a1 H
theorem ah0(R:eG)(hR:lz R):aE gPa 54 (aD [.a,.a] (AO R)):=rk λK a0 a1 H h=>acz hR (acy hR NL) a0 a1 H h
abbrev TV:Type:=(AV→AV→AV→AV→AH→KF→Prop)×(AV→AV→AH→KF→Prop)
def Hc(S:TV):cj:=(S.1,S.2)
def Hd(S:TV):eG:=(f11,f25,S.1,S.2)
noncomputable def s13(n:Nat):TV:=Nat.rec (motive:=λ_=>TV) (λ_ _ _ _ _ _=>False,λ_ _ _ _=>False) (λ_ S=>(Kq (Hc S),AO (Hd S))) n
theorem anp{F:AV→AH→KF→Prop}{A:AV→AV→AV→AV→AH→KF→Prop}{B:AV→AV→AH→KF→Prop}(h1:aE gPa 11 (aD [.a] F))(h2:aE gPa 28 (aD [.a,.a,.a,.a] A))(h3:aE gPa 54 (aD [.a,.a] B)):aE gPa 54 (aD [.a,.a] (AO (F,f25,A,B))):=ah0 (F,f25,A,B) (ad.cons h1 (ad.cons Fy (ad.cons h2 (ad.cons h3 ad.nil))))
theorem agy(n:Nat):s13 (n+1)=(Kq (Hc (s13 n)),AO (Hd (s13 n))):=by kernel_rfl
theorem ak2(n:Nat):aE gPa 28 (aD [.a,.a,.a,.a] (s13 n).1)∧aE gPa 54 (aD [.a,.a] (s13 n).2):=by
 induction n with
 |zero=>exact⟨hN [.a,.a,.a,.a],hN [.a,.a]⟩
 |succ n ih=>
  rw[agy];unfold Hd;refine⟨ahZ (Hc (s13 n)) (ad.cons (ih.1) (ad.cons (ih.2) ad.nil)),?_⟩;exact anp akX ih.1 ih.2
def f28:AV→AV→AV→AV→AH→KF→Prop:=(s13 NL).1
theorem ak3:aE gPa 28 (aD [.a,.a,.a,.a] f28):=(ak2 NL).1
abbrev uY:Type:=(AV→AV→AV→AV→AH→KF→Prop)
def ak4(R:uY):List (Nat×eM):=[(28,aD [.a,.a,.a,.a] R)]
abbrev agz(R:uY):Prop:=ad gPa (ak4 R)
def He(R:uY)(K:KF)(a0:AV)(H:AH):Prop:=vd (ay H) a0 λv1 H2=>lA (ay H2) [.ab,.ab] λv3 H4=>ag 1 v1 λv5=>af v5 H4 λv6=>ag 0 v1 λv7=>af v7 H4 λv8=>R v3 v6 v8 .ab H4 λo9 dD=>cR K o9 dD λv11=>aI v3 (ag 1 v3 λv12=>af v12 dD λv13=>K (.ret v13) dD)
theorem acA{R:uY}(hR:agz R){K:KF}(a0:AV)(H:AH)(h:He R K a0 H):fN 15 K [] (bL (ff 15) [a0]) [] H:=pk hR .nil h
def ak5(R:uY)(K:KF):Ta:=He R K
def agA(R:uY):AV→AH→KF→Prop:=λa0 H K=>ak5 R K a0 H
theorem ah1(R:uY)(hR:agz R):aE gPa 15 (aD [.a] (agA R)):=rk λK a0 H h=>acA hR a0 H h
def acB:uY:=(f28)
def f15:AV→AH→KF→Prop:=agA acB
theorem ak6:aE gPa 15 (aD [.a] f15):=ah1 acB (ad.cons ak3 ad.nil)
abbrev kC:Type:=(AH→KF→Prop)×(AV→AH→KF→Prop)×(AV→AH→KF→Prop)×(AV→AV→AH→KF→Prop)×(AV→AH→KF→Prop)×(AV→AH→KF→Prop)
def amh(R:kC):List (Nat×eM):=[(6,aD [] R.1),(7,aD [.a] R.2.1),(12,aD [.a] R.2.2.1),(13,aD [.a,.a] R.2.2.2.1),(14,aD [.a] R.2.2.2.2.1),(15,aD [.a] R.2.2.2.2.2)]
abbrev xU(R:kC):Prop:=ad gPa (amh R)
abbrev TW(K:KF)(F:T_):Prop:=ba 4 K [1,1,1,1,1,1] 42 [] [] F
abbrev uZ(K:KF)(F:dP):Prop:=ba 4 K [0,1,0,1,1,1,1,1] 42 [6,7] [.a,.i 0] F
abbrev TX(K:KF)(F:dP):Prop:=ba 4 K [1,1,0,0,1,0,1,1,1,1,1] 42 [6,7] [.a,.i 0] F
def Kr(R:kC)(K:KF)(x2:dP)(a6:AV)(a7:Int)(H:AH):Prop:=aN 0 (Int.add a7 (.ofNat 1)) λz1=>x2 a6 z1 H
theorem aeY{R:kC}(hR:xU R){K:KF}{x2:dP}(h2:uZ K x2):TX K (Kr R K x2):=λa6 a7 H h=>pk hR (cc h2 .nil) h
def agB(R:kC)(K:KF)(i2:dP):dP:=Kr R K i2
theorem aeZ{R:kC}(hR:xU R){K:KF}{i2:dP}(g2:uZ K i2):TX K (agB R K i2):=aeY hR g2
def Ks(R:kC)(K:KF)(H:AH):Prop:=R.1  H λo1 H2=>cR K o1 H2 λv3=>cH v3 λz4=>K (.ret (.bool z4)) H2
theorem ae0{R:kC}(hR:xU R){K:KF}:TW K (Ks R K):=λH h=>pk hR .nil h
def agC(R:kC)(K:KF):T_:=Ks R K
theorem ae1{R:kC}(hR:xU R){K:KF}:TW K (agC R K):=ae0 hR
def Kt(R:kC)(K:KF)(x3:dP)(x1:T_)(a6:AV)(a7:Int)(H:AH):Prop:=eP a6 λv1=>cI 0 v1 λz2=>bI (df a7 z2) (cn 2 a6 (.int 0 a7) λv3=>aZ 2 v3 H λv4=>cn 2 a6 (.int 0 a7) λv5=>aZ 2 v5 H λv6=>R.2.2.2.2.1 v4 H λo7 H8=>cR K o7 H8 λv9=>aZ 2 v5 H8 λv10=>bT (bw v10 v6) (R.2.2.2.2.2 v6 H8 λmG bS=>cR K mG bS λv13=>R.2.2.2.1 v9 v13 bS λYg iG=>cR K Yg iG λv16=>cH v16 λz17=>bI (!z17) (K (.ret (.bool false)) iG) (x3 a6 a7 iG))) (x1 H)
theorem ae2{R:kC}(hR:xU R){K:KF}{x3:dP}{x1:T_}(h3:TX K x3)(h1:TW K x1):uZ K (Kt R K x3 x1):=λa6 a7 H h=>pk hR (cc h3 (cc h1 .nil)) h
def agD(R:kC)(K:KF)(i2:dP):dP:=Kt R K (agB R K i2) (agC R K)
theorem ae3{R:kC}(hR:xU R){K:KF}{i2:dP}(g2:uZ K i2):uZ K (agD R K i2):=ae2 hR (aeZ hR g2) (ae1 hR)
def AP(R:kC)(K:KF)(n:Nat):dP:=Nat.rec (motive:=λ_=>dP) (λ_ _ _=>False) (λ_ i=>agD R K i) n
theorem ae4{R:kC}(hR:xU R){K:KF}(n:Nat):uZ K (AP R K n):=Nat.rec (motive:=λn=>uZ K (AP R K n)) (λa6 a7 H h=>h.elim) (λn ih=>ae3 hR ih) n
def Ku(R:kC)(K:KF)(x2:dP)(a0:AV)(H:AH):Prop:=sLen a0 λv1=>cI 0 v1 λz2=>bI (df (.ofNat 1500) z2) (R.1  H λo3 H4=>cR K o3 H4 λv5=>cH v5 λz6=>K (.ret (.bool z6)) H4) (R.2.1 a0 H λo7 H8=>cR K o7 H8 λv9=>na v9 λl10=>jd l10 0 λv11=>na v9 λl12=>jd l12 1 λv13=>cI 0 v13 λEM=>na v9 λl15=>jd l15 2 λv16=>cI 0 v16 λz17=>bI (!(cA EM (.ofNat 0))) (R.1  H8 λMG oI=>cR K MG oI λv20=>cH v20 λz21=>K (.ret (.bool z21)) oI) (R.2.2.1 v11 H8 λo22 yo=>cR K o22 yo λv24=>x2 v24 (.ofNat 0) yo))
theorem ae5{R:kC}(hR:xU R){K:KF}{x2:dP}(h2:uZ K x2)(a0:AV)(H:AH)(h:Ku R K x2 a0 H):fN 4 K [] (bL (ff 4) [a0]) [] H:=pk hR (cc h2 .nil) h
def ami(R:kC)(K:KF):Ta:=Ku R K (AP R K NL)
def ak7(R:kC):AV→AH→KF→Prop:=λa0 H K=>ami R K a0 H
theorem ak8(R:kC)(hR:xU R):aE gPa 4 (aD [.a] (ak7 R)):=rk λK a0 H h=>ae5 hR (ae4 hR NL) a0 H h
abbrev ia:Type:=AV→AV→Int→Int→Int→AH→Prop
abbrev jF:Type:=AV→Int→Int→Int→Int→AH→Prop
abbrev cw:Type:=Unit
def ak9(R:cw):List (Nat×eM):=[]
abbrev ga(R:cw):Prop:=ad gPa (ak9 R)
abbrev Pf(K:KF)(F:j2):Prop:=ba 24 K [1,1,1,1,1] 106 [0,3,5] [.a,.i 0,.i 1] F
abbrev se(K:KF)(F:jF):Prop:=ba 24 K [0,1,0,1,1,1,1] 106 [0,3,4,5,6] [.a,.i 0,.i 0,.i 1,.i 0] F
abbrev Pg(K:KF)(F:aP):Prop:=ba 24 K [1,1,1,1,1,1,1,1,1,1,1] 106 [0,9,10,12] [.a,.a,.i 0,.i 0] F
abbrev tZ(K:KF)(F:aP):Prop:=ba 24 K [0,0,1,1,1,1,1,1,1,1,1,1] 106 [0,9,10,12] [.a,.a,.i 0,.i 0] F
abbrev Ph(K:KF)(F:aP):Prop:=ba 24 K [1,1,1,1,1,1,1,1,1,1,1,1,1] 106 [0,9,10,11] [.a,.a,.i 0,.i 0] F
abbrev mK(K:KF)(F:ia):Prop:=ba 24 K [0,0,1,1,1,1,1,1,1,1,1,1,1,1] 106 [0,9,10,11,12] [.a,.a,.i 0,.i 0,.i 0] F
abbrev Pj(K:KF)(F:Ta):Prop:=ba 24 K [1,1,1,1,1,1,1,1,1,1,1,1,1,1] 106 [9] [.a] F
abbrev Pk(K:KF)(F:jF):Prop:=ba 24 K [1,1,1,1,0,0,1,0,0,1,0,1,1,1,1] 106 [0,3,5,6,8] [.a,.i 0,.i 1,.i 0,.i 0] F
abbrev Pl(K:KF)(F:aP):Prop:=ba 24 K [1,1,1,0,1,0,0,0,1,1,1,1,1,1,1,1,1,1,1,1] 106 [0,9,10,12] [.a,.a,.i 0,.i 0] F
abbrev IF(K:KF)(F:aP):Prop:=ba 24 K [1,1,1,1,1,0,1,0,0,0,1,1,1,1,1,1,1,1,1,1,1,1] 106 [0,9,10,12] [.a,.a,.i 0,.i 0] F
abbrev qR(K:KF)(F:aP):Prop:=ba 24 K [0,0,1,1,1,1,0,1,0,0,0,1,1,1,1,1,1,1,1,1,1,1,1] 106 [0,9,10,12] [.a,.a,.i 0,.i 0] F
def acC(R:cw)(K:KF)(x2:jF)(a0:AV)(a3 a5 a6 a8:Int)(H:AH):Prop:=aN 0 (Int.add a6 (.ofNat 1)) λz1=>x2 a0 a3 a8 a5 z1 H
theorem acD{R:cw}(hR:ga R){K:KF}{x2:jF}(h2:se K x2):Pk K (acC R K x2):=λa0 a3 a5 a6 a8 H h=>pk hR (cc h2 .nil) h
def acE(R:cw)(K:KF)(i2:jF):jF:=acC R K i2
theorem acF{R:cw}(hR:ga R){K:KF}{i2:jF}(g2:se K i2):Pk K (acE R K i2):=acD hR g2
def Rn(R:cw)(K:KF)(x6:ia)(a0 a9:AV)(a10 a12:Int)(H:AH):Prop:=x6 a0 a9 a10 a12 a12 H
theorem TY{R:cw}(hR:ga R){K:KF}{x6:ia}(h6:mK K x6):IF K (Rn R K x6):=λa0 a9 a10 a12 H h=>pk hR (cc h6 .nil) h
def Ro(R:cw)(K:KF)(i6:ia):aP:=Rn R K i6
theorem TZ{R:cw}(hR:ga R){K:KF}{i6:ia}(g6:mK K i6):IF K (Ro R K i6):=TY hR g6
def Rq(R:cw)(K:KF)(x11 x10:aP)(a0 a9:AV)(a10 a12:Int)(H:AH):Prop:=sLen a0 λv1=>cI 0 v1 λz2=>bI (df a12 z2) (gC a0 (.int 0 a12) λv3=>cI 1 v3 λz4=>Ad 256 1 (.ptr 0 0) (.int 1 z4) λv5=>af v5 H λv6=>cI 1 v6 λz7=>bI (!(cA z7 (.ofNat 0))) (aN 0 (Int.add a12 (.ofNat 1)) λz8=>x11 a0 a9 a10 z8 H) (x10 a0 a9 a10 a12 H)) (x10 a0 a9 a10 a12 H)
theorem T0{R:cw}(hR:ga R){K:KF}{x11 x10:aP}(h11:qR K x11)(h10:IF K x10):qR K (Rq R K x11 x10):=λa0 a9 a10 a12 H h=>pk hR (cc h11 (cc h10 .nil)) h
def Rr(R:cw)(K:KF)(i6:ia)(i11:aP):aP:=Rq R K i11 (Ro R K i6)
theorem T5{R:cw}(hR:ga R){K:KF}{i6:ia}{i11:aP}(g6:mK K i6)(g11:qR K i11):qR K (Rr R K i6 i11):=T0 hR g11 (TZ hR g6)
def IG(R:cw)(K:KF)(i6:ia)(n:Nat):aP:=Nat.rec (motive:=λ_=>aP) (λ_ _ _ _ _=>False) (λ_ i=>Rr R K i6 i) n
theorem T6{R:cw}(hR:ga R){K:KF}{i6:ia}(g6:mK K i6)(n:Nat):qR K (IG R K i6 n):=Nat.rec (motive:=λn=>qR K (IG R K i6 n)) (λa0 a9 a10 a12 H h=>h.elim) (λn ih=>T5 hR g6 ih) n
def acG(R:cw)(K:KF)(x11:aP)(a0 a9:AV)(a10 a12:Int)(H:AH):Prop:=aN 0 (Int.add a12 (.ofNat 1)) λz1=>x11 a0 a9 a10 z1 H
theorem acH{R:cw}(hR:ga R){K:KF}{x11:aP}(h11:qR K x11):Pl K (acG R K x11):=λa0 a9 a10 a12 H h=>pk hR (cc h11 .nil) h
def acI(R:cw)(K:KF)(i6:ia):aP:=acG R K (IG R K i6 NL)
theorem acJ{R:cw}(hR:ga R){K:KF}{i6:ia}(g6:mK K i6):Pl K (acI R K i6):=acH hR (T6 hR g6 NL)
def acK(R:cw)(K:KF)(a9:AV)(H:AH):Prop:=K (.ret a9) H
theorem acL{R:cw}(hR:ga R){K:KF}:Pj K (acK R K):=λa9 H h=>pk hR .nil h
def acM(R:cw)(K:KF):Ta:=acK R K
theorem acN{R:cw}(hR:ga R){K:KF}:Pj K (acM R K):=acL hR
def acO(R:cw)(K:KF)(x7:Ta)(a0 a9:AV)(a10 a11:Int)(H:AH):Prop:=sLen a0 λv1=>cI 0 v1 λz2=>bI (df a11 z2) (lB a0 (some (.int 0 a11)) none λv3=>cn 1 a9 (.int 0 a10) λv4=>ak 1 v4 v3 H λH5=>x7 a9 H5) (x7 a9 H)
theorem acP{R:cw}(hR:ga R){K:KF}{x7:Ta}(h7:Pj K x7):Ph K (acO R K x7):=λa0 a9 a10 a11 H h=>pk hR (cc h7 .nil) h
def acQ(R:cw)(K:KF):aP:=acO R K (acM R K)
theorem acR{R:cw}(hR:ga R){K:KF}:Ph K (acQ R K):=acP hR (acN hR)
def acS(R:cw)(K:KF)(x6:ia)(x9 x5:aP)(a0 a9:AV)(a10 a11 a12:Int)(H:AH):Prop:=sLen a0 λv1=>cI 0 v1 λz2=>bI (df a12 z2) (gC a0 (.int 0 a12) λv3=>cI 1 v3 λz4=>Ad 256 1 (.ptr 0 0) (.int 1 z4) λv5=>af v5 H λv6=>cI 1 v6 λz7=>bI (cA z7 (.ofNat 0)) (aN 0 (Int.add a12 (.ofNat 1)) λz8=>x6 a0 a9 a10 a11 z8 H) (lB a0 (some (.int 0 a11)) (some (.int 0 a12)) λv9=>cn 1 a9 (.int 0 a10) λv10=>ak 1 v10 v9 H λmF=>aN 0 (Int.add a10 (.ofNat 1)) λz12=>x9 a0 a9 z12 a12 mF)) (x5 a0 a9 a10 a11 H)
theorem acT{R:cw}(hR:ga R){K:KF}{x6:ia}{x9 x5:aP}(h6:mK K x6)(h9:Pl K x9)(h5:Ph K x5):mK K (acS R K x6 x9 x5):=λa0 a9 a10 a11 a12 H h=>pk hR (cc h6 (cc h9 (cc h5 .nil))) h
def acU(R:cw)(K:KF)(i6:ia):ia:=acS R K i6 (acI R K i6) (acQ R K)
theorem acV{R:cw}(hR:ga R){K:KF}{i6:ia}(g6:mK K i6):mK K (acU R K i6):=acT hR g6 (acJ hR g6) (acR hR)
def Pm(R:cw)(K:KF)(n:Nat):ia:=Nat.rec (motive:=λ_=>ia) (λ_ _ _ _ _ _=>False) (λ_ i=>acU R K i) n
theorem acW{R:cw}(hR:ga R){K:KF}(n:Nat):mK K (Pm R K n):=Nat.rec (motive:=λn=>mK K (Pm R K n)) (λa0 a9 a10 a11 a12 H h=>h.elim) (λn ih=>acV hR ih) n
def acX(R:cw)(K:KF)(x6:ia)(a0 a9:AV)(a10 a12:Int)(H:AH):Prop:=x6 a0 a9 a10 a12 a12 H
theorem acY{R:cw}(hR:ga R){K:KF}{x6:ia}(h6:mK K x6):Pg K (acX R K x6):=λa0 a9 a10 a12 H h=>pk hR (cc h6 .nil) h
def acZ(R:cw)(K:KF):aP:=acX R K (Pm R K NL)
theorem ac0{R:cw}(hR:ga R){K:KF}:Pg K (acZ R K):=acY hR (acW hR NL)
def ac1(R:cw)(K:KF)(x4 x3:aP)(a0 a9:AV)(a10 a12:Int)(H:AH):Prop:=sLen a0 λv1=>cI 0 v1 λz2=>bI (df a12 z2) (gC a0 (.int 0 a12) λv3=>cI 1 v3 λz4=>Ad 256 1 (.ptr 0 0) (.int 1 z4) λv5=>af v5 H λv6=>cI 1 v6 λz7=>bI (!(cA z7 (.ofNat 0))) (aN 0 (Int.add a12 (.ofNat 1)) λz8=>x4 a0 a9 a10 z8 H) (x3 a0 a9 a10 a12 H)) (x3 a0 a9 a10 a12 H)
theorem ac2{R:cw}(hR:ga R){K:KF}{x4 x3:aP}(h4:tZ K x4)(h3:Pg K x3):tZ K (ac1 R K x4 x3):=λa0 a9 a10 a12 H h=>pk hR (cc h4 (cc h3 .nil)) h
def ac3(R:cw)(K:KF)(i4:aP):aP:=ac1 R K i4 (acZ R K)
theorem ac4{R:cw}(hR:ga R){K:KF}{i4:aP}(g4:tZ K i4):tZ K (ac3 R K i4):=ac2 hR g4 (ac0 hR)
def Pn(R:cw)(K:KF)(n:Nat):aP:=Nat.rec (motive:=λ_=>aP) (λ_ _ _ _ _=>False) (λ_ i=>ac3 R K i) n
theorem ac5{R:cw}(hR:ga R){K:KF}(n:Nat):tZ K (Pn R K n):=Nat.rec (motive:=λn=>tZ K (Pn R K n)) (λa0 a9 a10 a12 H h=>h.elim) (λn ih=>ac4 hR ih) n
def ac6(R:cw)(K:KF)(x4:aP)(a0:AV)(a3 a5:Int)(H:AH):Prop:=bI (!(df a5 (.ofNat 128))) (False) (fW H (UB (ay H) 1 16 [(.str 0 0)] (.int 0 a3) (.int 0 a3) λv4 H5=>x4 a0 v4 (.ofNat 0) (.ofNat 0) H5))
theorem ac7{R:cw}(hR:ga R){K:KF}{x4:aP}(h4:tZ K x4):Pf K (ac6 R K x4):=λa0 a3 a5 H h=>pk hR (cc h4 .nil) h
def ac8(R:cw)(K:KF):j2:=ac6 R K (Pn R K NL)
theorem ac9{R:cw}(hR:ga R){K:KF}:Pf K (ac8 R K):=ac7 hR (ac5 hR NL)
def ada(R:cw)(K:KF)(x8:jF)(x1:j2)(a0:AV)(a3 a4 a5 a6:Int)(H:AH):Prop:=sLen a0 λv1=>cI 0 v1 λz2=>bI (df a6 z2) (gC a0 (.int 0 a6) λv3=>cI 1 v3 λz4=>aB (mz 1 a5) λu5=>aB (mz 1 z4) λu6=>aN 1 (.ofNat (Nat.lor u5 u6)) λz7=>Ad 256 1 (.ptr 0 0) (.int 1 z4) λv8=>af v8 H λv9=>cI 1 v9 λz10=>aN 0 z10 λz11=>px 0 (.int 0 (.negSucc 0)) (.int 0 z11) λv12=>cI 0 v12 λz13=>aB (mz 0 a4) λu14=>aB (mz 0 z13) λu15=>aN 0 (.ofNat (Nat.land u14 u15)) λrH=>aN 0 (Int.add a3 rH) λz17=>x8 a0 z17 z7 a6 z11 H) (x1 a0 a3 a5 H)
theorem adb{R:cw}(hR:ga R){K:KF}{x8:jF}{x1:j2}(h8:Pk K x8)(h1:Pf K x1):se K (ada R K x8 x1):=λa0 a3 a4 a5 a6 H h=>pk hR (cc h8 (cc h1 .nil)) h
def ade(R:cw)(K:KF)(i2:jF):jF:=ada R K (acE R K i2) (ac8 R K)
theorem adf{R:cw}(hR:ga R){K:KF}{i2:jF}(g2:se K i2):se K (ade R K i2):=adb hR (acF hR g2) (ac9 hR)
def Po(R:cw)(K:KF)(n:Nat):jF:=Nat.rec (motive:=λ_=>jF) (λ_ _ _ _ _ _=>False) (λ_ i=>ade R K i) n
theorem adg{R:cw}(hR:ga R){K:KF}(n:Nat):se K (Po R K n):=Nat.rec (motive:=λn=>se K (Po R K n)) (λa0 a3 a4 a5 a6 H h=>h.elim) (λn ih=>adf hR ih) n
def adh(R:cw)(K:KF)(x2:jF)(a0:AV)(H:AH):Prop:=x2 a0 (.ofNat 0) (.ofNat 1) (.ofNat 0) (.ofNat 0) H
theorem adi{R:cw}(hR:ga R){K:KF}{x2:jF}(h2:se K x2)(a0:AV)(H:AH)(h:adh R K x2 a0 H):fN 24 K [] (bL (ff 24) [a0]) [] H:=pk hR (cc h2 .nil) h
def ala(R:cw)(K:KF):Ta:=adh R K (Po R K NL)
def agE(R:cw):AV→AH→KF→Prop:=λa0 H K=>ala R K a0 H
theorem ah2(R:cw)(hR:ga R):aE gPa 24 (aD [.a] (agE R)):=rk λK a0 H h=>adi hR (adg hR NL) a0 H h
def adj:cw:=()
def f24:AV→AH→KF→Prop:=agE adj
theorem alb:aE gPa 24 (aD [.a] f24):=ah2 adj ad.nil
end Go.Proofs.YtcedghechlgecaaDoor.G
