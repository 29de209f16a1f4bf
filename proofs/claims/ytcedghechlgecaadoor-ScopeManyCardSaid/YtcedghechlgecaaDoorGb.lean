/- The functions of the lexer of the document and of Scope, by program. No condition. -/
import Derived.Test.YtcedghechlgecaaDoorGa
set_option maxRecDepth 100000
set_option maxHeartbeats 0
set_option linter.unusedVariables false
set_option linter.unusedSimpArgs false
namespace Go.Proofs.YtcedghechlgecaaDoor.G
open Go Go.X
abbrev T_:Type:=AH→Prop
abbrev lf:Type:=AV→AV→AV→Int→AH→Prop
abbrev wI:Type:=AV→AV→Int→AV→AV→Int→Bool→AH→Prop
abbrev kD:Type:=AV→AV→Int→AV→Int→AH→Prop
abbrev di:Type:=AV→Int→AV→Int→AH→Prop
abbrev za:Type:=AV→Int→AV→Int→Int→Bool→AH→Prop
abbrev Ti:Type:=Int→AH→Prop
abbrev fB:Type:=Unit
def ajA(R:fB):List (Nat×dq):=[]
abbrev mA(R:fB):Prop:=ag gPa (ajA R)
abbrev CW(K:KF)(F:Ti):Prop:=aT 29 K [1,1] 59 [1] [.i 0] F
abbrev lT(K:KF)(F:dW):Prop:=aT 29 K [0,0,1] 59 [0,1] [.a,.i 0] F
abbrev Km(K:KF)(F:dW):Prop:=aT 29 K [1,0,1,0,0,0,1] 59 [0,1] [.a,.i 0] F
abbrev Kn(K:KF)(F:dW):Prop:=aT 29 K [0,1,0,1,0,1,0,0,0,1] 59 [0,1] [.a,.i 0] F
abbrev sr(K:KF)(F:dW):Prop:=aT 29 K [0,0,0,1,0,1,0,1,0,0,0,1] 59 [0,1] [.a,.i 0] F
def CX(R:fB)(K:KF)(x5 x2:dW)(a0:AV)(a1:Int)(H:AH):Prop:=sLen a0 λv1=>cI 0 v1 λz2=>bI (cg a1 z2) (gT a0 (.int 0 a1) λv3=>cI 1 v3 λz4=>bI (!(bq z4 (.ofNat 10))) (ax 0 (Int.add a1 (.ofNat 1)) λz5=>x5 a0 z5 H) (x2 a0 a1 H)) (x2 a0 a1 H)
theorem VN{R:fB}(hR:mA R){K:KF}{x5 x2:dW}(h5:sr K x5)(h2:lT K x2):sr K (CX R K x5 x2):=λa0 a1 H h=>pk hR (cc h5 (cc h2 .nil)) h
def VO(R:fB)(K:KF)(i2 i5:dW):dW:=CX R K i5 i2
theorem VP{R:fB}(hR:mA R){K:KF}{i2 i5:dW}(g2:lT K i2)(g5:sr K i5):sr K (VO R K i2 i5):=VN hR g5 g2
def u9(R:fB)(K:KF)(i2:dW)(n:Nat):dW:=Nat.rec (motive:=λ_=>dW) (λ_ _ _=>False) (λ_ i=>VO R K i2 i) n
theorem VQ{R:fB}(hR:mA R){K:KF}{i2:dW}(g2:lT K i2)(n:Nat):sr K (u9 R K i2 n):=Nat.rec (motive:=λn=>sr K (u9 R K i2 n)) (λa0 a1 H h=>h.elim) (λn ih=>VP hR g2 ih) n
def CY(R:fB)(K:KF)(x5:dW)(a0:AV)(a1:Int)(H:AH):Prop:=x5 a0 a1 H
theorem VS{R:fB}(hR:mA R){K:KF}{x5:dW}(h5:sr K x5):Kn K (CY R K x5):=λa0 a1 H h=>pk hR (cc h5 .nil) h
def Ko(R:fB)(K:KF)(i2:dW):dW:=CY R K (u9 R K i2 NL)
theorem VT{R:fB}(hR:mA R){K:KF}{i2:dW}(g2:lT K i2):Kn K (Ko R K i2):=VS hR (VQ hR g2 NL)
def ss(R:fB)(K:KF)(a1:Int)(H:AH):Prop:=K (.ret (.int 0 a1)) H
theorem VU{R:fB}(hR:mA R){K:KF}:CW K (ss R K):=λa1 H h=>pk hR .nil h
def va(R:fB)(K:KF):Ti:=ss R K
theorem GC{R:fB}(hR:mA R){K:KF}:CW K (va R K):=VU hR
def vc(R:fB)(K:KF)(x4:dW)(x1:Ti)(a0:AV)(a1:Int)(H:AH):Prop:=ax 0 (Int.add a1 (.ofNat 1)) λz1=>sLen a0 λv2=>cI 0 v2 λz3=>bI (cg z1 z3) (ax 0 (Int.add a1 (.ofNat 2)) λz4=>lr a0 (some (.int 0 a1)) (some (.int 0 z4)) λv5=>ux v5 (.str 2 11565) λv6=>bS v6 λz7=>bI z7 (x4 a0 a1 H) (x1 a1 H)) (x1 a1 H)
theorem VV{R:fB}(hR:mA R){K:KF}{x4:dW}{x1:Ti}(h4:Kn K x4)(h1:CW K x1):Km K (vc R K x4 x1):=λa0 a1 H h=>pk hR (cc h4 (cc h1 .nil)) h
def vd(R:fB)(K:KF)(i2:dW):dW:=vc R K (Ko R K i2) (va R K)
theorem VW{R:fB}(hR:mA R){K:KF}{i2:dW}(g2:lT K i2):Km K (vd R K i2):=VV hR (VT hR g2) (GC hR)
def qB(R:fB)(K:KF)(x2 x3:dW)(x1:Ti)(a0:AV)(a1:Int)(H:AH):Prop:=sLen a0 λv1=>cI 0 v1 λz2=>bI (cg a1 z2) (gT a0 (.int 0 a1) λv3=>cI 1 v3 λz4=>bI (bq z4 (.ofNat 32)) (ax 0 (Int.add a1 (.ofNat 1)) λz5=>x2 a0 z5 H) (gT a0 (.int 0 a1) λv6=>cI 1 v6 λz7=>bI (bq z7 (.ofNat 9)) (ax 0 (Int.add a1 (.ofNat 1)) λz8=>x2 a0 z8 H) (gT a0 (.int 0 a1) λv9=>cI 1 v9 λz10=>bI (bq z10 (.ofNat 10)) (ax 0 (Int.add a1 (.ofNat 1)) λz11=>x2 a0 z11 H) (gT a0 (.int 0 a1) λv12=>cI 1 v12 λz13=>bI (bq z13 (.ofNat 13)) (ax 0 (Int.add a1 (.ofNat 1)) λnM=>x2 a0 nM H) (x3 a0 a1 H))))) (x1 a1 H)
theorem VX{R:fB}(hR:mA R){K:KF}{x2 x3:dW}{x1:Ti}(h2:lT K x2)(h3:Km K x3)(h1:CW K x1):lT K (qB R K x2 x3 x1):=λa0 a1 H h=>pk hR (cc h2 (cc h3 (cc h1 .nil))) h
def VY(R:fB)(K:KF)(i2:dW):dW:=qB R K i2 (vd R K i2) (va R K)
theorem VZ{R:fB}(hR:mA R){K:KF}{i2:dW}(g2:lT K i2):lT K (VY R K i2):=VX hR g2 (VW hR g2) (GC hR)
def eG(R:fB)(K:KF)(n:Nat):dW:=Nat.rec (motive:=λ_=>dW) (λ_ _ _=>False) (λ_ i=>VY R K i) n
theorem V0{R:fB}(hR:mA R){K:KF}(n:Nat):lT K (eG R K n):=Nat.rec (motive:=λn=>lT K (eG R K n)) (λa0 a1 H h=>h.elim) (λn ih=>VZ hR ih) n
def ve(R:fB)(K:KF)(x2:dW)(a0:AV)(a1:Int)(H:AH):Prop:=x2 a0 a1 H
theorem V2{R:fB}(hR:mA R){K:KF}{x2:dW}(h2:lT K x2)(a0:AV)(a1:Int)(H:AH)(h:ve R K x2 a0 a1 H):fb 29 K [] (bD (eD 29) [a0,(.int 0 a1)]) [] H:=pk hR (cc h2 .nil) h
def ajB(R:fB)(K:KF):dW:=ve R K (eG R K NL)
def ae8(R:fB):AV→Int→AH→KF→Prop:=λa0 a1 H K=>ajB R K a0 a1 H
theorem agW(R:fB)(hR:mA R):aC gPa 29 (aw [.a,.i 0] (ae8 R)):=rk λK a0 a1 H h=>V2 hR (V0 hR NL) a0 a1 H h
def bV:fB:=()
def f29:AV→Int→AH→KF→Prop:=ae8 bV
theorem ajC:aC gPa 29 (aw [.a,.i 0] f29):=agW bV ag.nil
abbrev tw:Type:=Unit
def ajD(R:tw):List (Nat×dq):=[]
abbrev ae9(R:tw):Prop:=ag gPa (ajD R)
def CZ(R:tw)(K:KF)(a0:Int)(H:AH):Prop:=bI (!(cg a0 (.ofNat 97))) (bI (!(cg (.ofNat 122) a0)) (K (.ret (.bool true)) H) (bI (!(cg a0 (.ofNat 65))) (bI (!(cg (.ofNat 90) a0)) (K (.ret (.bool true)) H) (K (.ret (.bool (bq a0 (.ofNat 95)))) H)) (K (.ret (.bool (bq a0 (.ofNat 95)))) H))) (bI (!(cg a0 (.ofNat 65))) (bI (!(cg (.ofNat 90) a0)) (K (.ret (.bool true)) H) (K (.ret (.bool (bq a0 (.ofNat 95)))) H)) (K (.ret (.bool (bq a0 (.ofNat 95)))) H))
theorem V3{R:tw}(hR:ae9 R){K:KF}(a0:Int)(H:AH)(h:CZ R K a0 H):fb 31 K [] (bD (eD 31) [(.int 1 a0)]) [] H:=pk hR .nil h
def ajE(R:tw)(K:KF):Ti:=CZ R K
def afa(R:tw):Int→AH→KF→Prop:=λa0 H K=>ajE R K a0 H
theorem agX(R:tw)(hR:ae9 R):aC gPa 31 (aw [.i 1] (afa R)):=rk λK a0 H h=>V3 hR a0 H h
def Kp:tw:=()
def f31:Int→AH→KF→Prop:=afa Kp
theorem V4:aC gPa 31 (aw [.i 1] f31):=agX Kp ag.nil
abbrev tz:Type:=Unit
def ajF(R:tz):List (Nat×dq):=[]
abbrev afb(R:tz):Prop:=ag gPa (ajF R)
def C0(R:tz)(K:KF)(a0:Int)(H:AH):Prop:=bI (!(cg a0 (.ofNat 48))) (K (.ret (.bool (!(cg (.ofNat 57) a0)))) H) (K (.ret (.bool false)) H)
theorem V5{R:tz}(hR:afb R){K:KF}(a0:Int)(H:AH)(h:C0 R K a0 H):fb 33 K [] (bD (eD 33) [(.int 1 a0)]) [] H:=pk hR .nil h
def ajG(R:tz)(K:KF):Ti:=C0 R K
def afc(R:tz):Int→AH→KF→Prop:=λa0 H K=>ajG R K a0 H
theorem agY(R:tz)(hR:afb R):aC gPa 33 (aw [.i 1] (afc R)):=rk λK a0 H h=>V5 hR a0 H h
def Kq:tz:=()
def f33:Int→AH→KF→Prop:=afc Kq
theorem C5:aC gPa 33 (aw [.i 1] f33):=agY Kq ag.nil
abbrev j2:Type:=(Int→AH→KF→Prop)×(Int→AH→KF→Prop)
def ajH(R:j2):List (Nat×dq):=[(31,aw [.i 1] R.1),(33,aw [.i 1] R.2)]
abbrev wJ(R:j2):Prop:=ag gPa (ajH R)
abbrev Kr(K:KF)(F:Ti):Prop:=aT 30 K [1,1] 24 [1] [.i 0] F
abbrev sv(K:KF)(F:dW):Prop:=aT 30 K [0,0,1] 24 [0,1] [.a,.i 0] F
def C6(R:j2)(K:KF)(a1:Int)(H:AH):Prop:=K (.ret (.int 0 a1)) H
theorem V6{R:j2}(hR:wJ R){K:KF}:Kr K (C6 R K):=λa1 H h=>pk hR .nil h
def V7(R:j2)(K:KF):Ti:=C6 R K
theorem V8{R:j2}(hR:wJ R){K:KF}:Kr K (V7 R K):=V6 hR
def C7(R:j2)(K:KF)(x2:dW)(x1:Ti)(a0:AV)(a1:Int)(H:AH):Prop:=sLen a0 λv1=>cI 0 v1 λz2=>bI (cg a1 z2) (gT a0 (.int 0 a1) λv3=>cI 1 v3 λz4=>R.1 z4 H λo5 H6=>cR K o5 H6 λv7=>bS v7 λz8=>bI z8 (ax 0 (Int.add a1 (.ofNat 1)) λz9=>x2 a0 z9 H6) (gT a0 (.int 0 a1) λv10=>cI 1 v10 λz11=>R.2 z11 H6 λoY fu=>cR K oY fu λv14=>bS v14 λmw=>bI mw (ax 0 (Int.add a1 (.ofNat 1)) λqt=>x2 a0 qt fu) (x1 a1 fu))) (x1 a1 H)
theorem V9{R:j2}(hR:wJ R){K:KF}{x2:dW}{x1:Ti}(h2:sv K x2)(h1:Kr K x1):sv K (C7 R K x2 x1):=λa0 a1 H h=>pk hR (cc h2 (cc h1 .nil)) h
def Wa(R:j2)(K:KF)(i2:dW):dW:=C7 R K i2 (V7 R K)
theorem Wb{R:j2}(hR:wJ R){K:KF}{i2:dW}(g2:sv K i2):sv K (Wa R K i2):=V9 hR g2 (V8 hR)
def sw(R:j2)(K:KF)(n:Nat):dW:=Nat.rec (motive:=λ_=>dW) (λ_ _ _=>False) (λ_ i=>Wa R K i) n
theorem Wc{R:j2}(hR:wJ R){K:KF}(n:Nat):sv K (sw R K n):=Nat.rec (motive:=λn=>sv K (sw R K n)) (λa0 a1 H h=>h.elim) (λn ih=>Wb hR ih) n
def C8(R:j2)(K:KF)(x2:dW)(a0:AV)(a1:Int)(H:AH):Prop:=x2 a0 a1 H
theorem Wd{R:j2}(hR:wJ R){K:KF}{x2:dW}(h2:sv K x2)(a0:AV)(a1:Int)(H:AH)(h:C8 R K x2 a0 a1 H):fb 30 K [] (bD (eD 30) [a0,(.int 0 a1)]) [] H:=pk hR (cc h2 .nil) h
def ajI(R:j2)(K:KF):dW:=C8 R K (sw R K NL)
def afd(R:j2):AV→Int→AH→KF→Prop:=λa0 a1 H K=>ajI R K a0 a1 H
theorem agZ(R:j2)(hR:wJ R):aC gPa 30 (aw [.a,.i 0] (afd R)):=rk λK a0 a1 H h=>Wd hR (Wc hR NL) a0 a1 H h
def mS:j2:=(f31,f33)
def f30:AV→Int→AH→KF→Prop:=afd mS
theorem ajJ:aC gPa 30 (aw [.a,.i 0] f30):=agZ mS (ag.cons V4 (ag.cons C5 ag.nil))
abbrev j3:Type:=Unit
def ajK(R:j3):List (Nat×dq):=[]
abbrev wK(R:j3):Prop:=ag gPa (ajK R)
abbrev Ks(K:KF)(F:T_):Prop:=aT 25 K [1,1] 18 [] [] F
abbrev sy(K:KF)(F:aE):Prop:=aT 25 K [0,1,0,1] 18 [0,1,5] [.a,.a,.i 0] F
def xZ(R:j3)(K:KF)(H:AH):Prop:=K (.ret (.bool false)) H
theorem We{R:j3}(hR:wK R){K:KF}:Ks K (xZ R K):=λH h=>pk hR .nil h
def Wf(R:j3)(K:KF):T_:=xZ R K
theorem Wg{R:j3}(hR:wK R){K:KF}:Ks K (Wf R K):=We hR
def vg(R:j3)(K:KF)(x2:aE)(x1:T_)(a0 a1:AV)(a5:Int)(H:AH):Prop:=bN a0 λv1=>cI 0 v1 λz2=>bI (cg a5 z2) (bf 1 a0 (.int 0 a5) λv3=>ad v3 H λv4=>ux v4 a1 λv5=>bS v5 λz6=>bI z6 (K (.ret (.bool true)) H) (ax 0 (Int.add a5 (.ofNat 1)) λz7=>x2 a0 a1 z7 H)) (x1 H)
theorem Wh{R:j3}(hR:wK R){K:KF}{x2:aE}{x1:T_}(h2:sy K x2)(h1:Ks K x1):sy K (vg R K x2 x1):=λa0 a1 a5 H h=>pk hR (cc h2 (cc h1 .nil)) h
def Wi(R:j3)(K:KF)(i2:aE):aE:=vg R K i2 (Wf R K)
theorem Wj{R:j3}(hR:wK R){K:KF}{i2:aE}(g2:sy K i2):sy K (Wi R K i2):=Wh hR g2 (Wg hR)
def pc(R:j3)(K:KF)(n:Nat):aE:=Nat.rec (motive:=λ_=>aE) (λ_ _ _ _=>False) (λ_ i=>Wi R K i) n
theorem Wk{R:j3}(hR:wK R){K:KF}(n:Nat):sy K (pc R K n):=Nat.rec (motive:=λn=>sy K (pc R K n)) (λa0 a1 a5 H h=>h.elim) (λn ih=>Wj hR ih) n
def vh(R:j3)(K:KF)(x2:aE)(a0 a1:AV)(H:AH):Prop:=x2 a0 a1 (.ofNat 0) H
theorem Wl{R:j3}(hR:wK R){K:KF}{x2:aE}(h2:sy K x2)(a0 a1:AV)(H:AH)(h:vh R K x2 a0 a1 H):fb 25 K [] (bD (eD 25) [a0,a1]) [] H:=pk hR (cc h2 .nil) h
def ajL(R:j3)(K:KF):cX:=vh R K (pc R K NL)
def afe(R:j3):AV→AV→AH→KF→Prop:=λa0 a1 H K=>ajL R K a0 a1 H
theorem ag0(R:j3)(hR:wK R):aC gPa 25 (aw [.a,.a] (afe R)):=rk λK a0 a1 H h=>Wl hR (Wk hR NL) a0 a1 H h
def kG:j3:=()
def f25:AV→AV→AH→KF→Prop:=afe kG
theorem Wm:aC gPa 25 (aw [.a,.a] f25):=ag0 kG ag.nil
abbrev tA:Type:=(AV→AV→AH→KF→Prop)
def ajM(R:tA):List (Nat×dq):=[(25,aw [.a,.a] R)]
abbrev aff(R:tA):Prop:=ag gPa (ajM R)
def C9(R:tA)(K:KF)(a0:AV)(H:AH):Prop:=aR (aB H) 21 1 [(.str 3 6581857),(.str 5 461195539042),(.str 2 28516),(.str 4 1702063205),(.str 6 112602859662437),(.str 3 6581861),(.str 5 435728179558),(.str 3 7499622),(.str 8 7957695015192261990),(.str 2 26217),(.str 2 28265),(.str 5 465490374508),(.str 3 7104878),(.str 3 7630702),(.str 2 29295),(.str 6 127961662514546),(.str 6 121437875889522),(.str 4 1852139636),(.str 4 1702195828),(.str 5 465625706101),(.str 5 435610544247)] λv1 H2=>R v1 a0 H2 λo3 H4=>cR K o3 H4 λv5=>bS v5 λz6=>K (.ret (.bool z6)) H4
theorem Wn{R:tA}(hR:aff R){K:KF}(a0:AV)(H:AH)(h:C9 R K a0 H):fb 32 K [] (bD (eD 32) [a0]) [] H:=pk hR .nil h
def ajN(R:tA)(K:KF):Ta:=C9 R K
def afg(R:tA):AV→AH→KF→Prop:=λa0 H K=>ajN R K a0 H
theorem ag1(R:tA)(hR:aff R):aC gPa 32 (aw [.a] (afg R)):=rk λK a0 H h=>Wn hR a0 H h
def Da:tA:=(f25)
def f32:AV→AH→KF→Prop:=afg Da
theorem ajO:aC gPa 32 (aw [.a] f32):=ag1 Da (ag.cons Wm ag.nil)
abbrev iX:Type:=(Int→AH→KF→Prop)
def ajP(R:iX):List (Nat×dq):=[(33,aw [.i 1] R)]
abbrev ru(R:iX):Prop:=ag gPa (ajP R)
abbrev Kt(K:KF)(F:Ti):Prop:=aT 34 K [1,1,1] 33 [4] [.i 3] F
abbrev qC(K:KF)(F:iT):Prop:=aT 34 K [0,1,0,1,1] 33 [0,4,5] [.a,.i 3,.i 0] F
abbrev Ku(K:KF)(F:iT):Prop:=aT 34 K [1,1,0,0,1,0,1,1] 33 [0,4,5] [.a,.i 3,.i 0] F
def Db(R:iX)(K:KF)(x2:iT)(a0:AV)(a4 a5:Int)(H:AH):Prop:=ax 0 (Int.add a5 (.ofNat 1)) λz1=>x2 a0 a4 z1 H
theorem Wo{R:iX}(hR:ru R){K:KF}{x2:iT}(h2:qC K x2):Ku K (Db R K x2):=λa0 a4 a5 H h=>pk hR (cc h2 .nil) h
def Wp(R:iX)(K:KF)(i2:iT):iT:=Db R K i2
theorem Wq{R:iX}(hR:ru R){K:KF}{i2:iT}(g2:qC K i2):Ku K (Wp R K i2):=Wo hR g2
def Dc(R:iX)(K:KF)(a4:Int)(H:AH):Prop:=bI (cg (.ofNat 9223372036854775807) a4) (K (.ret (.aL [(.int 0 (.ofNat 0)),(.bool false)])) H) (ax 0 a4 λz1=>K (.ret (.aL [(.int 0 z1),(.bool true)])) H)
theorem Wr{R:iX}(hR:ru R){K:KF}:Kt K (Dc R K):=λa4 H h=>pk hR .nil h
def Ws(R:iX)(K:KF):Ti:=Dc R K
theorem Wt{R:iX}(hR:ru R){K:KF}:Kt K (Ws R K):=Wr hR
def Dd(R:iX)(K:KF)(x3:iT)(x1:Ti)(a0:AV)(a4 a5:Int)(H:AH):Prop:=sLen a0 λv1=>cI 0 v1 λz2=>bI (cg a5 z2) (gT a0 (.int 0 a5) λv3=>cI 1 v3 λz4=>R z4 H λo5 H6=>cR K o5 H6 λv7=>bS v7 λz8=>bI (!z8) (K (.ret (.aL [(.int 0 (.ofNat 0)),(.bool false)])) H6) (bI (cg (.ofNat 922337203685477580) a4) (K (.ret (.aL [(.int 0 (.ofNat 0)),(.bool false)])) H6) (ax 3 (Int.mul a4 (.ofNat 10)) λz9=>gT a0 (.int 0 a5) λv10=>cI 1 v10 λz11=>ax 1 (Int.sub z11 (.ofNat 48)) λz12=>ax 3 z12 λz13=>ax 3 (Int.add z9 z13) λnM=>x3 a0 nM a5 H6))) (x1 a4 H)
theorem Wu{R:iX}(hR:ru R){K:KF}{x3:iT}{x1:Ti}(h3:Ku K x3)(h1:Kt K x1):qC K (Dd R K x3 x1):=λa0 a4 a5 H h=>pk hR (cc h3 (cc h1 .nil)) h
def Wv(R:iX)(K:KF)(i2:iT):iT:=Dd R K (Wp R K i2) (Ws R K)
theorem Ww{R:iX}(hR:ru R){K:KF}{i2:iT}(g2:qC K i2):qC K (Wv R K i2):=Wu hR (Wq hR g2) (Wt hR)
def vi(R:iX)(K:KF)(n:Nat):iT:=Nat.rec (motive:=λ_=>iT) (λ_ _ _ _=>False) (λ_ i=>Wv R K i) n
theorem Wx{R:iX}(hR:ru R){K:KF}(n:Nat):qC K (vi R K n):=Nat.rec (motive:=λn=>qC K (vi R K n)) (λa0 a4 a5 H h=>h.elim) (λn ih=>Ww hR ih) n
def De(R:iX)(K:KF)(x2:iT)(a0:AV)(H:AH):Prop:=x2 a0 (.ofNat 0) (.ofNat 0) H
theorem Wy{R:iX}(hR:ru R){K:KF}{x2:iT}(h2:qC K x2)(a0:AV)(H:AH)(h:De R K x2 a0 H):fb 34 K [] (bD (eD 34) [a0]) [] H:=pk hR (cc h2 .nil) h
def ajQ(R:iX)(K:KF):Ta:=De R K (vi R K NL)
def afh(R:iX):AV→AH→KF→Prop:=λa0 H K=>ajQ R K a0 H
theorem ag2(R:iX)(hR:ru R):aC gPa 34 (aw [.a] (afh R)):=rk λK a0 H h=>Wy hR (Wx hR NL) a0 H h
def nO:iX:=(f33)
def f34:AV→AH→KF→Prop:=afh nO
theorem ajR:aC gPa 34 (aw [.a] f34):=ag2 nO (ag.cons C5 ag.nil)
abbrev ju:Type:=(Int→AH→KF→Prop)
def ajS(R:ju):List (Nat×dq):=[(33,aw [.i 1] R)]
abbrev tB(R:ju):Prop:=ag gPa (ajS R)
abbrev Kv(K:KF)(F:Ti):Prop:=aT 55 K [0,1,1,1,0,0,1] 31 [0] [.i 1] F
abbrev Kw(K:KF)(F:Ti):Prop:=aT 55 K [1,1,1,1,0,0,1] 31 [0] [.i 1] F
abbrev Kx(K:KF)(F:Ti):Prop:=aT 55 K [0,1,1,1,1,1,0,0,1] 31 [0] [.i 1] F
def Df(R:ju)(K:KF)(a0:Int)(H:AH):Prop:=ax 1 (Int.sub a0 (.ofNat 97)) λz1=>ax 0 z1 λz2=>ax 0 (Int.add z2 (.ofNat 10)) λz3=>K (.ret (.int 0 z3)) H
theorem Wz{R:ju}(hR:tB R){K:KF}:Kv K (Df R K):=λa0 H h=>pk hR .nil h
def WA(R:ju)(K:KF):Ti:=Df R K
theorem WB{R:ju}(hR:tB R){K:KF}:Kv K (WA R K):=Wz hR
def ya(R:ju)(K:KF)(a0:Int)(H:AH):Prop:=ax 1 (Int.sub a0 (.ofNat 65)) λz1=>ax 0 z1 λz2=>ax 0 (Int.add z2 (.ofNat 10)) λz3=>K (.ret (.int 0 z3)) H
theorem WC{R:ju}(hR:tB R){K:KF}:Kx K (ya R K):=λa0 H h=>pk hR .nil h
def WD(R:ju)(K:KF):Ti:=ya R K
theorem WE{R:ju}(hR:tB R){K:KF}:Kx K (WD R K):=WC hR
def yb(R:ju)(K:KF)(x3:Ti)(a0:Int)(H:AH):Prop:=bI (!(cg a0 (.ofNat 65))) (bI (!(cg (.ofNat 70) a0)) (x3 a0 H) (K (.ret (.int 0 (.negSucc 0))) H)) (K (.ret (.int 0 (.negSucc 0))) H)
theorem WG{R:ju}(hR:tB R){K:KF}{x3:Ti}(h3:Kx K x3):Kw K (yb R K x3):=λa0 H h=>pk hR (cc h3 .nil) h
def WH(R:ju)(K:KF):Ti:=yb R K (WD R K)
theorem WI{R:ju}(hR:tB R){K:KF}:Kw K (WH R K):=WG hR (WE hR)
def Dg(R:ju)(K:KF)(x1 x2:Ti)(a0:Int)(H:AH):Prop:=R a0 H λo1 H2=>cR K o1 H2 λv3=>bS v3 λz4=>bI z4 (ax 1 (Int.sub a0 (.ofNat 48)) λz5=>ax 0 z5 λz6=>K (.ret (.int 0 z6)) H2) (bI (!(cg a0 (.ofNat 97))) (bI (!(cg (.ofNat 102) a0)) (x1 a0 H2) (x2 a0 H2)) (x2 a0 H2))
theorem WJ{R:ju}(hR:tB R){K:KF}{x1 x2:Ti}(h1:Kv K x1)(h2:Kw K x2)(a0:Int)(H:AH)(h:Dg R K x1 x2 a0 H):fb 55 K [] (bD (eD 55) [(.int 1 a0)]) [] H:=pk hR (cc h1 (cc h2 .nil)) h
def ajT(R:ju)(K:KF):Ti:=Dg R K (WA R K) (WH R K)
def afi(R:ju):Int→AH→KF→Prop:=λa0 H K=>ajT R K a0 H
theorem ag3(R:ju)(hR:tB R):aC gPa 55 (aw [.i 1] (afi R)):=rk λK a0 H h=>WJ hR (WB hR) (WI hR) a0 H h
def pd:ju:=(f33)
def f55:Int→AH→KF→Prop:=afi pd
theorem ajU:aC gPa 55 (aw [.i 1] f55):=ag3 pd (ag.cons C5 ag.nil)
abbrev eN:Type:=(Int→AH→KF→Prop)
def ajV(R:eN):List (Nat×dq):=[(55,aw [.i 1] R)]
abbrev kH(R:eN):Prop:=ag gPa (ajV R)
abbrev Ky(K:KF)(F:T_):Prop:=aT 35 K [1,1,1,1] 116 [] [] F
abbrev lU(K:KF)(F:di):Prop:=aT 35 K [0,1,0,1,1,1] 116 [0,7,8,9] [.a,.i 1,.a,.i 0] F
abbrev vj(K:KF)(F:di):Prop:=aT 35 K [1,1,0,0,1,0,1,1,1] 116 [0,7,8,9] [.a,.i 1,.a,.i 0] F
abbrev Kz(K:KF)(F:qq):Prop:=aT 35 K [1,1,1,1,1,0,0,1,0,0,1,0,1,1,1] 116 [0,7,8,9,54] [.a,.i 1,.a,.i 0,.i 1] F
abbrev KA(K:KF)(F:za):Prop:=aT 35 K [1,1,1,1,1,0,1,1,1,1,1,0,0,1,0,0,1,0,1,1,1] 116 [0,7,8,9,54,65] [.a,.i 1,.a,.i 0,.i 1,.b] F
abbrev KB(K:KF)(F:di):Prop:=aT 35 K [1,0,1,1,1,1,1,1,1,0,1,1,1,1,1,0,0,1,0,0,1,0,1,1,1] 116 [0,7,8,9] [.a,.i 1,.a,.i 0] F
abbrev KC(K:KF)(F:di):Prop:=aT 35 K [1,1,0,1,1,1,1,1,1,1,0,1,1,1,1,1,0,0,1,0,0,1,0,1,1,1] 116 [0,7,8,9] [.a,.i 1,.a,.i 0] F
def nP(R:eN)(K:KF)(x2:di)(a0:AV)(a7:Int)(a8:AV)(a9:Int)(H:AH):Prop:=ax 0 (Int.add a9 (.ofNat 1)) λz1=>x2 a0 a7 a8 z1 H
theorem WK{R:eN}(hR:kH R){K:KF}{x2:di}(h2:lU K x2):vj K (nP R K x2):=λa0 a7 a8 a9 H h=>pk hR (cc h2 .nil) h
def yc(R:eN)(K:KF)(i2:di):di:=nP R K i2
theorem tC{R:eN}(hR:kH R){K:KF}{i2:di}(g2:lU K i2):vj K (yc R K i2):=WK hR g2
def KE(R:eN)(K:KF)(H:AH):Prop:=K (.ret (.aL [(.str 0 0),(.int 0 (.ofNat 0)),(.bool false)])) H
theorem WL{R:eN}(hR:kH R){K:KF}:Ky K (KE R K):=λH h=>pk hR .nil h
def WM(R:eN)(K:KF):T_:=KE R K
theorem WN{R:eN}(hR:kH R){K:KF}:Ky K (WM R K):=WL hR
def Dh(R:eN)(K:KF)(x3:di)(a0:AV)(a7:Int)(a8:AV)(a9:Int)(H:AH):Prop:=ax 0 (Int.add a9 (.ofNat 2)) λz1=>x3 a0 a7 a8 z1 H
theorem WO{R:eN}(hR:kH R){K:KF}{x3:di}(h3:vj K x3):KC K (Dh R K x3):=λa0 a7 a8 a9 H h=>pk hR (cc h3 .nil) h
def KG(R:eN)(K:KF)(i2:di):di:=Dh R K (yc R K i2)
theorem WQ{R:eN}(hR:kH R){K:KF}{i2:di}(g2:lU K i2):KC K (KG R K i2):=WO hR (tC hR g2)
def Di(R:eN)(K:KF)(x7:di)(a0:AV)(a7:Int)(a8:AV)(a9:Int)(H:AH):Prop:=ax 0 (Int.add a9 (.ofNat 1)) λz1=>gT a0 (.int 0 z1) λv2=>cI 1 v2 λz3=>ax 0 (Int.add a9 (.ofNat 2)) λz4=>gT a0 (.int 0 z4) λv5=>cI 1 v5 λz6=>R z3 H λo7 H8=>cR K o7 H8 λv9=>cI 0 v9 λz10=>Pj 0 (.int 0 z10) (.int 3 (.ofNat 4)) λv11=>cI 0 v11 λz12=>R z6 H8 λlB dh=>cR K lB dh λv15=>cI 0 v15 λqt=>bB (nz 0 z12) λu17=>bB (nz 0 qt) λu18=>ax 0 (.ofNat (Nat.lor u17 u18)) λuU=>ax 1 uU λz20=>cL dh (aR (aB dh) 1 1 [(.int 1 z20)] λv21 gU=>bT (Nat.beq gU.n (Nat.succ dh.n)) (cQ 1 1 a8 v21 gU λv23 pD=>x7 a0 a7 v23 a9 pD))
theorem WR{R:eN}(hR:kH R){K:KF}{x7:di}(h7:KC K x7):KB K (Di R K x7):=λa0 a7 a8 a9 H h=>pk hR (cc h7 .nil) h
def Dj(R:eN)(K:KF)(i2:di):di:=Di R K (KG R K i2)
theorem WS{R:eN}(hR:kH R){K:KF}{i2:di}(g2:lU K i2):KB K (Dj R K i2):=WR hR (WQ hR g2)
def vk(R:eN)(K:KF)(x6 x3:di)(a0:AV)(a7:Int)(a8:AV)(a9 a54:Int)(a65:Bool)(H:AH):Prop:=bI a65 (gT a0 (.int 0 a9) λv1=>cI 1 v1 λz2=>aR (aB H) 1 1 [(.int 1 z2)] λv3 H4=>cQ 1 1 a8 v3 H4 λv5 H6=>x3 a0 a7 v5 a9 H6) (bI (bq a54 (.ofNat 120)) (ax 0 (Int.add a9 (.ofNat 2)) λz7=>sLen a0 λv8=>cI 0 v8 λz9=>bI (!(cg z7 z9)) (K (.ret (.aL [(.str 0 0),(.int 0 (.ofNat 0)),(.bool false)])) H) (ax 0 (Int.add a9 (.ofNat 1)) λz10=>gT a0 (.int 0 z10) λv11=>cI 1 v11 λz12=>R z12 H λlB dh=>cR K lB dh λv15=>cI 0 v15 λqt=>bI (cg qt (.ofNat 0)) (K (.ret (.aL [(.str 0 0),(.int 0 (.ofNat 0)),(.bool false)])) dh) (ax 0 (Int.add a9 (.ofNat 2)) λz17=>gT a0 (.int 0 z17) λv18=>cI 1 v18 λuU=>R uU dh λT9 gZ=>cR K T9 gZ λv22=>cI 0 v22 λz23=>bI (cg z23 (.ofNat 0)) (K (.ret (.aL [(.str 0 0),(.int 0 (.ofNat 0)),(.bool false)])) gZ) (x6 a0 a7 a8 a9 gZ)))) (K (.ret (.aL [(.str 0 0),(.int 0 (.ofNat 0)),(.bool false)])) H))
theorem WT{R:eN}(hR:kH R){K:KF}{x6 x3:di}(h6:KB K x6)(h3:vj K x3):KA K (vk R K x6 x3):=λa0 a7 a8 a9 a54 a65 H h=>pk hR (cc h6 (cc h3 .nil)) h
def Dk(R:eN)(K:KF)(i2:di):za:=vk R K (Dj R K i2) (yc R K i2)
theorem WU{R:eN}(hR:kH R){K:KF}{i2:di}(g2:lU K i2):KA K (Dk R K i2):=WT hR (WS hR g2) (tC hR g2)
def Dl(R:eN)(K:KF)(x3:di)(x5:za)(a0:AV)(a7:Int)(a8:AV)(a9 a54:Int)(H:AH):Prop:=bI (bq a54 (.ofNat 110)) (aR (aB H) 1 1 [(.int 1 (.ofNat 10))] λv1 H2=>cQ 1 1 a8 v1 H2 λv3 H4=>x3 a0 a7 v3 a9 H4) (bI (bq a54 (.ofNat 116)) (aR (aB H) 1 1 [(.int 1 (.ofNat 9))] λv5 H6=>cQ 1 1 a8 v5 H6 λv7 H8=>x3 a0 a7 v7 a9 H8) (bI (bq a54 (.ofNat 92)) (x5 a0 a7 a8 a9 a54 (bq a54 (.ofNat 92)) H) (bI (bq a54 (.ofNat 34)) (x5 a0 a7 a8 a9 a54 (bq a54 (.ofNat 34)) H) (x5 a0 a7 a8 a9 a54 (bq a54 (.ofNat 39)) H))))
theorem WV{R:eN}(hR:kH R){K:KF}{x3:di}{x5:za}(h3:vj K x3)(h5:KA K x5):Kz K (Dl R K x3 x5):=λa0 a7 a8 a9 a54 H h=>pk hR (cc h3 (cc h5 .nil)) h
def KH(R:eN)(K:KF)(i2:di):qq:=Dl R K (yc R K i2) (Dk R K i2)
theorem WW{R:eN}(hR:kH R){K:KF}{i2:di}(g2:lU K i2):Kz K (KH R K i2):=WV hR (tC hR g2) (WU hR g2)
def Dm(R:eN)(K:KF)(x3:di)(x1:T_)(x4:qq)(a0:AV)(a7:Int)(a8:AV)(a9:Int)(H:AH):Prop:=sLen a0 λv1=>cI 0 v1 λz2=>bI (cg a9 z2) (gT a0 (.int 0 a9) λv3=>cI 1 v3 λz4=>bI (bq z4 (.ofNat 10)) (K (.ret (.aL [(.str 0 0),(.int 0 (.ofNat 0)),(.bool false)])) H) (bI (bq z4 a7) (yH a8 H λv5=>ax 0 (Int.add a9 (.ofNat 1)) λz6=>bN a8 λv7=>cI 0 v7 λz8=>K (.ret (.aL [v5,(.int 0 z6),(.bool (!(cg (.ofNat 4096) z8)))])) H) (bI (!(bq z4 (.ofNat 92))) (aR (aB H) 1 1 [(.int 1 z4)] λv9 cm=>cQ 1 1 a8 v9 cm λv11 bO=>x3 a0 a7 v11 a9 bO) (ax 0 (Int.add a9 (.ofNat 1)) λz13=>sLen a0 λv14=>cI 0 v14 λmw=>bI (!(cg z13 mw)) (K (.ret (.aL [(.str 0 0),(.int 0 (.ofNat 0)),(.bool false)])) H) (gT a0 (.int 0 z13) λv16=>cI 1 v16 λz17=>x4 a0 a7 a8 z13 z17 H))))) (x1 H)
theorem WX{R:eN}(hR:kH R){K:KF}{x3:di}{x1:T_}{x4:qq}(h3:vj K x3)(h1:Ky K x1)(h4:Kz K x4):lU K (Dm R K x3 x1 x4):=λa0 a7 a8 a9 H h=>pk hR (cc h3 (cc h1 (cc h4 .nil))) h
def WY(R:eN)(K:KF)(i2:di):di:=Dm R K (yc R K i2) (WM R K) (KH R K i2)
theorem WZ{R:eN}(hR:kH R){K:KF}{i2:di}(g2:lU K i2):lU K (WY R K i2):=WX hR (tC hR g2) (WN hR) (WW hR g2)
def gv(R:eN)(K:KF)(n:Nat):di:=Nat.rec (motive:=λ_=>di) (λ_ _ _ _ _=>False) (λ_ i=>WY R K i) n
theorem W0{R:eN}(hR:kH R){K:KF}(n:Nat):lU K (gv R K n):=Nat.rec (motive:=λn=>lU K (gv R K n)) (λa0 a7 a8 a9 H h=>h.elim) (λn ih=>WZ hR ih) n
def Dp(R:eN)(K:KF)(x2:di)(a0:AV)(a1:Int)(H:AH):Prop:=gT a0 (.int 0 a1) λv1=>cI 1 v1 λz2=>ax 0 (Int.add a1 (.ofNat 1)) λz3=>x2 a0 z2 .ab z3 H
theorem W1{R:eN}(hR:kH R){K:KF}{x2:di}(h2:lU K x2)(a0:AV)(a1:Int)(H:AH)(h:Dp R K x2 a0 a1 H):fb 35 K [] (bD (eD 35) [a0,(.int 0 a1)]) [] H:=pk hR (cc h2 .nil) h
def ajW(R:eN)(K:KF):dW:=Dp R K (gv R K NL)
def afj(R:eN):AV→Int→AH→KF→Prop:=λa0 a1 H K=>ajW R K a0 a1 H
theorem ag4(R:eN)(hR:kH R):aC gPa 35 (aw [.a,.i 0] (afj R)):=rk λK a0 a1 H h=>W1 hR (W0 hR NL) a0 a1 H h
def cO:eN:=(f55)
def f35:AV→Int→AH→KF→Prop:=afj cO
theorem ajX:aC gPa 35 (aw [.a,.i 0] f35):=ag4 cO (ag.cons ajU ag.nil)
abbrev j4:Type:=(AV→AV→AH→KF→Prop)
def ajY(R:j4):List (Nat×dq):=[(25,aw [.a,.a] R)]
abbrev wL(R:j4):Prop:=ag gPa (ajY R)
abbrev KI(K:KF)(F:T_):Prop:=aT 36 K [1,1,1,1] 34 [] [] F
abbrev sA(K:KF)(F:di):Prop:=aT 36 K [0,1,0,1,1,1] 34 [0,1,5,6] [.a,.i 0,.a,.i 0] F
def Dq(R:j4)(K:KF)(H:AH):Prop:=K (.ret (.int 0 (.ofNat 0))) H
theorem W2{R:j4}(hR:wL R){K:KF}:KI K (Dq R K):=λH h=>pk hR .nil h
def W3(R:j4)(K:KF):T_:=Dq R K
theorem W4{R:j4}(hR:wL R){K:KF}:KI K (W3 R K):=W2 hR
def Dr(R:j4)(K:KF)(x2:di)(x1:T_)(a0:AV)(a1:Int)(a5:AV)(a6:Int)(H:AH):Prop:=sLen a5 λv1=>cI 0 v1 λz2=>bI (cg a6 z2) (gT a5 (.int 0 a6) λv3=>cI 1 v3 λz4=>gT a0 (.int 0 a1) λv5=>cI 1 v5 λz6=>bI (bq z4 z6) (K (.ret (.int 0 (.ofNat 1))) H) (ax 0 (Int.add a6 (.ofNat 1)) λz7=>x2 a0 a1 a5 z7 H)) (x1 H)
theorem W5{R:j4}(hR:wL R){K:KF}{x2:di}{x1:T_}(h2:sA K x2)(h1:KI K x1):sA K (Dr R K x2 x1):=λa0 a1 a5 a6 H h=>pk hR (cc h2 (cc h1 .nil)) h
def W6(R:j4)(K:KF)(i2:di):di:=Dr R K i2 (W3 R K)
theorem W7{R:j4}(hR:wL R){K:KF}{i2:di}(g2:sA K i2):sA K (W6 R K i2):=W5 hR g2 (W4 hR)
def vm(R:j4)(K:KF)(n:Nat):di:=Nat.rec (motive:=λ_=>di) (λ_ _ _ _ _=>False) (λ_ i=>W6 R K i) n
theorem W8{R:j4}(hR:wL R){K:KF}(n:Nat):sA K (vm R K n):=Nat.rec (motive:=λn=>sA K (vm R K n)) (λa0 a1 a5 a6 H h=>h.elim) (λn ih=>W7 hR ih) n
def Ds(R:j4)(K:KF)(x2:di)(a0:AV)(a1:Int)(H:AH):Prop:=ax 0 (Int.add a1 (.ofNat 1)) λz1=>sLen a0 λv2=>cI 0 v2 λz3=>bI (cg z1 z3) (aR (aB H) 6 1 [(.str 2 11822),(.str 2 15677),(.str 2 15742),(.str 2 15676),(.str 2 15678),(.str 2 12079)] λv4 H5=>ax 0 (Int.add a1 (.ofNat 2)) λz6=>lr a0 (some (.int 0 a1)) (some (.int 0 z6)) λv7=>R v4 v7 H5 λo8 H9=>cR K o8 H9 λv10=>bS v10 λz11=>bI z11 (K (.ret (.int 0 (.ofNat 2))) H9) (x2 a0 a1 (.str 17 20123422373665890509693217210346309823787) (.ofNat 0) H9)) (x2 a0 a1 (.str 17 20123422373665890509693217210346309823787) (.ofNat 0) H)
theorem W9{R:j4}(hR:wL R){K:KF}{x2:di}(h2:sA K x2)(a0:AV)(a1:Int)(H:AH)(h:Ds R K x2 a0 a1 H):fb 36 K [] (bD (eD 36) [a0,(.int 0 a1)]) [] H:=pk hR (cc h2 .nil) h
def ajZ(R:j4)(K:KF):dW:=Ds R K (vm R K NL)
def afk(R:j4):AV→Int→AH→KF→Prop:=λa0 a1 H K=>ajZ R K a0 a1 H
theorem ag5(R:j4)(hR:wL R):aC gPa 36 (aw [.a,.i 0] (afk R)):=rk λK a0 a1 H h=>W9 hR (W8 hR NL) a0 a1 H h
def pe:j4:=(f25)
def f36:AV→Int→AH→KF→Prop:=afk pe
theorem aj0:aC gPa 36 (aw [.a,.i 0] f36):=ag5 pe (ag.cons Wm ag.nil)
abbrev cZ:Type:=(AV→Int→AH→KF→Prop)×(AV→Int→AH→KF→Prop)×(Int→AH→KF→Prop)×(AV→AH→KF→Prop)×(Int→AH→KF→Prop)×(AV→AH→KF→Prop)×(AV→Int→AH→KF→Prop)×(AV→Int→AH→KF→Prop)
def aj1(R:cZ):List (Nat×dq):=[(29,aw [.a,.i 0] R.1),(30,aw [.a,.i 0] R.2.1),(31,aw [.i 1] R.2.2.1),(32,aw [.a] R.2.2.2.1),(33,aw [.i 1] R.2.2.2.2.1),(34,aw [.a] R.2.2.2.2.2.1),(35,aw [.a,.i 0] R.2.2.2.2.2.2.1),(36,aw [.a,.i 0] R.2.2.2.2.2.2.2)]
abbrev iD(R:cZ):Prop:=ag gPa (aj1 R)
abbrev KJ(K:KF)(F:cX):Prop:=aT 16 K [1,1,1,1,1] 123 [0,5] [.a,.a] F
abbrev jX(K:KF)(F:aE):Prop:=aT 16 K [0,0,1,1,1,1] 123 [0,5,6] [.a,.a,.i 0] F
abbrev vq(K:KF)(F:lf):Prop:=aT 16 K [1,1,1,0,1,0,0,0,1,1,1,1] 123 [0,5,7,8] [.a,.a,.a,.i 0] F
abbrev KK(K:KF)(F:kD):Prop:=aT 16 K [1,0,1,0,0,1,1,0,1,0,0,0,1,1,1,1] 123 [0,5,6,7,8] [.a,.a,.i 0,.a,.i 0] F
abbrev KL(K:KF)(F:kD):Prop:=aT 16 K [1,1,0,1,0,0,1,1,0,1,0,0,0,1,1,1,1] 123 [0,5,6,7,8] [.a,.a,.i 0,.a,.i 0] F
abbrev KM(K:KF)(F:kD):Prop:=aT 16 K [1,0,1,1,1,0,0,1,1,0,1,0,0,0,1,1,1,1] 123 [0,5,6,7,8] [.a,.a,.i 0,.a,.i 0] F
abbrev KN(K:KF)(F:iV):Prop:=aT 16 K [0,1,1,1,1,1,0,0,1,1,0,1,0,0,0,1,1,1,1] 123 [0,5,6,7] [.a,.a,.i 0,.a] F
abbrev KO(K:KF)(F:iV):Prop:=aT 16 K [1,1,1,1,1,1,0,0,1,1,0,1,0,0,0,1,1,1,1] 123 [0,5,6,7] [.a,.a,.i 0,.a] F
abbrev KQ(K:KF)(F:wI):Prop:=aT 16 K [1,0,1,1,1,1,1,0,0,1,1,0,1,0,0,0,1,1,1,1] 123 [0,5,6,7,11,12,13] [.a,.a,.i 0,.a,.a,.i 0,.b] F
abbrev FB(K:KF)(F:kD):Prop:=aT 16 K [1,1,1,1,1,1,1,0,0,1,1,0,1,0,0,0,1,1,1,1] 123 [0,5,6,7,14] [.a,.a,.i 0,.a,.i 0] F
def Dt(R:cZ)(K:KF)(x2:aE)(a0 a5 a7:AV)(a8:Int)(H:AH):Prop:=aN 4 a7 H λv1=>onVal v1 λl2=>gK l2 4 (aR (aB H) 1 4 (spl l2 [(.int 0 (.ofNat 0)),(.str 0 0),(.int 0 (.ofNat 0)),(.int 0 (.ofNat 0))] 0) λv3 H4=>cQ 4 40 a5 v3 H4 λv5 H6=>R.1 a0 a8 H6 λo7 H8=>cR K o7 H8 λv9=>cI 0 v9 λz10=>x2 a0 v5 z10 H8)
theorem Xa{R:cZ}(hR:iD R){K:KF}{x2:aE}(h2:jX K x2):vq K (Dt R K x2):=λa0 a5 a7 a8 H h=>pk hR (cc h2 .nil) h
def mT(R:cZ)(K:KF)(i2:aE):lf:=Dt R K i2
theorem tD{R:cZ}(hR:iD R){K:KF}{i2:aE}(g2:jX K i2):vq K (mT R K i2):=Xa hR g2
def vr(R:cZ)(K:KF)(x3:lf)(a0 a5:AV)(a6:Int)(a7 a11:AV)(a12:Int)(my:Bool)(H:AH):Prop:=bI (!my) (K (.ret (.aL [.ab,(.int 0 (.ofNat 14)),(.int 0 a6)])) H) (af 0 a7 λv1=>ah 1 v1 (.int 0 (.ofNat 4)) H λH2=>af 1 a7 λv3=>ah 1 v3 a11 H2 λH4=>x3 a0 a5 a7 a12 H4)
theorem Xb{R:cZ}(hR:iD R){K:KF}{x3:lf}(h3:vq K x3):KQ K (vr R K x3):=λa0 a5 a6 a7 a11 a12 my H h=>pk hR (cc h3 .nil) h
def KS(R:cZ)(K:KF)(i2:aE):wI:=vr R K (mT R K i2)
theorem Xc{R:cZ}(hR:iD R){K:KF}{i2:aE}(g2:jX K i2):KQ K (KS R K i2):=Xb hR (tD hR g2)
def Du(R:cZ)(K:KF)(x9:wI)(a0 a5:AV)(a6:Int)(a7:AV)(H:AH):Prop:=R.2.2.2.2.2.2.1 a0 a6 H λo1 H2=>cR K o1 H2 λv3=>dU v3 λl4=>eQ l4 0 λv5=>dU v3 λl6=>eQ l6 1 λv7=>cI 0 v7 λz8=>dU v3 λl9=>eQ l9 2 λv10=>bS v10 λz11=>x9 a0 a5 a6 a7 v5 z8 z11 H2
theorem Xd{R:cZ}(hR:iD R){K:KF}{x9:wI}(h9:KQ K x9):KN K (Du R K x9):=λa0 a5 a6 a7 H h=>pk hR (cc h9 .nil) h
def vt(R:cZ)(K:KF)(i2:aE):iV:=Du R K (KS R K i2)
theorem Xe{R:cZ}(hR:iD R){K:KF}{i2:aE}(g2:jX K i2):KN K (vt R K i2):=Xd hR (Xc hR g2)
def Dv(R:cZ)(K:KF)(x3:lf)(a0 a5:AV)(a6:Int)(a7:AV)(a8:Int)(H:AH):Prop:=ax 0 (Int.sub a8 a6) λz1=>bI (cg (.ofNat 32) z1) (K (.ret (.aL [.ab,(.int 0 (.ofNat 14)),(.int 0 a6)])) H) (x3 a0 a5 a7 a8 H)
theorem Xf{R:cZ}(hR:iD R){K:KF}{x3:lf}(h3:vq K x3):KL K (Dv R K x3):=λa0 a5 a6 a7 a8 H h=>pk hR (cc h3 .nil) h
def Dw(R:cZ)(K:KF)(i2:aE):kD:=Dv R K (mT R K i2)
theorem Xg{R:cZ}(hR:iD R){K:KF}{i2:aE}(g2:jX K i2):KL K (Dw R K i2):=Xf hR (tD hR g2)
def Dx(R:cZ)(K:KF)(x5:kD)(a0 a5:AV)(a6:Int)(a7:AV)(a8:Int)(H:AH):Prop:=af 1 a7 λv1=>ad v1 H λv2=>R.2.2.2.1 v2 H λo3 H4=>cR K o3 H4 λv5=>bS v5 λz6=>bI z6 (af 0 a7 λv7=>ah 1 v7 (.int 0 (.ofNat 1)) H4 λH8=>x5 a0 a5 a6 a7 a8 H8) (x5 a0 a5 a6 a7 a8 H4)
theorem Xh{R:cZ}(hR:iD R){K:KF}{x5:kD}(h5:KL K x5):KK K (Dx R K x5):=λa0 a5 a6 a7 a8 H h=>pk hR (cc h5 .nil) h
def yd(R:cZ)(K:KF)(i2:aE):kD:=Dx R K (Dw R K i2)
theorem Xi{R:cZ}(hR:iD R){K:KF}{i2:aE}(g2:jX K i2):KK K (yd R K i2):=Xh hR (Xg hR g2)
def Dy(R:cZ)(K:KF)(x3:lf)(a0 a5:AV)(a6:Int)(a7:AV)(a8:Int)(H:AH):Prop:=lr a0 (some (.int 0 a6)) (some (.int 0 a8)) λv1=>R.2.2.2.2.2.1 v1 H λo2 H3=>cR K o2 H3 λv4=>dU v4 λl5=>eQ l5 0 λv6=>cI 0 v6 λz7=>dU v4 λl8=>eQ l8 1 λv9=>bS v9 λz10=>bI (!z10) (K (.ret (.aL [.ab,(.int 0 (.ofNat 14)),(.int 0 a6)])) H3) (af 2 a7 λv11=>ah 1 v11 (.int 0 z7) H3 λbO=>x3 a0 a5 a7 a8 bO)
theorem Xj{R:cZ}(hR:iD R){K:KF}{x3:lf}(h3:vq K x3):KM K (Dy R K x3):=λa0 a5 a6 a7 a8 H h=>pk hR (cc h3 .nil) h
def ye(R:cZ)(K:KF)(i2:aE):kD:=Dy R K (mT R K i2)
theorem Xk{R:cZ}(hR:iD R){K:KF}{i2:aE}(g2:jX K i2):KM K (ye R K i2):=Xj hR (tD hR g2)
def Dz(R:cZ)(K:KF)(a0 a5:AV)(H:AH):Prop:=sLen a0 λv1=>cI 0 v1 λz2=>aR (aB H) 1 4 [(.int 0 (.ofNat 0)),(.str 0 0),(.int 0 (.ofNat 0)),(.int 0 z2)] λv3 H4=>cQ 4 40 a5 v3 H4 λv5 H6=>K (.ret (.aL [v5,(.int 0 (.ofNat 0)),(.int 0 (.ofNat 0))])) H6
theorem Xl{R:cZ}(hR:iD R){K:KF}:KJ K (Dz R K):=λa0 a5 H h=>pk hR .nil h
def DA(R:cZ)(K:KF):cX:=Dz R K
theorem Xm{R:cZ}(hR:iD R){K:KF}:KJ K (DA R K):=Xl hR
def zb(R:cZ)(K:KF)(x3:lf)(a0 a5:AV)(a6:Int)(a7:AV)(pF:Int)(H:AH):Prop:=bI (bq pF (.ofNat 0)) (K (.ret (.aL [.ab,(.int 0 (.ofNat 14)),(.int 0 a6)])) H) (ax 0 (Int.add a6 pF) λz1=>lr a0 (some (.int 0 a6)) (some (.int 0 z1)) λv2=>ax 0 (Int.add a6 pF) λz3=>af 0 a7 λv4=>ah 1 v4 (.int 0 (.ofNat 5)) H λH5=>af 1 a7 λv6=>ah 1 v6 v2 H5 λH7=>x3 a0 a5 a7 z3 H7)
theorem QI{R:cZ}(hR:iD R){K:KF}{x3:lf}(h3:vq K x3):FB K (zb R K x3):=λa0 a5 a6 a7 pF H h=>pk hR (cc h3 .nil) h
def FC(R:cZ)(K:KF)(i2:aE):kD:=zb R K (mT R K i2)
theorem QJ{R:cZ}(hR:iD R){K:KF}{i2:aE}(g2:jX K i2):FB K (FC R K i2):=QI hR (tD hR g2)
def DB(R:cZ)(K:KF)(x10:kD)(a0 a5:AV)(a6:Int)(a7:AV)(H:AH):Prop:=R.2.2.2.2.2.2.2 a0 a6 H λo1 H2=>cR K o1 H2 λv3=>cI 0 v3 λz4=>x10 a0 a5 a6 a7 z4 H2
theorem Xn{R:cZ}(hR:iD R){K:KF}{x10:kD}(h10:FB K x10):KO K (DB R K x10):=λa0 a5 a6 a7 H h=>pk hR (cc h10 .nil) h
def yf(R:cZ)(K:KF)(i2:aE):iV:=DB R K (FC R K i2)
theorem Xo{R:cZ}(hR:iD R){K:KF}{i2:aE}(g2:jX K i2):KO K (yf R K i2):=Xn hR (QJ hR g2)
def vu(R:cZ)(K:KF)(x7:iV)(x4 x6:kD)(x1:cX)(x8:iV)(a0 a5:AV)(a6:Int)(H:AH):Prop:=sLen a0 λv1=>cI 0 v1 λz2=>bI (cg a6 z2) (eJ H (hN (aB H) [(.int 0 (.ofNat 0)),(.str 0 0),(.int 0 (.ofNat 0)),(.int 0 (.ofNat 0))] λv3 H4=>ah 4 v3 (.agg [(.int 0 (.ofNat 0)),(.str 0 0),(.int 0 (.ofNat 0)),(.int 0 a6)]) H4 λH5=>R.2.1 a0 a6 H5 λo6 H7=>cR K o6 H7 λv8=>cI 0 v8 λz9=>gT a0 (.int 0 a6) λv10=>cI 1 v10 λz11=>R.2.2.1 z11 H7 λoY fu=>cR K oY fu λv14=>bS v14 λmw=>bI mw (lr a0 (some (.int 0 a6)) (some (.int 0 z9)) λv16=>af 1 v3 λv17=>ah 1 v17 v16 fu λiy=>af 0 v3 λv19=>ah 1 v19 (.int 0 (.ofNat 2)) iy λjs=>x4 a0 a5 a6 v3 z9 js) (gT a0 (.int 0 a6) λv21=>cI 1 v21 λz22=>R.2.2.2.2.1 z22 fu λU1 pD=>cR K U1 pD λv25=>bS v25 λz26=>bI z26 (af 0 v3 λv27=>ah 1 v27 (.int 0 (.ofNat 3)) pD λpE=>x6 a0 a5 a6 v3 z9 pE) (gT a0 (.int 0 a6) λv29=>cI 1 v29 λz30=>bI (bq z30 (.ofNat 34)) (x7 a0 a5 a6 v3 pD) (gT a0 (.int 0 a6) λv31=>cI 1 v31 λz32=>bI (bq z32 (.ofNat 39)) (x7 a0 a5 a6 v3 pD) (x8 a0 a5 a6 v3 pD)))))) (x1 a0 a5 H)
theorem Xp{R:cZ}(hR:iD R){K:KF}{x7:iV}{x4 x6:kD}{x1:cX}{x8:iV}(h7:KN K x7)(h4:KK K x4)(h6:KM K x6)(h1:KJ K x1)(h8:KO K x8):jX K (vu R K x7 x4 x6 x1 x8):=λa0 a5 a6 H h=>pk hR (cc h7 (cc h4 (cc h6 (cc h1 (cc h8 .nil))))) h
def Xq(R:cZ)(K:KF)(i2:aE):aE:=vu R K (vt R K i2) (yd R K i2) (ye R K i2) (DA R K) (yf R K i2)
theorem Xr{R:cZ}(hR:iD R){K:KF}{i2:aE}(g2:jX K i2):jX K (Xq R K i2):=Xp hR (Xe hR g2) (Xi hR g2) (Xk hR g2) (Xm hR) (Xo hR g2)
def eH(R:cZ)(K:KF)(n:Nat):aE:=Nat.rec (motive:=λ_=>aE) (λ_ _ _ _=>False) (λ_ i=>Xq R K i) n
theorem Xs{R:cZ}(hR:iD R){K:KF}(n:Nat):jX K (eH R K n):=Nat.rec (motive:=λn=>jX K (eH R K n)) (λa0 a5 a6 H h=>h.elim) (λn ih=>Xr hR ih) n
def DC(R:cZ)(K:KF)(x2:aE)(a0:AV)(H:AH):Prop:=sLen a0 λv1=>cI 0 v1 λz2=>bI (cg (.ofNat 16384) z2) (K (.ret (.aL [.ab,(.int 0 (.ofNat 8)),(.int 0 (.ofNat 0))])) H) (R.1 a0 (.ofNat 0) H λo3 H4=>cR K o3 H4 λv5=>cI 0 v5 λz6=>x2 a0 .ab z6 H4)
theorem Xt{R:cZ}(hR:iD R){K:KF}{x2:aE}(h2:jX K x2)(a0:AV)(H:AH)(h:DC R K x2 a0 H):fb 16 K [] (bD (eD 16) [a0]) [] H:=pk hR (cc h2 .nil) h
def aj2(R:cZ)(K:KF):Ta:=DC R K (eH R K NL)
def afl(R:cZ):AV→AH→KF→Prop:=λa0 H K=>aj2 R K a0 H
theorem ag6(R:cZ)(hR:iD R):aC gPa 16 (aw [.a] (afl R)):=rk λK a0 H h=>Xt hR (Xs hR NL) a0 H h
def bg:cZ:=(f29,f30,f31,f32,f33,f34,f35,f36)
def f16:AV→AH→KF→Prop:=afl bg
theorem aj3:aC gPa 16 (aw [.a] f16):=ag6 bg (ag.cons ajC (ag.cons ajJ (ag.cons V4 (ag.cons ajO (ag.cons C5 (ag.cons ajR (ag.cons ajX (ag.cons aj0 ag.nil))))))))
abbrev zc:Type:=AV→AV→AV→AV→AH→Prop
abbrev jv:Type:=AV→AV→AV→AV→Int→Int→AH→Prop
abbrev aI:Type:=AV→AV→AV→Int→Int→AH→Prop
abbrev oC:Type:=AV→AV→AV→Int→Int→AV→AH→Prop
abbrev iE:Type:=AV→AV→AV→Int→Int→AV→Int→AH→Prop
abbrev DD:Type:=AV→AV→AV→Int→Int→AV→Int→Int→Bool→AH→Prop
abbrev mi:Type:=AV→AV→Int→AV→Int→Int→AH→Prop
abbrev aF:Type:=AV→AV→Int→Int→AH→Prop
abbrev dO:Type:=AV→AV→Int→Int→AV→Int→Int→AH→Prop
abbrev lg:Type:=(AV→AH→KF→Prop)×(AV→AH→KF→Prop)
def aj4(R:lg)(K:KF)(x2:aE)(a0 a3:AV)(a4:Int)(H:AH):Prop:=ax 0 (Int.add a4 (.ofNat 1)) λz1=>x2 a0 a3 z1 H
def aj5(R:lg)(K:KF)(i2:aE):aE:=aj4 R K i2
def aj6(R:lg)(K:KF)(x4:aF)(a0 a3:AV)(a4 a5:Int)(H:AH):Prop:=ax 0 (Int.add a5 (.ofNat 1)) λz1=>x4 a0 a3 a4 z1 H
def aj7(R:lg)(K:KF)(i2:aE)(i4:aF):aF:=aj6 R K i4
def aj8(R:lg)(K:KF)(x3:aE)(x5:aF)(a0 a3:AV)(a4 a5:Int)(H:AH):Prop:=bf 5 a0 (.int 0 a4) λv1=>af 4 v1 λv2=>ad v2 H λv3=>bN v3 λv4=>cI 0 v4 λz5=>bI (cg a5 z5) (bf 5 a0 (.int 0 a4) λv6=>af 4 v6 λv7=>ad v7 H λv8=>bf 1 v8 (.int 0 a5) λv9=>ad v9 H λv10=>R.1 v10 H λkC bO=>cR K kC bO λv13=>cQ 2 48 a3 v13 bO λv14 eM=>x5 a0 v14 a4 a5 eM) (x3 a0 a3 a4 H)
def aj9(R:lg)(K:KF)(i2:aE)(i4:aF):aF:=aj8 R K (aj5 R K i2) (aj7 R K i2 i4)
def aka(R:lg)(K:KF)(i2:aE)(n:Nat):aF:=Nat.rec (motive:=λ_=>aF) (λ_ _ _ _ _=>False) (λ_ i=>aj9 R K i2 i) n
def akb(R:lg)(K:KF)(a3:AV)(H:AH):Prop:=K (.ret a3) H
def akc(R:lg)(K:KF):Ta:=akb R K
def akd(R:lg)(K:KF)(x4:aF)(x1:Ta)(a0 a3:AV)(a4:Int)(H:AH):Prop:=bN a0 λv1=>cI 0 v1 λz2=>bI (cg a4 z2) (bf 5 a0 (.int 0 a4) λv3=>af 3 v3 λv4=>ad v4 H λv5=>R.2 v5 H λo6 H7=>cR K o6 H7 λv8=>cQ 2 48 a3 v8 H7 λv9 cm=>x4 a0 v9 a4 (.ofNat 0) cm) (x1 a3 H)
def ake(R:lg)(K:KF)(i2:aE):aE:=akd R K (aka R K i2 NL) (akc R K)
def akf(R:lg)(K:KF)(n:Nat):aE:=Nat.rec (motive:=λ_=>aE) (λ_ _ _ _=>False) (λ_ i=>ake R K i) n
def akg(R:lg)(K:KF)(x2:aE)(a0:AV)(H:AH):Prop:=x2 a0 .ab (.ofNat 0) H
def akh(R:lg)(K:KF):Ta:=akg R K (akf R K NL)
def aoC(R:lg):AV→AH→KF→Prop:=λa0 H K=>akh R K a0 H
abbrev lh:Type:=(AV→AH→KF→Prop)×(AV→AH→KF→Prop)
def aki(R:lh)(K:KF)(x2:aE)(a0 a3:AV)(a4:Int)(H:AH):Prop:=ax 0 (Int.add a4 (.ofNat 1)) λz1=>x2 a0 a3 z1 H
def akj(R:lh)(K:KF)(i2:aE):aE:=aki R K i2
def akk(R:lh)(K:KF)(x4:aF)(a0 a3:AV)(a4 a5:Int)(H:AH):Prop:=ax 0 (Int.add a5 (.ofNat 1)) λz1=>x4 a0 a3 a4 z1 H
def akl(R:lh)(K:KF)(i2:aE)(i4:aF):aF:=akk R K i4
def akm(R:lh)(K:KF)(x3:aE)(x5:aF)(a0 a3:AV)(a4 a5:Int)(H:AH):Prop:=bf 7 a0 (.int 0 a4) λv1=>af 6 v1 λv2=>ad v2 H λv3=>bN v3 λv4=>cI 0 v4 λz5=>bI (cg a5 z5) (bf 7 a0 (.int 0 a4) λv6=>af 6 v6 λv7=>ad v7 H λv8=>bf 2 v8 (.int 0 a5) λv9=>aN 2 v9 H λv10=>cL H (onVal v10 λGA=>gK GA 2 (aR (aB H) 1 2 (spl GA [.ab,.ab] 0) λv12 fu=>bT (Nat.beq fu.n (Nat.succ H.n)) (bf 7 a0 (.int 0 a4) λv14=>af 6 v14 λv15=>ad v15 fu λv16=>bf 2 v16 (.int 0 a5) λv17=>af 1 v17 λv18=>ad v18 fu λv19=>cQ 2 48 a3 v12 fu λv20 gZ=>ad v18 gZ λv22=>bT (bj v22 v19) (ad v15 gZ λv23=>bT (bj v23 v16) (R.1 v19 gZ λTX rf=>cR K TX rf λv26=>cQ 2 48 v20 v26 rf λv27 pE=>x5 a0 v27 a4 a5 pE)))))) (x3 a0 a3 a4 H)
def akn(R:lh)(K:KF)(i2:aE)(i4:aF):aF:=akm R K (akj R K i2) (akl R K i2 i4)
def ako(R:lh)(K:KF)(i2:aE)(n:Nat):aF:=Nat.rec (motive:=λ_=>aF) (λ_ _ _ _ _=>False) (λ_ i=>akn R K i2 i) n
def akp(R:lh)(K:KF)(a3:AV)(H:AH):Prop:=K (.ret a3) H
def akq(R:lh)(K:KF):Ta:=akp R K
def akr(R:lh)(K:KF)(x4:aF)(x1:Ta)(a0 a3:AV)(a4:Int)(H:AH):Prop:=bN a0 λv1=>cI 0 v1 λz2=>bI (cg a4 z2) (bf 7 a0 (.int 0 a4) λv3=>af 5 v3 λv4=>ad v4 H λv5=>R.2 v5 H λo6 H7=>cR K o6 H7 λv8=>cQ 2 48 a3 v8 H7 λv9 cm=>x4 a0 v9 a4 (.ofNat 0) cm) (x1 a3 H)
def aks(R:lh)(K:KF)(i2:aE):aE:=akr R K (ako R K i2 NL) (akq R K)
def akt(R:lh)(K:KF)(n:Nat):aE:=Nat.rec (motive:=λ_=>aE) (λ_ _ _ _=>False) (λ_ i=>aks R K i) n
def aku(R:lh)(K:KF)(x2:aE)(a0:AV)(H:AH):Prop:=x2 a0 .ab (.ofNat 0) H
def akv(R:lh)(K:KF):Ta:=aku R K (akt R K NL)
def aoD(R:lh):AV→AH→KF→Prop:=λa0 H K=>akv R K a0 H
abbrev s2R:Type:=(AV→AH→KF→Prop)×(AV→AH→KF→Prop)
def akw(S:s2R):lg:=(S.1,S.2)
def akx(S:s2R):lh:=(S.1,S.2)
noncomputable def s2(n:Nat):s2R:=Nat.rec (motive:=λ_=>s2R) (λ_ _ _=>False,λ_ _ _=>False) (λ_ S=>(aoC (akw S),aoD (akx S))) n
def f12:AV→AH→KF→Prop:=(s2 NL).1
abbrev j5:Type:=Unit
def aky(R:j5):List (Nat×dq):=[]
abbrev wM(R:j5):Prop:=ag gPa (aky R)
abbrev KU(K:KF)(F:T_):Prop:=aT 13 K [1,1,1] 26 [] [] F
abbrev sB(K:KF)(F:aE):Prop:=aT 13 K [0,1,0,1,1] 26 [0,1,5] [.a,.a,.i 0] F
def Xu(R:j5)(K:KF)(H:AH):Prop:=K (.ret (.bool true)) H
theorem Xv{R:j5}(hR:wM R){K:KF}:KU K (Xu R K):=λH h=>pk hR .nil h
def Xw(R:j5)(K:KF):T_:=Xu R K
theorem Xx{R:j5}(hR:wM R){K:KF}:KU K (Xw R K):=Xv hR
def Xy(R:j5)(K:KF)(x2:aE)(x1:T_)(a0 a1:AV)(a5:Int)(H:AH):Prop:=bN a0 λv1=>cI 0 v1 λz2=>bI (cg a5 z2) (bf 1 a0 (.int 0 a5) λv3=>ad v3 H λv4=>bf 1 a1 (.int 0 a5) λv5=>ad v5 H λv6=>sNe v4 v6 λv7=>bS v7 λz8=>bI z8 (K (.ret (.bool false)) H) (ax 0 (Int.add a5 (.ofNat 1)) λz9=>x2 a0 a1 z9 H)) (x1 H)
theorem Xz{R:j5}(hR:wM R){K:KF}{x2:aE}{x1:T_}(h2:sB K x2)(h1:KU K x1):sB K (Xy R K x2 x1):=λa0 a1 a5 H h=>pk hR (cc h2 (cc h1 .nil)) h
def XA(R:j5)(K:KF)(i2:aE):aE:=Xy R K i2 (Xw R K)
theorem XB{R:j5}(hR:wM R){K:KF}{i2:aE}(g2:sB K i2):sB K (XA R K i2):=Xz hR g2 (Xx hR)
def KV(R:j5)(K:KF)(n:Nat):aE:=Nat.rec (motive:=λ_=>aE) (λ_ _ _ _=>False) (λ_ i=>XA R K i) n
theorem XC{R:j5}(hR:wM R){K:KF}(n:Nat):sB K (KV R K n):=Nat.rec (motive:=λn=>sB K (KV R K n)) (λa0 a1 a5 H h=>h.elim) (λn ih=>XB hR ih) n
def XD(R:j5)(K:KF)(x2:aE)(a0 a1:AV)(H:AH):Prop:=bN a0 λv1=>cI 0 v1 λz2=>bN a1 λv3=>cI 0 v3 λz4=>bI (!(bq z2 z4)) (K (.ret (.bool false)) H) (x2 a0 a1 (.ofNat 0) H)
theorem XE{R:j5}(hR:wM R){K:KF}{x2:aE}(h2:sB K x2)(a0 a1:AV)(H:AH)(h:XD R K x2 a0 a1 H):fb 13 K [] (bD (eD 13) [a0,a1]) [] H:=pk hR (cc h2 .nil) h
def akz(R:j5)(K:KF):cX:=XD R K (KV R K NL)
def afm(R:j5):AV→AV→AH→KF→Prop:=λa0 a1 H K=>akz R K a0 a1 H
theorem ag7(R:j5)(hR:wM R):aC gPa 13 (aw [.a,.a] (afm R)):=rk λK a0 a1 H h=>XE hR (XC hR NL) a0 a1 H h
def XF:j5:=()
def f13:AV→AV→AH→KF→Prop:=afm XF
theorem akA:aC gPa 13 (aw [.a,.a] f13):=ag7 XF ag.nil
abbrev j6:Type:=Unit
def akB(R:j6):List (Nat×dq):=[]
abbrev wN(R:j6):Prop:=ag gPa (akB R)
abbrev KW(K:KF)(F:T_):Prop:=aT 49 K [1,1] 19 [] [] F
abbrev sC(K:KF)(F:aF):Prop:=aT 49 K [0,1,0,1] 19 [0,1,7,8] [.a,.a,.i 0,.i 0] F
def DE(R:j6)(K:KF)(H:AH):Prop:=K (.ret (.int 0 (.negSucc 0))) H
theorem XG{R:j6}(hR:wN R){K:KF}:KW K (DE R K):=λH h=>pk hR .nil h
def XH(R:j6)(K:KF):T_:=DE R K
theorem XI{R:j6}(hR:wN R){K:KF}:KW K (XH R K):=XG hR
def DF(R:j6)(K:KF)(x2:aF)(x1:T_)(a0 a1:AV)(a7 a8:Int)(H:AH):Prop:=bI (cg a8 a7) (bf 1 a0 (.int 0 a8) λv1=>ad v1 H λv2=>ux a1 v2 λv3=>bS v3 λz4=>bI z4 (K (.ret (.int 0 a8)) H) (ax 0 (Int.add a8 (.ofNat 1)) λz5=>x2 a0 a1 a7 z5 H)) (x1 H)
theorem XJ{R:j6}(hR:wN R){K:KF}{x2:aF}{x1:T_}(h2:sC K x2)(h1:KW K x1):sC K (DF R K x2 x1):=λa0 a1 a7 a8 H h=>pk hR (cc h2 (cc h1 .nil)) h
def XK(R:j6)(K:KF)(i2:aF):aF:=DF R K i2 (XH R K)
theorem XL{R:j6}(hR:wN R){K:KF}{i2:aF}(g2:sC K i2):sC K (XK R K i2):=XJ hR g2 (XI hR)
def vx(R:j6)(K:KF)(n:Nat):aF:=Nat.rec (motive:=λ_=>aF) (λ_ _ _ _ _=>False) (λ_ i=>XK R K i) n
theorem XM{R:j6}(hR:wN R){K:KF}(n:Nat):sC K (vx R K n):=Nat.rec (motive:=λn=>sC K (vx R K n)) (λa0 a1 a7 a8 H h=>h.elim) (λn ih=>XL hR ih) n
def DG(R:j6)(K:KF)(x2:aF)(a0 a1:AV)(H:AH):Prop:=bN a0 λv1=>cI 0 v1 λz2=>x2 a0 a1 z2 (.ofNat 0) H
theorem XN{R:j6}(hR:wN R){K:KF}{x2:aF}(h2:sC K x2)(a0 a1:AV)(H:AH)(h:DG R K x2 a0 a1 H):fb 49 K [] (bD (eD 49) [a0,a1]) [] H:=pk hR (cc h2 .nil) h
def akC(R:j6)(K:KF):cX:=DG R K (vx R K NL)
def afn(R:j6):AV→AV→AH→KF→Prop:=λa0 a1 H K=>akC R K a0 a1 H
theorem ag8(R:j6)(hR:wN R):aC gPa 49 (aw [.a,.a] (afn R)):=rk λK a0 a1 H h=>XN hR (XM hR NL) a0 a1 H h
def qD:j6:=()
def f49:AV→AV→AH→KF→Prop:=afn qD
theorem akD:aC gPa 49 (aw [.a,.a] f49):=ag8 qD ag.nil
abbrev tE:Type:=(AV→AV→AH→KF→Prop)
def akE(R:tE):List (Nat×dq):=[(49,aw [.a,.a] R)]
abbrev afo(R:tE):Prop:=ag gPa (akE R)
def DH(R:tE)(K:KF)(a0 a1:AV)(H:AH):Prop:=R a0 a1 H λo1 H2=>cR K o1 H2 λv3=>cI 0 v3 λz4=>K (.ret (.bool (!(cg z4 (.ofNat 0))))) H2
theorem XO{R:tE}(hR:afo R){K:KF}(a0 a1:AV)(H:AH)(h:DH R K a0 a1 H):fb 23 K [] (bD (eD 23) [a0,a1]) [] H:=pk hR .nil h
def akF(R:tE)(K:KF):cX:=DH R K
def afp(R:tE):AV→AV→AH→KF→Prop:=λa0 a1 H K=>akF R K a0 a1 H
theorem ag9(R:tE)(hR:afo R):aC gPa 23 (aw [.a,.a] (afp R)):=rk λK a0 a1 H h=>XO hR a0 a1 H h
def KX:tE:=(f49)
def f23:AV→AV→AH→KF→Prop:=afp KX
theorem KY:aC gPa 23 (aw [.a,.a] f23):=ag9 KX (ag.cons akD ag.nil)
abbrev tF:Type:=(AV→AV→AH→KF→Prop)×(AV→AH→KF→Prop)
def akG(R:tF):List (Nat×dq):=[(23,aw [.a,.a] R.1),(24,aw [.a] R.2)]
abbrev afq(R:tF):Prop:=ag gPa (akG R)
def DI(R:tF)(K:KF)(a0:AV)(H:AH):Prop:=R.2 (.str 130 4989745452750927712642869024936041018982183869112399744596646328559347698139019358746423479417311085373974869505494574274628988303325946808601483887101106809989390966068797068531459062952690525578417336589675308608346298249300317674214036809461764501959304432550546839486516338336139505618763273980857346390260084) H λo1 H2=>cR K o1 H2 λv3=>R.1 v3 a0 H2 λo4 H5=>cR K o4 H5 λv6=>bS v6 λz7=>K (.ret (.bool z7)) H5
theorem XP{R:tF}(hR:afq R){K:KF}(a0:AV)(H:AH)(h:DI R K a0 H):fb 10 K [] (bD (eD 10) [a0]) [] H:=pk hR .nil h
def akH(R:tF)(K:KF):Ta:=DI R K
def QK(R:tF):AV→AH→KF→Prop:=λa0 H K=>akH R K a0 H
theorem On(R:tF)(hR:afq R):aC gPa 10 (aw [.a] (QK R)):=rk λK a0 H h=>XP hR a0 H h
abbrev nZ:Type:=(AV→AH→KF→Prop)×(AV→AV→AH→KF→Prop)
def akI(R:nZ):List (Nat×dq):=[(10,aw [.a] R.1),(23,aw [.a,.a] R.2)]
abbrev Hf(R:nZ):Prop:=ag gPa (akI R)
abbrev KZ(K:KF)(F:cX):Prop:=aT 73 K [0,1] 35 [0,1] [.a,.a] F
def XQ(R:nZ)(K:KF)(a0 a1:AV)(H:AH):Prop:=ao a0 (af 1 a0 λv1=>ad v1 H λv2=>one a1 (aR (aB H) 1 1 [a1] λv3 H4=>cQ 1 16 v2 v3 H4 λv5 H6=>ao a0 (af 1 a0 λv7=>ah 1 v7 v5 H6 λH8=>K (.ret (.aL [])) H8)))
theorem XR{R:nZ}(hR:Hf R){K:KF}:KZ K (XQ R K):=λa0 a1 H h=>pk hR .nil h
def XS(R:nZ)(K:KF):cX:=XQ R K
theorem XT{R:nZ}(hR:Hf R){K:KF}:KZ K (XS R K):=XR hR
def XU(R:nZ)(K:KF)(x1:cX)(a0 a1:AV)(H:AH):Prop:=ao a0 (af 0 a0 λv1=>ad v1 H λv2=>R.2 v2 a1 H λo3 H4=>cR K o3 H4 λv5=>bS v5 λz6=>bI (!z6) (R.1 a1 H4 λo7 H8=>cR K o7 H8 λv9=>bS v9 λz10=>bI (!z10) (ao a0 (af 1 a0 λv11=>ad v11 H8 λv12=>R.2 v12 a1 H8 λlB dh=>cR K lB dh λv15=>bS v15 λqt=>bI (!qt) (x1 a0 a1 dh) (K (.ret (.aL [])) dh))) (K (.ret (.aL [])) H8)) (K (.ret (.aL [])) H4))
theorem XV{R:nZ}(hR:Hf R){K:KF}{x1:cX}(h1:KZ K x1)(a0 a1:AV)(H:AH)(h:XU R K x1 a0 a1 H):fb 73 K [] (bD (eD 73) [a0,a1]) [] H:=pk hR (cc h1 .nil) h
def akJ(R:nZ)(K:KF):cX:=XU R K (XS R K)
def QL(R:nZ):AV→AV→AH→KF→Prop:=λa0 a1 H K=>akJ R K a0 a1 H
theorem aha(R:nZ)(hR:Hf R):aC gPa 73 (aw [.a,.a] (QL R)):=rk λK a0 a1 H h=>XV hR (XT hR) a0 a1 H h
abbrev jh:Type:=(AV→AV→AH→KF→Prop)×(AV→AV→AH→KF→Prop)
def akK(R:jh):List (Nat×dq):=[(52,aw [.a,.a] R.1),(53,aw [.a,.a] R.2)]
abbrev rv(R:jh):Prop:=ag gPa (akK R)
abbrev K0(K:KF)(F:lf):Prop:=aT 27 K [1,1] 47 [0,2,3,8] [.a,.a,.a,.i 0] F
abbrev K1(K:KF)(F:aE):Prop:=aT 27 K [1,1,1] 47 [0,3,8] [.a,.a,.i 0] F
abbrev sD(K:KF)(F:mi):Prop:=aT 27 K [0,1,0,1,1] 47 [0,3,8,25,26,27] [.a,.a,.i 0,.a,.i 0,.i 0] F
def XW(R:jh)(K:KF)(a0 a3:AV)(a8:Int)(H:AH):Prop:=R.2 a0 a3 H λo1 H2=>cR K o1 H2 λv3=>ao a0 (af 0 a0 λv4=>ad v4 H2 λv5=>fE 1 v5 none (some (.int 0 a8)) none λv6=>ao a0 (af 0 a0 λv7=>ah 1 v7 v6 H2 λH8=>K (.ret (.aL [])) H8))
theorem XX{R:jh}(hR:rv R){K:KF}:K1 K (XW R K):=λa0 a3 a8 H h=>pk hR .nil h
def XY(R:jh)(K:KF):aE:=XW R K
theorem XZ{R:jh}(hR:rv R){K:KF}:K1 K (XY R K):=XX hR
def X0(R:jh)(K:KF)(x3:mi)(x2:aE)(a0 a3:AV)(a8:Int)(a25:AV)(a26 a27:Int)(H:AH):Prop:=bI (cg a27 a26) (bf 5 a25 (.int 0 a27) λv1=>aN 5 v1 H λv2=>eJ H (hN (aB H) [(.int 0 (.ofNat 0)),(.int 0 (.ofNat 0)),.ab,.ab,.ab] λv3 H4=>ah 5 v3 v2 H4 λH5=>aN 5 v3 H5 λv6=>R.1 a0 v6 H5 λo7 H8=>cR K o7 H8 λv9=>ax 0 (Int.add a27 (.ofNat 1)) λz10=>x3 a0 a3 a8 a25 a26 z10 H8)) (x2 a0 a3 a8 H)
theorem X1{R:jh}(hR:rv R){K:KF}{x3:mi}{x2:aE}(h3:sD K x3)(h2:K1 K x2):sD K (X0 R K x3 x2):=λa0 a3 a8 a25 a26 a27 H h=>pk hR (cc h3 (cc h2 .nil)) h
def X2(R:jh)(K:KF)(i3:mi):mi:=X0 R K i3 (XY R K)
theorem X3{R:jh}(hR:rv R){K:KF}{i3:mi}(g3:sD K i3):sD K (X2 R K i3):=X1 hR g3 (XZ hR)
def K2(R:jh)(K:KF)(n:Nat):mi:=Nat.rec (motive:=λ_=>mi) (λ_ _ _ _ _ _ _=>False) (λ_ i=>X2 R K i) n
theorem X4{R:jh}(hR:rv R){K:KF}(n:Nat):sD K (K2 R K n):=Nat.rec (motive:=λn=>sD K (K2 R K n)) (λa0 a3 a8 a25 a26 a27 H h=>h.elim) (λn ih=>X3 hR ih) n
def X5(R:jh)(K:KF)(x3:mi)(a0 a2 a3:AV)(a8:Int)(H:AH):Prop:=bN a2 λv1=>cI 0 v1 λz2=>x3 a0 a3 a8 a2 z2 (.ofNat 0) H
theorem X6{R:jh}(hR:rv R){K:KF}{x3:mi}(h3:sD K x3):K0 K (X5 R K x3):=λa0 a2 a3 a8 H h=>pk hR (cc h3 .nil) h
def X7(R:jh)(K:KF):lf:=X5 R K (K2 R K NL)
theorem X8{R:jh}(hR:rv R){K:KF}:K0 K (X7 R K):=X6 hR (X4 hR NL)
def X9(R:jh)(K:KF)(x1:lf)(a0 a1 a2 a3:AV)(H:AH):Prop:=ao a0 (af 0 a0 λv1=>ad v1 H λv2=>bN v2 λv3=>cI 0 v3 λz4=>ao a0 (af 0 a0 λv5=>ad v5 H λv6=>cQ 1 16 v6 a1 H λv7 H8=>ao a0 (af 0 a0 λv9=>ah 1 v9 v7 H8 λcm=>x1 a0 a2 a3 z4 cm)))
theorem Ya{R:jh}(hR:rv R){K:KF}{x1:lf}(h1:K0 K x1)(a0 a1 a2 a3:AV)(H:AH)(h:X9 R K x1 a0 a1 a2 a3 H):fb 27 K [] (bD (eD 27) [a0,a1,a2,a3]) [] H:=pk hR (cc h1 .nil) h
def akL(R:jh)(K:KF):zc:=X9 R K (X7 R K)
def QM(R:jh):AV→AV→AV→AV→AH→KF→Prop:=λa0 a1 a2 a3 H K=>akL R K a0 a1 a2 a3 H
theorem ahb(R:jh)(hR:rv R):aC gPa 27 (aw [.a,.a,.a,.a] (QM R)):=rk λK a0 a1 a2 a3 H h=>Ya hR (X8 hR) a0 a1 a2 a3 H h
abbrev dp:Type:=(AV→AV→AV→AV→AH→KF→Prop)×(AV→AV→AH→KF→Prop)
def akM(R:dp):List (Nat×dq):=[(27,aw [.a,.a,.a,.a] R.1),(53,aw [.a,.a] R.2)]
abbrev ji(R:dp):Prop:=ag gPa (akM R)
abbrev K3(K:KF)(F:cX):Prop:=aT 52 K [1,0,1,1,1,0,1,1] 103 [0,3] [.a,.a] F
abbrev sE(K:KF)(F:aI):Prop:=aT 52 K [0,1,0,1,1,1,1,1,0,1,1] 103 [0,3,64,65,66] [.a,.a,.a,.i 0,.i 0] F
abbrev K4(K:KF)(F:aI):Prop:=aT 52 K [1,0,1,1,1,1,1,1,1,0,1,1] 103 [0,3,79,80,81] [.a,.a,.a,.i 0,.i 0] F
abbrev K5(K:KF)(F:cX):Prop:=aT 52 K [1,1,1,1,1,1,1,1,1,0,1,1] 103 [0,3] [.a,.a] F
abbrev pf(K:KF)(F:aI):Prop:=aT 52 K [0,1,0,1,1,1,1,1,1,1,0,1,1] 103 [0,3,79,80,81] [.a,.a,.a,.i 0,.i 0] F
abbrev sF(K:KF)(F:aI):Prop:=aT 52 K [0,1,1,1,1,1,1,1,1,1,1,0,1,1] 103 [0,3,17,18,19] [.a,.a,.a,.i 0,.i 0] F
abbrev K6(K:KF)(F:aI):Prop:=aT 52 K [1,1,1,0,0,1,0,1,1,1,1,1,1,1,0,1,1] 103 [0,3,79,80,81] [.a,.a,.a,.i 0,.i 0] F
abbrev K7(K:KF)(F:jv):Prop:=aT 52 K [1,1,0,0,1,1,0,0,1,0,1,1,1,1,1,1,1,0,1,1] 103 [0,3,7,79,80,81] [.a,.a,.a,.a,.i 0,.i 0] F
def Yb(R:dp)(K:KF)(x2:aI)(a0 a3 a64:AV)(a65 a66:Int)(H:AH):Prop:=bI (cg a66 a65) (bf 1 a64 (.int 0 a66) λv1=>ad v1 H λv2=>af 3 a3 λv3=>ad v3 H λv4=>R.1 a0 .ab v2 v4 H λo5 H6=>cR K o5 H6 λv7=>ax 0 (Int.add a66 (.ofNat 1)) λz8=>x2 a0 a3 a64 a65 z8 H6) (K (.ret (.aL [])) H)
theorem Yc{R:dp}(hR:ji R){K:KF}{x2:aI}(h2:sE K x2):sE K (Yb R K x2):=λa0 a3 a64 a65 a66 H h=>pk hR (cc h2 .nil) h
def Yd(R:dp)(K:KF)(i2:aI):aI:=Yb R K i2
theorem Ye{R:dp}(hR:ji R){K:KF}{i2:aI}(g2:sE K i2):sE K (Yd R K i2):=Yc hR g2
def K8(R:dp)(K:KF)(n:Nat):aI:=Nat.rec (motive:=λ_=>aI) (λ_ _ _ _ _ _=>False) (λ_ i=>Yd R K i) n
theorem Yf{R:dp}(hR:ji R){K:KF}(n:Nat):sE K (K8 R K n):=Nat.rec (motive:=λn=>sE K (K8 R K n)) (λa0 a3 a64 a65 a66 H h=>h.elim) (λn ih=>Ye hR ih) n
def Yg(R:dp)(K:KF)(a0 a3:AV)(H:AH):Prop:=af 3 a3 λv1=>ad v1 H λv2=>R.2 a0 v2 H λo3 H4=>cR K o3 H4 λv5=>K (.ret (.aL [])) H4
theorem Yh{R:dp}(hR:ji R){K:KF}:K3 K (Yg R K):=λa0 a3 H h=>pk hR .nil h
def Yi(R:dp)(K:KF):cX:=Yg R K
theorem Yj{R:dp}(hR:ji R){K:KF}:K3 K (Yi R K):=Yh hR
def Yk(R:dp)(K:KF)(x5:aI)(a0 a3 a79:AV)(a80 pG:Int)(H:AH):Prop:=ax 0 (Int.add pG (.ofNat 1)) λz1=>x5 a0 a3 a79 a80 z1 H
theorem Yl{R:dp}(hR:ji R){K:KF}{x5:aI}(h5:pf K x5):K6 K (Yk R K x5):=λa0 a3 a79 a80 pG H h=>pk hR (cc h5 .nil) h
def Ym(R:dp)(K:KF)(i5:aI):aI:=Yk R K i5
theorem Yn{R:dp}(hR:ji R){K:KF}{i5:aI}(g5:pf K i5):K6 K (Ym R K i5):=Yl hR g5
def Yo(R:dp)(K:KF)(x7:aI)(a0 a3 a7 a79:AV)(a80 pG:Int)(H:AH):Prop:=R.1 a0 .ab a7 .ab H λo1 H2=>cR K o1 H2 λv3=>x7 a0 a3 a79 a80 pG H2
theorem Yp{R:dp}(hR:ji R){K:KF}{x7:aI}(h7:K6 K x7):K7 K (Yo R K x7):=λa0 a3 a7 a79 a80 pG H h=>pk hR (cc h7 .nil) h
def Yq(R:dp)(K:KF)(i5:aI):jv:=Yo R K (Ym R K i5)
theorem Yr{R:dp}(hR:ji R){K:KF}{i5:aI}(g5:pf K i5):K7 K (Yq R K i5):=Yp hR (Yn hR g5)
def Ys(R:dp)(K:KF)(x8:jv)(a0 a3 a79:AV)(a80 pG:Int)(H:AH):Prop:=bI (cg pG a80) (bf 1 a79 (.int 0 pG) λv1=>ad v1 H λv2=>af 3 a3 λv3=>ad v3 H λv4=>bN v4 λv5=>cI 0 v5 λz6=>bI (cg pG z6) (af 3 a3 λv7=>ad v7 H λv8=>ax 0 (Int.add pG (.ofNat 1)) λz9=>fE 7 v8 (some (.int 0 pG)) (some (.int 0 z9)) none λv10=>R.2 a0 v10 H λkC bO=>cR K kC bO λv13=>x8 a0 a3 v2 a79 a80 pG bO) (x8 a0 a3 v2 a79 a80 pG H)) (K (.ret (.aL [])) H)
theorem Yt{R:dp}(hR:ji R){K:KF}{x8:jv}(h8:K7 K x8):pf K (Ys R K x8):=λa0 a3 a79 a80 pG H h=>pk hR (cc h8 .nil) h
def Yu(R:dp)(K:KF)(i5:aI):aI:=Ys R K (Yq R K i5)
theorem Yv{R:dp}(hR:ji R){K:KF}{i5:aI}(g5:pf K i5):pf K (Yu R K i5):=Yt hR (Yr hR g5)
def K9(R:dp)(K:KF)(n:Nat):aI:=Nat.rec (motive:=λ_=>aI) (λ_ _ _ _ _ _=>False) (λ_ i=>Yu R K i) n
theorem Yw{R:dp}(hR:ji R){K:KF}(n:Nat):pf K (K9 R K n):=Nat.rec (motive:=λn=>pf K (K9 R K n)) (λa0 a3 a79 a80 pG H h=>h.elim) (λn ih=>Yv hR ih) n
def Yx(R:dp)(K:KF)(x5:aI)(a0 a3 a79:AV)(a80 pG:Int)(H:AH):Prop:=x5 a0 a3 a79 a80 pG H
theorem Yy{R:dp}(hR:ji R){K:KF}{x5:aI}(h5:pf K x5):K4 K (Yx R K x5):=λa0 a3 a79 a80 pG H h=>pk hR (cc h5 .nil) h
def Yz(R:dp)(K:KF):aI:=Yx R K (K9 R K NL)
theorem YA{R:dp}(hR:ji R){K:KF}:K4 K (Yz R K):=Yy hR (Yw hR NL)
def YB(R:dp)(K:KF)(x6:aI)(a0 a3 a17:AV)(DJ yg:Int)(H:AH):Prop:=bI (cg yg DJ) (bf 1 a17 (.int 0 yg) λv1=>ad v1 H λv2=>af 2 a3 λv3=>ad v3 H λv4=>R.1 a0 v4 v2 .ab H λo5 H6=>cR K o5 H6 λv7=>ax 0 (Int.add yg (.ofNat 1)) λz8=>x6 a0 a3 a17 DJ z8 H6) (K (.ret (.aL [])) H)
theorem YC{R:dp}(hR:ji R){K:KF}{x6:aI}(h6:sF K x6):sF K (YB R K x6):=λa0 a3 a17 DJ yg H h=>pk hR (cc h6 .nil) h
def YD(R:dp)(K:KF)(i6:aI):aI:=YB R K i6
theorem YE{R:dp}(hR:ji R){K:KF}{i6:aI}(g6:sF K i6):sF K (YD R K i6):=YC hR g6
def La(R:dp)(K:KF)(n:Nat):aI:=Nat.rec (motive:=λ_=>aI) (λ_ _ _ _ _ _=>False) (λ_ i=>YD R K i) n
theorem YF{R:dp}(hR:ji R){K:KF}(n:Nat):sF K (La R K n):=Nat.rec (motive:=λn=>sF K (La R K n)) (λa0 a3 a17 DJ yg H h=>h.elim) (λn ih=>YE hR ih) n
def YG(R:dp)(K:KF)(x6:aI)(a0 a3:AV)(H:AH):Prop:=af 4 a3 λv1=>ad v1 H λv2=>bN v2 λv3=>cI 0 v3 λz4=>x6 a0 a3 v2 z4 (.ofNat 0) H
theorem YH{R:dp}(hR:ji R){K:KF}{x6:aI}(h6:sF K x6):K5 K (YG R K x6):=λa0 a3 H h=>pk hR (cc h6 .nil) h
def YI(R:dp)(K:KF):cX:=YG R K (La R K NL)
theorem YJ{R:dp}(hR:ji R){K:KF}:K5 K (YI R K):=YH hR (YF hR NL)
def YK(R:dp)(K:KF)(x2:aI)(x1:cX)(x3:aI)(x4:cX)(a0 a1:AV)(H:AH):Prop:=mj (aB H) a1 λv1 H2=>af 0 v1 λv3=>ad v3 H2 λv4=>cI 0 v4 λz5=>bI (bq z5 (.ofNat 1)) (af 3 v1 λv6=>ad v6 H2 λv7=>R.2 a0 v7 H2 λo8 H9=>cR K o8 H9 λv10=>ao a0 (af 0 a0 λv11=>ad v11 H9 λv12=>af 2 v1 λv13=>ad v13 H9 λv14=>cQ 1 16 v12 v14 H9 λv15 eE=>ao a0 (af 0 a0 λv17=>ah 1 v17 v15 eE λiy=>K (.ret (.aL [])) iy))) (bI (bq z5 (.ofNat 12)) (ao a0 (af 0 a0 λv19=>ad v19 H2 λv20=>af 2 v1 λv21=>ad v21 H2 λv22=>cQ 1 16 v20 v22 H2 λv23 pD=>ao a0 (af 0 a0 λv25=>ah 1 v25 v23 pD λq9=>x1 a0 v1 q9))) (bI (bq z5 (.ofNat 8)) (af 4 v1 λv27=>ad v27 H2 λv28=>bN v28 λv29=>cI 0 v29 λz30=>x2 a0 v1 v28 z30 (.ofNat 0) H2) (bI (bq z5 (.ofNat 4)) (af 4 v1 λv31=>ad v31 H2 λv32=>bN v32 λv33=>cI 0 v33 λz34=>x3 a0 v1 v32 z34 (.ofNat 0) H2) (af 3 v1 λv35=>ad v35 H2 λv36=>R.2 a0 v36 H2 λo37 Js=>cR K o37 Js λv39=>x4 a0 v1 Js))))
theorem YL{R:dp}(hR:ji R){K:KF}{x2:aI}{x1:cX}{x3:aI}{x4:cX}(h2:sE K x2)(h1:K3 K x1)(h3:K4 K x3)(h4:K5 K x4)(a0 a1:AV)(H:AH)(h:YK R K x2 x1 x3 x4 a0 a1 H):fb 52 K [] (bD (eD 52) [a0,a1]) [] H:=pk hR (cc h2 (cc h1 (cc h3 (cc h4 .nil)))) h
def akN(R:dp)(K:KF):cX:=YK R K (K8 R K NL) (Yi R K) (Yz R K) (YI R K)
def QN(R:dp):AV→AV→AH→KF→Prop:=λa0 a1 H K=>akN R K a0 a1 H
theorem ahc(R:dp)(hR:ji R):aC gPa 52 (aw [.a,.a] (QN R)):=rk λK a0 a1 H h=>YL hR (Yf hR NL) (Yj hR) (YA hR) (YJ hR) a0 a1 H h
abbrev fJ:Type:=(AV→AV→AV→AV→AH→KF→Prop)×(AV→AV→AH→KF→Prop)×(AV→AV→AH→KF→Prop)
def akO(R:fJ):List (Nat×dq):=[(27,aw [.a,.a,.a,.a] R.1),(53,aw [.a,.a] R.2.1),(73,aw [.a,.a] R.2.2)]
abbrev mB(R:fJ):Prop:=ag gPa (akO R)
abbrev lV(K:KF)(F:aF):Prop:=aT 53 K [0,1] 40 [0,8,9,10] [.a,.a,.i 0,.i 0] F
abbrev Lb(K:KF)(F:aF):Prop:=aT 53 K [1,1,1,0,0,1] 40 [0,8,9,10] [.a,.a,.i 0,.i 0] F
abbrev Lc(K:KF)(F:aI):Prop:=aT 53 K [1,1,0,0,1,1,0,0,1] 40 [0,5,8,9,10] [.a,.a,.a,.i 0,.i 0] F
abbrev qE(K:KF)(F:dO):Prop:=aT 53 K [0,1,1,1,1,0,0,1,1,0,0,1] 40 [0,8,9,10,26,27,28] [.a,.a,.i 0,.i 0,.a,.i 0,.i 0] F
abbrev Ld(K:KF)(F:dO):Prop:=aT 53 K [1,1,1,0,0,1,1,1,1,0,0,1,1,0,0,1] 40 [0,8,9,10,26,27,28] [.a,.a,.i 0,.i 0,.a,.i 0,.i 0] F
def YM(R:fJ)(K:KF)(x1:aF)(a0 a8:AV)(a9 a10:Int)(H:AH):Prop:=ax 0 (Int.add a10 (.ofNat 1)) λz1=>x1 a0 a8 a9 z1 H
theorem YN{R:fJ}(hR:mB R){K:KF}{x1:aF}(h1:lV K x1):Lb K (YM R K x1):=λa0 a8 a9 a10 H h=>pk hR (cc h1 .nil) h
def YO(R:fJ)(K:KF)(i1:aF):aF:=YM R K i1
theorem YP{R:fJ}(hR:mB R){K:KF}{i1:aF}(g1:lV K i1):Lb K (YO R K i1):=YN hR g1
def YQ(R:fJ)(K:KF)(x4:dO)(a0 a8:AV)(a9 a10:Int)(a26:AV)(a27 a28:Int)(H:AH):Prop:=ax 0 (Int.add a28 (.ofNat 1)) λz1=>x4 a0 a8 a9 a10 a26 a27 z1 H
theorem YR{R:fJ}(hR:mB R){K:KF}{x4:dO}(h4:qE K x4):Ld K (YQ R K x4):=λa0 a8 a9 a10 a26 a27 a28 H h=>pk hR (cc h4 .nil) h
def YS(R:fJ)(K:KF)(i1:aF)(i4:dO):dO:=YQ R K i4
theorem YT{R:fJ}(hR:mB R){K:KF}{i1:aF}{i4:dO}(g1:lV K i1)(g4:qE K i4):Ld K (YS R K i1 i4):=YR hR g4
def YU(R:fJ)(K:KF)(x2:aF)(x5:dO)(a0 a8:AV)(a9 a10:Int)(a26:AV)(a27 a28:Int)(H:AH):Prop:=bI (cg a28 a27) (bf 2 a26 (.int 0 a28) λv1=>aN 2 v1 H λv2=>eJ H (hN (aB H) [.ab,.ab] λv3 H4=>ah 2 v3 v2 H4 λH5=>af 0 v3 λv6=>ad v6 H5 λv7=>af 1 v3 λv8=>ad v8 H5 λv9=>R.1 a0 v7 v9 .ab H5 λBM iQ=>cR K BM iQ λv12=>x5 a0 a8 a9 a10 a26 a27 a28 iQ)) (x2 a0 a8 a9 a10 H)
theorem YV{R:fJ}(hR:mB R){K:KF}{x2:aF}{x5:dO}(h2:Lb K x2)(h5:Ld K x5):qE K (YU R K x2 x5):=λa0 a8 a9 a10 a26 a27 a28 H h=>pk hR (cc h2 (cc h5 .nil)) h
def YW(R:fJ)(K:KF)(i1:aF)(i4:dO):dO:=YU R K (YO R K i1) (YS R K i1 i4)
theorem YX{R:fJ}(hR:mB R){K:KF}{i1:aF}{i4:dO}(g1:lV K i1)(g4:qE K i4):qE K (YW R K i1 i4):=YV hR (YP hR g1) (YT hR g1 g4)
def Le(R:fJ)(K:KF)(i1:aF)(n:Nat):dO:=Nat.rec (motive:=λ_=>dO) (λ_ _ _ _ _ _ _ _=>False) (λ_ i=>YW R K i1 i) n
theorem YY{R:fJ}(hR:mB R){K:KF}{i1:aF}(g1:lV K i1)(n:Nat):qE K (Le R K i1 n):=Nat.rec (motive:=λn=>qE K (Le R K i1 n)) (λa0 a8 a9 a10 a26 a27 a28 H h=>h.elim) (λn ih=>YX hR g1 ih) n
def YZ(R:fJ)(K:KF)(x4:dO)(a0 a5 a8:AV)(a9 a10:Int)(H:AH):Prop:=af 5 a5 λv1=>ad v1 H λv2=>R.2.1 a0 v2 H λo3 H4=>cR K o3 H4 λv5=>af 6 a5 λv6=>ad v6 H4 λv7=>bN v7 λv8=>cI 0 v8 λz9=>x4 a0 a8 a9 a10 v7 z9 (.ofNat 0) H4
theorem Y0{R:fJ}(hR:mB R){K:KF}{x4:dO}(h4:qE K x4):Lc K (YZ R K x4):=λa0 a5 a8 a9 a10 H h=>pk hR (cc h4 .nil) h
def Y1(R:fJ)(K:KF)(i1:aF):aI:=YZ R K (Le R K i1 NL)
theorem Y2{R:fJ}(hR:mB R){K:KF}{i1:aF}(g1:lV K i1):Lc K (Y1 R K i1):=Y0 hR (YY hR g1 NL)
def Y3(R:fJ)(K:KF)(x3:aI)(a0 a8:AV)(a9 a10:Int)(H:AH):Prop:=bI (cg a10 a9) (bf 7 a8 (.int 0 a10) λv1=>aN 7 v1 H λv2=>eJ H (fc gPa (aB H) 41 λv3 H4=>ah 7 v3 v2 H4 λH5=>af 0 v3 λv6=>ad v6 H5 λv7=>cI 0 v7 λz8=>bI (bq z8 (.ofNat 6)) (af 3 v3 λv9=>ad v9 H5 λv10=>R.2.2 a0 v10 H5 λkC bO=>cR K kC bO λv13=>x3 a0 v3 a8 a9 a10 bO) (x3 a0 v3 a8 a9 a10 H5))) (K (.ret (.aL [])) H)
theorem Y4{R:fJ}(hR:mB R){K:KF}{x3:aI}(h3:Lc K x3):lV K (Y3 R K x3):=λa0 a8 a9 a10 H h=>pk hR (cc h3 .nil) h
def Y5(R:fJ)(K:KF)(i1:aF):aF:=Y3 R K (Y1 R K i1)
theorem Y6{R:fJ}(hR:mB R){K:KF}{i1:aF}(g1:lV K i1):lV K (Y5 R K i1):=Y4 hR (Y2 hR g1)
def Lf(R:fJ)(K:KF)(n:Nat):aF:=Nat.rec (motive:=λ_=>aF) (λ_ _ _ _ _=>False) (λ_ i=>Y5 R K i) n
theorem Y7{R:fJ}(hR:mB R){K:KF}(n:Nat):lV K (Lf R K n):=Nat.rec (motive:=λn=>lV K (Lf R K n)) (λa0 a8 a9 a10 H h=>h.elim) (λn ih=>Y6 hR ih) n
def Y8(R:fJ)(K:KF)(x1:aF)(a0 a1:AV)(H:AH):Prop:=bN a1 λv1=>cI 0 v1 λz2=>x1 a0 a1 z2 (.ofNat 0) H
theorem Y9{R:fJ}(hR:mB R){K:KF}{x1:aF}(h1:lV K x1)(a0 a1:AV)(H:AH)(h:Y8 R K x1 a0 a1 H):fb 53 K [] (bD (eD 53) [a0,a1]) [] H:=pk hR (cc h1 .nil) h
def akP(R:fJ)(K:KF):cX:=Y8 R K (Lf R K NL)
def QO(R:fJ):AV→AV→AH→KF→Prop:=λa0 a1 H K=>akP R K a0 a1 H
theorem ahd(R:fJ)(hR:mB R):aC gPa 53 (aw [.a,.a] (QO R)):=rk λK a0 a1 H h=>Y9 hR (Y7 hR NL) a0 a1 H h
abbrev wO:Type:=(AV→AV→AV→AV→AH→KF→Prop)
def akQ(R:wO):List (Nat×dq):=[(27,aw [.a,.a,.a,.a] R)]
abbrev afr(R:wO):Prop:=ag gPa (akQ R)
def Za(R:wO)(K:KF)(a0:AV)(H:AH):Prop:=mj (aB H) a0 λv1 H2=>hN (aB H2) [.ab,.ab] λv3 H4=>af 0 v1 λv5=>ad v5 H4 λv6=>af 1 v1 λv7=>ad v7 H4 λv8=>R v3 v6 v8 .ab H4 λo9 cm=>cR K o9 cm λv11=>ao v3 (af 1 v3 λv12=>ad v12 cm λv13=>K (.ret v13) cm)
theorem Zb{R:wO}(hR:afr R){K:KF}(a0:AV)(H:AH)(h:Za R K a0 H):fb 14 K [] (bD (eD 14) [a0]) [] H:=pk hR .nil h
def akR(R:wO)(K:KF):Ta:=Za R K
def QQ(R:wO):AV→AH→KF→Prop:=λa0 H K=>akR R K a0 H
theorem ahe(R:wO)(hR:afr R):aC gPa 14 (aw [.a] (QQ R)):=rk λK a0 H h=>Zb hR a0 H h
abbrev Hg:Type:=(AV→AV→AH→KF→Prop)
def Lg(R:Hg)(K:KF)(a0:AV)(H:AH):Prop:=aR (aB H) 22 1 [(.str 4 1701869940),(.str 5 491496043109),(.str 5 465674789744),(.str 6 111550524650083),(.str 6 111520796337522),(.str 5 431315315065),(.str 6 126948300911731),(.str 8 7453010373645660020),(.str 5 500068609908),(.str 3 6452595),(.str 4 1702132066),(.str 4 1918986339),(.str 3 7366002),(.str 5 491328139381),(.str 5 491328597868),(.str 7 28555907813500274),(.str 4 1684957542),(.str 6 128034677157481),(.str 6 111559349986674),(.str 4 1937335659),(.str 4 1852403562),(.str 4 1819042147)] λv1 H2=>R v1 a0 H2 λo3 H4=>cR K o3 H4 λv5=>bS v5 λz6=>K (.ret (.bool z6)) H4
def akS(R:Hg)(K:KF):Ta:=Lg R K
def aoE(R:Hg):AV→AH→KF→Prop:=λa0 H K=>akS R K a0 H
def Lh:Hg:=(f25)
def f11:AV→AH→KF→Prop:=aoE Lh
abbrev fK:Type:=(AV→AV→AV→AV→AH→KF→Prop)×(AV→AV→AH→KF→Prop)
def ahf(R:fK)(K:KF)(x9:iE)(a0 a1 a3:AV)(a8 a9:Int)(a10:AV)(a11:Int)(H:AH):Prop:=ax 0 (Int.add a11 (.ofNat 1)) λz1=>x9 a0 a1 a3 a8 a9 a10 z1 H
def FD(R:fK)(K:KF)(i3:aI)(i9:iE):iE:=ahf R K i9
def ahg(R:fK)(K:KF)(x10:iE)(a0 a1 a3:AV)(a8 a9:Int)(a10:AV)(a11:Int)(H:AH):Prop:=af 4 a10 λv1=>ad v1 H λv2=>bf 1 v2 (.int 0 a11) λv3=>ad v3 H λv4=>R.1 a0 v4 .ab .ab H λo5 H6=>cR K o5 H6 λv7=>x10 a0 a1 a3 a8 a9 a10 a11 H6
def ahh(R:fK)(K:KF)(i3:aI)(i9:iE):iE:=ahg R K (FD R K i3 i9)
def ahi(R:fK)(K:KF)(x12 x10:iE)(a0 a1 a3:AV)(a8 a9:Int)(a10:AV)(a11 a69:Int)(a88:Bool)(H:AH):Prop:=bI a88 (af 4 a10 λv1=>ad v1 H λv2=>bf 1 v2 (.int 0 a11) λv3=>ad v3 H λv4=>af 2 a10 λv5=>ad v5 H λv6=>R.1 a0 v4 v6 .ab H λo7 H8=>cR K o7 H8 λv9=>x10 a0 a1 a3 a8 a9 a10 a11 H8) (bI (bq a69 (.ofNat 4)) (af 3 a10 λv10=>ad v10 H λv11=>bN v11 λv12=>cI 0 v12 λz13=>bI (cg a11 z13) (af 3 a10 λv14=>ad v14 H λv15=>ax 0 (Int.add a11 (.ofNat 1)) λqt=>fE 7 v15 (some (.int 0 a11)) (some (.int 0 qt)) none λv17=>R.2 a0 v17 H λJa kc=>cR K Ja kc λv20=>x12 a0 a1 a3 a8 a9 a10 a11 kc) (x12 a0 a1 a3 a8 a9 a10 a11 H)) (af 4 a10 λv21=>ad v21 H λv22=>bf 1 v22 (.int 0 a11) λv23=>ad v23 H λv24=>R.1 a0 v24 .ab .ab H λIZ q9=>cR K IZ q9 λv27=>x10 a0 a1 a3 a8 a9 a10 a11 q9))
def ahj(R:fK)(K:KF)(i3:aI)(i9:iE):DD:=ahi R K (ahh R K i3 i9) (FD R K i3 i9)
def akT(R:fK)(K:KF)(x3:aI)(a0 a1 a3:AV)(a8 a9:Int)(H:AH):Prop:=ax 0 (Int.add a9 (.ofNat 1)) λz1=>x3 a0 a1 a3 a8 z1 H
def akU(R:fK)(K:KF)(i3:aI):aI:=akT R K i3
def akV(R:fK)(K:KF)(x4:aI)(a0 a1 a3:AV)(a8 a9:Int)(a10:AV)(H:AH):Prop:=af 0 a10 λv1=>ad v1 H λv2=>cI 0 v2 λz3=>bI (bq z3 (.ofNat 1)) (ao a0 (af 0 a0 λv4=>ad v4 H λv5=>af 2 a10 λv6=>ad v6 H λv7=>cQ 1 16 v5 v7 H λv8 H9=>ao a0 (af 0 a0 λv10=>ah 1 v10 v8 H9 λiQ=>x4 a0 a1 a3 a8 a9 iQ))) (x4 a0 a1 a3 a8 a9 H)
def akW(R:fK)(K:KF)(i3:aI):oC:=akV R K (akU R K i3)
def akX(R:fK)(K:KF)(x10:iE)(x11:DD)(x7:oC)(a0 a1 a3:AV)(a8 a9:Int)(a10:AV)(a11:Int)(H:AH):Prop:=af 4 a10 λv1=>ad v1 H λv2=>bN v2 λv3=>cI 0 v3 λz4=>bI (cg a11 z4) (af 0 a10 λv5=>ad v5 H λv6=>cI 0 v6 λz7=>bI (bq z7 (.ofNat 8)) (af 4 a10 λv8=>ad v8 H λv9=>bf 1 v9 (.int 0 a11) λv10=>ad v10 H λv11=>af 3 a10 λv12=>ad v12 H λv13=>R.1 a0 v11 .ab v13 H λxY eM=>cR K xY eM λv16=>x10 a0 a1 a3 a8 a9 a10 a11 eM) (bI (bq z7 (.ofNat 6)) (x11 a0 a1 a3 a8 a9 a10 a11 z7 (bq z7 (.ofNat 6)) H) (x11 a0 a1 a3 a8 a9 a10 a11 z7 (bq z7 (.ofNat 7)) H))) (x7 a0 a1 a3 a8 a9 a10 H)
def akY(R:fK)(K:KF)(i3:aI)(i9:iE):iE:=akX R K (FD R K i3 i9) (ahj R K i3 i9) (akW R K i3)
def akZ(R:fK)(K:KF)(i3:aI)(n:Nat):iE:=Nat.rec (motive:=λ_=>iE) (λ_ _ _ _ _ _ _ _=>False) (λ_ i=>akY R K i3 i) n
def ak0(R:fK)(K:KF)(x9:iE)(a0 a1 a3:AV)(a8 a9:Int)(a10:AV)(H:AH):Prop:=x9 a0 a1 a3 a8 a9 a10 (.ofNat 0) H
def Zc(R:fK)(K:KF)(i3:aI):oC:=ak0 R K (akZ R K i3 NL)
def ak1(R:fK)(K:KF)(x6:oC)(a0 a1 a3:AV)(a8 a9:Int)(a10:AV)(H:AH):Prop:=af 3 a10 λv1=>ad v1 H λv2=>R.2 a0 v2 H λo3 H4=>cR K o3 H4 λv5=>x6 a0 a1 a3 a8 a9 a10 H4
def ak2(R:fK)(K:KF)(i3:aI):oC:=ak1 R K (Zc R K i3)
def ak3(R:fK)(K:KF)(x8 x6:oC)(a0 a1 a3:AV)(a8 a9:Int)(a10:AV)(H:AH):Prop:=af 0 a10 λv1=>ad v1 H λv2=>cI 0 v2 λz3=>bI (!(bq z3 (.ofNat 8))) (af 0 a10 λv4=>ad v4 H λv5=>cI 0 v5 λz6=>bI (!(bq z6 (.ofNat 4))) (x8 a0 a1 a3 a8 a9 a10 H) (x6 a0 a1 a3 a8 a9 a10 H)) (x6 a0 a1 a3 a8 a9 a10 H)
def ak4(R:fK)(K:KF)(i3:aI):oC:=ak3 R K (ak2 R K i3) (Zc R K i3)
def ak5(R:fK)(K:KF)(a0 a3:AV)(a8:Int)(H:AH):Prop:=R.2 a0 a3 H λo1 H2=>cR K o1 H2 λv3=>ao a0 (af 0 a0 λv4=>ad v4 H2 λv5=>fE 1 v5 none (some (.int 0 a8)) none λv6=>ao a0 (af 0 a0 λv7=>ah 1 v7 v6 H2 λH8=>K (.ret (.aL [])) H8))
def ak6(R:fK)(K:KF):aE:=ak5 R K
def ak7(R:fK)(K:KF)(x5:oC)(x2:aE)(a0 a1 a3:AV)(a8 a9:Int)(H:AH):Prop:=bN a1 λv1=>cI 0 v1 λz2=>bI (cg a9 z2) (bf 5 a1 (.int 0 a9) λv3=>aN 5 v3 H λv4=>eJ H (hN (aB H) [(.int 0 (.ofNat 0)),(.int 0 (.ofNat 0)),.ab,.ab,.ab] λv5 H6=>ah 5 v5 v4 H6 λH7=>af 0 v5 λv8=>ad v8 H7 λv9=>cI 0 v9 λz10=>bI (bq z10 (.ofNat 12)) (ao a0 (af 0 a0 λv11=>ad v11 H7 λv12=>af 2 v5 λv13=>ad v13 H7 λv14=>cQ 1 16 v12 v14 H7 λv15 eE=>ao a0 (af 0 a0 λv17=>ah 1 v17 v15 eE λiy=>x5 a0 a1 a3 a8 a9 v5 iy))) (x5 a0 a1 a3 a8 a9 v5 H7))) (x2 a0 a3 a8 H)
def ak8(R:fK)(K:KF)(i3:aI):aI:=ak7 R K (ak4 R K i3) (ak6 R K)
def ak9(R:fK)(K:KF)(n:Nat):aI:=Nat.rec (motive:=λ_=>aI) (λ_ _ _ _ _ _=>False) (λ_ i=>ak8 R K i) n
def ala(R:fK)(K:KF)(x3:aI)(a0 a1 a3:AV)(a8:Int)(H:AH):Prop:=x3 a0 a1 a3 a8 (.ofNat 0) H
def alb(R:fK)(K:KF):lf:=ala R K (ak9 R K NL)
def alc(R:fK)(K:KF)(x1:lf)(a0 a1 a2 a3:AV)(H:AH):Prop:=ao a0 (af 0 a0 λv1=>ad v1 H λv2=>bN v2 λv3=>cI 0 v3 λz4=>ao a0 (af 0 a0 λv5=>ad v5 H λv6=>cQ 1 16 v6 a2 H λv7 H8=>ao a0 (af 0 a0 λv9=>ah 1 v9 v7 H8 λcm=>x1 a0 a1 a3 z4 cm)))
def ald(R:fK)(K:KF):zc:=alc R K (alb R K)
def aoF(R:fK):AV→AV→AV→AV→AH→KF→Prop:=λa0 a1 a2 a3 H K=>ald R K a0 a1 a2 a3 H
abbrev j7:Type:=(AV→AH→KF→Prop)×(AV→AV→AH→KF→Prop)×(AV→AV→AV→AV→AH→KF→Prop)×(AV→AV→AH→KF→Prop)
def ale(R:j7)(K:KF)(x1:aE)(a0 a1:AV)(a4:Int)(H:AH):Prop:=ax 0 (Int.add a4 (.ofNat 1)) λz1=>x1 a0 a1 z1 H
def alf(R:j7)(K:KF)(i1:aE):aE:=ale R K i1
def alg(R:j7)(K:KF)(x5:aF)(a0 a1:AV)(a4 a6:Int)(H:AH):Prop:=ax 0 (Int.add a6 (.ofNat 1)) λz1=>x5 a0 a1 a4 z1 H
def alh(R:j7)(K:KF)(i1:aE)(i5:aF):aF:=alg R K i5
def ali(R:j7)(K:KF)(x2:aE)(x6:aF)(a0 a1:AV)(a4 a6:Int)(H:AH):Prop:=bf 7 a1 (.int 0 a4) λv1=>af 6 v1 λv2=>ad v2 H λv3=>bN v3 λv4=>cI 0 v4 λz5=>bI (cg a6 z5) (bf 7 a1 (.int 0 a4) λv6=>af 6 v6 λv7=>ad v7 H λv8=>bf 2 v8 (.int 0 a6) λv9=>af 1 v9 λv10=>ad v10 H λv11=>bf 7 a1 (.int 0 a4) λv12=>af 6 v12 λv13=>ad v13 H λv14=>bf 2 v14 (.int 0 a6) λv15=>af 0 v15 λv16=>ad v16 H λv17=>R.2.2.1 a0 v11 v17 .ab H λJa kc=>cR K Ja kc λv20=>x6 a0 a1 a4 a6 kc) (x2 a0 a1 a4 H)
def alj(R:j7)(K:KF)(i1:aE)(i5:aF):aF:=ali R K (alf R K i1) (alh R K i1 i5)
def alk(R:j7)(K:KF)(i1:aE)(n:Nat):aF:=Nat.rec (motive:=λ_=>aF) (λ_ _ _ _ _=>False) (λ_ i=>alj R K i1 i) n
def alm(R:j7)(K:KF)(x5:aF)(a0 a1:AV)(a4:Int)(H:AH):Prop:=bf 7 a1 (.int 0 a4) λv1=>af 5 v1 λv2=>ad v2 H λv3=>R.2.2.2 a0 v3 H λo4 H5=>cR K o4 H5 λv6=>x5 a0 a1 a4 (.ofNat 0) H5
def Zd(R:j7)(K:KF)(i1:aE):aE:=alm R K (alk R K i1 NL)
def aln(R:j7)(K:KF)(x3:aE)(a0 a1:AV)(a4:Int)(a5:AV)(H:AH):Prop:=ao a0 (af 1 a0 λv1=>ad v1 H λv2=>af 3 a5 λv3=>ad v3 H λv4=>cL H (one v4 (aR (aB H) 1 1 [v4] λv5 H6=>bT (Nat.beq H6.n (Nat.succ H.n)) (cQ 1 16 v2 v5 H6 λv7 H8=>ao a0 (af 1 a0 λv9=>ah 1 v9 v7 H8 λcm=>x3 a0 a1 a4 cm)))))
def alo(R:j7)(K:KF)(i1:aE):iV:=aln R K (Zd R K i1)
def alp(R:j7)(K:KF)(x4:iV)(x3:aE)(a0 a1:AV)(a4:Int)(H:AH):Prop:=bN a1 λv1=>cI 0 v1 λz2=>bI (cg a4 z2) (bf 7 a1 (.int 0 a4) λv3=>aN 7 v3 H λv4=>eJ H (fc gPa (aB H) 41 λv5 H6=>ah 7 v5 v4 H6 λH7=>af 0 v5 λv8=>ad v8 H7 λv9=>cI 0 v9 λz10=>bI (bq z10 (.ofNat 6)) (ao a0 (af 0 a0 λv11=>ad v11 H7 λv12=>af 3 v5 λv13=>ad v13 H7 λv14=>R.2.1 v12 v14 H7 λCx eE=>cR K Cx eE λv17=>bS v17 λxX=>bI (!xX) (af 3 v5 λv19=>ad v19 eE λv20=>R.1 v20 eE λsj gU=>cR K sj gU λv23=>bS v23 λz24=>bI (!z24) (ao a0 (af 1 a0 λv25=>ad v25 gU λv26=>af 3 v5 λv27=>ad v27 gU λv28=>R.2.1 v26 v28 gU λU2 xg=>cR K U2 xg λv31=>bS v31 λz32=>bI (!z32) (x4 a0 a1 a4 v5 xg) (x3 a0 a1 a4 xg))) (x3 a0 a1 a4 gU)) (x3 a0 a1 a4 eE))) (x3 a0 a1 a4 H7))) (K (.ret (.aL [])) H)
def alq(R:j7)(K:KF)(i1:aE):aE:=alp R K (alo R K i1) (Zd R K i1)
def alr(R:j7)(K:KF)(n:Nat):aE:=Nat.rec (motive:=λ_=>aE) (λ_ _ _ _=>False) (λ_ i=>alq R K i) n
def als(R:j7)(K:KF)(x1:aE)(a0 a1:AV)(H:AH):Prop:=x1 a0 a1 (.ofNat 0) H
def alu(R:j7)(K:KF):cX:=als R K (alr R K NL)
def aoG(R:j7):AV→AV→AH→KF→Prop:=λa0 a1 H K=>alu R K a0 a1 H
abbrev QR:Type:=(AV→AV→AV→AV→AH→KF→Prop)×(AV→AV→AH→KF→Prop)
def alv(S:QR):fK:=(S.1,S.2)
def alw(S:QR):j7:=(f11,f25,S.1,S.2)
noncomputable def s13(n:Nat):QR:=Nat.rec (motive:=λ_=>QR) (λ_ _ _ _ _ _=>False,λ_ _ _ _=>False) (λ_ S=>(aoF (alv S),aoG (alw S))) n
def f28:AV→AV→AV→AV→AH→KF→Prop:=(s13 NL).1
abbrev Hh:Type:=(AV→AV→AV→AV→AH→KF→Prop)
def alx(R:Hh)(K:KF)(a0:AV)(H:AH):Prop:=mj (aB H) a0 λv1 H2=>hN (aB H2) [.ab,.ab] λv3 H4=>af 1 v1 λv5=>ad v5 H4 λv6=>af 0 v1 λv7=>ad v7 H4 λv8=>R v3 v6 v8 .ab H4 λo9 cm=>cR K o9 cm λv11=>ao v3 (af 1 v3 λv12=>ad v12 cm λv13=>K (.ret v13) cm)
def aly(R:Hh)(K:KF):Ta:=alx R K
def aoH(R:Hh):AV→AH→KF→Prop:=λa0 H K=>aly R K a0 H
def alz:Hh:=(f28)
def f15:AV→AH→KF→Prop:=aoH alz
abbrev sG:Type:=(AH→KF→Prop)×(AV→AH→KF→Prop)×(AV→AH→KF→Prop)×(AV→AV→AH→KF→Prop)×(AV→AH→KF→Prop)×(AV→AH→KF→Prop)
def aoI(R:sG)(K:KF)(x2:dW)(a6:AV)(a7:Int)(H:AH):Prop:=ax 0 (Int.add a7 (.ofNat 1)) λz1=>x2 a6 z1 H
def aoJ(R:sG)(K:KF)(i2:dW):dW:=aoI R K i2
def aoK(R:sG)(K:KF)(H:AH):Prop:=R.1  H λo1 H2=>cR K o1 H2 λv3=>bS v3 λz4=>K (.ret (.bool z4)) H2
def aoL(R:sG)(K:KF):T_:=aoK R K
def aoM(R:sG)(K:KF)(x3:dW)(x1:T_)(a6:AV)(a7:Int)(H:AH):Prop:=bN a6 λv1=>cI 0 v1 λz2=>bI (cg a7 z2) (bf 2 a6 (.int 0 a7) λv3=>aN 2 v3 H λv4=>bf 2 a6 (.int 0 a7) λv5=>aN 2 v5 H λv6=>R.2.2.2.2.1 v4 H λo7 H8=>cR K o7 H8 λv9=>aN 2 v5 H8 λv10=>bT (bj v10 v6) (R.2.2.2.2.2 v6 H8 λkC bO=>cR K kC bO λv13=>R.2.2.2.1 v9 v13 bO λxY eM=>cR K xY eM λv16=>bS v16 λz17=>bI (!z17) (K (.ret (.bool false)) eM) (x3 a6 a7 eM))) (x1 H)
def aoN(R:sG)(K:KF)(i2:dW):dW:=aoM R K (aoJ R K i2) (aoL R K)
def aoO(R:sG)(K:KF)(n:Nat):dW:=Nat.rec (motive:=λ_=>dW) (λ_ _ _=>False) (λ_ i=>aoN R K i) n
def aoP(R:sG)(K:KF)(x2:dW)(a0:AV)(H:AH):Prop:=sLen a0 λv1=>cI 0 v1 λz2=>bI (cg (.ofNat 1500) z2) (R.1  H λo3 H4=>cR K o3 H4 λv5=>bS v5 λz6=>K (.ret (.bool z6)) H4) (R.2.1 a0 H λo7 H8=>cR K o7 H8 λv9=>dU v9 λl10=>eQ l10 0 λv11=>dU v9 λl12=>eQ l12 1 λv13=>cI 0 v13 λnM=>dU v9 λl15=>eQ l15 2 λv16=>cI 0 v16 λz17=>bI (!(bq nM (.ofNat 0))) (R.1  H8 λJa kc=>cR K Ja kc λv20=>bS v20 λz21=>K (.ret (.bool z21)) kc) (R.2.2.1 v11 H8 λTC qy=>cR K TC qy λv24=>x2 v24 (.ofNat 0) qy))
def aoQ(R:sG)(K:KF):Ta:=aoP R K (aoO R K NL)
def aqg(R:sG):AV→AH→KF→Prop:=λa0 H K=>aoQ R K a0 H
abbrev ic:Type:=AV→AV→Int→Int→Int→AH→Prop
abbrev jD:Type:=AV→Int→Int→Int→Int→AH→Prop
abbrev cA:Type:=Unit
def alA(R:cA):List (Nat×dq):=[]
abbrev gh(R:cA):Prop:=ag gPa (alA R)
abbrev Li(K:KF)(F:iT):Prop:=aT 24 K [1,1,1,1,1] 106 [0,3,5] [.a,.i 0,.i 1] F
abbrev qF(K:KF)(F:jD):Prop:=aT 24 K [0,1,0,1,1,1,1] 106 [0,3,4,5,6] [.a,.i 0,.i 0,.i 1,.i 0] F
abbrev Lj(K:KF)(F:aF):Prop:=aT 24 K [1,1,1,1,1,1,1,1,1,1,1] 106 [0,9,10,12] [.a,.a,.i 0,.i 0] F
abbrev sH(K:KF)(F:aF):Prop:=aT 24 K [0,0,1,1,1,1,1,1,1,1,1,1] 106 [0,9,10,12] [.a,.a,.i 0,.i 0] F
abbrev Lk(K:KF)(F:aF):Prop:=aT 24 K [1,1,1,1,1,1,1,1,1,1,1,1,1] 106 [0,9,10,11] [.a,.a,.i 0,.i 0] F
abbrev lW(K:KF)(F:ic):Prop:=aT 24 K [0,0,1,1,1,1,1,1,1,1,1,1,1,1] 106 [0,9,10,11,12] [.a,.a,.i 0,.i 0,.i 0] F
abbrev Ll(K:KF)(F:Ta):Prop:=aT 24 K [1,1,1,1,1,1,1,1,1,1,1,1,1,1] 106 [9] [.a] F
abbrev Lm(K:KF)(F:jD):Prop:=aT 24 K [1,1,1,1,0,0,1,0,0,1,0,1,1,1,1] 106 [0,3,5,6,8] [.a,.i 0,.i 1,.i 0,.i 0] F
abbrev Ln(K:KF)(F:aF):Prop:=aT 24 K [1,1,1,0,1,0,0,0,1,1,1,1,1,1,1,1,1,1,1,1] 106 [0,9,10,12] [.a,.a,.i 0,.i 0] F
abbrev FE(K:KF)(F:aF):Prop:=aT 24 K [1,1,1,1,1,0,1,0,0,0,1,1,1,1,1,1,1,1,1,1,1,1] 106 [0,9,10,12] [.a,.a,.i 0,.i 0] F
abbrev pX(K:KF)(F:aF):Prop:=aT 24 K [0,0,1,1,1,1,0,1,0,0,0,1,1,1,1,1,1,1,1,1,1,1,1] 106 [0,9,10,12] [.a,.a,.i 0,.i 0] F
def Ze(R:cA)(K:KF)(x2:jD)(a0:AV)(a3 a5 a6 a8:Int)(H:AH):Prop:=ax 0 (Int.add a6 (.ofNat 1)) λz1=>x2 a0 a3 a8 a5 z1 H
theorem Zf{R:cA}(hR:gh R){K:KF}{x2:jD}(h2:qF K x2):Lm K (Ze R K x2):=λa0 a3 a5 a6 a8 H h=>pk hR (cc h2 .nil) h
def Zg(R:cA)(K:KF)(i2:jD):jD:=Ze R K i2
theorem Zh{R:cA}(hR:gh R){K:KF}{i2:jD}(g2:qF K i2):Lm K (Zg R K i2):=Zf hR g2
def Oo(R:cA)(K:KF)(x6:ic)(a0 a9:AV)(a10 a12:Int)(H:AH):Prop:=x6 a0 a9 a10 a12 a12 H
theorem QS{R:cA}(hR:gh R){K:KF}{x6:ic}(h6:lW K x6):FE K (Oo R K x6):=λa0 a9 a10 a12 H h=>pk hR (cc h6 .nil) h
def Oq(R:cA)(K:KF)(i6:ic):aF:=Oo R K i6
theorem QT{R:cA}(hR:gh R){K:KF}{i6:ic}(g6:lW K i6):FE K (Oq R K i6):=QS hR g6
def Ot(R:cA)(K:KF)(x11 x10:aF)(a0 a9:AV)(a10 a12:Int)(H:AH):Prop:=sLen a0 λv1=>cI 0 v1 λz2=>bI (cg a12 z2) (gT a0 (.int 0 a12) λv3=>cI 1 v3 λz4=>yF 256 1 (.ptr 0 0) (.int 1 z4) λv5=>ad v5 H λv6=>cI 1 v6 λz7=>bI (!(bq z7 (.ofNat 0))) (ax 0 (Int.add a12 (.ofNat 1)) λz8=>x11 a0 a9 a10 z8 H) (x10 a0 a9 a10 a12 H)) (x10 a0 a9 a10 a12 H)
theorem QV{R:cA}(hR:gh R){K:KF}{x11 x10:aF}(h11:pX K x11)(h10:FE K x10):pX K (Ot R K x11 x10):=λa0 a9 a10 a12 H h=>pk hR (cc h11 (cc h10 .nil)) h
def Ou(R:cA)(K:KF)(i6:ic)(i11:aF):aF:=Ot R K i11 (Oq R K i6)
theorem QW{R:cA}(hR:gh R){K:KF}{i6:ic}{i11:aF}(g6:lW K i6)(g11:pX K i11):pX K (Ou R K i6 i11):=QV hR g11 (QT hR g6)
def FF(R:cA)(K:KF)(i6:ic)(n:Nat):aF:=Nat.rec (motive:=λ_=>aF) (λ_ _ _ _ _=>False) (λ_ i=>Ou R K i6 i) n
theorem QX{R:cA}(hR:gh R){K:KF}{i6:ic}(g6:lW K i6)(n:Nat):pX K (FF R K i6 n):=Nat.rec (motive:=λn=>pX K (FF R K i6 n)) (λa0 a9 a10 a12 H h=>h.elim) (λn ih=>QW hR g6 ih) n
def Zi(R:cA)(K:KF)(x11:aF)(a0 a9:AV)(a10 a12:Int)(H:AH):Prop:=ax 0 (Int.add a12 (.ofNat 1)) λz1=>x11 a0 a9 a10 z1 H
theorem Zj{R:cA}(hR:gh R){K:KF}{x11:aF}(h11:pX K x11):Ln K (Zi R K x11):=λa0 a9 a10 a12 H h=>pk hR (cc h11 .nil) h
def Zk(R:cA)(K:KF)(i6:ic):aF:=Zi R K (FF R K i6 NL)
theorem Zl{R:cA}(hR:gh R){K:KF}{i6:ic}(g6:lW K i6):Ln K (Zk R K i6):=Zj hR (QX hR g6 NL)
def Zm(R:cA)(K:KF)(a9:AV)(H:AH):Prop:=K (.ret a9) H
theorem Zn{R:cA}(hR:gh R){K:KF}:Ll K (Zm R K):=λa9 H h=>pk hR .nil h
def Zo(R:cA)(K:KF):Ta:=Zm R K
theorem Zp{R:cA}(hR:gh R){K:KF}:Ll K (Zo R K):=Zn hR
def Zq(R:cA)(K:KF)(x7:Ta)(a0 a9:AV)(a10 a11:Int)(H:AH):Prop:=sLen a0 λv1=>cI 0 v1 λz2=>bI (cg a11 z2) (lr a0 (some (.int 0 a11)) none λv3=>bf 1 a9 (.int 0 a10) λv4=>ah 1 v4 v3 H λH5=>x7 a9 H5) (x7 a9 H)
theorem Zr{R:cA}(hR:gh R){K:KF}{x7:Ta}(h7:Ll K x7):Lk K (Zq R K x7):=λa0 a9 a10 a11 H h=>pk hR (cc h7 .nil) h
def Zs(R:cA)(K:KF):aF:=Zq R K (Zo R K)
theorem Zt{R:cA}(hR:gh R){K:KF}:Lk K (Zs R K):=Zr hR (Zp hR)
def Zu(R:cA)(K:KF)(x6:ic)(x9 x5:aF)(a0 a9:AV)(a10 a11 a12:Int)(H:AH):Prop:=sLen a0 λv1=>cI 0 v1 λz2=>bI (cg a12 z2) (gT a0 (.int 0 a12) λv3=>cI 1 v3 λz4=>yF 256 1 (.ptr 0 0) (.int 1 z4) λv5=>ad v5 H λv6=>cI 1 v6 λz7=>bI (bq z7 (.ofNat 0)) (ax 0 (Int.add a12 (.ofNat 1)) λz8=>x6 a0 a9 a10 a11 z8 H) (lr a0 (some (.int 0 a11)) (some (.int 0 a12)) λv9=>bf 1 a9 (.int 0 a10) λv10=>ah 1 v10 v9 H λiQ=>ax 0 (Int.add a10 (.ofNat 1)) λz12=>x9 a0 a9 z12 a12 iQ)) (x5 a0 a9 a10 a11 H)
theorem Zv{R:cA}(hR:gh R){K:KF}{x6:ic}{x9 x5:aF}(h6:lW K x6)(h9:Ln K x9)(h5:Lk K x5):lW K (Zu R K x6 x9 x5):=λa0 a9 a10 a11 a12 H h=>pk hR (cc h6 (cc h9 (cc h5 .nil))) h
def Zw(R:cA)(K:KF)(i6:ic):ic:=Zu R K i6 (Zk R K i6) (Zs R K)
theorem Zx{R:cA}(hR:gh R){K:KF}{i6:ic}(g6:lW K i6):lW K (Zw R K i6):=Zv hR g6 (Zl hR g6) (Zt hR)
def Lo(R:cA)(K:KF)(n:Nat):ic:=Nat.rec (motive:=λ_=>ic) (λ_ _ _ _ _ _=>False) (λ_ i=>Zw R K i) n
theorem Zy{R:cA}(hR:gh R){K:KF}(n:Nat):lW K (Lo R K n):=Nat.rec (motive:=λn=>lW K (Lo R K n)) (λa0 a9 a10 a11 a12 H h=>h.elim) (λn ih=>Zx hR ih) n
def Zz(R:cA)(K:KF)(x6:ic)(a0 a9:AV)(a10 a12:Int)(H:AH):Prop:=x6 a0 a9 a10 a12 a12 H
theorem ZA{R:cA}(hR:gh R){K:KF}{x6:ic}(h6:lW K x6):Lj K (Zz R K x6):=λa0 a9 a10 a12 H h=>pk hR (cc h6 .nil) h
def ZB(R:cA)(K:KF):aF:=Zz R K (Lo R K NL)
theorem ZC{R:cA}(hR:gh R){K:KF}:Lj K (ZB R K):=ZA hR (Zy hR NL)
def ZD(R:cA)(K:KF)(x4 x3:aF)(a0 a9:AV)(a10 a12:Int)(H:AH):Prop:=sLen a0 λv1=>cI 0 v1 λz2=>bI (cg a12 z2) (gT a0 (.int 0 a12) λv3=>cI 1 v3 λz4=>yF 256 1 (.ptr 0 0) (.int 1 z4) λv5=>ad v5 H λv6=>cI 1 v6 λz7=>bI (!(bq z7 (.ofNat 0))) (ax 0 (Int.add a12 (.ofNat 1)) λz8=>x4 a0 a9 a10 z8 H) (x3 a0 a9 a10 a12 H)) (x3 a0 a9 a10 a12 H)
theorem ZF{R:cA}(hR:gh R){K:KF}{x4 x3:aF}(h4:sH K x4)(h3:Lj K x3):sH K (ZD R K x4 x3):=λa0 a9 a10 a12 H h=>pk hR (cc h4 (cc h3 .nil)) h
def ZG(R:cA)(K:KF)(i4:aF):aF:=ZD R K i4 (ZB R K)
theorem ZH{R:cA}(hR:gh R){K:KF}{i4:aF}(g4:sH K i4):sH K (ZG R K i4):=ZF hR g4 (ZC hR)
def Lq(R:cA)(K:KF)(n:Nat):aF:=Nat.rec (motive:=λ_=>aF) (λ_ _ _ _ _=>False) (λ_ i=>ZG R K i) n
theorem ZI{R:cA}(hR:gh R){K:KF}(n:Nat):sH K (Lq R K n):=Nat.rec (motive:=λn=>sH K (Lq R K n)) (λa0 a9 a10 a12 H h=>h.elim) (λn ih=>ZH hR ih) n
def ZJ(R:cA)(K:KF)(x4:aF)(a0:AV)(a3 a5:Int)(H:AH):Prop:=bI (!(cg a5 (.ofNat 128))) (False) (eJ H (Sh (aB H) 1 16 [(.str 0 0)] (.int 0 a3) (.int 0 a3) λv4 H5=>x4 a0 v4 (.ofNat 0) (.ofNat 0) H5))
theorem ZK{R:cA}(hR:gh R){K:KF}{x4:aF}(h4:sH K x4):Li K (ZJ R K x4):=λa0 a3 a5 H h=>pk hR (cc h4 .nil) h
def ZL(R:cA)(K:KF):iT:=ZJ R K (Lq R K NL)
theorem ZM{R:cA}(hR:gh R){K:KF}:Li K (ZL R K):=ZK hR (ZI hR NL)
def ZN(R:cA)(K:KF)(x8:jD)(x1:iT)(a0:AV)(a3 a4 a5 a6:Int)(H:AH):Prop:=sLen a0 λv1=>cI 0 v1 λz2=>bI (cg a6 z2) (gT a0 (.int 0 a6) λv3=>cI 1 v3 λz4=>bB (nz 1 a5) λu5=>bB (nz 1 z4) λu6=>ax 1 (.ofNat (Nat.lor u5 u6)) λz7=>yF 256 1 (.ptr 0 0) (.int 1 z4) λv8=>ad v8 H λv9=>cI 1 v9 λz10=>ax 0 z10 λz11=>Ph 0 (.int 0 (.negSucc 0)) (.int 0 z11) λv12=>cI 0 v12 λz13=>bB (nz 0 a4) λu14=>bB (nz 0 z13) λu15=>ax 0 (.ofNat (Nat.land u14 u15)) λqt=>ax 0 (Int.add a3 qt) λz17=>x8 a0 z17 z7 a6 z11 H) (x1 a0 a3 a5 H)
theorem ZO{R:cA}(hR:gh R){K:KF}{x8:jD}{x1:iT}(h8:Lm K x8)(h1:Li K x1):qF K (ZN R K x8 x1):=λa0 a3 a4 a5 a6 H h=>pk hR (cc h8 (cc h1 .nil)) h
def ZQ(R:cA)(K:KF)(i2:jD):jD:=ZN R K (Zg R K i2) (ZL R K)
theorem ZR{R:cA}(hR:gh R){K:KF}{i2:jD}(g2:qF K i2):qF K (ZQ R K i2):=ZO hR (Zh hR g2) (ZM hR)
def Lr(R:cA)(K:KF)(n:Nat):jD:=Nat.rec (motive:=λ_=>jD) (λ_ _ _ _ _ _=>False) (λ_ i=>ZQ R K i) n
theorem ZS{R:cA}(hR:gh R){K:KF}(n:Nat):qF K (Lr R K n):=Nat.rec (motive:=λn=>qF K (Lr R K n)) (λa0 a3 a4 a5 a6 H h=>h.elim) (λn ih=>ZR hR ih) n
def ZT(R:cA)(K:KF)(x2:jD)(a0:AV)(H:AH):Prop:=x2 a0 (.ofNat 0) (.ofNat 1) (.ofNat 0) (.ofNat 0) H
theorem ZU{R:cA}(hR:gh R){K:KF}{x2:jD}(h2:qF K x2)(a0:AV)(H:AH)(h:ZT R K x2 a0 H):fb 24 K [] (bD (eD 24) [a0]) [] H:=pk hR (cc h2 .nil) h
def alB(R:cA)(K:KF):Ta:=ZT R K (Lr R K NL)
def afs(R:cA):AV→AH→KF→Prop:=λa0 H K=>alB R K a0 H
theorem ahk(R:cA)(hR:gh R):aC gPa 24 (aw [.a] (afs R)):=rk λK a0 H h=>ZU hR (ZS hR NL) a0 H h
def ZV:cA:=()
def f24:AV→AH→KF→Prop:=afs ZV
theorem ZW:aC gPa 24 (aw [.a] f24):=ahk ZV ag.nil
end Go.Proofs.YtcedghechlgecaaDoor.G
