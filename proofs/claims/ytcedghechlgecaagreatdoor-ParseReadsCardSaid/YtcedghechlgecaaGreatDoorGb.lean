/- The functions of the lexers, of ParseUint and of told, cut into pieces by program. No condition: lemmas. -/
import Derived.Test.YtcedghechlgecaaGreatDoorGa
set_option maxRecDepth 100000
set_option maxHeartbeats 0
set_option linter.unusedVariables false
set_option linter.unusedSimpArgs false
namespace Go.Proofs.YtcedghechlgecaaGreatDoor.G
open Go Go.X
abbrev cB:Type:=AV→AV→AV→Int→Int→AH→Prop
abbrev zO:Type:=AV→AV→Int→AV→AV→Int→Bool→AH→Prop
abbrev lF:Type:=AV→AV→Int→AV→Int→AH→Prop
abbrev gu:Type:=AV→AV→Int→Int→Int→AH→Prop
abbrev dI:Type:=AV→Int→AV→Int→AH→Prop
abbrev DF:Type:=AV→Int→AV→Int→Int→Bool→AH→Prop
abbrev aaY:Type:=AV→Int→Bool→AH→Prop
abbrev ks:Type:=AV→Int→Int→Int→Int→AH→Prop
abbrev Ti:Type:=Int→AH→Prop
abbrev wC:Type:=Unit
def asn(R:wC):List (Nat×cP):=[]
abbrev am8(R:wC):Prop:=ad gP (asn R)
def HV(R:wC)(K:KF)(a0 a1:AV)(H:AH):Prop:=sLen a0 λv1=>cI 0 v1 λz2=>sLen a1 λv3=>cI 0 v3 λz4=>bI (!(cg z2 z4)) (sLen a1 λv5=>cI 0 v5 λz6=>eO a0 none (some (.int 0 z6)) λv7=>pF v7 a1 λv8=>bf v8 λz9=>K (.ret (.bool z9)) H) (K (.ret (.bool false)) H)
theorem agG{R:wC}(hR:am8 R){K:KF}(a0 a1:AV)(H:AH)(h:HV R K a0 a1 H):dw 88 K [] (ba (di 88) [a0,a1]) [] H:=pk hR .nil h
def aso(R:wC)(K:KF):bC:=HV R K
def am9(R:wC):AV→AV→AH→KF→Prop:=λa0 a1 H K=>aso R K a0 a1 H
theorem apv(R:wC)(hR:am8 R):av gP 88 (ao [.a,.a] (am9 R)):=rk λK a0 a1 H h=>agG hR a0 a1 H h
def Q6:wC:=()
def f88:AV→AV→AH→KF→Prop:=am9 Q6
theorem asp:av gP 88 (ao [.a,.a] f88):=apv Q6 ad.nil
abbrev wD:Type:=(AV→AV→AH→KF→Prop)
def asq(R:wD):List (Nat×cP):=[(88,ao [.a,.a] R)]
abbrev ana(R:wD):Prop:=ad gP (asq R)
def HW(R:wD)(K:KF)(a0 a1:AV)(H:AH):Prop:=R a0 a1 H λo1 H2=>cR K o1 H2 λv3=>bf v3 λz4=>K (.ret (.bool z4)) H2
theorem agH{R:wD}(hR:ana R){K:KF}(a0 a1:AV)(H:AH)(h:HW R K a0 a1 H):dw 46 K [] (ba (di 46) [a0,a1]) [] H:=pk hR .nil h
def asr(R:wD)(K:KF):bC:=HW R K
def anb(R:wD):AV→AV→AH→KF→Prop:=λa0 a1 H K=>asr R K a0 a1 H
theorem apw(R:wD)(hR:ana R):av gP 46 (ao [.a,.a] (anb R)):=rk λK a0 a1 H h=>agH hR a0 a1 H h
def HX:wD:=(f88)
def f46:AV→AV→AH→KF→Prop:=anb HX
theorem agI:av gP 46 (ao [.a,.a] f46):=apw HX (ad.cons asp ad.nil)
abbrev wE:Type:=Unit
def ass(R:wE):List (Nat×cP):=[]
abbrev anc(R:wE):Prop:=ad gP (ass R)
def HY(R:wE)(K:KF)(a0:Int)(H:AH):Prop:=bI (!(cg a0 (.ofNat 48))) (K (.ret (.bool (!(cg (.ofNat 57) a0)))) H) (K (.ret (.bool false)) H)
theorem agJ{R:wE}(hR:anc R){K:KF}(a0:Int)(H:AH)(h:HY R K a0 H):dw 48 K [] (ba (di 48) [(.int 1 a0)]) [] H:=pk hR .nil h
def ast(R:wE)(K:KF):Ti:=HY R K
def ane(R:wE):Int→AH→KF→Prop:=λa0 H K=>ast R K a0 H
theorem apx(R:wE)(hR:anc R):av gP 48 (ao [.i 1] (ane R)):=rk λK a0 H h=>agJ hR a0 H h
def Q8:wE:=()
def f48:Int→AH→KF→Prop:=ane Q8
theorem Q9:av gP 48 (ao [.i 1] f48):=apx Q8 ad.nil
abbrev wF:Type:=(Int→AH→KF→Prop)
def asu(R:wF):List (Nat×cP):=[(48,ao [.i 1] R)]
abbrev anf(R:wF):Prop:=ad gP (asu R)
def HZ(R:wF)(K:KF)(a0:Int)(H:AH):Prop:=bI (!(cg a0 (.ofNat 97))) (bI (!(cg (.ofNat 122) a0)) (K (.ret (.bool true)) H) (bI (!(cg a0 (.ofNat 65))) (bI (!(cg (.ofNat 90) a0)) (K (.ret (.bool true)) H) (bI (bj a0 (.ofNat 95)) (K (.ret (.bool true)) H) (R a0 H λo1 H2=>cR K o1 H2 λv3=>bf v3 λz4=>K (.ret (.bool z4)) H2))) (bI (bj a0 (.ofNat 95)) (K (.ret (.bool true)) H) (R a0 H λo5 H6=>cR K o5 H6 λv7=>bf v7 λz8=>K (.ret (.bool z8)) H6)))) (bI (!(cg a0 (.ofNat 65))) (bI (!(cg (.ofNat 90) a0)) (K (.ret (.bool true)) H) (bI (bj a0 (.ofNat 95)) (K (.ret (.bool true)) H) (R a0 H λo9 bJ=>cR K o9 bJ λv11=>bf v11 λz12=>K (.ret (.bool z12)) bJ))) (bI (bj a0 (.ofNat 95)) (K (.ret (.bool true)) H) (R a0 H λmP cN=>cR K mP cN λv15=>bf v15 λki=>K (.ret (.bool ki)) cN)))
theorem agK{R:wF}(hR:anf R){K:KF}(a0:Int)(H:AH)(h:HZ R K a0 H):dw 47 K [] (ba (di 47) [(.int 1 a0)]) [] H:=pk hR .nil h
def asv(R:wF)(K:KF):Ti:=HZ R K
def ang(R:wF):Int→AH→KF→Prop:=λa0 H K=>asv R K a0 H
theorem apy(R:wF)(hR:anf R):av gP 47 (ao [.i 1] (ang R)):=rk λK a0 H h=>agK hR a0 H h
def Ia:wF:=(f48)
def f47:Int→AH→KF→Prop:=ang Ia
theorem asw:av gP 47 (ao [.i 1] f47):=apy Ia (ad.cons Q9 ad.nil)
abbrev lG:Type:=(AV→Int→AH→KF→Prop)×(AV→AV→AH→KF→Prop)
def asx(R:lG):List (Nat×cP):=[(45,ao [.a,.i 1] R.1),(46,ao [.a,.a] R.2)]
abbrev zP(R:lG):Prop:=ad gP (asx R)
abbrev Ra(K:KF)(F:Ta):Prop:=aM 49 K [1,1] 26 [0] [.a] F
abbrev vo(K:KF)(F:cW):Prop:=aM 49 K [0,1,0,1] 26 [0,5,6,7] [.a,.a,.i 0,.i 0] F
def Ib(R:lG)(K:KF)(a0:AV)(H:AH):Prop:=Uq a0 (.str 0 0) λv1=>bf v1 λz2=>bI z2 (dE a0 (.int 0 (.ofNat 0)) λv3=>cI 1 v3 λz4=>R.1 (.str 17 20123422373665890509693217210346309823787) z4 H λo5 H6=>cR K o5 H6 λv7=>cI 0 v7 λz8=>bI (!(cg z8 (.ofNat 0))) (eO a0 none (some (.int 0 (.ofNat 1))) λv9=>K (.ret v9) H6) (K (.ret (.str 0 0)) H6)) (K (.ret (.str 0 0)) H)
theorem agL{R:lG}(hR:zP R){K:KF}:Ra K (Ib R K):=λa0 H h=>pk hR .nil h
def agM(R:lG)(K:KF):Ta:=Ib R K
theorem agN{R:lG}(hR:zP R){K:KF}:Ra K (agM R K):=agL hR
def Ic(R:lG)(K:KF)(x2:cW)(x1:Ta)(a0 a5:AV)(a6 a7:Int)(H:AH):Prop:=bI (cg a7 a6) (cK 1 a5 (.int 0 a7) λv1=>ak v1 H λv2=>R.2 a0 v2 H λo3 H4=>cR K o3 H4 λv5=>bf v5 λz6=>bI z6 (K (.ret v2) H4) (aJ 0 (Int.add a7 (.ofNat 1)) λz7=>x2 a0 a5 a6 z7 H4)) (x1 a0 H)
theorem agO{R:lG}(hR:zP R){K:KF}{x2:cW}{x1:Ta}(h2:vo K x2)(h1:Ra K x1):vo K (Ic R K x2 x1):=λa0 a5 a6 a7 H h=>pk hR (cc h2 (cc h1 .nil)) h
def agP(R:lG)(K:KF)(i2:cW):cW:=Ic R K i2 (agM R K)
theorem agQ{R:lG}(hR:zP R){K:KF}{i2:cW}(g2:vo K i2):vo K (agP R K i2):=agO hR g2 (agN hR)
def vq(R:lG)(K:KF)(n:Nat):cW:=Nat.rec (motive:=λ_=>cW) (λ_ _ _ _ _=>False) (λ_ i=>agP R K i) n
theorem agR{R:lG}(hR:zP R){K:KF}(n:Nat):vo K (vq R K n):=Nat.rec (motive:=λn=>vo K (vq R K n)) (λa0 a5 a6 a7 H h=>h.elim) (λn ih=>agQ hR ih) n
def Ie(R:lG)(K:KF)(x2:cW)(a0:AV)(H:AH):Prop:=aN (aA H) 6 1 [(.str 2 11822),(.str 2 15677),(.str 2 15742),(.str 2 15676),(.str 2 15678),(.str 2 12079)] λv1 H2=>dp v1 λv3=>cI 0 v3 λz4=>x2 a0 v1 z4 (.ofNat 0) H2
theorem agS{R:lG}(hR:zP R){K:KF}{x2:cW}(h2:vo K x2)(a0:AV)(H:AH)(h:Ie R K x2 a0 H):dw 49 K [] (ba (di 49) [a0]) [] H:=pk hR (cc h2 .nil) h
def asy(R:lG)(K:KF):Ta:=Ie R K (vq R K NL)
def anh(R:lG):AV→AH→KF→Prop:=λa0 H K=>asy R K a0 H
theorem apz(R:lG)(hR:zP R):av gP 49 (ao [.a] (anh R)):=rk λK a0 H h=>agS hR (agR hR NL) a0 H h
abbrev jw:Type:=Unit
def apA(R:jw):List (Nat×cP):=[]
abbrev vr(R:jw):Prop:=ad gP (apA R)
abbrev LU(K:KF)(F:T_):Prop:=aM 121 K [1,1] 19 [] [] F
abbrev rz(K:KF)(F:cW):Prop:=aM 121 K [0,1,0,1] 19 [0,1,7,8] [.a,.a,.i 0,.i 0] F
def LV(R:jw)(K:KF)(H:AH):Prop:=K (.ret (.int 0 (.negSucc 0))) H
theorem aaZ{R:jw}(hR:vr R){K:KF}:LU K (LV R K):=λH h=>pk hR .nil h
def VJ(R:jw)(K:KF):T_:=LV R K
theorem aa0{R:jw}(hR:vr R){K:KF}:LU K (VJ R K):=aaZ hR
def DG(R:jw)(K:KF)(x2:cW)(x1:T_)(a0 a1:AV)(a7 a8:Int)(H:AH):Prop:=bI (cg a8 a7) (cK 1 a0 (.int 0 a8) λv1=>ak v1 H λv2=>pF a1 v2 λv3=>bf v3 λz4=>bI z4 (K (.ret (.int 0 a8)) H) (aJ 0 (Int.add a8 (.ofNat 1)) λz5=>x2 a0 a1 a7 z5 H)) (x1 H)
theorem aa1{R:jw}(hR:vr R){K:KF}{x2:cW}{x1:T_}(h2:rz K x2)(h1:LU K x1):rz K (DG R K x2 x1):=λa0 a1 a7 a8 H h=>pk hR (cc h2 (cc h1 .nil)) h
def VK(R:jw)(K:KF)(i2:cW):cW:=DG R K i2 (VJ R K)
theorem aa2{R:jw}(hR:vr R){K:KF}{i2:cW}(g2:rz K i2):rz K (VK R K i2):=aa1 hR g2 (aa0 hR)
def ui(R:jw)(K:KF)(n:Nat):cW:=Nat.rec (motive:=λ_=>cW) (λ_ _ _ _ _=>False) (λ_ i=>VK R K i) n
theorem aa3{R:jw}(hR:vr R){K:KF}(n:Nat):rz K (ui R K n):=Nat.rec (motive:=λn=>rz K (ui R K n)) (λa0 a1 a7 a8 H h=>h.elim) (λn ih=>aa2 hR ih) n
def DH(R:jw)(K:KF)(x2:cW)(a0 a1:AV)(H:AH):Prop:=dp a0 λv1=>cI 0 v1 λz2=>x2 a0 a1 z2 (.ofNat 0) H
theorem aa4{R:jw}(hR:vr R){K:KF}{x2:cW}(h2:rz K x2)(a0 a1:AV)(H:AH)(h:DH R K x2 a0 a1 H):dw 121 K [] (ba (di 121) [a0,a1]) [] H:=pk hR (cc h2 .nil) h
def apB(R:jw)(K:KF):bC:=DH R K (ui R K NL)
def agT(R:jw):AV→AV→AH→KF→Prop:=λa0 a1 H K=>apB R K a0 a1 H
theorem alV(R:jw)(hR:vr R):av gP 121 (ao [.a,.a] (agT R)):=rk λK a0 a1 H h=>aa4 hR (aa3 hR NL) a0 a1 H h
def pS:jw:=()
def f121:AV→AV→AH→KF→Prop:=agT pS
theorem apC:av gP 121 (ao [.a,.a] f121):=alV pS ad.nil
abbrev wG:Type:=(AV→AV→AH→KF→Prop)
def asz(R:wG):List (Nat×cP):=[(121,ao [.a,.a] R)]
abbrev ani(R:wG):Prop:=ad gP (asz R)
def Ig(R:wG)(K:KF)(a0 a1:AV)(H:AH):Prop:=R a0 a1 H λo1 H2=>cR K o1 H2 λv3=>cI 0 v3 λz4=>K (.ret (.bool (!(cg z4 (.ofNat 0))))) H2
theorem agU{R:wG}(hR:ani R){K:KF}(a0 a1:AV)(H:AH)(h:Ig R K a0 a1 H):dw 89 K [] (ba (di 89) [a0,a1]) [] H:=pk hR .nil h
def asA(R:wG)(K:KF):bC:=Ig R K
def anj(R:wG):AV→AV→AH→KF→Prop:=λa0 a1 H K=>asA R K a0 a1 H
theorem apD(R:wG)(hR:ani R):av gP 89 (ao [.a,.a] (anj R)):=rk λK a0 a1 H h=>agU hR a0 a1 H h
def Ih:wG:=(f121)
def f89:AV→AV→AH→KF→Prop:=anj Ih
theorem asB:av gP 89 (ao [.a,.a] f89):=apD Ih (ad.cons apC ad.nil)
abbrev cJ:Type:=Unit
def asC(R:cJ):List (Nat×cP):=[]
abbrev gB(R:cJ):Prop:=ad gP (asC R)
abbrev Rb(K:KF)(F:ka):Prop:=aM 90 K [1,1,1,1,1] 106 [0,3,5] [.a,.i 0,.i 1] F
abbrev sD(K:KF)(F:ks):Prop:=aM 90 K [0,1,0,1,1,1,1] 106 [0,3,4,5,6] [.a,.i 0,.i 0,.i 1,.i 0] F
abbrev Rc(K:KF)(F:cW):Prop:=aM 90 K [1,1,1,1,1,1,1,1,1,1,1] 106 [0,9,10,12] [.a,.a,.i 0,.i 0] F
abbrev vt(K:KF)(F:cW):Prop:=aM 90 K [0,0,1,1,1,1,1,1,1,1,1,1] 106 [0,9,10,12] [.a,.a,.i 0,.i 0] F
abbrev Rd(K:KF)(F:cW):Prop:=aM 90 K [1,1,1,1,1,1,1,1,1,1,1,1,1] 106 [0,9,10,11] [.a,.a,.i 0,.i 0] F
abbrev mV(K:KF)(F:gu):Prop:=aM 90 K [0,0,1,1,1,1,1,1,1,1,1,1,1,1] 106 [0,9,10,11,12] [.a,.a,.i 0,.i 0,.i 0] F
abbrev Re(K:KF)(F:Ta):Prop:=aM 90 K [1,1,1,1,1,1,1,1,1,1,1,1,1,1] 106 [9] [.a] F
abbrev Rf(K:KF)(F:ks):Prop:=aM 90 K [1,1,1,1,0,0,1,0,0,1,0,1,1,1,1] 106 [0,3,5,6,8] [.a,.i 0,.i 1,.i 0,.i 0] F
abbrev Rg(K:KF)(F:cW):Prop:=aM 90 K [1,1,1,0,1,0,0,0,1,1,1,1,1,1,1,1,1,1,1,1] 106 [0,9,10,12] [.a,.a,.i 0,.i 0] F
abbrev LW(K:KF)(F:cW):Prop:=aM 90 K [1,1,1,1,1,0,1,0,0,0,1,1,1,1,1,1,1,1,1,1,1,1] 106 [0,9,10,12] [.a,.a,.i 0,.i 0] F
abbrev rA(K:KF)(F:cW):Prop:=aM 90 K [0,0,1,1,1,1,0,1,0,0,0,1,1,1,1,1,1,1,1,1,1,1,1] 106 [0,9,10,12] [.a,.a,.i 0,.i 0] F
def agV(R:cJ)(K:KF)(x2:ks)(a0:AV)(a3 a5 a6 a8:Int)(H:AH):Prop:=aJ 0 (Int.add a6 (.ofNat 1)) λz1=>x2 a0 a3 a8 a5 z1 H
theorem agW{R:cJ}(hR:gB R){K:KF}{x2:ks}(h2:sD K x2):Rf K (agV R K x2):=λa0 a3 a5 a6 a8 H h=>pk hR (cc h2 .nil) h
def agX(R:cJ)(K:KF)(i2:ks):ks:=agV R K i2
theorem agY{R:cJ}(hR:gB R){K:KF}{i2:ks}(g2:sD K i2):Rf K (agX R K i2):=agW hR g2
def VM(R:cJ)(K:KF)(x6:gu)(a0 a9:AV)(a10 a12:Int)(H:AH):Prop:=x6 a0 a9 a10 a12 a12 H
theorem aa5{R:cJ}(hR:gB R){K:KF}{x6:gu}(h6:mV K x6):LW K (VM R K x6):=λa0 a9 a10 a12 H h=>pk hR (cc h6 .nil) h
def VN(R:cJ)(K:KF)(i6:gu):cW:=VM R K i6
theorem aa6{R:cJ}(hR:gB R){K:KF}{i6:gu}(g6:mV K i6):LW K (VN R K i6):=aa5 hR g6
def VO(R:cJ)(K:KF)(x11 x10:cW)(a0 a9:AV)(a10 a12:Int)(H:AH):Prop:=sLen a0 λv1=>cI 0 v1 λz2=>bI (cg a12 z2) (dE a0 (.int 0 a12) λv3=>cI 1 v3 λz4=>BK 256 1 (.ptr 0 0) (.int 1 z4) λv5=>ak v5 H λv6=>cI 1 v6 λz7=>bI (!(bj z7 (.ofNat 0))) (aJ 0 (Int.add a12 (.ofNat 1)) λz8=>x11 a0 a9 a10 z8 H) (x10 a0 a9 a10 a12 H)) (x10 a0 a9 a10 a12 H)
theorem aa7{R:cJ}(hR:gB R){K:KF}{x11 x10:cW}(h11:rA K x11)(h10:LW K x10):rA K (VO R K x11 x10):=λa0 a9 a10 a12 H h=>pk hR (cc h11 (cc h10 .nil)) h
def VP(R:cJ)(K:KF)(i6:gu)(i11:cW):cW:=VO R K i11 (VN R K i6)
theorem aa8{R:cJ}(hR:gB R){K:KF}{i6:gu}{i11:cW}(g6:mV K i6)(g11:rA K i11):rA K (VP R K i6 i11):=aa7 hR g11 (aa6 hR g6)
def LX(R:cJ)(K:KF)(i6:gu)(n:Nat):cW:=Nat.rec (motive:=λ_=>cW) (λ_ _ _ _ _=>False) (λ_ i=>VP R K i6 i) n
theorem aa9{R:cJ}(hR:gB R){K:KF}{i6:gu}(g6:mV K i6)(n:Nat):rA K (LX R K i6 n):=Nat.rec (motive:=λn=>rA K (LX R K i6 n)) (λa0 a9 a10 a12 H h=>h.elim) (λn ih=>aa8 hR g6 ih) n
def agZ(R:cJ)(K:KF)(x11:cW)(a0 a9:AV)(a10 a12:Int)(H:AH):Prop:=aJ 0 (Int.add a12 (.ofNat 1)) λz1=>x11 a0 a9 a10 z1 H
theorem ag0{R:cJ}(hR:gB R){K:KF}{x11:cW}(h11:rA K x11):Rg K (agZ R K x11):=λa0 a9 a10 a12 H h=>pk hR (cc h11 .nil) h
def ag1(R:cJ)(K:KF)(i6:gu):cW:=agZ R K (LX R K i6 NL)
theorem ag2{R:cJ}(hR:gB R){K:KF}{i6:gu}(g6:mV K i6):Rg K (ag1 R K i6):=ag0 hR (aa9 hR g6 NL)
def ag3(R:cJ)(K:KF)(a9:AV)(H:AH):Prop:=K (.ret a9) H
theorem ag4{R:cJ}(hR:gB R){K:KF}:Re K (ag3 R K):=λa9 H h=>pk hR .nil h
def ag5(R:cJ)(K:KF):Ta:=ag3 R K
theorem ag6{R:cJ}(hR:gB R){K:KF}:Re K (ag5 R K):=ag4 hR
def ag7(R:cJ)(K:KF)(x7:Ta)(a0 a9:AV)(a10 a11:Int)(H:AH):Prop:=sLen a0 λv1=>cI 0 v1 λz2=>bI (cg a11 z2) (eO a0 (some (.int 0 a11)) none λv3=>cK 1 a9 (.int 0 a10) λv4=>ae 1 v4 v3 H λH5=>x7 a9 H5) (x7 a9 H)
theorem ag8{R:cJ}(hR:gB R){K:KF}{x7:Ta}(h7:Re K x7):Rd K (ag7 R K x7):=λa0 a9 a10 a11 H h=>pk hR (cc h7 .nil) h
def ag9(R:cJ)(K:KF):cW:=ag7 R K (ag5 R K)
theorem aha{R:cJ}(hR:gB R){K:KF}:Rd K (ag9 R K):=ag8 hR (ag6 hR)
def ahb(R:cJ)(K:KF)(x6:gu)(x9 x5:cW)(a0 a9:AV)(a10 a11 a12:Int)(H:AH):Prop:=sLen a0 λv1=>cI 0 v1 λz2=>bI (cg a12 z2) (dE a0 (.int 0 a12) λv3=>cI 1 v3 λz4=>BK 256 1 (.ptr 0 0) (.int 1 z4) λv5=>ak v5 H λv6=>cI 1 v6 λz7=>bI (bj z7 (.ofNat 0)) (aJ 0 (Int.add a12 (.ofNat 1)) λz8=>x6 a0 a9 a10 a11 z8 H) (eO a0 (some (.int 0 a11)) (some (.int 0 a12)) λv9=>cK 1 a9 (.int 0 a10) λv10=>ae 1 v10 v9 H λdZ=>aJ 0 (Int.add a10 (.ofNat 1)) λz12=>x9 a0 a9 z12 a12 dZ)) (x5 a0 a9 a10 a11 H)
theorem ahc{R:cJ}(hR:gB R){K:KF}{x6:gu}{x9 x5:cW}(h6:mV K x6)(h9:Rg K x9)(h5:Rd K x5):mV K (ahb R K x6 x9 x5):=λa0 a9 a10 a11 a12 H h=>pk hR (cc h6 (cc h9 (cc h5 .nil))) h
def ahd(R:cJ)(K:KF)(i6:gu):gu:=ahb R K i6 (ag1 R K i6) (ag9 R K)
theorem ahe{R:cJ}(hR:gB R){K:KF}{i6:gu}(g6:mV K i6):mV K (ahd R K i6):=ahc hR g6 (ag2 hR g6) (aha hR)
def Rh(R:cJ)(K:KF)(n:Nat):gu:=Nat.rec (motive:=λ_=>gu) (λ_ _ _ _ _ _=>False) (λ_ i=>ahd R K i) n
theorem ahf{R:cJ}(hR:gB R){K:KF}(n:Nat):mV K (Rh R K n):=Nat.rec (motive:=λn=>mV K (Rh R K n)) (λa0 a9 a10 a11 a12 H h=>h.elim) (λn ih=>ahe hR ih) n
def ahg(R:cJ)(K:KF)(x6:gu)(a0 a9:AV)(a10 a12:Int)(H:AH):Prop:=x6 a0 a9 a10 a12 a12 H
theorem ahh{R:cJ}(hR:gB R){K:KF}{x6:gu}(h6:mV K x6):Rc K (ahg R K x6):=λa0 a9 a10 a12 H h=>pk hR (cc h6 .nil) h
def ahi(R:cJ)(K:KF):cW:=ahg R K (Rh R K NL)
theorem ahj{R:cJ}(hR:gB R){K:KF}:Rc K (ahi R K):=ahh hR (ahf hR NL)
def ahk(R:cJ)(K:KF)(x4 x3:cW)(a0 a9:AV)(a10 a12:Int)(H:AH):Prop:=sLen a0 λv1=>cI 0 v1 λz2=>bI (cg a12 z2) (dE a0 (.int 0 a12) λv3=>cI 1 v3 λz4=>BK 256 1 (.ptr 0 0) (.int 1 z4) λv5=>ak v5 H λv6=>cI 1 v6 λz7=>bI (!(bj z7 (.ofNat 0))) (aJ 0 (Int.add a12 (.ofNat 1)) λz8=>x4 a0 a9 a10 z8 H) (x3 a0 a9 a10 a12 H)) (x3 a0 a9 a10 a12 H)
theorem ahl{R:cJ}(hR:gB R){K:KF}{x4 x3:cW}(h4:vt K x4)(h3:Rc K x3):vt K (ahk R K x4 x3):=λa0 a9 a10 a12 H h=>pk hR (cc h4 (cc h3 .nil)) h
def ahm(R:cJ)(K:KF)(i4:cW):cW:=ahk R K i4 (ahi R K)
theorem ahn{R:cJ}(hR:gB R){K:KF}{i4:cW}(g4:vt K i4):vt K (ahm R K i4):=ahl hR g4 (ahj hR)
def Ri(R:cJ)(K:KF)(n:Nat):cW:=Nat.rec (motive:=λ_=>cW) (λ_ _ _ _ _=>False) (λ_ i=>ahm R K i) n
theorem aho{R:cJ}(hR:gB R){K:KF}(n:Nat):vt K (Ri R K n):=Nat.rec (motive:=λn=>vt K (Ri R K n)) (λa0 a9 a10 a12 H h=>h.elim) (λn ih=>ahn hR ih) n
def ahp(R:cJ)(K:KF)(x4:cW)(a0:AV)(a3 a5:Int)(H:AH):Prop:=bI (!(cg a5 (.ofNat 128))) (False) (cw H (adh (aA H) 1 16 [(.str 0 0)] (.int 0 a3) (.int 0 a3) λv4 H5=>x4 a0 v4 (.ofNat 0) (.ofNat 0) H5))
theorem ahq{R:cJ}(hR:gB R){K:KF}{x4:cW}(h4:vt K x4):Rb K (ahp R K x4):=λa0 a3 a5 H h=>pk hR (cc h4 .nil) h
def ahr(R:cJ)(K:KF):ka:=ahp R K (Ri R K NL)
theorem ahs{R:cJ}(hR:gB R){K:KF}:Rb K (ahr R K):=ahq hR (aho hR NL)
def aht(R:cJ)(K:KF)(x8:ks)(x1:ka)(a0:AV)(a3 a4 a5 a6:Int)(H:AH):Prop:=sLen a0 λv1=>cI 0 v1 λz2=>bI (cg a6 z2) (dE a0 (.int 0 a6) λv3=>cI 1 v3 λz4=>bM (jT 1 a5) λu5=>bM (jT 1 z4) λu6=>aJ 1 (.ofNat (Nat.lor u5 u6)) λz7=>BK 256 1 (.ptr 0 0) (.int 1 z4) λv8=>ak v8 H λv9=>cI 1 v9 λz10=>aJ 0 z10 λz11=>WS 0 (.int 0 (.negSucc 0)) (.int 0 z11) λv12=>cI 0 v12 λz13=>bM (jT 0 a4) λu14=>bM (jT 0 z13) λu15=>aJ 0 (.ofNat (Nat.land u14 u15)) λki=>aJ 0 (Int.add a3 ki) λz17=>x8 a0 z17 z7 a6 z11 H) (x1 a0 a3 a5 H)
theorem ahu{R:cJ}(hR:gB R){K:KF}{x8:ks}{x1:ka}(h8:Rf K x8)(h1:Rb K x1):sD K (aht R K x8 x1):=λa0 a3 a4 a5 a6 H h=>pk hR (cc h8 (cc h1 .nil)) h
def ahv(R:cJ)(K:KF)(i2:ks):ks:=aht R K (agX R K i2) (ahr R K)
theorem ahw{R:cJ}(hR:gB R){K:KF}{i2:ks}(g2:sD K i2):sD K (ahv R K i2):=ahu hR (agY hR g2) (ahs hR)
def Rj(R:cJ)(K:KF)(n:Nat):ks:=Nat.rec (motive:=λ_=>ks) (λ_ _ _ _ _ _=>False) (λ_ i=>ahv R K i) n
theorem ahx{R:cJ}(hR:gB R){K:KF}(n:Nat):sD K (Rj R K n):=Nat.rec (motive:=λn=>sD K (Rj R K n)) (λa0 a3 a4 a5 a6 H h=>h.elim) (λn ih=>ahw hR ih) n
def ahy(R:cJ)(K:KF)(x2:ks)(a0:AV)(H:AH):Prop:=x2 a0 (.ofNat 0) (.ofNat 1) (.ofNat 0) (.ofNat 0) H
theorem ahz{R:cJ}(hR:gB R){K:KF}{x2:ks}(h2:sD K x2)(a0:AV)(H:AH)(h:ahy R K x2 a0 H):dw 90 K [] (ba (di 90) [a0]) [] H:=pk hR (cc h2 .nil) h
def asD(R:cJ)(K:KF):Ta:=ahy R K (Rj R K NL)
def ank(R:cJ):AV→AH→KF→Prop:=λa0 H K=>asD R K a0 H
theorem apE(R:cJ)(hR:gB R):av gP 90 (ao [.a] (ank R)):=rk λK a0 H h=>ahz hR (ahx hR NL) a0 H h
def ahA:cJ:=()
def f90:AV→AH→KF→Prop:=ank ahA
theorem asE:av gP 90 (ao [.a] f90):=apE ahA ad.nil
abbrev wH:Type:=(AV→AV→AH→KF→Prop)×(AV→AH→KF→Prop)
def asF(R:wH):List (Nat×cP):=[(89,ao [.a,.a] R.1),(90,ao [.a] R.2)]
abbrev anl(R:wH):Prop:=ad gP (asF R)
def Ii(R:wH)(K:KF)(a0:AV)(H:AH):Prop:=R.2 (.str 106 743592293415549159464884965273623582657807955486870022263567599881100855398344308852071505921708641523013298851144444062831057050381886688874167040862228978947257244481257785676058839983701114737916356931020761369637418783173010486990440839896469216718433) H λo1 H2=>cR K o1 H2 λv3=>R.1 v3 a0 H2 λo4 H5=>cR K o4 H5 λv6=>bf v6 λz7=>K (.ret (.bool z7)) H5
theorem ahB{R:wH}(hR:anl R){K:KF}(a0:AV)(H:AH)(h:Ii R K a0 H):dw 50 K [] (ba (di 50) [a0]) [] H:=pk hR .nil h
def asG(R:wH)(K:KF):Ta:=Ii R K
def anm(R:wH):AV→AH→KF→Prop:=λa0 H K=>asG R K a0 H
theorem apF(R:wH)(hR:anl R):av gP 50 (ao [.a] (anm R)):=rk λK a0 H h=>ahB hR a0 H h
abbrev fY:Type:=(Int→AH→KF→Prop)×(AV→Int→Int→AH→KF→Prop)
def asH(R:fY):List (Nat×cP):=[(48,ao [.i 1] R.1),(129,ao [.a,.i 0,.i 0] R.2)]
abbrev ow(R:fY):Prop:=ad gP (asH R)
abbrev Rk(K:KF)(F:T_):Prop:=aM 93 K [1,1,1] 57 [] [] F
abbrev Rl(K:KF)(F:aaY):Prop:=aM 93 K [1,1,1,1,1,0,1,0,1,1] 57 [0,10,15] [.a,.i 1,.b] F
abbrev Rm(K:KF)(F:Ta):Prop:=aM 93 K [1,1,0,1,1,1,1,1,1,1,0,1,0,1,1] 57 [0] [.a] F
abbrev sE(K:KF)(F:dX):Prop:=aM 93 K [0,1,0,1,0,1,1,1,1,1,1,1,0,1,0,1,1] 57 [0,4] [.a,.i 0] F
abbrev Rn(K:KF)(F:dX):Prop:=aM 93 K [1,1,0,0,1,0,1,0,1,1,1,1,1,1,1,0,1,0,1,1] 57 [0,4] [.a,.i 0] F
def Bk(R:fY)(K:KF)(x4:dX)(a0:AV)(a4:Int)(H:AH):Prop:=aJ 0 (Int.add a4 (.ofNat 1)) λz1=>x4 a0 z1 H
theorem ahC{R:fY}(hR:ow R){K:KF}{x4:dX}(h4:sE K x4):Rn K (Bk R K x4):=λa0 a4 H h=>pk hR (cc h4 .nil) h
def ahD(R:fY)(K:KF)(i4:dX):dX:=Bk R K i4
theorem ahE{R:fY}(hR:ow R){K:KF}{i4:dX}(g4:sE K i4):Rn K (ahD R K i4):=ahC hR g4
def Ij(R:fY)(K:KF)(a0:AV)(H:AH):Prop:=eO a0 (some (.int 0 (.ofNat 1))) (some (.int 0 (.ofNat 3))) λv1=>R.2 v1 (.ofNat 16) (.ofNat 8) H λo2 H3=>cR K o2 H3 λv4=>eA v4 λl5=>cX l5 0 λv6=>cI 3 v6 λz7=>eA v4 λl8=>cX l8 1 λv9=>aJ 1 z7 λz10=>K (.ret (.aY [(.int 1 z10),(.int 0 (.ofNat 3))])) H3
theorem ahF{R:fY}(hR:ow R){K:KF}:Rm K (Ij R K):=λa0 H h=>pk hR .nil h
def ahG(R:fY)(K:KF):Ta:=Ij R K
theorem ahH{R:fY}(hR:ow R){K:KF}:Rm K (ahG R K):=ahF hR
def Ik(R:fY)(K:KF)(x5:dX)(x3:Ta)(a0:AV)(a4:Int)(H:AH):Prop:=bI (cg a4 (.ofNat 3)) (dE a0 (.int 0 a4) λv1=>cI 1 v1 λz2=>R.1 z2 H λo3 H4=>cR K o3 H4 λv5=>bf v5 λz6=>bI (!z6) (dE a0 (.int 0 a4) λv7=>cI 1 v7 λz8=>bM (jT 1 z8) λu9=>bM (jT 1 (.ofNat 32)) λu10=>aJ 1 (.ofNat (Nat.lor u9 u10)) λz11=>bI (cg z11 (.ofNat 97)) (K (.ret (.aY [(.int 1 (.ofNat 0)),(.int 0 (.ofNat 0))])) H4) (dE a0 (.int 0 a4) λv12=>cI 1 v12 λz13=>bM (jT 1 z13) λu14=>bM (jT 1 (.ofNat 32)) λu15=>aJ 1 (.ofNat (Nat.lor u14 u15)) λki=>bI (cg (.ofNat 102) ki) (K (.ret (.aY [(.int 1 (.ofNat 0)),(.int 0 (.ofNat 0))])) H4) (x5 a0 a4 H4))) (x5 a0 a4 H4)) (x3 a0 H)
theorem ahI{R:fY}(hR:ow R){K:KF}{x5:dX}{x3:Ta}(h5:Rn K x5)(h3:Rm K x3):sE K (Ik R K x5 x3):=λa0 a4 H h=>pk hR (cc h5 (cc h3 .nil)) h
def ahJ(R:fY)(K:KF)(i4:dX):dX:=Ik R K (ahD R K i4) (ahG R K)
theorem ahK{R:fY}(hR:ow R){K:KF}{i4:dX}(g4:sE K i4):sE K (ahJ R K i4):=ahI hR (ahE hR g4) (ahH hR)
def sF(R:fY)(K:KF)(n:Nat):dX:=Nat.rec (motive:=λ_=>dX) (λ_ _ _=>False) (λ_ i=>ahJ R K i) n
theorem ahL{R:fY}(hR:ow R){K:KF}(n:Nat):sE K (sF R K n):=Nat.rec (motive:=λn=>sE K (sF R K n)) (λa0 a4 H h=>h.elim) (λn ih=>ahK hR ih) n
def Il(R:fY)(K:KF)(H:AH):Prop:=K (.ret (.aY [(.int 1 (.ofNat 0)),(.int 0 (.ofNat 0))])) H
theorem ahM{R:fY}(hR:ow R){K:KF}:Rk K (Il R K):=λH h=>pk hR .nil h
def ahN(R:fY)(K:KF):T_:=Il R K
theorem ahO{R:fY}(hR:ow R){K:KF}:Rk K (ahN R K):=ahM hR
def yq(R:fY)(K:KF)(x4:dX)(x1:T_)(a0:AV)(a10:Int)(sG:Bool)(H:AH):Prop:=bI sG (dE a0 (.int 0 (.ofNat 0)) λv1=>cI 1 v1 λz2=>K (.ret (.aY [(.int 1 z2),(.int 0 (.ofNat 1))])) H) (bI (bj a10 (.ofNat 120)) (sLen a0 λv3=>cI 0 v3 λz4=>bI (cg z4 (.ofNat 3)) (K (.ret (.aY [(.int 1 (.ofNat 0)),(.int 0 (.ofNat 0))])) H) (x4 a0 (.ofNat 1) H)) (x1 H))
theorem ahP{R:fY}(hR:ow R){K:KF}{x4:dX}{x1:T_}(h4:sE K x4)(h1:Rk K x1):Rl K (yq R K x4 x1):=λa0 a10 sG H h=>pk hR (cc h4 (cc h1 .nil)) h
def ahQ(R:fY)(K:KF):aaY:=yq R K (sF R K NL) (ahN R K)
theorem ahR{R:fY}(hR:ow R){K:KF}:Rl K (ahQ R K):=ahP hR (ahL hR NL) (ahO hR)
def Im(R:fY)(K:KF)(x2:aaY)(a0:AV)(H:AH):Prop:=pF a0 (.str 0 0) λv1=>bf v1 λz2=>bI z2 (K (.ret (.aY [(.int 1 (.ofNat 0)),(.int 0 (.ofNat 0))])) H) (dE a0 (.int 0 (.ofNat 0)) λv3=>cI 1 v3 λz4=>bI (bj z4 (.ofNat 110)) (K (.ret (.aY [(.int 1 (.ofNat 10)),(.int 0 (.ofNat 1))])) H) (bI (bj z4 (.ofNat 116)) (K (.ret (.aY [(.int 1 (.ofNat 9)),(.int 0 (.ofNat 1))])) H) (bI (bj z4 (.ofNat 92)) (x2 a0 z4 (bj z4 (.ofNat 92)) H) (bI (bj z4 (.ofNat 34)) (x2 a0 z4 (bj z4 (.ofNat 34)) H) (x2 a0 z4 (bj z4 (.ofNat 39)) H)))))
theorem ahS{R:fY}(hR:ow R){K:KF}{x2:aaY}(h2:Rl K x2)(a0:AV)(H:AH)(h:Im R K x2 a0 H):dw 93 K [] (ba (di 93) [a0]) [] H:=pk hR (cc h2 .nil) h
def asI(R:fY)(K:KF):Ta:=Im R K (ahQ R K)
def ann(R:fY):AV→AH→KF→Prop:=λa0 H K=>asI R K a0 H
theorem apG(R:fY)(hR:ow R):av gP 93 (ao [.a] (ann R)):=rk λK a0 H h=>ahS hR (ahR hR) a0 H h
abbrev iw:Type:=(AV→AH→KF→Prop)
def asJ(R:iw):List (Nat×cP):=[(93,ao [.a] R)]
abbrev qv(R:iw):Prop:=ad gP (asJ R)
abbrev Ro(K:KF)(F:T_):Prop:=aM 52 K [1,1,1] 59 [] [] F
abbrev qw(K:KF)(F:aR):Prop:=aM 52 K [0,1,0,1,1] 59 [0,4,5] [.a,.a,.i 0] F
abbrev Io(K:KF)(F:aR):Prop:=aM 52 K [1,1,0,0,1,0,1,1] 59 [0,4,5] [.a,.a,.i 0] F
abbrev Rq(K:KF)(F:gu):Prop:=aM 52 K [1,1,1,1,1,1,1,0,1,0,0,1,0,0,1,0,1,1] 59 [0,4,5,7,8] [.a,.a,.i 0,.i 1,.i 0] F
def yr(R:iw)(K:KF)(x2:aR)(a0 a4:AV)(a5:Int)(H:AH):Prop:=aJ 0 (Int.add a5 (.ofNat 1)) λz1=>x2 a0 a4 z1 H
theorem ahT{R:iw}(hR:qv R){K:KF}{x2:aR}(h2:qw K x2):Io K (yr R K x2):=λa0 a4 a5 H h=>pk hR (cc h2 .nil) h
def Rr(R:iw)(K:KF)(i2:aR):aR:=yr R K i2
theorem No{R:iw}(hR:qv R){K:KF}{i2:aR}(g2:qw K i2):Io K (Rr R K i2):=ahT hR g2
def Rs(R:iw)(K:KF)(H:AH):Prop:=K (.ret (.aY [(.str 0 0),(.int 0 (.ofNat 0))])) H
theorem ahU{R:iw}(hR:qv R){K:KF}:Ro K (Rs R K):=λH h=>pk hR .nil h
def ahV(R:iw)(K:KF):T_:=Rs R K
theorem ahW{R:iw}(hR:qv R){K:KF}:Ro K (ahV R K):=ahU hR
def Bl(R:iw)(K:KF)(x3:aR)(a0 a4:AV)(a5 a7 a8:Int)(H:AH):Prop:=bI (bj a8 (.ofNat 0)) (K (.ret (.aY [(.str 0 0),(.int 0 (.ofNat 0))])) H) (aN (aA H) 1 1 [(.int 1 a7)] λv1 H2=>dh 1 1 a4 v1 H2 λv3 H4=>aJ 0 (Int.add a5 a8) λz5=>x3 a0 v3 z5 H4)
theorem ahX{R:iw}(hR:qv R){K:KF}{x3:aR}(h3:Io K x3):Rq K (Bl R K x3):=λa0 a4 a5 a7 a8 H h=>pk hR (cc h3 .nil) h
def ahY(R:iw)(K:KF)(i2:aR):gu:=Bl R K (Rr R K i2)
theorem ahZ{R:iw}(hR:qv R){K:KF}{i2:aR}(g2:qw K i2):Rq K (ahY R K i2):=ahX hR (No hR g2)
def Ip(R:iw)(K:KF)(x3:aR)(x1:T_)(x4:gu)(a0 a4:AV)(a5:Int)(H:AH):Prop:=sLen a0 λv1=>cI 0 v1 λz2=>bI (cg a5 z2) (dp a4 λv3=>cI 0 v3 λz4=>bI (!(cg (.ofNat 4096) z4)) (dE a0 (.int 0 a5) λv5=>cI 1 v5 λz6=>dE a0 (.int 0 (.ofNat 0)) λv7=>cI 1 v7 λz8=>bI (bj z6 z8) (xr a4 H λv9=>aJ 0 (Int.add a5 (.ofNat 1)) λz10=>K (.ret (.aY [v9,(.int 0 z10)])) H) (bI (bj z6 (.ofNat 10)) (K (.ret (.aY [(.str 0 0),(.int 0 (.ofNat 0))])) H) (bI (!(bj z6 (.ofNat 92))) (aN (aA H) 1 1 [(.int 1 z6)] λv11 bL=>dh 1 1 a4 v11 bL λv13 cN=>x3 a0 v13 a5 cN) (aJ 0 (Int.add a5 (.ofNat 1)) λlA=>eO a0 (some (.int 0 lA)) none λv16=>R v16 H λqn dK=>cR K qn dK λv19=>eA v19 λl20=>cX l20 0 λv21=>cI 1 v21 λz22=>eA v19 λVA=>cX VA 1 λv24=>cI 0 v24 λz25=>x4 a0 a4 a5 z22 z25 dK)))) (x1 H)) (x1 H)
theorem ah0{R:iw}(hR:qv R){K:KF}{x3:aR}{x1:T_}{x4:gu}(h3:Io K x3)(h1:Ro K x1)(h4:Rq K x4):qw K (Ip R K x3 x1 x4):=λa0 a4 a5 H h=>pk hR (cc h3 (cc h1 (cc h4 .nil))) h
def ah1(R:iw)(K:KF)(i2:aR):aR:=Ip R K (Rr R K i2) (ahV R K) (ahY R K i2)
theorem ah2{R:iw}(hR:qv R){K:KF}{i2:aR}(g2:qw K i2):qw K (ah1 R K i2):=ah0 hR (No hR g2) (ahW hR) (ahZ hR g2)
def my(R:iw)(K:KF)(n:Nat):aR:=Nat.rec (motive:=λ_=>aR) (λ_ _ _ _=>False) (λ_ i=>ah1 R K i) n
theorem ah3{R:iw}(hR:qv R){K:KF}(n:Nat):qw K (my R K n):=Nat.rec (motive:=λn=>qw K (my R K n)) (λa0 a4 a5 H h=>h.elim) (λn ih=>ah2 hR ih) n
def Iq(R:iw)(K:KF)(x2:aR)(a0:AV)(H:AH):Prop:=x2 a0 .ab (.ofNat 1) H
theorem ah4{R:iw}(hR:qv R){K:KF}{x2:aR}(h2:qw K x2)(a0:AV)(H:AH)(h:Iq R K x2 a0 H):dw 52 K [] (ba (di 52) [a0]) [] H:=pk hR (cc h2 .nil) h
def asK(R:iw)(K:KF):Ta:=Iq R K (my R K NL)
def ano(R:iw):AV→AH→KF→Prop:=λa0 H K=>asK R K a0 H
theorem apH(R:iw)(hR:qv R):av gP 52 (ao [.a] (ano R)):=rk λK a0 H h=>ah4 hR (ah3 hR NL) a0 H h
abbrev aQ:Type:=(AV→Int→AH→KF→Prop)×(AV→AV→AH→KF→Prop)×(Int→AH→KF→Prop)×(Int→AH→KF→Prop)×(AV→AH→KF→Prop)×(AV→AH→KF→Prop)×(AV→Int→Int→AH→KF→Prop)×(AV→AH→KF→Prop)
def asL(R:aQ):List (Nat×cP):=[(45,ao [.a,.i 1] R.1),(46,ao [.a,.a] R.2.1),(47,ao [.i 1] R.2.2.1),(48,ao [.i 1] R.2.2.2.1),(49,ao [.a] R.2.2.2.2.1),(50,ao [.a] R.2.2.2.2.2.1),(51,ao [.a,.i 0,.i 0] R.2.2.2.2.2.2.1),(52,ao [.a] R.2.2.2.2.2.2.2)]
abbrev cq(R:aQ):Prop:=ad gP (asL R)
abbrev fp(K:KF)(F:aH):Prop:=aM 21 K [2,1] 155 [0,5,6,8] [.a,.a,.a,.i 0] F
abbrev Ir(K:KF)(F:cB):Prop:=aM 21 K [3,1] 155 [0,5,6,8,9] [.a,.a,.a,.i 0,.i 0] F
abbrev Is(K:KF)(F:cB):Prop:=aM 21 K [4,1] 155 [0,5,6,8,9] [.a,.a,.a,.i 0,.i 0] F
abbrev It(K:KF)(F:aH):Prop:=aM 21 K [5,1] 155 [0,5,6,8] [.a,.a,.a,.i 0] F
abbrev vu(K:KF)(F:Ti):Prop:=aM 21 K [6,1] 155 [8] [.i 0] F
abbrev ys(K:KF)(F:aH):Prop:=aM 21 K [7,1] 155 [0,5,6,9] [.a,.a,.a,.i 0] F
abbrev Rt(K:KF)(F:aH):Prop:=aM 21 K [1,1,2,1] 155 [0,5,6,8] [.a,.a,.a,.i 0] F
abbrev vw(K:KF)(F:aH):Prop:=aM 21 K [0,0,1,2,1] 155 [0,5,6,8] [.a,.a,.a,.i 0] F
abbrev Ru(K:KF)(F:aH):Prop:=aM 21 K [1,1,1,2,1] 155 [0,5,6,8] [.a,.a,.a,.i 0] F
abbrev LY(K:KF)(F:aH):Prop:=aM 21 K [1,1,1,3,1] 155 [0,5,6,9] [.a,.a,.a,.i 0] F
abbrev LZ(K:KF)(F:cB):Prop:=aM 21 K [1,1,1,4,1] 155 [0,5,6,8,9] [.a,.a,.a,.i 0,.i 0] F
abbrev L0(K:KF)(F:aH):Prop:=aM 21 K [1,1,1,1,5,1] 155 [0,5,6,9] [.a,.a,.a,.i 0] F
abbrev L9(K:KF)(F:aH):Prop:=aM 21 K [1,0,1,0,1,1,2,1] 155 [0,5,6,8] [.a,.a,.a,.i 0] F
abbrev Ma(K:KF)(F:cB):Prop:=aM 21 K [1,1,1,1,1,1,2,1] 155 [0,5,6,8,9] [.a,.a,.a,.i 0,.i 0] F
abbrev rB(K:KF)(F:aH):Prop:=aM 21 K [0,0,0,1,0,1,1,2,1] 155 [0,5,6,8] [.a,.a,.a,.i 0] F
abbrev Mb(K:KF)(F:aH):Prop:=aM 21 K [1,1,1,1,1,1,1,0,1] 155 [0,5,6,8] [.a,.a,.a,.i 0] F
abbrev rC(K:KF)(F:aH):Prop:=aM 21 K [0,0,1,1,1,1,1,1,0,1] 155 [0,5,6,8] [.a,.a,.a,.i 0] F
abbrev rD(K:KF)(F:cB):Prop:=aM 21 K [0,1,0,1,1,1,1,1,2,1] 155 [0,5,6,8,9] [.a,.a,.a,.i 0,.i 0] F
abbrev Mc(K:KF)(F:aH):Prop:=aM 21 K [1,1,1,1,1,1,1,1,0,1] 155 [0,5,6,8] [.a,.a,.a,.i 0] F
abbrev Md(K:KF)(F:aH):Prop:=aM 21 K [1,1,1,1,1,1,1,1,2,1] 155 [0,5,6,8] [.a,.a,.a,.i 0] F
abbrev Me(K:KF)(F:aH):Prop:=aM 21 K [1,0,1,0,1,1,1,1,1,1,1,0,1] 155 [0,5,6,8] [.a,.a,.a,.i 0] F
abbrev Mf(K:KF)(F:cB):Prop:=aM 21 K [1,0,1,1,1,1,1,1,1,1,1,2,1] 155 [0,5,6,8,9] [.a,.a,.a,.i 0,.i 0] F
abbrev Mg(K:KF)(F:cB):Prop:=aM 21 K [1,1,0,0,1,1,1,1,1,1,1,2,1] 155 [0,5,6,8,9] [.a,.a,.a,.i 0,.i 0] F
abbrev Mh(K:KF)(F:cB):Prop:=aM 21 K [1,1,1,1,1,1,1,1,1,1,1,0,1] 155 [0,5,6,8,9] [.a,.a,.a,.i 0,.i 0] F
abbrev rE(K:KF)(F:aH):Prop:=aM 21 K [0,0,0,1,0,1,1,1,1,1,1,1,0,1] 155 [0,5,6,8] [.a,.a,.a,.i 0] F
abbrev rF(K:KF)(F:cB):Prop:=aM 21 K [0,1,0,1,1,1,1,1,1,1,1,1,1,0,1] 155 [0,5,6,8,9] [.a,.a,.a,.i 0,.i 0] F
abbrev Mi(K:KF)(F:aH):Prop:=aM 21 K [1,1,1,1,1,1,1,1,1,1,1,1,1,0,1] 155 [0,5,6,8] [.a,.a,.a,.i 0] F
abbrev Mj(K:KF)(F:cB):Prop:=aM 21 K [1,0,1,1,1,1,1,1,1,1,1,1,1,1,1,1,0,1] 155 [0,5,6,8,9] [.a,.a,.a,.i 0,.i 0] F
abbrev Mk(K:KF)(F:cB):Prop:=aM 21 K [1,1,0,0,1,1,1,1,1,1,1,1,1,1,1,1,0,1] 155 [0,5,6,8,9] [.a,.a,.a,.i 0,.i 0] F
def uj(R:aQ)(K:KF)(x1:aH)(a0 a5 a6:AV)(a8:Int)(H:AH):Prop:=x1 a0 a5 a6 a8 H
theorem aba{R:aQ}(hR:cq R){K:KF}{x1:aH}(h1:fp K x1):L9 K (uj R K x1):=λa0 a5 a6 a8 H h=>pk hR (cc h1 .nil) h
def yt(R:aQ)(K:KF)(i1:aH):aH:=uj R K i1
theorem abb{R:aQ}(hR:cq R){K:KF}{i1:aH}(g1:fp K i1):L9 K (yt R K i1):=aba hR g1
def uo(R:aQ)(K:KF)(x15 s6:aH)(a0 a5 a6:AV)(a8:Int)(H:AH):Prop:=sLen a0 λv1=>cI 0 v1 λz2=>bI (cg a8 z2) (dE a0 (.int 0 a8) λv3=>cI 1 v3 λz4=>bI (!(bj z4 (.ofNat 10))) (aJ 0 (Int.add a8 (.ofNat 1)) λz5=>x15 a0 a5 a6 z5 H) (s6 a0 a5 a6 a8 H)) (s6 a0 a5 a6 a8 H)
theorem abc{R:aQ}(hR:cq R){K:KF}{x15 s6:aH}(h15:rB K x15)(h13:L9 K s6):rB K (uo R K x15 s6):=λa0 a5 a6 a8 H h=>pk hR (cc h15 (cc h13 .nil)) h
def VQ(R:aQ)(K:KF)(i1 i15:aH):aH:=uo R K i15 (yt R K i1)
theorem abd{R:aQ}(hR:cq R){K:KF}{i1 i15:aH}(g1:fp K i1)(g15:rB K i15):rB K (VQ R K i1 i15):=abc hR g15 (abb hR g1)
def lj(R:aQ)(K:KF)(i1:aH)(n:Nat):aH:=Nat.rec (motive:=λ_=>aH) (λ_ _ _ _ _=>False) (λ_ i=>VQ R K i1 i) n
theorem abe{R:aQ}(hR:cq R){K:KF}{i1:aH}(g1:fp K i1)(n:Nat):rB K (lj R K i1 n):=Nat.rec (motive:=λn=>rB K (lj R K i1 n)) (λa0 a5 a6 a8 H h=>h.elim) (λn ih=>abd hR g1 ih) n
def qx(R:aQ)(K:KF)(a8:Int)(H:AH):Prop:=K (.ret (.aY [.ab,(.int 0 (.ofNat 14)),(.int 0 a8)])) H
theorem ah5{R:aQ}(hR:cq R){K:KF}:vu K (qx R K):=λa8 H h=>pk hR .nil h
def yu(R:aQ)(K:KF):Ti:=qx R K
theorem sH{R:aQ}(hR:cq R){K:KF}:vu K (yu R K):=ah5 hR
def sI(R:aQ)(K:KF)(x1:aH)(a0 a5 a6:AV)(a9:Int)(H:AH):Prop:=aF 4 a6 H λv1=>onVal v1 λl2=>dV l2 4 (aN (aA H) 1 4 (spl l2 [(.int 0 (.ofNat 0)),(.str 0 0),(.int 0 (.ofNat 0)),(.int 0 (.ofNat 0))] 0) λv3 H4=>dh 4 40 a5 v3 H4 λv5 H6=>x1 a0 v5 a6 a9 H6)
theorem ah6{R:aQ}(hR:cq R){K:KF}{x1:aH}(h1:fp K x1):ys K (sI R K x1):=λa0 a5 a6 a9 H h=>pk hR (cc h1 .nil) h
def Bm(R:aQ)(K:KF)(i1:aH):aH:=sI R K i1
theorem wI{R:aQ}(hR:cq R){K:KF}{i1:aH}(g1:fp K i1):ys K (Bm R K i1):=ah6 hR g1
def yv(R:aQ)(K:KF)(x5:Ti)(x6:aH)(a0 a5 a6:AV)(a8 a9:Int)(H:AH):Prop:=bI (bj a9 a8) (x5 a8 H) (x6 a0 a5 a6 a9 H)
theorem abf{R:aQ}(hR:cq R){K:KF}{x5:Ti}{x6:aH}(h5:vu K x5)(h6:ys K x6):Mf K (yv R K x5 x6):=λa0 a5 a6 a8 a9 H h=>pk hR (cc h5 (cc h6 .nil)) h
def DI(R:aQ)(K:KF)(i1:aH):cB:=yv R K (yu R K) (Bm R K i1)
theorem abg{R:aQ}(hR:cq R){K:KF}{i1:aH}(g1:fp K i1):Mf K (DI R K i1):=abf hR (sH hR) (wI hR g1)
def yw(R:aQ)(K:KF)(x24:cB)(a0 a5 a6:AV)(a8:Int)(H:AH):Prop:=eO a0 (some (.int 0 a8)) none λv1=>R.2.2.2.2.1 v1 H λo2 H3=>cR K o2 H3 λv4=>al 0 a6 λv5=>ae 1 v5 (.int 0 (.ofNat 5)) H3 λH6=>al 1 a6 λv7=>ae 1 v7 v4 H6 λH8=>al 1 a6 λv9=>ak v9 H8 λv10=>sLen v10 λv11=>cI 0 v11 λz12=>aJ 0 (Int.add a8 z12) λz13=>x24 a0 a5 a6 a8 z13 H8
theorem abh{R:aQ}(hR:cq R){K:KF}{x24:cB}(Qg:Mf K x24):Md K (yw R K x24):=λa0 a5 a6 a8 H h=>pk hR (cc Qg .nil) h
def uq(R:aQ)(K:KF)(i1:aH):aH:=yw R K (DI R K i1)
theorem abi{R:aQ}(hR:cq R){K:KF}{i1:aH}(g1:fp K i1):Md K (uq R K i1):=abh hR (abg hR g1)
def yx(R:aQ)(K:KF)(x5:Ti)(x6:aH)(a0 a5 a6:AV)(a8 a9:Int)(H:AH):Prop:=al 1 a6 λv1=>ak v1 H λv2=>sLen v2 λv3=>cI 0 v3 λz4=>bI (cg (.ofNat 32) z4) (x5 a8 H) (x6 a0 a5 a6 a9 H)
theorem abj{R:aQ}(hR:cq R){K:KF}{x5:Ti}{x6:aH}(h5:vu K x5)(h6:ys K x6):LZ K (yx R K x5 x6):=λa0 a5 a6 a8 a9 H h=>pk hR (cc h5 (cc h6 .nil)) h
def VS(R:aQ)(K:KF)(i1:aH):cB:=yx R K (yu R K) (Bm R K i1)
theorem abk{R:aQ}(hR:cq R){K:KF}{i1:aH}(g1:fp K i1):LZ K (VS R K i1):=abj hR (sH hR) (wI hR g1)
def Iu(R:aQ)(K:KF)(x11:cB)(a0 a5 a6:AV)(a8 a9:Int)(H:AH):Prop:=al 0 a6 λv1=>ae 1 v1 (.int 0 (.ofNat 2)) H λH2=>al 1 a6 λv3=>ak v3 H2 λv4=>R.2.2.2.2.2.1 v4 H2 λo5 H6=>cR K o5 H6 λv7=>bf v7 λz8=>bI z8 (al 0 a6 λv9=>ae 1 v9 (.int 0 (.ofNat 1)) H6 λbJ=>x11 a0 a5 a6 a8 a9 bJ) (x11 a0 a5 a6 a8 a9 H6)
theorem ah7{R:aQ}(hR:cq R){K:KF}{x11:cB}(h11:LZ K x11):Is K (Iu R K x11):=λa0 a5 a6 a8 a9 H h=>pk hR (cc h11 .nil) h
def Bn(R:aQ)(K:KF)(i1:aH):cB:=Iu R K (VS R K i1)
theorem Np{R:aQ}(hR:cq R){K:KF}{i1:aH}(g1:fp K i1):Is K (Bn R K i1):=ah7 hR (abk hR g1)
def yy(R:aQ)(K:KF)(x1:aH)(a0 a5 a6:AV)(a9:Int)(H:AH):Prop:=aF 4 a6 H λv1=>onVal v1 λl2=>dV l2 4 (aN (aA H) 1 4 (spl l2 [(.int 0 (.ofNat 0)),(.str 0 0),(.int 0 (.ofNat 0)),(.int 0 (.ofNat 0))] 0) λv3 H4=>dh 4 40 a5 v3 H4 λv5 H6=>x1 a0 v5 a6 a9 H6)
theorem abl{R:aQ}(hR:cq R){K:KF}{x1:aH}(h1:fp K x1):L0 K (yy R K x1):=λa0 a5 a6 a9 H h=>pk hR (cc h1 .nil) h
def VT(R:aQ)(K:KF)(i1:aH):aH:=yy R K i1
theorem abm{R:aQ}(hR:cq R){K:KF}{i1:aH}(g1:fp K i1):L0 K (VT R K i1):=abl hR g1
def Iv(R:aQ)(K:KF)(x12:aH)(x5:Ti)(a0 a5 a6:AV)(a8:Int)(H:AH):Prop:=al 0 a6 λv1=>ae 1 v1 (.int 0 (.ofNat 4)) H λH2=>eO a0 (some (.int 0 a8)) none λv3=>R.2.2.2.2.2.2.2 v3 H2 λo4 H5=>cR K o4 H5 λv6=>eA v6 λl7=>cX l7 0 λv8=>eA v6 λl9=>cX l9 1 λv10=>cI 0 v10 λz11=>al 1 a6 λv12=>ae 1 v12 v8 H5 λdL=>bI (bj z11 (.ofNat 0)) (x5 a8 dL) (aJ 0 (Int.add z11 a8) λmn=>x12 a0 a5 a6 mn dL)
theorem ah8{R:aQ}(hR:cq R){K:KF}{x12:aH}{x5:Ti}(h12:L0 K x12)(h5:vu K x5):It K (Iv R K x12 x5):=λa0 a5 a6 a8 H h=>pk hR (cc h12 (cc h5 .nil)) h
def yz(R:aQ)(K:KF)(i1:aH):aH:=Iv R K (VT R K i1) (yu R K)
theorem Nq{R:aQ}(hR:cq R){K:KF}{i1:aH}(g1:fp K i1):It K (yz R K i1):=ah8 hR (abm hR g1) (sH hR)
def yA(R:aQ)(K:KF)(x20:aH)(x3:cB)(x4:aH)(a0 a5 a6:AV)(a8 a9:Int)(H:AH):Prop:=bI (cg a8 a9) (x3 a0 a5 a6 a8 a9 H) (dE a0 (.int 0 a8) λv1=>cI 1 v1 λz2=>bI (bj z2 (.ofNat 34)) (x4 a0 a5 a6 a8 H) (dE a0 (.int 0 a8) λv3=>cI 1 v3 λz4=>bI (bj z4 (.ofNat 39)) (x4 a0 a5 a6 a8 H) (x20 a0 a5 a6 a8 H)))
theorem abn{R:aQ}(hR:cq R){K:KF}{x20:aH}{x3:cB}{x4:aH}(h20:Md K x20)(h3:Is K x3)(h4:It K x4):Mg K (yA R K x20 x3 x4):=λa0 a5 a6 a8 a9 H h=>pk hR (cc h20 (cc h3 (cc h4 .nil))) h
def ur(R:aQ)(K:KF)(i1:aH):cB:=yA R K (uq R K i1) (Bn R K i1) (yz R K i1)
theorem abo{R:aQ}(hR:cq R){K:KF}{i1:aH}(g1:fp K i1):Mg K (ur R K i1):=abn hR (abi hR g1) (Np hR g1) (Nq hR g1)
def DJ(R:aQ)(K:KF)(x6:aH)(a0 a5 a6:AV)(a9:Int)(H:AH):Prop:=al 1 a6 λv1=>ae 1 v1 (.str 0 0) H λH2=>x6 a0 a5 a6 a9 H2
theorem abp{R:aQ}(hR:cq R){K:KF}{x6:aH}(h6:ys K x6):LY K (DJ R K x6):=λa0 a5 a6 a9 H h=>pk hR (cc h6 .nil) h
def VU(R:aQ)(K:KF)(i1:aH):aH:=DJ R K (Bm R K i1)
theorem abq{R:aQ}(hR:cq R){K:KF}{i1:aH}(g1:fp K i1):LY K (VU R K i1):=abp hR (wI hR g1)
def Iw(R:aQ)(K:KF)(x10:aH)(x5:Ti)(a0 a5 a6:AV)(a8 a9:Int)(H:AH):Prop:=al 0 a6 λv1=>ae 1 v1 (.int 0 (.ofNat 3)) H λH2=>al 1 a6 λv3=>ak v3 H2 λv4=>R.2.2.2.2.2.2.1 v4 (.ofNat 10) (.ofNat 64) H2 λo5 H6=>cR K o5 H6 λv7=>eA v7 λl8=>cX l8 0 λv9=>cI 0 v9 λz10=>eA v7 λEm=>cX Em 1 λv12=>al 2 a6 λv13=>ae 1 v13 (.int 0 z10) H6 λcN=>vQ false v12 λv15=>bf v15 λki=>bI ki (x5 a8 cN) (al 1 a6 λv17=>ak v17 cN λv18=>R.1 v18 (.ofNat 95) cN λxL fD=>cR K xL fD λv21=>cI 0 v21 λz22=>bI (!(cg z22 (.ofNat 0))) (x5 a8 fD) (x10 a0 a5 a6 a9 fD))
theorem ah9{R:aQ}(hR:cq R){K:KF}{x10:aH}{x5:Ti}(h10:LY K x10)(h5:vu K x5):Ir K (Iw R K x10 x5):=λa0 a5 a6 a8 a9 H h=>pk hR (cc h10 (cc h5 .nil)) h
def Bo(R:aQ)(K:KF)(i1:aH):cB:=Iw R K (VU R K i1) (yu R K)
theorem Nr{R:aQ}(hR:cq R){K:KF}{i1:aH}(g1:fp K i1):Ir K (Bo R K i1):=ah9 hR (abq hR g1) (sH hR)
def yB(R:aQ)(K:KF)(x25 x2:cB)(a0 a5 a6:AV)(a8 a9:Int)(H:AH):Prop:=eO a0 (some (.int 0 a8)) (some (.int 0 a9)) λv1=>al 1 a6 λv2=>ae 1 v2 v1 H λH3=>bI (cg a8 a9) (dE a0 (.int 0 a8) λv4=>cI 1 v4 λz5=>R.2.2.2.1 z5 H3 λo6 H7=>cR K o6 H7 λv8=>bf v8 λz9=>bI z9 (x2 a0 a5 a6 a8 a9 H7) (x25 a0 a5 a6 a8 a9 H7)) (x25 a0 a5 a6 a8 a9 H3)
theorem abr{R:aQ}(hR:cq R){K:KF}{x25 x2:cB}(h25:Mg K x25)(h2:Ir K x2):Ma K (yB R K x25 x2):=λa0 a5 a6 a8 a9 H h=>pk hR (cc h25 (cc h2 .nil)) h
def pT(R:aQ)(K:KF)(i1:aH):cB:=yB R K (ur R K i1) (Bo R K i1)
theorem abt{R:aQ}(hR:cq R){K:KF}{i1:aH}(g1:fp K i1):Ma K (pT R K i1):=abr hR (abo hR g1) (Nr hR g1)
def uu(R:aQ)(K:KF)(x18 x14:cB)(a0 a5 a6:AV)(a8 a9:Int)(H:AH):Prop:=sLen a0 λv1=>cI 0 v1 λz2=>bI (cg a9 z2) (dE a0 (.int 0 a9) λv3=>cI 1 v3 λz4=>R.2.2.1 z4 H λo5 H6=>cR K o5 H6 λv7=>bf v7 λz8=>bI z8 (aJ 0 (Int.add a9 (.ofNat 1)) λz9=>x18 a0 a5 a6 a8 z9 H6) (x14 a0 a5 a6 a8 a9 H6)) (x14 a0 a5 a6 a8 a9 H)
theorem abu{R:aQ}(hR:cq R){K:KF}{x18 x14:cB}(h18:rD K x18)(QC:Ma K x14):rD K (uu R K x18 x14):=λa0 a5 a6 a8 a9 H h=>pk hR (cc h18 (cc QC .nil)) h
def VV(R:aQ)(K:KF)(i1:aH)(i18:cB):cB:=uu R K i18 (pT R K i1)
theorem abv{R:aQ}(hR:cq R){K:KF}{i1:aH}{i18:cB}(g1:fp K i1)(g18:rD K i18):rD K (VV R K i1 i18):=abu hR g18 (abt hR g1)
def kF(R:aQ)(K:KF)(i1:aH)(n:Nat):cB:=Nat.rec (motive:=λ_=>cB) (λ_ _ _ _ _ _=>False) (λ_ i=>VV R K i1 i) n
theorem abw{R:aQ}(hR:cq R){K:KF}{i1:aH}(g1:fp K i1)(n:Nat):rD K (kF R K i1 n):=Nat.rec (motive:=λn=>rD K (kF R K i1 n)) (λa0 a5 a6 a8 a9 H h=>h.elim) (λn ih=>abv hR g1 ih) n
def qy(R:aQ)(K:KF)(x18:cB)(a0 a5 a6:AV)(a8:Int)(H:AH):Prop:=ae 4 a6 (.agg [(.int 0 (.ofNat 0)),(.str 0 0),(.int 0 (.ofNat 0)),(.int 0 a8)]) H λH1=>sLen a0 λv2=>cI 0 v2 λz3=>bI (bj a8 z3) (aF 4 a6 H1 λv4=>onVal v4 λl5=>dV l5 4 (aN (aA H1) 1 4 (spl l5 [(.int 0 (.ofNat 0)),(.str 0 0),(.int 0 (.ofNat 0)),(.int 0 (.ofNat 0))] 0) λv6 H7=>dh 4 40 a5 v6 H7 λv8 H9=>K (.ret (.aY [v8,(.int 0 (.ofNat 0)),(.int 0 (.ofNat 0))])) H9)) (x18 a0 a5 a6 a8 a8 H1)
theorem aia{R:aQ}(hR:cq R){K:KF}{x18:cB}(h18:rD K x18):Ru K (qy R K x18):=λa0 a5 a6 a8 H h=>pk hR (cc h18 .nil) h
def Ix(R:aQ)(K:KF)(i1:aH):aH:=qy R K (kF R K i1 NL)
theorem aib{R:aQ}(hR:cq R){K:KF}{i1:aH}(g1:fp K i1):Ru K (Ix R K i1):=aia hR (abw hR g1 NL)
def oV(R:aQ)(K:KF)(x15 x9:aH)(a0 a5 a6:AV)(a8:Int)(H:AH):Prop:=eO a0 (some (.int 0 a8)) none λv1=>R.2.1 v1 (.str 2 11565) H λo2 H3=>cR K o2 H3 λv4=>bf v4 λz5=>bI z5 (x15 a0 a5 a6 a8 H3) (x9 a0 a5 a6 a8 H3)
theorem aic{R:aQ}(hR:cq R){K:KF}{x15 x9:aH}(h15:rB K x15)(h9:Ru K x9):Rt K (oV R K x15 x9):=λa0 a5 a6 a8 H h=>pk hR (cc h15 (cc h9 .nil)) h
def Bp(R:aQ)(K:KF)(i1:aH):aH:=oV R K (lj R K i1 NL) (Ix R K i1)
theorem aid{R:aQ}(hR:cq R){K:KF}{i1:aH}(g1:fp K i1):Rt K (Bp R K i1):=aic hR (abe hR g1 NL) (aib hR g1)
def mW(R:aQ)(K:KF)(x8 x7:aH)(a0 a5 a6:AV)(a8:Int)(H:AH):Prop:=sLen a0 λv1=>cI 0 v1 λz2=>bI (cg a8 z2) (dE a0 (.int 0 a8) λv3=>cI 1 v3 λz4=>R.1 (.str 4 218761504) z4 H λo5 H6=>cR K o5 H6 λv7=>cI 0 v7 λz8=>bI (!(cg z8 (.ofNat 0))) (aJ 0 (Int.add a8 (.ofNat 1)) λz9=>x8 a0 a5 a6 z9 H6) (x7 a0 a5 a6 a8 H6)) (x7 a0 a5 a6 a8 H)
theorem aie{R:aQ}(hR:cq R){K:KF}{x8 x7:aH}(h8:vw K x8)(h7:Rt K x7):vw K (mW R K x8 x7):=λa0 a5 a6 a8 H h=>pk hR (cc h8 (cc h7 .nil)) h
def aif(R:aQ)(K:KF)(i1 i8:aH):aH:=mW R K i8 (Bp R K i1)
theorem aih{R:aQ}(hR:cq R){K:KF}{i1 i8:aH}(g1:fp K i1)(g8:vw K i8):vw K (aif R K i1 i8):=aie hR g8 (aid hR g1)
def jx(R:aQ)(K:KF)(i1:aH)(n:Nat):aH:=Nat.rec (motive:=λ_=>aH) (λ_ _ _ _ _=>False) (λ_ i=>aif R K i1 i) n
theorem aii{R:aQ}(hR:cq R){K:KF}{i1:aH}(g1:fp K i1)(n:Nat):vw K (jx R K i1 n):=Nat.rec (motive:=λn=>vw K (jx R K i1 n)) (λa0 a5 a6 a8 H h=>h.elim) (λn ih=>aih hR g1 ih) n
def Iy(R:aQ)(K:KF)(x8:aH)(a0 a5 a6:AV)(a8:Int)(H:AH):Prop:=x8 a0 a5 a6 a8 H
theorem aij{R:aQ}(hR:cq R){K:KF}{x8:aH}(h8:vw K x8):fp K (Iy R K x8):=λa0 a5 a6 a8 H h=>pk hR (cc h8 .nil) h
def aik(R:aQ)(K:KF)(i1:aH):aH:=Iy R K (jx R K i1 NL)
theorem ail{R:aQ}(hR:cq R){K:KF}{i1:aH}(g1:fp K i1):fp K (aik R K i1):=aij hR (aii hR g1 NL)
def fI(R:aQ)(K:KF)(n:Nat):aH:=Nat.rec (motive:=λ_=>aH) (λ_ _ _ _ _=>False) (λ_ i=>aik R K i) n
theorem sJ{R:aQ}(hR:cq R){K:KF}(n:Nat):fp K (fI R K n):=Nat.rec (motive:=λn=>fp K (fI R K n)) (λa0 a5 a6 a8 H h=>h.elim) (λn ih=>ail hR ih) n
def Ml(R:aQ)(K:KF)(x1:aH)(a0 a5 a6:AV)(a8:Int)(H:AH):Prop:=x1 a0 a5 a6 a8 H
theorem abx{R:aQ}(hR:cq R){K:KF}{x1:aH}(h1:fp K x1):Me K (Ml R K x1):=λa0 a5 a6 a8 H h=>pk hR (cc h1 .nil) h
def yC(R:aQ)(K:KF):aH:=Ml R K (fI R K NL)
theorem aby{R:aQ}(hR:cq R){K:KF}:Me K (yC R K):=abx hR (sJ hR NL)
def DK(R:aQ)(K:KF)(x27 x23:aH)(a0 a5 a6:AV)(a8:Int)(H:AH):Prop:=sLen a0 λv1=>cI 0 v1 λz2=>bI (cg a8 z2) (dE a0 (.int 0 a8) λv3=>cI 1 v3 λz4=>bI (!(bj z4 (.ofNat 10))) (aJ 0 (Int.add a8 (.ofNat 1)) λz5=>x27 a0 a5 a6 z5 H) (x23 a0 a5 a6 a8 H)) (x23 a0 a5 a6 a8 H)
theorem abz{R:aQ}(hR:cq R){K:KF}{x27 x23:aH}(h27:rE K x27)(h23:Me K x23):rE K (DK R K x27 x23):=λa0 a5 a6 a8 H h=>pk hR (cc h27 (cc h23 .nil)) h
def VW(R:aQ)(K:KF)(i27:aH):aH:=DK R K i27 (yC R K)
theorem abA{R:aQ}(hR:cq R){K:KF}{i27:aH}(g27:rE K i27):rE K (VW R K i27):=abz hR g27 (aby hR)
def uw(R:aQ)(K:KF)(n:Nat):aH:=Nat.rec (motive:=λ_=>aH) (λ_ _ _ _ _=>False) (λ_ i=>VW R K i) n
theorem abB{R:aQ}(hR:cq R){K:KF}(n:Nat):rE K (uw R K n):=Nat.rec (motive:=λn=>rE K (uw R K n)) (λa0 a5 a6 a8 H h=>h.elim) (λn ih=>abA hR ih) n
def Mm(R:aQ)(K:KF)(x5:Ti)(x6:aH)(a0 a5 a6:AV)(a8 a9:Int)(H:AH):Prop:=bI (bj a9 a8) (x5 a8 H) (x6 a0 a5 a6 a9 H)
theorem abC{R:aQ}(hR:cq R){K:KF}{x5:Ti}{x6:aH}(h5:vu K x5)(h6:ys K x6):Mj K (Mm R K x5 x6):=λa0 a5 a6 a8 a9 H h=>pk hR (cc h5 (cc h6 .nil)) h
def DL(R:aQ)(K:KF):cB:=Mm R K (yu R K) (Bm R K (fI R K NL))
theorem abD{R:aQ}(hR:cq R){K:KF}:Mj K (DL R K):=abC hR (sH hR) (wI hR (sJ hR NL))
def Mn(R:aQ)(K:KF)(x32:cB)(a0 a5 a6:AV)(a8:Int)(H:AH):Prop:=eO a0 (some (.int 0 a8)) none λv1=>R.2.2.2.2.1 v1 H λo2 H3=>cR K o2 H3 λv4=>al 0 a6 λv5=>ae 1 v5 (.int 0 (.ofNat 5)) H3 λH6=>al 1 a6 λv7=>ae 1 v7 v4 H6 λH8=>al 1 a6 λv9=>ak v9 H8 λv10=>sLen v10 λv11=>cI 0 v11 λz12=>aJ 0 (Int.add a8 z12) λz13=>x32 a0 a5 a6 a8 z13 H8
theorem abE{R:aQ}(hR:cq R){K:KF}{x32:cB}(h32:Mj K x32):Mi K (Mn R K x32):=λa0 a5 a6 a8 H h=>pk hR (cc h32 .nil) h
def DM(R:aQ)(K:KF):aH:=Mn R K (DL R K)
theorem abF{R:aQ}(hR:cq R){K:KF}:Mi K (DM R K):=abE hR (abD hR)
def Mo(R:aQ)(K:KF)(x30:aH)(x3:cB)(x4:aH)(a0 a5 a6:AV)(a8 a9:Int)(H:AH):Prop:=bI (cg a8 a9) (x3 a0 a5 a6 a8 a9 H) (dE a0 (.int 0 a8) λv1=>cI 1 v1 λz2=>bI (bj z2 (.ofNat 34)) (x4 a0 a5 a6 a8 H) (dE a0 (.int 0 a8) λv3=>cI 1 v3 λz4=>bI (bj z4 (.ofNat 39)) (x4 a0 a5 a6 a8 H) (x30 a0 a5 a6 a8 H)))
theorem abG{R:aQ}(hR:cq R){K:KF}{x30:aH}{x3:cB}{x4:aH}(h30:Mi K x30)(h3:Is K x3)(h4:It K x4):Mk K (Mo R K x30 x3 x4):=λa0 a5 a6 a8 a9 H h=>pk hR (cc h30 (cc h3 (cc h4 .nil))) h
def DN(R:aQ)(K:KF):cB:=Mo R K (DM R K) (Bn R K (fI R K NL)) (yz R K (fI R K NL))
theorem abH{R:aQ}(hR:cq R){K:KF}:Mk K (DN R K):=abG hR (abF hR) (Np hR (sJ hR NL)) (Nq hR (sJ hR NL))
def Mp(R:aQ)(K:KF)(x33 x2:cB)(a0 a5 a6:AV)(a8 a9:Int)(H:AH):Prop:=eO a0 (some (.int 0 a8)) (some (.int 0 a9)) λv1=>al 1 a6 λv2=>ae 1 v2 v1 H λH3=>bI (cg a8 a9) (dE a0 (.int 0 a8) λv4=>cI 1 v4 λz5=>R.2.2.2.1 z5 H3 λo6 H7=>cR K o6 H7 λv8=>bf v8 λz9=>bI z9 (x2 a0 a5 a6 a8 a9 H7) (x33 a0 a5 a6 a8 a9 H7)) (x33 a0 a5 a6 a8 a9 H3)
theorem abI{R:aQ}(hR:cq R){K:KF}{x33 x2:cB}(h33:Mk K x33)(h2:Ir K x2):Mh K (Mp R K x33 x2):=λa0 a5 a6 a8 a9 H h=>pk hR (cc h33 (cc h2 .nil)) h
def yD(R:aQ)(K:KF):cB:=Mp R K (DN R K) (Bo R K (fI R K NL))
theorem abJ{R:aQ}(hR:cq R){K:KF}:Mh K (yD R K):=abI hR (abH hR) (Nr hR (sJ hR NL))
def DO(R:aQ)(K:KF)(x29 x26:cB)(a0 a5 a6:AV)(a8 a9:Int)(H:AH):Prop:=sLen a0 λv1=>cI 0 v1 λz2=>bI (cg a9 z2) (dE a0 (.int 0 a9) λv3=>cI 1 v3 λz4=>R.2.2.1 z4 H λo5 H6=>cR K o5 H6 λv7=>bf v7 λz8=>bI z8 (aJ 0 (Int.add a9 (.ofNat 1)) λz9=>x29 a0 a5 a6 a8 z9 H6) (x26 a0 a5 a6 a8 a9 H6)) (x26 a0 a5 a6 a8 a9 H)
theorem abK{R:aQ}(hR:cq R){K:KF}{x29 x26:cB}(h29:rF K x29)(h26:Mh K x26):rF K (DO R K x29 x26):=λa0 a5 a6 a8 a9 H h=>pk hR (cc h29 (cc h26 .nil)) h
def VX(R:aQ)(K:KF)(i29:cB):cB:=DO R K i29 (yD R K)
theorem abL{R:aQ}(hR:cq R){K:KF}{i29:cB}(g29:rF K i29):rF K (VX R K i29):=abK hR g29 (abJ hR)
def ux(R:aQ)(K:KF)(n:Nat):cB:=Nat.rec (motive:=λ_=>cB) (λ_ _ _ _ _ _=>False) (λ_ i=>VX R K i) n
theorem abM{R:aQ}(hR:cq R){K:KF}(n:Nat):rF K (ux R K n):=Nat.rec (motive:=λn=>rF K (ux R K n)) (λa0 a5 a6 a8 a9 H h=>h.elim) (λn ih=>abL hR ih) n
def Mq(R:aQ)(K:KF)(x29:cB)(a0 a5 a6:AV)(a8:Int)(H:AH):Prop:=ae 4 a6 (.agg [(.int 0 (.ofNat 0)),(.str 0 0),(.int 0 (.ofNat 0)),(.int 0 a8)]) H λH1=>sLen a0 λv2=>cI 0 v2 λz3=>bI (bj a8 z3) (aF 4 a6 H1 λv4=>onVal v4 λl5=>dV l5 4 (aN (aA H1) 1 4 (spl l5 [(.int 0 (.ofNat 0)),(.str 0 0),(.int 0 (.ofNat 0)),(.int 0 (.ofNat 0))] 0) λv6 H7=>dh 4 40 a5 v6 H7 λv8 H9=>K (.ret (.aY [v8,(.int 0 (.ofNat 0)),(.int 0 (.ofNat 0))])) H9)) (x29 a0 a5 a6 a8 a8 H1)
theorem abN{R:aQ}(hR:cq R){K:KF}{x29:cB}(h29:rF K x29):Mc K (Mq R K x29):=λa0 a5 a6 a8 H h=>pk hR (cc h29 .nil) h
def DQ(R:aQ)(K:KF):aH:=Mq R K (ux R K NL)
theorem abO{R:aQ}(hR:cq R){K:KF}:Mc K (DQ R K):=abN hR (abM hR NL)
def Mr(R:aQ)(K:KF)(x27 x19:aH)(a0 a5 a6:AV)(a8:Int)(H:AH):Prop:=eO a0 (some (.int 0 a8)) none λv1=>R.2.1 v1 (.str 2 11565) H λo2 H3=>cR K o2 H3 λv4=>bf v4 λz5=>bI z5 (x27 a0 a5 a6 a8 H3) (x19 a0 a5 a6 a8 H3)
theorem abP{R:aQ}(hR:cq R){K:KF}{x27 x19:aH}(h27:rE K x27)(h19:Mc K x19):Mb K (Mr R K x27 x19):=λa0 a5 a6 a8 H h=>pk hR (cc h27 (cc h19 .nil)) h
def yE(R:aQ)(K:KF):aH:=Mr R K (uw R K NL) (DQ R K)
theorem abQ{R:aQ}(hR:cq R){K:KF}:Mb K (yE R K):=abP hR (abB hR NL) (abO hR)
def DS(R:aQ)(K:KF)(x17 x16:aH)(a0 a5 a6:AV)(a8:Int)(H:AH):Prop:=sLen a0 λv1=>cI 0 v1 λz2=>bI (cg a8 z2) (dE a0 (.int 0 a8) λv3=>cI 1 v3 λz4=>R.1 (.str 4 218761504) z4 H λo5 H6=>cR K o5 H6 λv7=>cI 0 v7 λz8=>bI (!(cg z8 (.ofNat 0))) (aJ 0 (Int.add a8 (.ofNat 1)) λz9=>x17 a0 a5 a6 z9 H6) (x16 a0 a5 a6 a8 H6)) (x16 a0 a5 a6 a8 H)
theorem abR{R:aQ}(hR:cq R){K:KF}{x17 x16:aH}(h17:rC K x17)(h16:Mb K x16):rC K (DS R K x17 x16):=λa0 a5 a6 a8 H h=>pk hR (cc h17 (cc h16 .nil)) h
def VY(R:aQ)(K:KF)(i17:aH):aH:=DS R K i17 (yE R K)
theorem abS{R:aQ}(hR:cq R){K:KF}{i17:aH}(g17:rC K i17):rC K (VY R K i17):=abR hR g17 (abQ hR)
def rG(R:aQ)(K:KF)(n:Nat):aH:=Nat.rec (motive:=λ_=>aH) (λ_ _ _ _ _=>False) (λ_ i=>VY R K i) n
theorem abT{R:aQ}(hR:cq R){K:KF}(n:Nat):rC K (rG R K n):=Nat.rec (motive:=λn=>rC K (rG R K n)) (λa0 a5 a6 a8 H h=>h.elim) (λn ih=>abS hR ih) n
def Iz(R:aQ)(K:KF)(x17:aH)(a0:AV)(H:AH):Prop:=sLen a0 λv1=>cI 0 v1 λz2=>bI (cg (.ofNat 16384) z2) (K (.ret (.aY [.ab,(.int 0 (.ofNat 8)),(.int 0 (.ofNat 0))])) H) (cw H (gE (aA H) [(.int 0 (.ofNat 0)),(.str 0 0),(.int 0 (.ofNat 0)),(.int 0 (.ofNat 0))] λv3 H4=>x17 a0 .ab v3 (.ofNat 0) H4))
theorem aim{R:aQ}(hR:cq R){K:KF}{x17:aH}(h17:rC K x17)(a0:AV)(H:AH)(h:Iz R K x17 a0 H):dw 21 K [] (ba (di 21) [a0]) [] H:=pk hR (cc h17 .nil) h
def asM(R:aQ)(K:KF):Ta:=Iz R K (rG R K NL)
def anp(R:aQ):AV→AH→KF→Prop:=λa0 H K=>asM R K a0 H
theorem apI(R:aQ)(hR:cq R):av gP 21 (ao [.a] (anp R)):=rk λK a0 H h=>aim hR (abT hR NL) a0 H h
abbrev fN:Type:=Unit
def asN(R:fN):List (Nat×cP):=[]
abbrev nB(R:fN):Prop:=ad gP (asN R)
abbrev IA(K:KF)(F:Ti):Prop:=aM 57 K [1,1] 59 [1] [.i 0] F
abbrev mX(K:KF)(F:dX):Prop:=aM 57 K [0,0,1] 59 [0,1] [.a,.i 0] F
abbrev Rv(K:KF)(F:dX):Prop:=aM 57 K [1,0,1,0,0,0,1] 59 [0,1] [.a,.i 0] F
abbrev Rx(K:KF)(F:dX):Prop:=aM 57 K [0,1,0,1,0,1,0,0,0,1] 59 [0,1] [.a,.i 0] F
abbrev vx(K:KF)(F:dX):Prop:=aM 57 K [0,0,0,1,0,1,0,1,0,0,0,1] 59 [0,1] [.a,.i 0] F
def IB(R:fN)(K:KF)(x5 x2:dX)(a0:AV)(a1:Int)(H:AH):Prop:=sLen a0 λv1=>cI 0 v1 λz2=>bI (cg a1 z2) (dE a0 (.int 0 a1) λv3=>cI 1 v3 λz4=>bI (!(bj z4 (.ofNat 10))) (aJ 0 (Int.add a1 (.ofNat 1)) λz5=>x5 a0 z5 H) (x2 a0 a1 H)) (x2 a0 a1 H)
theorem ain{R:fN}(hR:nB R){K:KF}{x5 x2:dX}(h5:vx K x5)(h2:mX K x2):vx K (IB R K x5 x2):=λa0 a1 H h=>pk hR (cc h5 (cc h2 .nil)) h
def aio(R:fN)(K:KF)(i2 i5:dX):dX:=IB R K i5 i2
theorem aip{R:fN}(hR:nB R){K:KF}{i2 i5:dX}(g2:mX K i2)(g5:vx K i5):vx K (aio R K i2 i5):=ain hR g5 g2
def yF(R:fN)(K:KF)(i2:dX)(n:Nat):dX:=Nat.rec (motive:=λ_=>dX) (λ_ _ _=>False) (λ_ i=>aio R K i2 i) n
theorem aiq{R:fN}(hR:nB R){K:KF}{i2:dX}(g2:mX K i2)(n:Nat):vx K (yF R K i2 n):=Nat.rec (motive:=λn=>vx K (yF R K i2 n)) (λa0 a1 H h=>h.elim) (λn ih=>aip hR g2 ih) n
def IC(R:fN)(K:KF)(x5:dX)(a0:AV)(a1:Int)(H:AH):Prop:=x5 a0 a1 H
theorem air{R:fN}(hR:nB R){K:KF}{x5:dX}(h5:vx K x5):Rx K (IC R K x5):=λa0 a1 H h=>pk hR (cc h5 .nil) h
def Ry(R:fN)(K:KF)(i2:dX):dX:=IC R K (yF R K i2 NL)
theorem ais{R:fN}(hR:nB R){K:KF}{i2:dX}(g2:mX K i2):Rx K (Ry R K i2):=air hR (aiq hR g2 NL)
def vy(R:fN)(K:KF)(a1:Int)(H:AH):Prop:=K (.ret (.int 0 a1)) H
theorem ait{R:fN}(hR:nB R){K:KF}:IA K (vy R K):=λa1 H h=>pk hR .nil h
def yG(R:fN)(K:KF):Ti:=vy R K
theorem Ns{R:fN}(hR:nB R){K:KF}:IA K (yG R K):=ait hR
def yH(R:fN)(K:KF)(x4:dX)(x1:Ti)(a0:AV)(a1:Int)(H:AH):Prop:=aJ 0 (Int.add a1 (.ofNat 1)) λz1=>sLen a0 λv2=>cI 0 v2 λz3=>bI (cg z1 z3) (aJ 0 (Int.add a1 (.ofNat 2)) λz4=>eO a0 (some (.int 0 a1)) (some (.int 0 z4)) λv5=>pF v5 (.str 2 11565) λv6=>bf v6 λz7=>bI z7 (x4 a0 a1 H) (x1 a1 H)) (x1 a1 H)
theorem aiu{R:fN}(hR:nB R){K:KF}{x4:dX}{x1:Ti}(h4:Rx K x4)(h1:IA K x1):Rv K (yH R K x4 x1):=λa0 a1 H h=>pk hR (cc h4 (cc h1 .nil)) h
def yI(R:fN)(K:KF)(i2:dX):dX:=yH R K (Ry R K i2) (yG R K)
theorem aiv{R:fN}(hR:nB R){K:KF}{i2:dX}(g2:mX K i2):Rv K (yI R K i2):=aiu hR (ais hR g2) (Ns hR)
def sK(R:fN)(K:KF)(x2 x3:dX)(x1:Ti)(a0:AV)(a1:Int)(H:AH):Prop:=sLen a0 λv1=>cI 0 v1 λz2=>bI (cg a1 z2) (dE a0 (.int 0 a1) λv3=>cI 1 v3 λz4=>bI (bj z4 (.ofNat 32)) (aJ 0 (Int.add a1 (.ofNat 1)) λz5=>x2 a0 z5 H) (dE a0 (.int 0 a1) λv6=>cI 1 v6 λz7=>bI (bj z7 (.ofNat 9)) (aJ 0 (Int.add a1 (.ofNat 1)) λz8=>x2 a0 z8 H) (dE a0 (.int 0 a1) λv9=>cI 1 v9 λz10=>bI (bj z10 (.ofNat 10)) (aJ 0 (Int.add a1 (.ofNat 1)) λz11=>x2 a0 z11 H) (dE a0 (.int 0 a1) λv12=>cI 1 v12 λz13=>bI (bj z13 (.ofNat 13)) (aJ 0 (Int.add a1 (.ofNat 1)) λmn=>x2 a0 mn H) (x3 a0 a1 H))))) (x1 a1 H)
theorem aiw{R:fN}(hR:nB R){K:KF}{x2 x3:dX}{x1:Ti}(h2:mX K x2)(h3:Rv K x3)(h1:IA K x1):mX K (sK R K x2 x3 x1):=λa0 a1 H h=>pk hR (cc h2 (cc h3 (cc h1 .nil))) h
def aix(R:fN)(K:KF)(i2:dX):dX:=sK R K i2 (yI R K i2) (yG R K)
theorem aiy{R:fN}(hR:nB R){K:KF}{i2:dX}(g2:mX K i2):mX K (aix R K i2):=aiw hR g2 (aiv hR g2) (Ns hR)
def eW(R:fN)(K:KF)(n:Nat):dX:=Nat.rec (motive:=λ_=>dX) (λ_ _ _=>False) (λ_ i=>aix R K i) n
theorem aiz{R:fN}(hR:nB R){K:KF}(n:Nat):mX K (eW R K n):=Nat.rec (motive:=λn=>mX K (eW R K n)) (λa0 a1 H h=>h.elim) (λn ih=>aiy hR ih) n
def yJ(R:fN)(K:KF)(x2:dX)(a0:AV)(a1:Int)(H:AH):Prop:=x2 a0 a1 H
theorem aiA{R:fN}(hR:nB R){K:KF}{x2:dX}(h2:mX K x2)(a0:AV)(a1:Int)(H:AH)(h:yJ R K x2 a0 a1 H):dw 57 K [] (ba (di 57) [a0,(.int 0 a1)]) [] H:=pk hR (cc h2 .nil) h
def asO(R:fN)(K:KF):dX:=yJ R K (eW R K NL)
def anq(R:fN):AV→Int→AH→KF→Prop:=λa0 a1 H K=>asO R K a0 a1 H
theorem apJ(R:fN)(hR:nB R):av gP 57 (ao [.a,.i 0] (anq R)):=rk λK a0 a1 H h=>aiA hR (aiz hR NL) a0 a1 H h
def cz:fN:=()
def f57:AV→Int→AH→KF→Prop:=anq cz
theorem asP:av gP 57 (ao [.a,.i 0] f57):=apJ cz ad.nil
abbrev wJ:Type:=Unit
def asQ(R:wJ):List (Nat×cP):=[]
abbrev anr(R:wJ):Prop:=ad gP (asQ R)
def ID(R:wJ)(K:KF)(a0:Int)(H:AH):Prop:=bI (!(cg a0 (.ofNat 97))) (bI (!(cg (.ofNat 122) a0)) (K (.ret (.bool true)) H) (bI (!(cg a0 (.ofNat 65))) (bI (!(cg (.ofNat 90) a0)) (K (.ret (.bool true)) H) (K (.ret (.bool (bj a0 (.ofNat 95)))) H)) (K (.ret (.bool (bj a0 (.ofNat 95)))) H))) (bI (!(cg a0 (.ofNat 65))) (bI (!(cg (.ofNat 90) a0)) (K (.ret (.bool true)) H) (K (.ret (.bool (bj a0 (.ofNat 95)))) H)) (K (.ret (.bool (bj a0 (.ofNat 95)))) H))
theorem aiB{R:wJ}(hR:anr R){K:KF}(a0:Int)(H:AH)(h:ID R K a0 H):dw 59 K [] (ba (di 59) [(.int 1 a0)]) [] H:=pk hR .nil h
def asR(R:wJ)(K:KF):Ti:=ID R K
def ans(R:wJ):Int→AH→KF→Prop:=λa0 H K=>asR R K a0 H
theorem apK(R:wJ)(hR:anr R):av gP 59 (ao [.i 1] (ans R)):=rk λK a0 H h=>aiB hR a0 H h
def Rz:wJ:=()
def f59:Int→AH→KF→Prop:=ans Rz
theorem aiC:av gP 59 (ao [.i 1] f59):=apK Rz ad.nil
abbrev wK:Type:=Unit
def asS(R:wK):List (Nat×cP):=[]
abbrev ant(R:wK):Prop:=ad gP (asS R)
def IE(R:wK)(K:KF)(a0:Int)(H:AH):Prop:=bI (!(cg a0 (.ofNat 48))) (K (.ret (.bool (!(cg (.ofNat 57) a0)))) H) (K (.ret (.bool false)) H)
theorem aiD{R:wK}(hR:ant R){K:KF}(a0:Int)(H:AH)(h:IE R K a0 H):dw 61 K [] (ba (di 61) [(.int 1 a0)]) [] H:=pk hR .nil h
def asT(R:wK)(K:KF):Ti:=IE R K
def anu(R:wK):Int→AH→KF→Prop:=λa0 H K=>asT R K a0 H
theorem apL(R:wK)(hR:ant R):av gP 61 (ao [.i 1] (anu R)):=rk λK a0 H h=>aiD hR a0 H h
def RA:wK:=()
def f61:Int→AH→KF→Prop:=anu RA
theorem IF:av gP 61 (ao [.i 1] f61):=apL RA ad.nil
abbrev kX:Type:=(Int→AH→KF→Prop)×(Int→AH→KF→Prop)
def asU(R:kX):List (Nat×cP):=[(59,ao [.i 1] R.1),(61,ao [.i 1] R.2)]
abbrev zQ(R:kX):Prop:=ad gP (asU R)
abbrev RB(K:KF)(F:Ti):Prop:=aM 58 K [1,1] 24 [1] [.i 0] F
abbrev vz(K:KF)(F:dX):Prop:=aM 58 K [0,0,1] 24 [0,1] [.a,.i 0] F
def IG(R:kX)(K:KF)(a1:Int)(H:AH):Prop:=K (.ret (.int 0 a1)) H
theorem aiE{R:kX}(hR:zQ R){K:KF}:RB K (IG R K):=λa1 H h=>pk hR .nil h
def aiF(R:kX)(K:KF):Ti:=IG R K
theorem aiG{R:kX}(hR:zQ R){K:KF}:RB K (aiF R K):=aiE hR
def IH(R:kX)(K:KF)(x2:dX)(x1:Ti)(a0:AV)(a1:Int)(H:AH):Prop:=sLen a0 λv1=>cI 0 v1 λz2=>bI (cg a1 z2) (dE a0 (.int 0 a1) λv3=>cI 1 v3 λz4=>R.1 z4 H λo5 H6=>cR K o5 H6 λv7=>bf v7 λz8=>bI z8 (aJ 0 (Int.add a1 (.ofNat 1)) λz9=>x2 a0 z9 H6) (dE a0 (.int 0 a1) λv10=>cI 1 v10 λz11=>R.2 z11 H6 λxK dL=>cR K xK dL λv14=>bf v14 λlA=>bI lA (aJ 0 (Int.add a1 (.ofNat 1)) λki=>x2 a0 ki dL) (x1 a1 dL))) (x1 a1 H)
theorem aiH{R:kX}(hR:zQ R){K:KF}{x2:dX}{x1:Ti}(h2:vz K x2)(h1:RB K x1):vz K (IH R K x2 x1):=λa0 a1 H h=>pk hR (cc h2 (cc h1 .nil)) h
def aiI(R:kX)(K:KF)(i2:dX):dX:=IH R K i2 (aiF R K)
theorem aiJ{R:kX}(hR:zQ R){K:KF}{i2:dX}(g2:vz K i2):vz K (aiI R K i2):=aiH hR g2 (aiG hR)
def vA(R:kX)(K:KF)(n:Nat):dX:=Nat.rec (motive:=λ_=>dX) (λ_ _ _=>False) (λ_ i=>aiI R K i) n
theorem aiK{R:kX}(hR:zQ R){K:KF}(n:Nat):vz K (vA R K n):=Nat.rec (motive:=λn=>vz K (vA R K n)) (λa0 a1 H h=>h.elim) (λn ih=>aiJ hR ih) n
def II(R:kX)(K:KF)(x2:dX)(a0:AV)(a1:Int)(H:AH):Prop:=x2 a0 a1 H
theorem aiL{R:kX}(hR:zQ R){K:KF}{x2:dX}(h2:vz K x2)(a0:AV)(a1:Int)(H:AH)(h:II R K x2 a0 a1 H):dw 58 K [] (ba (di 58) [a0,(.int 0 a1)]) [] H:=pk hR (cc h2 .nil) h
def asV(R:kX)(K:KF):dX:=II R K (vA R K NL)
def anv(R:kX):AV→Int→AH→KF→Prop:=λa0 a1 H K=>asV R K a0 a1 H
theorem apM(R:kX)(hR:zQ R):av gP 58 (ao [.a,.i 0] (anv R)):=rk λK a0 a1 H h=>aiL hR (aiK hR NL) a0 a1 H h
def nV:kX:=(f59,f61)
def f58:AV→Int→AH→KF→Prop:=anv nV
theorem asW:av gP 58 (ao [.a,.i 0] f58):=apM nV (ad.cons aiC (ad.cons IF ad.nil))
abbrev jy:Type:=Unit
def apN(R:jy):List (Nat×cP):=[]
abbrev vB(R:jy):Prop:=ad gP (apN R)
abbrev Ms(K:KF)(F:T_):Prop:=aM 101 K [1,1] 18 [] [] F
abbrev rH(K:KF)(F:aR):Prop:=aM 101 K [0,1,0,1] 18 [0,1,5] [.a,.a,.i 0] F
def Mt(R:jy)(K:KF)(H:AH):Prop:=K (.ret (.bool false)) H
theorem abU{R:jy}(hR:vB R){K:KF}:Ms K (Mt R K):=λH h=>pk hR .nil h
def VZ(R:jy)(K:KF):T_:=Mt R K
theorem abV{R:jy}(hR:vB R){K:KF}:Ms K (VZ R K):=abU hR
def DU(R:jy)(K:KF)(x2:aR)(x1:T_)(a0 a1:AV)(a5:Int)(H:AH):Prop:=dp a0 λv1=>cI 0 v1 λz2=>bI (cg a5 z2) (cK 1 a0 (.int 0 a5) λv3=>ak v3 H λv4=>pF v4 a1 λv5=>bf v5 λz6=>bI z6 (K (.ret (.bool true)) H) (aJ 0 (Int.add a5 (.ofNat 1)) λz7=>x2 a0 a1 z7 H)) (x1 H)
theorem abW{R:jy}(hR:vB R){K:KF}{x2:aR}{x1:T_}(h2:rH K x2)(h1:Ms K x1):rH K (DU R K x2 x1):=λa0 a1 a5 H h=>pk hR (cc h2 (cc h1 .nil)) h
def V0(R:jy)(K:KF)(i2:aR):aR:=DU R K i2 (VZ R K)
theorem abX{R:jy}(hR:vB R){K:KF}{i2:aR}(g2:rH K i2):rH K (V0 R K i2):=abW hR g2 (abV hR)
def uy(R:jy)(K:KF)(n:Nat):aR:=Nat.rec (motive:=λ_=>aR) (λ_ _ _ _=>False) (λ_ i=>V0 R K i) n
theorem abY{R:jy}(hR:vB R){K:KF}(n:Nat):rH K (uy R K n):=Nat.rec (motive:=λn=>rH K (uy R K n)) (λa0 a1 a5 H h=>h.elim) (λn ih=>abX hR ih) n
def DV(R:jy)(K:KF)(x2:aR)(a0 a1:AV)(H:AH):Prop:=x2 a0 a1 (.ofNat 0) H
theorem abZ{R:jy}(hR:vB R){K:KF}{x2:aR}(h2:rH K x2)(a0 a1:AV)(H:AH)(h:DV R K x2 a0 a1 H):dw 101 K [] (ba (di 101) [a0,a1]) [] H:=pk hR (cc h2 .nil) h
def apO(R:jy)(K:KF):bC:=DV R K (uy R K NL)
def aiM(R:jy):AV→AV→AH→KF→Prop:=λa0 a1 H K=>apO R K a0 a1 H
theorem alW(R:jy)(hR:vB R):av gP 101 (ao [.a,.a] (aiM R)):=rk λK a0 a1 H h=>abZ hR (abY hR NL) a0 a1 H h
def pU:jy:=()
def f101:AV→AV→AH→KF→Prop:=aiM pU
theorem V1:av gP 101 (ao [.a,.a] f101):=alW pU ad.nil
abbrev wL:Type:=(AV→AV→AH→KF→Prop)
def asX(R:wL):List (Nat×cP):=[(101,ao [.a,.a] R)]
abbrev anw(R:wL):Prop:=ad gP (asX R)
def IJ(R:wL)(K:KF)(a0:AV)(H:AH):Prop:=aN (aA H) 21 1 [(.str 3 6581857),(.str 5 461195539042),(.str 2 28516),(.str 4 1702063205),(.str 6 112602859662437),(.str 3 6581861),(.str 5 435728179558),(.str 3 7499622),(.str 8 7957695015192261990),(.str 2 26217),(.str 2 28265),(.str 5 465490374508),(.str 3 7104878),(.str 3 7630702),(.str 2 29295),(.str 6 127961662514546),(.str 6 121437875889522),(.str 4 1852139636),(.str 4 1702195828),(.str 5 465625706101),(.str 5 435610544247)] λv1 H2=>R v1 a0 H2 λo3 H4=>cR K o3 H4 λv5=>bf v5 λz6=>K (.ret (.bool z6)) H4
theorem aiN{R:wL}(hR:anw R){K:KF}(a0:AV)(H:AH)(h:IJ R K a0 H):dw 60 K [] (ba (di 60) [a0]) [] H:=pk hR .nil h
def asY(R:wL)(K:KF):Ta:=IJ R K
def anx(R:wL):AV→AH→KF→Prop:=λa0 H K=>asY R K a0 H
theorem apP(R:wL)(hR:anw R):av gP 60 (ao [.a] (anx R)):=rk λK a0 H h=>aiN hR a0 H h
def IK:wL:=(f101)
def f60:AV→AH→KF→Prop:=anx IK
theorem asZ:av gP 60 (ao [.a] f60):=apP IK (ad.cons V1 ad.nil)
abbrev jj:Type:=(Int→AH→KF→Prop)
def as0(R:jj):List (Nat×cP):=[(61,ao [.i 1] R)]
abbrev tE(R:jj):Prop:=ad gP (as0 R)
abbrev RC(K:KF)(F:Ti):Prop:=aM 62 K [1,1,1] 33 [4] [.i 3] F
abbrev sL(K:KF)(F:ka):Prop:=aM 62 K [0,1,0,1,1] 33 [0,4,5] [.a,.i 3,.i 0] F
abbrev RD(K:KF)(F:ka):Prop:=aM 62 K [1,1,0,0,1,0,1,1] 33 [0,4,5] [.a,.i 3,.i 0] F
def IL(R:jj)(K:KF)(x2:ka)(a0:AV)(a4 a5:Int)(H:AH):Prop:=aJ 0 (Int.add a5 (.ofNat 1)) λz1=>x2 a0 a4 z1 H
theorem aiO{R:jj}(hR:tE R){K:KF}{x2:ka}(h2:sL K x2):RD K (IL R K x2):=λa0 a4 a5 H h=>pk hR (cc h2 .nil) h
def aiP(R:jj)(K:KF)(i2:ka):ka:=IL R K i2
theorem aiQ{R:jj}(hR:tE R){K:KF}{i2:ka}(g2:sL K i2):RD K (aiP R K i2):=aiO hR g2
def IM(R:jj)(K:KF)(a4:Int)(H:AH):Prop:=bI (cg (.ofNat 9223372036854775807) a4) (K (.ret (.aY [(.int 0 (.ofNat 0)),(.bool false)])) H) (aJ 0 a4 λz1=>K (.ret (.aY [(.int 0 z1),(.bool true)])) H)
theorem aiR{R:jj}(hR:tE R){K:KF}:RC K (IM R K):=λa4 H h=>pk hR .nil h
def aiS(R:jj)(K:KF):Ti:=IM R K
theorem aiT{R:jj}(hR:tE R){K:KF}:RC K (aiS R K):=aiR hR
def IN(R:jj)(K:KF)(x3:ka)(x1:Ti)(a0:AV)(a4 a5:Int)(H:AH):Prop:=sLen a0 λv1=>cI 0 v1 λz2=>bI (cg a5 z2) (dE a0 (.int 0 a5) λv3=>cI 1 v3 λz4=>R z4 H λo5 H6=>cR K o5 H6 λv7=>bf v7 λz8=>bI (!z8) (K (.ret (.aY [(.int 0 (.ofNat 0)),(.bool false)])) H6) (bI (cg (.ofNat 922337203685477580) a4) (K (.ret (.aY [(.int 0 (.ofNat 0)),(.bool false)])) H6) (aJ 3 (Int.mul a4 (.ofNat 10)) λz9=>dE a0 (.int 0 a5) λv10=>cI 1 v10 λz11=>aJ 1 (Int.sub z11 (.ofNat 48)) λz12=>aJ 3 z12 λz13=>aJ 3 (Int.add z9 z13) λmn=>x3 a0 mn a5 H6))) (x1 a4 H)
theorem aiU{R:jj}(hR:tE R){K:KF}{x3:ka}{x1:Ti}(h3:RD K x3)(h1:RC K x1):sL K (IN R K x3 x1):=λa0 a4 a5 H h=>pk hR (cc h3 (cc h1 .nil)) h
def aiV(R:jj)(K:KF)(i2:ka):ka:=IN R K (aiP R K i2) (aiS R K)
theorem aiW{R:jj}(hR:tE R){K:KF}{i2:ka}(g2:sL K i2):sL K (aiV R K i2):=aiU hR (aiQ hR g2) (aiT hR)
def yK(R:jj)(K:KF)(n:Nat):ka:=Nat.rec (motive:=λ_=>ka) (λ_ _ _ _=>False) (λ_ i=>aiV R K i) n
theorem aiX{R:jj}(hR:tE R){K:KF}(n:Nat):sL K (yK R K n):=Nat.rec (motive:=λn=>sL K (yK R K n)) (λa0 a4 a5 H h=>h.elim) (λn ih=>aiW hR ih) n
def IP(R:jj)(K:KF)(x2:ka)(a0:AV)(H:AH):Prop:=x2 a0 (.ofNat 0) (.ofNat 0) H
theorem aiY{R:jj}(hR:tE R){K:KF}{x2:ka}(h2:sL K x2)(a0:AV)(H:AH)(h:IP R K x2 a0 H):dw 62 K [] (ba (di 62) [a0]) [] H:=pk hR (cc h2 .nil) h
def as1(R:jj)(K:KF):Ta:=IP R K (yK R K NL)
def anz(R:jj):AV→AH→KF→Prop:=λa0 H K=>as1 R K a0 H
theorem apQ(R:jj)(hR:tE R):av gP 62 (ao [.a] (anz R)):=rk λK a0 H h=>aiY hR (aiX hR NL) a0 H h
def oW:jj:=(f61)
def f62:AV→AH→KF→Prop:=anz oW
theorem as2:av gP 62 (ao [.a] f62):=apQ oW (ad.cons IF ad.nil)
abbrev iH:Type:=(Int→AH→KF→Prop)
def apR(R:iH):List (Nat×cP):=[(61,ao [.i 1] R)]
abbrev sM(R:iH):Prop:=ad gP (apR R)
abbrev Mu(K:KF)(F:Ti):Prop:=aM 102 K [0,1,1,1,0,0,1] 31 [0] [.i 1] F
abbrev Mv(K:KF)(F:Ti):Prop:=aM 102 K [1,1,1,1,0,0,1] 31 [0] [.i 1] F
abbrev Mw(K:KF)(F:Ti):Prop:=aM 102 K [0,1,1,1,1,1,0,0,1] 31 [0] [.i 1] F
def DW(R:iH)(K:KF)(a0:Int)(H:AH):Prop:=aJ 1 (Int.sub a0 (.ofNat 97)) λz1=>aJ 0 z1 λz2=>aJ 0 (Int.add z2 (.ofNat 10)) λz3=>K (.ret (.int 0 z3)) H
theorem ab0{R:iH}(hR:sM R){K:KF}:Mu K (DW R K):=λa0 H h=>pk hR .nil h
def V2(R:iH)(K:KF):Ti:=DW R K
theorem ab1{R:iH}(hR:sM R){K:KF}:Mu K (V2 R K):=ab0 hR
def yL(R:iH)(K:KF)(a0:Int)(H:AH):Prop:=aJ 1 (Int.sub a0 (.ofNat 65)) λz1=>aJ 0 z1 λz2=>aJ 0 (Int.add z2 (.ofNat 10)) λz3=>K (.ret (.int 0 z3)) H
theorem ab2{R:iH}(hR:sM R){K:KF}:Mw K (yL R K):=λa0 H h=>pk hR .nil h
def V3(R:iH)(K:KF):Ti:=yL R K
theorem ab3{R:iH}(hR:sM R){K:KF}:Mw K (V3 R K):=ab2 hR
def yM(R:iH)(K:KF)(x3:Ti)(a0:Int)(H:AH):Prop:=bI (!(cg a0 (.ofNat 65))) (bI (!(cg (.ofNat 70) a0)) (x3 a0 H) (K (.ret (.int 0 (.negSucc 0))) H)) (K (.ret (.int 0 (.negSucc 0))) H)
theorem ab4{R:iH}(hR:sM R){K:KF}{x3:Ti}(h3:Mw K x3):Mv K (yM R K x3):=λa0 H h=>pk hR (cc h3 .nil) h
def V4(R:iH)(K:KF):Ti:=yM R K (V3 R K)
theorem ab5{R:iH}(hR:sM R){K:KF}:Mv K (V4 R K):=ab4 hR (ab3 hR)
def DX(R:iH)(K:KF)(x1 x2:Ti)(a0:Int)(H:AH):Prop:=R a0 H λo1 H2=>cR K o1 H2 λv3=>bf v3 λz4=>bI z4 (aJ 1 (Int.sub a0 (.ofNat 48)) λz5=>aJ 0 z5 λz6=>K (.ret (.int 0 z6)) H2) (bI (!(cg a0 (.ofNat 97))) (bI (!(cg (.ofNat 102) a0)) (x1 a0 H2) (x2 a0 H2)) (x2 a0 H2))
theorem ab6{R:iH}(hR:sM R){K:KF}{x1 x2:Ti}(h1:Mu K x1)(h2:Mv K x2)(a0:Int)(H:AH)(h:DX R K x1 x2 a0 H):dw 102 K [] (ba (di 102) [(.int 1 a0)]) [] H:=pk hR (cc h1 (cc h2 .nil)) h
def apS(R:iH)(K:KF):Ti:=DX R K (V2 R K) (V4 R K)
def aiZ(R:iH):Int→AH→KF→Prop:=λa0 H K=>apS R K a0 H
theorem alX(R:iH)(hR:sM R):av gP 102 (ao [.i 1] (aiZ R)):=rk λK a0 H h=>ab6 hR (ab1 hR) (ab5 hR) a0 H h
def oz:iH:=(f61)
def f102:Int→AH→KF→Prop:=aiZ oz
theorem apT:av gP 102 (ao [.i 1] f102):=alX oz (ad.cons IF ad.nil)
abbrev fa:Type:=(Int→AH→KF→Prop)
def as3(R:fa):List (Nat×cP):=[(102,ao [.i 1] R)]
abbrev lH(R:fa):Prop:=ad gP (as3 R)
abbrev RG(K:KF)(F:T_):Prop:=aM 63 K [1,1,1,1] 116 [] [] F
abbrev mY(K:KF)(F:dI):Prop:=aM 63 K [0,1,0,1,1,1] 116 [0,7,8,9] [.a,.i 1,.a,.i 0] F
abbrev yN(K:KF)(F:dI):Prop:=aM 63 K [1,1,0,0,1,0,1,1,1] 116 [0,7,8,9] [.a,.i 1,.a,.i 0] F
abbrev RH(K:KF)(F:jq):Prop:=aM 63 K [1,1,1,1,1,0,0,1,0,0,1,0,1,1,1] 116 [0,7,8,9,54] [.a,.i 1,.a,.i 0,.i 1] F
abbrev RI(K:KF)(F:DF):Prop:=aM 63 K [1,1,1,1,1,0,1,1,1,1,1,0,0,1,0,0,1,0,1,1,1] 116 [0,7,8,9,54,65] [.a,.i 1,.a,.i 0,.i 1,.b] F
abbrev RJ(K:KF)(F:dI):Prop:=aM 63 K [1,0,1,1,1,1,1,1,1,0,1,1,1,1,1,0,0,1,0,0,1,0,1,1,1] 116 [0,7,8,9] [.a,.i 1,.a,.i 0] F
abbrev RK(K:KF)(F:dI):Prop:=aM 63 K [1,1,0,1,1,1,1,1,1,1,0,1,1,1,1,1,0,0,1,0,0,1,0,1,1,1] 116 [0,7,8,9] [.a,.i 1,.a,.i 0] F
def oX(R:fa)(K:KF)(x2:dI)(a0:AV)(a7:Int)(a8:AV)(a9:Int)(H:AH):Prop:=aJ 0 (Int.add a9 (.ofNat 1)) λz1=>x2 a0 a7 a8 z1 H
theorem ai0{R:fa}(hR:lH R){K:KF}{x2:dI}(h2:mY K x2):yN K (oX R K x2):=λa0 a7 a8 a9 H h=>pk hR (cc h2 .nil) h
def Bq(R:fa)(K:KF)(i2:dI):dI:=oX R K i2
theorem wM{R:fa}(hR:lH R){K:KF}{i2:dI}(g2:mY K i2):yN K (Bq R K i2):=ai0 hR g2
def RL(R:fa)(K:KF)(H:AH):Prop:=K (.ret (.aY [(.str 0 0),(.int 0 (.ofNat 0)),(.bool false)])) H
theorem ai1{R:fa}(hR:lH R){K:KF}:RG K (RL R K):=λH h=>pk hR .nil h
def ai2(R:fa)(K:KF):T_:=RL R K
theorem ai3{R:fa}(hR:lH R){K:KF}:RG K (ai2 R K):=ai1 hR
def IQ(R:fa)(K:KF)(x3:dI)(a0:AV)(a7:Int)(a8:AV)(a9:Int)(H:AH):Prop:=aJ 0 (Int.add a9 (.ofNat 2)) λz1=>x3 a0 a7 a8 z1 H
theorem ai4{R:fa}(hR:lH R){K:KF}{x3:dI}(h3:yN K x3):RK K (IQ R K x3):=λa0 a7 a8 a9 H h=>pk hR (cc h3 .nil) h
def RM(R:fa)(K:KF)(i2:dI):dI:=IQ R K (Bq R K i2)
theorem ai5{R:fa}(hR:lH R){K:KF}{i2:dI}(g2:mY K i2):RK K (RM R K i2):=ai4 hR (wM hR g2)
def IS(R:fa)(K:KF)(x7:dI)(a0:AV)(a7:Int)(a8:AV)(a9:Int)(H:AH):Prop:=aJ 0 (Int.add a9 (.ofNat 1)) λz1=>dE a0 (.int 0 z1) λv2=>cI 1 v2 λz3=>aJ 0 (Int.add a9 (.ofNat 2)) λz4=>dE a0 (.int 0 z4) λv5=>cI 1 v5 λz6=>R z3 H λo7 H8=>cR K o7 H8 λv9=>cI 0 v9 λz10=>Ot 0 (.int 0 z10) (.int 3 (.ofNat 4)) λv11=>cI 0 v11 λz12=>R z6 H8 λmP cN=>cR K mP cN λv15=>cI 0 v15 λki=>bM (jT 0 z12) λu17=>bM (jT 0 ki) λu18=>aJ 0 (.ofNat (Nat.lor u17 u18)) λsn=>aJ 1 sn λz20=>bG cN (aN (aA cN) 1 1 [(.int 1 z20)] λv21 gT=>bT (Nat.beq gT.n (Nat.succ cN.n)) (dh 1 1 a8 v21 gT λv23 fS=>x7 a0 a7 v23 a9 fS))
theorem ai6{R:fa}(hR:lH R){K:KF}{x7:dI}(h7:RK K x7):RJ K (IS R K x7):=λa0 a7 a8 a9 H h=>pk hR (cc h7 .nil) h
def IT(R:fa)(K:KF)(i2:dI):dI:=IS R K (RM R K i2)
theorem ai7{R:fa}(hR:lH R){K:KF}{i2:dI}(g2:mY K i2):RJ K (IT R K i2):=ai6 hR (ai5 hR g2)
def yO(R:fa)(K:KF)(x6 x3:dI)(a0:AV)(a7:Int)(a8:AV)(a9 a54:Int)(a65:Bool)(H:AH):Prop:=bI a65 (dE a0 (.int 0 a9) λv1=>cI 1 v1 λz2=>aN (aA H) 1 1 [(.int 1 z2)] λv3 H4=>dh 1 1 a8 v3 H4 λv5 H6=>x3 a0 a7 v5 a9 H6) (bI (bj a54 (.ofNat 120)) (aJ 0 (Int.add a9 (.ofNat 2)) λz7=>sLen a0 λv8=>cI 0 v8 λz9=>bI (!(cg z7 z9)) (K (.ret (.aY [(.str 0 0),(.int 0 (.ofNat 0)),(.bool false)])) H) (aJ 0 (Int.add a9 (.ofNat 1)) λz10=>dE a0 (.int 0 z10) λv11=>cI 1 v11 λz12=>R z12 H λmP cN=>cR K mP cN λv15=>cI 0 v15 λki=>bI (cg ki (.ofNat 0)) (K (.ret (.aY [(.str 0 0),(.int 0 (.ofNat 0)),(.bool false)])) cN) (aJ 0 (Int.add a9 (.ofNat 2)) λz17=>dE a0 (.int 0 z17) λv18=>cI 1 v18 λsn=>R sn cN λGF ia=>cR K GF ia λv22=>cI 0 v22 λz23=>bI (cg z23 (.ofNat 0)) (K (.ret (.aY [(.str 0 0),(.int 0 (.ofNat 0)),(.bool false)])) ia) (x6 a0 a7 a8 a9 ia)))) (K (.ret (.aY [(.str 0 0),(.int 0 (.ofNat 0)),(.bool false)])) H))
theorem ai8{R:fa}(hR:lH R){K:KF}{x6 x3:dI}(h6:RJ K x6)(h3:yN K x3):RI K (yO R K x6 x3):=λa0 a7 a8 a9 a54 a65 H h=>pk hR (cc h6 (cc h3 .nil)) h
def IU(R:fa)(K:KF)(i2:dI):DF:=yO R K (IT R K i2) (Bq R K i2)
theorem ai9{R:fa}(hR:lH R){K:KF}{i2:dI}(g2:mY K i2):RI K (IU R K i2):=ai8 hR (ai7 hR g2) (wM hR g2)
def IV(R:fa)(K:KF)(x3:dI)(x5:DF)(a0:AV)(a7:Int)(a8:AV)(a9 a54:Int)(H:AH):Prop:=bI (bj a54 (.ofNat 110)) (aN (aA H) 1 1 [(.int 1 (.ofNat 10))] λv1 H2=>dh 1 1 a8 v1 H2 λv3 H4=>x3 a0 a7 v3 a9 H4) (bI (bj a54 (.ofNat 116)) (aN (aA H) 1 1 [(.int 1 (.ofNat 9))] λv5 H6=>dh 1 1 a8 v5 H6 λv7 H8=>x3 a0 a7 v7 a9 H8) (bI (bj a54 (.ofNat 92)) (x5 a0 a7 a8 a9 a54 (bj a54 (.ofNat 92)) H) (bI (bj a54 (.ofNat 34)) (x5 a0 a7 a8 a9 a54 (bj a54 (.ofNat 34)) H) (x5 a0 a7 a8 a9 a54 (bj a54 (.ofNat 39)) H))))
theorem aja{R:fa}(hR:lH R){K:KF}{x3:dI}{x5:DF}(h3:yN K x3)(h5:RI K x5):RH K (IV R K x3 x5):=λa0 a7 a8 a9 a54 H h=>pk hR (cc h3 (cc h5 .nil)) h
def RN(R:fa)(K:KF)(i2:dI):jq:=IV R K (Bq R K i2) (IU R K i2)
theorem ajb{R:fa}(hR:lH R){K:KF}{i2:dI}(g2:mY K i2):RH K (RN R K i2):=aja hR (wM hR g2) (ai9 hR g2)
def IW(R:fa)(K:KF)(x3:dI)(x1:T_)(x4:jq)(a0:AV)(a7:Int)(a8:AV)(a9:Int)(H:AH):Prop:=sLen a0 λv1=>cI 0 v1 λz2=>bI (cg a9 z2) (dE a0 (.int 0 a9) λv3=>cI 1 v3 λz4=>bI (bj z4 (.ofNat 10)) (K (.ret (.aY [(.str 0 0),(.int 0 (.ofNat 0)),(.bool false)])) H) (bI (bj z4 a7) (xr a8 H λv5=>aJ 0 (Int.add a9 (.ofNat 1)) λz6=>dp a8 λv7=>cI 0 v7 λz8=>K (.ret (.aY [v5,(.int 0 z6),(.bool (!(cg (.ofNat 4096) z8)))])) H) (bI (!(bj z4 (.ofNat 92))) (aN (aA H) 1 1 [(.int 1 z4)] λv9 bJ=>dh 1 1 a8 v9 bJ λv11 bL=>x3 a0 a7 v11 a9 bL) (aJ 0 (Int.add a9 (.ofNat 1)) λz13=>sLen a0 λv14=>cI 0 v14 λlA=>bI (!(cg z13 lA)) (K (.ret (.aY [(.str 0 0),(.int 0 (.ofNat 0)),(.bool false)])) H) (dE a0 (.int 0 z13) λv16=>cI 1 v16 λz17=>x4 a0 a7 a8 z13 z17 H))))) (x1 H)
theorem ajc{R:fa}(hR:lH R){K:KF}{x3:dI}{x1:T_}{x4:jq}(h3:yN K x3)(h1:RG K x1)(h4:RH K x4):mY K (IW R K x3 x1 x4):=λa0 a7 a8 a9 H h=>pk hR (cc h3 (cc h1 (cc h4 .nil))) h
def ajd(R:fa)(K:KF)(i2:dI):dI:=IW R K (Bq R K i2) (ai2 R K) (RN R K i2)
theorem aje{R:fa}(hR:lH R){K:KF}{i2:dI}(g2:mY K i2):mY K (ajd R K i2):=ajc hR (wM hR g2) (ai3 hR) (ajb hR g2)
def gN(R:fa)(K:KF)(n:Nat):dI:=Nat.rec (motive:=λ_=>dI) (λ_ _ _ _ _=>False) (λ_ i=>ajd R K i) n
theorem ajf{R:fa}(hR:lH R){K:KF}(n:Nat):mY K (gN R K n):=Nat.rec (motive:=λn=>mY K (gN R K n)) (λa0 a7 a8 a9 H h=>h.elim) (λn ih=>aje hR ih) n
def IX(R:fa)(K:KF)(x2:dI)(a0:AV)(a1:Int)(H:AH):Prop:=dE a0 (.int 0 a1) λv1=>cI 1 v1 λz2=>aJ 0 (Int.add a1 (.ofNat 1)) λz3=>x2 a0 z2 .ab z3 H
theorem ajg{R:fa}(hR:lH R){K:KF}{x2:dI}(h2:mY K x2)(a0:AV)(a1:Int)(H:AH)(h:IX R K x2 a0 a1 H):dw 63 K [] (ba (di 63) [a0,(.int 0 a1)]) [] H:=pk hR (cc h2 .nil) h
def as4(R:fa)(K:KF):dX:=IX R K (gN R K NL)
def anA(R:fa):AV→Int→AH→KF→Prop:=λa0 a1 H K=>as4 R K a0 a1 H
theorem apU(R:fa)(hR:lH R):av gP 63 (ao [.a,.i 0] (anA R)):=rk λK a0 a1 H h=>ajg hR (ajf hR NL) a0 a1 H h
def db:fa:=(f102)
def f63:AV→Int→AH→KF→Prop:=anA db
theorem as5:av gP 63 (ao [.a,.i 0] f63):=apU db (ad.cons apT ad.nil)
abbrev kY:Type:=(AV→AV→AH→KF→Prop)
def as6(R:kY):List (Nat×cP):=[(101,ao [.a,.a] R)]
abbrev zR(R:kY):Prop:=ad gP (as6 R)
abbrev RO(K:KF)(F:T_):Prop:=aM 64 K [1,1,1,1] 34 [] [] F
abbrev vC(K:KF)(F:dI):Prop:=aM 64 K [0,1,0,1,1,1] 34 [0,1,5,6] [.a,.i 0,.a,.i 0] F
def IY(R:kY)(K:KF)(H:AH):Prop:=K (.ret (.int 0 (.ofNat 0))) H
theorem ajh{R:kY}(hR:zR R){K:KF}:RO K (IY R K):=λH h=>pk hR .nil h
def aji(R:kY)(K:KF):T_:=IY R K
theorem ajj{R:kY}(hR:zR R){K:KF}:RO K (aji R K):=ajh hR
def IZ(R:kY)(K:KF)(x2:dI)(x1:T_)(a0:AV)(a1:Int)(a5:AV)(a6:Int)(H:AH):Prop:=sLen a5 λv1=>cI 0 v1 λz2=>bI (cg a6 z2) (dE a5 (.int 0 a6) λv3=>cI 1 v3 λz4=>dE a0 (.int 0 a1) λv5=>cI 1 v5 λz6=>bI (bj z4 z6) (K (.ret (.int 0 (.ofNat 1))) H) (aJ 0 (Int.add a6 (.ofNat 1)) λz7=>x2 a0 a1 a5 z7 H)) (x1 H)
theorem ajk{R:kY}(hR:zR R){K:KF}{x2:dI}{x1:T_}(h2:vC K x2)(h1:RO K x1):vC K (IZ R K x2 x1):=λa0 a1 a5 a6 H h=>pk hR (cc h2 (cc h1 .nil)) h
def ajl(R:kY)(K:KF)(i2:dI):dI:=IZ R K i2 (aji R K)
theorem ajm{R:kY}(hR:zR R){K:KF}{i2:dI}(g2:vC K i2):vC K (ajl R K i2):=ajk hR g2 (ajj hR)
def yP(R:kY)(K:KF)(n:Nat):dI:=Nat.rec (motive:=λ_=>dI) (λ_ _ _ _ _=>False) (λ_ i=>ajl R K i) n
theorem ajn{R:kY}(hR:zR R){K:KF}(n:Nat):vC K (yP R K n):=Nat.rec (motive:=λn=>vC K (yP R K n)) (λa0 a1 a5 a6 H h=>h.elim) (λn ih=>ajm hR ih) n
def I0(R:kY)(K:KF)(x2:dI)(a0:AV)(a1:Int)(H:AH):Prop:=aJ 0 (Int.add a1 (.ofNat 1)) λz1=>sLen a0 λv2=>cI 0 v2 λz3=>bI (cg z1 z3) (aN (aA H) 6 1 [(.str 2 11822),(.str 2 15677),(.str 2 15742),(.str 2 15676),(.str 2 15678),(.str 2 12079)] λv4 H5=>aJ 0 (Int.add a1 (.ofNat 2)) λz6=>eO a0 (some (.int 0 a1)) (some (.int 0 z6)) λv7=>R v4 v7 H5 λo8 H9=>cR K o8 H9 λv10=>bf v10 λz11=>bI z11 (K (.ret (.int 0 (.ofNat 2))) H9) (x2 a0 a1 (.str 17 20123422373665890509693217210346309823787) (.ofNat 0) H9)) (x2 a0 a1 (.str 17 20123422373665890509693217210346309823787) (.ofNat 0) H)
theorem ajo{R:kY}(hR:zR R){K:KF}{x2:dI}(h2:vC K x2)(a0:AV)(a1:Int)(H:AH)(h:I0 R K x2 a0 a1 H):dw 64 K [] (ba (di 64) [a0,(.int 0 a1)]) [] H:=pk hR (cc h2 .nil) h
def as7(R:kY)(K:KF):dX:=I0 R K (yP R K NL)
def anB(R:kY):AV→Int→AH→KF→Prop:=λa0 a1 H K=>as7 R K a0 a1 H
theorem apV(R:kY)(hR:zR R):av gP 64 (ao [.a,.i 0] (anB R)):=rk λK a0 a1 H h=>ajo hR (ajn hR NL) a0 a1 H h
def qz:kY:=(f101)
def f64:AV→Int→AH→KF→Prop:=anB qz
theorem as8:av gP 64 (ao [.a,.i 0] f64):=apV qz (ad.cons V1 ad.nil)
abbrev dn:Type:=(AV→Int→AH→KF→Prop)×(AV→Int→AH→KF→Prop)×(Int→AH→KF→Prop)×(AV→AH→KF→Prop)×(Int→AH→KF→Prop)×(AV→AH→KF→Prop)×(AV→Int→AH→KF→Prop)×(AV→Int→AH→KF→Prop)
def as9(R:dn):List (Nat×cP):=[(57,ao [.a,.i 0] R.1),(58,ao [.a,.i 0] R.2.1),(59,ao [.i 1] R.2.2.1),(60,ao [.a] R.2.2.2.1),(61,ao [.i 1] R.2.2.2.2.1),(62,ao [.a] R.2.2.2.2.2.1),(63,ao [.a,.i 0] R.2.2.2.2.2.2.1),(64,ao [.a,.i 0] R.2.2.2.2.2.2.2)]
abbrev iV(R:dn):Prop:=ad gP (as9 R)
abbrev RP(K:KF)(F:bC):Prop:=aM 26 K [1,1,1,1,1] 123 [0,5] [.a,.a] F
abbrev kO(K:KF)(F:aR):Prop:=aM 26 K [0,0,1,1,1,1] 123 [0,5,6] [.a,.a,.i 0] F
abbrev yQ(K:KF)(F:aH):Prop:=aM 26 K [1,1,1,0,1,0,0,0,1,1,1,1] 123 [0,5,7,8] [.a,.a,.a,.i 0] F
abbrev RQ(K:KF)(F:lF):Prop:=aM 26 K [1,0,1,0,0,1,1,0,1,0,0,0,1,1,1,1] 123 [0,5,6,7,8] [.a,.a,.i 0,.a,.i 0] F
abbrev RR(K:KF)(F:lF):Prop:=aM 26 K [1,1,0,1,0,0,1,1,0,1,0,0,0,1,1,1,1] 123 [0,5,6,7,8] [.a,.a,.i 0,.a,.i 0] F
abbrev RS(K:KF)(F:lF):Prop:=aM 26 K [1,0,1,1,1,0,0,1,1,0,1,0,0,0,1,1,1,1] 123 [0,5,6,7,8] [.a,.a,.i 0,.a,.i 0] F
abbrev RU(K:KF)(F:lX):Prop:=aM 26 K [0,1,1,1,1,1,0,0,1,1,0,1,0,0,0,1,1,1,1] 123 [0,5,6,7] [.a,.a,.i 0,.a] F
abbrev RV(K:KF)(F:lX):Prop:=aM 26 K [1,1,1,1,1,1,0,0,1,1,0,1,0,0,0,1,1,1,1] 123 [0,5,6,7] [.a,.a,.i 0,.a] F
abbrev RW(K:KF)(F:zO):Prop:=aM 26 K [1,0,1,1,1,1,1,0,0,1,1,0,1,0,0,0,1,1,1,1] 123 [0,5,6,7,11,12,13] [.a,.a,.i 0,.a,.a,.i 0,.b] F
abbrev Mx(K:KF)(F:lF):Prop:=aM 26 K [1,1,1,1,1,1,1,0,0,1,1,0,1,0,0,0,1,1,1,1] 123 [0,5,6,7,14] [.a,.a,.i 0,.a,.i 0] F
def I3(R:dn)(K:KF)(x2:aR)(a0 a5 a7:AV)(a8:Int)(H:AH):Prop:=aF 4 a7 H λv1=>onVal v1 λl2=>dV l2 4 (aN (aA H) 1 4 (spl l2 [(.int 0 (.ofNat 0)),(.str 0 0),(.int 0 (.ofNat 0)),(.int 0 (.ofNat 0))] 0) λv3 H4=>dh 4 40 a5 v3 H4 λv5 H6=>R.1 a0 a8 H6 λo7 H8=>cR K o7 H8 λv9=>cI 0 v9 λz10=>x2 a0 v5 z10 H8)
theorem ajp{R:dn}(hR:iV R){K:KF}{x2:aR}(h2:kO K x2):yQ K (I3 R K x2):=λa0 a5 a7 a8 H h=>pk hR (cc h2 .nil) h
def nW(R:dn)(K:KF)(i2:aR):aH:=I3 R K i2
theorem wN{R:dn}(hR:iV R){K:KF}{i2:aR}(g2:kO K i2):yQ K (nW R K i2):=ajp hR g2
def yR(R:dn)(K:KF)(x3:aH)(a0 a5:AV)(a6:Int)(a7 a11:AV)(a12:Int)(jv:Bool)(H:AH):Prop:=bI (!jv) (K (.ret (.aY [.ab,(.int 0 (.ofNat 14)),(.int 0 a6)])) H) (al 0 a7 λv1=>ae 1 v1 (.int 0 (.ofNat 4)) H λH2=>al 1 a7 λv3=>ae 1 v3 a11 H2 λH4=>x3 a0 a5 a7 a12 H4)
theorem ajq{R:dn}(hR:iV R){K:KF}{x3:aH}(h3:yQ K x3):RW K (yR R K x3):=λa0 a5 a6 a7 a11 a12 jv H h=>pk hR (cc h3 .nil) h
def RX(R:dn)(K:KF)(i2:aR):zO:=yR R K (nW R K i2)
theorem ajr{R:dn}(hR:iV R){K:KF}{i2:aR}(g2:kO K i2):RW K (RX R K i2):=ajq hR (wN hR g2)
def I4(R:dn)(K:KF)(x9:zO)(a0 a5:AV)(a6:Int)(a7:AV)(H:AH):Prop:=R.2.2.2.2.2.2.1 a0 a6 H λo1 H2=>cR K o1 H2 λv3=>eA v3 λl4=>cX l4 0 λv5=>eA v3 λl6=>cX l6 1 λv7=>cI 0 v7 λz8=>eA v3 λl9=>cX l9 2 λv10=>bf v10 λz11=>x9 a0 a5 a6 a7 v5 z8 z11 H2
theorem ajs{R:dn}(hR:iV R){K:KF}{x9:zO}(h9:RW K x9):RU K (I4 R K x9):=λa0 a5 a6 a7 H h=>pk hR (cc h9 .nil) h
def yS(R:dn)(K:KF)(i2:aR):lX:=I4 R K (RX R K i2)
theorem ajt{R:dn}(hR:iV R){K:KF}{i2:aR}(g2:kO K i2):RU K (yS R K i2):=ajs hR (ajr hR g2)
def I5(R:dn)(K:KF)(x3:aH)(a0 a5:AV)(a6:Int)(a7:AV)(a8:Int)(H:AH):Prop:=aJ 0 (Int.sub a8 a6) λz1=>bI (cg (.ofNat 32) z1) (K (.ret (.aY [.ab,(.int 0 (.ofNat 14)),(.int 0 a6)])) H) (x3 a0 a5 a7 a8 H)
theorem aju{R:dn}(hR:iV R){K:KF}{x3:aH}(h3:yQ K x3):RR K (I5 R K x3):=λa0 a5 a6 a7 a8 H h=>pk hR (cc h3 .nil) h
def I6(R:dn)(K:KF)(i2:aR):lF:=I5 R K (nW R K i2)
theorem ajv{R:dn}(hR:iV R){K:KF}{i2:aR}(g2:kO K i2):RR K (I6 R K i2):=aju hR (wN hR g2)
def I7(R:dn)(K:KF)(x5:lF)(a0 a5:AV)(a6:Int)(a7:AV)(a8:Int)(H:AH):Prop:=al 1 a7 λv1=>ak v1 H λv2=>R.2.2.2.1 v2 H λo3 H4=>cR K o3 H4 λv5=>bf v5 λz6=>bI z6 (al 0 a7 λv7=>ae 1 v7 (.int 0 (.ofNat 1)) H4 λH8=>x5 a0 a5 a6 a7 a8 H8) (x5 a0 a5 a6 a7 a8 H4)
theorem ajw{R:dn}(hR:iV R){K:KF}{x5:lF}(h5:RR K x5):RQ K (I7 R K x5):=λa0 a5 a6 a7 a8 H h=>pk hR (cc h5 .nil) h
def Br(R:dn)(K:KF)(i2:aR):lF:=I7 R K (I6 R K i2)
theorem ajx{R:dn}(hR:iV R){K:KF}{i2:aR}(g2:kO K i2):RQ K (Br R K i2):=ajw hR (ajv hR g2)
def I8(R:dn)(K:KF)(x3:aH)(a0 a5:AV)(a6:Int)(a7:AV)(a8:Int)(H:AH):Prop:=eO a0 (some (.int 0 a6)) (some (.int 0 a8)) λv1=>R.2.2.2.2.2.1 v1 H λo2 H3=>cR K o2 H3 λv4=>eA v4 λl5=>cX l5 0 λv6=>cI 0 v6 λz7=>eA v4 λl8=>cX l8 1 λv9=>bf v9 λz10=>bI (!z10) (K (.ret (.aY [.ab,(.int 0 (.ofNat 14)),(.int 0 a6)])) H3) (al 2 a7 λv11=>ae 1 v11 (.int 0 z7) H3 λbL=>x3 a0 a5 a7 a8 bL)
theorem ajy{R:dn}(hR:iV R){K:KF}{x3:aH}(h3:yQ K x3):RS K (I8 R K x3):=λa0 a5 a6 a7 a8 H h=>pk hR (cc h3 .nil) h
def Bs(R:dn)(K:KF)(i2:aR):lF:=I8 R K (nW R K i2)
theorem ajz{R:dn}(hR:iV R){K:KF}{i2:aR}(g2:kO K i2):RS K (Bs R K i2):=ajy hR (wN hR g2)
def I9(R:dn)(K:KF)(a0 a5:AV)(H:AH):Prop:=sLen a0 λv1=>cI 0 v1 λz2=>aN (aA H) 1 4 [(.int 0 (.ofNat 0)),(.str 0 0),(.int 0 (.ofNat 0)),(.int 0 z2)] λv3 H4=>dh 4 40 a5 v3 H4 λv5 H6=>K (.ret (.aY [v5,(.int 0 (.ofNat 0)),(.int 0 (.ofNat 0))])) H6
theorem ajA{R:dn}(hR:iV R){K:KF}:RP K (I9 R K):=λa0 a5 H h=>pk hR .nil h
def Ja(R:dn)(K:KF):bC:=I9 R K
theorem ajB{R:dn}(hR:iV R){K:KF}:RP K (Ja R K):=ajA hR
def DY(R:dn)(K:KF)(x3:aH)(a0 a5:AV)(a6:Int)(a7:AV)(a14:Int)(H:AH):Prop:=bI (bj a14 (.ofNat 0)) (K (.ret (.aY [.ab,(.int 0 (.ofNat 14)),(.int 0 a6)])) H) (aJ 0 (Int.add a6 a14) λz1=>eO a0 (some (.int 0 a6)) (some (.int 0 z1)) λv2=>aJ 0 (Int.add a6 a14) λz3=>al 0 a7 λv4=>ae 1 v4 (.int 0 (.ofNat 5)) H λH5=>al 1 a7 λv6=>ae 1 v6 v2 H5 λH7=>x3 a0 a5 a7 z3 H7)
theorem ab7{R:dn}(hR:iV R){K:KF}{x3:aH}(h3:yQ K x3):Mx K (DY R K x3):=λa0 a5 a6 a7 a14 H h=>pk hR (cc h3 .nil) h
def My(R:dn)(K:KF)(i2:aR):lF:=DY R K (nW R K i2)
theorem ab8{R:dn}(hR:iV R){K:KF}{i2:aR}(g2:kO K i2):Mx K (My R K i2):=ab7 hR (wN hR g2)
def Jb(R:dn)(K:KF)(x10:lF)(a0 a5:AV)(a6:Int)(a7:AV)(H:AH):Prop:=R.2.2.2.2.2.2.2 a0 a6 H λo1 H2=>cR K o1 H2 λv3=>cI 0 v3 λz4=>x10 a0 a5 a6 a7 z4 H2
theorem ajC{R:dn}(hR:iV R){K:KF}{x10:lF}(h10:Mx K x10):RV K (Jb R K x10):=λa0 a5 a6 a7 H h=>pk hR (cc h10 .nil) h
def Bu(R:dn)(K:KF)(i2:aR):lX:=Jb R K (My R K i2)
theorem ajD{R:dn}(hR:iV R){K:KF}{i2:aR}(g2:kO K i2):RV K (Bu R K i2):=ajC hR (ab8 hR g2)
def yT(R:dn)(K:KF)(x7:lX)(x4 x6:lF)(x1:bC)(x8:lX)(a0 a5:AV)(a6:Int)(H:AH):Prop:=sLen a0 λv1=>cI 0 v1 λz2=>bI (cg a6 z2) (cw H (gE (aA H) [(.int 0 (.ofNat 0)),(.str 0 0),(.int 0 (.ofNat 0)),(.int 0 (.ofNat 0))] λv3 H4=>ae 4 v3 (.agg [(.int 0 (.ofNat 0)),(.str 0 0),(.int 0 (.ofNat 0)),(.int 0 a6)]) H4 λH5=>R.2.1 a0 a6 H5 λo6 H7=>cR K o6 H7 λv8=>cI 0 v8 λz9=>dE a0 (.int 0 a6) λv10=>cI 1 v10 λz11=>R.2.2.1 z11 H7 λxK dL=>cR K xK dL λv14=>bf v14 λlA=>bI lA (eO a0 (some (.int 0 a6)) (some (.int 0 z9)) λv16=>al 1 v3 λv17=>ae 1 v17 v16 dL λdK=>al 0 v3 λv19=>ae 1 v19 (.int 0 (.ofNat 2)) dK λfD=>x4 a0 a5 a6 v3 z9 fD) (dE a0 (.int 0 a6) λv21=>cI 1 v21 λz22=>R.2.2.2.2.1 z22 dL λxI fS=>cR K xI fS λv25=>bf v25 λz26=>bI z26 (al 0 v3 λv27=>ae 1 v27 (.int 0 (.ofNat 3)) fS λwu=>x6 a0 a5 a6 v3 z9 wu) (dE a0 (.int 0 a6) λv29=>cI 1 v29 λz30=>bI (bj z30 (.ofNat 34)) (x7 a0 a5 a6 v3 fS) (dE a0 (.int 0 a6) λv31=>cI 1 v31 λz32=>bI (bj z32 (.ofNat 39)) (x7 a0 a5 a6 v3 fS) (x8 a0 a5 a6 v3 fS)))))) (x1 a0 a5 H)
theorem ajE{R:dn}(hR:iV R){K:KF}{x7:lX}{x4 x6:lF}{x1:bC}{x8:lX}(h7:RU K x7)(h4:RQ K x4)(h6:RS K x6)(h1:RP K x1)(h8:RV K x8):kO K (yT R K x7 x4 x6 x1 x8):=λa0 a5 a6 H h=>pk hR (cc h7 (cc h4 (cc h6 (cc h1 (cc h8 .nil))))) h
def ajF(R:dn)(K:KF)(i2:aR):aR:=yT R K (yS R K i2) (Br R K i2) (Bs R K i2) (Ja R K) (Bu R K i2)
theorem ajG{R:dn}(hR:iV R){K:KF}{i2:aR}(g2:kO K i2):kO K (ajF R K i2):=ajE hR (ajt hR g2) (ajx hR g2) (ajz hR g2) (ajB hR) (ajD hR g2)
def eX(R:dn)(K:KF)(n:Nat):aR:=Nat.rec (motive:=λ_=>aR) (λ_ _ _ _=>False) (λ_ i=>ajF R K i) n
theorem ajH{R:dn}(hR:iV R){K:KF}(n:Nat):kO K (eX R K n):=Nat.rec (motive:=λn=>kO K (eX R K n)) (λa0 a5 a6 H h=>h.elim) (λn ih=>ajG hR ih) n
def Jc(R:dn)(K:KF)(x2:aR)(a0:AV)(H:AH):Prop:=sLen a0 λv1=>cI 0 v1 λz2=>bI (cg (.ofNat 16384) z2) (K (.ret (.aY [.ab,(.int 0 (.ofNat 8)),(.int 0 (.ofNat 0))])) H) (R.1 a0 (.ofNat 0) H λo3 H4=>cR K o3 H4 λv5=>cI 0 v5 λz6=>x2 a0 .ab z6 H4)
theorem ajI{R:dn}(hR:iV R){K:KF}{x2:aR}(h2:kO K x2)(a0:AV)(H:AH)(h:Jc R K x2 a0 H):dw 26 K [] (ba (di 26) [a0]) [] H:=pk hR (cc h2 .nil) h
def ata(R:dn)(K:KF):Ta:=Jc R K (eX R K NL)
def anC(R:dn):AV→AH→KF→Prop:=λa0 H K=>ata R K a0 H
theorem apW(R:dn)(hR:iV R):av gP 26 (ao [.a] (anC R)):=rk λK a0 H h=>ajI hR (ajH hR NL) a0 H h
def bF:dn:=(f57,f58,f59,f60,f61,f62,f63,f64)
def f26:AV→AH→KF→Prop:=anC bF
theorem atb:av gP 26 (ao [.a] f26):=apW bF (ad.cons asP (ad.cons asW (ad.cons aiC (ad.cons asZ (ad.cons IF (ad.cons as2 (ad.cons as5 (ad.cons as8 ad.nil))))))))
abbrev ab9:Type:=AV→Bool→Int→AH→Prop
abbrev wO:Type:=AV→Int→Bool→AV→AH→Prop
abbrev eE:Type:=AV→Int→Int→Bool→AV→AH→Prop
abbrev DZ:Type:=AV→Int→Int→Bool→AV→Int→AH→Prop
abbrev bW:Type:=Int→Bool→AV→Int→Int→Bool→Int→AV→Int→Int→AH→Prop
abbrev eN:Type:=Int→Bool→AV→Int→Int→Bool→Int→Int→AV→Int→Int→AH→Prop
abbrev sN:Type:=Unit
def apX(R:sN):List (Nat×cP):=[]
abbrev ajJ(R:sN):Prop:=ad gP (apX R)
def V5(R:sN)(K:KF)(a0:Int)(H:AH):Prop:=bM (jT 1 a0) λu1=>bM (jT 1 (.ofNat 32)) λu2=>aJ 1 (.ofNat (Nat.lor u1 u2)) λz3=>K (.ret (.int 1 z3)) H
theorem aca{R:sN}(hR:ajJ R){K:KF}(a0:Int)(H:AH)(h:V5 R K a0 H):dw 158 K [] (ba (di 158) [(.int 1 a0)]) [] H:=pk hR .nil h
def apY(R:sN)(K:KF):Ti:=V5 R K
def ajK(R:sN):Int→AH→KF→Prop:=λa0 H K=>apY R K a0 H
theorem alY(R:sN)(hR:ajJ R):av gP 158 (ao [.i 1] (ajK R)):=rk λK a0 H h=>aca hR a0 H h
def V6:sN:=()
def f158:Int→AH→KF→Prop:=ajK V6
theorem apZ:av gP 158 (ao [.i 1] f158):=alY V6 ad.nil
abbrev bu:Type:=(Int→AH→KF→Prop)×(AV→AH→KF→Prop)
def ap0(R:bu):List (Nat×cP):=[(158,ao [.i 1] R.1),(159,ao [.a] R.2)]
abbrev dC(R:bu):Prop:=ad gP (ap0 R)
abbrev pV(K:KF)(F:eE):Prop:=aM 124 K [1,1,1,1,1] 172 [0,1,2,8,9] [.a,.i 0,.i 0,.b,.a] F
abbrev Mz(K:KF)(F:eE):Prop:=aM 124 K [1,1,1,1,1,1] 172 [0,1,2,8,9] [.a,.i 0,.i 0,.b,.a] F
abbrev MA(K:KF)(F:eE):Prop:=aM 124 K [1,1,0,0,1,1,1,1] 172 [0,1,2,8,9] [.a,.i 0,.i 0,.b,.a] F
abbrev MB(K:KF)(F:DZ):Prop:=aM 124 K [1,1,1,1,1,1,1,1] 172 [0,1,2,8,9,10] [.a,.i 0,.i 0,.b,.a,.i 3] F
abbrev MC(K:KF)(F:ab9):Prop:=aM 124 K [1,1,1,1,1,1,1,1,1,1,1,1] 172 [9,12,13] [.a,.b,.i 3] F
abbrev kG(K:KF)(F:bW):Prop:=aM 124 K [0,1,0,1,1,1,1,1,1,1,1,1,1,1] 172 [1,8,9,10,11,12,13,99,100,101] [.i 0,.b,.a,.i 3,.i 3,.b,.i 3,.a,.i 0,.i 0] F
abbrev MD(K:KF)(F:wO):Prop:=aM 124 K [1,1,0,0,1,1,0,1,1,1,0,0,1,1,1,1] 172 [0,2,8,9] [.a,.i 0,.b,.a] F
abbrev ME(K:KF)(F:eE):Prop:=aM 124 K [1,0,1,0,0,1,1,0,1,1,1,0,0,1,1,1,1] 172 [0,1,2,8,9] [.a,.i 0,.i 0,.b,.a] F
abbrev D0(K:KF)(F:bW):Prop:=aM 124 K [1,1,1,0,0,1,0,1,1,1,1,1,1,1,1,1,1,1] 172 [1,8,9,10,11,12,13,99,100,101] [.i 0,.b,.a,.i 3,.i 3,.b,.i 3,.a,.i 0,.i 0] F
abbrev EP(K:KF)(F:wO):Prop:=aM 124 K [1,1,1,1,0,0,1,1,0,1,1,1,0,0,1,1,1,1] 172 [0,2,8,9] [.a,.i 0,.b,.a] F
abbrev ES(K:KF)(F:eE):Prop:=aM 124 K [1,0,1,1,1,0,0,1,1,0,1,1,1,0,0,1,1,1,1] 172 [0,1,2,8,9] [.a,.i 0,.i 0,.b,.a] F
abbrev EU(K:KF)(F:eE):Prop:=aM 124 K [1,0,1,1,1,1,1,0,0,1,1,0,1,1,1,0,0,1,1,1,1] 172 [0,1,2,8,9] [.a,.i 0,.i 0,.b,.a] F
abbrev EV(K:KF)(F:eE):Prop:=aM 124 K [1,1,1,1,1,1,1,0,0,1,1,0,1,1,1,0,0,1,1,1,1] 172 [0,1,2,8,9] [.a,.i 0,.i 0,.b,.a] F
abbrev zT(K:KF)(F:eN):Prop:=aM 124 K [1,1,1,0,0,1,1,0,0,1,0,1,1,1,1,1,1,1,1,1,1,1] 172 [1,8,9,10,11,12,13,16,99,100,101] [.i 0,.b,.a,.i 3,.i 3,.b,.i 3,.i 1,.a,.i 0,.i 0] F
abbrev EW(K:KF)(F:eN):Prop:=aM 124 K [1,1,0,0,1,1,0,0,1,1,0,0,1,0,1,1,1,1,1,1,1,1,1,1,1] 172 [1,8,9,10,11,12,13,15,99,100,101] [.i 0,.b,.a,.i 3,.i 3,.b,.i 3,.i 1,.a,.i 0,.i 0] F
abbrev EX(K:KF)(F:eN):Prop:=aM 124 K [1,1,1,1,0,0,1,1,0,0,1,1,0,0,1,0,1,1,1,1,1,1,1,1,1,1,1] 172 [1,8,9,10,11,12,13,15,99,100,101] [.i 0,.b,.a,.i 3,.i 3,.b,.i 3,.i 1,.a,.i 0,.i 0] F
abbrev EY(K:KF)(F:bW):Prop:=aM 124 K [1,1,1,1,1,1,1,1,0,0,1,1,0,0,1,0,1,1,1,1,1,1,1,1,1,1,1] 172 [1,8,9,10,11,12,17,99,100,101] [.i 0,.b,.a,.i 3,.i 3,.b,.i 3,.a,.i 0,.i 0] F
abbrev EZ(K:KF)(F:eN):Prop:=aM 124 K [0,1,1,1,1,1,0,0,1,1,0,0,1,1,0,0,1,0,1,1,1,1,1,1,1,1,1,1,1] 172 [1,8,9,10,11,12,13,15,99,100,101] [.i 0,.b,.a,.i 3,.i 3,.b,.i 3,.i 1,.a,.i 0,.i 0] F
def V7(R:bu)(K:KF)(x6:bW)(a1:Int)(a8:Bool)(a9:AV)(a10 a11:Int)(a12:Bool)(jv:Int)(mD:AV)(jR jH:Int)(H:AH):Prop:=aJ 0 (Int.add jH (.ofNat 1)) λz1=>x6 a1 a8 a9 a10 a11 a12 jv mD jR z1 H
theorem acb{R:bu}(hR:dC R){K:KF}{x6:bW}(h6:kG K x6):D0 K (V7 R K x6):=λa1 a8 a9 a10 a11 a12 jv mD jR jH H h=>pk hR (cc h6 .nil) h
def MF(R:bu)(K:KF)(i6:bW):bW:=V7 R K i6
theorem Jd{R:bu}(hR:dC R){K:KF}{i6:bW}(g6:kG K i6):D0 K (MF R K i6):=acb hR g6
def RY(R:bu)(K:KF)(x9:bW)(a1:Int)(a8:Bool)(a9:AV)(a10 a11:Int)(a12:Bool)(a17:Int)(mD:AV)(jR jH:Int)(H:AH):Prop:=x9 a1 a8 a9 a10 a11 a12 a17 mD jR jH H
theorem T0{R:bu}(hR:dC R){K:KF}{x9:bW}(h9:D0 K x9):EY K (RY R K x9):=λa1 a8 a9 a10 a11 a12 a17 mD jR jH H h=>pk hR (cc h9 .nil) h
def RZ(R:bu)(K:KF)(i6:bW):bW:=RY R K (MF R K i6)
theorem T5{R:bu}(hR:dC R){K:KF}{i6:bW}(g6:kG K i6):EY K (RZ R K i6):=T0 hR (Jd hR g6)
def Sh(R:bu)(K:KF)(x17:bW)(a1:Int)(a8:Bool)(a9:AV)(a10 a11:Int)(a12:Bool)(jv a16:Int)(mD:AV)(jR jH:Int)(H:AH):Prop:=aJ 1 a1 λz1=>bI (!(cg a16 z1)) (K (.ret (.aY [(.int 3 (.ofNat 0)),(.iface 171 (.int 0 (.ofNat 2)))])) H) (bI (!(cg jv a10)) (K (.ret (.aY [(.int 3 a11),(.iface 171 (.int 0 (.ofNat 1)))])) H) (aJ 3 a1 λz2=>aJ 3 (Int.mul jv z2) λz3=>aJ 3 a16 λz4=>aJ 3 (Int.add z3 z4) λz5=>bI (cg z5 z3) (K (.ret (.aY [(.int 3 a11),(.iface 171 (.int 0 (.ofNat 1)))])) H) (bI (cg a11 z5) (K (.ret (.aY [(.int 3 a11),(.iface 171 (.int 0 (.ofNat 1)))])) H) (x17 a1 a8 a9 a10 a11 a12 z5 mD jR jH H))))
theorem T6{R:bu}(hR:dC R){K:KF}{x17:bW}(h17:EY K x17):zT K (Sh R K x17):=λa1 a8 a9 a10 a11 a12 jv a16 mD jR jH H h=>pk hR (cc h17 .nil) h
def E0(R:bu)(K:KF)(i6:bW):eN:=Sh R K (RZ R K i6)
theorem Eo{R:bu}(hR:dC R){K:KF}{i6:bW}(g6:kG K i6):zT K (E0 R K i6):=T6 hR (T5 hR g6)
def Sj(R:bu)(K:KF)(x14:eN)(a1:Int)(a8:Bool)(a9:AV)(a10 a11:Int)(a12:Bool)(jv sG:Int)(mD:AV)(jR jH:Int)(H:AH):Prop:=R.1 sG H λo1 H2=>cR K o1 H2 λv3=>cI 1 v3 λz4=>aJ 1 (Int.sub z4 (.ofNat 97)) λz5=>aJ 1 (Int.add z5 (.ofNat 10)) λz6=>x14 a1 a8 a9 a10 a11 a12 jv z6 mD jR jH H2
theorem T7{R:bu}(hR:dC R){K:KF}{x14:eN}(QC:zT K x14):EZ K (Sj R K x14):=λa1 a8 a9 a10 a11 a12 jv sG mD jR jH H h=>pk hR (cc QC .nil) h
def Sl(R:bu)(K:KF)(i6:bW):eN:=Sj R K (E0 R K i6)
theorem T8{R:bu}(hR:dC R){K:KF}{i6:bW}(g6:kG K i6):EZ K (Sl R K i6):=T7 hR (Eo hR g6)
def Sm(R:bu)(K:KF)(x18:eN)(a1:Int)(a8:Bool)(a9:AV)(a10 a11:Int)(a12:Bool)(jv sG:Int)(mD:AV)(jR jH:Int)(H:AH):Prop:=R.1 sG H λo1 H2=>cR K o1 H2 λv3=>cI 1 v3 λz4=>bI (!(cg z4 (.ofNat 97))) (R.1 sG H2 λo5 H6=>cR K o5 H6 λv7=>cI 1 v7 λz8=>bI (!(cg (.ofNat 122) z8)) (x18 a1 a8 a9 a10 a11 a12 jv sG mD jR jH H6) (K (.ret (.aY [(.int 3 (.ofNat 0)),(.iface 171 (.int 0 (.ofNat 2)))])) H6)) (K (.ret (.aY [(.int 3 (.ofNat 0)),(.iface 171 (.int 0 (.ofNat 2)))])) H2)
theorem T9{R:bu}(hR:dC R){K:KF}{x18:eN}(h18:EZ K x18):EX K (Sm R K x18):=λa1 a8 a9 a10 a11 a12 jv sG mD jR jH H h=>pk hR (cc h18 .nil) h
def Sn(R:bu)(K:KF)(i6:bW):eN:=Sm R K (Sl R K i6)
theorem Ua{R:bu}(hR:dC R){K:KF}{i6:bW}(g6:kG K i6):EX K (Sn R K i6):=T9 hR (T8 hR g6)
def So(R:bu)(K:KF)(x14 x16:eN)(a1:Int)(a8:Bool)(a9:AV)(a10 a11:Int)(a12:Bool)(jv sG:Int)(mD:AV)(jR jH:Int)(H:AH):Prop:=bI (!(cg sG (.ofNat 48))) (bI (!(cg (.ofNat 57) sG)) (aJ 1 (Int.sub sG (.ofNat 48)) λz1=>x14 a1 a8 a9 a10 a11 a12 jv z1 mD jR jH H) (x16 a1 a8 a9 a10 a11 a12 jv sG mD jR jH H)) (x16 a1 a8 a9 a10 a11 a12 jv sG mD jR jH H)
theorem Ub{R:bu}(hR:dC R){K:KF}{x14 x16:eN}(QC:zT K x14)(h16:EX K x16):EW K (So R K x14 x16):=λa1 a8 a9 a10 a11 a12 jv sG mD jR jH H h=>pk hR (cc QC (cc h16 .nil)) h
def Sp(R:bu)(K:KF)(i6:bW):eN:=So R K (E0 R K i6) (Sn R K i6)
theorem Uc{R:bu}(hR:dC R){K:KF}{i6:bW}(g6:kG K i6):EW K (Sp R K i6):=Ub hR (Eo hR g6) (Ua hR g6)
def V8(R:bu)(K:KF)(a9:AV)(a12:Bool)(jv:Int)(H:AH):Prop:=bI a12 (R.2 a9 H λo1 H2=>cR K o1 H2 λv3=>bf v3 λz4=>bI (!z4) (K (.ret (.aY [(.int 3 (.ofNat 0)),(.iface 171 (.int 0 (.ofNat 2)))])) H2) (K (.ret (.aY [(.int 3 jv),.fl])) H2)) (K (.ret (.aY [(.int 3 jv),.fl])) H)
theorem acd{R:bu}(hR:dC R){K:KF}:MC K (V8 R K):=λa9 a12 jv H h=>pk hR .nil h
def V9(R:bu)(K:KF):ab9:=V8 R K
theorem ace{R:bu}(hR:dC R){K:KF}:MC K (V9 R K):=acd hR
def Wa(R:bu)(K:KF)(x15:eN)(x9:bW)(x5:ab9)(a1:Int)(a8:Bool)(a9:AV)(a10 a11:Int)(a12:Bool)(jv:Int)(mD:AV)(jR jH:Int)(H:AH):Prop:=bI (cg jH jR) (cK 1 mD (.int 0 jH) λv1=>ak v1 H λv2=>cI 1 v2 λz3=>bI (bj z3 (.ofNat 95)) (bI a8 (x9 a1 a8 a9 a10 a11 true jv mD jR jH H) (x15 a1 a8 a9 a10 a11 a12 jv z3 mD jR jH H)) (x15 a1 a8 a9 a10 a11 a12 jv z3 mD jR jH H)) (x5 a9 a12 jv H)
theorem acf{R:bu}(hR:dC R){K:KF}{x15:eN}{x9:bW}{x5:ab9}(h15:EW K x15)(h9:D0 K x9)(h5:MC K x5):kG K (Wa R K x15 x9 x5):=λa1 a8 a9 a10 a11 a12 jv mD jR jH H h=>pk hR (cc h15 (cc h9 (cc h5 .nil))) h
def Wb(R:bu)(K:KF)(i6:bW):bW:=Wa R K (Sp R K i6) (MF R K i6) (V9 R K)
theorem acg{R:bu}(hR:dC R){K:KF}{i6:bW}(g6:kG K i6):kG K (Wb R K i6):=acf hR (Uc hR g6) (Jd hR g6) (ace hR)
def MG(R:bu)(K:KF)(n:Nat):bW:=Nat.rec (motive:=λ_=>bW) (λ_ _ _ _ _ _ _ _ _ _ _=>False) (λ_ i=>Wb R K i) n
theorem ach{R:bu}(hR:dC R){K:KF}(n:Nat):kG K (MG R K n):=Nat.rec (motive:=λn=>kG K (MG R K n)) (λa1 a8 a9 a10 a11 a12 jv mD jR jH H h=>h.elim) (λn ih=>acg hR ih) n
def Wc(R:bu)(K:KF)(x6:bW)(a0:AV)(a1 a2:Int)(a8:Bool)(a9:AV)(a10:Int)(H:AH):Prop:=aJ 3 a2 λz1=>Ot 3 (.int 3 (.ofNat 1)) (.int 3 z1) λv2=>cI 3 v2 λz3=>aJ 3 (Int.sub z3 (.ofNat 1)) λz4=>Ez (aA H) a0 λv5 H6=>dp v5 λv7=>cI 0 v7 λz8=>x6 a1 a8 a9 a10 z4 false (.ofNat 0) v5 z8 (.ofNat 0) H6
theorem aci{R:bu}(hR:dC R){K:KF}{x6:bW}(h6:kG K x6):MB K (Wc R K x6):=λa0 a1 a2 a8 a9 a10 H h=>pk hR (cc h6 .nil) h
def Wd(R:bu)(K:KF):DZ:=Wc R K (MG R K NL)
theorem acj{R:bu}(hR:dC R){K:KF}:MB K (Wd R K):=aci hR (ach hR NL)
def We(R:bu)(K:KF)(x4:DZ)(a0:AV)(a1 a2:Int)(a8:Bool)(a9:AV)(H:AH):Prop:=bI (bj a1 (.ofNat 10)) (x4 a0 a1 a2 a8 a9 (.ofNat 1844674407370955162) H) (bI (bj a1 (.ofNat 16)) (x4 a0 a1 a2 a8 a9 (.ofNat 1152921504606846976) H) (aJ 3 a1 λz1=>bI (bj z1 0) False (aJ 3 (Int.tdiv (.ofNat 18446744073709551615) z1) λz2=>aJ 3 (Int.add z2 (.ofNat 1)) λz3=>x4 a0 a1 a2 a8 a9 z3 H)))
theorem ack{R:bu}(hR:dC R){K:KF}{x4:DZ}(h4:MB K x4):Mz K (We R K x4):=λa0 a1 a2 a8 a9 H h=>pk hR (cc h4 .nil) h
def Wf(R:bu)(K:KF):eE:=We R K (Wd R K)
theorem acm{R:bu}(hR:dC R){K:KF}:Mz K (Wf R K):=ack hR (acj hR)
def Wg(R:bu)(K:KF)(x2:eE)(a0:AV)(a1 a2:Int)(a8:Bool)(a9:AV)(H:AH):Prop:=bI (bj a2 (.ofNat 0)) (x2 a0 a1 (.ofNat 64) a8 a9 H) (bI (cg a2 (.ofNat 0)) (K (.ret (.aY [(.int 3 (.ofNat 0)),(.iface 171 (.int 0 (.ofNat 4)))])) H) (bI (cg (.ofNat 64) a2) (K (.ret (.aY [(.int 3 (.ofNat 0)),(.iface 171 (.int 0 (.ofNat 4)))])) H) (x2 a0 a1 a2 a8 a9 H)))
theorem acn{R:bu}(hR:dC R){K:KF}{x2:eE}(h2:Mz K x2):pV K (Wg R K x2):=λa0 a1 a2 a8 a9 H h=>pk hR (cc h2 .nil) h
def rI(R:bu)(K:KF):eE:=Wg R K (Wf R K)
theorem oA{R:bu}(hR:dC R){K:KF}:pV K (rI R K):=acn hR (acm hR)
def Wh(R:bu)(K:KF)(x1:eE)(a0:AV)(a1 a2:Int)(a8:Bool)(a9:AV)(H:AH):Prop:=eO a0 (some (.int 0 (.ofNat 2))) none λv1=>x1 v1 a1 a2 a8 a9 H
theorem aco{R:bu}(hR:dC R){K:KF}{x1:eE}(h1:pV K x1):ME K (Wh R K x1):=λa0 a1 a2 a8 a9 H h=>pk hR (cc h1 .nil) h
def Wi(R:bu)(K:KF):eE:=Wh R K (rI R K)
theorem acp{R:bu}(hR:dC R){K:KF}:ME K (Wi R K):=aco hR (oA hR)
def Sq(R:bu)(K:KF)(x1:eE)(a0:AV)(a1 a2:Int)(a8:Bool)(a9:AV)(H:AH):Prop:=eO a0 (some (.int 0 (.ofNat 2))) none λv1=>x1 v1 a1 a2 a8 a9 H
theorem Ud{R:bu}(hR:dC R){K:KF}{x1:eE}(h1:pV K x1):ES K (Sq R K x1):=λa0 a1 a2 a8 a9 H h=>pk hR (cc h1 .nil) h
def Sr(R:bu)(K:KF):eE:=Sq R K (rI R K)
theorem Ue{R:bu}(hR:dC R){K:KF}:ES K (Sr R K):=Ud hR (oA hR)
def Ss(R:bu)(K:KF)(x1:eE)(a0:AV)(a1 a2:Int)(a8:Bool)(a9:AV)(H:AH):Prop:=eO a0 (some (.int 0 (.ofNat 2))) none λv1=>x1 v1 a1 a2 a8 a9 H
theorem Uf{R:bu}(hR:dC R){K:KF}{x1:eE}(h1:pV K x1):EU K (Ss R K x1):=λa0 a1 a2 a8 a9 H h=>pk hR (cc h1 .nil) h
def St(R:bu)(K:KF):eE:=Ss R K (rI R K)
theorem Ug{R:bu}(hR:dC R){K:KF}:EU K (St R K):=Uf hR (oA hR)
def Su(R:bu)(K:KF)(x1:eE)(a0:AV)(a1 a2:Int)(a8:Bool)(a9:AV)(H:AH):Prop:=eO a0 (some (.int 0 (.ofNat 1))) none λv1=>x1 v1 a1 a2 a8 a9 H
theorem Uh{R:bu}(hR:dC R){K:KF}{x1:eE}(h1:pV K x1):EV K (Su R K x1):=λa0 a1 a2 a8 a9 H h=>pk hR (cc h1 .nil) h
def Sv(R:bu)(K:KF):eE:=Su R K (rI R K)
theorem Ui{R:bu}(hR:dC R){K:KF}:EV K (Sv R K):=Uh hR (oA hR)
def Sw(R:bu)(K:KF)(x12 s6:eE)(a0:AV)(a2:Int)(a8:Bool)(a9:AV)(H:AH):Prop:=sLen a0 λv1=>cI 0 v1 λz2=>bI (!(cg z2 (.ofNat 3))) (dE a0 (.int 0 (.ofNat 1)) λv3=>cI 1 v3 λz4=>R.1 z4 H λo5 H6=>cR K o5 H6 λv7=>cI 1 v7 λz8=>bI (bj z8 (.ofNat 120)) (x12 a0 (.ofNat 16) a2 a8 a9 H6) (s6 a0 (.ofNat 8) a2 a8 a9 H6)) (s6 a0 (.ofNat 8) a2 a8 a9 H)
theorem Uj{R:bu}(hR:dC R){K:KF}{x12 s6:eE}(h12:EU K x12)(h13:EV K s6):EP K (Sw R K x12 s6):=λa0 a2 a8 a9 H h=>pk hR (cc h12 (cc h13 .nil)) h
def Sx(R:bu)(K:KF):wO:=Sw R K (St R K) (Sv R K)
theorem Uk{R:bu}(hR:dC R){K:KF}:EP K (Sx R K):=Uj hR (Ug hR) (Ui hR)
def Wj(R:bu)(K:KF)(x11:eE)(x10:wO)(a0:AV)(a2:Int)(a8:Bool)(a9:AV)(H:AH):Prop:=sLen a0 λv1=>cI 0 v1 λz2=>bI (!(cg z2 (.ofNat 3))) (dE a0 (.int 0 (.ofNat 1)) λv3=>cI 1 v3 λz4=>R.1 z4 H λo5 H6=>cR K o5 H6 λv7=>cI 1 v7 λz8=>bI (bj z8 (.ofNat 111)) (x11 a0 (.ofNat 8) a2 a8 a9 H6) (x10 a0 a2 a8 a9 H6)) (x10 a0 a2 a8 a9 H)
theorem acq{R:bu}(hR:dC R){K:KF}{x11:eE}{x10:wO}(h11:ES K x11)(h10:EP K x10):MD K (Wj R K x11 x10):=λa0 a2 a8 a9 H h=>pk hR (cc h11 (cc h10 .nil)) h
def Wk(R:bu)(K:KF):wO:=Wj R K (Sr R K) (Sx R K)
theorem acr{R:bu}(hR:dC R){K:KF}:MD K (Wk R K):=acq hR (Ue hR) (Uk hR)
def Wl(R:bu)(K:KF)(x8:eE)(x7:wO)(x1:eE)(a0:AV)(a1 a2:Int)(a8:Bool)(a9:AV)(H:AH):Prop:=bI (bj a1 (.ofNat 0)) (dE a0 (.int 0 (.ofNat 0)) λv1=>cI 1 v1 λz2=>bI (bj z2 (.ofNat 48)) (sLen a0 λv3=>cI 0 v3 λz4=>bI (!(cg z4 (.ofNat 3))) (dE a0 (.int 0 (.ofNat 1)) λv5=>cI 1 v5 λz6=>R.1 z6 H λo7 H8=>cR K o7 H8 λv9=>cI 1 v9 λz10=>bI (bj z10 (.ofNat 98)) (x8 a0 (.ofNat 2) a2 a8 a9 H8) (x7 a0 a2 a8 a9 H8)) (x7 a0 a2 a8 a9 H)) (x1 a0 (.ofNat 10) a2 a8 a9 H)) (K (.ret (.aY [(.int 3 (.ofNat 0)),(.iface 171 (.int 0 (.ofNat 3)))])) H)
theorem acs{R:bu}(hR:dC R){K:KF}{x8:eE}{x7:wO}{x1:eE}(h8:ME K x8)(h7:MD K x7)(h1:pV K x1):MA K (Wl R K x8 x7 x1):=λa0 a1 a2 a8 a9 H h=>pk hR (cc h8 (cc h7 (cc h1 .nil))) h
def Wm(R:bu)(K:KF):eE:=Wl R K (Wi R K) (Wk R K) (rI R K)
theorem acu{R:bu}(hR:dC R){K:KF}:MA K (Wm R K):=acs hR (acp hR) (acr hR) (oA hR)
def Wn(R:bu)(K:KF)(x3 x1:eE)(a0:AV)(a1 a2:Int)(H:AH):Prop:=pF a0 (.str 0 0) λv1=>bf v1 λz2=>bI z2 (K (.ret (.aY [(.int 3 (.ofNat 0)),(.iface 171 (.int 0 (.ofNat 2)))])) H) (bI (!(cg a1 (.ofNat 2))) (bI (!(cg (.ofNat 36) a1)) (x1 a0 a1 a2 (bj a1 (.ofNat 0)) a0 H) (x3 a0 a1 a2 (bj a1 (.ofNat 0)) a0 H)) (x3 a0 a1 a2 (bj a1 (.ofNat 0)) a0 H))
theorem acv{R:bu}(hR:dC R){K:KF}{x3 x1:eE}(h3:MA K x3)(h1:pV K x1)(a0:AV)(a1 a2:Int)(H:AH)(h:Wn R K x3 x1 a0 a1 a2 H):dw 124 K [] (ba (di 124) [a0,(.int 0 a1),(.int 0 a2)]) [] H:=pk hR (cc h3 (cc h1 .nil)) h
def ap1(R:bu)(K:KF):ka:=Wn R K (Wm R K) (rI R K)
def ajL(R:bu):AV→Int→Int→AH→KF→Prop:=λa0 a1 a2 H K=>ap1 R K a0 a1 a2 H
theorem alZ(R:bu)(hR:dC R):av gP 124 (ao [.a,.i 0,.i 0] (ajL R)):=rk λK a0 a1 a2 H h=>acv hR (acu hR) (oA hR) a0 a1 a2 H h
abbrev sO:Type:=(AV→AV→Int→Int→AV→AH→KF→Prop)×(AV→Int→Int→AH→KF→Prop)
def ap2(R:sO):List (Nat×cP):=[(92,ao [.a,.a,.i 0,.i 0,.a] R.1),(124,ao [.a,.i 0,.i 0] R.2)]
abbrev ajM(R:sO):Prop:=ad gP (ap2 R)
def Wo(R:sO)(K:KF)(a0:AV)(a1 a2:Int)(H:AH):Prop:=R.2 a0 a1 a2 H λo1 H2=>cR K o1 H2 λv3=>eA v3 λl4=>cX l4 0 λv5=>cI 3 v5 λz6=>eA v3 λl7=>cX l7 1 λv8=>vQ false v8 λv9=>bf v9 λz10=>bI z10 (R.1 (.str 9 2147778296661251613008) a0 a1 a2 v8 H2 λkj bL=>cR K kj bL λv13=>K (.ret (.aY [(.int 3 z6),v13])) bL) (K (.ret (.aY [(.int 3 z6),.fl])) H2)
theorem acw{R:sO}(hR:ajM R){K:KF}(a0:AV)(a1 a2:Int)(H:AH)(h:Wo R K a0 a1 a2 H):dw 129 K [] (ba (di 129) [a0,(.int 0 a1),(.int 0 a2)]) [] H:=pk hR .nil h
def ap3(R:sO)(K:KF):ka:=Wo R K
def ajN(R:sO):AV→Int→Int→AH→KF→Prop:=λa0 a1 a2 H K=>ap3 R K a0 a1 a2 H
theorem al0(R:sO)(hR:ajM R):av gP 129 (ao [.a,.i 0,.i 0] (ajN R)):=rk λK a0 a1 a2 H h=>acw hR a0 a1 a2 H h
abbrev E5:Type:=(AV→AH→KF→Prop)
def auq(R:E5):List (Nat×cP):=[(8,ao [.a] R)]
abbrev atc(R:E5):Prop:=ad gP (auq R)
def Oc(R:E5)(K:KF)(H:AH):Prop:=R (.str 16 67957635696521517601713190803061630322) H λo1 H2=>cR K o1 H2 λv3=>eA v3 λl4=>cX l4 0 λv5=>eA v3 λl6=>cX l6 1 λv7=>cI 0 v7 λz8=>eA v3 λl9=>cX l9 2 λv10=>cI 0 v10 λz11=>R (.str 1 120) H2 λxK dL=>cR K xK dL λv14=>eA v14 λl15=>cX l15 0 λv16=>eA v14 λl17=>cX l17 1 λv18=>cI 0 v18 λsn=>eA v14 λl20=>cX l20 2 λv21=>cI 0 v21 λz22=>bI (bj z8 (.ofNat 0)) (bI (bj z11 (.ofNat 0)) (dp v5 λv23=>cI 0 v23 λz24=>bI (bj z24 (.ofNat 1)) (cK 5 v5 (.int 0 (.ofNat 0)) λv25=>al 3 v25 λv26=>ak v26 dL λv27=>dp v27 λv28=>cI 0 v28 λz29=>bI (bj z29 (.ofNat 1)) (cK 5 v5 (.int 0 (.ofNat 0)) λv30=>al 3 v30 λv31=>ak v31 dL λv32=>cK 7 v32 (.int 0 (.ofNat 0)) λv33=>al 1 v33 λv34=>ak v34 dL λv35=>cI 0 v35 λz36=>bI (bj z36 (.ofNat 9)) (cK 5 v5 (.int 0 (.ofNat 0)) λv37=>al 3 v37 λv38=>ak v38 dL λv39=>cK 7 v39 (.int 0 (.ofNat 0)) λv40=>al 4 v40 λv41=>ak v41 dL λv42=>cI 0 v42 λz43=>bI (bj z43 (.ofNat 1)) (bI (bj sn (.ofNat 14)) (K (.ret (.bool (bj z22 (.ofNat 1)))) dL) (K (.ret (.bool false)) dL)) (K (.ret (.bool false)) dL)) (K (.ret (.bool false)) dL)) (K (.ret (.bool false)) dL)) (K (.ret (.bool false)) dL)) (K (.ret (.bool false)) dL)) (K (.ret (.bool false)) dL)
theorem al1{R:E5}(hR:atc R){K:KF}(H:AH)(h:Oc R K H):dw 7 K [] (ba (di 7) []) [] H:=pk hR .nil h
def aur(R:E5)(K:KF):T_:=Oc R K
def atd(R:E5):AH→KF→Prop:=fun  H K=>aur R K  H
theorem ate(R:E5)(hR:atc R):av gP 7 (ao [] (atd R)):=rk λK  H h=>al1 hR  H h
end Go.Proofs.YtcedghechlgecaaGreatDoor.G
