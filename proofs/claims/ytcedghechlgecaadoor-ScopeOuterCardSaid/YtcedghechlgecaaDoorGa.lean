/- The functions of the parser of the document, by program. No condition. -/
import Derived.Test.YtcedghechlgecaaDoorMb
import Derived.Test.YtcedghechlgecaaDoorChecked
set_option maxRecDepth 100000
set_option maxHeartbeats 0
set_option linter.unusedVariables false
set_option linter.unusedSimpArgs false
namespace Go.Proofs.YtcedghechlgecaaDoor.G
open Go Go.X
noncomputable abbrev gPa:Program:=Tryd.prog
abbrev NL:Nat:=1000000
theorem mix:gPa.follows .mixedOrders=true:=by kernel_rfl
noncomputable def ff(n:Nat):Func:=(gPa.funcs[n]?).getD default
noncomputable def gBd(n:Nat):Code:=(ff n).body.getD .skip
abbrev fN(n:Nat)(K:KF):List Nat→yY:=yZ gPa (gBd n) (Sj gPa Lw (ff n) K)
abbrev ba(n:Nat)(K:KF)(p:List Nat)(m:Nat)(s:List Nat)(t:List Ty)(F:rp (AH→Prop) t):Prop:=ad8 gPa (gBd n) (Sj gPa Lw (ff n) K) p m s t F
theorem pk{ct:List (Nat×eM)}(hR:ad gPa ct){b:Code}{Q:KT}{t:y0}{p:List Nat}{env:List AV}{H:AH}(ht:nD gPa b Q t){A:Prop}(h:A)(e:A=Ls (C5 ct) (afz gPa (C5 ct)) gPa gPa.globals.size b (BL t) Q 400 p env [] H:=by kernel_rfl):yZ gPa b Q p env [] H:=
 U0 (BM hR) (ad6 mix _ (BM hR)) ht (Eq.mp e h)
theorem cc{b:Code}{Q:KT}{p:List Nat}{n:Nat}{s:List Nat}{l:List Ty}{F:rp (AH→Prop) l}{t:y0}(h:ad8 gPa b Q p n s l F)(ht:nD gPa b Q t):nD gPa b Q ((p,ai0 n s l F)::t):=nD.cons (ai1 h) ht
theorem rk{g:Nat}{l:List Ty}{F:rp (AH→KF→Prop) l}(h:∀K,pA l F λr a=>∀H,r H K→fN g K [] (bL (ff g) a) [] H)(hf:gPa.funcs[g]? = some (ff g):=by kernel_rfl)(hc:(ff g).body=some (gBd g):=by kernel_rfl):aE gPa g (aD l F):=aE.ag3 hf hc h
abbrev Ta:Type:=AV→AH→Prop
abbrev gi:Type:=AV→AV→AH→Prop
abbrev oK:Type:=AV→AV→AV→AH→Prop
abbrev aA:Type:=AV→AV→Int→AH→Prop
abbrev jt:Type:=AV→AV→Int→AV→AH→Prop
abbrev dP:Type:=AV→Int→AH→Prop
abbrev kB:Type:=AV→Int→AV→AH→Prop
abbrev cq:Type:=AV→Int→AV→AV→AH→Prop
abbrev dm:Type:=AV→Int→AV→AV→Int→AH→Prop
abbrev bE:Type:=AV→Int→AV→AV→Int→AV→AH→Prop
abbrev rD:Type:=AV→Int→AV→Int→AV→AH→Prop
abbrev rE:Type:=AV→Int→AV→Int→Int→AH→Prop
abbrev j2:Type:=AV→Int→Int→AH→Prop
abbrev Du:Type:=AV→Int→Int→AV→AV→AH→Prop
abbrev dM:Type:=AV→Int→Int→AV→AV→AV→AV→AH→Prop
abbrev iF:Type:=AV→Int→Int→AV→AV→AV→AV→Int→AH→Prop
abbrev sO:Type:=AV→Int→Int→AV→AV→AV→AV→Int→Int→AH→Prop
abbrev ji:Type:=AV→Int→Int→AV→AV→AV→AV→Int→Int→AV→Int→AH→Prop
abbrev uG:Type:=Unit
def ajo(R:uG):List (Nat×eM):=[]
abbrev afP(R:uG):Prop:=ad gPa (ajo R)
def Dv(R:uG)(K:KF)(a0:AV)(a1:Int)(H:AH):Prop:=aI a0 (ag 2 a0 λv1=>af v1 H λv2=>cI 0 v2 λz3=>bI (cA z3 (.ofNat 0)) (aI a0 (ag 0 a0 λv4=>af v4 H λv5=>aI a0 (ag 1 a0 λv6=>af v6 H λv7=>cI 0 v7 λz8=>cn 4 v5 (.int 0 z8) λv9=>ag 3 v9 λv10=>af v10 H λv11=>cI 0 v11 λz12=>aI a0 (ag 2 a0 λv13=>ak 1 v13 (.int 0 a1) H λfw=>aI a0 (ag 3 a0 λv15=>ak 1 v15 (.int 0 z12) fw λfy=>K (.ret (.bF [])) fy))))) (K (.ret (.bF [])) H))
theorem VC{R:uG}(hR:afP R){K:KF}(a0:AV)(a1:Int)(H:AH)(h:Dv R K a0 a1 H):fN 18 K [] (bL (ff 18) [a0,(.int 0 a1)]) [] H:=pk hR .nil h
def ajp(R:uG)(K:KF):dP:=Dv R K
def afQ(R:uG):AV→Int→AH→KF→Prop:=λa0 a1 H K=>ajp R K a0 a1 H
theorem ahj(R:uG)(hR:afP R):aE gPa 18 (aD [.a,.i 0] (afQ R)):=rk λK a0 a1 H h=>VC hR a0 a1 H h
def Mt:uG:=()
def f18:AV→Int→AH→KF→Prop:=afQ Mt
theorem rF:aE gPa 18 (aD [.a,.i 0] f18):=ahj Mt ad.nil
abbrev uH:Type:=(AV→Int→AH→KF→Prop)
def ajq(R:uH):List (Nat×eM):=[(18,aD [.a,.i 0] R)]
abbrev afR(R:uH):Prop:=ad gPa (ajq R)
def Dw(R:uH)(K:KF)(a0:AV)(a1:Int)(H:AH):Prop:=bI (df (.ofNat 100) a1) (R a0 (.ofNat 8) H λo1 H2=>cR K o1 H2 λv3=>K (.ret (.bF [])) H2) (K (.ret (.bF [])) H)
theorem VD{R:uH}(hR:afR R){K:KF}(a0:AV)(a1:Int)(H:AH)(h:Dw R K a0 a1 H):fN 37 K [] (bL (ff 37) [a0,(.int 0 a1)]) [] H:=pk hR .nil h
def ajr(R:uH)(K:KF):dP:=Dw R K
def afS(R:uH):AV→Int→AH→KF→Prop:=λa0 a1 H K=>ajr R K a0 a1 H
theorem ahk(R:uH)(hR:afR R):aE gPa 37 (aD [.a,.i 0] (afS R)):=rk λK a0 a1 H h=>VD hR a0 a1 H h
def Dx:uH:=(f18)
def f37:AV→Int→AH→KF→Prop:=afS Dx
theorem Dy:aE gPa 37 (aD [.a,.i 0] f37):=ahk Dx (ad.cons rF ad.nil)
abbrev pj:Type:=Unit
def ajs(R:pj):List (Nat×eM):=[]
abbrev Kg(R:pj):Prop:=ad gPa (ajs R)
abbrev Mu(K:KF)(F:oK):Prop:=ba 41 K [1,1] 37 [0,1,5] [.a,.a,.a] F
def Dz(R:pj)(K:KF)(a0 a1 a5:AV)(H:AH):Prop:=aI a0 (ag 2 a0 λv1=>af v1 H λv2=>cI 0 v2 λz3=>bI (cA z3 (.ofNat 0)) (ag 0 a5 λv4=>af v4 H λv5=>cI 0 v5 λz6=>bI (cA z6 (.ofNat 1)) (ag 1 a5 λv7=>af v7 H λv8=>yg v8 a1 λv9=>cH v9 λz10=>K (.ret (.bool z10)) H) (ag 0 a5 λv11=>af v11 H λv12=>cI 0 v12 λz13=>bI (cA z13 (.ofNat 5)) (ag 1 a5 λv14=>af v14 H λv15=>yg v15 a1 λv16=>cH v16 λz17=>K (.ret (.bool z17)) H) (K (.ret (.bool false)) H))) (K (.ret (.bool false)) H))
theorem VE{R:pj}(hR:Kg R){K:KF}:Mu K (Dz R K):=λa0 a1 a5 H h=>pk hR .nil h
def VF(R:pj)(K:KF):oK:=Dz R K
theorem VG{R:pj}(hR:Kg R){K:KF}:Mu K (VF R K):=VE hR
def DA(R:pj)(K:KF)(x1:oK)(a0 a1:AV)(H:AH):Prop:=aI a0 (ag 0 a0 λv1=>af v1 H λv2=>aI a0 (ag 1 a0 λv3=>af v3 H λv4=>cI 0 v4 λz5=>cn 4 v2 (.int 0 z5) λv6=>aZ 4 v6 H λv7=>dx H (fW H (lA (ay H) [(.int 0 (.ofNat 0)),(.str 0 0),(.int 0 (.ofNat 0)),(.int 0 (.ofNat 0))] λv8 H9=>bT (Nat.beq H9.n (Nat.succ H.n)) (ak 4 v8 v7 H9 λdD=>x1 a0 a1 v8 dD)))))
theorem VH{R:pj}(hR:Kg R){K:KF}{x1:oK}(h1:Mu K x1)(a0 a1:AV)(H:AH)(h:DA R K x1 a0 a1 H):fN 41 K [] (bL (ff 41) [a0,a1]) [] H:=pk hR (cc h1 .nil) h
def ajt(R:pj)(K:KF):gi:=DA R K (VF R K)
def afT(R:pj):AV→AV→AH→KF→Prop:=λa0 a1 H K=>ajt R K a0 a1 H
theorem ahl(R:pj)(hR:Kg R):aE gPa 41 (aD [.a,.a] (afT R)):=rk λK a0 a1 H h=>VH hR (VG hR) a0 a1 H h
def DB:pj:=()
def f41:AV→AV→AH→KF→Prop:=afT DB
theorem vZ:aE gPa 41 (aD [.a,.a] f41):=ahl DB ad.nil
abbrev uI:Type:=(AV→AV→AH→KF→Prop)
def aju(R:uI):List (Nat×eM):=[(41,aD [.a,.a] R)]
abbrev afU(R:uI):Prop:=ad gPa (aju R)
def DC(R:uI)(K:KF)(a0:AV)(H:AH):Prop:=aI a0 (ag 2 a0 λv1=>af v1 H λv2=>cI 0 v2 λz3=>bI (!(cA z3 (.ofNat 0))) (K (.ret (.bool true)) H) (aI a0 (ag 0 a0 λv4=>af v4 H λv5=>aI a0 (ag 1 a0 λv6=>af v6 H λv7=>cI 0 v7 λz8=>cn 4 v5 (.int 0 z8) λv9=>ag 0 v9 λv10=>af v10 H λv11=>cI 0 v11 λz12=>bI (cA z12 (.ofNat 0)) (K (.ret (.bool true)) H) (R a0 (.str 3 6581861) H λrG fw=>cR K rG fw λv15=>cH v15 λrH=>bI rH (K (.ret (.bool true)) fw) (R a0 (.str 4 1702063205) fw λo17 ju=>cR K o17 ju λv19=>cH v19 λz20=>bI z20 (K (.ret (.bool true)) ju) (R a0 (.str 6 112602859662437) ju λMv lK=>cR K Mv lK λv23=>cH v23 λz24=>bI z24 (K (.ret (.bool true)) lK) (R a0 (.str 5 465625706101) lK λo25 Mw=>cR K o25 Mw λv27=>cH v27 λz28=>K (.ret (.bool z28)) Mw))))))))
theorem VI{R:uI}(hR:afU R){K:KF}(a0:AV)(H:AH)(h:DC R K a0 H):fN 38 K [] (bL (ff 38) [a0]) [] H:=pk hR .nil h
def ajv(R:uI)(K:KF):Ta:=DC R K
def afV(R:uI):AV→AH→KF→Prop:=λa0 H K=>ajv R K a0 H
theorem ahm(R:uI)(hR:afU R):aE gPa 38 (aD [.a] (afV R)):=rk λK a0 H h=>VI hR a0 H h
def DD:uI:=(f41)
def f38:AV→AH→KF→Prop:=afV DD
theorem ajw:aE gPa 38 (aD [.a] f38):=ahm DD (ad.cons vZ ad.nil)
abbrev uJ:Type:=Unit
def ajx(R:uJ):List (Nat×eM):=[]
abbrev afW(R:uJ):Prop:=ad gPa (ajx R)
def DE(R:uJ)(K:KF)(a0:AV)(H:AH):Prop:=aI a0 (ag 0 a0 λv1=>af v1 H λv2=>aI a0 (ag 1 a0 λv3=>af v3 H λv4=>cI 0 v4 λz5=>cn 4 v2 (.int 0 z5) λv6=>ag 3 v6 λv7=>af v7 H λv8=>cI 0 v8 λz9=>K (.ret (.int 0 z9)) H))
theorem VJ{R:uJ}(hR:afW R){K:KF}(a0:AV)(H:AH)(h:DE R K a0 H):fN 39 K [] (bL (ff 39) [a0]) [] H:=pk hR .nil h
def ajy(R:uJ)(K:KF):Ta:=DE R K
def afX(R:uJ):AV→AH→KF→Prop:=λa0 H K=>ajy R K a0 H
theorem ahn(R:uJ)(hR:afW R):aE gPa 39 (aD [.a] (afX R)):=rk λK a0 H h=>VJ hR a0 H h
def Mx:uJ:=()
def f39:AV→AH→KF→Prop:=afX Mx
theorem rI:aE gPa 39 (aD [.a] f39):=ahn Mx ad.nil
abbrev uK:Type:=(AV→AV→AH→KF→Prop)
def ajz(R:uK):List (Nat×eM):=[(41,aD [.a,.a] R)]
abbrev afY(R:uK):Prop:=ad gPa (ajz R)
def DF(R:uK)(K:KF)(a0 a1:AV)(H:AH):Prop:=R a0 a1 H λo1 H2=>cR K o1 H2 λv3=>cH v3 λz4=>bI z4 (aI a0 (ag 1 a0 λv5=>af v5 H2 λv6=>cI 0 v6 λz7=>aN 0 (Int.add z7 (.ofNat 1)) λz8=>aI a0 (ag 1 a0 λv9=>ak 1 v9 (.int 0 z8) H2 λdD=>K (.ret (.bool true)) dD))) (K (.ret (.bool false)) H2)
theorem VK{R:uK}(hR:afY R){K:KF}(a0 a1:AV)(H:AH)(h:DF R K a0 a1 H):fN 40 K [] (bL (ff 40) [a0,a1]) [] H:=pk hR .nil h
def ajA(R:uK)(K:KF):gi:=DF R K
def afZ(R:uK):AV→AV→AH→KF→Prop:=λa0 a1 H K=>ajA R K a0 a1 H
theorem aho(R:uK)(hR:afY R):aE gPa 40 (aD [.a,.a] (afZ R)):=rk λK a0 a1 H h=>VK hR a0 a1 H h
def DG:uK:=(f41)
def f40:AV→AV→AH→KF→Prop:=afZ DG
theorem qf:aE gPa 40 (aD [.a,.a] f40):=aho DG (ad.cons vZ ad.nil)
abbrev ly:Type:=(AV→Int→AH→KF→Prop)
def ajB(R:ly):List (Nat×eM):=[(18,aD [.a,.i 0] R)]
abbrev Av(R:ly):Prop:=ad gPa (ajB R)
abbrev My(K:KF)(F:Ta):Prop:=ba 57 K [1,1] 48 [0] [.a] F
abbrev Mz(K:KF)(F:Ta):Prop:=ba 57 K [1,1,1,1] 48 [0] [.a] F
def zq(R:ly)(K:KF)(a0:AV)(H:AH):Prop:=aI a0 (ag 0 a0 λv1=>af v1 H λv2=>aI a0 (ag 1 a0 λv3=>af v3 H λv4=>cI 0 v4 λz5=>aN 0 (Int.sub z5 (.ofNat 1)) λz6=>cn 4 v2 (.int 0 z6) λv7=>ag 1 v7 λv8=>af v8 H λv9=>K (.ret v9) H))
theorem VM{R:ly}(hR:Av R){K:KF}:Mz K (zq R K):=λa0 H h=>pk hR .nil h
def VN(R:ly)(K:KF):Ta:=zq R K
theorem VO{R:ly}(hR:Av R){K:KF}:Mz K (VN R K):=VM hR
def wa(R:ly)(K:KF)(x2:Ta)(a0:AV)(H:AH):Prop:=aI a0 (ag 2 a0 λv1=>af v1 H λv2=>cI 0 v2 λz3=>bI (!(cA z3 (.ofNat 0))) (K (.ret (.str 0 0)) H) (aI a0 (ag 1 a0 λv4=>af v4 H λv5=>cI 0 v5 λz6=>aN 0 (Int.add z6 (.ofNat 1)) λz7=>aI a0 (ag 1 a0 λv8=>ak 1 v8 (.int 0 z7) H λH9=>x2 a0 H9))))
theorem VP{R:ly}(hR:Av R){K:KF}{x2:Ta}(h2:Mz K x2):My K (wa R K x2):=λa0 H h=>pk hR (cc h2 .nil) h
def VQ(R:ly)(K:KF):Ta:=wa R K (VN R K)
theorem VS{R:ly}(hR:Av R){K:KF}:My K (VQ R K):=VP hR (VO hR)
def DH(R:ly)(K:KF)(x1:Ta)(a0:AV)(H:AH):Prop:=aI a0 (ag 2 a0 λv1=>af v1 H λv2=>cI 0 v2 λz3=>bI (cA z3 (.ofNat 0)) (aI a0 (ag 0 a0 λv4=>af v4 H λv5=>aI a0 (ag 1 a0 λv6=>af v6 H λv7=>cI 0 v7 λz8=>cn 4 v5 (.int 0 z8) λv9=>ag 0 v9 λv10=>af v10 H λv11=>cI 0 v11 λz12=>bI (!(cA z12 (.ofNat 2))) (R a0 (.ofNat 14) H λrG fw=>cR K rG fw λv15=>x1 a0 fw) (x1 a0 H)))) (x1 a0 H))
theorem VT{R:ly}(hR:Av R){K:KF}{x1:Ta}(h1:My K x1)(a0:AV)(H:AH)(h:DH R K x1 a0 H):fN 57 K [] (bL (ff 57) [a0]) [] H:=pk hR (cc h1 .nil) h
def ajC(R:ly)(K:KF):Ta:=DH R K (VQ R K)
def af0(R:ly):AV→AH→KF→Prop:=λa0 H K=>ajC R K a0 H
theorem ahp(R:ly)(hR:Av R):aE gPa 57 (aD [.a] (af0 R)):=rk λK a0 H h=>VT hR (VS hR) a0 H h
def rJ:ly:=(f18)
def f57:AV→AH→KF→Prop:=af0 rJ
theorem DI:aE gPa 57 (aD [.a] f57):=ahp rJ (ad.cons rF ad.nil)
abbrev uL:Type:=(AV→Int→AH→KF→Prop)×(AV→AV→AH→KF→Prop)
def ajD(R:uL):List (Nat×eM):=[(18,aD [.a,.i 0] R.1),(40,aD [.a,.a] R.2)]
abbrev af1(R:uL):Prop:=ad gPa (ajD R)
def DJ(R:uL)(K:KF)(a0 a1:AV)(H:AH):Prop:=R.2 a0 a1 H λo1 H2=>cR K o1 H2 λv3=>cH v3 λz4=>bI (!z4) (R.1 a0 (.ofNat 14) H2 λo5 H6=>cR K o5 H6 λv7=>K (.ret (.bF [])) H6) (K (.ret (.bF [])) H2)
theorem VU{R:uL}(hR:af1 R){K:KF}(a0 a1:AV)(H:AH)(h:DJ R K a0 a1 H):fN 59 K [] (bL (ff 59) [a0,a1]) [] H:=pk hR .nil h
def ajE(R:uL)(K:KF):gi:=DJ R K
def af2(R:uL):AV→AV→AH→KF→Prop:=λa0 a1 H K=>ajE R K a0 a1 H
theorem ahq(R:uL)(hR:af1 R):aE gPa 59 (aD [.a,.a] (af2 R)):=rk λK a0 a1 H h=>VU hR a0 a1 H h
def zr:uL:=(f18,f40)
def f59:AV→AV→AH→KF→Prop:=af2 zr
theorem zt:aE gPa 59 (aD [.a,.a] f59):=ahq zr (ad.cons rF (ad.cons qf ad.nil))
abbrev uM:Type:=(AV→Int→AH→KF→Prop)
def ajF(R:uM):List (Nat×eM):=[(18,aD [.a,.i 0] R)]
abbrev af3(R:uM):Prop:=ad gPa (ajF R)
def DK(R:uM)(K:KF)(a0:AV)(a1 a2:Int)(H:AH):Prop:=bI (!(df a1 a2)) (R a0 (.ofNat 8) H λo1 H2=>cR K o1 H2 λv3=>K (.ret (.bF [])) H2) (K (.ret (.bF [])) H)
theorem VV{R:uM}(hR:af3 R){K:KF}(a0:AV)(a1 a2:Int)(H:AH)(h:DK R K a0 a1 a2 H):fN 76 K [] (bL (ff 76) [a0,(.int 0 a1),(.int 0 a2)]) [] H:=pk hR .nil h
def ajG(R:uM)(K:KF):j2:=DK R K
def af4(R:uM):AV→Int→Int→AH→KF→Prop:=λa0 a1 a2 H K=>ajG R K a0 a1 a2 H
theorem ahr(R:uM)(hR:af3 R):aE gPa 76 (aD [.a,.i 0,.i 0] (af4 R)):=rk λK a0 a1 a2 H h=>VV hR a0 a1 a2 H h
def DL:uM:=(f18)
def f76:AV→Int→Int→AH→KF→Prop:=af4 DL
theorem MA:aE gPa 76 (aD [.a,.i 0,.i 0] f76):=ahr DL (ad.cons rF ad.nil)
abbrev eQ:Type:=(AV→Int→AH→KF→Prop)×(AV→Int→AH→KF→Prop)×(AV→AH→KF→Prop)×(AV→AH→KF→Prop)×(AV→AV→AH→KF→Prop)×(AV→AV→AH→KF→Prop)×(AV→Int→AH→KF→Prop)×(AV→AV→Int→AH→KF→Prop)
def ajH(R:eQ):List (Nat×eM):=[(18,aD [.a,.i 0] R.1),(37,aD [.a,.i 0] R.2.1),(38,aD [.a] R.2.2.1),(39,aD [.a] R.2.2.2.1),(40,aD [.a,.a] R.2.2.2.2.1),(41,aD [.a,.a] R.2.2.2.2.2.1),(42,aD [.a,.i 0] R.2.2.2.2.2.2.1),(43,aD [.a,.a,.i 0] R.2.2.2.2.2.2.2)]
abbrev mr(R:eQ):Prop:=ad gPa (ajH R)
abbrev MB(K:KF)(F:Ta):Prop:=ba 17 K [1,1,1,1,1] 55 [5] [.a] F
abbrev rK(K:KF)(F:kB):Prop:=ba 17 K [0,0,1,1,1,1] 55 [0,1,5] [.a,.i 0,.a] F
abbrev MC(K:KF)(F:kB):Prop:=ba 17 K [1,1,1,1,0,1,0,0,0,1,1,1,1] 55 [0,1,5] [.a,.i 0,.a] F
abbrev DM(K:KF)(F:oK):Prop:=ba 17 K [1,1,0,1,0,1,0,1,0,0,0,1,1,1,1] 55 [0,5,6] [.a,.a,.a] F
abbrev MD(K:KF)(F:cq):Prop:=ba 17 K [0,1,0,1,0,1,0,1,0,1,0,0,0,1,1,1,1] 55 [0,1,5,6] [.a,.i 0,.a,.a] F
abbrev ME(K:KF)(F:gi):Prop:=ba 17 K [1,1,1,1,0,1,0,1,0,1,0,0,0,1,1,1,1] 55 [5,6] [.a,.a] F
def DN(R:eQ)(K:KF)(a5 a6:AV)(H:AH):Prop:=aZ 5 a6 H λv1=>onVal v1 λl2=>gv l2 5 (aX (ay H) 1 5 (spl l2 [(.int 0 (.ofNat 0)),(.int 0 (.ofNat 0)),.ab,.ab,.ab] 0) λv3 H4=>dw 5 88 a5 v3 H4 λv5 H6=>K (.ret v5) H6)
theorem VW{R:eQ}(hR:mr R){K:KF}:ME K (DN R K):=λa5 a6 H h=>pk hR .nil h
def wc(R:eQ)(K:KF):gi:=DN R K
theorem VX{R:eQ}(hR:mr R){K:KF}:ME K (wc R K):=VW hR
def DO(R:eQ)(K:KF)(x6:gi)(a0 a5 a6:AV)(H:AH):Prop:=R.2.2.2.2.1 a0 (.str 1 59) H λo1 H2=>cR K o1 H2 λv3=>cH v3 λz4=>R.2.2.1 a0 H2 λo5 H6=>cR K o5 H6 λv7=>cH v7 λz8=>bI (!z8) (R.1 a0 (.ofNat 14) H6 λo9 dD=>cR K o9 dD λv11=>x6 a5 a6 dD) (x6 a5 a6 H6)
theorem VY{R:eQ}(hR:mr R){K:KF}{x6:gi}(h6:ME K x6):DM K (DO R K x6):=λa0 a5 a6 H h=>pk hR (cc h6 .nil) h
def rM(R:eQ)(K:KF):oK:=DO R K (wc R K)
theorem JA{R:eQ}(hR:mr R){K:KF}:DM K (rM R K):=VY hR (VX hR)
def DQ(R:eQ)(K:KF)(x4:oK)(a0:AV)(a1:Int)(a5 a6:AV)(H:AH):Prop:=R.2.2.2.2.2.2.1 a0 a1 H λo1 H2=>cR K o1 H2 λv3=>onVal v3 λl4=>gv l4 7 (aX (ay H2) 1 7 (spl l4 [(.int 0 (.ofNat 0)),(.int 0 (.ofNat 0)),(.int 0 (.ofNat 0)),(.str 0 0),(.int 0 (.ofNat 0)),.ab,.ab] 0) λv5 H6=>ag 3 a6 λv7=>ak 1 v7 v5 H6 λH8=>x4 a0 a5 a6 H8)
theorem VZ{R:eQ}(hR:mr R){K:KF}{x4:oK}(h4:DM K x4):MD K (DQ R K x4):=λa0 a1 a5 a6 H h=>pk hR (cc h4 .nil) h
def DS(R:eQ)(K:KF):cq:=DQ R K (rM R K)
theorem V0{R:eQ}(hR:mr R){K:KF}:MD K (DS R K):=VZ hR (JA hR)
def DU(R:eQ)(K:KF)(x2:kB)(a0:AV)(a1:Int)(a5:AV)(H:AH):Prop:=R.2.2.2.2.1 a0 (.str 1 59) H λo1 H2=>cR K o1 H2 λv3=>cH v3 λz4=>x2 a0 a1 a5 H2
theorem V4{R:eQ}(hR:mr R){K:KF}{x2:kB}(h2:rK K x2):MC K (DU R K x2):=λa0 a1 a5 H h=>pk hR (cc h2 .nil) h
def DV(R:eQ)(K:KF)(i2:kB):kB:=DU R K i2
theorem V5{R:eQ}(hR:mr R){K:KF}{i2:kB}(g2:rK K i2):MC K (DV R K i2):=V4 hR g2
def we(R:eQ)(K:KF)(a5:AV)(H:AH):Prop:=K (.ret a5) H
theorem V6{R:eQ}(hR:mr R){K:KF}:MB K (we R K):=λa5 H h=>pk hR .nil h
def DW(R:eQ)(K:KF):Ta:=we R K
theorem V7{R:eQ}(hR:mr R){K:KF}:MB K (DW R K):=V6 hR
def wg(R:eQ)(K:KF)(x5:cq)(x4:oK)(x3:kB)(x1:Ta)(a0:AV)(a1:Int)(a5:AV)(H:AH):Prop:=R.2.2.1 a0 H λo1 H2=>cR K o1 H2 λv3=>cH v3 λz4=>bI (!z4) (R.2.2.2.1 a0 H2 λo5 H6=>cR K o5 H6 λv7=>cI 0 v7 λz8=>fW H6 (lA (ay H6) [(.int 0 (.ofNat 0)),(.int 0 (.ofNat 0)),.ab,.ab,.ab] λv9 dD=>ak 5 v9 (.agg [(.int 0 (.ofNat 0)),(.int 0 z8),.ab,.ab,.ab]) dD λmF=>R.2.2.2.2.1 a0 (.str 6 121437875889522) mF λMF ln=>cR K MF ln λv14=>cH v14 λzu=>bI zu (ag 0 v9 λv16=>ak 1 v16 (.int 0 (.ofNat 10)) ln λoU=>R.2.2.1 a0 oU λMG oI=>cR K MG oI λv20=>cH v20 λz21=>bI (!z21) (R.2.2.2.2.2.1 a0 (.str 1 59) oI λo22 yo=>cR K o22 yo λv24=>cH v24 λz25=>bI (!z25) (x5 a0 a1 a5 v9 yo) (x4 a0 a5 v9 yo)) (x4 a0 a5 v9 oI)) (R.2.2.2.2.2.2.2 a0 v9 a1 ln λo26 zw=>cR K o26 zw λv28=>aZ 5 v9 zw λv29=>onVal v29 λl30=>gv l30 5 (aX (ay zw) 1 5 (spl l30 [(.int 0 (.ofNat 0)),(.int 0 (.ofNat 0)),.ab,.ab,.ab] 0) λv31 H32=>dw 5 88 a5 v31 H32 λv33 H34=>x3 a0 a1 v33 H34)))) (x1 a5 H2)
theorem V8{R:eQ}(hR:mr R){K:KF}{x5:cq}{x4:oK}{x3:kB}{x1:Ta}(h5:MD K x5)(h4:DM K x4)(h3:MC K x3)(h1:MB K x1):rK K (wg R K x5 x4 x3 x1):=λa0 a1 a5 H h=>pk hR (cc h5 (cc h4 (cc h3 (cc h1 .nil)))) h
def DX(R:eQ)(K:KF)(i2:kB):kB:=wg R K (DS R K) (rM R K) (DV R K i2) (DW R K)
theorem V9{R:eQ}(hR:mr R){K:KF}{i2:kB}(g2:rK K i2):rK K (DX R K i2):=V8 hR (V0 hR) (JA hR) (V5 hR g2) (V7 hR)
def tF(R:eQ)(K:KF)(n:Nat):kB:=Nat.rec (motive:=λ_=>kB) (λ_ _ _ _=>False) (λ_ i=>DX R K i) n
theorem Wa{R:eQ}(hR:mr R){K:KF}(n:Nat):rK K (tF R K n):=Nat.rec (motive:=λn=>rK K (tF R K n)) (λa0 a1 a5 H h=>h.elim) (λn ih=>V9 hR ih) n
def MH(R:eQ)(K:KF)(x2:kB)(a0:AV)(a1:Int)(H:AH):Prop:=aN 0 (Int.add a1 (.ofNat 1)) λz1=>R.2.1 a0 z1 H λo2 H3=>cR K o2 H3 λv4=>x2 a0 z1 .ab H3
theorem Wb{R:eQ}(hR:mr R){K:KF}{x2:kB}(h2:rK K x2)(a0:AV)(a1:Int)(H:AH)(h:MH R K x2 a0 a1 H):fN 17 K [] (bL (ff 17) [a0,(.int 0 a1)]) [] H:=pk hR (cc h2 .nil) h
def Wc(R:eQ)(K:KF):dP:=MH R K (tF R K NL)
def DY(R:eQ):AV→Int→AH→KF→Prop:=λa0 a1 H K=>Wc R K a0 a1 H
theorem ahs(R:eQ)(hR:mr R):aE gPa 17 (aD [.a,.i 0] (DY R)):=rk λK a0 a1 H h=>Wb hR (Wa hR NL) a0 a1 H h
abbrev uN:Type:=(AV→Int→AH→KF→Prop)×(AV→Int→Int→AH→KF→Prop)
def ajI(R:uN):List (Nat×eM):=[(37,aD [.a,.i 0] R.1),(56,aD [.a,.i 0,.i 0] R.2)]
abbrev af5(R:uN):Prop:=ad gPa (ajI R)
def DZ(R:uN)(K:KF)(a0:AV)(a1:Int)(H:AH):Prop:=fW H (fl gPa (ay H) 41 λv1 H2=>aN 0 (Int.add a1 (.ofNat 1)) λz3=>R.1 a0 z3 H2 λo4 H5=>cR K o4 H5 λv6=>R.2 a0 (.ofNat 0) z3 H5 λo7 H8=>cR K o7 H8 λv9=>ak 7 v1 v9 H8 λdD=>aZ 7 v1 dD λv11=>K (.ret v11) dD)
theorem Wd{R:uN}(hR:af5 R){K:KF}(a0:AV)(a1:Int)(H:AH)(h:DZ R K a0 a1 H):fN 42 K [] (bL (ff 42) [a0,(.int 0 a1)]) [] H:=pk hR .nil h
def ajJ(R:uN)(K:KF):dP:=DZ R K
def Tk(R:uN):AV→Int→AH→KF→Prop:=λa0 a1 H K=>ajJ R K a0 a1 H
theorem aht(R:uN)(hR:af5 R):aE gPa 42 (aD [.a,.i 0] (Tk R)):=rk λK a0 a1 H h=>Wd hR a0 a1 H h
abbrev bB:Type:=(AV→Int→AH→KF→Prop)×(AV→Int→AH→KF→Prop)×(AV→AH→KF→Prop)×(AV→AV→AH→KF→Prop)×(AV→AV→AH→KF→Prop)×(AV→Int→AH→KF→Prop)×(AV→AH→KF→Prop)×(AV→Int→AH→KF→Prop)×(AV→AV→AH→KF→Prop)×(AV→AV→Int→AH→KF→Prop)
def ajK(R:bB):List (Nat×eM):=[(17,aD [.a,.i 0] R.1),(18,aD [.a,.i 0] R.2.1),(39,aD [.a] R.2.2.1),(40,aD [.a,.a] R.2.2.2.1),(41,aD [.a,.a] R.2.2.2.2.1),(42,aD [.a,.i 0] R.2.2.2.2.2.1),(57,aD [.a] R.2.2.2.2.2.2.1),(58,aD [.a,.i 0] R.2.2.2.2.2.2.2.1),(59,aD [.a,.a] R.2.2.2.2.2.2.2.2.1),(60,aD [.a,.a,.i 0] R.2.2.2.2.2.2.2.2.2)]
abbrev eF(R:bB):Prop:=ad gPa (ajK R)
abbrev MI(K:KF)(F:aA):Prop:=ba 43 K [1,1,0,1,0] 302 [0,1,2] [.a,.a,.i 0] F
abbrev MJ(K:KF)(F:aA):Prop:=ba 43 K [1,1,0,1,1,1,0] 302 [0,1,2] [.a,.a,.i 0] F
abbrev qg(K:KF)(F:aA):Prop:=ba 43 K [0,0,1,0,1,1,1,0] 302 [0,1,2] [.a,.a,.i 0] F
abbrev MK(K:KF)(F:aA):Prop:=ba 43 K [1,0,1,1,1,1,1,0] 302 [0,1,2] [.a,.a,.i 0] F
abbrev ML(K:KF)(F:Ta):Prop:=ba 43 K [1,1,1,0,1,1,1,0] 302 [0] [.a] F
abbrev MM(K:KF)(F:aA):Prop:=ba 43 K [1,0,0,0,0,1,0,1,1,1,0] 302 [0,1,2] [.a,.a,.i 0] F
abbrev MN(K:KF)(F:aA):Prop:=ba 43 K [1,1,0,1,1,1,1,1,1,1,0] 302 [0,1,2] [.a,.a,.i 0] F
abbrev MO(K:KF)(F:aA):Prop:=ba 43 K [1,0,1,1,1,1,1,1,1,1,1,0] 302 [0,1,2] [.a,.a,.i 0] F
abbrev MP(K:KF)(F:aA):Prop:=ba 43 K [1,1,1,0,0,0,0,1,0,1,1,1,0] 302 [0,1,2] [.a,.a,.i 0] F
abbrev Aw(K:KF)(F:aA):Prop:=ba 43 K [1,1,1,0,1,1,1,1,1,1,1,1,1,0] 302 [0,1,2] [.a,.a,.i 0] F
abbrev Im(K:KF)(F:aA):Prop:=ba 43 K [1,0,1,1,1,1,1,1,1,1,1,1,1,1,1,0] 302 [0,1,2] [.a,.a,.i 0] F
abbrev Io(K:KF)(F:jt):Prop:=ba 43 K [1,1,1,1,1,1,1,1,1,1,1,1,1,1,1,1,0] 302 [0,1,2,8] [.a,.a,.i 0,.a] F
abbrev Ip(K:KF)(F:aA):Prop:=ba 43 K [1,1,0,1,0,1,1,0,1,1,1,1,1,1,1,1,1,0] 302 [0,1,2] [.a,.a,.i 0] F
abbrev Iq(K:KF)(F:aA):Prop:=ba 43 K [1,1,1,1,0,1,1,0,1,1,1,1,1,1,1,1,1,0] 302 [0,1,2] [.a,.a,.i 0] F
abbrev Ir(K:KF)(F:jt):Prop:=ba 43 K [1,1,1,1,1,1,1,1,1,1,1,1,1,1,1,1,1,1,0] 302 [0,1,2,8] [.a,.a,.i 0,.a] F
abbrev Is(K:KF)(F:gi):Prop:=ba 43 K [0,1,0,1,1,1,1,1,1,1,1,1,1,1,1,1,1,1,1,0] 302 [1,8] [.a,.a] F
abbrev It(K:KF)(F:aA):Prop:=ba 43 K [1,1,1,1,1,1,0,1,1,0,1,1,1,1,1,1,1,1,1,0] 302 [0,1,2] [.a,.a,.i 0] F
def wh(R:bB)(K:KF)(a0:AV)(H:AH):Prop:=R.2.2.2.2.2.2.2.2.1 a0 (.str 3 6581861) H λo1 H2=>cR K o1 H2 λv3=>K (.ret (.bF [])) H2
theorem We{R:bB}(hR:eF R){K:KF}:ML K (wh R K):=λa0 H h=>pk hR .nil h
def MQ(R:bB)(K:KF):Ta:=wh R K
theorem Wf{R:bB}(hR:eF R){K:KF}:ML K (MQ R K):=We hR
def D0(R:bB)(K:KF)(x5:Ta)(a0 a1:AV)(a2:Int)(H:AH):Prop:=R.2.2.2.1 a0 (.str 4 1702063205) H λo1 H2=>cR K o1 H2 λv3=>cH v3 λz4=>bI z4 (aI a1 (ag 4 a1 λv5=>af v5 H2 λv6=>R.1 a0 a2 H2 λo7 H8=>cR K o7 H8 λv9=>af v5 H8 λv10=>bT (bw v10 v6) (dx H8 (one v9 (aX (ay H8) 1 1 [v9] λv11 bS=>bT (Nat.beq bS.n (Nat.succ H8.n)) (dw 1 24 v6 v11 bS λv13 fw=>aI a1 (ag 4 a1 λv15=>ak 1 v15 v13 fw λfy=>x5 a0 fy))))))) (x5 a0 H2)
theorem Wg{R:bB}(hR:eF R){K:KF}{x5:Ta}(h5:ML K x5):MJ K (D0 R K x5):=λa0 a1 a2 H h=>pk hR (cc h5 .nil) h
def D1(R:bB)(K:KF):aA:=D0 R K (MQ R K)
theorem Wh{R:bB}(hR:eF R){K:KF}:MJ K (D1 R K):=Wg hR (Wf hR)
def D2(R:bB)(K:KF)(x3 x2:aA)(a0 a1:AV)(a2:Int)(H:AH):Prop:=R.2.2.2.1 a0 (.str 6 112602859662437) H λo1 H2=>cR K o1 H2 λv3=>cH v3 λz4=>bI (!z4) (x2 a0 a1 a2 H2) (x3 a0 a1 a2 H2)
theorem Wi{R:bB}(hR:eF R){K:KF}{x3 x2:aA}(h3:qg K x3)(h2:MJ K x2):MP K (D2 R K x3 x2):=λa0 a1 a2 H h=>pk hR (cc h3 (cc h2 .nil)) h
def MS(R:bB)(K:KF)(i3:aA):aA:=D2 R K i3 (D1 R K)
theorem Wj{R:bB}(hR:eF R){K:KF}{i3:aA}(g3:qg K i3):MP K (MS R K i3):=Wi hR g3 (Wh hR)
def D3(R:bB)(K:KF)(x9:aA)(a0 a1:AV)(a2:Int)(H:AH):Prop:=R.2.2.2.2.2.2.2.2.1 a0 (.str 4 1852139636) H λo1 H2=>cR K o1 H2 λv3=>aI a1 (ag 4 a1 λv4=>af v4 H2 λv5=>R.1 a0 a2 H2 λo6 H7=>cR K o6 H7 λv8=>af v4 H7 λv9=>bT (bw v9 v5) (dx H7 (one v8 (aX (ay H7) 1 1 [v8] λv10 mF=>bT (Nat.beq mF.n (Nat.succ H7.n)) (dw 1 24 v5 v10 mF λv12 ln=>aI a1 (ag 4 a1 λv14=>ak 1 v14 v12 ln λiG=>x9 a0 a1 a2 iG))))))
theorem Wk{R:bB}(hR:eF R){K:KF}{x9:aA}(h9:MP K x9):MM K (D3 R K x9):=λa0 a1 a2 H h=>pk hR (cc h9 .nil) h
def MT(R:bB)(K:KF)(i3:aA):aA:=D3 R K (MS R K i3)
theorem Wm{R:bB}(hR:eF R){K:KF}{i3:aA}(g3:qg K i3):MM K (MT R K i3):=Wk hR (Wj hR g3)
def D4(R:bB)(K:KF)(x6:aA)(a0 a1:AV)(a2:Int)(H:AH):Prop:=aI a1 (ag 3 a1 λv1=>af v1 H λv2=>eP v2 λv3=>cI 0 v3 λz4=>dx H (aX (ay H) 1 7 [(.int 0 (.ofNat 0)),(.int 0 (.ofNat 0)),(.int 0 (.ofNat 0)),(.str 0 0),(.int 0 (.ofNat 0)),.ab,.ab] λv5 H6=>bT (Nat.beq H6.n (Nat.succ H.n)) (R.2.2.2.2.2.1 a0 a2 H6 λo7 H8=>cR K o7 H8 λv9=>af v1 H8 λv10=>bT (bw v10 v2) (dw 7 96 v2 v5 H8 λv11 bS=>cn 7 v11 (.int 0 z4) λv13=>aI a1 (ag 3 a1 λv14=>ak 7 v13 v9 bS λiG=>ak 1 v14 v11 iG λfy=>ak 1 v14 v11 bS λoU=>ak 7 v13 v9 oU λju=>vN 7 1 v13 v14 (x6 a0 a1 a2 fy))))))
theorem Wn{R:bB}(hR:eF R){K:KF}{x6:aA}(h6:MM K x6):qg K (D4 R K x6):=λa0 a1 a2 H h=>pk hR (cc h6 .nil) h
def Wo(R:bB)(K:KF)(i3:aA):aA:=D4 R K (MT R K i3)
theorem Wp{R:bB}(hR:eF R){K:KF}{i3:aA}(g3:qg K i3):qg K (Wo R K i3):=Wn hR (Wm hR g3)
def tG(R:bB)(K:KF)(n:Nat):aA:=Nat.rec (motive:=λ_=>aA) (λ_ _ _ _=>False) (λ_ i=>Wo R K i) n
theorem Wq{R:bB}(hR:eF R){K:KF}(n:Nat):qg K (tG R K n):=Nat.rec (motive:=λn=>qg K (tG R K n)) (λa0 a1 a2 H h=>h.elim) (λn ih=>Wp hR ih) n
def D5(R:bB)(K:KF)(a0 a1:AV)(a2:Int)(H:AH):Prop:=R.2.2.2.2.2.2.2.2.1 a0 (.str 2 28516) H λo1 H2=>cR K o1 H2 λv3=>R.1 a0 a2 H2 λo4 H5=>cR K o4 H5 λv6=>one v6 (aX (ay H5) 1 1 [v6] λv7 H8=>aI a1 (ag 4 a1 λv9=>ak 1 v9 v7 H8 λdD=>R.2.2.2.2.2.2.2.2.1 a0 (.str 3 6581861) dD λmG bS=>cR K mG bS λv13=>K (.ret (.bF [])) bS))
theorem Wr{R:bB}(hR:eF R){K:KF}:MK K (D5 R K):=λa0 a1 a2 H h=>pk hR .nil h
def MU(R:bB)(K:KF):aA:=D5 R K
theorem Ws{R:bB}(hR:eF R){K:KF}:MK K (MU R K):=Wr hR
def Ax(R:bB)(K:KF)(a0 a1:AV)(a2:Int)(H:AH):Prop:=R.2.2.2.2.2.2.2.2.1 a0 (.str 2 28516) H λo1 H2=>cR K o1 H2 λv3=>R.1 a0 a2 H2 λo4 H5=>cR K o4 H5 λv6=>one v6 (aX (ay H5) 1 1 [v6] λv7 H8=>aI a1 (ag 4 a1 λv9=>ak 1 v9 v7 H8 λdD=>R.2.2.2.2.2.2.2.2.1 a0 (.str 3 6581861) dD λmG bS=>cR K mG bS λv13=>K (.ret (.bF [])) bS))
theorem Tl{R:bB}(hR:eF R){K:KF}:Aw K (Ax R K):=λa0 a1 a2 H h=>pk hR .nil h
def sZ(R:bB)(K:KF):aA:=Ax R K
theorem D6{R:bB}(hR:eF R){K:KF}:Aw K (sZ R K):=Tl hR
def Ay(R:bB)(K:KF)(x10:aA)(a0 a1:AV)(a2:Int)(H:AH):Prop:=R.2.2.2.2.2.2.2.2.1 a0 (.str 2 28265) H λo1 H2=>cR K o1 H2 λv3=>R.2.2.2.2.2.1 a0 a2 H2 λo4 H5=>cR K o4 H5 λv6=>onVal v6 λl7=>gv l7 7 (aX (ay H5) 1 7 (spl l7 [(.int 0 (.ofNat 0)),(.int 0 (.ofNat 0)),(.int 0 (.ofNat 0)),(.str 0 0),(.int 0 (.ofNat 0)),.ab,.ab] 0) λv8 H9=>aI a1 (ag 3 a1 λv10=>ak 1 v10 v8 H9 λmF=>x10 a0 a1 a2 mF))
theorem Tm{R:bB}(hR:eF R){K:KF}{x10:aA}(h10:Aw K x10):Ip K (Ay R K x10):=λa0 a1 a2 H h=>pk hR (cc h10 .nil) h
def Iu(R:bB)(K:KF):aA:=Ay R K (sZ R K)
theorem Tn{R:bB}(hR:eF R){K:KF}:Ip K (Iu R K):=Tm hR (D6 hR)
def Az(R:bB)(K:KF)(x10:aA)(a0 a1:AV)(a2:Int)(H:AH):Prop:=R.2.2.2.1 a0 (.str 1 44) H λo1 H2=>cR K o1 H2 λv3=>cH v3 λz4=>bI z4 (aI a1 (ag 3 a1 λv5=>af v5 H2 λv6=>eP v6 λv7=>cI 0 v7 λz8=>dx H2 (aX (ay H2) 1 7 [(.int 0 (.ofNat 0)),(.int 0 (.ofNat 0)),(.int 0 (.ofNat 0)),(.str 0 0),(.int 0 (.ofNat 0)),.ab,.ab] λv9 dD=>bT (Nat.beq dD.n (Nat.succ H2.n)) (R.2.2.2.2.2.1 a0 a2 dD λmG bS=>cR K mG bS λv13=>af v5 bS λv14=>bT (bw v14 v6) (dw 7 96 v6 v9 bS λv15 fy=>cn 7 v15 (.int 0 z8) λv17=>aI a1 (ag 3 a1 λv18=>ak 7 v17 v13 fy λoI=>ak 1 v18 v15 oI λnf=>ak 1 v18 v15 fy λiO=>ak 7 v17 v13 iO λlK=>vN 7 1 v17 v18 (x10 a0 a1 a2 nf))))))) (x10 a0 a1 a2 H2)
theorem To{R:bB}(hR:eF R){K:KF}{x10:aA}(h10:Aw K x10):It K (Az R K x10):=λa0 a1 a2 H h=>pk hR (cc h10 .nil) h
def Iv(R:bB)(K:KF):aA:=Az R K (sZ R K)
theorem Tp{R:bB}(hR:eF R){K:KF}:It K (Iv R K):=To hR (D6 hR)
def AA(R:bB)(K:KF)(x17:aA)(a0 a1:AV)(a2:Int)(H:AH):Prop:=R.2.2.2.2.2.2.2.2.1 a0 (.str 1 44) H λo1 H2=>cR K o1 H2 λv3=>aI a1 (ag 3 a1 λv4=>af v4 H2 λv5=>eP v5 λv6=>cI 0 v6 λz7=>dx H2 (aX (ay H2) 1 7 [(.int 0 (.ofNat 0)),(.int 0 (.ofNat 0)),(.int 0 (.ofNat 0)),(.str 0 0),(.int 0 (.ofNat 0)),.ab,.ab] λv8 H9=>bT (Nat.beq H9.n (Nat.succ H2.n)) (R.2.2.2.2.2.1 a0 a2 H9 λWt mF=>cR K Wt mF λv12=>af v4 mF λv13=>bT (bw v13 v5) (dw 7 96 v5 v8 mF λv14 iG=>cn 7 v14 (.int 0 z7) λv16=>aI a1 (ag 3 a1 λv17=>ak 7 v16 v12 iG λju=>ak 1 v17 v14 ju λoI=>ak 1 v17 v14 iG λnf=>ak 7 v16 v12 nf λiO=>vN 7 1 v16 v17 (x17 a0 a1 a2 oI))))))
theorem Tq{R:bB}(hR:eF R){K:KF}{x17:aA}(h17:It K x17):Iq K (AA R K x17):=λa0 a1 a2 H h=>pk hR (cc h17 .nil) h
def Iw(R:bB)(K:KF):aA:=AA R K (Iv R K)
theorem Ts{R:bB}(hR:eF R){K:KF}:Iq K (Iw R K):=Tq hR (Tp hR)
def D7(R:bB)(K:KF)(x13 x14:aA)(a0 a1:AV)(a2:Int)(H:AH):Prop:=aI a1 (ag 0 a1 λv1=>ak 1 v1 (.int 0 (.ofNat 6)) H λH2=>R.2.2.2.1 a0 (.str 1 44) H2 λo3 H4=>cR K o3 H4 λv5=>cH v5 λz6=>bI z6 (aI a1 (ag 0 a1 λv7=>ak 1 v7 (.int 0 (.ofNat 7)) H4 λH8=>aI a1 (ag 2 a1 λv9=>af v9 H8 λv10=>R.2.2.2.2.2.2.1 a0 H8 λmG bS=>cR K mG bS λv13=>af v9 bS λv14=>bT (bw v14 v10) (dx bS (one v13 (aX (ay bS) 1 1 [v13] λv15 fy=>bT (Nat.beq fy.n (Nat.succ bS.n)) (dw 1 16 v10 v15 fy λv17 ju=>aI a1 (ag 2 a1 λv19=>ak 1 v19 v17 ju λnf=>x13 a0 a1 a2 nf)))))))) (R.2.2.2.2.2.2.2.2.1 a0 (.str 1 61) H4 λMv lK=>cR K Mv lK λv23=>R.2.2.2.2.2.1 a0 a2 lK λo24 zx=>cR K o24 zx λv26=>onVal v26 λWu=>gv Wu 7 (aX (ay zx) 1 7 (spl Wu [(.int 0 (.ofNat 0)),(.int 0 (.ofNat 0)),(.int 0 (.ofNat 0)),(.str 0 0),(.int 0 (.ofNat 0)),.ab,.ab] 0) λv28 D8=>aI a1 (ag 3 a1 λv30=>ak 1 v30 v28 D8 λH31=>x14 a0 a1 a2 H31))))
theorem Wv{R:bB}(hR:eF R){K:KF}{x13 x14:aA}(h13:Ip K x13)(h14:Iq K x14):MO K (D7 R K x13 x14):=λa0 a1 a2 H h=>pk hR (cc h13 (cc h14 .nil)) h
def MV(R:bB)(K:KF):aA:=D7 R K (Iu R K) (Iw R K)
theorem Ww{R:bB}(hR:eF R){K:KF}:MO K (MV R K):=Wv hR (Tn hR) (Ts hR)
def AB(R:bB)(K:KF)(a0 a1:AV)(a2:Int)(H:AH):Prop:=R.1 a0 a2 H λo1 H2=>cR K o1 H2 λv3=>one v3 (aX (ay H2) 1 1 [v3] λv4 H5=>aI a1 (ag 4 a1 λv6=>ak 1 v6 v4 H5 λH7=>R.2.2.2.2.2.2.2.2.1 a0 (.str 3 6581861) H7 λo8 H9=>cR K o8 H9 λv10=>K (.ret (.bF [])) H9))
theorem Tt{R:bB}(hR:eF R){K:KF}:Im K (AB R K):=λa0 a1 a2 H h=>pk hR .nil h
def Ix(R:bB)(K:KF):aA:=AB R K
theorem Tu{R:bB}(hR:eF R){K:KF}:Im K (Ix R K):=Tt hR
def D9(R:bB)(K:KF)(a0 a1:AV)(a2:Int)(H:AH):Prop:=R.2.2.2.1 a0 (.str 1 61) H λo1 H2=>cR K o1 H2 λv3=>cH v3 λz4=>bI z4 (R.2.2.2.2.2.1 a0 a2 H2 λo5 H6=>cR K o5 H6 λv7=>onVal v7 λl8=>gv l8 7 (aX (ay H6) 1 7 (spl l8 [(.int 0 (.ofNat 0)),(.int 0 (.ofNat 0)),(.int 0 (.ofNat 0)),(.str 0 0),(.int 0 (.ofNat 0)),.ab,.ab] 0) λv9 dD=>aI a1 (ag 3 a1 λv11=>ak 1 v11 v9 dD λbS=>K (.ret (.bF [])) bS))) (K (.ret (.bF [])) H2)
theorem Wx{R:bB}(hR:eF R){K:KF}:MI K (D9 R K):=λa0 a1 a2 H h=>pk hR .nil h
def MW(R:bB)(K:KF):aA:=D9 R K
theorem Wy{R:bB}(hR:eF R){K:KF}:MI K (MW R K):=Wx hR
def Ea(R:bB)(K:KF)(a0 a1:AV)(a2:Int)(H:AH):Prop:=R.2.2.2.2.2.1 a0 a2 H λo1 H2=>cR K o1 H2 λv3=>onVal v3 λl4=>gv l4 7 (aX (ay H2) 1 7 (spl l4 [(.int 0 (.ofNat 0)),(.int 0 (.ofNat 0)),(.int 0 (.ofNat 0)),(.str 0 0),(.int 0 (.ofNat 0)),.ab,.ab] 0) λv5 H6=>aI a1 (ag 0 a1 λv7=>ak 1 v7 (.int 0 (.ofNat 8)) H6 λH8=>aI a1 (ag 3 a1 λv9=>ak 1 v9 v5 H8 λdD=>K (.ret (.bF [])) dD)))
theorem Wz{R:bB}(hR:eF R){K:KF}:MN K (Ea R K):=λa0 a1 a2 H h=>pk hR .nil h
def MX(R:bB)(K:KF):aA:=Ea R K
theorem WA{R:bB}(hR:eF R){K:KF}:MN K (MX R K):=Wz hR
def AD(R:bB)(K:KF)(a1 a8:AV)(H:AH):Prop:=aZ 7 a8 H λv1=>dx H (onVal v1 λl2=>gv l2 7 (aX (ay H) 1 7 (spl l2 [(.int 0 (.ofNat 0)),(.int 0 (.ofNat 0)),(.int 0 (.ofNat 0)),(.str 0 0),(.int 0 (.ofNat 0)),.ab,.ab] 0) λv3 H4=>bT (Nat.beq H4.n (Nat.succ H.n)) (aI a1 (ag 0 a1 λv5=>ak 1 v5 (.int 0 (.ofNat 3)) H4 λH6=>aZ 7 a8 H6 λv7=>bT (bw v7 v1) (aI a1 (ag 3 a1 λv8=>ak 1 v8 v3 H6 λH9=>K (.ret (.bF [])) H9))))))
theorem Tv{R:bB}(hR:eF R){K:KF}:Is K (AD R K):=λa1 a8 H h=>pk hR .nil h
def AE(R:bB)(K:KF):gi:=AD R K
theorem Tw{R:bB}(hR:eF R){K:KF}:Is K (AE R K):=Tv hR
def AF(R:bB)(K:KF)(a0 a1:AV)(a2:Int)(a8:AV)(H:AH):Prop:=R.2.2.2.2.2.2.2.2.1 a0 (.str 1 61) H λo1 H2=>cR K o1 H2 λv3=>aZ 7 a8 H2 λv4=>R.2.2.2.2.2.1 a0 a2 H2 λo5 H6=>cR K o5 H6 λv7=>aZ 7 a8 H6 λv8=>bT (bw v8 v4) (dx H6 (onVal v4 λl9=>gv l9 7 (onVal v7 λl10=>gv l10 7 (aX (ay H6) 2 7 (spl l10 (spl l9 [(.int 0 (.ofNat 0)),(.int 0 (.ofNat 0)),(.int 0 (.ofNat 0)),(.str 0 0),(.int 0 (.ofNat 0)),.ab,.ab,(.int 0 (.ofNat 0)),(.int 0 (.ofNat 0)),(.int 0 (.ofNat 0)),(.str 0 0),(.int 0 (.ofNat 0)),.ab,.ab] 0) 7) λv11 bS=>bT (Nat.beq bS.n (Nat.succ H6.n)) (aI a1 (ag 0 a1 λv13=>ak 1 v13 (.int 0 (.ofNat 2)) bS λfw=>aZ 7 a8 fw λv15=>bT (bw v15 v4) (aI a1 (ag 3 a1 λv16=>ak 1 v16 v11 fw λoU=>K (.ret (.bF [])) oU))))))))
theorem Tx{R:bB}(hR:eF R){K:KF}:Ir K (AF R K):=λa0 a1 a2 a8 H h=>pk hR .nil h
def AG(R:bB)(K:KF):jt:=AF R K
theorem Tz{R:bB}(hR:eF R){K:KF}:Ir K (AG R K):=Tx hR
def AI(R:bB)(K:KF)(x16:gi)(x15:jt)(a0 a1:AV)(a2:Int)(a8:AV)(H:AH):Prop:=ag 0 a8 λv1=>af v1 H λv2=>cI 0 v2 λz3=>bI (cA z3 (.ofNat 10)) (R.2.2.2.2.1 a0 (.str 1 61) H λo4 H5=>cR K o4 H5 λv6=>cH v6 λz7=>bI (!z7) (x16 a1 a8 H5) (ag 0 a8 λv8=>af v8 H5 λv9=>cI 0 v9 λz10=>bI (cA z10 (.ofNat 10)) (R.2.1 a0 (.ofNat 14) H5 λmG bS=>cR K mG bS λv13=>x15 a0 a1 a2 a8 bS) (x15 a0 a1 a2 a8 H5))) (ag 0 a8 λv14=>af v14 H λv15=>cI 0 v15 λrH=>bI (cA rH (.ofNat 10)) (R.2.1 a0 (.ofNat 14) H λo17 ju=>cR K o17 ju λv19=>x15 a0 a1 a2 a8 ju) (x15 a0 a1 a2 a8 H))
theorem TA{R:bB}(hR:eF R){K:KF}{x16:gi}{x15:jt}(h16:Is K x16)(h15:Ir K x15):Io K (AI R K x16 x15):=λa0 a1 a2 a8 H h=>pk hR (cc h16 (cc h15 .nil)) h
def Iy(R:bB)(K:KF):jt:=AI R K (AE R K) (AG R K)
theorem TC{R:bB}(hR:eF R){K:KF}:Io K (Iy R K):=TA hR (Tw hR) (Tz hR)
def MY(R:bB)(K:KF)(x3 x4 x8 x11 x1 x7:aA)(x12:jt)(a0 a1:AV)(a2:Int)(H:AH):Prop:=R.2.2.2.1 a0 (.str 5 465490374508) H λo1 H2=>cR K o1 H2 λv3=>cH v3 λz4=>bI z4 (R.2.2.2.1 a0 (.str 8 7957695015192261990) H2 λo5 H6=>cR K o5 H6 λv7=>cH v7 λz8=>bI z8 (R.2.2.2.2.2.2.1 a0 H6 λo9 dD=>cR K o9 dD λv11=>one v11 (aX (ay dD) 1 1 [v11] λv12 ln=>aI a1 (ag 2 a1 λv14=>ak 1 v14 v12 ln λiG=>R.2.2.1 a0 iG λo16 oU=>cR K o16 oU λv18=>cI 0 v18 λMZ=>R.2.2.2.2.2.2.2.1 a0 a2 oU λo20 iO=>cR K o20 iO λv22=>onVal v22 λl23=>gv l23 2 (aX (ay iO) 1 2 (spl l23 [.ab,.ab] 0) λv24 zx=>one v24 (aX (ay zx) 1 7 [(.int 0 (.ofNat 7)),(.int 0 MZ),(.int 0 (.ofNat 0)),(.str 0 0),(.int 0 (.ofNat 0)),.ab,v24] λv26 zw=>aI a1 (ag 0 a1 λv28=>ak 1 v28 (.int 0 (.ofNat 12)) zw λD8=>aI a1 (ag 3 a1 λv30=>ak 1 v30 v26 D8 λH31=>K (.ret (.bF [])) H31))))))) (R.2.2.2.2.2.2.1 a0 H6 λo32 H33=>cR K o32 H33 λv34=>one v34 (aX (ay H33) 1 1 [v34] λv35 H36=>aI a1 (ag 0 a1 λv37=>ak 1 v37 (.int 0 (.ofNat 1)) H36 λM0=>aI a1 (ag 2 a1 λv39=>ak 1 v39 v35 M0 λH40=>x1 a0 a1 a2 H40))))) (R.2.2.2.1 a0 (.str 2 26217) H2 λo41 WB=>cR K o41 WB λv43=>cH v43 λz44=>bI z44 (aI a1 (ag 0 a1 λv45=>ak 1 v45 (.int 0 (.ofNat 4)) WB λH46=>x3 a0 a1 a2 H46)) (R.2.2.2.1 a0 (.str 5 435610544247) WB λo47 H48=>cR K o47 H48 λv49=>cH v49 λz50=>bI z50 (R.2.2.2.2.2.1 a0 a2 H48 λo51 H52=>cR K o51 H52 λv53=>onVal v53 λl54=>gv l54 7 (aX (ay H52) 1 7 (spl l54 [(.int 0 (.ofNat 0)),(.int 0 (.ofNat 0)),(.int 0 (.ofNat 0)),(.str 0 0),(.int 0 (.ofNat 0)),.ab,.ab] 0) λv55 WC=>aI a1 (ag 0 a1 λv57=>ak 1 v57 (.int 0 (.ofNat 5)) WC λH58=>aI a1 (ag 3 a1 λv59=>ak 1 v59 v55 H58 λH60=>x4 a0 a1 a2 H60)))) (R.2.2.2.1 a0 (.str 6 127961662514546) H48 λo61 M3=>cR K o61 M3 λv63=>cH v63 λz64=>bI z64 (R.1 a0 a2 M3 λo65 WD=>cR K o65 WD λv67=>one v67 (aX (ay WD) 1 1 [v67] λv68 H69=>aI a1 (ag 4 a1 λv70=>ak 1 v70 v68 H69 λH71=>R.2.2.2.2.2.2.2.2.1 a0 (.str 5 465625706101) H71 λo72 H73=>cR K o72 H73 λv74=>x7 a0 a1 a2 H73))) (R.2.2.2.1 a0 (.str 3 7499622) M3 λo75 H76=>cR K o75 H76 λv77=>cH v77 λz78=>bI z78 (R.2.2.2.2.2.2.1 a0 H76 λo79 WE=>cR K o79 WE λv81=>one v81 (aX (ay WE) 1 1 [v81] λv82 H83=>aI a1 (ag 2 a1 λv84=>ak 1 v84 v82 H83 λH85=>x8 a0 a1 a2 H85))) (R.2.2.2.1 a0 (.str 5 461195539042) H76 λo86 H87=>cR K o86 H87 λv88=>cH v88 λz89=>bI z89 (aI a1 (ag 0 a1 λv90=>ak 1 v90 (.int 0 (.ofNat 9)) H87 λH91=>K (.ret (.bF [])) H91)) (R.2.2.2.1 a0 (.str 2 28516) H87 λo92 H93=>cR K o92 H93 λv94=>cH v94 λz95=>bI z95 (aI a1 (ag 0 a1 λv96=>ak 1 v96 (.int 0 (.ofNat 11)) H93 λH97=>x11 a0 a1 a2 H97)) (R.2.2.1 a0 H93 λo98 H99=>cR K o98 H99 λanj=>cI 0 anj λank=>R.2.2.2.2.2.2.1 a0 H99 λanl ajL=>cR K anl ajL λajM=>one ajM (R.2.2.2.2.2.2.2.2.2 a0 (.agg [(.int 0 (.ofNat 6)),(.int 0 ank),(.int 0 (.ofNat 0)),ajM,(.int 0 (.ofNat 0)),.ab,.ab]) a2 ajL λanm aeU=>cR K anm aeU λv107=>fW aeU (fl gPa (ay aeU) 41 λajN ann=>ak 7 ajN v107 ann λano=>x12 a0 a1 a2 ajN ano)))))))))
theorem WG{R:bB}(hR:eF R){K:KF}{x3 x4 x8 x11 x1 x7:aA}{x12:jt}(h3:qg K x3)(h4:MK K x4)(h8:MO K x8)(h11:Im K x11)(h1:MI K x1)(h7:MN K x7)(h12:Io K x12)(a0 a1:AV)(a2:Int)(H:AH)(h:MY R K x3 x4 x8 x11 x1 x7 x12 a0 a1 a2 H):fN 43 K [] (bL (ff 43) [a0,a1,(.int 0 a2)]) [] H:=pk hR (cc h3 (cc h4 (cc h8 (cc h11 (cc h1 (cc h7 (cc h12 .nil))))))) h
def WH(R:bB)(K:KF):aA:=MY R K (tG R K NL) (MU R K) (MV R K) (Ix R K) (MW R K) (MX R K) (Iy R K)
def Eb(R:bB):AV→AV→Int→AH→KF→Prop:=λa0 a1 a2 H K=>WH R K a0 a1 a2 H
theorem ahu(R:bB)(hR:eF R):aE gPa 43 (aD [.a,.a,.i 0] (Eb R)):=rk λK a0 a1 a2 H h=>WG hR (Wq hR NL) (Ws hR) (Ww hR) (Tu hR) (Wy hR) (WA hR) (TC hR) a0 a1 a2 H h
abbrev dE:Type:=(AV→AH→KF→Prop)×(AV→AV→AH→KF→Prop)×(AV→Int→Int→AH→KF→Prop)×(AV→Int→AH→KF→Prop)×(AV→Int→AH→KF→Prop)
def ajO(R:dE):List (Nat×eM):=[(39,aD [.a] R.1),(41,aD [.a,.a] R.2.1),(56,aD [.a,.i 0,.i 0] R.2.2.1),(74,aD [.a,.i 0] R.2.2.2.1),(75,aD [.a,.i 0] R.2.2.2.2)]
abbrev jv(R:dE):Prop:=ad gPa (ajO R)
abbrev M4(K:KF)(F:Du):Prop:=ba 56 K [1,1,1,1,1] 101 [0,1,2,6,7] [.a,.i 0,.i 0,.a,.a] F
abbrev M5(K:KF)(F:dM):Prop:=ba 56 K [1,1,1,1,1,1,1] 101 [0,1,2,6,7,8,9] [.a,.i 0,.i 0,.a,.a,.a,.a] F
abbrev lL(K:KF)(F:dM):Prop:=ba 56 K [0,1,1,1,1,1,1,1] 101 [0,1,2,6,7,8,9] [.a,.i 0,.i 0,.a,.a,.a,.a] F
abbrev M6(K:KF)(F:iF):Prop:=ba 56 K [1,1,0,0,0,1,1,1,1,1,1,1] 101 [0,1,2,6,7,8,9,10] [.a,.i 0,.i 0,.a,.a,.a,.a,.i 0] F
abbrev tH(K:KF)(F:iF):Prop:=ba 56 K [0,0,1,0,0,0,1,1,1,1,1,1,1] 101 [0,1,2,6,7,8,9,10] [.a,.i 0,.i 0,.a,.a,.a,.a,.i 0] F
abbrev M7(K:KF)(F:sO):Prop:=ba 56 K [1,1,1,1,1,0,0,0,1,1,1,1,1,1,1] 101 [0,1,2,6,7,8,9,10,11] [.a,.i 0,.i 0,.a,.a,.a,.a,.i 0,.i 0] F
abbrev M8(K:KF)(F:ji):Prop:=ba 56 K [1,1,1,1,1,1,1,1,0,0,0,1,1,1,1,1,1,1] 101 [0,1,2,6,7,8,9,10,11,12,13] [.a,.i 0,.i 0,.a,.a,.a,.a,.i 0,.i 0,.a,.i 0] F
abbrev M9(K:KF)(F:ji):Prop:=ba 56 K [1,1,1,1,1,1,1,1,1,0,0,0,1,1,1,1,1,1,1] 101 [0,1,2,6,7,8,9,10,11,12,13] [.a,.i 0,.i 0,.a,.a,.a,.a,.i 0,.i 0,.a,.i 0] F
def Ec(R:dE)(K:KF)(x3:dM)(a0:AV)(a1 a2:Int)(a6 a7 a8 a9:AV)(a10 a11:Int)(a12:AV)(JB:Int)(H:AH):Prop:=cn 1 a8 (.int 0 a10) λv1=>af v1 H λv2=>cI 0 v2 λz3=>aZ 7 a9 H λv4=>aZ 7 a12 H λv5=>dx H (onVal v4 λl6=>gv l6 7 (onVal v5 λl7=>gv l7 7 (aX (ay H) 2 7 (spl l7 (spl l6 [(.int 0 (.ofNat 0)),(.int 0 (.ofNat 0)),(.int 0 (.ofNat 0)),(.str 0 0),(.int 0 (.ofNat 0)),.ab,.ab,(.int 0 (.ofNat 0)),(.int 0 (.ofNat 0)),(.int 0 (.ofNat 0)),(.str 0 0),(.int 0 (.ofNat 0)),.ab,.ab] 0) 7) λv8 H9=>bT (Nat.beq H9.n (Nat.succ H.n)) (one v8 (ak 7 a9 (.agg [(.int 0 JB),(.int 0 a11),(.int 0 (.ofNat 0)),(.str 0 0),(.int 0 z3),v8,.ab]) H9 λdD=>x3 a0 a1 a2 a6 a7 a8 a9 dD)))))
theorem WI{R:dE}(hR:jv R){K:KF}{x3:dM}(h3:lL K x3):M9 K (Ec R K x3):=λa0 a1 a2 a6 a7 a8 a9 a10 a11 a12 JB H h=>pk hR (cc h3 .nil) h
def Ed(R:dE)(K:KF)(i3:dM):ji:=Ec R K i3
theorem WJ{R:dE}(hR:jv R){K:KF}{i3:dM}(g3:lL K i3):M9 K (Ed R K i3):=WI hR g3
def Ee(R:dE)(K:KF)(x8:ji)(a0:AV)(a1 a2:Int)(a6 a7 a8 a9:AV)(a10 a11:Int)(a12:AV)(JB:Int)(H:AH):Prop:=bI (cA a1 (.ofNat 1)) (x8 a0 a1 a2 a6 a7 a8 a9 a10 a11 a12 (.ofNat 15) H) (x8 a0 a1 a2 a6 a7 a8 a9 a10 a11 a12 JB H)
theorem WK{R:dE}(hR:jv R){K:KF}{x8:ji}(h8:M9 K x8):M8 K (Ee R K x8):=λa0 a1 a2 a6 a7 a8 a9 a10 a11 a12 JB H h=>pk hR (cc h8 .nil) h
def Ef(R:dE)(K:KF)(i3:dM):ji:=Ee R K (Ed R K i3)
theorem WL{R:dE}(hR:jv R){K:KF}{i3:dM}(g3:lL K i3):M8 K (Ef R K i3):=WK hR (WJ hR g3)
def Eg(R:dE)(K:KF)(x7:ji)(a0:AV)(a1 a2:Int)(a6 a7 a8 a9:AV)(a10 a11:Int)(H:AH):Prop:=aN 0 (Int.add a1 (.ofNat 1)) λz1=>R.2.2.1 a0 z1 a2 H λo2 H3=>cR K o2 H3 λv4=>fW H3 (fl gPa (ay H3) 41 λv5 H6=>ak 7 v5 v4 H6 λH7=>bI (cA a1 (.ofNat 0)) (x7 a0 a1 a2 a6 a7 a8 a9 a10 a11 v5 (.ofNat 16) H7) (x7 a0 a1 a2 a6 a7 a8 a9 a10 a11 v5 (.ofNat 14) H7))
theorem WM{R:dE}(hR:jv R){K:KF}{x7:ji}(h7:M8 K x7):M7 K (Eg R K x7):=λa0 a1 a2 a6 a7 a8 a9 a10 a11 H h=>pk hR (cc h7 .nil) h
def Na(R:dE)(K:KF)(i3:dM):sO:=Eg R K (Ef R K i3)
theorem WN{R:dE}(hR:jv R){K:KF}{i3:dM}(g3:lL K i3):M7 K (Na R K i3):=WM hR (WL hR g3)
def Eh(R:dE)(K:KF)(x6:sO)(a0:AV)(a1 a2:Int)(a6 a7 a8 a9:AV)(a10:Int)(H:AH):Prop:=eP a7 λv1=>cI 0 v1 λz2=>bI (cA a10 z2) (aZ 7 a9 H λv3=>ak 7 a6 v3 H λH4=>aZ 7 a6 H4 λv5=>K (.ret v5) H4) (R.1 a0 H λo6 H7=>cR K o6 H7 λv8=>cI 0 v8 λz9=>aI a0 (ag 1 a0 λv10=>af v10 H7 λv11=>cI 0 v11 λz12=>aN 0 (Int.add z12 (.ofNat 1)) λz13=>aI a0 (ag 1 a0 λv14=>ak 1 v14 (.int 0 z13) H7 λiG=>x6 a0 a1 a2 a6 a7 a8 a9 a10 z9 iG)))
theorem WO{R:dE}(hR:jv R){K:KF}{x6:sO}(h6:M7 K x6):M6 K (Eh R K x6):=λa0 a1 a2 a6 a7 a8 a9 a10 H h=>pk hR (cc h6 .nil) h
def Ei(R:dE)(K:KF)(i3:dM):iF:=Eh R K (Na R K i3)
theorem WQ{R:dE}(hR:jv R){K:KF}{i3:dM}(g3:lL K i3):M6 K (Ei R K i3):=WO hR (WN hR g3)
def Ej(R:dE)(K:KF)(x5 x4:iF)(a0:AV)(a1 a2:Int)(a6 a7 a8 a9:AV)(a10:Int)(H:AH):Prop:=eP a7 λv1=>cI 0 v1 λz2=>bI (df a10 z2) (cn 1 a7 (.int 0 a10) λv3=>af v3 H λv4=>R.2.1 a0 v4 H λo5 H6=>cR K o5 H6 λv7=>cH v7 λz8=>bI (!z8) (aN 0 (Int.add a10 (.ofNat 1)) λz9=>x5 a0 a1 a2 a6 a7 a8 a9 z9 H6) (x4 a0 a1 a2 a6 a7 a8 a9 a10 H6)) (x4 a0 a1 a2 a6 a7 a8 a9 a10 H)
theorem WR{R:dE}(hR:jv R){K:KF}{x5 x4:iF}(h5:tH K x5)(h4:M6 K x4):tH K (Ej R K x5 x4):=λa0 a1 a2 a6 a7 a8 a9 a10 H h=>pk hR (cc h5 (cc h4 .nil)) h
def WS(R:dE)(K:KF)(i3:dM)(i5:iF):iF:=Ej R K i5 (Ei R K i3)
theorem WT{R:dE}(hR:jv R){K:KF}{i3:dM}{i5:iF}(g3:lL K i3)(g5:tH K i5):tH K (WS R K i3 i5):=WR hR g5 (WQ hR g3)
def wj(R:dE)(K:KF)(i3:dM)(n:Nat):iF:=Nat.rec (motive:=λ_=>iF) (λ_ _ _ _ _ _ _ _ _=>False) (λ_ i=>WS R K i3 i) n
theorem WU{R:dE}(hR:jv R){K:KF}{i3:dM}(g3:lL K i3)(n:Nat):tH K (wj R K i3 n):=Nat.rec (motive:=λn=>tH K (wj R K i3 n)) (λa0 a1 a2 a6 a7 a8 a9 a10 H h=>h.elim) (λn ih=>WT hR g3 ih) n
def Ek(R:dE)(K:KF)(x5:iF)(a0:AV)(a1 a2:Int)(a6 a7 a8 a9:AV)(H:AH):Prop:=x5 a0 a1 a2 a6 a7 a8 a9 (.ofNat 0) H
theorem WV{R:dE}(hR:jv R){K:KF}{x5:iF}(h5:tH K x5):lL K (Ek R K x5):=λa0 a1 a2 a6 a7 a8 a9 H h=>pk hR (cc h5 .nil) h
def Nb(R:dE)(K:KF)(i3:dM):dM:=Ek R K (wj R K i3 NL)
theorem WW{R:dE}(hR:jv R){K:KF}{i3:dM}(g3:lL K i3):lL K (Nb R K i3):=WV hR (WU hR g3 NL)
def El(R:dE)(K:KF)(n:Nat):dM:=Nat.rec (motive:=λ_=>dM) (λ_ _ _ _ _ _ _ _=>False) (λ_ i=>Nb R K i) n
theorem WX{R:dE}(hR:jv R){K:KF}(n:Nat):lL K (El R K n):=Nat.rec (motive:=λn=>lL K (El R K n)) (λa0 a1 a2 a6 a7 a8 a9 H h=>h.elim) (λn ih=>WW hR ih) n
def Nc(R:dE)(K:KF)(x3:dM)(a0:AV)(a1 a2:Int)(a6 a7 a8 a9:AV)(H:AH):Prop:=x3 a0 a1 a2 a6 a7 a8 a9 H
theorem WY{R:dE}(hR:jv R){K:KF}{x3:dM}(h3:lL K x3):M5 K (Nc R K x3):=λa0 a1 a2 a6 a7 a8 a9 H h=>pk hR (cc h3 .nil) h
def Nd(R:dE)(K:KF):dM:=Nc R K (El R K NL)
theorem WZ{R:dE}(hR:jv R){K:KF}:M5 K (Nd R K):=WY hR (WX hR NL)
def Nf(R:dE)(K:KF)(x2:dM)(a0:AV)(a1 a2:Int)(a6 a7:AV)(H:AH):Prop:=aX (ay H) 1 1 [(.int 0 (.ofNat 0))] λv1 H2=>aX (ay H2) 1 1 [(.int 0 (.ofNat 0))] λv3 H4=>aX (ay H4) 6 1 [(.int 0 (.ofNat 7)),(.int 0 (.ofNat 8)),(.int 0 (.ofNat 9)),(.int 0 (.ofNat 10)),(.int 0 (.ofNat 11)),(.int 0 (.ofNat 12))] λv5 H6=>aX (ay H6) 2 1 [(.int 0 (.ofNat 1)),(.int 0 (.ofNat 2))] λv7 H8=>aX (ay H8) 3 1 [(.int 0 (.ofNat 3)),(.int 0 (.ofNat 4)),(.int 0 (.ofNat 5))] λv9 dD=>one v1 (one v3 (one v5 (one v7 (one v9 (aX (ay dD) 6 1 [v1,v3,v5,.ab,v7,v9] λv11 bS=>cn 1 v11 (.int 0 a1) λv13=>af v13 bS λv14=>aN 0 (Int.add a1 (.ofNat 1)) λzu=>R.2.2.1 a0 zu a2 bS λo16 oU=>cR K o16 oU λv18=>fW oU (fl gPa (ay oU) 41 λv19 nf=>ak 7 v19 v18 nf λiO=>x2 a0 a1 a2 a6 a7 v14 v19 iO))))))
theorem W0{R:dE}(hR:jv R){K:KF}{x2:dM}(h2:M5 K x2):M4 K (Nf R K x2):=λa0 a1 a2 a6 a7 H h=>pk hR (cc h2 .nil) h
def zy(R:dE)(K:KF):Du:=Nf R K (Nd R K)
theorem W1{R:dE}(hR:jv R){K:KF}:M4 K (zy R K):=W0 hR (WZ hR)
def tI(R:dE)(K:KF)(x1:Du)(a0:AV)(a1 a2:Int)(H:AH):Prop:=fW H (fl gPa (ay H) 41 λv1 H2=>aI a0 (ag 2 a0 λv3=>af v3 H2 λv4=>cI 0 v4 λz5=>bI (!(cA z5 (.ofNat 0))) (ak 7 v1 (.agg [(.int 0 (.ofNat 0)),(.int 0 (.ofNat 0)),(.int 0 (.ofNat 0)),(.str 0 0),(.int 0 (.ofNat 0)),.ab,.ab]) H2 λH6=>aZ 7 v1 H6 λv7=>K (.ret v7) H6) (bI (cA a1 (.ofNat 3)) (R.2.2.2.1 a0 a2 H2 λo8 H9=>cR K o8 H9 λv10=>ak 7 v1 v10 H9 λmF=>aZ 7 v1 mF λv12=>K (.ret v12) mF) (bI (cA a1 (.ofNat 6)) (R.2.2.2.2 a0 a2 H2 λrG fw=>cR K rG fw λv15=>ak 7 v1 v15 fw λfy=>aZ 7 v1 fy λv17=>K (.ret v17) fy) (aX (ay H2) 1 1 [(.str 2 29295)] λv18 oI=>aX (ay oI) 1 1 [(.str 3 6581857)] λv20 iO=>aX (ay iO) 6 1 [(.str 2 15677),(.str 2 15742),(.str 1 60),(.str 2 15676),(.str 1 62),(.str 2 15678)] λv22 yo=>aX (ay yo) 2 1 [(.str 1 43),(.str 1 45)] λv24 zx=>aX (ay zx) 3 1 [(.str 1 42),(.str 2 12079),(.str 1 37)] λv26 zw=>one v18 (one v20 (one v22 (one v24 (one v26 (aX (ay zw) 6 1 [v18,v20,v22,.ab,v24,v26] λv28 D8=>cn 1 v28 (.int 0 a1) λv30=>af v30 D8 λv31=>x1 a0 a1 a2 v1 v31 D8))))))))))
theorem W2{R:dE}(hR:jv R){K:KF}{x1:Du}(h1:M4 K x1)(a0:AV)(a1 a2:Int)(H:AH)(h:tI R K x1 a0 a1 a2 H):fN 56 K [] (bL (ff 56) [a0,(.int 0 a1),(.int 0 a2)]) [] H:=pk hR (cc h1 .nil) h
def W3(R:dE)(K:KF):j2:=tI R K (zy R K)
def Em(R:dE):AV→Int→Int→AH→KF→Prop:=λa0 a1 a2 H K=>W3 R K a0 a1 a2 H
theorem ahv(R:dE)(hR:jv R):aE gPa 56 (aD [.a,.i 0,.i 0] (Em R)):=rk λK a0 a1 a2 H h=>W2 hR (W1 hR) a0 a1 a2 H h
abbrev gE:Type:=(AV→Int→AH→KF→Prop)×(AV→AV→AH→KF→Prop)×(AV→AH→KF→Prop)×(AV→AV→AH→KF→Prop)×(AV→Int→Int→AH→KF→Prop)
def ajP(R:gE):List (Nat×eM):=[(17,aD [.a,.i 0] R.1),(40,aD [.a,.a] R.2.1),(57,aD [.a] R.2.2.1),(59,aD [.a,.a] R.2.2.2.1),(76,aD [.a,.i 0,.i 0] R.2.2.2.2)]
abbrev qh(R:gE):Prop:=ad gPa (ajP R)
abbrev Eo(K:KF)(F:cq):Prop:=ba 58 K [1,1,1,1] 40 [0,1,4,5] [.a,.i 0,.a,.a] F
abbrev Ep(K:KF)(F:cq):Prop:=ba 58 K [1,0,1,0,1,1,1] 40 [0,1,4,5] [.a,.i 0,.a,.a] F
abbrev rN(K:KF)(F:cq):Prop:=ba 58 K [0,0,0,1,0,1,1,1] 40 [0,1,4,5] [.a,.i 0,.a,.a] F
abbrev Ng(K:KF)(F:cq):Prop:=ba 58 K [1,1,0,1,0,0,0,0,1,0,1,1,1] 40 [0,1,4,5] [.a,.i 0,.a,.a] F
def Er(R:gE)(K:KF)(a0:AV)(a1:Int)(a4 a5:AV)(H:AH):Prop:=R.1 a0 a1 H λo1 H2=>cR K o1 H2 λv3=>ag 1 a5 λv4=>ak 1 v4 v3 H2 λH5=>R.2.2.2.1 a0 (.str 3 6581861) H5 λo6 H7=>cR K o6 H7 λv8=>aZ 2 a5 H7 λv9=>ak 2 a4 v9 H7 λdD=>aZ 2 a4 dD λv11=>K (.ret v11) dD
theorem W4{R:gE}(hR:qh R){K:KF}:Eo K (Er R K):=λa0 a1 a4 a5 H h=>pk hR .nil h
def zA(R:gE)(K:KF):cq:=Er R K
theorem JC{R:gE}(hR:qh R){K:KF}:Eo K (zA R K):=W4 hR
def Es(R:gE)(K:KF)(x1:cq)(a0:AV)(a1:Int)(a4 a5:AV)(H:AH):Prop:=R.2.2.2.1 a0 (.str 1 41) H λo1 H2=>cR K o1 H2 λv3=>x1 a0 a1 a4 a5 H2
theorem W5{R:gE}(hR:qh R){K:KF}{x1:cq}(h1:Eo K x1):Ep K (Es R K x1):=λa0 a1 a4 a5 H h=>pk hR (cc h1 .nil) h
def wm(R:gE)(K:KF):cq:=Es R K (zA R K)
theorem JD{R:gE}(hR:qh R){K:KF}:Ep K (wm R K):=W5 hR (JC hR)
def Et(R:gE)(K:KF)(x3 x2:cq)(a0:AV)(a1:Int)(a4 a5:AV)(H:AH):Prop:=R.2.1 a0 (.str 1 44) H λo1 H2=>cR K o1 H2 λv3=>cH v3 λz4=>bI (!z4) (x2 a0 a1 a4 a5 H2) (x3 a0 a1 a4 a5 H2)
theorem W6{R:gE}(hR:qh R){K:KF}{x3 x2:cq}(h3:rN K x3)(h2:Ep K x2):Ng K (Et R K x3 x2):=λa0 a1 a4 a5 H h=>pk hR (cc h3 (cc h2 .nil)) h
def Nh(R:gE)(K:KF)(i3:cq):cq:=Et R K i3 (wm R K)
theorem W7{R:gE}(hR:qh R){K:KF}{i3:cq}(g3:rN K i3):Ng K (Nh R K i3):=W6 hR g3 (JD hR)
def Eu(R:gE)(K:KF)(x2 x4:cq)(a0:AV)(a1:Int)(a4 a5:AV)(H:AH):Prop:=aI a0 (ag 2 a0 λv1=>af v1 H λv2=>cI 0 v2 λz3=>bI (cA z3 (.ofNat 0)) (ag 0 a5 λv4=>af v4 H λv5=>eP v5 λv6=>cI 0 v6 λz7=>R.2.2.2.2 a0 z7 (.ofNat 16) H λo8 H9=>cR K o8 H9 λv10=>ag 0 a5 λv11=>af v11 H9 λv12=>R.2.2.1 a0 H9 λrG fw=>cR K rG fw λv15=>af v11 fw λv16=>bT (bw v16 v12) (dx fw (one v15 (aX (ay fw) 1 1 [v15] λv17 ju=>bT (Nat.beq ju.n (Nat.succ fw.n)) (dw 1 16 v12 v17 ju λv19 nf=>ag 0 a5 λv21=>ak 1 v21 v19 nf λlK=>x4 a0 a1 a4 a5 lK))))) (x2 a0 a1 a4 a5 H))
theorem W8{R:gE}(hR:qh R){K:KF}{x2 x4:cq}(h2:Ep K x2)(h4:Ng K x4):rN K (Eu R K x2 x4):=λa0 a1 a4 a5 H h=>pk hR (cc h2 (cc h4 .nil)) h
def Ni(R:gE)(K:KF)(i3:cq):cq:=Eu R K (wm R K) (Nh R K i3)
theorem W9{R:gE}(hR:qh R){K:KF}{i3:cq}(g3:rN K i3):rN K (Ni R K i3):=W8 hR (JD hR) (W7 hR g3)
def Ev(R:gE)(K:KF)(n:Nat):cq:=Nat.rec (motive:=λ_=>cq) (λ_ _ _ _ _=>False) (λ_ i=>Ni R K i) n
theorem Xa{R:gE}(hR:qh R){K:KF}(n:Nat):rN K (Ev R K n):=Nat.rec (motive:=λn=>rN K (Ev R K n)) (λa0 a1 a4 a5 H h=>h.elim) (λn ih=>W9 hR ih) n
def Nj(R:gE)(K:KF)(x3 x1:cq)(a0:AV)(a1:Int)(H:AH):Prop:=fW H (lA (ay H) [.ab,.ab] λv1 H2=>fW H2 (lA (ay H2) [.ab,.ab] λv3 H4=>R.2.2.2.1 a0 (.str 1 40) H4 λo5 H6=>cR K o5 H6 λv7=>R.2.1 a0 (.str 1 41) H6 λo8 H9=>cR K o8 H9 λv10=>cH v10 λz11=>bI (!z11) (x3 a0 a1 v1 v3 H9) (x1 a0 a1 v1 v3 H9)))
theorem Xb{R:gE}(hR:qh R){K:KF}{x3 x1:cq}(h3:rN K x3)(h1:Eo K x1)(a0:AV)(a1:Int)(H:AH)(h:Nj R K x3 x1 a0 a1 H):fN 58 K [] (bL (ff 58) [a0,(.int 0 a1)]) [] H:=pk hR (cc h3 (cc h1 .nil)) h
def Xc(R:gE)(K:KF):dP:=Nj R K (Ev R K NL) (zA R K)
def Ew(R:gE):AV→Int→AH→KF→Prop:=λa0 a1 H K=>Xc R K a0 a1 H
theorem ahw(R:gE)(hR:qh R):aE gPa 58 (aD [.a,.i 0] (Ew R)):=rk λK a0 a1 H h=>Xb hR (Xa hR NL) (JC hR) a0 a1 H h
abbrev dc:Type:=(AV→AH→KF→Prop)×(AV→AV→AH→KF→Prop)×(AV→Int→AH→KF→Prop)×(AV→AH→KF→Prop)×(AV→AV→AH→KF→Prop)×(AV→Int→Int→AH→KF→Prop)
def ajQ(R:dc):List (Nat×eM):=[(39,aD [.a] R.1),(40,aD [.a,.a] R.2.1),(42,aD [.a,.i 0] R.2.2.1),(57,aD [.a] R.2.2.2.1),(59,aD [.a,.a] R.2.2.2.2.1),(76,aD [.a,.i 0,.i 0] R.2.2.2.2.2)]
abbrev iK(R:dc):Prop:=ad gPa (ajQ R)
abbrev Nk(K:KF)(F:gi):Prop:=ba 60 K [1,1] 79 [4,6] [.a,.a] F
abbrev jj(K:KF)(F:cq):Prop:=ba 60 K [0,0,1] 79 [0,2,4,6] [.a,.i 0,.a,.a] F
abbrev Nl(K:KF)(F:bE):Prop:=ba 60 K [1,0,1,0,1,0,1,0,0,0,1] 79 [0,2,4,6,7,8] [.a,.i 0,.a,.a,.i 0,.a] F
abbrev Nn(K:KF)(F:bE):Prop:=ba 60 K [1,0,1,1,1,0,1,0,1,0,0,0,1] 79 [0,2,4,6,7,9] [.a,.i 0,.a,.a,.i 0,.a] F
abbrev No(K:KF)(F:bE):Prop:=ba 60 K [1,0,1,1,1,1,1,0,1,0,1,0,0,0,1] 79 [0,2,4,6,7,10] [.a,.i 0,.a,.a,.i 0,.a] F
abbrev Ex(K:KF)(F:bE):Prop:=ba 60 K [1,1,0,1,1,1,1,1,0,1,0,1,0,0,0,1] 79 [0,2,4,6,7,10] [.a,.i 0,.a,.a,.i 0,.a] F
abbrev Ey(K:KF)(F:bE):Prop:=ba 60 K [1,0,1,0,1,0,1,1,1,1,1,0,1,0,1,0,0,0,1] 79 [0,2,4,6,7,10] [.a,.i 0,.a,.a,.i 0,.a] F
abbrev rP(K:KF)(F:bE):Prop:=ba 60 K [0,0,0,1,0,1,0,1,1,1,1,1,0,1,0,1,0,0,0,1] 79 [0,2,4,6,7,10] [.a,.i 0,.a,.a,.i 0,.a] F
abbrev Np(K:KF)(F:bE):Prop:=ba 60 K [1,1,0,1,0,0,0,0,1,0,1,0,1,1,1,1,1,0,1,0,1,0,0,0,1] 79 [0,2,4,6,7,10] [.a,.i 0,.a,.a,.i 0,.a] F
def Ez(R:dc)(K:KF)(x2:cq)(a0:AV)(a2:Int)(a4 a6:AV)(a7:Int)(a8:AV)(H:AH):Prop:=R.2.2.2.1 a0 H λo1 H2=>cR K o1 H2 λv3=>ag 3 a8 λv4=>ak 1 v4 v3 H2 λH5=>aZ 7 a4 H5 λv6=>aZ 7 a8 H5 λv7=>onVal v6 λl8=>gv l8 7 (onVal v7 λl9=>gv l9 7 (aX (ay H5) 2 7 (spl l9 (spl l8 [(.int 0 (.ofNat 0)),(.int 0 (.ofNat 0)),(.int 0 (.ofNat 0)),(.str 0 0),(.int 0 (.ofNat 0)),.ab,.ab,(.int 0 (.ofNat 0)),(.int 0 (.ofNat 0)),(.int 0 (.ofNat 0)),(.str 0 0),(.int 0 (.ofNat 0)),.ab,.ab] 0) 7) λv10 mF=>one v10 (ak 7 a4 (.agg [(.int 0 (.ofNat 9)),(.int 0 a7),(.int 0 (.ofNat 0)),(.str 0 0),(.int 0 (.ofNat 0)),v10,.ab]) mF λbS=>x2 a0 a2 a4 a6 bS)))
theorem Xd{R:dc}(hR:iK R){K:KF}{x2:cq}(h2:jj K x2):Nl K (Ez R K x2):=λa0 a2 a4 a6 a7 a8 H h=>pk hR (cc h2 .nil) h
def Nq(R:dc)(K:KF)(i2:cq):bE:=Ez R K i2
theorem Xe{R:dc}(hR:iK R){K:KF}{i2:cq}(g2:jj K i2):Nl K (Nq R K i2):=Xd hR g2
def EA(R:dc)(K:KF)(x2:cq)(a0:AV)(a2:Int)(a4 a6:AV)(a7:Int)(a9:AV)(H:AH):Prop:=R.2.2.2.2.1 a0 (.str 1 93) H λo1 H2=>cR K o1 H2 λv3=>aZ 7 a4 H2 λv4=>aZ 7 a9 H2 λv5=>onVal v4 λl6=>gv l6 7 (onVal v5 λl7=>gv l7 7 (aX (ay H2) 2 7 (spl l7 (spl l6 [(.int 0 (.ofNat 0)),(.int 0 (.ofNat 0)),(.int 0 (.ofNat 0)),(.str 0 0),(.int 0 (.ofNat 0)),.ab,.ab,(.int 0 (.ofNat 0)),(.int 0 (.ofNat 0)),(.int 0 (.ofNat 0)),(.str 0 0),(.int 0 (.ofNat 0)),.ab,.ab] 0) 7) λv8 H9=>one v8 (ak 7 a4 (.agg [(.int 0 (.ofNat 9)),(.int 0 a7),(.int 0 (.ofNat 0)),(.str 0 0),(.int 0 (.ofNat 0)),v8,.ab]) H9 λdD=>x2 a0 a2 a4 a6 dD)))
theorem Xf{R:dc}(hR:iK R){K:KF}{x2:cq}(h2:jj K x2):Nn K (EA R K x2):=λa0 a2 a4 a6 a7 a9 H h=>pk hR (cc h2 .nil) h
def Nr(R:dc)(K:KF)(i2:cq):bE:=EA R K i2
theorem Xg{R:dc}(hR:iK R){K:KF}{i2:cq}(g2:jj K i2):Nn K (Nr R K i2):=Xf hR g2
def EB(R:dc)(K:KF)(x2:cq)(a0:AV)(a2:Int)(a4 a6:AV)(a7:Int)(a10:AV)(H:AH):Prop:=one a10 (ak 7 a4 (.agg [(.int 0 (.ofNat 10)),(.int 0 a7),(.int 0 (.ofNat 0)),(.str 0 0),(.int 0 (.ofNat 0)),a10,.ab]) H λH1=>x2 a0 a2 a4 a6 H1)
theorem Xh{R:dc}(hR:iK R){K:KF}{x2:cq}(h2:jj K x2):Ex K (EB R K x2):=λa0 a2 a4 a6 a7 a10 H h=>pk hR (cc h2 .nil) h
def zC(R:dc)(K:KF)(i2:cq):bE:=EB R K i2
theorem JE{R:dc}(hR:iK R){K:KF}{i2:cq}(g2:jj K i2):Ex K (zC R K i2):=Xh hR g2
def EC(R:dc)(K:KF)(x6:bE)(a0:AV)(a2:Int)(a4 a6:AV)(a7:Int)(a10:AV)(H:AH):Prop:=R.2.2.2.2.1 a0 (.str 1 41) H λo1 H2=>cR K o1 H2 λv3=>x6 a0 a2 a4 a6 a7 a10 H2
theorem Xi{R:dc}(hR:iK R){K:KF}{x6:bE}(h6:Ex K x6):Ey K (EC R K x6):=λa0 a2 a4 a6 a7 a10 H h=>pk hR (cc h6 .nil) h
def wo(R:dc)(K:KF)(i2:cq):bE:=EC R K (zC R K i2)
theorem JF{R:dc}(hR:iK R){K:KF}{i2:cq}(g2:jj K i2):Ey K (wo R K i2):=Xi hR (JE hR g2)
def ED(R:dc)(K:KF)(x8 x7:bE)(a0:AV)(a2:Int)(a4 a6:AV)(a7:Int)(a10:AV)(H:AH):Prop:=R.2.1 a0 (.str 1 44) H λo1 H2=>cR K o1 H2 λv3=>cH v3 λz4=>bI (!z4) (x7 a0 a2 a4 a6 a7 a10 H2) (x8 a0 a2 a4 a6 a7 a10 H2)
theorem Xj{R:dc}(hR:iK R){K:KF}{x8 x7:bE}(h8:rP K x8)(h7:Ey K x7):Np K (ED R K x8 x7):=λa0 a2 a4 a6 a7 a10 H h=>pk hR (cc h8 (cc h7 .nil)) h
def EE(R:dc)(K:KF)(i2:cq)(i8:bE):bE:=ED R K i8 (wo R K i2)
theorem Xk{R:dc}(hR:iK R){K:KF}{i2:cq}{i8:bE}(g2:jj K i2)(g8:rP K i8):Np K (EE R K i2 i8):=Xj hR g8 (JF hR g2)
def EF(R:dc)(K:KF)(x7 x9:bE)(a0:AV)(a2:Int)(a4 a6:AV)(a7:Int)(a10:AV)(H:AH):Prop:=aI a0 (ag 2 a0 λv1=>af v1 H λv2=>cI 0 v2 λz3=>bI (cA z3 (.ofNat 0)) (eP a10 λv4=>cI 0 v4 λz5=>aN 0 (Int.sub z5 (.ofNat 1)) λz6=>R.2.2.2.2.2 a0 z6 (.ofNat 16) H λo7 H8=>cR K o7 H8 λv9=>R.2.2.1 a0 a2 H8 λWt mF=>cR K Wt mF λv12=>onVal v12 λl13=>gv l13 7 (aX (ay mF) 1 7 (spl l13 [(.int 0 (.ofNat 0)),(.int 0 (.ofNat 0)),(.int 0 (.ofNat 0)),(.str 0 0),(.int 0 (.ofNat 0)),.ab,.ab] 0) λv14 iG=>dw 7 96 a10 v14 iG λv16 oU=>x9 a0 a2 a4 a6 a7 v16 oU)) (x7 a0 a2 a4 a6 a7 a10 H))
theorem Xl{R:dc}(hR:iK R){K:KF}{x7 x9:bE}(h7:Ey K x7)(h9:Np K x9):rP K (EF R K x7 x9):=λa0 a2 a4 a6 a7 a10 H h=>pk hR (cc h7 (cc h9 .nil)) h
def Ns(R:dc)(K:KF)(i2:cq)(i8:bE):bE:=EF R K (wo R K i2) (EE R K i2 i8)
theorem Xm{R:dc}(hR:iK R){K:KF}{i2:cq}{i8:bE}(g2:jj K i2)(g8:rP K i8):rP K (Ns R K i2 i8):=Xl hR (JF hR g2) (Xk hR g2 g8)
def zD(R:dc)(K:KF)(i2:cq)(n:Nat):bE:=Nat.rec (motive:=λ_=>bE) (λ_ _ _ _ _ _ _=>False) (λ_ i=>Ns R K i2 i) n
theorem Xn{R:dc}(hR:iK R){K:KF}{i2:cq}(g2:jj K i2)(n:Nat):rP K (zD R K i2 n):=Nat.rec (motive:=λn=>rP K (zD R K i2 n)) (λa0 a2 a4 a6 a7 a10 H h=>h.elim) (λn ih=>Xm hR g2 ih) n
def EG(R:dc)(K:KF)(x8 x6:bE)(a0:AV)(a2:Int)(a4 a6:AV)(a7:Int)(a10:AV)(H:AH):Prop:=R.2.1 a0 (.str 1 41) H λo1 H2=>cR K o1 H2 λv3=>cH v3 λz4=>bI (!z4) (x8 a0 a2 a4 a6 a7 a10 H2) (x6 a0 a2 a4 a6 a7 a10 H2)
theorem Xo{R:dc}(hR:iK R){K:KF}{x8 x6:bE}(h8:rP K x8)(h6:Ex K x6):No K (EG R K x8 x6):=λa0 a2 a4 a6 a7 a10 H h=>pk hR (cc h8 (cc h6 .nil)) h
def Nt(R:dc)(K:KF)(i2:cq):bE:=EG R K (zD R K i2 NL) (zC R K i2)
theorem Xp{R:dc}(hR:iK R){K:KF}{i2:cq}(g2:jj K i2):No K (Nt R K i2):=Xo hR (Xn hR g2 NL) (JE hR g2)
def Xq(R:dc)(K:KF)(a4 a6:AV)(H:AH):Prop:=aZ 7 a4 H λv1=>ak 7 a6 v1 H λH2=>aZ 7 a6 H2 λv3=>K (.ret v3) H2
theorem Xr{R:dc}(hR:iK R){K:KF}:Nk K (Xq R K):=λa4 a6 H h=>pk hR .nil h
def Nu(R:dc)(K:KF):gi:=Xq R K
theorem Xs{R:dc}(hR:iK R){K:KF}:Nk K (Nu R K):=Xr hR
def EH(R:dc)(K:KF)(x3 x4 x5:bE)(x1:gi)(a0:AV)(a2:Int)(a4 a6:AV)(H:AH):Prop:=aI a0 (ag 2 a0 λv1=>af v1 H λv2=>cI 0 v2 λz3=>bI (cA z3 (.ofNat 0)) (R.1 a0 H λo4 H5=>cR K o4 H5 λv6=>cI 0 v6 λz7=>R.2.1 a0 (.str 1 46) H5 λo8 H9=>cR K o8 H9 λv10=>cH v10 λz11=>bI z11 (R.1 a0 H9 λMF ln=>cR K MF ln λv14=>cI 0 v14 λzu=>fW ln (fl gPa (ay ln) 41 λv16 oU=>ak 7 v16 (.agg [(.int 0 (.ofNat 5)),(.int 0 zu),(.int 0 (.ofNat 0)),(.str 0 0),(.int 0 (.ofNat 0)),.ab,.ab]) oU λju=>x3 a0 a2 a4 a6 z7 v16 ju)) (R.2.1 a0 (.str 1 91) H9 λXt nf=>cR K Xt nf λv21=>cH v21 λz22=>bI z22 (R.2.2.1 a0 a2 nf λo23 tJ=>cR K o23 tJ λv25=>fW tJ (fl gPa (ay tJ) 41 λv26 zw=>ak 7 v26 v25 zw λJG=>x4 a0 a2 a4 a6 z7 v26 JG)) (R.2.1 a0 (.str 1 40) nf λXu yp=>cR K Xu yp λv31=>cH v31 λz32=>bI z32 (aZ 7 a4 yp λv33=>onVal v33 λl34=>gv l34 7 (aX (ay yp) 1 7 (spl l34 [(.int 0 (.ofNat 0)),(.int 0 (.ofNat 0)),(.int 0 (.ofNat 0)),(.str 0 0),(.int 0 (.ofNat 0)),.ab,.ab] 0) λv35 H36=>x5 a0 a2 a4 a6 z7 v35 H36)) (aZ 7 a4 yp λv37=>ak 7 a6 v37 yp λM0=>aZ 7 a6 M0 λv39=>K (.ret v39) M0)))) (x1 a4 a6 H))
theorem Xv{R:dc}(hR:iK R){K:KF}{x3 x4 x5:bE}{x1:gi}(h3:Nl K x3)(h4:Nn K x4)(h5:No K x5)(h1:Nk K x1):jj K (EH R K x3 x4 x5 x1):=λa0 a2 a4 a6 H h=>pk hR (cc h3 (cc h4 (cc h5 (cc h1 .nil)))) h
def Nv(R:dc)(K:KF)(i2:cq):cq:=EH R K (Nq R K i2) (Nr R K i2) (Nt R K i2) (Nu R K)
theorem Xw{R:dc}(hR:iK R){K:KF}{i2:cq}(g2:jj K i2):jj K (Nv R K i2):=Xv hR (Xe hR g2) (Xg hR g2) (Xp hR g2) (Xs hR)
def EI(R:dc)(K:KF)(n:Nat):cq:=Nat.rec (motive:=λ_=>cq) (λ_ _ _ _ _=>False) (λ_ i=>Nv R K i) n
theorem Xy{R:dc}(hR:iK R){K:KF}(n:Nat):jj K (EI R K n):=Nat.rec (motive:=λn=>jj K (EI R K n)) (λa0 a2 a4 a6 H h=>h.elim) (λn ih=>Xw hR ih) n
def Nw(R:dc)(K:KF)(x2:cq)(a0 a1:AV)(a2:Int)(H:AH):Prop:=vd (ay H) a1 λv1 H2=>fW H2 (fl gPa (ay H2) 41 λv3 H4=>x2 a0 a2 v1 v3 H4)
theorem Xz{R:dc}(hR:iK R){K:KF}{x2:cq}(h2:jj K x2)(a0 a1:AV)(a2:Int)(H:AH)(h:Nw R K x2 a0 a1 a2 H):fN 60 K [] (bL (ff 60) [a0,a1,(.int 0 a2)]) [] H:=pk hR (cc h2 .nil) h
def XA(R:dc)(K:KF):aA:=Nw R K (EI R K NL)
def EJ(R:dc):AV→AV→Int→AH→KF→Prop:=λa0 a1 a2 H K=>XA R K a0 a1 a2 H
theorem ahx(R:dc)(hR:iK R):aE gPa 60 (aD [.a,.a,.i 0] (EJ R)):=rk λK a0 a1 a2 H h=>Xz hR (Xy hR NL) a0 a1 a2 H h
abbrev pn:Type:=(AV→Int→AH→KF→Prop)×(AV→AH→KF→Prop)×(AV→AV→AH→KF→Prop)×(AV→Int→Int→AH→KF→Prop)×(AV→Int→AH→KF→Prop)
def ajR(R:pn):List (Nat×eM):=[(37,aD [.a,.i 0] R.1),(39,aD [.a] R.2.1),(40,aD [.a,.a] R.2.2.1),(56,aD [.a,.i 0,.i 0] R.2.2.2.1),(74,aD [.a,.i 0] R.2.2.2.2)]
abbrev Kh(R:pn):Prop:=ad gPa (ajR R)
abbrev Nx(K:KF)(F:dm):Prop:=ba 74 K [1,1,1,1,1,1] 36 [0,1,4,5,6] [.a,.i 0,.a,.a,.i 0] F
def zE(R:pn)(K:KF)(a0:AV)(a1:Int)(a4 a5:AV)(a6:Int)(H:AH):Prop:=aN 0 (Int.add a1 (.ofNat 1)) λz1=>R.2.2.2.2 a0 z1 H λo2 H3=>cR K o2 H3 λv4=>fW H3 (fl gPa (ay H3) 41 λv5 H6=>ak 7 v5 v4 H6 λH7=>aZ 7 a5 H7 λv8=>aZ 7 v5 H7 λv9=>onVal v8 λl10=>gv l10 7 (onVal v9 λJH=>gv JH 7 (aX (ay H7) 2 7 (spl JH (spl l10 [(.int 0 (.ofNat 0)),(.int 0 (.ofNat 0)),(.int 0 (.ofNat 0)),(.str 0 0),(.int 0 (.ofNat 0)),.ab,.ab,(.int 0 (.ofNat 0)),(.int 0 (.ofNat 0)),(.int 0 (.ofNat 0)),(.str 0 0),(.int 0 (.ofNat 0)),.ab,.ab] 0) 7) λv12 ln=>one v12 (ak 7 a4 (.agg [(.int 0 (.ofNat 14)),(.int 0 a6),(.int 0 (.ofNat 0)),(.str 0 0),(.int 0 (.ofNat 6)),v12,.ab]) ln λfw=>aZ 7 a4 fw λv15=>K (.ret v15) fw))))
theorem XB{R:pn}(hR:Kh R){K:KF}:Nx K (zE R K):=λa0 a1 a4 a5 a6 H h=>pk hR .nil h
def XC(R:pn)(K:KF):dm:=zE R K
theorem XD{R:pn}(hR:Kh R){K:KF}:Nx K (XC R K):=XB hR
def EK(R:pn)(K:KF)(x1:dm)(a0:AV)(a1:Int)(H:AH):Prop:=fW H (fl gPa (ay H) 41 λv1 H2=>R.2.2.2.1 a0 (.ofNat 4) a1 H2 λo3 H4=>cR K o3 H4 λv5=>fW H4 (fl gPa (ay H4) 41 λv6 H7=>ak 7 v6 v5 H7 λH8=>R.2.1 a0 H8 λo9 dD=>cR K o9 dD λv11=>cI 0 v11 λz12=>R.2.2.1 a0 (.str 2 11822) dD λrG fw=>cR K rG fw λv15=>cH v15 λrH=>bI (!rH) (aZ 7 v6 fw λv17=>ak 7 v1 v17 fw λju=>aZ 7 v1 ju λv19=>K (.ret v19) ju) (aN 0 (Int.add a1 (.ofNat 1)) λz20=>R.1 a0 z20 fw λMv lK=>cR K Mv lK λv23=>aI a0 (ag 2 a0 λv24=>af v24 lK λv25=>cI 0 v25 λz26=>bI (!(cA z26 (.ofNat 0))) (aZ 7 v6 lK λv27=>ak 7 v1 v27 lK λJG=>aZ 7 v1 JG λv29=>K (.ret v29) JG) (x1 a0 a1 v1 v6 z12 lK)))))
theorem XE{R:pn}(hR:Kh R){K:KF}{x1:dm}(h1:Nx K x1)(a0:AV)(a1:Int)(H:AH)(h:EK R K x1 a0 a1 H):fN 74 K [] (bL (ff 74) [a0,(.int 0 a1)]) [] H:=pk hR (cc h1 .nil) h
def ajS(R:pn)(K:KF):dP:=EK R K (XC R K)
def TD(R:pn):AV→Int→AH→KF→Prop:=λa0 a1 H K=>ajS R K a0 a1 H
theorem ahy(R:pn)(hR:Kh R):aE gPa 74 (aD [.a,.i 0] (TD R)):=rk λK a0 a1 H h=>XE hR (XD hR) a0 a1 H h
abbrev po:Type:=(AV→Int→AH→KF→Prop)×(AV→AH→KF→Prop)×(AV→AV→AH→KF→Prop)×(AV→Int→AH→KF→Prop)×(AV→Int→AH→KF→Prop)
def ajT(R:po):List (Nat×eM):=[(37,aD [.a,.i 0] R.1),(39,aD [.a] R.2.1),(40,aD [.a,.a] R.2.2.1),(75,aD [.a,.i 0] R.2.2.2.1),(82,aD [.a,.i 0] R.2.2.2.2)]
abbrev Ki(R:po):Prop:=ad gPa (ajT R)
abbrev Ny(K:KF)(F:rE):Prop:=ba 75 K [1,1,1,1] 39 [0,1,4,5,6] [.a,.i 0,.a,.i 0,.i 0] F
def zF(R:po)(K:KF)(a0:AV)(a1:Int)(a4:AV)(a5 a6:Int)(H:AH):Prop:=aN 0 (Int.add a1 (.ofNat 1)) λz1=>R.1 a0 z1 H λo2 H3=>cR K o2 H3 λv4=>aI a0 (ag 2 a0 λv5=>af v5 H3 λv6=>cI 0 v6 λz7=>bI (!(cA z7 (.ofNat 0))) (ak 7 a4 (.agg [(.int 0 (.ofNat 0)),(.int 0 (.ofNat 0)),(.int 0 (.ofNat 0)),(.str 0 0),(.int 0 (.ofNat 0)),.ab,.ab]) H3 λH8=>aZ 7 a4 H8 λv9=>K (.ret v9) H8) (aN 0 (Int.add a1 (.ofNat 1)) λz10=>R.2.2.2.1 a0 z10 H3 λmG bS=>cR K mG bS λv13=>onVal v13 λl14=>gv l14 7 (aX (ay bS) 1 7 (spl l14 [(.int 0 (.ofNat 0)),(.int 0 (.ofNat 0)),(.int 0 (.ofNat 0)),(.str 0 0),(.int 0 (.ofNat 0)),.ab,.ab] 0) λv15 fy=>one v15 (ak 7 a4 (.agg [(.int 0 a6),(.int 0 a5),(.int 0 (.ofNat 0)),(.str 0 0),(.int 0 (.ofNat 0)),v15,.ab]) fy λoU=>aZ 7 a4 oU λv18=>K (.ret v18) oU))))
theorem XF{R:po}(hR:Ki R){K:KF}:Ny K (zF R K):=λa0 a1 a4 a5 a6 H h=>pk hR .nil h
def XG(R:po)(K:KF):rE:=zF R K
theorem XH{R:po}(hR:Ki R){K:KF}:Ny K (XG R K):=XF hR
def EL(R:po)(K:KF)(x1:rE)(a0:AV)(a1:Int)(H:AH):Prop:=fW H (fl gPa (ay H) 41 λv1 H2=>R.2.1 a0 H2 λo3 H4=>cR K o3 H4 λv5=>cI 0 v5 λz6=>R.2.2.1 a0 (.str 3 7630702) H4 λo7 H8=>cR K o7 H8 λv9=>cH v9 λz10=>bI z10 (x1 a0 a1 v1 z6 (.ofNat 11) H8) (R.2.2.1 a0 (.str 1 45) H8 λmG bS=>cR K mG bS λv13=>cH v13 λEM=>bI EM (x1 a0 a1 v1 z6 (.ofNat 12) bS) (R.2.2.1 a0 (.str 1 35) bS λNz fy=>cR K Nz fy λv17=>cH v17 λXI=>bI XI (x1 a0 a1 v1 z6 (.ofNat 13) fy) (R.2.2.2.2 a0 a1 fy λXt nf=>cR K Xt nf λv21=>ak 7 v1 v21 nf λlK=>aZ 7 v1 lK λv23=>K (.ret v23) lK))))
theorem XJ{R:po}(hR:Ki R){K:KF}{x1:rE}(h1:Ny K x1)(a0:AV)(a1:Int)(H:AH)(h:EL R K x1 a0 a1 H):fN 75 K [] (bL (ff 75) [a0,(.int 0 a1)]) [] H:=pk hR (cc h1 .nil) h
def ajU(R:po)(K:KF):dP:=EL R K (XG R K)
def TE(R:po):AV→Int→AH→KF→Prop:=λa0 a1 H K=>ajU R K a0 a1 H
theorem ahz(R:po)(hR:Ki R):aE gPa 75 (aD [.a,.i 0] (TE R)):=rk λK a0 a1 H h=>XJ hR (XH hR) a0 a1 H h
abbrev fg:Type:=(AV→Int→AH→KF→Prop)×(AV→AH→KF→Prop)×(AV→AV→AH→KF→Prop)×(AV→Int→AH→KF→Prop)×(AV→Int→AH→KF→Prop)×(AV→AV→AH→KF→Prop)×(AV→AV→Int→AH→KF→Prop)×(AV→Int→Int→AH→KF→Prop)
def ajV(R:fg):List (Nat×eM):=[(18,aD [.a,.i 0] R.1),(39,aD [.a] R.2.1),(40,aD [.a,.a] R.2.2.1),(42,aD [.a,.i 0] R.2.2.2.1),(58,aD [.a,.i 0] R.2.2.2.2.1),(59,aD [.a,.a] R.2.2.2.2.2.1),(60,aD [.a,.a,.i 0] R.2.2.2.2.2.2.1),(85,aD [.a,.i 0,.i 0] R.2.2.2.2.2.2.2)]
abbrev ng(R:fg):Prop:=ad gPa (ajV R)
abbrev NA(K:KF)(F:rD):Prop:=ba 82 K [1,1,1] 121 [0,1,4,5,6] [.a,.i 0,.a,.i 0,.a] F
abbrev NC(K:KF)(F:gi):Prop:=ba 82 K [1,1,1,1] 121 [0,4] [.a,.a] F
abbrev ND(K:KF)(F:rD):Prop:=ba 82 K [1,0,1,1,1,0,0,1,1,1] 121 [0,1,4,5,6] [.a,.i 0,.a,.i 0,.a] F
abbrev NF(K:KF)(F:cq):Prop:=ba 82 K [1,0,1,1,1,1,1,0,0,1,1,1] 121 [0,1,4,7] [.a,.i 0,.a,.a] F
abbrev NG(K:KF)(F:kB):Prop:=ba 82 K [1,0,1,1,1,1,1,1,1,0,0,1,1,1] 121 [4,5,6] [.a,.i 0,.a] F
abbrev NH(K:KF)(F:kB):Prop:=ba 82 K [1,0,1,1,1,1,1,1,1,1,1,0,0,1,1,1] 121 [4,5,6] [.a,.i 0,.a] F
def EN(R:fg)(K:KF)(a0:AV)(a1:Int)(a4:AV)(a5:Int)(a6:AV)(H:AH):Prop:=ag 1 a6 λv1=>af v1 H λv2=>one v2 (R.2.2.2.2.2.2.1 a0 (.agg [(.int 0 (.ofNat 6)),(.int 0 a5),(.int 0 (.ofNat 0)),v2,(.int 0 (.ofNat 0)),.ab,.ab]) a1 H λo3 H4=>cR K o3 H4 λv5=>ak 7 a4 v5 H4 λH6=>aZ 7 a4 H6 λv7=>K (.ret v7) H6)
theorem XK{R:fg}(hR:ng R){K:KF}:ND K (EN R K):=λa0 a1 a4 a5 a6 H h=>pk hR .nil h
def NI(R:fg)(K:KF):rD:=EN R K
theorem XL{R:fg}(hR:ng R){K:KF}:ND K (NI R K):=XK hR
def EP(R:fg)(K:KF)(a0:AV)(a1:Int)(a4 a7:AV)(H:AH):Prop:=R.2.2.2.2.2.1 a0 (.str 1 41) H λo1 H2=>cR K o1 H2 λv3=>aZ 7 a7 H2 λv4=>R.2.2.2.2.2.2.1 a0 v4 a1 H2 λo5 H6=>cR K o5 H6 λv7=>ak 7 a4 v7 H6 λH8=>aZ 7 a4 H8 λv9=>K (.ret v9) H8
theorem XM{R:fg}(hR:ng R){K:KF}:NF K (EP R K):=λa0 a1 a4 a7 H h=>pk hR .nil h
def NJ(R:fg)(K:KF):cq:=EP R K
theorem XN{R:fg}(hR:ng R){K:KF}:NF K (NJ R K):=XM hR
def ES(R:fg)(K:KF)(a4:AV)(a5:Int)(a6:AV)(H:AH):Prop:=ag 2 a6 λv1=>af v1 H λv2=>cI 0 v2 λz3=>ak 7 a4 (.agg [(.int 0 (.ofNat 4)),(.int 0 a5),(.int 0 z3),(.str 0 0),(.int 0 (.ofNat 0)),.ab,.ab]) H λH4=>aZ 7 a4 H4 λv5=>K (.ret v5) H4
theorem XO{R:fg}(hR:ng R){K:KF}:NG K (ES R K):=λa4 a5 a6 H h=>pk hR .nil h
def NK(R:fg)(K:KF):kB:=ES R K
theorem XP{R:fg}(hR:ng R){K:KF}:NG K (NK R K):=XO hR
def ET(R:fg)(K:KF)(a4:AV)(a5:Int)(a6:AV)(H:AH):Prop:=ag 1 a6 λv1=>af v1 H λv2=>one v2 (ak 7 a4 (.agg [(.int 0 (.ofNat 5)),(.int 0 a5),(.int 0 (.ofNat 0)),v2,(.int 0 (.ofNat 0)),.ab,.ab]) H λH3=>aZ 7 a4 H3 λv4=>K (.ret v4) H3)
theorem XQ{R:fg}(hR:ng R){K:KF}:NH K (ET R K):=λa4 a5 a6 H h=>pk hR .nil h
def NM(R:fg)(K:KF):kB:=ET R K
theorem XR{R:fg}(hR:ng R){K:KF}:NH K (NM R K):=XQ hR
def EU(R:fg)(K:KF)(a0 a4:AV)(H:AH):Prop:=R.1 a0 (.ofNat 14) H λo1 H2=>cR K o1 H2 λv3=>ak 7 a4 (.agg [(.int 0 (.ofNat 0)),(.int 0 (.ofNat 0)),(.int 0 (.ofNat 0)),(.str 0 0),(.int 0 (.ofNat 0)),.ab,.ab]) H2 λH4=>aZ 7 a4 H4 λv5=>K (.ret v5) H4
theorem XS{R:fg}(hR:ng R){K:KF}:NC K (EU R K):=λa0 a4 H h=>pk hR .nil h
def NN(R:fg)(K:KF):gi:=EU R K
theorem XT{R:fg}(hR:ng R){K:KF}:NC K (NN R K):=XS hR
def EV(R:fg)(K:KF)(x3:rD)(x4:cq)(x5 x6:kB)(x2:gi)(a0:AV)(a1:Int)(a4:AV)(a5:Int)(a6:AV)(H:AH):Prop:=aI a0 (ag 2 a0 λv1=>af v1 H λv2=>cI 0 v2 λz3=>bI (!(cA z3 (.ofNat 0))) (ak 7 a4 (.agg [(.int 0 (.ofNat 0)),(.int 0 (.ofNat 0)),(.int 0 (.ofNat 0)),(.str 0 0),(.int 0 (.ofNat 0)),.ab,.ab]) H λH4=>aZ 7 a4 H4 λv5=>K (.ret v5) H4) (ag 0 a6 λv6=>af v6 H λv7=>cI 0 v7 λz8=>bI (cA z8 (.ofNat 2)) (aI a0 (ag 1 a0 λv9=>af v9 H λv10=>cI 0 v10 λz11=>aN 0 (Int.add z11 (.ofNat 1)) λz12=>aI a0 (ag 1 a0 λv13=>ak 1 v13 (.int 0 z12) H λfw=>x3 a0 a1 a4 a5 a6 fw))) (R.2.2.1 a0 (.str 1 40) H λNz fy=>cR K Nz fy λv17=>cH v17 λXI=>bI XI (R.2.2.2.1 a0 a1 fy λXt nf=>cR K Xt nf λv21=>fW nf (fl gPa (ay nf) 41 λv22 yo=>ak 7 v22 v21 yo λtJ=>x4 a0 a1 a4 v22 tJ)) (ag 0 a6 λv25=>af v25 fy λv26=>cI 0 v26 λz27=>bI (cA z27 (.ofNat 3)) (aI a0 (ag 1 a0 λv28=>af v28 fy λv29=>cI 0 v29 λz30=>aN 0 (Int.add z30 (.ofNat 1)) λz31=>aI a0 (ag 1 a0 λv32=>ak 1 v32 (.int 0 z31) fy λH33=>x5 a4 a5 a6 H33))) (ag 0 a6 λv34=>af v34 fy λv35=>cI 0 v35 λz36=>bI (cA z36 (.ofNat 4)) (aI a0 (ag 1 a0 λv37=>af v37 fy λv38=>cI 0 v38 λz39=>aN 0 (Int.add z39 (.ofNat 1)) λz40=>aI a0 (ag 1 a0 λv41=>ak 1 v41 (.int 0 z40) fy λWB=>x6 a4 a5 a6 WB))) (R.2.2.1 a0 (.str 3 7104878) fy λo43 H44=>cR K o43 H44 λv45=>cH v45 λz46=>bI z46 (ak 7 a4 (.agg [(.int 0 (.ofNat 1)),(.int 0 a5),(.int 0 (.ofNat 0)),(.str 0 0),(.int 0 (.ofNat 0)),.ab,.ab]) H44 λH47=>aZ 7 a4 H47 λv48=>K (.ret v48) H47) (R.2.2.1 a0 (.str 4 1702195828) H44 λo49 H50=>cR K o49 H50 λv51=>cH v51 λz52=>bI z52 (ak 7 a4 (.agg [(.int 0 (.ofNat 2)),(.int 0 a5),(.int 0 (.ofNat 0)),(.str 0 0),(.int 0 (.ofNat 0)),.ab,.ab]) H50 λH53=>aZ 7 a4 H53 λv54=>K (.ret v54) H53) (R.2.2.1 a0 (.str 5 435728179558) H50 λo55 WC=>cR K o55 WC λv57=>cH v57 λz58=>bI z58 (ak 7 a4 (.agg [(.int 0 (.ofNat 3)),(.int 0 a5),(.int 0 (.ofNat 0)),(.str 0 0),(.int 0 (.ofNat 0)),.ab,.ab]) WC λH59=>aZ 7 a4 H59 λv60=>K (.ret v60) H59) (R.2.2.1 a0 (.str 8 7957695015192261990) WC λo61 M3=>cR K o61 M3 λv63=>cH v63 λz64=>bI z64 (R.2.2.2.2.1 a0 a1 M3 λo65 WD=>cR K o65 WD λv67=>onVal v67 λl68=>gv l68 2 (aX (ay WD) 1 2 (spl l68 [.ab,.ab] 0) λv69 H70=>one v69 (ak 7 a4 (.agg [(.int 0 (.ofNat 7)),(.int 0 a5),(.int 0 (.ofNat 0)),(.str 0 0),(.int 0 (.ofNat 0)),.ab,v69]) H70 λH71=>aZ 7 a4 H71 λv72=>K (.ret v72) H71))) (R.2.2.1 a0 (.str 1 123) M3 λo73 H74=>cR K o73 H74 λv75=>cH v75 λz76=>bI z76 (R.2.2.2.2.2.2.2 a0 a5 a1 H74 λo77 H78=>cR K o77 H78 λv79=>ak 7 a4 v79 H78 λWE=>aZ 7 a4 WE λv81=>K (.ret v81) WE) (x2 a0 a4 H74)))))))))))
theorem XU{R:fg}(hR:ng R){K:KF}{x3:rD}{x4:cq}{x5 x6:kB}{x2:gi}(h3:ND K x3)(h4:NF K x4)(h5:NG K x5)(h6:NH K x6)(h2:NC K x2):NA K (EV R K x3 x4 x5 x6 x2):=λa0 a1 a4 a5 a6 H h=>pk hR (cc h3 (cc h4 (cc h5 (cc h6 (cc h2 .nil))))) h
def NP(R:fg)(K:KF):rD:=EV R K (NI R K) (NJ R K) (NK R K) (NM R K) (NN R K)
theorem XV{R:fg}(hR:ng R){K:KF}:NA K (NP R K):=XU hR (XL hR) (XN hR) (XP hR) (XR hR) (XT hR)
def EW(R:fg)(K:KF)(x1:rD)(a0:AV)(a1:Int)(H:AH):Prop:=fW H (fl gPa (ay H) 41 λv1 H2=>R.2.1 a0 H2 λo3 H4=>cR K o3 H4 λv5=>cI 0 v5 λz6=>aI a0 (ag 0 a0 λv7=>af v7 H4 λv8=>aI a0 (ag 1 a0 λv9=>af v9 H4 λv10=>cI 0 v10 λz11=>cn 4 v8 (.int 0 z11) λv12=>aZ 4 v12 H4 λv13=>dx H4 (fW H4 (lA (ay H4) [(.int 0 (.ofNat 0)),(.str 0 0),(.int 0 (.ofNat 0)),(.int 0 (.ofNat 0))] λv14 iG=>bT (Nat.beq iG.n (Nat.succ H4.n)) (ak 4 v14 v13 iG λfy=>x1 a0 a1 v1 z6 v14 fy))))))
theorem XW{R:fg}(hR:ng R){K:KF}{x1:rD}(h1:NA K x1)(a0:AV)(a1:Int)(H:AH)(h:EW R K x1 a0 a1 H):fN 82 K [] (bL (ff 82) [a0,(.int 0 a1)]) [] H:=pk hR (cc h1 .nil) h
def ajW(R:fg)(K:KF):dP:=EW R K (NP R K)
def TF(R:fg):AV→Int→AH→KF→Prop:=λa0 a1 H K=>ajW R K a0 a1 H
theorem ahA(R:fg)(hR:ng R):aE gPa 82 (aD [.a,.i 0] (TF R)):=rk λK a0 a1 H h=>XW hR (XV hR) a0 a1 H h
abbrev cW:Type:=(AV→AH→KF→Prop)×(AV→AV→AH→KF→Prop)×(AV→AV→AH→KF→Prop)×(AV→Int→AH→KF→Prop)×(AV→AH→KF→Prop)×(AV→AV→AH→KF→Prop)×(AV→Int→Int→AH→KF→Prop)
def ajX(R:cW):List (Nat×eM):=[(39,aD [.a] R.1),(40,aD [.a,.a] R.2.1),(41,aD [.a,.a] R.2.2.1),(42,aD [.a,.i 0] R.2.2.2.1),(57,aD [.a] R.2.2.2.2.1),(59,aD [.a,.a] R.2.2.2.2.2.1),(76,aD [.a,.i 0,.i 0] R.2.2.2.2.2.2)]
abbrev iu(R:cW):Prop:=ad gPa (ajX R)
abbrev EX(K:KF)(F:oK):Prop:=ba 85 K [1,1,1,1] 123 [0,6,7] [.a,.a,.a] F
abbrev j3(K:KF)(F:dm):Prop:=ba 85 K [0,0,1,1,1] 123 [0,2,6,7,8] [.a,.i 0,.a,.a,.i 0] F
abbrev NQ(K:KF)(F:dm):Prop:=ba 85 K [1,0,1,0,0,0,1,1,1] 123 [0,2,6,7,8] [.a,.i 0,.a,.a,.i 0] F
abbrev wq(K:KF)(F:bE):Prop:=ba 85 K [1,1,1,0,1,0,0,0,1,1,1] 123 [0,2,6,7,8,9] [.a,.i 0,.a,.a,.i 0,.a] F
abbrev NR(K:KF)(F:dm):Prop:=ba 85 K [1,1,1,1,1,0,1,0,0,0,1,1,1] 123 [0,2,6,7,8] [.a,.i 0,.a,.a,.i 0] F
abbrev NS(K:KF)(F:bE):Prop:=ba 85 K [1,0,1,1,1,0,0,1,1,0,1,0,0,0,1,1,1] 123 [0,2,6,7,8,9] [.a,.i 0,.a,.a,.i 0,.a] F
abbrev NT(K:KF)(F:bE):Prop:=ba 85 K [0,1,1,1,1,1,0,0,1,1,0,1,0,0,0,1,1,1] 123 [0,2,6,7,8,9] [.a,.i 0,.a,.a,.i 0,.a] F
abbrev NU(K:KF)(F:bE):Prop:=ba 85 K [1,1,1,1,1,1,0,0,1,1,0,1,0,0,0,1,1,1] 123 [0,2,6,7,8,9] [.a,.i 0,.a,.a,.i 0,.a] F
abbrev NV(K:KF)(F:bE):Prop:=ba 85 K [1,0,1,1,1,1,1,0,0,1,1,0,1,0,0,0,1,1,1] 123 [0,2,6,7,8,9] [.a,.i 0,.a,.a,.i 0,.a] F
abbrev Iz(K:KF)(F:bE):Prop:=ba 85 K [1,1,1,1,1,1,1,0,0,1,1,0,1,0,0,0,1,1,1] 123 [0,2,6,7,8,9] [.a,.i 0,.a,.a,.i 0,.a] F
def EY(R:cW)(K:KF)(a0 a6 a7:AV)(H:AH):Prop:=R.2.2.2.2.2.1 a0 (.str 1 125) H λo1 H2=>cR K o1 H2 λv3=>aZ 7 a7 H2 λv4=>ak 7 a6 v4 H2 λH5=>aZ 7 a6 H5 λv6=>K (.ret v6) H5
theorem XX{R:cW}(hR:iu R){K:KF}:EX K (EY R K):=λa0 a6 a7 H h=>pk hR .nil h
def wu(R:cW)(K:KF):oK:=EY R K
theorem JI{R:cW}(hR:iu R){K:KF}:EX K (wu R K):=XX hR
def EZ(R:cW)(K:KF)(x2:dm)(x1:oK)(a0:AV)(a2:Int)(a6 a7:AV)(a8:Int)(H:AH):Prop:=R.2.1 a0 (.str 1 44) H λo1 H2=>cR K o1 H2 λv3=>cH v3 λz4=>bI (!z4) (R.2.1 a0 (.str 1 59) H2 λo5 H6=>cR K o5 H6 λv7=>cH v7 λz8=>bI (!z8) (x1 a0 a6 a7 H6) (x2 a0 a2 a6 a7 a8 H6)) (x2 a0 a2 a6 a7 a8 H2)
theorem XY{R:cW}(hR:iu R){K:KF}{x2:dm}{x1:oK}(h2:j3 K x2)(h1:EX K x1):NR K (EZ R K x2 x1):=λa0 a2 a6 a7 a8 H h=>pk hR (cc h2 (cc h1 .nil)) h
def E8(R:cW)(K:KF)(i2:dm):dm:=EZ R K i2 (wu R K)
theorem XZ{R:cW}(hR:iu R){K:KF}{i2:dm}(g2:j3 K i2):NR K (E8 R K i2):=XY hR g2 (JI hR)
def E9(R:cW)(K:KF)(x5:dm)(a0:AV)(a2:Int)(a6 a7:AV)(a8:Int)(a9:AV)(H:AH):Prop:=R.2.2.2.1 a0 a2 H λo1 H2=>cR K o1 H2 λv3=>fW H2 (fl gPa (ay H2) 41 λv4 H5=>ak 7 v4 v3 H5 λH6=>ag 5 a7 λv7=>af v7 H6 λv8=>aZ 7 a9 H6 λv9=>aZ 7 v4 H6 λv10=>onVal v9 λJH=>gv JH 7 (onVal v10 λl12=>gv l12 7 (aX (ay H6) 2 7 (spl l12 (spl JH [(.int 0 (.ofNat 0)),(.int 0 (.ofNat 0)),(.int 0 (.ofNat 0)),(.str 0 0),(.int 0 (.ofNat 0)),.ab,.ab,(.int 0 (.ofNat 0)),(.int 0 (.ofNat 0)),(.int 0 (.ofNat 0)),(.str 0 0),(.int 0 (.ofNat 0)),.ab,.ab] 0) 7) λv13 fw=>dw 7 96 v8 v13 fw λv15 fy=>ag 5 a7 λv17=>ak 1 v17 v15 fy λju=>x5 a0 a2 a6 a7 a8 ju)))
theorem X0{R:cW}(hR:iu R){K:KF}{x5:dm}(h5:NR K x5):wq K (E9 R K x5):=λa0 a2 a6 a7 a8 a9 H h=>pk hR (cc h5 .nil) h
def oV(R:cW)(K:KF)(i2:dm):bE:=E9 R K (E8 R K i2)
theorem uO{R:cW}(hR:iu R){K:KF}{i2:dm}(g2:j3 K i2):wq K (oV R K i2):=X0 hR (XZ hR g2)
def Fa(R:cW)(K:KF)(x4:bE)(a0:AV)(a2:Int)(a6 a7:AV)(a8:Int)(a9:AV)(H:AH):Prop:=R.2.2.2.2.1 a0 H λo1 H2=>cR K o1 H2 λv3=>ag 3 a9 λv4=>ak 1 v4 v3 H2 λH5=>R.2.2.2.2.2.1 a0 (.str 1 61) H5 λo6 H7=>cR K o6 H7 λv8=>x4 a0 a2 a6 a7 a8 a9 H7
theorem X1{R:cW}(hR:iu R){K:KF}{x4:bE}(h4:wq K x4):NV K (Fa R K x4):=λa0 a2 a6 a7 a8 a9 H h=>pk hR (cc h4 .nil) h
def NW(R:cW)(K:KF)(i2:dm):bE:=Fa R K (oV R K i2)
theorem X2{R:cW}(hR:iu R){K:KF}{i2:dm}(g2:j3 K i2):NV K (NW R K i2):=X1 hR (uO hR g2)
def Fb(R:cW)(K:KF)(x9:bE)(a0:AV)(a2:Int)(a6 a7:AV)(a8:Int)(a9:AV)(H:AH):Prop:=ag 0 a9 λv1=>ak 1 v1 (.int 0 (.ofNat 5)) H λH2=>x9 a0 a2 a6 a7 a8 a9 H2
theorem X3{R:cW}(hR:iu R){K:KF}{x9:bE}(h9:NV K x9):NT K (Fb R K x9):=λa0 a2 a6 a7 a8 a9 H h=>pk hR (cc h9 .nil) h
def NX(R:cW)(K:KF)(i2:dm):bE:=Fb R K (NW R K i2)
theorem X4{R:cW}(hR:iu R){K:KF}{i2:dm}(g2:j3 K i2):NT K (NX R K i2):=X3 hR (X2 hR g2)
def Fc(R:cW)(K:KF)(x4:bE)(a0:AV)(a2:Int)(a6 a7:AV)(a8:Int)(a9:AV)(H:AH):Prop:=R.2.2.2.2.2.1 a0 (.str 1 93) H λo1 H2=>cR K o1 H2 λv3=>R.2.2.2.2.2.1 a0 (.str 1 61) H2 λo4 H5=>cR K o4 H5 λv6=>x4 a0 a2 a6 a7 a8 a9 H5
theorem X5{R:cW}(hR:iu R){K:KF}{x4:bE}(h4:wq K x4):NS K (Fc R K x4):=λa0 a2 a6 a7 a8 a9 H h=>pk hR (cc h4 .nil) h
def NY(R:cW)(K:KF)(i2:dm):bE:=Fc R K (oV R K i2)
theorem X6{R:cW}(hR:iu R){K:KF}{i2:dm}(g2:j3 K i2):NS K (NY R K i2):=X5 hR (uO hR g2)
def AJ(R:cW)(K:KF)(x4:bE)(a0:AV)(a2:Int)(a6 a7:AV)(a8:Int)(a9:AV)(H:AH):Prop:=ag 0 a9 λv1=>ak 1 v1 (.int 0 (.ofNat 4)) H λH2=>ag 2 a9 λv3=>ak 1 v3 (.int 0 a8) H2 λH4=>x4 a0 a2 a6 a7 a8 a9 H4
theorem TG{R:cW}(hR:iu R){K:KF}{x4:bE}(h4:wq K x4):Iz K (AJ R K x4):=λa0 a2 a6 a7 a8 a9 H h=>pk hR (cc h4 .nil) h
def IA(R:cW)(K:KF)(i2:dm):bE:=AJ R K (oV R K i2)
theorem TH{R:cW}(hR:iu R){K:KF}{i2:dm}(g2:j3 K i2):Iz K (IA R K i2):=TG hR (uO hR g2)
def Fe(R:cW)(K:KF)(x10:bE)(a0:AV)(a2:Int)(a6 a7:AV)(a8:Int)(a9:AV)(H:AH):Prop:=aN 0 (Int.add a8 (.ofNat 1)) λz1=>x10 a0 a2 a6 a7 z1 a9 H
theorem X7{R:cW}(hR:iu R){K:KF}{x10:bE}(h10:Iz K x10):NU K (Fe R K x10):=λa0 a2 a6 a7 a8 a9 H h=>pk hR (cc h10 .nil) h
def Ff(R:cW)(K:KF)(i2:dm):bE:=Fe R K (IA R K i2)
theorem X8{R:cW}(hR:iu R){K:KF}{i2:dm}(g2:j3 K i2):NU K (Ff R K i2):=X7 hR (TH hR g2)
def Fg(R:cW)(K:KF)(x7 x6 x4 x8:bE)(a0:AV)(a2:Int)(a6 a7:AV)(a8:Int)(H:AH):Prop:=R.1 a0 H λo1 H2=>cR K o1 H2 λv3=>cI 0 v3 λz4=>fW H2 (fl gPa (ay H2) 41 λv5 H6=>ak 7 v5 (.agg [(.int 0 (.ofNat 0)),(.int 0 z4),(.int 0 (.ofNat 0)),(.str 0 0),(.int 0 (.ofNat 1)),.ab,.ab]) H6 λH7=>aI a0 (ag 2 a0 λv8=>af v8 H7 λv9=>cI 0 v9 λz10=>bI (!(cA z10 (.ofNat 0))) (x4 a0 a2 a6 a7 a8 v5 H7) (R.2.1 a0 (.str 1 91) H7 λmG bS=>cR K mG bS λv13=>cH v13 λEM=>bI EM (R.2.2.2.1 a0 a2 bS λNz fy=>cR K Nz fy λv17=>ak 7 v5 v17 fy λju=>x6 a0 a2 a6 a7 a8 v5 ju) (aI a0 (ag 0 a0 λv19=>af v19 bS λv20=>aI a0 (ag 1 a0 λv21=>af v21 bS λv22=>cI 0 v22 λz23=>cn 4 v20 (.int 0 z23) λv24=>ag 0 v24 λv25=>af v25 bS λv26=>cI 0 v26 λz27=>bI (cA z27 (.ofNat 2)) (aI a0 (ag 0 a0 λv28=>af v28 bS λv29=>aI a0 (ag 1 a0 λv30=>af v30 bS λv31=>cI 0 v31 λz32=>aN 0 (Int.add z32 (.ofNat 1)) λz33=>cn 4 v29 (.int 0 z33) λv34=>ag 0 v34 λv35=>af v35 bS λv36=>cI 0 v36 λz37=>bI (cA z37 (.ofNat 5)) (aI a0 (ag 0 a0 λv38=>af v38 bS λv39=>aI a0 (ag 1 a0 λv40=>af v40 bS λv41=>cI 0 v41 λz42=>aN 0 (Int.add z42 (.ofNat 1)) λz43=>cn 4 v39 (.int 0 z43) λv44=>ag 1 v44 λv45=>af v45 bS λv46=>yg v46 (.str 1 61) λv47=>cH v47 λz48=>bI z48 (x7 a0 a2 a6 a7 a8 v5 bS) (x8 a0 a2 a6 a7 a8 v5 bS)))) (x8 a0 a2 a6 a7 a8 v5 bS)))) (x8 a0 a2 a6 a7 a8 v5 bS)))))))
theorem X9{R:cW}(hR:iu R){K:KF}{x7 x6 x4 x8:bE}(h7:NT K x7)(h6:NS K x6)(h4:wq K x4)(h8:NU K x8):NQ K (Fg R K x7 x6 x4 x8):=λa0 a2 a6 a7 a8 H h=>pk hR (cc h7 (cc h6 (cc h4 (cc h8 .nil)))) h
def Fh(R:cW)(K:KF)(i2:dm):dm:=Fg R K (NX R K i2) (NY R K i2) (oV R K i2) (Ff R K i2)
theorem Ya{R:cW}(hR:iu R){K:KF}{i2:dm}(g2:j3 K i2):NQ K (Fh R K i2):=X9 hR (X4 hR g2) (X6 hR g2) (uO hR g2) (X8 hR g2)
def Fi(R:cW)(K:KF)(x3:dm)(x1:oK)(a0:AV)(a2:Int)(a6 a7:AV)(a8:Int)(H:AH):Prop:=aI a0 (ag 2 a0 λv1=>af v1 H λv2=>cI 0 v2 λz3=>bI (cA z3 (.ofNat 0)) (R.2.2.1 a0 (.str 1 125) H λo4 H5=>cR K o4 H5 λv6=>cH v6 λz7=>bI (!z7) (ag 5 a7 λv8=>af v8 H5 λv9=>eP v9 λv10=>cI 0 v10 λz11=>bI (cA (.ofNat 2) 0) False (aN 0 (Int.tdiv z11 (.ofNat 2)) λz12=>R.2.2.2.2.2.2 a0 z12 (.ofNat 64) H5 λrG fw=>cR K rG fw λv15=>x3 a0 a2 a6 a7 a8 fw)) (x1 a0 a6 a7 H5)) (x1 a0 a6 a7 H))
theorem Yb{R:cW}(hR:iu R){K:KF}{x3:dm}{x1:oK}(h3:NQ K x3)(h1:EX K x1):j3 K (Fi R K x3 x1):=λa0 a2 a6 a7 a8 H h=>pk hR (cc h3 (cc h1 .nil)) h
def NZ(R:cW)(K:KF)(i2:dm):dm:=Fi R K (Fh R K i2) (wu R K)
theorem Yc{R:cW}(hR:iu R){K:KF}{i2:dm}(g2:j3 K i2):j3 K (NZ R K i2):=Yb hR (Ya hR g2) (JI hR)
def Fj(R:cW)(K:KF)(n:Nat):dm:=Nat.rec (motive:=λ_=>dm) (λ_ _ _ _ _ _=>False) (λ_ i=>NZ R K i) n
theorem Yd{R:cW}(hR:iu R){K:KF}(n:Nat):j3 K (Fj R K n):=Nat.rec (motive:=λn=>j3 K (Fj R K n)) (λa0 a2 a6 a7 a8 H h=>h.elim) (λn ih=>Yc hR ih) n
def N8(R:cW)(K:KF)(x2:dm)(a0:AV)(a1 a2:Int)(H:AH):Prop:=fW H (fl gPa (ay H) 41 λv1 H2=>fW H2 (fl gPa (ay H2) 41 λv3 H4=>ak 7 v3 (.agg [(.int 0 (.ofNat 8)),(.int 0 a1),(.int 0 (.ofNat 0)),(.str 0 0),(.int 0 (.ofNat 0)),.ab,.ab]) H4 λH5=>x2 a0 a2 v1 v3 (.ofNat 0) H5))
theorem Ye{R:cW}(hR:iu R){K:KF}{x2:dm}(h2:j3 K x2)(a0:AV)(a1 a2:Int)(H:AH)(h:N8 R K x2 a0 a1 a2 H):fN 85 K [] (bL (ff 85) [a0,(.int 0 a1),(.int 0 a2)]) [] H:=pk hR (cc h2 .nil) h
def Yf(R:cW)(K:KF):j2:=N8 R K (Fj R K NL)
def Fk(R:cW):AV→Int→Int→AH→KF→Prop:=λa0 a1 a2 H K=>Yf R K a0 a1 a2 H
theorem ahB(R:cW)(hR:iu R):aE gPa 85 (aD [.a,.i 0,.i 0] (Fk R)):=rk λK a0 a1 a2 H h=>Ye hR (Yd hR NL) a0 a1 a2 H h
abbrev sA:Type:=(AV→Int→AH→KF→Prop)×(AV→Int→AH→KF→Prop)×(AV→AV→Int→AH→KF→Prop)×(AV→Int→Int→AH→KF→Prop)×(AV→Int→AH→KF→Prop)×(AV→AV→Int→AH→KF→Prop)×(AV→Int→AH→KF→Prop)×(AV→Int→AH→KF→Prop)×(AV→Int→AH→KF→Prop)×(AV→Int→Int→AH→KF→Prop)
def cL(S:sA):eQ:=(f18,f37,f38,f39,f40,f41,S.2.1,S.2.2.1)
def wv(S:sA):uN:=(f37,S.2.2.2.1)
def bg(S:sA):bB:=(S.1,f18,f39,f40,f41,S.2.1,f57,S.2.2.2.2.1,f59,S.2.2.2.2.2.1)
def dX(S:sA):dE:=(f39,f41,S.2.2.2.1,S.2.2.2.2.2.2.1,S.2.2.2.2.2.2.2.1)
def fO(S:sA):gE:=(S.1,f40,f57,f59,f76)
def dy(S:sA):dc:=(f39,f40,S.2.1,f57,f59,f76)
def nJ(S:sA):pn:=(f37,f39,f40,S.2.2.2.1,S.2.2.2.2.2.2.1)
def nK(S:sA):po:=(f37,f39,f40,S.2.2.2.2.2.2.2.1,S.2.2.2.2.2.2.2.2.1)
def fP(S:sA):fg:=(f18,f39,f40,S.2.1,S.2.2.2.2.1,f59,S.2.2.2.2.2.1,S.2.2.2.2.2.2.2.2.2)
def cM(S:sA):cW:=(f39,f40,f41,S.2.1,f57,f59,f76)
noncomputable def s10(n:Nat):sA:=Nat.rec (motive:=λ_=>sA) (λ_ _ _ _=>False,λ_ _ _ _=>False,λ_ _ _ _ _=>False,λ_ _ _ _ _=>False,λ_ _ _ _=>False,λ_ _ _ _ _=>False,λ_ _ _ _=>False,λ_ _ _ _=>False,λ_ _ _ _=>False,λ_ _ _ _ _=>False) (λ_ S=>(DY (cL S),Tk (wv S),Eb (bg S),Em (dX S),Ew (fO S),EJ (dy S),TD (nJ S),TE (nK S),TF (fP S),Fk (cM S))) n
theorem ajY(n:Nat):aE gPa 17 (aD [.a,.i 0] (s10 n).1)∧aE gPa 42 (aD [.a,.i 0] (s10 n).2.1)∧aE gPa 43 (aD [.a,.a,.i 0] (s10 n).2.2.1)∧aE gPa 56 (aD [.a,.i 0,.i 0] (s10 n).2.2.2.1)∧aE gPa 58 (aD [.a,.i 0] (s10 n).2.2.2.2.1)∧aE gPa 60 (aD [.a,.a,.i 0] (s10 n).2.2.2.2.2.1)∧aE gPa 74 (aD [.a,.i 0] (s10 n).2.2.2.2.2.2.1)∧aE gPa 75 (aD [.a,.i 0] (s10 n).2.2.2.2.2.2.2.1)∧aE gPa 82 (aD [.a,.i 0] (s10 n).2.2.2.2.2.2.2.2.1)∧aE gPa 85 (aD [.a,.i 0,.i 0] (s10 n).2.2.2.2.2.2.2.2.2):=by
 induction n with
 |zero=>exact⟨hN [.a,.i 0],hN [.a,.i 0],hN [.a,.a,.i 0],hN [.a,.i 0,.i 0],hN [.a,.i 0],hN [.a,.a,.i 0],hN [.a,.i 0],hN [.a,.i 0],hN [.a,.i 0],hN [.a,.i 0,.i 0]⟩
 |succ n ih=>exact⟨ahs (cL (s10 n)) (ad.cons rF (ad.cons Dy (ad.cons ajw (ad.cons rI (ad.cons qf (ad.cons vZ (ad.cons (ih.2.1) (ad.cons (ih.2.2.1) ad.nil)))))))),aht (wv (s10 n)) (ad.cons Dy (ad.cons (ih.2.2.2.1) ad.nil)),ahu (bg (s10 n)) (ad.cons (ih.1) (ad.cons rF (ad.cons rI (ad.cons qf (ad.cons vZ (ad.cons (ih.2.1) (ad.cons DI (ad.cons (ih.2.2.2.2.1) (ad.cons zt (ad.cons (ih.2.2.2.2.2.1) ad.nil)))))))))),ahv (dX (s10 n)) (ad.cons rI (ad.cons vZ (ad.cons (ih.2.2.2.1) (ad.cons (ih.2.2.2.2.2.2.1) (ad.cons (ih.2.2.2.2.2.2.2.1) ad.nil))))),ahw (fO (s10 n)) (ad.cons (ih.1) (ad.cons qf (ad.cons DI (ad.cons zt (ad.cons MA ad.nil))))),ahx (dy (s10 n)) (ad.cons rI (ad.cons qf (ad.cons (ih.2.1) (ad.cons DI (ad.cons zt (ad.cons MA ad.nil)))))),ahy (nJ (s10 n)) (ad.cons Dy (ad.cons rI (ad.cons qf (ad.cons (ih.2.2.2.1) (ad.cons (ih.2.2.2.2.2.2.1) ad.nil))))),ahz (nK (s10 n)) (ad.cons Dy (ad.cons rI (ad.cons qf (ad.cons (ih.2.2.2.2.2.2.2.1) (ad.cons (ih.2.2.2.2.2.2.2.2.1) ad.nil))))),ahA (fP (s10 n)) (ad.cons rF (ad.cons rI (ad.cons qf (ad.cons (ih.2.1) (ad.cons (ih.2.2.2.2.1) (ad.cons zt (ad.cons (ih.2.2.2.2.2.1) (ad.cons (ih.2.2.2.2.2.2.2.2.2) ad.nil)))))))),ahB (cM (s10 n)) (ad.cons rI (ad.cons qf (ad.cons vZ (ad.cons (ih.2.1) (ad.cons DI (ad.cons zt (ad.cons MA ad.nil)))))))⟩
def f17:AV→Int→AH→KF→Prop:=(s10 NL).1
theorem ajZ:aE gPa 17 (aD [.a,.i 0] f17):=(ajY NL).1
abbrev qi:Type:=(AV→AH→KF→Prop)×(AV→Int→AH→KF→Prop)×(AV→Int→AH→KF→Prop)
def amf(R:qi):List (Nat×eM):=[(16,aD [.a] R.1),(17,aD [.a,.i 0] R.2.1),(18,aD [.a,.i 0] R.2.2)]
abbrev TI(R:qi):Prop:=ad gPa (amf R)
abbrev TJ(K:KF)(F:gi):Prop:=ba 7 K [1,1,1,1,1,1] 60 [8,9] [.a,.a] F
def Kj(R:qi)(K:KF)(a8 a9:AV)(H:AH):Prop:=aI a8 (ag 2 a8 λv1=>af v1 H λv2=>cI 0 v2 λz3=>bI (!(cA z3 (.ofNat 0))) (aI a8 (ag 2 a8 λv4=>af v4 H λv5=>cI 0 v5 λz6=>aI a8 (ag 3 a8 λv7=>af v7 H λv8=>cI 0 v8 λz9=>K (.ret (.bF [.ab,(.int 0 z6),(.int 0 z9)])) H))) (K (.ret (.bF [a9,(.int 0 (.ofNat 0)),(.int 0 (.ofNat 0))])) H))
theorem aeV{R:qi}(hR:TI R){K:KF}:TJ K (Kj R K):=λa8 a9 H h=>pk hR .nil h
def TK(R:qi)(K:KF):gi:=Kj R K
theorem aeW{R:qi}(hR:TI R){K:KF}:TJ K (TK R K):=aeV hR
def TL(R:qi)(K:KF)(x1:gi)(a0:AV)(H:AH):Prop:=R.1 a0 H λo1 H2=>cR K o1 H2 λv3=>na v3 λl4=>jd l4 0 λv5=>na v3 λl6=>jd l6 1 λv7=>cI 0 v7 λz8=>na v3 λl9=>jd l9 2 λv10=>cI 0 v10 λz11=>bI (!(cA z8 (.ofNat 0))) (K (.ret (.bF [.ab,(.int 0 z8),(.int 0 z11)])) H2) (one v5 (lA (ay H2) [v5,(.int 0 (.ofNat 0)),(.int 0 (.ofNat 0)),(.int 0 (.ofNat 0))] λv12 ln=>R.2.1 v12 (.ofNat 0) ln λYg iG=>cR K Yg iG λv16=>aI v12 (ag 2 v12 λv17=>af v17 iG λv18=>cI 0 v18 λMZ=>bI (cA MZ (.ofNat 0)) (aI v12 (ag 0 v12 λv20=>af v20 iG λv21=>aI v12 (ag 1 v12 λv22=>af v22 iG λv23=>cI 0 v23 λz24=>cn 4 v21 (.int 0 z24) λv25=>ag 0 v25 λv26=>af v26 iG λv27=>cI 0 v27 λz28=>bI (!(cA z28 (.ofNat 0))) (R.2.2 v12 (.ofNat 14) iG λXu yp=>cR K Xu yp λv31=>x1 v12 v16 yp) (x1 v12 v16 iG)))) (x1 v12 v16 iG))))
theorem aeX{R:qi}(hR:TI R){K:KF}{x1:gi}(h1:TJ K x1)(a0:AV)(H:AH)(h:TL R K x1 a0 H):fN 7 K [] (bL (ff 7) [a0]) [] H:=pk hR (cc h1 .nil) h
def af6(R:qi)(K:KF):Ta:=TL R K (TK R K)
def TM(R:qi):AV→AH→KF→Prop:=λa0 H K=>af6 R K a0 H
theorem aj0(R:qi)(hR:TI R):aE gPa 7 (aD [.a] (TM R)):=rk λK a0 H h=>aeX hR (aeW hR) a0 H h
end Go.Proofs.YtcedghechlgecaaDoor.G
