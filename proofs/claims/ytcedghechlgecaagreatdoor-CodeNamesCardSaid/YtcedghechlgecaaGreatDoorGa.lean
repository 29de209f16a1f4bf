/- The functions of the parser, by program. No condition. -/
import Derived.Test.YtcedghechlgecaaGreatDoorYa
import Derived.Test.YtcedghechlgecaaGreatDoorChecked
set_option maxRecDepth 100000
set_option maxHeartbeats 0
set_option linter.unusedVariables false
set_option linter.unusedSimpArgs false
namespace Go.Proofs.YtcedghechlgecaaGreatDoor.G
open Go Go.X
noncomputable abbrev gPa:Program:=Tryz.prog
abbrev NL:Nat:=1000000
theorem mix:gPa.follows .mixedOrders=true:=by kernel_rfl
noncomputable def cv(n:Nat):Func:=(gPa.funcs[n]?).getD default
noncomputable def gBd(n:Nat):Code:=(cv n).body.getD .skip
abbrev cx(n:Nat)(K:KF):List Nat→BZ:=B4 gPa (gBd n) (Y9 gPa PA (cv n) K)
abbrev aN(n:Nat)(K:KF)(p:List Nat)(m:Nat)(s:List Nat)(t:List Ty)(F:tz (AH→Prop) t):Prop:=anc gPa (gBd n) (Y9 gPa PA (cv n) K) p m s t F
theorem pk{ct:List (Nat×bQ)}(hR:ad gPa ct){b:Code}{Q:KT}{t:B6}{p:List Nat}{env:List AV}{H:AH}(ht:nF gPa b Q t){A:Prop}(h:A)(e:A=Pw (fY ct) (Dk gPa (fY ct)) gPa gPa.globals.size b (FO t) Q 400 p env [] H:=by kernel_rfl):B4 gPa b Q p env [] H:=
 agr (wF hR) (Pu mix _ (wF hR)) ht (Eq.mp e h)
theorem cc{b:Code}{Q:KT}{p:List Nat}{n:Nat}{s:List Nat}{l:List Ty}{F:tz (AH→Prop) l}{t:B6}(h:anc gPa b Q p n s l F)(ht:nF gPa b Q t):nF gPa b Q ((p,auR n s l F)::t):=nF.cons (auS h) ht
theorem rk{g:Nat}{l:List Ty}{F:tz (AH→KF→Prop) l}(h:∀K,oZ l F λr a=>∀H,r H K→cx g K [] (aT (cv g) a) [] H)(hf:gPa.funcs[g]? = some (cv g):=by kernel_rfl)(hc:(cv g).body=some (gBd g):=by kernel_rfl):an gPa g (ai l F):=an.aqX hf hc h
abbrev T_:Type:=AH→Prop
abbrev Ta:Type:=AV→AH→Prop
abbrev aU:Type:=AV→AV→AH→Prop
abbrev bf:Type:=AV→AV→AV→AH→Prop
abbrev ib:Type:=AV→AV→AV→AV→AH→Prop
abbrev ay:Type:=AV→AV→AV→Int→AH→Prop
abbrev G9:Type:=AV→AV→AV→Int→AV→AH→Prop
abbrev mX:Type:=AV→AV→Bool→AH→Prop
abbrev da:Type:=AV→AV→Int→AH→Prop
abbrev aB:Type:=AV→AV→Int→Int→AH→Prop
abbrev kM:Type:=AV→Int→AH→Prop
abbrev azc:Type:=AV→Int→AV→AH→Prop
abbrev s9:Type:=AV→Int→AV→AV→AH→Prop
abbrev kZ:Type:=AV→Int→AV→AV→Bool→AH→Prop
abbrev pz:Type:=AV→Int→AV→Int→Int→AH→Prop
abbrev wK:Type:=AV→Int→Int→AH→Prop
abbrev auW:Type:=Int→Int→Int→AV→AV→AH→Prop
abbrev yf:Type:=Unit
def auX(R:yf):List (Nat×bQ):=[]
abbrev apo(R:yf):Prop:=ad gPa (auX R)
def zq(R:yf)(K:KF)(a0:AV)(H:AH):Prop:=cm H (dC (aA H) [(.int 0 (.ofNat 0)),(.str 0 0),(.int 0 (.ofNat 0)),(.int 0 (.ofNat 0))] λv1 H2=>aC a0 (ah 0 a0 λv3=>af v3 H2 λv4=>aC a0 (ah 1 a0 λv5=>af v5 H2 λv6=>cI 0 v6 λz7=>cw 4 v4 (.int 0 z7) λv8=>aM 4 v8 H2 λv9=>ag 4 v1 v9 H2 λbo=>aM 4 v1 bo λv11=>K (.ret v11) bo)))
theorem agA{R:yf}(hR:apo R){K:KF}(a0:AV)(H:AH)(h:zq R K a0 H):cx 23 K [] (aT (cv 23) [a0]) [] H:=pk hR .nil h
def auY(R:yf)(K:KF):Ta:=zq R K
def apq(R:yf):AV→AH→KF→Prop:=λa0 H K=>auY R K a0 H
theorem aq4(R:yf)(hR:apo R):an gPa 23 (ai [.a] (apq R)):=rk λK a0 H h=>agA hR a0 H h
def Hj:yf:=()
def f23:AV→AH→KF→Prop:=apq Hj
theorem jR:an gPa 23 (ai [.a] f23):=aq4 Hj ad.nil
abbrev yg:Type:=Unit
def auZ(R:yg):List (Nat×bQ):=[]
abbrev apr(R:yg):Prop:=ad gPa (auZ R)
def Hl(R:yg)(K:KF)(a0:AV)(a1:Int)(H:AH):Prop:=aC a0 (ah 3 a0 λv1=>ag 1 v1 (.int 0 a1) H λH2=>rU (.iface 57 (.agg [])) (K (.cj (.iface 57 (.agg []))) H2))
theorem agB{R:yg}(hR:apr R){K:KF}(a0:AV)(a1:Int)(H:AH)(h:Hl R K a0 a1 H):cx 25 K [] (aT (cv 25) [a0,(.int 0 a1)]) [] H:=pk hR .nil h
def au0(R:yg)(K:KF):kM:=Hl R K
def aps(R:yg):AV→Int→AH→KF→Prop:=λa0 a1 H K=>au0 R K a0 a1 H
theorem aq5(R:yg)(hR:apr R):an gPa 25 (ai [.a,.i 0] (aps R)):=rk λK a0 a1 H h=>agB hR a0 a1 H h
def PL:yg:=()
def f25:AV→Int→AH→KF→Prop:=aps PL
theorem pA:an gPa 25 (ai [.a,.i 0] f25):=aq5 PL ad.nil
abbrev yh:Type:=(AV→Int→AH→KF→Prop)
def au1(R:yh):List (Nat×bQ):=[(25,ai [.a,.i 0] R)]
abbrev apt(R:yh):Prop:=ad gPa (au1 R)
def Hm(R:yh)(K:KF)(a0:AV)(H:AH):Prop:=aC a0 (ah 2 a0 λv1=>af v1 H λv2=>cI 0 v2 λz3=>aJ 0 (Int.add z3 (.ofNat 1)) λz4=>aC a0 (ah 2 a0 λv5=>ag 1 v5 (.int 0 z4) H λH6=>aC a0 (ah 2 a0 λv7=>af v7 H6 λv8=>cI 0 v8 λz9=>bI (bO (.ofNat 100) z9) (R a0 (.ofNat 8) H6 λpB dq=>cR K pB dq λv12=>K (.ret (.aE [])) dq) (K (.ret (.aE [])) H6))))
theorem agC{R:yh}(hR:apt R){K:KF}(a0:AV)(H:AH)(h:Hm R K a0 H):cx 53 K [] (aT (cv 53) [a0]) [] H:=pk hR .nil h
def au2(R:yh)(K:KF):Ta:=Hm R K
def apu(R:yh):AV→AH→KF→Prop:=λa0 H K=>au2 R K a0 H
theorem aq6(R:yh)(hR:apt R):an gPa 53 (ai [.a] (apu R)):=rk λK a0 H h=>agC hR a0 H h
def Hn:yh:=(f25)
def f53:AV→AH→KF→Prop:=apu Hn
theorem Ho:an gPa 53 (ai [.a] f53):=aq6 Hn (ad.cons pA ad.nil)
abbrev yi:Type:=(AV→AH→KF→Prop)
def au3(R:yi):List (Nat×bQ):=[(23,ai [.a] R)]
abbrev apv(R:yi):Prop:=ad gPa (au3 R)
def Hp(R:yi)(K:KF)(a0 a1:AV)(H:AH):Prop:=R a0 H λo1 H2=>cR K o1 H2 λv3=>cm H2 (dC (aA H2) [(.int 0 (.ofNat 0)),(.str 0 0),(.int 0 (.ofNat 0)),(.int 0 (.ofNat 0))] λv4 H5=>ag 4 v4 v3 H5 λH6=>ah 0 v4 λv7=>af v7 H6 λv8=>cI 0 v8 λz9=>bI (aV z9 (.ofNat 1)) (ah 1 v4 λv10=>af v10 H6 λv11=>wo v11 a1 λv12=>bC v12 λz13=>K (.ret (.bool z13)) H6) (ah 0 v4 λv14=>af v14 H6 λv15=>cI 0 v15 λlK=>bI (aV lK (.ofNat 5)) (ah 1 v4 λv17=>af v17 H6 λv18=>wo v18 a1 λv19=>bC v19 λz20=>K (.ret (.bool z20)) H6) (K (.ret (.bool false)) H6)))
theorem agD{R:yi}(hR:apv R){K:KF}(a0 a1:AV)(H:AH)(h:Hp R K a0 a1 H):cx 94 K [] (aT (cv 94) [a0,a1]) [] H:=pk hR .nil h
def au4(R:yi)(K:KF):aU:=Hp R K
def apw(R:yi):AV→AV→AH→KF→Prop:=λa0 a1 H K=>au4 R K a0 a1 H
theorem aq7(R:yi)(hR:apv R):an gPa 94 (ai [.a,.a] (apw R)):=rk λK a0 a1 H h=>agD hR a0 a1 H h
def Hq:yi:=(f23)
def f94:AV→AV→AH→KF→Prop:=apw Hq
theorem tC:an gPa 94 (ai [.a,.a] f94):=aq7 Hq (ad.cons jR ad.nil)
abbrev yj:Type:=(AV→AH→KF→Prop)×(AV→AV→AH→KF→Prop)
def au5(R:yj):List (Nat×bQ):=[(23,ai [.a] R.1),(94,ai [.a,.a] R.2)]
abbrev apx(R:yj):Prop:=ad gPa (au5 R)
def Hr(R:yj)(K:KF)(a0:AV)(H:AH):Prop:=R.2 a0 (.str 3 6581861) H λo1 H2=>cR K o1 H2 λv3=>bC v3 λz4=>bI z4 (K (.ret (.bool true)) H2) (R.2 a0 (.str 4 1702063205) H2 λo5 H6=>cR K o5 H6 λv7=>bC v7 λz8=>bI z8 (K (.ret (.bool true)) H6) (R.2 a0 (.str 6 112602859662437) H6 λo9 bo=>cR K o9 bo λv11=>bC v11 λz12=>bI z12 (K (.ret (.bool true)) bo) (R.2 a0 (.str 5 465625706101) bo λwL dG=>cR K wL dG λv15=>bC v15 λlK=>bI lK (K (.ret (.bool true)) dG) (R.1 a0 dG λtD eB=>cR K tD eB λv19=>fW v19 λPM=>cE PM 0 λv21=>cI 0 v21 λz22=>K (.ret (.bool (aV z22 (.ofNat 0)))) eB))))
theorem agE{R:yj}(hR:apx R){K:KF}(a0:AV)(H:AH)(h:Hr R K a0 H):cx 54 K [] (aT (cv 54) [a0]) [] H:=pk hR .nil h
def au6(R:yj)(K:KF):Ta:=Hr R K
def apy(R:yj):AV→AH→KF→Prop:=λa0 H K=>au6 R K a0 H
theorem aq8(R:yj)(hR:apx R):an gPa 54 (ai [.a] (apy R)):=rk λK a0 H h=>agE hR a0 H h
def Cc:yj:=(f23,f94)
def f54:AV→AH→KF→Prop:=apy Cc
theorem agF:an gPa 54 (ai [.a] f54):=aq8 Cc (ad.cons jR (ad.cons tC ad.nil))
abbrev yk:Type:=(AV→AV→AH→KF→Prop)
def au7(R:yk):List (Nat×bQ):=[(94,ai [.a,.a] R)]
abbrev apz(R:yk):Prop:=ad gPa (au7 R)
def Hs(R:yk)(K:KF)(a0 a1:AV)(H:AH):Prop:=R a0 a1 H λo1 H2=>cR K o1 H2 λv3=>bC v3 λz4=>bI (!z4) (K (.ret (.bool false)) H2) (aC a0 (ah 1 a0 λv5=>af v5 H2 λv6=>cI 0 v6 λz7=>aJ 0 (Int.add z7 (.ofNat 1)) λz8=>aC a0 (ah 1 a0 λv9=>ag 1 v9 (.int 0 z8) H2 λbo=>K (.ret (.bool true)) bo)))
theorem agG{R:yk}(hR:apz R){K:KF}(a0 a1:AV)(H:AH)(h:Hs R K a0 a1 H):cx 56 K [] (aT (cv 56) [a0,a1]) [] H:=pk hR .nil h
def au8(R:yk)(K:KF):aU:=Hs R K
def apA(R:yk):AV→AV→AH→KF→Prop:=λa0 a1 H K=>au8 R K a0 a1 H
theorem aq9(R:yk)(hR:apz R):an gPa 56 (ai [.a,.a] (apA R)):=rk λK a0 a1 H h=>agG hR a0 a1 H h
def Ht:yk:=(f94)
def f56:AV→AV→AH→KF→Prop:=apA Ht
theorem jB:an gPa 56 (ai [.a,.a] f56):=aq9 Ht (ad.cons tC ad.nil)
abbrev tG:Type:=Unit
def ara(R:tG):List (Nat×bQ):=[]
abbrev agH(R:tG):Prop:=ad gPa (ara R)
def Dq(R:tG)(K:KF)(a0 a1 a2:Int)(a3 a4:AV)(H:AH):Prop:=kc (aA H) a3 λv1 H2=>kc (aA H2) a4 λv3 H4=>cm H4 (cW gPa (aA H4) 49 λv5 H6=>aM 7 v1 H6 λv7=>aM 7 v3 H6 λv8=>onVal v7 λl9=>iE l9 7 (onVal v8 λl10=>iE l10 7 (bG (aA H6) 2 7 (spl l10 (spl l9 [(.int 0 (.ofNat 0)),(.int 0 (.ofNat 0)),(.int 0 (.ofNat 0)),(.str 0 0),(.int 0 (.ofNat 0)),.ab,.ab,(.int 0 (.ofNat 0)),(.int 0 (.ofNat 0)),(.int 0 (.ofNat 0)),(.str 0 0),(.int 0 (.ofNat 0)),.ab,.ab] 0) 7) λv11 cU=>one v11 (ag 7 v5 (.agg [(.int 0 a0),(.int 0 a2),(.int 0 (.ofNat 0)),(.str 0 0),(.int 0 a1),v11,.ab]) cU λdj=>aM 7 v5 dj λv14=>K (.ret v14) dj))))
theorem Zs{R:tG}(hR:agH R){K:KF}(a0 a1 a2:Int)(a3 a4:AV)(H:AH)(h:Dq R K a0 a1 a2 a3 a4 H):cx 164 K [] (aT (cv 164) [(.int 0 a0),(.int 0 a1),(.int 0 a2),a3,a4]) [] H:=pk hR .nil h
def arb(R:tG)(K:KF):auW:=Dq R K
def agI(R:tG):Int→Int→Int→AV→AV→AH→KF→Prop:=λa0 a1 a2 a3 a4 H K=>arb R K a0 a1 a2 a3 a4 H
theorem anj(R:tG)(hR:agH R):an gPa 164 (ai [.i 0,.i 0,.i 0,.a,.a] (agI R)):=rk λK a0 a1 a2 a3 a4 H h=>Zs hR a0 a1 a2 a3 a4 H h
def JI:tG:=()
def f164:Int→Int→Int→AV→AV→AH→KF→Prop:=agI JI
theorem sa:an gPa 164 (ai [.i 0,.i 0,.i 0,.a,.a] f164):=anj JI ad.nil
abbrev iP:Type:=(AV→AV→AH→KF→Prop)
def arc(R:iP):List (Nat×bQ):=[(56,ai [.a,.a] R)]
abbrev wM(R:iP):Prop:=ad gPa (arc R)
abbrev JJ(K:KF)(F:T_):Prop:=aN 193 K [1,1] 23 [] [] F
abbrev sb(K:KF)(F:pz):Prop:=aN 193 K [0,1,0,1] 23 [0,1,9,10,11] [.a,.i 0,.a,.i 0,.i 0] F
def Dr(R:iP)(K:KF)(H:AH):Prop:=K (.ret (.int 0 (.ofNat 0))) H
theorem Zt{R:iP}(hR:wM R){K:KF}:JJ K (Dr R K):=λH h=>pk hR .nil h
def Vc(R:iP)(K:KF):T_:=Dr R K
theorem Zu{R:iP}(hR:wM R){K:KF}:JJ K (Vc R K):=Zt hR
def Ds(R:iP)(K:KF)(x2:pz)(x1:T_)(a0:AV)(a1:Int)(a9:AV)(a10 a11:Int)(H:AH):Prop:=bI (bO a11 a10) (cw 1 a9 (.int 0 a11) λv1=>af v1 H λv2=>R a0 v2 H λo3 H4=>cR K o3 H4 λv5=>bC v5 λz6=>bI z6 (aJ 0 (Int.add a1 a11) λz7=>K (.ret (.int 0 z7)) H4) (aJ 0 (Int.add a11 (.ofNat 1)) λz8=>x2 a0 a1 a9 a10 z8 H4)) (x1 H)
theorem Zv{R:iP}(hR:wM R){K:KF}{x2:pz}{x1:T_}(h2:sb K x2)(h1:JJ K x1):sb K (Ds R K x2 x1):=λa0 a1 a9 a10 a11 H h=>pk hR (cc h2 (cc h1 .nil)) h
def Vd(R:iP)(K:KF)(i2:pz):pz:=Ds R K i2 (Vc R K)
theorem Zw{R:iP}(hR:wM R){K:KF}{i2:pz}(g2:sb K i2):sb K (Vd R K i2):=Zv hR g2 (Zu hR)
def sd(R:iP)(K:KF)(n:Nat):pz:=Nat.rec (motive:=λ_=>pz) (λ_ _ _ _ _ _=>False) (λ_ i=>Vd R K i) n
theorem Zx{R:iP}(hR:wM R){K:KF}(n:Nat):sb K (sd R K n):=Nat.rec (motive:=λn=>sb K (sd R K n)) (λa0 a1 a9 a10 a11 H h=>h.elim) (λn ih=>Zw hR ih) n
def Dt(R:iP)(K:KF)(x2:pz)(a0:AV)(a1:Int)(a2:AV)(H:AH):Prop:=bR a2 λv1=>cI 0 v1 λz2=>x2 a0 a1 a2 z2 (.ofNat 0) H
theorem Zy{R:iP}(hR:wM R){K:KF}{x2:pz}(h2:sb K x2)(a0:AV)(a1:Int)(a2:AV)(H:AH)(h:Dt R K x2 a0 a1 a2 H):cx 193 K [] (aT (cv 193) [a0,(.int 0 a1),a2]) [] H:=pk hR (cc h2 .nil) h
def ard(R:iP)(K:KF):azc:=Dt R K (sd R K NL)
def agJ(R:iP):AV→Int→AV→AH→KF→Prop:=λa0 a1 a2 H K=>ard R K a0 a1 a2 H
theorem ank(R:iP)(hR:wM R):an gPa 193 (ai [.a,.i 0,.a] (agJ R)):=rk λK a0 a1 a2 H h=>Zy hR (Zx hR NL) a0 a1 a2 H h
def mR:iP:=(f56)
def f193:AV→Int→AV→AH→KF→Prop:=agJ mR
theorem JK:an gPa 193 (ai [.a,.i 0,.a] f193):=ank mR (ad.cons jB ad.nil)
abbrev yl:Type:=(AV→Int→AH→KF→Prop)×(AV→AV→AH→KF→Prop)
def au9(R:yl):List (Nat×bQ):=[(25,ai [.a,.i 0] R.1),(56,ai [.a,.a] R.2)]
abbrev apB(R:yl):Prop:=ad gPa (au9 R)
def Hu(R:yl)(K:KF)(a0 a1:AV)(H:AH):Prop:=R.2 a0 a1 H λo1 H2=>cR K o1 H2 λv3=>bC v3 λz4=>bI (!z4) (R.1 a0 (.ofNat 14) H2 λo5 H6=>cR K o5 H6 λv7=>K (.ret (.aE [])) H6) (K (.ret (.aE [])) H2)
theorem agK{R:yl}(hR:apB R){K:KF}(a0 a1:AV)(H:AH)(h:Hu R K a0 a1 H):cx 98 K [] (aT (cv 98) [a0,a1]) [] H:=pk hR .nil h
def ava(R:yl)(K:KF):aU:=Hu R K
def apC(R:yl):AV→AV→AH→KF→Prop:=λa0 a1 H K=>ava R K a0 a1 H
theorem are(R:yl)(hR:apB R):an gPa 98 (ai [.a,.a] (apC R)):=rk λK a0 a1 H h=>agK hR a0 a1 H h
def Cd:yl:=(f25,f56)
def ng:AV→AV→AH→KF→Prop:=apC Cd
theorem pC:an gPa 98 (ai [.a,.a] ng):=are Cd (ad.cons pA (ad.cons jB ad.nil))
abbrev mD:Type:=(AV→AH→KF→Prop)×(AV→Int→AH→KF→Prop)
def arf(R:mD):List (Nat×bQ):=[(23,ai [.a] R.1),(25,ai [.a,.i 0] R.2)]
abbrev Hv(R:mD):Prop:=ad gPa (arf R)
abbrev JL(K:KF)(F:aU):Prop:=aN 130 K [1,1,1] 20 [0,3] [.a,.a] F
def Du(R:mD)(K:KF)(a0 a3:AV)(H:AH):Prop:=aC a0 (ah 1 a0 λv1=>af v1 H λv2=>cI 0 v2 λz3=>aJ 0 (Int.add z3 (.ofNat 1)) λz4=>aC a0 (ah 1 a0 λv5=>ag 1 v5 (.int 0 z4) H λH6=>ah 1 a3 λv7=>af v7 H6 λv8=>K (.ret v8) H6))
theorem Zz{R:mD}(hR:Hv R){K:KF}:JL K (Du R K):=λa0 a3 H h=>pk hR .nil h
def Ve(R:mD)(K:KF):aU:=Du R K
theorem ZA{R:mD}(hR:Hv R){K:KF}:JL K (Ve R K):=Zz hR
def Dv(R:mD)(K:KF)(x1:aU)(a0:AV)(H:AH):Prop:=R.1 a0 H λo1 H2=>cR K o1 H2 λv3=>cm H2 (dC (aA H2) [(.int 0 (.ofNat 0)),(.str 0 0),(.int 0 (.ofNat 0)),(.int 0 (.ofNat 0))] λv4 H5=>ag 4 v4 v3 H5 λH6=>ah 0 v4 λv7=>af v7 H6 λv8=>cI 0 v8 λz9=>bI (!(aV z9 (.ofNat 2))) (R.2 a0 (.ofNat 14) H6 λpB dq=>cR K pB dq λv12=>x1 a0 v4 dq) (x1 a0 v4 H6))
theorem ZB{R:mD}(hR:Hv R){K:KF}{x1:aU}(h1:JL K x1)(a0:AV)(H:AH)(h:Dv R K x1 a0 H):cx 130 K [] (aT (cv 130) [a0]) [] H:=pk hR (cc h1 .nil) h
def arh(R:mD)(K:KF):Ta:=Dv R K (Ve R K)
def agL(R:mD):AV→AH→KF→Prop:=λa0 H K=>arh R K a0 H
theorem anl(R:mD)(hR:Hv R):an gPa 130 (ai [.a] (agL R)):=rk λK a0 H h=>ZB hR (ZA hR) a0 H h
def ve:mD:=(f23,f25)
def f130:AV→AH→KF→Prop:=agL ve
theorem Dw:an gPa 130 (ai [.a] f130):=anl ve (ad.cons jR (ad.cons pA ad.nil))
abbrev iv:Type:=(AV→Int→AH→KF→Prop)×(AV→AH→KF→Prop)×(AV→AH→KF→Prop)×(AV→AH→KF→Prop)×(AV→AV→AH→KF→Prop)
def avb(R:iv):List (Nat×bQ):=[(25,ai [.a,.i 0] R.1),(53,ai [.a] R.2.1),(54,ai [.a] R.2.2.1),(55,ai [.a] R.2.2.2.1),(56,ai [.a,.a] R.2.2.2.2)]
abbrev uW(R:iv):Prop:=ad gPa (avb R)
abbrev tH(K:KF)(F:aU):Prop:=aN 24 K [2,1] 35 [0,3] [.a,.a] F
abbrev PN(K:KF)(F:aU):Prop:=aN 24 K [1,1,1,1,1,1,2,1] 35 [0,3] [.a,.a] F
abbrev PO(K:KF)(F:aU):Prop:=aN 24 K [1,1,1,1,1,1,1,1,0,1] 35 [0,3] [.a,.a] F
def Hw(R:iv)(K:KF)(x1:aU)(a0 a3:AV)(H:AH):Prop:=x1 a0 a3 H
theorem agM{R:iv}(hR:uW R){K:KF}{x1:aU}(h1:tH K x1):PN K (Hw R K x1):=λa0 a3 H h=>pk hR (cc h1 .nil) h
def agN(R:iv)(K:KF)(i1:aU):aU:=Hw R K i1
theorem agO{R:iv}(hR:uW R){K:KF}{i1:aU}(g1:tH K i1):PN K (agN R K i1):=agM hR g1
def wN(R:iv)(K:KF)(x2:aU)(a0 a3:AV)(H:AH):Prop:=R.2.2.1 a0 H λo1 H2=>cR K o1 H2 λv3=>bC v3 λz4=>bI z4 (aC a0 (ah 2 a0 λv5=>af v5 H2 λv6=>cI 0 v6 λz7=>aJ 0 (Int.sub z7 (.ofNat 1)) λz8=>aC a0 (ah 2 a0 λv9=>ag 1 v9 (.int 0 z8) H2 λbo=>K (.ret a3) bo))) (R.2.2.2.1 a0 H2 λqY cU=>cR K qY cU λv13=>cm cU (dC (aA cU) [(.int 0 (.ofNat 0)),(.int 0 (.ofNat 0)),.ab,.ab,.ab] λv14 dH=>ag 5 v14 v13 dH λdJ=>aM 5 v14 dJ λv17=>onVal v17 λl18=>iE l18 5 (bG (aA dJ) 1 5 (spl l18 [(.int 0 (.ofNat 0)),(.int 0 (.ofNat 0)),.ab,.ab,.ab] 0) λv19 gV=>cV 5 88 a3 v19 gV λv21 jC=>R.2.2.2.2 a0 (.str 1 59) jC λHx gD=>cR K Hx gD λv25=>bC v25 λz26=>ah 0 v14 λv27=>af v27 gD λv28=>cI 0 v28 λz29=>bI (aV z29 (.ofNat 10)) (R.2.2.1 a0 gD λCe mj=>cR K Ce mj λv32=>bC v32 λz33=>bI (!z33) (R.1 a0 (.ofNat 14) mj λo34 BB=>cR K o34 BB λv36=>x2 a0 v21 BB) (x2 a0 v21 mj)) (x2 a0 v21 gD))))
theorem agP{R:iv}(hR:uW R){K:KF}{x2:aU}(h2:PN K x2):tH K (wN R K x2):=λa0 a3 H h=>pk hR (cc h2 .nil) h
def agQ(R:iv)(K:KF)(i1:aU):aU:=wN R K (agN R K i1)
theorem agR{R:iv}(hR:uW R){K:KF}{i1:aU}(g1:tH K i1):tH K (agQ R K i1):=agP hR (agO hR g1)
def Cf(R:iv)(K:KF)(n:Nat):aU:=Nat.rec (motive:=λ_=>aU) (λ_ _ _=>False) (λ_ i=>agQ R K i) n
theorem agS{R:iv}(hR:uW R){K:KF}(n:Nat):tH K (Cf R K n):=Nat.rec (motive:=λn=>tH K (Cf R K n)) (λa0 a3 H h=>h.elim) (λn ih=>agR hR ih) n
def PQ(R:iv)(K:KF)(x1:aU)(a0 a3:AV)(H:AH):Prop:=x1 a0 a3 H
theorem agT{R:iv}(hR:uW R){K:KF}{x1:aU}(h1:tH K x1):PO K (PQ R K x1):=λa0 a3 H h=>pk hR (cc h1 .nil) h
def PR(R:iv)(K:KF):aU:=PQ R K (Cf R K NL)
theorem agU{R:iv}(hR:uW R){K:KF}:PO K (PR R K):=agT hR (agS hR NL)
def Hy(R:iv)(K:KF)(x3:aU)(a0:AV)(H:AH):Prop:=R.2.1 a0 H λo1 H2=>cR K o1 H2 λv3=>R.2.2.1 a0 H2 λo4 H5=>cR K o4 H5 λv6=>bC v6 λz7=>bI z7 (aC a0 (ah 2 a0 λv8=>af v8 H5 λv9=>cI 0 v9 λz10=>aJ 0 (Int.sub z10 (.ofNat 1)) λz11=>aC a0 (ah 2 a0 λv12=>ag 1 v12 (.int 0 z11) H5 λdj=>K (.ret .ab) dj))) (R.2.2.2.1 a0 H5 λzt dH=>cR K zt dH λv16=>cm dH (dC (aA dH) [(.int 0 (.ofNat 0)),(.int 0 (.ofNat 0)),.ab,.ab,.ab] λv17 eB=>ag 5 v17 v16 eB λik=>aM 5 v17 ik λv20=>onVal v20 λl21=>iE l21 5 (bG (aA ik) 1 5 (spl l21 [(.int 0 (.ofNat 0)),(.int 0 (.ofNat 0)),.ab,.ab,.ab] 0) λv22 nh=>cV 5 88 .ab v22 nh λv24 mE=>R.2.2.2.2 a0 (.str 1 59) mE λPT ly=>cR K PT ly λv28=>bC v28 λz29=>ah 0 v17 λv30=>af v30 ly λv31=>cI 0 v31 λz32=>bI (aV z32 (.ofNat 10)) (R.2.2.1 a0 ly λCg nI=>cR K Cg nI λv35=>bC v35 λz36=>bI (!z36) (R.1 a0 (.ofNat 14) nI λVf qt=>cR K Vf qt λv39=>x3 a0 v24 qt) (x3 a0 v24 nI)) (x3 a0 v24 ly))))
theorem agV{R:iv}(hR:uW R){K:KF}{x3:aU}(h3:PO K x3)(a0:AV)(H:AH)(h:Hy R K x3 a0 H):cx 24 K [] (aT (cv 24) [a0]) [] H:=pk hR (cc h3 .nil) h
def agW(R:iv)(K:KF):Ta:=Hy R K (PR R K)
def A6(R:iv):AV→AH→KF→Prop:=λa0 H K=>agW R K a0 H
theorem ari(R:iv)(hR:uW R):an gPa 24 (ai [.a] (A6 R)):=rk λK a0 H h=>agV hR (agU hR) a0 H h
abbrev ff:Type:=(AV→AH→KF→Prop)×(AV→AH→KF→Prop)×(AV→Int→AH→KF→Prop)×(AV→AH→KF→Prop)×(AV→AV→AH→KF→Prop)×(AV→AV→AH→KF→Prop)×(AV→AV→AH→KF→Prop)×(AV→AV→AH→KF→Prop)×(AV→AH→KF→Prop)×(AV→AV→AH→KF→Prop)×(AV→AV→AH→KF→Prop)×(AV→AV→AH→KF→Prop)
def avc(R:ff):List (Nat×bQ):=[(23,ai [.a] R.1),(24,ai [.a] R.2.1),(25,ai [.a,.i 0] R.2.2.1),(54,ai [.a] R.2.2.2.1),(56,ai [.a,.a] R.2.2.2.2.1),(94,ai [.a,.a] R.2.2.2.2.2.1),(95,ai [.a,.a] R.2.2.2.2.2.2.1),(96,ai [.a,.a] R.2.2.2.2.2.2.2.1),(97,ai [.a] R.2.2.2.2.2.2.2.2.1),(98,ai [.a,.a] R.2.2.2.2.2.2.2.2.2.1),(99,ai [.a,.a] R.2.2.2.2.2.2.2.2.2.2.1),(100,ai [.a,.a] R.2.2.2.2.2.2.2.2.2.2.2)]
abbrev nj(R:ff):Prop:=ad gPa (avc R)
abbrev tI(K:KF)(F:aU):Prop:=aN 55 K [1,1,1] 106 [2,3] [.a,.a] F
abbrev PU(K:KF)(F:bf):Prop:=aN 55 K [1,0,1,1,1,1,1,0,0,1,1] 106 [0,2,3] [.a,.a,.a] F
abbrev PV(K:KF)(F:bf):Prop:=aN 55 K [1,0,1,1,1,1,1,1,1,0,0,1,1] 106 [0,2,3] [.a,.a,.a] F
abbrev PW(K:KF)(F:bf):Prop:=aN 55 K [1,0,1,1,1,1,1,1,1,1,1,1,1,1,1,0,0,1,1] 106 [0,2,3] [.a,.a,.a] F
abbrev PX(K:KF)(F:bf):Prop:=aN 55 K [1,0,1,1,1,1,1,1,1,1,1,1,1,1,1,1,1,0,0,1,1] 106 [0,2,3] [.a,.a,.a] F
abbrev PY(K:KF)(F:bf):Prop:=aN 55 K [0,1,1,0,1,1,1,1,1,1,1,1,1,1,1,1,1,1,1,0,0,1,1] 106 [0,2,3] [.a,.a,.a] F
def PZ(R:ff)(K:KF)(a2 a3:AV)(H:AH):Prop:=aM 5 a3 H λv1=>ag 5 a2 v1 H λH2=>aM 5 a2 H2 λv3=>K (.ret v3) H2
theorem agX{R:ff}(hR:nj R){K:KF}:tI K (PZ R K):=λa2 a3 H h=>pk hR .nil h
def fO(R:ff)(K:KF):aU:=PZ R K
theorem qu{R:ff}(hR:nj R){K:KF}:tI K (fO R K):=agX hR
def P0(R:ff)(K:KF)(x1:aU)(a0 a2 a3:AV)(H:AH):Prop:=R.2.2.2.2.2.2.2.2.2.1 a0 (.str 2 28516) H λo1 H2=>cR K o1 H2 λv3=>ah 4 a3 λv4=>af v4 H2 λv5=>R.2.1 a0 H2 λo6 H7=>cR K o6 H7 λv8=>af v4 H7 λv9=>bT (aH v9 v5) (bP H7 (one v8 (bG (aA H7) 1 1 [v8] λv10 dq=>bT (Nat.beq dq.n (Nat.succ H7.n)) (cV 1 24 v5 v10 dq λv12 dj=>ah 4 a3 λv14=>ag 1 v14 v12 dj λdH=>R.2.2.2.2.2.2.2.2.2.1 a0 (.str 3 6581861) dH λo16 jt=>cR K o16 jt λv18=>x1 a2 a3 jt))))
theorem agY{R:ff}(hR:nj R){K:KF}{x1:aU}(h1:tI K x1):PU K (P0 R K x1):=λa0 a2 a3 H h=>pk hR (cc h1 .nil) h
def Qa(R:ff)(K:KF):bf:=P0 R K (fO R K)
theorem agZ{R:ff}(hR:nj R){K:KF}:PU K (Qa R K):=agY hR (qu hR)
def Qb(R:ff)(K:KF)(x1:aU)(a0 a2 a3:AV)(H:AH):Prop:=R.2.2.2.2.2.2.2.2.2.1 a0 (.str 5 465625706101) H λo1 H2=>cR K o1 H2 λv3=>ah 3 a3 λv4=>af v4 H2 λv5=>bR v5 λv6=>cI 0 v6 λz7=>bP H2 (bG (aA H2) 1 7 [(.int 0 (.ofNat 0)),(.int 0 (.ofNat 0)),(.int 0 (.ofNat 0)),(.str 0 0),(.int 0 (.ofNat 0)),.ab,.ab] λv8 H9=>bT (Nat.beq H9.n (Nat.succ H2.n)) (R.2.2.2.2.2.2.2.2.1 a0 H9 λpB dq=>cR K pB dq λv12=>af v4 dq λv13=>bT (aH v13 v5) (cV 7 96 v5 v8 dq λv14 dH=>cw 7 v14 (.int 0 z7) λv16=>ah 3 a3 λv17=>ag 7 v16 v12 dH λeB=>ag 1 v17 v14 eB λik=>ag 1 v17 v14 dH λgV=>ag 7 v16 v12 gV λkL=>mB 7 1 v16 v17 (x1 a2 a3 ik))))
theorem ag0{R:ff}(hR:nj R){K:KF}{x1:aU}(h1:tI K x1):PV K (Qb R K x1):=λa0 a2 a3 H h=>pk hR (cc h1 .nil) h
def Qc(R:ff)(K:KF):bf:=Qb R K (fO R K)
theorem ag1{R:ff}(hR:nj R){K:KF}:PV K (Qc R K):=ag0 hR (qu hR)
def Qd(R:ff)(K:KF)(x1:aU)(a0 a2 a3:AV)(H:AH):Prop:=R.2.2.2.2.2.2.2.2.2.1 a0 (.str 3 6581861) H λo1 H2=>cR K o1 H2 λv3=>x1 a2 a3 H2
theorem ag2{R:ff}(hR:nj R){K:KF}{x1:aU}(h1:tI K x1):PW K (Qd R K x1):=λa0 a2 a3 H h=>pk hR (cc h1 .nil) h
def Qe(R:ff)(K:KF):bf:=Qd R K (fO R K)
theorem ag3{R:ff}(hR:nj R){K:KF}:PW K (Qe R K):=ag2 hR (qu hR)
def Qf(R:ff)(K:KF)(x1:aU)(a0 a2 a3:AV)(H:AH):Prop:=ah 3 a3 λv1=>af v1 H λv2=>bR v2 λv3=>cI 0 v3 λz4=>bP H (bG (aA H) 1 7 [(.int 0 (.ofNat 0)),(.int 0 (.ofNat 0)),(.int 0 (.ofNat 0)),(.str 0 0),(.int 0 (.ofNat 0)),.ab,.ab] λv5 H6=>bT (Nat.beq H6.n (Nat.succ H.n)) (R.2.2.2.2.2.2.2.2.1 a0 H6 λo7 H8=>cR K o7 H8 λv9=>af v1 H8 λv10=>bT (aH v10 v2) (cV 7 96 v2 v5 H8 λv11 cU=>cw 7 v11 (.int 0 z4) λv13=>ah 3 a3 λv14=>ag 7 v13 v9 cU λdH=>ag 1 v14 v11 dH λdJ=>ag 1 v14 v11 cU λjt=>ag 7 v13 v9 jt λeB=>mB 7 1 v13 v14 (x1 a2 a3 dJ))))
theorem ag4{R:ff}(hR:nj R){K:KF}{x1:aU}(h1:tI K x1):PY K (Qf R K x1):=λa0 a2 a3 H h=>pk hR (cc h1 .nil) h
def Qg(R:ff)(K:KF):bf:=Qf R K (fO R K)
theorem ag5{R:ff}(hR:nj R){K:KF}:PY K (Qg R K):=ag4 hR (qu hR)
def Qh(R:ff)(K:KF)(x6:bf)(x1:aU)(a0 a2 a3:AV)(H:AH):Prop:=R.2.2.2.2.2.1 a0 (.str 1 59) H λo1 H2=>cR K o1 H2 λv3=>bC v3 λz4=>bI (!z4) (R.2.2.2.1 a0 H2 λo5 H6=>cR K o5 H6 λv7=>bC v7 λz8=>bI (!z8) (x6 a0 a2 a3 H6) (x1 a2 a3 H6)) (x1 a2 a3 H2)
theorem ag6{R:ff}(hR:nj R){K:KF}{x6:bf}{x1:aU}(h6:PY K x6)(h1:tI K x1):PX K (Qh R K x6 x1):=λa0 a2 a3 H h=>pk hR (cc h6 (cc h1 .nil)) h
def Qi(R:ff)(K:KF):bf:=Qh R K (Qg R K) (fO R K)
theorem ag7{R:ff}(hR:nj R){K:KF}:PX K (Qi R K):=ag6 hR (ag5 hR) (qu hR)
def Qj(R:ff)(K:KF)(x2 x3 x4 x5:bf)(x1:aU)(a0:AV)(H:AH):Prop:=cm H (dC (aA H) [(.int 0 (.ofNat 0)),(.int 0 (.ofNat 0)),.ab,.ab,.ab] λv1 H2=>R.1 a0 H2 λo3 H4=>cR K o3 H4 λv5=>fW v5 λl6=>cE l6 3 λv7=>cI 0 v7 λz8=>cm H4 (dC (aA H4) [(.int 0 (.ofNat 0)),(.int 0 (.ofNat 0)),.ab,.ab,.ab] λv9 bo=>ag 5 v9 (.agg [(.int 0 (.ofNat 0)),(.int 0 z8),.ab,.ab,.ab]) bo λdq=>R.2.2.2.2.1 a0 (.str 5 465490374508) dq λqZ dj=>cR K qZ dj λv14=>bC v14 λnk=>bI nk (R.2.2.2.2.2.2.1 a0 v9 dj λo16 jt=>cR K o16 jt λv18=>x1 v1 v9 jt) (R.2.2.2.2.1 a0 (.str 2 26217) dj λzu gV=>cR K zu gV λv21=>bC v21 λz22=>bI z22 (R.2.2.2.2.2.2.2.1 a0 v9 gV λHx gD=>cR K Hx gD λv25=>x1 v1 v9 gD) (R.2.2.2.2.1 a0 (.str 5 435610544247) gV λPT ly=>cR K PT ly λv28=>bC v28 λz29=>bI z29 (R.2.2.2.2.2.2.2.2.1 a0 ly λCe mj=>cR K Ce mj λv32=>onVal v32 λl33=>iE l33 7 (bG (aA mj) 1 7 (spl l33 [(.int 0 (.ofNat 0)),(.int 0 (.ofNat 0)),(.int 0 (.ofNat 0)),(.str 0 0),(.int 0 (.ofNat 0)),.ab,.ab] 0) λv34 BB=>ah 0 v9 λv36=>ag 1 v36 (.int 0 (.ofNat 5)) BB λHz=>ah 3 v9 λv38=>ag 1 v38 v34 Hz λH39=>x2 a0 v1 v9 H39)) (R.2.2.2.2.1 a0 (.str 6 127961662514546) ly λo40 zw=>cR K o40 zw λv42=>bC v42 λz43=>bI z43 (R.2.1 a0 zw λo44 H45=>cR K o44 H45 λv46=>one v46 (bG (aA H45) 1 1 [v46] λv47 Ci=>ah 0 v9 λv49=>ag 1 v49 (.int 0 (.ofNat 8)) Ci λH50=>ah 4 v9 λv51=>ag 1 v51 v47 H50 λNq=>x3 a0 v1 v9 Nq)) (R.2.2.2.2.1 a0 (.str 3 7499622) zw λo53 HA=>cR K o53 HA λv55=>bC v55 λz56=>bI z56 (R.2.2.2.2.2.2.2.2.2.2.1 a0 v9 HA λo57 H58=>cR K o57 H58 λv59=>x1 v1 v9 H58) (R.2.2.2.2.1 a0 (.str 5 461195539042) HA λo60 H61=>cR K o60 H61 λv62=>bC v62 λz63=>bI z63 (ah 0 v9 λv64=>ag 1 v64 (.int 0 (.ofNat 9)) H61 λH65=>x1 v1 v9 H65) (R.2.2.2.2.1 a0 (.str 2 28516) H61 λo66 H67=>cR K o66 H67 λv68=>bC v68 λz69=>bI z69 (R.2.1 a0 H67 λo70 H71=>cR K o70 H71 λv72=>one v72 (bG (aA H71) 1 1 [v72] λv73 H74=>ah 0 v9 λv75=>ag 1 v75 (.int 0 (.ofNat 11)) H74 λH76=>ah 4 v9 λv77=>ag 1 v77 v73 H76 λVg=>x4 a0 v1 v9 Vg)) (R.2.2.2.2.1 a0 (.str 6 121437875889522) H67 λo79 H80=>cR K o79 H80 λv81=>bC v81 λz82=>bI z82 (ah 0 v9 λv83=>ag 1 v83 (.int 0 (.ofNat 10)) H80 λH84=>x5 a0 v1 v9 H84) (R.1 a0 H80 λo85 H86=>cR K o85 H86 λv87=>fW v87 λl88=>cE l88 0 λv89=>cI 0 v89 λz90=>bI (aV z90 (.ofNat 2)) (R.2.2.2.2.2.2.2.2.2.2.2 a0 v9 H86 λo91 H92=>cR K o91 H92 λv93=>x1 v1 v9 H92) (R.2.2.1 a0 (.ofNat 14) H86 λo94 H95=>cR K o94 H95 λv96=>x1 v1 v9 H95)))))))))))
theorem ag8{R:ff}(hR:nj R){K:KF}{x2 x3 x4 x5:bf}{x1:aU}(h2:PU K x2)(h3:PV K x3)(h4:PW K x4)(h5:PX K x5)(h1:tI K x1)(a0:AV)(H:AH)(h:Qj R K x2 x3 x4 x5 x1 a0 H):cx 55 K [] (aT (cv 55) [a0]) [] H:=pk hR (cc h2 (cc h3 (cc h4 (cc h5 (cc h1 .nil))))) h
def ag9(R:ff)(K:KF):Ta:=Qj R K (Qa R K) (Qc R K) (Qe R K) (Qi R K) (fO R K)
def A7(R:ff):AV→AH→KF→Prop:=λa0 H K=>ag9 R K a0 H
theorem arj(R:ff)(hR:nj R):an gPa 55 (ai [.a] (A7 R)):=rk λK a0 H h=>ag8 hR (agZ hR) (ag1 hR) (ag3 hR) (ag7 hR) (qu hR) a0 H h
abbrev pQ:Type:=(AV→AH→KF→Prop)×(AV→AV→AH→KF→Prop)×(AV→AH→KF→Prop)×(AV→AH→KF→Prop)×(AV→Int→AH→KF→Prop)
def avd(R:pQ):List (Nat×bQ):=[(23,ai [.a] R.1),(56,ai [.a,.a] R.2.1),(97,ai [.a] R.2.2.1),(130,ai [.a] R.2.2.2.1),(131,ai [.a,.i 0] R.2.2.2.2)]
abbrev Oe(R:pQ):Prop:=ad gPa (avd R)
abbrev Qk(K:KF)(F:aU):Prop:=aN 95 K [1,1,0,1,0,1] 47 [0,1] [.a,.a] F
def Ql(R:pQ)(K:KF)(a0 a1:AV)(H:AH):Prop:=R.1 a0 H λo1 H2=>cR K o1 H2 λv3=>fW v3 λl4=>cE l4 3 λv5=>cI 0 v5 λz6=>R.2.2.2.2 a0 z6 H2 λo7 H8=>cR K o7 H8 λv9=>onVal v9 λl10=>iE l10 7 (bG (aA H8) 1 7 (spl l10 [(.int 0 (.ofNat 0)),(.int 0 (.ofNat 0)),(.int 0 (.ofNat 0)),(.str 0 0),(.int 0 (.ofNat 0)),.ab,.ab] 0) λv11 cU=>aC a1 (ah 3 a1 λv13=>ag 1 v13 v11 cU λdG=>K (.ret (.aE [])) dG))
theorem aha{R:pQ}(hR:Oe R){K:KF}:Qk K (Ql R K):=λa0 a1 H h=>pk hR .nil h
def Qm(R:pQ)(K:KF):aU:=Ql R K
theorem ahb{R:pQ}(hR:Oe R){K:KF}:Qk K (Qm R K):=aha hR
def Qn(R:pQ)(K:KF)(x1:aU)(a0 a1:AV)(H:AH):Prop:=aC a1 (ah 0 a1 λv1=>ag 1 v1 (.int 0 (.ofNat 1)) H λH2=>R.2.1 a0 (.str 8 7957695015192261990) H2 λo3 H4=>cR K o3 H4 λv5=>bC v5 λz6=>bI z6 (aC a1 (ah 0 a1 λv7=>ag 1 v7 (.int 0 (.ofNat 12)) H4 λH8=>R.2.2.2.1 a0 H8 λo9 bo=>cR K o9 bo λv11=>one v11 (bG (aA bo) 1 1 [v11] λv12 dj=>aC a1 (ah 2 a1 λv14=>ag 1 v14 v12 dj λdH=>x1 a0 a1 dH)))) (R.2.2.2.1 a0 H4 λo16 jt=>cR K o16 jt λv18=>one v18 (bG (aA jt) 1 1 [v18] λv19 gV=>aC a1 (ah 2 a1 λv21=>ag 1 v21 v19 gV λjC=>R.2.1 a0 (.str 1 61) jC λHx gD=>cR K Hx gD λv25=>bC v25 λz26=>bI z26 (aC a1 (ah 3 a1 λv27=>af v27 gD λv28=>bR v28 λv29=>cI 0 v29 λz30=>bP gD (bG (aA gD) 1 7 [(.int 0 (.ofNat 0)),(.int 0 (.ofNat 0)),(.int 0 (.ofNat 0)),(.str 0 0),(.int 0 (.ofNat 0)),.ab,.ab] λv31 np=>bT (Nat.beq np.n (Nat.succ gD.n)) (R.2.2.1 a0 np λCg nI=>cR K Cg nI λv35=>af v27 nI λv36=>bT (aH v36 v28) (cV 7 96 v28 v31 nI λv37 qt=>cw 7 v37 (.int 0 z30) λv39=>aC a1 (ah 3 a1 λv40=>ag 7 v39 v35 qt λzw=>ag 1 v40 v37 zw λqv=>ag 1 v40 v37 qt λym=>ag 7 v39 v35 ym λNr=>mB 7 1 v39 v40 (K (.ret (.aE [])) qv))))))) (K (.ret (.aE [])) gD)))))
theorem ahc{R:pQ}(hR:Oe R){K:KF}{x1:aU}(h1:Qk K x1)(a0 a1:AV)(H:AH)(h:Qn R K x1 a0 a1 H):cx 95 K [] (aT (cv 95) [a0,a1]) [] H:=pk hR (cc h1 .nil) h
def ahd(R:pQ)(K:KF):aU:=Qn R K (Qm R K)
def A8(R:pQ):AV→AV→AH→KF→Prop:=λa0 a1 H K=>ahd R K a0 a1 H
theorem ark(R:pQ)(hR:Oe R):an gPa 95 (ai [.a,.a] (A8 R)):=rk λK a0 a1 H h=>ahc hR (ahb hR) a0 a1 H h
abbrev fB:Type:=(AV→AH→KF→Prop)×(AV→AV→AH→KF→Prop)×(AV→AH→KF→Prop)×(AV→AV→AH→KF→Prop)
def ave(R:fB):List (Nat×bQ):=[(24,ai [.a] R.1),(56,ai [.a,.a] R.2.1),(97,ai [.a] R.2.2.1),(98,ai [.a,.a] R.2.2.2)]
abbrev oo(R:fB):Prop:=ad gPa (ave R)
abbrev Qo(K:KF)(F:aU):Prop:=aN 96 K [1,1] 50 [0,1] [.a,.a] F
abbrev q9(K:KF)(F:aU):Prop:=aN 96 K [0,0,1] 50 [0,1] [.a,.a] F
abbrev Qp(K:KF)(F:Ta):Prop:=aN 96 K [1,1,1] 50 [0] [.a] F
abbrev Qq(K:KF)(F:aU):Prop:=aN 96 K [1,0,0,0,0,1] 50 [0,1] [.a,.a] F
abbrev Qr(K:KF)(F:aU):Prop:=aN 96 K [1,1,1,0,0,0,0,1] 50 [0,1] [.a,.a] F
def Cj(R:fB)(K:KF)(a0:AV)(H:AH):Prop:=R.2.2.2 a0 (.str 3 6581861) H λo1 H2=>cR K o1 H2 λv3=>K (.ret (.aE [])) H2
theorem ahe{R:fB}(hR:oo R){K:KF}:Qp K (Cj R K):=λa0 H h=>pk hR .nil h
def ahf(R:fB)(K:KF):Ta:=Cj R K
theorem ahg{R:fB}(hR:oo R){K:KF}:Qp K (ahf R K):=ahe hR
def HB(R:fB)(K:KF)(x3:Ta)(a0 a1:AV)(H:AH):Prop:=R.2.1 a0 (.str 4 1702063205) H λo1 H2=>cR K o1 H2 λv3=>bC v3 λz4=>bI z4 (aC a1 (ah 4 a1 λv5=>af v5 H2 λv6=>R.1 a0 H2 λo7 H8=>cR K o7 H8 λv9=>af v5 H8 λv10=>bT (aH v10 v6) (bP H8 (one v9 (bG (aA H8) 1 1 [v9] λv11 cU=>bT (Nat.beq cU.n (Nat.succ H8.n)) (cV 1 24 v6 v11 cU λv13 dG=>aC a1 (ah 4 a1 λv15=>ag 1 v15 v13 dG λdJ=>x3 a0 dJ))))))) (x3 a0 H2)
theorem ahh{R:fB}(hR:oo R){K:KF}{x3:Ta}(h3:Qp K x3):Qo K (HB R K x3):=λa0 a1 H h=>pk hR (cc h3 .nil) h
def ahi(R:fB)(K:KF):aU:=HB R K (ahf R K)
theorem ahj{R:fB}(hR:oo R){K:KF}:Qo K (ahi R K):=ahh hR (ahg hR)
def HC(R:fB)(K:KF)(x2 x1:aU)(a0 a1:AV)(H:AH):Prop:=R.2.1 a0 (.str 6 112602859662437) H λo1 H2=>cR K o1 H2 λv3=>bC v3 λz4=>bI (!z4) (x1 a0 a1 H2) (x2 a0 a1 H2)
theorem ahk{R:fB}(hR:oo R){K:KF}{x2 x1:aU}(h2:q9 K x2)(h1:Qo K x1):Qr K (HC R K x2 x1):=λa0 a1 H h=>pk hR (cc h2 (cc h1 .nil)) h
def ahl(R:fB)(K:KF)(i2:aU):aU:=HC R K i2 (ahi R K)
theorem ahm{R:fB}(hR:oo R){K:KF}{i2:aU}(g2:q9 K i2):Qr K (ahl R K i2):=ahk hR g2 (ahj hR)
def HD(R:fB)(K:KF)(x5:aU)(a0 a1:AV)(H:AH):Prop:=R.2.2.2 a0 (.str 4 1852139636) H λo1 H2=>cR K o1 H2 λv3=>aC a1 (ah 4 a1 λv4=>af v4 H2 λv5=>R.1 a0 H2 λo6 H7=>cR K o6 H7 λv8=>af v4 H7 λv9=>bT (aH v9 v5) (bP H7 (one v8 (bG (aA H7) 1 1 [v8] λv10 dq=>bT (Nat.beq dq.n (Nat.succ H7.n)) (cV 1 24 v5 v10 dq λv12 dj=>aC a1 (ah 4 a1 λv14=>ag 1 v14 v12 dj λdH=>x5 a0 a1 dH))))))
theorem ahn{R:fB}(hR:oo R){K:KF}{x5:aU}(h5:Qr K x5):Qq K (HD R K x5):=λa0 a1 H h=>pk hR (cc h5 .nil) h
def aho(R:fB)(K:KF)(i2:aU):aU:=HD R K (ahl R K i2)
theorem ahp{R:fB}(hR:oo R){K:KF}{i2:aU}(g2:q9 K i2):Qq K (aho R K i2):=ahn hR (ahm hR g2)
def HE(R:fB)(K:KF)(x4:aU)(a0 a1:AV)(H:AH):Prop:=aC a1 (ah 3 a1 λv1=>af v1 H λv2=>bR v2 λv3=>cI 0 v3 λz4=>bP H (bG (aA H) 1 7 [(.int 0 (.ofNat 0)),(.int 0 (.ofNat 0)),(.int 0 (.ofNat 0)),(.str 0 0),(.int 0 (.ofNat 0)),.ab,.ab] λv5 H6=>bT (Nat.beq H6.n (Nat.succ H.n)) (R.2.2.1 a0 H6 λo7 H8=>cR K o7 H8 λv9=>af v1 H8 λv10=>bT (aH v10 v2) (cV 7 96 v2 v5 H8 λv11 cU=>cw 7 v11 (.int 0 z4) λv13=>aC a1 (ah 3 a1 λv14=>ag 7 v13 v9 cU λdH=>ag 1 v14 v11 dH λdJ=>ag 1 v14 v11 cU λjt=>ag 7 v13 v9 jt λeB=>mB 7 1 v13 v14 (x4 a0 a1 dJ))))))
theorem ahq{R:fB}(hR:oo R){K:KF}{x4:aU}(h4:Qq K x4):q9 K (HE R K x4):=λa0 a1 H h=>pk hR (cc h4 .nil) h
def ahr(R:fB)(K:KF)(i2:aU):aU:=HE R K (aho R K i2)
theorem ahs{R:fB}(hR:oo R){K:KF}{i2:aU}(g2:q9 K i2):q9 K (ahr R K i2):=ahq hR (ahp hR g2)
def Ck(R:fB)(K:KF)(n:Nat):aU:=Nat.rec (motive:=λ_=>aU) (λ_ _ _=>False) (λ_ i=>ahr R K i) n
theorem aht{R:fB}(hR:oo R){K:KF}(n:Nat):q9 K (Ck R K n):=Nat.rec (motive:=λn=>q9 K (Ck R K n)) (λa0 a1 H h=>h.elim) (λn ih=>ahs hR ih) n
def Qs(R:fB)(K:KF)(x2:aU)(a0 a1:AV)(H:AH):Prop:=aC a1 (ah 0 a1 λv1=>ag 1 v1 (.int 0 (.ofNat 4)) H λH2=>x2 a0 a1 H2)
theorem ahu{R:fB}(hR:oo R){K:KF}{x2:aU}(h2:q9 K x2)(a0 a1:AV)(H:AH)(h:Qs R K x2 a0 a1 H):cx 96 K [] (aT (cv 96) [a0,a1]) [] H:=pk hR (cc h2 .nil) h
def ahv(R:fB)(K:KF):aU:=Qs R K (Ck R K NL)
def A9(R:fB):AV→AV→AH→KF→Prop:=λa0 a1 H K=>ahv R K a0 a1 H
theorem arl(R:fB)(hR:oo R):an gPa 96 (ai [.a,.a] (A9 R)):=rk λK a0 a1 H h=>ahu hR (aht hR NL) a0 a1 H h
abbrev pR:Type:=(AV→AH→KF→Prop)×(AV→AH→KF→Prop)
def avf(R:pR):List (Nat×bQ):=[(53,ai [.a] R.1),(132,ai [.a] R.2)]
abbrev Of(R:pR):Prop:=ad gPa (avf R)
abbrev Qt(K:KF)(F:aU):Prop:=aN 97 K [1,1,1,1] 16 [2,3] [.a,.a] F
def Cl(R:pR)(K:KF)(a2 a3:AV)(H:AH):Prop:=aM 7 a3 H λv1=>ag 7 a2 v1 H λH2=>aM 7 a2 H2 λv3=>K (.ret v3) H2
theorem ahw{R:pR}(hR:Of R){K:KF}:Qt K (Cl R K):=λa2 a3 H h=>pk hR .nil h
def ahx(R:pR)(K:KF):aU:=Cl R K
theorem ahy{R:pR}(hR:Of R){K:KF}:Qt K (ahx R K):=ahw hR
def HF(R:pR)(K:KF)(x1:aU)(a0:AV)(H:AH):Prop:=cm H (cW gPa (aA H) 49 λv1 H2=>R.1 a0 H2 λo3 H4=>cR K o3 H4 λv5=>R.2 a0 H4 λo6 H7=>cR K o6 H7 λv8=>cm H7 (cW gPa (aA H7) 49 λv9 bo=>ag 7 v9 v8 bo λdq=>aC a0 (ah 2 a0 λv12=>af v12 dq λv13=>cI 0 v13 λlL=>aJ 0 (Int.sub lL (.ofNat 1)) λnk=>aC a0 (ah 2 a0 λv16=>ag 1 v16 (.int 0 nk) dq λjt=>x1 v1 v9 jt))))
theorem ahz{R:pR}(hR:Of R){K:KF}{x1:aU}(h1:Qt K x1)(a0:AV)(H:AH)(h:HF R K x1 a0 H):cx 97 K [] (aT (cv 97) [a0]) [] H:=pk hR (cc h1 .nil) h
def avg(R:pR)(K:KF):Ta:=HF R K (ahx R K)
def HG(R:pR):AV→AH→KF→Prop:=λa0 H K=>avg R K a0 H
theorem arn(R:pR)(hR:Of R):an gPa 97 (ai [.a] (HG R)):=rk λK a0 H h=>ahz hR (ahy hR) a0 H h
abbrev ic:Type:=(AV→AH→KF→Prop)×(AV→AV→AH→KF→Prop)×(AV→AH→KF→Prop)×(AV→AV→AH→KF→Prop)×(AV→AH→KF→Prop)
def avh(R:ic):List (Nat×bQ):=[(24,ai [.a] R.1),(56,ai [.a,.a] R.2.1),(97,ai [.a] R.2.2.1),(98,ai [.a,.a] R.2.2.2.1),(130,ai [.a] R.2.2.2.2)]
abbrev tj(R:ic):Prop:=ad gPa (avh R)
abbrev HH(K:KF)(F:aU):Prop:=aN 99 K [1,1] 83 [0,1] [.a,.a] F
abbrev Qu(K:KF)(F:aU):Prop:=aN 99 K [1,0,1,0,1] 83 [0,1] [.a,.a] F
abbrev Qv(K:KF)(F:aU):Prop:=aN 99 K [1,1,1,0,1] 83 [0,1] [.a,.a] F
abbrev Qw(K:KF)(F:aU):Prop:=aN 99 K [1,1,1,1,1,1,0,1] 83 [0,1] [.a,.a] F
def HI(R:ic)(K:KF)(a0 a1:AV)(H:AH):Prop:=R.2.2.2.1 a0 (.str 2 28516) H λo1 H2=>cR K o1 H2 λv3=>R.1 a0 H2 λo4 H5=>cR K o4 H5 λv6=>one v6 (bG (aA H5) 1 1 [v6] λv7 H8=>aC a1 (ah 4 a1 λv9=>ag 1 v9 v7 H8 λbo=>R.2.2.2.1 a0 (.str 3 6581861) bo λqY cU=>cR K qY cU λv13=>K (.ret (.aE [])) cU))
theorem ahA{R:ic}(hR:tj R){K:KF}:HH K (HI R K):=λa0 a1 H h=>pk hR .nil h
def Qx(R:ic)(K:KF):aU:=HI R K
theorem Ns{R:ic}(hR:tj R){K:KF}:HH K (Qx R K):=ahA hR
def Qy(R:ic)(K:KF)(x1:aU)(a0 a1:AV)(H:AH):Prop:=R.2.2.2.1 a0 (.str 2 28265) H λo1 H2=>cR K o1 H2 λv3=>R.2.2.1 a0 H2 λo4 H5=>cR K o4 H5 λv6=>onVal v6 λl7=>iE l7 7 (bG (aA H5) 1 7 (spl l7 [(.int 0 (.ofNat 0)),(.int 0 (.ofNat 0)),(.int 0 (.ofNat 0)),(.str 0 0),(.int 0 (.ofNat 0)),.ab,.ab] 0) λv8 H9=>aC a1 (ah 3 a1 λv10=>ag 1 v10 v8 H9 λdq=>x1 a0 a1 dq))
theorem ahB{R:ic}(hR:tj R){K:KF}{x1:aU}(h1:HH K x1):Qu K (Qy R K x1):=λa0 a1 H h=>pk hR (cc h1 .nil) h
def Qz(R:ic)(K:KF):aU:=Qy R K (Qx R K)
theorem ahC{R:ic}(hR:tj R){K:KF}:Qu K (Qz R K):=ahB hR (Ns hR)
def QA(R:ic)(K:KF)(x1:aU)(a0 a1:AV)(H:AH):Prop:=R.2.1 a0 (.str 1 44) H λo1 H2=>cR K o1 H2 λv3=>bC v3 λz4=>bI z4 (aC a1 (ah 3 a1 λv5=>af v5 H2 λv6=>bR v6 λv7=>cI 0 v7 λz8=>bP H2 (bG (aA H2) 1 7 [(.int 0 (.ofNat 0)),(.int 0 (.ofNat 0)),(.int 0 (.ofNat 0)),(.str 0 0),(.int 0 (.ofNat 0)),.ab,.ab] λv9 bo=>bT (Nat.beq bo.n (Nat.succ H2.n)) (R.2.2.1 a0 bo λqY cU=>cR K qY cU λv13=>af v5 cU λv14=>bT (aH v14 v6) (cV 7 96 v6 v9 cU λv15 dJ=>cw 7 v15 (.int 0 z8) λv17=>aC a1 (ah 3 a1 λv18=>ag 7 v17 v13 dJ λik=>ag 1 v18 v15 ik λgV=>ag 1 v18 v15 dJ λkL=>ag 7 v17 v13 kL λjC=>mB 7 1 v17 v18 (x1 a0 a1 gV))))))) (x1 a0 a1 H2)
theorem ahD{R:ic}(hR:tj R){K:KF}{x1:aU}(h1:HH K x1):Qw K (QA R K x1):=λa0 a1 H h=>pk hR (cc h1 .nil) h
def QB(R:ic)(K:KF):aU:=QA R K (Qx R K)
theorem ahE{R:ic}(hR:tj R){K:KF}:Qw K (QB R K):=ahD hR (Ns hR)
def QC(R:ic)(K:KF)(x4:aU)(a0 a1:AV)(H:AH):Prop:=R.2.2.1 a0 H λo1 H2=>cR K o1 H2 λv3=>onVal v3 λl4=>iE l4 7 (bG (aA H2) 1 7 (spl l4 [(.int 0 (.ofNat 0)),(.int 0 (.ofNat 0)),(.int 0 (.ofNat 0)),(.str 0 0),(.int 0 (.ofNat 0)),.ab,.ab] 0) λv5 H6=>aC a1 (ah 3 a1 λv7=>ag 1 v7 v5 H6 λH8=>R.2.2.2.1 a0 (.str 1 44) H8 λo9 bo=>cR K o9 bo λv11=>aC a1 (ah 3 a1 λv12=>af v12 bo λv13=>bR v13 λv14=>cI 0 v14 λnk=>bP bo (bG (aA bo) 1 7 [(.int 0 (.ofNat 0)),(.int 0 (.ofNat 0)),(.int 0 (.ofNat 0)),(.str 0 0),(.int 0 (.ofNat 0)),.ab,.ab] λv16 jt=>bT (Nat.beq jt.n (Nat.succ bo.n)) (R.2.2.1 a0 jt λQD ik=>cR K QD ik λv20=>af v12 ik λv21=>bT (aH v21 v13) (cV 7 96 v13 v16 ik λv22 nh=>cw 7 v22 (.int 0 nk) λv24=>aC a1 (ah 3 a1 λv25=>ag 7 v24 v20 nh λjS=>ag 1 v25 v22 jS λly=>ag 1 v25 v22 nh λHJ=>ag 7 v24 v20 HJ λFq=>mB 7 1 v24 v25 (x4 a0 a1 ly))))))))
theorem ahF{R:ic}(hR:tj R){K:KF}{x4:aU}(h4:Qw K x4):Qv K (QC R K x4):=λa0 a1 H h=>pk hR (cc h4 .nil) h
def QE(R:ic)(K:KF):aU:=QC R K (QB R K)
theorem ahG{R:ic}(hR:tj R){K:KF}:Qv K (QE R K):=ahF hR (ahE hR)
def QF(R:ic)(K:KF)(x2 x3:aU)(a0 a1:AV)(H:AH):Prop:=R.2.2.2.2 a0 H λo1 H2=>cR K o1 H2 λv3=>one v3 (bG (aA H2) 1 1 [v3] λv4 H5=>aC a1 (ah 0 a1 λv6=>ag 1 v6 (.int 0 (.ofNat 6)) H5 λH7=>aC a1 (ah 2 a1 λv8=>ag 1 v8 v4 H7 λH9=>R.2.1 a0 (.str 1 44) H9 λpB dq=>cR K pB dq λv12=>bC v12 λz13=>bI z13 (aC a1 (ah 2 a1 λv14=>af v14 dq λv15=>R.2.2.2.2 a0 dq λo16 jt=>cR K o16 jt λv18=>af v14 jt λv19=>bT (aH v19 v15) (bP jt (one v18 (bG (aA jt) 1 1 [v18] λv20 kL=>bT (Nat.beq kL.n (Nat.succ jt.n)) (cV 1 16 v15 v20 kL λv22 nh=>aC a1 (ah 0 a1 λv24=>ag 1 v24 (.int 0 (.ofNat 7)) nh λmE=>aC a1 (ah 2 a1 λv26=>ag 1 v26 v22 mE λly=>x2 a0 a1 ly)))))))) (R.2.2.2.1 a0 (.str 1 61) dq λo28 Fq=>cR K o28 Fq λv30=>x3 a0 a1 Fq))))
theorem ahH{R:ic}(hR:tj R){K:KF}{x2 x3:aU}(h2:Qu K x2)(h3:Qv K x3)(a0 a1:AV)(H:AH)(h:QF R K x2 x3 a0 a1 H):cx 99 K [] (aT (cv 99) [a0,a1]) [] H:=pk hR (cc h2 (cc h3 .nil)) h
def ahI(R:ic)(K:KF):aU:=QF R K (Qz R K) (QE R K)
def Ba(R:ic):AV→AV→AH→KF→Prop:=λa0 a1 H K=>ahI R K a0 a1 H
theorem aro(R:ic)(hR:tj R):an gPa 99 (ai [.a,.a] (Ba R)):=rk λK a0 a1 H h=>ahH hR (ahC hR) (ahG hR) a0 a1 H h
abbrev tJ:Type:=(AV→AH→KF→Prop)×(AV→AV→AH→KF→Prop)×(AV→AH→KF→Prop)
def arp(R:tJ):List (Nat×bQ):=[(97,ai [.a] R.1),(98,ai [.a,.a] R.2.1),(133,ai [.a] R.2.2)]
abbrev ahJ(R:tJ):Prop:=ad gPa (arp R)
def JM(R:tJ)(K:KF)(a0 a1:AV)(H:AH):Prop:=R.2.2 a0 H λo1 H2=>cR K o1 H2 λv3=>cm H2 (cW gPa (aA H2) 49 λv4 H5=>ag 7 v4 v3 H5 λH6=>ah 0 v4 λv7=>af v7 H6 λv8=>cI 0 v8 λz9=>bI (aV z9 (.ofNat 10)) (aM 7 v4 H6 λv10=>bP H6 (onVal v10 λVh=>iE Vh 7 (bG (aA H6) 1 7 (spl Vh [(.int 0 (.ofNat 0)),(.int 0 (.ofNat 0)),(.int 0 (.ofNat 0)),(.str 0 0),(.int 0 (.ofNat 0)),.ab,.ab] 0) λv12 dj=>bT (Nat.beq dj.n (Nat.succ H6.n)) (aC a1 (ah 0 a1 λv14=>ag 1 v14 (.int 0 (.ofNat 3)) dj λdH=>aM 7 v4 dH λv16=>bT (aH v16 v10) (aC a1 (ah 3 a1 λv17=>ag 1 v17 v12 dH λeB=>K (.ret (.aE [])) eB))))))) (R.2.1 a0 (.str 1 61) H6 λzu gV=>cR K zu gV λv21=>aM 7 v4 gV λv22=>R.1 a0 gV λHx gD=>cR K Hx gD λv25=>aM 7 v4 gD λv26=>bT (aH v26 v22) (bP gD (onVal v22 λl27=>iE l27 7 (onVal v25 λl28=>iE l28 7 (bG (aA gD) 2 7 (spl l28 (spl l27 [(.int 0 (.ofNat 0)),(.int 0 (.ofNat 0)),(.int 0 (.ofNat 0)),(.str 0 0),(.int 0 (.ofNat 0)),.ab,.ab,(.int 0 (.ofNat 0)),(.int 0 (.ofNat 0)),(.int 0 (.ofNat 0)),(.str 0 0),(.int 0 (.ofNat 0)),.ab,.ab] 0) 7) λv29 HK=>bT (Nat.beq HK.n (Nat.succ gD.n)) (aC a1 (ah 0 a1 λv31=>ag 1 v31 (.int 0 (.ofNat 2)) HK λnp=>aM 7 v4 np λv33=>bT (aH v33 v22) (aC a1 (ah 3 a1 λv34=>ag 1 v34 v29 np λBB=>K (.ret (.aE [])) BB))))))))))
theorem ZC{R:tJ}(hR:ahJ R){K:KF}(a0 a1:AV)(H:AH)(h:JM R K a0 a1 H):cx 100 K [] (aT (cv 100) [a0,a1]) [] H:=pk hR .nil h
def Vi(R:tJ)(K:KF):aU:=JM R K
def wO(R:tJ):AV→AV→AH→KF→Prop:=λa0 a1 H K=>Vi R K a0 a1 H
theorem anm(R:tJ)(hR:ahJ R):an gPa 100 (ai [.a,.a] (wO R)):=rk λK a0 a1 H h=>ZC hR a0 a1 H h
abbrev fi:Type:=(AV→AH→KF→Prop)×(AV→Int→AH→KF→Prop)×(AV→AV→AH→KF→Prop)×(AV→AV→AH→KF→Prop)×(AV→AV→AH→KF→Prop)×(AV→AH→KF→Prop)
def arq(R:fi):List (Nat×bQ):=[(24,ai [.a] R.1),(25,ai [.a,.i 0] R.2.1),(56,ai [.a,.a] R.2.2.1),(94,ai [.a,.a] R.2.2.2.1),(98,ai [.a,.a] R.2.2.2.2.1),(130,ai [.a] R.2.2.2.2.2)]
abbrev nJ(R:fi):Prop:=ad gPa (arq R)
abbrev JN(K:KF)(F:s9):Prop:=aN 131 K [1,1,1,1] 47 [0,1,4,5] [.a,.i 0,.a,.a] F
abbrev oq(K:KF)(F:kZ):Prop:=aN 131 K [0,1,0,1,1,1] 47 [0,1,4,5,6] [.a,.i 0,.a,.a,.b] F
abbrev JO(K:KF)(F:s9):Prop:=aN 131 K [1,1,0,0,1,0,1,1,1] 47 [0,1,4,5] [.a,.i 0,.a,.a] F
abbrev JP(K:KF)(F:s9):Prop:=aN 131 K [1,0,0,1,0,0,1,0,1,1,1] 47 [0,1,4,5] [.a,.i 0,.a,.a] F
def vg(R:fi)(K:KF)(x2:kZ)(a0:AV)(a1:Int)(a4 a5:AV)(H:AH):Prop:=x2 a0 a1 a4 a5 false H
theorem ZD{R:fi}(hR:nJ R){K:KF}{x2:kZ}(h2:oq K x2):JO K (vg R K x2):=λa0 a1 a4 a5 H h=>pk hR (cc h2 .nil) h
def Vj(R:fi)(K:KF)(i2:kZ):s9:=vg R K i2
theorem ZE{R:fi}(hR:nJ R){K:KF}{i2:kZ}(g2:oq K i2):JO K (Vj R K i2):=ZD hR g2
def vh(R:fi)(K:KF)(x3:s9)(a0:AV)(a1:Int)(a4 a5:AV)(H:AH):Prop:=ah 0 a5 λv1=>af v1 H λv2=>R.2.2.2.2.2 a0 H λo3 H4=>cR K o3 H4 λv5=>af v1 H4 λv6=>bT (aH v6 v2) (bP H4 (one v5 (bG (aA H4) 1 1 [v5] λv7 H8=>bT (Nat.beq H8.n (Nat.succ H4.n)) (cV 1 16 v2 v7 H8 λv9 bo=>ah 0 a5 λv11=>ag 1 v11 v9 bo λcU=>x3 a0 a1 a4 a5 cU))))
theorem ZF{R:fi}(hR:nJ R){K:KF}{x3:s9}(h3:JO K x3):JP K (vh R K x3):=λa0 a1 a4 a5 H h=>pk hR (cc h3 .nil) h
def Vk(R:fi)(K:KF)(i2:kZ):s9:=vh R K (Vj R K i2)
theorem ZG{R:fi}(hR:nJ R){K:KF}{i2:kZ}(g2:oq K i2):JP K (Vk R K i2):=ZF hR (ZE hR g2)
def zx(R:fi)(K:KF)(a0:AV)(a1:Int)(a4 a5:AV)(H:AH):Prop:=R.2.2.2.2.1 a0 (.str 1 41) H λo1 H2=>cR K o1 H2 λv3=>R.1 a0 H2 λo4 H5=>cR K o4 H5 λv6=>ah 1 a5 λv7=>ag 1 v7 v6 H5 λH8=>R.2.2.2.2.1 a0 (.str 3 6581861) H8 λo9 bo=>cR K o9 bo λv11=>aM 2 a5 bo λv12=>onVal v12 λl13=>iE l13 2 (bG (aA bo) 1 2 (spl l13 [.ab,.ab] 0) λv14 dH=>one v14 (ag 7 a4 (.agg [(.int 0 (.ofNat 7)),(.int 0 a1),(.int 0 (.ofNat 0)),(.str 0 0),(.int 0 (.ofNat 0)),.ab,v14]) dH λdJ=>aM 7 a4 dJ λv17=>K (.ret v17) dJ))
theorem ZH{R:fi}(hR:nJ R){K:KF}:JN K (zx R K):=λa0 a1 a4 a5 H h=>pk hR .nil h
def Vl(R:fi)(K:KF):s9:=zx R K
theorem ZI{R:fi}(hR:nJ R){K:KF}:JN K (Vl R K):=ZH hR
def Dx(R:fi)(K:KF)(x4 x1:s9)(a0:AV)(a1:Int)(a4 a5:AV)(a6:Bool)(H:AH):Prop:=bI a6 (R.2.2.2.1 a0 (.str 1 41) H λo1 H2=>cR K o1 H2 λv3=>bC v3 λz4=>bI (!z4) (ah 0 a5 λv5=>af v5 H2 λv6=>bR v6 λv7=>cI 0 v7 λz8=>bI (aV z8 (.ofNat 16)) (R.2.1 a0 (.ofNat 8) H2 λo9 bo=>cR K o9 bo λv11=>x4 a0 a1 a4 a5 bo) (x4 a0 a1 a4 a5 H2)) (bI (!a6) (R.2.2.1 a0 (.str 1 44) H2 λqZ dj=>cR K qZ dj λv14=>bC v14 λnk=>bI nk (ah 0 a5 λv16=>af v16 dj λv17=>bR v17 λv18=>cI 0 v18 λzy=>bI (aV zy (.ofNat 16)) (R.2.1 a0 (.ofNat 8) dj λo20 kL=>cR K o20 kL λv22=>x4 a0 a1 a4 a5 kL) (x4 a0 a1 a4 a5 dj)) (x1 a0 a1 a4 a5 dj)) (x1 a0 a1 a4 a5 H2))) (bI (!a6) (R.2.2.1 a0 (.str 1 44) H λHx gD=>cR K Hx gD λv25=>bC v25 λz26=>bI z26 (ah 0 a5 λv27=>af v27 gD λv28=>bR v28 λv29=>cI 0 v29 λz30=>bI (aV z30 (.ofNat 16)) (R.2.1 a0 (.ofNat 8) gD λo31 np=>cR K o31 np λv33=>x4 a0 a1 a4 a5 np) (x4 a0 a1 a4 a5 gD)) (x1 a0 a1 a4 a5 gD)) (x1 a0 a1 a4 a5 H))
theorem ZJ{R:fi}(hR:nJ R){K:KF}{x4 x1:s9}(h4:JP K x4)(h1:JN K x1):oq K (Dx R K x4 x1):=λa0 a1 a4 a5 a6 H h=>pk hR (cc h4 (cc h1 .nil)) h
def Vm(R:fi)(K:KF)(i2:kZ):kZ:=Dx R K (Vk R K i2) (Vl R K)
theorem ZK{R:fi}(hR:nJ R){K:KF}{i2:kZ}(g2:oq K i2):oq K (Vm R K i2):=ZJ hR (ZG hR g2) (ZI hR)
def se(R:fi)(K:KF)(n:Nat):kZ:=Nat.rec (motive:=λ_=>kZ) (λ_ _ _ _ _ _=>False) (λ_ i=>Vm R K i) n
theorem ZL{R:fi}(hR:nJ R){K:KF}(n:Nat):oq K (se R K n):=Nat.rec (motive:=λn=>oq K (se R K n)) (λa0 a1 a4 a5 a6 H h=>h.elim) (λn ih=>ZK hR ih) n
def JQ(R:fi)(K:KF)(x2:kZ)(a0:AV)(a1:Int)(H:AH):Prop:=cm H (cW gPa (aA H) 49 λv1 H2=>cm H2 (dC (aA H2) [.ab,.ab] λv3 H4=>R.2.2.2.2.1 a0 (.str 1 40) H4 λo5 H6=>cR K o5 H6 λv7=>x2 a0 a1 v1 v3 true H6))
theorem ZM{R:fi}(hR:nJ R){K:KF}{x2:kZ}(h2:oq K x2)(a0:AV)(a1:Int)(H:AH)(h:JQ R K x2 a0 a1 H):cx 131 K [] (aT (cv 131) [a0,(.int 0 a1)]) [] H:=pk hR (cc h2 .nil) h
def Vn(R:fi)(K:KF):kM:=JQ R K (se R K NL)
def wP(R:fi):AV→Int→AH→KF→Prop:=λa0 a1 H K=>Vn R K a0 a1 H
theorem ann(R:fi)(hR:nJ R):an gPa 131 (ai [.a,.i 0] (wP R)):=rk λK a0 a1 H h=>ZM hR (ZL hR NL) a0 a1 H h
abbrev iQ:Type:=(AV→AH→KF→Prop)×(AV→AV→AH→KF→Prop)×(AV→AH→KF→Prop)×(Int→Int→Int→AV→AV→AH→KF→Prop)
def ars(R:iQ):List (Nat×bQ):=[(23,ai [.a] R.1),(56,ai [.a,.a] R.2.1),(163,ai [.a] R.2.2.1),(164,ai [.i 0,.i 0,.i 0,.a,.a] R.2.2.2)]
abbrev wQ(R:iQ):Prop:=ad gPa (ars R)
abbrev JR(K:KF)(F:aU):Prop:=aN 132 K [1,1,1] 21 [2,3] [.a,.a] F
abbrev sf(K:KF)(F:ay):Prop:=aN 132 K [0,1,0,1,1] 21 [0,2,3,4] [.a,.a,.a,.i 0] F
def zz(R:iQ)(K:KF)(a2 a3:AV)(H:AH):Prop:=aM 7 a3 H λv1=>ag 7 a2 v1 H λH2=>aM 7 a2 H2 λv3=>K (.ret v3) H2
theorem ZN{R:iQ}(hR:wQ R){K:KF}:JR K (zz R K):=λa2 a3 H h=>pk hR .nil h
def Vo(R:iQ)(K:KF):aU:=zz R K
theorem ZO{R:iQ}(hR:wQ R){K:KF}:JR K (Vo R K):=ZN hR
def Dy(R:iQ)(K:KF)(x2:ay)(x1:aU)(a0 a2 a3:AV)(a4:Int)(H:AH):Prop:=R.2.1 a0 (.str 2 29295) H λo1 H2=>cR K o1 H2 λv3=>bC v3 λz4=>bI z4 (aM 7 a3 H2 λv5=>R.2.2.1 a0 H2 λo6 H7=>cR K o6 H7 λv8=>aM 7 a3 H7 λv9=>bT (aH v9 v5) (R.2.2.2 (.ofNat 16) (.ofNat 0) a4 v5 v8 H7 λpB dq=>cR K pB dq λv12=>ag 7 a3 v12 dq λdj=>R.1 a0 dj λzt dH=>cR K zt dH λv16=>fW v16 λl17=>cE l17 3 λv18=>cI 0 v18 λzy=>x2 a0 a2 a3 zy dH)) (x1 a2 a3 H2)
theorem ZP{R:iQ}(hR:wQ R){K:KF}{x2:ay}{x1:aU}(h2:sf K x2)(h1:JR K x1):sf K (Dy R K x2 x1):=λa0 a2 a3 a4 H h=>pk hR (cc h2 (cc h1 .nil)) h
def Vp(R:iQ)(K:KF)(i2:ay):ay:=Dy R K i2 (Vo R K)
theorem ZQ{R:iQ}(hR:wQ R){K:KF}{i2:ay}(g2:sf K i2):sf K (Vp R K i2):=ZP hR g2 (ZO hR)
def vi(R:iQ)(K:KF)(n:Nat):ay:=Nat.rec (motive:=λ_=>ay) (λ_ _ _ _ _=>False) (λ_ i=>Vp R K i) n
theorem ZR{R:iQ}(hR:wQ R){K:KF}(n:Nat):sf K (vi R K n):=Nat.rec (motive:=λn=>sf K (vi R K n)) (λa0 a2 a3 a4 H h=>h.elim) (λn ih=>ZQ hR ih) n
def Dz(R:iQ)(K:KF)(x2:ay)(a0:AV)(H:AH):Prop:=cm H (cW gPa (aA H) 49 λv1 H2=>R.2.2.1 a0 H2 λo3 H4=>cR K o3 H4 λv5=>cm H4 (cW gPa (aA H4) 49 λv6 H7=>ag 7 v6 v5 H7 λH8=>R.1 a0 H8 λo9 bo=>cR K o9 bo λv11=>fW v11 λl12=>cE l12 3 λv13=>cI 0 v13 λlL=>x2 a0 v1 v6 lL bo))
theorem ZS{R:iQ}(hR:wQ R){K:KF}{x2:ay}(h2:sf K x2)(a0:AV)(H:AH)(h:Dz R K x2 a0 H):cx 132 K [] (aT (cv 132) [a0]) [] H:=pk hR (cc h2 .nil) h
def art(R:iQ)(K:KF):Ta:=Dz R K (vi R K NL)
def Cm(R:iQ):AV→AH→KF→Prop:=λa0 H K=>art R K a0 H
theorem ano(R:iQ)(hR:wQ R):an gPa 132 (ai [.a] (Cm R)):=rk λK a0 H h=>ZS hR (ZR hR NL) a0 H h
abbrev gv:Type:=(AV→AH→KF→Prop)×(AV→AV→AH→KF→Prop)×(AV→AV→AH→KF→Prop)×(AV→AH→KF→Prop)×(AV→AV→AH→KF→Prop)×(AV→AH→KF→Prop)×(Int→Int→Int→AV→AV→AH→KF→Prop)×(AV→AH→KF→Prop)×(AV→AH→KF→Prop)
def aru(R:gv):List (Nat×bQ):=[(23,ai [.a] R.1),(56,ai [.a,.a] R.2.1),(94,ai [.a,.a] R.2.2.1),(97,ai [.a] R.2.2.2.1),(98,ai [.a,.a] R.2.2.2.2.1),(130,ai [.a] R.2.2.2.2.2.1),(164,ai [.i 0,.i 0,.i 0,.a,.a] R.2.2.2.2.2.2.1),(165,ai [.a] R.2.2.2.2.2.2.2.1),(166,ai [.a] R.2.2.2.2.2.2.2.2)]
abbrev rh(R:gv):Prop:=ad gPa (aru R)
abbrev JS(K:KF)(F:bf):Prop:=aN 133 K [1,1,1] 57 [0,2,3] [.a,.a,.a] F
abbrev ou(K:KF)(F:bf):Prop:=aN 133 K [0,1,1,1] 57 [0,2,3] [.a,.a,.a] F
abbrev JT(K:KF)(F:G9):Prop:=aN 133 K [1,1,0,1,0,1,0,0,0,1,1,1] 57 [0,2,3,4,5] [.a,.a,.a,.i 0,.a] F
def DA(R:gv)(K:KF)(x2:bf)(a0 a2 a3:AV)(a4:Int)(a5:AV)(H:AH):Prop:=aM 7 a3 H λv1=>aM 7 a5 H λv2=>R.2.2.2.2.2.2.1 (.ofNat 9) (.ofNat 0) a4 v1 v2 H λo3 H4=>cR K o3 H4 λv5=>ag 7 a3 v5 H4 λH6=>x2 a0 a2 a3 H6
theorem ZT{R:gv}(hR:rh R){K:KF}{x2:bf}(h2:ou K x2):JT K (DA R K x2):=λa0 a2 a3 a4 a5 H h=>pk hR (cc h2 .nil) h
def Vq(R:gv)(K:KF)(i2:bf):G9:=DA R K i2
theorem ZU{R:gv}(hR:rh R){K:KF}{i2:bf}(g2:ou K i2):JT K (Vq R K i2):=ZT hR g2
def DB(R:gv)(K:KF)(x2:bf)(x3:G9)(a0 a2 a3:AV)(H:AH):Prop:=R.1 a0 H λo1 H2=>cR K o1 H2 λv3=>fW v3 λl4=>cE l4 3 λv5=>cI 0 v5 λz6=>R.2.1 a0 (.str 1 46) H2 λo7 H8=>cR K o7 H8 λv9=>bC v9 λz10=>bI z10 (R.1 a0 H8 λqY cU=>cR K qY cU λv13=>fW v13 λl14=>cE l14 3 λv15=>cI 0 v15 λlK=>cm cU (cW gPa (aA cU) 49 λv17 eB=>ag 7 v17 (.agg [(.int 0 (.ofNat 5)),(.int 0 lK),(.int 0 (.ofNat 0)),(.str 0 0),(.int 0 (.ofNat 0)),.ab,.ab]) eB λik=>R.2.2.2.2.2.1 a0 ik λo20 kL=>cR K o20 kL λv22=>ah 3 v17 λv23=>ag 1 v23 v22 kL λgD=>x3 a0 a2 a3 z6 v17 gD)) (R.2.1 a0 (.str 1 91) H8 λCn jS=>cR K Cn jS λv27=>bC v27 λz28=>bI z28 (aM 7 a3 jS λv29=>R.2.2.2.1 a0 jS λCe mj=>cR K Ce mj λv32=>aM 7 a3 mj λv33=>bT (aH v33 v29) (R.2.2.2.2.2.2.1 (.ofNat 9) (.ofNat 0) z6 v29 v32 mj λo34 BB=>cR K o34 BB λv36=>ag 7 a3 v36 BB λHz=>R.2.2.2.2.1 a0 (.str 1 93) Hz λo38 H39=>cR K o38 H39 λv40=>x2 a0 a2 a3 H39)) (R.2.1 a0 (.str 1 40) jS λo41 qv=>cR K o41 qv λv43=>bC v43 λz44=>bI z44 (aM 7 a3 qv λv45=>bP qv (onVal v45 λl46=>iE l46 7 (bG (aA qv) 1 7 (spl l46 [(.int 0 (.ofNat 0)),(.int 0 (.ofNat 0)),(.int 0 (.ofNat 0)),(.str 0 0),(.int 0 (.ofNat 0)),.ab,.ab] 0) λv47 Ci=>bT (Nat.beq Ci.n (Nat.succ qv.n)) (R.2.2.2.2.2.2.2.2 a0 Ci λo49 H50=>cR K o49 H50 λv51=>aM 7 a3 H50 λv52=>bT (aH v52 v45) (cV 7 96 v47 v51 H50 λv53 HA=>one v53 (ag 7 a3 (.agg [(.int 0 (.ofNat 10)),(.int 0 z6),(.int 0 (.ofNat 0)),(.str 0 0),(.int 0 (.ofNat 0)),v53,.ab]) HA λH55=>x2 a0 a2 a3 H55)))))) (aM 7 a3 qv λv56=>ag 7 a2 v56 qv λH57=>aM 7 a2 H57 λv58=>K (.ret v58) H57)))
theorem ZV{R:gv}(hR:rh R){K:KF}{x2:bf}{x3:G9}(h2:ou K x2)(h3:JT K x3):ou K (DB R K x2 x3):=λa0 a2 a3 H h=>pk hR (cc h2 (cc h3 .nil)) h
def Vr(R:gv)(K:KF)(i2:bf):bf:=DB R K i2 (Vq R K i2)
theorem ZW{R:gv}(hR:rh R){K:KF}{i2:bf}(g2:ou K i2):ou K (Vr R K i2):=ZV hR g2 (ZU hR g2)
def sg(R:gv)(K:KF)(n:Nat):bf:=Nat.rec (motive:=λ_=>bf) (λ_ _ _ _=>False) (λ_ i=>Vr R K i) n
theorem ZX{R:gv}(hR:rh R){K:KF}(n:Nat):ou K (sg R K n):=Nat.rec (motive:=λn=>ou K (sg R K n)) (λa0 a2 a3 H h=>h.elim) (λn ih=>ZW hR ih) n
def DC(R:gv)(K:KF)(x2:bf)(a0 a2 a3:AV)(H:AH):Prop:=x2 a0 a2 a3 H
theorem ZY{R:gv}(hR:rh R){K:KF}{x2:bf}(h2:ou K x2):JS K (DC R K x2):=λa0 a2 a3 H h=>pk hR (cc h2 .nil) h
def JU(R:gv)(K:KF):bf:=DC R K (sg R K NL)
theorem ZZ{R:gv}(hR:rh R){K:KF}:JS K (JU R K):=ZY hR (ZX hR NL)
def JV(R:gv)(K:KF)(x1:bf)(a0:AV)(H:AH):Prop:=cm H (cW gPa (aA H) 49 λv1 H2=>R.1 a0 H2 λo3 H4=>cR K o3 H4 λv5=>fW v5 λl6=>cE l6 0 λv7=>cI 0 v7 λz8=>bI (!(aV z8 (.ofNat 2))) (R.2.2.1 a0 (.str 1 40) H4 λo9 bo=>cR K o9 bo λv11=>bC v11 λz12=>bI (!z12) (R.2.2.2.2.2.2.2.1 a0 bo λwL dG=>cR K wL dG λv15=>ag 7 v1 v15 dG λdJ=>aM 7 v1 dJ λv17=>K (.ret v17) dJ) (R.2.2.2.2.2.2.2.1 a0 bo λQD ik=>cR K QD ik λv20=>cm ik (cW gPa (aA ik) 49 λv21 jC=>ag 7 v21 v20 jC λnh=>x1 a0 v1 v21 nh))) (R.2.2.2.2.2.2.2.1 a0 H4 λo24 mE=>cR K o24 mE λv26=>cm mE (cW gPa (aA mE) 49 λv27 HJ=>ag 7 v27 v26 HJ λFq=>x1 a0 v1 v27 Fq)))
theorem Z0{R:gv}(hR:rh R){K:KF}{x1:bf}(h1:JS K x1)(a0:AV)(H:AH)(h:JV R K x1 a0 H):cx 133 K [] (aT (cv 133) [a0]) [] H:=pk hR (cc h1 .nil) h
def Vs(R:gv)(K:KF):Ta:=JV R K (JU R K)
def wR(R:gv):AV→AH→KF→Prop:=λa0 H K=>Vs R K a0 H
theorem anp(R:gv)(hR:rh R):an gPa 133 (ai [.a] (wR R)):=rk λK a0 H h=>Z0 hR (ZZ hR) a0 H h
abbrev iR:Type:=(AV→AH→KF→Prop)×(AV→AV→AH→KF→Prop)×(Int→Int→Int→AV→AV→AH→KF→Prop)×(AV→AH→KF→Prop)
def arv(R:iR):List (Nat×bQ):=[(23,ai [.a] R.1),(56,ai [.a,.a] R.2.1),(164,ai [.i 0,.i 0,.i 0,.a,.a] R.2.2.1),(184,ai [.a] R.2.2.2)]
abbrev wS(R:iR):Prop:=ad gPa (arv R)
abbrev JW(K:KF)(F:aU):Prop:=aN 163 K [1,1,1] 21 [2,3] [.a,.a] F
abbrev si(K:KF)(F:ay):Prop:=aN 163 K [0,1,0,1,1] 21 [0,2,3,4] [.a,.a,.a,.i 0] F
def zA(R:iR)(K:KF)(a2 a3:AV)(H:AH):Prop:=aM 7 a3 H λv1=>ag 7 a2 v1 H λH2=>aM 7 a2 H2 λv3=>K (.ret v3) H2
theorem Z1{R:iR}(hR:wS R){K:KF}:JW K (zA R K):=λa2 a3 H h=>pk hR .nil h
def Vt(R:iR)(K:KF):aU:=zA R K
theorem Z2{R:iR}(hR:wS R){K:KF}:JW K (Vt R K):=Z1 hR
def DD(R:iR)(K:KF)(x2:ay)(x1:aU)(a0 a2 a3:AV)(a4:Int)(H:AH):Prop:=R.2.1 a0 (.str 3 6581857) H λo1 H2=>cR K o1 H2 λv3=>bC v3 λz4=>bI z4 (aM 7 a3 H2 λv5=>R.2.2.2 a0 H2 λo6 H7=>cR K o6 H7 λv8=>aM 7 a3 H7 λv9=>bT (aH v9 v5) (R.2.2.1 (.ofNat 15) (.ofNat 0) a4 v5 v8 H7 λpB dq=>cR K pB dq λv12=>ag 7 a3 v12 dq λdj=>R.1 a0 dj λzt dH=>cR K zt dH λv16=>fW v16 λl17=>cE l17 3 λv18=>cI 0 v18 λzy=>x2 a0 a2 a3 zy dH)) (x1 a2 a3 H2)
theorem Z3{R:iR}(hR:wS R){K:KF}{x2:ay}{x1:aU}(h2:si K x2)(h1:JW K x1):si K (DD R K x2 x1):=λa0 a2 a3 a4 H h=>pk hR (cc h2 (cc h1 .nil)) h
def Vu(R:iR)(K:KF)(i2:ay):ay:=DD R K i2 (Vt R K)
theorem Z4{R:iR}(hR:wS R){K:KF}{i2:ay}(g2:si K i2):si K (Vu R K i2):=Z3 hR g2 (Z2 hR)
def vj(R:iR)(K:KF)(n:Nat):ay:=Nat.rec (motive:=λ_=>ay) (λ_ _ _ _ _=>False) (λ_ i=>Vu R K i) n
theorem Z5{R:iR}(hR:wS R){K:KF}(n:Nat):si K (vj R K n):=Nat.rec (motive:=λn=>si K (vj R K n)) (λa0 a2 a3 a4 H h=>h.elim) (λn ih=>Z4 hR ih) n
def DE(R:iR)(K:KF)(x2:ay)(a0:AV)(H:AH):Prop:=cm H (cW gPa (aA H) 49 λv1 H2=>R.2.2.2 a0 H2 λo3 H4=>cR K o3 H4 λv5=>cm H4 (cW gPa (aA H4) 49 λv6 H7=>ag 7 v6 v5 H7 λH8=>R.1 a0 H8 λo9 bo=>cR K o9 bo λv11=>fW v11 λl12=>cE l12 3 λv13=>cI 0 v13 λlL=>x2 a0 v1 v6 lL bo))
theorem Z6{R:iR}(hR:wS R){K:KF}{x2:ay}(h2:si K x2)(a0:AV)(H:AH)(h:DE R K x2 a0 H):cx 163 K [] (aT (cv 163) [a0]) [] H:=pk hR (cc h2 .nil) h
def arw(R:iR)(K:KF):Ta:=DE R K (vj R K NL)
def Co(R:iR):AV→AH→KF→Prop:=λa0 H K=>arw R K a0 H
theorem anq(R:iR)(hR:wS R):an gPa 163 (ai [.a] (Co R)):=rk λK a0 H h=>Z6 hR (Z5 hR NL) a0 H h
abbrev jT:Type:=(AV→AH→KF→Prop)×(AV→Int→AH→KF→Prop)×(AV→AV→AH→KF→Prop)×(AV→AV→AH→KF→Prop)×(AV→AH→KF→Prop)×(AV→AV→AH→KF→Prop)×(AV→Int→AH→KF→Prop)×(AV→Int→AH→KF→Prop)
def arx(R:jT):List (Nat×bQ):=[(23,ai [.a] R.1),(25,ai [.a,.i 0] R.2.1),(56,ai [.a,.a] R.2.2.1),(94,ai [.a,.a] R.2.2.2.1),(97,ai [.a] R.2.2.2.2.1),(98,ai [.a,.a] R.2.2.2.2.2.1),(131,ai [.a,.i 0] R.2.2.2.2.2.2.1),(185,ai [.a,.i 0] R.2.2.2.2.2.2.2)]
abbrev zB(R:jT):Prop:=ad gPa (arx R)
abbrev JX(K:KF)(F:bf):Prop:=aN 165 K [1,1,1,1] 78 [0,2,4] [.a,.a,.a] F
abbrev JY(K:KF)(F:bf):Prop:=aN 165 K [1,0,1,1,1,1,1,1,1,1,1,1,1,1,1,1,1,1,1,0,0,1,1,1] 78 [0,2,4] [.a,.a,.a] F
def JZ(R:jT)(K:KF)(a0 a2 a4:AV)(H:AH):Prop:=R.2.2.2.2.2.1 a0 (.str 1 41) H λo1 H2=>cR K o1 H2 λv3=>aM 7 a4 H2 λv4=>ag 7 a2 v4 H2 λH5=>aM 7 a2 H5 λv6=>K (.ret v6) H5
theorem Z7{R:jT}(hR:zB R){K:KF}:JY K (JZ R K):=λa0 a2 a4 H h=>pk hR .nil h
def J0(R:jT)(K:KF):bf:=JZ R K
theorem Z8{R:jT}(hR:zB R){K:KF}:JY K (J0 R K):=Z7 hR
def J1(R:jT)(K:KF)(a0 a2 a4:AV)(H:AH):Prop:=aC a0 (ah 1 a0 λv1=>af v1 H λv2=>cI 0 v2 λz3=>aJ 0 (Int.add z3 (.ofNat 1)) λz4=>aC a0 (ah 1 a0 λv5=>ag 1 v5 (.int 0 z4) H λH6=>aM 7 a4 H6 λv7=>ag 7 a2 v7 H6 λH8=>aM 7 a2 H8 λv9=>K (.ret v9) H8))
theorem Z9{R:jT}(hR:zB R){K:KF}:JX K (J1 R K):=λa0 a2 a4 H h=>pk hR .nil h
def zC(R:jT)(K:KF):bf:=J1 R K
theorem aaa{R:jT}(hR:zB R){K:KF}:JX K (zC R K):=Z9 hR
def J2(R:jT)(K:KF)(x2 x1:bf)(a0:AV)(H:AH):Prop:=cm H (cW gPa (aA H) 49 λv1 H2=>R.1 a0 H2 λo3 H4=>cR K o3 H4 λv5=>cm H4 (dC (aA H4) [(.int 0 (.ofNat 0)),(.str 0 0),(.int 0 (.ofNat 0)),(.int 0 (.ofNat 0))] λv6 H7=>ag 4 v6 v5 H7 λH8=>ah 3 v6 λv9=>af v9 H8 λv10=>cI 0 v10 λz11=>cm H8 (cW gPa (aA H8) 49 λv12 dj=>ag 7 v12 (.agg [(.int 0 (.ofNat 0)),(.int 0 z11),(.int 0 (.ofNat 0)),(.str 0 0),(.int 0 (.ofNat 0)),.ab,.ab]) dj λdG=>ah 0 v6 λv15=>af v15 dG λv16=>cI 0 v16 λz17=>bI (aV z17 (.ofNat 3)) (ah 2 v6 λv18=>af v18 dG λv19=>cI 0 v19 λz20=>ah 0 v12 λv21=>ag 1 v21 (.int 0 (.ofNat 4)) dG λjC=>af v18 jC λv23=>cI 0 v23 λz24=>bT (aH (.int 0 z24) (.int 0 z20)) (ah 2 v12 λv25=>ag 1 v25 (.int 0 z20) jC λjS=>x1 a0 v1 v12 jS)) (ah 0 v6 λv27=>af v27 dG λv28=>cI 0 v28 λz29=>bI (aV z29 (.ofNat 4)) (ah 1 v6 λv30=>af v30 dG λv31=>ah 0 v12 λv32=>ag 1 v32 (.int 0 (.ofNat 5)) dG λCp=>af v30 Cp λv34=>bT (aH v34 v31) (ah 3 v12 λv35=>ag 1 v35 v31 Cp λH36=>x1 a0 v1 v12 H36)) (ah 0 v6 λv37=>af v37 dG λv38=>cI 0 v38 λz39=>bI (aV z39 (.ofNat 2)) (ah 1 v6 λv40=>af v40 dG λv41=>ah 0 v12 λv42=>ag 1 v42 (.int 0 (.ofNat 6)) dG λym=>af v40 ym λv44=>bT (aH v44 v41) (ah 3 v12 λv45=>ag 1 v45 v41 ym λH46=>x1 a0 v1 v12 H46)) (R.2.2.2.1 a0 (.str 3 7104878) dG λo47 Ci=>cR K o47 Ci λv49=>bC v49 λz50=>bI z50 (ah 0 v12 λv51=>ag 1 v51 (.int 0 (.ofNat 1)) Ci λNq=>x1 a0 v1 v12 Nq) (R.2.2.2.1 a0 (.str 4 1702195828) Ci λo53 HA=>cR K o53 HA λv55=>bC v55 λz56=>bI z56 (ah 0 v12 λv57=>ag 1 v57 (.int 0 (.ofNat 2)) HA λH58=>x1 a0 v1 v12 H58) (R.2.2.2.1 a0 (.str 5 435728179558) HA λo59 Vv=>cR K o59 Vv λv61=>bC v61 λz62=>bI z62 (ah 0 v12 λv63=>ag 1 v63 (.int 0 (.ofNat 3)) Vv λH64=>x1 a0 v1 v12 H64) (R.2.2.1 a0 (.str 8 7957695015192261990) Vv λo65 H66=>cR K o65 H66 λv67=>bC v67 λz68=>bI z68 (ah 3 v6 λv69=>af v69 H66 λv70=>cI 0 v70 λz71=>R.2.2.2.2.2.2.1 a0 z71 H66 λo72 H73=>cR K o72 H73 λv74=>ag 7 v1 v74 H73 λH75=>aM 7 v1 H75 λv76=>K (.ret v76) H75) (R.2.2.1 a0 (.str 1 123) H66 λo77 Vg=>cR K o77 Vg λv79=>bC v79 λz80=>bI z80 (ah 3 v6 λv81=>af v81 Vg λv82=>cI 0 v82 λz83=>R.2.2.2.2.2.2.2 a0 z83 Vg λo84 H85=>cR K o84 H85 λv86=>ag 7 v1 v86 H85 λH87=>aM 7 v1 H87 λv88=>K (.ret v88) H87) (R.2.2.1 a0 (.str 1 40) Vg λo89 H90=>cR K o89 H90 λv91=>bC v91 λz92=>bI z92 (R.2.2.2.2.1 a0 H90 λo93 H94=>cR K o93 H94 λv95=>ag 7 v12 v95 H94 λH96=>x2 a0 v1 v12 H96) (R.2.1 a0 (.ofNat 14) H90 λo97 H98=>cR K o97 H98 λv99=>x1 a0 v1 v12 H98))))))))))))
theorem aab{R:jT}(hR:zB R){K:KF}{x2 x1:bf}(h2:JY K x2)(h1:JX K x1)(a0:AV)(H:AH)(h:J2 R K x2 x1 a0 H):cx 165 K [] (aT (cv 165) [a0]) [] H:=pk hR (cc h2 (cc h1 .nil)) h
def Vw(R:jT)(K:KF):Ta:=J2 R K (J0 R K) (zC R K)
def wT(R:jT):AV→AH→KF→Prop:=λa0 H K=>Vw R K a0 H
theorem anr(R:jT)(hR:zB R):an gPa 165 (ai [.a] (wT R)):=rk λK a0 H h=>aab hR (Z8 hR) (aaa hR) a0 H h
abbrev fj:Type:=(AV→Int→AH→KF→Prop)×(AV→AV→AH→KF→Prop)×(AV→AV→AH→KF→Prop)×(AV→AH→KF→Prop)×(AV→AV→AH→KF→Prop)
def ary(R:fj):List (Nat×bQ):=[(25,ai [.a,.i 0] R.1),(56,ai [.a,.a] R.2.1),(94,ai [.a,.a] R.2.2.1),(97,ai [.a] R.2.2.2.1),(98,ai [.a,.a] R.2.2.2.2)]
abbrev nK(R:fj):Prop:=ad gPa (ary R)
abbrev J3(K:KF)(F:aU):Prop:=aN 166 K [1,1,1] 32 [0,3] [.a,.a] F
abbrev ov(K:KF)(F:mX):Prop:=aN 166 K [0,1,0,1,1] 32 [0,3,4] [.a,.a,.b] F
abbrev J4(K:KF)(F:aU):Prop:=aN 166 K [1,1,0,0,1,0,1,1] 32 [0,3] [.a,.a] F
abbrev J5(K:KF)(F:aU):Prop:=aN 166 K [1,0,0,1,0,0,1,0,1,1] 32 [0,3] [.a,.a] F
def vk(R:fj)(K:KF)(x2:mX)(a0 a3:AV)(H:AH):Prop:=x2 a0 a3 false H
theorem aac{R:fj}(hR:nK R){K:KF}{x2:mX}(h2:ov K x2):J4 K (vk R K x2):=λa0 a3 H h=>pk hR (cc h2 .nil) h
def Vx(R:fj)(K:KF)(i2:mX):aU:=vk R K i2
theorem aad{R:fj}(hR:nK R){K:KF}{i2:mX}(g2:ov K i2):J4 K (Vx R K i2):=aac hR g2
def vm(R:fj)(K:KF)(x3:aU)(a0 a3:AV)(H:AH):Prop:=R.2.2.2.1 a0 H λo1 H2=>cR K o1 H2 λv3=>onVal v3 λl4=>iE l4 7 (bG (aA H2) 1 7 (spl l4 [(.int 0 (.ofNat 0)),(.int 0 (.ofNat 0)),(.int 0 (.ofNat 0)),(.str 0 0),(.int 0 (.ofNat 0)),.ab,.ab] 0) λv5 H6=>cV 7 96 a3 v5 H6 λv7 H8=>x3 a0 v7 H8)
theorem aae{R:fj}(hR:nK R){K:KF}{x3:aU}(h3:J4 K x3):J5 K (vm R K x3):=λa0 a3 H h=>pk hR (cc h3 .nil) h
def Vy(R:fj)(K:KF)(i2:mX):aU:=vm R K (Vx R K i2)
theorem aaf{R:fj}(hR:nK R){K:KF}{i2:mX}(g2:ov K i2):J5 K (Vy R K i2):=aae hR (aad hR g2)
def zD(R:fj)(K:KF)(a0 a3:AV)(H:AH):Prop:=R.2.2.2.2 a0 (.str 1 41) H λo1 H2=>cR K o1 H2 λv3=>K (.ret a3) H2
theorem aag{R:fj}(hR:nK R){K:KF}:J3 K (zD R K):=λa0 a3 H h=>pk hR .nil h
def Vz(R:fj)(K:KF):aU:=zD R K
theorem aah{R:fj}(hR:nK R){K:KF}:J3 K (Vz R K):=aag hR
def DF(R:fj)(K:KF)(x4 x1:aU)(a0 a3:AV)(a4:Bool)(H:AH):Prop:=bI a4 (R.2.2.1 a0 (.str 1 41) H λo1 H2=>cR K o1 H2 λv3=>bC v3 λz4=>bI (!z4) (bR a3 λv5=>cI 0 v5 λz6=>bI (aV z6 (.ofNat 16)) (R.1 a0 (.ofNat 8) H2 λo7 H8=>cR K o7 H8 λv9=>x4 a0 a3 H8) (x4 a0 a3 H2)) (bI (!a4) (R.2.1 a0 (.str 1 44) H2 λpB dq=>cR K pB dq λv12=>bC v12 λz13=>bI z13 (bR a3 λv14=>cI 0 v14 λnk=>bI (aV nk (.ofNat 16)) (R.1 a0 (.ofNat 8) dq λo16 jt=>cR K o16 jt λv18=>x4 a0 a3 jt) (x4 a0 a3 dq)) (x1 a0 a3 dq)) (x1 a0 a3 H2))) (bI (!a4) (R.2.1 a0 (.str 1 44) H λzu gV=>cR K zu gV λv21=>bC v21 λz22=>bI z22 (bR a3 λv23=>cI 0 v23 λz24=>bI (aV z24 (.ofNat 16)) (R.1 a0 (.ofNat 8) gV λCn jS=>cR K Cn jS λv27=>x4 a0 a3 jS) (x4 a0 a3 gV)) (x1 a0 a3 gV)) (x1 a0 a3 H))
theorem aai{R:fj}(hR:nK R){K:KF}{x4 x1:aU}(h4:J5 K x4)(h1:J3 K x1):ov K (DF R K x4 x1):=λa0 a3 a4 H h=>pk hR (cc h4 (cc h1 .nil)) h
def VA(R:fj)(K:KF)(i2:mX):mX:=DF R K (Vy R K i2) (Vz R K)
theorem aaj{R:fj}(hR:nK R){K:KF}{i2:mX}(g2:ov K i2):ov K (VA R K i2):=aai hR (aaf hR g2) (aah hR)
def sj(R:fj)(K:KF)(n:Nat):mX:=Nat.rec (motive:=λ_=>mX) (λ_ _ _ _=>False) (λ_ i=>VA R K i) n
theorem aak{R:fj}(hR:nK R){K:KF}(n:Nat):ov K (sj R K n):=Nat.rec (motive:=λn=>ov K (sj R K n)) (λa0 a3 a4 H h=>h.elim) (λn ih=>aaj hR ih) n
def J6(R:fj)(K:KF)(x2:mX)(a0:AV)(H:AH):Prop:=x2 a0 .ab true H
theorem aal{R:fj}(hR:nK R){K:KF}{x2:mX}(h2:ov K x2)(a0:AV)(H:AH)(h:J6 R K x2 a0 H):cx 166 K [] (aT (cv 166) [a0]) [] H:=pk hR (cc h2 .nil) h
def VB(R:fj)(K:KF):Ta:=J6 R K (sj R K NL)
def wU(R:fj):AV→AH→KF→Prop:=λa0 H K=>VB R K a0 H
theorem ans(R:fj)(hR:nK R):an gPa 166 (ai [.a] (wU R)):=rk λK a0 H h=>aal hR (aak hR NL) a0 H h
abbrev ld:Type:=(AV→AH→KF→Prop)×(Int→Int→Int→AV→AV→AH→KF→Prop)×(AV→AH→KF→Prop)×(AV→Int→AV→AH→KF→Prop)
def arz(R:ld):List (Nat×bQ):=[(23,ai [.a] R.1),(164,ai [.i 0,.i 0,.i 0,.a,.a] R.2.1),(192,ai [.a] R.2.2.1),(193,ai [.a,.i 0,.a] R.2.2.2)]
abbrev Cq(R:ld):Prop:=ad gPa (arz R)
abbrev sk(K:KF)(F:bf):Prop:=aN 184 K [0,1,1] 23 [0,2,3] [.a,.a,.a] F
def DG(R:ld)(K:KF)(x1:bf)(a0 a2 a3:AV)(H:AH):Prop:=R.1 a0 H λo1 H2=>cR K o1 H2 λv3=>fW v3 λl4=>cE l4 3 λv5=>cI 0 v5 λz6=>bG (aA H2) 6 1 [(.str 2 15677),(.str 2 15742),(.str 1 60),(.str 2 15676),(.str 1 62),(.str 2 15678)] λv7 H8=>R.2.2.2 a0 (.ofNat 7) v7 H8 λo9 bo=>cR K o9 bo λv11=>cI 0 v11 λz12=>bI (aV z12 (.ofNat 0)) (aM 7 a3 bo λv13=>ag 7 a2 v13 bo λdG=>aM 7 a2 dG λv15=>K (.ret v15) dG) (aM 7 a3 bo λv16=>R.2.2.1 a0 bo λtD eB=>cR K tD eB λv19=>aM 7 a3 eB λv20=>bT (aH v20 v16) (R.2.1 (.ofNat 14) z12 z6 v16 v19 eB λCr jC=>cR K Cr jC λv23=>ag 7 a3 v23 jC λgD=>x1 a0 a2 a3 gD))
theorem aam{R:ld}(hR:Cq R){K:KF}{x1:bf}(h1:sk K x1):sk K (DG R K x1):=λa0 a2 a3 H h=>pk hR (cc h1 .nil) h
def VC(R:ld)(K:KF)(i1:bf):bf:=DG R K i1
theorem aan{R:ld}(hR:Cq R){K:KF}{i1:bf}(g1:sk K i1):sk K (VC R K i1):=aam hR g1
def vq(R:ld)(K:KF)(n:Nat):bf:=Nat.rec (motive:=λ_=>bf) (λ_ _ _ _=>False) (λ_ i=>VC R K i) n
theorem aao{R:ld}(hR:Cq R){K:KF}(n:Nat):sk K (vq R K n):=Nat.rec (motive:=λn=>sk K (vq R K n)) (λa0 a2 a3 H h=>h.elim) (λn ih=>aan hR ih) n
def DH(R:ld)(K:KF)(x1:bf)(a0:AV)(H:AH):Prop:=cm H (cW gPa (aA H) 49 λv1 H2=>R.2.2.1 a0 H2 λo3 H4=>cR K o3 H4 λv5=>cm H4 (cW gPa (aA H4) 49 λv6 H7=>ag 7 v6 v5 H7 λH8=>x1 a0 v1 v6 H8))
theorem aap{R:ld}(hR:Cq R){K:KF}{x1:bf}(h1:sk K x1)(a0:AV)(H:AH)(h:DH R K x1 a0 H):cx 184 K [] (aT (cv 184) [a0]) [] H:=pk hR (cc h1 .nil) h
def arA(R:ld)(K:KF):Ta:=DH R K (vq R K NL)
def Cs(R:ld):AV→AH→KF→Prop:=λa0 H K=>arA R K a0 H
theorem ant(R:ld)(hR:Cq R):an gPa 184 (ai [.a] (Cs R)):=rk λK a0 H h=>aap hR (aao hR NL) a0 H h
abbrev gw:Type:=(AV→Int→AH→KF→Prop)×(AV→AV→AH→KF→Prop)×(AV→AV→AH→KF→Prop)×(AV→AV→AH→KF→Prop)×(AV→AV→AH→KF→Prop)
def arB(R:gw):List (Nat×bQ):=[(25,ai [.a,.i 0] R.1),(56,ai [.a,.a] R.2.1),(94,ai [.a,.a] R.2.2.1),(98,ai [.a,.a] R.2.2.2.1),(194,ai [.a,.a] R.2.2.2.2)]
abbrev ri(R:gw):Prop:=ad gPa (arB R)
abbrev DI(K:KF)(F:bf):Prop:=aN 185 K [1,1,1,1] 35 [0,4,5] [.a,.a,.a] F
abbrev qw(K:KF)(F:ib):Prop:=aN 185 K [0,0,1,1,1] 35 [0,4,5,6] [.a,.a,.a,.a] F
abbrev J7(K:KF)(F:ib):Prop:=aN 185 K [1,0,1,0,0,0,1,1,1] 35 [0,4,5,6] [.a,.a,.a,.a] F
def vr(R:gw)(K:KF)(a0 a4 a5:AV)(H:AH):Prop:=R.2.2.2.1 a0 (.str 1 125) H λo1 H2=>cR K o1 H2 λv3=>aM 7 a5 H2 λv4=>ag 7 a4 v4 H2 λH5=>aM 7 a4 H5 λv6=>K (.ret v6) H5
theorem aaq{R:gw}(hR:ri R){K:KF}:DI K (vr R K):=λa0 a4 a5 H h=>pk hR .nil h
def J8(R:gw)(K:KF):bf:=vr R K
theorem HL{R:gw}(hR:ri R){K:KF}:DI K (J8 R K):=aaq hR
def DJ(R:gw)(K:KF)(x2:ib)(x1:bf)(a0 a4 a5 a6:AV)(H:AH):Prop:=ah 5 a5 λv1=>af v1 H λv2=>R.2.2.2.2 a0 a6 H λo3 H4=>cR K o3 H4 λv5=>af v1 H4 λv6=>bT (aH v6 v2) (cV 7 96 v2 v5 H4 λv7 H8=>ah 5 a5 λv9=>ag 1 v9 v7 H8 λbo=>R.2.1 a0 (.str 1 44) bo λqY cU=>cR K qY cU λv13=>bC v13 λlL=>bI (!lL) (R.2.1 a0 (.str 1 59) cU λtK dJ=>cR K tK dJ λv17=>bC v17 λyn=>bI (!yn) (x1 a0 a4 a5 dJ) (x2 a0 a4 a5 a6 dJ)) (x2 a0 a4 a5 a6 cU))
theorem aar{R:gw}(hR:ri R){K:KF}{x2:ib}{x1:bf}(h2:qw K x2)(h1:DI K x1):J7 K (DJ R K x2 x1):=λa0 a4 a5 a6 H h=>pk hR (cc h2 (cc h1 .nil)) h
def VD(R:gw)(K:KF)(i2:ib):ib:=DJ R K i2 (J8 R K)
theorem aas{R:gw}(hR:ri R){K:KF}{i2:ib}(g2:qw K i2):J7 K (VD R K i2):=aar hR g2 (HL hR)
def DK(R:gw)(K:KF)(x3:ib)(x1:bf)(a0 a4 a5 a6:AV)(H:AH):Prop:=R.2.2.1 a0 (.str 1 125) H λo1 H2=>cR K o1 H2 λv3=>bC v3 λz4=>bI (!z4) (ah 5 a5 λv5=>af v5 H2 λv6=>bR v6 λv7=>cI 0 v7 λz8=>bI (aV z8 (.ofNat 128)) (R.1 a0 (.ofNat 8) H2 λo9 bo=>cR K o9 bo λv11=>x3 a0 a4 a5 a6 bo) (x3 a0 a4 a5 a6 H2)) (x1 a0 a4 a5 H2)
theorem aat{R:gw}(hR:ri R){K:KF}{x3:ib}{x1:bf}(h3:J7 K x3)(h1:DI K x1):qw K (DK R K x3 x1):=λa0 a4 a5 a6 H h=>pk hR (cc h3 (cc h1 .nil)) h
def VE(R:gw)(K:KF)(i2:ib):ib:=DK R K (VD R K i2) (J8 R K)
theorem aau{R:gw}(hR:ri R){K:KF}{i2:ib}(g2:qw K i2):qw K (VE R K i2):=aat hR (aas hR g2) (HL hR)
def vt(R:gw)(K:KF)(n:Nat):ib:=Nat.rec (motive:=λ_=>ib) (λ_ _ _ _ _=>False) (λ_ i=>VE R K i) n
theorem aav{R:gw}(hR:ri R){K:KF}(n:Nat):qw K (vt R K n):=Nat.rec (motive:=λn=>qw K (vt R K n)) (λa0 a4 a5 a6 H h=>h.elim) (λn ih=>aau hR ih) n
def J9(R:gw)(K:KF)(x2:ib)(a0:AV)(a1:Int)(H:AH):Prop:=cm H (cW gPa (aA H) 49 λv1 H2=>cm H2 (cW gPa (aA H2) 49 λv3 H4=>ag 7 v3 (.agg [(.int 0 (.ofNat 8)),(.int 0 a1),(.int 0 (.ofNat 0)),(.str 0 0),(.int 0 (.ofNat 0)),.ab,.ab]) H4 λH5=>cm H5 (dC (aA H5) [(.int 0 (.ofNat 0))] λv6 H7=>ag 1 v6 (.int 0 (.ofNat 0)) H7 λH8=>x2 a0 v1 v3 v6 H8)))
theorem aaw{R:gw}(hR:ri R){K:KF}{x2:ib}(h2:qw K x2)(a0:AV)(a1:Int)(H:AH)(h:J9 R K x2 a0 a1 H):cx 185 K [] (aT (cv 185) [a0,(.int 0 a1)]) [] H:=pk hR (cc h2 .nil) h
def VF(R:gw)(K:KF):kM:=J9 R K (vt R K NL)
def wV(R:gw):AV→Int→AH→KF→Prop:=λa0 a1 H K=>VF R K a0 a1 H
theorem anu(R:gw)(hR:ri R):an gPa 185 (ai [.a,.i 0] (wV R)):=rk λK a0 a1 H h=>aaw hR (aav hR NL) a0 a1 H h
abbrev mF:Type:=(AV→AH→KF→Prop)×(AV→AH→KF→Prop)×(AV→AV→AH→KF→Prop)×(Int→Int→Int→AV→AV→AH→KF→Prop)×(AV→AH→KF→Prop)×(AV→AH→KF→Prop)
def arC(R:mF):List (Nat×bQ):=[(23,ai [.a] R.1),(53,ai [.a] R.2.1),(56,ai [.a,.a] R.2.2.1),(164,ai [.i 0,.i 0,.i 0,.a,.a] R.2.2.2.1),(192,ai [.a] R.2.2.2.2.1),(199,ai [.a] R.2.2.2.2.2)]
abbrev HM(R:mF):Prop:=ad gPa (arC R)
abbrev Ka(K:KF)(F:bf):Prop:=aN 192 K [1,1,1,1,1,1] 29 [0,2,3] [.a,.a,.a] F
def zE(R:mF)(K:KF)(a0 a2 a3:AV)(H:AH):Prop:=aC a0 (ah 2 a0 λv1=>af v1 H λv2=>cI 0 v2 λz3=>aJ 0 (Int.sub z3 (.ofNat 1)) λz4=>aC a0 (ah 2 a0 λv5=>ag 1 v5 (.int 0 z4) H λH6=>aM 7 a3 H6 λv7=>ag 7 a2 v7 H6 λH8=>aM 7 a2 H8 λv9=>K (.ret v9) H8))
theorem aax{R:mF}(hR:HM R){K:KF}:Ka K (zE R K):=λa0 a2 a3 H h=>pk hR .nil h
def VG(R:mF)(K:KF):bf:=zE R K
theorem aay{R:mF}(hR:HM R){K:KF}:Ka K (VG R K):=aax hR
def DL(R:mF)(K:KF)(x1:bf)(a0:AV)(H:AH):Prop:=cm H (cW gPa (aA H) 49 λv1 H2=>R.2.2.2.2.2 a0 H2 λo3 H4=>cR K o3 H4 λv5=>cm H4 (cW gPa (aA H4) 49 λv6 H7=>ag 7 v6 v5 H7 λH8=>R.1 a0 H8 λo9 bo=>cR K o9 bo λv11=>fW v11 λl12=>cE l12 3 λv13=>cI 0 v13 λlL=>R.2.2.1 a0 (.str 2 11822) bo λtK dJ=>cR K tK dJ λv17=>bC v17 λyn=>bI (!yn) (aM 7 v6 dJ λv19=>ag 7 v1 v19 dJ λgV=>aM 7 v1 gV λv21=>K (.ret v21) gV) (R.2.1 a0 dJ λo22 nh=>cR K o22 nh λv24=>aM 7 v6 nh λv25=>R.2.2.2.2.1 a0 nh λPT ly=>cR K PT ly λv28=>aM 7 v6 ly λv29=>bT (aH v29 v25) (R.2.2.2.1 (.ofNat 14) (.ofNat 6) lL v25 v28 ly λCe mj=>cR K Ce mj λv32=>ag 7 v6 v32 mj λCp=>x1 a0 v1 v6 Cp))))
theorem aaz{R:mF}(hR:HM R){K:KF}{x1:bf}(h1:Ka K x1)(a0:AV)(H:AH)(h:DL R K x1 a0 H):cx 192 K [] (aT (cv 192) [a0]) [] H:=pk hR (cc h1 .nil) h
def arD(R:mF)(K:KF):Ta:=DL R K (VG R K)
def Ct(R:mF):AV→AH→KF→Prop:=λa0 H K=>arD R K a0 H
theorem anv(R:mF)(hR:HM R):an gPa 192 (ai [.a] (Ct R)):=rk λK a0 H h=>aaz hR (aay hR) a0 H h
abbrev fP:Type:=(AV→AH→KF→Prop)×(AV→AV→AH→KF→Prop)×(AV→AH→KF→Prop)×(AV→AV→AH→KF→Prop)
def arE(R:fP):List (Nat×bQ):=[(23,ai [.a] R.1),(56,ai [.a,.a] R.2.1),(97,ai [.a] R.2.2.1),(98,ai [.a,.a] R.2.2.2)]
abbrev pD(R:fP):Prop:=ad gPa (arE R)
abbrev Kb(K:KF)(F:bf):Prop:=aN 194 K [1,1,1,1] 85 [0,1,5] [.a,.a,.a] F
abbrev Kd(K:KF)(F:ib):Prop:=aN 194 K [1,0,1,1,1] 85 [0,1,5,7] [.a,.a,.a,.a] F
abbrev Ke(K:KF)(F:aU):Prop:=aN 194 K [0,1,1,0,1,1,1] 85 [0,5] [.a,.a] F
abbrev Kf(K:KF)(F:aU):Prop:=aN 194 K [1,0,1,1,0,1,1,1] 85 [0,5] [.a,.a] F
def Kg(R:fP)(K:KF)(a0 a5:AV)(H:AH):Prop:=ah 3 a5 λv1=>af v1 H λv2=>cI 0 v2 λz3=>ah 1 a5 λv4=>af v4 H λv5=>one v5 (R.2.2.1 a0 H λo6 H7=>cR K o6 H7 λv8=>af v4 H7 λv9=>bT (aH v9 v5) (af v1 H7 λv10=>cI 0 v10 λz11=>bT (aH (.int 0 z11) (.int 0 z3)) (bP H7 (onVal v8 λl12=>iE l12 7 (bG (aA H7) 2 7 (spl l12 [(.int 0 (.ofNat 5)),(.int 0 z3),(.int 0 (.ofNat 0)),v5,(.int 0 (.ofNat 1)),.ab,.ab,(.int 0 (.ofNat 0)),(.int 0 (.ofNat 0)),(.int 0 (.ofNat 0)),(.str 0 0),(.int 0 (.ofNat 0)),.ab,.ab] 7) λv13 dG=>bT (Nat.beq dG.n (Nat.succ H7.n)) (K (.ret v13) dG))))))
theorem aaA{R:fP}(hR:pD R){K:KF}:Kf K (Kg R K):=λa0 a5 H h=>pk hR .nil h
def Kh(R:fP)(K:KF):aU:=Kg R K
theorem aaB{R:fP}(hR:pD R){K:KF}:Kf K (Kh R K):=aaA hR
def Ki(R:fP)(K:KF)(x4:aU)(a0 a5:AV)(H:AH):Prop:=aC a0 (ah 1 a0 λv1=>af v1 H λv2=>cI 0 v2 λz3=>aJ 0 (Int.add z3 (.ofNat 2)) λz4=>aC a0 (ah 1 a0 λv5=>ag 1 v5 (.int 0 z4) H λH6=>x4 a0 a5 H6))
theorem aaC{R:fP}(hR:pD R){K:KF}{x4:aU}(h4:Kf K x4):Ke K (Ki R K x4):=λa0 a5 H h=>pk hR (cc h4 .nil) h
def Kj(R:fP)(K:KF):aU:=Ki R K (Kh R K)
theorem aaD{R:fP}(hR:pD R){K:KF}:Ke K (Kj R K):=aaC hR (aaB hR)
def Kk(R:fP)(K:KF)(a0 a1 a5:AV)(H:AH):Prop:=R.2.2.1 a0 H λo1 H2=>cR K o1 H2 λv3=>cm H2 (cW gPa (aA H2) 49 λv4 H5=>ag 7 v4 v3 H5 λH6=>aC a1 (af a1 H6 λv7=>cI 0 v7 λz8=>aJ 0 (Int.add z8 (.ofNat 1)) λz9=>aC a1 (ag 1 a1 (.int 0 z9) H6 λbo=>ah 3 a5 λv11=>af v11 bo λv12=>cI 0 v12 λz13=>aC a1 (af a1 bo λv14=>cI 0 v14 λnk=>aM 7 v4 bo λv16=>bP bo (onVal v16 λl17=>iE l17 7 (bG (aA bo) 2 7 (spl l17 [(.int 0 (.ofNat 4)),(.int 0 z13),(.int 0 nk),(.str 0 0),(.int 0 (.ofNat 1)),.ab,.ab,(.int 0 (.ofNat 0)),(.int 0 (.ofNat 0)),(.int 0 (.ofNat 0)),(.str 0 0),(.int 0 (.ofNat 0)),.ab,.ab] 7) λv18 ik=>bT (Nat.beq ik.n (Nat.succ bo.n)) (K (.ret v18) ik)))))))
theorem aaE{R:fP}(hR:pD R){K:KF}:Kb K (Kk R K):=λa0 a1 a5 H h=>pk hR .nil h
def DM(R:fP)(K:KF):bf:=Kk R K
theorem aaF{R:fP}(hR:pD R){K:KF}:Kb K (DM R K):=aaE hR
def Kl(R:fP)(K:KF)(x3:aU)(x1:bf)(a0 a1 a5 a7:AV)(H:AH):Prop:=ah 0 a5 λv1=>af v1 H λv2=>cI 0 v2 λz3=>bI (aV z3 (.ofNat 2)) (ah 0 a7 λv4=>af v4 H λv5=>cI 0 v5 λz6=>bI (aV z6 (.ofNat 5)) (ah 1 a7 λv7=>af v7 H λv8=>wo v8 (.str 1 61) λv9=>bC v9 λz10=>bI z10 (x3 a0 a5 H) (x1 a0 a1 a5 H)) (x1 a0 a1 a5 H)) (x1 a0 a1 a5 H)
theorem aaG{R:fP}(hR:pD R){K:KF}{x3:aU}{x1:bf}(h3:Ke K x3)(h1:Kb K x1):Kd K (Kl R K x3 x1):=λa0 a1 a5 a7 H h=>pk hR (cc h3 (cc h1 .nil)) h
def Km(R:fP)(K:KF):ib:=Kl R K (Kj R K) (DM R K)
theorem aaH{R:fP}(hR:pD R){K:KF}:Kd K (Km R K):=aaG hR (aaD hR) (aaF hR)
def Kn(R:fP)(K:KF)(x2:ib)(a0 a1:AV)(H:AH):Prop:=R.1 a0 H λo1 H2=>cR K o1 H2 λv3=>cm H2 (dC (aA H2) [(.int 0 (.ofNat 0)),(.str 0 0),(.int 0 (.ofNat 0)),(.int 0 (.ofNat 0))] λv4 H5=>ag 4 v4 v3 H5 λH6=>R.2.1 a0 (.str 1 91) H6 λo7 H8=>cR K o7 H8 λv9=>bC v9 λz10=>bI z10 (R.2.2.1 a0 H8 λqY cU=>cR K qY cU λv13=>cm cU (cW gPa (aA cU) 49 λv14 dH=>ag 7 v14 v13 dH λdJ=>R.2.2.2 a0 (.str 1 93) dJ λtD eB=>cR K tD eB λv19=>R.2.2.2 a0 (.str 1 61) eB λo20 kL=>cR K o20 kL λv22=>aM 7 v14 kL λv23=>R.2.2.1 a0 kL λo24 mE=>cR K o24 mE λv26=>aM 7 v14 mE λv27=>bT (aH v27 v23) (bP mE (onVal v23 λl28=>iE l28 7 (onVal v26 λl29=>iE l29 7 (bG (aA mE) 2 7 (spl l29 (spl l28 [(.int 0 (.ofNat 0)),(.int 0 (.ofNat 0)),(.int 0 (.ofNat 0)),(.str 0 0),(.int 0 (.ofNat 0)),.ab,.ab,(.int 0 (.ofNat 0)),(.int 0 (.ofNat 0)),(.int 0 (.ofNat 0)),(.str 0 0),(.int 0 (.ofNat 0)),.ab,.ab] 0) 7) λv30 mj=>bT (Nat.beq mj.n (Nat.succ mE.n)) (K (.ret v30) mj))))))) (aC a0 (ah 0 a0 λv32=>af v32 H8 λv33=>aC a0 (ah 1 a0 λv34=>af v34 H8 λv35=>cI 0 v35 λz36=>aJ 0 (Int.add z36 (.ofNat 1)) λz37=>aC a0 (ah 0 a0 λv38=>af v38 H8 λv39=>bR v39 λv40=>cI 0 v40 λz41=>aJ 0 (Int.sub z41 (.ofNat 1)) λz42=>oh xW [(.int 0 z42)] (.int 0 z37) λv43=>cI 0 v43 λz44=>cw 4 v33 (.int 0 z44) λv45=>aM 4 v45 H8 λv46=>bP H8 (cm H8 (dC (aA H8) [(.int 0 (.ofNat 0)),(.str 0 0),(.int 0 (.ofNat 0)),(.int 0 (.ofNat 0))] λv47 Ci=>bT (Nat.beq Ci.n (Nat.succ H8.n)) (ag 4 v47 v46 Ci λH49=>x2 a0 a1 v4 v47 H49))))))))
theorem aaI{R:fP}(hR:pD R){K:KF}{x2:ib}(h2:Kd K x2)(a0 a1:AV)(H:AH)(h:Kn R K x2 a0 a1 H):cx 194 K [] (aT (cv 194) [a0,a1]) [] H:=pk hR (cc h2 .nil) h
def VH(R:fP)(K:KF):aU:=Kn R K (Km R K)
def wW(R:fP):AV→AV→AH→KF→Prop:=λa0 a1 H K=>VH R K a0 a1 H
theorem anw(R:fP)(hR:pD R):an gPa 194 (ai [.a,.a] (wW R)):=rk λK a0 a1 H h=>aaI hR (aaH hR) a0 a1 H h
abbrev lf:Type:=(AV→AH→KF→Prop)×(Int→Int→Int→AV→AV→AH→KF→Prop)×(AV→Int→AV→AH→KF→Prop)×(AV→AH→KF→Prop)
def arF(R:lf):List (Nat×bQ):=[(23,ai [.a] R.1),(164,ai [.i 0,.i 0,.i 0,.a,.a] R.2.1),(193,ai [.a,.i 0,.a] R.2.2.1),(205,ai [.a] R.2.2.2)]
abbrev Cu(R:lf):Prop:=ad gPa (arF R)
abbrev sn(K:KF)(F:bf):Prop:=aN 199 K [0,1,1] 23 [0,2,3] [.a,.a,.a] F
def DN(R:lf)(K:KF)(x1:bf)(a0 a2 a3:AV)(H:AH):Prop:=R.1 a0 H λo1 H2=>cR K o1 H2 λv3=>fW v3 λl4=>cE l4 3 λv5=>cI 0 v5 λz6=>bG (aA H2) 2 1 [(.str 1 43),(.str 1 45)] λv7 H8=>R.2.2.1 a0 (.ofNat 1) v7 H8 λo9 bo=>cR K o9 bo λv11=>cI 0 v11 λz12=>bI (aV z12 (.ofNat 0)) (aM 7 a3 bo λv13=>ag 7 a2 v13 bo λdG=>aM 7 a2 dG λv15=>K (.ret v15) dG) (aM 7 a3 bo λv16=>R.2.2.2 a0 bo λtD eB=>cR K tD eB λv19=>aM 7 a3 eB λv20=>bT (aH v20 v16) (R.2.1 (.ofNat 14) z12 z6 v16 v19 eB λCr jC=>cR K Cr jC λv23=>ag 7 a3 v23 jC λgD=>x1 a0 a2 a3 gD))
theorem aaJ{R:lf}(hR:Cu R){K:KF}{x1:bf}(h1:sn K x1):sn K (DN R K x1):=λa0 a2 a3 H h=>pk hR (cc h1 .nil) h
def VI(R:lf)(K:KF)(i1:bf):bf:=DN R K i1
theorem aaK{R:lf}(hR:Cu R){K:KF}{i1:bf}(g1:sn K i1):sn K (VI R K i1):=aaJ hR g1
def vu(R:lf)(K:KF)(n:Nat):bf:=Nat.rec (motive:=λ_=>bf) (λ_ _ _ _=>False) (λ_ i=>VI R K i) n
theorem aaL{R:lf}(hR:Cu R){K:KF}(n:Nat):sn K (vu R K n):=Nat.rec (motive:=λn=>sn K (vu R K n)) (λa0 a2 a3 H h=>h.elim) (λn ih=>aaK hR ih) n
def DO(R:lf)(K:KF)(x1:bf)(a0:AV)(H:AH):Prop:=cm H (cW gPa (aA H) 49 λv1 H2=>R.2.2.2 a0 H2 λo3 H4=>cR K o3 H4 λv5=>cm H4 (cW gPa (aA H4) 49 λv6 H7=>ag 7 v6 v5 H7 λH8=>x1 a0 v1 v6 H8))
theorem aaM{R:lf}(hR:Cu R){K:KF}{x1:bf}(h1:sn K x1)(a0:AV)(H:AH)(h:DO R K x1 a0 H):cx 199 K [] (aT (cv 199) [a0]) [] H:=pk hR (cc h1 .nil) h
def arG(R:lf)(K:KF):Ta:=DO R K (vu R K NL)
def Cv(R:lf):AV→AH→KF→Prop:=λa0 H K=>arG R K a0 H
theorem anx(R:lf)(hR:Cu R):an gPa 199 (ai [.a] (Cv R)):=rk λK a0 H h=>aaM hR (aaL hR NL) a0 H h
abbrev lg:Type:=(AV→AH→KF→Prop)×(Int→Int→Int→AV→AV→AH→KF→Prop)×(AV→Int→AV→AH→KF→Prop)×(AV→AH→KF→Prop)
def arH(R:lg):List (Nat×bQ):=[(23,ai [.a] R.1),(164,ai [.i 0,.i 0,.i 0,.a,.a] R.2.1),(193,ai [.a,.i 0,.a] R.2.2.1),(208,ai [.a] R.2.2.2)]
abbrev Cw(R:lg):Prop:=ad gPa (arH R)
abbrev so(K:KF)(F:bf):Prop:=aN 205 K [0,1,1] 23 [0,2,3] [.a,.a,.a] F
def DQ(R:lg)(K:KF)(x1:bf)(a0 a2 a3:AV)(H:AH):Prop:=R.1 a0 H λo1 H2=>cR K o1 H2 λv3=>fW v3 λl4=>cE l4 3 λv5=>cI 0 v5 λz6=>bG (aA H2) 3 1 [(.str 1 42),(.str 2 12079),(.str 1 37)] λv7 H8=>R.2.2.1 a0 (.ofNat 3) v7 H8 λo9 bo=>cR K o9 bo λv11=>cI 0 v11 λz12=>bI (aV z12 (.ofNat 0)) (aM 7 a3 bo λv13=>ag 7 a2 v13 bo λdG=>aM 7 a2 dG λv15=>K (.ret v15) dG) (aM 7 a3 bo λv16=>R.2.2.2 a0 bo λtD eB=>cR K tD eB λv19=>aM 7 a3 eB λv20=>bT (aH v20 v16) (R.2.1 (.ofNat 14) z12 z6 v16 v19 eB λCr jC=>cR K Cr jC λv23=>ag 7 a3 v23 jC λgD=>x1 a0 a2 a3 gD))
theorem aaN{R:lg}(hR:Cw R){K:KF}{x1:bf}(h1:so K x1):so K (DQ R K x1):=λa0 a2 a3 H h=>pk hR (cc h1 .nil) h
def VJ(R:lg)(K:KF)(i1:bf):bf:=DQ R K i1
theorem aaO{R:lg}(hR:Cw R){K:KF}{i1:bf}(g1:so K i1):so K (VJ R K i1):=aaN hR g1
def vw(R:lg)(K:KF)(n:Nat):bf:=Nat.rec (motive:=λ_=>bf) (λ_ _ _ _=>False) (λ_ i=>VJ R K i) n
theorem aaP{R:lg}(hR:Cw R){K:KF}(n:Nat):so K (vw R K n):=Nat.rec (motive:=λn=>so K (vw R K n)) (λa0 a2 a3 H h=>h.elim) (λn ih=>aaO hR ih) n
def DS(R:lg)(K:KF)(x1:bf)(a0:AV)(H:AH):Prop:=cm H (cW gPa (aA H) 49 λv1 H2=>R.2.2.2 a0 H2 λo3 H4=>cR K o3 H4 λv5=>cm H4 (cW gPa (aA H4) 49 λv6 H7=>ag 7 v6 v5 H7 λH8=>x1 a0 v1 v6 H8))
theorem aaQ{R:lg}(hR:Cw R){K:KF}{x1:bf}(h1:so K x1)(a0:AV)(H:AH)(h:DS R K x1 a0 H):cx 205 K [] (aT (cv 205) [a0]) [] H:=pk hR (cc h1 .nil) h
def arI(R:lg)(K:KF):Ta:=DS R K (vw R K NL)
def Cx(R:lg):AV→AH→KF→Prop:=λa0 H K=>arI R K a0 H
theorem anz(R:lg)(hR:Cw R):an gPa 205 (ai [.a] (Cx R)):=rk λK a0 H h=>aaQ hR (aaP hR NL) a0 H h
abbrev jU:Type:=(AV→AH→KF→Prop)×(AV→AH→KF→Prop)×(AV→AV→AH→KF→Prop)×(AV→AH→KF→Prop)×(AV→AH→KF→Prop)
def arJ(R:jU):List (Nat×bQ):=[(23,ai [.a] R.1),(53,ai [.a] R.2.1),(56,ai [.a,.a] R.2.2.1),(133,ai [.a] R.2.2.2.1),(208,ai [.a] R.2.2.2.2)]
abbrev zF(R:jU):Prop:=ad gPa (arJ R)
abbrev Ko(K:KF)(F:aB):Prop:=aN 208 K [1,1,1,1] 36 [0,2,3,4] [.a,.a,.i 0,.i 0] F
abbrev Kp(K:KF)(F:aU):Prop:=aN 208 K [1,1,1,1,1,1,1] 36 [2,5] [.a,.a] F
def vx(R:jU)(K:KF)(a2 a5:AV)(H:AH):Prop:=aM 7 a5 H λv1=>ag 7 a2 v1 H λH2=>aM 7 a2 H2 λv3=>K (.ret v3) H2
theorem aaR{R:jU}(hR:zF R){K:KF}:Kp K (vx R K):=λa2 a5 H h=>pk hR .nil h
def VK(R:jU)(K:KF):aU:=vx R K
theorem aaS{R:jU}(hR:zF R){K:KF}:Kp K (VK R K):=aaR hR
def zG(R:jU)(K:KF)(x2:aU)(a0 a2:AV)(a3 a4:Int)(H:AH):Prop:=R.2.1 a0 H λo1 H2=>cR K o1 H2 λv3=>R.2.2.2.2 a0 H2 λo4 H5=>cR K o4 H5 λv6=>onVal v6 λl7=>iE l7 7 (bG (aA H5) 1 7 (spl l7 [(.int 0 (.ofNat 0)),(.int 0 (.ofNat 0)),(.int 0 (.ofNat 0)),(.str 0 0),(.int 0 (.ofNat 0)),.ab,.ab] 0) λv8 H9=>one v8 (cm H9 (cW gPa (aA H9) 49 λv10 dq=>ag 7 v10 (.agg [(.int 0 a4),(.int 0 a3),(.int 0 (.ofNat 0)),(.str 0 0),(.int 0 (.ofNat 0)),v8,.ab]) dq λcU=>aC a0 (ah 2 a0 λv13=>af v13 cU λv14=>cI 0 v14 λnk=>aJ 0 (Int.sub nk (.ofNat 1)) λlK=>aC a0 (ah 2 a0 λv17=>ag 1 v17 (.int 0 lK) cU λeB=>x2 a2 v10 eB)))))
theorem aaT{R:jU}(hR:zF R){K:KF}{x2:aU}(h2:Kp K x2):Ko K (zG R K x2):=λa0 a2 a3 a4 H h=>pk hR (cc h2 .nil) h
def VM(R:jU)(K:KF):aB:=zG R K (VK R K)
theorem aaU{R:jU}(hR:zF R){K:KF}:Ko K (VM R K):=aaT hR (aaS hR)
def DU(R:jU)(K:KF)(x1:aB)(a0:AV)(H:AH):Prop:=cm H (cW gPa (aA H) 49 λv1 H2=>R.1 a0 H2 λo3 H4=>cR K o3 H4 λv5=>fW v5 λl6=>cE l6 3 λv7=>cI 0 v7 λz8=>R.2.2.1 a0 (.str 3 7630702) H4 λo9 bo=>cR K o9 bo λv11=>bC v11 λz12=>bI z12 (x1 a0 v1 z8 (.ofNat 11) bo) (R.2.2.1 a0 (.str 1 45) bo λwL dG=>cR K wL dG λv15=>bC v15 λlK=>bI lK (x1 a0 v1 z8 (.ofNat 12) dG) (R.2.2.1 a0 (.str 1 35) dG λtD eB=>cR K tD eB λv19=>bC v19 λz20=>bI z20 (x1 a0 v1 z8 (.ofNat 13) eB) (R.2.2.2.1 a0 eB λCr jC=>cR K Cr jC λv23=>ag 7 v1 v23 jC λgD=>aM 7 v1 gD λv25=>K (.ret v25) gD))))
theorem aaV{R:jU}(hR:zF R){K:KF}{x1:aB}(h1:Ko K x1)(a0:AV)(H:AH)(h:DU R K x1 a0 H):cx 208 K [] (aT (cv 208) [a0]) [] H:=pk hR (cc h1 .nil) h
def arK(R:jU)(K:KF):Ta:=DU R K (VM R K)
def Cy(R:jU):AV→AH→KF→Prop:=λa0 H K=>arK R K a0 H
theorem anA(R:jU)(hR:zF R):an gPa 208 (ai [.a] (Cy R)):=rk λK a0 H h=>aaV hR (aaU hR) a0 H h
abbrev eD:Type:=(AV→AH→KF→Prop)×(AV→AH→KF→Prop)×(AV→AV→AH→KF→Prop)×(AV→AV→AH→KF→Prop)×(AV→AH→KF→Prop)×(AV→AV→AH→KF→Prop)×(AV→AV→AH→KF→Prop)×(AV→Int→AH→KF→Prop)×(AV→AH→KF→Prop)×(AV→AH→KF→Prop)×(AV→AH→KF→Prop)×(AV→AH→KF→Prop)×(AV→AH→KF→Prop)×(AV→AH→KF→Prop)×(AV→Int→AH→KF→Prop)×(AV→AH→KF→Prop)×(AV→AV→AH→KF→Prop)×(AV→AH→KF→Prop)×(AV→AH→KF→Prop)×(AV→AH→KF→Prop)
def jV(S:eD):iv:=(f25,f53,f54,S.2.1,f56)
def dD(S:eD):ff:=(f23,S.1,f25,f54,f56,f94,S.2.2.1,S.2.2.2.1,S.2.2.2.2.1,ng,S.2.2.2.2.2.1,S.2.2.2.2.2.2.1)
def nL(S:eD):pQ:=(f23,f56,S.2.2.2.2.1,f130,S.2.2.2.2.2.2.2.1)
def iS(S:eD):fB:=(S.1,f56,S.2.2.2.2.1,ng)
def pE(S:eD):pR:=(f53,S.2.2.2.2.2.2.2.2.1)
def lM(S:eD):ic:=(S.1,f56,S.2.2.2.2.1,ng,f130)
def ox(S:eD):tJ:=(S.2.2.2.2.1,ng,S.2.2.2.2.2.2.2.2.2.1)
def dU(S:eD):fi:=(S.1,f25,f56,f94,ng,f130)
def gH(S:eD):iQ:=(f23,f56,S.2.2.2.2.2.2.2.2.2.2.1,f164)
def eY(S:eD):gv:=(f23,f56,f94,S.2.2.2.2.1,ng,f130,f164,S.2.2.2.2.2.2.2.2.2.2.2.1,S.2.2.2.2.2.2.2.2.2.2.2.2.1)
def gI(S:eD):iR:=(f23,f56,f164,S.2.2.2.2.2.2.2.2.2.2.2.2.2.1)
def iy(S:eD):jT:=(f23,f25,f56,f94,S.2.2.2.2.1,ng,S.2.2.2.2.2.2.2.1,S.2.2.2.2.2.2.2.2.2.2.2.2.2.2.1)
def eM(S:eD):fj:=(f25,f56,f94,S.2.2.2.2.1,ng)
def jn(S:eD):ld:=(f23,f164,S.2.2.2.2.2.2.2.2.2.2.2.2.2.2.2.1,f193)
def gp(S:eD):gw:=(f25,f56,f94,ng,S.2.2.2.2.2.2.2.2.2.2.2.2.2.2.2.2.1)
def jK(S:eD):mF:=(f23,f53,f56,f164,S.2.2.2.2.2.2.2.2.2.2.2.2.2.2.2.1,S.2.2.2.2.2.2.2.2.2.2.2.2.2.2.2.2.2.1)
def lN(S:eD):fP:=(f23,f56,S.2.2.2.2.1,ng)
def jo(S:eD):lf:=(f23,f164,f193,S.2.2.2.2.2.2.2.2.2.2.2.2.2.2.2.2.2.2.1)
def jq(S:eD):lg:=(f23,f164,f193,S.2.2.2.2.2.2.2.2.2.2.2.2.2.2.2.2.2.2.2)
def iz(S:eD):jU:=(f23,f53,f56,S.2.2.2.2.2.2.2.2.2.1,S.2.2.2.2.2.2.2.2.2.2.2.2.2.2.2.2.2.2.2)
noncomputable def s13(n:Nat):eD:=Nat.rec (motive:=λ_=>eD) (λ_ _ _=>False,λ_ _ _=>False,λ_ _ _ _=>False,λ_ _ _ _=>False,λ_ _ _=>False,λ_ _ _ _=>False,λ_ _ _ _=>False,λ_ _ _ _=>False,λ_ _ _=>False,λ_ _ _=>False,λ_ _ _=>False,λ_ _ _=>False,λ_ _ _=>False,λ_ _ _=>False,λ_ _ _ _=>False,λ_ _ _=>False,λ_ _ _ _=>False,λ_ _ _=>False,λ_ _ _=>False,λ_ _ _=>False) (λ_ S=>(A6 (jV S),A7 (dD S),A8 (nL S),A9 (iS S),HG (pE S),Ba (lM S),wO (ox S),wP (dU S),Cm (gH S),wR (eY S),Co (gI S),wT (iy S),wU (eM S),Cs (jn S),wV (gp S),Ct (jK S),wW (lN S),Cv (jo S),Cx (jq S),Cy (iz S))) n
structure kA(S:eD):Prop where
 QG:an gPa 24 (ai [.a] S.1)
 h55:an gPa 55 (ai [.a] S.2.1)
 h95:an gPa 95 (ai [.a,.a] S.2.2.1)
 h96:an gPa 96 (ai [.a,.a] S.2.2.2.1)
 h97:an gPa 97 (ai [.a] S.2.2.2.2.1)
 h99:an gPa 99 (ai [.a,.a] S.2.2.2.2.2.1)
 azd:an gPa 100 (ai [.a,.a] S.2.2.2.2.2.2.1)
 avi:an gPa 131 (ai [.a,.i 0] S.2.2.2.2.2.2.2.1)
 aze:an gPa 132 (ai [.a] S.2.2.2.2.2.2.2.2.1)
 avj:an gPa 133 (ai [.a] S.2.2.2.2.2.2.2.2.2.1)
 azf:an gPa 163 (ai [.a] S.2.2.2.2.2.2.2.2.2.2.1)
 azg:an gPa 165 (ai [.a] S.2.2.2.2.2.2.2.2.2.2.2.1)
 azh:an gPa 166 (ai [.a] S.2.2.2.2.2.2.2.2.2.2.2.2.1)
 azi:an gPa 184 (ai [.a] S.2.2.2.2.2.2.2.2.2.2.2.2.2.1)
 azj:an gPa 185 (ai [.a,.i 0] S.2.2.2.2.2.2.2.2.2.2.2.2.2.2.1)
 avk:an gPa 192 (ai [.a] S.2.2.2.2.2.2.2.2.2.2.2.2.2.2.2.1)
 azk:an gPa 194 (ai [.a,.a] S.2.2.2.2.2.2.2.2.2.2.2.2.2.2.2.2.1)
 azl:an gPa 199 (ai [.a] S.2.2.2.2.2.2.2.2.2.2.2.2.2.2.2.2.2.1)
 azm:an gPa 205 (ai [.a] S.2.2.2.2.2.2.2.2.2.2.2.2.2.2.2.2.2.2.1)
 avm:an gPa 208 (ai [.a] S.2.2.2.2.2.2.2.2.2.2.2.2.2.2.2.2.2.2.2)
theorem arL(S:eD)(h:kA S):an gPa 24 (ai [.a] (A6 (jV S))):=ari (jV S) (ad.cons pA (ad.cons Ho (ad.cons agF (ad.cons h.h55 (ad.cons jB ad.nil)))))
theorem arM(S:eD)(h:kA S):an gPa 55 (ai [.a] (A7 (dD S))):=arj (dD S) (ad.cons jR (ad.cons h.QG (ad.cons pA (ad.cons agF (ad.cons jB (ad.cons tC (ad.cons h.h95 (ad.cons h.h96 (ad.cons h.h97 (ad.cons pC (ad.cons h.h99 (ad.cons h.azd ad.nil))))))))))))
theorem arN(S:eD)(h:kA S):an gPa 95 (ai [.a,.a] (A8 (nL S))):=ark (nL S) (ad.cons jR (ad.cons jB (ad.cons h.h97 (ad.cons Dw (ad.cons h.avi ad.nil)))))
theorem arO(S:eD)(h:kA S):an gPa 96 (ai [.a,.a] (A9 (iS S))):=arl (iS S) (ad.cons h.QG (ad.cons jB (ad.cons h.h97 (ad.cons pC ad.nil))))
theorem arP(S:eD)(h:kA S):an gPa 97 (ai [.a] (HG (pE S))):=arn (pE S) (ad.cons Ho (ad.cons h.aze ad.nil))
theorem arQ(S:eD)(h:kA S):an gPa 99 (ai [.a,.a] (Ba (lM S))):=aro (lM S) (ad.cons h.QG (ad.cons jB (ad.cons h.h97 (ad.cons pC (ad.cons Dw ad.nil)))))
theorem anB(S:eD)(h:kA S):an gPa 100 (ai [.a,.a] (wO (ox S))):=anm (ox S) (ad.cons h.h97 (ad.cons pC (ad.cons h.avj ad.nil)))
theorem anC(S:eD)(h:kA S):an gPa 131 (ai [.a,.i 0] (wP (dU S))):=ann (dU S) (ad.cons h.QG (ad.cons pA (ad.cons jB (ad.cons tC (ad.cons pC (ad.cons Dw ad.nil))))))
theorem anD(S:eD)(h:kA S):an gPa 132 (ai [.a] (Cm (gH S))):=ano (gH S) (ad.cons jR (ad.cons jB (ad.cons h.azf (ad.cons sa ad.nil))))
theorem anE(S:eD)(h:kA S):an gPa 133 (ai [.a] (wR (eY S))):=anp (eY S) (ad.cons jR (ad.cons jB (ad.cons tC (ad.cons h.h97 (ad.cons pC (ad.cons Dw (ad.cons sa (ad.cons h.azg (ad.cons h.azh ad.nil)))))))))
theorem anF(S:eD)(h:kA S):an gPa 163 (ai [.a] (Co (gI S))):=anq (gI S) (ad.cons jR (ad.cons jB (ad.cons sa (ad.cons h.azi ad.nil))))
theorem anG(S:eD)(h:kA S):an gPa 165 (ai [.a] (wT (iy S))):=anr (iy S) (ad.cons jR (ad.cons pA (ad.cons jB (ad.cons tC (ad.cons h.h97 (ad.cons pC (ad.cons h.avi (ad.cons h.azj ad.nil))))))))
theorem anH(S:eD)(h:kA S):an gPa 166 (ai [.a] (wU (eM S))):=ans (eM S) (ad.cons pA (ad.cons jB (ad.cons tC (ad.cons h.h97 (ad.cons pC ad.nil)))))
theorem anI(S:eD)(h:kA S):an gPa 184 (ai [.a] (Cs (jn S))):=ant (jn S) (ad.cons jR (ad.cons sa (ad.cons h.avk (ad.cons JK ad.nil))))
theorem anJ(S:eD)(h:kA S):an gPa 185 (ai [.a,.i 0] (wV (gp S))):=anu (gp S) (ad.cons pA (ad.cons jB (ad.cons tC (ad.cons pC (ad.cons h.azk ad.nil)))))
theorem anK(S:eD)(h:kA S):an gPa 192 (ai [.a] (Ct (jK S))):=anv (jK S) (ad.cons jR (ad.cons Ho (ad.cons jB (ad.cons sa (ad.cons h.avk (ad.cons h.azl ad.nil))))))
theorem anL(S:eD)(h:kA S):an gPa 194 (ai [.a,.a] (wW (lN S))):=anw (lN S) (ad.cons jR (ad.cons jB (ad.cons h.h97 (ad.cons pC ad.nil))))
theorem anM(S:eD)(h:kA S):an gPa 199 (ai [.a] (Cv (jo S))):=anx (jo S) (ad.cons jR (ad.cons sa (ad.cons JK (ad.cons h.azm ad.nil))))
theorem anN(S:eD)(h:kA S):an gPa 205 (ai [.a] (Cx (jq S))):=anz (jq S) (ad.cons jR (ad.cons sa (ad.cons JK (ad.cons h.avm ad.nil))))
theorem anO(S:eD)(h:kA S):an gPa 208 (ai [.a] (Cy (iz S))):=anA (iz S) (ad.cons jR (ad.cons Ho (ad.cons jB (ad.cons h.avj (ad.cons h.avm ad.nil)))))
theorem anP(S:eD)(h:kA S):kA (A6 (jV S),A7 (dD S),A8 (nL S),A9 (iS S),HG (pE S),Ba (lM S),wO (ox S),wP (dU S),Cm (gH S),wR (eY S),Co (gI S),wT (iy S),wU (eM S),Cs (jn S),wV (gp S),Ct (jK S),wW (lN S),Cv (jo S),Cx (jq S),Cy (iz S)):=⟨arL S h,arM S h,arN S h,arO S h,arP S h,arQ S h,anB S h,anC S h,anD S h,anE S h,anF S h,anG S h,anH S h,anI S h,anJ S h,anK S h,anL S h,anM S h,anN S h,anO S h⟩
theorem avn(n:Nat):kA (s13 n):=by
 induction n with
 |zero=>exact⟨ey [.a],ey [.a],ey [.a,.a],ey [.a,.a],ey [.a],ey [.a,.a],ey [.a,.a],ey [.a,.i 0],ey [.a],ey [.a],ey [.a],ey [.a],ey [.a],ey [.a],ey [.a,.i 0],ey [.a],ey [.a,.a],ey [.a],ey [.a],ey [.a]⟩
 |succ n ih=>exact anP (s13 n) ih
def f24:AV→AH→KF→Prop:=(s13 NL).1
theorem avo:an gPa 24 (ai [.a] f24):=(avn NL).QG
abbrev ax3:Type:=Unit
end Go.Proofs.YtcedghechlgecaaGreatDoor.G
