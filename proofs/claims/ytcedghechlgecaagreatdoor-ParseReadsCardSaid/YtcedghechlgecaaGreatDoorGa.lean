/- The functions of the parsers, cut into pieces by program, and that they are carried out as in the model. No condition: lemmas. -/
import Derived.Test.YtcedghechlgecaaGreatDoorYa
import Derived.Test.YtcedghechlgecaaGreatDoorChecked
set_option maxRecDepth 100000
set_option maxHeartbeats 0
set_option linter.unusedVariables false
set_option linter.unusedSimpArgs false
namespace Go.Proofs.YtcedghechlgecaaGreatDoor.G
open Go Go.X
noncomputable abbrev gP:Program:=Tryz.prog
abbrev NL:Nat:=1000000
theorem mix:gP.follows .mixedOrders=true:=by kernel_rfl
noncomputable def di(n:Nat):Func:=(gP.funcs[n]?).getD default
noncomputable def gBd(n:Nat):Code:=(di n).body.getD .skip
abbrev dw(n:Nat)(K:KF):List Nat→AJ:=AK gP (gBd n) (Xg gP Pn (di n) K)
abbrev aM(n:Nat)(K:KF)(p:List Nat)(m:Nat)(s:List Nat)(t:List Ty)(F:s4 (AH→Prop) t):Prop:=ak1 gP (gBd n) (Xg gP Pn (di n) K) p m s t F
theorem pk{ct:List (Nat×cP)}(hR:ad gP ct){b:Code}{Q:KT}{t:AL}{p:List Nat}{env:List AV}{H:AH}(ht:nK gP b Q t){A:Prop}(h:A)(e:A=Pj (tw ct) (N4 gP (tw ct)) gP gP.globals.size b (EI t) Q 400 p env [] H:=by kernel_rfl):AK gP b Q p env [] H:=
 adJ (uP hR) (Pg mix _ (uP hR)) ht (Eq.mp e h)
theorem cc{b:Code}{Q:KT}{p:List Nat}{n:Nat}{s:List Nat}{l:List Ty}{F:s4 (AH→Prop) l}{t:AL}(h:ak1 gP b Q p n s l F)(ht:nK gP b Q t):nK gP b Q ((p,arb n s l F)::t):=nK.cons (arc h) ht
theorem rk{g:Nat}{l:List Ty}{F:s4 (AH→KF→Prop) l}(h:∀K,qj l F λr a=>∀H,r H K→dw g K [] (ba (di g) a) [] H)(hf:gP.funcs[g]? = some (di g):=by kernel_rfl)(hc:(di g).body=some (gBd g):=by kernel_rfl):av gP g (ao l F):=av.aod hf hc h
abbrev T_:Type:=AH→Prop
abbrev Ta:Type:=AV→AH→Prop
abbrev bC:Type:=AV→AV→AH→Prop
abbrev bP:Type:=AV→AV→AV→AH→Prop
abbrev jW:Type:=AV→AV→AV→AV→AH→Prop
abbrev aH:Type:=AV→AV→AV→Int→AH→Prop
abbrev FY:Type:=AV→AV→AV→Int→AV→AH→Prop
abbrev qm:Type:=AV→AV→Bool→AH→Prop
abbrev aR:Type:=AV→AV→Int→AH→Prop
abbrev lX:Type:=AV→AV→Int→AV→AH→Prop
abbrev kg:Type:=AV→AV→Int→AV→AV→AH→Prop
abbrev dP:Type:=AV→AV→Int→AV→AV→Int→AH→Prop
abbrev cW:Type:=AV→AV→Int→Int→AH→Prop
abbrev dX:Type:=AV→Int→AH→Prop
abbrev kL:Type:=AV→Int→AV→AH→Prop
abbrev bZ:Type:=AV→Int→AV→AV→AH→Prop
abbrev lz:Type:=AV→Int→AV→AV→Bool→AH→Prop
abbrev dJ:Type:=AV→Int→AV→AV→Int→AH→Prop
abbrev bR:Type:=AV→Int→AV→AV→Int→AV→AH→Prop
abbrev se:Type:=AV→Int→AV→Int→AV→AH→Prop
abbrev jq:Type:=AV→Int→AV→Int→Int→AH→Prop
abbrev ka:Type:=AV→Int→Int→AH→Prop
abbrev FZ:Type:=AV→Int→Int→AV→AV→AH→Prop
abbrev ep:Type:=AV→Int→Int→AV→AV→AV→AV→AH→Prop
abbrev jf:Type:=AV→Int→Int→AV→AV→AV→AV→Int→AH→Prop
abbrev tB:Type:=AV→Int→Int→AV→AV→AV→AV→Int→Int→AH→Prop
abbrev jP:Type:=AV→Int→Int→AV→AV→AV→AV→Int→Int→AV→Int→AH→Prop
abbrev BU:Type:=AV→Int→Int→AV→Int→Int→AH→Prop
abbrev arl:Type:=Int→Int→Int→AV→AV→AH→Prop
abbrev wg:Type:=Unit
def arn(R:wg):List (Nat×cP):=[]
abbrev amF(R:wg):Prop:=ad gP (arn R)
def xH(R:wg)(K:KF)(a0:AV)(H:AH):Prop:=cw H (gE (aA H) [(.int 0 (.ofNat 0)),(.str 0 0),(.int 0 (.ofNat 0)),(.int 0 (.ofNat 0))] λv1 H2=>aP a0 (al 0 a0 λv3=>ak v3 H2 λv4=>aP a0 (al 1 a0 λv5=>ak v5 H2 λv6=>cI 0 v6 λz7=>cK 4 v4 (.int 0 z7) λv8=>aF 4 v8 H2 λv9=>ae 4 v1 v9 H2 λbJ=>aF 4 v1 bJ λv11=>K (.ret v11) bJ)))
theorem adS{R:wg}(hR:amF R){K:KF}(a0:AV)(H:AH)(h:xH R K a0 H):dw 23 K [] (ba (di 23) [a0]) [] H:=pk hR .nil h
def aro(R:wg)(K:KF):Ta:=xH R K
def amG(R:wg):AV→AH→KF→Prop:=λa0 H K=>aro R K a0 H
theorem aoi(R:wg)(hR:amF R):av gP 23 (ao [.a] (amG R)):=rk λK a0 H h=>adS hR a0 H h
def Ga:wg:=()
def f23:AV→AH→KF→Prop:=amG Ga
theorem kh:av gP 23 (ao [.a] f23):=aoi Ga ad.nil
abbrev wh:Type:=Unit
def arp(R:wh):List (Nat×cP):=[]
abbrev amH(R:wh):Prop:=ad gP (arp R)
def Gb(R:wh)(K:KF)(a0:AV)(a1:Int)(H:AH):Prop:=aP a0 (al 3 a0 λv1=>ae 1 v1 (.int 0 a1) H λH2=>JL (.iface 57 (.agg [])) (K (.dB (.iface 57 (.agg []))) H2))
theorem adT{R:wh}(hR:amH R){K:KF}(a0:AV)(a1:Int)(H:AH)(h:Gb R K a0 a1 H):dw 25 K [] (ba (di 25) [a0,(.int 0 a1)]) [] H:=pk hR .nil h
def arq(R:wh)(K:KF):dX:=Gb R K
def amI(R:wh):AV→Int→AH→KF→Prop:=λa0 a1 H K=>arq R K a0 a1 H
theorem aoj(R:wh)(hR:amH R):av gP 25 (ao [.a,.i 0] (amI R)):=rk λK a0 a1 H h=>adT hR a0 a1 H h
def Pu:wh:=()
def f25:AV→Int→AH→KF→Prop:=amI Pu
theorem oP:av gP 25 (ao [.a,.i 0] f25):=aoj Pu ad.nil
abbrev wi:Type:=(AV→Int→AH→KF→Prop)
def ars(R:wi):List (Nat×cP):=[(25,ao [.a,.i 0] R)]
abbrev amJ(R:wi):Prop:=ad gP (ars R)
def Gc(R:wi)(K:KF)(a0:AV)(H:AH):Prop:=aP a0 (al 2 a0 λv1=>ak v1 H λv2=>cI 0 v2 λz3=>aJ 0 (Int.add z3 (.ofNat 1)) λz4=>aP a0 (al 2 a0 λv5=>ae 1 v5 (.int 0 z4) H λH6=>aP a0 (al 2 a0 λv7=>ak v7 H6 λv8=>cI 0 v8 λz9=>bI (cg (.ofNat 100) z9) (R a0 (.ofNat 8) H6 λsf dZ=>cR K sf dZ λv12=>K (.ret (.aY [])) dZ) (K (.ret (.aY [])) H6))))
theorem adU{R:wi}(hR:amJ R){K:KF}(a0:AV)(H:AH)(h:Gc R K a0 H):dw 53 K [] (ba (di 53) [a0]) [] H:=pk hR .nil h
def art(R:wi)(K:KF):Ta:=Gc R K
def amK(R:wi):AV→AH→KF→Prop:=λa0 H K=>art R K a0 H
theorem aok(R:wi)(hR:amJ R):av gP 53 (ao [.a] (amK R)):=rk λK a0 H h=>adU hR a0 H h
def Gd:wi:=(f25)
def f53:AV→AH→KF→Prop:=amK Gd
theorem Ge:av gP 53 (ao [.a] f53):=aok Gd (ad.cons oP ad.nil)
abbrev wj:Type:=(AV→AH→KF→Prop)
def aru(R:wj):List (Nat×cP):=[(23,ao [.a] R)]
abbrev amL(R:wj):Prop:=ad gP (aru R)
def Gf(R:wj)(K:KF)(a0 a1:AV)(H:AH):Prop:=R a0 H λo1 H2=>cR K o1 H2 λv3=>cw H2 (gE (aA H2) [(.int 0 (.ofNat 0)),(.str 0 0),(.int 0 (.ofNat 0)),(.int 0 (.ofNat 0))] λv4 H5=>ae 4 v4 v3 H5 λH6=>al 0 v4 λv7=>ak v7 H6 λv8=>cI 0 v8 λz9=>bI (bj z9 (.ofNat 1)) (al 1 v4 λv10=>ak v10 H6 λv11=>pF v11 a1 λv12=>bf v12 λz13=>K (.ret (.bool z13)) H6) (al 0 v4 λv14=>ak v14 H6 λv15=>cI 0 v15 λki=>bI (bj ki (.ofNat 5)) (al 1 v4 λv17=>ak v17 H6 λv18=>pF v18 a1 λv19=>bf v19 λz20=>K (.ret (.bool z20)) H6) (K (.ret (.bool false)) H6)))
theorem adV{R:wj}(hR:amL R){K:KF}(a0 a1:AV)(H:AH)(h:Gf R K a0 a1 H):dw 94 K [] (ba (di 94) [a0,a1]) [] H:=pk hR .nil h
def arv(R:wj)(K:KF):bC:=Gf R K
def amM(R:wj):AV→AV→AH→KF→Prop:=λa0 a1 H K=>arv R K a0 a1 H
theorem aol(R:wj)(hR:amL R):av gP 94 (ao [.a,.a] (amM R)):=rk λK a0 a1 H h=>adV hR a0 a1 H h
def Gg:wj:=(f23)
def f94:AV→AV→AH→KF→Prop:=amM Gg
theorem sg:av gP 94 (ao [.a,.a] f94):=aol Gg (ad.cons kh ad.nil)
abbrev wm:Type:=(AV→AH→KF→Prop)×(AV→AV→AH→KF→Prop)
def arw(R:wm):List (Nat×cP):=[(23,ao [.a] R.1),(94,ao [.a,.a] R.2)]
abbrev amN(R:wm):Prop:=ad gP (arw R)
def Gh(R:wm)(K:KF)(a0:AV)(H:AH):Prop:=R.2 a0 (.str 3 6581861) H λo1 H2=>cR K o1 H2 λv3=>bf v3 λz4=>bI z4 (K (.ret (.bool true)) H2) (R.2 a0 (.str 4 1702063205) H2 λo5 H6=>cR K o5 H6 λv7=>bf v7 λz8=>bI z8 (K (.ret (.bool true)) H6) (R.2 a0 (.str 6 112602859662437) H6 λo9 bJ=>cR K o9 bJ λv11=>bf v11 λz12=>bI z12 (K (.ret (.bool true)) bJ) (R.2 a0 (.str 5 465625706101) bJ λmP cN=>cR K mP cN λv15=>bf v15 λki=>bI ki (K (.ret (.bool true)) cN) (R.1 a0 cN λqn dK=>cR K qn dK λv19=>gz v19 λl20=>cX l20 0 λv21=>cI 0 v21 λz22=>K (.ret (.bool (bj z22 (.ofNat 0)))) dK))))
theorem adW{R:wm}(hR:amN R){K:KF}(a0:AV)(H:AH)(h:Gh R K a0 H):dw 54 K [] (ba (di 54) [a0]) [] H:=pk hR .nil h
def arx(R:wm)(K:KF):Ta:=Gh R K
def amO(R:wm):AV→AH→KF→Prop:=λa0 H K=>arx R K a0 H
theorem aom(R:wm)(hR:amN R):av gP 54 (ao [.a] (amO R)):=rk λK a0 H h=>adW hR a0 H h
def AT:wm:=(f23,f94)
def f54:AV→AH→KF→Prop:=amO AT
theorem adX:av gP 54 (ao [.a] f54):=aom AT (ad.cons kh (ad.cons sg ad.nil))
abbrev wo:Type:=(AV→AV→AH→KF→Prop)
def ary(R:wo):List (Nat×cP):=[(94,ao [.a,.a] R)]
abbrev amP(R:wo):Prop:=ad gP (ary R)
def Gi(R:wo)(K:KF)(a0 a1:AV)(H:AH):Prop:=R a0 a1 H λo1 H2=>cR K o1 H2 λv3=>bf v3 λz4=>bI (!z4) (K (.ret (.bool false)) H2) (aP a0 (al 1 a0 λv5=>ak v5 H2 λv6=>cI 0 v6 λz7=>aJ 0 (Int.add z7 (.ofNat 1)) λz8=>aP a0 (al 1 a0 λv9=>ae 1 v9 (.int 0 z8) H2 λbJ=>K (.ret (.bool true)) bJ)))
theorem adY{R:wo}(hR:amP R){K:KF}(a0 a1:AV)(H:AH)(h:Gi R K a0 a1 H):dw 56 K [] (ba (di 56) [a0,a1]) [] H:=pk hR .nil h
def arz(R:wo)(K:KF):bC:=Gi R K
def amQ(R:wo):AV→AV→AH→KF→Prop:=λa0 a1 H K=>arz R K a0 a1 H
theorem aon(R:wo)(hR:amP R):av gP 56 (ao [.a,.a] (amQ R)):=rk λK a0 a1 H h=>adY hR a0 a1 H h
def Gj:wo:=(f94)
def f56:AV→AV→AH→KF→Prop:=amQ Gj
theorem jQ:av gP 56 (ao [.a,.a] f56):=aon Gj (ad.cons sg ad.nil)
abbrev si:Type:=Unit
def aoo(R:si):List (Nat×cP):=[]
abbrev adZ(R:si):Prop:=ad gP (aoo R)
def BV(R:si)(K:KF)(a0 a1 a2:Int)(a3 a4:AV)(H:AH):Prop:=JG (aA H) a3 λv1 H2=>JG (aA H2) a4 λv3 H4=>cw H4 (cx gP (aA H4) 49 λv5 H6=>aF 7 v1 H6 λv7=>aF 7 v3 H6 λv8=>onVal v7 λl9=>dV l9 7 (onVal v8 λl10=>dV l10 7 (aN (aA H6) 2 7 (spl l10 (spl l9 [(.int 0 (.ofNat 0)),(.int 0 (.ofNat 0)),(.int 0 (.ofNat 0)),(.str 0 0),(.int 0 (.ofNat 0)),.ab,.ab,(.int 0 (.ofNat 0)),(.int 0 (.ofNat 0)),(.int 0 (.ofNat 0)),(.str 0 0),(.int 0 (.ofNat 0)),.ab,.ab] 0) 7) λv11 bL=>one v11 (ae 7 v5 (.agg [(.int 0 a0),(.int 0 a2),(.int 0 (.ofNat 0)),(.str 0 0),(.int 0 a1),v11,.ab]) bL λdL=>aF 7 v5 dL λv14=>K (.ret v14) dL))))
theorem XB{R:si}(hR:adZ R){K:KF}(a0 a1 a2:Int)(a3 a4:AV)(H:AH)(h:BV R K a0 a1 a2 a3 a4 H):dw 164 K [] (ba (di 164) [(.int 0 a0),(.int 0 a1),(.int 0 a2),a3,a4]) [] H:=pk hR .nil h
def aop(R:si)(K:KF):arl:=BV R K
def ad0(R:si):Int→Int→Int→AV→AV→AH→KF→Prop:=λa0 a1 a2 a3 a4 H K=>aop R K a0 a1 a2 a3 a4 H
theorem ak6(R:si)(hR:adZ R):av gP 164 (ao [.i 0,.i 0,.i 0,.a,.a] (ad0 R)):=rk λK a0 a1 a2 a3 a4 H h=>XB hR a0 a1 a2 a3 a4 H h
def JU:si:=()
def f164:Int→Int→Int→AV→AV→AH→KF→Prop:=ad0 JU
theorem q9:av gP 164 (ao [.i 0,.i 0,.i 0,.a,.a] f164):=ak6 JU ad.nil
abbrev jr:Type:=(AV→AV→AH→KF→Prop)
def aoq(R:jr):List (Nat×cP):=[(56,ao [.a,.a] R)]
abbrev uS(R:jr):Prop:=ad gP (aoq R)
abbrev JV(K:KF)(F:T_):Prop:=aM 193 K [1,1] 23 [] [] F
abbrev rh(K:KF)(F:jq):Prop:=aM 193 K [0,1,0,1] 23 [0,1,9,10,11] [.a,.i 0,.a,.i 0,.i 0] F
def BW(R:jr)(K:KF)(H:AH):Prop:=K (.ret (.int 0 (.ofNat 0))) H
theorem XC{R:jr}(hR:uS R){K:KF}:JV K (BW R K):=λH h=>pk hR .nil h
def UZ(R:jr)(K:KF):T_:=BW R K
theorem XD{R:jr}(hR:uS R){K:KF}:JV K (UZ R K):=XC hR
def BX(R:jr)(K:KF)(x2:jq)(x1:T_)(a0:AV)(a1:Int)(a9:AV)(a10 a11:Int)(H:AH):Prop:=bI (cg a11 a10) (cK 1 a9 (.int 0 a11) λv1=>ak v1 H λv2=>R a0 v2 H λo3 H4=>cR K o3 H4 λv5=>bf v5 λz6=>bI z6 (aJ 0 (Int.add a1 a11) λz7=>K (.ret (.int 0 z7)) H4) (aJ 0 (Int.add a11 (.ofNat 1)) λz8=>x2 a0 a1 a9 a10 z8 H4)) (x1 H)
theorem XE{R:jr}(hR:uS R){K:KF}{x2:jq}{x1:T_}(h2:rh K x2)(h1:JV K x1):rh K (BX R K x2 x1):=λa0 a1 a9 a10 a11 H h=>pk hR (cc h2 (cc h1 .nil)) h
def U0(R:jr)(K:KF)(i2:jq):jq:=BX R K i2 (UZ R K)
theorem XF{R:jr}(hR:uS R){K:KF}{i2:jq}(g2:rh K i2):rh K (U0 R K i2):=XE hR g2 (XD hR)
def ri(R:jr)(K:KF)(n:Nat):jq:=Nat.rec (motive:=λ_=>jq) (λ_ _ _ _ _ _=>False) (λ_ i=>U0 R K i) n
theorem XG{R:jr}(hR:uS R){K:KF}(n:Nat):rh K (ri R K n):=Nat.rec (motive:=λn=>rh K (ri R K n)) (λa0 a1 a9 a10 a11 H h=>h.elim) (λn ih=>XF hR ih) n
def BY(R:jr)(K:KF)(x2:jq)(a0:AV)(a1:Int)(a2:AV)(H:AH):Prop:=dp a2 λv1=>cI 0 v1 λz2=>x2 a0 a1 a2 z2 (.ofNat 0) H
theorem XH{R:jr}(hR:uS R){K:KF}{x2:jq}(h2:rh K x2)(a0:AV)(a1:Int)(a2:AV)(H:AH)(h:BY R K x2 a0 a1 a2 H):dw 193 K [] (ba (di 193) [a0,(.int 0 a1),a2]) [] H:=pk hR (cc h2 .nil) h
def aor(R:jr)(K:KF):kL:=BY R K (ri R K NL)
def ad1(R:jr):AV→Int→AV→AH→KF→Prop:=λa0 a1 a2 H K=>aor R K a0 a1 a2 H
theorem ak7(R:jr)(hR:uS R):av gP 193 (ao [.a,.i 0,.a] (ad1 R)):=rk λK a0 a1 a2 H h=>XH hR (XG hR NL) a0 a1 a2 H h
def nh:jr:=(f56)
def f193:AV→Int→AV→AH→KF→Prop:=ad1 nh
theorem JW:av gP 193 (ao [.a,.i 0,.a] f193):=ak7 nh (ad.cons jQ ad.nil)
abbrev wq:Type:=(AV→Int→AH→KF→Prop)×(AV→AV→AH→KF→Prop)
def arA(R:wq):List (Nat×cP):=[(25,ao [.a,.i 0] R.1),(56,ao [.a,.a] R.2)]
abbrev amR(R:wq):Prop:=ad gP (arA R)
def Gk(R:wq)(K:KF)(a0 a1:AV)(H:AH):Prop:=R.2 a0 a1 H λo1 H2=>cR K o1 H2 λv3=>bf v3 λz4=>bI (!z4) (R.1 a0 (.ofNat 14) H2 λo5 H6=>cR K o5 H6 λv7=>K (.ret (.aY [])) H6) (K (.ret (.aY [])) H2)
theorem ad2{R:wq}(hR:amR R){K:KF}(a0 a1:AV)(H:AH)(h:Gk R K a0 a1 H):dw 98 K [] (ba (di 98) [a0,a1]) [] H:=pk hR .nil h
def arB(R:wq)(K:KF):bC:=Gk R K
def amS(R:wq):AV→AV→AH→KF→Prop:=λa0 a1 H K=>arB R K a0 a1 H
theorem aos(R:wq)(hR:amR R):av gP 98 (ao [.a,.a] (amS R)):=rk λK a0 a1 H h=>ad2 hR a0 a1 H h
def AU:wq:=(f25,f56)
def ny:AV→AV→AH→KF→Prop:=amS AU
theorem oQ:av gP 98 (ao [.a,.a] ny):=aos AU (ad.cons oP (ad.cons jQ ad.nil))
abbrev mQ:Type:=(AV→AH→KF→Prop)×(AV→Int→AH→KF→Prop)
def aot(R:mQ):List (Nat×cP):=[(23,ao [.a] R.1),(25,ao [.a,.i 0] R.2)]
abbrev Gl(R:mQ):Prop:=ad gP (aot R)
abbrev JX(K:KF)(F:bC):Prop:=aM 130 K [1,1,1] 20 [0,3] [.a,.a] F
def BZ(R:mQ)(K:KF)(a0 a3:AV)(H:AH):Prop:=aP a0 (al 1 a0 λv1=>ak v1 H λv2=>cI 0 v2 λz3=>aJ 0 (Int.add z3 (.ofNat 1)) λz4=>aP a0 (al 1 a0 λv5=>ae 1 v5 (.int 0 z4) H λH6=>al 1 a3 λv7=>ak v7 H6 λv8=>K (.ret v8) H6))
theorem XI{R:mQ}(hR:Gl R){K:KF}:JX K (BZ R K):=λa0 a3 H h=>pk hR .nil h
def U1(R:mQ)(K:KF):bC:=BZ R K
theorem XJ{R:mQ}(hR:Gl R){K:KF}:JX K (U1 R K):=XI hR
def B0(R:mQ)(K:KF)(x1:bC)(a0:AV)(H:AH):Prop:=R.1 a0 H λo1 H2=>cR K o1 H2 λv3=>cw H2 (gE (aA H2) [(.int 0 (.ofNat 0)),(.str 0 0),(.int 0 (.ofNat 0)),(.int 0 (.ofNat 0))] λv4 H5=>ae 4 v4 v3 H5 λH6=>al 0 v4 λv7=>ak v7 H6 λv8=>cI 0 v8 λz9=>bI (!(bj z9 (.ofNat 2))) (R.2 a0 (.ofNat 14) H6 λsf dZ=>cR K sf dZ λv12=>x1 a0 v4 dZ) (x1 a0 v4 H6))
theorem XK{R:mQ}(hR:Gl R){K:KF}{x1:bC}(h1:JX K x1)(a0:AV)(H:AH)(h:B0 R K x1 a0 H):dw 130 K [] (ba (di 130) [a0]) [] H:=pk hR (cc h1 .nil) h
def aou(R:mQ)(K:KF):Ta:=B0 R K (U1 R K)
def ad3(R:mQ):AV→AH→KF→Prop:=λa0 H K=>aou R K a0 H
theorem ak8(R:mQ)(hR:Gl R):av gP 130 (ao [.a] (ad3 R)):=rk λK a0 H h=>XK hR (XJ hR) a0 H h
def tN:mQ:=(f23,f25)
def f130:AV→AH→KF→Prop:=ad3 tN
theorem B4:av gP 130 (ao [.a] f130):=ak8 tN (ad.cons kh (ad.cons oP ad.nil))
abbrev iU:Type:=(AV→Int→AH→KF→Prop)×(AV→AH→KF→Prop)×(AV→AH→KF→Prop)×(AV→AH→KF→Prop)×(AV→AV→AH→KF→Prop)
def arC(R:iU):List (Nat×cP):=[(25,ao [.a,.i 0] R.1),(53,ao [.a] R.2.1),(54,ao [.a] R.2.2.1),(55,ao [.a] R.2.2.2.1),(56,ao [.a,.a] R.2.2.2.2)]
abbrev tC(R:iU):Prop:=ad gP (arC R)
abbrev sj(K:KF)(F:bC):Prop:=aM 24 K [2,1] 35 [0,3] [.a,.a] F
abbrev Pv(K:KF)(F:bC):Prop:=aM 24 K [1,1,1,1,1,1,2,1] 35 [0,3] [.a,.a] F
abbrev Pw(K:KF)(F:bC):Prop:=aM 24 K [1,1,1,1,1,1,1,1,0,1] 35 [0,3] [.a,.a] F
def Gm(R:iU)(K:KF)(x1:bC)(a0 a3:AV)(H:AH):Prop:=x1 a0 a3 H
theorem ad4{R:iU}(hR:tC R){K:KF}{x1:bC}(h1:sj K x1):Pv K (Gm R K x1):=λa0 a3 H h=>pk hR (cc h1 .nil) h
def ad5(R:iU)(K:KF)(i1:bC):bC:=Gm R K i1
theorem ad6{R:iU}(hR:tC R){K:KF}{i1:bC}(g1:sj K i1):Pv K (ad5 R K i1):=ad4 hR g1
def uT(R:iU)(K:KF)(x2:bC)(a0 a3:AV)(H:AH):Prop:=R.2.2.1 a0 H λo1 H2=>cR K o1 H2 λv3=>bf v3 λz4=>bI z4 (aP a0 (al 2 a0 λv5=>ak v5 H2 λv6=>cI 0 v6 λz7=>aJ 0 (Int.sub z7 (.ofNat 1)) λz8=>aP a0 (al 2 a0 λv9=>ae 1 v9 (.int 0 z8) H2 λbJ=>K (.ret a3) bJ))) (R.2.2.2.1 a0 H2 λkj bL=>cR K kj bL λv13=>cw bL (gE (aA bL) [(.int 0 (.ofNat 0)),(.int 0 (.ofNat 0)),.ab,.ab,.ab] λv14 eM=>ae 5 v14 v13 eM λdm=>aF 5 v14 dm λv17=>onVal v17 λl18=>dV l18 5 (aN (aA dm) 1 5 (spl l18 [(.int 0 (.ofNat 0)),(.int 0 (.ofNat 0)),.ab,.ab,.ab] 0) λv19 fD=>dh 5 88 a3 v19 fD λv21 gT=>R.2.2.2.2 a0 (.str 1 59) gT λxI fS=>cR K xI fS λv25=>bf v25 λz26=>al 0 v14 λv27=>ak v27 fS λv28=>cI 0 v28 λz29=>bI (bj z29 (.ofNat 10)) (R.2.2.1 a0 fS λPx nM=>cR K Px nM λv32=>bf v32 λz33=>bI (!z33) (R.1 a0 (.ofNat 14) nM λo34 Gn=>cR K o34 Gn λv36=>x2 a0 v21 Gn) (x2 a0 v21 nM)) (x2 a0 v21 fS))))
theorem ad7{R:iU}(hR:tC R){K:KF}{x2:bC}(h2:Pv K x2):sj K (uT R K x2):=λa0 a3 H h=>pk hR (cc h2 .nil) h
def ad8(R:iU)(K:KF)(i1:bC):bC:=uT R K (ad5 R K i1)
theorem ad9{R:iU}(hR:tC R){K:KF}{i1:bC}(g1:sj K i1):sj K (ad8 R K i1):=ad7 hR (ad6 hR g1)
def AW(R:iU)(K:KF)(n:Nat):bC:=Nat.rec (motive:=λ_=>bC) (λ_ _ _=>False) (λ_ i=>ad8 R K i) n
theorem aea{R:iU}(hR:tC R){K:KF}(n:Nat):sj K (AW R K n):=Nat.rec (motive:=λn=>sj K (AW R K n)) (λa0 a3 H h=>h.elim) (λn ih=>ad9 hR ih) n
def Py(R:iU)(K:KF)(x1:bC)(a0 a3:AV)(H:AH):Prop:=x1 a0 a3 H
theorem aeb{R:iU}(hR:tC R){K:KF}{x1:bC}(h1:sj K x1):Pw K (Py R K x1):=λa0 a3 H h=>pk hR (cc h1 .nil) h
def Pz(R:iU)(K:KF):bC:=Py R K (AW R K NL)
theorem aec{R:iU}(hR:tC R){K:KF}:Pw K (Pz R K):=aeb hR (aea hR NL)
def Gp(R:iU)(K:KF)(x3:bC)(a0:AV)(H:AH):Prop:=R.2.1 a0 H λo1 H2=>cR K o1 H2 λv3=>R.2.2.1 a0 H2 λo4 H5=>cR K o4 H5 λv6=>bf v6 λz7=>bI z7 (aP a0 (al 2 a0 λv8=>ak v8 H5 λv9=>cI 0 v9 λz10=>aJ 0 (Int.sub z10 (.ofNat 1)) λz11=>aP a0 (al 2 a0 λv12=>ae 1 v12 (.int 0 z11) H5 λdL=>K (.ret .ab) dL))) (R.2.2.2.1 a0 H5 λGq eM=>cR K Gq eM λv16=>cw eM (gE (aA eM) [(.int 0 (.ofNat 0)),(.int 0 (.ofNat 0)),.ab,.ab,.ab] λv17 dK=>ae 5 v17 v16 dK λib=>aF 5 v17 ib λv20=>onVal v20 λU2=>dV U2 5 (aN (aA ib) 1 5 (spl U2 [(.int 0 (.ofNat 0)),(.int 0 (.ofNat 0)),.ab,.ab,.ab] 0) λv22 nz=>dh 5 88 .ab v22 nz λv24 kZ=>R.2.2.2.2 a0 (.str 1 59) kZ λxJ kB=>cR K xJ kB λv28=>bf v28 λz29=>al 0 v17 λv30=>ak v30 kB λv31=>cI 0 v31 λz32=>bI (bj z32 (.ofNat 10)) (R.2.2.1 a0 kB λAX mR=>cR K AX mR λv35=>bf v35 λz36=>bI (!z36) (R.1 a0 (.ofNat 14) mR λo37 oB=>cR K o37 oB λv39=>x3 a0 v24 oB) (x3 a0 v24 mR)) (x3 a0 v24 kB))))
theorem aed{R:iU}(hR:tC R){K:KF}{x3:bC}(h3:Pw K x3)(a0:AV)(H:AH)(h:Gp R K x3 a0 H):dw 24 K [] (ba (di 24) [a0]) [] H:=pk hR (cc h3 .nil) h
def aee(R:iU)(K:KF):Ta:=Gp R K (Pz R K)
def zG(R:iU):AV→AH→KF→Prop:=λa0 H K=>aee R K a0 H
theorem aov(R:iU)(hR:tC R):av gP 24 (ao [.a] (zG R)):=rk λK a0 H h=>aed hR (aec hR) a0 H h
abbrev fM:Type:=(AV→AH→KF→Prop)×(AV→AH→KF→Prop)×(AV→Int→AH→KF→Prop)×(AV→AH→KF→Prop)×(AV→AV→AH→KF→Prop)×(AV→AV→AH→KF→Prop)×(AV→AV→AH→KF→Prop)×(AV→AV→AH→KF→Prop)×(AV→AH→KF→Prop)×(AV→AV→AH→KF→Prop)×(AV→AV→AH→KF→Prop)×(AV→AV→AH→KF→Prop)
def arD(R:fM):List (Nat×cP):=[(23,ao [.a] R.1),(24,ao [.a] R.2.1),(25,ao [.a,.i 0] R.2.2.1),(54,ao [.a] R.2.2.2.1),(56,ao [.a,.a] R.2.2.2.2.1),(94,ao [.a,.a] R.2.2.2.2.2.1),(95,ao [.a,.a] R.2.2.2.2.2.2.1),(96,ao [.a,.a] R.2.2.2.2.2.2.2.1),(97,ao [.a] R.2.2.2.2.2.2.2.2.1),(98,ao [.a,.a] R.2.2.2.2.2.2.2.2.2.1),(99,ao [.a,.a] R.2.2.2.2.2.2.2.2.2.2.1),(100,ao [.a,.a] R.2.2.2.2.2.2.2.2.2.2.2)]
abbrev nA(R:fM):Prop:=ad gP (arD R)
abbrev sk(K:KF)(F:bC):Prop:=aM 55 K [1,1,1] 106 [2,3] [.a,.a] F
abbrev PA(K:KF)(F:bP):Prop:=aM 55 K [1,0,1,1,1,1,1,0,0,1,1] 106 [0,2,3] [.a,.a,.a] F
abbrev PB(K:KF)(F:bP):Prop:=aM 55 K [1,0,1,1,1,1,1,1,1,0,0,1,1] 106 [0,2,3] [.a,.a,.a] F
abbrev PC(K:KF)(F:bP):Prop:=aM 55 K [1,0,1,1,1,1,1,1,1,1,1,1,1,1,1,0,0,1,1] 106 [0,2,3] [.a,.a,.a] F
abbrev PD(K:KF)(F:bP):Prop:=aM 55 K [1,0,1,1,1,1,1,1,1,1,1,1,1,1,1,1,1,0,0,1,1] 106 [0,2,3] [.a,.a,.a] F
abbrev PE(K:KF)(F:bP):Prop:=aM 55 K [0,1,1,0,1,1,1,1,1,1,1,1,1,1,1,1,1,1,1,0,0,1,1] 106 [0,2,3] [.a,.a,.a] F
def PG(R:fM)(K:KF)(a2 a3:AV)(H:AH):Prop:=aF 5 a3 H λv1=>ae 5 a2 v1 H λH2=>aF 5 a2 H2 λv3=>K (.ret v3) H2
theorem aef{R:fM}(hR:nA R){K:KF}:sk K (PG R K):=λa2 a3 H h=>pk hR .nil h
def gq(R:fM)(K:KF):bC:=PG R K
theorem pN{R:fM}(hR:nA R){K:KF}:sk K (gq R K):=aef hR
def PH(R:fM)(K:KF)(x1:bC)(a0 a2 a3:AV)(H:AH):Prop:=R.2.2.2.2.2.2.2.2.2.1 a0 (.str 2 28516) H λo1 H2=>cR K o1 H2 λv3=>al 4 a3 λv4=>ak v4 H2 λv5=>R.2.1 a0 H2 λo6 H7=>cR K o6 H7 λv8=>ak v4 H7 λv9=>bT (aU v9 v5) (bG H7 (one v8 (aN (aA H7) 1 1 [v8] λv10 dZ=>bT (Nat.beq dZ.n (Nat.succ H7.n)) (dh 1 24 v5 v10 dZ λv12 dL=>al 4 a3 λv14=>ae 1 v14 v12 dL λeM=>R.2.2.2.2.2.2.2.2.2.1 a0 (.str 3 6581861) eM λo16 gx=>cR K o16 gx λv18=>x1 a2 a3 gx))))
theorem aeg{R:fM}(hR:nA R){K:KF}{x1:bC}(h1:sk K x1):PA K (PH R K x1):=λa0 a2 a3 H h=>pk hR (cc h1 .nil) h
def PI(R:fM)(K:KF):bP:=PH R K (gq R K)
theorem aeh{R:fM}(hR:nA R){K:KF}:PA K (PI R K):=aeg hR (pN hR)
def PJ(R:fM)(K:KF)(x1:bC)(a0 a2 a3:AV)(H:AH):Prop:=R.2.2.2.2.2.2.2.2.2.1 a0 (.str 5 465625706101) H λo1 H2=>cR K o1 H2 λv3=>al 3 a3 λv4=>ak v4 H2 λv5=>dp v5 λv6=>cI 0 v6 λz7=>bG H2 (aN (aA H2) 1 7 [(.int 0 (.ofNat 0)),(.int 0 (.ofNat 0)),(.int 0 (.ofNat 0)),(.str 0 0),(.int 0 (.ofNat 0)),.ab,.ab] λv8 H9=>bT (Nat.beq H9.n (Nat.succ H2.n)) (R.2.2.2.2.2.2.2.2.1 a0 H9 λsf dZ=>cR K sf dZ λv12=>ak v4 dZ λv13=>bT (aU v13 v5) (dh 7 96 v5 v8 dZ λv14 eM=>cK 7 v14 (.int 0 z7) λv16=>al 3 a3 λv17=>ae 7 v16 v12 eM λdK=>ae 1 v17 v14 dK λib=>ae 1 v17 v14 eM λfD=>ae 7 v16 v12 fD λia=>ke 7 1 v16 v17 (x1 a2 a3 ib))))
theorem aei{R:fM}(hR:nA R){K:KF}{x1:bC}(h1:sk K x1):PB K (PJ R K x1):=λa0 a2 a3 H h=>pk hR (cc h1 .nil) h
def PK(R:fM)(K:KF):bP:=PJ R K (gq R K)
theorem aej{R:fM}(hR:nA R){K:KF}:PB K (PK R K):=aei hR (pN hR)
def PL(R:fM)(K:KF)(x1:bC)(a0 a2 a3:AV)(H:AH):Prop:=R.2.2.2.2.2.2.2.2.2.1 a0 (.str 3 6581861) H λo1 H2=>cR K o1 H2 λv3=>x1 a2 a3 H2
theorem aek{R:fM}(hR:nA R){K:KF}{x1:bC}(h1:sk K x1):PC K (PL R K x1):=λa0 a2 a3 H h=>pk hR (cc h1 .nil) h
def PM(R:fM)(K:KF):bP:=PL R K (gq R K)
theorem ael{R:fM}(hR:nA R){K:KF}:PC K (PM R K):=aek hR (pN hR)
def PN(R:fM)(K:KF)(x1:bC)(a0 a2 a3:AV)(H:AH):Prop:=al 3 a3 λv1=>ak v1 H λv2=>dp v2 λv3=>cI 0 v3 λz4=>bG H (aN (aA H) 1 7 [(.int 0 (.ofNat 0)),(.int 0 (.ofNat 0)),(.int 0 (.ofNat 0)),(.str 0 0),(.int 0 (.ofNat 0)),.ab,.ab] λv5 H6=>bT (Nat.beq H6.n (Nat.succ H.n)) (R.2.2.2.2.2.2.2.2.1 a0 H6 λo7 H8=>cR K o7 H8 λv9=>ak v1 H8 λv10=>bT (aU v10 v2) (dh 7 96 v2 v5 H8 λv11 bL=>cK 7 v11 (.int 0 z4) λv13=>al 3 a3 λv14=>ae 7 v13 v9 bL λeM=>ae 1 v14 v11 eM λdm=>ae 1 v14 v11 bL λgx=>ae 7 v13 v9 gx λdK=>ke 7 1 v13 v14 (x1 a2 a3 dm))))
theorem aem{R:fM}(hR:nA R){K:KF}{x1:bC}(h1:sk K x1):PE K (PN R K x1):=λa0 a2 a3 H h=>pk hR (cc h1 .nil) h
def PO(R:fM)(K:KF):bP:=PN R K (gq R K)
theorem aen{R:fM}(hR:nA R){K:KF}:PE K (PO R K):=aem hR (pN hR)
def PQ(R:fM)(K:KF)(x6:bP)(x1:bC)(a0 a2 a3:AV)(H:AH):Prop:=R.2.2.2.2.2.1 a0 (.str 1 59) H λo1 H2=>cR K o1 H2 λv3=>bf v3 λz4=>bI (!z4) (R.2.2.2.1 a0 H2 λo5 H6=>cR K o5 H6 λv7=>bf v7 λz8=>bI (!z8) (x6 a0 a2 a3 H6) (x1 a2 a3 H6)) (x1 a2 a3 H2)
theorem aeo{R:fM}(hR:nA R){K:KF}{x6:bP}{x1:bC}(h6:PE K x6)(h1:sk K x1):PD K (PQ R K x6 x1):=λa0 a2 a3 H h=>pk hR (cc h6 (cc h1 .nil)) h
def PR(R:fM)(K:KF):bP:=PQ R K (PO R K) (gq R K)
theorem aep{R:fM}(hR:nA R){K:KF}:PD K (PR R K):=aeo hR (aen hR) (pN hR)
def PT(R:fM)(K:KF)(x2 x3 x4 x5:bP)(x1:bC)(a0:AV)(H:AH):Prop:=cw H (gE (aA H) [(.int 0 (.ofNat 0)),(.int 0 (.ofNat 0)),.ab,.ab,.ab] λv1 H2=>R.1 a0 H2 λo3 H4=>cR K o3 H4 λv5=>gz v5 λl6=>cX l6 3 λv7=>cI 0 v7 λz8=>cw H4 (gE (aA H4) [(.int 0 (.ofNat 0)),(.int 0 (.ofNat 0)),.ab,.ab,.ab] λv9 bJ=>ae 5 v9 (.agg [(.int 0 (.ofNat 0)),(.int 0 z8),.ab,.ab,.ab]) bJ λdZ=>R.2.2.2.2.1 a0 (.str 5 465490374508) dZ λxK dL=>cR K xK dL λv14=>bf v14 λlA=>bI lA (R.2.2.2.2.2.2.1 a0 v9 dL λo16 gx=>cR K o16 gx λv18=>x1 v1 v9 gx) (R.2.2.2.2.1 a0 (.str 2 26217) dL λxL fD=>cR K xL fD λv21=>bf v21 λz22=>bI z22 (R.2.2.2.2.2.2.2.1 a0 v9 fD λxI fS=>cR K xI fS λv25=>x1 v1 v9 fS) (R.2.2.2.2.1 a0 (.str 5 435610544247) fD λxJ kB=>cR K xJ kB λv28=>bf v28 λz29=>bI z29 (R.2.2.2.2.2.2.2.2.1 a0 kB λPx nM=>cR K Px nM λv32=>onVal v32 λl33=>dV l33 7 (aN (aA nM) 1 7 (spl l33 [(.int 0 (.ofNat 0)),(.int 0 (.ofNat 0)),(.int 0 (.ofNat 0)),(.str 0 0),(.int 0 (.ofNat 0)),.ab,.ab] 0) λv34 Gn=>al 0 v9 λv36=>ae 1 v36 (.int 0 (.ofNat 5)) Gn λH37=>al 3 v9 λv38=>ae 1 v38 v34 H37 λH39=>x2 a0 v1 v9 H39)) (R.2.2.2.2.1 a0 (.str 6 127961662514546) kB λo40 xM=>cR K o40 xM λv42=>bf v42 λz43=>bI z43 (R.2.1 a0 xM λo44 H45=>cR K o44 H45 λv46=>one v46 (aN (aA H45) 1 1 [v46] λv47 uU=>al 0 v9 λv49=>ae 1 v49 (.int 0 (.ofNat 8)) uU λGr=>al 4 v9 λv51=>ae 1 v51 v47 Gr λNh=>x3 a0 v1 v9 Nh)) (R.2.2.2.2.1 a0 (.str 3 7499622) xM λo53 Gs=>cR K o53 Gs λv55=>bf v55 λz56=>bI z56 (R.2.2.2.2.2.2.2.2.2.2.1 a0 v9 Gs λo57 U3=>cR K o57 U3 λv59=>x1 v1 v9 U3) (R.2.2.2.2.1 a0 (.str 5 461195539042) Gs λo60 H61=>cR K o60 H61 λv62=>bf v62 λz63=>bI z63 (al 0 v9 λv64=>ae 1 v64 (.int 0 (.ofNat 9)) H61 λH65=>x1 v1 v9 H65) (R.2.2.2.2.1 a0 (.str 2 28516) H61 λo66 H67=>cR K o66 H67 λv68=>bf v68 λz69=>bI z69 (R.2.1 a0 H67 λo70 PU=>cR K o70 PU λv72=>one v72 (aN (aA PU) 1 1 [v72] λv73 H74=>al 0 v9 λv75=>ae 1 v75 (.int 0 (.ofNat 11)) H74 λH76=>al 4 v9 λv77=>ae 1 v77 v73 H76 λGt=>x4 a0 v1 v9 Gt)) (R.2.2.2.2.1 a0 (.str 6 121437875889522) H67 λo79 Gu=>cR K o79 Gu λv81=>bf v81 λz82=>bI z82 (al 0 v9 λv83=>ae 1 v83 (.int 0 (.ofNat 10)) Gu λH84=>x5 a0 v1 v9 H84) (R.1 a0 Gu λo85 H86=>cR K o85 H86 λv87=>gz v87 λl88=>cX l88 0 λv89=>cI 0 v89 λz90=>bI (bj z90 (.ofNat 2)) (R.2.2.2.2.2.2.2.2.2.2.2 a0 v9 H86 λo91 H92=>cR K o91 H92 λv93=>x1 v1 v9 H92) (R.2.2.1 a0 (.ofNat 14) H86 λo94 H95=>cR K o94 H95 λv96=>x1 v1 v9 H95)))))))))))
theorem aeq{R:fM}(hR:nA R){K:KF}{x2 x3 x4 x5:bP}{x1:bC}(h2:PA K x2)(h3:PB K x3)(h4:PC K x4)(h5:PD K x5)(h1:sk K x1)(a0:AV)(H:AH)(h:PT R K x2 x3 x4 x5 x1 a0 H):dw 55 K [] (ba (di 55) [a0]) [] H:=pk hR (cc h2 (cc h3 (cc h4 (cc h5 (cc h1 .nil))))) h
def aer(R:fM)(K:KF):Ta:=PT R K (PI R K) (PK R K) (PM R K) (PR R K) (gq R K)
def zH(R:fM):AV→AH→KF→Prop:=λa0 H K=>aer R K a0 H
theorem aow(R:fM)(hR:nA R):av gP 55 (ao [.a] (zH R)):=rk λK a0 H h=>aeq hR (aeh hR) (aej hR) (ael hR) (aep hR) (pN hR) a0 H h
abbrev pn:Type:=(AV→AH→KF→Prop)×(AV→AV→AH→KF→Prop)×(AV→AH→KF→Prop)×(AV→AH→KF→Prop)×(AV→Int→AH→KF→Prop)
def arE(R:pn):List (Nat×cP):=[(23,ao [.a] R.1),(56,ao [.a,.a] R.2.1),(97,ao [.a] R.2.2.1),(130,ao [.a] R.2.2.2.1),(131,ao [.a,.i 0] R.2.2.2.2)]
abbrev N7(R:pn):Prop:=ad gP (arE R)
abbrev PV(K:KF)(F:bC):Prop:=aM 95 K [1,1,0,1,0,1] 47 [0,1] [.a,.a] F
def PW(R:pn)(K:KF)(a0 a1:AV)(H:AH):Prop:=R.1 a0 H λo1 H2=>cR K o1 H2 λv3=>gz v3 λl4=>cX l4 3 λv5=>cI 0 v5 λz6=>R.2.2.2.2 a0 z6 H2 λo7 H8=>cR K o7 H8 λv9=>onVal v9 λl10=>dV l10 7 (aN (aA H8) 1 7 (spl l10 [(.int 0 (.ofNat 0)),(.int 0 (.ofNat 0)),(.int 0 (.ofNat 0)),(.str 0 0),(.int 0 (.ofNat 0)),.ab,.ab] 0) λv11 bL=>aP a1 (al 3 a1 λv13=>ae 1 v13 v11 bL λcN=>K (.ret (.aY [])) cN))
theorem aes{R:pn}(hR:N7 R){K:KF}:PV K (PW R K):=λa0 a1 H h=>pk hR .nil h
def PX(R:pn)(K:KF):bC:=PW R K
theorem aet{R:pn}(hR:N7 R){K:KF}:PV K (PX R K):=aes hR
def PY(R:pn)(K:KF)(x1:bC)(a0 a1:AV)(H:AH):Prop:=aP a1 (al 0 a1 λv1=>ae 1 v1 (.int 0 (.ofNat 1)) H λH2=>R.2.1 a0 (.str 8 7957695015192261990) H2 λo3 H4=>cR K o3 H4 λv5=>bf v5 λz6=>bI z6 (aP a1 (al 0 a1 λv7=>ae 1 v7 (.int 0 (.ofNat 12)) H4 λH8=>R.2.2.2.1 a0 H8 λo9 bJ=>cR K o9 bJ λv11=>one v11 (aN (aA bJ) 1 1 [v11] λv12 dL=>aP a1 (al 2 a1 λv14=>ae 1 v14 v12 dL λeM=>x1 a0 a1 eM)))) (R.2.2.2.1 a0 H4 λo16 gx=>cR K o16 gx λv18=>one v18 (aN (aA gx) 1 1 [v18] λv19 fD=>aP a1 (al 2 a1 λv21=>ae 1 v21 v19 fD λgT=>R.2.1 a0 (.str 1 61) gT λxI fS=>cR K xI fS λv25=>bf v25 λz26=>bI z26 (aP a1 (al 3 a1 λv27=>ak v27 fS λv28=>dp v28 λv29=>cI 0 v29 λz30=>bG fS (aN (aA fS) 1 7 [(.int 0 (.ofNat 0)),(.int 0 (.ofNat 0)),(.int 0 (.ofNat 0)),(.str 0 0),(.int 0 (.ofNat 0)),.ab,.ab] λv31 oC=>bT (Nat.beq oC.n (Nat.succ fS.n)) (R.2.2.1 a0 oC λAX mR=>cR K AX mR λv35=>ak v27 mR λv36=>bT (aU v36 v28) (dh 7 96 v28 v31 mR λv37 oB=>cK 7 v37 (.int 0 z30) λv39=>aP a1 (al 3 a1 λv40=>ae 7 v39 v35 oB λxM=>ae 1 v40 v37 xM λnN=>ae 1 v40 v37 oB λAl=>ae 7 v39 v35 Al λNi=>ke 7 1 v39 v40 (K (.ret (.aY [])) nN))))))) (K (.ret (.aY [])) fS)))))
theorem aeu{R:pn}(hR:N7 R){K:KF}{x1:bC}(h1:PV K x1)(a0 a1:AV)(H:AH)(h:PY R K x1 a0 a1 H):dw 95 K [] (ba (di 95) [a0,a1]) [] H:=pk hR (cc h1 .nil) h
def aew(R:pn)(K:KF):bC:=PY R K (PX R K)
def zI(R:pn):AV→AV→AH→KF→Prop:=λa0 a1 H K=>aew R K a0 a1 H
theorem aox(R:pn)(hR:N7 R):av gP 95 (ao [.a,.a] (zI R)):=rk λK a0 a1 H h=>aeu hR (aet hR) a0 a1 H h
abbrev gh:Type:=(AV→AH→KF→Prop)×(AV→AV→AH→KF→Prop)×(AV→AH→KF→Prop)×(AV→AV→AH→KF→Prop)
def arF(R:gh):List (Nat×cP):=[(24,ao [.a] R.1),(56,ao [.a,.a] R.2.1),(97,ao [.a] R.2.2.1),(98,ao [.a,.a] R.2.2.2)]
abbrev oj(R:gh):Prop:=ad gP (arF R)
abbrev PZ(K:KF)(F:bC):Prop:=aM 96 K [1,1] 50 [0,1] [.a,.a] F
abbrev qo(K:KF)(F:bC):Prop:=aM 96 K [0,0,1] 50 [0,1] [.a,.a] F
abbrev P0(K:KF)(F:Ta):Prop:=aM 96 K [1,1,1] 50 [0] [.a] F
abbrev P1(K:KF)(F:bC):Prop:=aM 96 K [1,0,0,0,0,1] 50 [0,1] [.a,.a] F
abbrev P2(K:KF)(F:bC):Prop:=aM 96 K [1,1,1,0,0,0,0,1] 50 [0,1] [.a,.a] F
def AY(R:gh)(K:KF)(a0:AV)(H:AH):Prop:=R.2.2.2 a0 (.str 3 6581861) H λo1 H2=>cR K o1 H2 λv3=>K (.ret (.aY [])) H2
theorem aex{R:gh}(hR:oj R){K:KF}:P0 K (AY R K):=λa0 H h=>pk hR .nil h
def aey(R:gh)(K:KF):Ta:=AY R K
theorem aez{R:gh}(hR:oj R){K:KF}:P0 K (aey R K):=aex hR
def Gv(R:gh)(K:KF)(x3:Ta)(a0 a1:AV)(H:AH):Prop:=R.2.1 a0 (.str 4 1702063205) H λo1 H2=>cR K o1 H2 λv3=>bf v3 λz4=>bI z4 (aP a1 (al 4 a1 λv5=>ak v5 H2 λv6=>R.1 a0 H2 λo7 H8=>cR K o7 H8 λv9=>ak v5 H8 λv10=>bT (aU v10 v6) (bG H8 (one v9 (aN (aA H8) 1 1 [v9] λv11 bL=>bT (Nat.beq bL.n (Nat.succ H8.n)) (dh 1 24 v6 v11 bL λv13 cN=>aP a1 (al 4 a1 λv15=>ae 1 v15 v13 cN λdm=>x3 a0 dm))))))) (x3 a0 H2)
theorem aeA{R:gh}(hR:oj R){K:KF}{x3:Ta}(h3:P0 K x3):PZ K (Gv R K x3):=λa0 a1 H h=>pk hR (cc h3 .nil) h
def aeB(R:gh)(K:KF):bC:=Gv R K (aey R K)
theorem aeC{R:gh}(hR:oj R){K:KF}:PZ K (aeB R K):=aeA hR (aez hR)
def Gw(R:gh)(K:KF)(x2 x1:bC)(a0 a1:AV)(H:AH):Prop:=R.2.1 a0 (.str 6 112602859662437) H λo1 H2=>cR K o1 H2 λv3=>bf v3 λz4=>bI (!z4) (x1 a0 a1 H2) (x2 a0 a1 H2)
theorem aeD{R:gh}(hR:oj R){K:KF}{x2 x1:bC}(h2:qo K x2)(h1:PZ K x1):P2 K (Gw R K x2 x1):=λa0 a1 H h=>pk hR (cc h2 (cc h1 .nil)) h
def aeE(R:gh)(K:KF)(i2:bC):bC:=Gw R K i2 (aeB R K)
theorem aeF{R:gh}(hR:oj R){K:KF}{i2:bC}(g2:qo K i2):P2 K (aeE R K i2):=aeD hR g2 (aeC hR)
def Gx(R:gh)(K:KF)(x5:bC)(a0 a1:AV)(H:AH):Prop:=R.2.2.2 a0 (.str 4 1852139636) H λo1 H2=>cR K o1 H2 λv3=>aP a1 (al 4 a1 λv4=>ak v4 H2 λv5=>R.1 a0 H2 λo6 H7=>cR K o6 H7 λv8=>ak v4 H7 λv9=>bT (aU v9 v5) (bG H7 (one v8 (aN (aA H7) 1 1 [v8] λv10 dZ=>bT (Nat.beq dZ.n (Nat.succ H7.n)) (dh 1 24 v5 v10 dZ λv12 dL=>aP a1 (al 4 a1 λv14=>ae 1 v14 v12 dL λeM=>x5 a0 a1 eM))))))
theorem aeG{R:gh}(hR:oj R){K:KF}{x5:bC}(h5:P2 K x5):P1 K (Gx R K x5):=λa0 a1 H h=>pk hR (cc h5 .nil) h
def aeH(R:gh)(K:KF)(i2:bC):bC:=Gx R K (aeE R K i2)
theorem aeI{R:gh}(hR:oj R){K:KF}{i2:bC}(g2:qo K i2):P1 K (aeH R K i2):=aeG hR (aeF hR g2)
def Gy(R:gh)(K:KF)(x4:bC)(a0 a1:AV)(H:AH):Prop:=aP a1 (al 3 a1 λv1=>ak v1 H λv2=>dp v2 λv3=>cI 0 v3 λz4=>bG H (aN (aA H) 1 7 [(.int 0 (.ofNat 0)),(.int 0 (.ofNat 0)),(.int 0 (.ofNat 0)),(.str 0 0),(.int 0 (.ofNat 0)),.ab,.ab] λv5 H6=>bT (Nat.beq H6.n (Nat.succ H.n)) (R.2.2.1 a0 H6 λo7 H8=>cR K o7 H8 λv9=>ak v1 H8 λv10=>bT (aU v10 v2) (dh 7 96 v2 v5 H8 λv11 bL=>cK 7 v11 (.int 0 z4) λv13=>aP a1 (al 3 a1 λv14=>ae 7 v13 v9 bL λeM=>ae 1 v14 v11 eM λdm=>ae 1 v14 v11 bL λgx=>ae 7 v13 v9 gx λdK=>ke 7 1 v13 v14 (x4 a0 a1 dm))))))
theorem aeJ{R:gh}(hR:oj R){K:KF}{x4:bC}(h4:P1 K x4):qo K (Gy R K x4):=λa0 a1 H h=>pk hR (cc h4 .nil) h
def aeK(R:gh)(K:KF)(i2:bC):bC:=Gy R K (aeH R K i2)
theorem aeL{R:gh}(hR:oj R){K:KF}{i2:bC}(g2:qo K i2):qo K (aeK R K i2):=aeJ hR (aeI hR g2)
def AZ(R:gh)(K:KF)(n:Nat):bC:=Nat.rec (motive:=λ_=>bC) (λ_ _ _=>False) (λ_ i=>aeK R K i) n
theorem aeM{R:gh}(hR:oj R){K:KF}(n:Nat):qo K (AZ R K n):=Nat.rec (motive:=λn=>qo K (AZ R K n)) (λa0 a1 H h=>h.elim) (λn ih=>aeL hR ih) n
def P3(R:gh)(K:KF)(x2:bC)(a0 a1:AV)(H:AH):Prop:=aP a1 (al 0 a1 λv1=>ae 1 v1 (.int 0 (.ofNat 4)) H λH2=>x2 a0 a1 H2)
theorem aeN{R:gh}(hR:oj R){K:KF}{x2:bC}(h2:qo K x2)(a0 a1:AV)(H:AH)(h:P3 R K x2 a0 a1 H):dw 96 K [] (ba (di 96) [a0,a1]) [] H:=pk hR (cc h2 .nil) h
def aeO(R:gh)(K:KF):bC:=P3 R K (AZ R K NL)
def zJ(R:gh):AV→AV→AH→KF→Prop:=λa0 a1 H K=>aeO R K a0 a1 H
theorem aoy(R:gh)(hR:oj R):av gP 96 (ao [.a,.a] (zJ R)):=rk λK a0 a1 H h=>aeN hR (aeM hR NL) a0 a1 H h
abbrev po:Type:=(AV→AH→KF→Prop)×(AV→AH→KF→Prop)
def arG(R:po):List (Nat×cP):=[(53,ao [.a] R.1),(132,ao [.a] R.2)]
abbrev N8(R:po):Prop:=ad gP (arG R)
abbrev P4(K:KF)(F:bC):Prop:=aM 97 K [1,1,1,1] 16 [2,3] [.a,.a] F
def A0(R:po)(K:KF)(a2 a3:AV)(H:AH):Prop:=aF 7 a3 H λv1=>ae 7 a2 v1 H λH2=>aF 7 a2 H2 λv3=>K (.ret v3) H2
theorem aeP{R:po}(hR:N8 R){K:KF}:P4 K (A0 R K):=λa2 a3 H h=>pk hR .nil h
def aeQ(R:po)(K:KF):bC:=A0 R K
theorem aeR{R:po}(hR:N8 R){K:KF}:P4 K (aeQ R K):=aeP hR
def Gz(R:po)(K:KF)(x1:bC)(a0:AV)(H:AH):Prop:=cw H (cx gP (aA H) 49 λv1 H2=>R.1 a0 H2 λo3 H4=>cR K o3 H4 λv5=>R.2 a0 H4 λo6 H7=>cR K o6 H7 λv8=>cw H7 (cx gP (aA H7) 49 λv9 bJ=>ae 7 v9 v8 bJ λdZ=>aP a0 (al 2 a0 λv12=>ak v12 dZ λv13=>cI 0 v13 λmn=>aJ 0 (Int.sub mn (.ofNat 1)) λlA=>aP a0 (al 2 a0 λv16=>ae 1 v16 (.int 0 lA) dZ λgx=>x1 v1 v9 gx))))
theorem aeS{R:po}(hR:N8 R){K:KF}{x1:bC}(h1:P4 K x1)(a0:AV)(H:AH)(h:Gz R K x1 a0 H):dw 97 K [] (ba (di 97) [a0]) [] H:=pk hR (cc h1 .nil) h
def arH(R:po)(K:KF):Ta:=Gz R K (aeQ R K)
def GA(R:po):AV→AH→KF→Prop:=λa0 H K=>arH R K a0 H
theorem aoz(R:po)(hR:N8 R):av gP 97 (ao [.a] (GA R)):=rk λK a0 H h=>aeS hR (aeR hR) a0 H h
abbrev iN:Type:=(AV→AH→KF→Prop)×(AV→AV→AH→KF→Prop)×(AV→AH→KF→Prop)×(AV→AV→AH→KF→Prop)×(AV→AH→KF→Prop)
def arI(R:iN):List (Nat×cP):=[(24,ao [.a] R.1),(56,ao [.a,.a] R.2.1),(97,ao [.a] R.2.2.1),(98,ao [.a,.a] R.2.2.2.1),(130,ao [.a] R.2.2.2.2)]
abbrev rS(R:iN):Prop:=ad gP (arI R)
abbrev GB(K:KF)(F:bC):Prop:=aM 99 K [1,1] 83 [0,1] [.a,.a] F
abbrev P5(K:KF)(F:bC):Prop:=aM 99 K [1,0,1,0,1] 83 [0,1] [.a,.a] F
abbrev P6(K:KF)(F:bC):Prop:=aM 99 K [1,1,1,0,1] 83 [0,1] [.a,.a] F
abbrev P7(K:KF)(F:bC):Prop:=aM 99 K [1,1,1,1,1,1,0,1] 83 [0,1] [.a,.a] F
def GC(R:iN)(K:KF)(a0 a1:AV)(H:AH):Prop:=R.2.2.2.1 a0 (.str 2 28516) H λo1 H2=>cR K o1 H2 λv3=>R.1 a0 H2 λo4 H5=>cR K o4 H5 λv6=>one v6 (aN (aA H5) 1 1 [v6] λv7 H8=>aP a1 (al 4 a1 λv9=>ae 1 v9 v7 H8 λbJ=>R.2.2.2.1 a0 (.str 3 6581861) bJ λkj bL=>cR K kj bL λv13=>K (.ret (.aY [])) bL))
theorem aeT{R:iN}(hR:rS R){K:KF}:GB K (GC R K):=λa0 a1 H h=>pk hR .nil h
def P8(R:iN)(K:KF):bC:=GC R K
theorem Nj{R:iN}(hR:rS R){K:KF}:GB K (P8 R K):=aeT hR
def P9(R:iN)(K:KF)(x1:bC)(a0 a1:AV)(H:AH):Prop:=R.2.2.2.1 a0 (.str 2 28265) H λo1 H2=>cR K o1 H2 λv3=>R.2.2.1 a0 H2 λo4 H5=>cR K o4 H5 λv6=>onVal v6 λl7=>dV l7 7 (aN (aA H5) 1 7 (spl l7 [(.int 0 (.ofNat 0)),(.int 0 (.ofNat 0)),(.int 0 (.ofNat 0)),(.str 0 0),(.int 0 (.ofNat 0)),.ab,.ab] 0) λv8 H9=>aP a1 (al 3 a1 λv10=>ae 1 v10 v8 H9 λdZ=>x1 a0 a1 dZ))
theorem aeU{R:iN}(hR:rS R){K:KF}{x1:bC}(h1:GB K x1):P5 K (P9 R K x1):=λa0 a1 H h=>pk hR (cc h1 .nil) h
def Qa(R:iN)(K:KF):bC:=P9 R K (P8 R K)
theorem aeV{R:iN}(hR:rS R){K:KF}:P5 K (Qa R K):=aeU hR (Nj hR)
def Qb(R:iN)(K:KF)(x1:bC)(a0 a1:AV)(H:AH):Prop:=R.2.1 a0 (.str 1 44) H λo1 H2=>cR K o1 H2 λv3=>bf v3 λz4=>bI z4 (aP a1 (al 3 a1 λv5=>ak v5 H2 λv6=>dp v6 λv7=>cI 0 v7 λz8=>bG H2 (aN (aA H2) 1 7 [(.int 0 (.ofNat 0)),(.int 0 (.ofNat 0)),(.int 0 (.ofNat 0)),(.str 0 0),(.int 0 (.ofNat 0)),.ab,.ab] λv9 bJ=>bT (Nat.beq bJ.n (Nat.succ H2.n)) (R.2.2.1 a0 bJ λkj bL=>cR K kj bL λv13=>ak v5 bL λv14=>bT (aU v14 v6) (dh 7 96 v6 v9 bL λv15 dm=>cK 7 v15 (.int 0 z8) λv17=>aP a1 (al 3 a1 λv18=>ae 7 v17 v13 dm λib=>ae 1 v18 v15 ib λfD=>ae 1 v18 v15 dm λia=>ae 7 v17 v13 ia λgT=>ke 7 1 v17 v18 (x1 a0 a1 fD))))))) (x1 a0 a1 H2)
theorem aeW{R:iN}(hR:rS R){K:KF}{x1:bC}(h1:GB K x1):P7 K (Qb R K x1):=λa0 a1 H h=>pk hR (cc h1 .nil) h
def Qc(R:iN)(K:KF):bC:=Qb R K (P8 R K)
theorem aeX{R:iN}(hR:rS R){K:KF}:P7 K (Qc R K):=aeW hR (Nj hR)
def Qd(R:iN)(K:KF)(x4:bC)(a0 a1:AV)(H:AH):Prop:=R.2.2.1 a0 H λo1 H2=>cR K o1 H2 λv3=>onVal v3 λl4=>dV l4 7 (aN (aA H2) 1 7 (spl l4 [(.int 0 (.ofNat 0)),(.int 0 (.ofNat 0)),(.int 0 (.ofNat 0)),(.str 0 0),(.int 0 (.ofNat 0)),.ab,.ab] 0) λv5 H6=>aP a1 (al 3 a1 λv7=>ae 1 v7 v5 H6 λH8=>R.2.2.2.1 a0 (.str 1 44) H8 λo9 bJ=>cR K o9 bJ λv11=>aP a1 (al 3 a1 λv12=>ak v12 bJ λv13=>dp v13 λv14=>cI 0 v14 λlA=>bG bJ (aN (aA bJ) 1 7 [(.int 0 (.ofNat 0)),(.int 0 (.ofNat 0)),(.int 0 (.ofNat 0)),(.str 0 0),(.int 0 (.ofNat 0)),.ab,.ab] λv16 gx=>bT (Nat.beq gx.n (Nat.succ bJ.n)) (R.2.2.1 a0 gx λGD ib=>cR K GD ib λv20=>ak v12 ib λv21=>bT (aU v21 v13) (dh 7 96 v13 v16 ib λv22 nz=>cK 7 v22 (.int 0 lA) λv24=>aP a1 (al 3 a1 λv25=>ae 7 v24 v20 nz λnO=>ae 1 v25 v22 nO λkB=>ae 1 v25 v22 nz λwu=>ae 7 v24 v20 wu λuV=>ke 7 1 v24 v25 (x4 a0 a1 kB))))))))
theorem aeY{R:iN}(hR:rS R){K:KF}{x4:bC}(h4:P7 K x4):P6 K (Qd R K x4):=λa0 a1 H h=>pk hR (cc h4 .nil) h
def Qe(R:iN)(K:KF):bC:=Qd R K (Qc R K)
theorem aeZ{R:iN}(hR:rS R){K:KF}:P6 K (Qe R K):=aeY hR (aeX hR)
def Qf(R:iN)(K:KF)(x2 x3:bC)(a0 a1:AV)(H:AH):Prop:=R.2.2.2.2 a0 H λo1 H2=>cR K o1 H2 λv3=>one v3 (aN (aA H2) 1 1 [v3] λv4 H5=>aP a1 (al 0 a1 λv6=>ae 1 v6 (.int 0 (.ofNat 6)) H5 λH7=>aP a1 (al 2 a1 λv8=>ae 1 v8 v4 H7 λH9=>R.2.1 a0 (.str 1 44) H9 λsf dZ=>cR K sf dZ λv12=>bf v12 λz13=>bI z13 (aP a1 (al 2 a1 λv14=>ak v14 dZ λv15=>R.2.2.2.2 a0 dZ λo16 gx=>cR K o16 gx λv18=>ak v14 gx λv19=>bT (aU v19 v15) (bG gx (one v18 (aN (aA gx) 1 1 [v18] λv20 ia=>bT (Nat.beq ia.n (Nat.succ gx.n)) (dh 1 16 v15 v20 ia λv22 nz=>aP a1 (al 0 a1 λv24=>ae 1 v24 (.int 0 (.ofNat 7)) nz λkZ=>aP a1 (al 2 a1 λv26=>ae 1 v26 v22 kZ λkB=>x2 a0 a1 kB)))))))) (R.2.2.2.1 a0 (.str 1 61) dZ λo28 uV=>cR K o28 uV λv30=>x3 a0 a1 uV))))
theorem ae0{R:iN}(hR:rS R){K:KF}{x2 x3:bC}(h2:P5 K x2)(h3:P6 K x3)(a0 a1:AV)(H:AH)(h:Qf R K x2 x3 a0 a1 H):dw 99 K [] (ba (di 99) [a0,a1]) [] H:=pk hR (cc h2 (cc h3 .nil)) h
def ae1(R:iN)(K:KF):bC:=Qf R K (Qa R K) (Qe R K)
def zL(R:iN):AV→AV→AH→KF→Prop:=λa0 a1 H K=>ae1 R K a0 a1 H
theorem aoA(R:iN)(hR:rS R):av gP 99 (ao [.a,.a] (zL R)):=rk λK a0 a1 H h=>ae0 hR (aeV hR) (aeZ hR) a0 a1 H h
abbrev sl:Type:=(AV→AH→KF→Prop)×(AV→AV→AH→KF→Prop)×(AV→AH→KF→Prop)
def aoB(R:sl):List (Nat×cP):=[(97,ao [.a] R.1),(98,ao [.a,.a] R.2.1),(133,ao [.a] R.2.2)]
abbrev ae2(R:sl):Prop:=ad gP (aoB R)
def JY(R:sl)(K:KF)(a0 a1:AV)(H:AH):Prop:=R.2.2 a0 H λo1 H2=>cR K o1 H2 λv3=>cw H2 (cx gP (aA H2) 49 λv4 H5=>ae 7 v4 v3 H5 λH6=>al 0 v4 λv7=>ak v7 H6 λv8=>cI 0 v8 λz9=>bI (bj z9 (.ofNat 10)) (aF 7 v4 H6 λv10=>bG H6 (onVal v10 λEm=>dV Em 7 (aN (aA H6) 1 7 (spl Em [(.int 0 (.ofNat 0)),(.int 0 (.ofNat 0)),(.int 0 (.ofNat 0)),(.str 0 0),(.int 0 (.ofNat 0)),.ab,.ab] 0) λv12 dL=>bT (Nat.beq dL.n (Nat.succ H6.n)) (aP a1 (al 0 a1 λv14=>ae 1 v14 (.int 0 (.ofNat 3)) dL λeM=>aF 7 v4 eM λv16=>bT (aU v16 v10) (aP a1 (al 3 a1 λv17=>ae 1 v17 v12 eM λdK=>K (.ret (.aY [])) dK))))))) (R.2.1 a0 (.str 1 61) H6 λxL fD=>cR K xL fD λv21=>aF 7 v4 fD λv22=>R.1 a0 fD λxI fS=>cR K xI fS λv25=>aF 7 v4 fS λv26=>bT (aU v26 v22) (bG fS (onVal v22 λNk=>dV Nk 7 (onVal v25 λl28=>dV l28 7 (aN (aA fS) 2 7 (spl l28 (spl Nk [(.int 0 (.ofNat 0)),(.int 0 (.ofNat 0)),(.int 0 (.ofNat 0)),(.str 0 0),(.int 0 (.ofNat 0)),.ab,.ab,(.int 0 (.ofNat 0)),(.int 0 (.ofNat 0)),(.int 0 (.ofNat 0)),(.str 0 0),(.int 0 (.ofNat 0)),.ab,.ab] 0) 7) λv29 uW=>bT (Nat.beq uW.n (Nat.succ fS.n)) (aP a1 (al 0 a1 λv31=>ae 1 v31 (.int 0 (.ofNat 2)) uW λoC=>aF 7 v4 oC λv33=>bT (aU v33 v22) (aP a1 (al 3 a1 λv34=>ae 1 v34 v29 oC λGn=>K (.ret (.aY [])) Gn))))))))))
theorem XL{R:sl}(hR:ae2 R){K:KF}(a0 a1:AV)(H:AH)(h:JY R K a0 a1 H):dw 100 K [] (ba (di 100) [a0,a1]) [] H:=pk hR .nil h
def U4(R:sl)(K:KF):bC:=JY R K
def uX(R:sl):AV→AV→AH→KF→Prop:=λa0 a1 H K=>U4 R K a0 a1 H
theorem ak9(R:sl)(hR:ae2 R):av gP 100 (ao [.a,.a] (uX R)):=rk λK a0 a1 H h=>XL hR a0 a1 H h
abbrev fT:Type:=(AV→AH→KF→Prop)×(AV→Int→AH→KF→Prop)×(AV→AV→AH→KF→Prop)×(AV→AV→AH→KF→Prop)×(AV→AV→AH→KF→Prop)×(AV→AH→KF→Prop)
def aoC(R:fT):List (Nat×cP):=[(24,ao [.a] R.1),(25,ao [.a,.i 0] R.2.1),(56,ao [.a,.a] R.2.2.1),(94,ao [.a,.a] R.2.2.2.1),(98,ao [.a,.a] R.2.2.2.2.1),(130,ao [.a] R.2.2.2.2.2)]
abbrev nP(R:fT):Prop:=ad gP (aoC R)
abbrev JZ(K:KF)(F:bZ):Prop:=aM 131 K [1,1,1,1] 47 [0,1,4,5] [.a,.i 0,.a,.a] F
abbrev om(K:KF)(F:lz):Prop:=aM 131 K [0,1,0,1,1,1] 47 [0,1,4,5,6] [.a,.i 0,.a,.a,.b] F
abbrev J0(K:KF)(F:bZ):Prop:=aM 131 K [1,1,0,0,1,0,1,1,1] 47 [0,1,4,5] [.a,.i 0,.a,.a] F
abbrev J1(K:KF)(F:bZ):Prop:=aM 131 K [1,0,0,1,0,0,1,0,1,1,1] 47 [0,1,4,5] [.a,.i 0,.a,.a] F
def tO(R:fT)(K:KF)(x2:lz)(a0:AV)(a1:Int)(a4 a5:AV)(H:AH):Prop:=x2 a0 a1 a4 a5 false H
theorem XM{R:fT}(hR:nP R){K:KF}{x2:lz}(h2:om K x2):J0 K (tO R K x2):=λa0 a1 a4 a5 H h=>pk hR (cc h2 .nil) h
def U5(R:fT)(K:KF)(i2:lz):bZ:=tO R K i2
theorem XN{R:fT}(hR:nP R){K:KF}{i2:lz}(g2:om K i2):J0 K (U5 R K i2):=XM hR g2
def tP(R:fT)(K:KF)(x3:bZ)(a0:AV)(a1:Int)(a4 a5:AV)(H:AH):Prop:=al 0 a5 λv1=>ak v1 H λv2=>R.2.2.2.2.2 a0 H λo3 H4=>cR K o3 H4 λv5=>ak v1 H4 λv6=>bT (aU v6 v2) (bG H4 (one v5 (aN (aA H4) 1 1 [v5] λv7 H8=>bT (Nat.beq H8.n (Nat.succ H4.n)) (dh 1 16 v2 v7 H8 λv9 bJ=>al 0 a5 λv11=>ae 1 v11 v9 bJ λbL=>x3 a0 a1 a4 a5 bL))))
theorem XO{R:fT}(hR:nP R){K:KF}{x3:bZ}(h3:J0 K x3):J1 K (tP R K x3):=λa0 a1 a4 a5 H h=>pk hR (cc h3 .nil) h
def U6(R:fT)(K:KF)(i2:lz):bZ:=tP R K (U5 R K i2)
theorem XP{R:fT}(hR:nP R){K:KF}{i2:lz}(g2:om K i2):J1 K (U6 R K i2):=XO hR (XN hR g2)
def xN(R:fT)(K:KF)(a0:AV)(a1:Int)(a4 a5:AV)(H:AH):Prop:=R.2.2.2.2.1 a0 (.str 1 41) H λo1 H2=>cR K o1 H2 λv3=>R.1 a0 H2 λo4 H5=>cR K o4 H5 λv6=>al 1 a5 λv7=>ae 1 v7 v6 H5 λH8=>R.2.2.2.2.1 a0 (.str 3 6581861) H8 λo9 bJ=>cR K o9 bJ λv11=>aF 2 a5 bJ λv12=>onVal v12 λl13=>dV l13 2 (aN (aA bJ) 1 2 (spl l13 [.ab,.ab] 0) λv14 eM=>one v14 (ae 7 a4 (.agg [(.int 0 (.ofNat 7)),(.int 0 a1),(.int 0 (.ofNat 0)),(.str 0 0),(.int 0 (.ofNat 0)),.ab,v14]) eM λdm=>aF 7 a4 dm λv17=>K (.ret v17) dm))
theorem XQ{R:fT}(hR:nP R){K:KF}:JZ K (xN R K):=λa0 a1 a4 a5 H h=>pk hR .nil h
def U7(R:fT)(K:KF):bZ:=xN R K
theorem XR{R:fT}(hR:nP R){K:KF}:JZ K (U7 R K):=XQ hR
def B6(R:fT)(K:KF)(x4 x1:bZ)(a0:AV)(a1:Int)(a4 a5:AV)(a6:Bool)(H:AH):Prop:=bI a6 (R.2.2.2.1 a0 (.str 1 41) H λo1 H2=>cR K o1 H2 λv3=>bf v3 λz4=>bI (!z4) (al 0 a5 λv5=>ak v5 H2 λv6=>dp v6 λv7=>cI 0 v7 λz8=>bI (bj z8 (.ofNat 16)) (R.2.1 a0 (.ofNat 8) H2 λo9 bJ=>cR K o9 bJ λv11=>x4 a0 a1 a4 a5 bJ) (x4 a0 a1 a4 a5 H2)) (bI (!a6) (R.2.2.1 a0 (.str 1 44) H2 λxK dL=>cR K xK dL λv14=>bf v14 λlA=>bI lA (al 0 a5 λv16=>ak v16 dL λv17=>dp v17 λv18=>cI 0 v18 λsn=>bI (bj sn (.ofNat 16)) (R.2.1 a0 (.ofNat 8) dL λGF ia=>cR K GF ia λv22=>x4 a0 a1 a4 a5 ia) (x4 a0 a1 a4 a5 dL)) (x1 a0 a1 a4 a5 dL)) (x1 a0 a1 a4 a5 H2))) (bI (!a6) (R.2.2.1 a0 (.str 1 44) H λxI fS=>cR K xI fS λv25=>bf v25 λz26=>bI z26 (al 0 a5 λv27=>ak v27 fS λv28=>dp v28 λv29=>cI 0 v29 λz30=>bI (bj z30 (.ofNat 16)) (R.2.1 a0 (.ofNat 8) fS λo31 oC=>cR K o31 oC λv33=>x4 a0 a1 a4 a5 oC) (x4 a0 a1 a4 a5 fS)) (x1 a0 a1 a4 a5 fS)) (x1 a0 a1 a4 a5 H))
theorem XS{R:fT}(hR:nP R){K:KF}{x4 x1:bZ}(h4:J1 K x4)(h1:JZ K x1):om K (B6 R K x4 x1):=λa0 a1 a4 a5 a6 H h=>pk hR (cc h4 (cc h1 .nil)) h
def U8(R:fT)(K:KF)(i2:lz):lz:=B6 R K (U6 R K i2) (U7 R K)
theorem XT{R:fT}(hR:nP R){K:KF}{i2:lz}(g2:om K i2):om K (U8 R K i2):=XS hR (XP hR g2) (XR hR)
def rj(R:fT)(K:KF)(n:Nat):lz:=Nat.rec (motive:=λ_=>lz) (λ_ _ _ _ _ _=>False) (λ_ i=>U8 R K i) n
theorem XU{R:fT}(hR:nP R){K:KF}(n:Nat):om K (rj R K n):=Nat.rec (motive:=λn=>om K (rj R K n)) (λa0 a1 a4 a5 a6 H h=>h.elim) (λn ih=>XT hR ih) n
def J2(R:fT)(K:KF)(x2:lz)(a0:AV)(a1:Int)(H:AH):Prop:=cw H (cx gP (aA H) 49 λv1 H2=>cw H2 (gE (aA H2) [.ab,.ab] λv3 H4=>R.2.2.2.2.1 a0 (.str 1 40) H4 λo5 H6=>cR K o5 H6 λv7=>x2 a0 a1 v1 v3 true H6))
theorem XV{R:fT}(hR:nP R){K:KF}{x2:lz}(h2:om K x2)(a0:AV)(a1:Int)(H:AH)(h:J2 R K x2 a0 a1 H):dw 131 K [] (ba (di 131) [a0,(.int 0 a1)]) [] H:=pk hR (cc h2 .nil) h
def U9(R:fT)(K:KF):dX:=J2 R K (rj R K NL)
def uY(R:fT):AV→Int→AH→KF→Prop:=λa0 a1 H K=>U9 R K a0 a1 H
theorem ala(R:fT)(hR:nP R):av gP 131 (ao [.a,.i 0] (uY R)):=rk λK a0 a1 H h=>XV hR (XU hR NL) a0 a1 H h
abbrev js:Type:=(AV→AH→KF→Prop)×(AV→AV→AH→KF→Prop)×(AV→AH→KF→Prop)×(Int→Int→Int→AV→AV→AH→KF→Prop)
def aoD(R:js):List (Nat×cP):=[(23,ao [.a] R.1),(56,ao [.a,.a] R.2.1),(163,ao [.a] R.2.2.1),(164,ao [.i 0,.i 0,.i 0,.a,.a] R.2.2.2)]
abbrev uZ(R:js):Prop:=ad gP (aoD R)
abbrev J3(K:KF)(F:bC):Prop:=aM 132 K [1,1,1] 21 [2,3] [.a,.a] F
abbrev rl(K:KF)(F:aH):Prop:=aM 132 K [0,1,0,1,1] 21 [0,2,3,4] [.a,.a,.a,.i 0] F
def xO(R:js)(K:KF)(a2 a3:AV)(H:AH):Prop:=aF 7 a3 H λv1=>ae 7 a2 v1 H λH2=>aF 7 a2 H2 λv3=>K (.ret v3) H2
theorem XW{R:js}(hR:uZ R){K:KF}:J3 K (xO R K):=λa2 a3 H h=>pk hR .nil h
def Va(R:js)(K:KF):bC:=xO R K
theorem XX{R:js}(hR:uZ R){K:KF}:J3 K (Va R K):=XW hR
def B7(R:js)(K:KF)(x2:aH)(x1:bC)(a0 a2 a3:AV)(a4:Int)(H:AH):Prop:=R.2.1 a0 (.str 2 29295) H λo1 H2=>cR K o1 H2 λv3=>bf v3 λz4=>bI z4 (aF 7 a3 H2 λv5=>R.2.2.1 a0 H2 λo6 H7=>cR K o6 H7 λv8=>aF 7 a3 H7 λv9=>bT (aU v9 v5) (R.2.2.2 (.ofNat 16) (.ofNat 0) a4 v5 v8 H7 λsf dZ=>cR K sf dZ λv12=>ae 7 a3 v12 dZ λdL=>R.1 a0 dL λGq eM=>cR K Gq eM λv16=>gz v16 λl17=>cX l17 3 λv18=>cI 0 v18 λsn=>x2 a0 a2 a3 sn eM)) (x1 a2 a3 H2)
theorem XY{R:js}(hR:uZ R){K:KF}{x2:aH}{x1:bC}(h2:rl K x2)(h1:J3 K x1):rl K (B7 R K x2 x1):=λa0 a2 a3 a4 H h=>pk hR (cc h2 (cc h1 .nil)) h
def Vb(R:js)(K:KF)(i2:aH):aH:=B7 R K i2 (Va R K)
theorem XZ{R:js}(hR:uZ R){K:KF}{i2:aH}(g2:rl K i2):rl K (Vb R K i2):=XY hR g2 (XX hR)
def tQ(R:js)(K:KF)(n:Nat):aH:=Nat.rec (motive:=λ_=>aH) (λ_ _ _ _ _=>False) (λ_ i=>Vb R K i) n
theorem X0{R:js}(hR:uZ R){K:KF}(n:Nat):rl K (tQ R K n):=Nat.rec (motive:=λn=>rl K (tQ R K n)) (λa0 a2 a3 a4 H h=>h.elim) (λn ih=>XZ hR ih) n
def B9(R:js)(K:KF)(x2:aH)(a0:AV)(H:AH):Prop:=cw H (cx gP (aA H) 49 λv1 H2=>R.2.2.1 a0 H2 λo3 H4=>cR K o3 H4 λv5=>cw H4 (cx gP (aA H4) 49 λv6 H7=>ae 7 v6 v5 H7 λH8=>R.1 a0 H8 λo9 bJ=>cR K o9 bJ λv11=>gz v11 λl12=>cX l12 3 λv13=>cI 0 v13 λmn=>x2 a0 v1 v6 mn bJ))
theorem X1{R:js}(hR:uZ R){K:KF}{x2:aH}(h2:rl K x2)(a0:AV)(H:AH)(h:B9 R K x2 a0 H):dw 132 K [] (ba (di 132) [a0]) [] H:=pk hR (cc h2 .nil) h
def aoE(R:js)(K:KF):Ta:=B9 R K (tQ R K NL)
def A5(R:js):AV→AH→KF→Prop:=λa0 H K=>aoE R K a0 H
theorem alb(R:js)(hR:uZ R):av gP 132 (ao [.a] (A5 R)):=rk λK a0 H h=>X1 hR (X0 hR NL) a0 H h
abbrev gU:Type:=(AV→AH→KF→Prop)×(AV→AV→AH→KF→Prop)×(AV→AV→AH→KF→Prop)×(AV→AH→KF→Prop)×(AV→AV→AH→KF→Prop)×(AV→AH→KF→Prop)×(Int→Int→Int→AV→AV→AH→KF→Prop)×(AV→AH→KF→Prop)×(AV→AH→KF→Prop)
def aoF(R:gU):List (Nat×cP):=[(23,ao [.a] R.1),(56,ao [.a,.a] R.2.1),(94,ao [.a,.a] R.2.2.1),(97,ao [.a] R.2.2.2.1),(98,ao [.a,.a] R.2.2.2.2.1),(130,ao [.a] R.2.2.2.2.2.1),(164,ao [.i 0,.i 0,.i 0,.a,.a] R.2.2.2.2.2.2.1),(165,ao [.a] R.2.2.2.2.2.2.2.1),(166,ao [.a] R.2.2.2.2.2.2.2.2)]
abbrev qp(R:gU):Prop:=ad gP (aoF R)
abbrev J4(K:KF)(F:bP):Prop:=aM 133 K [1,1,1] 57 [0,2,3] [.a,.a,.a] F
abbrev oq(K:KF)(F:bP):Prop:=aM 133 K [0,1,1,1] 57 [0,2,3] [.a,.a,.a] F
abbrev J5(K:KF)(F:FY):Prop:=aM 133 K [1,1,0,1,0,1,0,0,0,1,1,1] 57 [0,2,3,4,5] [.a,.a,.a,.i 0,.a] F
def Ca(R:gU)(K:KF)(x2:bP)(a0 a2 a3:AV)(a4:Int)(a5:AV)(H:AH):Prop:=aF 7 a3 H λv1=>aF 7 a5 H λv2=>R.2.2.2.2.2.2.1 (.ofNat 9) (.ofNat 0) a4 v1 v2 H λo3 H4=>cR K o3 H4 λv5=>ae 7 a3 v5 H4 λH6=>x2 a0 a2 a3 H6
theorem X2{R:gU}(hR:qp R){K:KF}{x2:bP}(h2:oq K x2):J5 K (Ca R K x2):=λa0 a2 a3 a4 a5 H h=>pk hR (cc h2 .nil) h
def Vc(R:gU)(K:KF)(i2:bP):FY:=Ca R K i2
theorem X4{R:gU}(hR:qp R){K:KF}{i2:bP}(g2:oq K i2):J5 K (Vc R K i2):=X2 hR g2
def Cb(R:gU)(K:KF)(x2:bP)(x3:FY)(a0 a2 a3:AV)(H:AH):Prop:=R.1 a0 H λo1 H2=>cR K o1 H2 λv3=>gz v3 λl4=>cX l4 3 λv5=>cI 0 v5 λz6=>R.2.1 a0 (.str 1 46) H2 λo7 H8=>cR K o7 H8 λv9=>bf v9 λz10=>bI z10 (R.1 a0 H8 λkj bL=>cR K kj bL λv13=>gz v13 λl14=>cX l14 3 λv15=>cI 0 v15 λki=>cw bL (cx gP (aA bL) 49 λv17 dK=>ae 7 v17 (.agg [(.int 0 (.ofNat 5)),(.int 0 ki),(.int 0 (.ofNat 0)),(.str 0 0),(.int 0 (.ofNat 0)),.ab,.ab]) dK λib=>R.2.2.2.2.2.1 a0 ib λGF ia=>cR K GF ia λv22=>al 3 v17 λv23=>ae 1 v23 v22 ia λfS=>x3 a0 a2 a3 z6 v17 fS)) (R.2.1 a0 (.str 1 91) H8 λGG nO=>cR K GG nO λv27=>bf v27 λz28=>bI z28 (aF 7 a3 nO λv29=>R.2.2.2.1 a0 nO λPx nM=>cR K Px nM λv32=>aF 7 a3 nM λv33=>bT (aU v33 v29) (R.2.2.2.2.2.2.1 (.ofNat 9) (.ofNat 0) z6 v29 v32 nM λo34 Gn=>cR K o34 Gn λv36=>ae 7 a3 v36 Gn λH37=>R.2.2.2.2.1 a0 (.str 1 93) H37 λo38 H39=>cR K o38 H39 λv40=>x2 a0 a2 a3 H39)) (R.2.1 a0 (.str 1 40) nO λo41 nN=>cR K o41 nN λv43=>bf v43 λz44=>bI z44 (aF 7 a3 nN λv45=>bG nN (onVal v45 λl46=>dV l46 7 (aN (aA nN) 1 7 (spl l46 [(.int 0 (.ofNat 0)),(.int 0 (.ofNat 0)),(.int 0 (.ofNat 0)),(.str 0 0),(.int 0 (.ofNat 0)),.ab,.ab] 0) λv47 uU=>bT (Nat.beq uU.n (Nat.succ nN.n)) (R.2.2.2.2.2.2.2.2 a0 uU λo49 Gr=>cR K o49 Gr λv51=>aF 7 a3 Gr λv52=>bT (aU v52 v45) (dh 7 96 v47 v51 Gr λv53 Gs=>one v53 (ae 7 a3 (.agg [(.int 0 (.ofNat 10)),(.int 0 z6),(.int 0 (.ofNat 0)),(.str 0 0),(.int 0 (.ofNat 0)),v53,.ab]) Gs λH55=>x2 a0 a2 a3 H55)))))) (aF 7 a3 nN λv56=>ae 7 a2 v56 nN λH57=>aF 7 a2 H57 λv58=>K (.ret v58) H57)))
theorem X5{R:gU}(hR:qp R){K:KF}{x2:bP}{x3:FY}(h2:oq K x2)(h3:J5 K x3):oq K (Cb R K x2 x3):=λa0 a2 a3 H h=>pk hR (cc h2 (cc h3 .nil)) h
def Vd(R:gU)(K:KF)(i2:bP):bP:=Cb R K i2 (Vc R K i2)
theorem X6{R:gU}(hR:qp R){K:KF}{i2:bP}(g2:oq K i2):oq K (Vd R K i2):=X5 hR g2 (X4 hR g2)
def rm(R:gU)(K:KF)(n:Nat):bP:=Nat.rec (motive:=λ_=>bP) (λ_ _ _ _=>False) (λ_ i=>Vd R K i) n
theorem X7{R:gU}(hR:qp R){K:KF}(n:Nat):oq K (rm R K n):=Nat.rec (motive:=λn=>oq K (rm R K n)) (λa0 a2 a3 H h=>h.elim) (λn ih=>X6 hR ih) n
def Cc(R:gU)(K:KF)(x2:bP)(a0 a2 a3:AV)(H:AH):Prop:=x2 a0 a2 a3 H
theorem X8{R:gU}(hR:qp R){K:KF}{x2:bP}(h2:oq K x2):J4 K (Cc R K x2):=λa0 a2 a3 H h=>pk hR (cc h2 .nil) h
def J6(R:gU)(K:KF):bP:=Cc R K (rm R K NL)
theorem X9{R:gU}(hR:qp R){K:KF}:J4 K (J6 R K):=X8 hR (X7 hR NL)
def J7(R:gU)(K:KF)(x1:bP)(a0:AV)(H:AH):Prop:=cw H (cx gP (aA H) 49 λv1 H2=>R.1 a0 H2 λo3 H4=>cR K o3 H4 λv5=>gz v5 λl6=>cX l6 0 λv7=>cI 0 v7 λz8=>bI (!(bj z8 (.ofNat 2))) (R.2.2.1 a0 (.str 1 40) H4 λo9 bJ=>cR K o9 bJ λv11=>bf v11 λz12=>bI (!z12) (R.2.2.2.2.2.2.2.1 a0 bJ λmP cN=>cR K mP cN λv15=>ae 7 v1 v15 cN λdm=>aF 7 v1 dm λv17=>K (.ret v17) dm) (R.2.2.2.2.2.2.2.1 a0 bJ λGD ib=>cR K GD ib λv20=>cw ib (cx gP (aA ib) 49 λv21 gT=>ae 7 v21 v20 gT λnz=>x1 a0 v1 v21 nz))) (R.2.2.2.2.2.2.2.1 a0 H4 λo24 kZ=>cR K o24 kZ λv26=>cw kZ (cx gP (aA kZ) 49 λv27 wu=>ae 7 v27 v26 wu λuV=>x1 a0 v1 v27 uV)))
theorem Ya{R:gU}(hR:qp R){K:KF}{x1:bP}(h1:J4 K x1)(a0:AV)(H:AH)(h:J7 R K x1 a0 H):dw 133 K [] (ba (di 133) [a0]) [] H:=pk hR (cc h1 .nil) h
def Ve(R:gU)(K:KF):Ta:=J7 R K (J6 R K)
def u4(R:gU):AV→AH→KF→Prop:=λa0 H K=>Ve R K a0 H
theorem alc(R:gU)(hR:qp R):av gP 133 (ao [.a] (u4 R)):=rk λK a0 H h=>Ya hR (X9 hR) a0 H h
abbrev jt:Type:=(AV→AH→KF→Prop)×(AV→AV→AH→KF→Prop)×(Int→Int→Int→AV→AV→AH→KF→Prop)×(AV→AH→KF→Prop)
def aoG(R:jt):List (Nat×cP):=[(23,ao [.a] R.1),(56,ao [.a,.a] R.2.1),(164,ao [.i 0,.i 0,.i 0,.a,.a] R.2.2.1),(184,ao [.a] R.2.2.2)]
abbrev u7(R:jt):Prop:=ad gP (aoG R)
abbrev J8(K:KF)(F:bC):Prop:=aM 163 K [1,1,1] 21 [2,3] [.a,.a] F
abbrev rn(K:KF)(F:aH):Prop:=aM 163 K [0,1,0,1,1] 21 [0,2,3,4] [.a,.a,.a,.i 0] F
def xP(R:jt)(K:KF)(a2 a3:AV)(H:AH):Prop:=aF 7 a3 H λv1=>ae 7 a2 v1 H λH2=>aF 7 a2 H2 λv3=>K (.ret v3) H2
theorem Yb{R:jt}(hR:u7 R){K:KF}:J8 K (xP R K):=λa2 a3 H h=>pk hR .nil h
def Vf(R:jt)(K:KF):bC:=xP R K
theorem Yc{R:jt}(hR:u7 R){K:KF}:J8 K (Vf R K):=Yb hR
def Cd(R:jt)(K:KF)(x2:aH)(x1:bC)(a0 a2 a3:AV)(a4:Int)(H:AH):Prop:=R.2.1 a0 (.str 3 6581857) H λo1 H2=>cR K o1 H2 λv3=>bf v3 λz4=>bI z4 (aF 7 a3 H2 λv5=>R.2.2.2 a0 H2 λo6 H7=>cR K o6 H7 λv8=>aF 7 a3 H7 λv9=>bT (aU v9 v5) (R.2.2.1 (.ofNat 15) (.ofNat 0) a4 v5 v8 H7 λsf dZ=>cR K sf dZ λv12=>ae 7 a3 v12 dZ λdL=>R.1 a0 dL λGq eM=>cR K Gq eM λv16=>gz v16 λl17=>cX l17 3 λv18=>cI 0 v18 λsn=>x2 a0 a2 a3 sn eM)) (x1 a2 a3 H2)
theorem Yd{R:jt}(hR:u7 R){K:KF}{x2:aH}{x1:bC}(h2:rn K x2)(h1:J8 K x1):rn K (Cd R K x2 x1):=λa0 a2 a3 a4 H h=>pk hR (cc h2 (cc h1 .nil)) h
def Vg(R:jt)(K:KF)(i2:aH):aH:=Cd R K i2 (Vf R K)
theorem Ye{R:jt}(hR:u7 R){K:KF}{i2:aH}(g2:rn K i2):rn K (Vg R K i2):=Yd hR g2 (Yc hR)
def tR(R:jt)(K:KF)(n:Nat):aH:=Nat.rec (motive:=λ_=>aH) (λ_ _ _ _ _=>False) (λ_ i=>Vg R K i) n
theorem Yf{R:jt}(hR:u7 R){K:KF}(n:Nat):rn K (tR R K n):=Nat.rec (motive:=λn=>rn K (tR R K n)) (λa0 a2 a3 a4 H h=>h.elim) (λn ih=>Ye hR ih) n
def Ce(R:jt)(K:KF)(x2:aH)(a0:AV)(H:AH):Prop:=cw H (cx gP (aA H) 49 λv1 H2=>R.2.2.2 a0 H2 λo3 H4=>cR K o3 H4 λv5=>cw H4 (cx gP (aA H4) 49 λv6 H7=>ae 7 v6 v5 H7 λH8=>R.1 a0 H8 λo9 bJ=>cR K o9 bJ λv11=>gz v11 λl12=>cX l12 3 λv13=>cI 0 v13 λmn=>x2 a0 v1 v6 mn bJ))
theorem Yg{R:jt}(hR:u7 R){K:KF}{x2:aH}(h2:rn K x2)(a0:AV)(H:AH)(h:Ce R K x2 a0 H):dw 163 K [] (ba (di 163) [a0]) [] H:=pk hR (cc h2 .nil) h
def aoH(R:jt)(K:KF):Ta:=Ce R K (tR R K NL)
def A6(R:jt):AV→AH→KF→Prop:=λa0 H K=>aoH R K a0 H
theorem ald(R:jt)(hR:u7 R):av gP 163 (ao [.a] (A6 R)):=rk λK a0 H h=>Yg hR (Yf hR NL) a0 H h
abbrev kl:Type:=(AV→AH→KF→Prop)×(AV→Int→AH→KF→Prop)×(AV→AV→AH→KF→Prop)×(AV→AV→AH→KF→Prop)×(AV→AH→KF→Prop)×(AV→AV→AH→KF→Prop)×(AV→Int→AH→KF→Prop)×(AV→Int→AH→KF→Prop)
def aoI(R:kl):List (Nat×cP):=[(23,ao [.a] R.1),(25,ao [.a,.i 0] R.2.1),(56,ao [.a,.a] R.2.2.1),(94,ao [.a,.a] R.2.2.2.1),(97,ao [.a] R.2.2.2.2.1),(98,ao [.a,.a] R.2.2.2.2.2.1),(131,ao [.a,.i 0] R.2.2.2.2.2.2.1),(185,ao [.a,.i 0] R.2.2.2.2.2.2.2)]
abbrev xQ(R:kl):Prop:=ad gP (aoI R)
abbrev J9(K:KF)(F:bP):Prop:=aM 165 K [1,1,1,1] 78 [0,2,4] [.a,.a,.a] F
abbrev Ka(K:KF)(F:bP):Prop:=aM 165 K [1,0,1,1,1,1,1,1,1,1,1,1,1,1,1,1,1,1,1,0,0,1,1,1] 78 [0,2,4] [.a,.a,.a] F
def Kb(R:kl)(K:KF)(a0 a2 a4:AV)(H:AH):Prop:=R.2.2.2.2.2.1 a0 (.str 1 41) H λo1 H2=>cR K o1 H2 λv3=>aF 7 a4 H2 λv4=>ae 7 a2 v4 H2 λH5=>aF 7 a2 H5 λv6=>K (.ret v6) H5
theorem Yh{R:kl}(hR:xQ R){K:KF}:Ka K (Kb R K):=λa0 a2 a4 H h=>pk hR .nil h
def Kd(R:kl)(K:KF):bP:=Kb R K
theorem Yi{R:kl}(hR:xQ R){K:KF}:Ka K (Kd R K):=Yh hR
def Ke(R:kl)(K:KF)(a0 a2 a4:AV)(H:AH):Prop:=aP a0 (al 1 a0 λv1=>ak v1 H λv2=>cI 0 v2 λz3=>aJ 0 (Int.add z3 (.ofNat 1)) λz4=>aP a0 (al 1 a0 λv5=>ae 1 v5 (.int 0 z4) H λH6=>aF 7 a4 H6 λv7=>ae 7 a2 v7 H6 λH8=>aF 7 a2 H8 λv9=>K (.ret v9) H8))
theorem Yj{R:kl}(hR:xQ R){K:KF}:J9 K (Ke R K):=λa0 a2 a4 H h=>pk hR .nil h
def xR(R:kl)(K:KF):bP:=Ke R K
theorem Yk{R:kl}(hR:xQ R){K:KF}:J9 K (xR R K):=Yj hR
def Kf(R:kl)(K:KF)(x2 x1:bP)(a0:AV)(H:AH):Prop:=cw H (cx gP (aA H) 49 λv1 H2=>R.1 a0 H2 λo3 H4=>cR K o3 H4 λv5=>cw H4 (gE (aA H4) [(.int 0 (.ofNat 0)),(.str 0 0),(.int 0 (.ofNat 0)),(.int 0 (.ofNat 0))] λv6 H7=>ae 4 v6 v5 H7 λH8=>al 3 v6 λv9=>ak v9 H8 λv10=>cI 0 v10 λz11=>cw H8 (cx gP (aA H8) 49 λv12 dL=>ae 7 v12 (.agg [(.int 0 (.ofNat 0)),(.int 0 z11),(.int 0 (.ofNat 0)),(.str 0 0),(.int 0 (.ofNat 0)),.ab,.ab]) dL λcN=>al 0 v6 λv15=>ak v15 cN λv16=>cI 0 v16 λz17=>bI (bj z17 (.ofNat 3)) (al 2 v6 λv18=>ak v18 cN λv19=>cI 0 v19 λz20=>al 0 v12 λv21=>ae 1 v21 (.int 0 (.ofNat 4)) cN λgT=>ak v18 gT λv23=>cI 0 v23 λz24=>bT (aU (.int 0 z24) (.int 0 z20)) (al 2 v12 λv25=>ae 1 v25 (.int 0 z20) gT λnO=>x1 a0 v1 v12 nO)) (al 0 v6 λv27=>ak v27 cN λv28=>cI 0 v28 λz29=>bI (bj z29 (.ofNat 4)) (al 1 v6 λv30=>ak v30 cN λv31=>al 0 v12 λv32=>ae 1 v32 (.int 0 (.ofNat 5)) cN λGH=>ak v30 GH λv34=>bT (aU v34 v31) (al 3 v12 λv35=>ae 1 v35 v31 GH λAm=>x1 a0 v1 v12 Am)) (al 0 v6 λv37=>ak v37 cN λv38=>cI 0 v38 λz39=>bI (bj z39 (.ofNat 2)) (al 1 v6 λv40=>ak v40 cN λv41=>al 0 v12 λv42=>ae 1 v42 (.int 0 (.ofNat 6)) cN λAl=>ak v40 Al λv44=>bT (aU v44 v41) (al 3 v12 λv45=>ae 1 v45 v41 Al λH46=>x1 a0 v1 v12 H46)) (R.2.2.2.1 a0 (.str 3 7104878) cN λo47 uU=>cR K o47 uU λv49=>bf v49 λz50=>bI z50 (al 0 v12 λv51=>ae 1 v51 (.int 0 (.ofNat 1)) uU λNh=>x1 a0 v1 v12 Nh) (R.2.2.2.1 a0 (.str 4 1702195828) uU λo53 Gs=>cR K o53 Gs λv55=>bf v55 λz56=>bI z56 (al 0 v12 λv57=>ae 1 v57 (.int 0 (.ofNat 2)) Gs λU3=>x1 a0 v1 v12 U3) (R.2.2.2.1 a0 (.str 5 435728179558) Gs λo59 H60=>cR K o59 H60 λv61=>bf v61 λz62=>bI z62 (al 0 v12 λv63=>ae 1 v63 (.int 0 (.ofNat 3)) H60 λH64=>x1 a0 v1 v12 H64) (R.2.2.1 a0 (.str 8 7957695015192261990) H60 λo65 En=>cR K o65 En λv67=>bf v67 λz68=>bI z68 (al 3 v6 λv69=>ak v69 En λv70=>cI 0 v70 λz71=>R.2.2.2.2.2.2.1 a0 z71 En λo72 Nl=>cR K o72 Nl λv74=>ae 7 v1 v74 Nl λH75=>aF 7 v1 H75 λv76=>K (.ret v76) H75) (R.2.2.1 a0 (.str 1 123) En λo77 Gt=>cR K o77 Gt λv79=>bf v79 λz80=>bI z80 (al 3 v6 λv81=>ak v81 Gt λv82=>cI 0 v82 λz83=>R.2.2.2.2.2.2.2 a0 z83 Gt λo84 H85=>cR K o84 H85 λv86=>ae 7 v1 v86 H85 λVh=>aF 7 v1 Vh λv88=>K (.ret v88) Vh) (R.2.2.1 a0 (.str 1 40) Gt λo89 H90=>cR K o89 H90 λv91=>bf v91 λz92=>bI z92 (R.2.2.2.2.1 a0 H90 λo93 H94=>cR K o93 H94 λv95=>ae 7 v12 v95 H94 λH96=>x2 a0 v1 v12 H96) (R.2.1 a0 (.ofNat 14) H90 λo97 H98=>cR K o97 H98 λv99=>x1 a0 v1 v12 H98))))))))))))
theorem Yl{R:kl}(hR:xQ R){K:KF}{x2 x1:bP}(h2:Ka K x2)(h1:J9 K x1)(a0:AV)(H:AH)(h:Kf R K x2 x1 a0 H):dw 165 K [] (ba (di 165) [a0]) [] H:=pk hR (cc h2 (cc h1 .nil)) h
def Vi(R:kl)(K:KF):Ta:=Kf R K (Kd R K) (xR R K)
def va(R:kl):AV→AH→KF→Prop:=λa0 H K=>Vi R K a0 H
theorem ale(R:kl)(hR:xQ R):av gP 165 (ao [.a] (va R)):=rk λK a0 H h=>Yl hR (Yi hR) (Yk hR) a0 H h
abbrev fU:Type:=(AV→Int→AH→KF→Prop)×(AV→AV→AH→KF→Prop)×(AV→AV→AH→KF→Prop)×(AV→AH→KF→Prop)×(AV→AV→AH→KF→Prop)
def aoJ(R:fU):List (Nat×cP):=[(25,ao [.a,.i 0] R.1),(56,ao [.a,.a] R.2.1),(94,ao [.a,.a] R.2.2.1),(97,ao [.a] R.2.2.2.1),(98,ao [.a,.a] R.2.2.2.2)]
abbrev nQ(R:fU):Prop:=ad gP (aoJ R)
abbrev Kg(K:KF)(F:bC):Prop:=aM 166 K [1,1,1] 32 [0,3] [.a,.a] F
abbrev ou(K:KF)(F:qm):Prop:=aM 166 K [0,1,0,1,1] 32 [0,3,4] [.a,.a,.b] F
abbrev Kh(K:KF)(F:bC):Prop:=aM 166 K [1,1,0,0,1,0,1,1] 32 [0,3] [.a,.a] F
abbrev Ki(K:KF)(F:bC):Prop:=aM 166 K [1,0,0,1,0,0,1,0,1,1] 32 [0,3] [.a,.a] F
def tT(R:fU)(K:KF)(x2:qm)(a0 a3:AV)(H:AH):Prop:=x2 a0 a3 false H
theorem Ym{R:fU}(hR:nQ R){K:KF}{x2:qm}(h2:ou K x2):Kh K (tT R K x2):=λa0 a3 H h=>pk hR (cc h2 .nil) h
def Vj(R:fU)(K:KF)(i2:qm):bC:=tT R K i2
theorem Yn{R:fU}(hR:nQ R){K:KF}{i2:qm}(g2:ou K i2):Kh K (Vj R K i2):=Ym hR g2
def tU(R:fU)(K:KF)(x3:bC)(a0 a3:AV)(H:AH):Prop:=R.2.2.2.1 a0 H λo1 H2=>cR K o1 H2 λv3=>onVal v3 λl4=>dV l4 7 (aN (aA H2) 1 7 (spl l4 [(.int 0 (.ofNat 0)),(.int 0 (.ofNat 0)),(.int 0 (.ofNat 0)),(.str 0 0),(.int 0 (.ofNat 0)),.ab,.ab] 0) λv5 H6=>dh 7 96 a3 v5 H6 λv7 H8=>x3 a0 v7 H8)
theorem Yo{R:fU}(hR:nQ R){K:KF}{x3:bC}(h3:Kh K x3):Ki K (tU R K x3):=λa0 a3 H h=>pk hR (cc h3 .nil) h
def Vk(R:fU)(K:KF)(i2:qm):bC:=tU R K (Vj R K i2)
theorem Yp{R:fU}(hR:nQ R){K:KF}{i2:qm}(g2:ou K i2):Ki K (Vk R K i2):=Yo hR (Yn hR g2)
def xS(R:fU)(K:KF)(a0 a3:AV)(H:AH):Prop:=R.2.2.2.2 a0 (.str 1 41) H λo1 H2=>cR K o1 H2 λv3=>K (.ret a3) H2
theorem Yq{R:fU}(hR:nQ R){K:KF}:Kg K (xS R K):=λa0 a3 H h=>pk hR .nil h
def Vl(R:fU)(K:KF):bC:=xS R K
theorem Yr{R:fU}(hR:nQ R){K:KF}:Kg K (Vl R K):=Yq hR
def Cf(R:fU)(K:KF)(x4 x1:bC)(a0 a3:AV)(a4:Bool)(H:AH):Prop:=bI a4 (R.2.2.1 a0 (.str 1 41) H λo1 H2=>cR K o1 H2 λv3=>bf v3 λz4=>bI (!z4) (dp a3 λv5=>cI 0 v5 λz6=>bI (bj z6 (.ofNat 16)) (R.1 a0 (.ofNat 8) H2 λo7 H8=>cR K o7 H8 λv9=>x4 a0 a3 H8) (x4 a0 a3 H2)) (bI (!a4) (R.2.1 a0 (.str 1 44) H2 λsf dZ=>cR K sf dZ λv12=>bf v12 λz13=>bI z13 (dp a3 λv14=>cI 0 v14 λlA=>bI (bj lA (.ofNat 16)) (R.1 a0 (.ofNat 8) dZ λo16 gx=>cR K o16 gx λv18=>x4 a0 a3 gx) (x4 a0 a3 dZ)) (x1 a0 a3 dZ)) (x1 a0 a3 H2))) (bI (!a4) (R.2.1 a0 (.str 1 44) H λxL fD=>cR K xL fD λv21=>bf v21 λz22=>bI z22 (dp a3 λv23=>cI 0 v23 λz24=>bI (bj z24 (.ofNat 16)) (R.1 a0 (.ofNat 8) fD λGG nO=>cR K GG nO λv27=>x4 a0 a3 nO) (x4 a0 a3 fD)) (x1 a0 a3 fD)) (x1 a0 a3 H))
theorem Ys{R:fU}(hR:nQ R){K:KF}{x4 x1:bC}(h4:Ki K x4)(h1:Kg K x1):ou K (Cf R K x4 x1):=λa0 a3 a4 H h=>pk hR (cc h4 (cc h1 .nil)) h
def Vm(R:fU)(K:KF)(i2:qm):qm:=Cf R K (Vk R K i2) (Vl R K)
theorem Yt{R:fU}(hR:nQ R){K:KF}{i2:qm}(g2:ou K i2):ou K (Vm R K i2):=Ys hR (Yp hR g2) (Yr hR)
def rp(R:fU)(K:KF)(n:Nat):qm:=Nat.rec (motive:=λ_=>qm) (λ_ _ _ _=>False) (λ_ i=>Vm R K i) n
theorem Yu{R:fU}(hR:nQ R){K:KF}(n:Nat):ou K (rp R K n):=Nat.rec (motive:=λn=>ou K (rp R K n)) (λa0 a3 a4 H h=>h.elim) (λn ih=>Yt hR ih) n
def Kj(R:fU)(K:KF)(x2:qm)(a0:AV)(H:AH):Prop:=x2 a0 .ab true H
theorem Yv{R:fU}(hR:nQ R){K:KF}{x2:qm}(h2:ou K x2)(a0:AV)(H:AH)(h:Kj R K x2 a0 H):dw 166 K [] (ba (di 166) [a0]) [] H:=pk hR (cc h2 .nil) h
def Vn(R:fU)(K:KF):Ta:=Kj R K (rp R K NL)
def vc(R:fU):AV→AH→KF→Prop:=λa0 H K=>Vn R K a0 H
theorem alf(R:fU)(hR:nQ R):av gP 166 (ao [.a] (vc R)):=rk λK a0 H h=>Yv hR (Yu hR NL) a0 H h
abbrev lB:Type:=(AV→AH→KF→Prop)×(Int→Int→Int→AV→AV→AH→KF→Prop)×(AV→AH→KF→Prop)×(AV→Int→AV→AH→KF→Prop)
def aoK(R:lB):List (Nat×cP):=[(23,ao [.a] R.1),(164,ao [.i 0,.i 0,.i 0,.a,.a] R.2.1),(192,ao [.a] R.2.2.1),(193,ao [.a,.i 0,.a] R.2.2.2)]
abbrev A7(R:lB):Prop:=ad gP (aoK R)
abbrev rq(K:KF)(F:bP):Prop:=aM 184 K [0,1,1] 23 [0,2,3] [.a,.a,.a] F
def Cg(R:lB)(K:KF)(x1:bP)(a0 a2 a3:AV)(H:AH):Prop:=R.1 a0 H λo1 H2=>cR K o1 H2 λv3=>gz v3 λl4=>cX l4 3 λv5=>cI 0 v5 λz6=>aN (aA H2) 6 1 [(.str 2 15677),(.str 2 15742),(.str 1 60),(.str 2 15676),(.str 1 62),(.str 2 15678)] λv7 H8=>R.2.2.2 a0 (.ofNat 7) v7 H8 λo9 bJ=>cR K o9 bJ λv11=>cI 0 v11 λz12=>bI (bj z12 (.ofNat 0)) (aF 7 a3 bJ λv13=>ae 7 a2 v13 bJ λcN=>aF 7 a2 cN λv15=>K (.ret v15) cN) (aF 7 a3 bJ λv16=>R.2.2.1 a0 bJ λqn dK=>cR K qn dK λv19=>aF 7 a3 dK λv20=>bT (aU v20 v16) (R.2.1 (.ofNat 14) z12 z6 v16 v19 dK λxT gT=>cR K xT gT λv23=>ae 7 a3 v23 gT λfS=>x1 a0 a2 a3 fS))
theorem Yw{R:lB}(hR:A7 R){K:KF}{x1:bP}(h1:rq K x1):rq K (Cg R K x1):=λa0 a2 a3 H h=>pk hR (cc h1 .nil) h
def Vo(R:lB)(K:KF)(i1:bP):bP:=Cg R K i1
theorem Yx{R:lB}(hR:A7 R){K:KF}{i1:bP}(g1:rq K i1):rq K (Vo R K i1):=Yw hR g1
def tV(R:lB)(K:KF)(n:Nat):bP:=Nat.rec (motive:=λ_=>bP) (λ_ _ _ _=>False) (λ_ i=>Vo R K i) n
theorem Yy{R:lB}(hR:A7 R){K:KF}(n:Nat):rq K (tV R K n):=Nat.rec (motive:=λn=>rq K (tV R K n)) (λa0 a2 a3 H h=>h.elim) (λn ih=>Yx hR ih) n
def Ch(R:lB)(K:KF)(x1:bP)(a0:AV)(H:AH):Prop:=cw H (cx gP (aA H) 49 λv1 H2=>R.2.2.1 a0 H2 λo3 H4=>cR K o3 H4 λv5=>cw H4 (cx gP (aA H4) 49 λv6 H7=>ae 7 v6 v5 H7 λH8=>x1 a0 v1 v6 H8))
theorem Yz{R:lB}(hR:A7 R){K:KF}{x1:bP}(h1:rq K x1)(a0:AV)(H:AH)(h:Ch R K x1 a0 H):dw 184 K [] (ba (di 184) [a0]) [] H:=pk hR (cc h1 .nil) h
def aoL(R:lB)(K:KF):Ta:=Ch R K (tV R K NL)
def A8(R:lB):AV→AH→KF→Prop:=λa0 H K=>aoL R K a0 H
theorem alg(R:lB)(hR:A7 R):av gP 184 (ao [.a] (A8 R)):=rk λK a0 H h=>Yz hR (Yy hR NL) a0 H h
abbrev gV:Type:=(AV→Int→AH→KF→Prop)×(AV→AV→AH→KF→Prop)×(AV→AV→AH→KF→Prop)×(AV→AV→AH→KF→Prop)×(AV→AV→AH→KF→Prop)
def aoM(R:gV):List (Nat×cP):=[(25,ao [.a,.i 0] R.1),(56,ao [.a,.a] R.2.1),(94,ao [.a,.a] R.2.2.1),(98,ao [.a,.a] R.2.2.2.1),(194,ao [.a,.a] R.2.2.2.2)]
abbrev qq(R:gV):Prop:=ad gP (aoM R)
abbrev Ci(K:KF)(F:bP):Prop:=aM 185 K [1,1,1,1] 35 [0,4,5] [.a,.a,.a] F
abbrev pO(K:KF)(F:jW):Prop:=aM 185 K [0,0,1,1,1] 35 [0,4,5,6] [.a,.a,.a,.a] F
abbrev Kk(K:KF)(F:jW):Prop:=aM 185 K [1,0,1,0,0,0,1,1,1] 35 [0,4,5,6] [.a,.a,.a,.a] F
def tW(R:gV)(K:KF)(a0 a4 a5:AV)(H:AH):Prop:=R.2.2.2.1 a0 (.str 1 125) H λo1 H2=>cR K o1 H2 λv3=>aF 7 a5 H2 λv4=>ae 7 a4 v4 H2 λH5=>aF 7 a4 H5 λv6=>K (.ret v6) H5
theorem YA{R:gV}(hR:qq R){K:KF}:Ci K (tW R K):=λa0 a4 a5 H h=>pk hR .nil h
def Kl(R:gV)(K:KF):bP:=tW R K
theorem GI{R:gV}(hR:qq R){K:KF}:Ci K (Kl R K):=YA hR
def Cj(R:gV)(K:KF)(x2:jW)(x1:bP)(a0 a4 a5 a6:AV)(H:AH):Prop:=al 5 a5 λv1=>ak v1 H λv2=>R.2.2.2.2 a0 a6 H λo3 H4=>cR K o3 H4 λv5=>ak v1 H4 λv6=>bT (aU v6 v2) (dh 7 96 v2 v5 H4 λv7 H8=>al 5 a5 λv9=>ae 1 v9 v7 H8 λbJ=>R.2.1 a0 (.str 1 44) bJ λkj bL=>cR K kj bL λv13=>bf v13 λmn=>bI (!mn) (R.2.1 a0 (.str 1 59) bL λvd dm=>cR K vd dm λv17=>bf v17 λA9=>bI (!A9) (x1 a0 a4 a5 dm) (x2 a0 a4 a5 a6 dm)) (x2 a0 a4 a5 a6 bL))
theorem YB{R:gV}(hR:qq R){K:KF}{x2:jW}{x1:bP}(h2:pO K x2)(h1:Ci K x1):Kk K (Cj R K x2 x1):=λa0 a4 a5 a6 H h=>pk hR (cc h2 (cc h1 .nil)) h
def Vp(R:gV)(K:KF)(i2:jW):jW:=Cj R K i2 (Kl R K)
theorem YC{R:gV}(hR:qq R){K:KF}{i2:jW}(g2:pO K i2):Kk K (Vp R K i2):=YB hR g2 (GI hR)
def Ck(R:gV)(K:KF)(x3:jW)(x1:bP)(a0 a4 a5 a6:AV)(H:AH):Prop:=R.2.2.1 a0 (.str 1 125) H λo1 H2=>cR K o1 H2 λv3=>bf v3 λz4=>bI (!z4) (al 5 a5 λv5=>ak v5 H2 λv6=>dp v6 λv7=>cI 0 v7 λz8=>bI (bj z8 (.ofNat 128)) (R.1 a0 (.ofNat 8) H2 λo9 bJ=>cR K o9 bJ λv11=>x3 a0 a4 a5 a6 bJ) (x3 a0 a4 a5 a6 H2)) (x1 a0 a4 a5 H2)
theorem YD{R:gV}(hR:qq R){K:KF}{x3:jW}{x1:bP}(h3:Kk K x3)(h1:Ci K x1):pO K (Ck R K x3 x1):=λa0 a4 a5 a6 H h=>pk hR (cc h3 (cc h1 .nil)) h
def Vq(R:gV)(K:KF)(i2:jW):jW:=Ck R K (Vp R K i2) (Kl R K)
theorem YE{R:gV}(hR:qq R){K:KF}{i2:jW}(g2:pO K i2):pO K (Vq R K i2):=YD hR (YC hR g2) (GI hR)
def tX(R:gV)(K:KF)(n:Nat):jW:=Nat.rec (motive:=λ_=>jW) (λ_ _ _ _ _=>False) (λ_ i=>Vq R K i) n
theorem YF{R:gV}(hR:qq R){K:KF}(n:Nat):pO K (tX R K n):=Nat.rec (motive:=λn=>pO K (tX R K n)) (λa0 a4 a5 a6 H h=>h.elim) (λn ih=>YE hR ih) n
def Km(R:gV)(K:KF)(x2:jW)(a0:AV)(a1:Int)(H:AH):Prop:=cw H (cx gP (aA H) 49 λv1 H2=>cw H2 (cx gP (aA H2) 49 λv3 H4=>ae 7 v3 (.agg [(.int 0 (.ofNat 8)),(.int 0 a1),(.int 0 (.ofNat 0)),(.str 0 0),(.int 0 (.ofNat 0)),.ab,.ab]) H4 λH5=>cw H5 (gE (aA H5) [(.int 0 (.ofNat 0))] λv6 H7=>ae 1 v6 (.int 0 (.ofNat 0)) H7 λH8=>x2 a0 v1 v3 v6 H8)))
theorem YG{R:gV}(hR:qq R){K:KF}{x2:jW}(h2:pO K x2)(a0:AV)(a1:Int)(H:AH)(h:Km R K x2 a0 a1 H):dw 185 K [] (ba (di 185) [a0,(.int 0 a1)]) [] H:=pk hR (cc h2 .nil) h
def Vr(R:gV)(K:KF):dX:=Km R K (tX R K NL)
def ve(R:gV):AV→Int→AH→KF→Prop:=λa0 a1 H K=>Vr R K a0 a1 H
theorem alh(R:gV)(hR:qq R):av gP 185 (ao [.a,.i 0] (ve R)):=rk λK a0 a1 H h=>YG hR (YF hR NL) a0 a1 H h
abbrev mS:Type:=(AV→AH→KF→Prop)×(AV→AH→KF→Prop)×(AV→AV→AH→KF→Prop)×(Int→Int→Int→AV→AV→AH→KF→Prop)×(AV→AH→KF→Prop)×(AV→AH→KF→Prop)
def aoN(R:mS):List (Nat×cP):=[(23,ao [.a] R.1),(53,ao [.a] R.2.1),(56,ao [.a,.a] R.2.2.1),(164,ao [.i 0,.i 0,.i 0,.a,.a] R.2.2.2.1),(192,ao [.a] R.2.2.2.2.1),(199,ao [.a] R.2.2.2.2.2)]
abbrev GJ(R:mS):Prop:=ad gP (aoN R)
abbrev Kn(K:KF)(F:bP):Prop:=aM 192 K [1,1,1,1,1,1] 29 [0,2,3] [.a,.a,.a] F
def xU(R:mS)(K:KF)(a0 a2 a3:AV)(H:AH):Prop:=aP a0 (al 2 a0 λv1=>ak v1 H λv2=>cI 0 v2 λz3=>aJ 0 (Int.sub z3 (.ofNat 1)) λz4=>aP a0 (al 2 a0 λv5=>ae 1 v5 (.int 0 z4) H λH6=>aF 7 a3 H6 λv7=>ae 7 a2 v7 H6 λH8=>aF 7 a2 H8 λv9=>K (.ret v9) H8))
theorem YH{R:mS}(hR:GJ R){K:KF}:Kn K (xU R K):=λa0 a2 a3 H h=>pk hR .nil h
def Vs(R:mS)(K:KF):bP:=xU R K
theorem YI{R:mS}(hR:GJ R){K:KF}:Kn K (Vs R K):=YH hR
def Cl(R:mS)(K:KF)(x1:bP)(a0:AV)(H:AH):Prop:=cw H (cx gP (aA H) 49 λv1 H2=>R.2.2.2.2.2 a0 H2 λo3 H4=>cR K o3 H4 λv5=>cw H4 (cx gP (aA H4) 49 λv6 H7=>ae 7 v6 v5 H7 λH8=>R.1 a0 H8 λo9 bJ=>cR K o9 bJ λv11=>gz v11 λl12=>cX l12 3 λv13=>cI 0 v13 λmn=>R.2.2.1 a0 (.str 2 11822) bJ λvd dm=>cR K vd dm λv17=>bf v17 λA9=>bI (!A9) (aF 7 v6 dm λv19=>ae 7 v1 v19 dm λfD=>aF 7 v1 fD λv21=>K (.ret v21) fD) (R.2.1 a0 dm λo22 nz=>cR K o22 nz λv24=>aF 7 v6 nz λv25=>R.2.2.2.2.1 a0 nz λxJ kB=>cR K xJ kB λv28=>aF 7 v6 kB λv29=>bT (aU v29 v25) (R.2.2.2.1 (.ofNat 14) (.ofNat 6) mn v25 v28 kB λPx nM=>cR K Px nM λv32=>ae 7 v6 v32 nM λGH=>x1 a0 v1 v6 GH))))
theorem YJ{R:mS}(hR:GJ R){K:KF}{x1:bP}(h1:Kn K x1)(a0:AV)(H:AH)(h:Cl R K x1 a0 H):dw 192 K [] (ba (di 192) [a0]) [] H:=pk hR (cc h1 .nil) h
def aoO(R:mS)(K:KF):Ta:=Cl R K (Vs R K)
def Ba(R:mS):AV→AH→KF→Prop:=λa0 H K=>aoO R K a0 H
theorem ali(R:mS)(hR:GJ R):av gP 192 (ao [.a] (Ba R)):=rk λK a0 H h=>YJ hR (YI hR) a0 H h
abbrev gr:Type:=(AV→AH→KF→Prop)×(AV→AV→AH→KF→Prop)×(AV→AH→KF→Prop)×(AV→AV→AH→KF→Prop)
def aoP(R:gr):List (Nat×cP):=[(23,ao [.a] R.1),(56,ao [.a,.a] R.2.1),(97,ao [.a] R.2.2.1),(98,ao [.a,.a] R.2.2.2)]
abbrev oR(R:gr):Prop:=ad gP (aoP R)
abbrev Ko(K:KF)(F:bP):Prop:=aM 194 K [1,1,1,1] 85 [0,1,5] [.a,.a,.a] F
abbrev Kp(K:KF)(F:jW):Prop:=aM 194 K [1,0,1,1,1] 85 [0,1,5,7] [.a,.a,.a,.a] F
abbrev Kq(K:KF)(F:bC):Prop:=aM 194 K [0,1,1,0,1,1,1] 85 [0,5] [.a,.a] F
abbrev Kr(K:KF)(F:bC):Prop:=aM 194 K [1,0,1,1,0,1,1,1] 85 [0,5] [.a,.a] F
def Ks(R:gr)(K:KF)(a0 a5:AV)(H:AH):Prop:=al 3 a5 λv1=>ak v1 H λv2=>cI 0 v2 λz3=>al 1 a5 λv4=>ak v4 H λv5=>one v5 (R.2.2.1 a0 H λo6 H7=>cR K o6 H7 λv8=>ak v4 H7 λv9=>bT (aU v9 v5) (ak v1 H7 λv10=>cI 0 v10 λz11=>bT (aU (.int 0 z11) (.int 0 z3)) (bG H7 (onVal v8 λl12=>dV l12 7 (aN (aA H7) 2 7 (spl l12 [(.int 0 (.ofNat 5)),(.int 0 z3),(.int 0 (.ofNat 0)),v5,(.int 0 (.ofNat 1)),.ab,.ab,(.int 0 (.ofNat 0)),(.int 0 (.ofNat 0)),(.int 0 (.ofNat 0)),(.str 0 0),(.int 0 (.ofNat 0)),.ab,.ab] 7) λv13 cN=>bT (Nat.beq cN.n (Nat.succ H7.n)) (K (.ret v13) cN))))))
theorem YK{R:gr}(hR:oR R){K:KF}:Kr K (Ks R K):=λa0 a5 H h=>pk hR .nil h
def Kt(R:gr)(K:KF):bC:=Ks R K
theorem YL{R:gr}(hR:oR R){K:KF}:Kr K (Kt R K):=YK hR
def Ku(R:gr)(K:KF)(x4:bC)(a0 a5:AV)(H:AH):Prop:=aP a0 (al 1 a0 λv1=>ak v1 H λv2=>cI 0 v2 λz3=>aJ 0 (Int.add z3 (.ofNat 2)) λz4=>aP a0 (al 1 a0 λv5=>ae 1 v5 (.int 0 z4) H λH6=>x4 a0 a5 H6))
theorem YM{R:gr}(hR:oR R){K:KF}{x4:bC}(h4:Kr K x4):Kq K (Ku R K x4):=λa0 a5 H h=>pk hR (cc h4 .nil) h
def Kv(R:gr)(K:KF):bC:=Ku R K (Kt R K)
theorem YN{R:gr}(hR:oR R){K:KF}:Kq K (Kv R K):=YM hR (YL hR)
def Kw(R:gr)(K:KF)(a0 a1 a5:AV)(H:AH):Prop:=R.2.2.1 a0 H λo1 H2=>cR K o1 H2 λv3=>cw H2 (cx gP (aA H2) 49 λv4 H5=>ae 7 v4 v3 H5 λH6=>aP a1 (ak a1 H6 λv7=>cI 0 v7 λz8=>aJ 0 (Int.add z8 (.ofNat 1)) λz9=>aP a1 (ae 1 a1 (.int 0 z9) H6 λbJ=>al 3 a5 λv11=>ak v11 bJ λv12=>cI 0 v12 λz13=>aP a1 (ak a1 bJ λv14=>cI 0 v14 λlA=>aF 7 v4 bJ λv16=>bG bJ (onVal v16 λl17=>dV l17 7 (aN (aA bJ) 2 7 (spl l17 [(.int 0 (.ofNat 4)),(.int 0 z13),(.int 0 lA),(.str 0 0),(.int 0 (.ofNat 1)),.ab,.ab,(.int 0 (.ofNat 0)),(.int 0 (.ofNat 0)),(.int 0 (.ofNat 0)),(.str 0 0),(.int 0 (.ofNat 0)),.ab,.ab] 7) λv18 ib=>bT (Nat.beq ib.n (Nat.succ bJ.n)) (K (.ret v18) ib)))))))
theorem YO{R:gr}(hR:oR R){K:KF}:Ko K (Kw R K):=λa0 a1 a5 H h=>pk hR .nil h
def Cm(R:gr)(K:KF):bP:=Kw R K
theorem YP{R:gr}(hR:oR R){K:KF}:Ko K (Cm R K):=YO hR
def Kx(R:gr)(K:KF)(x3:bC)(x1:bP)(a0 a1 a5 a7:AV)(H:AH):Prop:=al 0 a5 λv1=>ak v1 H λv2=>cI 0 v2 λz3=>bI (bj z3 (.ofNat 2)) (al 0 a7 λv4=>ak v4 H λv5=>cI 0 v5 λz6=>bI (bj z6 (.ofNat 5)) (al 1 a7 λv7=>ak v7 H λv8=>pF v8 (.str 1 61) λv9=>bf v9 λz10=>bI z10 (x3 a0 a5 H) (x1 a0 a1 a5 H)) (x1 a0 a1 a5 H)) (x1 a0 a1 a5 H)
theorem YQ{R:gr}(hR:oR R){K:KF}{x3:bC}{x1:bP}(h3:Kq K x3)(h1:Ko K x1):Kp K (Kx R K x3 x1):=λa0 a1 a5 a7 H h=>pk hR (cc h3 (cc h1 .nil)) h
def Ky(R:gr)(K:KF):jW:=Kx R K (Kv R K) (Cm R K)
theorem YR{R:gr}(hR:oR R){K:KF}:Kp K (Ky R K):=YQ hR (YN hR) (YP hR)
def Kz(R:gr)(K:KF)(x2:jW)(a0 a1:AV)(H:AH):Prop:=R.1 a0 H λo1 H2=>cR K o1 H2 λv3=>cw H2 (gE (aA H2) [(.int 0 (.ofNat 0)),(.str 0 0),(.int 0 (.ofNat 0)),(.int 0 (.ofNat 0))] λv4 H5=>ae 4 v4 v3 H5 λH6=>R.2.1 a0 (.str 1 91) H6 λo7 H8=>cR K o7 H8 λv9=>bf v9 λz10=>bI z10 (R.2.2.1 a0 H8 λkj bL=>cR K kj bL λv13=>cw bL (cx gP (aA bL) 49 λv14 eM=>ae 7 v14 v13 eM λdm=>R.2.2.2 a0 (.str 1 93) dm λqn dK=>cR K qn dK λv19=>R.2.2.2 a0 (.str 1 61) dK λGF ia=>cR K GF ia λv22=>aF 7 v14 ia λv23=>R.2.2.1 a0 ia λo24 kZ=>cR K o24 kZ λv26=>aF 7 v14 kZ λv27=>bT (aU v27 v23) (bG kZ (onVal v23 λl28=>dV l28 7 (onVal v26 λl29=>dV l29 7 (aN (aA kZ) 2 7 (spl l29 (spl l28 [(.int 0 (.ofNat 0)),(.int 0 (.ofNat 0)),(.int 0 (.ofNat 0)),(.str 0 0),(.int 0 (.ofNat 0)),.ab,.ab,(.int 0 (.ofNat 0)),(.int 0 (.ofNat 0)),(.int 0 (.ofNat 0)),(.str 0 0),(.int 0 (.ofNat 0)),.ab,.ab] 0) 7) λv30 nM=>bT (Nat.beq nM.n (Nat.succ kZ.n)) (K (.ret v30) nM))))))) (aP a0 (al 0 a0 λv32=>ak v32 H8 λv33=>aP a0 (al 1 a0 λv34=>ak v34 H8 λv35=>cI 0 v35 λz36=>aJ 0 (Int.add z36 (.ofNat 1)) λz37=>aP a0 (al 0 a0 λv38=>ak v38 H8 λv39=>dp v39 λv40=>cI 0 v40 λz41=>aJ 0 (Int.sub z41 (.ofNat 1)) λz42=>BM NT [(.int 0 z42)] (.int 0 z37) λv43=>cI 0 v43 λz44=>cK 4 v33 (.int 0 z44) λv45=>aF 4 v45 H8 λv46=>bG H8 (cw H8 (gE (aA H8) [(.int 0 (.ofNat 0)),(.str 0 0),(.int 0 (.ofNat 0)),(.int 0 (.ofNat 0))] λv47 uU=>bT (Nat.beq uU.n (Nat.succ H8.n)) (ae 4 v47 v46 uU λH49=>x2 a0 a1 v4 v47 H49))))))))
theorem YS{R:gr}(hR:oR R){K:KF}{x2:jW}(h2:Kp K x2)(a0 a1:AV)(H:AH)(h:Kz R K x2 a0 a1 H):dw 194 K [] (ba (di 194) [a0,a1]) [] H:=pk hR (cc h2 .nil) h
def Vt(R:gr)(K:KF):bC:=Kz R K (Ky R K)
def vg(R:gr):AV→AV→AH→KF→Prop:=λa0 a1 H K=>Vt R K a0 a1 H
theorem alj(R:gr)(hR:oR R):av gP 194 (ao [.a,.a] (vg R)):=rk λK a0 a1 H h=>YS hR (YR hR) a0 a1 H h
abbrev lC:Type:=(AV→AH→KF→Prop)×(Int→Int→Int→AV→AV→AH→KF→Prop)×(AV→Int→AV→AH→KF→Prop)×(AV→AH→KF→Prop)
def aoQ(R:lC):List (Nat×cP):=[(23,ao [.a] R.1),(164,ao [.i 0,.i 0,.i 0,.a,.a] R.2.1),(193,ao [.a,.i 0,.a] R.2.2.1),(205,ao [.a] R.2.2.2)]
abbrev Bb(R:lC):Prop:=ad gP (aoQ R)
abbrev rr(K:KF)(F:bP):Prop:=aM 199 K [0,1,1] 23 [0,2,3] [.a,.a,.a] F
def Cn(R:lC)(K:KF)(x1:bP)(a0 a2 a3:AV)(H:AH):Prop:=R.1 a0 H λo1 H2=>cR K o1 H2 λv3=>gz v3 λl4=>cX l4 3 λv5=>cI 0 v5 λz6=>aN (aA H2) 2 1 [(.str 1 43),(.str 1 45)] λv7 H8=>R.2.2.1 a0 (.ofNat 1) v7 H8 λo9 bJ=>cR K o9 bJ λv11=>cI 0 v11 λz12=>bI (bj z12 (.ofNat 0)) (aF 7 a3 bJ λv13=>ae 7 a2 v13 bJ λcN=>aF 7 a2 cN λv15=>K (.ret v15) cN) (aF 7 a3 bJ λv16=>R.2.2.2 a0 bJ λqn dK=>cR K qn dK λv19=>aF 7 a3 dK λv20=>bT (aU v20 v16) (R.2.1 (.ofNat 14) z12 z6 v16 v19 dK λxT gT=>cR K xT gT λv23=>ae 7 a3 v23 gT λfS=>x1 a0 a2 a3 fS))
theorem YT{R:lC}(hR:Bb R){K:KF}{x1:bP}(h1:rr K x1):rr K (Cn R K x1):=λa0 a2 a3 H h=>pk hR (cc h1 .nil) h
def Vu(R:lC)(K:KF)(i1:bP):bP:=Cn R K i1
theorem YU{R:lC}(hR:Bb R){K:KF}{i1:bP}(g1:rr K i1):rr K (Vu R K i1):=YT hR g1
def tY(R:lC)(K:KF)(n:Nat):bP:=Nat.rec (motive:=λ_=>bP) (λ_ _ _ _=>False) (λ_ i=>Vu R K i) n
theorem YV{R:lC}(hR:Bb R){K:KF}(n:Nat):rr K (tY R K n):=Nat.rec (motive:=λn=>rr K (tY R K n)) (λa0 a2 a3 H h=>h.elim) (λn ih=>YU hR ih) n
def Co(R:lC)(K:KF)(x1:bP)(a0:AV)(H:AH):Prop:=cw H (cx gP (aA H) 49 λv1 H2=>R.2.2.2 a0 H2 λo3 H4=>cR K o3 H4 λv5=>cw H4 (cx gP (aA H4) 49 λv6 H7=>ae 7 v6 v5 H7 λH8=>x1 a0 v1 v6 H8))
theorem YW{R:lC}(hR:Bb R){K:KF}{x1:bP}(h1:rr K x1)(a0:AV)(H:AH)(h:Co R K x1 a0 H):dw 199 K [] (ba (di 199) [a0]) [] H:=pk hR (cc h1 .nil) h
def aoR(R:lC)(K:KF):Ta:=Co R K (tY R K NL)
def Bc(R:lC):AV→AH→KF→Prop:=λa0 H K=>aoR R K a0 H
theorem alk(R:lC)(hR:Bb R):av gP 199 (ao [.a] (Bc R)):=rk λK a0 H h=>YW hR (YV hR NL) a0 H h
abbrev lD:Type:=(AV→AH→KF→Prop)×(Int→Int→Int→AV→AV→AH→KF→Prop)×(AV→Int→AV→AH→KF→Prop)×(AV→AH→KF→Prop)
def aoS(R:lD):List (Nat×cP):=[(23,ao [.a] R.1),(164,ao [.i 0,.i 0,.i 0,.a,.a] R.2.1),(193,ao [.a,.i 0,.a] R.2.2.1),(208,ao [.a] R.2.2.2)]
abbrev Bd(R:lD):Prop:=ad gP (aoS R)
abbrev ru(K:KF)(F:bP):Prop:=aM 205 K [0,1,1] 23 [0,2,3] [.a,.a,.a] F
def Cp(R:lD)(K:KF)(x1:bP)(a0 a2 a3:AV)(H:AH):Prop:=R.1 a0 H λo1 H2=>cR K o1 H2 λv3=>gz v3 λl4=>cX l4 3 λv5=>cI 0 v5 λz6=>aN (aA H2) 3 1 [(.str 1 42),(.str 2 12079),(.str 1 37)] λv7 H8=>R.2.2.1 a0 (.ofNat 3) v7 H8 λo9 bJ=>cR K o9 bJ λv11=>cI 0 v11 λz12=>bI (bj z12 (.ofNat 0)) (aF 7 a3 bJ λv13=>ae 7 a2 v13 bJ λcN=>aF 7 a2 cN λv15=>K (.ret v15) cN) (aF 7 a3 bJ λv16=>R.2.2.2 a0 bJ λqn dK=>cR K qn dK λv19=>aF 7 a3 dK λv20=>bT (aU v20 v16) (R.2.1 (.ofNat 14) z12 z6 v16 v19 dK λxT gT=>cR K xT gT λv23=>ae 7 a3 v23 gT λfS=>x1 a0 a2 a3 fS))
theorem YX{R:lD}(hR:Bd R){K:KF}{x1:bP}(h1:ru K x1):ru K (Cp R K x1):=λa0 a2 a3 H h=>pk hR (cc h1 .nil) h
def Vv(R:lD)(K:KF)(i1:bP):bP:=Cp R K i1
theorem YY{R:lD}(hR:Bd R){K:KF}{i1:bP}(g1:ru K i1):ru K (Vv R K i1):=YX hR g1
def tZ(R:lD)(K:KF)(n:Nat):bP:=Nat.rec (motive:=λ_=>bP) (λ_ _ _ _=>False) (λ_ i=>Vv R K i) n
theorem YZ{R:lD}(hR:Bd R){K:KF}(n:Nat):ru K (tZ R K n):=Nat.rec (motive:=λn=>ru K (tZ R K n)) (λa0 a2 a3 H h=>h.elim) (λn ih=>YY hR ih) n
def Cq(R:lD)(K:KF)(x1:bP)(a0:AV)(H:AH):Prop:=cw H (cx gP (aA H) 49 λv1 H2=>R.2.2.2 a0 H2 λo3 H4=>cR K o3 H4 λv5=>cw H4 (cx gP (aA H4) 49 λv6 H7=>ae 7 v6 v5 H7 λH8=>x1 a0 v1 v6 H8))
theorem Y0{R:lD}(hR:Bd R){K:KF}{x1:bP}(h1:ru K x1)(a0:AV)(H:AH)(h:Cq R K x1 a0 H):dw 205 K [] (ba (di 205) [a0]) [] H:=pk hR (cc h1 .nil) h
def aoT(R:lD)(K:KF):Ta:=Cq R K (tZ R K NL)
def Be(R:lD):AV→AH→KF→Prop:=λa0 H K=>aoT R K a0 H
theorem alm(R:lD)(hR:Bd R):av gP 205 (ao [.a] (Be R)):=rk λK a0 H h=>Y0 hR (YZ hR NL) a0 H h
abbrev km:Type:=(AV→AH→KF→Prop)×(AV→AH→KF→Prop)×(AV→AV→AH→KF→Prop)×(AV→AH→KF→Prop)×(AV→AH→KF→Prop)
def aoU(R:km):List (Nat×cP):=[(23,ao [.a] R.1),(53,ao [.a] R.2.1),(56,ao [.a,.a] R.2.2.1),(133,ao [.a] R.2.2.2.1),(208,ao [.a] R.2.2.2.2)]
abbrev xV(R:km):Prop:=ad gP (aoU R)
abbrev KA(K:KF)(F:cW):Prop:=aM 208 K [1,1,1,1] 36 [0,2,3,4] [.a,.a,.i 0,.i 0] F
abbrev KB(K:KF)(F:bC):Prop:=aM 208 K [1,1,1,1,1,1,1] 36 [2,5] [.a,.a] F
def ua(R:km)(K:KF)(a2 a5:AV)(H:AH):Prop:=aF 7 a5 H λv1=>ae 7 a2 v1 H λH2=>aF 7 a2 H2 λv3=>K (.ret v3) H2
theorem Y1{R:km}(hR:xV R){K:KF}:KB K (ua R K):=λa2 a5 H h=>pk hR .nil h
def Vw(R:km)(K:KF):bC:=ua R K
theorem Y2{R:km}(hR:xV R){K:KF}:KB K (Vw R K):=Y1 hR
def xW(R:km)(K:KF)(x2:bC)(a0 a2:AV)(a3 a4:Int)(H:AH):Prop:=R.2.1 a0 H λo1 H2=>cR K o1 H2 λv3=>R.2.2.2.2 a0 H2 λo4 H5=>cR K o4 H5 λv6=>onVal v6 λl7=>dV l7 7 (aN (aA H5) 1 7 (spl l7 [(.int 0 (.ofNat 0)),(.int 0 (.ofNat 0)),(.int 0 (.ofNat 0)),(.str 0 0),(.int 0 (.ofNat 0)),.ab,.ab] 0) λv8 H9=>one v8 (cw H9 (cx gP (aA H9) 49 λv10 dZ=>ae 7 v10 (.agg [(.int 0 a4),(.int 0 a3),(.int 0 (.ofNat 0)),(.str 0 0),(.int 0 (.ofNat 0)),v8,.ab]) dZ λbL=>aP a0 (al 2 a0 λv13=>ak v13 bL λv14=>cI 0 v14 λlA=>aJ 0 (Int.sub lA (.ofNat 1)) λki=>aP a0 (al 2 a0 λv17=>ae 1 v17 (.int 0 ki) bL λdK=>x2 a2 v10 dK)))))
theorem Y3{R:km}(hR:xV R){K:KF}{x2:bC}(h2:KB K x2):KA K (xW R K x2):=λa0 a2 a3 a4 H h=>pk hR (cc h2 .nil) h
def Vx(R:km)(K:KF):cW:=xW R K (Vw R K)
theorem Y4{R:km}(hR:xV R){K:KF}:KA K (Vx R K):=Y3 hR (Y2 hR)
def Cr(R:km)(K:KF)(x1:cW)(a0:AV)(H:AH):Prop:=cw H (cx gP (aA H) 49 λv1 H2=>R.1 a0 H2 λo3 H4=>cR K o3 H4 λv5=>gz v5 λl6=>cX l6 3 λv7=>cI 0 v7 λz8=>R.2.2.1 a0 (.str 3 7630702) H4 λo9 bJ=>cR K o9 bJ λv11=>bf v11 λz12=>bI z12 (x1 a0 v1 z8 (.ofNat 11) bJ) (R.2.2.1 a0 (.str 1 45) bJ λmP cN=>cR K mP cN λv15=>bf v15 λki=>bI ki (x1 a0 v1 z8 (.ofNat 12) cN) (R.2.2.1 a0 (.str 1 35) cN λqn dK=>cR K qn dK λv19=>bf v19 λz20=>bI z20 (x1 a0 v1 z8 (.ofNat 13) dK) (R.2.2.2.1 a0 dK λxT gT=>cR K xT gT λv23=>ae 7 v1 v23 gT λfS=>aF 7 v1 fS λv25=>K (.ret v25) fS))))
theorem Y5{R:km}(hR:xV R){K:KF}{x1:cW}(h1:KA K x1)(a0:AV)(H:AH)(h:Cr R K x1 a0 H):dw 208 K [] (ba (di 208) [a0]) [] H:=pk hR (cc h1 .nil) h
def aoV(R:km)(K:KF):Ta:=Cr R K (Vx R K)
def Bf(R:km):AV→AH→KF→Prop:=λa0 H K=>aoV R K a0 H
theorem aln(R:km)(hR:xV R):av gP 208 (ao [.a] (Bf R)):=rk λK a0 H h=>Y5 hR (Y4 hR) a0 H h
abbrev fm:Type:=(AV→AH→KF→Prop)×(AV→AH→KF→Prop)×(AV→AV→AH→KF→Prop)×(AV→AV→AH→KF→Prop)×(AV→AH→KF→Prop)×(AV→AV→AH→KF→Prop)×(AV→AV→AH→KF→Prop)×(AV→Int→AH→KF→Prop)×(AV→AH→KF→Prop)×(AV→AH→KF→Prop)×(AV→AH→KF→Prop)×(AV→AH→KF→Prop)×(AV→AH→KF→Prop)×(AV→AH→KF→Prop)×(AV→Int→AH→KF→Prop)×(AV→AH→KF→Prop)×(AV→AV→AH→KF→Prop)×(AV→AH→KF→Prop)×(AV→AH→KF→Prop)×(AV→AH→KF→Prop)
def ko(S:fm):iU:=(f25,f53,f54,S.2.1,f56)
def eB(S:fm):fM:=(f23,S.1,f25,f54,f56,f94,S.2.2.1,S.2.2.2.1,S.2.2.2.2.1,ny,S.2.2.2.2.2.1,S.2.2.2.2.2.2.1)
def nR(S:fm):pn:=(f23,f56,S.2.2.2.2.1,f130,S.2.2.2.2.2.2.2.1)
def ju(S:fm):gh:=(S.1,f56,S.2.2.2.2.1,ny)
def oS(S:fm):po:=(f53,S.2.2.2.2.2.2.2.2.1)
def mo(S:fm):iN:=(S.1,f56,S.2.2.2.2.1,ny,f130)
def ov(S:fm):sl:=(S.2.2.2.2.1,ny,S.2.2.2.2.2.2.2.2.2.1)
def fg(S:fm):fT:=(S.1,f25,f56,f94,ny,f130)
def ie(S:fm):js:=(f23,f56,S.2.2.2.2.2.2.2.2.2.2.1,f164)
def fH(S:fm):gU:=(f23,f56,f94,S.2.2.2.2.1,ny,f130,f164,S.2.2.2.2.2.2.2.2.2.2.2.1,S.2.2.2.2.2.2.2.2.2.2.2.2.1)
def ig(S:fm):jt:=(f23,f56,f164,S.2.2.2.2.2.2.2.2.2.2.2.2.2.1)
def iZ(S:fm):kl:=(f23,f25,f56,f94,S.2.2.2.2.1,ny,S.2.2.2.2.2.2.2.1,S.2.2.2.2.2.2.2.2.2.2.2.2.2.2.1)
def fy(S:fm):fU:=(f25,f56,f94,S.2.2.2.2.1,ny)
def jD(S:fm):lB:=(f23,f164,S.2.2.2.2.2.2.2.2.2.2.2.2.2.2.2.1,f193)
def gR(S:fm):gV:=(f25,f56,f94,ny,S.2.2.2.2.2.2.2.2.2.2.2.2.2.2.2.2.1)
def jX(S:fm):mS:=(f23,f53,f56,f164,S.2.2.2.2.2.2.2.2.2.2.2.2.2.2.2.1,S.2.2.2.2.2.2.2.2.2.2.2.2.2.2.2.2.2.1)
def mq(S:fm):gr:=(f23,f56,S.2.2.2.2.1,ny)
def jE(S:fm):lC:=(f23,f164,f193,S.2.2.2.2.2.2.2.2.2.2.2.2.2.2.2.2.2.2.1)
def jF(S:fm):lD:=(f23,f164,f193,S.2.2.2.2.2.2.2.2.2.2.2.2.2.2.2.2.2.2.2)
def jc(S:fm):km:=(f23,f53,f56,S.2.2.2.2.2.2.2.2.2.1,S.2.2.2.2.2.2.2.2.2.2.2.2.2.2.2.2.2.2.2)
noncomputable def s13(n:Nat):fm:=Nat.rec (motive:=λ_=>fm) (λ_ _ _=>False,λ_ _ _=>False,λ_ _ _ _=>False,λ_ _ _ _=>False,λ_ _ _=>False,λ_ _ _ _=>False,λ_ _ _ _=>False,λ_ _ _ _=>False,λ_ _ _=>False,λ_ _ _=>False,λ_ _ _=>False,λ_ _ _=>False,λ_ _ _=>False,λ_ _ _=>False,λ_ _ _ _=>False,λ_ _ _=>False,λ_ _ _ _=>False,λ_ _ _=>False,λ_ _ _=>False,λ_ _ _=>False) (λ_ S=>(zG (ko S),zH (eB S),zI (nR S),zJ (ju S),GA (oS S),zL (mo S),uX (ov S),uY (fg S),A5 (ie S),u4 (fH S),A6 (ig S),va (iZ S),vc (fy S),A8 (jD S),ve (gR S),Ba (jX S),vg (mq S),Bc (jE S),Be (jF S),Bf (jc S))) n
structure kM(S:fm):Prop where
 Qg:av gP 24 (ao [.a] S.1)
 h55:av gP 55 (ao [.a] S.2.1)
 h95:av gP 95 (ao [.a,.a] S.2.2.1)
 h96:av gP 96 (ao [.a,.a] S.2.2.2.1)
 h97:av gP 97 (ao [.a] S.2.2.2.2.1)
 h99:av gP 99 (ao [.a,.a] S.2.2.2.2.2.1)
 Qh:av gP 100 (ao [.a,.a] S.2.2.2.2.2.2.1)
 arJ:av gP 131 (ao [.a,.i 0] S.2.2.2.2.2.2.2.1)
 avy:av gP 132 (ao [.a] S.2.2.2.2.2.2.2.2.1)
 arK:av gP 133 (ao [.a] S.2.2.2.2.2.2.2.2.2.1)
 avz:av gP 163 (ao [.a] S.2.2.2.2.2.2.2.2.2.2.1)
 avA:av gP 165 (ao [.a] S.2.2.2.2.2.2.2.2.2.2.2.1)
 avB:av gP 166 (ao [.a] S.2.2.2.2.2.2.2.2.2.2.2.2.1)
 avC:av gP 184 (ao [.a] S.2.2.2.2.2.2.2.2.2.2.2.2.2.1)
 avD:av gP 185 (ao [.a,.i 0] S.2.2.2.2.2.2.2.2.2.2.2.2.2.2.1)
 arL:av gP 192 (ao [.a] S.2.2.2.2.2.2.2.2.2.2.2.2.2.2.2.1)
 avE:av gP 194 (ao [.a,.a] S.2.2.2.2.2.2.2.2.2.2.2.2.2.2.2.2.1)
 avF:av gP 199 (ao [.a] S.2.2.2.2.2.2.2.2.2.2.2.2.2.2.2.2.2.1)
 avG:av gP 205 (ao [.a] S.2.2.2.2.2.2.2.2.2.2.2.2.2.2.2.2.2.2.1)
 arM:av gP 208 (ao [.a] S.2.2.2.2.2.2.2.2.2.2.2.2.2.2.2.2.2.2.2)
theorem aoW(S:fm)(h:kM S):av gP 24 (ao [.a] (zG (ko S))):=aov (ko S) (ad.cons oP (ad.cons Ge (ad.cons adX (ad.cons h.h55 (ad.cons jQ ad.nil)))))
theorem aoX(S:fm)(h:kM S):av gP 55 (ao [.a] (zH (eB S))):=aow (eB S) (ad.cons kh (ad.cons h.Qg (ad.cons oP (ad.cons adX (ad.cons jQ (ad.cons sg (ad.cons h.h95 (ad.cons h.h96 (ad.cons h.h97 (ad.cons oQ (ad.cons h.h99 (ad.cons h.Qh ad.nil))))))))))))
theorem aoY(S:fm)(h:kM S):av gP 95 (ao [.a,.a] (zI (nR S))):=aox (nR S) (ad.cons kh (ad.cons jQ (ad.cons h.h97 (ad.cons B4 (ad.cons h.arJ ad.nil)))))
theorem aoZ(S:fm)(h:kM S):av gP 96 (ao [.a,.a] (zJ (ju S))):=aoy (ju S) (ad.cons h.Qg (ad.cons jQ (ad.cons h.h97 (ad.cons oQ ad.nil))))
theorem ao0(S:fm)(h:kM S):av gP 97 (ao [.a] (GA (oS S))):=aoz (oS S) (ad.cons Ge (ad.cons h.avy ad.nil))
theorem ao1(S:fm)(h:kM S):av gP 99 (ao [.a,.a] (zL (mo S))):=aoA (mo S) (ad.cons h.Qg (ad.cons jQ (ad.cons h.h97 (ad.cons oQ (ad.cons B4 ad.nil)))))
theorem alo(S:fm)(h:kM S):av gP 100 (ao [.a,.a] (uX (ov S))):=ak9 (ov S) (ad.cons h.h97 (ad.cons oQ (ad.cons h.arK ad.nil)))
theorem alp(S:fm)(h:kM S):av gP 131 (ao [.a,.i 0] (uY (fg S))):=ala (fg S) (ad.cons h.Qg (ad.cons oP (ad.cons jQ (ad.cons sg (ad.cons oQ (ad.cons B4 ad.nil))))))
theorem alq(S:fm)(h:kM S):av gP 132 (ao [.a] (A5 (ie S))):=alb (ie S) (ad.cons kh (ad.cons jQ (ad.cons h.avz (ad.cons q9 ad.nil))))
theorem alr(S:fm)(h:kM S):av gP 133 (ao [.a] (u4 (fH S))):=alc (fH S) (ad.cons kh (ad.cons jQ (ad.cons sg (ad.cons h.h97 (ad.cons oQ (ad.cons B4 (ad.cons q9 (ad.cons h.avA (ad.cons h.avB ad.nil)))))))))
theorem als(S:fm)(h:kM S):av gP 163 (ao [.a] (A6 (ig S))):=ald (ig S) (ad.cons kh (ad.cons jQ (ad.cons q9 (ad.cons h.avC ad.nil))))
theorem alu(S:fm)(h:kM S):av gP 165 (ao [.a] (va (iZ S))):=ale (iZ S) (ad.cons kh (ad.cons oP (ad.cons jQ (ad.cons sg (ad.cons h.h97 (ad.cons oQ (ad.cons h.arJ (ad.cons h.avD ad.nil))))))))
theorem alv(S:fm)(h:kM S):av gP 166 (ao [.a] (vc (fy S))):=alf (fy S) (ad.cons oP (ad.cons jQ (ad.cons sg (ad.cons h.h97 (ad.cons oQ ad.nil)))))
theorem alw(S:fm)(h:kM S):av gP 184 (ao [.a] (A8 (jD S))):=alg (jD S) (ad.cons kh (ad.cons q9 (ad.cons h.arL (ad.cons JW ad.nil))))
theorem alx(S:fm)(h:kM S):av gP 185 (ao [.a,.i 0] (ve (gR S))):=alh (gR S) (ad.cons oP (ad.cons jQ (ad.cons sg (ad.cons oQ (ad.cons h.avE ad.nil)))))
theorem aly(S:fm)(h:kM S):av gP 192 (ao [.a] (Ba (jX S))):=ali (jX S) (ad.cons kh (ad.cons Ge (ad.cons jQ (ad.cons q9 (ad.cons h.arL (ad.cons h.avF ad.nil))))))
theorem alz(S:fm)(h:kM S):av gP 194 (ao [.a,.a] (vg (mq S))):=alj (mq S) (ad.cons kh (ad.cons jQ (ad.cons h.h97 (ad.cons oQ ad.nil))))
theorem alA(S:fm)(h:kM S):av gP 199 (ao [.a] (Bc (jE S))):=alk (jE S) (ad.cons kh (ad.cons q9 (ad.cons JW (ad.cons h.avG ad.nil))))
theorem alB(S:fm)(h:kM S):av gP 205 (ao [.a] (Be (jF S))):=alm (jF S) (ad.cons kh (ad.cons q9 (ad.cons JW (ad.cons h.arM ad.nil))))
theorem alC(S:fm)(h:kM S):av gP 208 (ao [.a] (Bf (jc S))):=aln (jc S) (ad.cons kh (ad.cons Ge (ad.cons jQ (ad.cons h.arK (ad.cons h.arM ad.nil)))))
theorem alD(S:fm)(h:kM S):kM (zG (ko S),zH (eB S),zI (nR S),zJ (ju S),GA (oS S),zL (mo S),uX (ov S),uY (fg S),A5 (ie S),u4 (fH S),A6 (ig S),va (iZ S),vc (fy S),A8 (jD S),ve (gR S),Ba (jX S),vg (mq S),Bc (jE S),Be (jF S),Bf (jc S)):=⟨aoW S h,aoX S h,aoY S h,aoZ S h,ao0 S h,ao1 S h,alo S h,alp S h,alq S h,alr S h,als S h,alu S h,alv S h,alw S h,alx S h,aly S h,alz S h,alA S h,alB S h,alC S h⟩
theorem arN(n:Nat):kM (s13 n):=by
 induction n with
 |zero=>exact⟨dz [.a],dz [.a],dz [.a,.a],dz [.a,.a],dz [.a],dz [.a,.a],dz [.a,.a],dz [.a,.i 0],dz [.a],dz [.a],dz [.a],dz [.a],dz [.a],dz [.a],dz [.a,.i 0],dz [.a],dz [.a,.a],dz [.a],dz [.a],dz [.a]⟩
 |succ n ih=>exact alD (s13 n) ih
def f24:AV→AH→KF→Prop:=(s13 NL).1
theorem arO:av gP 24 (ao [.a] f24):=(arN NL).Qg
abbrev wv:Type:=Unit
def arP(R:wv):List (Nat×cP):=[]
abbrev amT(R:wv):Prop:=ad gP (arP R)
def GK(R:wv)(K:KF)(a0:AV)(a1:Int)(H:AH):Prop:=aP a0 (al 2 a0 λv1=>ak v1 H λv2=>cI 0 v2 λz3=>bI (bj z3 (.ofNat 0)) (aP a0 (al 0 a0 λv4=>ak v4 H λv5=>aP a0 (al 1 a0 λv6=>ak v6 H λv7=>cI 0 v7 λz8=>cK 4 v5 (.int 0 z8) λv9=>al 3 v9 λv10=>ak v10 H λv11=>cI 0 v11 λz12=>aP a0 (al 2 a0 λv13=>ae 1 v13 (.int 0 a1) H λcN=>aP a0 (al 3 a0 λv15=>ae 1 v15 (.int 0 z12) cN λdm=>K (.ret (.aY [])) dm))))) (K (.ret (.aY [])) H))
theorem ae3{R:wv}(hR:amT R){K:KF}(a0:AV)(a1:Int)(H:AH)(h:GK R K a0 a1 H):dw 28 K [] (ba (di 28) [a0,(.int 0 a1)]) [] H:=pk hR .nil h
def arQ(R:wv)(K:KF):dX:=GK R K
def amU(R:wv):AV→Int→AH→KF→Prop:=λa0 a1 H K=>arQ R K a0 a1 H
theorem ao2(R:wv)(hR:amT R):av gP 28 (ao [.a,.i 0] (amU R)):=rk λK a0 a1 H h=>ae3 hR a0 a1 H h
def Qi:wv:=()
def f28:AV→Int→AH→KF→Prop:=amU Qi
theorem so:av gP 28 (ao [.a,.i 0] f28):=ao2 Qi ad.nil
abbrev wx:Type:=(AV→Int→AH→KF→Prop)
def arR(R:wx):List (Nat×cP):=[(28,ao [.a,.i 0] R)]
abbrev amV(R:wx):Prop:=ad gP (arR R)
def GL(R:wx)(K:KF)(a0:AV)(a1:Int)(H:AH):Prop:=bI (cg (.ofNat 100) a1) (R a0 (.ofNat 8) H λo1 H2=>cR K o1 H2 λv3=>K (.ret (.aY [])) H2) (K (.ret (.aY [])) H)
theorem ae4{R:wx}(hR:amV R){K:KF}(a0:AV)(a1:Int)(H:AH)(h:GL R K a0 a1 H):dw 65 K [] (ba (di 65) [a0,(.int 0 a1)]) [] H:=pk hR .nil h
def arS(R:wx)(K:KF):dX:=GL R K
def amW(R:wx):AV→Int→AH→KF→Prop:=λa0 a1 H K=>arS R K a0 a1 H
theorem ao3(R:wx)(hR:amV R):av gP 65 (ao [.a,.i 0] (amW R)):=rk λK a0 a1 H h=>ae4 hR a0 a1 H h
def GM:wx:=(f28)
def f65:AV→Int→AH→KF→Prop:=amW GM
theorem GN:av gP 65 (ao [.a,.i 0] f65):=ao3 GM (ad.cons so ad.nil)
abbrev pq:Type:=Unit
def arT(R:pq):List (Nat×cP):=[]
abbrev N9(R:pq):Prop:=ad gP (arT R)
abbrev Qj(K:KF)(F:bP):Prop:=aM 69 K [1,1] 37 [0,1,5] [.a,.a,.a] F
def GO(R:pq)(K:KF)(a0 a1 a5:AV)(H:AH):Prop:=aP a0 (al 2 a0 λv1=>ak v1 H λv2=>cI 0 v2 λz3=>bI (bj z3 (.ofNat 0)) (al 0 a5 λv4=>ak v4 H λv5=>cI 0 v5 λz6=>bI (bj z6 (.ofNat 1)) (al 1 a5 λv7=>ak v7 H λv8=>pF v8 a1 λv9=>bf v9 λz10=>K (.ret (.bool z10)) H) (al 0 a5 λv11=>ak v11 H λv12=>cI 0 v12 λz13=>bI (bj z13 (.ofNat 5)) (al 1 a5 λv14=>ak v14 H λv15=>pF v15 a1 λv16=>bf v16 λz17=>K (.ret (.bool z17)) H) (K (.ret (.bool false)) H))) (K (.ret (.bool false)) H))
theorem ae5{R:pq}(hR:N9 R){K:KF}:Qj K (GO R K):=λa0 a1 a5 H h=>pk hR .nil h
def ae6(R:pq)(K:KF):bP:=GO R K
theorem ae7{R:pq}(hR:N9 R){K:KF}:Qj K (ae6 R K):=ae5 hR
def GP(R:pq)(K:KF)(x1:bP)(a0 a1:AV)(H:AH):Prop:=aP a0 (al 0 a0 λv1=>ak v1 H λv2=>aP a0 (al 1 a0 λv3=>ak v3 H λv4=>cI 0 v4 λz5=>cK 4 v2 (.int 0 z5) λv6=>aF 4 v6 H λv7=>bG H (cw H (gE (aA H) [(.int 0 (.ofNat 0)),(.str 0 0),(.int 0 (.ofNat 0)),(.int 0 (.ofNat 0))] λv8 H9=>bT (Nat.beq H9.n (Nat.succ H.n)) (ae 4 v8 v7 H9 λbJ=>x1 a0 a1 v8 bJ)))))
theorem ae8{R:pq}(hR:N9 R){K:KF}{x1:bP}(h1:Qj K x1)(a0 a1:AV)(H:AH)(h:GP R K x1 a0 a1 H):dw 69 K [] (ba (di 69) [a0,a1]) [] H:=pk hR (cc h1 .nil) h
def arU(R:pq)(K:KF):bC:=GP R K (ae6 R K)
def amX(R:pq):AV→AV→AH→KF→Prop:=λa0 a1 H K=>arU R K a0 a1 H
theorem ao4(R:pq)(hR:N9 R):av gP 69 (ao [.a,.a] (amX R)):=rk λK a0 a1 H h=>ae8 hR (ae7 hR) a0 a1 H h
def GQ:pq:=()
def f69:AV→AV→AH→KF→Prop:=amX GQ
theorem xX:av gP 69 (ao [.a,.a] f69):=ao4 GQ ad.nil
abbrev wy:Type:=(AV→AV→AH→KF→Prop)
def arV(R:wy):List (Nat×cP):=[(69,ao [.a,.a] R)]
abbrev amY(R:wy):Prop:=ad gP (arV R)
def GR(R:wy)(K:KF)(a0:AV)(H:AH):Prop:=aP a0 (al 2 a0 λv1=>ak v1 H λv2=>cI 0 v2 λz3=>bI (!(bj z3 (.ofNat 0))) (K (.ret (.bool true)) H) (aP a0 (al 0 a0 λv4=>ak v4 H λv5=>aP a0 (al 1 a0 λv6=>ak v6 H λv7=>cI 0 v7 λz8=>cK 4 v5 (.int 0 z8) λv9=>al 0 v9 λv10=>ak v10 H λv11=>cI 0 v11 λz12=>bI (bj z12 (.ofNat 0)) (K (.ret (.bool true)) H) (R a0 (.str 3 6581861) H λmP cN=>cR K mP cN λv15=>bf v15 λki=>bI ki (K (.ret (.bool true)) cN) (R a0 (.str 4 1702063205) cN λqn dK=>cR K qn dK λv19=>bf v19 λz20=>bI z20 (K (.ret (.bool true)) dK) (R a0 (.str 6 112602859662437) dK λxT gT=>cR K xT gT λv23=>bf v23 λz24=>bI z24 (K (.ret (.bool true)) gT) (R a0 (.str 5 465625706101) gT λGG nO=>cR K GG nO λv27=>bf v27 λz28=>K (.ret (.bool z28)) nO))))))))
theorem ae9{R:wy}(hR:amY R){K:KF}(a0:AV)(H:AH)(h:GR R K a0 H):dw 66 K [] (ba (di 66) [a0]) [] H:=pk hR .nil h
def arW(R:wy)(K:KF):Ta:=GR R K
def amZ(R:wy):AV→AH→KF→Prop:=λa0 H K=>arW R K a0 H
theorem ao5(R:wy)(hR:amY R):av gP 66 (ao [.a] (amZ R)):=rk λK a0 H h=>ae9 hR a0 H h
def GS:wy:=(f69)
def f66:AV→AH→KF→Prop:=amZ GS
theorem arX:av gP 66 (ao [.a] f66):=ao5 GS (ad.cons xX ad.nil)
abbrev wz:Type:=Unit
def arY(R:wz):List (Nat×cP):=[]
abbrev am0(R:wz):Prop:=ad gP (arY R)
def GU(R:wz)(K:KF)(a0:AV)(H:AH):Prop:=aP a0 (al 0 a0 λv1=>ak v1 H λv2=>aP a0 (al 1 a0 λv3=>ak v3 H λv4=>cI 0 v4 λz5=>cK 4 v2 (.int 0 z5) λv6=>al 3 v6 λv7=>ak v7 H λv8=>cI 0 v8 λz9=>K (.ret (.int 0 z9)) H))
theorem afa{R:wz}(hR:am0 R){K:KF}(a0:AV)(H:AH)(h:GU R K a0 H):dw 67 K [] (ba (di 67) [a0]) [] H:=pk hR .nil h
def arZ(R:wz)(K:KF):Ta:=GU R K
def am1(R:wz):AV→AH→KF→Prop:=λa0 H K=>arZ R K a0 H
theorem ao6(R:wz)(hR:am0 R):av gP 67 (ao [.a] (am1 R)):=rk λK a0 H h=>afa hR a0 H h
def Qk:wz:=()
def f67:AV→AH→KF→Prop:=am1 Qk
theorem sq:av gP 67 (ao [.a] f67):=ao6 Qk ad.nil
abbrev wA:Type:=(AV→AV→AH→KF→Prop)
def ar0(R:wA):List (Nat×cP):=[(69,ao [.a,.a] R)]
abbrev am2(R:wA):Prop:=ad gP (ar0 R)
def GV(R:wA)(K:KF)(a0 a1:AV)(H:AH):Prop:=R a0 a1 H λo1 H2=>cR K o1 H2 λv3=>bf v3 λz4=>bI z4 (aP a0 (al 1 a0 λv5=>ak v5 H2 λv6=>cI 0 v6 λz7=>aJ 0 (Int.add z7 (.ofNat 1)) λz8=>aP a0 (al 1 a0 λv9=>ae 1 v9 (.int 0 z8) H2 λbJ=>K (.ret (.bool true)) bJ))) (K (.ret (.bool false)) H2)
theorem afb{R:wA}(hR:am2 R){K:KF}(a0 a1:AV)(H:AH)(h:GV R K a0 a1 H):dw 68 K [] (ba (di 68) [a0,a1]) [] H:=pk hR .nil h
def ar1(R:wA)(K:KF):bC:=GV R K
def am3(R:wA):AV→AV→AH→KF→Prop:=λa0 a1 H K=>ar1 R K a0 a1 H
theorem ao7(R:wA)(hR:am2 R):av gP 68 (ao [.a,.a] (am3 R)):=rk λK a0 a1 H h=>afb hR a0 a1 H h
def GW:wA:=(f69)
def f68:AV→AV→AH→KF→Prop:=am3 GW
theorem qs:av gP 68 (ao [.a,.a] f68):=ao7 GW (ad.cons xX ad.nil)
abbrev kr:Type:=(AV→Int→AH→KF→Prop)
def ao8(R:kr):List (Nat×cP):=[(28,ao [.a,.i 0] R)]
abbrev xY(R:kr):Prop:=ad gP (ao8 R)
abbrev KC(K:KF)(F:Ta):Prop:=aM 104 K [1,1] 48 [0] [.a] F
abbrev KE(K:KF)(F:Ta):Prop:=aM 104 K [1,1,1,1] 48 [0] [.a] F
def xZ(R:kr)(K:KF)(a0:AV)(H:AH):Prop:=aP a0 (al 0 a0 λv1=>ak v1 H λv2=>aP a0 (al 1 a0 λv3=>ak v3 H λv4=>cI 0 v4 λz5=>aJ 0 (Int.sub z5 (.ofNat 1)) λz6=>cK 4 v2 (.int 0 z6) λv7=>al 1 v7 λv8=>ak v8 H λv9=>K (.ret v9) H))
theorem Y6{R:kr}(hR:xY R){K:KF}:KE K (xZ R K):=λa0 H h=>pk hR .nil h
def Vy(R:kr)(K:KF):Ta:=xZ R K
theorem Y7{R:kr}(hR:xY R){K:KF}:KE K (Vy R K):=Y6 hR
def ub(R:kr)(K:KF)(x2:Ta)(a0:AV)(H:AH):Prop:=aP a0 (al 2 a0 λv1=>ak v1 H λv2=>cI 0 v2 λz3=>bI (!(bj z3 (.ofNat 0))) (K (.ret (.str 0 0)) H) (aP a0 (al 1 a0 λv4=>ak v4 H λv5=>cI 0 v5 λz6=>aJ 0 (Int.add z6 (.ofNat 1)) λz7=>aP a0 (al 1 a0 λv8=>ae 1 v8 (.int 0 z7) H λH9=>x2 a0 H9))))
theorem Y8{R:kr}(hR:xY R){K:KF}{x2:Ta}(h2:KE K x2):KC K (ub R K x2):=λa0 H h=>pk hR (cc h2 .nil) h
def Vz(R:kr)(K:KF):Ta:=ub R K (Vy R K)
theorem Y9{R:kr}(hR:xY R){K:KF}:KC K (Vz R K):=Y8 hR (Y7 hR)
def Cs(R:kr)(K:KF)(x1:Ta)(a0:AV)(H:AH):Prop:=aP a0 (al 2 a0 λv1=>ak v1 H λv2=>cI 0 v2 λz3=>bI (bj z3 (.ofNat 0)) (aP a0 (al 0 a0 λv4=>ak v4 H λv5=>aP a0 (al 1 a0 λv6=>ak v6 H λv7=>cI 0 v7 λz8=>cK 4 v5 (.int 0 z8) λv9=>al 0 v9 λv10=>ak v10 H λv11=>cI 0 v11 λz12=>bI (!(bj z12 (.ofNat 2))) (R a0 (.ofNat 14) H λmP cN=>cR K mP cN λv15=>x1 a0 cN) (x1 a0 H)))) (x1 a0 H))
theorem Za{R:kr}(hR:xY R){K:KF}{x1:Ta}(h1:KC K x1)(a0:AV)(H:AH)(h:Cs R K x1 a0 H):dw 104 K [] (ba (di 104) [a0]) [] H:=pk hR (cc h1 .nil) h
def ao9(R:kr)(K:KF):Ta:=Cs R K (Vz R K)
def afc(R:kr):AV→AH→KF→Prop:=λa0 H K=>ao9 R K a0 H
theorem alE(R:kr)(hR:xY R):av gP 104 (ao [.a] (afc R)):=rk λK a0 H h=>Za hR (Y9 hR) a0 H h
def pP:kr:=(f28)
def f104:AV→AH→KF→Prop:=afc pP
theorem Ct:av gP 104 (ao [.a] f104):=alE pP (ad.cons so ad.nil)
abbrev sr:Type:=(AV→Int→AH→KF→Prop)×(AV→AV→AH→KF→Prop)
def apa(R:sr):List (Nat×cP):=[(28,ao [.a,.i 0] R.1),(68,ao [.a,.a] R.2)]
abbrev afd(R:sr):Prop:=ad gP (apa R)
def Cu(R:sr)(K:KF)(a0 a1:AV)(H:AH):Prop:=R.2 a0 a1 H λo1 H2=>cR K o1 H2 λv3=>bf v3 λz4=>bI (!z4) (R.1 a0 (.ofNat 14) H2 λo5 H6=>cR K o5 H6 λv7=>K (.ret (.aY [])) H6) (K (.ret (.aY [])) H2)
theorem Zb{R:sr}(hR:afd R){K:KF}(a0 a1:AV)(H:AH)(h:Cu R K a0 a1 H):dw 106 K [] (ba (di 106) [a0,a1]) [] H:=pk hR .nil h
def apb(R:sr)(K:KF):bC:=Cu R K
def afe(R:sr):AV→AV→AH→KF→Prop:=λa0 a1 H K=>apb R K a0 a1 H
theorem alF(R:sr)(hR:afd R):av gP 106 (ao [.a,.a] (afe R)):=rk λK a0 a1 H h=>Zb hR a0 a1 H h
def ya:sr:=(f28,f68)
def f106:AV→AV→AH→KF→Prop:=afe ya
theorem yb:av gP 106 (ao [.a,.a] f106):=alF ya (ad.cons so (ad.cons qs ad.nil))
abbrev ss:Type:=(AV→Int→AH→KF→Prop)
def apc(R:ss):List (Nat×cP):=[(28,ao [.a,.i 0] R)]
abbrev aff(R:ss):Prop:=ad gP (apc R)
def Cv(R:ss)(K:KF)(a0:AV)(a1 a2:Int)(H:AH):Prop:=bI (!(cg a1 a2)) (R a0 (.ofNat 8) H λo1 H2=>cR K o1 H2 λv3=>K (.ret (.aY [])) H2) (K (.ret (.aY [])) H)
theorem Zc{R:ss}(hR:aff R){K:KF}(a0:AV)(a1 a2:Int)(H:AH)(h:Cv R K a0 a1 a2 H):dw 136 K [] (ba (di 136) [a0,(.int 0 a1),(.int 0 a2)]) [] H:=pk hR .nil h
def apd(R:ss)(K:KF):ka:=Cv R K
def afg(R:ss):AV→Int→Int→AH→KF→Prop:=λa0 a1 a2 H K=>apd R K a0 a1 a2 H
theorem alG(R:ss)(hR:aff R):av gP 136 (ao [.a,.i 0,.i 0] (afg R)):=rk λK a0 a1 a2 H h=>Zc hR a0 a1 a2 H h
def Cw:ss:=(f28)
def f136:AV→Int→Int→AH→KF→Prop:=afg Cw
theorem KG:av gP 136 (ao [.a,.i 0,.i 0] f136):=alG Cw (ad.cons so ad.nil)
abbrev fz:Type:=(AV→Int→AH→KF→Prop)×(AV→Int→AH→KF→Prop)×(AV→AH→KF→Prop)×(AV→AH→KF→Prop)×(AV→AV→AH→KF→Prop)×(AV→AV→AH→KF→Prop)×(AV→Int→AH→KF→Prop)×(AV→AV→Int→AH→KF→Prop)
def ar2(R:fz):List (Nat×cP):=[(28,ao [.a,.i 0] R.1),(65,ao [.a,.i 0] R.2.1),(66,ao [.a] R.2.2.1),(67,ao [.a] R.2.2.2.1),(68,ao [.a,.a] R.2.2.2.2.1),(69,ao [.a,.a] R.2.2.2.2.2.1),(70,ao [.a,.i 0] R.2.2.2.2.2.2.1),(71,ao [.a,.a,.i 0] R.2.2.2.2.2.2.2)]
abbrev mL(R:fz):Prop:=ad gP (ar2 R)
abbrev Ql(K:KF)(F:Ta):Prop:=aM 27 K [1,1,1,1,1] 55 [5] [.a] F
abbrev sv(K:KF)(F:kL):Prop:=aM 27 K [0,0,1,1,1,1] 55 [0,1,5] [.a,.i 0,.a] F
abbrev Qm(K:KF)(F:kL):Prop:=aM 27 K [1,1,1,1,0,1,0,0,0,1,1,1,1] 55 [0,1,5] [.a,.i 0,.a] F
abbrev GX(K:KF)(F:bP):Prop:=aM 27 K [1,1,0,1,0,1,0,1,0,0,0,1,1,1,1] 55 [0,5,6] [.a,.a,.a] F
abbrev Qn(K:KF)(F:bZ):Prop:=aM 27 K [0,1,0,1,0,1,0,1,0,1,0,0,0,1,1,1,1] 55 [0,1,5,6] [.a,.i 0,.a,.a] F
abbrev Qo(K:KF)(F:bC):Prop:=aM 27 K [1,1,1,1,0,1,0,1,0,1,0,0,0,1,1,1,1] 55 [5,6] [.a,.a] F
def GY(R:fz)(K:KF)(a5 a6:AV)(H:AH):Prop:=aF 5 a6 H λv1=>onVal v1 λl2=>dV l2 5 (aN (aA H) 1 5 (spl l2 [(.int 0 (.ofNat 0)),(.int 0 (.ofNat 0)),.ab,.ab,.ab] 0) λv3 H4=>dh 5 88 a5 v3 H4 λv5 H6=>K (.ret v5) H6)
theorem afh{R:fz}(hR:mL R){K:KF}:Qo K (GY R K):=λa5 a6 H h=>pk hR .nil h
def yc(R:fz)(K:KF):bC:=GY R K
theorem afi{R:fz}(hR:mL R){K:KF}:Qo K (yc R K):=afh hR
def GZ(R:fz)(K:KF)(x6:bC)(a0 a5 a6:AV)(H:AH):Prop:=R.2.2.2.2.1 a0 (.str 1 59) H λo1 H2=>cR K o1 H2 λv3=>bf v3 λz4=>R.2.2.1 a0 H2 λo5 H6=>cR K o5 H6 λv7=>bf v7 λz8=>bI (!z8) (R.1 a0 (.ofNat 14) H6 λo9 bJ=>cR K o9 bJ λv11=>x6 a5 a6 bJ) (x6 a5 a6 H6)
theorem afj{R:fz}(hR:mL R){K:KF}{x6:bC}(h6:Qo K x6):GX K (GZ R K x6):=λa0 a5 a6 H h=>pk hR (cc h6 .nil) h
def sw(R:fz)(K:KF):bP:=GZ R K (yc R K)
theorem Nn{R:fz}(hR:mL R){K:KF}:GX K (sw R K):=afj hR (afi hR)
def G0(R:fz)(K:KF)(x4:bP)(a0:AV)(a1:Int)(a5 a6:AV)(H:AH):Prop:=R.2.2.2.2.2.2.1 a0 a1 H λo1 H2=>cR K o1 H2 λv3=>onVal v3 λl4=>dV l4 7 (aN (aA H2) 1 7 (spl l4 [(.int 0 (.ofNat 0)),(.int 0 (.ofNat 0)),(.int 0 (.ofNat 0)),(.str 0 0),(.int 0 (.ofNat 0)),.ab,.ab] 0) λv5 H6=>al 3 a6 λv7=>ae 1 v7 v5 H6 λH8=>x4 a0 a5 a6 H8)
theorem afk{R:fz}(hR:mL R){K:KF}{x4:bP}(h4:GX K x4):Qn K (G0 R K x4):=λa0 a1 a5 a6 H h=>pk hR (cc h4 .nil) h
def G1(R:fz)(K:KF):bZ:=G0 R K (sw R K)
theorem afl{R:fz}(hR:mL R){K:KF}:Qn K (G1 R K):=afk hR (Nn hR)
def G2(R:fz)(K:KF)(x2:kL)(a0:AV)(a1:Int)(a5:AV)(H:AH):Prop:=R.2.2.2.2.1 a0 (.str 1 59) H λo1 H2=>cR K o1 H2 λv3=>bf v3 λz4=>x2 a0 a1 a5 H2
theorem afm{R:fz}(hR:mL R){K:KF}{x2:kL}(h2:sv K x2):Qm K (G2 R K x2):=λa0 a1 a5 H h=>pk hR (cc h2 .nil) h
def G3(R:fz)(K:KF)(i2:kL):kL:=G2 R K i2
theorem afn{R:fz}(hR:mL R){K:KF}{i2:kL}(g2:sv K i2):Qm K (G3 R K i2):=afm hR g2
def yd(R:fz)(K:KF)(a5:AV)(H:AH):Prop:=K (.ret a5) H
theorem afo{R:fz}(hR:mL R){K:KF}:Ql K (yd R K):=λa5 H h=>pk hR .nil h
def G4(R:fz)(K:KF):Ta:=yd R K
theorem afp{R:fz}(hR:mL R){K:KF}:Ql K (G4 R K):=afo hR
def ye(R:fz)(K:KF)(x5:bZ)(x4:bP)(x3:kL)(x1:Ta)(a0:AV)(a1:Int)(a5:AV)(H:AH):Prop:=R.2.2.1 a0 H λo1 H2=>cR K o1 H2 λv3=>bf v3 λz4=>bI (!z4) (R.2.2.2.1 a0 H2 λo5 H6=>cR K o5 H6 λv7=>cI 0 v7 λz8=>cw H6 (gE (aA H6) [(.int 0 (.ofNat 0)),(.int 0 (.ofNat 0)),.ab,.ab,.ab] λv9 bJ=>ae 5 v9 (.agg [(.int 0 (.ofNat 0)),(.int 0 z8),.ab,.ab,.ab]) bJ λdZ=>R.2.2.2.2.1 a0 (.str 6 121437875889522) dZ λxK dL=>cR K xK dL λv14=>bf v14 λlA=>bI lA (al 0 v9 λv16=>ae 1 v16 (.int 0 (.ofNat 10)) dL λgx=>R.2.2.1 a0 gx λGD ib=>cR K GD ib λv20=>bf v20 λz21=>bI (!z21) (R.2.2.2.2.2.1 a0 (.str 1 59) ib λo22 nz=>cR K o22 nz λv24=>bf v24 λz25=>bI (!z25) (x5 a0 a1 a5 v9 nz) (x4 a0 a5 v9 nz)) (x4 a0 a5 v9 ib)) (R.2.2.2.2.2.2.2 a0 v9 a1 dL λxJ kB=>cR K xJ kB λv28=>aF 5 v9 kB λv29=>onVal v29 λl30=>dV l30 5 (aN (aA kB) 1 5 (spl l30 [(.int 0 (.ofNat 0)),(.int 0 (.ofNat 0)),.ab,.ab,.ab] 0) λv31 oC=>dh 5 88 a5 v31 oC λv33 mR=>x3 a0 a1 v33 mR)))) (x1 a5 H2)
theorem afq{R:fz}(hR:mL R){K:KF}{x5:bZ}{x4:bP}{x3:kL}{x1:Ta}(h5:Qn K x5)(h4:GX K x4)(h3:Qm K x3)(h1:Ql K x1):sv K (ye R K x5 x4 x3 x1):=λa0 a1 a5 H h=>pk hR (cc h5 (cc h4 (cc h3 (cc h1 .nil)))) h
def G5(R:fz)(K:KF)(i2:kL):kL:=ye R K (G1 R K) (sw R K) (G3 R K i2) (G4 R K)
theorem afr{R:fz}(hR:mL R){K:KF}{i2:kL}(g2:sv K i2):sv K (G5 R K i2):=afq hR (afl hR) (Nn hR) (afn hR g2) (afp hR)
def vh(R:fz)(K:KF)(n:Nat):kL:=Nat.rec (motive:=λ_=>kL) (λ_ _ _ _=>False) (λ_ i=>G5 R K i) n
theorem afs{R:fz}(hR:mL R){K:KF}(n:Nat):sv K (vh R K n):=Nat.rec (motive:=λn=>sv K (vh R K n)) (λa0 a1 a5 H h=>h.elim) (λn ih=>afr hR ih) n
def Qp(R:fz)(K:KF)(x2:kL)(a0:AV)(a1:Int)(H:AH):Prop:=aJ 0 (Int.add a1 (.ofNat 1)) λz1=>R.2.1 a0 z1 H λo2 H3=>cR K o2 H3 λv4=>x2 a0 z1 .ab H3
theorem aft{R:fz}(hR:mL R){K:KF}{x2:kL}(h2:sv K x2)(a0:AV)(a1:Int)(H:AH)(h:Qp R K x2 a0 a1 H):dw 27 K [] (ba (di 27) [a0,(.int 0 a1)]) [] H:=pk hR (cc h2 .nil) h
def afu(R:fz)(K:KF):dX:=Qp R K (vh R K NL)
def G6(R:fz):AV→Int→AH→KF→Prop:=λa0 a1 H K=>afu R K a0 a1 H
theorem ape(R:fz)(hR:mL R):av gP 27 (ao [.a,.i 0] (G6 R)):=rk λK a0 a1 H h=>aft hR (afs hR NL) a0 a1 H h
abbrev wB:Type:=(AV→Int→AH→KF→Prop)×(AV→Int→Int→AH→KF→Prop)
def ar3(R:wB):List (Nat×cP):=[(65,ao [.a,.i 0] R.1),(103,ao [.a,.i 0,.i 0] R.2)]
abbrev am4(R:wB):Prop:=ad gP (ar3 R)
def G7(R:wB)(K:KF)(a0:AV)(a1:Int)(H:AH):Prop:=cw H (cx gP (aA H) 49 λv1 H2=>aJ 0 (Int.add a1 (.ofNat 1)) λz3=>R.1 a0 z3 H2 λo4 H5=>cR K o4 H5 λv6=>R.2 a0 (.ofNat 0) z3 H5 λo7 H8=>cR K o7 H8 λv9=>ae 7 v1 v9 H8 λbJ=>aF 7 v1 bJ λv11=>K (.ret v11) bJ)
theorem afv{R:wB}(hR:am4 R){K:KF}(a0:AV)(a1:Int)(H:AH)(h:G7 R K a0 a1 H):dw 70 K [] (ba (di 70) [a0,(.int 0 a1)]) [] H:=pk hR .nil h
def ar4(R:wB)(K:KF):dX:=G7 R K
def Zd(R:wB):AV→Int→AH→KF→Prop:=λa0 a1 H K=>ar4 R K a0 a1 H
theorem apf(R:wB)(hR:am4 R):av gP 70 (ao [.a,.i 0] (Zd R)):=rk λK a0 a1 H h=>afv hR a0 a1 H h
abbrev bQ:Type:=(AV→Int→AH→KF→Prop)×(AV→Int→AH→KF→Prop)×(AV→AH→KF→Prop)×(AV→AV→AH→KF→Prop)×(AV→AV→AH→KF→Prop)×(AV→Int→AH→KF→Prop)×(AV→AH→KF→Prop)×(AV→Int→AH→KF→Prop)×(AV→AV→AH→KF→Prop)×(AV→AV→Int→AH→KF→Prop)
def ar5(R:bQ):List (Nat×cP):=[(27,ao [.a,.i 0] R.1),(28,ao [.a,.i 0] R.2.1),(67,ao [.a] R.2.2.1),(68,ao [.a,.a] R.2.2.2.1),(69,ao [.a,.a] R.2.2.2.2.1),(70,ao [.a,.i 0] R.2.2.2.2.2.1),(104,ao [.a] R.2.2.2.2.2.2.1),(105,ao [.a,.i 0] R.2.2.2.2.2.2.2.1),(106,ao [.a,.a] R.2.2.2.2.2.2.2.2.1),(107,ao [.a,.a,.i 0] R.2.2.2.2.2.2.2.2.2)]
abbrev ff(R:bQ):Prop:=ad gP (ar5 R)
abbrev Qq(K:KF)(F:aR):Prop:=aM 71 K [1,1,0,1,0] 302 [0,1,2] [.a,.a,.i 0] F
abbrev Qr(K:KF)(F:aR):Prop:=aM 71 K [1,1,0,1,1,1,0] 302 [0,1,2] [.a,.a,.i 0] F
abbrev qt(K:KF)(F:aR):Prop:=aM 71 K [0,0,1,0,1,1,1,0] 302 [0,1,2] [.a,.a,.i 0] F
abbrev Qs(K:KF)(F:aR):Prop:=aM 71 K [1,0,1,1,1,1,1,0] 302 [0,1,2] [.a,.a,.i 0] F
abbrev Qt(K:KF)(F:Ta):Prop:=aM 71 K [1,1,1,0,1,1,1,0] 302 [0] [.a] F
abbrev Qu(K:KF)(F:aR):Prop:=aM 71 K [1,0,0,0,0,1,0,1,1,1,0] 302 [0,1,2] [.a,.a,.i 0] F
abbrev Qv(K:KF)(F:aR):Prop:=aM 71 K [1,1,0,1,1,1,1,1,1,1,0] 302 [0,1,2] [.a,.a,.i 0] F
abbrev Qw(K:KF)(F:aR):Prop:=aM 71 K [1,0,1,1,1,1,1,1,1,1,1,0] 302 [0,1,2] [.a,.a,.i 0] F
abbrev Qx(K:KF)(F:aR):Prop:=aM 71 K [1,1,1,0,0,0,0,1,0,1,1,1,0] 302 [0,1,2] [.a,.a,.i 0] F
abbrev Cx(K:KF)(F:aR):Prop:=aM 71 K [1,1,1,0,1,1,1,1,1,1,1,1,1,0] 302 [0,1,2] [.a,.a,.i 0] F
abbrev KH(K:KF)(F:aR):Prop:=aM 71 K [1,0,1,1,1,1,1,1,1,1,1,1,1,1,1,0] 302 [0,1,2] [.a,.a,.i 0] F
abbrev KI(K:KF)(F:lX):Prop:=aM 71 K [1,1,1,1,1,1,1,1,1,1,1,1,1,1,1,1,0] 302 [0,1,2,8] [.a,.a,.i 0,.a] F
abbrev KJ(K:KF)(F:aR):Prop:=aM 71 K [1,1,0,1,0,1,1,0,1,1,1,1,1,1,1,1,1,0] 302 [0,1,2] [.a,.a,.i 0] F
abbrev KK(K:KF)(F:aR):Prop:=aM 71 K [1,1,1,1,0,1,1,0,1,1,1,1,1,1,1,1,1,0] 302 [0,1,2] [.a,.a,.i 0] F
abbrev KL(K:KF)(F:lX):Prop:=aM 71 K [1,1,1,1,1,1,1,1,1,1,1,1,1,1,1,1,1,1,0] 302 [0,1,2,8] [.a,.a,.i 0,.a] F
abbrev KM(K:KF)(F:bC):Prop:=aM 71 K [0,1,0,1,1,1,1,1,1,1,1,1,1,1,1,1,1,1,1,0] 302 [1,8] [.a,.a] F
abbrev KN(K:KF)(F:aR):Prop:=aM 71 K [1,1,1,1,1,1,0,1,1,0,1,1,1,1,1,1,1,1,1,0] 302 [0,1,2] [.a,.a,.i 0] F
def yf(R:bQ)(K:KF)(a0:AV)(H:AH):Prop:=R.2.2.2.2.2.2.2.2.1 a0 (.str 3 6581861) H λo1 H2=>cR K o1 H2 λv3=>K (.ret (.aY [])) H2
theorem afw{R:bQ}(hR:ff R){K:KF}:Qt K (yf R K):=λa0 H h=>pk hR .nil h
def Qy(R:bQ)(K:KF):Ta:=yf R K
theorem afx{R:bQ}(hR:ff R){K:KF}:Qt K (Qy R K):=afw hR
def G8(R:bQ)(K:KF)(x5:Ta)(a0 a1:AV)(a2:Int)(H:AH):Prop:=R.2.2.2.1 a0 (.str 4 1702063205) H λo1 H2=>cR K o1 H2 λv3=>bf v3 λz4=>bI z4 (aP a1 (al 4 a1 λv5=>ak v5 H2 λv6=>R.1 a0 a2 H2 λo7 H8=>cR K o7 H8 λv9=>ak v5 H8 λv10=>bT (aU v10 v6) (bG H8 (one v9 (aN (aA H8) 1 1 [v9] λv11 bL=>bT (Nat.beq bL.n (Nat.succ H8.n)) (dh 1 24 v6 v11 bL λv13 cN=>aP a1 (al 4 a1 λv15=>ae 1 v15 v13 cN λdm=>x5 a0 dm))))))) (x5 a0 H2)
theorem afy{R:bQ}(hR:ff R){K:KF}{x5:Ta}(h5:Qt K x5):Qr K (G8 R K x5):=λa0 a1 a2 H h=>pk hR (cc h5 .nil) h
def G9(R:bQ)(K:KF):aR:=G8 R K (Qy R K)
theorem afz{R:bQ}(hR:ff R){K:KF}:Qr K (G9 R K):=afy hR (afx hR)
def Hj(R:bQ)(K:KF)(x3 x2:aR)(a0 a1:AV)(a2:Int)(H:AH):Prop:=R.2.2.2.1 a0 (.str 6 112602859662437) H λo1 H2=>cR K o1 H2 λv3=>bf v3 λz4=>bI (!z4) (x2 a0 a1 a2 H2) (x3 a0 a1 a2 H2)
theorem afA{R:bQ}(hR:ff R){K:KF}{x3 x2:aR}(h3:qt K x3)(h2:Qr K x2):Qx K (Hj R K x3 x2):=λa0 a1 a2 H h=>pk hR (cc h3 (cc h2 .nil)) h
def Qz(R:bQ)(K:KF)(i3:aR):aR:=Hj R K i3 (G9 R K)
theorem afB{R:bQ}(hR:ff R){K:KF}{i3:aR}(g3:qt K i3):Qx K (Qz R K i3):=afA hR g3 (afz hR)
def Hl(R:bQ)(K:KF)(x9:aR)(a0 a1:AV)(a2:Int)(H:AH):Prop:=R.2.2.2.2.2.2.2.2.1 a0 (.str 4 1852139636) H λo1 H2=>cR K o1 H2 λv3=>aP a1 (al 4 a1 λv4=>ak v4 H2 λv5=>R.1 a0 a2 H2 λo6 H7=>cR K o6 H7 λv8=>ak v4 H7 λv9=>bT (aU v9 v5) (bG H7 (one v8 (aN (aA H7) 1 1 [v8] λv10 dZ=>bT (Nat.beq dZ.n (Nat.succ H7.n)) (dh 1 24 v5 v10 dZ λv12 dL=>aP a1 (al 4 a1 λv14=>ae 1 v14 v12 dL λeM=>x9 a0 a1 a2 eM))))))
theorem afC{R:bQ}(hR:ff R){K:KF}{x9:aR}(h9:Qx K x9):Qu K (Hl R K x9):=λa0 a1 a2 H h=>pk hR (cc h9 .nil) h
def QA(R:bQ)(K:KF)(i3:aR):aR:=Hl R K (Qz R K i3)
theorem afD{R:bQ}(hR:ff R){K:KF}{i3:aR}(g3:qt K i3):Qu K (QA R K i3):=afC hR (afB hR g3)
def Hm(R:bQ)(K:KF)(x6:aR)(a0 a1:AV)(a2:Int)(H:AH):Prop:=aP a1 (al 3 a1 λv1=>ak v1 H λv2=>dp v2 λv3=>cI 0 v3 λz4=>bG H (aN (aA H) 1 7 [(.int 0 (.ofNat 0)),(.int 0 (.ofNat 0)),(.int 0 (.ofNat 0)),(.str 0 0),(.int 0 (.ofNat 0)),.ab,.ab] λv5 H6=>bT (Nat.beq H6.n (Nat.succ H.n)) (R.2.2.2.2.2.1 a0 a2 H6 λo7 H8=>cR K o7 H8 λv9=>ak v1 H8 λv10=>bT (aU v10 v2) (dh 7 96 v2 v5 H8 λv11 bL=>cK 7 v11 (.int 0 z4) λv13=>aP a1 (al 3 a1 λv14=>ae 7 v13 v9 bL λeM=>ae 1 v14 v11 eM λdm=>ae 1 v14 v11 bL λgx=>ae 7 v13 v9 gx λdK=>ke 7 1 v13 v14 (x6 a0 a1 a2 dm))))))
theorem afE{R:bQ}(hR:ff R){K:KF}{x6:aR}(h6:Qu K x6):qt K (Hm R K x6):=λa0 a1 a2 H h=>pk hR (cc h6 .nil) h
def afF(R:bQ)(K:KF)(i3:aR):aR:=Hm R K (QA R K i3)
theorem afG{R:bQ}(hR:ff R){K:KF}{i3:aR}(g3:qt K i3):qt K (afF R K i3):=afE hR (afD hR g3)
def vi(R:bQ)(K:KF)(n:Nat):aR:=Nat.rec (motive:=λ_=>aR) (λ_ _ _ _=>False) (λ_ i=>afF R K i) n
theorem afH{R:bQ}(hR:ff R){K:KF}(n:Nat):qt K (vi R K n):=Nat.rec (motive:=λn=>qt K (vi R K n)) (λa0 a1 a2 H h=>h.elim) (λn ih=>afG hR ih) n
def Hn(R:bQ)(K:KF)(a0 a1:AV)(a2:Int)(H:AH):Prop:=R.2.2.2.2.2.2.2.2.1 a0 (.str 2 28516) H λo1 H2=>cR K o1 H2 λv3=>R.1 a0 a2 H2 λo4 H5=>cR K o4 H5 λv6=>one v6 (aN (aA H5) 1 1 [v6] λv7 H8=>aP a1 (al 4 a1 λv9=>ae 1 v9 v7 H8 λbJ=>R.2.2.2.2.2.2.2.2.1 a0 (.str 3 6581861) bJ λkj bL=>cR K kj bL λv13=>K (.ret (.aY [])) bL))
theorem afI{R:bQ}(hR:ff R){K:KF}:Qs K (Hn R K):=λa0 a1 a2 H h=>pk hR .nil h
def QB(R:bQ)(K:KF):aR:=Hn R K
theorem afJ{R:bQ}(hR:ff R){K:KF}:Qs K (QB R K):=afI hR
def Cy(R:bQ)(K:KF)(a0 a1:AV)(a2:Int)(H:AH):Prop:=R.2.2.2.2.2.2.2.2.1 a0 (.str 2 28516) H λo1 H2=>cR K o1 H2 λv3=>R.1 a0 a2 H2 λo4 H5=>cR K o4 H5 λv6=>one v6 (aN (aA H5) 1 1 [v6] λv7 H8=>aP a1 (al 4 a1 λv9=>ae 1 v9 v7 H8 λbJ=>R.2.2.2.2.2.2.2.2.1 a0 (.str 3 6581861) bJ λkj bL=>cR K kj bL λv13=>K (.ret (.aY [])) bL))
theorem Ze{R:bQ}(hR:ff R){K:KF}:Cx K (Cy R K):=λa0 a1 a2 H h=>pk hR .nil h
def uc(R:bQ)(K:KF):aR:=Cy R K
theorem Ho{R:bQ}(hR:ff R){K:KF}:Cx K (uc R K):=Ze hR
def Cz(R:bQ)(K:KF)(x10:aR)(a0 a1:AV)(a2:Int)(H:AH):Prop:=R.2.2.2.2.2.2.2.2.1 a0 (.str 2 28265) H λo1 H2=>cR K o1 H2 λv3=>R.2.2.2.2.2.1 a0 a2 H2 λo4 H5=>cR K o4 H5 λv6=>onVal v6 λl7=>dV l7 7 (aN (aA H5) 1 7 (spl l7 [(.int 0 (.ofNat 0)),(.int 0 (.ofNat 0)),(.int 0 (.ofNat 0)),(.str 0 0),(.int 0 (.ofNat 0)),.ab,.ab] 0) λv8 H9=>aP a1 (al 3 a1 λv10=>ae 1 v10 v8 H9 λdZ=>x10 a0 a1 a2 dZ))
theorem Zf{R:bQ}(hR:ff R){K:KF}{x10:aR}(h10:Cx K x10):KJ K (Cz R K x10):=λa0 a1 a2 H h=>pk hR (cc h10 .nil) h
def KO(R:bQ)(K:KF):aR:=Cz R K (uc R K)
theorem Zg{R:bQ}(hR:ff R){K:KF}:KJ K (KO R K):=Zf hR (Ho hR)
def CA(R:bQ)(K:KF)(x10:aR)(a0 a1:AV)(a2:Int)(H:AH):Prop:=R.2.2.2.1 a0 (.str 1 44) H λo1 H2=>cR K o1 H2 λv3=>bf v3 λz4=>bI z4 (aP a1 (al 3 a1 λv5=>ak v5 H2 λv6=>dp v6 λv7=>cI 0 v7 λz8=>bG H2 (aN (aA H2) 1 7 [(.int 0 (.ofNat 0)),(.int 0 (.ofNat 0)),(.int 0 (.ofNat 0)),(.str 0 0),(.int 0 (.ofNat 0)),.ab,.ab] λv9 bJ=>bT (Nat.beq bJ.n (Nat.succ H2.n)) (R.2.2.2.2.2.1 a0 a2 bJ λkj bL=>cR K kj bL λv13=>ak v5 bL λv14=>bT (aU v14 v6) (dh 7 96 v6 v9 bL λv15 dm=>cK 7 v15 (.int 0 z8) λv17=>aP a1 (al 3 a1 λv18=>ae 7 v17 v13 dm λib=>ae 1 v18 v15 ib λfD=>ae 1 v18 v15 dm λia=>ae 7 v17 v13 ia λgT=>ke 7 1 v17 v18 (x10 a0 a1 a2 fD))))))) (x10 a0 a1 a2 H2)
theorem Zh{R:bQ}(hR:ff R){K:KF}{x10:aR}(h10:Cx K x10):KN K (CA R K x10):=λa0 a1 a2 H h=>pk hR (cc h10 .nil) h
def KQ(R:bQ)(K:KF):aR:=CA R K (uc R K)
theorem Zi{R:bQ}(hR:ff R){K:KF}:KN K (KQ R K):=Zh hR (Ho hR)
def CB(R:bQ)(K:KF)(x17:aR)(a0 a1:AV)(a2:Int)(H:AH):Prop:=R.2.2.2.2.2.2.2.2.1 a0 (.str 1 44) H λo1 H2=>cR K o1 H2 λv3=>aP a1 (al 3 a1 λv4=>ak v4 H2 λv5=>dp v5 λv6=>cI 0 v6 λz7=>bG H2 (aN (aA H2) 1 7 [(.int 0 (.ofNat 0)),(.int 0 (.ofNat 0)),(.int 0 (.ofNat 0)),(.str 0 0),(.int 0 (.ofNat 0)),.ab,.ab] λv8 H9=>bT (Nat.beq H9.n (Nat.succ H2.n)) (R.2.2.2.2.2.1 a0 a2 H9 λsf dZ=>cR K sf dZ λv12=>ak v4 dZ λv13=>bT (aU v13 v5) (dh 7 96 v5 v8 dZ λv14 eM=>cK 7 v14 (.int 0 z7) λv16=>aP a1 (al 3 a1 λv17=>ae 7 v16 v12 eM λdK=>ae 1 v17 v14 dK λib=>ae 1 v17 v14 eM λfD=>ae 7 v16 v12 fD λia=>ke 7 1 v16 v17 (x17 a0 a1 a2 ib))))))
theorem Zj{R:bQ}(hR:ff R){K:KF}{x17:aR}(h17:KN K x17):KK K (CB R K x17):=λa0 a1 a2 H h=>pk hR (cc h17 .nil) h
def KS(R:bQ)(K:KF):aR:=CB R K (KQ R K)
theorem Zk{R:bQ}(hR:ff R){K:KF}:KK K (KS R K):=Zj hR (Zi hR)
def Hp(R:bQ)(K:KF)(s6 x14:aR)(a0 a1:AV)(a2:Int)(H:AH):Prop:=aP a1 (al 0 a1 λv1=>ae 1 v1 (.int 0 (.ofNat 6)) H λH2=>R.2.2.2.1 a0 (.str 1 44) H2 λo3 H4=>cR K o3 H4 λv5=>bf v5 λz6=>bI z6 (aP a1 (al 0 a1 λv7=>ae 1 v7 (.int 0 (.ofNat 7)) H4 λH8=>aP a1 (al 2 a1 λv9=>ak v9 H8 λv10=>R.2.2.2.2.2.2.1 a0 H8 λkj bL=>cR K kj bL λv13=>ak v9 bL λv14=>bT (aU v14 v10) (bG bL (one v13 (aN (aA bL) 1 1 [v13] λv15 dm=>bT (Nat.beq dm.n (Nat.succ bL.n)) (dh 1 16 v10 v15 dm λv17 dK=>aP a1 (al 2 a1 λv19=>ae 1 v19 v17 dK λfD=>s6 a0 a1 a2 fD)))))))) (R.2.2.2.2.2.2.2.2.1 a0 (.str 1 61) H4 λxT gT=>cR K xT gT λv23=>R.2.2.2.2.2.1 a0 a2 gT λo24 kZ=>cR K o24 kZ λv26=>onVal v26 λNk=>dV Nk 7 (aN (aA kZ) 1 7 (spl Nk [(.int 0 (.ofNat 0)),(.int 0 (.ofNat 0)),(.int 0 (.ofNat 0)),(.str 0 0),(.int 0 (.ofNat 0)),.ab,.ab] 0) λv28 uV=>aP a1 (al 3 a1 λv30=>ae 1 v30 v28 uV λnM=>x14 a0 a1 a2 nM))))
theorem afK{R:bQ}(hR:ff R){K:KF}{s6 x14:aR}(h13:KJ K s6)(QC:KK K x14):Qw K (Hp R K s6 x14):=λa0 a1 a2 H h=>pk hR (cc h13 (cc QC .nil)) h
def QD(R:bQ)(K:KF):aR:=Hp R K (KO R K) (KS R K)
theorem afL{R:bQ}(hR:ff R){K:KF}:Qw K (QD R K):=afK hR (Zg hR) (Zk hR)
def CC(R:bQ)(K:KF)(a0 a1:AV)(a2:Int)(H:AH):Prop:=R.1 a0 a2 H λo1 H2=>cR K o1 H2 λv3=>one v3 (aN (aA H2) 1 1 [v3] λv4 H5=>aP a1 (al 4 a1 λv6=>ae 1 v6 v4 H5 λH7=>R.2.2.2.2.2.2.2.2.1 a0 (.str 3 6581861) H7 λo8 H9=>cR K o8 H9 λv10=>K (.ret (.aY [])) H9))
theorem Zl{R:bQ}(hR:ff R){K:KF}:KH K (CC R K):=λa0 a1 a2 H h=>pk hR .nil h
def KU(R:bQ)(K:KF):aR:=CC R K
theorem Zm{R:bQ}(hR:ff R){K:KF}:KH K (KU R K):=Zl hR
def Hq(R:bQ)(K:KF)(a0 a1:AV)(a2:Int)(H:AH):Prop:=R.2.2.2.1 a0 (.str 1 61) H λo1 H2=>cR K o1 H2 λv3=>bf v3 λz4=>bI z4 (R.2.2.2.2.2.1 a0 a2 H2 λo5 H6=>cR K o5 H6 λv7=>onVal v7 λl8=>dV l8 7 (aN (aA H6) 1 7 (spl l8 [(.int 0 (.ofNat 0)),(.int 0 (.ofNat 0)),(.int 0 (.ofNat 0)),(.str 0 0),(.int 0 (.ofNat 0)),.ab,.ab] 0) λv9 bJ=>aP a1 (al 3 a1 λv11=>ae 1 v11 v9 bJ λbL=>K (.ret (.aY [])) bL))) (K (.ret (.aY [])) H2)
theorem afM{R:bQ}(hR:ff R){K:KF}:Qq K (Hq R K):=λa0 a1 a2 H h=>pk hR .nil h
def QE(R:bQ)(K:KF):aR:=Hq R K
theorem afN{R:bQ}(hR:ff R){K:KF}:Qq K (QE R K):=afM hR
def Hr(R:bQ)(K:KF)(a0 a1:AV)(a2:Int)(H:AH):Prop:=R.2.2.2.2.2.1 a0 a2 H λo1 H2=>cR K o1 H2 λv3=>onVal v3 λl4=>dV l4 7 (aN (aA H2) 1 7 (spl l4 [(.int 0 (.ofNat 0)),(.int 0 (.ofNat 0)),(.int 0 (.ofNat 0)),(.str 0 0),(.int 0 (.ofNat 0)),.ab,.ab] 0) λv5 H6=>aP a1 (al 0 a1 λv7=>ae 1 v7 (.int 0 (.ofNat 8)) H6 λH8=>aP a1 (al 3 a1 λv9=>ae 1 v9 v5 H8 λbJ=>K (.ret (.aY [])) bJ)))
theorem afO{R:bQ}(hR:ff R){K:KF}:Qv K (Hr R K):=λa0 a1 a2 H h=>pk hR .nil h
def QF(R:bQ)(K:KF):aR:=Hr R K
theorem afP{R:bQ}(hR:ff R){K:KF}:Qv K (QF R K):=afO hR
def CE(R:bQ)(K:KF)(a1 a8:AV)(H:AH):Prop:=aF 7 a8 H λv1=>bG H (onVal v1 λl2=>dV l2 7 (aN (aA H) 1 7 (spl l2 [(.int 0 (.ofNat 0)),(.int 0 (.ofNat 0)),(.int 0 (.ofNat 0)),(.str 0 0),(.int 0 (.ofNat 0)),.ab,.ab] 0) λv3 H4=>bT (Nat.beq H4.n (Nat.succ H.n)) (aP a1 (al 0 a1 λv5=>ae 1 v5 (.int 0 (.ofNat 3)) H4 λH6=>aF 7 a8 H6 λv7=>bT (aU v7 v1) (aP a1 (al 3 a1 λv8=>ae 1 v8 v3 H6 λH9=>K (.ret (.aY [])) H9))))))
theorem Zn{R:bQ}(hR:ff R){K:KF}:KM K (CE R K):=λa1 a8 H h=>pk hR .nil h
def CF(R:bQ)(K:KF):bC:=CE R K
theorem Zo{R:bQ}(hR:ff R){K:KF}:KM K (CF R K):=Zn hR
def CG(R:bQ)(K:KF)(a0 a1:AV)(a2:Int)(a8:AV)(H:AH):Prop:=R.2.2.2.2.2.2.2.2.1 a0 (.str 1 61) H λo1 H2=>cR K o1 H2 λv3=>aF 7 a8 H2 λv4=>R.2.2.2.2.2.1 a0 a2 H2 λo5 H6=>cR K o5 H6 λv7=>aF 7 a8 H6 λv8=>bT (aU v8 v4) (bG H6 (onVal v4 λl9=>dV l9 7 (onVal v7 λl10=>dV l10 7 (aN (aA H6) 2 7 (spl l10 (spl l9 [(.int 0 (.ofNat 0)),(.int 0 (.ofNat 0)),(.int 0 (.ofNat 0)),(.str 0 0),(.int 0 (.ofNat 0)),.ab,.ab,(.int 0 (.ofNat 0)),(.int 0 (.ofNat 0)),(.int 0 (.ofNat 0)),(.str 0 0),(.int 0 (.ofNat 0)),.ab,.ab] 0) 7) λv11 bL=>bT (Nat.beq bL.n (Nat.succ H6.n)) (aP a1 (al 0 a1 λv13=>ae 1 v13 (.int 0 (.ofNat 2)) bL λcN=>aF 7 a8 cN λv15=>bT (aU v15 v4) (aP a1 (al 3 a1 λv16=>ae 1 v16 v11 cN λgx=>K (.ret (.aY [])) gx))))))))
theorem Zp{R:bQ}(hR:ff R){K:KF}:KL K (CG R K):=λa0 a1 a2 a8 H h=>pk hR .nil h
def CH(R:bQ)(K:KF):lX:=CG R K
theorem Zq{R:bQ}(hR:ff R){K:KF}:KL K (CH R K):=Zp hR
def CI(R:bQ)(K:KF)(x16:bC)(x15:lX)(a0 a1:AV)(a2:Int)(a8:AV)(H:AH):Prop:=al 0 a8 λv1=>ak v1 H λv2=>cI 0 v2 λz3=>bI (bj z3 (.ofNat 10)) (R.2.2.2.2.1 a0 (.str 1 61) H λo4 H5=>cR K o4 H5 λv6=>bf v6 λz7=>bI (!z7) (x16 a1 a8 H5) (al 0 a8 λv8=>ak v8 H5 λv9=>cI 0 v9 λz10=>bI (bj z10 (.ofNat 10)) (R.2.1 a0 (.ofNat 14) H5 λkj bL=>cR K kj bL λv13=>x15 a0 a1 a2 a8 bL) (x15 a0 a1 a2 a8 H5))) (al 0 a8 λv14=>ak v14 H λv15=>cI 0 v15 λki=>bI (bj ki (.ofNat 10)) (R.2.1 a0 (.ofNat 14) H λqn dK=>cR K qn dK λv19=>x15 a0 a1 a2 a8 dK) (x15 a0 a1 a2 a8 H))
theorem Zr{R:bQ}(hR:ff R){K:KF}{x16:bC}{x15:lX}(h16:KM K x16)(h15:KL K x15):KI K (CI R K x16 x15):=λa0 a1 a2 a8 H h=>pk hR (cc h16 (cc h15 .nil)) h
def KV(R:bQ)(K:KF):lX:=CI R K (CF R K) (CH R K)
theorem Zs{R:bQ}(hR:ff R){K:KF}:KI K (KV R K):=Zr hR (Zo hR) (Zq hR)
def QG(R:bQ)(K:KF)(x3 x4 x8 x11 x1 x7:aR)(x12:lX)(a0 a1:AV)(a2:Int)(H:AH):Prop:=R.2.2.2.1 a0 (.str 5 465490374508) H λo1 H2=>cR K o1 H2 λv3=>bf v3 λz4=>bI z4 (R.2.2.2.1 a0 (.str 8 7957695015192261990) H2 λo5 H6=>cR K o5 H6 λv7=>bf v7 λz8=>bI z8 (R.2.2.2.2.2.2.1 a0 H6 λo9 bJ=>cR K o9 bJ λv11=>one v11 (aN (aA bJ) 1 1 [v11] λv12 dL=>aP a1 (al 2 a1 λv14=>ae 1 v14 v12 dL λeM=>R.2.2.1 a0 eM λo16 gx=>cR K o16 gx λv18=>cI 0 v18 λsn=>R.2.2.2.2.2.2.2.1 a0 a2 gx λGF ia=>cR K GF ia λv22=>onVal v22 λVA=>dV VA 2 (aN (aA ia) 1 2 (spl VA [.ab,.ab] 0) λv24 kZ=>one v24 (aN (aA kZ) 1 7 [(.int 0 (.ofNat 7)),(.int 0 sn),(.int 0 (.ofNat 0)),(.str 0 0),(.int 0 (.ofNat 0)),.ab,v24] λv26 kB=>aP a1 (al 0 a1 λv28=>ae 1 v28 (.int 0 (.ofNat 12)) kB λuV=>aP a1 (al 3 a1 λv30=>ae 1 v30 v26 uV λnM=>K (.ret (.aY [])) nM))))))) (R.2.2.2.2.2.2.1 a0 H6 λo32 GH=>cR K o32 GH λv34=>one v34 (aN (aA GH) 1 1 [v34] λv35 Am=>aP a1 (al 0 a1 λv37=>ae 1 v37 (.int 0 (.ofNat 1)) Am λoB=>aP a1 (al 2 a1 λv39=>ae 1 v39 v35 oB λH40=>x1 a0 a1 a2 H40))))) (R.2.2.2.1 a0 (.str 2 26217) H2 λo41 nN=>cR K o41 nN λv43=>bf v43 λz44=>bI z44 (aP a1 (al 0 a1 λv45=>ae 1 v45 (.int 0 (.ofNat 4)) nN λH46=>x3 a0 a1 a2 H46)) (R.2.2.2.1 a0 (.str 5 435610544247) nN λo47 uU=>cR K o47 uU λv49=>bf v49 λz50=>bI z50 (R.2.2.2.2.2.1 a0 a2 uU λo51 Nh=>cR K o51 Nh λv53=>onVal v53 λl54=>dV l54 7 (aN (aA Nh) 1 7 (spl l54 [(.int 0 (.ofNat 0)),(.int 0 (.ofNat 0)),(.int 0 (.ofNat 0)),(.str 0 0),(.int 0 (.ofNat 0)),.ab,.ab] 0) λv55 H56=>aP a1 (al 0 a1 λv57=>ae 1 v57 (.int 0 (.ofNat 5)) H56 λU3=>aP a1 (al 3 a1 λv59=>ae 1 v59 v55 U3 λH60=>x4 a0 a1 a2 H60)))) (R.2.2.2.1 a0 (.str 6 127961662514546) uU λo61 QH=>cR K o61 QH λv63=>bf v63 λz64=>bI z64 (R.1 a0 a2 QH λo65 En=>cR K o65 En λv67=>one v67 (aN (aA En) 1 1 [v67] λv68 H69=>aP a1 (al 4 a1 λv70=>ae 1 v70 v68 H69 λPU=>R.2.2.2.2.2.2.2.2.1 a0 (.str 5 465625706101) PU λo72 Nl=>cR K o72 Nl λv74=>x7 a0 a1 a2 Nl))) (R.2.2.2.1 a0 (.str 3 7499622) QH λo75 H76=>cR K o75 H76 λv77=>bf v77 λz78=>bI z78 (R.2.2.2.2.2.2.1 a0 H76 λo79 Gu=>cR K o79 Gu λv81=>one v81 (aN (aA Gu) 1 1 [v81] λv82 H83=>aP a1 (al 2 a1 λv84=>ae 1 v84 v82 H83 λH85=>x8 a0 a1 a2 H85))) (R.2.2.2.1 a0 (.str 5 461195539042) H76 λo86 Vh=>cR K o86 Vh λv88=>bf v88 λz89=>bI z89 (aP a1 (al 0 a1 λv90=>ae 1 v90 (.int 0 (.ofNat 9)) Vh λH91=>K (.ret (.aY [])) H91)) (R.2.2.2.1 a0 (.str 2 28516) Vh λo92 H93=>cR K o92 H93 λv94=>bf v94 λz95=>bI z95 (aP a1 (al 0 a1 λv96=>ae 1 v96 (.int 0 (.ofNat 11)) H93 λH97=>x11 a0 a1 a2 H97)) (R.2.2.1 a0 H93 λo98 H99=>cR K o98 H99 λavH=>cI 0 avH λavI=>R.2.2.2.2.2.2.1 a0 H99 λavJ ar6=>cR K avJ ar6 λar7=>one ar7 (R.2.2.2.2.2.2.2.2.2 a0 (.agg [(.int 0 (.ofNat 6)),(.int 0 avI),(.int 0 (.ofNat 0)),ar7,(.int 0 (.ofNat 0)),.ab,.ab]) a2 ar6 λavK alH=>cR K avK alH λv107=>cw alH (cx gP (aA alH) 49 λar8 avL=>ae 7 ar8 v107 avL λavM=>x12 a0 a1 a2 ar8 avM)))))))))
theorem afQ{R:bQ}(hR:ff R){K:KF}{x3 x4 x8 x11 x1 x7:aR}{x12:lX}(h3:qt K x3)(h4:Qs K x4)(h8:Qw K x8)(h11:KH K x11)(h1:Qq K x1)(h7:Qv K x7)(h12:KI K x12)(a0 a1:AV)(a2:Int)(H:AH)(h:QG R K x3 x4 x8 x11 x1 x7 x12 a0 a1 a2 H):dw 71 K [] (ba (di 71) [a0,a1,(.int 0 a2)]) [] H:=pk hR (cc h3 (cc h4 (cc h8 (cc h11 (cc h1 (cc h7 (cc h12 .nil))))))) h
def afR(R:bQ)(K:KF):aR:=QG R K (vi R K NL) (QB R K) (QD R K) (KU R K) (QE R K) (QF R K) (KV R K)
def Hs(R:bQ):AV→AV→Int→AH→KF→Prop:=λa0 a1 a2 H K=>afR R K a0 a1 a2 H
theorem apg(R:bQ)(hR:ff R):av gP 71 (ao [.a,.a,.i 0] (Hs R)):=rk λK a0 a1 a2 H h=>afQ hR (afH hR NL) (afJ hR) (afL hR) (Zm hR) (afN hR) (afP hR) (Zs hR) a0 a1 a2 H h
abbrev cY:Type:=(AV→AH→KF→Prop)×(AV→AV→AH→KF→Prop)×(AV→Int→Int→AH→KF→Prop)×(AV→Int→AH→KF→Prop)×(AV→Int→AH→KF→Prop)
def aph(R:cY):List (Nat×cP):=[(67,ao [.a] R.1),(69,ao [.a,.a] R.2.1),(103,ao [.a,.i 0,.i 0] R.2.2.1),(134,ao [.a,.i 0] R.2.2.2.1),(135,ao [.a,.i 0] R.2.2.2.2)]
abbrev iF(R:cY):Prop:=ad gP (aph R)
abbrev KW(K:KF)(F:FZ):Prop:=aM 103 K [1,1,1,1,1] 101 [0,1,2,6,7] [.a,.i 0,.i 0,.a,.a] F
abbrev KX(K:KF)(F:ep):Prop:=aM 103 K [1,1,1,1,1,1,1] 101 [0,1,2,6,7,8,9] [.a,.i 0,.i 0,.a,.a,.a,.a] F
abbrev kE(K:KF)(F:ep):Prop:=aM 103 K [0,1,1,1,1,1,1,1] 101 [0,1,2,6,7,8,9] [.a,.i 0,.i 0,.a,.a,.a,.a] F
abbrev KY(K:KF)(F:jf):Prop:=aM 103 K [1,1,0,0,0,1,1,1,1,1,1,1] 101 [0,1,2,6,7,8,9,10] [.a,.i 0,.i 0,.a,.a,.a,.a,.i 0] F
abbrev rv(K:KF)(F:jf):Prop:=aM 103 K [0,0,1,0,0,0,1,1,1,1,1,1,1] 101 [0,1,2,6,7,8,9,10] [.a,.i 0,.i 0,.a,.a,.a,.a,.i 0] F
abbrev KZ(K:KF)(F:tB):Prop:=aM 103 K [1,1,1,1,1,0,0,0,1,1,1,1,1,1,1] 101 [0,1,2,6,7,8,9,10,11] [.a,.i 0,.i 0,.a,.a,.a,.a,.i 0,.i 0] F
abbrev K0(K:KF)(F:jP):Prop:=aM 103 K [1,1,1,1,1,1,1,1,0,0,0,1,1,1,1,1,1,1] 101 [0,1,2,6,7,8,9,10,11,12,13] [.a,.i 0,.i 0,.a,.a,.a,.a,.i 0,.i 0,.a,.i 0] F
abbrev K1(K:KF)(F:jP):Prop:=aM 103 K [1,1,1,1,1,1,1,1,1,0,0,0,1,1,1,1,1,1,1] 101 [0,1,2,6,7,8,9,10,11,12,13] [.a,.i 0,.i 0,.a,.a,.a,.a,.i 0,.i 0,.a,.i 0] F
def CJ(R:cY)(K:KF)(x3:ep)(a0:AV)(a1 a2:Int)(a6 a7 a8 a9:AV)(a10 a11:Int)(a12:AV)(jv:Int)(H:AH):Prop:=cK 1 a8 (.int 0 a10) λv1=>ak v1 H λv2=>cI 0 v2 λz3=>aF 7 a9 H λv4=>aF 7 a12 H λv5=>bG H (onVal v4 λl6=>dV l6 7 (onVal v5 λl7=>dV l7 7 (aN (aA H) 2 7 (spl l7 (spl l6 [(.int 0 (.ofNat 0)),(.int 0 (.ofNat 0)),(.int 0 (.ofNat 0)),(.str 0 0),(.int 0 (.ofNat 0)),.ab,.ab,(.int 0 (.ofNat 0)),(.int 0 (.ofNat 0)),(.int 0 (.ofNat 0)),(.str 0 0),(.int 0 (.ofNat 0)),.ab,.ab] 0) 7) λv8 H9=>bT (Nat.beq H9.n (Nat.succ H.n)) (one v8 (ae 7 a9 (.agg [(.int 0 jv),(.int 0 a11),(.int 0 (.ofNat 0)),(.str 0 0),(.int 0 z3),v8,.ab]) H9 λbJ=>x3 a0 a1 a2 a6 a7 a8 a9 bJ)))))
theorem Zt{R:cY}(hR:iF R){K:KF}{x3:ep}(h3:kE K x3):K1 K (CJ R K x3):=λa0 a1 a2 a6 a7 a8 a9 a10 a11 a12 jv H h=>pk hR (cc h3 .nil) h
def CK(R:cY)(K:KF)(i3:ep):jP:=CJ R K i3
theorem Zu{R:cY}(hR:iF R){K:KF}{i3:ep}(g3:kE K i3):K1 K (CK R K i3):=Zt hR g3
def CL(R:cY)(K:KF)(x8:jP)(a0:AV)(a1 a2:Int)(a6 a7 a8 a9:AV)(a10 a11:Int)(a12:AV)(jv:Int)(H:AH):Prop:=bI (bj a1 (.ofNat 1)) (x8 a0 a1 a2 a6 a7 a8 a9 a10 a11 a12 (.ofNat 15) H) (x8 a0 a1 a2 a6 a7 a8 a9 a10 a11 a12 jv H)
theorem Zv{R:cY}(hR:iF R){K:KF}{x8:jP}(h8:K1 K x8):K0 K (CL R K x8):=λa0 a1 a2 a6 a7 a8 a9 a10 a11 a12 jv H h=>pk hR (cc h8 .nil) h
def CM(R:cY)(K:KF)(i3:ep):jP:=CL R K (CK R K i3)
theorem Zw{R:cY}(hR:iF R){K:KF}{i3:ep}(g3:kE K i3):K0 K (CM R K i3):=Zv hR (Zu hR g3)
def CN(R:cY)(K:KF)(x7:jP)(a0:AV)(a1 a2:Int)(a6 a7 a8 a9:AV)(a10 a11:Int)(H:AH):Prop:=aJ 0 (Int.add a1 (.ofNat 1)) λz1=>R.2.2.1 a0 z1 a2 H λo2 H3=>cR K o2 H3 λv4=>cw H3 (cx gP (aA H3) 49 λv5 H6=>ae 7 v5 v4 H6 λH7=>bI (bj a1 (.ofNat 0)) (x7 a0 a1 a2 a6 a7 a8 a9 a10 a11 v5 (.ofNat 16) H7) (x7 a0 a1 a2 a6 a7 a8 a9 a10 a11 v5 (.ofNat 14) H7))
theorem Zx{R:cY}(hR:iF R){K:KF}{x7:jP}(h7:K0 K x7):KZ K (CN R K x7):=λa0 a1 a2 a6 a7 a8 a9 a10 a11 H h=>pk hR (cc h7 .nil) h
def K3(R:cY)(K:KF)(i3:ep):tB:=CN R K (CM R K i3)
theorem Zy{R:cY}(hR:iF R){K:KF}{i3:ep}(g3:kE K i3):KZ K (K3 R K i3):=Zx hR (Zw hR g3)
def CO(R:cY)(K:KF)(x6:tB)(a0:AV)(a1 a2:Int)(a6 a7 a8 a9:AV)(a10:Int)(H:AH):Prop:=dp a7 λv1=>cI 0 v1 λz2=>bI (bj a10 z2) (aF 7 a9 H λv3=>ae 7 a6 v3 H λH4=>aF 7 a6 H4 λv5=>K (.ret v5) H4) (R.1 a0 H λo6 H7=>cR K o6 H7 λv8=>cI 0 v8 λz9=>aP a0 (al 1 a0 λv10=>ak v10 H7 λv11=>cI 0 v11 λz12=>aJ 0 (Int.add z12 (.ofNat 1)) λz13=>aP a0 (al 1 a0 λv14=>ae 1 v14 (.int 0 z13) H7 λeM=>x6 a0 a1 a2 a6 a7 a8 a9 a10 z9 eM)))
theorem Zz{R:cY}(hR:iF R){K:KF}{x6:tB}(h6:KZ K x6):KY K (CO R K x6):=λa0 a1 a2 a6 a7 a8 a9 a10 H h=>pk hR (cc h6 .nil) h
def CP(R:cY)(K:KF)(i3:ep):jf:=CO R K (K3 R K i3)
theorem ZA{R:cY}(hR:iF R){K:KF}{i3:ep}(g3:kE K i3):KY K (CP R K i3):=Zz hR (Zy hR g3)
def CQ(R:cY)(K:KF)(x5 x4:jf)(a0:AV)(a1 a2:Int)(a6 a7 a8 a9:AV)(a10:Int)(H:AH):Prop:=dp a7 λv1=>cI 0 v1 λz2=>bI (cg a10 z2) (cK 1 a7 (.int 0 a10) λv3=>ak v3 H λv4=>R.2.1 a0 v4 H λo5 H6=>cR K o5 H6 λv7=>bf v7 λz8=>bI (!z8) (aJ 0 (Int.add a10 (.ofNat 1)) λz9=>x5 a0 a1 a2 a6 a7 a8 a9 z9 H6) (x4 a0 a1 a2 a6 a7 a8 a9 a10 H6)) (x4 a0 a1 a2 a6 a7 a8 a9 a10 H)
theorem ZB{R:cY}(hR:iF R){K:KF}{x5 x4:jf}(h5:rv K x5)(h4:KY K x4):rv K (CQ R K x5 x4):=λa0 a1 a2 a6 a7 a8 a9 a10 H h=>pk hR (cc h5 (cc h4 .nil)) h
def VB(R:cY)(K:KF)(i3:ep)(i5:jf):jf:=CQ R K i5 (CP R K i3)
theorem ZC{R:cY}(hR:iF R){K:KF}{i3:ep}{i5:jf}(g3:kE K i3)(g5:rv K i5):rv K (VB R K i3 i5):=ZB hR g5 (ZA hR g3)
def ud(R:cY)(K:KF)(i3:ep)(n:Nat):jf:=Nat.rec (motive:=λ_=>jf) (λ_ _ _ _ _ _ _ _ _=>False) (λ_ i=>VB R K i3 i) n
theorem ZD{R:cY}(hR:iF R){K:KF}{i3:ep}(g3:kE K i3)(n:Nat):rv K (ud R K i3 n):=Nat.rec (motive:=λn=>rv K (ud R K i3 n)) (λa0 a1 a2 a6 a7 a8 a9 a10 H h=>h.elim) (λn ih=>ZC hR g3 ih) n
def CR(R:cY)(K:KF)(x5:jf)(a0:AV)(a1 a2:Int)(a6 a7 a8 a9:AV)(H:AH):Prop:=x5 a0 a1 a2 a6 a7 a8 a9 (.ofNat 0) H
theorem ZE{R:cY}(hR:iF R){K:KF}{x5:jf}(h5:rv K x5):kE K (CR R K x5):=λa0 a1 a2 a6 a7 a8 a9 H h=>pk hR (cc h5 .nil) h
def K4(R:cY)(K:KF)(i3:ep):ep:=CR R K (ud R K i3 NL)
theorem ZF{R:cY}(hR:iF R){K:KF}{i3:ep}(g3:kE K i3):kE K (K4 R K i3):=ZE hR (ZD hR g3 NL)
def CS(R:cY)(K:KF)(n:Nat):ep:=Nat.rec (motive:=λ_=>ep) (λ_ _ _ _ _ _ _ _=>False) (λ_ i=>K4 R K i) n
theorem ZG{R:cY}(hR:iF R){K:KF}(n:Nat):kE K (CS R K n):=Nat.rec (motive:=λn=>kE K (CS R K n)) (λa0 a1 a2 a6 a7 a8 a9 H h=>h.elim) (λn ih=>ZF hR ih) n
def K5(R:cY)(K:KF)(x3:ep)(a0:AV)(a1 a2:Int)(a6 a7 a8 a9:AV)(H:AH):Prop:=x3 a0 a1 a2 a6 a7 a8 a9 H
theorem ZH{R:cY}(hR:iF R){K:KF}{x3:ep}(h3:kE K x3):KX K (K5 R K x3):=λa0 a1 a2 a6 a7 a8 a9 H h=>pk hR (cc h3 .nil) h
def K6(R:cY)(K:KF):ep:=K5 R K (CS R K NL)
theorem ZI{R:cY}(hR:iF R){K:KF}:KX K (K6 R K):=ZH hR (ZG hR NL)
def K7(R:cY)(K:KF)(x2:ep)(a0:AV)(a1 a2:Int)(a6 a7:AV)(H:AH):Prop:=aN (aA H) 1 1 [(.int 0 (.ofNat 0))] λv1 H2=>aN (aA H2) 1 1 [(.int 0 (.ofNat 0))] λv3 H4=>aN (aA H4) 6 1 [(.int 0 (.ofNat 7)),(.int 0 (.ofNat 8)),(.int 0 (.ofNat 9)),(.int 0 (.ofNat 10)),(.int 0 (.ofNat 11)),(.int 0 (.ofNat 12))] λv5 H6=>aN (aA H6) 2 1 [(.int 0 (.ofNat 1)),(.int 0 (.ofNat 2))] λv7 H8=>aN (aA H8) 3 1 [(.int 0 (.ofNat 3)),(.int 0 (.ofNat 4)),(.int 0 (.ofNat 5))] λv9 bJ=>one v1 (one v3 (one v5 (one v7 (one v9 (aN (aA bJ) 6 1 [v1,v3,v5,.ab,v7,v9] λv11 bL=>cK 1 v11 (.int 0 a1) λv13=>ak v13 bL λv14=>aJ 0 (Int.add a1 (.ofNat 1)) λlA=>R.2.2.1 a0 lA a2 bL λo16 gx=>cR K o16 gx λv18=>cw gx (cx gP (aA gx) 49 λv19 fD=>ae 7 v19 v18 fD λia=>x2 a0 a1 a2 a6 a7 v14 v19 ia))))))
theorem ZJ{R:cY}(hR:iF R){K:KF}{x2:ep}(h2:KX K x2):KW K (K7 R K x2):=λa0 a1 a2 a6 a7 H h=>pk hR (cc h2 .nil) h
def yg(R:cY)(K:KF):FZ:=K7 R K (K6 R K)
theorem ZK{R:cY}(hR:iF R){K:KF}:KW K (yg R K):=ZJ hR (ZI hR)
def ry(R:cY)(K:KF)(x1:FZ)(a0:AV)(a1 a2:Int)(H:AH):Prop:=cw H (cx gP (aA H) 49 λv1 H2=>aP a0 (al 2 a0 λv3=>ak v3 H2 λv4=>cI 0 v4 λz5=>bI (!(bj z5 (.ofNat 0))) (ae 7 v1 (.agg [(.int 0 (.ofNat 0)),(.int 0 (.ofNat 0)),(.int 0 (.ofNat 0)),(.str 0 0),(.int 0 (.ofNat 0)),.ab,.ab]) H2 λH6=>aF 7 v1 H6 λv7=>K (.ret v7) H6) (bI (bj a1 (.ofNat 3)) (R.2.2.2.1 a0 a2 H2 λo8 H9=>cR K o8 H9 λv10=>ae 7 v1 v10 H9 λdZ=>aF 7 v1 dZ λv12=>K (.ret v12) dZ) (bI (bj a1 (.ofNat 6)) (R.2.2.2.2 a0 a2 H2 λmP cN=>cR K mP cN λv15=>ae 7 v1 v15 cN λdm=>aF 7 v1 dm λv17=>K (.ret v17) dm) (aN (aA H2) 1 1 [(.str 2 29295)] λv18 ib=>aN (aA ib) 1 1 [(.str 3 6581857)] λv20 ia=>aN (aA ia) 6 1 [(.str 2 15677),(.str 2 15742),(.str 1 60),(.str 2 15676),(.str 1 62),(.str 2 15678)] λv22 nz=>aN (aA nz) 2 1 [(.str 1 43),(.str 1 45)] λv24 kZ=>aN (aA kZ) 3 1 [(.str 1 42),(.str 2 12079),(.str 1 37)] λv26 kB=>one v18 (one v20 (one v22 (one v24 (one v26 (aN (aA kB) 6 1 [v18,v20,v22,.ab,v24,v26] λv28 uV=>cK 1 v28 (.int 0 a1) λv30=>ak v30 uV λv31=>x1 a0 a1 a2 v1 v31 uV))))))))))
theorem ZL{R:cY}(hR:iF R){K:KF}{x1:FZ}(h1:KW K x1)(a0:AV)(a1 a2:Int)(H:AH)(h:ry R K x1 a0 a1 a2 H):dw 103 K [] (ba (di 103) [a0,(.int 0 a1),(.int 0 a2)]) [] H:=pk hR (cc h1 .nil) h
def VC(R:cY)(K:KF):ka:=ry R K (yg R K)
def Bg(R:cY):AV→Int→Int→AH→KF→Prop:=λa0 a1 a2 H K=>VC R K a0 a1 a2 H
theorem alI(R:cY)(hR:iF R):av gP 103 (ao [.a,.i 0,.i 0] (Bg R)):=rk λK a0 a1 a2 H h=>ZL hR (ZK hR) a0 a1 a2 H h
abbrev fV:Type:=(AV→Int→AH→KF→Prop)×(AV→AV→AH→KF→Prop)×(AV→AH→KF→Prop)×(AV→AV→AH→KF→Prop)×(AV→Int→Int→AH→KF→Prop)
def api(R:fV):List (Nat×cP):=[(27,ao [.a,.i 0] R.1),(68,ao [.a,.a] R.2.1),(104,ao [.a] R.2.2.1),(106,ao [.a,.a] R.2.2.2.1),(136,ao [.a,.i 0,.i 0] R.2.2.2.2)]
abbrev nU(R:fV):Prop:=ad gP (api R)
abbrev CT(K:KF)(F:bZ):Prop:=aM 105 K [1,1,1,1] 40 [0,1,4,5] [.a,.i 0,.a,.a] F
abbrev CU(K:KF)(F:bZ):Prop:=aM 105 K [1,0,1,0,1,1,1] 40 [0,1,4,5] [.a,.i 0,.a,.a] F
abbrev pQ(K:KF)(F:bZ):Prop:=aM 105 K [0,0,0,1,0,1,1,1] 40 [0,1,4,5] [.a,.i 0,.a,.a] F
abbrev K8(K:KF)(F:bZ):Prop:=aM 105 K [1,1,0,1,0,0,0,0,1,0,1,1,1] 40 [0,1,4,5] [.a,.i 0,.a,.a] F
def CV(R:fV)(K:KF)(a0:AV)(a1:Int)(a4 a5:AV)(H:AH):Prop:=R.1 a0 a1 H λo1 H2=>cR K o1 H2 λv3=>al 1 a5 λv4=>ae 1 v4 v3 H2 λH5=>R.2.2.2.1 a0 (.str 3 6581861) H5 λo6 H7=>cR K o6 H7 λv8=>aF 2 a5 H7 λv9=>ae 2 a4 v9 H7 λbJ=>aF 2 a4 bJ λv11=>K (.ret v11) bJ
theorem ZM{R:fV}(hR:nU R){K:KF}:CT K (CV R K):=λa0 a1 a4 a5 H h=>pk hR .nil h
def yh(R:fV)(K:KF):bZ:=CV R K
theorem Ht{R:fV}(hR:nU R){K:KF}:CT K (yh R K):=ZM hR
def CW(R:fV)(K:KF)(x1:bZ)(a0:AV)(a1:Int)(a4 a5:AV)(H:AH):Prop:=R.2.2.2.1 a0 (.str 1 41) H λo1 H2=>cR K o1 H2 λv3=>x1 a0 a1 a4 a5 H2
theorem ZN{R:fV}(hR:nU R){K:KF}{x1:bZ}(h1:CT K x1):CU K (CW R K x1):=λa0 a1 a4 a5 H h=>pk hR (cc h1 .nil) h
def ue(R:fV)(K:KF):bZ:=CW R K (yh R K)
theorem Hu{R:fV}(hR:nU R){K:KF}:CU K (ue R K):=ZN hR (Ht hR)
def CX(R:fV)(K:KF)(x3 x2:bZ)(a0:AV)(a1:Int)(a4 a5:AV)(H:AH):Prop:=R.2.1 a0 (.str 1 44) H λo1 H2=>cR K o1 H2 λv3=>bf v3 λz4=>bI (!z4) (x2 a0 a1 a4 a5 H2) (x3 a0 a1 a4 a5 H2)
theorem ZO{R:fV}(hR:nU R){K:KF}{x3 x2:bZ}(h3:pQ K x3)(h2:CU K x2):K8 K (CX R K x3 x2):=λa0 a1 a4 a5 H h=>pk hR (cc h3 (cc h2 .nil)) h
def K9(R:fV)(K:KF)(i3:bZ):bZ:=CX R K i3 (ue R K)
theorem ZP{R:fV}(hR:nU R){K:KF}{i3:bZ}(g3:pQ K i3):K8 K (K9 R K i3):=ZO hR g3 (Hu hR)
def CY(R:fV)(K:KF)(x2 x4:bZ)(a0:AV)(a1:Int)(a4 a5:AV)(H:AH):Prop:=aP a0 (al 2 a0 λv1=>ak v1 H λv2=>cI 0 v2 λz3=>bI (bj z3 (.ofNat 0)) (al 0 a5 λv4=>ak v4 H λv5=>dp v5 λv6=>cI 0 v6 λz7=>R.2.2.2.2 a0 z7 (.ofNat 16) H λo8 H9=>cR K o8 H9 λv10=>al 0 a5 λv11=>ak v11 H9 λv12=>R.2.2.1 a0 H9 λmP cN=>cR K mP cN λv15=>ak v11 cN λv16=>bT (aU v16 v12) (bG cN (one v15 (aN (aA cN) 1 1 [v15] λv17 dK=>bT (Nat.beq dK.n (Nat.succ cN.n)) (dh 1 16 v12 v17 dK λv19 fD=>al 0 a5 λv21=>ae 1 v21 v19 fD λgT=>x4 a0 a1 a4 a5 gT))))) (x2 a0 a1 a4 a5 H))
theorem ZQ{R:fV}(hR:nU R){K:KF}{x2 x4:bZ}(h2:CU K x2)(h4:K8 K x4):pQ K (CY R K x2 x4):=λa0 a1 a4 a5 H h=>pk hR (cc h2 (cc h4 .nil)) h
def La(R:fV)(K:KF)(i3:bZ):bZ:=CY R K (ue R K) (K9 R K i3)
theorem ZR{R:fV}(hR:nU R){K:KF}{i3:bZ}(g3:pQ K i3):pQ K (La R K i3):=ZQ hR (Hu hR) (ZP hR g3)
def CZ(R:fV)(K:KF)(n:Nat):bZ:=Nat.rec (motive:=λ_=>bZ) (λ_ _ _ _ _=>False) (λ_ i=>La R K i) n
theorem ZS{R:fV}(hR:nU R){K:KF}(n:Nat):pQ K (CZ R K n):=Nat.rec (motive:=λn=>pQ K (CZ R K n)) (λa0 a1 a4 a5 H h=>h.elim) (λn ih=>ZR hR ih) n
def Lb(R:fV)(K:KF)(x3 x1:bZ)(a0:AV)(a1:Int)(H:AH):Prop:=cw H (gE (aA H) [.ab,.ab] λv1 H2=>cw H2 (gE (aA H2) [.ab,.ab] λv3 H4=>R.2.2.2.1 a0 (.str 1 40) H4 λo5 H6=>cR K o5 H6 λv7=>R.2.1 a0 (.str 1 41) H6 λo8 H9=>cR K o8 H9 λv10=>bf v10 λz11=>bI (!z11) (x3 a0 a1 v1 v3 H9) (x1 a0 a1 v1 v3 H9)))
theorem ZT{R:fV}(hR:nU R){K:KF}{x3 x1:bZ}(h3:pQ K x3)(h1:CT K x1)(a0:AV)(a1:Int)(H:AH)(h:Lb R K x3 x1 a0 a1 H):dw 105 K [] (ba (di 105) [a0,(.int 0 a1)]) [] H:=pk hR (cc h3 (cc h1 .nil)) h
def VD(R:fV)(K:KF):dX:=Lb R K (CZ R K NL) (yh R K)
def Bh(R:fV):AV→Int→AH→KF→Prop:=λa0 a1 H K=>VD R K a0 a1 H
theorem alJ(R:fV)(hR:nU R):av gP 105 (ao [.a,.i 0] (Bh R)):=rk λK a0 a1 H h=>ZT hR (ZS hR NL) (Ht hR) a0 a1 H h
abbrev cQ:Type:=(AV→AH→KF→Prop)×(AV→AV→AH→KF→Prop)×(AV→Int→AH→KF→Prop)×(AV→AH→KF→Prop)×(AV→AV→AH→KF→Prop)×(AV→Int→Int→AH→KF→Prop)
def apj(R:cQ):List (Nat×cP):=[(67,ao [.a] R.1),(68,ao [.a,.a] R.2.1),(70,ao [.a,.i 0] R.2.2.1),(104,ao [.a] R.2.2.2.1),(106,ao [.a,.a] R.2.2.2.2.1),(136,ao [.a,.i 0,.i 0] R.2.2.2.2.2)]
abbrev gX(R:cQ):Prop:=ad gP (apj R)
abbrev Lc(K:KF)(F:bC):Prop:=aM 107 K [1,1] 79 [4,6] [.a,.a] F
abbrev iG(K:KF)(F:bZ):Prop:=aM 107 K [0,0,1] 79 [0,2,4,6] [.a,.i 0,.a,.a] F
abbrev Ld(K:KF)(F:bR):Prop:=aM 107 K [1,0,1,0,1,0,1,0,0,0,1] 79 [0,2,4,6,7,8] [.a,.i 0,.a,.a,.i 0,.a] F
abbrev Le(K:KF)(F:bR):Prop:=aM 107 K [1,0,1,1,1,0,1,0,1,0,0,0,1] 79 [0,2,4,6,7,9] [.a,.i 0,.a,.a,.i 0,.a] F
abbrev Lf(K:KF)(F:bR):Prop:=aM 107 K [1,0,1,1,1,1,1,0,1,0,1,0,0,0,1] 79 [0,2,4,6,7,10] [.a,.i 0,.a,.a,.i 0,.a] F
abbrev C5(K:KF)(F:bR):Prop:=aM 107 K [1,1,0,1,1,1,1,1,0,1,0,1,0,0,0,1] 79 [0,2,4,6,7,10] [.a,.i 0,.a,.a,.i 0,.a] F
abbrev C6(K:KF)(F:bR):Prop:=aM 107 K [1,0,1,0,1,0,1,1,1,1,1,0,1,0,1,0,0,0,1] 79 [0,2,4,6,7,10] [.a,.i 0,.a,.a,.i 0,.a] F
abbrev pR(K:KF)(F:bR):Prop:=aM 107 K [0,0,0,1,0,1,0,1,1,1,1,1,0,1,0,1,0,0,0,1] 79 [0,2,4,6,7,10] [.a,.i 0,.a,.a,.i 0,.a] F
abbrev Lg(K:KF)(F:bR):Prop:=aM 107 K [1,1,0,1,0,0,0,0,1,0,1,0,1,1,1,1,1,0,1,0,1,0,0,0,1] 79 [0,2,4,6,7,10] [.a,.i 0,.a,.a,.i 0,.a] F
def C7(R:cQ)(K:KF)(x2:bZ)(a0:AV)(a2:Int)(a4 a6:AV)(a7:Int)(a8:AV)(H:AH):Prop:=R.2.2.2.1 a0 H λo1 H2=>cR K o1 H2 λv3=>al 3 a8 λv4=>ae 1 v4 v3 H2 λH5=>aF 7 a4 H5 λv6=>aF 7 a8 H5 λv7=>onVal v6 λl8=>dV l8 7 (onVal v7 λl9=>dV l9 7 (aN (aA H5) 2 7 (spl l9 (spl l8 [(.int 0 (.ofNat 0)),(.int 0 (.ofNat 0)),(.int 0 (.ofNat 0)),(.str 0 0),(.int 0 (.ofNat 0)),.ab,.ab,(.int 0 (.ofNat 0)),(.int 0 (.ofNat 0)),(.int 0 (.ofNat 0)),(.str 0 0),(.int 0 (.ofNat 0)),.ab,.ab] 0) 7) λv10 dZ=>one v10 (ae 7 a4 (.agg [(.int 0 (.ofNat 9)),(.int 0 a7),(.int 0 (.ofNat 0)),(.str 0 0),(.int 0 (.ofNat 0)),v10,.ab]) dZ λbL=>x2 a0 a2 a4 a6 bL)))
theorem ZU{R:cQ}(hR:gX R){K:KF}{x2:bZ}(h2:iG K x2):Ld K (C7 R K x2):=λa0 a2 a4 a6 a7 a8 H h=>pk hR (cc h2 .nil) h
def Lh(R:cQ)(K:KF)(i2:bZ):bR:=C7 R K i2
theorem ZV{R:cQ}(hR:gX R){K:KF}{i2:bZ}(g2:iG K i2):Ld K (Lh R K i2):=ZU hR g2
def C8(R:cQ)(K:KF)(x2:bZ)(a0:AV)(a2:Int)(a4 a6:AV)(a7:Int)(a9:AV)(H:AH):Prop:=R.2.2.2.2.1 a0 (.str 1 93) H λo1 H2=>cR K o1 H2 λv3=>aF 7 a4 H2 λv4=>aF 7 a9 H2 λv5=>onVal v4 λl6=>dV l6 7 (onVal v5 λl7=>dV l7 7 (aN (aA H2) 2 7 (spl l7 (spl l6 [(.int 0 (.ofNat 0)),(.int 0 (.ofNat 0)),(.int 0 (.ofNat 0)),(.str 0 0),(.int 0 (.ofNat 0)),.ab,.ab,(.int 0 (.ofNat 0)),(.int 0 (.ofNat 0)),(.int 0 (.ofNat 0)),(.str 0 0),(.int 0 (.ofNat 0)),.ab,.ab] 0) 7) λv8 H9=>one v8 (ae 7 a4 (.agg [(.int 0 (.ofNat 9)),(.int 0 a7),(.int 0 (.ofNat 0)),(.str 0 0),(.int 0 (.ofNat 0)),v8,.ab]) H9 λbJ=>x2 a0 a2 a4 a6 bJ)))
theorem ZW{R:cQ}(hR:gX R){K:KF}{x2:bZ}(h2:iG K x2):Le K (C8 R K x2):=λa0 a2 a4 a6 a7 a9 H h=>pk hR (cc h2 .nil) h
def Li(R:cQ)(K:KF)(i2:bZ):bR:=C8 R K i2
theorem ZX{R:cQ}(hR:gX R){K:KF}{i2:bZ}(g2:iG K i2):Le K (Li R K i2):=ZW hR g2
def C9(R:cQ)(K:KF)(x2:bZ)(a0:AV)(a2:Int)(a4 a6:AV)(a7:Int)(a10:AV)(H:AH):Prop:=one a10 (ae 7 a4 (.agg [(.int 0 (.ofNat 10)),(.int 0 a7),(.int 0 (.ofNat 0)),(.str 0 0),(.int 0 (.ofNat 0)),a10,.ab]) H λH1=>x2 a0 a2 a4 a6 H1)
theorem ZY{R:cQ}(hR:gX R){K:KF}{x2:bZ}(h2:iG K x2):C5 K (C9 R K x2):=λa0 a2 a4 a6 a7 a10 H h=>pk hR (cc h2 .nil) h
def yi(R:cQ)(K:KF)(i2:bZ):bR:=C9 R K i2
theorem Hv{R:cQ}(hR:gX R){K:KF}{i2:bZ}(g2:iG K i2):C5 K (yi R K i2):=ZY hR g2
def Da(R:cQ)(K:KF)(x6:bR)(a0:AV)(a2:Int)(a4 a6:AV)(a7:Int)(a10:AV)(H:AH):Prop:=R.2.2.2.2.1 a0 (.str 1 41) H λo1 H2=>cR K o1 H2 λv3=>x6 a0 a2 a4 a6 a7 a10 H2
theorem ZZ{R:cQ}(hR:gX R){K:KF}{x6:bR}(h6:C5 K x6):C6 K (Da R K x6):=λa0 a2 a4 a6 a7 a10 H h=>pk hR (cc h6 .nil) h
def uf(R:cQ)(K:KF)(i2:bZ):bR:=Da R K (yi R K i2)
theorem Hw{R:cQ}(hR:gX R){K:KF}{i2:bZ}(g2:iG K i2):C6 K (uf R K i2):=ZZ hR (Hv hR g2)
def Db(R:cQ)(K:KF)(x8 x7:bR)(a0:AV)(a2:Int)(a4 a6:AV)(a7:Int)(a10:AV)(H:AH):Prop:=R.2.1 a0 (.str 1 44) H λo1 H2=>cR K o1 H2 λv3=>bf v3 λz4=>bI (!z4) (x7 a0 a2 a4 a6 a7 a10 H2) (x8 a0 a2 a4 a6 a7 a10 H2)
theorem Z0{R:cQ}(hR:gX R){K:KF}{x8 x7:bR}(h8:pR K x8)(h7:C6 K x7):Lg K (Db R K x8 x7):=λa0 a2 a4 a6 a7 a10 H h=>pk hR (cc h8 (cc h7 .nil)) h
def Dc(R:cQ)(K:KF)(i2:bZ)(i8:bR):bR:=Db R K i8 (uf R K i2)
theorem Z1{R:cQ}(hR:gX R){K:KF}{i2:bZ}{i8:bR}(g2:iG K i2)(g8:pR K i8):Lg K (Dc R K i2 i8):=Z0 hR g8 (Hw hR g2)
def Dd(R:cQ)(K:KF)(x7 x9:bR)(a0:AV)(a2:Int)(a4 a6:AV)(a7:Int)(a10:AV)(H:AH):Prop:=aP a0 (al 2 a0 λv1=>ak v1 H λv2=>cI 0 v2 λz3=>bI (bj z3 (.ofNat 0)) (dp a10 λv4=>cI 0 v4 λz5=>aJ 0 (Int.sub z5 (.ofNat 1)) λz6=>R.2.2.2.2.2 a0 z6 (.ofNat 16) H λo7 H8=>cR K o7 H8 λv9=>R.2.2.1 a0 a2 H8 λsf dZ=>cR K sf dZ λv12=>onVal v12 λl13=>dV l13 7 (aN (aA dZ) 1 7 (spl l13 [(.int 0 (.ofNat 0)),(.int 0 (.ofNat 0)),(.int 0 (.ofNat 0)),(.str 0 0),(.int 0 (.ofNat 0)),.ab,.ab] 0) λv14 eM=>dh 7 96 a10 v14 eM λv16 gx=>x9 a0 a2 a4 a6 a7 v16 gx)) (x7 a0 a2 a4 a6 a7 a10 H))
theorem Z2{R:cQ}(hR:gX R){K:KF}{x7 x9:bR}(h7:C6 K x7)(h9:Lg K x9):pR K (Dd R K x7 x9):=λa0 a2 a4 a6 a7 a10 H h=>pk hR (cc h7 (cc h9 .nil)) h
def Lj(R:cQ)(K:KF)(i2:bZ)(i8:bR):bR:=Dd R K (uf R K i2) (Dc R K i2 i8)
theorem Z3{R:cQ}(hR:gX R){K:KF}{i2:bZ}{i8:bR}(g2:iG K i2)(g8:pR K i8):pR K (Lj R K i2 i8):=Z2 hR (Hw hR g2) (Z1 hR g2 g8)
def yj(R:cQ)(K:KF)(i2:bZ)(n:Nat):bR:=Nat.rec (motive:=λ_=>bR) (λ_ _ _ _ _ _ _=>False) (λ_ i=>Lj R K i2 i) n
theorem Z4{R:cQ}(hR:gX R){K:KF}{i2:bZ}(g2:iG K i2)(n:Nat):pR K (yj R K i2 n):=Nat.rec (motive:=λn=>pR K (yj R K i2 n)) (λa0 a2 a4 a6 a7 a10 H h=>h.elim) (λn ih=>Z3 hR g2 ih) n
def De(R:cQ)(K:KF)(x8 x6:bR)(a0:AV)(a2:Int)(a4 a6:AV)(a7:Int)(a10:AV)(H:AH):Prop:=R.2.1 a0 (.str 1 41) H λo1 H2=>cR K o1 H2 λv3=>bf v3 λz4=>bI (!z4) (x8 a0 a2 a4 a6 a7 a10 H2) (x6 a0 a2 a4 a6 a7 a10 H2)
theorem Z5{R:cQ}(hR:gX R){K:KF}{x8 x6:bR}(h8:pR K x8)(h6:C5 K x6):Lf K (De R K x8 x6):=λa0 a2 a4 a6 a7 a10 H h=>pk hR (cc h8 (cc h6 .nil)) h
def Lk(R:cQ)(K:KF)(i2:bZ):bR:=De R K (yj R K i2 NL) (yi R K i2)
theorem Z6{R:cQ}(hR:gX R){K:KF}{i2:bZ}(g2:iG K i2):Lf K (Lk R K i2):=Z5 hR (Z4 hR g2 NL) (Hv hR g2)
def VE(R:cQ)(K:KF)(a4 a6:AV)(H:AH):Prop:=aF 7 a4 H λv1=>ae 7 a6 v1 H λH2=>aF 7 a6 H2 λv3=>K (.ret v3) H2
theorem Z7{R:cQ}(hR:gX R){K:KF}:Lc K (VE R K):=λa4 a6 H h=>pk hR .nil h
def Ll(R:cQ)(K:KF):bC:=VE R K
theorem Z8{R:cQ}(hR:gX R){K:KF}:Lc K (Ll R K):=Z7 hR
def Df(R:cQ)(K:KF)(x3 x4 x5:bR)(x1:bC)(a0:AV)(a2:Int)(a4 a6:AV)(H:AH):Prop:=aP a0 (al 2 a0 λv1=>ak v1 H λv2=>cI 0 v2 λz3=>bI (bj z3 (.ofNat 0)) (R.1 a0 H λo4 H5=>cR K o4 H5 λv6=>cI 0 v6 λz7=>R.2.1 a0 (.str 1 46) H5 λo8 H9=>cR K o8 H9 λv10=>bf v10 λz11=>bI z11 (R.1 a0 H9 λxK dL=>cR K xK dL λv14=>cI 0 v14 λlA=>cw dL (cx gP (aA dL) 49 λv16 gx=>ae 7 v16 (.agg [(.int 0 (.ofNat 5)),(.int 0 lA),(.int 0 (.ofNat 0)),(.str 0 0),(.int 0 (.ofNat 0)),.ab,.ab]) gx λdK=>x3 a0 a2 a4 a6 z7 v16 dK)) (R.2.1 a0 (.str 1 91) H9 λxL fD=>cR K xL fD λv21=>bf v21 λz22=>bI z22 (R.2.2.1 a0 a2 fD λxI fS=>cR K xI fS λv25=>cw fS (cx gP (aA fS) 49 λv26 kB=>ae 7 v26 v25 kB λwu=>x4 a0 a2 a4 a6 z7 v26 wu)) (R.2.1 a0 (.str 1 40) fD λo29 uW=>cR K o29 uW λv31=>bf v31 λz32=>bI z32 (aF 7 a4 uW λv33=>onVal v33 λl34=>dV l34 7 (aN (aA uW) 1 7 (spl l34 [(.int 0 (.ofNat 0)),(.int 0 (.ofNat 0)),(.int 0 (.ofNat 0)),(.str 0 0),(.int 0 (.ofNat 0)),.ab,.ab] 0) λv35 Am=>x5 a0 a2 a4 a6 z7 v35 Am)) (aF 7 a4 uW λv37=>ae 7 a6 v37 uW λoB=>aF 7 a6 oB λv39=>K (.ret v39) oB)))) (x1 a4 a6 H))
theorem Z9{R:cQ}(hR:gX R){K:KF}{x3 x4 x5:bR}{x1:bC}(h3:Ld K x3)(h4:Le K x4)(h5:Lf K x5)(h1:Lc K x1):iG K (Df R K x3 x4 x5 x1):=λa0 a2 a4 a6 H h=>pk hR (cc h3 (cc h4 (cc h5 (cc h1 .nil)))) h
def Lm(R:cQ)(K:KF)(i2:bZ):bZ:=Df R K (Lh R K i2) (Li R K i2) (Lk R K i2) (Ll R K)
theorem aaa{R:cQ}(hR:gX R){K:KF}{i2:bZ}(g2:iG K i2):iG K (Lm R K i2):=Z9 hR (ZV hR g2) (ZX hR g2) (Z6 hR g2) (Z8 hR)
def Dg(R:cQ)(K:KF)(n:Nat):bZ:=Nat.rec (motive:=λ_=>bZ) (λ_ _ _ _ _=>False) (λ_ i=>Lm R K i) n
theorem aab{R:cQ}(hR:gX R){K:KF}(n:Nat):iG K (Dg R K n):=Nat.rec (motive:=λn=>iG K (Dg R K n)) (λa0 a2 a4 a6 H h=>h.elim) (λn ih=>aaa hR ih) n
def Ln(R:cQ)(K:KF)(x2:bZ)(a0 a1:AV)(a2:Int)(H:AH):Prop:=JG (aA H) a1 λv1 H2=>cw H2 (cx gP (aA H2) 49 λv3 H4=>x2 a0 a2 v1 v3 H4)
theorem aac{R:cQ}(hR:gX R){K:KF}{x2:bZ}(h2:iG K x2)(a0 a1:AV)(a2:Int)(H:AH)(h:Ln R K x2 a0 a1 a2 H):dw 107 K [] (ba (di 107) [a0,a1,(.int 0 a2)]) [] H:=pk hR (cc h2 .nil) h
def VF(R:cQ)(K:KF):aR:=Ln R K (Dg R K NL)
def Bi(R:cQ):AV→AV→Int→AH→KF→Prop:=λa0 a1 a2 H K=>VF R K a0 a1 a2 H
theorem alK(R:cQ)(hR:gX R):av gP 107 (ao [.a,.a,.i 0] (Bi R)):=rk λK a0 a1 a2 H h=>aac hR (aab hR NL) a0 a1 a2 H h
abbrev mT:Type:=(AV→Int→AH→KF→Prop)×(AV→AH→KF→Prop)×(AV→AV→AH→KF→Prop)×(AV→Int→Int→AH→KF→Prop)×(AV→Int→AH→KF→Prop)
def apk(R:mT):List (Nat×cP):=[(65,ao [.a,.i 0] R.1),(67,ao [.a] R.2.1),(68,ao [.a,.a] R.2.2.1),(103,ao [.a,.i 0,.i 0] R.2.2.2.1),(134,ao [.a,.i 0] R.2.2.2.2)]
abbrev Hx(R:mT):Prop:=ad gP (apk R)
abbrev Lo(K:KF)(F:dJ):Prop:=aM 134 K [1,1,1,1,1,1] 36 [0,1,4,5,6] [.a,.i 0,.a,.a,.i 0] F
def yk(R:mT)(K:KF)(a0:AV)(a1:Int)(a4 a5:AV)(a6:Int)(H:AH):Prop:=aJ 0 (Int.add a1 (.ofNat 1)) λz1=>R.2.2.2.2 a0 z1 H λo2 H3=>cR K o2 H3 λv4=>cw H3 (cx gP (aA H3) 49 λv5 H6=>ae 7 v5 v4 H6 λH7=>aF 7 a5 H7 λv8=>aF 7 v5 H7 λv9=>onVal v8 λl10=>dV l10 7 (onVal v9 λEm=>dV Em 7 (aN (aA H7) 2 7 (spl Em (spl l10 [(.int 0 (.ofNat 0)),(.int 0 (.ofNat 0)),(.int 0 (.ofNat 0)),(.str 0 0),(.int 0 (.ofNat 0)),.ab,.ab,(.int 0 (.ofNat 0)),(.int 0 (.ofNat 0)),(.int 0 (.ofNat 0)),(.str 0 0),(.int 0 (.ofNat 0)),.ab,.ab] 0) 7) λv12 dL=>one v12 (ae 7 a4 (.agg [(.int 0 (.ofNat 14)),(.int 0 a6),(.int 0 (.ofNat 0)),(.str 0 0),(.int 0 (.ofNat 6)),v12,.ab]) dL λcN=>aF 7 a4 cN λv15=>K (.ret v15) cN))))
theorem aad{R:mT}(hR:Hx R){K:KF}:Lo K (yk R K):=λa0 a1 a4 a5 a6 H h=>pk hR .nil h
def VG(R:mT)(K:KF):dJ:=yk R K
theorem aae{R:mT}(hR:Hx R){K:KF}:Lo K (VG R K):=aad hR
def Dh(R:mT)(K:KF)(x1:dJ)(a0:AV)(a1:Int)(H:AH):Prop:=cw H (cx gP (aA H) 49 λv1 H2=>R.2.2.2.1 a0 (.ofNat 4) a1 H2 λo3 H4=>cR K o3 H4 λv5=>cw H4 (cx gP (aA H4) 49 λv6 H7=>ae 7 v6 v5 H7 λH8=>R.2.1 a0 H8 λo9 bJ=>cR K o9 bJ λv11=>cI 0 v11 λz12=>R.2.2.1 a0 (.str 2 11822) bJ λmP cN=>cR K mP cN λv15=>bf v15 λki=>bI (!ki) (aF 7 v6 cN λv17=>ae 7 v1 v17 cN λdK=>aF 7 v1 dK λv19=>K (.ret v19) dK) (aJ 0 (Int.add a1 (.ofNat 1)) λz20=>R.1 a0 z20 cN λxT gT=>cR K xT gT λv23=>aP a0 (al 2 a0 λv24=>ak v24 gT λv25=>cI 0 v25 λz26=>bI (!(bj z26 (.ofNat 0))) (aF 7 v6 gT λv27=>ae 7 v1 v27 gT λwu=>aF 7 v1 wu λv29=>K (.ret v29) wu) (x1 a0 a1 v1 v6 z12 gT)))))
theorem aaf{R:mT}(hR:Hx R){K:KF}{x1:dJ}(h1:Lo K x1)(a0:AV)(a1:Int)(H:AH)(h:Dh R K x1 a0 a1 H):dw 134 K [] (ba (di 134) [a0,(.int 0 a1)]) [] H:=pk hR (cc h1 .nil) h
def apl(R:mT)(K:KF):dX:=Dh R K (VG R K)
def QI(R:mT):AV→Int→AH→KF→Prop:=λa0 a1 H K=>apl R K a0 a1 H
theorem alL(R:mT)(hR:Hx R):av gP 134 (ao [.a,.i 0] (QI R)):=rk λK a0 a1 H h=>aaf hR (aae hR) a0 a1 H h
abbrev mU:Type:=(AV→Int→AH→KF→Prop)×(AV→AH→KF→Prop)×(AV→AV→AH→KF→Prop)×(AV→Int→AH→KF→Prop)×(AV→Int→AH→KF→Prop)
def apm(R:mU):List (Nat×cP):=[(65,ao [.a,.i 0] R.1),(67,ao [.a] R.2.1),(68,ao [.a,.a] R.2.2.1),(135,ao [.a,.i 0] R.2.2.2.1),(167,ao [.a,.i 0] R.2.2.2.2)]
abbrev Hy(R:mU):Prop:=ad gP (apm R)
abbrev Lp(K:KF)(F:jq):Prop:=aM 135 K [1,1,1,1] 39 [0,1,4,5,6] [.a,.i 0,.a,.i 0,.i 0] F
def yl(R:mU)(K:KF)(a0:AV)(a1:Int)(a4:AV)(a5 a6:Int)(H:AH):Prop:=aJ 0 (Int.add a1 (.ofNat 1)) λz1=>R.1 a0 z1 H λo2 H3=>cR K o2 H3 λv4=>aP a0 (al 2 a0 λv5=>ak v5 H3 λv6=>cI 0 v6 λz7=>bI (!(bj z7 (.ofNat 0))) (ae 7 a4 (.agg [(.int 0 (.ofNat 0)),(.int 0 (.ofNat 0)),(.int 0 (.ofNat 0)),(.str 0 0),(.int 0 (.ofNat 0)),.ab,.ab]) H3 λH8=>aF 7 a4 H8 λv9=>K (.ret v9) H8) (aJ 0 (Int.add a1 (.ofNat 1)) λz10=>R.2.2.2.1 a0 z10 H3 λkj bL=>cR K kj bL λv13=>onVal v13 λl14=>dV l14 7 (aN (aA bL) 1 7 (spl l14 [(.int 0 (.ofNat 0)),(.int 0 (.ofNat 0)),(.int 0 (.ofNat 0)),(.str 0 0),(.int 0 (.ofNat 0)),.ab,.ab] 0) λv15 dm=>one v15 (ae 7 a4 (.agg [(.int 0 a6),(.int 0 a5),(.int 0 (.ofNat 0)),(.str 0 0),(.int 0 (.ofNat 0)),v15,.ab]) dm λgx=>aF 7 a4 gx λv18=>K (.ret v18) gx))))
theorem aag{R:mU}(hR:Hy R){K:KF}:Lp K (yl R K):=λa0 a1 a4 a5 a6 H h=>pk hR .nil h
def VH(R:mU)(K:KF):jq:=yl R K
theorem aah{R:mU}(hR:Hy R){K:KF}:Lp K (VH R K):=aag hR
def Di(R:mU)(K:KF)(x1:jq)(a0:AV)(a1:Int)(H:AH):Prop:=cw H (cx gP (aA H) 49 λv1 H2=>R.2.1 a0 H2 λo3 H4=>cR K o3 H4 λv5=>cI 0 v5 λz6=>R.2.2.1 a0 (.str 3 7630702) H4 λo7 H8=>cR K o7 H8 λv9=>bf v9 λz10=>bI z10 (x1 a0 a1 v1 z6 (.ofNat 11) H8) (R.2.2.1 a0 (.str 1 45) H8 λkj bL=>cR K kj bL λv13=>bf v13 λmn=>bI mn (x1 a0 a1 v1 z6 (.ofNat 12) bL) (R.2.2.1 a0 (.str 1 35) bL λvd dm=>cR K vd dm λv17=>bf v17 λA9=>bI A9 (x1 a0 a1 v1 z6 (.ofNat 13) dm) (R.2.2.2.2 a0 a1 dm λxL fD=>cR K xL fD λv21=>ae 7 v1 v21 fD λgT=>aF 7 v1 gT λv23=>K (.ret v23) gT))))
theorem aai{R:mU}(hR:Hy R){K:KF}{x1:jq}(h1:Lp K x1)(a0:AV)(a1:Int)(H:AH)(h:Di R K x1 a0 a1 H):dw 135 K [] (ba (di 135) [a0,(.int 0 a1)]) [] H:=pk hR (cc h1 .nil) h
def apn(R:mU)(K:KF):dX:=Di R K (VH R K)
def QJ(R:mU):AV→Int→AH→KF→Prop:=λa0 a1 H K=>apn R K a0 a1 H
theorem alM(R:mU)(hR:Hy R):av gP 135 (ao [.a,.i 0] (QJ R)):=rk λK a0 a1 H h=>aai hR (aah hR) a0 a1 H h
abbrev eV:Type:=(AV→Int→AH→KF→Prop)×(AV→AH→KF→Prop)×(AV→AV→AH→KF→Prop)×(AV→Int→AH→KF→Prop)×(AV→Int→AH→KF→Prop)×(AV→AV→AH→KF→Prop)×(AV→AV→Int→AH→KF→Prop)×(AV→Int→Int→AH→KF→Prop)
def apo(R:eV):List (Nat×cP):=[(28,ao [.a,.i 0] R.1),(67,ao [.a] R.2.1),(68,ao [.a,.a] R.2.2.1),(70,ao [.a,.i 0] R.2.2.2.1),(105,ao [.a,.i 0] R.2.2.2.2.1),(106,ao [.a,.a] R.2.2.2.2.2.1),(107,ao [.a,.a,.i 0] R.2.2.2.2.2.2.1),(186,ao [.a,.i 0,.i 0] R.2.2.2.2.2.2.2)]
abbrev lE(R:eV):Prop:=ad gP (apo R)
abbrev Lq(K:KF)(F:se):Prop:=aM 167 K [1,1,1] 121 [0,1,4,5,6] [.a,.i 0,.a,.i 0,.a] F
abbrev Lr(K:KF)(F:bC):Prop:=aM 167 K [1,1,1,1] 121 [0,4] [.a,.a] F
abbrev Ls(K:KF)(F:se):Prop:=aM 167 K [1,0,1,1,1,0,0,1,1,1] 121 [0,1,4,5,6] [.a,.i 0,.a,.i 0,.a] F
abbrev Lt(K:KF)(F:bZ):Prop:=aM 167 K [1,0,1,1,1,1,1,0,0,1,1,1] 121 [0,1,4,7] [.a,.i 0,.a,.a] F
abbrev Lu(K:KF)(F:kL):Prop:=aM 167 K [1,0,1,1,1,1,1,1,1,0,0,1,1,1] 121 [4,5,6] [.a,.i 0,.a] F
abbrev Lv(K:KF)(F:kL):Prop:=aM 167 K [1,0,1,1,1,1,1,1,1,1,1,0,0,1,1,1] 121 [4,5,6] [.a,.i 0,.a] F
def Dj(R:eV)(K:KF)(a0:AV)(a1:Int)(a4:AV)(a5:Int)(a6:AV)(H:AH):Prop:=al 1 a6 λv1=>ak v1 H λv2=>one v2 (R.2.2.2.2.2.2.1 a0 (.agg [(.int 0 (.ofNat 6)),(.int 0 a5),(.int 0 (.ofNat 0)),v2,(.int 0 (.ofNat 0)),.ab,.ab]) a1 H λo3 H4=>cR K o3 H4 λv5=>ae 7 a4 v5 H4 λH6=>aF 7 a4 H6 λv7=>K (.ret v7) H6)
theorem aaj{R:eV}(hR:lE R){K:KF}:Ls K (Dj R K):=λa0 a1 a4 a5 a6 H h=>pk hR .nil h
def Lw(R:eV)(K:KF):se:=Dj R K
theorem aak{R:eV}(hR:lE R){K:KF}:Ls K (Lw R K):=aaj hR
def Dk(R:eV)(K:KF)(a0:AV)(a1:Int)(a4 a7:AV)(H:AH):Prop:=R.2.2.2.2.2.1 a0 (.str 1 41) H λo1 H2=>cR K o1 H2 λv3=>aF 7 a7 H2 λv4=>R.2.2.2.2.2.2.1 a0 v4 a1 H2 λo5 H6=>cR K o5 H6 λv7=>ae 7 a4 v7 H6 λH8=>aF 7 a4 H8 λv9=>K (.ret v9) H8
theorem aal{R:eV}(hR:lE R){K:KF}:Lt K (Dk R K):=λa0 a1 a4 a7 H h=>pk hR .nil h
def Ly(R:eV)(K:KF):bZ:=Dk R K
theorem aam{R:eV}(hR:lE R){K:KF}:Lt K (Ly R K):=aal hR
def Dl(R:eV)(K:KF)(a4:AV)(a5:Int)(a6:AV)(H:AH):Prop:=al 2 a6 λv1=>ak v1 H λv2=>cI 0 v2 λz3=>ae 7 a4 (.agg [(.int 0 (.ofNat 4)),(.int 0 a5),(.int 0 z3),(.str 0 0),(.int 0 (.ofNat 0)),.ab,.ab]) H λH4=>aF 7 a4 H4 λv5=>K (.ret v5) H4
theorem aan{R:eV}(hR:lE R){K:KF}:Lu K (Dl R K):=λa4 a5 a6 H h=>pk hR .nil h
def Lz(R:eV)(K:KF):kL:=Dl R K
theorem aao{R:eV}(hR:lE R){K:KF}:Lu K (Lz R K):=aan hR
def Dm(R:eV)(K:KF)(a4:AV)(a5:Int)(a6:AV)(H:AH):Prop:=al 1 a6 λv1=>ak v1 H λv2=>one v2 (ae 7 a4 (.agg [(.int 0 (.ofNat 5)),(.int 0 a5),(.int 0 (.ofNat 0)),v2,(.int 0 (.ofNat 0)),.ab,.ab]) H λH3=>aF 7 a4 H3 λv4=>K (.ret v4) H3)
theorem aap{R:eV}(hR:lE R){K:KF}:Lv K (Dm R K):=λa4 a5 a6 H h=>pk hR .nil h
def LA(R:eV)(K:KF):kL:=Dm R K
theorem aaq{R:eV}(hR:lE R){K:KF}:Lv K (LA R K):=aap hR
def Dn(R:eV)(K:KF)(a0 a4:AV)(H:AH):Prop:=R.1 a0 (.ofNat 14) H λo1 H2=>cR K o1 H2 λv3=>ae 7 a4 (.agg [(.int 0 (.ofNat 0)),(.int 0 (.ofNat 0)),(.int 0 (.ofNat 0)),(.str 0 0),(.int 0 (.ofNat 0)),.ab,.ab]) H2 λH4=>aF 7 a4 H4 λv5=>K (.ret v5) H4
theorem aar{R:eV}(hR:lE R){K:KF}:Lr K (Dn R K):=λa0 a4 H h=>pk hR .nil h
def LB(R:eV)(K:KF):bC:=Dn R K
theorem aas{R:eV}(hR:lE R){K:KF}:Lr K (LB R K):=aar hR
def Dp(R:eV)(K:KF)(x3:se)(x4:bZ)(x5 x6:kL)(x2:bC)(a0:AV)(a1:Int)(a4:AV)(a5:Int)(a6:AV)(H:AH):Prop:=aP a0 (al 2 a0 λv1=>ak v1 H λv2=>cI 0 v2 λz3=>bI (!(bj z3 (.ofNat 0))) (ae 7 a4 (.agg [(.int 0 (.ofNat 0)),(.int 0 (.ofNat 0)),(.int 0 (.ofNat 0)),(.str 0 0),(.int 0 (.ofNat 0)),.ab,.ab]) H λH4=>aF 7 a4 H4 λv5=>K (.ret v5) H4) (al 0 a6 λv6=>ak v6 H λv7=>cI 0 v7 λz8=>bI (bj z8 (.ofNat 2)) (aP a0 (al 1 a0 λv9=>ak v9 H λv10=>cI 0 v10 λz11=>aJ 0 (Int.add z11 (.ofNat 1)) λz12=>aP a0 (al 1 a0 λv13=>ae 1 v13 (.int 0 z12) H λcN=>x3 a0 a1 a4 a5 a6 cN))) (R.2.2.1 a0 (.str 1 40) H λvd dm=>cR K vd dm λv17=>bf v17 λA9=>bI A9 (R.2.2.2.1 a0 a1 dm λxL fD=>cR K xL fD λv21=>cw fD (cx gP (aA fD) 49 λv22 nz=>ae 7 v22 v21 nz λfS=>x4 a0 a1 a4 v22 fS)) (al 0 a6 λv25=>ak v25 dm λv26=>cI 0 v26 λz27=>bI (bj z27 (.ofNat 3)) (aP a0 (al 1 a0 λv28=>ak v28 dm λv29=>cI 0 v29 λz30=>aJ 0 (Int.add z30 (.ofNat 1)) λz31=>aP a0 (al 1 a0 λv32=>ae 1 v32 (.int 0 z31) dm λGH=>x5 a4 a5 a6 GH))) (al 0 a6 λv34=>ak v34 dm λv35=>cI 0 v35 λz36=>bI (bj z36 (.ofNat 4)) (aP a0 (al 1 a0 λv37=>ak v37 dm λv38=>cI 0 v38 λz39=>aJ 0 (Int.add z39 (.ofNat 1)) λz40=>aP a0 (al 1 a0 λv41=>ae 1 v41 (.int 0 z40) dm λnN=>x6 a4 a5 a6 nN))) (R.2.2.1 a0 (.str 3 7104878) dm λo43 Ni=>cR K o43 Ni λv45=>bf v45 λz46=>bI z46 (ae 7 a4 (.agg [(.int 0 (.ofNat 1)),(.int 0 a5),(.int 0 (.ofNat 0)),(.str 0 0),(.int 0 (.ofNat 0)),.ab,.ab]) Ni λH47=>aF 7 a4 H47 λv48=>K (.ret v48) H47) (R.2.2.1 a0 (.str 4 1702195828) Ni λo49 Gr=>cR K o49 Gr λv51=>bf v51 λz52=>bI z52 (ae 7 a4 (.agg [(.int 0 (.ofNat 2)),(.int 0 a5),(.int 0 (.ofNat 0)),(.str 0 0),(.int 0 (.ofNat 0)),.ab,.ab]) Gr λH53=>aF 7 a4 H53 λv54=>K (.ret v54) H53) (R.2.2.1 a0 (.str 5 435728179558) Gr λo55 H56=>cR K o55 H56 λv57=>bf v57 λz58=>bI z58 (ae 7 a4 (.agg [(.int 0 (.ofNat 3)),(.int 0 a5),(.int 0 (.ofNat 0)),(.str 0 0),(.int 0 (.ofNat 0)),.ab,.ab]) H56 λH59=>aF 7 a4 H59 λv60=>K (.ret v60) H59) (R.2.2.1 a0 (.str 8 7957695015192261990) H56 λo61 QH=>cR K o61 QH λv63=>bf v63 λz64=>bI z64 (R.2.2.2.2.1 a0 a1 QH λo65 En=>cR K o65 En λv67=>onVal v67 λl68=>dV l68 2 (aN (aA En) 1 2 (spl l68 [.ab,.ab] 0) λv69 H70=>one v69 (ae 7 a4 (.agg [(.int 0 (.ofNat 7)),(.int 0 a5),(.int 0 (.ofNat 0)),(.str 0 0),(.int 0 (.ofNat 0)),.ab,v69]) H70 λPU=>aF 7 a4 PU λv72=>K (.ret v72) PU))) (R.2.2.1 a0 (.str 1 123) QH λo73 H74=>cR K o73 H74 λv75=>bf v75 λz76=>bI z76 (R.2.2.2.2.2.2.2 a0 a5 a1 H74 λo77 Gt=>cR K o77 Gt λv79=>ae 7 a4 v79 Gt λGu=>aF 7 a4 Gu λv81=>K (.ret v81) Gu) (x2 a0 a4 H74)))))))))))
theorem aat{R:eV}(hR:lE R){K:KF}{x3:se}{x4:bZ}{x5 x6:kL}{x2:bC}(h3:Ls K x3)(h4:Lt K x4)(h5:Lu K x5)(h6:Lv K x6)(h2:Lr K x2):Lq K (Dp R K x3 x4 x5 x6 x2):=λa0 a1 a4 a5 a6 H h=>pk hR (cc h3 (cc h4 (cc h5 (cc h6 (cc h2 .nil))))) h
def LC(R:eV)(K:KF):se:=Dp R K (Lw R K) (Ly R K) (Lz R K) (LA R K) (LB R K)
theorem aau{R:eV}(hR:lE R){K:KF}:Lq K (LC R K):=aat hR (aak hR) (aam hR) (aao hR) (aaq hR) (aas hR)
def Dq(R:eV)(K:KF)(x1:se)(a0:AV)(a1:Int)(H:AH):Prop:=cw H (cx gP (aA H) 49 λv1 H2=>R.2.1 a0 H2 λo3 H4=>cR K o3 H4 λv5=>cI 0 v5 λz6=>aP a0 (al 0 a0 λv7=>ak v7 H4 λv8=>aP a0 (al 1 a0 λv9=>ak v9 H4 λv10=>cI 0 v10 λz11=>cK 4 v8 (.int 0 z11) λv12=>aF 4 v12 H4 λv13=>bG H4 (cw H4 (gE (aA H4) [(.int 0 (.ofNat 0)),(.str 0 0),(.int 0 (.ofNat 0)),(.int 0 (.ofNat 0))] λv14 eM=>bT (Nat.beq eM.n (Nat.succ H4.n)) (ae 4 v14 v13 eM λdm=>x1 a0 a1 v1 z6 v14 dm))))))
theorem aav{R:eV}(hR:lE R){K:KF}{x1:se}(h1:Lq K x1)(a0:AV)(a1:Int)(H:AH)(h:Dq R K x1 a0 a1 H):dw 167 K [] (ba (di 167) [a0,(.int 0 a1)]) [] H:=pk hR (cc h1 .nil) h
def apq(R:eV)(K:KF):dX:=Dq R K (LC R K)
def QK(R:eV):AV→Int→AH→KF→Prop:=λa0 a1 H K=>apq R K a0 a1 H
theorem alN(R:eV)(hR:lE R):av gP 167 (ao [.a,.i 0] (QK R)):=rk λK a0 a1 H h=>aav hR (aau hR) a0 a1 H h
abbrev cH:Type:=(AV→AH→KF→Prop)×(AV→AV→AH→KF→Prop)×(AV→AV→AH→KF→Prop)×(AV→Int→AH→KF→Prop)×(AV→AH→KF→Prop)×(AV→AV→AH→KF→Prop)×(AV→Int→Int→AH→KF→Prop)
def apr(R:cH):List (Nat×cP):=[(67,ao [.a] R.1),(68,ao [.a,.a] R.2.1),(69,ao [.a,.a] R.2.2.1),(70,ao [.a,.i 0] R.2.2.2.1),(104,ao [.a] R.2.2.2.2.1),(106,ao [.a,.a] R.2.2.2.2.2.1),(136,ao [.a,.i 0,.i 0] R.2.2.2.2.2.2)]
abbrev gM(R:cH):Prop:=ad gP (apr R)
abbrev Dr(K:KF)(F:bP):Prop:=aM 186 K [1,1,1,1] 123 [0,6,7] [.a,.a,.a] F
abbrev jG(K:KF)(F:dJ):Prop:=aM 186 K [0,0,1,1,1] 123 [0,2,6,7,8] [.a,.i 0,.a,.a,.i 0] F
abbrev LD(K:KF)(F:dJ):Prop:=aM 186 K [1,0,1,0,0,0,1,1,1] 123 [0,2,6,7,8] [.a,.i 0,.a,.a,.i 0] F
abbrev ug(K:KF)(F:bR):Prop:=aM 186 K [1,1,1,0,1,0,0,0,1,1,1] 123 [0,2,6,7,8,9] [.a,.i 0,.a,.a,.i 0,.a] F
abbrev LF(K:KF)(F:dJ):Prop:=aM 186 K [1,1,1,1,1,0,1,0,0,0,1,1,1] 123 [0,2,6,7,8] [.a,.i 0,.a,.a,.i 0] F
abbrev LG(K:KF)(F:bR):Prop:=aM 186 K [1,0,1,1,1,0,0,1,1,0,1,0,0,0,1,1,1] 123 [0,2,6,7,8,9] [.a,.i 0,.a,.a,.i 0,.a] F
abbrev LH(K:KF)(F:bR):Prop:=aM 186 K [0,1,1,1,1,1,0,0,1,1,0,1,0,0,0,1,1,1] 123 [0,2,6,7,8,9] [.a,.i 0,.a,.a,.i 0,.a] F
abbrev LJ(K:KF)(F:bR):Prop:=aM 186 K [1,1,1,1,1,1,0,0,1,1,0,1,0,0,0,1,1,1] 123 [0,2,6,7,8,9] [.a,.i 0,.a,.a,.i 0,.a] F
abbrev LK(K:KF)(F:bR):Prop:=aM 186 K [1,0,1,1,1,1,1,0,0,1,1,0,1,0,0,0,1,1,1] 123 [0,2,6,7,8,9] [.a,.i 0,.a,.a,.i 0,.a] F
abbrev EM(K:KF)(F:bR):Prop:=aM 186 K [1,1,1,1,1,1,1,0,0,1,1,0,1,0,0,0,1,1,1] 123 [0,2,6,7,8,9] [.a,.i 0,.a,.a,.i 0,.a] F
def Ds(R:cH)(K:KF)(a0 a6 a7:AV)(H:AH):Prop:=R.2.2.2.2.2.1 a0 (.str 1 125) H λo1 H2=>cR K o1 H2 λv3=>aF 7 a7 H2 λv4=>ae 7 a6 v4 H2 λH5=>aF 7 a6 H5 λv6=>K (.ret v6) H5
theorem aaw{R:cH}(hR:gM R){K:KF}:Dr K (Ds R K):=λa0 a6 a7 H h=>pk hR .nil h
def uh(R:cH)(K:KF):bP:=Ds R K
theorem Hz{R:cH}(hR:gM R){K:KF}:Dr K (uh R K):=aaw hR
def Dt(R:cH)(K:KF)(x2:dJ)(x1:bP)(a0:AV)(a2:Int)(a6 a7:AV)(a8:Int)(H:AH):Prop:=R.2.1 a0 (.str 1 44) H λo1 H2=>cR K o1 H2 λv3=>bf v3 λz4=>bI (!z4) (R.2.1 a0 (.str 1 59) H2 λo5 H6=>cR K o5 H6 λv7=>bf v7 λz8=>bI (!z8) (x1 a0 a6 a7 H6) (x2 a0 a2 a6 a7 a8 H6)) (x2 a0 a2 a6 a7 a8 H2)
theorem aax{R:cH}(hR:gM R){K:KF}{x2:dJ}{x1:bP}(h2:jG K x2)(h1:Dr K x1):LF K (Dt R K x2 x1):=λa0 a2 a6 a7 a8 H h=>pk hR (cc h2 (cc h1 .nil)) h
def Du(R:cH)(K:KF)(i2:dJ):dJ:=Dt R K i2 (uh R K)
theorem aay{R:cH}(hR:gM R){K:KF}{i2:dJ}(g2:jG K i2):LF K (Du R K i2):=aax hR g2 (Hz hR)
def Dv(R:cH)(K:KF)(x5:dJ)(a0:AV)(a2:Int)(a6 a7:AV)(a8:Int)(a9:AV)(H:AH):Prop:=R.2.2.2.1 a0 a2 H λo1 H2=>cR K o1 H2 λv3=>cw H2 (cx gP (aA H2) 49 λv4 H5=>ae 7 v4 v3 H5 λH6=>al 5 a7 λv7=>ak v7 H6 λv8=>aF 7 a9 H6 λv9=>aF 7 v4 H6 λv10=>onVal v9 λEm=>dV Em 7 (onVal v10 λl12=>dV l12 7 (aN (aA H6) 2 7 (spl l12 (spl Em [(.int 0 (.ofNat 0)),(.int 0 (.ofNat 0)),(.int 0 (.ofNat 0)),(.str 0 0),(.int 0 (.ofNat 0)),.ab,.ab,(.int 0 (.ofNat 0)),(.int 0 (.ofNat 0)),(.int 0 (.ofNat 0)),(.str 0 0),(.int 0 (.ofNat 0)),.ab,.ab] 0) 7) λv13 cN=>dh 7 96 v8 v13 cN λv15 dm=>al 5 a7 λv17=>ae 1 v17 v15 dm λdK=>x5 a0 a2 a6 a7 a8 dK)))
theorem aaz{R:cH}(hR:gM R){K:KF}{x5:dJ}(h5:LF K x5):ug K (Dv R K x5):=λa0 a2 a6 a7 a8 a9 H h=>pk hR (cc h5 .nil) h
def nj(R:cH)(K:KF)(i2:dJ):bR:=Dv R K (Du R K i2)
theorem tD{R:cH}(hR:gM R){K:KF}{i2:dJ}(g2:jG K i2):ug K (nj R K i2):=aaz hR (aay hR g2)
def Dw(R:cH)(K:KF)(x4:bR)(a0:AV)(a2:Int)(a6 a7:AV)(a8:Int)(a9:AV)(H:AH):Prop:=R.2.2.2.2.1 a0 H λo1 H2=>cR K o1 H2 λv3=>al 3 a9 λv4=>ae 1 v4 v3 H2 λH5=>R.2.2.2.2.2.1 a0 (.str 1 61) H5 λo6 H7=>cR K o6 H7 λv8=>x4 a0 a2 a6 a7 a8 a9 H7
theorem aaA{R:cH}(hR:gM R){K:KF}{x4:bR}(h4:ug K x4):LK K (Dw R K x4):=λa0 a2 a6 a7 a8 a9 H h=>pk hR (cc h4 .nil) h
def LL(R:cH)(K:KF)(i2:dJ):bR:=Dw R K (nj R K i2)
theorem aaB{R:cH}(hR:gM R){K:KF}{i2:dJ}(g2:jG K i2):LK K (LL R K i2):=aaA hR (tD hR g2)
def Dx(R:cH)(K:KF)(x9:bR)(a0:AV)(a2:Int)(a6 a7:AV)(a8:Int)(a9:AV)(H:AH):Prop:=al 0 a9 λv1=>ae 1 v1 (.int 0 (.ofNat 5)) H λH2=>x9 a0 a2 a6 a7 a8 a9 H2
theorem aaC{R:cH}(hR:gM R){K:KF}{x9:bR}(h9:LK K x9):LH K (Dx R K x9):=λa0 a2 a6 a7 a8 a9 H h=>pk hR (cc h9 .nil) h
def LM(R:cH)(K:KF)(i2:dJ):bR:=Dx R K (LL R K i2)
theorem aaD{R:cH}(hR:gM R){K:KF}{i2:dJ}(g2:jG K i2):LH K (LM R K i2):=aaC hR (aaB hR g2)
def Dy(R:cH)(K:KF)(x4:bR)(a0:AV)(a2:Int)(a6 a7:AV)(a8:Int)(a9:AV)(H:AH):Prop:=R.2.2.2.2.2.1 a0 (.str 1 93) H λo1 H2=>cR K o1 H2 λv3=>R.2.2.2.2.2.1 a0 (.str 1 61) H2 λo4 H5=>cR K o4 H5 λv6=>x4 a0 a2 a6 a7 a8 a9 H5
theorem aaE{R:cH}(hR:gM R){K:KF}{x4:bR}(h4:ug K x4):LG K (Dy R K x4):=λa0 a2 a6 a7 a8 a9 H h=>pk hR (cc h4 .nil) h
def LN(R:cH)(K:KF)(i2:dJ):bR:=Dy R K (nj R K i2)
theorem aaF{R:cH}(hR:gM R){K:KF}{i2:dJ}(g2:jG K i2):LG K (LN R K i2):=aaE hR (tD hR g2)
def zM(R:cH)(K:KF)(x4:bR)(a0:AV)(a2:Int)(a6 a7:AV)(a8:Int)(a9:AV)(H:AH):Prop:=al 0 a9 λv1=>ae 1 v1 (.int 0 (.ofNat 4)) H λH2=>al 2 a9 λv3=>ae 1 v3 (.int 0 a8) H2 λH4=>x4 a0 a2 a6 a7 a8 a9 H4
theorem TY{R:cH}(hR:gM R){K:KF}{x4:bR}(h4:ug K x4):EM K (zM R K x4):=λa0 a2 a6 a7 a8 a9 H h=>pk hR (cc h4 .nil) h
def EN(R:cH)(K:KF)(i2:dJ):bR:=zM R K (nj R K i2)
theorem TZ{R:cH}(hR:gM R){K:KF}{i2:dJ}(g2:jG K i2):EM K (EN R K i2):=TY hR (tD hR g2)
def Dz(R:cH)(K:KF)(x10:bR)(a0:AV)(a2:Int)(a6 a7:AV)(a8:Int)(a9:AV)(H:AH):Prop:=aJ 0 (Int.add a8 (.ofNat 1)) λz1=>x10 a0 a2 a6 a7 z1 a9 H
theorem aaG{R:cH}(hR:gM R){K:KF}{x10:bR}(h10:EM K x10):LJ K (Dz R K x10):=λa0 a2 a6 a7 a8 a9 H h=>pk hR (cc h10 .nil) h
def DA(R:cH)(K:KF)(i2:dJ):bR:=Dz R K (EN R K i2)
theorem aaH{R:cH}(hR:gM R){K:KF}{i2:dJ}(g2:jG K i2):LJ K (DA R K i2):=aaG hR (TZ hR g2)
def DB(R:cH)(K:KF)(x7 x6 x4 x8:bR)(a0:AV)(a2:Int)(a6 a7:AV)(a8:Int)(H:AH):Prop:=R.1 a0 H λo1 H2=>cR K o1 H2 λv3=>cI 0 v3 λz4=>cw H2 (cx gP (aA H2) 49 λv5 H6=>ae 7 v5 (.agg [(.int 0 (.ofNat 0)),(.int 0 z4),(.int 0 (.ofNat 0)),(.str 0 0),(.int 0 (.ofNat 1)),.ab,.ab]) H6 λH7=>aP a0 (al 2 a0 λv8=>ak v8 H7 λv9=>cI 0 v9 λz10=>bI (!(bj z10 (.ofNat 0))) (x4 a0 a2 a6 a7 a8 v5 H7) (R.2.1 a0 (.str 1 91) H7 λkj bL=>cR K kj bL λv13=>bf v13 λmn=>bI mn (R.2.2.2.1 a0 a2 bL λvd dm=>cR K vd dm λv17=>ae 7 v5 v17 dm λdK=>x6 a0 a2 a6 a7 a8 v5 dK) (aP a0 (al 0 a0 λv19=>ak v19 bL λv20=>aP a0 (al 1 a0 λv21=>ak v21 bL λv22=>cI 0 v22 λz23=>cK 4 v20 (.int 0 z23) λv24=>al 0 v24 λv25=>ak v25 bL λv26=>cI 0 v26 λz27=>bI (bj z27 (.ofNat 2)) (aP a0 (al 0 a0 λv28=>ak v28 bL λv29=>aP a0 (al 1 a0 λv30=>ak v30 bL λv31=>cI 0 v31 λz32=>aJ 0 (Int.add z32 (.ofNat 1)) λz33=>cK 4 v29 (.int 0 z33) λv34=>al 0 v34 λv35=>ak v35 bL λv36=>cI 0 v36 λz37=>bI (bj z37 (.ofNat 5)) (aP a0 (al 0 a0 λv38=>ak v38 bL λv39=>aP a0 (al 1 a0 λv40=>ak v40 bL λv41=>cI 0 v41 λz42=>aJ 0 (Int.add z42 (.ofNat 1)) λz43=>cK 4 v39 (.int 0 z43) λv44=>al 1 v44 λv45=>ak v45 bL λv46=>pF v46 (.str 1 61) λv47=>bf v47 λz48=>bI z48 (x7 a0 a2 a6 a7 a8 v5 bL) (x8 a0 a2 a6 a7 a8 v5 bL)))) (x8 a0 a2 a6 a7 a8 v5 bL)))) (x8 a0 a2 a6 a7 a8 v5 bL)))))))
theorem aaI{R:cH}(hR:gM R){K:KF}{x7 x6 x4 x8:bR}(h7:LH K x7)(h6:LG K x6)(h4:ug K x4)(h8:LJ K x8):LD K (DB R K x7 x6 x4 x8):=λa0 a2 a6 a7 a8 H h=>pk hR (cc h7 (cc h6 (cc h4 (cc h8 .nil)))) h
def DC(R:cH)(K:KF)(i2:dJ):dJ:=DB R K (LM R K i2) (LN R K i2) (nj R K i2) (DA R K i2)
theorem aaJ{R:cH}(hR:gM R){K:KF}{i2:dJ}(g2:jG K i2):LD K (DC R K i2):=aaI hR (aaD hR g2) (aaF hR g2) (tD hR g2) (aaH hR g2)
def DD(R:cH)(K:KF)(x3:dJ)(x1:bP)(a0:AV)(a2:Int)(a6 a7:AV)(a8:Int)(H:AH):Prop:=aP a0 (al 2 a0 λv1=>ak v1 H λv2=>cI 0 v2 λz3=>bI (bj z3 (.ofNat 0)) (R.2.2.1 a0 (.str 1 125) H λo4 H5=>cR K o4 H5 λv6=>bf v6 λz7=>bI (!z7) (al 5 a7 λv8=>ak v8 H5 λv9=>dp v9 λv10=>cI 0 v10 λz11=>bI (bj (.ofNat 2) 0) False (aJ 0 (Int.tdiv z11 (.ofNat 2)) λz12=>R.2.2.2.2.2.2 a0 z12 (.ofNat 64) H5 λmP cN=>cR K mP cN λv15=>x3 a0 a2 a6 a7 a8 cN)) (x1 a0 a6 a7 H5)) (x1 a0 a6 a7 H))
theorem aaK{R:cH}(hR:gM R){K:KF}{x3:dJ}{x1:bP}(h3:LD K x3)(h1:Dr K x1):jG K (DD R K x3 x1):=λa0 a2 a6 a7 a8 H h=>pk hR (cc h3 (cc h1 .nil)) h
def LO(R:cH)(K:KF)(i2:dJ):dJ:=DD R K (DC R K i2) (uh R K)
theorem aaL{R:cH}(hR:gM R){K:KF}{i2:dJ}(g2:jG K i2):jG K (LO R K i2):=aaK hR (aaJ hR g2) (Hz hR)
def DE(R:cH)(K:KF)(n:Nat):dJ:=Nat.rec (motive:=λ_=>dJ) (λ_ _ _ _ _ _=>False) (λ_ i=>LO R K i) n
theorem aaM{R:cH}(hR:gM R){K:KF}(n:Nat):jG K (DE R K n):=Nat.rec (motive:=λn=>jG K (DE R K n)) (λa0 a2 a6 a7 a8 H h=>h.elim) (λn ih=>aaL hR ih) n
def LQ(R:cH)(K:KF)(x2:dJ)(a0:AV)(a1 a2:Int)(H:AH):Prop:=cw H (cx gP (aA H) 49 λv1 H2=>cw H2 (cx gP (aA H2) 49 λv3 H4=>ae 7 v3 (.agg [(.int 0 (.ofNat 8)),(.int 0 a1),(.int 0 (.ofNat 0)),(.str 0 0),(.int 0 (.ofNat 0)),.ab,.ab]) H4 λH5=>x2 a0 a2 v1 v3 (.ofNat 0) H5))
theorem aaN{R:cH}(hR:gM R){K:KF}{x2:dJ}(h2:jG K x2)(a0:AV)(a1 a2:Int)(H:AH)(h:LQ R K x2 a0 a1 a2 H):dw 186 K [] (ba (di 186) [a0,(.int 0 a1),(.int 0 a2)]) [] H:=pk hR (cc h2 .nil) h
def VI(R:cH)(K:KF):ka:=LQ R K (DE R K NL)
def Bj(R:cH):AV→Int→Int→AH→KF→Prop:=λa0 a1 a2 H K=>VI R K a0 a1 a2 H
theorem alO(R:cH)(hR:gM R):av gP 186 (ao [.a,.i 0,.i 0] (Bj R)):=rk λK a0 a1 a2 H h=>aaN hR (aaM hR NL) a0 a1 a2 H h
abbrev sX:Type:=(AV→Int→AH→KF→Prop)×(AV→Int→AH→KF→Prop)×(AV→AV→Int→AH→KF→Prop)×(AV→Int→Int→AH→KF→Prop)×(AV→Int→AH→KF→Prop)×(AV→AV→Int→AH→KF→Prop)×(AV→Int→AH→KF→Prop)×(AV→Int→AH→KF→Prop)×(AV→Int→AH→KF→Prop)×(AV→Int→Int→AH→KF→Prop)
def cZ(S:sX):fz:=(f28,f65,f66,f67,f68,f69,S.2.1,S.2.2.1)
def ym(S:sX):wB:=(f65,S.2.2.2.1)
def bD(S:sX):bQ:=(S.1,f28,f67,f68,f69,S.2.1,f104,S.2.2.2.2.1,f106,S.2.2.2.2.2.1)
def dQ(S:sX):cY:=(f67,f69,S.2.2.2.1,S.2.2.2.2.2.2.1,S.2.2.2.2.2.2.2.1)
def fA(S:sX):fV:=(S.1,f68,f104,f106,f136)
def dd(S:sX):cQ:=(f67,f68,S.2.1,f104,f106,f136)
def mr(S:sX):mT:=(f65,f67,f68,S.2.2.2.1,S.2.2.2.2.2.2.1)
def mu(S:sX):mU:=(f65,f67,f68,S.2.2.2.2.2.2.2.1,S.2.2.2.2.2.2.2.2.1)
def fB(S:sX):eV:=(f28,f67,f68,S.2.1,S.2.2.2.2.1,f106,S.2.2.2.2.2.1,S.2.2.2.2.2.2.2.2.2)
def cC(S:sX):cH:=(f67,f68,f69,S.2.1,f104,f106,f136)
noncomputable def au(n:Nat):sX:=Nat.rec (motive:=λ_=>sX) (λ_ _ _ _=>False,λ_ _ _ _=>False,λ_ _ _ _ _=>False,λ_ _ _ _ _=>False,λ_ _ _ _=>False,λ_ _ _ _ _=>False,λ_ _ _ _=>False,λ_ _ _ _=>False,λ_ _ _ _=>False,λ_ _ _ _ _=>False) (λ_ S=>(G6 (cZ S),Zd (ym S),Hs (bD S),Bg (dQ S),Bh (fA S),Bi (dd S),QI (mr S),QJ (mu S),QK (fB S),Bj (cC S))) n
theorem ar9(n:Nat):av gP 27 (ao [.a,.i 0] (au n).1)∧av gP 70 (ao [.a,.i 0] (au n).2.1)∧av gP 71 (ao [.a,.a,.i 0] (au n).2.2.1)∧av gP 103 (ao [.a,.i 0,.i 0] (au n).2.2.2.1)∧av gP 105 (ao [.a,.i 0] (au n).2.2.2.2.1)∧av gP 107 (ao [.a,.a,.i 0] (au n).2.2.2.2.2.1)∧av gP 134 (ao [.a,.i 0] (au n).2.2.2.2.2.2.1)∧av gP 135 (ao [.a,.i 0] (au n).2.2.2.2.2.2.2.1)∧av gP 167 (ao [.a,.i 0] (au n).2.2.2.2.2.2.2.2.1)∧av gP 186 (ao [.a,.i 0,.i 0] (au n).2.2.2.2.2.2.2.2.2):=by
 induction n with
 |zero=>exact⟨dz [.a,.i 0],dz [.a,.i 0],dz [.a,.a,.i 0],dz [.a,.i 0,.i 0],dz [.a,.i 0],dz [.a,.a,.i 0],dz [.a,.i 0],dz [.a,.i 0],dz [.a,.i 0],dz [.a,.i 0,.i 0]⟩
 |succ n ih=>exact⟨ape (cZ (au n)) (ad.cons so (ad.cons GN (ad.cons arX (ad.cons sq (ad.cons qs (ad.cons xX (ad.cons (ih.2.1) (ad.cons (ih.2.2.1) ad.nil)))))))),apf (ym (au n)) (ad.cons GN (ad.cons (ih.2.2.2.1) ad.nil)),apg (bD (au n)) (ad.cons (ih.1) (ad.cons so (ad.cons sq (ad.cons qs (ad.cons xX (ad.cons (ih.2.1) (ad.cons Ct (ad.cons (ih.2.2.2.2.1) (ad.cons yb (ad.cons (ih.2.2.2.2.2.1) ad.nil)))))))))),alI (dQ (au n)) (ad.cons sq (ad.cons xX (ad.cons (ih.2.2.2.1) (ad.cons (ih.2.2.2.2.2.2.1) (ad.cons (ih.2.2.2.2.2.2.2.1) ad.nil))))),alJ (fA (au n)) (ad.cons (ih.1) (ad.cons qs (ad.cons Ct (ad.cons yb (ad.cons KG ad.nil))))),alK (dd (au n)) (ad.cons sq (ad.cons qs (ad.cons (ih.2.1) (ad.cons Ct (ad.cons yb (ad.cons KG ad.nil)))))),alL (mr (au n)) (ad.cons GN (ad.cons sq (ad.cons qs (ad.cons (ih.2.2.2.1) (ad.cons (ih.2.2.2.2.2.2.1) ad.nil))))),alM (mu (au n)) (ad.cons GN (ad.cons sq (ad.cons qs (ad.cons (ih.2.2.2.2.2.2.2.1) (ad.cons (ih.2.2.2.2.2.2.2.2.1) ad.nil))))),alN (fB (au n)) (ad.cons so (ad.cons sq (ad.cons qs (ad.cons (ih.2.1) (ad.cons (ih.2.2.2.2.1) (ad.cons yb (ad.cons (ih.2.2.2.2.2.1) (ad.cons (ih.2.2.2.2.2.2.2.2.2) ad.nil)))))))),alO (cC (au n)) (ad.cons sq (ad.cons qs (ad.cons xX (ad.cons (ih.2.1) (ad.cons Ct (ad.cons yb (ad.cons KG ad.nil)))))))⟩
def f27:AV→Int→AH→KF→Prop:=(au NL).1
theorem asa:av gP 27 (ao [.a,.i 0] f27):=(ar9 NL).1
abbrev qu:Type:=(AV→AH→KF→Prop)×(AV→Int→AH→KF→Prop)×(AV→Int→AH→KF→Prop)
def aun(R:qu):List (Nat×cP):=[(26,ao [.a] R.1),(27,ao [.a,.i 0] R.2.1),(28,ao [.a,.i 0] R.2.2)]
abbrev aaO(R:qu):Prop:=ad gP (aun R)
abbrev aaP(K:KF)(F:bC):Prop:=aM 9 K [1,1,1,1,1,1] 60 [8,9] [.a,.a] F
def Oa(R:qu)(K:KF)(a8 a9:AV)(H:AH):Prop:=aP a8 (al 2 a8 λv1=>ak v1 H λv2=>cI 0 v2 λz3=>bI (!(bj z3 (.ofNat 0))) (aP a8 (al 2 a8 λv4=>ak v4 H λv5=>cI 0 v5 λz6=>aP a8 (al 3 a8 λv7=>ak v7 H λv8=>cI 0 v8 λz9=>K (.ret (.aY [.ab,(.int 0 z6),(.int 0 z9)])) H))) (K (.ret (.aY [a9,(.int 0 (.ofNat 0)),(.int 0 (.ofNat 0))])) H))
theorem alP{R:qu}(hR:aaO R){K:KF}:aaP K (Oa R K):=λa8 a9 H h=>pk hR .nil h
def aaQ(R:qu)(K:KF):bC:=Oa R K
theorem alQ{R:qu}(hR:aaO R){K:KF}:aaP K (aaQ R K):=alP hR
def aaR(R:qu)(K:KF)(x1:bC)(a0:AV)(H:AH):Prop:=R.1 a0 H λo1 H2=>cR K o1 H2 λv3=>eA v3 λl4=>cX l4 0 λv5=>eA v3 λl6=>cX l6 1 λv7=>cI 0 v7 λz8=>eA v3 λl9=>cX l9 2 λv10=>cI 0 v10 λz11=>bI (!(bj z8 (.ofNat 0))) (K (.ret (.aY [.ab,(.int 0 z8),(.int 0 z11)])) H2) (one v5 (gE (aA H2) [v5,(.int 0 (.ofNat 0)),(.int 0 (.ofNat 0)),(.int 0 (.ofNat 0))] λv12 dL=>R.2.1 v12 (.ofNat 0) dL λGq eM=>cR K Gq eM λv16=>aP v12 (al 2 v12 λv17=>ak v17 eM λv18=>cI 0 v18 λsn=>bI (bj sn (.ofNat 0)) (aP v12 (al 0 v12 λv20=>ak v20 eM λv21=>aP v12 (al 1 v12 λv22=>ak v22 eM λv23=>cI 0 v23 λz24=>cK 4 v21 (.int 0 z24) λv25=>al 0 v25 λv26=>ak v26 eM λv27=>cI 0 v27 λz28=>bI (!(bj z28 (.ofNat 0))) (R.2.2 v12 (.ofNat 14) eM λo29 uW=>cR K o29 uW λv31=>x1 v12 v16 uW) (x1 v12 v16 eM)))) (x1 v12 v16 eM))))
theorem alR{R:qu}(hR:aaO R){K:KF}{x1:bC}(h1:aaP K x1)(a0:AV)(H:AH)(h:aaR R K x1 a0 H):dw 9 K [] (ba (di 9) [a0]) [] H:=pk hR (cc h1 .nil) h
def am5(R:qu)(K:KF):Ta:=aaR R K (aaQ R K)
def aaS(R:qu):AV→AH→KF→Prop:=λa0 H K=>am5 R K a0 H
theorem asb(R:qu)(hR:aaO R):av gP 9 (ao [.a] (aaS R)):=rk λK a0 H h=>alR hR (alQ hR) a0 H h
abbrev kU:Type:=Unit
def asc(R:kU):List (Nat×cP):=[]
abbrev zN(R:kU):Prop:=ad gP (asc R)
abbrev QL(K:KF)(F:T_):Prop:=aM 29 K [1,1,1] 26 [] [] F
abbrev vj(K:KF)(F:aR):Prop:=aM 29 K [0,1,0,1,1] 26 [0,1,5] [.a,.a,.i 0] F
def HA(R:kU)(K:KF)(H:AH):Prop:=K (.ret (.bool true)) H
theorem afS{R:kU}(hR:zN R){K:KF}:QL K (HA R K):=λH h=>pk hR .nil h
def afT(R:kU)(K:KF):T_:=HA R K
theorem afU{R:kU}(hR:zN R){K:KF}:QL K (afT R K):=afS hR
def HB(R:kU)(K:KF)(x2:aR)(x1:T_)(a0 a1:AV)(a5:Int)(H:AH):Prop:=dp a0 λv1=>cI 0 v1 λz2=>bI (cg a5 z2) (cK 1 a0 (.int 0 a5) λv3=>ak v3 H λv4=>cK 1 a1 (.int 0 a5) λv5=>ak v5 H λv6=>Uq v4 v6 λv7=>bf v7 λz8=>bI z8 (K (.ret (.bool false)) H) (aJ 0 (Int.add a5 (.ofNat 1)) λz9=>x2 a0 a1 z9 H)) (x1 H)
theorem afV{R:kU}(hR:zN R){K:KF}{x2:aR}{x1:T_}(h2:vj K x2)(h1:QL K x1):vj K (HB R K x2 x1):=λa0 a1 a5 H h=>pk hR (cc h2 (cc h1 .nil)) h
def afW(R:kU)(K:KF)(i2:aR):aR:=HB R K i2 (afT R K)
theorem afX{R:kU}(hR:zN R){K:KF}{i2:aR}(g2:vj K i2):vj K (afW R K i2):=afV hR g2 (afU hR)
def yn(R:kU)(K:KF)(n:Nat):aR:=Nat.rec (motive:=λ_=>aR) (λ_ _ _ _=>False) (λ_ i=>afW R K i) n
theorem afY{R:kU}(hR:zN R){K:KF}(n:Nat):vj K (yn R K n):=Nat.rec (motive:=λn=>vj K (yn R K n)) (λa0 a1 a5 H h=>h.elim) (λn ih=>afX hR ih) n
def HC(R:kU)(K:KF)(x2:aR)(a0 a1:AV)(H:AH):Prop:=dp a0 λv1=>cI 0 v1 λz2=>dp a1 λv3=>cI 0 v3 λz4=>bI (!(bj z2 z4)) (K (.ret (.bool false)) H) (x2 a0 a1 (.ofNat 0) H)
theorem afZ{R:kU}(hR:zN R){K:KF}{x2:aR}(h2:vj K x2)(a0 a1:AV)(H:AH)(h:HC R K x2 a0 a1 H):dw 29 K [] (ba (di 29) [a0,a1]) [] H:=pk hR (cc h2 .nil) h
def asd(R:kU)(K:KF):bC:=HC R K (yn R K NL)
def am6(R:kU):AV→AV→AH→KF→Prop:=λa0 a1 H K=>asd R K a0 a1 H
theorem aps(R:kU)(hR:zN R):av gP 29 (ao [.a,.a] (am6 R)):=rk λK a0 a1 H h=>afZ hR (afY hR NL) a0 a1 H h
def sy:kU:=()
def f29:AV→AV→AH→KF→Prop:=am6 sy
theorem af0:av gP 29 (ao [.a,.a] f29):=aps sy ad.nil
abbrev eC:Type:=(AV→AV→AH→KF→Prop)×(AV→AV→AH→KF→Prop)×(AV→AV→AH→KF→Prop)
def ase(R:eC):List (Nat×cP):=[(10,ao [.a,.a] R.1),(29,ao [.a,.a] R.2.1),(30,ao [.a,.a] R.2.2)]
abbrev kV(R:eC):Prop:=ad gP (ase R)
abbrev QM(K:KF)(F:T_):Prop:=aM 10 K [1,1,1] 84 [] [] F
abbrev mv(K:KF)(F:aR):Prop:=aM 10 K [0,1,0,1,1] 84 [0,1,5] [.a,.a,.i 0] F
abbrev QO(K:KF)(F:aR):Prop:=aM 10 K [1,1,0,0,1,0,1,1] 84 [0,1,5] [.a,.a,.i 0] F
abbrev QP(K:KF)(F:kg):Prop:=aM 10 K [1,0,0,1,0,0,1,0,1,1] 84 [0,1,5,6,7] [.a,.a,.i 0,.a,.a] F
abbrev QQ(K:KF)(F:kg):Prop:=aM 10 K [1,1,0,0,1,0,0,1,0,1,1] 84 [0,1,5,6,7] [.a,.a,.i 0,.a,.a] F
abbrev sA(K:KF)(F:dP):Prop:=aM 10 K [0,1,1,1,0,0,1,0,0,1,0,1,1] 84 [0,1,5,6,7,8] [.a,.a,.i 0,.a,.a,.i 0] F
abbrev QR(K:KF)(F:dP):Prop:=aM 10 K [1,1,0,0,1,1,1,0,0,1,0,0,1,0,1,1] 84 [0,1,5,6,7,8] [.a,.a,.i 0,.a,.a,.i 0] F
def HD(R:eC)(K:KF)(x2:aR)(a0 a1:AV)(a5:Int)(H:AH):Prop:=aJ 0 (Int.add a5 (.ofNat 1)) λz1=>x2 a0 a1 z1 H
theorem af1{R:eC}(hR:kV R){K:KF}{x2:aR}(h2:mv K x2):QO K (HD R K x2):=λa0 a1 a5 H h=>pk hR (cc h2 .nil) h
def HE(R:eC)(K:KF)(i2:aR):aR:=HD R K i2
theorem af2{R:eC}(hR:kV R){K:KF}{i2:aR}(g2:mv K i2):QO K (HE R K i2):=af1 hR g2
def HF(R:eC)(K:KF)(x6:dP)(a0 a1:AV)(a5:Int)(a6 a7:AV)(a8:Int)(H:AH):Prop:=aJ 0 (Int.add a8 (.ofNat 1)) λz1=>x6 a0 a1 a5 a6 a7 z1 H
theorem af3{R:eC}(hR:kV R){K:KF}{x6:dP}(h6:sA K x6):QR K (HF R K x6):=λa0 a1 a5 a6 a7 a8 H h=>pk hR (cc h6 .nil) h
def QS(R:eC)(K:KF)(i2:aR)(i6:dP):dP:=HF R K i6
theorem af4{R:eC}(hR:kV R){K:KF}{i2:aR}{i6:dP}(g2:mv K i2)(g6:sA K i6):QR K (QS R K i2 i6):=af3 hR g6
def HG(R:eC)(K:KF)(x3:aR)(x7:dP)(a0 a1:AV)(a5:Int)(a6 a7:AV)(a8:Int)(H:AH):Prop:=al 4 a6 λv1=>ak v1 H λv2=>dp v2 λv3=>cI 0 v3 λz4=>bI (cg a8 z4) (al 4 a6 λv5=>ak v5 H λv6=>cK 1 v6 (.int 0 a8) λv7=>ak v7 H λv8=>al 4 a7 λv9=>ak v9 H λv10=>cK 1 v10 (.int 0 a8) λv11=>ak v11 H λv12=>R.1 v8 v12 H λmP cN=>cR K mP cN λv15=>bf v15 λki=>bI (!ki) (K (.ret (.bool false)) cN) (x7 a0 a1 a5 a6 a7 a8 cN)) (x3 a0 a1 a5 H)
theorem af5{R:eC}(hR:kV R){K:KF}{x3:aR}{x7:dP}(h3:QO K x3)(h7:QR K x7):sA K (HG R K x3 x7):=λa0 a1 a5 a6 a7 a8 H h=>pk hR (cc h3 (cc h7 .nil)) h
def af6(R:eC)(K:KF)(i2:aR)(i6:dP):dP:=HG R K (HE R K i2) (QS R K i2 i6)
theorem af7{R:eC}(hR:kV R){K:KF}{i2:aR}{i6:dP}(g2:mv K i2)(g6:sA K i6):sA K (af6 R K i2 i6):=af5 hR (af2 hR g2) (af4 hR g2 g6)
def vk(R:eC)(K:KF)(i2:aR)(n:Nat):dP:=Nat.rec (motive:=λ_=>dP) (λ_ _ _ _ _ _ _=>False) (λ_ i=>af6 R K i2 i) n
theorem af8{R:eC}(hR:kV R){K:KF}{i2:aR}(g2:mv K i2)(n:Nat):sA K (vk R K i2 n):=Nat.rec (motive:=λn=>sA K (vk R K i2 n)) (λa0 a1 a5 a6 a7 a8 H h=>h.elim) (λn ih=>af7 hR g2 ih) n
def HH(R:eC)(K:KF)(x6:dP)(a0 a1:AV)(a5:Int)(a6 a7:AV)(H:AH):Prop:=x6 a0 a1 a5 a6 a7 (.ofNat 0) H
theorem af9{R:eC}(hR:kV R){K:KF}{x6:dP}(h6:sA K x6):QQ K (HH R K x6):=λa0 a1 a5 a6 a7 H h=>pk hR (cc h6 .nil) h
def QT(R:eC)(K:KF)(i2:aR):kg:=HH R K (vk R K i2 NL)
theorem aga{R:eC}(hR:kV R){K:KF}{i2:aR}(g2:mv K i2):QQ K (QT R K i2):=af9 hR (af8 hR g2 NL)
def HI(R:eC)(K:KF)(x5:kg)(a0 a1:AV)(a5:Int)(a6 a7:AV)(H:AH):Prop:=al 0 a6 λv1=>ak v1 H λv2=>cI 0 v2 λz3=>al 0 a7 λv4=>ak v4 H λv5=>cI 0 v5 λz6=>bI (!(bj z3 z6)) (K (.ret (.bool false)) H) (al 1 a6 λv7=>ak v7 H λv8=>cI 0 v8 λz9=>al 1 a7 λv10=>ak v10 H λv11=>cI 0 v11 λz12=>bI (!(bj z9 z12)) (K (.ret (.bool false)) H) (al 2 a6 λv13=>ak v13 H λv14=>al 2 a7 λv15=>ak v15 H λv16=>R.2.1 v14 v16 H λqn dK=>cR K qn dK λv19=>bf v19 λz20=>bI (!z20) (K (.ret (.bool false)) dK) (al 3 a6 λv21=>ak v21 dK λv22=>al 3 a7 λv23=>ak v23 dK λv24=>R.2.2 v22 v24 dK λGG nO=>cR K GG nO λv27=>bf v27 λz28=>bI (!z28) (K (.ret (.bool false)) nO) (al 4 a6 λv29=>ak v29 nO λv30=>dp v30 λv31=>cI 0 v31 λz32=>al 4 a7 λv33=>ak v33 nO λv34=>dp v34 λv35=>cI 0 v35 λz36=>bI (!(bj z32 z36)) (K (.ret (.bool false)) nO) (x5 a0 a1 a5 a6 a7 nO)))))
theorem agb{R:eC}(hR:kV R){K:KF}{x5:kg}(h5:QQ K x5):QP K (HI R K x5):=λa0 a1 a5 a6 a7 H h=>pk hR (cc h5 .nil) h
def QU(R:eC)(K:KF)(i2:aR):kg:=HI R K (QT R K i2)
theorem agc{R:eC}(hR:kV R){K:KF}{i2:aR}(g2:mv K i2):QP K (QU R K i2):=agb hR (aga hR g2)
def agd(R:eC)(K:KF)(H:AH):Prop:=K (.ret (.bool true)) H
theorem age{R:eC}(hR:kV R){K:KF}:QM K (agd R K):=λH h=>pk hR .nil h
def QV(R:eC)(K:KF):T_:=agd R K
theorem agf{R:eC}(hR:kV R){K:KF}:QM K (QV R K):=age hR
def HJ(R:eC)(K:KF)(x4:kg)(x1:T_)(a0 a1:AV)(a5:Int)(H:AH):Prop:=dp a0 λv1=>cI 0 v1 λz2=>bI (cg a5 z2) (cK 5 a0 (.int 0 a5) λv3=>aF 5 v3 H λv4=>cK 5 a1 (.int 0 a5) λv5=>aF 5 v5 H λv6=>bG H (cw H (gE (aA H) [(.int 0 (.ofNat 0)),(.int 0 (.ofNat 0)),.ab,.ab,.ab] λv7 H8=>bT (Nat.beq H8.n (Nat.succ H.n)) (bG H8 (cw H8 (gE (aA H8) [(.int 0 (.ofNat 0)),(.int 0 (.ofNat 0)),.ab,.ab,.ab] λv9 bJ=>bT (Nat.beq bJ.n (Nat.succ H8.n)) (ae 5 v7 v4 bJ λdZ=>aF 5 v5 dZ λv12=>bT (aU v12 v6) (ae 5 v9 v6 dZ λdL=>x4 a0 a1 a5 v7 v9 dL)))))))) (x1 H)
theorem agh{R:eC}(hR:kV R){K:KF}{x4:kg}{x1:T_}(h4:QP K x4)(h1:QM K x1):mv K (HJ R K x4 x1):=λa0 a1 a5 H h=>pk hR (cc h4 (cc h1 .nil)) h
def agi(R:eC)(K:KF)(i2:aR):aR:=HJ R K (QU R K i2) (QV R K)
theorem agj{R:eC}(hR:kV R){K:KF}{i2:aR}(g2:mv K i2):mv K (agi R K i2):=agh hR (agc hR g2) (agf hR)
def oT(R:eC)(K:KF)(n:Nat):aR:=Nat.rec (motive:=λ_=>aR) (λ_ _ _ _=>False) (λ_ i=>agi R K i) n
theorem agk{R:eC}(hR:kV R){K:KF}(n:Nat):mv K (oT R K n):=Nat.rec (motive:=λn=>mv K (oT R K n)) (λa0 a1 a5 H h=>h.elim) (λn ih=>agj hR ih) n
def HK(R:eC)(K:KF)(x2:aR)(a0 a1:AV)(H:AH):Prop:=dp a0 λv1=>cI 0 v1 λz2=>dp a1 λv3=>cI 0 v3 λz4=>bI (!(bj z2 z4)) (K (.ret (.bool false)) H) (x2 a0 a1 (.ofNat 0) H)
theorem agl{R:eC}(hR:kV R){K:KF}{x2:aR}(h2:mv K x2)(a0 a1:AV)(H:AH)(h:HK R K x2 a0 a1 H):dw 10 K [] (ba (di 10) [a0,a1]) [] H:=pk hR (cc h2 .nil) h
def asf(R:eC)(K:KF):bC:=HK R K (oT R K NL)
def aaT(R:eC):AV→AV→AH→KF→Prop:=λa0 a1 H K=>asf R K a0 a1 H
theorem apt(R:eC)(hR:kV R):av gP 10 (ao [.a,.a] (aaT R)):=rk λK a0 a1 H h=>agl hR (agk hR NL) a0 a1 H h
abbrev eD:Type:=(AV→AV→AH→KF→Prop)×(AV→AV→AH→KF→Prop)×(AV→AV→AH→KF→Prop)
def asg(R:eD):List (Nat×cP):=[(10,ao [.a,.a] R.1),(29,ao [.a,.a] R.2.1),(30,ao [.a,.a] R.2.2)]
abbrev kW(R:eD):Prop:=ad gP (asg R)
abbrev QW(K:KF)(F:T_):Prop:=aM 30 K [1,1,1] 115 [] [] F
abbrev mw(K:KF)(F:aR):Prop:=aM 30 K [0,1,0,1,1] 115 [0,1,5] [.a,.a,.i 0] F
abbrev QX(K:KF)(F:aR):Prop:=aM 30 K [1,1,0,0,1,0,1,1] 115 [0,1,5] [.a,.a,.i 0] F
abbrev QY(K:KF)(F:kg):Prop:=aM 30 K [1,0,0,1,0,0,1,0,1,1] 115 [0,1,5,6,7] [.a,.a,.i 0,.a,.a] F
abbrev QZ(K:KF)(F:kg):Prop:=aM 30 K [1,1,0,0,1,0,0,1,0,1,1] 115 [0,1,5,6,7] [.a,.a,.i 0,.a,.a] F
abbrev sB(K:KF)(F:dP):Prop:=aM 30 K [0,1,1,1,0,0,1,0,0,1,0,1,1] 115 [0,1,5,6,7,8] [.a,.a,.i 0,.a,.a,.i 0] F
abbrev Q0(K:KF)(F:dP):Prop:=aM 30 K [1,1,0,0,1,1,1,0,0,1,0,0,1,0,1,1] 115 [0,1,5,6,7,8] [.a,.a,.i 0,.a,.a,.i 0] F
def HL(R:eD)(K:KF)(x2:aR)(a0 a1:AV)(a5:Int)(H:AH):Prop:=aJ 0 (Int.add a5 (.ofNat 1)) λz1=>x2 a0 a1 z1 H
theorem agm{R:eD}(hR:kW R){K:KF}{x2:aR}(h2:mw K x2):QX K (HL R K x2):=λa0 a1 a5 H h=>pk hR (cc h2 .nil) h
def HM(R:eD)(K:KF)(i2:aR):aR:=HL R K i2
theorem agn{R:eD}(hR:kW R){K:KF}{i2:aR}(g2:mw K i2):QX K (HM R K i2):=agm hR g2
def HN(R:eD)(K:KF)(x6:dP)(a0 a1:AV)(a5:Int)(a6 a7:AV)(a8:Int)(H:AH):Prop:=aJ 0 (Int.add a8 (.ofNat 1)) λz1=>x6 a0 a1 a5 a6 a7 z1 H
theorem ago{R:eD}(hR:kW R){K:KF}{x6:dP}(h6:sB K x6):Q0 K (HN R K x6):=λa0 a1 a5 a6 a7 a8 H h=>pk hR (cc h6 .nil) h
def Q2(R:eD)(K:KF)(i2:aR)(i6:dP):dP:=HN R K i6
theorem agp{R:eD}(hR:kW R){K:KF}{i2:aR}{i6:dP}(g2:mw K i2)(g6:sB K i6):Q0 K (Q2 R K i2 i6):=ago hR g6
def HO(R:eD)(K:KF)(x3:aR)(x7:dP)(a0 a1:AV)(a5:Int)(a6 a7:AV)(a8:Int)(H:AH):Prop:=al 6 a6 λv1=>ak v1 H λv2=>dp v2 λv3=>cI 0 v3 λz4=>bI (cg a8 z4) (al 6 a6 λv5=>ak v5 H λv6=>cK 2 v6 (.int 0 a8) λv7=>al 0 v7 λv8=>ak v8 H λv9=>al 6 a7 λv10=>ak v10 H λv11=>cK 2 v11 (.int 0 a8) λv12=>al 0 v12 λv13=>ak v13 H λv14=>R.2.1 v9 v14 H λvd dm=>cR K vd dm λv17=>bf v17 λA9=>bI (!A9) (K (.ret (.bool false)) dm) (al 6 a6 λv19=>ak v19 dm λv20=>cK 2 v20 (.int 0 a8) λv21=>al 1 v21 λv22=>ak v22 dm λv23=>al 6 a7 λv24=>ak v24 dm λv25=>cK 2 v25 (.int 0 a8) λv26=>al 1 v26 λv27=>ak v27 dm λv28=>R.1 v23 v28 dm λo29 uW=>cR K o29 uW λv31=>bf v31 λz32=>bI (!z32) (K (.ret (.bool false)) uW) (x7 a0 a1 a5 a6 a7 a8 uW))) (x3 a0 a1 a5 H)
theorem agq{R:eD}(hR:kW R){K:KF}{x3:aR}{x7:dP}(h3:QX K x3)(h7:Q0 K x7):sB K (HO R K x3 x7):=λa0 a1 a5 a6 a7 a8 H h=>pk hR (cc h3 (cc h7 .nil)) h
def agr(R:eD)(K:KF)(i2:aR)(i6:dP):dP:=HO R K (HM R K i2) (Q2 R K i2 i6)
theorem ags{R:eD}(hR:kW R){K:KF}{i2:aR}{i6:dP}(g2:mw K i2)(g6:sB K i6):sB K (agr R K i2 i6):=agq hR (agn hR g2) (agp hR g2 g6)
def vm(R:eD)(K:KF)(i2:aR)(n:Nat):dP:=Nat.rec (motive:=λ_=>dP) (λ_ _ _ _ _ _ _=>False) (λ_ i=>agr R K i2 i) n
theorem agt{R:eD}(hR:kW R){K:KF}{i2:aR}(g2:mw K i2)(n:Nat):sB K (vm R K i2 n):=Nat.rec (motive:=λn=>sB K (vm R K i2 n)) (λa0 a1 a5 a6 a7 a8 H h=>h.elim) (λn ih=>ags hR g2 ih) n
def HP(R:eD)(K:KF)(x6:dP)(a0 a1:AV)(a5:Int)(a6 a7:AV)(H:AH):Prop:=x6 a0 a1 a5 a6 a7 (.ofNat 0) H
theorem agu{R:eD}(hR:kW R){K:KF}{x6:dP}(h6:sB K x6):QZ K (HP R K x6):=λa0 a1 a5 a6 a7 H h=>pk hR (cc h6 .nil) h
def Q3(R:eD)(K:KF)(i2:aR):kg:=HP R K (vm R K i2 NL)
theorem agv{R:eD}(hR:kW R){K:KF}{i2:aR}(g2:mw K i2):QZ K (Q3 R K i2):=agu hR (agt hR g2 NL)
def HQ(R:eD)(K:KF)(x5:kg)(a0 a1:AV)(a5:Int)(a6 a7:AV)(H:AH):Prop:=al 0 a6 λv1=>ak v1 H λv2=>cI 0 v2 λz3=>al 0 a7 λv4=>ak v4 H λv5=>cI 0 v5 λz6=>bI (!(bj z3 z6)) (K (.ret (.bool false)) H) (al 1 a6 λv7=>ak v7 H λv8=>cI 0 v8 λz9=>al 1 a7 λv10=>ak v10 H λv11=>cI 0 v11 λz12=>bI (!(bj z9 z12)) (K (.ret (.bool false)) H) (al 2 a6 λv13=>ak v13 H λv14=>cI 0 v14 λlA=>al 2 a7 λv16=>ak v16 H λv17=>cI 0 v17 λA9=>bI (!(bj lA A9)) (K (.ret (.bool false)) H) (al 3 a6 λv19=>ak v19 H λv20=>al 3 a7 λv21=>ak v21 H λv22=>Uq v20 v22 λv23=>bf v23 λz24=>bI z24 (K (.ret (.bool false)) H) (al 4 a6 λv25=>ak v25 H λv26=>cI 0 v26 λz27=>al 4 a7 λv28=>ak v28 H λv29=>cI 0 v29 λz30=>bI (!(bj z27 z30)) (K (.ret (.bool false)) H) (al 5 a6 λv31=>ak v31 H λv32=>al 5 a7 λv33=>ak v33 H λv34=>R.2.2 v32 v34 H λo35 Am=>cR K o35 Am λv37=>bf v37 λz38=>bI (!z38) (K (.ret (.bool false)) Am) (al 6 a6 λv39=>ak v39 Am λv40=>dp v40 λv41=>cI 0 v41 λz42=>al 6 a7 λv43=>ak v43 Am λv44=>dp v44 λv45=>cI 0 v45 λz46=>bI (!(bj z42 z46)) (K (.ret (.bool false)) Am) (x5 a0 a1 a5 a6 a7 Am)))))))
theorem agw{R:eD}(hR:kW R){K:KF}{x5:kg}(h5:QZ K x5):QY K (HQ R K x5):=λa0 a1 a5 a6 a7 H h=>pk hR (cc h5 .nil) h
def Q4(R:eD)(K:KF)(i2:aR):kg:=HQ R K (Q3 R K i2)
theorem agx{R:eD}(hR:kW R){K:KF}{i2:aR}(g2:mw K i2):QY K (Q4 R K i2):=agw hR (agv hR g2)
def agy(R:eD)(K:KF)(H:AH):Prop:=K (.ret (.bool true)) H
theorem agz{R:eD}(hR:kW R){K:KF}:QW K (agy R K):=λH h=>pk hR .nil h
def Q5(R:eD)(K:KF):T_:=agy R K
theorem agA{R:eD}(hR:kW R){K:KF}:QW K (Q5 R K):=agz hR
def HS(R:eD)(K:KF)(x4:kg)(x1:T_)(a0 a1:AV)(a5:Int)(H:AH):Prop:=dp a0 λv1=>cI 0 v1 λz2=>bI (cg a5 z2) (cK 7 a0 (.int 0 a5) λv3=>aF 7 v3 H λv4=>cK 7 a1 (.int 0 a5) λv5=>aF 7 v5 H λv6=>bG H (cw H (cx gP (aA H) 49 λv7 H8=>bT (Nat.beq H8.n (Nat.succ H.n)) (bG H8 (cw H8 (cx gP (aA H8) 49 λv9 bJ=>bT (Nat.beq bJ.n (Nat.succ H8.n)) (ae 7 v7 v4 bJ λdZ=>aF 7 v5 dZ λv12=>bT (aU v12 v6) (ae 7 v9 v6 dZ λdL=>x4 a0 a1 a5 v7 v9 dL)))))))) (x1 H)
theorem agB{R:eD}(hR:kW R){K:KF}{x4:kg}{x1:T_}(h4:QY K x4)(h1:QW K x1):mw K (HS R K x4 x1):=λa0 a1 a5 H h=>pk hR (cc h4 (cc h1 .nil)) h
def agC(R:eD)(K:KF)(i2:aR):aR:=HS R K (Q4 R K i2) (Q5 R K)
theorem agD{R:eD}(hR:kW R){K:KF}{i2:aR}(g2:mw K i2):mw K (agC R K i2):=agB hR (agx hR g2) (agA hR)
def oU(R:eD)(K:KF)(n:Nat):aR:=Nat.rec (motive:=λ_=>aR) (λ_ _ _ _=>False) (λ_ i=>agC R K i) n
theorem agE{R:eD}(hR:kW R){K:KF}(n:Nat):mw K (oU R K n):=Nat.rec (motive:=λn=>mw K (oU R K n)) (λa0 a1 a5 H h=>h.elim) (λn ih=>agD hR ih) n
def HT(R:eD)(K:KF)(x2:aR)(a0 a1:AV)(H:AH):Prop:=dp a0 λv1=>cI 0 v1 λz2=>dp a1 λv3=>cI 0 v3 λz4=>bI (!(bj z2 z4)) (K (.ret (.bool false)) H) (x2 a0 a1 (.ofNat 0) H)
theorem agF{R:eD}(hR:kW R){K:KF}{x2:aR}(h2:mw K x2)(a0 a1:AV)(H:AH)(h:HT R K x2 a0 a1 H):dw 30 K [] (ba (di 30) [a0,a1]) [] H:=pk hR (cc h2 .nil) h
def ash(R:eD)(K:KF):bC:=HT R K (oU R K NL)
def aaU(R:eD):AV→AV→AH→KF→Prop:=λa0 a1 H K=>ash R K a0 a1 H
theorem apu(R:eD)(hR:kW R):av gP 30 (ao [.a,.a] (aaU R)):=rk λK a0 a1 H h=>agF hR (agE hR NL) a0 a1 H h
abbrev aaV:Type:=(AV→AV→AH→KF→Prop)×(AV→AV→AH→KF→Prop)
def yo(S:aaV):eC:=(S.1,f29,S.2)
def yp(S:aaV):eD:=(S.1,f29,S.2)
noncomputable def sC(n:Nat):aaV:=Nat.rec (motive:=λ_=>aaV) (λ_ _ _ _=>False,λ_ _ _ _=>False) (λ_ S=>(aaT (yo S),aaU (yp S))) n
theorem asi(n:Nat):av gP 10 (ao [.a,.a] (sC n).1)∧av gP 30 (ao [.a,.a] (sC n).2):=by
 induction n with
 |zero=>exact⟨dz [.a,.a],dz [.a,.a]⟩
 |succ n ih=>exact⟨apt (yo (sC n)) (ad.cons (ih.1) (ad.cons af0 (ad.cons (ih.2) ad.nil))),apu (yp (sC n)) (ad.cons (ih.1) (ad.cons af0 (ad.cons (ih.2) ad.nil)))⟩
def f10:AV→AV→AH→KF→Prop:=(sC NL).1
theorem asj:av gP 10 (ao [.a,.a] f10):=(asi NL).1
abbrev sY:Type:=(AH→KF→Prop)×(AV→AH→KF→Prop)×(AV→AH→KF→Prop)×(AV→AV→AH→KF→Prop)
def auo(R:sY):List (Nat×cP):=[(7,ao [] R.1),(8,ao [.a] R.2.1),(9,ao [.a] R.2.2.1),(10,ao [.a,.a] R.2.2.2)]
abbrev aaW(R:sY):Prop:=ad gP (auo R)
abbrev aaX(K:KF)(F:BU):Prop:=aM 3 K [1,1,1,1] 41 [3,4,5,6,7,8] [.a,.i 0,.i 0,.a,.i 0,.i 0] F
def HU(R:sY)(K:KF)(a3:AV)(a4 a5:Int)(a6:AV)(a7 a8:Int)(H:AH):Prop:=R.1  H λo1 H2=>cR K o1 H2 λv3=>bf v3 λz4=>bI z4 (bI (bj a4 a7) (bI (bj a5 a8) (R.2.2.2 a3 a6 H2 λo5 H6=>cR K o5 H6 λv7=>bf v7 λz8=>K (.ret (.bool z8)) H6) (K (.ret (.bool false)) H2)) (K (.ret (.bool false)) H2)) (K (.ret (.bool false)) H2)
theorem alS{R:sY}(hR:aaW R){K:KF}:aaX K (HU R K):=λa3 a4 a5 a6 a7 a8 H h=>pk hR .nil h
def am7(R:sY)(K:KF):BU:=HU R K
theorem alT{R:sY}(hR:aaW R){K:KF}:aaX K (am7 R K):=alS hR
def Ob(R:sY)(K:KF)(x1:BU)(a0:AV)(H:AH):Prop:=sLen a0 λv1=>cI 0 v1 λz2=>bI (cg (.ofNat 1500) z2) (R.1  H λo3 H4=>cR K o3 H4 λv5=>bf v5 λz6=>K (.ret (.bool z6)) H4) (R.2.1 a0 H λo7 H8=>cR K o7 H8 λv9=>eA v9 λl10=>cX l10 0 λv11=>eA v9 λl12=>cX l12 1 λv13=>cI 0 v13 λmn=>eA v9 λl15=>cX l15 2 λv16=>cI 0 v16 λz17=>R.2.2.1 a0 H8 λGD ib=>cR K GD ib λv20=>eA v20 λU2=>cX U2 0 λv22=>eA v20 λVA=>cX VA 1 λv24=>cI 0 v24 λz25=>eA v20 λl26=>cX l26 2 λv27=>cI 0 v27 λz28=>x1 v11 mn z17 v22 z25 z28 ib)
theorem alU{R:sY}(hR:aaW R){K:KF}{x1:BU}(h1:aaX K x1)(a0:AV)(H:AH)(h:Ob R K x1 a0 H):dw 3 K [] (ba (di 3) [a0]) [] H:=pk hR (cc h1 .nil) h
def aup(R:sY)(K:KF):Ta:=Ob R K (am7 R K)
def asl(R:sY):AV→AH→KF→Prop:=λa0 H K=>aup R K a0 H
theorem asm(R:sY)(hR:aaW R):av gP 3 (ao [.a] (asl R)):=rk λK a0 H h=>alU hR (alT hR) a0 H h
end Go.Proofs.YtcedghechlgecaaGreatDoor.G
