/- The functions of the parser of the document, by program. No condition. -/
import Derived.Test.YtcedghechlgecaaDoorYa
import Derived.Test.YtcedghechlgecaaDoorChecked
set_option maxRecDepth 100000
set_option maxHeartbeats 0
set_option linter.unusedVariables false
set_option linter.unusedSimpArgs false
namespace Go.Proofs.YtcedghechlgecaaDoor.G
open Go Go.X
noncomputable abbrev gPa:Program:=Tryd.prog
abbrev NL:Nat:=1000000
theorem mix:gPa.follows .mixedOrders=true:=by kernel_rfl
noncomputable def dy(n:Nat):Func:=(gPa.funcs[n]?).getD default
noncomputable def gBd(n:Nat):Code:=(dy n).body.getD .skip
abbrev dQ(n:Nat)(K:KF):List Nat→yk:=yl gPa (gBd n) (QT gPa JP (dy n) K)
abbrev aR(n:Nat)(K:KF)(p:List Nat)(m:Nat)(s:List Nat)(t:List Ty)(F:rH (AH→Prop) t):Prop:=afC gPa (gBd n) (QT gPa JP (dy n) K) p m s t F
theorem pk{ct:List (Nat×cY)}(hR:af gPa ct){b:Code}{Q:KT}{t:ym}{p:List Nat}{env:List AV}{H:AH}(ht:nf gPa b Q t){A:Prop}(h:A)(e:A=JL (jG ct) (Iv gPa (jG ct)) gPa gPa.globals.size b (AO t) Q 400 p env [] H:=by kernel_rfl):yl gPa b Q p env [] H:=
 TQ (sE hR) (JJ mix _ (sE hR)) ht (Eq.mp e h)
theorem cc{b:Code}{Q:KT}{p:List Nat}{n:Nat}{s:List Nat}{l:List Ty}{F:rH (AH→Prop) l}{t:ym}(h:afC gPa b Q p n s l F)(ht:nf gPa b Q t):nf gPa b Q ((p,akA n s l F)::t):=nf.cons (akB h) ht
theorem rk{g:Nat}{l:List Ty}{F:rH (AH→KF→Prop) l}(h:∀K,pt l F λr a=>∀H,r H K→dQ g K [] (bz (dy g) a) [] H)(hf:gPa.funcs[g]? = some (dy g):=by kernel_rfl)(hc:(dy g).body=some (gBd g):=by kernel_rfl):aw gPa g (ao l F):=aw.aij hf hc h
abbrev Ta:Type:=AV→AH→Prop
abbrev cN:Type:=AV→AV→AH→Prop
abbrev gy:Type:=AV→AV→AV→AH→Prop
abbrev ax:Type:=AV→AV→Int→AH→Prop
abbrev gN:Type:=AV→AV→Int→AV→AH→Prop
abbrev dU:Type:=AV→Int→AH→Prop
abbrev ks:Type:=AV→Int→AV→AH→Prop
abbrev cq:Type:=AV→Int→AV→AV→AH→Prop
abbrev dq:Type:=AV→Int→AV→AV→Int→AH→Prop
abbrev bH:Type:=AV→Int→AV→AV→Int→AV→AH→Prop
abbrev qK:Type:=AV→Int→AV→Int→AV→AH→Prop
abbrev qL:Type:=AV→Int→AV→Int→Int→AH→Prop
abbrev hO:Type:=AV→Int→Int→AH→Prop
abbrev BN:Type:=AV→Int→Int→AV→AV→AH→Prop
abbrev dM:Type:=AV→Int→Int→AV→AV→AV→AV→AH→Prop
abbrev iP:Type:=AV→Int→Int→AV→AV→AV→AV→Int→AH→Prop
abbrev rR:Type:=AV→Int→Int→AV→AV→AV→AV→Int→Int→AH→Prop
abbrev jm:Type:=AV→Int→Int→AV→AV→AV→AV→Int→Int→AV→Int→AH→Prop
abbrev tL:Type:=Unit
def akI(R:tL):List (Nat×cY):=[]
abbrev agB(R:tL):Prop:=af gPa (akI R)
def BO(R:tL)(K:KF)(a0:AV)(a1:Int)(H:AH):Prop:=au a0 (ag 2 a0 λv1=>ad v1 H λv2=>cI 0 v2 λz3=>bI (bA z3 (.ofNat 0)) (au a0 (ag 0 a0 λv4=>ad v4 H λv5=>au a0 (ag 1 a0 λv6=>ad v6 H λv7=>cI 0 v7 λz8=>bb 4 v5 (.int 0 z8) λv9=>ag 3 v9 λv10=>ad v10 H λv11=>cI 0 v11 λz12=>au a0 (ag 2 a0 λv13=>ah 1 v13 (.int 0 a1) H λdk=>au a0 (ag 3 a0 λv15=>ah 1 v15 (.int 0 z12) dk λeE=>K (.ret (.aP [])) eE))))) (K (.ret (.aP [])) H))
theorem T5{R:tL}(hR:agB R){K:KF}(a0:AV)(a1:Int)(H:AH)(h:BO R K a0 a1 H):dQ 18 K [] (bz (dy 18) [a0,(.int 0 a1)]) [] H:=pk hR .nil h
def akJ(R:tL)(K:KF):dU:=BO R K
def agC(R:tL):AV→Int→AH→KF→Prop:=λa0 a1 H K=>akJ R K a0 a1 H
theorem aio(R:tL)(hR:agB R):aw gPa 18 (ao [.a,.i 0] (agC R)):=rk λK a0 a1 H h=>T5 hR a0 a1 H h
def JW:tL:=()
def f18:AV→Int→AH→KF→Prop:=agC JW
theorem qM:aw gPa 18 (ao [.a,.i 0] f18):=aio JW af.nil
abbrev tM:Type:=(AV→Int→AH→KF→Prop)
def akK(R:tM):List (Nat×cY):=[(18,ao [.a,.i 0] R)]
abbrev agD(R:tM):Prop:=af gPa (akK R)
def BP(R:tM)(K:KF)(a0:AV)(a1:Int)(H:AH):Prop:=bI (cx (.ofNat 100) a1) (R a0 (.ofNat 8) H λo1 H2=>cR K o1 H2 λv3=>K (.ret (.aP [])) H2) (K (.ret (.aP [])) H)
theorem T6{R:tM}(hR:agD R){K:KF}(a0:AV)(a1:Int)(H:AH)(h:BP R K a0 a1 H):dQ 37 K [] (bz (dy 37) [a0,(.int 0 a1)]) [] H:=pk hR .nil h
def akL(R:tM)(K:KF):dU:=BP R K
def agE(R:tM):AV→Int→AH→KF→Prop:=λa0 a1 H K=>akL R K a0 a1 H
theorem aip(R:tM)(hR:agD R):aw gPa 37 (ao [.a,.i 0] (agE R)):=rk λK a0 a1 H h=>T6 hR a0 a1 H h
def BQ:tM:=(f18)
def f37:AV→Int→AH→KF→Prop:=agE BQ
theorem BS:aw gPa 37 (ao [.a,.i 0] f37):=aip BQ (af.cons qM af.nil)
abbrev ox:Type:=Unit
def akM(R:ox):List (Nat×cY):=[]
abbrev Iw(R:ox):Prop:=af gPa (akM R)
abbrev JX(K:KF)(F:gy):Prop:=aR 41 K [1,1] 37 [0,1,5] [.a,.a,.a] F
def BT(R:ox)(K:KF)(a0 a1 a5:AV)(H:AH):Prop:=au a0 (ag 2 a0 λv1=>ad v1 H λv2=>cI 0 v2 λz3=>bI (bA z3 (.ofNat 0)) (ag 0 a5 λv4=>ad v4 H λv5=>cI 0 v5 λz6=>bI (bA z6 (.ofNat 1)) (ag 1 a5 λv7=>ad v7 H λv8=>uZ v8 a1 λv9=>bY v9 λz10=>K (.ret (.bool z10)) H) (ag 0 a5 λv11=>ad v11 H λv12=>cI 0 v12 λz13=>bI (bA z13 (.ofNat 5)) (ag 1 a5 λv14=>ad v14 H λv15=>uZ v15 a1 λv16=>bY v16 λz17=>K (.ret (.bool z17)) H) (K (.ret (.bool false)) H))) (K (.ret (.bool false)) H))
theorem T7{R:ox}(hR:Iw R){K:KF}:JX K (BT R K):=λa0 a1 a5 H h=>pk hR .nil h
def T8(R:ox)(K:KF):gy:=BT R K
theorem T9{R:ox}(hR:Iw R){K:KF}:JX K (T8 R K):=T7 hR
def BU(R:ox)(K:KF)(x1:gy)(a0 a1:AV)(H:AH):Prop:=au a0 (ag 0 a0 λv1=>ad v1 H λv2=>au a0 (ag 1 a0 λv3=>ad v3 H λv4=>cI 0 v4 λz5=>bb 4 v2 (.int 0 z5) λv6=>aQ 4 v6 H λv7=>cP H (eI H (hN (aE H) [(.int 0 (.ofNat 0)),(.str 0 0),(.int 0 (.ofNat 0)),(.int 0 (.ofNat 0))] λv8 H9=>bT (Nat.beq H9.n (Nat.succ H.n)) (ah 4 v8 v7 H9 λcn=>x1 a0 a1 v8 cn)))))
theorem Ua{R:ox}(hR:Iw R){K:KF}{x1:gy}(h1:JX K x1)(a0 a1:AV)(H:AH)(h:BU R K x1 a0 a1 H):dQ 41 K [] (bz (dy 41) [a0,a1]) [] H:=pk hR (cc h1 .nil) h
def akN(R:ox)(K:KF):cN:=BU R K (T8 R K)
def agF(R:ox):AV→AV→AH→KF→Prop:=λa0 a1 H K=>akN R K a0 a1 H
theorem aiq(R:ox)(hR:Iw R):aw gPa 41 (ao [.a,.a] (agF R)):=rk λK a0 a1 H h=>Ua hR (T9 hR) a0 a1 H h
def BV:ox:=()
def f41:AV→AV→AH→KF→Prop:=agF BV
theorem vx:aw gPa 41 (ao [.a,.a] f41):=aiq BV af.nil
abbrev tN:Type:=(AV→AV→AH→KF→Prop)
def akO(R:tN):List (Nat×cY):=[(41,ao [.a,.a] R)]
abbrev agG(R:tN):Prop:=af gPa (akO R)
def BW(R:tN)(K:KF)(a0:AV)(H:AH):Prop:=au a0 (ag 2 a0 λv1=>ad v1 H λv2=>cI 0 v2 λz3=>bI (!(bA z3 (.ofNat 0))) (K (.ret (.bool true)) H) (au a0 (ag 0 a0 λv4=>ad v4 H λv5=>au a0 (ag 1 a0 λv6=>ad v6 H λv7=>cI 0 v7 λz8=>bb 4 v5 (.int 0 z8) λv9=>ag 0 v9 λv10=>ad v10 H λv11=>cI 0 v11 λz12=>bI (bA z12 (.ofNat 0)) (K (.ret (.bool true)) H) (R a0 (.str 3 6581861) H λlI dk=>cR K lI dk λv15=>bY v15 λqN=>bI qN (K (.ret (.bool true)) dk) (R a0 (.str 4 1702063205) dk λo17 iz=>cR K o17 iz λv19=>bY v19 λz20=>bI z20 (K (.ret (.bool true)) iz) (R a0 (.str 6 112602859662437) iz λyt js=>cR K yt js λv23=>bY v23 λz24=>bI z24 (K (.ret (.bool true)) js) (R a0 (.str 5 465625706101) js λUb Ap=>cR K Ub Ap λv27=>bY v27 λz28=>K (.ret (.bool z28)) Ap))))))))
theorem Uc{R:tN}(hR:agG R){K:KF}(a0:AV)(H:AH)(h:BW R K a0 H):dQ 38 K [] (bz (dy 38) [a0]) [] H:=pk hR .nil h
def akP(R:tN)(K:KF):Ta:=BW R K
def agH(R:tN):AV→AH→KF→Prop:=λa0 H K=>akP R K a0 H
theorem air(R:tN)(hR:agG R):aw gPa 38 (ao [.a] (agH R)):=rk λK a0 H h=>Uc hR a0 H h
def BX:tN:=(f41)
def f38:AV→AH→KF→Prop:=agH BX
theorem akQ:aw gPa 38 (ao [.a] f38):=air BX (af.cons vx af.nil)
abbrev tO:Type:=Unit
def akR(R:tO):List (Nat×cY):=[]
abbrev agI(R:tO):Prop:=af gPa (akR R)
def BY(R:tO)(K:KF)(a0:AV)(H:AH):Prop:=au a0 (ag 0 a0 λv1=>ad v1 H λv2=>au a0 (ag 1 a0 λv3=>ad v3 H λv4=>cI 0 v4 λz5=>bb 4 v2 (.int 0 z5) λv6=>ag 3 v6 λv7=>ad v7 H λv8=>cI 0 v8 λz9=>K (.ret (.int 0 z9)) H))
theorem Ud{R:tO}(hR:agI R){K:KF}(a0:AV)(H:AH)(h:BY R K a0 H):dQ 39 K [] (bz (dy 39) [a0]) [] H:=pk hR .nil h
def akS(R:tO)(K:KF):Ta:=BY R K
def agJ(R:tO):AV→AH→KF→Prop:=λa0 H K=>akS R K a0 H
theorem ais(R:tO)(hR:agI R):aw gPa 39 (ao [.a] (agJ R)):=rk λK a0 H h=>Ud hR a0 H h
def JY:tO:=()
def f39:AV→AH→KF→Prop:=agJ JY
theorem qO:aw gPa 39 (ao [.a] f39):=ais JY af.nil
abbrev tP:Type:=(AV→AV→AH→KF→Prop)
def akT(R:tP):List (Nat×cY):=[(41,ao [.a,.a] R)]
abbrev agK(R:tP):Prop:=af gPa (akT R)
def BZ(R:tP)(K:KF)(a0 a1:AV)(H:AH):Prop:=R a0 a1 H λo1 H2=>cR K o1 H2 λv3=>bY v3 λz4=>bI z4 (au a0 (ag 1 a0 λv5=>ad v5 H2 λv6=>cI 0 v6 λz7=>aC 0 (Int.add z7 (.ofNat 1)) λz8=>au a0 (ag 1 a0 λv9=>ah 1 v9 (.int 0 z8) H2 λcn=>K (.ret (.bool true)) cn))) (K (.ret (.bool false)) H2)
theorem Ue{R:tP}(hR:agK R){K:KF}(a0 a1:AV)(H:AH)(h:BZ R K a0 a1 H):dQ 40 K [] (bz (dy 40) [a0,a1]) [] H:=pk hR .nil h
def akU(R:tP)(K:KF):cN:=BZ R K
def agL(R:tP):AV→AV→AH→KF→Prop:=λa0 a1 H K=>akU R K a0 a1 H
theorem ait(R:tP)(hR:agK R):aw gPa 40 (ao [.a,.a] (agL R)):=rk λK a0 a1 H h=>Ue hR a0 a1 H h
def B4:tP:=(f41)
def f40:AV→AV→AH→KF→Prop:=agL B4
theorem px:aw gPa 40 (ao [.a,.a] f40):=ait B4 (af.cons vx af.nil)
abbrev lq:Type:=(AV→Int→AH→KF→Prop)
def akV(R:lq):List (Nat×cY):=[(18,ao [.a,.i 0] R)]
abbrev zy(R:lq):Prop:=af gPa (akV R)
abbrev JZ(K:KF)(F:Ta):Prop:=aR 57 K [1,1] 48 [0] [.a] F
abbrev J0(K:KF)(F:Ta):Prop:=aR 57 K [1,1,1,1] 48 [0] [.a] F
def yu(R:lq)(K:KF)(a0:AV)(H:AH):Prop:=au a0 (ag 0 a0 λv1=>ad v1 H λv2=>au a0 (ag 1 a0 λv3=>ad v3 H λv4=>cI 0 v4 λz5=>aC 0 (Int.sub z5 (.ofNat 1)) λz6=>bb 4 v2 (.int 0 z6) λv7=>ag 1 v7 λv8=>ad v8 H λv9=>K (.ret v9) H))
theorem Uf{R:lq}(hR:zy R){K:KF}:J0 K (yu R K):=λa0 H h=>pk hR .nil h
def Ug(R:lq)(K:KF):Ta:=yu R K
theorem Uh{R:lq}(hR:zy R){K:KF}:J0 K (Ug R K):=Uf hR
def vy(R:lq)(K:KF)(x2:Ta)(a0:AV)(H:AH):Prop:=au a0 (ag 2 a0 λv1=>ad v1 H λv2=>cI 0 v2 λz3=>bI (!(bA z3 (.ofNat 0))) (K (.ret (.str 0 0)) H) (au a0 (ag 1 a0 λv4=>ad v4 H λv5=>cI 0 v5 λz6=>aC 0 (Int.add z6 (.ofNat 1)) λz7=>au a0 (ag 1 a0 λv8=>ah 1 v8 (.int 0 z7) H λH9=>x2 a0 H9))))
theorem Ui{R:lq}(hR:zy R){K:KF}{x2:Ta}(h2:J0 K x2):JZ K (vy R K x2):=λa0 H h=>pk hR (cc h2 .nil) h
def Uj(R:lq)(K:KF):Ta:=vy R K (Ug R K)
theorem Uk{R:lq}(hR:zy R){K:KF}:JZ K (Uj R K):=Ui hR (Uh hR)
def B6(R:lq)(K:KF)(x1:Ta)(a0:AV)(H:AH):Prop:=au a0 (ag 2 a0 λv1=>ad v1 H λv2=>cI 0 v2 λz3=>bI (bA z3 (.ofNat 0)) (au a0 (ag 0 a0 λv4=>ad v4 H λv5=>au a0 (ag 1 a0 λv6=>ad v6 H λv7=>cI 0 v7 λz8=>bb 4 v5 (.int 0 z8) λv9=>ag 0 v9 λv10=>ad v10 H λv11=>cI 0 v11 λz12=>bI (!(bA z12 (.ofNat 2))) (R a0 (.ofNat 14) H λlI dk=>cR K lI dk λv15=>x1 a0 dk) (x1 a0 H)))) (x1 a0 H))
theorem Ul{R:lq}(hR:zy R){K:KF}{x1:Ta}(h1:JZ K x1)(a0:AV)(H:AH)(h:B6 R K x1 a0 H):dQ 57 K [] (bz (dy 57) [a0]) [] H:=pk hR (cc h1 .nil) h
def akW(R:lq)(K:KF):Ta:=B6 R K (Uj R K)
def agM(R:lq):AV→AH→KF→Prop:=λa0 H K=>akW R K a0 H
theorem aiu(R:lq)(hR:zy R):aw gPa 57 (ao [.a] (agM R)):=rk λK a0 H h=>Ul hR (Uk hR) a0 H h
def qP:lq:=(f18)
def f57:AV→AH→KF→Prop:=agM qP
theorem B7:aw gPa 57 (ao [.a] f57):=aiu qP (af.cons qM af.nil)
abbrev tQ:Type:=(AV→Int→AH→KF→Prop)×(AV→AV→AH→KF→Prop)
def akX(R:tQ):List (Nat×cY):=[(18,ao [.a,.i 0] R.1),(40,ao [.a,.a] R.2)]
abbrev agN(R:tQ):Prop:=af gPa (akX R)
def B9(R:tQ)(K:KF)(a0 a1:AV)(H:AH):Prop:=R.2 a0 a1 H λo1 H2=>cR K o1 H2 λv3=>bY v3 λz4=>bI (!z4) (R.1 a0 (.ofNat 14) H2 λo5 H6=>cR K o5 H6 λv7=>K (.ret (.aP [])) H6) (K (.ret (.aP [])) H2)
theorem Um{R:tQ}(hR:agN R){K:KF}(a0 a1:AV)(H:AH)(h:B9 R K a0 a1 H):dQ 59 K [] (bz (dy 59) [a0,a1]) [] H:=pk hR .nil h
def akY(R:tQ)(K:KF):cN:=B9 R K
def agO(R:tQ):AV→AV→AH→KF→Prop:=λa0 a1 H K=>akY R K a0 a1 H
theorem aiv(R:tQ)(hR:agN R):aw gPa 59 (ao [.a,.a] (agO R)):=rk λK a0 a1 H h=>Um hR a0 a1 H h
def yv:tQ:=(f18,f40)
def f59:AV→AV→AH→KF→Prop:=agO yv
theorem yw:aw gPa 59 (ao [.a,.a] f59):=aiv yv (af.cons qM (af.cons px af.nil))
abbrev tR:Type:=(AV→Int→AH→KF→Prop)
def akZ(R:tR):List (Nat×cY):=[(18,ao [.a,.i 0] R)]
abbrev agP(R:tR):Prop:=af gPa (akZ R)
def Ca(R:tR)(K:KF)(a0:AV)(a1 a2:Int)(H:AH):Prop:=bI (!(cx a1 a2)) (R a0 (.ofNat 8) H λo1 H2=>cR K o1 H2 λv3=>K (.ret (.aP [])) H2) (K (.ret (.aP [])) H)
theorem Un{R:tR}(hR:agP R){K:KF}(a0:AV)(a1 a2:Int)(H:AH)(h:Ca R K a0 a1 a2 H):dQ 76 K [] (bz (dy 76) [a0,(.int 0 a1),(.int 0 a2)]) [] H:=pk hR .nil h
def ak0(R:tR)(K:KF):hO:=Ca R K
def agQ(R:tR):AV→Int→Int→AH→KF→Prop:=λa0 a1 a2 H K=>ak0 R K a0 a1 a2 H
theorem aiw(R:tR)(hR:agP R):aw gPa 76 (ao [.a,.i 0,.i 0] (agQ R)):=rk λK a0 a1 a2 H h=>Un hR a0 a1 a2 H h
def Cb:tR:=(f18)
def f76:AV→Int→Int→AH→KF→Prop:=agQ Cb
theorem J1:aw gPa 76 (ao [.a,.i 0,.i 0] f76):=aiw Cb (af.cons qM af.nil)
abbrev fc:Type:=(AV→Int→AH→KF→Prop)×(AV→Int→AH→KF→Prop)×(AV→AH→KF→Prop)×(AV→AH→KF→Prop)×(AV→AV→AH→KF→Prop)×(AV→AV→AH→KF→Prop)×(AV→Int→AH→KF→Prop)×(AV→AV→Int→AH→KF→Prop)
def ak1(R:fc):List (Nat×cY):=[(18,ao [.a,.i 0] R.1),(37,ao [.a,.i 0] R.2.1),(38,ao [.a] R.2.2.1),(39,ao [.a] R.2.2.2.1),(40,ao [.a,.a] R.2.2.2.2.1),(41,ao [.a,.a] R.2.2.2.2.2.1),(42,ao [.a,.i 0] R.2.2.2.2.2.2.1),(43,ao [.a,.a,.i 0] R.2.2.2.2.2.2.2)]
abbrev lW(R:fc):Prop:=af gPa (ak1 R)
abbrev J2(K:KF)(F:Ta):Prop:=aR 17 K [1,1,1,1,1] 55 [5] [.a] F
abbrev qQ(K:KF)(F:ks):Prop:=aR 17 K [0,0,1,1,1,1] 55 [0,1,5] [.a,.i 0,.a] F
abbrev J3(K:KF)(F:ks):Prop:=aR 17 K [1,1,1,1,0,1,0,0,0,1,1,1,1] 55 [0,1,5] [.a,.i 0,.a] F
abbrev Cc(K:KF)(F:gy):Prop:=aR 17 K [1,1,0,1,0,1,0,1,0,0,0,1,1,1,1] 55 [0,5,6] [.a,.a,.a] F
abbrev J4(K:KF)(F:cq):Prop:=aR 17 K [0,1,0,1,0,1,0,1,0,1,0,0,0,1,1,1,1] 55 [0,1,5,6] [.a,.i 0,.a,.a] F
abbrev J5(K:KF)(F:cN):Prop:=aR 17 K [1,1,1,1,0,1,0,1,0,1,0,0,0,1,1,1,1] 55 [5,6] [.a,.a] F
def Cd(R:fc)(K:KF)(a5 a6:AV)(H:AH):Prop:=aQ 5 a6 H λv1=>onVal v1 λl2=>gK l2 5 (aT (aE H) 1 5 (spl l2 [(.int 0 (.ofNat 0)),(.int 0 (.ofNat 0)),.ab,.ab,.ab] 0) λv3 H4=>cO 5 88 a5 v3 H4 λv5 H6=>K (.ret v5) H6)
theorem Uo{R:fc}(hR:lW R){K:KF}:J5 K (Cd R K):=λa5 a6 H h=>pk hR .nil h
def vz(R:fc)(K:KF):cN:=Cd R K
theorem Up{R:fc}(hR:lW R){K:KF}:J5 K (vz R K):=Uo hR
def Ce(R:fc)(K:KF)(x6:cN)(a0 a5 a6:AV)(H:AH):Prop:=R.2.2.2.2.1 a0 (.str 1 59) H λo1 H2=>cR K o1 H2 λv3=>bY v3 λz4=>R.2.2.1 a0 H2 λo5 H6=>cR K o5 H6 λv7=>bY v7 λz8=>bI (!z8) (R.1 a0 (.ofNat 14) H6 λo9 cn=>cR K o9 cn λv11=>x6 a5 a6 cn) (x6 a5 a6 H6)
theorem Uq{R:fc}(hR:lW R){K:KF}{x6:cN}(h6:J5 K x6):Cc K (Ce R K x6):=λa0 a5 a6 H h=>pk hR (cc h6 .nil) h
def qR(R:fc)(K:KF):gy:=Ce R K (vz R K)
theorem HI{R:fc}(hR:lW R){K:KF}:Cc K (qR R K):=Uq hR (Up hR)
def Cf(R:fc)(K:KF)(x4:gy)(a0:AV)(a1:Int)(a5 a6:AV)(H:AH):Prop:=R.2.2.2.2.2.2.1 a0 a1 H λo1 H2=>cR K o1 H2 λv3=>onVal v3 λl4=>gK l4 7 (aT (aE H2) 1 7 (spl l4 [(.int 0 (.ofNat 0)),(.int 0 (.ofNat 0)),(.int 0 (.ofNat 0)),(.str 0 0),(.int 0 (.ofNat 0)),.ab,.ab] 0) λv5 H6=>ag 3 a6 λv7=>ah 1 v7 v5 H6 λH8=>x4 a0 a5 a6 H8)
theorem Ur{R:fc}(hR:lW R){K:KF}{x4:gy}(h4:Cc K x4):J4 K (Cf R K x4):=λa0 a1 a5 a6 H h=>pk hR (cc h4 .nil) h
def Cg(R:fc)(K:KF):cq:=Cf R K (qR R K)
theorem Us{R:fc}(hR:lW R){K:KF}:J4 K (Cg R K):=Ur hR (HI hR)
def Ch(R:fc)(K:KF)(x2:ks)(a0:AV)(a1:Int)(a5:AV)(H:AH):Prop:=R.2.2.2.2.1 a0 (.str 1 59) H λo1 H2=>cR K o1 H2 λv3=>bY v3 λz4=>x2 a0 a1 a5 H2
theorem Ut{R:fc}(hR:lW R){K:KF}{x2:ks}(h2:qQ K x2):J3 K (Ch R K x2):=λa0 a1 a5 H h=>pk hR (cc h2 .nil) h
def Ci(R:fc)(K:KF)(i2:ks):ks:=Ch R K i2
theorem Uu{R:fc}(hR:lW R){K:KF}{i2:ks}(g2:qQ K i2):J3 K (Ci R K i2):=Ut hR g2
def vA(R:fc)(K:KF)(a5:AV)(H:AH):Prop:=K (.ret a5) H
theorem Uv{R:fc}(hR:lW R){K:KF}:J2 K (vA R K):=λa5 H h=>pk hR .nil h
def Cj(R:fc)(K:KF):Ta:=vA R K
theorem Uw{R:fc}(hR:lW R){K:KF}:J2 K (Cj R K):=Uv hR
def vB(R:fc)(K:KF)(x5:cq)(x4:gy)(x3:ks)(x1:Ta)(a0:AV)(a1:Int)(a5:AV)(H:AH):Prop:=R.2.2.1 a0 H λo1 H2=>cR K o1 H2 λv3=>bY v3 λz4=>bI (!z4) (R.2.2.2.1 a0 H2 λo5 H6=>cR K o5 H6 λv7=>cI 0 v7 λz8=>eI H6 (hN (aE H6) [(.int 0 (.ofNat 0)),(.int 0 (.ofNat 0)),.ab,.ab,.ab] λv9 cn=>ah 5 v9 (.agg [(.int 0 (.ofNat 0)),(.int 0 z8),.ab,.ab,.ab]) cn λiQ=>R.2.2.2.2.1 a0 (.str 6 121437875889522) iQ λqS fH=>cR K qS fH λv14=>bY v14 λmK=>bI mK (ag 0 v9 λv16=>ah 1 v16 (.int 0 (.ofNat 10)) fH λjO=>R.2.2.1 a0 jO λJ6 kj=>cR K J6 kj λv20=>bY v20 λz21=>bI (!z21) (R.2.2.2.2.2.1 a0 (.str 1 59) kj λUx qT=>cR K Ux qT λv24=>bY v24 λz25=>bI (!z25) (x5 a0 a1 a5 v9 qT) (x4 a0 a5 v9 qT)) (x4 a0 a5 v9 kj)) (R.2.2.2.2.2.2.2 a0 v9 a1 fH λo26 sH=>cR K o26 sH λv28=>aQ 5 v9 sH λv29=>onVal v29 λl30=>gK l30 5 (aT (aE sH) 1 5 (spl l30 [(.int 0 (.ofNat 0)),(.int 0 (.ofNat 0)),.ab,.ab,.ab] 0) λv31 H32=>cO 5 88 a5 v31 H32 λv33 H34=>x3 a0 a1 v33 H34)))) (x1 a5 H2)
theorem Uy{R:fc}(hR:lW R){K:KF}{x5:cq}{x4:gy}{x3:ks}{x1:Ta}(h5:J4 K x5)(h4:Cc K x4)(h3:J3 K x3)(h1:J2 K x1):qQ K (vB R K x5 x4 x3 x1):=λa0 a1 a5 H h=>pk hR (cc h5 (cc h4 (cc h3 (cc h1 .nil)))) h
def Ck(R:fc)(K:KF)(i2:ks):ks:=vB R K (Cg R K) (qR R K) (Ci R K i2) (Cj R K)
theorem Uz{R:fc}(hR:lW R){K:KF}{i2:ks}(g2:qQ K i2):qQ K (Ck R K i2):=Uy hR (Us hR) (HI hR) (Uu hR g2) (Uw hR)
def sI(R:fc)(K:KF)(n:Nat):ks:=Nat.rec (motive:=λ_=>ks) (λ_ _ _ _=>False) (λ_ i=>Ck R K i) n
theorem UA{R:fc}(hR:lW R){K:KF}(n:Nat):qQ K (sI R K n):=Nat.rec (motive:=λn=>qQ K (sI R K n)) (λa0 a1 a5 H h=>h.elim) (λn ih=>Uz hR ih) n
def J7(R:fc)(K:KF)(x2:ks)(a0:AV)(a1:Int)(H:AH):Prop:=aC 0 (Int.add a1 (.ofNat 1)) λz1=>R.2.1 a0 z1 H λo2 H3=>cR K o2 H3 λv4=>x2 a0 z1 .ab H3
theorem UB{R:fc}(hR:lW R){K:KF}{x2:ks}(h2:qQ K x2)(a0:AV)(a1:Int)(H:AH)(h:J7 R K x2 a0 a1 H):dQ 17 K [] (bz (dy 17) [a0,(.int 0 a1)]) [] H:=pk hR (cc h2 .nil) h
def UC(R:fc)(K:KF):dU:=J7 R K (sI R K NL)
def Cl(R:fc):AV→Int→AH→KF→Prop:=λa0 a1 H K=>UC R K a0 a1 H
theorem aix(R:fc)(hR:lW R):aw gPa 17 (ao [.a,.i 0] (Cl R)):=rk λK a0 a1 H h=>UB hR (UA hR NL) a0 a1 H h
abbrev tT:Type:=(AV→Int→AH→KF→Prop)×(AV→Int→Int→AH→KF→Prop)
def ak2(R:tT):List (Nat×cY):=[(37,ao [.a,.i 0] R.1),(56,ao [.a,.i 0,.i 0] R.2)]
abbrev agR(R:tT):Prop:=af gPa (ak2 R)
def Cm(R:tT)(K:KF)(a0:AV)(a1:Int)(H:AH):Prop:=eI H (eX gPa (aE H) 41 λv1 H2=>aC 0 (Int.add a1 (.ofNat 1)) λz3=>R.1 a0 z3 H2 λo4 H5=>cR K o4 H5 λv6=>R.2 a0 (.ofNat 0) z3 H5 λo7 H8=>cR K o7 H8 λv9=>ah 7 v1 v9 H8 λcn=>aQ 7 v1 cn λv11=>K (.ret v11) cn)
theorem UD{R:tT}(hR:agR R){K:KF}(a0:AV)(a1:Int)(H:AH)(h:Cm R K a0 a1 H):dQ 42 K [] (bz (dy 42) [a0,(.int 0 a1)]) [] H:=pk hR .nil h
def ak3(R:tT)(K:KF):dU:=Cm R K
def Rh(R:tT):AV→Int→AH→KF→Prop:=λa0 a1 H K=>ak3 R K a0 a1 H
theorem aiy(R:tT)(hR:agR R):aw gPa 42 (ao [.a,.i 0] (Rh R)):=rk λK a0 a1 H h=>UD hR a0 a1 H h
abbrev bF:Type:=(AV→Int→AH→KF→Prop)×(AV→Int→AH→KF→Prop)×(AV→AH→KF→Prop)×(AV→AV→AH→KF→Prop)×(AV→AV→AH→KF→Prop)×(AV→Int→AH→KF→Prop)×(AV→AH→KF→Prop)×(AV→Int→AH→KF→Prop)×(AV→AV→AH→KF→Prop)×(AV→AV→Int→AH→KF→Prop)
def ak4(R:bF):List (Nat×cY):=[(17,ao [.a,.i 0] R.1),(18,ao [.a,.i 0] R.2.1),(39,ao [.a] R.2.2.1),(40,ao [.a,.a] R.2.2.2.1),(41,ao [.a,.a] R.2.2.2.2.1),(42,ao [.a,.i 0] R.2.2.2.2.2.1),(57,ao [.a] R.2.2.2.2.2.2.1),(58,ao [.a,.i 0] R.2.2.2.2.2.2.2.1),(59,ao [.a,.a] R.2.2.2.2.2.2.2.2.1),(60,ao [.a,.a,.i 0] R.2.2.2.2.2.2.2.2.2)]
abbrev eQ(R:bF):Prop:=af gPa (ak4 R)
abbrev J8(K:KF)(F:ax):Prop:=aR 43 K [1,1,0,1,0] 302 [0,1,2] [.a,.a,.i 0] F
abbrev J9(K:KF)(F:ax):Prop:=aR 43 K [1,1,0,1,1,1,0] 302 [0,1,2] [.a,.a,.i 0] F
abbrev py(K:KF)(F:ax):Prop:=aR 43 K [0,0,1,0,1,1,1,0] 302 [0,1,2] [.a,.a,.i 0] F
abbrev Ka(K:KF)(F:ax):Prop:=aR 43 K [1,0,1,1,1,1,1,0] 302 [0,1,2] [.a,.a,.i 0] F
abbrev Kb(K:KF)(F:Ta):Prop:=aR 43 K [1,1,1,0,1,1,1,0] 302 [0] [.a] F
abbrev Kd(K:KF)(F:ax):Prop:=aR 43 K [1,0,0,0,0,1,0,1,1,1,0] 302 [0,1,2] [.a,.a,.i 0] F
abbrev Ke(K:KF)(F:ax):Prop:=aR 43 K [1,1,0,1,1,1,1,1,1,1,0] 302 [0,1,2] [.a,.a,.i 0] F
abbrev Kf(K:KF)(F:ax):Prop:=aR 43 K [1,0,1,1,1,1,1,1,1,1,1,0] 302 [0,1,2] [.a,.a,.i 0] F
abbrev Kg(K:KF)(F:ax):Prop:=aR 43 K [1,1,1,0,0,0,0,1,0,1,1,1,0] 302 [0,1,2] [.a,.a,.i 0] F
abbrev zA(K:KF)(F:ax):Prop:=aR 43 K [1,1,1,0,1,1,1,1,1,1,1,1,1,0] 302 [0,1,2] [.a,.a,.i 0] F
abbrev GK(K:KF)(F:ax):Prop:=aR 43 K [1,0,1,1,1,1,1,1,1,1,1,1,1,1,1,0] 302 [0,1,2] [.a,.a,.i 0] F
abbrev GL(K:KF)(F:gN):Prop:=aR 43 K [1,1,1,1,1,1,1,1,1,1,1,1,1,1,1,1,0] 302 [0,1,2,8] [.a,.a,.i 0,.a] F
abbrev GM(K:KF)(F:ax):Prop:=aR 43 K [1,1,0,1,0,1,1,0,1,1,1,1,1,1,1,1,1,0] 302 [0,1,2] [.a,.a,.i 0] F
abbrev GN(K:KF)(F:ax):Prop:=aR 43 K [1,1,1,1,0,1,1,0,1,1,1,1,1,1,1,1,1,0] 302 [0,1,2] [.a,.a,.i 0] F
abbrev GO(K:KF)(F:gN):Prop:=aR 43 K [1,1,1,1,1,1,1,1,1,1,1,1,1,1,1,1,1,1,0] 302 [0,1,2,8] [.a,.a,.i 0,.a] F
abbrev GP(K:KF)(F:cN):Prop:=aR 43 K [0,1,0,1,1,1,1,1,1,1,1,1,1,1,1,1,1,1,1,0] 302 [1,8] [.a,.a] F
abbrev GQ(K:KF)(F:ax):Prop:=aR 43 K [1,1,1,1,1,1,0,1,1,0,1,1,1,1,1,1,1,1,1,0] 302 [0,1,2] [.a,.a,.i 0] F
def vC(R:bF)(K:KF)(a0:AV)(H:AH):Prop:=R.2.2.2.2.2.2.2.2.1 a0 (.str 3 6581861) H λo1 H2=>cR K o1 H2 λv3=>K (.ret (.aP [])) H2
theorem UE{R:bF}(hR:eQ R){K:KF}:Kb K (vC R K):=λa0 H h=>pk hR .nil h
def Kh(R:bF)(K:KF):Ta:=vC R K
theorem UF{R:bF}(hR:eQ R){K:KF}:Kb K (Kh R K):=UE hR
def Cn(R:bF)(K:KF)(x5:Ta)(a0 a1:AV)(a2:Int)(H:AH):Prop:=R.2.2.2.1 a0 (.str 4 1702063205) H λo1 H2=>cR K o1 H2 λv3=>bY v3 λz4=>bI z4 (au a1 (ag 4 a1 λv5=>ad v5 H2 λv6=>R.1 a0 a2 H2 λo7 H8=>cR K o7 H8 λv9=>ad v5 H8 λv10=>bT (bu v10 v6) (cP H8 (one v9 (aT (aE H8) 1 1 [v9] λv11 bQ=>bT (Nat.beq bQ.n (Nat.succ H8.n)) (cO 1 24 v6 v11 bQ λv13 dk=>au a1 (ag 4 a1 λv15=>ah 1 v15 v13 dk λeE=>x5 a0 eE))))))) (x5 a0 H2)
theorem UG{R:bF}(hR:eQ R){K:KF}{x5:Ta}(h5:Kb K x5):J9 K (Cn R K x5):=λa0 a1 a2 H h=>pk hR (cc h5 .nil) h
def Co(R:bF)(K:KF):ax:=Cn R K (Kh R K)
theorem UH{R:bF}(hR:eQ R){K:KF}:J9 K (Co R K):=UG hR (UF hR)
def Cp(R:bF)(K:KF)(x3 x2:ax)(a0 a1:AV)(a2:Int)(H:AH):Prop:=R.2.2.2.1 a0 (.str 6 112602859662437) H λo1 H2=>cR K o1 H2 λv3=>bY v3 λz4=>bI (!z4) (x2 a0 a1 a2 H2) (x3 a0 a1 a2 H2)
theorem UI{R:bF}(hR:eQ R){K:KF}{x3 x2:ax}(h3:py K x3)(h2:J9 K x2):Kg K (Cp R K x3 x2):=λa0 a1 a2 H h=>pk hR (cc h3 (cc h2 .nil)) h
def Ki(R:bF)(K:KF)(i3:ax):ax:=Cp R K i3 (Co R K)
theorem UJ{R:bF}(hR:eQ R){K:KF}{i3:ax}(g3:py K i3):Kg K (Ki R K i3):=UI hR g3 (UH hR)
def Cq(R:bF)(K:KF)(x9:ax)(a0 a1:AV)(a2:Int)(H:AH):Prop:=R.2.2.2.2.2.2.2.2.1 a0 (.str 4 1852139636) H λo1 H2=>cR K o1 H2 λv3=>au a1 (ag 4 a1 λv4=>ad v4 H2 λv5=>R.1 a0 a2 H2 λo6 H7=>cR K o6 H7 λv8=>ad v4 H7 λv9=>bT (bu v9 v5) (cP H7 (one v8 (aT (aE H7) 1 1 [v8] λv10 iQ=>bT (Nat.beq iQ.n (Nat.succ H7.n)) (cO 1 24 v5 v10 iQ λv12 fH=>au a1 (ag 4 a1 λv14=>ah 1 v14 v12 fH λdZ=>x9 a0 a1 a2 dZ))))))
theorem UK{R:bF}(hR:eQ R){K:KF}{x9:ax}(h9:Kg K x9):Kd K (Cq R K x9):=λa0 a1 a2 H h=>pk hR (cc h9 .nil) h
def Kj(R:bF)(K:KF)(i3:ax):ax:=Cq R K (Ki R K i3)
theorem UL{R:bF}(hR:eQ R){K:KF}{i3:ax}(g3:py K i3):Kd K (Kj R K i3):=UK hR (UJ hR g3)
def Cr(R:bF)(K:KF)(x6:ax)(a0 a1:AV)(a2:Int)(H:AH):Prop:=au a1 (ag 3 a1 λv1=>ad v1 H λv2=>bO v2 λv3=>cI 0 v3 λz4=>cP H (aT (aE H) 1 7 [(.int 0 (.ofNat 0)),(.int 0 (.ofNat 0)),(.int 0 (.ofNat 0)),(.str 0 0),(.int 0 (.ofNat 0)),.ab,.ab] λv5 H6=>bT (Nat.beq H6.n (Nat.succ H.n)) (R.2.2.2.2.2.1 a0 a2 H6 λo7 H8=>cR K o7 H8 λv9=>ad v1 H8 λv10=>bT (bu v10 v2) (cO 7 96 v2 v5 H8 λv11 bQ=>bb 7 v11 (.int 0 z4) λv13=>au a1 (ag 3 a1 λv14=>ah 7 v13 v9 bQ λdZ=>ah 1 v14 v11 dZ λeE=>ah 1 v14 v11 bQ λjO=>ah 7 v13 v9 jO λiz=>vr 7 1 v13 v14 (x6 a0 a1 a2 eE))))))
theorem UM{R:bF}(hR:eQ R){K:KF}{x6:ax}(h6:Kd K x6):py K (Cr R K x6):=λa0 a1 a2 H h=>pk hR (cc h6 .nil) h
def UN(R:bF)(K:KF)(i3:ax):ax:=Cr R K (Kj R K i3)
theorem UO{R:bF}(hR:eQ R){K:KF}{i3:ax}(g3:py K i3):py K (UN R K i3):=UM hR (UL hR g3)
def sJ(R:bF)(K:KF)(n:Nat):ax:=Nat.rec (motive:=λ_=>ax) (λ_ _ _ _=>False) (λ_ i=>UN R K i) n
theorem UP{R:bF}(hR:eQ R){K:KF}(n:Nat):py K (sJ R K n):=Nat.rec (motive:=λn=>py K (sJ R K n)) (λa0 a1 a2 H h=>h.elim) (λn ih=>UO hR ih) n
def Cs(R:bF)(K:KF)(a0 a1:AV)(a2:Int)(H:AH):Prop:=R.2.2.2.2.2.2.2.2.1 a0 (.str 2 28516) H λo1 H2=>cR K o1 H2 λv3=>R.1 a0 a2 H2 λo4 H5=>cR K o4 H5 λv6=>one v6 (aT (aE H5) 1 1 [v6] λv7 H8=>au a1 (ag 4 a1 λv9=>ah 1 v9 v7 H8 λcn=>R.2.2.2.2.2.2.2.2.1 a0 (.str 3 6581861) cn λkM bQ=>cR K kM bQ λv13=>K (.ret (.aP [])) bQ))
theorem UQ{R:bF}(hR:eQ R){K:KF}:Ka K (Cs R K):=λa0 a1 a2 H h=>pk hR .nil h
def Kk(R:bF)(K:KF):ax:=Cs R K
theorem UR{R:bF}(hR:eQ R){K:KF}:Ka K (Kk R K):=UQ hR
def zC(R:bF)(K:KF)(a0 a1:AV)(a2:Int)(H:AH):Prop:=R.2.2.2.2.2.2.2.2.1 a0 (.str 2 28516) H λo1 H2=>cR K o1 H2 λv3=>R.1 a0 a2 H2 λo4 H5=>cR K o4 H5 λv6=>one v6 (aT (aE H5) 1 1 [v6] λv7 H8=>au a1 (ag 4 a1 λv9=>ah 1 v9 v7 H8 λcn=>R.2.2.2.2.2.2.2.2.1 a0 (.str 3 6581861) cn λkM bQ=>cR K kM bQ λv13=>K (.ret (.aP [])) bQ))
theorem Ri{R:bF}(hR:eQ R){K:KF}:zA K (zC R K):=λa0 a1 a2 H h=>pk hR .nil h
def sf(R:bF)(K:KF):ax:=zC R K
theorem Ct{R:bF}(hR:eQ R){K:KF}:zA K (sf R K):=Ri hR
def zD(R:bF)(K:KF)(x10:ax)(a0 a1:AV)(a2:Int)(H:AH):Prop:=R.2.2.2.2.2.2.2.2.1 a0 (.str 2 28265) H λo1 H2=>cR K o1 H2 λv3=>R.2.2.2.2.2.1 a0 a2 H2 λo4 H5=>cR K o4 H5 λv6=>onVal v6 λl7=>gK l7 7 (aT (aE H5) 1 7 (spl l7 [(.int 0 (.ofNat 0)),(.int 0 (.ofNat 0)),(.int 0 (.ofNat 0)),(.str 0 0),(.int 0 (.ofNat 0)),.ab,.ab] 0) λv8 H9=>au a1 (ag 3 a1 λv10=>ah 1 v10 v8 H9 λiQ=>x10 a0 a1 a2 iQ))
theorem Rj{R:bF}(hR:eQ R){K:KF}{x10:ax}(h10:zA K x10):GM K (zD R K x10):=λa0 a1 a2 H h=>pk hR (cc h10 .nil) h
def GR(R:bF)(K:KF):ax:=zD R K (sf R K)
theorem Rk{R:bF}(hR:eQ R){K:KF}:GM K (GR R K):=Rj hR (Ct hR)
def zE(R:bF)(K:KF)(x10:ax)(a0 a1:AV)(a2:Int)(H:AH):Prop:=R.2.2.2.1 a0 (.str 1 44) H λo1 H2=>cR K o1 H2 λv3=>bY v3 λz4=>bI z4 (au a1 (ag 3 a1 λv5=>ad v5 H2 λv6=>bO v6 λv7=>cI 0 v7 λz8=>cP H2 (aT (aE H2) 1 7 [(.int 0 (.ofNat 0)),(.int 0 (.ofNat 0)),(.int 0 (.ofNat 0)),(.str 0 0),(.int 0 (.ofNat 0)),.ab,.ab] λv9 cn=>bT (Nat.beq cn.n (Nat.succ H2.n)) (R.2.2.2.2.2.1 a0 a2 cn λkM bQ=>cR K kM bQ λv13=>ad v5 bQ λv14=>bT (bu v14 v6) (cO 7 96 v6 v9 bQ λv15 eE=>bb 7 v15 (.int 0 z8) λv17=>au a1 (ag 3 a1 λv18=>ah 7 v17 v13 eE λkj=>ah 1 v18 v15 kj λjt=>ah 1 v18 v15 eE λgZ=>ah 7 v17 v13 gZ λjs=>vr 7 1 v17 v18 (x10 a0 a1 a2 jt))))))) (x10 a0 a1 a2 H2)
theorem Rl{R:bF}(hR:eQ R){K:KF}{x10:ax}(h10:zA K x10):GQ K (zE R K x10):=λa0 a1 a2 H h=>pk hR (cc h10 .nil) h
def GS(R:bF)(K:KF):ax:=zE R K (sf R K)
theorem Rn{R:bF}(hR:eQ R){K:KF}:GQ K (GS R K):=Rl hR (Ct hR)
def zF(R:bF)(K:KF)(x17:ax)(a0 a1:AV)(a2:Int)(H:AH):Prop:=R.2.2.2.2.2.2.2.2.1 a0 (.str 1 44) H λo1 H2=>cR K o1 H2 λv3=>au a1 (ag 3 a1 λv4=>ad v4 H2 λv5=>bO v5 λv6=>cI 0 v6 λz7=>cP H2 (aT (aE H2) 1 7 [(.int 0 (.ofNat 0)),(.int 0 (.ofNat 0)),(.int 0 (.ofNat 0)),(.str 0 0),(.int 0 (.ofNat 0)),.ab,.ab] λv8 H9=>bT (Nat.beq H9.n (Nat.succ H2.n)) (R.2.2.2.2.2.1 a0 a2 H9 λCu iQ=>cR K Cu iQ λv12=>ad v4 iQ λv13=>bT (bu v13 v5) (cO 7 96 v5 v8 iQ λv14 dZ=>bb 7 v14 (.int 0 z7) λv16=>au a1 (ag 3 a1 λv17=>ah 7 v16 v12 dZ λiz=>ah 1 v17 v14 iz λkj=>ah 1 v17 v14 dZ λjt=>ah 7 v16 v12 jt λgZ=>vr 7 1 v16 v17 (x17 a0 a1 a2 kj))))))
theorem Ro{R:bF}(hR:eQ R){K:KF}{x17:ax}(h17:GQ K x17):GN K (zF R K x17):=λa0 a1 a2 H h=>pk hR (cc h17 .nil) h
def GU(R:bF)(K:KF):ax:=zF R K (GS R K)
theorem Rq{R:bF}(hR:eQ R){K:KF}:GN K (GU R K):=Ro hR (Rn hR)
def Cv(R:bF)(K:KF)(yx x14:ax)(a0 a1:AV)(a2:Int)(H:AH):Prop:=au a1 (ag 0 a1 λv1=>ah 1 v1 (.int 0 (.ofNat 6)) H λH2=>R.2.2.2.1 a0 (.str 1 44) H2 λo3 H4=>cR K o3 H4 λv5=>bY v5 λz6=>bI z6 (au a1 (ag 0 a1 λv7=>ah 1 v7 (.int 0 (.ofNat 7)) H4 λH8=>au a1 (ag 2 a1 λv9=>ad v9 H8 λv10=>R.2.2.2.2.2.2.1 a0 H8 λkM bQ=>cR K kM bQ λv13=>ad v9 bQ λv14=>bT (bu v14 v10) (cP bQ (one v13 (aT (aE bQ) 1 1 [v13] λv15 eE=>bT (Nat.beq eE.n (Nat.succ bQ.n)) (cO 1 16 v10 v15 eE λv17 iz=>au a1 (ag 2 a1 λv19=>ah 1 v19 v17 iz λjt=>yx a0 a1 a2 jt)))))))) (R.2.2.2.2.2.2.2.2.1 a0 (.str 1 61) H4 λyt js=>cR K yt js λv23=>R.2.2.2.2.2.1 a0 a2 js λUS rI=>cR K US rI λv26=>onVal v26 λUT=>gK UT 7 (aT (aE rI) 1 7 (spl UT [(.int 0 (.ofNat 0)),(.int 0 (.ofNat 0)),(.int 0 (.ofNat 0)),(.str 0 0),(.int 0 (.ofNat 0)),.ab,.ab] 0) λv28 Cw=>au a1 (ag 3 a1 λv30=>ah 1 v30 v28 Cw λH31=>x14 a0 a1 a2 H31))))
theorem UU{R:bF}(hR:eQ R){K:KF}{yx x14:ax}(h13:GM K yx)(h14:GN K x14):Kf K (Cv R K yx x14):=λa0 a1 a2 H h=>pk hR (cc h13 (cc h14 .nil)) h
def Kl(R:bF)(K:KF):ax:=Cv R K (GR R K) (GU R K)
theorem UW{R:bF}(hR:eQ R){K:KF}:Kf K (Kl R K):=UU hR (Rk hR) (Rq hR)
def zG(R:bF)(K:KF)(a0 a1:AV)(a2:Int)(H:AH):Prop:=R.1 a0 a2 H λo1 H2=>cR K o1 H2 λv3=>one v3 (aT (aE H2) 1 1 [v3] λv4 H5=>au a1 (ag 4 a1 λv6=>ah 1 v6 v4 H5 λH7=>R.2.2.2.2.2.2.2.2.1 a0 (.str 3 6581861) H7 λo8 H9=>cR K o8 H9 λv10=>K (.ret (.aP [])) H9))
theorem Rr{R:bF}(hR:eQ R){K:KF}:GK K (zG R K):=λa0 a1 a2 H h=>pk hR .nil h
def GV(R:bF)(K:KF):ax:=zG R K
theorem Rs{R:bF}(hR:eQ R){K:KF}:GK K (GV R K):=Rr hR
def Cx(R:bF)(K:KF)(a0 a1:AV)(a2:Int)(H:AH):Prop:=R.2.2.2.1 a0 (.str 1 61) H λo1 H2=>cR K o1 H2 λv3=>bY v3 λz4=>bI z4 (R.2.2.2.2.2.1 a0 a2 H2 λo5 H6=>cR K o5 H6 λv7=>onVal v7 λl8=>gK l8 7 (aT (aE H6) 1 7 (spl l8 [(.int 0 (.ofNat 0)),(.int 0 (.ofNat 0)),(.int 0 (.ofNat 0)),(.str 0 0),(.int 0 (.ofNat 0)),.ab,.ab] 0) λv9 cn=>au a1 (ag 3 a1 λv11=>ah 1 v11 v9 cn λbQ=>K (.ret (.aP [])) bQ))) (K (.ret (.aP [])) H2)
theorem UX{R:bF}(hR:eQ R){K:KF}:J8 K (Cx R K):=λa0 a1 a2 H h=>pk hR .nil h
def Km(R:bF)(K:KF):ax:=Cx R K
theorem UY{R:bF}(hR:eQ R){K:KF}:J8 K (Km R K):=UX hR
def Cy(R:bF)(K:KF)(a0 a1:AV)(a2:Int)(H:AH):Prop:=R.2.2.2.2.2.1 a0 a2 H λo1 H2=>cR K o1 H2 λv3=>onVal v3 λl4=>gK l4 7 (aT (aE H2) 1 7 (spl l4 [(.int 0 (.ofNat 0)),(.int 0 (.ofNat 0)),(.int 0 (.ofNat 0)),(.str 0 0),(.int 0 (.ofNat 0)),.ab,.ab] 0) λv5 H6=>au a1 (ag 0 a1 λv7=>ah 1 v7 (.int 0 (.ofNat 8)) H6 λH8=>au a1 (ag 3 a1 λv9=>ah 1 v9 v5 H8 λcn=>K (.ret (.aP [])) cn)))
theorem UZ{R:bF}(hR:eQ R){K:KF}:Ke K (Cy R K):=λa0 a1 a2 H h=>pk hR .nil h
def Kn(R:bF)(K:KF):ax:=Cy R K
theorem U0{R:bF}(hR:eQ R){K:KF}:Ke K (Kn R K):=UZ hR
def zH(R:bF)(K:KF)(a1 a8:AV)(H:AH):Prop:=aQ 7 a8 H λv1=>cP H (onVal v1 λl2=>gK l2 7 (aT (aE H) 1 7 (spl l2 [(.int 0 (.ofNat 0)),(.int 0 (.ofNat 0)),(.int 0 (.ofNat 0)),(.str 0 0),(.int 0 (.ofNat 0)),.ab,.ab] 0) λv3 H4=>bT (Nat.beq H4.n (Nat.succ H.n)) (au a1 (ag 0 a1 λv5=>ah 1 v5 (.int 0 (.ofNat 3)) H4 λH6=>aQ 7 a8 H6 λv7=>bT (bu v7 v1) (au a1 (ag 3 a1 λv8=>ah 1 v8 v3 H6 λH9=>K (.ret (.aP [])) H9))))))
theorem Rt{R:bF}(hR:eQ R){K:KF}:GP K (zH R K):=λa1 a8 H h=>pk hR .nil h
def zI(R:bF)(K:KF):cN:=zH R K
theorem Ru{R:bF}(hR:eQ R){K:KF}:GP K (zI R K):=Rt hR
def zJ(R:bF)(K:KF)(a0 a1:AV)(a2:Int)(a8:AV)(H:AH):Prop:=R.2.2.2.2.2.2.2.2.1 a0 (.str 1 61) H λo1 H2=>cR K o1 H2 λv3=>aQ 7 a8 H2 λv4=>R.2.2.2.2.2.1 a0 a2 H2 λo5 H6=>cR K o5 H6 λv7=>aQ 7 a8 H6 λv8=>bT (bu v8 v4) (cP H6 (onVal v4 λl9=>gK l9 7 (onVal v7 λl10=>gK l10 7 (aT (aE H6) 2 7 (spl l10 (spl l9 [(.int 0 (.ofNat 0)),(.int 0 (.ofNat 0)),(.int 0 (.ofNat 0)),(.str 0 0),(.int 0 (.ofNat 0)),.ab,.ab,(.int 0 (.ofNat 0)),(.int 0 (.ofNat 0)),(.int 0 (.ofNat 0)),(.str 0 0),(.int 0 (.ofNat 0)),.ab,.ab] 0) 7) λv11 bQ=>bT (Nat.beq bQ.n (Nat.succ H6.n)) (au a1 (ag 0 a1 λv13=>ah 1 v13 (.int 0 (.ofNat 2)) bQ λdk=>aQ 7 a8 dk λv15=>bT (bu v15 v4) (au a1 (ag 3 a1 λv16=>ah 1 v16 v11 dk λjO=>K (.ret (.aP [])) jO))))))))
theorem Rv{R:bF}(hR:eQ R){K:KF}:GO K (zJ R K):=λa0 a1 a2 a8 H h=>pk hR .nil h
def zL(R:bF)(K:KF):gN:=zJ R K
theorem Rx{R:bF}(hR:eQ R){K:KF}:GO K (zL R K):=Rv hR
def zM(R:bF)(K:KF)(x16:cN)(x15:gN)(a0 a1:AV)(a2:Int)(a8:AV)(H:AH):Prop:=ag 0 a8 λv1=>ad v1 H λv2=>cI 0 v2 λz3=>bI (bA z3 (.ofNat 10)) (R.2.2.2.2.1 a0 (.str 1 61) H λo4 H5=>cR K o4 H5 λv6=>bY v6 λz7=>bI (!z7) (x16 a1 a8 H5) (ag 0 a8 λv8=>ad v8 H5 λv9=>cI 0 v9 λz10=>bI (bA z10 (.ofNat 10)) (R.2.1 a0 (.ofNat 14) H5 λkM bQ=>cR K kM bQ λv13=>x15 a0 a1 a2 a8 bQ) (x15 a0 a1 a2 a8 H5))) (ag 0 a8 λv14=>ad v14 H λv15=>cI 0 v15 λqN=>bI (bA qN (.ofNat 10)) (R.2.1 a0 (.ofNat 14) H λo17 iz=>cR K o17 iz λv19=>x15 a0 a1 a2 a8 iz) (x15 a0 a1 a2 a8 H))
theorem Ry{R:bF}(hR:eQ R){K:KF}{x16:cN}{x15:gN}(h16:GP K x16)(h15:GO K x15):GL K (zM R K x16 x15):=λa0 a1 a2 a8 H h=>pk hR (cc h16 (cc h15 .nil)) h
def GW(R:bF)(K:KF):gN:=zM R K (zI R K) (zL R K)
theorem Rz{R:bF}(hR:eQ R){K:KF}:GL K (GW R K):=Ry hR (Ru hR) (Rx hR)
def Ko(R:bF)(K:KF)(x3 x4 x8 x11 x1 x7:ax)(x12:gN)(a0 a1:AV)(a2:Int)(H:AH):Prop:=R.2.2.2.1 a0 (.str 5 465490374508) H λo1 H2=>cR K o1 H2 λv3=>bY v3 λz4=>bI z4 (R.2.2.2.1 a0 (.str 8 7957695015192261990) H2 λo5 H6=>cR K o5 H6 λv7=>bY v7 λz8=>bI z8 (R.2.2.2.2.2.2.1 a0 H6 λo9 cn=>cR K o9 cn λv11=>one v11 (aT (aE cn) 1 1 [v11] λv12 fH=>au a1 (ag 2 a1 λv14=>ah 1 v14 v12 fH λdZ=>R.2.2.1 a0 dZ λo16 jO=>cR K o16 jO λv18=>cI 0 v18 λvD=>R.2.2.2.2.2.2.2.1 a0 a2 jO λU1 gZ=>cR K U1 gZ λv22=>onVal v22 λl23=>gK l23 2 (aT (aE gZ) 1 2 (spl l23 [.ab,.ab] 0) λv24 rI=>one v24 (aT (aE rI) 1 7 [(.int 0 (.ofNat 7)),(.int 0 vD),(.int 0 (.ofNat 0)),(.str 0 0),(.int 0 (.ofNat 0)),.ab,v24] λv26 sH=>au a1 (ag 0 a1 λv28=>ah 1 v28 (.int 0 (.ofNat 12)) sH λCw=>au a1 (ag 3 a1 λv30=>ah 1 v30 v26 Cw λH31=>K (.ret (.aP [])) H31))))))) (R.2.2.2.2.2.2.1 a0 H6 λo32 Ps=>cR K o32 Ps λv34=>one v34 (aT (aE Ps) 1 1 [v34] λv35 H36=>au a1 (ag 0 a1 λv37=>ah 1 v37 (.int 0 (.ofNat 1)) H36 λKp=>au a1 (ag 2 a1 λv39=>ah 1 v39 v35 Kp λH40=>x1 a0 a1 a2 H40))))) (R.2.2.2.1 a0 (.str 2 26217) H2 λo41 U2=>cR K o41 U2 λv43=>bY v43 λz44=>bI z44 (au a1 (ag 0 a1 λv45=>ah 1 v45 (.int 0 (.ofNat 4)) U2 λH46=>x3 a0 a1 a2 H46)) (R.2.2.2.1 a0 (.str 5 435610544247) U2 λo47 H48=>cR K o47 H48 λv49=>bY v49 λz50=>bI z50 (R.2.2.2.2.2.1 a0 a2 H48 λo51 H52=>cR K o51 H52 λv53=>onVal v53 λl54=>gK l54 7 (aT (aE H52) 1 7 (spl l54 [(.int 0 (.ofNat 0)),(.int 0 (.ofNat 0)),(.int 0 (.ofNat 0)),(.str 0 0),(.int 0 (.ofNat 0)),.ab,.ab] 0) λv55 U3=>au a1 (ag 0 a1 λv57=>ah 1 v57 (.int 0 (.ofNat 5)) U3 λH58=>au a1 (ag 3 a1 λv59=>ah 1 v59 v55 H58 λH60=>x4 a0 a1 a2 H60)))) (R.2.2.2.1 a0 (.str 6 127961662514546) H48 λo61 Kq=>cR K o61 Kq λv63=>bY v63 λz64=>bI z64 (R.1 a0 a2 Kq λo65 U4=>cR K o65 U4 λv67=>one v67 (aT (aE U4) 1 1 [v67] λv68 H69=>au a1 (ag 4 a1 λv70=>ah 1 v70 v68 H69 λH71=>R.2.2.2.2.2.2.2.2.1 a0 (.str 5 465625706101) H71 λo72 H73=>cR K o72 H73 λv74=>x7 a0 a1 a2 H73))) (R.2.2.2.1 a0 (.str 3 7499622) Kq λo75 H76=>cR K o75 H76 λv77=>bY v77 λz78=>bI z78 (R.2.2.2.2.2.2.1 a0 H76 λo79 U5=>cR K o79 U5 λv81=>one v81 (aT (aE U5) 1 1 [v81] λv82 H83=>au a1 (ag 2 a1 λv84=>ah 1 v84 v82 H83 λH85=>x8 a0 a1 a2 H85))) (R.2.2.2.1 a0 (.str 5 461195539042) H76 λo86 H87=>cR K o86 H87 λv88=>bY v88 λz89=>bI z89 (au a1 (ag 0 a1 λv90=>ah 1 v90 (.int 0 (.ofNat 9)) H87 λH91=>K (.ret (.aP [])) H91)) (R.2.2.2.1 a0 (.str 2 28516) H87 λo92 H93=>cR K o92 H93 λv94=>bY v94 λz95=>bI z95 (au a1 (ag 0 a1 λv96=>ah 1 v96 (.int 0 (.ofNat 11)) H93 λH97=>x11 a0 a1 a2 H97)) (R.2.2.1 a0 H93 λo98 H99=>cR K o98 H99 λaqU=>cI 0 aqU λaqV=>R.2.2.2.2.2.2.1 a0 H99 λaqW ak5=>cR K aqW ak5 λak6=>one ak6 (R.2.2.2.2.2.2.2.2.2 a0 (.agg [(.int 0 (.ofNat 6)),(.int 0 aqV),(.int 0 (.ofNat 0)),ak6,(.int 0 (.ofNat 0)),.ab,.ab]) a2 ak5 λaqX afJ=>cR K aqX afJ λv107=>eI afJ (eX gPa (aE afJ) 41 λak7 aqY=>ah 7 ak7 v107 aqY λaqZ=>x12 a0 a1 a2 ak7 aqZ)))))))))
theorem U6{R:bF}(hR:eQ R){K:KF}{x3 x4 x8 x11 x1 x7:ax}{x12:gN}(h3:py K x3)(h4:Ka K x4)(h8:Kf K x8)(h11:GK K x11)(h1:J8 K x1)(h7:Ke K x7)(h12:GL K x12)(a0 a1:AV)(a2:Int)(H:AH)(h:Ko R K x3 x4 x8 x11 x1 x7 x12 a0 a1 a2 H):dQ 43 K [] (bz (dy 43) [a0,a1,(.int 0 a2)]) [] H:=pk hR (cc h3 (cc h4 (cc h8 (cc h11 (cc h1 (cc h7 (cc h12 .nil))))))) h
def U7(R:bF)(K:KF):ax:=Ko R K (sJ R K NL) (Kk R K) (Kl R K) (GV R K) (Km R K) (Kn R K) (GW R K)
def Cz(R:bF):AV→AV→Int→AH→KF→Prop:=λa0 a1 a2 H K=>U7 R K a0 a1 a2 H
theorem aiz(R:bF)(hR:eQ R):aw gPa 43 (ao [.a,.a,.i 0] (Cz R)):=rk λK a0 a1 a2 H h=>U6 hR (UP hR NL) (UR hR) (UW hR) (Rs hR) (UY hR) (U0 hR) (Rz hR) a0 a1 a2 H h
abbrev dF:Type:=(AV→AH→KF→Prop)×(AV→AV→AH→KF→Prop)×(AV→Int→Int→AH→KF→Prop)×(AV→Int→AH→KF→Prop)×(AV→Int→AH→KF→Prop)
def ak8(R:dF):List (Nat×cY):=[(39,ao [.a] R.1),(41,ao [.a,.a] R.2.1),(56,ao [.a,.i 0,.i 0] R.2.2.1),(74,ao [.a,.i 0] R.2.2.2.1),(75,ao [.a,.i 0] R.2.2.2.2)]
abbrev ju(R:dF):Prop:=af gPa (ak8 R)
abbrev Kr(K:KF)(F:BN):Prop:=aR 56 K [1,1,1,1,1] 101 [0,1,2,6,7] [.a,.i 0,.i 0,.a,.a] F
abbrev Ks(K:KF)(F:dM):Prop:=aR 56 K [1,1,1,1,1,1,1] 101 [0,1,2,6,7,8,9] [.a,.i 0,.i 0,.a,.a,.a,.a] F
abbrev lJ(K:KF)(F:dM):Prop:=aR 56 K [0,1,1,1,1,1,1,1] 101 [0,1,2,6,7,8,9] [.a,.i 0,.i 0,.a,.a,.a,.a] F
abbrev Kt(K:KF)(F:iP):Prop:=aR 56 K [1,1,0,0,0,1,1,1,1,1,1,1] 101 [0,1,2,6,7,8,9,10] [.a,.i 0,.i 0,.a,.a,.a,.a,.i 0] F
abbrev sK(K:KF)(F:iP):Prop:=aR 56 K [0,0,1,0,0,0,1,1,1,1,1,1,1] 101 [0,1,2,6,7,8,9,10] [.a,.i 0,.i 0,.a,.a,.a,.a,.i 0] F
abbrev Ku(K:KF)(F:rR):Prop:=aR 56 K [1,1,1,1,1,0,0,0,1,1,1,1,1,1,1] 101 [0,1,2,6,7,8,9,10,11] [.a,.i 0,.i 0,.a,.a,.a,.a,.i 0,.i 0] F
abbrev Kv(K:KF)(F:jm):Prop:=aR 56 K [1,1,1,1,1,1,1,1,0,0,0,1,1,1,1,1,1,1] 101 [0,1,2,6,7,8,9,10,11,12,13] [.a,.i 0,.i 0,.a,.a,.a,.a,.i 0,.i 0,.a,.i 0] F
abbrev Kw(K:KF)(F:jm):Prop:=aR 56 K [1,1,1,1,1,1,1,1,1,0,0,0,1,1,1,1,1,1,1] 101 [0,1,2,6,7,8,9,10,11,12,13] [.a,.i 0,.i 0,.a,.a,.a,.a,.i 0,.i 0,.a,.i 0] F
def CA(R:dF)(K:KF)(x3:dM)(a0:AV)(a1 a2:Int)(a6 a7 a8 a9:AV)(a10 a11:Int)(a12:AV)(mL:Int)(H:AH):Prop:=bb 1 a8 (.int 0 a10) λv1=>ad v1 H λv2=>cI 0 v2 λz3=>aQ 7 a9 H λv4=>aQ 7 a12 H λv5=>cP H (onVal v4 λl6=>gK l6 7 (onVal v5 λl7=>gK l7 7 (aT (aE H) 2 7 (spl l7 (spl l6 [(.int 0 (.ofNat 0)),(.int 0 (.ofNat 0)),(.int 0 (.ofNat 0)),(.str 0 0),(.int 0 (.ofNat 0)),.ab,.ab,(.int 0 (.ofNat 0)),(.int 0 (.ofNat 0)),(.int 0 (.ofNat 0)),(.str 0 0),(.int 0 (.ofNat 0)),.ab,.ab] 0) 7) λv8 H9=>bT (Nat.beq H9.n (Nat.succ H.n)) (one v8 (ah 7 a9 (.agg [(.int 0 mL),(.int 0 a11),(.int 0 (.ofNat 0)),(.str 0 0),(.int 0 z3),v8,.ab]) H9 λcn=>x3 a0 a1 a2 a6 a7 a8 a9 cn)))))
theorem U8{R:dF}(hR:ju R){K:KF}{x3:dM}(h3:lJ K x3):Kw K (CA R K x3):=λa0 a1 a2 a6 a7 a8 a9 a10 a11 a12 mL H h=>pk hR (cc h3 .nil) h
def CC(R:dF)(K:KF)(i3:dM):jm:=CA R K i3
theorem U9{R:dF}(hR:ju R){K:KF}{i3:dM}(g3:lJ K i3):Kw K (CC R K i3):=U8 hR g3
def CE(R:dF)(K:KF)(x8:jm)(a0:AV)(a1 a2:Int)(a6 a7 a8 a9:AV)(a10 a11:Int)(a12:AV)(mL:Int)(H:AH):Prop:=bI (bA a1 (.ofNat 1)) (x8 a0 a1 a2 a6 a7 a8 a9 a10 a11 a12 (.ofNat 15) H) (x8 a0 a1 a2 a6 a7 a8 a9 a10 a11 a12 mL H)
theorem Va{R:dF}(hR:ju R){K:KF}{x8:jm}(h8:Kw K x8):Kv K (CE R K x8):=λa0 a1 a2 a6 a7 a8 a9 a10 a11 a12 mL H h=>pk hR (cc h8 .nil) h
def CF(R:dF)(K:KF)(i3:dM):jm:=CE R K (CC R K i3)
theorem Vb{R:dF}(hR:ju R){K:KF}{i3:dM}(g3:lJ K i3):Kv K (CF R K i3):=Va hR (U9 hR g3)
def CG(R:dF)(K:KF)(x7:jm)(a0:AV)(a1 a2:Int)(a6 a7 a8 a9:AV)(a10 a11:Int)(H:AH):Prop:=aC 0 (Int.add a1 (.ofNat 1)) λz1=>R.2.2.1 a0 z1 a2 H λo2 H3=>cR K o2 H3 λv4=>eI H3 (eX gPa (aE H3) 41 λv5 H6=>ah 7 v5 v4 H6 λH7=>bI (bA a1 (.ofNat 0)) (x7 a0 a1 a2 a6 a7 a8 a9 a10 a11 v5 (.ofNat 16) H7) (x7 a0 a1 a2 a6 a7 a8 a9 a10 a11 v5 (.ofNat 14) H7))
theorem Vc{R:dF}(hR:ju R){K:KF}{x7:jm}(h7:Kv K x7):Ku K (CG R K x7):=λa0 a1 a2 a6 a7 a8 a9 a10 a11 H h=>pk hR (cc h7 .nil) h
def Kx(R:dF)(K:KF)(i3:dM):rR:=CG R K (CF R K i3)
theorem Vd{R:dF}(hR:ju R){K:KF}{i3:dM}(g3:lJ K i3):Ku K (Kx R K i3):=Vc hR (Vb hR g3)
def CH(R:dF)(K:KF)(x6:rR)(a0:AV)(a1 a2:Int)(a6 a7 a8 a9:AV)(a10:Int)(H:AH):Prop:=bO a7 λv1=>cI 0 v1 λz2=>bI (bA a10 z2) (aQ 7 a9 H λv3=>ah 7 a6 v3 H λH4=>aQ 7 a6 H4 λv5=>K (.ret v5) H4) (R.1 a0 H λo6 H7=>cR K o6 H7 λv8=>cI 0 v8 λz9=>au a0 (ag 1 a0 λv10=>ad v10 H7 λv11=>cI 0 v11 λz12=>aC 0 (Int.add z12 (.ofNat 1)) λz13=>au a0 (ag 1 a0 λv14=>ah 1 v14 (.int 0 z13) H7 λdZ=>x6 a0 a1 a2 a6 a7 a8 a9 a10 z9 dZ)))
theorem Ve{R:dF}(hR:ju R){K:KF}{x6:rR}(h6:Ku K x6):Kt K (CH R K x6):=λa0 a1 a2 a6 a7 a8 a9 a10 H h=>pk hR (cc h6 .nil) h
def CI(R:dF)(K:KF)(i3:dM):iP:=CH R K (Kx R K i3)
theorem Vf{R:dF}(hR:ju R){K:KF}{i3:dM}(g3:lJ K i3):Kt K (CI R K i3):=Ve hR (Vd hR g3)
def CJ(R:dF)(K:KF)(x5 x4:iP)(a0:AV)(a1 a2:Int)(a6 a7 a8 a9:AV)(a10:Int)(H:AH):Prop:=bO a7 λv1=>cI 0 v1 λz2=>bI (cx a10 z2) (bb 1 a7 (.int 0 a10) λv3=>ad v3 H λv4=>R.2.1 a0 v4 H λo5 H6=>cR K o5 H6 λv7=>bY v7 λz8=>bI (!z8) (aC 0 (Int.add a10 (.ofNat 1)) λz9=>x5 a0 a1 a2 a6 a7 a8 a9 z9 H6) (x4 a0 a1 a2 a6 a7 a8 a9 a10 H6)) (x4 a0 a1 a2 a6 a7 a8 a9 a10 H)
theorem Vg{R:dF}(hR:ju R){K:KF}{x5 x4:iP}(h5:sK K x5)(h4:Kt K x4):sK K (CJ R K x5 x4):=λa0 a1 a2 a6 a7 a8 a9 a10 H h=>pk hR (cc h5 (cc h4 .nil)) h
def Vh(R:dF)(K:KF)(i3:dM)(i5:iP):iP:=CJ R K i5 (CI R K i3)
theorem Vi{R:dF}(hR:ju R){K:KF}{i3:dM}{i5:iP}(g3:lJ K i3)(g5:sK K i5):sK K (Vh R K i3 i5):=Vg hR g5 (Vf hR g3)
def vE(R:dF)(K:KF)(i3:dM)(n:Nat):iP:=Nat.rec (motive:=λ_=>iP) (λ_ _ _ _ _ _ _ _ _=>False) (λ_ i=>Vh R K i3 i) n
theorem Vj{R:dF}(hR:ju R){K:KF}{i3:dM}(g3:lJ K i3)(n:Nat):sK K (vE R K i3 n):=Nat.rec (motive:=λn=>sK K (vE R K i3 n)) (λa0 a1 a2 a6 a7 a8 a9 a10 H h=>h.elim) (λn ih=>Vi hR g3 ih) n
def CK(R:dF)(K:KF)(x5:iP)(a0:AV)(a1 a2:Int)(a6 a7 a8 a9:AV)(H:AH):Prop:=x5 a0 a1 a2 a6 a7 a8 a9 (.ofNat 0) H
theorem Vk{R:dF}(hR:ju R){K:KF}{x5:iP}(h5:sK K x5):lJ K (CK R K x5):=λa0 a1 a2 a6 a7 a8 a9 H h=>pk hR (cc h5 .nil) h
def Ky(R:dF)(K:KF)(i3:dM):dM:=CK R K (vE R K i3 NL)
theorem Vl{R:dF}(hR:ju R){K:KF}{i3:dM}(g3:lJ K i3):lJ K (Ky R K i3):=Vk hR (Vj hR g3 NL)
def CL(R:dF)(K:KF)(n:Nat):dM:=Nat.rec (motive:=λ_=>dM) (λ_ _ _ _ _ _ _ _=>False) (λ_ i=>Ky R K i) n
theorem Vm{R:dF}(hR:ju R){K:KF}(n:Nat):lJ K (CL R K n):=Nat.rec (motive:=λn=>lJ K (CL R K n)) (λa0 a1 a2 a6 a7 a8 a9 H h=>h.elim) (λn ih=>Vl hR ih) n
def Kz(R:dF)(K:KF)(x3:dM)(a0:AV)(a1 a2:Int)(a6 a7 a8 a9:AV)(H:AH):Prop:=x3 a0 a1 a2 a6 a7 a8 a9 H
theorem Vn{R:dF}(hR:ju R){K:KF}{x3:dM}(h3:lJ K x3):Ks K (Kz R K x3):=λa0 a1 a2 a6 a7 a8 a9 H h=>pk hR (cc h3 .nil) h
def KA(R:dF)(K:KF):dM:=Kz R K (CL R K NL)
theorem Vo{R:dF}(hR:ju R){K:KF}:Ks K (KA R K):=Vn hR (Vm hR NL)
def KB(R:dF)(K:KF)(x2:dM)(a0:AV)(a1 a2:Int)(a6 a7:AV)(H:AH):Prop:=aT (aE H) 1 1 [(.int 0 (.ofNat 0))] λv1 H2=>aT (aE H2) 1 1 [(.int 0 (.ofNat 0))] λv3 H4=>aT (aE H4) 6 1 [(.int 0 (.ofNat 7)),(.int 0 (.ofNat 8)),(.int 0 (.ofNat 9)),(.int 0 (.ofNat 10)),(.int 0 (.ofNat 11)),(.int 0 (.ofNat 12))] λv5 H6=>aT (aE H6) 2 1 [(.int 0 (.ofNat 1)),(.int 0 (.ofNat 2))] λv7 H8=>aT (aE H8) 3 1 [(.int 0 (.ofNat 3)),(.int 0 (.ofNat 4)),(.int 0 (.ofNat 5))] λv9 cn=>one v1 (one v3 (one v5 (one v7 (one v9 (aT (aE cn) 6 1 [v1,v3,v5,.ab,v7,v9] λv11 bQ=>bb 1 v11 (.int 0 a1) λv13=>ad v13 bQ λv14=>aC 0 (Int.add a1 (.ofNat 1)) λmK=>R.2.2.1 a0 mK a2 bQ λo16 jO=>cR K o16 jO λv18=>eI jO (eX gPa (aE jO) 41 λv19 jt=>ah 7 v19 v18 jt λgZ=>x2 a0 a1 a2 a6 a7 v14 v19 gZ))))))
theorem Vp{R:dF}(hR:ju R){K:KF}{x2:dM}(h2:Ks K x2):Kr K (KB R K x2):=λa0 a1 a2 a6 a7 H h=>pk hR (cc h2 .nil) h
def yy(R:dF)(K:KF):BN:=KB R K (KA R K)
theorem Vq{R:dF}(hR:ju R){K:KF}:Kr K (yy R K):=Vp hR (Vo hR)
def sL(R:dF)(K:KF)(x1:BN)(a0:AV)(a1 a2:Int)(H:AH):Prop:=eI H (eX gPa (aE H) 41 λv1 H2=>au a0 (ag 2 a0 λv3=>ad v3 H2 λv4=>cI 0 v4 λz5=>bI (!(bA z5 (.ofNat 0))) (ah 7 v1 (.agg [(.int 0 (.ofNat 0)),(.int 0 (.ofNat 0)),(.int 0 (.ofNat 0)),(.str 0 0),(.int 0 (.ofNat 0)),.ab,.ab]) H2 λH6=>aQ 7 v1 H6 λv7=>K (.ret v7) H6) (bI (bA a1 (.ofNat 3)) (R.2.2.2.1 a0 a2 H2 λo8 H9=>cR K o8 H9 λv10=>ah 7 v1 v10 H9 λiQ=>aQ 7 v1 iQ λv12=>K (.ret v12) iQ) (bI (bA a1 (.ofNat 6)) (R.2.2.2.2 a0 a2 H2 λlI dk=>cR K lI dk λv15=>ah 7 v1 v15 dk λeE=>aQ 7 v1 eE λv17=>K (.ret v17) eE) (aT (aE H2) 1 1 [(.str 2 29295)] λv18 kj=>aT (aE kj) 1 1 [(.str 3 6581857)] λv20 gZ=>aT (aE gZ) 6 1 [(.str 2 15677),(.str 2 15742),(.str 1 60),(.str 2 15676),(.str 1 62),(.str 2 15678)] λv22 qT=>aT (aE qT) 2 1 [(.str 1 43),(.str 1 45)] λv24 rI=>aT (aE rI) 3 1 [(.str 1 42),(.str 2 12079),(.str 1 37)] λv26 sH=>one v18 (one v20 (one v22 (one v24 (one v26 (aT (aE sH) 6 1 [v18,v20,v22,.ab,v24,v26] λv28 Cw=>bb 1 v28 (.int 0 a1) λv30=>ad v30 Cw λv31=>x1 a0 a1 a2 v1 v31 Cw))))))))))
theorem Vr{R:dF}(hR:ju R){K:KF}{x1:BN}(h1:Kr K x1)(a0:AV)(a1 a2:Int)(H:AH)(h:sL R K x1 a0 a1 a2 H):dQ 56 K [] (bz (dy 56) [a0,(.int 0 a1),(.int 0 a2)]) [] H:=pk hR (cc h1 .nil) h
def Vs(R:dF)(K:KF):hO:=sL R K (yy R K)
def CM(R:dF):AV→Int→Int→AH→KF→Prop:=λa0 a1 a2 H K=>Vs R K a0 a1 a2 H
theorem aiA(R:dF)(hR:ju R):aw gPa 56 (ao [.a,.i 0,.i 0] (CM R)):=rk λK a0 a1 a2 H h=>Vr hR (Vq hR) a0 a1 a2 H h
abbrev gO:Type:=(AV→Int→AH→KF→Prop)×(AV→AV→AH→KF→Prop)×(AV→AH→KF→Prop)×(AV→AV→AH→KF→Prop)×(AV→Int→Int→AH→KF→Prop)
def ak9(R:gO):List (Nat×cY):=[(17,ao [.a,.i 0] R.1),(40,ao [.a,.a] R.2.1),(57,ao [.a] R.2.2.1),(59,ao [.a,.a] R.2.2.2.1),(76,ao [.a,.i 0,.i 0] R.2.2.2.2)]
abbrev pz(R:gO):Prop:=af gPa (ak9 R)
abbrev CN(K:KF)(F:cq):Prop:=aR 58 K [1,1,1,1] 40 [0,1,4,5] [.a,.i 0,.a,.a] F
abbrev CO(K:KF)(F:cq):Prop:=aR 58 K [1,0,1,0,1,1,1] 40 [0,1,4,5] [.a,.i 0,.a,.a] F
abbrev qU(K:KF)(F:cq):Prop:=aR 58 K [0,0,0,1,0,1,1,1] 40 [0,1,4,5] [.a,.i 0,.a,.a] F
abbrev KC(K:KF)(F:cq):Prop:=aR 58 K [1,1,0,1,0,0,0,0,1,0,1,1,1] 40 [0,1,4,5] [.a,.i 0,.a,.a] F
def CP(R:gO)(K:KF)(a0:AV)(a1:Int)(a4 a5:AV)(H:AH):Prop:=R.1 a0 a1 H λo1 H2=>cR K o1 H2 λv3=>ag 1 a5 λv4=>ah 1 v4 v3 H2 λH5=>R.2.2.2.1 a0 (.str 3 6581861) H5 λo6 H7=>cR K o6 H7 λv8=>aQ 2 a5 H7 λv9=>ah 2 a4 v9 H7 λcn=>aQ 2 a4 cn λv11=>K (.ret v11) cn
theorem Vt{R:gO}(hR:pz R){K:KF}:CN K (CP R K):=λa0 a1 a4 a5 H h=>pk hR .nil h
def yz(R:gO)(K:KF):cq:=CP R K
theorem HJ{R:gO}(hR:pz R){K:KF}:CN K (yz R K):=Vt hR
def CQ(R:gO)(K:KF)(x1:cq)(a0:AV)(a1:Int)(a4 a5:AV)(H:AH):Prop:=R.2.2.2.1 a0 (.str 1 41) H λo1 H2=>cR K o1 H2 λv3=>x1 a0 a1 a4 a5 H2
theorem Vu{R:gO}(hR:pz R){K:KF}{x1:cq}(h1:CN K x1):CO K (CQ R K x1):=λa0 a1 a4 a5 H h=>pk hR (cc h1 .nil) h
def vF(R:gO)(K:KF):cq:=CQ R K (yz R K)
theorem HK{R:gO}(hR:pz R){K:KF}:CO K (vF R K):=Vu hR (HJ hR)
def CR(R:gO)(K:KF)(x3 x2:cq)(a0:AV)(a1:Int)(a4 a5:AV)(H:AH):Prop:=R.2.1 a0 (.str 1 44) H λo1 H2=>cR K o1 H2 λv3=>bY v3 λz4=>bI (!z4) (x2 a0 a1 a4 a5 H2) (x3 a0 a1 a4 a5 H2)
theorem Vv{R:gO}(hR:pz R){K:KF}{x3 x2:cq}(h3:qU K x3)(h2:CO K x2):KC K (CR R K x3 x2):=λa0 a1 a4 a5 H h=>pk hR (cc h3 (cc h2 .nil)) h
def KE(R:gO)(K:KF)(i3:cq):cq:=CR R K i3 (vF R K)
theorem Vw{R:gO}(hR:pz R){K:KF}{i3:cq}(g3:qU K i3):KC K (KE R K i3):=Vv hR g3 (HK hR)
def CS(R:gO)(K:KF)(x2 x4:cq)(a0:AV)(a1:Int)(a4 a5:AV)(H:AH):Prop:=au a0 (ag 2 a0 λv1=>ad v1 H λv2=>cI 0 v2 λz3=>bI (bA z3 (.ofNat 0)) (ag 0 a5 λv4=>ad v4 H λv5=>bO v5 λv6=>cI 0 v6 λz7=>R.2.2.2.2 a0 z7 (.ofNat 16) H λo8 H9=>cR K o8 H9 λv10=>ag 0 a5 λv11=>ad v11 H9 λv12=>R.2.2.1 a0 H9 λlI dk=>cR K lI dk λv15=>ad v11 dk λv16=>bT (bu v16 v12) (cP dk (one v15 (aT (aE dk) 1 1 [v15] λv17 iz=>bT (Nat.beq iz.n (Nat.succ dk.n)) (cO 1 16 v12 v17 iz λv19 jt=>ag 0 a5 λv21=>ah 1 v21 v19 jt λjs=>x4 a0 a1 a4 a5 js))))) (x2 a0 a1 a4 a5 H))
theorem Vx{R:gO}(hR:pz R){K:KF}{x2 x4:cq}(h2:CO K x2)(h4:KC K x4):qU K (CS R K x2 x4):=λa0 a1 a4 a5 H h=>pk hR (cc h2 (cc h4 .nil)) h
def KG(R:gO)(K:KF)(i3:cq):cq:=CS R K (vF R K) (KE R K i3)
theorem Vy{R:gO}(hR:pz R){K:KF}{i3:cq}(g3:qU K i3):qU K (KG R K i3):=Vx hR (HK hR) (Vw hR g3)
def CT(R:gO)(K:KF)(n:Nat):cq:=Nat.rec (motive:=λ_=>cq) (λ_ _ _ _ _=>False) (λ_ i=>KG R K i) n
theorem Vz{R:gO}(hR:pz R){K:KF}(n:Nat):qU K (CT R K n):=Nat.rec (motive:=λn=>qU K (CT R K n)) (λa0 a1 a4 a5 H h=>h.elim) (λn ih=>Vy hR ih) n
def KH(R:gO)(K:KF)(x3 x1:cq)(a0:AV)(a1:Int)(H:AH):Prop:=eI H (hN (aE H) [.ab,.ab] λv1 H2=>eI H2 (hN (aE H2) [.ab,.ab] λv3 H4=>R.2.2.2.1 a0 (.str 1 40) H4 λo5 H6=>cR K o5 H6 λv7=>R.2.1 a0 (.str 1 41) H6 λo8 H9=>cR K o8 H9 λv10=>bY v10 λz11=>bI (!z11) (x3 a0 a1 v1 v3 H9) (x1 a0 a1 v1 v3 H9)))
theorem VA{R:gO}(hR:pz R){K:KF}{x3 x1:cq}(h3:qU K x3)(h1:CN K x1)(a0:AV)(a1:Int)(H:AH)(h:KH R K x3 x1 a0 a1 H):dQ 58 K [] (bz (dy 58) [a0,(.int 0 a1)]) [] H:=pk hR (cc h3 (cc h1 .nil)) h
def VB(R:gO)(K:KF):dU:=KH R K (CT R K NL) (yz R K)
def CU(R:gO):AV→Int→AH→KF→Prop:=λa0 a1 H K=>VB R K a0 a1 H
theorem aiB(R:gO)(hR:pz R):aw gPa 58 (ao [.a,.i 0] (CU R)):=rk λK a0 a1 H h=>VA hR (Vz hR NL) (HJ hR) a0 a1 H h
abbrev df:Type:=(AV→AH→KF→Prop)×(AV→AV→AH→KF→Prop)×(AV→Int→AH→KF→Prop)×(AV→AH→KF→Prop)×(AV→AV→AH→KF→Prop)×(AV→Int→Int→AH→KF→Prop)
def ala(R:df):List (Nat×cY):=[(39,ao [.a] R.1),(40,ao [.a,.a] R.2.1),(42,ao [.a,.i 0] R.2.2.1),(57,ao [.a] R.2.2.2.1),(59,ao [.a,.a] R.2.2.2.2.1),(76,ao [.a,.i 0,.i 0] R.2.2.2.2.2)]
abbrev iS(R:df):Prop:=af gPa (ala R)
abbrev KI(K:KF)(F:cN):Prop:=aR 60 K [1,1] 79 [4,6] [.a,.a] F
abbrev jn(K:KF)(F:cq):Prop:=aR 60 K [0,0,1] 79 [0,2,4,6] [.a,.i 0,.a,.a] F
abbrev KJ(K:KF)(F:bH):Prop:=aR 60 K [1,0,1,0,1,0,1,0,0,0,1] 79 [0,2,4,6,7,8] [.a,.i 0,.a,.a,.i 0,.a] F
abbrev KK(K:KF)(F:bH):Prop:=aR 60 K [1,0,1,1,1,0,1,0,1,0,0,0,1] 79 [0,2,4,6,7,9] [.a,.i 0,.a,.a,.i 0,.a] F
abbrev KL(K:KF)(F:bH):Prop:=aR 60 K [1,0,1,1,1,1,1,0,1,0,1,0,0,0,1] 79 [0,2,4,6,7,10] [.a,.i 0,.a,.a,.i 0,.a] F
abbrev CV(K:KF)(F:bH):Prop:=aR 60 K [1,1,0,1,1,1,1,1,0,1,0,1,0,0,0,1] 79 [0,2,4,6,7,10] [.a,.i 0,.a,.a,.i 0,.a] F
abbrev CW(K:KF)(F:bH):Prop:=aR 60 K [1,0,1,0,1,0,1,1,1,1,1,0,1,0,1,0,0,0,1] 79 [0,2,4,6,7,10] [.a,.i 0,.a,.a,.i 0,.a] F
abbrev qV(K:KF)(F:bH):Prop:=aR 60 K [0,0,0,1,0,1,0,1,1,1,1,1,0,1,0,1,0,0,0,1] 79 [0,2,4,6,7,10] [.a,.i 0,.a,.a,.i 0,.a] F
abbrev KM(K:KF)(F:bH):Prop:=aR 60 K [1,1,0,1,0,0,0,0,1,0,1,0,1,1,1,1,1,0,1,0,1,0,0,0,1] 79 [0,2,4,6,7,10] [.a,.i 0,.a,.a,.i 0,.a] F
def CX(R:df)(K:KF)(x2:cq)(a0:AV)(a2:Int)(a4 a6:AV)(a7:Int)(a8:AV)(H:AH):Prop:=R.2.2.2.1 a0 H λo1 H2=>cR K o1 H2 λv3=>ag 3 a8 λv4=>ah 1 v4 v3 H2 λH5=>aQ 7 a4 H5 λv6=>aQ 7 a8 H5 λv7=>onVal v6 λl8=>gK l8 7 (onVal v7 λl9=>gK l9 7 (aT (aE H5) 2 7 (spl l9 (spl l8 [(.int 0 (.ofNat 0)),(.int 0 (.ofNat 0)),(.int 0 (.ofNat 0)),(.str 0 0),(.int 0 (.ofNat 0)),.ab,.ab,(.int 0 (.ofNat 0)),(.int 0 (.ofNat 0)),(.int 0 (.ofNat 0)),(.str 0 0),(.int 0 (.ofNat 0)),.ab,.ab] 0) 7) λv10 iQ=>one v10 (ah 7 a4 (.agg [(.int 0 (.ofNat 9)),(.int 0 a7),(.int 0 (.ofNat 0)),(.str 0 0),(.int 0 (.ofNat 0)),v10,.ab]) iQ λbQ=>x2 a0 a2 a4 a6 bQ)))
theorem VC{R:df}(hR:iS R){K:KF}{x2:cq}(h2:jn K x2):KJ K (CX R K x2):=λa0 a2 a4 a6 a7 a8 H h=>pk hR (cc h2 .nil) h
def KN(R:df)(K:KF)(i2:cq):bH:=CX R K i2
theorem VD{R:df}(hR:iS R){K:KF}{i2:cq}(g2:jn K i2):KJ K (KN R K i2):=VC hR g2
def CY(R:df)(K:KF)(x2:cq)(a0:AV)(a2:Int)(a4 a6:AV)(a7:Int)(a9:AV)(H:AH):Prop:=R.2.2.2.2.1 a0 (.str 1 93) H λo1 H2=>cR K o1 H2 λv3=>aQ 7 a4 H2 λv4=>aQ 7 a9 H2 λv5=>onVal v4 λl6=>gK l6 7 (onVal v5 λl7=>gK l7 7 (aT (aE H2) 2 7 (spl l7 (spl l6 [(.int 0 (.ofNat 0)),(.int 0 (.ofNat 0)),(.int 0 (.ofNat 0)),(.str 0 0),(.int 0 (.ofNat 0)),.ab,.ab,(.int 0 (.ofNat 0)),(.int 0 (.ofNat 0)),(.int 0 (.ofNat 0)),(.str 0 0),(.int 0 (.ofNat 0)),.ab,.ab] 0) 7) λv8 H9=>one v8 (ah 7 a4 (.agg [(.int 0 (.ofNat 9)),(.int 0 a7),(.int 0 (.ofNat 0)),(.str 0 0),(.int 0 (.ofNat 0)),v8,.ab]) H9 λcn=>x2 a0 a2 a4 a6 cn)))
theorem VE{R:df}(hR:iS R){K:KF}{x2:cq}(h2:jn K x2):KK K (CY R K x2):=λa0 a2 a4 a6 a7 a9 H h=>pk hR (cc h2 .nil) h
def KO(R:df)(K:KF)(i2:cq):bH:=CY R K i2
theorem VF{R:df}(hR:iS R){K:KF}{i2:cq}(g2:jn K i2):KK K (KO R K i2):=VE hR g2
def CZ(R:df)(K:KF)(x2:cq)(a0:AV)(a2:Int)(a4 a6:AV)(a7:Int)(a10:AV)(H:AH):Prop:=one a10 (ah 7 a4 (.agg [(.int 0 (.ofNat 10)),(.int 0 a7),(.int 0 (.ofNat 0)),(.str 0 0),(.int 0 (.ofNat 0)),a10,.ab]) H λH1=>x2 a0 a2 a4 a6 H1)
theorem VG{R:df}(hR:iS R){K:KF}{x2:cq}(h2:jn K x2):CV K (CZ R K x2):=λa0 a2 a4 a6 a7 a10 H h=>pk hR (cc h2 .nil) h
def yA(R:df)(K:KF)(i2:cq):bH:=CZ R K i2
theorem HL{R:df}(hR:iS R){K:KF}{i2:cq}(g2:jn K i2):CV K (yA R K i2):=VG hR g2
def C0(R:df)(K:KF)(x6:bH)(a0:AV)(a2:Int)(a4 a6:AV)(a7:Int)(a10:AV)(H:AH):Prop:=R.2.2.2.2.1 a0 (.str 1 41) H λo1 H2=>cR K o1 H2 λv3=>x6 a0 a2 a4 a6 a7 a10 H2
theorem VH{R:df}(hR:iS R){K:KF}{x6:bH}(h6:CV K x6):CW K (C0 R K x6):=λa0 a2 a4 a6 a7 a10 H h=>pk hR (cc h6 .nil) h
def vG(R:df)(K:KF)(i2:cq):bH:=C0 R K (yA R K i2)
theorem HM{R:df}(hR:iS R){K:KF}{i2:cq}(g2:jn K i2):CW K (vG R K i2):=VH hR (HL hR g2)
def C5(R:df)(K:KF)(x8 x7:bH)(a0:AV)(a2:Int)(a4 a6:AV)(a7:Int)(a10:AV)(H:AH):Prop:=R.2.1 a0 (.str 1 44) H λo1 H2=>cR K o1 H2 λv3=>bY v3 λz4=>bI (!z4) (x7 a0 a2 a4 a6 a7 a10 H2) (x8 a0 a2 a4 a6 a7 a10 H2)
theorem VI{R:df}(hR:iS R){K:KF}{x8 x7:bH}(h8:qV K x8)(h7:CW K x7):KM K (C5 R K x8 x7):=λa0 a2 a4 a6 a7 a10 H h=>pk hR (cc h8 (cc h7 .nil)) h
def C6(R:df)(K:KF)(i2:cq)(i8:bH):bH:=C5 R K i8 (vG R K i2)
theorem VJ{R:df}(hR:iS R){K:KF}{i2:cq}{i8:bH}(g2:jn K i2)(g8:qV K i8):KM K (C6 R K i2 i8):=VI hR g8 (HM hR g2)
def C7(R:df)(K:KF)(x7 x9:bH)(a0:AV)(a2:Int)(a4 a6:AV)(a7:Int)(a10:AV)(H:AH):Prop:=au a0 (ag 2 a0 λv1=>ad v1 H λv2=>cI 0 v2 λz3=>bI (bA z3 (.ofNat 0)) (bO a10 λv4=>cI 0 v4 λz5=>aC 0 (Int.sub z5 (.ofNat 1)) λz6=>R.2.2.2.2.2 a0 z6 (.ofNat 16) H λo7 H8=>cR K o7 H8 λv9=>R.2.2.1 a0 a2 H8 λCu iQ=>cR K Cu iQ λv12=>onVal v12 λl13=>gK l13 7 (aT (aE iQ) 1 7 (spl l13 [(.int 0 (.ofNat 0)),(.int 0 (.ofNat 0)),(.int 0 (.ofNat 0)),(.str 0 0),(.int 0 (.ofNat 0)),.ab,.ab] 0) λv14 dZ=>cO 7 96 a10 v14 dZ λv16 jO=>x9 a0 a2 a4 a6 a7 v16 jO)) (x7 a0 a2 a4 a6 a7 a10 H))
theorem VK{R:df}(hR:iS R){K:KF}{x7 x9:bH}(h7:CW K x7)(h9:KM K x9):qV K (C7 R K x7 x9):=λa0 a2 a4 a6 a7 a10 H h=>pk hR (cc h7 (cc h9 .nil)) h
def KQ(R:df)(K:KF)(i2:cq)(i8:bH):bH:=C7 R K (vG R K i2) (C6 R K i2 i8)
theorem VM{R:df}(hR:iS R){K:KF}{i2:cq}{i8:bH}(g2:jn K i2)(g8:qV K i8):qV K (KQ R K i2 i8):=VK hR (HM hR g2) (VJ hR g2 g8)
def yB(R:df)(K:KF)(i2:cq)(n:Nat):bH:=Nat.rec (motive:=λ_=>bH) (λ_ _ _ _ _ _ _=>False) (λ_ i=>KQ R K i2 i) n
theorem VN{R:df}(hR:iS R){K:KF}{i2:cq}(g2:jn K i2)(n:Nat):qV K (yB R K i2 n):=Nat.rec (motive:=λn=>qV K (yB R K i2 n)) (λa0 a2 a4 a6 a7 a10 H h=>h.elim) (λn ih=>VM hR g2 ih) n
def C8(R:df)(K:KF)(x8 x6:bH)(a0:AV)(a2:Int)(a4 a6:AV)(a7:Int)(a10:AV)(H:AH):Prop:=R.2.1 a0 (.str 1 41) H λo1 H2=>cR K o1 H2 λv3=>bY v3 λz4=>bI (!z4) (x8 a0 a2 a4 a6 a7 a10 H2) (x6 a0 a2 a4 a6 a7 a10 H2)
theorem VO{R:df}(hR:iS R){K:KF}{x8 x6:bH}(h8:qV K x8)(h6:CV K x6):KL K (C8 R K x8 x6):=λa0 a2 a4 a6 a7 a10 H h=>pk hR (cc h8 (cc h6 .nil)) h
def KS(R:df)(K:KF)(i2:cq):bH:=C8 R K (yB R K i2 NL) (yA R K i2)
theorem VP{R:df}(hR:iS R){K:KF}{i2:cq}(g2:jn K i2):KL K (KS R K i2):=VO hR (VN hR g2 NL) (HL hR g2)
def VQ(R:df)(K:KF)(a4 a6:AV)(H:AH):Prop:=aQ 7 a4 H λv1=>ah 7 a6 v1 H λH2=>aQ 7 a6 H2 λv3=>K (.ret v3) H2
theorem VS{R:df}(hR:iS R){K:KF}:KI K (VQ R K):=λa4 a6 H h=>pk hR .nil h
def KU(R:df)(K:KF):cN:=VQ R K
theorem VT{R:df}(hR:iS R){K:KF}:KI K (KU R K):=VS hR
def C9(R:df)(K:KF)(x3 x4 x5:bH)(x1:cN)(a0:AV)(a2:Int)(a4 a6:AV)(H:AH):Prop:=au a0 (ag 2 a0 λv1=>ad v1 H λv2=>cI 0 v2 λz3=>bI (bA z3 (.ofNat 0)) (R.1 a0 H λo4 H5=>cR K o4 H5 λv6=>cI 0 v6 λz7=>R.2.1 a0 (.str 1 46) H5 λo8 H9=>cR K o8 H9 λv10=>bY v10 λz11=>bI z11 (R.1 a0 H9 λqS fH=>cR K qS fH λv14=>cI 0 v14 λmK=>eI fH (eX gPa (aE fH) 41 λv16 jO=>ah 7 v16 (.agg [(.int 0 (.ofNat 5)),(.int 0 mK),(.int 0 (.ofNat 0)),(.str 0 0),(.int 0 (.ofNat 0)),.ab,.ab]) jO λiz=>x3 a0 a2 a4 a6 z7 v16 iz)) (R.2.1 a0 (.str 1 91) H9 λKV jt=>cR K KV jt λv21=>bY v21 λz22=>bI z22 (R.2.2.1 a0 a2 jt λVU p5=>cR K VU p5 λv25=>eI p5 (eX gPa (aE p5) 41 λv26 sH=>ah 7 v26 v25 sH λp7=>x4 a0 a2 a4 a6 z7 v26 p7)) (R.2.1 a0 (.str 1 40) jt λVV xM=>cR K VV xM λv31=>bY v31 λz32=>bI z32 (aQ 7 a4 xM λv33=>onVal v33 λl34=>gK l34 7 (aT (aE xM) 1 7 (spl l34 [(.int 0 (.ofNat 0)),(.int 0 (.ofNat 0)),(.int 0 (.ofNat 0)),(.str 0 0),(.int 0 (.ofNat 0)),.ab,.ab] 0) λv35 H36=>x5 a0 a2 a4 a6 z7 v35 H36)) (aQ 7 a4 xM λv37=>ah 7 a6 v37 xM λKp=>aQ 7 a6 Kp λv39=>K (.ret v39) Kp)))) (x1 a4 a6 H))
theorem VW{R:df}(hR:iS R){K:KF}{x3 x4 x5:bH}{x1:cN}(h3:KJ K x3)(h4:KK K x4)(h5:KL K x5)(h1:KI K x1):jn K (C9 R K x3 x4 x5 x1):=λa0 a2 a4 a6 H h=>pk hR (cc h3 (cc h4 (cc h5 (cc h1 .nil)))) h
def KW(R:df)(K:KF)(i2:cq):cq:=C9 R K (KN R K i2) (KO R K i2) (KS R K i2) (KU R K)
theorem VX{R:df}(hR:iS R){K:KF}{i2:cq}(g2:jn K i2):jn K (KW R K i2):=VW hR (VD hR g2) (VF hR g2) (VP hR g2) (VT hR)
def Da(R:df)(K:KF)(n:Nat):cq:=Nat.rec (motive:=λ_=>cq) (λ_ _ _ _ _=>False) (λ_ i=>KW R K i) n
theorem VY{R:df}(hR:iS R){K:KF}(n:Nat):jn K (Da R K n):=Nat.rec (motive:=λn=>jn K (Da R K n)) (λa0 a2 a4 a6 H h=>h.elim) (λn ih=>VX hR ih) n
def KX(R:df)(K:KF)(x2:cq)(a0 a1:AV)(a2:Int)(H:AH):Prop:=mB (aE H) a1 λv1 H2=>eI H2 (eX gPa (aE H2) 41 λv3 H4=>x2 a0 a2 v1 v3 H4)
theorem VZ{R:df}(hR:iS R){K:KF}{x2:cq}(h2:jn K x2)(a0 a1:AV)(a2:Int)(H:AH)(h:KX R K x2 a0 a1 a2 H):dQ 60 K [] (bz (dy 60) [a0,a1,(.int 0 a2)]) [] H:=pk hR (cc h2 .nil) h
def V0(R:df)(K:KF):ax:=KX R K (Da R K NL)
def Db(R:df):AV→AV→Int→AH→KF→Prop:=λa0 a1 a2 H K=>V0 R K a0 a1 a2 H
theorem aiC(R:df)(hR:iS R):aw gPa 60 (ao [.a,.a,.i 0] (Db R)):=rk λK a0 a1 a2 H h=>VZ hR (VY hR NL) a0 a1 a2 H h
abbrev oy:Type:=(AV→Int→AH→KF→Prop)×(AV→AH→KF→Prop)×(AV→AV→AH→KF→Prop)×(AV→Int→Int→AH→KF→Prop)×(AV→Int→AH→KF→Prop)
def alb(R:oy):List (Nat×cY):=[(37,ao [.a,.i 0] R.1),(39,ao [.a] R.2.1),(40,ao [.a,.a] R.2.2.1),(56,ao [.a,.i 0,.i 0] R.2.2.2.1),(74,ao [.a,.i 0] R.2.2.2.2)]
abbrev Ix(R:oy):Prop:=af gPa (alb R)
abbrev KY(K:KF)(F:dq):Prop:=aR 74 K [1,1,1,1,1,1] 36 [0,1,4,5,6] [.a,.i 0,.a,.a,.i 0] F
def yC(R:oy)(K:KF)(a0:AV)(a1:Int)(a4 a5:AV)(a6:Int)(H:AH):Prop:=aC 0 (Int.add a1 (.ofNat 1)) λz1=>R.2.2.2.2 a0 z1 H λo2 H3=>cR K o2 H3 λv4=>eI H3 (eX gPa (aE H3) 41 λv5 H6=>ah 7 v5 v4 H6 λH7=>aQ 7 a5 H7 λv8=>aQ 7 v5 H7 λv9=>onVal v8 λl10=>gK l10 7 (onVal v9 λHN=>gK HN 7 (aT (aE H7) 2 7 (spl HN (spl l10 [(.int 0 (.ofNat 0)),(.int 0 (.ofNat 0)),(.int 0 (.ofNat 0)),(.str 0 0),(.int 0 (.ofNat 0)),.ab,.ab,(.int 0 (.ofNat 0)),(.int 0 (.ofNat 0)),(.int 0 (.ofNat 0)),(.str 0 0),(.int 0 (.ofNat 0)),.ab,.ab] 0) 7) λv12 fH=>one v12 (ah 7 a4 (.agg [(.int 0 (.ofNat 14)),(.int 0 a6),(.int 0 (.ofNat 0)),(.str 0 0),(.int 0 (.ofNat 6)),v12,.ab]) fH λdk=>aQ 7 a4 dk λv15=>K (.ret v15) dk))))
theorem V2{R:oy}(hR:Ix R){K:KF}:KY K (yC R K):=λa0 a1 a4 a5 a6 H h=>pk hR .nil h
def V3(R:oy)(K:KF):dq:=yC R K
theorem V4{R:oy}(hR:Ix R){K:KF}:KY K (V3 R K):=V2 hR
def Dc(R:oy)(K:KF)(x1:dq)(a0:AV)(a1:Int)(H:AH):Prop:=eI H (eX gPa (aE H) 41 λv1 H2=>R.2.2.2.1 a0 (.ofNat 4) a1 H2 λo3 H4=>cR K o3 H4 λv5=>eI H4 (eX gPa (aE H4) 41 λv6 H7=>ah 7 v6 v5 H7 λH8=>R.2.1 a0 H8 λo9 cn=>cR K o9 cn λv11=>cI 0 v11 λz12=>R.2.2.1 a0 (.str 2 11822) cn λlI dk=>cR K lI dk λv15=>bY v15 λqN=>bI (!qN) (aQ 7 v6 dk λv17=>ah 7 v1 v17 dk λiz=>aQ 7 v1 iz λv19=>K (.ret v19) iz) (aC 0 (Int.add a1 (.ofNat 1)) λz20=>R.1 a0 z20 dk λyt js=>cR K yt js λv23=>au a0 (ag 2 a0 λv24=>ad v24 js λv25=>cI 0 v25 λz26=>bI (!(bA z26 (.ofNat 0))) (aQ 7 v6 js λv27=>ah 7 v1 v27 js λp7=>aQ 7 v1 p7 λv29=>K (.ret v29) p7) (x1 a0 a1 v1 v6 z12 js)))))
theorem V5{R:oy}(hR:Ix R){K:KF}{x1:dq}(h1:KY K x1)(a0:AV)(a1:Int)(H:AH)(h:Dc R K x1 a0 a1 H):dQ 74 K [] (bz (dy 74) [a0,(.int 0 a1)]) [] H:=pk hR (cc h1 .nil) h
def alc(R:oy)(K:KF):dU:=Dc R K (V3 R K)
def RA(R:oy):AV→Int→AH→KF→Prop:=λa0 a1 H K=>alc R K a0 a1 H
theorem aiD(R:oy)(hR:Ix R):aw gPa 74 (ao [.a,.i 0] (RA R)):=rk λK a0 a1 H h=>V5 hR (V4 hR) a0 a1 H h
abbrev oz:Type:=(AV→Int→AH→KF→Prop)×(AV→AH→KF→Prop)×(AV→AV→AH→KF→Prop)×(AV→Int→AH→KF→Prop)×(AV→Int→AH→KF→Prop)
def ald(R:oz):List (Nat×cY):=[(37,ao [.a,.i 0] R.1),(39,ao [.a] R.2.1),(40,ao [.a,.a] R.2.2.1),(75,ao [.a,.i 0] R.2.2.2.1),(82,ao [.a,.i 0] R.2.2.2.2)]
abbrev Iy(R:oz):Prop:=af gPa (ald R)
abbrev KZ(K:KF)(F:qL):Prop:=aR 75 K [1,1,1,1] 39 [0,1,4,5,6] [.a,.i 0,.a,.i 0,.i 0] F
def yD(R:oz)(K:KF)(a0:AV)(a1:Int)(a4:AV)(a5 a6:Int)(H:AH):Prop:=aC 0 (Int.add a1 (.ofNat 1)) λz1=>R.1 a0 z1 H λo2 H3=>cR K o2 H3 λv4=>au a0 (ag 2 a0 λv5=>ad v5 H3 λv6=>cI 0 v6 λz7=>bI (!(bA z7 (.ofNat 0))) (ah 7 a4 (.agg [(.int 0 (.ofNat 0)),(.int 0 (.ofNat 0)),(.int 0 (.ofNat 0)),(.str 0 0),(.int 0 (.ofNat 0)),.ab,.ab]) H3 λH8=>aQ 7 a4 H8 λv9=>K (.ret v9) H8) (aC 0 (Int.add a1 (.ofNat 1)) λz10=>R.2.2.2.1 a0 z10 H3 λkM bQ=>cR K kM bQ λv13=>onVal v13 λl14=>gK l14 7 (aT (aE bQ) 1 7 (spl l14 [(.int 0 (.ofNat 0)),(.int 0 (.ofNat 0)),(.int 0 (.ofNat 0)),(.str 0 0),(.int 0 (.ofNat 0)),.ab,.ab] 0) λv15 eE=>one v15 (ah 7 a4 (.agg [(.int 0 a6),(.int 0 a5),(.int 0 (.ofNat 0)),(.str 0 0),(.int 0 (.ofNat 0)),v15,.ab]) eE λjO=>aQ 7 a4 jO λv18=>K (.ret v18) jO))))
theorem V6{R:oz}(hR:Iy R){K:KF}:KZ K (yD R K):=λa0 a1 a4 a5 a6 H h=>pk hR .nil h
def V7(R:oz)(K:KF):qL:=yD R K
theorem V8{R:oz}(hR:Iy R){K:KF}:KZ K (V7 R K):=V6 hR
def Dd(R:oz)(K:KF)(x1:qL)(a0:AV)(a1:Int)(H:AH):Prop:=eI H (eX gPa (aE H) 41 λv1 H2=>R.2.1 a0 H2 λo3 H4=>cR K o3 H4 λv5=>cI 0 v5 λz6=>R.2.2.1 a0 (.str 3 7630702) H4 λo7 H8=>cR K o7 H8 λv9=>bY v9 λz10=>bI z10 (x1 a0 a1 v1 z6 (.ofNat 11) H8) (R.2.2.1 a0 (.str 1 45) H8 λkM bQ=>cR K kM bQ λv13=>bY v13 λoe=>bI oe (x1 a0 a1 v1 z6 (.ofNat 12) bQ) (R.2.2.1 a0 (.str 1 35) bQ λDe eE=>cR K De eE λv17=>bY v17 λyE=>bI yE (x1 a0 a1 v1 z6 (.ofNat 13) eE) (R.2.2.2.2 a0 a1 eE λKV jt=>cR K KV jt λv21=>ah 7 v1 v21 jt λjs=>aQ 7 v1 js λv23=>K (.ret v23) js))))
theorem V9{R:oz}(hR:Iy R){K:KF}{x1:qL}(h1:KZ K x1)(a0:AV)(a1:Int)(H:AH)(h:Dd R K x1 a0 a1 H):dQ 75 K [] (bz (dy 75) [a0,(.int 0 a1)]) [] H:=pk hR (cc h1 .nil) h
def ale(R:oz)(K:KF):dU:=Dd R K (V7 R K)
def RB(R:oz):AV→Int→AH→KF→Prop:=λa0 a1 H K=>ale R K a0 a1 H
theorem aiE(R:oz)(hR:Iy R):aw gPa 75 (ao [.a,.i 0] (RB R)):=rk λK a0 a1 H h=>V9 hR (V8 hR) a0 a1 H h
abbrev ft:Type:=(AV→Int→AH→KF→Prop)×(AV→AH→KF→Prop)×(AV→AV→AH→KF→Prop)×(AV→Int→AH→KF→Prop)×(AV→Int→AH→KF→Prop)×(AV→AV→AH→KF→Prop)×(AV→AV→Int→AH→KF→Prop)×(AV→Int→Int→AH→KF→Prop)
def alf(R:ft):List (Nat×cY):=[(18,ao [.a,.i 0] R.1),(39,ao [.a] R.2.1),(40,ao [.a,.a] R.2.2.1),(42,ao [.a,.i 0] R.2.2.2.1),(58,ao [.a,.i 0] R.2.2.2.2.1),(59,ao [.a,.a] R.2.2.2.2.2.1),(60,ao [.a,.a,.i 0] R.2.2.2.2.2.2.1),(85,ao [.a,.i 0,.i 0] R.2.2.2.2.2.2.2)]
abbrev mM(R:ft):Prop:=af gPa (alf R)
abbrev K0(K:KF)(F:qK):Prop:=aR 82 K [1,1,1] 121 [0,1,4,5,6] [.a,.i 0,.a,.i 0,.a] F
abbrev K1(K:KF)(F:cN):Prop:=aR 82 K [1,1,1,1] 121 [0,4] [.a,.a] F
abbrev K2(K:KF)(F:qK):Prop:=aR 82 K [1,0,1,1,1,0,0,1,1,1] 121 [0,1,4,5,6] [.a,.i 0,.a,.i 0,.a] F
abbrev K3(K:KF)(F:cq):Prop:=aR 82 K [1,0,1,1,1,1,1,0,0,1,1,1] 121 [0,1,4,7] [.a,.i 0,.a,.a] F
abbrev K4(K:KF)(F:ks):Prop:=aR 82 K [1,0,1,1,1,1,1,1,1,0,0,1,1,1] 121 [4,5,6] [.a,.i 0,.a] F
abbrev K5(K:KF)(F:ks):Prop:=aR 82 K [1,0,1,1,1,1,1,1,1,1,1,0,0,1,1,1] 121 [4,5,6] [.a,.i 0,.a] F
def Df(R:ft)(K:KF)(a0:AV)(a1:Int)(a4:AV)(a5:Int)(a6:AV)(H:AH):Prop:=ag 1 a6 λv1=>ad v1 H λv2=>one v2 (R.2.2.2.2.2.2.1 a0 (.agg [(.int 0 (.ofNat 6)),(.int 0 a5),(.int 0 (.ofNat 0)),v2,(.int 0 (.ofNat 0)),.ab,.ab]) a1 H λo3 H4=>cR K o3 H4 λv5=>ah 7 a4 v5 H4 λH6=>aQ 7 a4 H6 λv7=>K (.ret v7) H6)
theorem Wa{R:ft}(hR:mM R){K:KF}:K2 K (Df R K):=λa0 a1 a4 a5 a6 H h=>pk hR .nil h
def K6(R:ft)(K:KF):qK:=Df R K
theorem Wb{R:ft}(hR:mM R){K:KF}:K2 K (K6 R K):=Wa hR
def Dg(R:ft)(K:KF)(a0:AV)(a1:Int)(a4 a7:AV)(H:AH):Prop:=R.2.2.2.2.2.1 a0 (.str 1 41) H λo1 H2=>cR K o1 H2 λv3=>aQ 7 a7 H2 λv4=>R.2.2.2.2.2.2.1 a0 v4 a1 H2 λo5 H6=>cR K o5 H6 λv7=>ah 7 a4 v7 H6 λH8=>aQ 7 a4 H8 λv9=>K (.ret v9) H8
theorem Wc{R:ft}(hR:mM R){K:KF}:K3 K (Dg R K):=λa0 a1 a4 a7 H h=>pk hR .nil h
def K7(R:ft)(K:KF):cq:=Dg R K
theorem Wd{R:ft}(hR:mM R){K:KF}:K3 K (K7 R K):=Wc hR
def Dh(R:ft)(K:KF)(a4:AV)(a5:Int)(a6:AV)(H:AH):Prop:=ag 2 a6 λv1=>ad v1 H λv2=>cI 0 v2 λz3=>ah 7 a4 (.agg [(.int 0 (.ofNat 4)),(.int 0 a5),(.int 0 z3),(.str 0 0),(.int 0 (.ofNat 0)),.ab,.ab]) H λH4=>aQ 7 a4 H4 λv5=>K (.ret v5) H4
theorem We{R:ft}(hR:mM R){K:KF}:K4 K (Dh R K):=λa4 a5 a6 H h=>pk hR .nil h
def K8(R:ft)(K:KF):ks:=Dh R K
theorem Wf{R:ft}(hR:mM R){K:KF}:K4 K (K8 R K):=We hR
def Di(R:ft)(K:KF)(a4:AV)(a5:Int)(a6:AV)(H:AH):Prop:=ag 1 a6 λv1=>ad v1 H λv2=>one v2 (ah 7 a4 (.agg [(.int 0 (.ofNat 5)),(.int 0 a5),(.int 0 (.ofNat 0)),v2,(.int 0 (.ofNat 0)),.ab,.ab]) H λH3=>aQ 7 a4 H3 λv4=>K (.ret v4) H3)
theorem Wg{R:ft}(hR:mM R){K:KF}:K5 K (Di R K):=λa4 a5 a6 H h=>pk hR .nil h
def K9(R:ft)(K:KF):ks:=Di R K
theorem Wh{R:ft}(hR:mM R){K:KF}:K5 K (K9 R K):=Wg hR
def Dj(R:ft)(K:KF)(a0 a4:AV)(H:AH):Prop:=R.1 a0 (.ofNat 14) H λo1 H2=>cR K o1 H2 λv3=>ah 7 a4 (.agg [(.int 0 (.ofNat 0)),(.int 0 (.ofNat 0)),(.int 0 (.ofNat 0)),(.str 0 0),(.int 0 (.ofNat 0)),.ab,.ab]) H2 λH4=>aQ 7 a4 H4 λv5=>K (.ret v5) H4
theorem Wi{R:ft}(hR:mM R){K:KF}:K1 K (Dj R K):=λa0 a4 H h=>pk hR .nil h
def La(R:ft)(K:KF):cN:=Dj R K
theorem Wj{R:ft}(hR:mM R){K:KF}:K1 K (La R K):=Wi hR
def Dk(R:ft)(K:KF)(x3:qK)(x4:cq)(x5 x6:ks)(x2:cN)(a0:AV)(a1:Int)(a4:AV)(a5:Int)(a6:AV)(H:AH):Prop:=au a0 (ag 2 a0 λv1=>ad v1 H λv2=>cI 0 v2 λz3=>bI (!(bA z3 (.ofNat 0))) (ah 7 a4 (.agg [(.int 0 (.ofNat 0)),(.int 0 (.ofNat 0)),(.int 0 (.ofNat 0)),(.str 0 0),(.int 0 (.ofNat 0)),.ab,.ab]) H λH4=>aQ 7 a4 H4 λv5=>K (.ret v5) H4) (ag 0 a6 λv6=>ad v6 H λv7=>cI 0 v7 λz8=>bI (bA z8 (.ofNat 2)) (au a0 (ag 1 a0 λv9=>ad v9 H λv10=>cI 0 v10 λz11=>aC 0 (Int.add z11 (.ofNat 1)) λz12=>au a0 (ag 1 a0 λv13=>ah 1 v13 (.int 0 z12) H λdk=>x3 a0 a1 a4 a5 a6 dk))) (R.2.2.1 a0 (.str 1 40) H λDe eE=>cR K De eE λv17=>bY v17 λyE=>bI yE (R.2.2.2.1 a0 a1 eE λKV jt=>cR K KV jt λv21=>eI jt (eX gPa (aE jt) 41 λv22 qT=>ah 7 v22 v21 qT λp5=>x4 a0 a1 a4 v22 p5)) (ag 0 a6 λv25=>ad v25 eE λv26=>cI 0 v26 λz27=>bI (bA z27 (.ofNat 3)) (au a0 (ag 1 a0 λv28=>ad v28 eE λv29=>cI 0 v29 λz30=>aC 0 (Int.add z30 (.ofNat 1)) λz31=>au a0 (ag 1 a0 λv32=>ah 1 v32 (.int 0 z31) eE λPs=>x5 a4 a5 a6 Ps))) (ag 0 a6 λv34=>ad v34 eE λv35=>cI 0 v35 λz36=>bI (bA z36 (.ofNat 4)) (au a0 (ag 1 a0 λv37=>ad v37 eE λv38=>cI 0 v38 λz39=>aC 0 (Int.add z39 (.ofNat 1)) λz40=>au a0 (ag 1 a0 λv41=>ah 1 v41 (.int 0 z40) eE λU2=>x6 a4 a5 a6 U2))) (R.2.2.1 a0 (.str 3 7104878) eE λo43 Pt=>cR K o43 Pt λv45=>bY v45 λz46=>bI z46 (ah 7 a4 (.agg [(.int 0 (.ofNat 1)),(.int 0 a5),(.int 0 (.ofNat 0)),(.str 0 0),(.int 0 (.ofNat 0)),.ab,.ab]) Pt λH47=>aQ 7 a4 H47 λv48=>K (.ret v48) H47) (R.2.2.1 a0 (.str 4 1702195828) Pt λo49 H50=>cR K o49 H50 λv51=>bY v51 λz52=>bI z52 (ah 7 a4 (.agg [(.int 0 (.ofNat 2)),(.int 0 a5),(.int 0 (.ofNat 0)),(.str 0 0),(.int 0 (.ofNat 0)),.ab,.ab]) H50 λH53=>aQ 7 a4 H53 λv54=>K (.ret v54) H53) (R.2.2.1 a0 (.str 5 435728179558) H50 λo55 U3=>cR K o55 U3 λv57=>bY v57 λz58=>bI z58 (ah 7 a4 (.agg [(.int 0 (.ofNat 3)),(.int 0 a5),(.int 0 (.ofNat 0)),(.str 0 0),(.int 0 (.ofNat 0)),.ab,.ab]) U3 λH59=>aQ 7 a4 H59 λv60=>K (.ret v60) H59) (R.2.2.1 a0 (.str 8 7957695015192261990) U3 λo61 Kq=>cR K o61 Kq λv63=>bY v63 λz64=>bI z64 (R.2.2.2.2.1 a0 a1 Kq λo65 U4=>cR K o65 U4 λv67=>onVal v67 λl68=>gK l68 2 (aT (aE U4) 1 2 (spl l68 [.ab,.ab] 0) λv69 H70=>one v69 (ah 7 a4 (.agg [(.int 0 (.ofNat 7)),(.int 0 a5),(.int 0 (.ofNat 0)),(.str 0 0),(.int 0 (.ofNat 0)),.ab,v69]) H70 λH71=>aQ 7 a4 H71 λv72=>K (.ret v72) H71))) (R.2.2.1 a0 (.str 1 123) Kq λo73 H74=>cR K o73 H74 λv75=>bY v75 λz76=>bI z76 (R.2.2.2.2.2.2.2 a0 a5 a1 H74 λo77 H78=>cR K o77 H78 λv79=>ah 7 a4 v79 H78 λU5=>aQ 7 a4 U5 λv81=>K (.ret v81) U5) (x2 a0 a4 H74)))))))))))
theorem Wk{R:ft}(hR:mM R){K:KF}{x3:qK}{x4:cq}{x5 x6:ks}{x2:cN}(h3:K2 K x3)(h4:K3 K x4)(h5:K4 K x5)(h6:K5 K x6)(h2:K1 K x2):K0 K (Dk R K x3 x4 x5 x6 x2):=λa0 a1 a4 a5 a6 H h=>pk hR (cc h3 (cc h4 (cc h5 (cc h6 (cc h2 .nil))))) h
def Lb(R:ft)(K:KF):qK:=Dk R K (K6 R K) (K7 R K) (K8 R K) (K9 R K) (La R K)
theorem Wl{R:ft}(hR:mM R){K:KF}:K0 K (Lb R K):=Wk hR (Wb hR) (Wd hR) (Wf hR) (Wh hR) (Wj hR)
def Dl(R:ft)(K:KF)(x1:qK)(a0:AV)(a1:Int)(H:AH):Prop:=eI H (eX gPa (aE H) 41 λv1 H2=>R.2.1 a0 H2 λo3 H4=>cR K o3 H4 λv5=>cI 0 v5 λz6=>au a0 (ag 0 a0 λv7=>ad v7 H4 λv8=>au a0 (ag 1 a0 λv9=>ad v9 H4 λv10=>cI 0 v10 λz11=>bb 4 v8 (.int 0 z11) λv12=>aQ 4 v12 H4 λv13=>cP H4 (eI H4 (hN (aE H4) [(.int 0 (.ofNat 0)),(.str 0 0),(.int 0 (.ofNat 0)),(.int 0 (.ofNat 0))] λv14 dZ=>bT (Nat.beq dZ.n (Nat.succ H4.n)) (ah 4 v14 v13 dZ λeE=>x1 a0 a1 v1 z6 v14 eE))))))
theorem Wm{R:ft}(hR:mM R){K:KF}{x1:qK}(h1:K0 K x1)(a0:AV)(a1:Int)(H:AH)(h:Dl R K x1 a0 a1 H):dQ 82 K [] (bz (dy 82) [a0,(.int 0 a1)]) [] H:=pk hR (cc h1 .nil) h
def alg(R:ft)(K:KF):dU:=Dl R K (Lb R K)
def RC(R:ft):AV→Int→AH→KF→Prop:=λa0 a1 H K=>alg R K a0 a1 H
theorem aiF(R:ft)(hR:mM R):aw gPa 82 (ao [.a,.i 0] (RC R)):=rk λK a0 a1 H h=>Wm hR (Wl hR) a0 a1 H h
abbrev cZ:Type:=(AV→AH→KF→Prop)×(AV→AV→AH→KF→Prop)×(AV→AV→AH→KF→Prop)×(AV→Int→AH→KF→Prop)×(AV→AH→KF→Prop)×(AV→AV→AH→KF→Prop)×(AV→Int→Int→AH→KF→Prop)
def alh(R:cZ):List (Nat×cY):=[(39,ao [.a] R.1),(40,ao [.a,.a] R.2.1),(41,ao [.a,.a] R.2.2.1),(42,ao [.a,.i 0] R.2.2.2.1),(57,ao [.a] R.2.2.2.2.1),(59,ao [.a,.a] R.2.2.2.2.2.1),(76,ao [.a,.i 0,.i 0] R.2.2.2.2.2.2)]
abbrev iE(R:cZ):Prop:=af gPa (alh R)
abbrev Dm(K:KF)(F:gy):Prop:=aR 85 K [1,1,1,1] 123 [0,6,7] [.a,.a,.a] F
abbrev jY(K:KF)(F:dq):Prop:=aR 85 K [0,0,1,1,1] 123 [0,2,6,7,8] [.a,.i 0,.a,.a,.i 0] F
abbrev Lc(K:KF)(F:dq):Prop:=aR 85 K [1,0,1,0,0,0,1,1,1] 123 [0,2,6,7,8] [.a,.i 0,.a,.a,.i 0] F
abbrev vH(K:KF)(F:bH):Prop:=aR 85 K [1,1,1,0,1,0,0,0,1,1,1] 123 [0,2,6,7,8,9] [.a,.i 0,.a,.a,.i 0,.a] F
abbrev Ld(K:KF)(F:dq):Prop:=aR 85 K [1,1,1,1,1,0,1,0,0,0,1,1,1] 123 [0,2,6,7,8] [.a,.i 0,.a,.a,.i 0] F
abbrev Le(K:KF)(F:bH):Prop:=aR 85 K [1,0,1,1,1,0,0,1,1,0,1,0,0,0,1,1,1] 123 [0,2,6,7,8,9] [.a,.i 0,.a,.a,.i 0,.a] F
abbrev Lf(K:KF)(F:bH):Prop:=aR 85 K [0,1,1,1,1,1,0,0,1,1,0,1,0,0,0,1,1,1] 123 [0,2,6,7,8,9] [.a,.i 0,.a,.a,.i 0,.a] F
abbrev Lg(K:KF)(F:bH):Prop:=aR 85 K [1,1,1,1,1,1,0,0,1,1,0,1,0,0,0,1,1,1] 123 [0,2,6,7,8,9] [.a,.i 0,.a,.a,.i 0,.a] F
abbrev Lh(K:KF)(F:bH):Prop:=aR 85 K [1,0,1,1,1,1,1,0,0,1,1,0,1,0,0,0,1,1,1] 123 [0,2,6,7,8,9] [.a,.i 0,.a,.a,.i 0,.a] F
abbrev GX(K:KF)(F:bH):Prop:=aR 85 K [1,1,1,1,1,1,1,0,0,1,1,0,1,0,0,0,1,1,1] 123 [0,2,6,7,8,9] [.a,.i 0,.a,.a,.i 0,.a] F
def Dp(R:cZ)(K:KF)(a0 a6 a7:AV)(H:AH):Prop:=R.2.2.2.2.2.1 a0 (.str 1 125) H λo1 H2=>cR K o1 H2 λv3=>aQ 7 a7 H2 λv4=>ah 7 a6 v4 H2 λH5=>aQ 7 a6 H5 λv6=>K (.ret v6) H5
theorem Wn{R:cZ}(hR:iE R){K:KF}:Dm K (Dp R K):=λa0 a6 a7 H h=>pk hR .nil h
def vI(R:cZ)(K:KF):gy:=Dp R K
theorem HO{R:cZ}(hR:iE R){K:KF}:Dm K (vI R K):=Wn hR
def Dq(R:cZ)(K:KF)(x2:dq)(x1:gy)(a0:AV)(a2:Int)(a6 a7:AV)(a8:Int)(H:AH):Prop:=R.2.1 a0 (.str 1 44) H λo1 H2=>cR K o1 H2 λv3=>bY v3 λz4=>bI (!z4) (R.2.1 a0 (.str 1 59) H2 λo5 H6=>cR K o5 H6 λv7=>bY v7 λz8=>bI (!z8) (x1 a0 a6 a7 H6) (x2 a0 a2 a6 a7 a8 H6)) (x2 a0 a2 a6 a7 a8 H2)
theorem Wo{R:cZ}(hR:iE R){K:KF}{x2:dq}{x1:gy}(h2:jY K x2)(h1:Dm K x1):Ld K (Dq R K x2 x1):=λa0 a2 a6 a7 a8 H h=>pk hR (cc h2 (cc h1 .nil)) h
def Dr(R:cZ)(K:KF)(i2:dq):dq:=Dq R K i2 (vI R K)
theorem Wp{R:cZ}(hR:iE R){K:KF}{i2:dq}(g2:jY K i2):Ld K (Dr R K i2):=Wo hR g2 (HO hR)
def Ds(R:cZ)(K:KF)(x5:dq)(a0:AV)(a2:Int)(a6 a7:AV)(a8:Int)(a9:AV)(H:AH):Prop:=R.2.2.2.1 a0 a2 H λo1 H2=>cR K o1 H2 λv3=>eI H2 (eX gPa (aE H2) 41 λv4 H5=>ah 7 v4 v3 H5 λH6=>ag 5 a7 λv7=>ad v7 H6 λv8=>aQ 7 a9 H6 λv9=>aQ 7 v4 H6 λv10=>onVal v9 λHN=>gK HN 7 (onVal v10 λl12=>gK l12 7 (aT (aE H6) 2 7 (spl l12 (spl HN [(.int 0 (.ofNat 0)),(.int 0 (.ofNat 0)),(.int 0 (.ofNat 0)),(.str 0 0),(.int 0 (.ofNat 0)),.ab,.ab,(.int 0 (.ofNat 0)),(.int 0 (.ofNat 0)),(.int 0 (.ofNat 0)),(.str 0 0),(.int 0 (.ofNat 0)),.ab,.ab] 0) 7) λv13 dk=>cO 7 96 v8 v13 dk λv15 eE=>ag 5 a7 λv17=>ah 1 v17 v15 eE λiz=>x5 a0 a2 a6 a7 a8 iz)))
theorem Wq{R:cZ}(hR:iE R){K:KF}{x5:dq}(h5:Ld K x5):vH K (Ds R K x5):=λa0 a2 a6 a7 a8 a9 H h=>pk hR (cc h5 .nil) h
def og(R:cZ)(K:KF)(i2:dq):bH:=Ds R K (Dr R K i2)
theorem tU{R:cZ}(hR:iE R){K:KF}{i2:dq}(g2:jY K i2):vH K (og R K i2):=Wq hR (Wp hR g2)
def Dt(R:cZ)(K:KF)(x4:bH)(a0:AV)(a2:Int)(a6 a7:AV)(a8:Int)(a9:AV)(H:AH):Prop:=R.2.2.2.2.1 a0 H λo1 H2=>cR K o1 H2 λv3=>ag 3 a9 λv4=>ah 1 v4 v3 H2 λH5=>R.2.2.2.2.2.1 a0 (.str 1 61) H5 λo6 H7=>cR K o6 H7 λv8=>x4 a0 a2 a6 a7 a8 a9 H7
theorem Wr{R:cZ}(hR:iE R){K:KF}{x4:bH}(h4:vH K x4):Lh K (Dt R K x4):=λa0 a2 a6 a7 a8 a9 H h=>pk hR (cc h4 .nil) h
def Li(R:cZ)(K:KF)(i2:dq):bH:=Dt R K (og R K i2)
theorem Ws{R:cZ}(hR:iE R){K:KF}{i2:dq}(g2:jY K i2):Lh K (Li R K i2):=Wr hR (tU hR g2)
def Du(R:cZ)(K:KF)(x9:bH)(a0:AV)(a2:Int)(a6 a7:AV)(a8:Int)(a9:AV)(H:AH):Prop:=ag 0 a9 λv1=>ah 1 v1 (.int 0 (.ofNat 5)) H λH2=>x9 a0 a2 a6 a7 a8 a9 H2
theorem Wt{R:cZ}(hR:iE R){K:KF}{x9:bH}(h9:Lh K x9):Lf K (Du R K x9):=λa0 a2 a6 a7 a8 a9 H h=>pk hR (cc h9 .nil) h
def Lj(R:cZ)(K:KF)(i2:dq):bH:=Du R K (Li R K i2)
theorem Wu{R:cZ}(hR:iE R){K:KF}{i2:dq}(g2:jY K i2):Lf K (Lj R K i2):=Wt hR (Ws hR g2)
def Dv(R:cZ)(K:KF)(x4:bH)(a0:AV)(a2:Int)(a6 a7:AV)(a8:Int)(a9:AV)(H:AH):Prop:=R.2.2.2.2.2.1 a0 (.str 1 93) H λo1 H2=>cR K o1 H2 λv3=>R.2.2.2.2.2.1 a0 (.str 1 61) H2 λo4 H5=>cR K o4 H5 λv6=>x4 a0 a2 a6 a7 a8 a9 H5
theorem Wv{R:cZ}(hR:iE R){K:KF}{x4:bH}(h4:vH K x4):Le K (Dv R K x4):=λa0 a2 a6 a7 a8 a9 H h=>pk hR (cc h4 .nil) h
def Lk(R:cZ)(K:KF)(i2:dq):bH:=Dv R K (og R K i2)
theorem Ww{R:cZ}(hR:iE R){K:KF}{i2:dq}(g2:jY K i2):Le K (Lk R K i2):=Wv hR (tU hR g2)
def zN(R:cZ)(K:KF)(x4:bH)(a0:AV)(a2:Int)(a6 a7:AV)(a8:Int)(a9:AV)(H:AH):Prop:=ag 0 a9 λv1=>ah 1 v1 (.int 0 (.ofNat 4)) H λH2=>ag 2 a9 λv3=>ah 1 v3 (.int 0 a8) H2 λH4=>x4 a0 a2 a6 a7 a8 a9 H4
theorem RD{R:cZ}(hR:iE R){K:KF}{x4:bH}(h4:vH K x4):GX K (zN R K x4):=λa0 a2 a6 a7 a8 a9 H h=>pk hR (cc h4 .nil) h
def GY(R:cZ)(K:KF)(i2:dq):bH:=zN R K (og R K i2)
theorem RG{R:cZ}(hR:iE R){K:KF}{i2:dq}(g2:jY K i2):GX K (GY R K i2):=RD hR (tU hR g2)
def Dw(R:cZ)(K:KF)(x10:bH)(a0:AV)(a2:Int)(a6 a7:AV)(a8:Int)(a9:AV)(H:AH):Prop:=aC 0 (Int.add a8 (.ofNat 1)) λz1=>x10 a0 a2 a6 a7 z1 a9 H
theorem Wx{R:cZ}(hR:iE R){K:KF}{x10:bH}(h10:GX K x10):Lg K (Dw R K x10):=λa0 a2 a6 a7 a8 a9 H h=>pk hR (cc h10 .nil) h
def Dx(R:cZ)(K:KF)(i2:dq):bH:=Dw R K (GY R K i2)
theorem Wy{R:cZ}(hR:iE R){K:KF}{i2:dq}(g2:jY K i2):Lg K (Dx R K i2):=Wx hR (RG hR g2)
def Dy(R:cZ)(K:KF)(x7 x6 x4 x8:bH)(a0:AV)(a2:Int)(a6 a7:AV)(a8:Int)(H:AH):Prop:=R.1 a0 H λo1 H2=>cR K o1 H2 λv3=>cI 0 v3 λz4=>eI H2 (eX gPa (aE H2) 41 λv5 H6=>ah 7 v5 (.agg [(.int 0 (.ofNat 0)),(.int 0 z4),(.int 0 (.ofNat 0)),(.str 0 0),(.int 0 (.ofNat 1)),.ab,.ab]) H6 λH7=>au a0 (ag 2 a0 λv8=>ad v8 H7 λv9=>cI 0 v9 λz10=>bI (!(bA z10 (.ofNat 0))) (x4 a0 a2 a6 a7 a8 v5 H7) (R.2.1 a0 (.str 1 91) H7 λkM bQ=>cR K kM bQ λv13=>bY v13 λoe=>bI oe (R.2.2.2.1 a0 a2 bQ λDe eE=>cR K De eE λv17=>ah 7 v5 v17 eE λiz=>x6 a0 a2 a6 a7 a8 v5 iz) (au a0 (ag 0 a0 λv19=>ad v19 bQ λv20=>au a0 (ag 1 a0 λv21=>ad v21 bQ λv22=>cI 0 v22 λz23=>bb 4 v20 (.int 0 z23) λv24=>ag 0 v24 λv25=>ad v25 bQ λv26=>cI 0 v26 λz27=>bI (bA z27 (.ofNat 2)) (au a0 (ag 0 a0 λv28=>ad v28 bQ λv29=>au a0 (ag 1 a0 λv30=>ad v30 bQ λv31=>cI 0 v31 λz32=>aC 0 (Int.add z32 (.ofNat 1)) λz33=>bb 4 v29 (.int 0 z33) λv34=>ag 0 v34 λv35=>ad v35 bQ λv36=>cI 0 v36 λz37=>bI (bA z37 (.ofNat 5)) (au a0 (ag 0 a0 λv38=>ad v38 bQ λv39=>au a0 (ag 1 a0 λv40=>ad v40 bQ λv41=>cI 0 v41 λz42=>aC 0 (Int.add z42 (.ofNat 1)) λz43=>bb 4 v39 (.int 0 z43) λv44=>ag 1 v44 λv45=>ad v45 bQ λv46=>uZ v46 (.str 1 61) λv47=>bY v47 λz48=>bI z48 (x7 a0 a2 a6 a7 a8 v5 bQ) (x8 a0 a2 a6 a7 a8 v5 bQ)))) (x8 a0 a2 a6 a7 a8 v5 bQ)))) (x8 a0 a2 a6 a7 a8 v5 bQ)))))))
theorem Wz{R:cZ}(hR:iE R){K:KF}{x7 x6 x4 x8:bH}(h7:Lf K x7)(h6:Le K x6)(h4:vH K x4)(h8:Lg K x8):Lc K (Dy R K x7 x6 x4 x8):=λa0 a2 a6 a7 a8 H h=>pk hR (cc h7 (cc h6 (cc h4 (cc h8 .nil)))) h
def Dz(R:cZ)(K:KF)(i2:dq):dq:=Dy R K (Lj R K i2) (Lk R K i2) (og R K i2) (Dx R K i2)
theorem WA{R:cZ}(hR:iE R){K:KF}{i2:dq}(g2:jY K i2):Lc K (Dz R K i2):=Wz hR (Wu hR g2) (Ww hR g2) (tU hR g2) (Wy hR g2)
def DA(R:cZ)(K:KF)(x3:dq)(x1:gy)(a0:AV)(a2:Int)(a6 a7:AV)(a8:Int)(H:AH):Prop:=au a0 (ag 2 a0 λv1=>ad v1 H λv2=>cI 0 v2 λz3=>bI (bA z3 (.ofNat 0)) (R.2.2.1 a0 (.str 1 125) H λo4 H5=>cR K o4 H5 λv6=>bY v6 λz7=>bI (!z7) (ag 5 a7 λv8=>ad v8 H5 λv9=>bO v9 λv10=>cI 0 v10 λz11=>bI (bA (.ofNat 2) 0) False (aC 0 (Int.tdiv z11 (.ofNat 2)) λz12=>R.2.2.2.2.2.2 a0 z12 (.ofNat 64) H5 λlI dk=>cR K lI dk λv15=>x3 a0 a2 a6 a7 a8 dk)) (x1 a0 a6 a7 H5)) (x1 a0 a6 a7 H))
theorem WB{R:cZ}(hR:iE R){K:KF}{x3:dq}{x1:gy}(h3:Lc K x3)(h1:Dm K x1):jY K (DA R K x3 x1):=λa0 a2 a6 a7 a8 H h=>pk hR (cc h3 (cc h1 .nil)) h
def Ll(R:cZ)(K:KF)(i2:dq):dq:=DA R K (Dz R K i2) (vI R K)
theorem WC{R:cZ}(hR:iE R){K:KF}{i2:dq}(g2:jY K i2):jY K (Ll R K i2):=WB hR (WA hR g2) (HO hR)
def DB(R:cZ)(K:KF)(n:Nat):dq:=Nat.rec (motive:=λ_=>dq) (λ_ _ _ _ _ _=>False) (λ_ i=>Ll R K i) n
theorem WD{R:cZ}(hR:iE R){K:KF}(n:Nat):jY K (DB R K n):=Nat.rec (motive:=λn=>jY K (DB R K n)) (λa0 a2 a6 a7 a8 H h=>h.elim) (λn ih=>WC hR ih) n
def Lm(R:cZ)(K:KF)(x2:dq)(a0:AV)(a1 a2:Int)(H:AH):Prop:=eI H (eX gPa (aE H) 41 λv1 H2=>eI H2 (eX gPa (aE H2) 41 λv3 H4=>ah 7 v3 (.agg [(.int 0 (.ofNat 8)),(.int 0 a1),(.int 0 (.ofNat 0)),(.str 0 0),(.int 0 (.ofNat 0)),.ab,.ab]) H4 λH5=>x2 a0 a2 v1 v3 (.ofNat 0) H5))
theorem WE{R:cZ}(hR:iE R){K:KF}{x2:dq}(h2:jY K x2)(a0:AV)(a1 a2:Int)(H:AH)(h:Lm R K x2 a0 a1 a2 H):dQ 85 K [] (bz (dy 85) [a0,(.int 0 a1),(.int 0 a2)]) [] H:=pk hR (cc h2 .nil) h
def WG(R:cZ)(K:KF):hO:=Lm R K (DB R K NL)
def DC(R:cZ):AV→Int→Int→AH→KF→Prop:=λa0 a1 a2 H K=>WG R K a0 a1 a2 H
theorem aiG(R:cZ)(hR:iE R):aw gPa 85 (ao [.a,.i 0,.i 0] (DC R)):=rk λK a0 a1 a2 H h=>WE hR (WD hR NL) a0 a1 a2 H h
abbrev rA:Type:=(AV→Int→AH→KF→Prop)×(AV→Int→AH→KF→Prop)×(AV→AV→Int→AH→KF→Prop)×(AV→Int→Int→AH→KF→Prop)×(AV→Int→AH→KF→Prop)×(AV→AV→Int→AH→KF→Prop)×(AV→Int→AH→KF→Prop)×(AV→Int→AH→KF→Prop)×(AV→Int→AH→KF→Prop)×(AV→Int→Int→AH→KF→Prop)
def cQ(S:rA):fc:=(f18,f37,f38,f39,f40,f41,S.2.1,S.2.2.1)
def vJ(S:rA):tT:=(f37,S.2.2.2.1)
def bf(S:rA):bF:=(S.1,f18,f39,f40,f41,S.2.1,f57,S.2.2.2.2.1,f59,S.2.2.2.2.2.1)
def eF(S:rA):dF:=(f39,f41,S.2.2.2.1,S.2.2.2.2.2.2.1,S.2.2.2.2.2.2.2.1)
def fS(S:rA):gO:=(S.1,f40,f57,f59,f76)
def dz(S:rA):df:=(f39,f40,S.2.1,f57,f59,f76)
def nj(S:rA):oy:=(f37,f39,f40,S.2.2.2.1,S.2.2.2.2.2.2.1)
def nk(S:rA):oz:=(f37,f39,f40,S.2.2.2.2.2.2.2.1,S.2.2.2.2.2.2.2.2.1)
def fT(S:rA):ft:=(f18,f39,f40,S.2.1,S.2.2.2.2.1,f59,S.2.2.2.2.2.1,S.2.2.2.2.2.2.2.2.2)
def cU(S:rA):cZ:=(f39,f40,f41,S.2.1,f57,f59,f76)
noncomputable def s10(n:Nat):rA:=Nat.rec (motive:=λ_=>rA) (λ_ _ _ _=>False,λ_ _ _ _=>False,λ_ _ _ _ _=>False,λ_ _ _ _ _=>False,λ_ _ _ _=>False,λ_ _ _ _ _=>False,λ_ _ _ _=>False,λ_ _ _ _=>False,λ_ _ _ _=>False,λ_ _ _ _ _=>False) (λ_ S=>(Cl (cQ S),Rh (vJ S),Cz (bf S),CM (eF S),CU (fS S),Db (dz S),RA (nj S),RB (nk S),RC (fT S),DC (cU S))) n
theorem ali(n:Nat):aw gPa 17 (ao [.a,.i 0] (s10 n).1)∧aw gPa 42 (ao [.a,.i 0] (s10 n).2.1)∧aw gPa 43 (ao [.a,.a,.i 0] (s10 n).2.2.1)∧aw gPa 56 (ao [.a,.i 0,.i 0] (s10 n).2.2.2.1)∧aw gPa 58 (ao [.a,.i 0] (s10 n).2.2.2.2.1)∧aw gPa 60 (ao [.a,.a,.i 0] (s10 n).2.2.2.2.2.1)∧aw gPa 74 (ao [.a,.i 0] (s10 n).2.2.2.2.2.2.1)∧aw gPa 75 (ao [.a,.i 0] (s10 n).2.2.2.2.2.2.2.1)∧aw gPa 82 (ao [.a,.i 0] (s10 n).2.2.2.2.2.2.2.2.1)∧aw gPa 85 (ao [.a,.i 0,.i 0] (s10 n).2.2.2.2.2.2.2.2.2):=by
 induction n with
 |zero=>exact⟨gS [.a,.i 0],gS [.a,.i 0],gS [.a,.a,.i 0],gS [.a,.i 0,.i 0],gS [.a,.i 0],gS [.a,.a,.i 0],gS [.a,.i 0],gS [.a,.i 0],gS [.a,.i 0],gS [.a,.i 0,.i 0]⟩
 |succ n ih=>exact⟨aix (cQ (s10 n)) (af.cons qM (af.cons BS (af.cons akQ (af.cons qO (af.cons px (af.cons vx (af.cons (ih.2.1) (af.cons (ih.2.2.1) af.nil)))))))),aiy (vJ (s10 n)) (af.cons BS (af.cons (ih.2.2.2.1) af.nil)),aiz (bf (s10 n)) (af.cons (ih.1) (af.cons qM (af.cons qO (af.cons px (af.cons vx (af.cons (ih.2.1) (af.cons B7 (af.cons (ih.2.2.2.2.1) (af.cons yw (af.cons (ih.2.2.2.2.2.1) af.nil)))))))))),aiA (eF (s10 n)) (af.cons qO (af.cons vx (af.cons (ih.2.2.2.1) (af.cons (ih.2.2.2.2.2.2.1) (af.cons (ih.2.2.2.2.2.2.2.1) af.nil))))),aiB (fS (s10 n)) (af.cons (ih.1) (af.cons px (af.cons B7 (af.cons yw (af.cons J1 af.nil))))),aiC (dz (s10 n)) (af.cons qO (af.cons px (af.cons (ih.2.1) (af.cons B7 (af.cons yw (af.cons J1 af.nil)))))),aiD (nj (s10 n)) (af.cons BS (af.cons qO (af.cons px (af.cons (ih.2.2.2.1) (af.cons (ih.2.2.2.2.2.2.1) af.nil))))),aiE (nk (s10 n)) (af.cons BS (af.cons qO (af.cons px (af.cons (ih.2.2.2.2.2.2.2.1) (af.cons (ih.2.2.2.2.2.2.2.2.1) af.nil))))),aiF (fT (s10 n)) (af.cons qM (af.cons qO (af.cons px (af.cons (ih.2.1) (af.cons (ih.2.2.2.2.1) (af.cons yw (af.cons (ih.2.2.2.2.2.1) (af.cons (ih.2.2.2.2.2.2.2.2.2) af.nil)))))))),aiG (cU (s10 n)) (af.cons qO (af.cons px (af.cons vx (af.cons (ih.2.1) (af.cons B7 (af.cons yw (af.cons J1 af.nil)))))))⟩
def f17:AV→Int→AH→KF→Prop:=(s10 NL).1
theorem alj:aw gPa 17 (ao [.a,.i 0] f17):=(ali NL).1
abbrev pA:Type:=(AV→AH→KF→Prop)×(AV→Int→AH→KF→Prop)×(AV→Int→AH→KF→Prop)
def apy(R:pA):List (Nat×cY):=[(16,ao [.a] R.1),(17,ao [.a,.i 0] R.2.1),(18,ao [.a,.i 0] R.2.2)]
abbrev RH(R:pA):Prop:=af gPa (apy R)
abbrev RI(K:KF)(F:cN):Prop:=aR 7 K [1,1,1,1,1,1] 60 [8,9] [.a,.a] F
def Iz(R:pA)(K:KF)(a8 a9:AV)(H:AH):Prop:=au a8 (ag 2 a8 λv1=>ad v1 H λv2=>cI 0 v2 λz3=>bI (!(bA z3 (.ofNat 0))) (au a8 (ag 2 a8 λv4=>ad v4 H λv5=>cI 0 v5 λz6=>au a8 (ag 3 a8 λv7=>ad v7 H λv8=>cI 0 v8 λz9=>K (.ret (.aP [.ab,(.int 0 z6),(.int 0 z9)])) H))) (K (.ret (.aP [a9,(.int 0 (.ofNat 0)),(.int 0 (.ofNat 0))])) H))
theorem afK{R:pA}(hR:RH R){K:KF}:RI K (Iz R K):=λa8 a9 H h=>pk hR .nil h
def RJ(R:pA)(K:KF):cN:=Iz R K
theorem afL{R:pA}(hR:RH R){K:KF}:RI K (RJ R K):=afK hR
def RK(R:pA)(K:KF)(x1:cN)(a0:AV)(H:AH):Prop:=R.1 a0 H λo1 H2=>cR K o1 H2 λv3=>eU v3 λl4=>fh l4 0 λv5=>eU v3 λl6=>fh l6 1 λv7=>cI 0 v7 λz8=>eU v3 λl9=>fh l9 2 λv10=>cI 0 v10 λz11=>bI (!(bA z8 (.ofNat 0))) (K (.ret (.aP [.ab,(.int 0 z8),(.int 0 z11)])) H2) (one v5 (hN (aE H2) [v5,(.int 0 (.ofNat 0)),(.int 0 (.ofNat 0)),(.int 0 (.ofNat 0))] λv12 fH=>R.2.1 v12 (.ofNat 0) fH λyF dZ=>cR K yF dZ λv16=>au v12 (ag 2 v12 λv17=>ad v17 dZ λv18=>cI 0 v18 λvD=>bI (bA vD (.ofNat 0)) (au v12 (ag 0 v12 λv20=>ad v20 dZ λv21=>au v12 (ag 1 v12 λv22=>ad v22 dZ λv23=>cI 0 v23 λz24=>bb 4 v21 (.int 0 z24) λv25=>ag 0 v25 λv26=>ad v26 dZ λv27=>cI 0 v27 λz28=>bI (!(bA z28 (.ofNat 0))) (R.2.2 v12 (.ofNat 14) dZ λVV xM=>cR K VV xM λv31=>x1 v12 v16 xM) (x1 v12 v16 dZ)))) (x1 v12 v16 dZ))))
theorem afM{R:pA}(hR:RH R){K:KF}{x1:cN}(h1:RI K x1)(a0:AV)(H:AH)(h:RK R K x1 a0 H):dQ 7 K [] (bz (dy 7) [a0]) [] H:=pk hR (cc h1 .nil) h
def agS(R:pA)(K:KF):Ta:=RK R K (RJ R K)
def RL(R:pA):AV→AH→KF→Prop:=λa0 H K=>agS R K a0 H
theorem alk(R:pA)(hR:RH R):aw gPa 7 (ao [.a] (RL R)):=rk λK a0 H h=>afM hR (afL hR) a0 H h
end Go.Proofs.YtcedghechlgecaaDoor.G
