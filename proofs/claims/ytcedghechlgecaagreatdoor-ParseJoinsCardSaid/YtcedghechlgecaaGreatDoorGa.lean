/- The functions of the parsers, cut into pieces by program, and that they are carried out as in the model (names shortened). No condition: definitions and lemmas. -/
import Derived.Test.YtcedghechlgecaaGreatDoorYa
import Derived.Test.YtcedghechlgecaaGreatDoorChecked
set_option maxRecDepth 100000
set_option maxHeartbeats 0
set_option linter.unusedVariables false
set_option linter.unusedSimpArgs false
namespace Go.Proofs.YtcedghechlgecaaGreatDoor.G
open Go Go.X
noncomputable abbrev gP:Program:=Tryz.prog
abbrev NL:Nat:=1000000
theorem mix:gP.follows .mixedOrders=true:=by kernel_rfl
noncomputable def dt(n:Nat):Func:=(gP.funcs[n]?).getD default
noncomputable def gBd(n:Nat):Code:=(dt n).body.getD .skip
abbrev dD(n:Nat)(K:KF):List Nat→xf:=xg gP (gBd n) (OC gP Ig (dt n) K)
abbrev bq(n:Nat)(K:KF)(p:List Nat)(m:Nat)(s:List Nat)(t:List Ty)(F:qB (AH→Prop) t):Prop:=ZY gP (gBd n) (OC gP Ig (dt n) K) p m s t F
theorem pk{ct:List (Nat×cW)}(hR:ad gP ct){b:Code}{Q:KT}{t:xi}{p:List Nat}{env:List AV}{H:AH}(ht:lK gP b Q t){A:Prop}(h:A)(e:A=Ia (eO ct) (Gy gP (eO ct)) gP gP.globals.size b (zU t) Q 400 p env [] H:=by kernel_rfl):xg gP b Q p env [] H:=
 TI (sb hR) (HY mix _ (sb hR)) ht (Eq.mp e h)
theorem cc{b:Code}{Q:KT}{p:List Nat}{n:Nat}{s:List Nat}{l:List Ty}{F:qB (AH→Prop) l}{t:xi}(h:ZY gP b Q p n s l F)(ht:lK gP b Q t):lK gP b Q ((p,afe n s l F)::t):=lK.cons (aff h) ht
theorem rk{g:Nat}{l:List Ty}{F:qB (AH→KF→Prop) l}(h:∀K,oc l F λr a=>∀H,r H K→dD g K [] (bz (dt g) a) [] H)(hf:gP.funcs[g]? = some (dt g):=by kernel_rfl)(hc:(dt g).body=some (gBd g):=by kernel_rfl):az gP g (ao l F):=az.acH hf hc h
abbrev T_:Type:=AH→Prop
abbrev Ta:Type:=AV→AH→Prop
abbrev bA:Type:=AV→AV→AH→Prop
abbrev bN:Type:=AV→AV→AV→AH→Prop
abbrev gT:Type:=AV→AV→AV→AV→AH→Prop
abbrev aJ:Type:=AV→AV→AV→Int→AH→Prop
abbrev Bi:Type:=AV→AV→AV→Int→AV→AH→Prop
abbrev og:Type:=AV→AV→Bool→AH→Prop
abbrev jf:Type:=AV→AV→Int→AH→Prop
abbrev bZ:Type:=AV→AV→Int→Int→AH→Prop
abbrev oh:Type:=AV→Int→AH→Prop
abbrev aiB:Type:=AV→Int→AV→AH→Prop
abbrev pM:Type:=AV→Int→AV→AV→AH→Prop
abbrev kr:Type:=AV→Int→AV→AV→Bool→AH→Prop
abbrev mP:Type:=AV→Int→AV→Int→Int→AH→Prop
abbrev DF:Type:=AV→Int→Int→AH→Prop
abbrev afl:Type:=Int→Int→Int→AV→AV→AH→Prop
abbrev tw:Type:=Unit
def afm(R:tw):List (Nat×cW):=[]
abbrev abq(R:tw):Prop:=ad gP (afm R)
def uH(R:tw)(K:KF)(a0:AV)(H:AH):Prop:=cD H (fV (aP H) [(.int 0 (.ofNat 0)),(.str 0 0),(.int 0 (.ofNat 0)),(.int 0 (.ofNat 0))] λv1 H2=>cK a0 (aL 0 a0 λv3=>aC v3 H2 λv4=>cK a0 (aL 1 a0 λv5=>aC v5 H2 λv6=>cI 0 v6 λz7=>dj 4 v4 (.int 0 z7) λv8=>aQ 4 v8 H2 λv9=>ag 4 v1 v9 H2 λbM=>aQ 4 v1 bM λv11=>K (.ret v11) bM)))
theorem TT{R:tw}(hR:abq R){K:KF}(a0:AV)(H:AH)(h:uH R K a0 H):dD 23 K [] (bz (dt 23) [a0]) [] H:=pk hR .nil h
def afn(R:tw)(K:KF):Ta:=uH R K
def abr(R:tw):AV→AH→KF→Prop:=λa0 H K=>afn R K a0 H
theorem acO(R:tw)(hR:abq R):az gP 23 (ao [.a] (abr R)):=rk λK a0 H h=>TT hR a0 H h
def Bj:tw:=()
def f23:AV→AH→KF→Prop:=abr Bj
theorem jE:az gP 23 (ao [.a] f23):=acO Bj ad.nil
abbrev tx:Type:=Unit
def afo(R:tx):List (Nat×cW):=[]
abbrev abt(R:tx):Prop:=ad gP (afo R)
def Bk(R:tx)(K:KF)(a0:AV)(a1:Int)(H:AH):Prop:=cK a0 (aL 3 a0 λv1=>ag 1 v1 (.int 0 a1) H λH2=>Dy (.iface 57 (.agg [])) (K (.cZ (.iface 57 (.agg []))) H2))
theorem TU{R:tx}(hR:abt R){K:KF}(a0:AV)(a1:Int)(H:AH)(h:Bk R K a0 a1 H):dD 25 K [] (bz (dt 25) [a0,(.int 0 a1)]) [] H:=pk hR .nil h
def afp(R:tx)(K:KF):oh:=Bk R K
def abu(R:tx):AV→Int→AH→KF→Prop:=λa0 a1 H K=>afp R K a0 a1 H
theorem acP(R:tx)(hR:abt R):az gP 25 (ao [.a,.i 0] (abu R)):=rk λK a0 a1 H h=>TU hR a0 a1 H h
def Iq:tx:=()
def f25:AV→Int→AH→KF→Prop:=abu Iq
theorem mQ:az gP 25 (ao [.a,.i 0] f25):=acP Iq ad.nil
abbrev tz:Type:=(AV→Int→AH→KF→Prop)
def afq(R:tz):List (Nat×cW):=[(25,ao [.a,.i 0] R)]
abbrev abv(R:tz):Prop:=ad gP (afq R)
def Bl(R:tz)(K:KF)(a0:AV)(H:AH):Prop:=cK a0 (aL 2 a0 λv1=>aC v1 H λv2=>cI 0 v2 λz3=>bg 0 (Int.add z3 (.ofNat 1)) λz4=>cK a0 (aL 2 a0 λv5=>ag 1 v5 (.int 0 z4) H λH6=>cK a0 (aL 2 a0 λv7=>aC v7 H6 λv8=>cI 0 v8 λz9=>bI (cE (.ofNat 100) z9) (R a0 (.ofNat 8) H6 λuI fD=>cR K uI fD λv12=>K (.ret (.bD [])) fD) (K (.ret (.bD [])) H6))))
theorem TV{R:tz}(hR:abv R){K:KF}(a0:AV)(H:AH)(h:Bl R K a0 H):dD 53 K [] (bz (dt 53) [a0]) [] H:=pk hR .nil h
def afr(R:tz)(K:KF):Ta:=Bl R K
def abw(R:tz):AV→AH→KF→Prop:=λa0 H K=>afr R K a0 H
theorem acQ(R:tz)(hR:abv R):az gP 53 (ao [.a] (abw R)):=rk λK a0 H h=>TV hR a0 H h
def Bm:tz:=(f25)
def f53:AV→AH→KF→Prop:=abw Bm
theorem Bn:az gP 53 (ao [.a] f53):=acQ Bm (ad.cons mQ ad.nil)
abbrev tA:Type:=(AV→AH→KF→Prop)
def afs(R:tA):List (Nat×cW):=[(23,ao [.a] R)]
abbrev abx(R:tA):Prop:=ad gP (afs R)
def Bo(R:tA)(K:KF)(a0 a1:AV)(H:AH):Prop:=R a0 H λo1 H2=>cR K o1 H2 λv3=>cD H2 (fV (aP H2) [(.int 0 (.ofNat 0)),(.str 0 0),(.int 0 (.ofNat 0)),(.int 0 (.ofNat 0))] λv4 H5=>ag 4 v4 v3 H5 λH6=>aL 0 v4 λv7=>aC v7 H6 λv8=>cI 0 v8 λz9=>bI (bX z9 (.ofNat 1)) (aL 1 v4 λv10=>aC v10 H6 λv11=>sW v11 a1 λv12=>bO v12 λz13=>K (.ret (.bool z13)) H6) (aL 0 v4 λv14=>aC v14 H6 λv15=>cI 0 v15 λlO=>bI (bX lO (.ofNat 5)) (aL 1 v4 λv17=>aC v17 H6 λv18=>sW v18 a1 λv19=>bO v19 λz20=>K (.ret (.bool z20)) H6) (K (.ret (.bool false)) H6)))
theorem TW{R:tA}(hR:abx R){K:KF}(a0 a1:AV)(H:AH)(h:Bo R K a0 a1 H):dD 94 K [] (bz (dt 94) [a0,a1]) [] H:=pk hR .nil h
def aft(R:tA)(K:KF):bA:=Bo R K
def aby(R:tA):AV→AV→AH→KF→Prop:=λa0 a1 H K=>aft R K a0 a1 H
theorem acR(R:tA)(hR:abx R):az gP 94 (ao [.a,.a] (aby R)):=rk λK a0 a1 H h=>TW hR a0 a1 H h
def Bp:tA:=(f23)
def f94:AV→AV→AH→KF→Prop:=aby Bp
theorem pW:az gP 94 (ao [.a,.a] f94):=acR Bp (ad.cons jE ad.nil)
abbrev tB:Type:=(AV→AH→KF→Prop)×(AV→AV→AH→KF→Prop)
def afu(R:tB):List (Nat×cW):=[(23,ao [.a] R.1),(94,ao [.a,.a] R.2)]
abbrev abz(R:tB):Prop:=ad gP (afu R)
def Bq(R:tB)(K:KF)(a0:AV)(H:AH):Prop:=R.2 a0 (.str 3 6581861) H λo1 H2=>cR K o1 H2 λv3=>bO v3 λz4=>bI z4 (K (.ret (.bool true)) H2) (R.2 a0 (.str 4 1702063205) H2 λo5 H6=>cR K o5 H6 λv7=>bO v7 λz8=>bI z8 (K (.ret (.bool true)) H6) (R.2 a0 (.str 6 112602859662437) H6 λo9 bM=>cR K o9 bM λv11=>bO v11 λz12=>bI z12 (K (.ret (.bool true)) bM) (R.2 a0 (.str 5 465625706101) bM λkT dL=>cR K kT dL λv15=>bO v15 λlO=>bI lO (K (.ret (.bool true)) dL) (R.1 a0 dL λoi gm=>cR K oi gm λv19=>fQ v19 λTX=>cP TX 0 λv21=>cI 0 v21 λz22=>K (.ret (.bool (bX z22 (.ofNat 0)))) gm))))
theorem TY{R:tB}(hR:abz R){K:KF}(a0:AV)(H:AH)(h:Bq R K a0 H):dD 54 K [] (bz (dt 54) [a0]) [] H:=pk hR .nil h
def afv(R:tB)(K:KF):Ta:=Bq R K
def abA(R:tB):AV→AH→KF→Prop:=λa0 H K=>afv R K a0 H
theorem acS(R:tB)(hR:abz R):az gP 54 (ao [.a] (abA R)):=rk λK a0 H h=>TY hR a0 H h
def xn:tB:=(f23,f94)
def f54:AV→AH→KF→Prop:=abA xn
theorem TZ:az gP 54 (ao [.a] f54):=acS xn (ad.cons jE (ad.cons pW ad.nil))
abbrev tC:Type:=(AV→AV→AH→KF→Prop)
def afw(R:tC):List (Nat×cW):=[(94,ao [.a,.a] R)]
abbrev abB(R:tC):Prop:=ad gP (afw R)
def Br(R:tC)(K:KF)(a0 a1:AV)(H:AH):Prop:=R a0 a1 H λo1 H2=>cR K o1 H2 λv3=>bO v3 λz4=>bI (!z4) (K (.ret (.bool false)) H2) (cK a0 (aL 1 a0 λv5=>aC v5 H2 λv6=>cI 0 v6 λz7=>bg 0 (Int.add z7 (.ofNat 1)) λz8=>cK a0 (aL 1 a0 λv9=>ag 1 v9 (.int 0 z8) H2 λbM=>K (.ret (.bool true)) bM)))
theorem T0{R:tC}(hR:abB R){K:KF}(a0 a1:AV)(H:AH)(h:Br R K a0 a1 H):dD 56 K [] (bz (dt 56) [a0,a1]) [] H:=pk hR .nil h
def afx(R:tC)(K:KF):bA:=Br R K
def abC(R:tC):AV→AV→AH→KF→Prop:=λa0 a1 H K=>afx R K a0 a1 H
theorem acT(R:tC)(hR:abB R):az gP 56 (ao [.a,.a] (abC R)):=rk λK a0 a1 H h=>T0 hR a0 a1 H h
def Bs:tC:=(f94)
def f56:AV→AV→AH→KF→Prop:=abC Bs
theorem jh:az gP 56 (ao [.a,.a] f56):=acT Bs (ad.cons pW ad.nil)
abbrev pX:Type:=Unit
def acU(R:pX):List (Nat×cW):=[]
abbrev T5(R:pX):Prop:=ad gP (acU R)
def yp(R:pX)(K:KF)(a0 a1 a2:Int)(a3 a4:AV)(H:AH):Prop:=ng (aP H) a3 λv1 H2=>ng (aP H2) a4 λv3 H4=>cD H4 (dd gP (aP H4) 49 λv5 H6=>aQ 7 v1 H6 λv7=>aQ 7 v3 H6 λv8=>onVal v7 λl9=>hH l9 7 (onVal v8 λl10=>hH l10 7 (bY (aP H6) 2 7 (spl l10 (spl l9 [(.int 0 (.ofNat 0)),(.int 0 (.ofNat 0)),(.int 0 (.ofNat 0)),(.str 0 0),(.int 0 (.ofNat 0)),.ab,.ab,(.int 0 (.ofNat 0)),(.int 0 (.ofNat 0)),(.int 0 (.ofNat 0)),(.str 0 0),(.int 0 (.ofNat 0)),.ab,.ab] 0) 7) λv11 dA=>one v11 (ag 7 v5 (.agg [(.int 0 a0),(.int 0 a2),(.int 0 (.ofNat 0)),(.str 0 0),(.int 0 a1),v11,.ab]) dA λfk=>aQ 7 v5 fk λv14=>K (.ret v14) fk))))
theorem OX{R:pX}(hR:T5 R){K:KF}(a0 a1 a2:Int)(a3 a4:AV)(H:AH)(h:yp R K a0 a1 a2 a3 a4 H):dD 164 K [] (bz (dt 164) [(.int 0 a0),(.int 0 a1),(.int 0 a2),a3,a4]) [] H:=pk hR .nil h
def acV(R:pX)(K:KF):afl:=yp R K
def T6(R:pX):Int→Int→Int→AV→AV→AH→KF→Prop:=λa0 a1 a2 a3 a4 H K=>acV R K a0 a1 a2 a3 a4 H
theorem Z8(R:pX)(hR:T5 R):az gP 164 (ao [.i 0,.i 0,.i 0,.a,.a] (T6 R)):=rk λK a0 a1 a2 a3 a4 H h=>OX hR a0 a1 a2 a3 a4 H h
def DG:pX:=()
def f164:Int→Int→Int→AV→AV→AH→KF→Prop:=T6 DG
theorem oW:az gP 164 (ao [.i 0,.i 0,.i 0,.a,.a] f164):=Z8 DG ad.nil
abbrev iB:Type:=(AV→AV→AH→KF→Prop)
def acW(R:iB):List (Nat×cW):=[(56,ao [.a,.a] R)]
abbrev sg(R:iB):Prop:=ad gP (acW R)
abbrev DH(K:KF)(F:T_):Prop:=bq 193 K [1,1] 23 [] [] F
abbrev oX(K:KF)(F:mP):Prop:=bq 193 K [0,1,0,1] 23 [0,1,9,10,11] [.a,.i 0,.a,.i 0,.i 0] F
def yq(R:iB)(K:KF)(H:AH):Prop:=K (.ret (.int 0 (.ofNat 0))) H
theorem OY{R:iB}(hR:sg R){K:KF}:DH K (yq R K):=λH h=>pk hR .nil h
def Mw(R:iB)(K:KF):T_:=yq R K
theorem OZ{R:iB}(hR:sg R){K:KF}:DH K (Mw R K):=OY hR
def yr(R:iB)(K:KF)(x2:mP)(x1:T_)(a0:AV)(a1:Int)(a9:AV)(a10 a11:Int)(H:AH):Prop:=bI (cE a11 a10) (dj 1 a9 (.int 0 a11) λv1=>aC v1 H λv2=>R a0 v2 H λo3 H4=>cR K o3 H4 λv5=>bO v5 λz6=>bI z6 (bg 0 (Int.add a1 a11) λz7=>K (.ret (.int 0 z7)) H4) (bg 0 (Int.add a11 (.ofNat 1)) λz8=>x2 a0 a1 a9 a10 z8 H4)) (x1 H)
theorem O0{R:iB}(hR:sg R){K:KF}{x2:mP}{x1:T_}(h2:oX K x2)(h1:DH K x1):oX K (yr R K x2 x1):=λa0 a1 a9 a10 a11 H h=>pk hR (cc h2 (cc h1 .nil)) h
def Mx(R:iB)(K:KF)(i2:mP):mP:=yr R K i2 (Mw R K)
theorem O1{R:iB}(hR:sg R){K:KF}{i2:mP}(g2:oX K i2):oX K (Mx R K i2):=O0 hR g2 (OZ hR)
def oY(R:iB)(K:KF)(n:Nat):mP:=Nat.rec (motive:=λ_=>mP) (λ_ _ _ _ _ _=>False) (λ_ i=>Mx R K i) n
theorem O2{R:iB}(hR:sg R){K:KF}(n:Nat):oX K (oY R K n):=Nat.rec (motive:=λn=>oX K (oY R K n)) (λa0 a1 a9 a10 a11 H h=>h.elim) (λn ih=>O1 hR ih) n
def ys(R:iB)(K:KF)(x2:mP)(a0:AV)(a1:Int)(a2:AV)(H:AH):Prop:=cN a2 λv1=>cI 0 v1 λz2=>x2 a0 a1 a2 z2 (.ofNat 0) H
theorem O3{R:iB}(hR:sg R){K:KF}{x2:mP}(h2:oX K x2)(a0:AV)(a1:Int)(a2:AV)(H:AH)(h:ys R K x2 a0 a1 a2 H):dD 193 K [] (bz (dt 193) [a0,(.int 0 a1),a2]) [] H:=pk hR (cc h2 .nil) h
def acX(R:iB)(K:KF):aiB:=ys R K (oY R K NL)
def T7(R:iB):AV→Int→AV→AH→KF→Prop:=λa0 a1 a2 H K=>acX R K a0 a1 a2 H
theorem Z9(R:iB)(hR:sg R):az gP 193 (ao [.a,.i 0,.a] (T7 R)):=rk λK a0 a1 a2 H h=>O3 hR (O2 hR NL) a0 a1 a2 H h
def lv:iB:=(f56)
def f193:AV→Int→AV→AH→KF→Prop:=T7 lv
theorem DI:az gP 193 (ao [.a,.i 0,.a] f193):=Z9 lv (ad.cons jh ad.nil)
abbrev tD:Type:=(AV→Int→AH→KF→Prop)×(AV→AV→AH→KF→Prop)
def afy(R:tD):List (Nat×cW):=[(25,ao [.a,.i 0] R.1),(56,ao [.a,.a] R.2)]
abbrev abD(R:tD):Prop:=ad gP (afy R)
def Bu(R:tD)(K:KF)(a0 a1:AV)(H:AH):Prop:=R.2 a0 a1 H λo1 H2=>cR K o1 H2 λv3=>bO v3 λz4=>bI (!z4) (R.1 a0 (.ofNat 14) H2 λo5 H6=>cR K o5 H6 λv7=>K (.ret (.bD [])) H6) (K (.ret (.bD [])) H2)
theorem T8{R:tD}(hR:abD R){K:KF}(a0 a1:AV)(H:AH)(h:Bu R K a0 a1 H):dD 98 K [] (bz (dt 98) [a0,a1]) [] H:=pk hR .nil h
def afz(R:tD)(K:KF):bA:=Bu R K
def abE(R:tD):AV→AV→AH→KF→Prop:=λa0 a1 H K=>afz R K a0 a1 H
theorem acY(R:tD)(hR:abD R):az gP 98 (ao [.a,.a] (abE R)):=rk λK a0 a1 H h=>T8 hR a0 a1 H h
def xo:tD:=(f25,f56)
def lC:AV→AV→AH→KF→Prop:=abE xo
theorem mR:az gP 98 (ao [.a,.a] lC):=acY xo (ad.cons mQ (ad.cons jh ad.nil))
abbrev lj:Type:=(AV→AH→KF→Prop)×(AV→Int→AH→KF→Prop)
def acZ(R:lj):List (Nat×cW):=[(23,ao [.a] R.1),(25,ao [.a,.i 0] R.2)]
abbrev Bv(R:lj):Prop:=ad gP (acZ R)
abbrev DJ(K:KF)(F:bA):Prop:=bq 130 K [1,1,1] 20 [0,3] [.a,.a] F
def yt(R:lj)(K:KF)(a0 a3:AV)(H:AH):Prop:=cK a0 (aL 1 a0 λv1=>aC v1 H λv2=>cI 0 v2 λz3=>bg 0 (Int.add z3 (.ofNat 1)) λz4=>cK a0 (aL 1 a0 λv5=>ag 1 v5 (.int 0 z4) H λH6=>aL 1 a3 λv7=>aC v7 H6 λv8=>K (.ret v8) H6))
theorem O4{R:lj}(hR:Bv R){K:KF}:DJ K (yt R K):=λa0 a3 H h=>pk hR .nil h
def My(R:lj)(K:KF):bA:=yt R K
theorem O5{R:lj}(hR:Bv R){K:KF}:DJ K (My R K):=O4 hR
def yu(R:lj)(K:KF)(x1:bA)(a0:AV)(H:AH):Prop:=R.1 a0 H λo1 H2=>cR K o1 H2 λv3=>cD H2 (fV (aP H2) [(.int 0 (.ofNat 0)),(.str 0 0),(.int 0 (.ofNat 0)),(.int 0 (.ofNat 0))] λv4 H5=>ag 4 v4 v3 H5 λH6=>aL 0 v4 λv7=>aC v7 H6 λv8=>cI 0 v8 λz9=>bI (!(bX z9 (.ofNat 2))) (R.2 a0 (.ofNat 14) H6 λuI fD=>cR K uI fD λv12=>x1 a0 v4 fD) (x1 a0 v4 H6))
theorem O6{R:lj}(hR:Bv R){K:KF}{x1:bA}(h1:DJ K x1)(a0:AV)(H:AH)(h:yu R K x1 a0 H):dD 130 K [] (bz (dt 130) [a0]) [] H:=pk hR (cc h1 .nil) h
def ac0(R:lj)(K:KF):Ta:=yu R K (My R K)
def T9(R:lj):AV→AH→KF→Prop:=λa0 H K=>ac0 R K a0 H
theorem aaa(R:lj)(hR:Bv R):az gP 130 (ao [.a] (T9 R)):=rk λK a0 H h=>O6 hR (O5 hR) a0 H h
def ri:lj:=(f23,f25)
def f130:AV→AH→KF→Prop:=T9 ri
theorem yv:az gP 130 (ao [.a] f130):=aaa ri (ad.cons jE (ad.cons mQ ad.nil))
abbrev ic:Type:=(AV→Int→AH→KF→Prop)×(AV→AH→KF→Prop)×(AV→AH→KF→Prop)×(AV→AH→KF→Prop)×(AV→AV→AH→KF→Prop)
def afA(R:ic):List (Nat×cW):=[(25,ao [.a,.i 0] R.1),(53,ao [.a] R.2.1),(54,ao [.a] R.2.2.1),(55,ao [.a] R.2.2.2.1),(56,ao [.a,.a] R.2.2.2.2)]
abbrev qM(R:ic):Prop:=ad gP (afA R)
abbrev pY(K:KF)(F:bA):Prop:=bq 24 K [2,1] 35 [0,3] [.a,.a] F
abbrev Ir(K:KF)(F:bA):Prop:=bq 24 K [1,1,1,1,1,1,2,1] 35 [0,3] [.a,.a] F
abbrev Is(K:KF)(F:bA):Prop:=bq 24 K [1,1,1,1,1,1,1,1,0,1] 35 [0,3] [.a,.a] F
def Bw(R:ic)(K:KF)(x1:bA)(a0 a3:AV)(H:AH):Prop:=x1 a0 a3 H
theorem Ua{R:ic}(hR:qM R){K:KF}{x1:bA}(h1:pY K x1):Ir K (Bw R K x1):=λa0 a3 H h=>pk hR (cc h1 .nil) h
def Ub(R:ic)(K:KF)(i1:bA):bA:=Bw R K i1
theorem Uc{R:ic}(hR:qM R){K:KF}{i1:bA}(g1:pY K i1):Ir K (Ub R K i1):=Ua hR g1
def si(R:ic)(K:KF)(x2:bA)(a0 a3:AV)(H:AH):Prop:=R.2.2.1 a0 H λo1 H2=>cR K o1 H2 λv3=>bO v3 λz4=>bI z4 (cK a0 (aL 2 a0 λv5=>aC v5 H2 λv6=>cI 0 v6 λz7=>bg 0 (Int.sub z7 (.ofNat 1)) λz8=>cK a0 (aL 2 a0 λv9=>ag 1 v9 (.int 0 z8) H2 λbM=>K (.ret a3) bM))) (R.2.2.2.1 a0 H2 λpZ dA=>cR K pZ dA λv13=>cD dA (fV (aP dA) [(.int 0 (.ofNat 0)),(.int 0 (.ofNat 0)),.ab,.ab,.ab] λv14 eM=>ag 5 v14 v13 eM λiU=>aQ 5 v14 iU λv17=>onVal v17 λl18=>hH l18 5 (bY (aP iU) 1 5 (spl l18 [(.int 0 (.ofNat 0)),(.int 0 (.ofNat 0)),.ab,.ab,.ab] 0) λv19 jj=>ef 5 88 a3 v19 jj λv21 iC=>R.2.2.2.2 a0 (.str 1 59) iC λBx ie=>cR K Bx ie λv25=>bO v25 λz26=>aL 0 v14 λv27=>aC v27 ie λv28=>cI 0 v28 λz29=>bI (bX z29 (.ofNat 10)) (R.2.2.1 a0 ie λIt oj=>cR K It oj λv32=>bO v32 λz33=>bI (!z33) (R.1 a0 (.ofNat 14) oj λUd wK=>cR K Ud wK λv36=>x2 a0 v21 wK) (x2 a0 v21 oj)) (x2 a0 v21 ie))))
theorem Ue{R:ic}(hR:qM R){K:KF}{x2:bA}(h2:Ir K x2):pY K (si R K x2):=λa0 a3 H h=>pk hR (cc h2 .nil) h
def Uf(R:ic)(K:KF)(i1:bA):bA:=si R K (Ub R K i1)
theorem Ug{R:ic}(hR:qM R){K:KF}{i1:bA}(g1:pY K i1):pY K (Uf R K i1):=Ue hR (Uc hR g1)
def xp(R:ic)(K:KF)(n:Nat):bA:=Nat.rec (motive:=λ_=>bA) (λ_ _ _=>False) (λ_ i=>Uf R K i) n
theorem Uh{R:ic}(hR:qM R){K:KF}(n:Nat):pY K (xp R K n):=Nat.rec (motive:=λn=>pY K (xp R K n)) (λa0 a3 H h=>h.elim) (λn ih=>Ug hR ih) n
def Iu(R:ic)(K:KF)(x1:bA)(a0 a3:AV)(H:AH):Prop:=x1 a0 a3 H
theorem Ui{R:ic}(hR:qM R){K:KF}{x1:bA}(h1:pY K x1):Is K (Iu R K x1):=λa0 a3 H h=>pk hR (cc h1 .nil) h
def Iv(R:ic)(K:KF):bA:=Iu R K (xp R K NL)
theorem Uj{R:ic}(hR:qM R){K:KF}:Is K (Iv R K):=Ui hR (Uh hR NL)
def By(R:ic)(K:KF)(x3:bA)(a0:AV)(H:AH):Prop:=R.2.1 a0 H λo1 H2=>cR K o1 H2 λv3=>R.2.2.1 a0 H2 λo4 H5=>cR K o4 H5 λv6=>bO v6 λz7=>bI z7 (cK a0 (aL 2 a0 λv8=>aC v8 H5 λv9=>cI 0 v9 λz10=>bg 0 (Int.sub z10 (.ofNat 1)) λz11=>cK a0 (aL 2 a0 λv12=>ag 1 v12 (.int 0 z11) H5 λfk=>K (.ret .ab) fk))) (R.2.2.2.1 a0 H5 λoD eM=>cR K oD eM λv16=>cD eM (fV (aP eM) [(.int 0 (.ofNat 0)),(.int 0 (.ofNat 0)),.ab,.ab,.ab] λv17 gm=>ag 5 v17 v16 gm λjN=>aQ 5 v17 jN λv20=>onVal v20 λMz=>hH Mz 5 (bY (aP jN) 1 5 (spl Mz [(.int 0 (.ofNat 0)),(.int 0 (.ofNat 0)),.ab,.ab,.ab] 0) λv22 tE=>ef 5 88 .ab v22 tE λv24 kN=>R.2.2.2.2 a0 (.str 1 59) kN λUk nF=>cR K Uk nF λv28=>bO v28 λz29=>aL 0 v17 λv30=>aC v30 nF λv31=>cI 0 v31 λz32=>bI (bX z32 (.ofNat 10)) (R.2.2.1 a0 nF λxq lP=>cR K xq lP λv35=>bO v35 λz36=>bI (!z36) (R.1 a0 (.ofNat 14) lP λMA nG=>cR K MA nG λv39=>x3 a0 v24 nG) (x3 a0 v24 lP)) (x3 a0 v24 nF))))
theorem Ul{R:ic}(hR:qM R){K:KF}{x3:bA}(h3:Is K x3)(a0:AV)(H:AH)(h:By R K x3 a0 H):dD 24 K [] (bz (dt 24) [a0]) [] H:=pk hR (cc h3 .nil) h
def Um(R:ic)(K:KF):Ta:=By R K (Iv R K)
def vZ(R:ic):AV→AH→KF→Prop:=λa0 H K=>Um R K a0 H
theorem ac1(R:ic)(hR:qM R):az gP 24 (ao [.a] (vZ R)):=rk λK a0 H h=>Ul hR (Uj hR) a0 H h
abbrev eX:Type:=(AV→AH→KF→Prop)×(AV→AH→KF→Prop)×(AV→Int→AH→KF→Prop)×(AV→AH→KF→Prop)×(AV→AV→AH→KF→Prop)×(AV→AV→AH→KF→Prop)×(AV→AV→AH→KF→Prop)×(AV→AV→AH→KF→Prop)×(AV→AH→KF→Prop)×(AV→AV→AH→KF→Prop)×(AV→AV→AH→KF→Prop)×(AV→AV→AH→KF→Prop)
def afB(R:eX):List (Nat×cW):=[(23,ao [.a] R.1),(24,ao [.a] R.2.1),(25,ao [.a,.i 0] R.2.2.1),(54,ao [.a] R.2.2.2.1),(56,ao [.a,.a] R.2.2.2.2.1),(94,ao [.a,.a] R.2.2.2.2.2.1),(95,ao [.a,.a] R.2.2.2.2.2.2.1),(96,ao [.a,.a] R.2.2.2.2.2.2.2.1),(97,ao [.a] R.2.2.2.2.2.2.2.2.1),(98,ao [.a,.a] R.2.2.2.2.2.2.2.2.2.1),(99,ao [.a,.a] R.2.2.2.2.2.2.2.2.2.2.1),(100,ao [.a,.a] R.2.2.2.2.2.2.2.2.2.2.2)]
abbrev lD(R:eX):Prop:=ad gP (afB R)
abbrev qa(K:KF)(F:bA):Prop:=bq 55 K [1,1,1] 106 [2,3] [.a,.a] F
abbrev Iw(K:KF)(F:bN):Prop:=bq 55 K [1,0,1,1,1,1,1,0,0,1,1] 106 [0,2,3] [.a,.a,.a] F
abbrev Ix(K:KF)(F:bN):Prop:=bq 55 K [1,0,1,1,1,1,1,1,1,0,0,1,1] 106 [0,2,3] [.a,.a,.a] F
abbrev Iy(K:KF)(F:bN):Prop:=bq 55 K [1,0,1,1,1,1,1,1,1,1,1,1,1,1,1,0,0,1,1] 106 [0,2,3] [.a,.a,.a] F
abbrev Iz(K:KF)(F:bN):Prop:=bq 55 K [1,0,1,1,1,1,1,1,1,1,1,1,1,1,1,1,1,0,0,1,1] 106 [0,2,3] [.a,.a,.a] F
abbrev IA(K:KF)(F:bN):Prop:=bq 55 K [0,1,1,0,1,1,1,1,1,1,1,1,1,1,1,1,1,1,1,0,0,1,1] 106 [0,2,3] [.a,.a,.a] F
def IB(R:eX)(K:KF)(a2 a3:AV)(H:AH):Prop:=aQ 5 a3 H λv1=>ag 5 a2 v1 H λH2=>aQ 5 a2 H2 λv3=>K (.ret v3) H2
theorem Un{R:eX}(hR:lD R){K:KF}:qa K (IB R K):=λa2 a3 H h=>pk hR .nil h
def fI(R:eX)(K:KF):bA:=IB R K
theorem nH{R:eX}(hR:lD R){K:KF}:qa K (fI R K):=Un hR
def IC(R:eX)(K:KF)(x1:bA)(a0 a2 a3:AV)(H:AH):Prop:=R.2.2.2.2.2.2.2.2.2.1 a0 (.str 2 28516) H λo1 H2=>cR K o1 H2 λv3=>aL 4 a3 λv4=>aC v4 H2 λv5=>R.2.1 a0 H2 λo6 H7=>cR K o6 H7 λv8=>aC v4 H7 λv9=>bT (aT v9 v5) (cS H7 (one v8 (bY (aP H7) 1 1 [v8] λv10 fD=>bT (Nat.beq fD.n (Nat.succ H7.n)) (ef 1 24 v5 v10 fD λv12 fk=>aL 4 a3 λv14=>ag 1 v14 v12 fk λeM=>R.2.2.2.2.2.2.2.2.2.1 a0 (.str 3 6581861) eM λo16 jl=>cR K o16 jl λv18=>x1 a2 a3 jl))))
theorem Uo{R:eX}(hR:lD R){K:KF}{x1:bA}(h1:qa K x1):Iw K (IC R K x1):=λa0 a2 a3 H h=>pk hR (cc h1 .nil) h
def ID(R:eX)(K:KF):bN:=IC R K (fI R K)
theorem Up{R:eX}(hR:lD R){K:KF}:Iw K (ID R K):=Uo hR (nH hR)
def IE(R:eX)(K:KF)(x1:bA)(a0 a2 a3:AV)(H:AH):Prop:=R.2.2.2.2.2.2.2.2.2.1 a0 (.str 5 465625706101) H λo1 H2=>cR K o1 H2 λv3=>aL 3 a3 λv4=>aC v4 H2 λv5=>cN v5 λv6=>cI 0 v6 λz7=>cS H2 (bY (aP H2) 1 7 [(.int 0 (.ofNat 0)),(.int 0 (.ofNat 0)),(.int 0 (.ofNat 0)),(.str 0 0),(.int 0 (.ofNat 0)),.ab,.ab] λv8 H9=>bT (Nat.beq H9.n (Nat.succ H2.n)) (R.2.2.2.2.2.2.2.2.1 a0 H9 λuI fD=>cR K uI fD λv12=>aC v4 fD λv13=>bT (aT v13 v5) (ef 7 96 v5 v8 fD λv14 eM=>dj 7 v14 (.int 0 z7) λv16=>aL 3 a3 λv17=>ag 7 v16 v12 eM λgm=>ag 1 v17 v14 gm λjN=>ag 1 v17 v14 eM λjj=>ag 7 v16 v12 jj λkC=>lg 7 1 v16 v17 (x1 a2 a3 jN))))
theorem Uq{R:eX}(hR:lD R){K:KF}{x1:bA}(h1:qa K x1):Ix K (IE R K x1):=λa0 a2 a3 H h=>pk hR (cc h1 .nil) h
def IF(R:eX)(K:KF):bN:=IE R K (fI R K)
theorem Ur{R:eX}(hR:lD R){K:KF}:Ix K (IF R K):=Uq hR (nH hR)
def IG(R:eX)(K:KF)(x1:bA)(a0 a2 a3:AV)(H:AH):Prop:=R.2.2.2.2.2.2.2.2.2.1 a0 (.str 3 6581861) H λo1 H2=>cR K o1 H2 λv3=>x1 a2 a3 H2
theorem Us{R:eX}(hR:lD R){K:KF}{x1:bA}(h1:qa K x1):Iy K (IG R K x1):=λa0 a2 a3 H h=>pk hR (cc h1 .nil) h
def IH(R:eX)(K:KF):bN:=IG R K (fI R K)
theorem Ut{R:eX}(hR:lD R){K:KF}:Iy K (IH R K):=Us hR (nH hR)
def II(R:eX)(K:KF)(x1:bA)(a0 a2 a3:AV)(H:AH):Prop:=aL 3 a3 λv1=>aC v1 H λv2=>cN v2 λv3=>cI 0 v3 λz4=>cS H (bY (aP H) 1 7 [(.int 0 (.ofNat 0)),(.int 0 (.ofNat 0)),(.int 0 (.ofNat 0)),(.str 0 0),(.int 0 (.ofNat 0)),.ab,.ab] λv5 H6=>bT (Nat.beq H6.n (Nat.succ H.n)) (R.2.2.2.2.2.2.2.2.1 a0 H6 λo7 H8=>cR K o7 H8 λv9=>aC v1 H8 λv10=>bT (aT v10 v2) (ef 7 96 v2 v5 H8 λv11 dA=>dj 7 v11 (.int 0 z4) λv13=>aL 3 a3 λv14=>ag 7 v13 v9 dA λeM=>ag 1 v14 v11 eM λiU=>ag 1 v14 v11 dA λjl=>ag 7 v13 v9 jl λgm=>lg 7 1 v13 v14 (x1 a2 a3 iU))))
theorem Uu{R:eX}(hR:lD R){K:KF}{x1:bA}(h1:qa K x1):IA K (II R K x1):=λa0 a2 a3 H h=>pk hR (cc h1 .nil) h
def IJ(R:eX)(K:KF):bN:=II R K (fI R K)
theorem Uv{R:eX}(hR:lD R){K:KF}:IA K (IJ R K):=Uu hR (nH hR)
def IK(R:eX)(K:KF)(x6:bN)(x1:bA)(a0 a2 a3:AV)(H:AH):Prop:=R.2.2.2.2.2.1 a0 (.str 1 59) H λo1 H2=>cR K o1 H2 λv3=>bO v3 λz4=>bI (!z4) (R.2.2.2.1 a0 H2 λo5 H6=>cR K o5 H6 λv7=>bO v7 λz8=>bI (!z8) (x6 a0 a2 a3 H6) (x1 a2 a3 H6)) (x1 a2 a3 H2)
theorem Uw{R:eX}(hR:lD R){K:KF}{x6:bN}{x1:bA}(h6:IA K x6)(h1:qa K x1):Iz K (IK R K x6 x1):=λa0 a2 a3 H h=>pk hR (cc h6 (cc h1 .nil)) h
def IL(R:eX)(K:KF):bN:=IK R K (IJ R K) (fI R K)
theorem Ux{R:eX}(hR:lD R){K:KF}:Iz K (IL R K):=Uw hR (Uv hR) (nH hR)
def IM(R:eX)(K:KF)(x2 x3 x4 x5:bN)(x1:bA)(a0:AV)(H:AH):Prop:=cD H (fV (aP H) [(.int 0 (.ofNat 0)),(.int 0 (.ofNat 0)),.ab,.ab,.ab] λv1 H2=>R.1 a0 H2 λo3 H4=>cR K o3 H4 λv5=>fQ v5 λl6=>cP l6 3 λv7=>cI 0 v7 λz8=>cD H4 (fV (aP H4) [(.int 0 (.ofNat 0)),(.int 0 (.ofNat 0)),.ab,.ab,.ab] λv9 bM=>ag 5 v9 (.agg [(.int 0 (.ofNat 0)),(.int 0 z8),.ab,.ab,.ab]) bM λfD=>R.2.2.2.2.1 a0 (.str 5 465490374508) fD λUy fk=>cR K Uy fk λv14=>bO v14 λqc=>bI qc (R.2.2.2.2.2.2.1 a0 v9 fk λo16 jl=>cR K o16 jl λv18=>x1 v1 v9 jl) (R.2.2.2.2.1 a0 (.str 2 26217) fk λIN jj=>cR K IN jj λv21=>bO v21 λz22=>bI z22 (R.2.2.2.2.2.2.2.1 a0 v9 jj λBx ie=>cR K Bx ie λv25=>x1 v1 v9 ie) (R.2.2.2.2.1 a0 (.str 5 435610544247) jj λUk nF=>cR K Uk nF λv28=>bO v28 λz29=>bI z29 (R.2.2.2.2.2.2.2.2.1 a0 nF λIt oj=>cR K It oj λv32=>onVal v32 λl33=>hH l33 7 (bY (aP oj) 1 7 (spl l33 [(.int 0 (.ofNat 0)),(.int 0 (.ofNat 0)),(.int 0 (.ofNat 0)),(.str 0 0),(.int 0 (.ofNat 0)),.ab,.ab] 0) λv34 wK=>aL 0 v9 λv36=>ag 1 v36 (.int 0 (.ofNat 5)) wK λH37=>aL 3 v9 λv38=>ag 1 v38 v34 H37 λH39=>x2 a0 v1 v9 H39)) (R.2.2.2.2.1 a0 (.str 6 127961662514546) nF λo40 uJ=>cR K o40 uJ λv42=>bO v42 λz43=>bI z43 (R.2.1 a0 uJ λo44 H45=>cR K o44 H45 λv46=>one v46 (bY (aP H45) 1 1 [v46] λv47 tF=>aL 0 v9 λv49=>ag 1 v49 (.int 0 (.ofNat 8)) tF λUz=>aL 4 v9 λv51=>ag 1 v51 v47 Uz λUA=>x3 a0 v1 v9 UA)) (R.2.2.2.2.1 a0 (.str 3 7499622) uJ λo53 Bz=>cR K o53 Bz λv55=>bO v55 λz56=>bI z56 (R.2.2.2.2.2.2.2.2.2.2.1 a0 v9 Bz λo57 H58=>cR K o57 H58 λv59=>x1 v1 v9 H58) (R.2.2.2.2.1 a0 (.str 5 461195539042) Bz λo60 H61=>cR K o60 H61 λv62=>bO v62 λz63=>bI z63 (aL 0 v9 λv64=>ag 1 v64 (.int 0 (.ofNat 9)) H61 λH65=>x1 v1 v9 H65) (R.2.2.2.2.1 a0 (.str 2 28516) H61 λo66 H67=>cR K o66 H67 λv68=>bO v68 λz69=>bI z69 (R.2.1 a0 H67 λo70 H71=>cR K o70 H71 λv72=>one v72 (bY (aP H71) 1 1 [v72] λv73 H74=>aL 0 v9 λv75=>ag 1 v75 (.int 0 (.ofNat 11)) H74 λH76=>aL 4 v9 λv77=>ag 1 v77 v73 H76 λMB=>x4 a0 v1 v9 MB)) (R.2.2.2.2.1 a0 (.str 6 121437875889522) H67 λo79 H80=>cR K o79 H80 λv81=>bO v81 λz82=>bI z82 (aL 0 v9 λv83=>ag 1 v83 (.int 0 (.ofNat 10)) H80 λH84=>x5 a0 v1 v9 H84) (R.1 a0 H80 λo85 H86=>cR K o85 H86 λv87=>fQ v87 λl88=>cP l88 0 λv89=>cI 0 v89 λz90=>bI (bX z90 (.ofNat 2)) (R.2.2.2.2.2.2.2.2.2.2.2 a0 v9 H86 λo91 H92=>cR K o91 H92 λv93=>x1 v1 v9 H92) (R.2.2.1 a0 (.ofNat 14) H86 λo94 H95=>cR K o94 H95 λv96=>x1 v1 v9 H95)))))))))))
theorem UB{R:eX}(hR:lD R){K:KF}{x2 x3 x4 x5:bN}{x1:bA}(h2:Iw K x2)(h3:Ix K x3)(h4:Iy K x4)(h5:Iz K x5)(h1:qa K x1)(a0:AV)(H:AH)(h:IM R K x2 x3 x4 x5 x1 a0 H):dD 55 K [] (bz (dt 55) [a0]) [] H:=pk hR (cc h2 (cc h3 (cc h4 (cc h5 (cc h1 .nil))))) h
def UC(R:eX)(K:KF):Ta:=IM R K (ID R K) (IF R K) (IH R K) (IL R K) (fI R K)
def wa(R:eX):AV→AH→KF→Prop:=λa0 H K=>UC R K a0 H
theorem ac2(R:eX)(hR:lD R):az gP 55 (ao [.a] (wa R)):=rk λK a0 H h=>UB hR (Up hR) (Ur hR) (Ut hR) (Ux hR) (nH hR) a0 H h
abbrev mY:Type:=(AV→AH→KF→Prop)×(AV→AV→AH→KF→Prop)×(AV→AH→KF→Prop)×(AV→AH→KF→Prop)×(AV→Int→AH→KF→Prop)
def afC(R:mY):List (Nat×cW):=[(23,ao [.a] R.1),(56,ao [.a,.a] R.2.1),(97,ao [.a] R.2.2.1),(130,ao [.a] R.2.2.2.1),(131,ao [.a,.i 0] R.2.2.2.2)]
abbrev Gz(R:mY):Prop:=ad gP (afC R)
abbrev IP(K:KF)(F:bA):Prop:=bq 95 K [1,1,0,1,0,1] 47 [0,1] [.a,.a] F
def IQ(R:mY)(K:KF)(a0 a1:AV)(H:AH):Prop:=R.1 a0 H λo1 H2=>cR K o1 H2 λv3=>fQ v3 λl4=>cP l4 3 λv5=>cI 0 v5 λz6=>R.2.2.2.2 a0 z6 H2 λo7 H8=>cR K o7 H8 λv9=>onVal v9 λl10=>hH l10 7 (bY (aP H8) 1 7 (spl l10 [(.int 0 (.ofNat 0)),(.int 0 (.ofNat 0)),(.int 0 (.ofNat 0)),(.str 0 0),(.int 0 (.ofNat 0)),.ab,.ab] 0) λv11 dA=>cK a1 (aL 3 a1 λv13=>ag 1 v13 v11 dA λdL=>K (.ret (.bD [])) dL))
theorem UD{R:mY}(hR:Gz R){K:KF}:IP K (IQ R K):=λa0 a1 H h=>pk hR .nil h
def IS(R:mY)(K:KF):bA:=IQ R K
theorem UE{R:mY}(hR:Gz R){K:KF}:IP K (IS R K):=UD hR
def IT(R:mY)(K:KF)(x1:bA)(a0 a1:AV)(H:AH):Prop:=cK a1 (aL 0 a1 λv1=>ag 1 v1 (.int 0 (.ofNat 1)) H λH2=>R.2.1 a0 (.str 8 7957695015192261990) H2 λo3 H4=>cR K o3 H4 λv5=>bO v5 λz6=>bI z6 (cK a1 (aL 0 a1 λv7=>ag 1 v7 (.int 0 (.ofNat 12)) H4 λH8=>R.2.2.2.1 a0 H8 λo9 bM=>cR K o9 bM λv11=>one v11 (bY (aP bM) 1 1 [v11] λv12 fk=>cK a1 (aL 2 a1 λv14=>ag 1 v14 v12 fk λeM=>x1 a0 a1 eM)))) (R.2.2.2.1 a0 H4 λo16 jl=>cR K o16 jl λv18=>one v18 (bY (aP jl) 1 1 [v18] λv19 jj=>cK a1 (aL 2 a1 λv21=>ag 1 v21 v19 jj λiC=>R.2.1 a0 (.str 1 61) iC λBx ie=>cR K Bx ie λv25=>bO v25 λz26=>bI z26 (cK a1 (aL 3 a1 λv27=>aC v27 ie λv28=>cN v28 λv29=>cI 0 v29 λz30=>cS ie (bY (aP ie) 1 7 [(.int 0 (.ofNat 0)),(.int 0 (.ofNat 0)),(.int 0 (.ofNat 0)),(.str 0 0),(.int 0 (.ofNat 0)),.ab,.ab] λv31 lQ=>bT (Nat.beq lQ.n (Nat.succ ie.n)) (R.2.2.1 a0 lQ λxq lP=>cR K xq lP λv35=>aC v27 lP λv36=>bT (aT v36 v28) (ef 7 96 v28 v31 lP λv37 nG=>dj 7 v37 (.int 0 z30) λv39=>cK a1 (aL 3 a1 λv40=>ag 7 v39 v35 nG λuJ=>ag 1 v40 v37 uJ λqd=>ag 1 v40 v37 nG λwL=>ag 7 v39 v35 wL λH44=>lg 7 1 v39 v40 (K (.ret (.bD [])) qd))))))) (K (.ret (.bD [])) ie)))))
theorem UF{R:mY}(hR:Gz R){K:KF}{x1:bA}(h1:IP K x1)(a0 a1:AV)(H:AH)(h:IT R K x1 a0 a1 H):dD 95 K [] (bz (dt 95) [a0,a1]) [] H:=pk hR (cc h1 .nil) h
def UG(R:mY)(K:KF):bA:=IT R K (IS R K)
def wb(R:mY):AV→AV→AH→KF→Prop:=λa0 a1 H K=>UG R K a0 a1 H
theorem ac3(R:mY)(hR:Gz R):az gP 95 (ao [.a,.a] (wb R)):=rk λK a0 a1 H h=>UF hR (UE hR) a0 a1 H h
abbrev ft:Type:=(AV→AH→KF→Prop)×(AV→AV→AH→KF→Prop)×(AV→AH→KF→Prop)×(AV→AV→AH→KF→Prop)
def afD(R:ft):List (Nat×cW):=[(24,ao [.a] R.1),(56,ao [.a,.a] R.2.1),(97,ao [.a] R.2.2.1),(98,ao [.a,.a] R.2.2.2)]
abbrev mr(R:ft):Prop:=ad gP (afD R)
abbrev IU(K:KF)(F:bA):Prop:=bq 96 K [1,1] 50 [0,1] [.a,.a] F
abbrev om(K:KF)(F:bA):Prop:=bq 96 K [0,0,1] 50 [0,1] [.a,.a] F
abbrev IV(K:KF)(F:Ta):Prop:=bq 96 K [1,1,1] 50 [0] [.a] F
abbrev IW(K:KF)(F:bA):Prop:=bq 96 K [1,0,0,0,0,1] 50 [0,1] [.a,.a] F
abbrev IX(K:KF)(F:bA):Prop:=bq 96 K [1,1,1,0,0,0,0,1] 50 [0,1] [.a,.a] F
def xr(R:ft)(K:KF)(a0:AV)(H:AH):Prop:=R.2.2.2 a0 (.str 3 6581861) H λo1 H2=>cR K o1 H2 λv3=>K (.ret (.bD [])) H2
theorem UH{R:ft}(hR:mr R){K:KF}:IV K (xr R K):=λa0 H h=>pk hR .nil h
def UI(R:ft)(K:KF):Ta:=xr R K
theorem UJ{R:ft}(hR:mr R){K:KF}:IV K (UI R K):=UH hR
def BA(R:ft)(K:KF)(x3:Ta)(a0 a1:AV)(H:AH):Prop:=R.2.1 a0 (.str 4 1702063205) H λo1 H2=>cR K o1 H2 λv3=>bO v3 λz4=>bI z4 (cK a1 (aL 4 a1 λv5=>aC v5 H2 λv6=>R.1 a0 H2 λo7 H8=>cR K o7 H8 λv9=>aC v5 H8 λv10=>bT (aT v10 v6) (cS H8 (one v9 (bY (aP H8) 1 1 [v9] λv11 dA=>bT (Nat.beq dA.n (Nat.succ H8.n)) (ef 1 24 v6 v11 dA λv13 dL=>cK a1 (aL 4 a1 λv15=>ag 1 v15 v13 dL λiU=>x3 a0 iU))))))) (x3 a0 H2)
theorem UK{R:ft}(hR:mr R){K:KF}{x3:Ta}(h3:IV K x3):IU K (BA R K x3):=λa0 a1 H h=>pk hR (cc h3 .nil) h
def UL(R:ft)(K:KF):bA:=BA R K (UI R K)
theorem UM{R:ft}(hR:mr R){K:KF}:IU K (UL R K):=UK hR (UJ hR)
def BB(R:ft)(K:KF)(x2 x1:bA)(a0 a1:AV)(H:AH):Prop:=R.2.1 a0 (.str 6 112602859662437) H λo1 H2=>cR K o1 H2 λv3=>bO v3 λz4=>bI (!z4) (x1 a0 a1 H2) (x2 a0 a1 H2)
theorem UN{R:ft}(hR:mr R){K:KF}{x2 x1:bA}(h2:om K x2)(h1:IU K x1):IX K (BB R K x2 x1):=λa0 a1 H h=>pk hR (cc h2 (cc h1 .nil)) h
def UO(R:ft)(K:KF)(i2:bA):bA:=BB R K i2 (UL R K)
theorem UP{R:ft}(hR:mr R){K:KF}{i2:bA}(g2:om K i2):IX K (UO R K i2):=UN hR g2 (UM hR)
def BC(R:ft)(K:KF)(x5:bA)(a0 a1:AV)(H:AH):Prop:=R.2.2.2 a0 (.str 4 1852139636) H λo1 H2=>cR K o1 H2 λv3=>cK a1 (aL 4 a1 λv4=>aC v4 H2 λv5=>R.1 a0 H2 λo6 H7=>cR K o6 H7 λv8=>aC v4 H7 λv9=>bT (aT v9 v5) (cS H7 (one v8 (bY (aP H7) 1 1 [v8] λv10 fD=>bT (Nat.beq fD.n (Nat.succ H7.n)) (ef 1 24 v5 v10 fD λv12 fk=>cK a1 (aL 4 a1 λv14=>ag 1 v14 v12 fk λeM=>x5 a0 a1 eM))))))
theorem UQ{R:ft}(hR:mr R){K:KF}{x5:bA}(h5:IX K x5):IW K (BC R K x5):=λa0 a1 H h=>pk hR (cc h5 .nil) h
def UR(R:ft)(K:KF)(i2:bA):bA:=BC R K (UO R K i2)
theorem US{R:ft}(hR:mr R){K:KF}{i2:bA}(g2:om K i2):IW K (UR R K i2):=UQ hR (UP hR g2)
def BD(R:ft)(K:KF)(x4:bA)(a0 a1:AV)(H:AH):Prop:=cK a1 (aL 3 a1 λv1=>aC v1 H λv2=>cN v2 λv3=>cI 0 v3 λz4=>cS H (bY (aP H) 1 7 [(.int 0 (.ofNat 0)),(.int 0 (.ofNat 0)),(.int 0 (.ofNat 0)),(.str 0 0),(.int 0 (.ofNat 0)),.ab,.ab] λv5 H6=>bT (Nat.beq H6.n (Nat.succ H.n)) (R.2.2.1 a0 H6 λo7 H8=>cR K o7 H8 λv9=>aC v1 H8 λv10=>bT (aT v10 v2) (ef 7 96 v2 v5 H8 λv11 dA=>dj 7 v11 (.int 0 z4) λv13=>cK a1 (aL 3 a1 λv14=>ag 7 v13 v9 dA λeM=>ag 1 v14 v11 eM λiU=>ag 1 v14 v11 dA λjl=>ag 7 v13 v9 jl λgm=>lg 7 1 v13 v14 (x4 a0 a1 iU))))))
theorem UT{R:ft}(hR:mr R){K:KF}{x4:bA}(h4:IW K x4):om K (BD R K x4):=λa0 a1 H h=>pk hR (cc h4 .nil) h
def UU(R:ft)(K:KF)(i2:bA):bA:=BD R K (UR R K i2)
theorem UW{R:ft}(hR:mr R){K:KF}{i2:bA}(g2:om K i2):om K (UU R K i2):=UT hR (US hR g2)
def xt(R:ft)(K:KF)(n:Nat):bA:=Nat.rec (motive:=λ_=>bA) (λ_ _ _=>False) (λ_ i=>UU R K i) n
theorem UX{R:ft}(hR:mr R){K:KF}(n:Nat):om K (xt R K n):=Nat.rec (motive:=λn=>om K (xt R K n)) (λa0 a1 H h=>h.elim) (λn ih=>UW hR ih) n
def IY(R:ft)(K:KF)(x2:bA)(a0 a1:AV)(H:AH):Prop:=cK a1 (aL 0 a1 λv1=>ag 1 v1 (.int 0 (.ofNat 4)) H λH2=>x2 a0 a1 H2)
theorem UY{R:ft}(hR:mr R){K:KF}{x2:bA}(h2:om K x2)(a0 a1:AV)(H:AH)(h:IY R K x2 a0 a1 H):dD 96 K [] (bz (dt 96) [a0,a1]) [] H:=pk hR (cc h2 .nil) h
def UZ(R:ft)(K:KF):bA:=IY R K (xt R K NL)
def wc(R:ft):AV→AV→AH→KF→Prop:=λa0 a1 H K=>UZ R K a0 a1 H
theorem ac4(R:ft)(hR:mr R):az gP 96 (ao [.a,.a] (wc R)):=rk λK a0 a1 H h=>UY hR (UX hR NL) a0 a1 H h
abbrev mZ:Type:=(AV→AH→KF→Prop)×(AV→AH→KF→Prop)
def afE(R:mZ):List (Nat×cW):=[(53,ao [.a] R.1),(132,ao [.a] R.2)]
abbrev GA(R:mZ):Prop:=ad gP (afE R)
abbrev IZ(K:KF)(F:bA):Prop:=bq 97 K [1,1,1,1] 16 [2,3] [.a,.a] F
def xv(R:mZ)(K:KF)(a2 a3:AV)(H:AH):Prop:=aQ 7 a3 H λv1=>ag 7 a2 v1 H λH2=>aQ 7 a2 H2 λv3=>K (.ret v3) H2
theorem U0{R:mZ}(hR:GA R){K:KF}:IZ K (xv R K):=λa2 a3 H h=>pk hR .nil h
def U5(R:mZ)(K:KF):bA:=xv R K
theorem U6{R:mZ}(hR:GA R){K:KF}:IZ K (U5 R K):=U0 hR
def BE(R:mZ)(K:KF)(x1:bA)(a0:AV)(H:AH):Prop:=cD H (dd gP (aP H) 49 λv1 H2=>R.1 a0 H2 λo3 H4=>cR K o3 H4 λv5=>R.2 a0 H4 λo6 H7=>cR K o6 H7 λv8=>cD H7 (dd gP (aP H7) 49 λv9 bM=>ag 7 v9 v8 bM λfD=>cK a0 (aL 2 a0 λv12=>aC v12 fD λv13=>cI 0 v13 λqe=>bg 0 (Int.sub qe (.ofNat 1)) λqc=>cK a0 (aL 2 a0 λv16=>ag 1 v16 (.int 0 qc) fD λjl=>x1 v1 v9 jl))))
theorem U7{R:mZ}(hR:GA R){K:KF}{x1:bA}(h1:IZ K x1)(a0:AV)(H:AH)(h:BE R K x1 a0 H):dD 97 K [] (bz (dt 97) [a0]) [] H:=pk hR (cc h1 .nil) h
def afF(R:mZ)(K:KF):Ta:=BE R K (U5 R K)
def BF(R:mZ):AV→AH→KF→Prop:=λa0 H K=>afF R K a0 H
theorem ac5(R:mZ)(hR:GA R):az gP 97 (ao [.a] (BF R)):=rk λK a0 H h=>U7 hR (U6 hR) a0 H h
abbrev gU:Type:=(AV→AH→KF→Prop)×(AV→AV→AH→KF→Prop)×(AV→AH→KF→Prop)×(AV→AV→AH→KF→Prop)×(AV→AH→KF→Prop)
def afG(R:gU):List (Nat×cW):=[(24,ao [.a] R.1),(56,ao [.a,.a] R.2.1),(97,ao [.a] R.2.2.1),(98,ao [.a,.a] R.2.2.2.1),(130,ao [.a] R.2.2.2.2)]
abbrev pN(R:gU):Prop:=ad gP (afG R)
abbrev BG(K:KF)(F:bA):Prop:=bq 99 K [1,1] 83 [0,1] [.a,.a] F
abbrev I0(K:KF)(F:bA):Prop:=bq 99 K [1,0,1,0,1] 83 [0,1] [.a,.a] F
abbrev I3(K:KF)(F:bA):Prop:=bq 99 K [1,1,1,0,1] 83 [0,1] [.a,.a] F
abbrev I4(K:KF)(F:bA):Prop:=bq 99 K [1,1,1,1,1,1,0,1] 83 [0,1] [.a,.a] F
def BH(R:gU)(K:KF)(a0 a1:AV)(H:AH):Prop:=R.2.2.2.1 a0 (.str 2 28516) H λo1 H2=>cR K o1 H2 λv3=>R.1 a0 H2 λo4 H5=>cR K o4 H5 λv6=>one v6 (bY (aP H5) 1 1 [v6] λv7 H8=>cK a1 (aL 4 a1 λv9=>ag 1 v9 v7 H8 λbM=>R.2.2.2.1 a0 (.str 3 6581861) bM λpZ dA=>cR K pZ dA λv13=>K (.ret (.bD [])) dA))
theorem U8{R:gU}(hR:pN R){K:KF}:BG K (BH R K):=λa0 a1 H h=>pk hR .nil h
def I5(R:gU)(K:KF):bA:=BH R K
theorem FQ{R:gU}(hR:pN R){K:KF}:BG K (I5 R K):=U8 hR
def I6(R:gU)(K:KF)(x1:bA)(a0 a1:AV)(H:AH):Prop:=R.2.2.2.1 a0 (.str 2 28265) H λo1 H2=>cR K o1 H2 λv3=>R.2.2.1 a0 H2 λo4 H5=>cR K o4 H5 λv6=>onVal v6 λl7=>hH l7 7 (bY (aP H5) 1 7 (spl l7 [(.int 0 (.ofNat 0)),(.int 0 (.ofNat 0)),(.int 0 (.ofNat 0)),(.str 0 0),(.int 0 (.ofNat 0)),.ab,.ab] 0) λv8 H9=>cK a1 (aL 3 a1 λv10=>ag 1 v10 v8 H9 λfD=>x1 a0 a1 fD))
theorem U9{R:gU}(hR:pN R){K:KF}{x1:bA}(h1:BG K x1):I0 K (I6 R K x1):=λa0 a1 H h=>pk hR (cc h1 .nil) h
def I7(R:gU)(K:KF):bA:=I6 R K (I5 R K)
theorem Va{R:gU}(hR:pN R){K:KF}:I0 K (I7 R K):=U9 hR (FQ hR)
def I8(R:gU)(K:KF)(x1:bA)(a0 a1:AV)(H:AH):Prop:=R.2.1 a0 (.str 1 44) H λo1 H2=>cR K o1 H2 λv3=>bO v3 λz4=>bI z4 (cK a1 (aL 3 a1 λv5=>aC v5 H2 λv6=>cN v6 λv7=>cI 0 v7 λz8=>cS H2 (bY (aP H2) 1 7 [(.int 0 (.ofNat 0)),(.int 0 (.ofNat 0)),(.int 0 (.ofNat 0)),(.str 0 0),(.int 0 (.ofNat 0)),.ab,.ab] λv9 bM=>bT (Nat.beq bM.n (Nat.succ H2.n)) (R.2.2.1 a0 bM λpZ dA=>cR K pZ dA λv13=>aC v5 dA λv14=>bT (aT v14 v6) (ef 7 96 v6 v9 dA λv15 iU=>dj 7 v15 (.int 0 z8) λv17=>cK a1 (aL 3 a1 λv18=>ag 7 v17 v13 iU λjN=>ag 1 v18 v15 jN λjj=>ag 1 v18 v15 iU λkC=>ag 7 v17 v13 kC λiC=>lg 7 1 v17 v18 (x1 a0 a1 jj))))))) (x1 a0 a1 H2)
theorem Vb{R:gU}(hR:pN R){K:KF}{x1:bA}(h1:BG K x1):I4 K (I8 R K x1):=λa0 a1 H h=>pk hR (cc h1 .nil) h
def I9(R:gU)(K:KF):bA:=I8 R K (I5 R K)
theorem Vc{R:gU}(hR:pN R){K:KF}:I4 K (I9 R K):=Vb hR (FQ hR)
def Ja(R:gU)(K:KF)(x4:bA)(a0 a1:AV)(H:AH):Prop:=R.2.2.1 a0 H λo1 H2=>cR K o1 H2 λv3=>onVal v3 λl4=>hH l4 7 (bY (aP H2) 1 7 (spl l4 [(.int 0 (.ofNat 0)),(.int 0 (.ofNat 0)),(.int 0 (.ofNat 0)),(.str 0 0),(.int 0 (.ofNat 0)),.ab,.ab] 0) λv5 H6=>cK a1 (aL 3 a1 λv7=>ag 1 v7 v5 H6 λH8=>R.2.2.2.1 a0 (.str 1 44) H8 λo9 bM=>cR K o9 bM λv11=>cK a1 (aL 3 a1 λv12=>aC v12 bM λv13=>cN v13 λv14=>cI 0 v14 λqc=>cS bM (bY (aP bM) 1 7 [(.int 0 (.ofNat 0)),(.int 0 (.ofNat 0)),(.int 0 (.ofNat 0)),(.str 0 0),(.int 0 (.ofNat 0)),.ab,.ab] λv16 jl=>bT (Nat.beq jl.n (Nat.succ bM.n)) (R.2.2.1 a0 jl λJb jN=>cR K Jb jN λv20=>aC v12 jN λv21=>bT (aT v21 v13) (ef 7 96 v13 v16 jN λv22 tE=>dj 7 v22 (.int 0 qc) λv24=>cK a1 (aL 3 a1 λv25=>ag 7 v24 v20 tE λuK=>ag 1 v25 v22 uK λnF=>ag 1 v25 v22 tE λsj=>ag 7 v24 v20 sj λVd=>lg 7 1 v24 v25 (x4 a0 a1 nF))))))))
theorem Ve{R:gU}(hR:pN R){K:KF}{x4:bA}(h4:I4 K x4):I3 K (Ja R K x4):=λa0 a1 H h=>pk hR (cc h4 .nil) h
def Jc(R:gU)(K:KF):bA:=Ja R K (I9 R K)
theorem Vf{R:gU}(hR:pN R){K:KF}:I3 K (Jc R K):=Ve hR (Vc hR)
def Jd(R:gU)(K:KF)(x2 x3:bA)(a0 a1:AV)(H:AH):Prop:=R.2.2.2.2 a0 H λo1 H2=>cR K o1 H2 λv3=>one v3 (bY (aP H2) 1 1 [v3] λv4 H5=>cK a1 (aL 0 a1 λv6=>ag 1 v6 (.int 0 (.ofNat 6)) H5 λH7=>cK a1 (aL 2 a1 λv8=>ag 1 v8 v4 H7 λH9=>R.2.1 a0 (.str 1 44) H9 λuI fD=>cR K uI fD λv12=>bO v12 λz13=>bI z13 (cK a1 (aL 2 a1 λv14=>aC v14 fD λv15=>R.2.2.2.2 a0 fD λo16 jl=>cR K o16 jl λv18=>aC v14 jl λv19=>bT (aT v19 v15) (cS jl (one v18 (bY (aP jl) 1 1 [v18] λv20 kC=>bT (Nat.beq kC.n (Nat.succ jl.n)) (ef 1 16 v15 v20 kC λv22 tE=>cK a1 (aL 0 a1 λv24=>ag 1 v24 (.int 0 (.ofNat 7)) tE λkN=>cK a1 (aL 2 a1 λv26=>ag 1 v26 v22 kN λnF=>x2 a0 a1 nF)))))))) (R.2.2.2.1 a0 (.str 1 61) fD λo28 Vd=>cR K o28 Vd λv30=>x3 a0 a1 Vd))))
theorem Vg{R:gU}(hR:pN R){K:KF}{x2 x3:bA}(h2:I0 K x2)(h3:I3 K x3)(a0 a1:AV)(H:AH)(h:Jd R K x2 x3 a0 a1 H):dD 99 K [] (bz (dt 99) [a0,a1]) [] H:=pk hR (cc h2 (cc h3 .nil)) h
def Vh(R:gU)(K:KF):bA:=Jd R K (I7 R K) (Jc R K)
def we(R:gU):AV→AV→AH→KF→Prop:=λa0 a1 H K=>Vh R K a0 a1 H
theorem ac6(R:gU)(hR:pN R):az gP 99 (ao [.a,.a] (we R)):=rk λK a0 a1 H h=>Vg hR (Va hR) (Vf hR) a0 a1 H h
abbrev qf:Type:=(AV→AH→KF→Prop)×(AV→AV→AH→KF→Prop)×(AV→AH→KF→Prop)
def ac7(R:qf):List (Nat×cW):=[(97,ao [.a] R.1),(98,ao [.a,.a] R.2.1),(133,ao [.a] R.2.2)]
abbrev Vi(R:qf):Prop:=ad gP (ac7 R)
def DK(R:qf)(K:KF)(a0 a1:AV)(H:AH):Prop:=R.2.2 a0 H λo1 H2=>cR K o1 H2 λv3=>cD H2 (dd gP (aP H2) 49 λv4 H5=>ag 7 v4 v3 H5 λH6=>aL 0 v4 λv7=>aC v7 H6 λv8=>cI 0 v8 λz9=>bI (bX z9 (.ofNat 10)) (aQ 7 v4 H6 λv10=>cS H6 (onVal v10 λMC=>hH MC 7 (bY (aP H6) 1 7 (spl MC [(.int 0 (.ofNat 0)),(.int 0 (.ofNat 0)),(.int 0 (.ofNat 0)),(.str 0 0),(.int 0 (.ofNat 0)),.ab,.ab] 0) λv12 fk=>bT (Nat.beq fk.n (Nat.succ H6.n)) (cK a1 (aL 0 a1 λv14=>ag 1 v14 (.int 0 (.ofNat 3)) fk λeM=>aQ 7 v4 eM λv16=>bT (aT v16 v10) (cK a1 (aL 3 a1 λv17=>ag 1 v17 v12 eM λgm=>K (.ret (.bD [])) gm))))))) (R.2.1 a0 (.str 1 61) H6 λIN jj=>cR K IN jj λv21=>aQ 7 v4 jj λv22=>R.1 a0 jj λBx ie=>cR K Bx ie λv25=>aQ 7 v4 ie λv26=>bT (aT v26 v22) (cS ie (onVal v22 λl27=>hH l27 7 (onVal v25 λVj=>hH Vj 7 (bY (aP ie) 2 7 (spl Vj (spl l27 [(.int 0 (.ofNat 0)),(.int 0 (.ofNat 0)),(.int 0 (.ofNat 0)),(.str 0 0),(.int 0 (.ofNat 0)),.ab,.ab,(.int 0 (.ofNat 0)),(.int 0 (.ofNat 0)),(.int 0 (.ofNat 0)),(.str 0 0),(.int 0 (.ofNat 0)),.ab,.ab] 0) 7) λv29 FR=>bT (Nat.beq FR.n (Nat.succ ie.n)) (cK a1 (aL 0 a1 λv31=>ag 1 v31 (.int 0 (.ofNat 2)) FR λlQ=>aQ 7 v4 lQ λv33=>bT (aT v33 v22) (cK a1 (aL 3 a1 λv34=>ag 1 v34 v29 lQ λwK=>K (.ret (.bD [])) wK))))))))))
theorem O7{R:qf}(hR:Vi R){K:KF}(a0 a1:AV)(H:AH)(h:DK R K a0 a1 H):dD 100 K [] (bz (dt 100) [a0,a1]) [] H:=pk hR .nil h
def MD(R:qf)(K:KF):bA:=DK R K
def sk(R:qf):AV→AV→AH→KF→Prop:=λa0 a1 H K=>MD R K a0 a1 H
theorem aab(R:qf)(hR:Vi R):az gP 100 (ao [.a,.a] (sk R)):=rk λK a0 a1 H h=>O7 hR a0 a1 H h
abbrev fb:Type:=(AV→AH→KF→Prop)×(AV→Int→AH→KF→Prop)×(AV→AV→AH→KF→Prop)×(AV→AV→AH→KF→Prop)×(AV→AV→AH→KF→Prop)×(AV→AH→KF→Prop)
def ac8(R:fb):List (Nat×cW):=[(24,ao [.a] R.1),(25,ao [.a,.i 0] R.2.1),(56,ao [.a,.a] R.2.2.1),(94,ao [.a,.a] R.2.2.2.1),(98,ao [.a,.a] R.2.2.2.2.1),(130,ao [.a] R.2.2.2.2.2)]
abbrev lR(R:fb):Prop:=ad gP (ac8 R)
abbrev DL(K:KF)(F:pM):Prop:=bq 131 K [1,1,1,1] 47 [0,1,4,5] [.a,.i 0,.a,.a] F
abbrev mu(K:KF)(F:kr):Prop:=bq 131 K [0,1,0,1,1,1] 47 [0,1,4,5,6] [.a,.i 0,.a,.a,.b] F
abbrev DM(K:KF)(F:pM):Prop:=bq 131 K [1,1,0,0,1,0,1,1,1] 47 [0,1,4,5] [.a,.i 0,.a,.a] F
abbrev DN(K:KF)(F:pM):Prop:=bq 131 K [1,0,0,1,0,0,1,0,1,1,1] 47 [0,1,4,5] [.a,.i 0,.a,.a] F
def rj(R:fb)(K:KF)(x2:kr)(a0:AV)(a1:Int)(a4 a5:AV)(H:AH):Prop:=x2 a0 a1 a4 a5 false H
theorem O8{R:fb}(hR:lR R){K:KF}{x2:kr}(h2:mu K x2):DM K (rj R K x2):=λa0 a1 a4 a5 H h=>pk hR (cc h2 .nil) h
def ME(R:fb)(K:KF)(i2:kr):pM:=rj R K i2
theorem O9{R:fb}(hR:lR R){K:KF}{i2:kr}(g2:mu K i2):DM K (ME R K i2):=O8 hR g2
def rl(R:fb)(K:KF)(x3:pM)(a0:AV)(a1:Int)(a4 a5:AV)(H:AH):Prop:=aL 0 a5 λv1=>aC v1 H λv2=>R.2.2.2.2.2 a0 H λo3 H4=>cR K o3 H4 λv5=>aC v1 H4 λv6=>bT (aT v6 v2) (cS H4 (one v5 (bY (aP H4) 1 1 [v5] λv7 H8=>bT (Nat.beq H8.n (Nat.succ H4.n)) (ef 1 16 v2 v7 H8 λv9 bM=>aL 0 a5 λv11=>ag 1 v11 v9 bM λdA=>x3 a0 a1 a4 a5 dA))))
theorem Pa{R:fb}(hR:lR R){K:KF}{x3:pM}(h3:DM K x3):DN K (rl R K x3):=λa0 a1 a4 a5 H h=>pk hR (cc h3 .nil) h
def MF(R:fb)(K:KF)(i2:kr):pM:=rl R K (ME R K i2)
theorem Pb{R:fb}(hR:lR R){K:KF}{i2:kr}(g2:mu K i2):DN K (MF R K i2):=Pa hR (O9 hR g2)
def uL(R:fb)(K:KF)(a0:AV)(a1:Int)(a4 a5:AV)(H:AH):Prop:=R.2.2.2.2.1 a0 (.str 1 41) H λo1 H2=>cR K o1 H2 λv3=>R.1 a0 H2 λo4 H5=>cR K o4 H5 λv6=>aL 1 a5 λv7=>ag 1 v7 v6 H5 λH8=>R.2.2.2.2.1 a0 (.str 3 6581861) H8 λo9 bM=>cR K o9 bM λv11=>aQ 2 a5 bM λv12=>onVal v12 λxw=>hH xw 2 (bY (aP bM) 1 2 (spl xw [.ab,.ab] 0) λv14 eM=>one v14 (ag 7 a4 (.agg [(.int 0 (.ofNat 7)),(.int 0 a1),(.int 0 (.ofNat 0)),(.str 0 0),(.int 0 (.ofNat 0)),.ab,v14]) eM λiU=>aQ 7 a4 iU λv17=>K (.ret v17) iU))
theorem Pc{R:fb}(hR:lR R){K:KF}:DL K (uL R K):=λa0 a1 a4 a5 H h=>pk hR .nil h
def MG(R:fb)(K:KF):pM:=uL R K
theorem Pd{R:fb}(hR:lR R){K:KF}:DL K (MG R K):=Pc hR
def yw(R:fb)(K:KF)(x4 x1:pM)(a0:AV)(a1:Int)(a4 a5:AV)(a6:Bool)(H:AH):Prop:=bI a6 (R.2.2.2.1 a0 (.str 1 41) H λo1 H2=>cR K o1 H2 λv3=>bO v3 λz4=>bI (!z4) (aL 0 a5 λv5=>aC v5 H2 λv6=>cN v6 λv7=>cI 0 v7 λz8=>bI (bX z8 (.ofNat 16)) (R.2.1 a0 (.ofNat 8) H2 λo9 bM=>cR K o9 bM λv11=>x4 a0 a1 a4 a5 bM) (x4 a0 a1 a4 a5 H2)) (bI (!a6) (R.2.2.1 a0 (.str 1 44) H2 λUy fk=>cR K Uy fk λv14=>bO v14 λqc=>bI qc (aL 0 a5 λv16=>aC v16 fk λv17=>cN v17 λv18=>cI 0 v18 λmS=>bI (bX mS (.ofNat 16)) (R.2.1 a0 (.ofNat 8) fk λVk kC=>cR K Vk kC λv22=>x4 a0 a1 a4 a5 kC) (x4 a0 a1 a4 a5 fk)) (x1 a0 a1 a4 a5 fk)) (x1 a0 a1 a4 a5 H2))) (bI (!a6) (R.2.2.1 a0 (.str 1 44) H λBx ie=>cR K Bx ie λv25=>bO v25 λz26=>bI z26 (aL 0 a5 λv27=>aC v27 ie λv28=>cN v28 λv29=>cI 0 v29 λz30=>bI (bX z30 (.ofNat 16)) (R.2.1 a0 (.ofNat 8) ie λo31 lQ=>cR K o31 lQ λv33=>x4 a0 a1 a4 a5 lQ) (x4 a0 a1 a4 a5 ie)) (x1 a0 a1 a4 a5 ie)) (x1 a0 a1 a4 a5 H))
theorem Pe{R:fb}(hR:lR R){K:KF}{x4 x1:pM}(h4:DN K x4)(h1:DL K x1):mu K (yw R K x4 x1):=λa0 a1 a4 a5 a6 H h=>pk hR (cc h4 (cc h1 .nil)) h
def MH(R:fb)(K:KF)(i2:kr):kr:=yw R K (MF R K i2) (MG R K)
theorem Pf{R:fb}(hR:lR R){K:KF}{i2:kr}(g2:mu K i2):mu K (MH R K i2):=Pe hR (Pb hR g2) (Pd hR)
def oZ(R:fb)(K:KF)(n:Nat):kr:=Nat.rec (motive:=λ_=>kr) (λ_ _ _ _ _ _=>False) (λ_ i=>MH R K i) n
theorem Pg{R:fb}(hR:lR R){K:KF}(n:Nat):mu K (oZ R K n):=Nat.rec (motive:=λn=>mu K (oZ R K n)) (λa0 a1 a4 a5 a6 H h=>h.elim) (λn ih=>Pf hR ih) n
def DO(R:fb)(K:KF)(x2:kr)(a0:AV)(a1:Int)(H:AH):Prop:=cD H (dd gP (aP H) 49 λv1 H2=>cD H2 (fV (aP H2) [.ab,.ab] λv3 H4=>R.2.2.2.2.1 a0 (.str 1 40) H4 λo5 H6=>cR K o5 H6 λv7=>x2 a0 a1 v1 v3 true H6))
theorem Ph{R:fb}(hR:lR R){K:KF}{x2:kr}(h2:mu K x2)(a0:AV)(a1:Int)(H:AH)(h:DO R K x2 a0 a1 H):dD 131 K [] (bz (dt 131) [a0,(.int 0 a1)]) [] H:=pk hR (cc h2 .nil) h
def MI(R:fb)(K:KF):oh:=DO R K (oZ R K NL)
def sl(R:fb):AV→Int→AH→KF→Prop:=λa0 a1 H K=>MI R K a0 a1 H
theorem aac(R:fb)(hR:lR R):az gP 131 (ao [.a,.i 0] (sl R)):=rk λK a0 a1 H h=>Ph hR (Pg hR NL) a0 a1 H h
abbrev iD:Type:=(AV→AH→KF→Prop)×(AV→AV→AH→KF→Prop)×(AV→AH→KF→Prop)×(Int→Int→Int→AV→AV→AH→KF→Prop)
def ac9(R:iD):List (Nat×cW):=[(23,ao [.a] R.1),(56,ao [.a,.a] R.2.1),(163,ao [.a] R.2.2.1),(164,ao [.i 0,.i 0,.i 0,.a,.a] R.2.2.2)]
abbrev sn(R:iD):Prop:=ad gP (ac9 R)
abbrev DQ(K:KF)(F:bA):Prop:=bq 132 K [1,1,1] 21 [2,3] [.a,.a] F
abbrev o0(K:KF)(F:aJ):Prop:=bq 132 K [0,1,0,1,1] 21 [0,2,3,4] [.a,.a,.a,.i 0] F
def uM(R:iD)(K:KF)(a2 a3:AV)(H:AH):Prop:=aQ 7 a3 H λv1=>ag 7 a2 v1 H λH2=>aQ 7 a2 H2 λv3=>K (.ret v3) H2
theorem Pj{R:iD}(hR:sn R){K:KF}:DQ K (uM R K):=λa2 a3 H h=>pk hR .nil h
def MJ(R:iD)(K:KF):bA:=uM R K
theorem Pk{R:iD}(hR:sn R){K:KF}:DQ K (MJ R K):=Pj hR
def yx(R:iD)(K:KF)(x2:aJ)(x1:bA)(a0 a2 a3:AV)(a4:Int)(H:AH):Prop:=R.2.1 a0 (.str 2 29295) H λo1 H2=>cR K o1 H2 λv3=>bO v3 λz4=>bI z4 (aQ 7 a3 H2 λv5=>R.2.2.1 a0 H2 λo6 H7=>cR K o6 H7 λv8=>aQ 7 a3 H7 λv9=>bT (aT v9 v5) (R.2.2.2 (.ofNat 16) (.ofNat 0) a4 v5 v8 H7 λuI fD=>cR K uI fD λv12=>ag 7 a3 v12 fD λfk=>R.1 a0 fk λoD eM=>cR K oD eM λv16=>fQ v16 λl17=>cP l17 3 λv18=>cI 0 v18 λmS=>x2 a0 a2 a3 mS eM)) (x1 a2 a3 H2)
theorem Pl{R:iD}(hR:sn R){K:KF}{x2:aJ}{x1:bA}(h2:o0 K x2)(h1:DQ K x1):o0 K (yx R K x2 x1):=λa0 a2 a3 a4 H h=>pk hR (cc h2 (cc h1 .nil)) h
def MK(R:iD)(K:KF)(i2:aJ):aJ:=yx R K i2 (MJ R K)
theorem Pm{R:iD}(hR:sn R){K:KF}{i2:aJ}(g2:o0 K i2):o0 K (MK R K i2):=Pl hR g2 (Pk hR)
def rm(R:iD)(K:KF)(n:Nat):aJ:=Nat.rec (motive:=λ_=>aJ) (λ_ _ _ _ _=>False) (λ_ i=>MK R K i) n
theorem Pn{R:iD}(hR:sn R){K:KF}(n:Nat):o0 K (rm R K n):=Nat.rec (motive:=λn=>o0 K (rm R K n)) (λa0 a2 a3 a4 H h=>h.elim) (λn ih=>Pm hR ih) n
def yy(R:iD)(K:KF)(x2:aJ)(a0:AV)(H:AH):Prop:=cD H (dd gP (aP H) 49 λv1 H2=>R.2.2.1 a0 H2 λo3 H4=>cR K o3 H4 λv5=>cD H4 (dd gP (aP H4) 49 λv6 H7=>ag 7 v6 v5 H7 λH8=>R.1 a0 H8 λo9 bM=>cR K o9 bM λv11=>fQ v11 λl12=>cP l12 3 λv13=>cI 0 v13 λqe=>x2 a0 v1 v6 qe bM))
theorem Po{R:iD}(hR:sn R){K:KF}{x2:aJ}(h2:o0 K x2)(a0:AV)(H:AH)(h:yy R K x2 a0 H):dD 132 K [] (bz (dt 132) [a0]) [] H:=pk hR (cc h2 .nil) h
def ada(R:iD)(K:KF):Ta:=yy R K (rm R K NL)
def xx(R:iD):AV→AH→KF→Prop:=λa0 H K=>ada R K a0 H
theorem aad(R:iD)(hR:sn R):az gP 132 (ao [.a] (xx R)):=rk λK a0 H h=>Po hR (Pn hR NL) a0 H h
abbrev gn:Type:=(AV→AH→KF→Prop)×(AV→AV→AH→KF→Prop)×(AV→AV→AH→KF→Prop)×(AV→AH→KF→Prop)×(AV→AV→AH→KF→Prop)×(AV→AH→KF→Prop)×(Int→Int→Int→AV→AV→AH→KF→Prop)×(AV→AH→KF→Prop)×(AV→AH→KF→Prop)
def adb(R:gn):List (Nat×cW):=[(23,ao [.a] R.1),(56,ao [.a,.a] R.2.1),(94,ao [.a,.a] R.2.2.1),(97,ao [.a] R.2.2.2.1),(98,ao [.a,.a] R.2.2.2.2.1),(130,ao [.a] R.2.2.2.2.2.1),(164,ao [.i 0,.i 0,.i 0,.a,.a] R.2.2.2.2.2.2.1),(165,ao [.a] R.2.2.2.2.2.2.2.1),(166,ao [.a] R.2.2.2.2.2.2.2.2)]
abbrev oo(R:gn):Prop:=ad gP (adb R)
abbrev DS(K:KF)(F:bN):Prop:=bq 133 K [1,1,1] 57 [0,2,3] [.a,.a,.a] F
abbrev mv(K:KF)(F:bN):Prop:=bq 133 K [0,1,1,1] 57 [0,2,3] [.a,.a,.a] F
abbrev DU(K:KF)(F:Bi):Prop:=bq 133 K [1,1,0,1,0,1,0,0,0,1,1,1] 57 [0,2,3,4,5] [.a,.a,.a,.i 0,.a] F
def yz(R:gn)(K:KF)(x2:bN)(a0 a2 a3:AV)(a4:Int)(a5:AV)(H:AH):Prop:=aQ 7 a3 H λv1=>aQ 7 a5 H λv2=>R.2.2.2.2.2.2.1 (.ofNat 9) (.ofNat 0) a4 v1 v2 H λo3 H4=>cR K o3 H4 λv5=>ag 7 a3 v5 H4 λH6=>x2 a0 a2 a3 H6
theorem Pp{R:gn}(hR:oo R){K:KF}{x2:bN}(h2:mv K x2):DU K (yz R K x2):=λa0 a2 a3 a4 a5 H h=>pk hR (cc h2 .nil) h
def ML(R:gn)(K:KF)(i2:bN):Bi:=yz R K i2
theorem Pq{R:gn}(hR:oo R){K:KF}{i2:bN}(g2:mv K i2):DU K (ML R K i2):=Pp hR g2
def yA(R:gn)(K:KF)(x2:bN)(x3:Bi)(a0 a2 a3:AV)(H:AH):Prop:=R.1 a0 H λo1 H2=>cR K o1 H2 λv3=>fQ v3 λl4=>cP l4 3 λv5=>cI 0 v5 λz6=>R.2.1 a0 (.str 1 46) H2 λo7 H8=>cR K o7 H8 λv9=>bO v9 λz10=>bI z10 (R.1 a0 H8 λpZ dA=>cR K pZ dA λv13=>fQ v13 λl14=>cP l14 3 λv15=>cI 0 v15 λlO=>cD dA (dd gP (aP dA) 49 λv17 gm=>ag 7 v17 (.agg [(.int 0 (.ofNat 5)),(.int 0 lO),(.int 0 (.ofNat 0)),(.str 0 0),(.int 0 (.ofNat 0)),.ab,.ab]) gm λjN=>R.2.2.2.2.2.1 a0 jN λVk kC=>cR K Vk kC λv22=>aL 3 v17 λv23=>ag 1 v23 v22 kC λie=>x3 a0 a2 a3 z6 v17 ie)) (R.2.1 a0 (.str 1 91) H8 λo25 uK=>cR K o25 uK λv27=>bO v27 λz28=>bI z28 (aQ 7 a3 uK λv29=>R.2.2.2.1 a0 uK λIt oj=>cR K It oj λv32=>aQ 7 a3 oj λv33=>bT (aT v33 v29) (R.2.2.2.2.2.2.1 (.ofNat 9) (.ofNat 0) z6 v29 v32 oj λUd wK=>cR K Ud wK λv36=>ag 7 a3 v36 wK λH37=>R.2.2.2.2.1 a0 (.str 1 93) H37 λo38 H39=>cR K o38 H39 λv40=>x2 a0 a2 a3 H39)) (R.2.1 a0 (.str 1 40) uK λo41 qd=>cR K o41 qd λv43=>bO v43 λz44=>bI z44 (aQ 7 a3 qd λv45=>cS qd (onVal v45 λl46=>hH l46 7 (bY (aP qd) 1 7 (spl l46 [(.int 0 (.ofNat 0)),(.int 0 (.ofNat 0)),(.int 0 (.ofNat 0)),(.str 0 0),(.int 0 (.ofNat 0)),.ab,.ab] 0) λv47 tF=>bT (Nat.beq tF.n (Nat.succ qd.n)) (R.2.2.2.2.2.2.2.2 a0 tF λo49 Uz=>cR K o49 Uz λv51=>aQ 7 a3 Uz λv52=>bT (aT v52 v45) (ef 7 96 v47 v51 Uz λv53 Bz=>one v53 (ag 7 a3 (.agg [(.int 0 (.ofNat 10)),(.int 0 z6),(.int 0 (.ofNat 0)),(.str 0 0),(.int 0 (.ofNat 0)),v53,.ab]) Bz λH55=>x2 a0 a2 a3 H55)))))) (aQ 7 a3 qd λv56=>ag 7 a2 v56 qd λH57=>aQ 7 a2 H57 λv58=>K (.ret v58) H57)))
theorem Pr{R:gn}(hR:oo R){K:KF}{x2:bN}{x3:Bi}(h2:mv K x2)(h3:DU K x3):mv K (yA R K x2 x3):=λa0 a2 a3 H h=>pk hR (cc h2 (cc h3 .nil)) h
def MM(R:gn)(K:KF)(i2:bN):bN:=yA R K i2 (ML R K i2)
theorem Ps{R:gn}(hR:oo R){K:KF}{i2:bN}(g2:mv K i2):mv K (MM R K i2):=Pr hR g2 (Pq hR g2)
def pj(R:gn)(K:KF)(n:Nat):bN:=Nat.rec (motive:=λ_=>bN) (λ_ _ _ _=>False) (λ_ i=>MM R K i) n
theorem Pt{R:gn}(hR:oo R){K:KF}(n:Nat):mv K (pj R K n):=Nat.rec (motive:=λn=>mv K (pj R K n)) (λa0 a2 a3 H h=>h.elim) (λn ih=>Ps hR ih) n
def yB(R:gn)(K:KF)(x2:bN)(a0 a2 a3:AV)(H:AH):Prop:=x2 a0 a2 a3 H
theorem Pu{R:gn}(hR:oo R){K:KF}{x2:bN}(h2:mv K x2):DS K (yB R K x2):=λa0 a2 a3 H h=>pk hR (cc h2 .nil) h
def DV(R:gn)(K:KF):bN:=yB R K (pj R K NL)
theorem Pv{R:gn}(hR:oo R){K:KF}:DS K (DV R K):=Pu hR (Pt hR NL)
def DW(R:gn)(K:KF)(x1:bN)(a0:AV)(H:AH):Prop:=cD H (dd gP (aP H) 49 λv1 H2=>R.1 a0 H2 λo3 H4=>cR K o3 H4 λv5=>fQ v5 λl6=>cP l6 0 λv7=>cI 0 v7 λz8=>bI (!(bX z8 (.ofNat 2))) (R.2.2.1 a0 (.str 1 40) H4 λo9 bM=>cR K o9 bM λv11=>bO v11 λz12=>bI (!z12) (R.2.2.2.2.2.2.2.1 a0 bM λkT dL=>cR K kT dL λv15=>ag 7 v1 v15 dL λiU=>aQ 7 v1 iU λv17=>K (.ret v17) iU) (R.2.2.2.2.2.2.2.1 a0 bM λJb jN=>cR K Jb jN λv20=>cD jN (dd gP (aP jN) 49 λv21 iC=>ag 7 v21 v20 iC λtE=>x1 a0 v1 v21 tE))) (R.2.2.2.2.2.2.2.1 a0 H4 λJe kN=>cR K Je kN λv26=>cD kN (dd gP (aP kN) 49 λv27 sj=>ag 7 v27 v26 sj λVd=>x1 a0 v1 v27 Vd)))
theorem Pw{R:gn}(hR:oo R){K:KF}{x1:bN}(h1:DS K x1)(a0:AV)(H:AH)(h:DW R K x1 a0 H):dD 133 K [] (bz (dt 133) [a0]) [] H:=pk hR (cc h1 .nil) h
def MN(R:gn)(K:KF):Ta:=DW R K (DV R K)
def so(R:gn):AV→AH→KF→Prop:=λa0 H K=>MN R K a0 H
theorem aae(R:gn)(hR:oo R):az gP 133 (ao [.a] (so R)):=rk λK a0 H h=>Pw hR (Pv hR) a0 H h
abbrev iE:Type:=(AV→AH→KF→Prop)×(AV→AV→AH→KF→Prop)×(Int→Int→Int→AV→AV→AH→KF→Prop)×(AV→AH→KF→Prop)
def ade(R:iE):List (Nat×cW):=[(23,ao [.a] R.1),(56,ao [.a,.a] R.2.1),(164,ao [.i 0,.i 0,.i 0,.a,.a] R.2.2.1),(184,ao [.a] R.2.2.2)]
abbrev sq(R:iE):Prop:=ad gP (ade R)
abbrev DX(K:KF)(F:bA):Prop:=bq 163 K [1,1,1] 21 [2,3] [.a,.a] F
abbrev pn(K:KF)(F:aJ):Prop:=bq 163 K [0,1,0,1,1] 21 [0,2,3,4] [.a,.a,.a,.i 0] F
def uN(R:iE)(K:KF)(a2 a3:AV)(H:AH):Prop:=aQ 7 a3 H λv1=>ag 7 a2 v1 H λH2=>aQ 7 a2 H2 λv3=>K (.ret v3) H2
theorem Px{R:iE}(hR:sq R){K:KF}:DX K (uN R K):=λa2 a3 H h=>pk hR .nil h
def MO(R:iE)(K:KF):bA:=uN R K
theorem Py{R:iE}(hR:sq R){K:KF}:DX K (MO R K):=Px hR
def yC(R:iE)(K:KF)(x2:aJ)(x1:bA)(a0 a2 a3:AV)(a4:Int)(H:AH):Prop:=R.2.1 a0 (.str 3 6581857) H λo1 H2=>cR K o1 H2 λv3=>bO v3 λz4=>bI z4 (aQ 7 a3 H2 λv5=>R.2.2.2 a0 H2 λo6 H7=>cR K o6 H7 λv8=>aQ 7 a3 H7 λv9=>bT (aT v9 v5) (R.2.2.1 (.ofNat 15) (.ofNat 0) a4 v5 v8 H7 λuI fD=>cR K uI fD λv12=>ag 7 a3 v12 fD λfk=>R.1 a0 fk λoD eM=>cR K oD eM λv16=>fQ v16 λl17=>cP l17 3 λv18=>cI 0 v18 λmS=>x2 a0 a2 a3 mS eM)) (x1 a2 a3 H2)
theorem Pz{R:iE}(hR:sq R){K:KF}{x2:aJ}{x1:bA}(h2:pn K x2)(h1:DX K x1):pn K (yC R K x2 x1):=λa0 a2 a3 a4 H h=>pk hR (cc h2 (cc h1 .nil)) h
def MP(R:iE)(K:KF)(i2:aJ):aJ:=yC R K i2 (MO R K)
theorem PA{R:iE}(hR:sq R){K:KF}{i2:aJ}(g2:pn K i2):pn K (MP R K i2):=Pz hR g2 (Py hR)
def rn(R:iE)(K:KF)(n:Nat):aJ:=Nat.rec (motive:=λ_=>aJ) (λ_ _ _ _ _=>False) (λ_ i=>MP R K i) n
theorem PB{R:iE}(hR:sq R){K:KF}(n:Nat):pn K (rn R K n):=Nat.rec (motive:=λn=>pn K (rn R K n)) (λa0 a2 a3 a4 H h=>h.elim) (λn ih=>PA hR ih) n
def yD(R:iE)(K:KF)(x2:aJ)(a0:AV)(H:AH):Prop:=cD H (dd gP (aP H) 49 λv1 H2=>R.2.2.2 a0 H2 λo3 H4=>cR K o3 H4 λv5=>cD H4 (dd gP (aP H4) 49 λv6 H7=>ag 7 v6 v5 H7 λH8=>R.1 a0 H8 λo9 bM=>cR K o9 bM λv11=>fQ v11 λl12=>cP l12 3 λv13=>cI 0 v13 λqe=>x2 a0 v1 v6 qe bM))
theorem PC{R:iE}(hR:sq R){K:KF}{x2:aJ}(h2:pn K x2)(a0:AV)(H:AH)(h:yD R K x2 a0 H):dD 163 K [] (bz (dt 163) [a0]) [] H:=pk hR (cc h2 .nil) h
def adf(R:iE)(K:KF):Ta:=yD R K (rn R K NL)
def xy(R:iE):AV→AH→KF→Prop:=λa0 H K=>adf R K a0 H
theorem aaf(R:iE)(hR:sq R):az gP 163 (ao [.a] (xy R)):=rk λK a0 H h=>PC hR (PB hR NL) a0 H h
abbrev jF:Type:=(AV→AH→KF→Prop)×(AV→Int→AH→KF→Prop)×(AV→AV→AH→KF→Prop)×(AV→AV→AH→KF→Prop)×(AV→AH→KF→Prop)×(AV→AV→AH→KF→Prop)×(AV→Int→AH→KF→Prop)×(AV→Int→AH→KF→Prop)
def adg(R:jF):List (Nat×cW):=[(23,ao [.a] R.1),(25,ao [.a,.i 0] R.2.1),(56,ao [.a,.a] R.2.2.1),(94,ao [.a,.a] R.2.2.2.1),(97,ao [.a] R.2.2.2.2.1),(98,ao [.a,.a] R.2.2.2.2.2.1),(131,ao [.a,.i 0] R.2.2.2.2.2.2.1),(185,ao [.a,.i 0] R.2.2.2.2.2.2.2)]
abbrev uO(R:jF):Prop:=ad gP (adg R)
abbrev DY(K:KF)(F:bN):Prop:=bq 165 K [1,1,1,1] 78 [0,2,4] [.a,.a,.a] F
abbrev DZ(K:KF)(F:bN):Prop:=bq 165 K [1,0,1,1,1,1,1,1,1,1,1,1,1,1,1,1,1,1,1,0,0,1,1,1] 78 [0,2,4] [.a,.a,.a] F
def D0(R:jF)(K:KF)(a0 a2 a4:AV)(H:AH):Prop:=R.2.2.2.2.2.1 a0 (.str 1 41) H λo1 H2=>cR K o1 H2 λv3=>aQ 7 a4 H2 λv4=>ag 7 a2 v4 H2 λH5=>aQ 7 a2 H5 λv6=>K (.ret v6) H5
theorem PD{R:jF}(hR:uO R){K:KF}:DZ K (D0 R K):=λa0 a2 a4 H h=>pk hR .nil h
def D1(R:jF)(K:KF):bN:=D0 R K
theorem PE{R:jF}(hR:uO R){K:KF}:DZ K (D1 R K):=PD hR
def D2(R:jF)(K:KF)(a0 a2 a4:AV)(H:AH):Prop:=cK a0 (aL 1 a0 λv1=>aC v1 H λv2=>cI 0 v2 λz3=>bg 0 (Int.add z3 (.ofNat 1)) λz4=>cK a0 (aL 1 a0 λv5=>ag 1 v5 (.int 0 z4) H λH6=>aQ 7 a4 H6 λv7=>ag 7 a2 v7 H6 λH8=>aQ 7 a2 H8 λv9=>K (.ret v9) H8))
theorem PG{R:jF}(hR:uO R){K:KF}:DY K (D2 R K):=λa0 a2 a4 H h=>pk hR .nil h
def uP(R:jF)(K:KF):bN:=D2 R K
theorem PH{R:jF}(hR:uO R){K:KF}:DY K (uP R K):=PG hR
def D3(R:jF)(K:KF)(x2 x1:bN)(a0:AV)(H:AH):Prop:=cD H (dd gP (aP H) 49 λv1 H2=>R.1 a0 H2 λo3 H4=>cR K o3 H4 λv5=>cD H4 (fV (aP H4) [(.int 0 (.ofNat 0)),(.str 0 0),(.int 0 (.ofNat 0)),(.int 0 (.ofNat 0))] λv6 H7=>ag 4 v6 v5 H7 λH8=>aL 3 v6 λv9=>aC v9 H8 λv10=>cI 0 v10 λz11=>cD H8 (dd gP (aP H8) 49 λv12 fk=>ag 7 v12 (.agg [(.int 0 (.ofNat 0)),(.int 0 z11),(.int 0 (.ofNat 0)),(.str 0 0),(.int 0 (.ofNat 0)),.ab,.ab]) fk λdL=>aL 0 v6 λv15=>aC v15 dL λv16=>cI 0 v16 λz17=>bI (bX z17 (.ofNat 3)) (aL 2 v6 λv18=>aC v18 dL λv19=>cI 0 v19 λz20=>aL 0 v12 λv21=>ag 1 v21 (.int 0 (.ofNat 4)) dL λiC=>aC v18 iC λv23=>cI 0 v23 λz24=>bT (aT (.int 0 z24) (.int 0 z20)) (aL 2 v12 λv25=>ag 1 v25 (.int 0 z20) iC λuK=>x1 a0 v1 v12 uK)) (aL 0 v6 λv27=>aC v27 dL λv28=>cI 0 v28 λz29=>bI (bX z29 (.ofNat 4)) (aL 1 v6 λv30=>aC v30 dL λv31=>aL 0 v12 λv32=>ag 1 v32 (.int 0 (.ofNat 5)) dL λH33=>aC v30 H33 λv34=>bT (aT v34 v31) (aL 3 v12 λv35=>ag 1 v35 v31 H33 λH36=>x1 a0 v1 v12 H36)) (aL 0 v6 λv37=>aC v37 dL λv38=>cI 0 v38 λz39=>bI (bX z39 (.ofNat 2)) (aL 1 v6 λv40=>aC v40 dL λv41=>aL 0 v12 λv42=>ag 1 v42 (.int 0 (.ofNat 6)) dL λwL=>aC v40 wL λv44=>bT (aT v44 v41) (aL 3 v12 λv45=>ag 1 v45 v41 wL λH46=>x1 a0 v1 v12 H46)) (R.2.2.2.1 a0 (.str 3 7104878) dL λo47 tF=>cR K o47 tF λv49=>bO v49 λz50=>bI z50 (aL 0 v12 λv51=>ag 1 v51 (.int 0 (.ofNat 1)) tF λUA=>x1 a0 v1 v12 UA) (R.2.2.2.1 a0 (.str 4 1702195828) tF λo53 Bz=>cR K o53 Bz λv55=>bO v55 λz56=>bI z56 (aL 0 v12 λv57=>ag 1 v57 (.int 0 (.ofNat 2)) Bz λH58=>x1 a0 v1 v12 H58) (R.2.2.2.1 a0 (.str 5 435728179558) Bz λo59 H60=>cR K o59 H60 λv61=>bO v61 λz62=>bI z62 (aL 0 v12 λv63=>ag 1 v63 (.int 0 (.ofNat 3)) H60 λH64=>x1 a0 v1 v12 H64) (R.2.2.1 a0 (.str 8 7957695015192261990) H60 λo65 H66=>cR K o65 H66 λv67=>bO v67 λz68=>bI z68 (aL 3 v6 λv69=>aC v69 H66 λv70=>cI 0 v70 λz71=>R.2.2.2.2.2.2.1 a0 z71 H66 λo72 Vl=>cR K o72 Vl λv74=>ag 7 v1 v74 Vl λVm=>aQ 7 v1 Vm λv76=>K (.ret v76) Vm) (R.2.2.1 a0 (.str 1 123) H66 λo77 MB=>cR K o77 MB λv79=>bO v79 λz80=>bI z80 (aL 3 v6 λv81=>aC v81 MB λv82=>cI 0 v82 λz83=>R.2.2.2.2.2.2.2 a0 z83 MB λo84 H85=>cR K o84 H85 λv86=>ag 7 v1 v86 H85 λH87=>aQ 7 v1 H87 λv88=>K (.ret v88) H87) (R.2.2.1 a0 (.str 1 40) MB λo89 H90=>cR K o89 H90 λv91=>bO v91 λz92=>bI z92 (R.2.2.2.2.1 a0 H90 λo93 H94=>cR K o93 H94 λv95=>ag 7 v12 v95 H94 λH96=>x2 a0 v1 v12 H96) (R.2.1 a0 (.ofNat 14) H90 λo97 H98=>cR K o97 H98 λv99=>x1 a0 v1 v12 H98))))))))))))
theorem PI{R:jF}(hR:uO R){K:KF}{x2 x1:bN}(h2:DZ K x2)(h1:DY K x1)(a0:AV)(H:AH)(h:D3 R K x2 x1 a0 H):dD 165 K [] (bz (dt 165) [a0]) [] H:=pk hR (cc h2 (cc h1 .nil)) h
def MQ(R:jF)(K:KF):Ta:=D3 R K (D1 R K) (uP R K)
def sr(R:jF):AV→AH→KF→Prop:=λa0 H K=>MQ R K a0 H
theorem aag(R:jF)(hR:uO R):az gP 165 (ao [.a] (sr R)):=rk λK a0 H h=>PI hR (PE hR) (PH hR) a0 H h
abbrev fc:Type:=(AV→Int→AH→KF→Prop)×(AV→AV→AH→KF→Prop)×(AV→AV→AH→KF→Prop)×(AV→AH→KF→Prop)×(AV→AV→AH→KF→Prop)
def adh(R:fc):List (Nat×cW):=[(25,ao [.a,.i 0] R.1),(56,ao [.a,.a] R.2.1),(94,ao [.a,.a] R.2.2.1),(97,ao [.a] R.2.2.2.1),(98,ao [.a,.a] R.2.2.2.2)]
abbrev lS(R:fc):Prop:=ad gP (adh R)
abbrev D4(K:KF)(F:bA):Prop:=bq 166 K [1,1,1] 32 [0,3] [.a,.a] F
abbrev mw(K:KF)(F:og):Prop:=bq 166 K [0,1,0,1,1] 32 [0,3,4] [.a,.a,.b] F
abbrev D5(K:KF)(F:bA):Prop:=bq 166 K [1,1,0,0,1,0,1,1] 32 [0,3] [.a,.a] F
abbrev D6(K:KF)(F:bA):Prop:=bq 166 K [1,0,0,1,0,0,1,0,1,1] 32 [0,3] [.a,.a] F
def rp(R:fc)(K:KF)(x2:og)(a0 a3:AV)(H:AH):Prop:=x2 a0 a3 false H
theorem PJ{R:fc}(hR:lS R){K:KF}{x2:og}(h2:mw K x2):D5 K (rp R K x2):=λa0 a3 H h=>pk hR (cc h2 .nil) h
def MS(R:fc)(K:KF)(i2:og):bA:=rp R K i2
theorem PK{R:fc}(hR:lS R){K:KF}{i2:og}(g2:mw K i2):D5 K (MS R K i2):=PJ hR g2
def rq(R:fc)(K:KF)(x3:bA)(a0 a3:AV)(H:AH):Prop:=R.2.2.2.1 a0 H λo1 H2=>cR K o1 H2 λv3=>onVal v3 λl4=>hH l4 7 (bY (aP H2) 1 7 (spl l4 [(.int 0 (.ofNat 0)),(.int 0 (.ofNat 0)),(.int 0 (.ofNat 0)),(.str 0 0),(.int 0 (.ofNat 0)),.ab,.ab] 0) λv5 H6=>ef 7 96 a3 v5 H6 λv7 H8=>x3 a0 v7 H8)
theorem PL{R:fc}(hR:lS R){K:KF}{x3:bA}(h3:D5 K x3):D6 K (rq R K x3):=λa0 a3 H h=>pk hR (cc h3 .nil) h
def MT(R:fc)(K:KF)(i2:og):bA:=rq R K (MS R K i2)
theorem PM{R:fc}(hR:lS R){K:KF}{i2:og}(g2:mw K i2):D6 K (MT R K i2):=PL hR (PK hR g2)
def uQ(R:fc)(K:KF)(a0 a3:AV)(H:AH):Prop:=R.2.2.2.2 a0 (.str 1 41) H λo1 H2=>cR K o1 H2 λv3=>K (.ret a3) H2
theorem PN{R:fc}(hR:lS R){K:KF}:D4 K (uQ R K):=λa0 a3 H h=>pk hR .nil h
def MU(R:fc)(K:KF):bA:=uQ R K
theorem PO{R:fc}(hR:lS R){K:KF}:D4 K (MU R K):=PN hR
def yE(R:fc)(K:KF)(x4 x1:bA)(a0 a3:AV)(a4:Bool)(H:AH):Prop:=bI a4 (R.2.2.1 a0 (.str 1 41) H λo1 H2=>cR K o1 H2 λv3=>bO v3 λz4=>bI (!z4) (cN a3 λv5=>cI 0 v5 λz6=>bI (bX z6 (.ofNat 16)) (R.1 a0 (.ofNat 8) H2 λo7 H8=>cR K o7 H8 λv9=>x4 a0 a3 H8) (x4 a0 a3 H2)) (bI (!a4) (R.2.1 a0 (.str 1 44) H2 λuI fD=>cR K uI fD λv12=>bO v12 λz13=>bI z13 (cN a3 λv14=>cI 0 v14 λqc=>bI (bX qc (.ofNat 16)) (R.1 a0 (.ofNat 8) fD λo16 jl=>cR K o16 jl λv18=>x4 a0 a3 jl) (x4 a0 a3 fD)) (x1 a0 a3 fD)) (x1 a0 a3 H2))) (bI (!a4) (R.2.1 a0 (.str 1 44) H λIN jj=>cR K IN jj λv21=>bO v21 λz22=>bI z22 (cN a3 λv23=>cI 0 v23 λz24=>bI (bX z24 (.ofNat 16)) (R.1 a0 (.ofNat 8) jj λo25 uK=>cR K o25 uK λv27=>x4 a0 a3 uK) (x4 a0 a3 jj)) (x1 a0 a3 jj)) (x1 a0 a3 H))
theorem PQ{R:fc}(hR:lS R){K:KF}{x4 x1:bA}(h4:D6 K x4)(h1:D4 K x1):mw K (yE R K x4 x1):=λa0 a3 a4 H h=>pk hR (cc h4 (cc h1 .nil)) h
def MV(R:fc)(K:KF)(i2:og):og:=yE R K (MT R K i2) (MU R K)
theorem PR{R:fc}(hR:lS R){K:KF}{i2:og}(g2:mw K i2):mw K (MV R K i2):=PQ hR (PM hR g2) (PO hR)
def po(R:fc)(K:KF)(n:Nat):og:=Nat.rec (motive:=λ_=>og) (λ_ _ _ _=>False) (λ_ i=>MV R K i) n
theorem PT{R:fc}(hR:lS R){K:KF}(n:Nat):mw K (po R K n):=Nat.rec (motive:=λn=>mw K (po R K n)) (λa0 a3 a4 H h=>h.elim) (λn ih=>PR hR ih) n
def D7(R:fc)(K:KF)(x2:og)(a0:AV)(H:AH):Prop:=x2 a0 .ab true H
theorem PU{R:fc}(hR:lS R){K:KF}{x2:og}(h2:mw K x2)(a0:AV)(H:AH)(h:D7 R K x2 a0 H):dD 166 K [] (bz (dt 166) [a0]) [] H:=pk hR (cc h2 .nil) h
def MW(R:fc)(K:KF):Ta:=D7 R K (po R K NL)
def sv(R:fc):AV→AH→KF→Prop:=λa0 H K=>MW R K a0 H
theorem aah(R:fc)(hR:lS R):az gP 166 (ao [.a] (sv R)):=rk λK a0 H h=>PU hR (PT hR NL) a0 H h
abbrev ks:Type:=(AV→AH→KF→Prop)×(Int→Int→Int→AV→AV→AH→KF→Prop)×(AV→AH→KF→Prop)×(AV→Int→AV→AH→KF→Prop)
def adi(R:ks):List (Nat×cW):=[(23,ao [.a] R.1),(164,ao [.i 0,.i 0,.i 0,.a,.a] R.2.1),(192,ao [.a] R.2.2.1),(193,ao [.a,.i 0,.a] R.2.2.2)]
abbrev xz(R:ks):Prop:=ad gP (adi R)
abbrev pq(K:KF)(F:bN):Prop:=bq 184 K [0,1,1] 23 [0,2,3] [.a,.a,.a] F
def yF(R:ks)(K:KF)(x1:bN)(a0 a2 a3:AV)(H:AH):Prop:=R.1 a0 H λo1 H2=>cR K o1 H2 λv3=>fQ v3 λl4=>cP l4 3 λv5=>cI 0 v5 λz6=>bY (aP H2) 6 1 [(.str 2 15677),(.str 2 15742),(.str 1 60),(.str 2 15676),(.str 1 62),(.str 2 15678)] λv7 H8=>R.2.2.2 a0 (.ofNat 7) v7 H8 λo9 bM=>cR K o9 bM λv11=>cI 0 v11 λz12=>bI (bX z12 (.ofNat 0)) (aQ 7 a3 bM λv13=>ag 7 a2 v13 bM λdL=>aQ 7 a2 dL λv15=>K (.ret v15) dL) (aQ 7 a3 bM λv16=>R.2.2.1 a0 bM λoi gm=>cR K oi gm λv19=>aQ 7 a3 gm λv20=>bT (aT v20 v16) (R.2.1 (.ofNat 14) z12 z6 v16 v19 gm λuR iC=>cR K uR iC λv23=>ag 7 a3 v23 iC λie=>x1 a0 a2 a3 ie))
theorem PV{R:ks}(hR:xz R){K:KF}{x1:bN}(h1:pq K x1):pq K (yF R K x1):=λa0 a2 a3 H h=>pk hR (cc h1 .nil) h
def MX(R:ks)(K:KF)(i1:bN):bN:=yF R K i1
theorem PW{R:ks}(hR:xz R){K:KF}{i1:bN}(g1:pq K i1):pq K (MX R K i1):=PV hR g1
def rr(R:ks)(K:KF)(n:Nat):bN:=Nat.rec (motive:=λ_=>bN) (λ_ _ _ _=>False) (λ_ i=>MX R K i) n
theorem PX{R:ks}(hR:xz R){K:KF}(n:Nat):pq K (rr R K n):=Nat.rec (motive:=λn=>pq K (rr R K n)) (λa0 a2 a3 H h=>h.elim) (λn ih=>PW hR ih) n
def yG(R:ks)(K:KF)(x1:bN)(a0:AV)(H:AH):Prop:=cD H (dd gP (aP H) 49 λv1 H2=>R.2.2.1 a0 H2 λo3 H4=>cR K o3 H4 λv5=>cD H4 (dd gP (aP H4) 49 λv6 H7=>ag 7 v6 v5 H7 λH8=>x1 a0 v1 v6 H8))
theorem PY{R:ks}(hR:xz R){K:KF}{x1:bN}(h1:pq K x1)(a0:AV)(H:AH)(h:yG R K x1 a0 H):dD 184 K [] (bz (dt 184) [a0]) [] H:=pk hR (cc h1 .nil) h
def adj(R:ks)(K:KF):Ta:=yG R K (rr R K NL)
def xA(R:ks):AV→AH→KF→Prop:=λa0 H K=>adj R K a0 H
theorem aai(R:ks)(hR:xz R):az gP 184 (ao [.a] (xA R)):=rk λK a0 H h=>PY hR (PX hR NL) a0 H h
abbrev gp:Type:=(AV→Int→AH→KF→Prop)×(AV→AV→AH→KF→Prop)×(AV→AV→AH→KF→Prop)×(AV→AV→AH→KF→Prop)×(AV→AV→AH→KF→Prop)
def adk(R:gp):List (Nat×cW):=[(25,ao [.a,.i 0] R.1),(56,ao [.a,.a] R.2.1),(94,ao [.a,.a] R.2.2.1),(98,ao [.a,.a] R.2.2.2.1),(194,ao [.a,.a] R.2.2.2.2)]
abbrev oq(R:gp):Prop:=ad gP (adk R)
abbrev yH(K:KF)(F:bN):Prop:=bq 185 K [1,1,1,1] 35 [0,4,5] [.a,.a,.a] F
abbrev nI(K:KF)(F:gT):Prop:=bq 185 K [0,0,1,1,1] 35 [0,4,5,6] [.a,.a,.a,.a] F
abbrev D8(K:KF)(F:gT):Prop:=bq 185 K [1,0,1,0,0,0,1,1,1] 35 [0,4,5,6] [.a,.a,.a,.a] F
def ru(R:gp)(K:KF)(a0 a4 a5:AV)(H:AH):Prop:=R.2.2.2.1 a0 (.str 1 125) H λo1 H2=>cR K o1 H2 λv3=>aQ 7 a5 H2 λv4=>ag 7 a4 v4 H2 λH5=>aQ 7 a4 H5 λv6=>K (.ret v6) H5
theorem PZ{R:gp}(hR:oq R){K:KF}:yH K (ru R K):=λa0 a4 a5 H h=>pk hR .nil h
def D9(R:gp)(K:KF):bN:=ru R K
theorem BI{R:gp}(hR:oq R){K:KF}:yH K (D9 R K):=PZ hR
def yI(R:gp)(K:KF)(x2:gT)(x1:bN)(a0 a4 a5 a6:AV)(H:AH):Prop:=aL 5 a5 λv1=>aC v1 H λv2=>R.2.2.2.2 a0 a6 H λo3 H4=>cR K o3 H4 λv5=>aC v1 H4 λv6=>bT (aT v6 v2) (ef 7 96 v2 v5 H4 λv7 H8=>aL 5 a5 λv9=>ag 1 v9 v7 H8 λbM=>R.2.1 a0 (.str 1 44) bM λpZ dA=>cR K pZ dA λv13=>bO v13 λqe=>bI (!qe) (R.2.1 a0 (.str 1 59) dA λwM iU=>cR K wM iU λv17=>bO v17 λBJ=>bI (!BJ) (x1 a0 a4 a5 iU) (x2 a0 a4 a5 a6 iU)) (x2 a0 a4 a5 a6 dA))
theorem P0{R:gp}(hR:oq R){K:KF}{x2:gT}{x1:bN}(h2:nI K x2)(h1:yH K x1):D8 K (yI R K x2 x1):=λa0 a4 a5 a6 H h=>pk hR (cc h2 (cc h1 .nil)) h
def MY(R:gp)(K:KF)(i2:gT):gT:=yI R K i2 (D9 R K)
theorem P1{R:gp}(hR:oq R){K:KF}{i2:gT}(g2:nI K i2):D8 K (MY R K i2):=P0 hR g2 (BI hR)
def yJ(R:gp)(K:KF)(x3:gT)(x1:bN)(a0 a4 a5 a6:AV)(H:AH):Prop:=R.2.2.1 a0 (.str 1 125) H λo1 H2=>cR K o1 H2 λv3=>bO v3 λz4=>bI (!z4) (aL 5 a5 λv5=>aC v5 H2 λv6=>cN v6 λv7=>cI 0 v7 λz8=>bI (bX z8 (.ofNat 128)) (R.1 a0 (.ofNat 8) H2 λo9 bM=>cR K o9 bM λv11=>x3 a0 a4 a5 a6 bM) (x3 a0 a4 a5 a6 H2)) (x1 a0 a4 a5 H2)
theorem P2{R:gp}(hR:oq R){K:KF}{x3:gT}{x1:bN}(h3:D8 K x3)(h1:yH K x1):nI K (yJ R K x3 x1):=λa0 a4 a5 a6 H h=>pk hR (cc h3 (cc h1 .nil)) h
def MZ(R:gp)(K:KF)(i2:gT):gT:=yJ R K (MY R K i2) (D9 R K)
theorem P3{R:gp}(hR:oq R){K:KF}{i2:gT}(g2:nI K i2):nI K (MZ R K i2):=P2 hR (P1 hR g2) (BI hR)
def rv(R:gp)(K:KF)(n:Nat):gT:=Nat.rec (motive:=λ_=>gT) (λ_ _ _ _ _=>False) (λ_ i=>MZ R K i) n
theorem P4{R:gp}(hR:oq R){K:KF}(n:Nat):nI K (rv R K n):=Nat.rec (motive:=λn=>nI K (rv R K n)) (λa0 a4 a5 a6 H h=>h.elim) (λn ih=>P3 hR ih) n
def Ea(R:gp)(K:KF)(x2:gT)(a0:AV)(a1:Int)(H:AH):Prop:=cD H (dd gP (aP H) 49 λv1 H2=>cD H2 (dd gP (aP H2) 49 λv3 H4=>ag 7 v3 (.agg [(.int 0 (.ofNat 8)),(.int 0 a1),(.int 0 (.ofNat 0)),(.str 0 0),(.int 0 (.ofNat 0)),.ab,.ab]) H4 λH5=>cD H5 (fV (aP H5) [(.int 0 (.ofNat 0))] λv6 H7=>ag 1 v6 (.int 0 (.ofNat 0)) H7 λH8=>x2 a0 v1 v3 v6 H8)))
theorem P5{R:gp}(hR:oq R){K:KF}{x2:gT}(h2:nI K x2)(a0:AV)(a1:Int)(H:AH)(h:Ea R K x2 a0 a1 H):dD 185 K [] (bz (dt 185) [a0,(.int 0 a1)]) [] H:=pk hR (cc h2 .nil) h
def M0(R:gp)(K:KF):oh:=Ea R K (rv R K NL)
def sw(R:gp):AV→Int→AH→KF→Prop:=λa0 a1 H K=>M0 R K a0 a1 H
theorem aaj(R:gp)(hR:oq R):az gP 185 (ao [.a,.i 0] (sw R)):=rk λK a0 a1 H h=>P5 hR (P4 hR NL) a0 a1 H h
abbrev lk:Type:=(AV→AH→KF→Prop)×(AV→AH→KF→Prop)×(AV→AV→AH→KF→Prop)×(Int→Int→Int→AV→AV→AH→KF→Prop)×(AV→AH→KF→Prop)×(AV→AH→KF→Prop)
def adl(R:lk):List (Nat×cW):=[(23,ao [.a] R.1),(53,ao [.a] R.2.1),(56,ao [.a,.a] R.2.2.1),(164,ao [.i 0,.i 0,.i 0,.a,.a] R.2.2.2.1),(192,ao [.a] R.2.2.2.2.1),(199,ao [.a] R.2.2.2.2.2)]
abbrev BK(R:lk):Prop:=ad gP (adl R)
abbrev Eb(K:KF)(F:bN):Prop:=bq 192 K [1,1,1,1,1,1] 29 [0,2,3] [.a,.a,.a] F
def uS(R:lk)(K:KF)(a0 a2 a3:AV)(H:AH):Prop:=cK a0 (aL 2 a0 λv1=>aC v1 H λv2=>cI 0 v2 λz3=>bg 0 (Int.sub z3 (.ofNat 1)) λz4=>cK a0 (aL 2 a0 λv5=>ag 1 v5 (.int 0 z4) H λH6=>aQ 7 a3 H6 λv7=>ag 7 a2 v7 H6 λH8=>aQ 7 a2 H8 λv9=>K (.ret v9) H8))
theorem P6{R:lk}(hR:BK R){K:KF}:Eb K (uS R K):=λa0 a2 a3 H h=>pk hR .nil h
def M3(R:lk)(K:KF):bN:=uS R K
theorem P7{R:lk}(hR:BK R){K:KF}:Eb K (M3 R K):=P6 hR
def yK(R:lk)(K:KF)(x1:bN)(a0:AV)(H:AH):Prop:=cD H (dd gP (aP H) 49 λv1 H2=>R.2.2.2.2.2 a0 H2 λo3 H4=>cR K o3 H4 λv5=>cD H4 (dd gP (aP H4) 49 λv6 H7=>ag 7 v6 v5 H7 λH8=>R.1 a0 H8 λo9 bM=>cR K o9 bM λv11=>fQ v11 λl12=>cP l12 3 λv13=>cI 0 v13 λqe=>R.2.2.1 a0 (.str 2 11822) bM λwM iU=>cR K wM iU λv17=>bO v17 λBJ=>bI (!BJ) (aQ 7 v6 iU λv19=>ag 7 v1 v19 iU λjj=>aQ 7 v1 jj λv21=>K (.ret v21) jj) (R.2.1 a0 iU λo22 tE=>cR K o22 tE λv24=>aQ 7 v6 tE λv25=>R.2.2.2.2.1 a0 tE λUk nF=>cR K Uk nF λv28=>aQ 7 v6 nF λv29=>bT (aT v29 v25) (R.2.2.2.1 (.ofNat 14) (.ofNat 6) qe v25 v28 nF λIt oj=>cR K It oj λv32=>ag 7 v6 v32 oj λH33=>x1 a0 v1 v6 H33))))
theorem P8{R:lk}(hR:BK R){K:KF}{x1:bN}(h1:Eb K x1)(a0:AV)(H:AH)(h:yK R K x1 a0 H):dD 192 K [] (bz (dt 192) [a0]) [] H:=pk hR (cc h1 .nil) h
def adm(R:lk)(K:KF):Ta:=yK R K (M3 R K)
def xB(R:lk):AV→AH→KF→Prop:=λa0 H K=>adm R K a0 H
theorem aak(R:lk)(hR:BK R):az gP 192 (ao [.a] (xB R)):=rk λK a0 H h=>P8 hR (P7 hR) a0 H h
abbrev fJ:Type:=(AV→AH→KF→Prop)×(AV→AV→AH→KF→Prop)×(AV→AH→KF→Prop)×(AV→AV→AH→KF→Prop)
def adn(R:fJ):List (Nat×cW):=[(23,ao [.a] R.1),(56,ao [.a,.a] R.2.1),(97,ao [.a] R.2.2.1),(98,ao [.a,.a] R.2.2.2)]
abbrev mT(R:fJ):Prop:=ad gP (adn R)
abbrev Ec(K:KF)(F:bN):Prop:=bq 194 K [1,1,1,1] 85 [0,1,5] [.a,.a,.a] F
abbrev Ed(K:KF)(F:gT):Prop:=bq 194 K [1,0,1,1,1] 85 [0,1,5,7] [.a,.a,.a,.a] F
abbrev Ee(K:KF)(F:bA):Prop:=bq 194 K [0,1,1,0,1,1,1] 85 [0,5] [.a,.a] F
abbrev Ef(K:KF)(F:bA):Prop:=bq 194 K [1,0,1,1,0,1,1,1] 85 [0,5] [.a,.a] F
def Eg(R:fJ)(K:KF)(a0 a5:AV)(H:AH):Prop:=aL 3 a5 λv1=>aC v1 H λv2=>cI 0 v2 λz3=>aL 1 a5 λv4=>aC v4 H λv5=>one v5 (R.2.2.1 a0 H λo6 H7=>cR K o6 H7 λv8=>aC v4 H7 λv9=>bT (aT v9 v5) (aC v1 H7 λv10=>cI 0 v10 λz11=>bT (aT (.int 0 z11) (.int 0 z3)) (cS H7 (onVal v8 λl12=>hH l12 7 (bY (aP H7) 2 7 (spl l12 [(.int 0 (.ofNat 5)),(.int 0 z3),(.int 0 (.ofNat 0)),v5,(.int 0 (.ofNat 1)),.ab,.ab,(.int 0 (.ofNat 0)),(.int 0 (.ofNat 0)),(.int 0 (.ofNat 0)),(.str 0 0),(.int 0 (.ofNat 0)),.ab,.ab] 7) λv13 dL=>bT (Nat.beq dL.n (Nat.succ H7.n)) (K (.ret v13) dL))))))
theorem P9{R:fJ}(hR:mT R){K:KF}:Ef K (Eg R K):=λa0 a5 H h=>pk hR .nil h
def Eh(R:fJ)(K:KF):bA:=Eg R K
theorem Qa{R:fJ}(hR:mT R){K:KF}:Ef K (Eh R K):=P9 hR
def Ei(R:fJ)(K:KF)(x4:bA)(a0 a5:AV)(H:AH):Prop:=cK a0 (aL 1 a0 λv1=>aC v1 H λv2=>cI 0 v2 λz3=>bg 0 (Int.add z3 (.ofNat 2)) λz4=>cK a0 (aL 1 a0 λv5=>ag 1 v5 (.int 0 z4) H λH6=>x4 a0 a5 H6))
theorem Qb{R:fJ}(hR:mT R){K:KF}{x4:bA}(h4:Ef K x4):Ee K (Ei R K x4):=λa0 a5 H h=>pk hR (cc h4 .nil) h
def Ej(R:fJ)(K:KF):bA:=Ei R K (Eh R K)
theorem Qc{R:fJ}(hR:mT R){K:KF}:Ee K (Ej R K):=Qb hR (Qa hR)
def Ek(R:fJ)(K:KF)(a0 a1 a5:AV)(H:AH):Prop:=R.2.2.1 a0 H λo1 H2=>cR K o1 H2 λv3=>cD H2 (dd gP (aP H2) 49 λv4 H5=>ag 7 v4 v3 H5 λH6=>cK a1 (aC a1 H6 λv7=>cI 0 v7 λz8=>bg 0 (Int.add z8 (.ofNat 1)) λz9=>cK a1 (ag 1 a1 (.int 0 z9) H6 λbM=>aL 3 a5 λv11=>aC v11 bM λv12=>cI 0 v12 λz13=>cK a1 (aC a1 bM λv14=>cI 0 v14 λqc=>aQ 7 v4 bM λv16=>cS bM (onVal v16 λl17=>hH l17 7 (bY (aP bM) 2 7 (spl l17 [(.int 0 (.ofNat 4)),(.int 0 z13),(.int 0 qc),(.str 0 0),(.int 0 (.ofNat 1)),.ab,.ab,(.int 0 (.ofNat 0)),(.int 0 (.ofNat 0)),(.int 0 (.ofNat 0)),(.str 0 0),(.int 0 (.ofNat 0)),.ab,.ab] 7) λv18 jN=>bT (Nat.beq jN.n (Nat.succ bM.n)) (K (.ret v18) jN)))))))
theorem Qd{R:fJ}(hR:mT R){K:KF}:Ec K (Ek R K):=λa0 a1 a5 H h=>pk hR .nil h
def yL(R:fJ)(K:KF):bN:=Ek R K
theorem Qe{R:fJ}(hR:mT R){K:KF}:Ec K (yL R K):=Qd hR
def El(R:fJ)(K:KF)(x3:bA)(x1:bN)(a0 a1 a5 a7:AV)(H:AH):Prop:=aL 0 a5 λv1=>aC v1 H λv2=>cI 0 v2 λz3=>bI (bX z3 (.ofNat 2)) (aL 0 a7 λv4=>aC v4 H λv5=>cI 0 v5 λz6=>bI (bX z6 (.ofNat 5)) (aL 1 a7 λv7=>aC v7 H λv8=>sW v8 (.str 1 61) λv9=>bO v9 λz10=>bI z10 (x3 a0 a5 H) (x1 a0 a1 a5 H)) (x1 a0 a1 a5 H)) (x1 a0 a1 a5 H)
theorem Qf{R:fJ}(hR:mT R){K:KF}{x3:bA}{x1:bN}(h3:Ee K x3)(h1:Ec K x1):Ed K (El R K x3 x1):=λa0 a1 a5 a7 H h=>pk hR (cc h3 (cc h1 .nil)) h
def Em(R:fJ)(K:KF):gT:=El R K (Ej R K) (yL R K)
theorem Qg{R:fJ}(hR:mT R){K:KF}:Ed K (Em R K):=Qf hR (Qc hR) (Qe hR)
def En(R:fJ)(K:KF)(x2:gT)(a0 a1:AV)(H:AH):Prop:=R.1 a0 H λo1 H2=>cR K o1 H2 λv3=>cD H2 (fV (aP H2) [(.int 0 (.ofNat 0)),(.str 0 0),(.int 0 (.ofNat 0)),(.int 0 (.ofNat 0))] λv4 H5=>ag 4 v4 v3 H5 λH6=>R.2.1 a0 (.str 1 91) H6 λo7 H8=>cR K o7 H8 λv9=>bO v9 λz10=>bI z10 (R.2.2.1 a0 H8 λpZ dA=>cR K pZ dA λv13=>cD dA (dd gP (aP dA) 49 λv14 eM=>ag 7 v14 v13 eM λiU=>R.2.2.2 a0 (.str 1 93) iU λoi gm=>cR K oi gm λv19=>R.2.2.2 a0 (.str 1 61) gm λVk kC=>cR K Vk kC λv22=>aQ 7 v14 kC λv23=>R.2.2.1 a0 kC λJe kN=>cR K Je kN λv26=>aQ 7 v14 kN λv27=>bT (aT v27 v23) (cS kN (onVal v23 λVj=>hH Vj 7 (onVal v26 λl29=>hH l29 7 (bY (aP kN) 2 7 (spl l29 (spl Vj [(.int 0 (.ofNat 0)),(.int 0 (.ofNat 0)),(.int 0 (.ofNat 0)),(.str 0 0),(.int 0 (.ofNat 0)),.ab,.ab,(.int 0 (.ofNat 0)),(.int 0 (.ofNat 0)),(.int 0 (.ofNat 0)),(.str 0 0),(.int 0 (.ofNat 0)),.ab,.ab] 0) 7) λv30 oj=>bT (Nat.beq oj.n (Nat.succ kN.n)) (K (.ret v30) oj))))))) (cK a0 (aL 0 a0 λv32=>aC v32 H8 λv33=>cK a0 (aL 1 a0 λv34=>aC v34 H8 λv35=>cI 0 v35 λz36=>bg 0 (Int.add z36 (.ofNat 1)) λz37=>cK a0 (aL 0 a0 λv38=>aC v38 H8 λv39=>cN v39 λv40=>cI 0 v40 λz41=>bg 0 (Int.sub z41 (.ofNat 1)) λz42=>yg Gq [(.int 0 z42)] (.int 0 z37) λv43=>cI 0 v43 λz44=>dj 4 v33 (.int 0 z44) λv45=>aQ 4 v45 H8 λv46=>cS H8 (cD H8 (fV (aP H8) [(.int 0 (.ofNat 0)),(.str 0 0),(.int 0 (.ofNat 0)),(.int 0 (.ofNat 0))] λv47 tF=>bT (Nat.beq tF.n (Nat.succ H8.n)) (ag 4 v47 v46 tF λH49=>x2 a0 a1 v4 v47 H49))))))))
theorem Qh{R:fJ}(hR:mT R){K:KF}{x2:gT}(h2:Ed K x2)(a0 a1:AV)(H:AH)(h:En R K x2 a0 a1 H):dD 194 K [] (bz (dt 194) [a0,a1]) [] H:=pk hR (cc h2 .nil) h
def M4(R:fJ)(K:KF):bA:=En R K (Em R K)
def sx(R:fJ):AV→AV→AH→KF→Prop:=λa0 a1 H K=>M4 R K a0 a1 H
theorem aal(R:fJ)(hR:mT R):az gP 194 (ao [.a,.a] (sx R)):=rk λK a0 a1 H h=>Qh hR (Qg hR) a0 a1 H h
abbrev ku:Type:=(AV→AH→KF→Prop)×(Int→Int→Int→AV→AV→AH→KF→Prop)×(AV→Int→AV→AH→KF→Prop)×(AV→AH→KF→Prop)
def ado(R:ku):List (Nat×cW):=[(23,ao [.a] R.1),(164,ao [.i 0,.i 0,.i 0,.a,.a] R.2.1),(193,ao [.a,.i 0,.a] R.2.2.1),(205,ao [.a] R.2.2.2)]
abbrev xC(R:ku):Prop:=ad gP (ado R)
abbrev pr(K:KF)(F:bN):Prop:=bq 199 K [0,1,1] 23 [0,2,3] [.a,.a,.a] F
def yM(R:ku)(K:KF)(x1:bN)(a0 a2 a3:AV)(H:AH):Prop:=R.1 a0 H λo1 H2=>cR K o1 H2 λv3=>fQ v3 λl4=>cP l4 3 λv5=>cI 0 v5 λz6=>bY (aP H2) 2 1 [(.str 1 43),(.str 1 45)] λv7 H8=>R.2.2.1 a0 (.ofNat 1) v7 H8 λo9 bM=>cR K o9 bM λv11=>cI 0 v11 λz12=>bI (bX z12 (.ofNat 0)) (aQ 7 a3 bM λv13=>ag 7 a2 v13 bM λdL=>aQ 7 a2 dL λv15=>K (.ret v15) dL) (aQ 7 a3 bM λv16=>R.2.2.2 a0 bM λoi gm=>cR K oi gm λv19=>aQ 7 a3 gm λv20=>bT (aT v20 v16) (R.2.1 (.ofNat 14) z12 z6 v16 v19 gm λuR iC=>cR K uR iC λv23=>ag 7 a3 v23 iC λie=>x1 a0 a2 a3 ie))
theorem Qi{R:ku}(hR:xC R){K:KF}{x1:bN}(h1:pr K x1):pr K (yM R K x1):=λa0 a2 a3 H h=>pk hR (cc h1 .nil) h
def M5(R:ku)(K:KF)(i1:bN):bN:=yM R K i1
theorem Qj{R:ku}(hR:xC R){K:KF}{i1:bN}(g1:pr K i1):pr K (M5 R K i1):=Qi hR g1
def ry(R:ku)(K:KF)(n:Nat):bN:=Nat.rec (motive:=λ_=>bN) (λ_ _ _ _=>False) (λ_ i=>M5 R K i) n
theorem Qk{R:ku}(hR:xC R){K:KF}(n:Nat):pr K (ry R K n):=Nat.rec (motive:=λn=>pr K (ry R K n)) (λa0 a2 a3 H h=>h.elim) (λn ih=>Qj hR ih) n
def yN(R:ku)(K:KF)(x1:bN)(a0:AV)(H:AH):Prop:=cD H (dd gP (aP H) 49 λv1 H2=>R.2.2.2 a0 H2 λo3 H4=>cR K o3 H4 λv5=>cD H4 (dd gP (aP H4) 49 λv6 H7=>ag 7 v6 v5 H7 λH8=>x1 a0 v1 v6 H8))
theorem Ql{R:ku}(hR:xC R){K:KF}{x1:bN}(h1:pr K x1)(a0:AV)(H:AH)(h:yN R K x1 a0 H):dD 199 K [] (bz (dt 199) [a0]) [] H:=pk hR (cc h1 .nil) h
def adp(R:ku)(K:KF):Ta:=yN R K (ry R K NL)
def xD(R:ku):AV→AH→KF→Prop:=λa0 H K=>adp R K a0 H
theorem aam(R:ku)(hR:xC R):az gP 199 (ao [.a] (xD R)):=rk λK a0 H h=>Ql hR (Qk hR NL) a0 H h
abbrev kx:Type:=(AV→AH→KF→Prop)×(Int→Int→Int→AV→AV→AH→KF→Prop)×(AV→Int→AV→AH→KF→Prop)×(AV→AH→KF→Prop)
def adq(R:kx):List (Nat×cW):=[(23,ao [.a] R.1),(164,ao [.i 0,.i 0,.i 0,.a,.a] R.2.1),(193,ao [.a,.i 0,.a] R.2.2.1),(208,ao [.a] R.2.2.2)]
abbrev xE(R:kx):Prop:=ad gP (adq R)
abbrev pt(K:KF)(F:bN):Prop:=bq 205 K [0,1,1] 23 [0,2,3] [.a,.a,.a] F
def yO(R:kx)(K:KF)(x1:bN)(a0 a2 a3:AV)(H:AH):Prop:=R.1 a0 H λo1 H2=>cR K o1 H2 λv3=>fQ v3 λl4=>cP l4 3 λv5=>cI 0 v5 λz6=>bY (aP H2) 3 1 [(.str 1 42),(.str 2 12079),(.str 1 37)] λv7 H8=>R.2.2.1 a0 (.ofNat 3) v7 H8 λo9 bM=>cR K o9 bM λv11=>cI 0 v11 λz12=>bI (bX z12 (.ofNat 0)) (aQ 7 a3 bM λv13=>ag 7 a2 v13 bM λdL=>aQ 7 a2 dL λv15=>K (.ret v15) dL) (aQ 7 a3 bM λv16=>R.2.2.2 a0 bM λoi gm=>cR K oi gm λv19=>aQ 7 a3 gm λv20=>bT (aT v20 v16) (R.2.1 (.ofNat 14) z12 z6 v16 v19 gm λuR iC=>cR K uR iC λv23=>ag 7 a3 v23 iC λie=>x1 a0 a2 a3 ie))
theorem Qm{R:kx}(hR:xE R){K:KF}{x1:bN}(h1:pt K x1):pt K (yO R K x1):=λa0 a2 a3 H h=>pk hR (cc h1 .nil) h
def M6(R:kx)(K:KF)(i1:bN):bN:=yO R K i1
theorem Qn{R:kx}(hR:xE R){K:KF}{i1:bN}(g1:pt K i1):pt K (M6 R K i1):=Qm hR g1
def rz(R:kx)(K:KF)(n:Nat):bN:=Nat.rec (motive:=λ_=>bN) (λ_ _ _ _=>False) (λ_ i=>M6 R K i) n
theorem Qo{R:kx}(hR:xE R){K:KF}(n:Nat):pt K (rz R K n):=Nat.rec (motive:=λn=>pt K (rz R K n)) (λa0 a2 a3 H h=>h.elim) (λn ih=>Qn hR ih) n
def yP(R:kx)(K:KF)(x1:bN)(a0:AV)(H:AH):Prop:=cD H (dd gP (aP H) 49 λv1 H2=>R.2.2.2 a0 H2 λo3 H4=>cR K o3 H4 λv5=>cD H4 (dd gP (aP H4) 49 λv6 H7=>ag 7 v6 v5 H7 λH8=>x1 a0 v1 v6 H8))
theorem Qp{R:kx}(hR:xE R){K:KF}{x1:bN}(h1:pt K x1)(a0:AV)(H:AH)(h:yP R K x1 a0 H):dD 205 K [] (bz (dt 205) [a0]) [] H:=pk hR (cc h1 .nil) h
def adr(R:kx)(K:KF):Ta:=yP R K (rz R K NL)
def xF(R:kx):AV→AH→KF→Prop:=λa0 H K=>adr R K a0 H
theorem aan(R:kx)(hR:xE R):az gP 205 (ao [.a] (xF R)):=rk λK a0 H h=>Qp hR (Qo hR NL) a0 H h
abbrev jG:Type:=(AV→AH→KF→Prop)×(AV→AH→KF→Prop)×(AV→AV→AH→KF→Prop)×(AV→AH→KF→Prop)×(AV→AH→KF→Prop)
def ads(R:jG):List (Nat×cW):=[(23,ao [.a] R.1),(53,ao [.a] R.2.1),(56,ao [.a,.a] R.2.2.1),(133,ao [.a] R.2.2.2.1),(208,ao [.a] R.2.2.2.2)]
abbrev uT(R:jG):Prop:=ad gP (ads R)
abbrev Eo(K:KF)(F:bZ):Prop:=bq 208 K [1,1,1,1] 36 [0,2,3,4] [.a,.a,.i 0,.i 0] F
abbrev Ep(K:KF)(F:bA):Prop:=bq 208 K [1,1,1,1,1,1,1] 36 [2,5] [.a,.a] F
def rA(R:jG)(K:KF)(a2 a5:AV)(H:AH):Prop:=aQ 7 a5 H λv1=>ag 7 a2 v1 H λH2=>aQ 7 a2 H2 λv3=>K (.ret v3) H2
theorem Qq{R:jG}(hR:uT R){K:KF}:Ep K (rA R K):=λa2 a5 H h=>pk hR .nil h
def M7(R:jG)(K:KF):bA:=rA R K
theorem Qr{R:jG}(hR:uT R){K:KF}:Ep K (M7 R K):=Qq hR
def uU(R:jG)(K:KF)(x2:bA)(a0 a2:AV)(a3 a4:Int)(H:AH):Prop:=R.2.1 a0 H λo1 H2=>cR K o1 H2 λv3=>R.2.2.2.2 a0 H2 λo4 H5=>cR K o4 H5 λv6=>onVal v6 λl7=>hH l7 7 (bY (aP H5) 1 7 (spl l7 [(.int 0 (.ofNat 0)),(.int 0 (.ofNat 0)),(.int 0 (.ofNat 0)),(.str 0 0),(.int 0 (.ofNat 0)),.ab,.ab] 0) λv8 H9=>one v8 (cD H9 (dd gP (aP H9) 49 λv10 fD=>ag 7 v10 (.agg [(.int 0 a4),(.int 0 a3),(.int 0 (.ofNat 0)),(.str 0 0),(.int 0 (.ofNat 0)),v8,.ab]) fD λdA=>cK a0 (aL 2 a0 λv13=>aC v13 dA λv14=>cI 0 v14 λqc=>bg 0 (Int.sub qc (.ofNat 1)) λlO=>cK a0 (aL 2 a0 λv17=>ag 1 v17 (.int 0 lO) dA λgm=>x2 a2 v10 gm)))))
theorem Qs{R:jG}(hR:uT R){K:KF}{x2:bA}(h2:Ep K x2):Eo K (uU R K x2):=λa0 a2 a3 a4 H h=>pk hR (cc h2 .nil) h
def M8(R:jG)(K:KF):bZ:=uU R K (M7 R K)
theorem Qt{R:jG}(hR:uT R){K:KF}:Eo K (M8 R K):=Qs hR (Qr hR)
def yQ(R:jG)(K:KF)(x1:bZ)(a0:AV)(H:AH):Prop:=cD H (dd gP (aP H) 49 λv1 H2=>R.1 a0 H2 λo3 H4=>cR K o3 H4 λv5=>fQ v5 λl6=>cP l6 3 λv7=>cI 0 v7 λz8=>R.2.2.1 a0 (.str 3 7630702) H4 λo9 bM=>cR K o9 bM λv11=>bO v11 λz12=>bI z12 (x1 a0 v1 z8 (.ofNat 11) bM) (R.2.2.1 a0 (.str 1 45) bM λkT dL=>cR K kT dL λv15=>bO v15 λlO=>bI lO (x1 a0 v1 z8 (.ofNat 12) dL) (R.2.2.1 a0 (.str 1 35) dL λoi gm=>cR K oi gm λv19=>bO v19 λz20=>bI z20 (x1 a0 v1 z8 (.ofNat 13) gm) (R.2.2.2.1 a0 gm λuR iC=>cR K uR iC λv23=>ag 7 v1 v23 iC λie=>aQ 7 v1 ie λv25=>K (.ret v25) ie))))
theorem Qu{R:jG}(hR:uT R){K:KF}{x1:bZ}(h1:Eo K x1)(a0:AV)(H:AH)(h:yQ R K x1 a0 H):dD 208 K [] (bz (dt 208) [a0]) [] H:=pk hR (cc h1 .nil) h
def adt(R:jG)(K:KF):Ta:=yQ R K (M8 R K)
def xG(R:jG):AV→AH→KF→Prop:=λa0 H K=>adt R K a0 H
theorem aao(R:jG)(hR:uT R):az gP 208 (ao [.a] (xG R)):=rk λK a0 H h=>Qu hR (Qt hR) a0 H h
abbrev ek:Type:=(AV→AH→KF→Prop)×(AV→AH→KF→Prop)×(AV→AV→AH→KF→Prop)×(AV→AV→AH→KF→Prop)×(AV→AH→KF→Prop)×(AV→AV→AH→KF→Prop)×(AV→AV→AH→KF→Prop)×(AV→Int→AH→KF→Prop)×(AV→AH→KF→Prop)×(AV→AH→KF→Prop)×(AV→AH→KF→Prop)×(AV→AH→KF→Prop)×(AV→AH→KF→Prop)×(AV→AH→KF→Prop)×(AV→Int→AH→KF→Prop)×(AV→AH→KF→Prop)×(AV→AV→AH→KF→Prop)×(AV→AH→KF→Prop)×(AV→AH→KF→Prop)×(AV→AH→KF→Prop)
def jH(S:ek):ic:=(f25,f53,f54,S.2.1,f56)
def dv(S:ek):eX:=(f23,S.1,f25,f54,f56,f94,S.2.2.1,S.2.2.2.1,S.2.2.2.2.1,lC,S.2.2.2.2.2.1,S.2.2.2.2.2.2.1)
def lT(S:ek):mY:=(f23,f56,S.2.2.2.2.1,f130,S.2.2.2.2.2.2.2.1)
def iF(S:ek):ft:=(S.1,f56,S.2.2.2.2.1,lC)
def mU(S:ek):mZ:=(f53,S.2.2.2.2.2.2.2.2.1)
def kO(S:ek):gU:=(S.1,f56,S.2.2.2.2.1,lC,f130)
def my(S:ek):qf:=(S.2.2.2.2.1,lC,S.2.2.2.2.2.2.2.2.2.1)
def dQ(S:ek):fb:=(S.1,f25,f56,f94,lC,f130)
def gx(S:ek):iD:=(f23,f56,S.2.2.2.2.2.2.2.2.2.2.1,f164)
def eU(S:ek):gn:=(f23,f56,f94,S.2.2.2.2.1,lC,f130,f164,S.2.2.2.2.2.2.2.2.2.2.2.1,S.2.2.2.2.2.2.2.2.2.2.2.2.1)
def gy(S:ek):iE:=(f23,f56,f164,S.2.2.2.2.2.2.2.2.2.2.2.2.2.1)
def im(S:ek):jF:=(f23,f25,f56,f94,S.2.2.2.2.1,lC,S.2.2.2.2.2.2.2.1,S.2.2.2.2.2.2.2.2.2.2.2.2.2.2.1)
def eE(S:ek):fc:=(f25,f56,f94,S.2.2.2.2.1,lC)
def iP(S:ek):ks:=(f23,f164,S.2.2.2.2.2.2.2.2.2.2.2.2.2.2.2.1,f193)
def gj(S:ek):gp:=(f25,f56,f94,lC,S.2.2.2.2.2.2.2.2.2.2.2.2.2.2.2.2.1)
def js(S:ek):lk:=(f23,f53,f56,f164,S.2.2.2.2.2.2.2.2.2.2.2.2.2.2.2.1,S.2.2.2.2.2.2.2.2.2.2.2.2.2.2.2.2.2.1)
def kP(S:ek):fJ:=(f23,f56,S.2.2.2.2.1,lC)
def iQ(S:ek):ku:=(f23,f164,f193,S.2.2.2.2.2.2.2.2.2.2.2.2.2.2.2.2.2.2.1)
def iR(S:ek):kx:=(f23,f164,f193,S.2.2.2.2.2.2.2.2.2.2.2.2.2.2.2.2.2.2.2)
def iq(S:ek):jG:=(f23,f53,f56,S.2.2.2.2.2.2.2.2.2.1,S.2.2.2.2.2.2.2.2.2.2.2.2.2.2.2.2.2.2.2)
noncomputable def s13(n:Nat):ek:=Nat.rec (motive:=λ_=>ek) (λ_ _ _=>False,λ_ _ _=>False,λ_ _ _ _=>False,λ_ _ _ _=>False,λ_ _ _=>False,λ_ _ _ _=>False,λ_ _ _ _=>False,λ_ _ _ _=>False,λ_ _ _=>False,λ_ _ _=>False,λ_ _ _=>False,λ_ _ _=>False,λ_ _ _=>False,λ_ _ _=>False,λ_ _ _ _=>False,λ_ _ _=>False,λ_ _ _ _=>False,λ_ _ _=>False,λ_ _ _=>False,λ_ _ _=>False) (λ_ S=>(vZ (jH S),wa (dv S),wb (lT S),wc (iF S),BF (mU S),we (kO S),sk (my S),sl (dQ S),xx (gx S),so (eU S),xy (gy S),sr (im S),sv (eE S),xA (iP S),sw (gj S),xB (js S),sx (kP S),xD (iQ S),xF (iR S),xG (iq S))) n
structure jU(S:ek):Prop where
 Jf:az gP 24 (ao [.a] S.1)
 h55:az gP 55 (ao [.a] S.2.1)
 h95:az gP 95 (ao [.a,.a] S.2.2.1)
 h96:az gP 96 (ao [.a,.a] S.2.2.2.1)
 h97:az gP 97 (ao [.a] S.2.2.2.2.1)
 h99:az gP 99 (ao [.a,.a] S.2.2.2.2.2.1)
 aiC:az gP 100 (ao [.a,.a] S.2.2.2.2.2.2.1)
 afH:az gP 131 (ao [.a,.i 0] S.2.2.2.2.2.2.2.1)
 aiD:az gP 132 (ao [.a] S.2.2.2.2.2.2.2.2.1)
 afI:az gP 133 (ao [.a] S.2.2.2.2.2.2.2.2.2.1)
 aiE:az gP 163 (ao [.a] S.2.2.2.2.2.2.2.2.2.2.1)
 aiF:az gP 165 (ao [.a] S.2.2.2.2.2.2.2.2.2.2.2.1)
 aiG:az gP 166 (ao [.a] S.2.2.2.2.2.2.2.2.2.2.2.2.1)
 aiH:az gP 184 (ao [.a] S.2.2.2.2.2.2.2.2.2.2.2.2.2.1)
 aiI:az gP 185 (ao [.a,.i 0] S.2.2.2.2.2.2.2.2.2.2.2.2.2.2.1)
 afJ:az gP 192 (ao [.a] S.2.2.2.2.2.2.2.2.2.2.2.2.2.2.2.1)
 aiJ:az gP 194 (ao [.a,.a] S.2.2.2.2.2.2.2.2.2.2.2.2.2.2.2.2.1)
 aiK:az gP 199 (ao [.a] S.2.2.2.2.2.2.2.2.2.2.2.2.2.2.2.2.2.1)
 aiL:az gP 205 (ao [.a] S.2.2.2.2.2.2.2.2.2.2.2.2.2.2.2.2.2.2.1)
 afK:az gP 208 (ao [.a] S.2.2.2.2.2.2.2.2.2.2.2.2.2.2.2.2.2.2.2)
theorem adu(S:ek)(h:jU S):az gP 24 (ao [.a] (vZ (jH S))):=ac1 (jH S) (ad.cons mQ (ad.cons Bn (ad.cons TZ (ad.cons h.h55 (ad.cons jh ad.nil)))))
theorem adw(S:ek)(h:jU S):az gP 55 (ao [.a] (wa (dv S))):=ac2 (dv S) (ad.cons jE (ad.cons h.Jf (ad.cons mQ (ad.cons TZ (ad.cons jh (ad.cons pW (ad.cons h.h95 (ad.cons h.h96 (ad.cons h.h97 (ad.cons mR (ad.cons h.h99 (ad.cons h.aiC ad.nil))))))))))))
theorem adx(S:ek)(h:jU S):az gP 95 (ao [.a,.a] (wb (lT S))):=ac3 (lT S) (ad.cons jE (ad.cons jh (ad.cons h.h97 (ad.cons yv (ad.cons h.afH ad.nil)))))
theorem ady(S:ek)(h:jU S):az gP 96 (ao [.a,.a] (wc (iF S))):=ac4 (iF S) (ad.cons h.Jf (ad.cons jh (ad.cons h.h97 (ad.cons mR ad.nil))))
theorem adz(S:ek)(h:jU S):az gP 97 (ao [.a] (BF (mU S))):=ac5 (mU S) (ad.cons Bn (ad.cons h.aiD ad.nil))
theorem adA(S:ek)(h:jU S):az gP 99 (ao [.a,.a] (we (kO S))):=ac6 (kO S) (ad.cons h.Jf (ad.cons jh (ad.cons h.h97 (ad.cons mR (ad.cons yv ad.nil)))))
theorem aap(S:ek)(h:jU S):az gP 100 (ao [.a,.a] (sk (my S))):=aab (my S) (ad.cons h.h97 (ad.cons mR (ad.cons h.afI ad.nil)))
theorem aaq(S:ek)(h:jU S):az gP 131 (ao [.a,.i 0] (sl (dQ S))):=aac (dQ S) (ad.cons h.Jf (ad.cons mQ (ad.cons jh (ad.cons pW (ad.cons mR (ad.cons yv ad.nil))))))
theorem aar(S:ek)(h:jU S):az gP 132 (ao [.a] (xx (gx S))):=aad (gx S) (ad.cons jE (ad.cons jh (ad.cons h.aiE (ad.cons oW ad.nil))))
theorem aas(S:ek)(h:jU S):az gP 133 (ao [.a] (so (eU S))):=aae (eU S) (ad.cons jE (ad.cons jh (ad.cons pW (ad.cons h.h97 (ad.cons mR (ad.cons yv (ad.cons oW (ad.cons h.aiF (ad.cons h.aiG ad.nil)))))))))
theorem aat(S:ek)(h:jU S):az gP 163 (ao [.a] (xy (gy S))):=aaf (gy S) (ad.cons jE (ad.cons jh (ad.cons oW (ad.cons h.aiH ad.nil))))
theorem aau(S:ek)(h:jU S):az gP 165 (ao [.a] (sr (im S))):=aag (im S) (ad.cons jE (ad.cons mQ (ad.cons jh (ad.cons pW (ad.cons h.h97 (ad.cons mR (ad.cons h.afH (ad.cons h.aiI ad.nil))))))))
theorem aav(S:ek)(h:jU S):az gP 166 (ao [.a] (sv (eE S))):=aah (eE S) (ad.cons mQ (ad.cons jh (ad.cons pW (ad.cons h.h97 (ad.cons mR ad.nil)))))
theorem aaw(S:ek)(h:jU S):az gP 184 (ao [.a] (xA (iP S))):=aai (iP S) (ad.cons jE (ad.cons oW (ad.cons h.afJ (ad.cons DI ad.nil))))
theorem aax(S:ek)(h:jU S):az gP 185 (ao [.a,.i 0] (sw (gj S))):=aaj (gj S) (ad.cons mQ (ad.cons jh (ad.cons pW (ad.cons mR (ad.cons h.aiJ ad.nil)))))
theorem aay(S:ek)(h:jU S):az gP 192 (ao [.a] (xB (js S))):=aak (js S) (ad.cons jE (ad.cons Bn (ad.cons jh (ad.cons oW (ad.cons h.afJ (ad.cons h.aiK ad.nil))))))
theorem aaz(S:ek)(h:jU S):az gP 194 (ao [.a,.a] (sx (kP S))):=aal (kP S) (ad.cons jE (ad.cons jh (ad.cons h.h97 (ad.cons mR ad.nil))))
theorem aaA(S:ek)(h:jU S):az gP 199 (ao [.a] (xD (iQ S))):=aam (iQ S) (ad.cons jE (ad.cons oW (ad.cons DI (ad.cons h.aiL ad.nil))))
theorem aaB(S:ek)(h:jU S):az gP 205 (ao [.a] (xF (iR S))):=aan (iR S) (ad.cons jE (ad.cons oW (ad.cons DI (ad.cons h.afK ad.nil))))
theorem aaC(S:ek)(h:jU S):az gP 208 (ao [.a] (xG (iq S))):=aao (iq S) (ad.cons jE (ad.cons Bn (ad.cons jh (ad.cons h.afI (ad.cons h.afK ad.nil)))))
theorem aaD(S:ek)(h:jU S):jU (vZ (jH S),wa (dv S),wb (lT S),wc (iF S),BF (mU S),we (kO S),sk (my S),sl (dQ S),xx (gx S),so (eU S),xy (gy S),sr (im S),sv (eE S),xA (iP S),sw (gj S),xB (js S),sx (kP S),xD (iQ S),xF (iR S),xG (iq S)):=⟨adu S h,adw S h,adx S h,ady S h,adz S h,adA S h,aap S h,aaq S h,aar S h,aas S h,aat S h,aau S h,aav S h,aaw S h,aax S h,aay S h,aaz S h,aaA S h,aaB S h,aaC S h⟩
theorem afL(n:Nat):jU (s13 n):=by
 induction n with
 |zero=>exact⟨cF [.a],cF [.a],cF [.a,.a],cF [.a,.a],cF [.a],cF [.a,.a],cF [.a,.a],cF [.a,.i 0],cF [.a],cF [.a],cF [.a],cF [.a],cF [.a],cF [.a],cF [.a,.i 0],cF [.a],cF [.a,.a],cF [.a],cF [.a],cF [.a]⟩
 |succ n ih=>exact aaD (s13 n) ih
def f24:AV→AH→KF→Prop:=(s13 NL).1
theorem afM:az gP 24 (ao [.a] f24):=(afL NL).Jf
abbrev qN:Type:=Unit
def Jg(R:qN)(K:KF)(H:AH):Prop:=K (.ret (.bool true)) H
def afN(R:qN)(K:KF):T_:=Jg R K
def Jh(R:qN)(K:KF)(x2:jf)(x1:T_)(a0 a1:AV)(a5:Int)(H:AH):Prop:=cN a0 λv1=>cI 0 v1 λz2=>bI (cE a5 z2) (dj 1 a0 (.int 0 a5) λv3=>aC v3 H λv4=>dj 1 a1 (.int 0 a5) λv5=>aC v5 H λv6=>LK v4 v6 λv7=>bO v7 λz8=>bI z8 (K (.ret (.bool false)) H) (bg 0 (Int.add a5 (.ofNat 1)) λz9=>x2 a0 a1 z9 H)) (x1 H)
def afO(R:qN)(K:KF)(i2:jf):jf:=Jh R K i2 (afN R K)
def BL(R:qN)(K:KF)(n:Nat):jf:=Nat.rec (motive:=λ_=>jf) (λ_ _ _ _=>False) (λ_ i=>afO R K i) n
def Ji(R:qN)(K:KF)(x2:jf)(a0 a1:AV)(H:AH):Prop:=cN a0 λv1=>cI 0 v1 λz2=>cN a1 λv3=>cI 0 v3 λz4=>bI (!(bX z2 z4)) (K (.ret (.bool false)) H) (x2 a0 a1 (.ofNat 0) H)
def afP(R:qN)(K:KF):bA:=Ji R K (BL R K NL)
def ahD(R:qN):AV→AV→AH→KF→Prop:=λa0 a1 H K=>afP R K a0 a1 H
def sy:qN:=()
def f29:AV→AV→AH→KF→Prop:=ahD sy
end Go.Proofs.YtcedghechlgecaaGreatDoor.G
