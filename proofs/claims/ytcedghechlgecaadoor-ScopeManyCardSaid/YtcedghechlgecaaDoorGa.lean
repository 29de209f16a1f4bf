/- The functions of the parser of the document, by program. No condition. -/
import Derived.Test.YtcedghechlgecaaDoorYa
import Derived.Test.YtcedghechlgecaaDoorChecked
set_option maxRecDepth 100000
set_option maxHeartbeats 0
set_option linter.unusedVariables false
set_option linter.unusedSimpArgs false
namespace Go.Proofs.YtcedghechlgecaaDoor.G
open Go Go.X
noncomputable abbrev gPa:Program:=Tryd.prog
abbrev NL:Nat:=1000000
theorem mix:gPa.follows .mixedOrders=true:=by kernel_rfl
noncomputable def eD(n:Nat):Func:=(gPa.funcs[n]?).getD default
noncomputable def gBd(n:Nat):Code:=(eD n).body.getD .skip
abbrev fb(n:Nat)(K:KF):List Nat→xF:=xG gPa (gBd n) (PK gPa IN (eD n) K)
abbrev aT(n:Nat)(K:KF)(p:List Nat)(m:Nat)(s:List Nat)(t:List Ty)(F:q8 (AH→Prop) t):Prop:=adA gPa (gBd n) (PK gPa IN (eD n) K) p m s t F
theorem pk{ct:List (Nat×dq)}(hR:ag gPa ct){b:Code}{Q:KT}{t:xH}{p:List Nat}{env:List AV}{H:AH}(ht:mM gPa b Q t){A:Prop}(h:A)(e:A=IJ (jI ct) (G8 gPa (jI ct)) gPa gPa.globals.size b (Ah t) Q 400 p env [] H:=by kernel_rfl):xG gPa b Q p env [] H:=
 SM (se hR) (IH mix _ (se hR)) ht (Eq.mp e h)
theorem cc{b:Code}{Q:KT}{p:List Nat}{n:Nat}{s:List Nat}{l:List Ty}{F:q8 (AH→Prop) l}{t:xH}(h:adA gPa b Q p n s l F)(ht:mM gPa b Q t):mM gPa b Q ((p,aiQ n s l F)::t):=mM.cons (aiR h) ht
theorem rk{g:Nat}{l:List Ty}{F:q8 (AH→KF→Prop) l}(h:∀K,oT l F λr a=>∀H,r H K→fb g K [] (bD (eD g) a) [] H)(hf:gPa.funcs[g]? = some (eD g):=by kernel_rfl)(hc:(eD g).body=some (gBd g):=by kernel_rfl):aC gPa g (aw l F):=aC.agy hf hc h
abbrev Ta:Type:=AV→AH→Prop
abbrev cX:Type:=AV→AV→AH→Prop
abbrev iS:Type:=AV→AV→AV→AH→Prop
abbrev aE:Type:=AV→AV→Int→AH→Prop
abbrev iV:Type:=AV→AV→Int→AV→AH→Prop
abbrev dW:Type:=AV→Int→AH→Prop
abbrev kj:Type:=AV→Int→AV→AH→Prop
abbrev cz:Type:=AV→Int→AV→AV→AH→Prop
abbrev dk:Type:=AV→Int→AV→AV→Int→AH→Prop
abbrev bG:Type:=AV→Int→AV→AV→Int→AV→AH→Prop
abbrev qp:Type:=AV→Int→AV→Int→AV→AH→Prop
abbrev qq:Type:=AV→Int→AV→Int→Int→AH→Prop
abbrev iT:Type:=AV→Int→Int→AH→Prop
abbrev Bb:Type:=AV→Int→Int→AV→AV→AH→Prop
abbrev dN:Type:=AV→Int→Int→AV→AV→AV→AV→AH→Prop
abbrev iP:Type:=AV→Int→Int→AV→AV→AV→AV→Int→AH→Prop
abbrev rr:Type:=AV→Int→Int→AV→AV→AV→AV→Int→Int→AH→Prop
abbrev jm:Type:=AV→Int→Int→AV→AV→AV→AV→Int→Int→AV→Int→AH→Prop
abbrev th:Type:=Unit
def aiX(R:th):List (Nat×dq):=[]
abbrev aeQ(R:th):Prop:=ag gPa (aiX R)
def Bc(R:th)(K:KF)(a0:AV)(a1:Int)(H:AH):Prop:=ao a0 (af 2 a0 λv1=>ad v1 H λv2=>cI 0 v2 λz3=>bI (bq z3 (.ofNat 0)) (ao a0 (af 0 a0 λv4=>ad v4 H λv5=>ao a0 (af 1 a0 λv6=>ad v6 H λv7=>cI 0 v7 λz8=>bf 4 v5 (.int 0 z8) λv9=>af 3 v9 λv10=>ad v10 H λv11=>cI 0 v11 λz12=>ao a0 (af 2 a0 λv13=>ah 1 v13 (.int 0 a1) H λdh=>ao a0 (af 3 a0 λv15=>ah 1 v15 (.int 0 z12) dh λeE=>K (.ret (.aL [])) eE))))) (K (.ret (.aL [])) H))
theorem SX{R:th}(hR:aeQ R){K:KF}(a0:AV)(a1:Int)(H:AH)(h:Bc R K a0 a1 H):fb 18 K [] (bD (eD 18) [a0,(.int 0 a1)]) [] H:=pk hR .nil h
def aiY(R:th)(K:KF):dW:=Bc R K
def aeR(R:th):AV→Int→AH→KF→Prop:=λa0 a1 H K=>aiY R K a0 a1 H
theorem agD(R:th)(hR:aeQ R):aC gPa 18 (aw [.a,.i 0] (aeR R)):=rk λK a0 a1 H h=>SX hR a0 a1 H h
def IX:th:=()
def f18:AV→Int→AH→KF→Prop:=aeR IX
theorem qs:aC gPa 18 (aw [.a,.i 0] f18):=agD IX ag.nil
abbrev ti:Type:=(AV→Int→AH→KF→Prop)
def aiZ(R:ti):List (Nat×dq):=[(18,aw [.a,.i 0] R)]
abbrev aeS(R:ti):Prop:=ag gPa (aiZ R)
def Bd(R:ti)(K:KF)(a0:AV)(a1:Int)(H:AH):Prop:=bI (cg (.ofNat 100) a1) (R a0 (.ofNat 8) H λo1 H2=>cR K o1 H2 λv3=>K (.ret (.aL [])) H2) (K (.ret (.aL [])) H)
theorem SY{R:ti}(hR:aeS R){K:KF}(a0:AV)(a1:Int)(H:AH)(h:Bd R K a0 a1 H):fb 37 K [] (bD (eD 37) [a0,(.int 0 a1)]) [] H:=pk hR .nil h
def ai0(R:ti)(K:KF):dW:=Bd R K
def aeT(R:ti):AV→Int→AH→KF→Prop:=λa0 a1 H K=>ai0 R K a0 a1 H
theorem agE(R:ti)(hR:aeS R):aC gPa 37 (aw [.a,.i 0] (aeT R)):=rk λK a0 a1 H h=>SY hR a0 a1 H h
def Be:ti:=(f18)
def f37:AV→Int→AH→KF→Prop:=aeT Be
theorem Bf:aC gPa 37 (aw [.a,.i 0] f37):=agE Be (ag.cons qs ag.nil)
abbrev nW:Type:=Unit
def ai1(R:nW):List (Nat×dq):=[]
abbrev G9(R:nW):Prop:=ag gPa (ai1 R)
abbrev IY(K:KF)(F:iS):Prop:=aT 41 K [1,1] 37 [0,1,5] [.a,.a,.a] F
def Bg(R:nW)(K:KF)(a0 a1 a5:AV)(H:AH):Prop:=ao a0 (af 2 a0 λv1=>ad v1 H λv2=>cI 0 v2 λz3=>bI (bq z3 (.ofNat 0)) (af 0 a5 λv4=>ad v4 H λv5=>cI 0 v5 λz6=>bI (bq z6 (.ofNat 1)) (af 1 a5 λv7=>ad v7 H λv8=>ux v8 a1 λv9=>bS v9 λz10=>K (.ret (.bool z10)) H) (af 0 a5 λv11=>ad v11 H λv12=>cI 0 v12 λz13=>bI (bq z13 (.ofNat 5)) (af 1 a5 λv14=>ad v14 H λv15=>ux v15 a1 λv16=>bS v16 λz17=>K (.ret (.bool z17)) H) (K (.ret (.bool false)) H))) (K (.ret (.bool false)) H))
theorem SZ{R:nW}(hR:G9 R){K:KF}:IY K (Bg R K):=λa0 a1 a5 H h=>pk hR .nil h
def Tb(R:nW)(K:KF):iS:=Bg R K
theorem Tc{R:nW}(hR:G9 R){K:KF}:IY K (Tb R K):=SZ hR
def Bh(R:nW)(K:KF)(x1:iS)(a0 a1:AV)(H:AH):Prop:=ao a0 (af 0 a0 λv1=>ad v1 H λv2=>ao a0 (af 1 a0 λv3=>ad v3 H λv4=>cI 0 v4 λz5=>bf 4 v2 (.int 0 z5) λv6=>aN 4 v6 H λv7=>cL H (eJ H (hN (aB H) [(.int 0 (.ofNat 0)),(.str 0 0),(.int 0 (.ofNat 0)),(.int 0 (.ofNat 0))] λv8 H9=>bT (Nat.beq H9.n (Nat.succ H.n)) (ah 4 v8 v7 H9 λcm=>x1 a0 a1 v8 cm)))))
theorem Td{R:nW}(hR:G9 R){K:KF}{x1:iS}(h1:IY K x1)(a0 a1:AV)(H:AH)(h:Bh R K x1 a0 a1 H):fb 41 K [] (bD (eD 41) [a0,a1]) [] H:=pk hR (cc h1 .nil) h
def ai2(R:nW)(K:KF):cX:=Bh R K (Tb R K)
def aeU(R:nW):AV→AV→AH→KF→Prop:=λa0 a1 H K=>ai2 R K a0 a1 H
theorem agF(R:nW)(hR:G9 R):aC gPa 41 (aw [.a,.a] (aeU R)):=rk λK a0 a1 H h=>Td hR (Tc hR) a0 a1 H h
def Bi:nW:=()
def f41:AV→AV→AH→KF→Prop:=aeU Bi
theorem uO:aC gPa 41 (aw [.a,.a] f41):=agF Bi ag.nil
abbrev tj:Type:=(AV→AV→AH→KF→Prop)
def ai3(R:tj):List (Nat×dq):=[(41,aw [.a,.a] R)]
abbrev aeV(R:tj):Prop:=ag gPa (ai3 R)
def Bj(R:tj)(K:KF)(a0:AV)(H:AH):Prop:=ao a0 (af 2 a0 λv1=>ad v1 H λv2=>cI 0 v2 λz3=>bI (!(bq z3 (.ofNat 0))) (K (.ret (.bool true)) H) (ao a0 (af 0 a0 λv4=>ad v4 H λv5=>ao a0 (af 1 a0 λv6=>ad v6 H λv7=>cI 0 v7 λz8=>bf 4 v5 (.int 0 z8) λv9=>af 0 v9 λv10=>ad v10 H λv11=>cI 0 v11 λz12=>bI (bq z12 (.ofNat 0)) (K (.ret (.bool true)) H) (R a0 (.str 3 6581861) H λlB dh=>cR K lB dh λv15=>bS v15 λqt=>bI qt (K (.ret (.bool true)) dh) (R a0 (.str 4 1702063205) dh λo17 iy=>cR K o17 iy λv19=>bS v19 λz20=>bI z20 (K (.ret (.bool true)) iy) (R a0 (.str 6 112602859662437) iy λsj gU=>cR K sj gU λv23=>bS v23 λz24=>bI z24 (K (.ret (.bool true)) gU) (R a0 (.str 5 465625706101) gU λIZ q9=>cR K IZ q9 λv27=>bS v27 λz28=>K (.ret (.bool z28)) q9))))))))
theorem Te{R:tj}(hR:aeV R){K:KF}(a0:AV)(H:AH)(h:Bj R K a0 H):fb 38 K [] (bD (eD 38) [a0]) [] H:=pk hR .nil h
def ai4(R:tj)(K:KF):Ta:=Bj R K
def aeW(R:tj):AV→AH→KF→Prop:=λa0 H K=>ai4 R K a0 H
theorem agG(R:tj)(hR:aeV R):aC gPa 38 (aw [.a] (aeW R)):=rk λK a0 H h=>Te hR a0 H h
def Bk:tj:=(f41)
def f38:AV→AH→KF→Prop:=aeW Bk
theorem ai5:aC gPa 38 (aw [.a] f38):=agG Bk (ag.cons uO ag.nil)
abbrev tm:Type:=Unit
def ai6(R:tm):List (Nat×dq):=[]
abbrev aeX(R:tm):Prop:=ag gPa (ai6 R)
def Bl(R:tm)(K:KF)(a0:AV)(H:AH):Prop:=ao a0 (af 0 a0 λv1=>ad v1 H λv2=>ao a0 (af 1 a0 λv3=>ad v3 H λv4=>cI 0 v4 λz5=>bf 4 v2 (.int 0 z5) λv6=>af 3 v6 λv7=>ad v7 H λv8=>cI 0 v8 λz9=>K (.ret (.int 0 z9)) H))
theorem Tf{R:tm}(hR:aeX R){K:KF}(a0:AV)(H:AH)(h:Bl R K a0 H):fb 39 K [] (bD (eD 39) [a0]) [] H:=pk hR .nil h
def ai7(R:tm)(K:KF):Ta:=Bl R K
def aeY(R:tm):AV→AH→KF→Prop:=λa0 H K=>ai7 R K a0 H
theorem agH(R:tm)(hR:aeX R):aC gPa 39 (aw [.a] (aeY R)):=rk λK a0 H h=>Tf hR a0 H h
def I0:tm:=()
def f39:AV→AH→KF→Prop:=aeY I0
theorem qu:aC gPa 39 (aw [.a] f39):=agH I0 ag.nil
abbrev tp:Type:=(AV→AV→AH→KF→Prop)
def ai8(R:tp):List (Nat×dq):=[(41,aw [.a,.a] R)]
abbrev aeZ(R:tp):Prop:=ag gPa (ai8 R)
def Bm(R:tp)(K:KF)(a0 a1:AV)(H:AH):Prop:=R a0 a1 H λo1 H2=>cR K o1 H2 λv3=>bS v3 λz4=>bI z4 (ao a0 (af 1 a0 λv5=>ad v5 H2 λv6=>cI 0 v6 λz7=>ax 0 (Int.add z7 (.ofNat 1)) λz8=>ao a0 (af 1 a0 λv9=>ah 1 v9 (.int 0 z8) H2 λcm=>K (.ret (.bool true)) cm))) (K (.ret (.bool false)) H2)
theorem Tg{R:tp}(hR:aeZ R){K:KF}(a0 a1:AV)(H:AH)(h:Bm R K a0 a1 H):fb 40 K [] (bD (eD 40) [a0,a1]) [] H:=pk hR .nil h
def ai9(R:tp)(K:KF):cX:=Bm R K
def ae0(R:tp):AV→AV→AH→KF→Prop:=λa0 a1 H K=>ai9 R K a0 a1 H
theorem agI(R:tp)(hR:aeZ R):aC gPa 40 (aw [.a,.a] (ae0 R)):=rk λK a0 a1 H h=>Tg hR a0 a1 H h
def Bn:tp:=(f41)
def f40:AV→AV→AH→KF→Prop:=ae0 Bn
theorem oV:aC gPa 40 (aw [.a,.a] f40):=agI Bn (ag.cons uO ag.nil)
abbrev kZ:Type:=(AV→Int→AH→KF→Prop)
def aja(R:kZ):List (Nat×dq):=[(18,aw [.a,.i 0] R)]
abbrev yR(R:kZ):Prop:=ag gPa (aja R)
abbrev I3(K:KF)(F:Ta):Prop:=aT 57 K [1,1] 48 [0] [.a] F
abbrev I4(K:KF)(F:Ta):Prop:=aT 57 K [1,1,1,1] 48 [0] [.a] F
def xO(R:kZ)(K:KF)(a0:AV)(H:AH):Prop:=ao a0 (af 0 a0 λv1=>ad v1 H λv2=>ao a0 (af 1 a0 λv3=>ad v3 H λv4=>cI 0 v4 λz5=>ax 0 (Int.sub z5 (.ofNat 1)) λz6=>bf 4 v2 (.int 0 z6) λv7=>af 1 v7 λv8=>ad v8 H λv9=>K (.ret v9) H))
theorem Th{R:kZ}(hR:yR R){K:KF}:I4 K (xO R K):=λa0 H h=>pk hR .nil h
def Tj(R:kZ)(K:KF):Ta:=xO R K
theorem Tk{R:kZ}(hR:yR R){K:KF}:I4 K (Tj R K):=Th hR
def uP(R:kZ)(K:KF)(x2:Ta)(a0:AV)(H:AH):Prop:=ao a0 (af 2 a0 λv1=>ad v1 H λv2=>cI 0 v2 λz3=>bI (!(bq z3 (.ofNat 0))) (K (.ret (.str 0 0)) H) (ao a0 (af 1 a0 λv4=>ad v4 H λv5=>cI 0 v5 λz6=>ax 0 (Int.add z6 (.ofNat 1)) λz7=>ao a0 (af 1 a0 λv8=>ah 1 v8 (.int 0 z7) H λH9=>x2 a0 H9))))
theorem Tl{R:kZ}(hR:yR R){K:KF}{x2:Ta}(h2:I4 K x2):I3 K (uP R K x2):=λa0 H h=>pk hR (cc h2 .nil) h
def Tm(R:kZ)(K:KF):Ta:=uP R K (Tj R K)
theorem Tn{R:kZ}(hR:yR R){K:KF}:I3 K (Tm R K):=Tl hR (Tk hR)
def Bo(R:kZ)(K:KF)(x1:Ta)(a0:AV)(H:AH):Prop:=ao a0 (af 2 a0 λv1=>ad v1 H λv2=>cI 0 v2 λz3=>bI (bq z3 (.ofNat 0)) (ao a0 (af 0 a0 λv4=>ad v4 H λv5=>ao a0 (af 1 a0 λv6=>ad v6 H λv7=>cI 0 v7 λz8=>bf 4 v5 (.int 0 z8) λv9=>af 0 v9 λv10=>ad v10 H λv11=>cI 0 v11 λz12=>bI (!(bq z12 (.ofNat 2))) (R a0 (.ofNat 14) H λlB dh=>cR K lB dh λv15=>x1 a0 dh) (x1 a0 H)))) (x1 a0 H))
theorem To{R:kZ}(hR:yR R){K:KF}{x1:Ta}(h1:I3 K x1)(a0:AV)(H:AH)(h:Bo R K x1 a0 H):fb 57 K [] (bD (eD 57) [a0]) [] H:=pk hR (cc h1 .nil) h
def ajb(R:kZ)(K:KF):Ta:=Bo R K (Tm R K)
def ae1(R:kZ):AV→AH→KF→Prop:=λa0 H K=>ajb R K a0 H
theorem agJ(R:kZ)(hR:yR R):aC gPa 57 (aw [.a] (ae1 R)):=rk λK a0 H h=>To hR (Tn hR) a0 H h
def qv:kZ:=(f18)
def f57:AV→AH→KF→Prop:=ae1 qv
theorem Bp:aC gPa 57 (aw [.a] f57):=agJ qv (ag.cons qs ag.nil)
abbrev tq:Type:=(AV→Int→AH→KF→Prop)×(AV→AV→AH→KF→Prop)
def ajc(R:tq):List (Nat×dq):=[(18,aw [.a,.i 0] R.1),(40,aw [.a,.a] R.2)]
abbrev ae2(R:tq):Prop:=ag gPa (ajc R)
def Bq(R:tq)(K:KF)(a0 a1:AV)(H:AH):Prop:=R.2 a0 a1 H λo1 H2=>cR K o1 H2 λv3=>bS v3 λz4=>bI (!z4) (R.1 a0 (.ofNat 14) H2 λo5 H6=>cR K o5 H6 λv7=>K (.ret (.aL [])) H6) (K (.ret (.aL [])) H2)
theorem Tp{R:tq}(hR:ae2 R){K:KF}(a0 a1:AV)(H:AH)(h:Bq R K a0 a1 H):fb 59 K [] (bD (eD 59) [a0,a1]) [] H:=pk hR .nil h
def ajd(R:tq)(K:KF):cX:=Bq R K
def ae3(R:tq):AV→AV→AH→KF→Prop:=λa0 a1 H K=>ajd R K a0 a1 H
theorem agK(R:tq)(hR:ae2 R):aC gPa 59 (aw [.a,.a] (ae3 R)):=rk λK a0 a1 H h=>Tp hR a0 a1 H h
def xP:tq:=(f18,f40)
def f59:AV→AV→AH→KF→Prop:=ae3 xP
theorem xQ:aC gPa 59 (aw [.a,.a] f59):=agK xP (ag.cons qs (ag.cons oV ag.nil))
abbrev tt:Type:=(AV→Int→AH→KF→Prop)
def aje(R:tt):List (Nat×dq):=[(18,aw [.a,.i 0] R)]
abbrev ae4(R:tt):Prop:=ag gPa (aje R)
def Br(R:tt)(K:KF)(a0:AV)(a1 a2:Int)(H:AH):Prop:=bI (!(cg a1 a2)) (R a0 (.ofNat 8) H λo1 H2=>cR K o1 H2 λv3=>K (.ret (.aL [])) H2) (K (.ret (.aL [])) H)
theorem Tq{R:tt}(hR:ae4 R){K:KF}(a0:AV)(a1 a2:Int)(H:AH)(h:Br R K a0 a1 a2 H):fb 76 K [] (bD (eD 76) [a0,(.int 0 a1),(.int 0 a2)]) [] H:=pk hR .nil h
def ajf(R:tt)(K:KF):iT:=Br R K
def ae5(R:tt):AV→Int→Int→AH→KF→Prop:=λa0 a1 a2 H K=>ajf R K a0 a1 a2 H
theorem agL(R:tt)(hR:ae4 R):aC gPa 76 (aw [.a,.i 0,.i 0] (ae5 R)):=rk λK a0 a1 a2 H h=>Tq hR a0 a1 a2 H h
def Bs:tt:=(f18)
def f76:AV→Int→Int→AH→KF→Prop:=ae5 Bs
theorem I5:aC gPa 76 (aw [.a,.i 0,.i 0] f76):=agL Bs (ag.cons qs ag.nil)
abbrev fh:Type:=(AV→Int→AH→KF→Prop)×(AV→Int→AH→KF→Prop)×(AV→AH→KF→Prop)×(AV→AH→KF→Prop)×(AV→AV→AH→KF→Prop)×(AV→AV→AH→KF→Prop)×(AV→Int→AH→KF→Prop)×(AV→AV→Int→AH→KF→Prop)
def ajg(R:fh):List (Nat×dq):=[(18,aw [.a,.i 0] R.1),(37,aw [.a,.i 0] R.2.1),(38,aw [.a] R.2.2.1),(39,aw [.a] R.2.2.2.1),(40,aw [.a,.a] R.2.2.2.2.1),(41,aw [.a,.a] R.2.2.2.2.2.1),(42,aw [.a,.i 0] R.2.2.2.2.2.2.1),(43,aw [.a,.a,.i 0] R.2.2.2.2.2.2.2)]
abbrev lM(R:fh):Prop:=ag gPa (ajg R)
abbrev I6(K:KF)(F:Ta):Prop:=aT 17 K [1,1,1,1,1] 55 [5] [.a] F
abbrev qw(K:KF)(F:kj):Prop:=aT 17 K [0,0,1,1,1,1] 55 [0,1,5] [.a,.i 0,.a] F
abbrev I7(K:KF)(F:kj):Prop:=aT 17 K [1,1,1,1,0,1,0,0,0,1,1,1,1] 55 [0,1,5] [.a,.i 0,.a] F
abbrev Bu(K:KF)(F:iS):Prop:=aT 17 K [1,1,0,1,0,1,0,1,0,0,0,1,1,1,1] 55 [0,5,6] [.a,.a,.a] F
abbrev I8(K:KF)(F:cz):Prop:=aT 17 K [0,1,0,1,0,1,0,1,0,1,0,0,0,1,1,1,1] 55 [0,1,5,6] [.a,.i 0,.a,.a] F
abbrev I9(K:KF)(F:cX):Prop:=aT 17 K [1,1,1,1,0,1,0,1,0,1,0,0,0,1,1,1,1] 55 [5,6] [.a,.a] F
def Bv(R:fh)(K:KF)(a5 a6:AV)(H:AH):Prop:=aN 5 a6 H λv1=>onVal v1 λl2=>gK l2 5 (aR (aB H) 1 5 (spl l2 [(.int 0 (.ofNat 0)),(.int 0 (.ofNat 0)),.ab,.ab,.ab] 0) λv3 H4=>cQ 5 88 a5 v3 H4 λv5 H6=>K (.ret v5) H6)
theorem Ts{R:fh}(hR:lM R){K:KF}:I9 K (Bv R K):=λa5 a6 H h=>pk hR .nil h
def uQ(R:fh)(K:KF):cX:=Bv R K
theorem Tt{R:fh}(hR:lM R){K:KF}:I9 K (uQ R K):=Ts hR
def Bw(R:fh)(K:KF)(x6:cX)(a0 a5 a6:AV)(H:AH):Prop:=R.2.2.2.2.1 a0 (.str 1 59) H λo1 H2=>cR K o1 H2 λv3=>bS v3 λz4=>R.2.2.1 a0 H2 λo5 H6=>cR K o5 H6 λv7=>bS v7 λz8=>bI (!z8) (R.1 a0 (.ofNat 14) H6 λo9 cm=>cR K o9 cm λv11=>x6 a5 a6 cm) (x6 a5 a6 H6)
theorem Tu{R:fh}(hR:lM R){K:KF}{x6:cX}(h6:I9 K x6):Bu K (Bw R K x6):=λa0 a5 a6 H h=>pk hR (cc h6 .nil) h
def qx(R:fh)(K:KF):iS:=Bw R K (uQ R K)
theorem Gu{R:fh}(hR:lM R){K:KF}:Bu K (qx R K):=Tu hR (Tt hR)
def Bx(R:fh)(K:KF)(x4:iS)(a0:AV)(a1:Int)(a5 a6:AV)(H:AH):Prop:=R.2.2.2.2.2.2.1 a0 a1 H λo1 H2=>cR K o1 H2 λv3=>onVal v3 λl4=>gK l4 7 (aR (aB H2) 1 7 (spl l4 [(.int 0 (.ofNat 0)),(.int 0 (.ofNat 0)),(.int 0 (.ofNat 0)),(.str 0 0),(.int 0 (.ofNat 0)),.ab,.ab] 0) λv5 H6=>af 3 a6 λv7=>ah 1 v7 v5 H6 λH8=>x4 a0 a5 a6 H8)
theorem Tv{R:fh}(hR:lM R){K:KF}{x4:iS}(h4:Bu K x4):I8 K (Bx R K x4):=λa0 a1 a5 a6 H h=>pk hR (cc h4 .nil) h
def By(R:fh)(K:KF):cz:=Bx R K (qx R K)
theorem Tw{R:fh}(hR:lM R){K:KF}:I8 K (By R K):=Tv hR (Gu hR)
def Bz(R:fh)(K:KF)(x2:kj)(a0:AV)(a1:Int)(a5:AV)(H:AH):Prop:=R.2.2.2.2.1 a0 (.str 1 59) H λo1 H2=>cR K o1 H2 λv3=>bS v3 λz4=>x2 a0 a1 a5 H2
theorem Tx{R:fh}(hR:lM R){K:KF}{x2:kj}(h2:qw K x2):I7 K (Bz R K x2):=λa0 a1 a5 H h=>pk hR (cc h2 .nil) h
def BA(R:fh)(K:KF)(i2:kj):kj:=Bz R K i2
theorem Tz{R:fh}(hR:lM R){K:KF}{i2:kj}(g2:qw K i2):I7 K (BA R K i2):=Tx hR g2
def uR(R:fh)(K:KF)(a5:AV)(H:AH):Prop:=K (.ret a5) H
theorem TA{R:fh}(hR:lM R){K:KF}:I6 K (uR R K):=λa5 H h=>pk hR .nil h
def BB(R:fh)(K:KF):Ta:=uR R K
theorem TB{R:fh}(hR:lM R){K:KF}:I6 K (BB R K):=TA hR
def uS(R:fh)(K:KF)(x5:cz)(x4:iS)(x3:kj)(x1:Ta)(a0:AV)(a1:Int)(a5:AV)(H:AH):Prop:=R.2.2.1 a0 H λo1 H2=>cR K o1 H2 λv3=>bS v3 λz4=>bI (!z4) (R.2.2.2.1 a0 H2 λo5 H6=>cR K o5 H6 λv7=>cI 0 v7 λz8=>eJ H6 (hN (aB H6) [(.int 0 (.ofNat 0)),(.int 0 (.ofNat 0)),.ab,.ab,.ab] λv9 cm=>ah 5 v9 (.agg [(.int 0 (.ofNat 0)),(.int 0 z8),.ab,.ab,.ab]) cm λiQ=>R.2.2.2.2.1 a0 (.str 6 121437875889522) iQ λoY fu=>cR K oY fu λv14=>bS v14 λmw=>bI mw (af 0 v9 λv16=>ah 1 v16 (.int 0 (.ofNat 10)) fu λjO=>R.2.2.1 a0 jO λJa kc=>cR K Ja kc λv20=>bS v20 λz21=>bI (!z21) (R.2.2.2.2.2.1 a0 (.str 1 59) kc λTC qy=>cR K TC qy λv24=>bS v24 λz25=>bI (!z25) (x5 a0 a1 a5 v9 qy) (x4 a0 a5 v9 qy)) (x4 a0 a5 v9 kc)) (R.2.2.2.2.2.2.2 a0 v9 a1 fu λo26 sk=>cR K o26 sk λv28=>aN 5 v9 sk λv29=>onVal v29 λl30=>gK l30 5 (aR (aB sk) 1 5 (spl l30 [(.int 0 (.ofNat 0)),(.int 0 (.ofNat 0)),.ab,.ab,.ab] 0) λv31 H32=>cQ 5 88 a5 v31 H32 λv33 H34=>x3 a0 a1 v33 H34)))) (x1 a5 H2)
theorem TD{R:fh}(hR:lM R){K:KF}{x5:cz}{x4:iS}{x3:kj}{x1:Ta}(h5:I8 K x5)(h4:Bu K x4)(h3:I7 K x3)(h1:I6 K x1):qw K (uS R K x5 x4 x3 x1):=λa0 a1 a5 H h=>pk hR (cc h5 (cc h4 (cc h3 (cc h1 .nil)))) h
def BC(R:fh)(K:KF)(i2:kj):kj:=uS R K (By R K) (qx R K) (BA R K i2) (BB R K)
theorem TE{R:fh}(hR:lM R){K:KF}{i2:kj}(g2:qw K i2):qw K (BC R K i2):=TD hR (Tw hR) (Gu hR) (Tz hR g2) (TB hR)
def sl(R:fh)(K:KF)(n:Nat):kj:=Nat.rec (motive:=λ_=>kj) (λ_ _ _ _=>False) (λ_ i=>BC R K i) n
theorem TF{R:fh}(hR:lM R){K:KF}(n:Nat):qw K (sl R K n):=Nat.rec (motive:=λn=>qw K (sl R K n)) (λa0 a1 a5 H h=>h.elim) (λn ih=>TE hR ih) n
def Jb(R:fh)(K:KF)(x2:kj)(a0:AV)(a1:Int)(H:AH):Prop:=ax 0 (Int.add a1 (.ofNat 1)) λz1=>R.2.1 a0 z1 H λo2 H3=>cR K o2 H3 λv4=>x2 a0 z1 .ab H3
theorem TG{R:fh}(hR:lM R){K:KF}{x2:kj}(h2:qw K x2)(a0:AV)(a1:Int)(H:AH)(h:Jb R K x2 a0 a1 H):fb 17 K [] (bD (eD 17) [a0,(.int 0 a1)]) [] H:=pk hR (cc h2 .nil) h
def TH(R:fh)(K:KF):dW:=Jb R K (sl R K NL)
def BD(R:fh):AV→Int→AH→KF→Prop:=λa0 a1 H K=>TH R K a0 a1 H
theorem agM(R:fh)(hR:lM R):aC gPa 17 (aw [.a,.i 0] (BD R)):=rk λK a0 a1 H h=>TG hR (TF hR NL) a0 a1 H h
abbrev tu:Type:=(AV→Int→AH→KF→Prop)×(AV→Int→Int→AH→KF→Prop)
def ajh(R:tu):List (Nat×dq):=[(37,aw [.a,.i 0] R.1),(56,aw [.a,.i 0,.i 0] R.2)]
abbrev ae6(R:tu):Prop:=ag gPa (ajh R)
def BE(R:tu)(K:KF)(a0:AV)(a1:Int)(H:AH):Prop:=eJ H (fc gPa (aB H) 41 λv1 H2=>ax 0 (Int.add a1 (.ofNat 1)) λz3=>R.1 a0 z3 H2 λo4 H5=>cR K o4 H5 λv6=>R.2 a0 (.ofNat 0) z3 H5 λo7 H8=>cR K o7 H8 λv9=>ah 7 v1 v9 H8 λcm=>aN 7 v1 cm λv11=>K (.ret v11) cm)
theorem TI{R:tu}(hR:ae6 R){K:KF}(a0:AV)(a1:Int)(H:AH)(h:BE R K a0 a1 H):fb 42 K [] (bD (eD 42) [a0,(.int 0 a1)]) [] H:=pk hR .nil h
def aji(R:tu)(K:KF):dW:=BE R K
def Qh(R:tu):AV→Int→AH→KF→Prop:=λa0 a1 H K=>aji R K a0 a1 H
theorem agN(R:tu)(hR:ae6 R):aC gPa 42 (aw [.a,.i 0] (Qh R)):=rk λK a0 a1 H h=>TI hR a0 a1 H h
abbrev bF:Type:=(AV→Int→AH→KF→Prop)×(AV→Int→AH→KF→Prop)×(AV→AH→KF→Prop)×(AV→AV→AH→KF→Prop)×(AV→AV→AH→KF→Prop)×(AV→Int→AH→KF→Prop)×(AV→AH→KF→Prop)×(AV→Int→AH→KF→Prop)×(AV→AV→AH→KF→Prop)×(AV→AV→Int→AH→KF→Prop)
def ajj(R:bF):List (Nat×dq):=[(17,aw [.a,.i 0] R.1),(18,aw [.a,.i 0] R.2.1),(39,aw [.a] R.2.2.1),(40,aw [.a,.a] R.2.2.2.1),(41,aw [.a,.a] R.2.2.2.2.1),(42,aw [.a,.i 0] R.2.2.2.2.2.1),(57,aw [.a] R.2.2.2.2.2.2.1),(58,aw [.a,.i 0] R.2.2.2.2.2.2.2.1),(59,aw [.a,.a] R.2.2.2.2.2.2.2.2.1),(60,aw [.a,.a,.i 0] R.2.2.2.2.2.2.2.2.2)]
abbrev eV(R:bF):Prop:=ag gPa (ajj R)
abbrev Jc(K:KF)(F:aE):Prop:=aT 43 K [1,1,0,1,0] 302 [0,1,2] [.a,.a,.i 0] F
abbrev Jd(K:KF)(F:aE):Prop:=aT 43 K [1,1,0,1,1,1,0] 302 [0,1,2] [.a,.a,.i 0] F
abbrev oZ(K:KF)(F:aE):Prop:=aT 43 K [0,0,1,0,1,1,1,0] 302 [0,1,2] [.a,.a,.i 0] F
abbrev Je(K:KF)(F:aE):Prop:=aT 43 K [1,0,1,1,1,1,1,0] 302 [0,1,2] [.a,.a,.i 0] F
abbrev Jf(K:KF)(F:Ta):Prop:=aT 43 K [1,1,1,0,1,1,1,0] 302 [0] [.a] F
abbrev Jg(K:KF)(F:aE):Prop:=aT 43 K [1,0,0,0,0,1,0,1,1,1,0] 302 [0,1,2] [.a,.a,.i 0] F
abbrev Jh(K:KF)(F:aE):Prop:=aT 43 K [1,1,0,1,1,1,1,1,1,1,0] 302 [0,1,2] [.a,.a,.i 0] F
abbrev Ji(K:KF)(F:aE):Prop:=aT 43 K [1,0,1,1,1,1,1,1,1,1,1,0] 302 [0,1,2] [.a,.a,.i 0] F
abbrev Jj(K:KF)(F:aE):Prop:=aT 43 K [1,1,1,0,0,0,0,1,0,1,1,1,0] 302 [0,1,2] [.a,.a,.i 0] F
abbrev yS(K:KF)(F:aE):Prop:=aT 43 K [1,1,1,0,1,1,1,1,1,1,1,1,1,0] 302 [0,1,2] [.a,.a,.i 0] F
abbrev Fk(K:KF)(F:aE):Prop:=aT 43 K [1,0,1,1,1,1,1,1,1,1,1,1,1,1,1,0] 302 [0,1,2] [.a,.a,.i 0] F
abbrev Fl(K:KF)(F:iV):Prop:=aT 43 K [1,1,1,1,1,1,1,1,1,1,1,1,1,1,1,1,0] 302 [0,1,2,8] [.a,.a,.i 0,.a] F
abbrev Fm(K:KF)(F:aE):Prop:=aT 43 K [1,1,0,1,0,1,1,0,1,1,1,1,1,1,1,1,1,0] 302 [0,1,2] [.a,.a,.i 0] F
abbrev Fo(K:KF)(F:aE):Prop:=aT 43 K [1,1,1,1,0,1,1,0,1,1,1,1,1,1,1,1,1,0] 302 [0,1,2] [.a,.a,.i 0] F
abbrev Fp(K:KF)(F:iV):Prop:=aT 43 K [1,1,1,1,1,1,1,1,1,1,1,1,1,1,1,1,1,1,0] 302 [0,1,2,8] [.a,.a,.i 0,.a] F
abbrev Fq(K:KF)(F:cX):Prop:=aT 43 K [0,1,0,1,1,1,1,1,1,1,1,1,1,1,1,1,1,1,1,0] 302 [1,8] [.a,.a] F
abbrev Fs(K:KF)(F:aE):Prop:=aT 43 K [1,1,1,1,1,1,0,1,1,0,1,1,1,1,1,1,1,1,1,0] 302 [0,1,2] [.a,.a,.i 0] F
def uT(R:bF)(K:KF)(a0:AV)(H:AH):Prop:=R.2.2.2.2.2.2.2.2.1 a0 (.str 3 6581861) H λo1 H2=>cR K o1 H2 λv3=>K (.ret (.aL [])) H2
theorem TJ{R:bF}(hR:eV R){K:KF}:Jf K (uT R K):=λa0 H h=>pk hR .nil h
def Jk(R:bF)(K:KF):Ta:=uT R K
theorem TK{R:bF}(hR:eV R){K:KF}:Jf K (Jk R K):=TJ hR
def BF(R:bF)(K:KF)(x5:Ta)(a0 a1:AV)(a2:Int)(H:AH):Prop:=R.2.2.2.1 a0 (.str 4 1702063205) H λo1 H2=>cR K o1 H2 λv3=>bS v3 λz4=>bI z4 (ao a1 (af 4 a1 λv5=>ad v5 H2 λv6=>R.1 a0 a2 H2 λo7 H8=>cR K o7 H8 λv9=>ad v5 H8 λv10=>bT (bj v10 v6) (cL H8 (one v9 (aR (aB H8) 1 1 [v9] λv11 bO=>bT (Nat.beq bO.n (Nat.succ H8.n)) (cQ 1 24 v6 v11 bO λv13 dh=>ao a1 (af 4 a1 λv15=>ah 1 v15 v13 dh λeE=>x5 a0 eE))))))) (x5 a0 H2)
theorem TL{R:bF}(hR:eV R){K:KF}{x5:Ta}(h5:Jf K x5):Jd K (BF R K x5):=λa0 a1 a2 H h=>pk hR (cc h5 .nil) h
def BG(R:bF)(K:KF):aE:=BF R K (Jk R K)
theorem TM{R:bF}(hR:eV R){K:KF}:Jd K (BG R K):=TL hR (TK hR)
def BH(R:bF)(K:KF)(x3 x2:aE)(a0 a1:AV)(a2:Int)(H:AH):Prop:=R.2.2.2.1 a0 (.str 6 112602859662437) H λo1 H2=>cR K o1 H2 λv3=>bS v3 λz4=>bI (!z4) (x2 a0 a1 a2 H2) (x3 a0 a1 a2 H2)
theorem TN{R:bF}(hR:eV R){K:KF}{x3 x2:aE}(h3:oZ K x3)(h2:Jd K x2):Jj K (BH R K x3 x2):=λa0 a1 a2 H h=>pk hR (cc h3 (cc h2 .nil)) h
def Jl(R:bF)(K:KF)(i3:aE):aE:=BH R K i3 (BG R K)
theorem TO{R:bF}(hR:eV R){K:KF}{i3:aE}(g3:oZ K i3):Jj K (Jl R K i3):=TN hR g3 (TM hR)
def BI(R:bF)(K:KF)(x9:aE)(a0 a1:AV)(a2:Int)(H:AH):Prop:=R.2.2.2.2.2.2.2.2.1 a0 (.str 4 1852139636) H λo1 H2=>cR K o1 H2 λv3=>ao a1 (af 4 a1 λv4=>ad v4 H2 λv5=>R.1 a0 a2 H2 λo6 H7=>cR K o6 H7 λv8=>ad v4 H7 λv9=>bT (bj v9 v5) (cL H7 (one v8 (aR (aB H7) 1 1 [v8] λv10 iQ=>bT (Nat.beq iQ.n (Nat.succ H7.n)) (cQ 1 24 v5 v10 iQ λv12 fu=>ao a1 (af 4 a1 λv14=>ah 1 v14 v12 fu λeM=>x9 a0 a1 a2 eM))))))
theorem TP{R:bF}(hR:eV R){K:KF}{x9:aE}(h9:Jj K x9):Jg K (BI R K x9):=λa0 a1 a2 H h=>pk hR (cc h9 .nil) h
def Jm(R:bF)(K:KF)(i3:aE):aE:=BI R K (Jl R K i3)
theorem TQ{R:bF}(hR:eV R){K:KF}{i3:aE}(g3:oZ K i3):Jg K (Jm R K i3):=TP hR (TO hR g3)
def BJ(R:bF)(K:KF)(x6:aE)(a0 a1:AV)(a2:Int)(H:AH):Prop:=ao a1 (af 3 a1 λv1=>ad v1 H λv2=>bN v2 λv3=>cI 0 v3 λz4=>cL H (aR (aB H) 1 7 [(.int 0 (.ofNat 0)),(.int 0 (.ofNat 0)),(.int 0 (.ofNat 0)),(.str 0 0),(.int 0 (.ofNat 0)),.ab,.ab] λv5 H6=>bT (Nat.beq H6.n (Nat.succ H.n)) (R.2.2.2.2.2.1 a0 a2 H6 λo7 H8=>cR K o7 H8 λv9=>ad v1 H8 λv10=>bT (bj v10 v2) (cQ 7 96 v2 v5 H8 λv11 bO=>bf 7 v11 (.int 0 z4) λv13=>ao a1 (af 3 a1 λv14=>ah 7 v13 v9 bO λeM=>ah 1 v14 v11 eM λeE=>ah 1 v14 v11 bO λjO=>ah 7 v13 v9 jO λiy=>uM 7 1 v13 v14 (x6 a0 a1 a2 eE))))))
theorem TR{R:bF}(hR:eV R){K:KF}{x6:aE}(h6:Jg K x6):oZ K (BJ R K x6):=λa0 a1 a2 H h=>pk hR (cc h6 .nil) h
def TS(R:bF)(K:KF)(i3:aE):aE:=BJ R K (Jm R K i3)
theorem TT{R:bF}(hR:eV R){K:KF}{i3:aE}(g3:oZ K i3):oZ K (TS R K i3):=TR hR (TQ hR g3)
def sn(R:bF)(K:KF)(n:Nat):aE:=Nat.rec (motive:=λ_=>aE) (λ_ _ _ _=>False) (λ_ i=>TS R K i) n
theorem TU{R:bF}(hR:eV R){K:KF}(n:Nat):oZ K (sn R K n):=Nat.rec (motive:=λn=>oZ K (sn R K n)) (λa0 a1 a2 H h=>h.elim) (λn ih=>TT hR ih) n
def BK(R:bF)(K:KF)(a0 a1:AV)(a2:Int)(H:AH):Prop:=R.2.2.2.2.2.2.2.2.1 a0 (.str 2 28516) H λo1 H2=>cR K o1 H2 λv3=>R.1 a0 a2 H2 λo4 H5=>cR K o4 H5 λv6=>one v6 (aR (aB H5) 1 1 [v6] λv7 H8=>ao a1 (af 4 a1 λv9=>ah 1 v9 v7 H8 λcm=>R.2.2.2.2.2.2.2.2.1 a0 (.str 3 6581861) cm λkC bO=>cR K kC bO λv13=>K (.ret (.aL [])) bO))
theorem TV{R:bF}(hR:eV R){K:KF}:Je K (BK R K):=λa0 a1 a2 H h=>pk hR .nil h
def Jn(R:bF)(K:KF):aE:=BK R K
theorem TW{R:bF}(hR:eV R){K:KF}:Je K (Jn R K):=TV hR
def yT(R:bF)(K:KF)(a0 a1:AV)(a2:Int)(H:AH):Prop:=R.2.2.2.2.2.2.2.2.1 a0 (.str 2 28516) H λo1 H2=>cR K o1 H2 λv3=>R.1 a0 a2 H2 λo4 H5=>cR K o4 H5 λv6=>one v6 (aR (aB H5) 1 1 [v6] λv7 H8=>ao a1 (af 4 a1 λv9=>ah 1 v9 v7 H8 λcm=>R.2.2.2.2.2.2.2.2.1 a0 (.str 3 6581861) cm λkC bO=>cR K kC bO λv13=>K (.ret (.aL [])) bO))
theorem Qi{R:bF}(hR:eV R){K:KF}:yS K (yT R K):=λa0 a1 a2 H h=>pk hR .nil h
def rJ(R:bF)(K:KF):aE:=yT R K
theorem BL{R:bF}(hR:eV R){K:KF}:yS K (rJ R K):=Qi hR
def yU(R:bF)(K:KF)(x10:aE)(a0 a1:AV)(a2:Int)(H:AH):Prop:=R.2.2.2.2.2.2.2.2.1 a0 (.str 2 28265) H λo1 H2=>cR K o1 H2 λv3=>R.2.2.2.2.2.1 a0 a2 H2 λo4 H5=>cR K o4 H5 λv6=>onVal v6 λl7=>gK l7 7 (aR (aB H5) 1 7 (spl l7 [(.int 0 (.ofNat 0)),(.int 0 (.ofNat 0)),(.int 0 (.ofNat 0)),(.str 0 0),(.int 0 (.ofNat 0)),.ab,.ab] 0) λv8 H9=>ao a1 (af 3 a1 λv10=>ah 1 v10 v8 H9 λiQ=>x10 a0 a1 a2 iQ))
theorem Qj{R:bF}(hR:eV R){K:KF}{x10:aE}(h10:yS K x10):Fm K (yU R K x10):=λa0 a1 a2 H h=>pk hR (cc h10 .nil) h
def Ft(R:bF)(K:KF):aE:=yU R K (rJ R K)
theorem Qk{R:bF}(hR:eV R){K:KF}:Fm K (Ft R K):=Qj hR (BL hR)
def yV(R:bF)(K:KF)(x10:aE)(a0 a1:AV)(a2:Int)(H:AH):Prop:=R.2.2.2.1 a0 (.str 1 44) H λo1 H2=>cR K o1 H2 λv3=>bS v3 λz4=>bI z4 (ao a1 (af 3 a1 λv5=>ad v5 H2 λv6=>bN v6 λv7=>cI 0 v7 λz8=>cL H2 (aR (aB H2) 1 7 [(.int 0 (.ofNat 0)),(.int 0 (.ofNat 0)),(.int 0 (.ofNat 0)),(.str 0 0),(.int 0 (.ofNat 0)),.ab,.ab] λv9 cm=>bT (Nat.beq cm.n (Nat.succ H2.n)) (R.2.2.2.2.2.1 a0 a2 cm λkC bO=>cR K kC bO λv13=>ad v5 bO λv14=>bT (bj v14 v6) (cQ 7 96 v6 v9 bO λv15 eE=>bf 7 v15 (.int 0 z8) λv17=>ao a1 (af 3 a1 λv18=>ah 7 v17 v13 eE λkc=>ah 1 v18 v15 kc λjs=>ah 1 v18 v15 eE λgZ=>ah 7 v17 v13 gZ λgU=>uM 7 1 v17 v18 (x10 a0 a1 a2 js))))))) (x10 a0 a1 a2 H2)
theorem Ql{R:bF}(hR:eV R){K:KF}{x10:aE}(h10:yS K x10):Fs K (yV R K x10):=λa0 a1 a2 H h=>pk hR (cc h10 .nil) h
def Fv(R:bF)(K:KF):aE:=yV R K (rJ R K)
theorem Qm{R:bF}(hR:eV R){K:KF}:Fs K (Fv R K):=Ql hR (BL hR)
def yW(R:bF)(K:KF)(x17:aE)(a0 a1:AV)(a2:Int)(H:AH):Prop:=R.2.2.2.2.2.2.2.2.1 a0 (.str 1 44) H λo1 H2=>cR K o1 H2 λv3=>ao a1 (af 3 a1 λv4=>ad v4 H2 λv5=>bN v5 λv6=>cI 0 v6 λz7=>cL H2 (aR (aB H2) 1 7 [(.int 0 (.ofNat 0)),(.int 0 (.ofNat 0)),(.int 0 (.ofNat 0)),(.str 0 0),(.int 0 (.ofNat 0)),.ab,.ab] λv8 H9=>bT (Nat.beq H9.n (Nat.succ H2.n)) (R.2.2.2.2.2.1 a0 a2 H9 λBM iQ=>cR K BM iQ λv12=>ad v4 iQ λv13=>bT (bj v13 v5) (cQ 7 96 v5 v8 iQ λv14 eM=>bf 7 v14 (.int 0 z7) λv16=>ao a1 (af 3 a1 λv17=>ah 7 v16 v12 eM λiy=>ah 1 v17 v14 iy λkc=>ah 1 v17 v14 eM λjs=>ah 7 v16 v12 js λgZ=>uM 7 1 v16 v17 (x17 a0 a1 a2 kc))))))
theorem Qn{R:bF}(hR:eV R){K:KF}{x17:aE}(h17:Fs K x17):Fo K (yW R K x17):=λa0 a1 a2 H h=>pk hR (cc h17 .nil) h
def Fw(R:bF)(K:KF):aE:=yW R K (Fv R K)
theorem Qo{R:bF}(hR:eV R){K:KF}:Fo K (Fw R K):=Qn hR (Qm hR)
def BN(R:bF)(K:KF)(Gv x14:aE)(a0 a1:AV)(a2:Int)(H:AH):Prop:=ao a1 (af 0 a1 λv1=>ah 1 v1 (.int 0 (.ofNat 6)) H λH2=>R.2.2.2.1 a0 (.str 1 44) H2 λo3 H4=>cR K o3 H4 λv5=>bS v5 λz6=>bI z6 (ao a1 (af 0 a1 λv7=>ah 1 v7 (.int 0 (.ofNat 7)) H4 λH8=>ao a1 (af 2 a1 λv9=>ad v9 H8 λv10=>R.2.2.2.2.2.2.1 a0 H8 λkC bO=>cR K kC bO λv13=>ad v9 bO λv14=>bT (bj v14 v10) (cL bO (one v13 (aR (aB bO) 1 1 [v13] λv15 eE=>bT (Nat.beq eE.n (Nat.succ bO.n)) (cQ 1 16 v10 v15 eE λv17 iy=>ao a1 (af 2 a1 λv19=>ah 1 v19 v17 iy λjs=>Gv a0 a1 a2 js)))))))) (R.2.2.2.2.2.2.2.2.1 a0 (.str 1 61) H4 λsj gU=>cR K sj gU λv23=>R.2.2.2.2.2.1 a0 a2 gU λTX rf=>cR K TX rf λv26=>onVal v26 λTY=>gK TY 7 (aR (aB rf) 1 7 (spl TY [(.int 0 (.ofNat 0)),(.int 0 (.ofNat 0)),(.int 0 (.ofNat 0)),(.str 0 0),(.int 0 (.ofNat 0)),.ab,.ab] 0) λv28 BO=>ao a1 (af 3 a1 λv30=>ah 1 v30 v28 BO λH31=>x14 a0 a1 a2 H31))))
theorem TZ{R:bF}(hR:eV R){K:KF}{Gv x14:aE}(h13:Fm K Gv)(h14:Fo K x14):Ji K (BN R K Gv x14):=λa0 a1 a2 H h=>pk hR (cc h13 (cc h14 .nil)) h
def Jo(R:bF)(K:KF):aE:=BN R K (Ft R K) (Fw R K)
theorem T0{R:bF}(hR:eV R){K:KF}:Ji K (Jo R K):=TZ hR (Qk hR) (Qo hR)
def yX(R:bF)(K:KF)(a0 a1:AV)(a2:Int)(H:AH):Prop:=R.1 a0 a2 H λo1 H2=>cR K o1 H2 λv3=>one v3 (aR (aB H2) 1 1 [v3] λv4 H5=>ao a1 (af 4 a1 λv6=>ah 1 v6 v4 H5 λH7=>R.2.2.2.2.2.2.2.2.1 a0 (.str 3 6581861) H7 λo8 H9=>cR K o8 H9 λv10=>K (.ret (.aL [])) H9))
theorem Qp{R:bF}(hR:eV R){K:KF}:Fk K (yX R K):=λa0 a1 a2 H h=>pk hR .nil h
def Fx(R:bF)(K:KF):aE:=yX R K
theorem Qq{R:bF}(hR:eV R){K:KF}:Fk K (Fx R K):=Qp hR
def BP(R:bF)(K:KF)(a0 a1:AV)(a2:Int)(H:AH):Prop:=R.2.2.2.1 a0 (.str 1 61) H λo1 H2=>cR K o1 H2 λv3=>bS v3 λz4=>bI z4 (R.2.2.2.2.2.1 a0 a2 H2 λo5 H6=>cR K o5 H6 λv7=>onVal v7 λl8=>gK l8 7 (aR (aB H6) 1 7 (spl l8 [(.int 0 (.ofNat 0)),(.int 0 (.ofNat 0)),(.int 0 (.ofNat 0)),(.str 0 0),(.int 0 (.ofNat 0)),.ab,.ab] 0) λv9 cm=>ao a1 (af 3 a1 λv11=>ah 1 v11 v9 cm λbO=>K (.ret (.aL [])) bO))) (K (.ret (.aL [])) H2)
theorem T5{R:bF}(hR:eV R){K:KF}:Jc K (BP R K):=λa0 a1 a2 H h=>pk hR .nil h
def Jp(R:bF)(K:KF):aE:=BP R K
theorem T6{R:bF}(hR:eV R){K:KF}:Jc K (Jp R K):=T5 hR
def BQ(R:bF)(K:KF)(a0 a1:AV)(a2:Int)(H:AH):Prop:=R.2.2.2.2.2.1 a0 a2 H λo1 H2=>cR K o1 H2 λv3=>onVal v3 λl4=>gK l4 7 (aR (aB H2) 1 7 (spl l4 [(.int 0 (.ofNat 0)),(.int 0 (.ofNat 0)),(.int 0 (.ofNat 0)),(.str 0 0),(.int 0 (.ofNat 0)),.ab,.ab] 0) λv5 H6=>ao a1 (af 0 a1 λv7=>ah 1 v7 (.int 0 (.ofNat 8)) H6 λH8=>ao a1 (af 3 a1 λv9=>ah 1 v9 v5 H8 λcm=>K (.ret (.aL [])) cm)))
theorem T7{R:bF}(hR:eV R){K:KF}:Jh K (BQ R K):=λa0 a1 a2 H h=>pk hR .nil h
def Jq(R:bF)(K:KF):aE:=BQ R K
theorem T8{R:bF}(hR:eV R){K:KF}:Jh K (Jq R K):=T7 hR
def yY(R:bF)(K:KF)(a1 a8:AV)(H:AH):Prop:=aN 7 a8 H λv1=>cL H (onVal v1 λl2=>gK l2 7 (aR (aB H) 1 7 (spl l2 [(.int 0 (.ofNat 0)),(.int 0 (.ofNat 0)),(.int 0 (.ofNat 0)),(.str 0 0),(.int 0 (.ofNat 0)),.ab,.ab] 0) λv3 H4=>bT (Nat.beq H4.n (Nat.succ H.n)) (ao a1 (af 0 a1 λv5=>ah 1 v5 (.int 0 (.ofNat 3)) H4 λH6=>aN 7 a8 H6 λv7=>bT (bj v7 v1) (ao a1 (af 3 a1 λv8=>ah 1 v8 v3 H6 λH9=>K (.ret (.aL [])) H9))))))
theorem Qr{R:bF}(hR:eV R){K:KF}:Fq K (yY R K):=λa1 a8 H h=>pk hR .nil h
def yZ(R:bF)(K:KF):cX:=yY R K
theorem Qs{R:bF}(hR:eV R){K:KF}:Fq K (yZ R K):=Qr hR
def y0(R:bF)(K:KF)(a0 a1:AV)(a2:Int)(a8:AV)(H:AH):Prop:=R.2.2.2.2.2.2.2.2.1 a0 (.str 1 61) H λo1 H2=>cR K o1 H2 λv3=>aN 7 a8 H2 λv4=>R.2.2.2.2.2.1 a0 a2 H2 λo5 H6=>cR K o5 H6 λv7=>aN 7 a8 H6 λv8=>bT (bj v8 v4) (cL H6 (onVal v4 λl9=>gK l9 7 (onVal v7 λl10=>gK l10 7 (aR (aB H6) 2 7 (spl l10 (spl l9 [(.int 0 (.ofNat 0)),(.int 0 (.ofNat 0)),(.int 0 (.ofNat 0)),(.str 0 0),(.int 0 (.ofNat 0)),.ab,.ab,(.int 0 (.ofNat 0)),(.int 0 (.ofNat 0)),(.int 0 (.ofNat 0)),(.str 0 0),(.int 0 (.ofNat 0)),.ab,.ab] 0) 7) λv11 bO=>bT (Nat.beq bO.n (Nat.succ H6.n)) (ao a1 (af 0 a1 λv13=>ah 1 v13 (.int 0 (.ofNat 2)) bO λdh=>aN 7 a8 dh λv15=>bT (bj v15 v4) (ao a1 (af 3 a1 λv16=>ah 1 v16 v11 dh λjO=>K (.ret (.aL [])) jO))))))))
theorem Qt{R:bF}(hR:eV R){K:KF}:Fp K (y0 R K):=λa0 a1 a2 a8 H h=>pk hR .nil h
def y7(R:bF)(K:KF):iV:=y0 R K
theorem Qu{R:bF}(hR:eV R){K:KF}:Fp K (y7 R K):=Qt hR
def y8(R:bF)(K:KF)(x16:cX)(x15:iV)(a0 a1:AV)(a2:Int)(a8:AV)(H:AH):Prop:=af 0 a8 λv1=>ad v1 H λv2=>cI 0 v2 λz3=>bI (bq z3 (.ofNat 10)) (R.2.2.2.2.1 a0 (.str 1 61) H λo4 H5=>cR K o4 H5 λv6=>bS v6 λz7=>bI (!z7) (x16 a1 a8 H5) (af 0 a8 λv8=>ad v8 H5 λv9=>cI 0 v9 λz10=>bI (bq z10 (.ofNat 10)) (R.2.1 a0 (.ofNat 14) H5 λkC bO=>cR K kC bO λv13=>x15 a0 a1 a2 a8 bO) (x15 a0 a1 a2 a8 H5))) (af 0 a8 λv14=>ad v14 H λv15=>cI 0 v15 λqt=>bI (bq qt (.ofNat 10)) (R.2.1 a0 (.ofNat 14) H λo17 iy=>cR K o17 iy λv19=>x15 a0 a1 a2 a8 iy) (x15 a0 a1 a2 a8 H))
theorem Qv{R:bF}(hR:eV R){K:KF}{x16:cX}{x15:iV}(h16:Fq K x16)(h15:Fp K x15):Fl K (y8 R K x16 x15):=λa0 a1 a2 a8 H h=>pk hR (cc h16 (cc h15 .nil)) h
def Fy(R:bF)(K:KF):iV:=y8 R K (yZ R K) (y7 R K)
theorem Qw{R:bF}(hR:eV R){K:KF}:Fl K (Fy R K):=Qv hR (Qs hR) (Qu hR)
def Jr(R:bF)(K:KF)(x3 x4 x8 x11 x1 x7:aE)(x12:iV)(a0 a1:AV)(a2:Int)(H:AH):Prop:=R.2.2.2.1 a0 (.str 5 465490374508) H λo1 H2=>cR K o1 H2 λv3=>bS v3 λz4=>bI z4 (R.2.2.2.1 a0 (.str 8 7957695015192261990) H2 λo5 H6=>cR K o5 H6 λv7=>bS v7 λz8=>bI z8 (R.2.2.2.2.2.2.1 a0 H6 λo9 cm=>cR K o9 cm λv11=>one v11 (aR (aB cm) 1 1 [v11] λv12 fu=>ao a1 (af 2 a1 λv14=>ah 1 v14 v12 fu λeM=>R.2.2.1 a0 eM λo16 jO=>cR K o16 jO λv18=>cI 0 v18 λuU=>R.2.2.2.2.2.2.2.1 a0 a2 jO λT9 gZ=>cR K T9 gZ λv22=>onVal v22 λl23=>gK l23 2 (aR (aB gZ) 1 2 (spl l23 [.ab,.ab] 0) λv24 rf=>one v24 (aR (aB rf) 1 7 [(.int 0 (.ofNat 7)),(.int 0 uU),(.int 0 (.ofNat 0)),(.str 0 0),(.int 0 (.ofNat 0)),.ab,v24] λv26 sk=>ao a1 (af 0 a1 λv28=>ah 1 v28 (.int 0 (.ofNat 12)) sk λBO=>ao a1 (af 3 a1 λv30=>ah 1 v30 v26 BO λH31=>K (.ret (.aL [])) H31))))))) (R.2.2.2.2.2.2.1 a0 H6 λo32 Ol=>cR K o32 Ol λv34=>one v34 (aR (aB Ol) 1 1 [v34] λv35 H36=>ao a1 (af 0 a1 λv37=>ah 1 v37 (.int 0 (.ofNat 1)) H36 λJs=>ao a1 (af 2 a1 λv39=>ah 1 v39 v35 Js λH40=>x1 a0 a1 a2 H40))))) (R.2.2.2.1 a0 (.str 2 26217) H2 λo41 Ua=>cR K o41 Ua λv43=>bS v43 λz44=>bI z44 (ao a1 (af 0 a1 λv45=>ah 1 v45 (.int 0 (.ofNat 4)) Ua λH46=>x3 a0 a1 a2 H46)) (R.2.2.2.1 a0 (.str 5 435610544247) Ua λo47 H48=>cR K o47 H48 λv49=>bS v49 λz50=>bI z50 (R.2.2.2.2.2.1 a0 a2 H48 λo51 H52=>cR K o51 H52 λv53=>onVal v53 λl54=>gK l54 7 (aR (aB H52) 1 7 (spl l54 [(.int 0 (.ofNat 0)),(.int 0 (.ofNat 0)),(.int 0 (.ofNat 0)),(.str 0 0),(.int 0 (.ofNat 0)),.ab,.ab] 0) λv55 Ub=>ao a1 (af 0 a1 λv57=>ah 1 v57 (.int 0 (.ofNat 5)) Ub λH58=>ao a1 (af 3 a1 λv59=>ah 1 v59 v55 H58 λH60=>x4 a0 a1 a2 H60)))) (R.2.2.2.1 a0 (.str 6 127961662514546) H48 λo61 Jt=>cR K o61 Jt λv63=>bS v63 λz64=>bI z64 (R.1 a0 a2 Jt λo65 Uc=>cR K o65 Uc λv67=>one v67 (aR (aB Uc) 1 1 [v67] λv68 H69=>ao a1 (af 4 a1 λv70=>ah 1 v70 v68 H69 λH71=>R.2.2.2.2.2.2.2.2.1 a0 (.str 5 465625706101) H71 λo72 H73=>cR K o72 H73 λv74=>x7 a0 a1 a2 H73))) (R.2.2.2.1 a0 (.str 3 7499622) Jt λo75 H76=>cR K o75 H76 λv77=>bS v77 λz78=>bI z78 (R.2.2.2.2.2.2.1 a0 H76 λo79 Ud=>cR K o79 Ud λv81=>one v81 (aR (aB Ud) 1 1 [v81] λv82 H83=>ao a1 (af 2 a1 λv84=>ah 1 v84 v82 H83 λH85=>x8 a0 a1 a2 H85))) (R.2.2.2.1 a0 (.str 5 461195539042) H76 λo86 H87=>cR K o86 H87 λv88=>bS v88 λz89=>bI z89 (ao a1 (af 0 a1 λv90=>ah 1 v90 (.int 0 (.ofNat 9)) H87 λH91=>K (.ret (.aL [])) H91)) (R.2.2.2.1 a0 (.str 2 28516) H87 λo92 H93=>cR K o92 H93 λv94=>bS v94 λz95=>bI z95 (ao a1 (af 0 a1 λv96=>ah 1 v96 (.int 0 (.ofNat 11)) H93 λH97=>x11 a0 a1 a2 H97)) (R.2.2.1 a0 H93 λo98 H99=>cR K o98 H99 λaqa=>cI 0 aqa λaqb=>R.2.2.2.2.2.2.1 a0 H99 λaqc ajk=>cR K aqc ajk λajl=>one ajl (R.2.2.2.2.2.2.2.2.2 a0 (.agg [(.int 0 (.ofNat 6)),(.int 0 aqb),(.int 0 (.ofNat 0)),ajl,(.int 0 (.ofNat 0)),.ab,.ab]) a2 ajk λaqd adH=>cR K aqd adH λv107=>eJ adH (fc gPa (aB adH) 41 λajm aqe=>ah 7 ajm v107 aqe λaqf=>x12 a0 a1 a2 ajm aqf)))))))))
theorem Ue{R:bF}(hR:eV R){K:KF}{x3 x4 x8 x11 x1 x7:aE}{x12:iV}(h3:oZ K x3)(h4:Je K x4)(h8:Ji K x8)(h11:Fk K x11)(h1:Jc K x1)(h7:Jh K x7)(h12:Fl K x12)(a0 a1:AV)(a2:Int)(H:AH)(h:Jr R K x3 x4 x8 x11 x1 x7 x12 a0 a1 a2 H):fb 43 K [] (bD (eD 43) [a0,a1,(.int 0 a2)]) [] H:=pk hR (cc h3 (cc h4 (cc h8 (cc h11 (cc h1 (cc h7 (cc h12 .nil))))))) h
def Uf(R:bF)(K:KF):aE:=Jr R K (sn R K NL) (Jn R K) (Jo R K) (Fx R K) (Jp R K) (Jq R K) (Fy R K)
def BS(R:bF):AV→AV→Int→AH→KF→Prop:=λa0 a1 a2 H K=>Uf R K a0 a1 a2 H
theorem agO(R:bF)(hR:eV R):aC gPa 43 (aw [.a,.a,.i 0] (BS R)):=rk λK a0 a1 a2 H h=>Ue hR (TU hR NL) (TW hR) (T0 hR) (Qq hR) (T6 hR) (T8 hR) (Qw hR) a0 a1 a2 H h
abbrev dA:Type:=(AV→AH→KF→Prop)×(AV→AV→AH→KF→Prop)×(AV→Int→Int→AH→KF→Prop)×(AV→Int→AH→KF→Prop)×(AV→Int→AH→KF→Prop)
def ajn(R:dA):List (Nat×dq):=[(39,aw [.a] R.1),(41,aw [.a,.a] R.2.1),(56,aw [.a,.i 0,.i 0] R.2.2.1),(74,aw [.a,.i 0] R.2.2.2.1),(75,aw [.a,.i 0] R.2.2.2.2)]
abbrev jt(R:dA):Prop:=ag gPa (ajn R)
abbrev Ju(K:KF)(F:Bb):Prop:=aT 56 K [1,1,1,1,1] 101 [0,1,2,6,7] [.a,.i 0,.i 0,.a,.a] F
abbrev Jv(K:KF)(F:dN):Prop:=aT 56 K [1,1,1,1,1,1,1] 101 [0,1,2,6,7,8,9] [.a,.i 0,.i 0,.a,.a,.a,.a] F
abbrev lC(K:KF)(F:dN):Prop:=aT 56 K [0,1,1,1,1,1,1,1] 101 [0,1,2,6,7,8,9] [.a,.i 0,.i 0,.a,.a,.a,.a] F
abbrev Jw(K:KF)(F:iP):Prop:=aT 56 K [1,1,0,0,0,1,1,1,1,1,1,1] 101 [0,1,2,6,7,8,9,10] [.a,.i 0,.i 0,.a,.a,.a,.a,.i 0] F
abbrev so(K:KF)(F:iP):Prop:=aT 56 K [0,0,1,0,0,0,1,1,1,1,1,1,1] 101 [0,1,2,6,7,8,9,10] [.a,.i 0,.i 0,.a,.a,.a,.a,.i 0] F
abbrev Jx(K:KF)(F:rr):Prop:=aT 56 K [1,1,1,1,1,0,0,0,1,1,1,1,1,1,1] 101 [0,1,2,6,7,8,9,10,11] [.a,.i 0,.i 0,.a,.a,.a,.a,.i 0,.i 0] F
abbrev Jy(K:KF)(F:jm):Prop:=aT 56 K [1,1,1,1,1,1,1,1,0,0,0,1,1,1,1,1,1,1] 101 [0,1,2,6,7,8,9,10,11,12,13] [.a,.i 0,.i 0,.a,.a,.a,.a,.i 0,.i 0,.a,.i 0] F
abbrev Jz(K:KF)(F:jm):Prop:=aT 56 K [1,1,1,1,1,1,1,1,1,0,0,0,1,1,1,1,1,1,1] 101 [0,1,2,6,7,8,9,10,11,12,13] [.a,.i 0,.i 0,.a,.a,.a,.a,.i 0,.i 0,.a,.i 0] F
def BT(R:dA)(K:KF)(x3:dN)(a0:AV)(a1 a2:Int)(a6 a7 a8 a9:AV)(a10 a11:Int)(a12:AV)(my:Int)(H:AH):Prop:=bf 1 a8 (.int 0 a10) λv1=>ad v1 H λv2=>cI 0 v2 λz3=>aN 7 a9 H λv4=>aN 7 a12 H λv5=>cL H (onVal v4 λl6=>gK l6 7 (onVal v5 λl7=>gK l7 7 (aR (aB H) 2 7 (spl l7 (spl l6 [(.int 0 (.ofNat 0)),(.int 0 (.ofNat 0)),(.int 0 (.ofNat 0)),(.str 0 0),(.int 0 (.ofNat 0)),.ab,.ab,(.int 0 (.ofNat 0)),(.int 0 (.ofNat 0)),(.int 0 (.ofNat 0)),(.str 0 0),(.int 0 (.ofNat 0)),.ab,.ab] 0) 7) λv8 H9=>bT (Nat.beq H9.n (Nat.succ H.n)) (one v8 (ah 7 a9 (.agg [(.int 0 my),(.int 0 a11),(.int 0 (.ofNat 0)),(.str 0 0),(.int 0 z3),v8,.ab]) H9 λcm=>x3 a0 a1 a2 a6 a7 a8 a9 cm)))))
theorem Ug{R:dA}(hR:jt R){K:KF}{x3:dN}(h3:lC K x3):Jz K (BT R K x3):=λa0 a1 a2 a6 a7 a8 a9 a10 a11 a12 my H h=>pk hR (cc h3 .nil) h
def BU(R:dA)(K:KF)(i3:dN):jm:=BT R K i3
theorem Uh{R:dA}(hR:jt R){K:KF}{i3:dN}(g3:lC K i3):Jz K (BU R K i3):=Ug hR g3
def BV(R:dA)(K:KF)(x8:jm)(a0:AV)(a1 a2:Int)(a6 a7 a8 a9:AV)(a10 a11:Int)(a12:AV)(my:Int)(H:AH):Prop:=bI (bq a1 (.ofNat 1)) (x8 a0 a1 a2 a6 a7 a8 a9 a10 a11 a12 (.ofNat 15) H) (x8 a0 a1 a2 a6 a7 a8 a9 a10 a11 a12 my H)
theorem Ui{R:dA}(hR:jt R){K:KF}{x8:jm}(h8:Jz K x8):Jy K (BV R K x8):=λa0 a1 a2 a6 a7 a8 a9 a10 a11 a12 my H h=>pk hR (cc h8 .nil) h
def BW(R:dA)(K:KF)(i3:dN):jm:=BV R K (BU R K i3)
theorem Uj{R:dA}(hR:jt R){K:KF}{i3:dN}(g3:lC K i3):Jy K (BW R K i3):=Ui hR (Uh hR g3)
def BX(R:dA)(K:KF)(x7:jm)(a0:AV)(a1 a2:Int)(a6 a7 a8 a9:AV)(a10 a11:Int)(H:AH):Prop:=ax 0 (Int.add a1 (.ofNat 1)) λz1=>R.2.2.1 a0 z1 a2 H λo2 H3=>cR K o2 H3 λv4=>eJ H3 (fc gPa (aB H3) 41 λv5 H6=>ah 7 v5 v4 H6 λH7=>bI (bq a1 (.ofNat 0)) (x7 a0 a1 a2 a6 a7 a8 a9 a10 a11 v5 (.ofNat 16) H7) (x7 a0 a1 a2 a6 a7 a8 a9 a10 a11 v5 (.ofNat 14) H7))
theorem Uk{R:dA}(hR:jt R){K:KF}{x7:jm}(h7:Jy K x7):Jx K (BX R K x7):=λa0 a1 a2 a6 a7 a8 a9 a10 a11 H h=>pk hR (cc h7 .nil) h
def JA(R:dA)(K:KF)(i3:dN):rr:=BX R K (BW R K i3)
theorem Ul{R:dA}(hR:jt R){K:KF}{i3:dN}(g3:lC K i3):Jx K (JA R K i3):=Uk hR (Uj hR g3)
def BY(R:dA)(K:KF)(x6:rr)(a0:AV)(a1 a2:Int)(a6 a7 a8 a9:AV)(a10:Int)(H:AH):Prop:=bN a7 λv1=>cI 0 v1 λz2=>bI (bq a10 z2) (aN 7 a9 H λv3=>ah 7 a6 v3 H λH4=>aN 7 a6 H4 λv5=>K (.ret v5) H4) (R.1 a0 H λo6 H7=>cR K o6 H7 λv8=>cI 0 v8 λz9=>ao a0 (af 1 a0 λv10=>ad v10 H7 λv11=>cI 0 v11 λz12=>ax 0 (Int.add z12 (.ofNat 1)) λz13=>ao a0 (af 1 a0 λv14=>ah 1 v14 (.int 0 z13) H7 λeM=>x6 a0 a1 a2 a6 a7 a8 a9 a10 z9 eM)))
theorem Um{R:dA}(hR:jt R){K:KF}{x6:rr}(h6:Jx K x6):Jw K (BY R K x6):=λa0 a1 a2 a6 a7 a8 a9 a10 H h=>pk hR (cc h6 .nil) h
def BZ(R:dA)(K:KF)(i3:dN):iP:=BY R K (JA R K i3)
theorem Un{R:dA}(hR:jt R){K:KF}{i3:dN}(g3:lC K i3):Jw K (BZ R K i3):=Um hR (Ul hR g3)
def B4(R:dA)(K:KF)(x5 x4:iP)(a0:AV)(a1 a2:Int)(a6 a7 a8 a9:AV)(a10:Int)(H:AH):Prop:=bN a7 λv1=>cI 0 v1 λz2=>bI (cg a10 z2) (bf 1 a7 (.int 0 a10) λv3=>ad v3 H λv4=>R.2.1 a0 v4 H λo5 H6=>cR K o5 H6 λv7=>bS v7 λz8=>bI (!z8) (ax 0 (Int.add a10 (.ofNat 1)) λz9=>x5 a0 a1 a2 a6 a7 a8 a9 z9 H6) (x4 a0 a1 a2 a6 a7 a8 a9 a10 H6)) (x4 a0 a1 a2 a6 a7 a8 a9 a10 H)
theorem Uo{R:dA}(hR:jt R){K:KF}{x5 x4:iP}(h5:so K x5)(h4:Jw K x4):so K (B4 R K x5 x4):=λa0 a1 a2 a6 a7 a8 a9 a10 H h=>pk hR (cc h5 (cc h4 .nil)) h
def Up(R:dA)(K:KF)(i3:dN)(i5:iP):iP:=B4 R K i5 (BZ R K i3)
theorem Uq{R:dA}(hR:jt R){K:KF}{i3:dN}{i5:iP}(g3:lC K i3)(g5:so K i5):so K (Up R K i3 i5):=Uo hR g5 (Un hR g3)
def uV(R:dA)(K:KF)(i3:dN)(n:Nat):iP:=Nat.rec (motive:=λ_=>iP) (λ_ _ _ _ _ _ _ _ _=>False) (λ_ i=>Up R K i3 i) n
theorem Ur{R:dA}(hR:jt R){K:KF}{i3:dN}(g3:lC K i3)(n:Nat):so K (uV R K i3 n):=Nat.rec (motive:=λn=>so K (uV R K i3 n)) (λa0 a1 a2 a6 a7 a8 a9 a10 H h=>h.elim) (λn ih=>Uq hR g3 ih) n
def B6(R:dA)(K:KF)(x5:iP)(a0:AV)(a1 a2:Int)(a6 a7 a8 a9:AV)(H:AH):Prop:=x5 a0 a1 a2 a6 a7 a8 a9 (.ofNat 0) H
theorem Us{R:dA}(hR:jt R){K:KF}{x5:iP}(h5:so K x5):lC K (B6 R K x5):=λa0 a1 a2 a6 a7 a8 a9 H h=>pk hR (cc h5 .nil) h
def JB(R:dA)(K:KF)(i3:dN):dN:=B6 R K (uV R K i3 NL)
theorem Ut{R:dA}(hR:jt R){K:KF}{i3:dN}(g3:lC K i3):lC K (JB R K i3):=Us hR (Ur hR g3 NL)
def B7(R:dA)(K:KF)(n:Nat):dN:=Nat.rec (motive:=λ_=>dN) (λ_ _ _ _ _ _ _ _=>False) (λ_ i=>JB R K i) n
theorem Uu{R:dA}(hR:jt R){K:KF}(n:Nat):lC K (B7 R K n):=Nat.rec (motive:=λn=>lC K (B7 R K n)) (λa0 a1 a2 a6 a7 a8 a9 H h=>h.elim) (λn ih=>Ut hR ih) n
def JC(R:dA)(K:KF)(x3:dN)(a0:AV)(a1 a2:Int)(a6 a7 a8 a9:AV)(H:AH):Prop:=x3 a0 a1 a2 a6 a7 a8 a9 H
theorem Uv{R:dA}(hR:jt R){K:KF}{x3:dN}(h3:lC K x3):Jv K (JC R K x3):=λa0 a1 a2 a6 a7 a8 a9 H h=>pk hR (cc h3 .nil) h
def JD(R:dA)(K:KF):dN:=JC R K (B7 R K NL)
theorem Uw{R:dA}(hR:jt R){K:KF}:Jv K (JD R K):=Uv hR (Uu hR NL)
def JE(R:dA)(K:KF)(x2:dN)(a0:AV)(a1 a2:Int)(a6 a7:AV)(H:AH):Prop:=aR (aB H) 1 1 [(.int 0 (.ofNat 0))] λv1 H2=>aR (aB H2) 1 1 [(.int 0 (.ofNat 0))] λv3 H4=>aR (aB H4) 6 1 [(.int 0 (.ofNat 7)),(.int 0 (.ofNat 8)),(.int 0 (.ofNat 9)),(.int 0 (.ofNat 10)),(.int 0 (.ofNat 11)),(.int 0 (.ofNat 12))] λv5 H6=>aR (aB H6) 2 1 [(.int 0 (.ofNat 1)),(.int 0 (.ofNat 2))] λv7 H8=>aR (aB H8) 3 1 [(.int 0 (.ofNat 3)),(.int 0 (.ofNat 4)),(.int 0 (.ofNat 5))] λv9 cm=>one v1 (one v3 (one v5 (one v7 (one v9 (aR (aB cm) 6 1 [v1,v3,v5,.ab,v7,v9] λv11 bO=>bf 1 v11 (.int 0 a1) λv13=>ad v13 bO λv14=>ax 0 (Int.add a1 (.ofNat 1)) λmw=>R.2.2.1 a0 mw a2 bO λo16 jO=>cR K o16 jO λv18=>eJ jO (fc gPa (aB jO) 41 λv19 js=>ah 7 v19 v18 js λgZ=>x2 a0 a1 a2 a6 a7 v14 v19 gZ))))))
theorem Ux{R:dA}(hR:jt R){K:KF}{x2:dN}(h2:Jv K x2):Ju K (JE R K x2):=λa0 a1 a2 a6 a7 H h=>pk hR (cc h2 .nil) h
def xR(R:dA)(K:KF):Bb:=JE R K (JD R K)
theorem Uy{R:dA}(hR:jt R){K:KF}:Ju K (xR R K):=Ux hR (Uw hR)
def sq(R:dA)(K:KF)(x1:Bb)(a0:AV)(a1 a2:Int)(H:AH):Prop:=eJ H (fc gPa (aB H) 41 λv1 H2=>ao a0 (af 2 a0 λv3=>ad v3 H2 λv4=>cI 0 v4 λz5=>bI (!(bq z5 (.ofNat 0))) (ah 7 v1 (.agg [(.int 0 (.ofNat 0)),(.int 0 (.ofNat 0)),(.int 0 (.ofNat 0)),(.str 0 0),(.int 0 (.ofNat 0)),.ab,.ab]) H2 λH6=>aN 7 v1 H6 λv7=>K (.ret v7) H6) (bI (bq a1 (.ofNat 3)) (R.2.2.2.1 a0 a2 H2 λo8 H9=>cR K o8 H9 λv10=>ah 7 v1 v10 H9 λiQ=>aN 7 v1 iQ λv12=>K (.ret v12) iQ) (bI (bq a1 (.ofNat 6)) (R.2.2.2.2 a0 a2 H2 λlB dh=>cR K lB dh λv15=>ah 7 v1 v15 dh λeE=>aN 7 v1 eE λv17=>K (.ret v17) eE) (aR (aB H2) 1 1 [(.str 2 29295)] λv18 kc=>aR (aB kc) 1 1 [(.str 3 6581857)] λv20 gZ=>aR (aB gZ) 6 1 [(.str 2 15677),(.str 2 15742),(.str 1 60),(.str 2 15676),(.str 1 62),(.str 2 15678)] λv22 qy=>aR (aB qy) 2 1 [(.str 1 43),(.str 1 45)] λv24 rf=>aR (aB rf) 3 1 [(.str 1 42),(.str 2 12079),(.str 1 37)] λv26 sk=>one v18 (one v20 (one v22 (one v24 (one v26 (aR (aB sk) 6 1 [v18,v20,v22,.ab,v24,v26] λv28 BO=>bf 1 v28 (.int 0 a1) λv30=>ad v30 BO λv31=>x1 a0 a1 a2 v1 v31 BO))))))))))
theorem Uz{R:dA}(hR:jt R){K:KF}{x1:Bb}(h1:Ju K x1)(a0:AV)(a1 a2:Int)(H:AH)(h:sq R K x1 a0 a1 a2 H):fb 56 K [] (bD (eD 56) [a0,(.int 0 a1),(.int 0 a2)]) [] H:=pk hR (cc h1 .nil) h
def UA(R:dA)(K:KF):iT:=sq R K (xR R K)
def B9(R:dA):AV→Int→Int→AH→KF→Prop:=λa0 a1 a2 H K=>UA R K a0 a1 a2 H
theorem agP(R:dA)(hR:jt R):aC gPa 56 (aw [.a,.i 0,.i 0] (B9 R)):=rk λK a0 a1 a2 H h=>Uz hR (Uy hR) a0 a1 a2 H h
abbrev gN:Type:=(AV→Int→AH→KF→Prop)×(AV→AV→AH→KF→Prop)×(AV→AH→KF→Prop)×(AV→AV→AH→KF→Prop)×(AV→Int→Int→AH→KF→Prop)
def ajo(R:gN):List (Nat×dq):=[(17,aw [.a,.i 0] R.1),(40,aw [.a,.a] R.2.1),(57,aw [.a] R.2.2.1),(59,aw [.a,.a] R.2.2.2.1),(76,aw [.a,.i 0,.i 0] R.2.2.2.2)]
abbrev o0(R:gN):Prop:=ag gPa (ajo R)
abbrev Ca(K:KF)(F:cz):Prop:=aT 58 K [1,1,1,1] 40 [0,1,4,5] [.a,.i 0,.a,.a] F
abbrev Cb(K:KF)(F:cz):Prop:=aT 58 K [1,0,1,0,1,1,1] 40 [0,1,4,5] [.a,.i 0,.a,.a] F
abbrev qz(K:KF)(F:cz):Prop:=aT 58 K [0,0,0,1,0,1,1,1] 40 [0,1,4,5] [.a,.i 0,.a,.a] F
abbrev JF(K:KF)(F:cz):Prop:=aT 58 K [1,1,0,1,0,0,0,0,1,0,1,1,1] 40 [0,1,4,5] [.a,.i 0,.a,.a] F
def Cc(R:gN)(K:KF)(a0:AV)(a1:Int)(a4 a5:AV)(H:AH):Prop:=R.1 a0 a1 H λo1 H2=>cR K o1 H2 λv3=>af 1 a5 λv4=>ah 1 v4 v3 H2 λH5=>R.2.2.2.1 a0 (.str 3 6581861) H5 λo6 H7=>cR K o6 H7 λv8=>aN 2 a5 H7 λv9=>ah 2 a4 v9 H7 λcm=>aN 2 a4 cm λv11=>K (.ret v11) cm
theorem UB{R:gN}(hR:o0 R){K:KF}:Ca K (Cc R K):=λa0 a1 a4 a5 H h=>pk hR .nil h
def xS(R:gN)(K:KF):cz:=Cc R K
theorem Gw{R:gN}(hR:o0 R){K:KF}:Ca K (xS R K):=UB hR
def Cd(R:gN)(K:KF)(x1:cz)(a0:AV)(a1:Int)(a4 a5:AV)(H:AH):Prop:=R.2.2.2.1 a0 (.str 1 41) H λo1 H2=>cR K o1 H2 λv3=>x1 a0 a1 a4 a5 H2
theorem UC{R:gN}(hR:o0 R){K:KF}{x1:cz}(h1:Ca K x1):Cb K (Cd R K x1):=λa0 a1 a4 a5 H h=>pk hR (cc h1 .nil) h
def uW(R:gN)(K:KF):cz:=Cd R K (xS R K)
theorem Gx{R:gN}(hR:o0 R){K:KF}:Cb K (uW R K):=UC hR (Gw hR)
def Ce(R:gN)(K:KF)(x3 x2:cz)(a0:AV)(a1:Int)(a4 a5:AV)(H:AH):Prop:=R.2.1 a0 (.str 1 44) H λo1 H2=>cR K o1 H2 λv3=>bS v3 λz4=>bI (!z4) (x2 a0 a1 a4 a5 H2) (x3 a0 a1 a4 a5 H2)
theorem UD{R:gN}(hR:o0 R){K:KF}{x3 x2:cz}(h3:qz K x3)(h2:Cb K x2):JF K (Ce R K x3 x2):=λa0 a1 a4 a5 H h=>pk hR (cc h3 (cc h2 .nil)) h
def JG(R:gN)(K:KF)(i3:cz):cz:=Ce R K i3 (uW R K)
theorem UE{R:gN}(hR:o0 R){K:KF}{i3:cz}(g3:qz K i3):JF K (JG R K i3):=UD hR g3 (Gx hR)
def Cf(R:gN)(K:KF)(x2 x4:cz)(a0:AV)(a1:Int)(a4 a5:AV)(H:AH):Prop:=ao a0 (af 2 a0 λv1=>ad v1 H λv2=>cI 0 v2 λz3=>bI (bq z3 (.ofNat 0)) (af 0 a5 λv4=>ad v4 H λv5=>bN v5 λv6=>cI 0 v6 λz7=>R.2.2.2.2 a0 z7 (.ofNat 16) H λo8 H9=>cR K o8 H9 λv10=>af 0 a5 λv11=>ad v11 H9 λv12=>R.2.2.1 a0 H9 λlB dh=>cR K lB dh λv15=>ad v11 dh λv16=>bT (bj v16 v12) (cL dh (one v15 (aR (aB dh) 1 1 [v15] λv17 iy=>bT (Nat.beq iy.n (Nat.succ dh.n)) (cQ 1 16 v12 v17 iy λv19 js=>af 0 a5 λv21=>ah 1 v21 v19 js λgU=>x4 a0 a1 a4 a5 gU))))) (x2 a0 a1 a4 a5 H))
theorem UF{R:gN}(hR:o0 R){K:KF}{x2 x4:cz}(h2:Cb K x2)(h4:JF K x4):qz K (Cf R K x2 x4):=λa0 a1 a4 a5 H h=>pk hR (cc h2 (cc h4 .nil)) h
def JH(R:gN)(K:KF)(i3:cz):cz:=Cf R K (uW R K) (JG R K i3)
theorem UG{R:gN}(hR:o0 R){K:KF}{i3:cz}(g3:qz K i3):qz K (JH R K i3):=UF hR (Gx hR) (UE hR g3)
def Cg(R:gN)(K:KF)(n:Nat):cz:=Nat.rec (motive:=λ_=>cz) (λ_ _ _ _ _=>False) (λ_ i=>JH R K i) n
theorem UH{R:gN}(hR:o0 R){K:KF}(n:Nat):qz K (Cg R K n):=Nat.rec (motive:=λn=>qz K (Cg R K n)) (λa0 a1 a4 a5 H h=>h.elim) (λn ih=>UG hR ih) n
def JI(R:gN)(K:KF)(x3 x1:cz)(a0:AV)(a1:Int)(H:AH):Prop:=eJ H (hN (aB H) [.ab,.ab] λv1 H2=>eJ H2 (hN (aB H2) [.ab,.ab] λv3 H4=>R.2.2.2.1 a0 (.str 1 40) H4 λo5 H6=>cR K o5 H6 λv7=>R.2.1 a0 (.str 1 41) H6 λo8 H9=>cR K o8 H9 λv10=>bS v10 λz11=>bI (!z11) (x3 a0 a1 v1 v3 H9) (x1 a0 a1 v1 v3 H9)))
theorem UI{R:gN}(hR:o0 R){K:KF}{x3 x1:cz}(h3:qz K x3)(h1:Ca K x1)(a0:AV)(a1:Int)(H:AH)(h:JI R K x3 x1 a0 a1 H):fb 58 K [] (bD (eD 58) [a0,(.int 0 a1)]) [] H:=pk hR (cc h3 (cc h1 .nil)) h
def UJ(R:gN)(K:KF):dW:=JI R K (Cg R K NL) (xS R K)
def Ch(R:gN):AV→Int→AH→KF→Prop:=λa0 a1 H K=>UJ R K a0 a1 H
theorem agQ(R:gN)(hR:o0 R):aC gPa 58 (aw [.a,.i 0] (Ch R)):=rk λK a0 a1 H h=>UI hR (UH hR NL) (Gw hR) a0 a1 H h
abbrev de:Type:=(AV→AH→KF→Prop)×(AV→AV→AH→KF→Prop)×(AV→Int→AH→KF→Prop)×(AV→AH→KF→Prop)×(AV→AV→AH→KF→Prop)×(AV→Int→Int→AH→KF→Prop)
def ajp(R:de):List (Nat×dq):=[(39,aw [.a] R.1),(40,aw [.a,.a] R.2.1),(42,aw [.a,.i 0] R.2.2.1),(57,aw [.a] R.2.2.2.1),(59,aw [.a,.a] R.2.2.2.2.1),(76,aw [.a,.i 0,.i 0] R.2.2.2.2.2)]
abbrev iW(R:de):Prop:=ag gPa (ajp R)
abbrev JJ(K:KF)(F:cX):Prop:=aT 60 K [1,1] 79 [4,6] [.a,.a] F
abbrev jn(K:KF)(F:cz):Prop:=aT 60 K [0,0,1] 79 [0,2,4,6] [.a,.i 0,.a,.a] F
abbrev JK(K:KF)(F:bG):Prop:=aT 60 K [1,0,1,0,1,0,1,0,0,0,1] 79 [0,2,4,6,7,8] [.a,.i 0,.a,.a,.i 0,.a] F
abbrev JL(K:KF)(F:bG):Prop:=aT 60 K [1,0,1,1,1,0,1,0,1,0,0,0,1] 79 [0,2,4,6,7,9] [.a,.i 0,.a,.a,.i 0,.a] F
abbrev JM(K:KF)(F:bG):Prop:=aT 60 K [1,0,1,1,1,1,1,0,1,0,1,0,0,0,1] 79 [0,2,4,6,7,10] [.a,.i 0,.a,.a,.i 0,.a] F
abbrev Ci(K:KF)(F:bG):Prop:=aT 60 K [1,1,0,1,1,1,1,1,0,1,0,1,0,0,0,1] 79 [0,2,4,6,7,10] [.a,.i 0,.a,.a,.i 0,.a] F
abbrev Cj(K:KF)(F:bG):Prop:=aT 60 K [1,0,1,0,1,0,1,1,1,1,1,0,1,0,1,0,0,0,1] 79 [0,2,4,6,7,10] [.a,.i 0,.a,.a,.i 0,.a] F
abbrev qA(K:KF)(F:bG):Prop:=aT 60 K [0,0,0,1,0,1,0,1,1,1,1,1,0,1,0,1,0,0,0,1] 79 [0,2,4,6,7,10] [.a,.i 0,.a,.a,.i 0,.a] F
abbrev JN(K:KF)(F:bG):Prop:=aT 60 K [1,1,0,1,0,0,0,0,1,0,1,0,1,1,1,1,1,0,1,0,1,0,0,0,1] 79 [0,2,4,6,7,10] [.a,.i 0,.a,.a,.i 0,.a] F
def Ck(R:de)(K:KF)(x2:cz)(a0:AV)(a2:Int)(a4 a6:AV)(a7:Int)(a8:AV)(H:AH):Prop:=R.2.2.2.1 a0 H λo1 H2=>cR K o1 H2 λv3=>af 3 a8 λv4=>ah 1 v4 v3 H2 λH5=>aN 7 a4 H5 λv6=>aN 7 a8 H5 λv7=>onVal v6 λl8=>gK l8 7 (onVal v7 λl9=>gK l9 7 (aR (aB H5) 2 7 (spl l9 (spl l8 [(.int 0 (.ofNat 0)),(.int 0 (.ofNat 0)),(.int 0 (.ofNat 0)),(.str 0 0),(.int 0 (.ofNat 0)),.ab,.ab,(.int 0 (.ofNat 0)),(.int 0 (.ofNat 0)),(.int 0 (.ofNat 0)),(.str 0 0),(.int 0 (.ofNat 0)),.ab,.ab] 0) 7) λv10 iQ=>one v10 (ah 7 a4 (.agg [(.int 0 (.ofNat 9)),(.int 0 a7),(.int 0 (.ofNat 0)),(.str 0 0),(.int 0 (.ofNat 0)),v10,.ab]) iQ λbO=>x2 a0 a2 a4 a6 bO)))
theorem UK{R:de}(hR:iW R){K:KF}{x2:cz}(h2:jn K x2):JK K (Ck R K x2):=λa0 a2 a4 a6 a7 a8 H h=>pk hR (cc h2 .nil) h
def JO(R:de)(K:KF)(i2:cz):bG:=Ck R K i2
theorem UL{R:de}(hR:iW R){K:KF}{i2:cz}(g2:jn K i2):JK K (JO R K i2):=UK hR g2
def Cl(R:de)(K:KF)(x2:cz)(a0:AV)(a2:Int)(a4 a6:AV)(a7:Int)(a9:AV)(H:AH):Prop:=R.2.2.2.2.1 a0 (.str 1 93) H λo1 H2=>cR K o1 H2 λv3=>aN 7 a4 H2 λv4=>aN 7 a9 H2 λv5=>onVal v4 λl6=>gK l6 7 (onVal v5 λl7=>gK l7 7 (aR (aB H2) 2 7 (spl l7 (spl l6 [(.int 0 (.ofNat 0)),(.int 0 (.ofNat 0)),(.int 0 (.ofNat 0)),(.str 0 0),(.int 0 (.ofNat 0)),.ab,.ab,(.int 0 (.ofNat 0)),(.int 0 (.ofNat 0)),(.int 0 (.ofNat 0)),(.str 0 0),(.int 0 (.ofNat 0)),.ab,.ab] 0) 7) λv8 H9=>one v8 (ah 7 a4 (.agg [(.int 0 (.ofNat 9)),(.int 0 a7),(.int 0 (.ofNat 0)),(.str 0 0),(.int 0 (.ofNat 0)),v8,.ab]) H9 λcm=>x2 a0 a2 a4 a6 cm)))
theorem UM{R:de}(hR:iW R){K:KF}{x2:cz}(h2:jn K x2):JL K (Cl R K x2):=λa0 a2 a4 a6 a7 a9 H h=>pk hR (cc h2 .nil) h
def JP(R:de)(K:KF)(i2:cz):bG:=Cl R K i2
theorem UN{R:de}(hR:iW R){K:KF}{i2:cz}(g2:jn K i2):JL K (JP R K i2):=UM hR g2
def Cm(R:de)(K:KF)(x2:cz)(a0:AV)(a2:Int)(a4 a6:AV)(a7:Int)(a10:AV)(H:AH):Prop:=one a10 (ah 7 a4 (.agg [(.int 0 (.ofNat 10)),(.int 0 a7),(.int 0 (.ofNat 0)),(.str 0 0),(.int 0 (.ofNat 0)),a10,.ab]) H λH1=>x2 a0 a2 a4 a6 H1)
theorem UO{R:de}(hR:iW R){K:KF}{x2:cz}(h2:jn K x2):Ci K (Cm R K x2):=λa0 a2 a4 a6 a7 a10 H h=>pk hR (cc h2 .nil) h
def xT(R:de)(K:KF)(i2:cz):bG:=Cm R K i2
theorem Gy{R:de}(hR:iW R){K:KF}{i2:cz}(g2:jn K i2):Ci K (xT R K i2):=UO hR g2
def Cn(R:de)(K:KF)(x6:bG)(a0:AV)(a2:Int)(a4 a6:AV)(a7:Int)(a10:AV)(H:AH):Prop:=R.2.2.2.2.1 a0 (.str 1 41) H λo1 H2=>cR K o1 H2 λv3=>x6 a0 a2 a4 a6 a7 a10 H2
theorem UP{R:de}(hR:iW R){K:KF}{x6:bG}(h6:Ci K x6):Cj K (Cn R K x6):=λa0 a2 a4 a6 a7 a10 H h=>pk hR (cc h6 .nil) h
def uY(R:de)(K:KF)(i2:cz):bG:=Cn R K (xT R K i2)
theorem Gz{R:de}(hR:iW R){K:KF}{i2:cz}(g2:jn K i2):Cj K (uY R K i2):=UP hR (Gy hR g2)
def Co(R:de)(K:KF)(x8 x7:bG)(a0:AV)(a2:Int)(a4 a6:AV)(a7:Int)(a10:AV)(H:AH):Prop:=R.2.1 a0 (.str 1 44) H λo1 H2=>cR K o1 H2 λv3=>bS v3 λz4=>bI (!z4) (x7 a0 a2 a4 a6 a7 a10 H2) (x8 a0 a2 a4 a6 a7 a10 H2)
theorem UQ{R:de}(hR:iW R){K:KF}{x8 x7:bG}(h8:qA K x8)(h7:Cj K x7):JN K (Co R K x8 x7):=λa0 a2 a4 a6 a7 a10 H h=>pk hR (cc h8 (cc h7 .nil)) h
def Cp(R:de)(K:KF)(i2:cz)(i8:bG):bG:=Co R K i8 (uY R K i2)
theorem UR{R:de}(hR:iW R){K:KF}{i2:cz}{i8:bG}(g2:jn K i2)(g8:qA K i8):JN K (Cp R K i2 i8):=UQ hR g8 (Gz hR g2)
def Cq(R:de)(K:KF)(x7 x9:bG)(a0:AV)(a2:Int)(a4 a6:AV)(a7:Int)(a10:AV)(H:AH):Prop:=ao a0 (af 2 a0 λv1=>ad v1 H λv2=>cI 0 v2 λz3=>bI (bq z3 (.ofNat 0)) (bN a10 λv4=>cI 0 v4 λz5=>ax 0 (Int.sub z5 (.ofNat 1)) λz6=>R.2.2.2.2.2 a0 z6 (.ofNat 16) H λo7 H8=>cR K o7 H8 λv9=>R.2.2.1 a0 a2 H8 λBM iQ=>cR K BM iQ λv12=>onVal v12 λl13=>gK l13 7 (aR (aB iQ) 1 7 (spl l13 [(.int 0 (.ofNat 0)),(.int 0 (.ofNat 0)),(.int 0 (.ofNat 0)),(.str 0 0),(.int 0 (.ofNat 0)),.ab,.ab] 0) λv14 eM=>cQ 7 96 a10 v14 eM λv16 jO=>x9 a0 a2 a4 a6 a7 v16 jO)) (x7 a0 a2 a4 a6 a7 a10 H))
theorem US{R:de}(hR:iW R){K:KF}{x7 x9:bG}(h7:Cj K x7)(h9:JN K x9):qA K (Cq R K x7 x9):=λa0 a2 a4 a6 a7 a10 H h=>pk hR (cc h7 (cc h9 .nil)) h
def JQ(R:de)(K:KF)(i2:cz)(i8:bG):bG:=Cq R K (uY R K i2) (Cp R K i2 i8)
theorem UT{R:de}(hR:iW R){K:KF}{i2:cz}{i8:bG}(g2:jn K i2)(g8:qA K i8):qA K (JQ R K i2 i8):=US hR (Gz hR g2) (UR hR g2 g8)
def xU(R:de)(K:KF)(i2:cz)(n:Nat):bG:=Nat.rec (motive:=λ_=>bG) (λ_ _ _ _ _ _ _=>False) (λ_ i=>JQ R K i2 i) n
theorem UU{R:de}(hR:iW R){K:KF}{i2:cz}(g2:jn K i2)(n:Nat):qA K (xU R K i2 n):=Nat.rec (motive:=λn=>qA K (xU R K i2 n)) (λa0 a2 a4 a6 a7 a10 H h=>h.elim) (λn ih=>UT hR g2 ih) n
def Cr(R:de)(K:KF)(x8 x6:bG)(a0:AV)(a2:Int)(a4 a6:AV)(a7:Int)(a10:AV)(H:AH):Prop:=R.2.1 a0 (.str 1 41) H λo1 H2=>cR K o1 H2 λv3=>bS v3 λz4=>bI (!z4) (x8 a0 a2 a4 a6 a7 a10 H2) (x6 a0 a2 a4 a6 a7 a10 H2)
theorem UW{R:de}(hR:iW R){K:KF}{x8 x6:bG}(h8:qA K x8)(h6:Ci K x6):JM K (Cr R K x8 x6):=λa0 a2 a4 a6 a7 a10 H h=>pk hR (cc h8 (cc h6 .nil)) h
def JR(R:de)(K:KF)(i2:cz):bG:=Cr R K (xU R K i2 NL) (xT R K i2)
theorem UX{R:de}(hR:iW R){K:KF}{i2:cz}(g2:jn K i2):JM K (JR R K i2):=UW hR (UU hR g2 NL) (Gy hR g2)
def UY(R:de)(K:KF)(a4 a6:AV)(H:AH):Prop:=aN 7 a4 H λv1=>ah 7 a6 v1 H λH2=>aN 7 a6 H2 λv3=>K (.ret v3) H2
theorem UZ{R:de}(hR:iW R){K:KF}:JJ K (UY R K):=λa4 a6 H h=>pk hR .nil h
def JS(R:de)(K:KF):cX:=UY R K
theorem U0{R:de}(hR:iW R){K:KF}:JJ K (JS R K):=UZ hR
def Cs(R:de)(K:KF)(x3 x4 x5:bG)(x1:cX)(a0:AV)(a2:Int)(a4 a6:AV)(H:AH):Prop:=ao a0 (af 2 a0 λv1=>ad v1 H λv2=>cI 0 v2 λz3=>bI (bq z3 (.ofNat 0)) (R.1 a0 H λo4 H5=>cR K o4 H5 λv6=>cI 0 v6 λz7=>R.2.1 a0 (.str 1 46) H5 λo8 H9=>cR K o8 H9 λv10=>bS v10 λz11=>bI z11 (R.1 a0 H9 λoY fu=>cR K oY fu λv14=>cI 0 v14 λmw=>eJ fu (fc gPa (aB fu) 41 λv16 jO=>ah 7 v16 (.agg [(.int 0 (.ofNat 5)),(.int 0 mw),(.int 0 (.ofNat 0)),(.str 0 0),(.int 0 (.ofNat 0)),.ab,.ab]) jO λiy=>x3 a0 a2 a4 a6 z7 v16 iy)) (R.2.1 a0 (.str 1 91) H9 λJT js=>cR K JT js λv21=>bS v21 λz22=>bI z22 (R.2.2.1 a0 a2 js λU1 pD=>cR K U1 pD λv25=>eJ pD (fc gPa (aB pD) 41 λv26 sk=>ah 7 v26 v25 sk λpE=>x4 a0 a2 a4 a6 z7 v26 pE)) (R.2.1 a0 (.str 1 40) js λU2 xg=>cR K U2 xg λv31=>bS v31 λz32=>bI z32 (aN 7 a4 xg λv33=>onVal v33 λl34=>gK l34 7 (aR (aB xg) 1 7 (spl l34 [(.int 0 (.ofNat 0)),(.int 0 (.ofNat 0)),(.int 0 (.ofNat 0)),(.str 0 0),(.int 0 (.ofNat 0)),.ab,.ab] 0) λv35 H36=>x5 a0 a2 a4 a6 z7 v35 H36)) (aN 7 a4 xg λv37=>ah 7 a6 v37 xg λJs=>aN 7 a6 Js λv39=>K (.ret v39) Js)))) (x1 a4 a6 H))
theorem U3{R:de}(hR:iW R){K:KF}{x3 x4 x5:bG}{x1:cX}(h3:JK K x3)(h4:JL K x4)(h5:JM K x5)(h1:JJ K x1):jn K (Cs R K x3 x4 x5 x1):=λa0 a2 a4 a6 H h=>pk hR (cc h3 (cc h4 (cc h5 (cc h1 .nil)))) h
def JU(R:de)(K:KF)(i2:cz):cz:=Cs R K (JO R K i2) (JP R K i2) (JR R K i2) (JS R K)
theorem U4{R:de}(hR:iW R){K:KF}{i2:cz}(g2:jn K i2):jn K (JU R K i2):=U3 hR (UL hR g2) (UN hR g2) (UX hR g2) (U0 hR)
def Ct(R:de)(K:KF)(n:Nat):cz:=Nat.rec (motive:=λ_=>cz) (λ_ _ _ _ _=>False) (λ_ i=>JU R K i) n
theorem U5{R:de}(hR:iW R){K:KF}(n:Nat):jn K (Ct R K n):=Nat.rec (motive:=λn=>jn K (Ct R K n)) (λa0 a2 a4 a6 H h=>h.elim) (λn ih=>U4 hR ih) n
def JV(R:de)(K:KF)(x2:cz)(a0 a1:AV)(a2:Int)(H:AH):Prop:=mj (aB H) a1 λv1 H2=>eJ H2 (fc gPa (aB H2) 41 λv3 H4=>x2 a0 a2 v1 v3 H4)
theorem U6{R:de}(hR:iW R){K:KF}{x2:cz}(h2:jn K x2)(a0 a1:AV)(a2:Int)(H:AH)(h:JV R K x2 a0 a1 a2 H):fb 60 K [] (bD (eD 60) [a0,a1,(.int 0 a2)]) [] H:=pk hR (cc h2 .nil) h
def U7(R:de)(K:KF):aE:=JV R K (Ct R K NL)
def Cu(R:de):AV→AV→Int→AH→KF→Prop:=λa0 a1 a2 H K=>U7 R K a0 a1 a2 H
theorem agR(R:de)(hR:iW R):aC gPa 60 (aw [.a,.a,.i 0] (Cu R)):=rk λK a0 a1 a2 H h=>U6 hR (U5 hR NL) a0 a1 a2 H h
abbrev nX:Type:=(AV→Int→AH→KF→Prop)×(AV→AH→KF→Prop)×(AV→AV→AH→KF→Prop)×(AV→Int→Int→AH→KF→Prop)×(AV→Int→AH→KF→Prop)
def ajq(R:nX):List (Nat×dq):=[(37,aw [.a,.i 0] R.1),(39,aw [.a] R.2.1),(40,aw [.a,.a] R.2.2.1),(56,aw [.a,.i 0,.i 0] R.2.2.2.1),(74,aw [.a,.i 0] R.2.2.2.2)]
abbrev Hc(R:nX):Prop:=ag gPa (ajq R)
abbrev JW(K:KF)(F:dk):Prop:=aT 74 K [1,1,1,1,1,1] 36 [0,1,4,5,6] [.a,.i 0,.a,.a,.i 0] F
def xV(R:nX)(K:KF)(a0:AV)(a1:Int)(a4 a5:AV)(a6:Int)(H:AH):Prop:=ax 0 (Int.add a1 (.ofNat 1)) λz1=>R.2.2.2.2 a0 z1 H λo2 H3=>cR K o2 H3 λv4=>eJ H3 (fc gPa (aB H3) 41 λv5 H6=>ah 7 v5 v4 H6 λH7=>aN 7 a5 H7 λv8=>aN 7 v5 H7 λv9=>onVal v8 λl10=>gK l10 7 (onVal v9 λGA=>gK GA 7 (aR (aB H7) 2 7 (spl GA (spl l10 [(.int 0 (.ofNat 0)),(.int 0 (.ofNat 0)),(.int 0 (.ofNat 0)),(.str 0 0),(.int 0 (.ofNat 0)),.ab,.ab,(.int 0 (.ofNat 0)),(.int 0 (.ofNat 0)),(.int 0 (.ofNat 0)),(.str 0 0),(.int 0 (.ofNat 0)),.ab,.ab] 0) 7) λv12 fu=>one v12 (ah 7 a4 (.agg [(.int 0 (.ofNat 14)),(.int 0 a6),(.int 0 (.ofNat 0)),(.str 0 0),(.int 0 (.ofNat 6)),v12,.ab]) fu λdh=>aN 7 a4 dh λv15=>K (.ret v15) dh))))
theorem U8{R:nX}(hR:Hc R){K:KF}:JW K (xV R K):=λa0 a1 a4 a5 a6 H h=>pk hR .nil h
def U9(R:nX)(K:KF):dk:=xV R K
theorem Va{R:nX}(hR:Hc R){K:KF}:JW K (U9 R K):=U8 hR
def Cv(R:nX)(K:KF)(x1:dk)(a0:AV)(a1:Int)(H:AH):Prop:=eJ H (fc gPa (aB H) 41 λv1 H2=>R.2.2.2.1 a0 (.ofNat 4) a1 H2 λo3 H4=>cR K o3 H4 λv5=>eJ H4 (fc gPa (aB H4) 41 λv6 H7=>ah 7 v6 v5 H7 λH8=>R.2.1 a0 H8 λo9 cm=>cR K o9 cm λv11=>cI 0 v11 λz12=>R.2.2.1 a0 (.str 2 11822) cm λlB dh=>cR K lB dh λv15=>bS v15 λqt=>bI (!qt) (aN 7 v6 dh λv17=>ah 7 v1 v17 dh λiy=>aN 7 v1 iy λv19=>K (.ret v19) iy) (ax 0 (Int.add a1 (.ofNat 1)) λz20=>R.1 a0 z20 dh λsj gU=>cR K sj gU λv23=>ao a0 (af 2 a0 λv24=>ad v24 gU λv25=>cI 0 v25 λz26=>bI (!(bq z26 (.ofNat 0))) (aN 7 v6 gU λv27=>ah 7 v1 v27 gU λpE=>aN 7 v1 pE λv29=>K (.ret v29) pE) (x1 a0 a1 v1 v6 z12 gU)))))
theorem Vb{R:nX}(hR:Hc R){K:KF}{x1:dk}(h1:JW K x1)(a0:AV)(a1:Int)(H:AH)(h:Cv R K x1 a0 a1 H):fb 74 K [] (bD (eD 74) [a0,(.int 0 a1)]) [] H:=pk hR (cc h1 .nil) h
def ajr(R:nX)(K:KF):dW:=Cv R K (U9 R K)
def Qx(R:nX):AV→Int→AH→KF→Prop:=λa0 a1 H K=>ajr R K a0 a1 H
theorem agS(R:nX)(hR:Hc R):aC gPa 74 (aw [.a,.i 0] (Qx R)):=rk λK a0 a1 H h=>Vb hR (Va hR) a0 a1 H h
abbrev nY:Type:=(AV→Int→AH→KF→Prop)×(AV→AH→KF→Prop)×(AV→AV→AH→KF→Prop)×(AV→Int→AH→KF→Prop)×(AV→Int→AH→KF→Prop)
def ajs(R:nY):List (Nat×dq):=[(37,aw [.a,.i 0] R.1),(39,aw [.a] R.2.1),(40,aw [.a,.a] R.2.2.1),(75,aw [.a,.i 0] R.2.2.2.1),(82,aw [.a,.i 0] R.2.2.2.2)]
abbrev Hd(R:nY):Prop:=ag gPa (ajs R)
abbrev JX(K:KF)(F:qq):Prop:=aT 75 K [1,1,1,1] 39 [0,1,4,5,6] [.a,.i 0,.a,.i 0,.i 0] F
def xW(R:nY)(K:KF)(a0:AV)(a1:Int)(a4:AV)(a5 a6:Int)(H:AH):Prop:=ax 0 (Int.add a1 (.ofNat 1)) λz1=>R.1 a0 z1 H λo2 H3=>cR K o2 H3 λv4=>ao a0 (af 2 a0 λv5=>ad v5 H3 λv6=>cI 0 v6 λz7=>bI (!(bq z7 (.ofNat 0))) (ah 7 a4 (.agg [(.int 0 (.ofNat 0)),(.int 0 (.ofNat 0)),(.int 0 (.ofNat 0)),(.str 0 0),(.int 0 (.ofNat 0)),.ab,.ab]) H3 λH8=>aN 7 a4 H8 λv9=>K (.ret v9) H8) (ax 0 (Int.add a1 (.ofNat 1)) λz10=>R.2.2.2.1 a0 z10 H3 λkC bO=>cR K kC bO λv13=>onVal v13 λl14=>gK l14 7 (aR (aB bO) 1 7 (spl l14 [(.int 0 (.ofNat 0)),(.int 0 (.ofNat 0)),(.int 0 (.ofNat 0)),(.str 0 0),(.int 0 (.ofNat 0)),.ab,.ab] 0) λv15 eE=>one v15 (ah 7 a4 (.agg [(.int 0 a6),(.int 0 a5),(.int 0 (.ofNat 0)),(.str 0 0),(.int 0 (.ofNat 0)),v15,.ab]) eE λjO=>aN 7 a4 jO λv18=>K (.ret v18) jO))))
theorem Vc{R:nY}(hR:Hd R){K:KF}:JX K (xW R K):=λa0 a1 a4 a5 a6 H h=>pk hR .nil h
def Vd(R:nY)(K:KF):qq:=xW R K
theorem Ve{R:nY}(hR:Hd R){K:KF}:JX K (Vd R K):=Vc hR
def Cw(R:nY)(K:KF)(x1:qq)(a0:AV)(a1:Int)(H:AH):Prop:=eJ H (fc gPa (aB H) 41 λv1 H2=>R.2.1 a0 H2 λo3 H4=>cR K o3 H4 λv5=>cI 0 v5 λz6=>R.2.2.1 a0 (.str 3 7630702) H4 λo7 H8=>cR K o7 H8 λv9=>bS v9 λz10=>bI z10 (x1 a0 a1 v1 z6 (.ofNat 11) H8) (R.2.2.1 a0 (.str 1 45) H8 λkC bO=>cR K kC bO λv13=>bS v13 λnM=>bI nM (x1 a0 a1 v1 z6 (.ofNat 12) bO) (R.2.2.1 a0 (.str 1 35) bO λCx eE=>cR K Cx eE λv17=>bS v17 λxX=>bI xX (x1 a0 a1 v1 z6 (.ofNat 13) eE) (R.2.2.2.2 a0 a1 eE λJT js=>cR K JT js λv21=>ah 7 v1 v21 js λgU=>aN 7 v1 gU λv23=>K (.ret v23) gU))))
theorem Vf{R:nY}(hR:Hd R){K:KF}{x1:qq}(h1:JX K x1)(a0:AV)(a1:Int)(H:AH)(h:Cw R K x1 a0 a1 H):fb 75 K [] (bD (eD 75) [a0,(.int 0 a1)]) [] H:=pk hR (cc h1 .nil) h
def ajt(R:nY)(K:KF):dW:=Cw R K (Vd R K)
def Qy(R:nY):AV→Int→AH→KF→Prop:=λa0 a1 H K=>ajt R K a0 a1 H
theorem agT(R:nY)(hR:Hd R):aC gPa 75 (aw [.a,.i 0] (Qy R)):=rk λK a0 a1 H h=>Vf hR (Ve hR) a0 a1 H h
abbrev fA:Type:=(AV→Int→AH→KF→Prop)×(AV→AH→KF→Prop)×(AV→AV→AH→KF→Prop)×(AV→Int→AH→KF→Prop)×(AV→Int→AH→KF→Prop)×(AV→AV→AH→KF→Prop)×(AV→AV→Int→AH→KF→Prop)×(AV→Int→Int→AH→KF→Prop)
def aju(R:fA):List (Nat×dq):=[(18,aw [.a,.i 0] R.1),(39,aw [.a] R.2.1),(40,aw [.a,.a] R.2.2.1),(42,aw [.a,.i 0] R.2.2.2.1),(58,aw [.a,.i 0] R.2.2.2.2.1),(59,aw [.a,.a] R.2.2.2.2.2.1),(60,aw [.a,.a,.i 0] R.2.2.2.2.2.2.1),(85,aw [.a,.i 0,.i 0] R.2.2.2.2.2.2.2)]
abbrev mz(R:fA):Prop:=ag gPa (aju R)
abbrev JY(K:KF)(F:qp):Prop:=aT 82 K [1,1,1] 121 [0,1,4,5,6] [.a,.i 0,.a,.i 0,.a] F
abbrev JZ(K:KF)(F:cX):Prop:=aT 82 K [1,1,1,1] 121 [0,4] [.a,.a] F
abbrev J0(K:KF)(F:qp):Prop:=aT 82 K [1,0,1,1,1,0,0,1,1,1] 121 [0,1,4,5,6] [.a,.i 0,.a,.i 0,.a] F
abbrev J1(K:KF)(F:cz):Prop:=aT 82 K [1,0,1,1,1,1,1,0,0,1,1,1] 121 [0,1,4,7] [.a,.i 0,.a,.a] F
abbrev J2(K:KF)(F:kj):Prop:=aT 82 K [1,0,1,1,1,1,1,1,1,0,0,1,1,1] 121 [4,5,6] [.a,.i 0,.a] F
abbrev J3(K:KF)(F:kj):Prop:=aT 82 K [1,0,1,1,1,1,1,1,1,1,1,0,0,1,1,1] 121 [4,5,6] [.a,.i 0,.a] F
def Cy(R:fA)(K:KF)(a0:AV)(a1:Int)(a4:AV)(a5:Int)(a6:AV)(H:AH):Prop:=af 1 a6 λv1=>ad v1 H λv2=>one v2 (R.2.2.2.2.2.2.1 a0 (.agg [(.int 0 (.ofNat 6)),(.int 0 a5),(.int 0 (.ofNat 0)),v2,(.int 0 (.ofNat 0)),.ab,.ab]) a1 H λo3 H4=>cR K o3 H4 λv5=>ah 7 a4 v5 H4 λH6=>aN 7 a4 H6 λv7=>K (.ret v7) H6)
theorem Vg{R:fA}(hR:mz R){K:KF}:J0 K (Cy R K):=λa0 a1 a4 a5 a6 H h=>pk hR .nil h
def J4(R:fA)(K:KF):qp:=Cy R K
theorem Vh{R:fA}(hR:mz R){K:KF}:J0 K (J4 R K):=Vg hR
def Cz(R:fA)(K:KF)(a0:AV)(a1:Int)(a4 a7:AV)(H:AH):Prop:=R.2.2.2.2.2.1 a0 (.str 1 41) H λo1 H2=>cR K o1 H2 λv3=>aN 7 a7 H2 λv4=>R.2.2.2.2.2.2.1 a0 v4 a1 H2 λo5 H6=>cR K o5 H6 λv7=>ah 7 a4 v7 H6 λH8=>aN 7 a4 H8 λv9=>K (.ret v9) H8
theorem Vi{R:fA}(hR:mz R){K:KF}:J1 K (Cz R K):=λa0 a1 a4 a7 H h=>pk hR .nil h
def J5(R:fA)(K:KF):cz:=Cz R K
theorem Vj{R:fA}(hR:mz R){K:KF}:J1 K (J5 R K):=Vi hR
def CA(R:fA)(K:KF)(a4:AV)(a5:Int)(a6:AV)(H:AH):Prop:=af 2 a6 λv1=>ad v1 H λv2=>cI 0 v2 λz3=>ah 7 a4 (.agg [(.int 0 (.ofNat 4)),(.int 0 a5),(.int 0 z3),(.str 0 0),(.int 0 (.ofNat 0)),.ab,.ab]) H λH4=>aN 7 a4 H4 λv5=>K (.ret v5) H4
theorem Vk{R:fA}(hR:mz R){K:KF}:J2 K (CA R K):=λa4 a5 a6 H h=>pk hR .nil h
def J6(R:fA)(K:KF):kj:=CA R K
theorem Vl{R:fA}(hR:mz R){K:KF}:J2 K (J6 R K):=Vk hR
def CC(R:fA)(K:KF)(a4:AV)(a5:Int)(a6:AV)(H:AH):Prop:=af 1 a6 λv1=>ad v1 H λv2=>one v2 (ah 7 a4 (.agg [(.int 0 (.ofNat 5)),(.int 0 a5),(.int 0 (.ofNat 0)),v2,(.int 0 (.ofNat 0)),.ab,.ab]) H λH3=>aN 7 a4 H3 λv4=>K (.ret v4) H3)
theorem Vm{R:fA}(hR:mz R){K:KF}:J3 K (CC R K):=λa4 a5 a6 H h=>pk hR .nil h
def J7(R:fA)(K:KF):kj:=CC R K
theorem Vn{R:fA}(hR:mz R){K:KF}:J3 K (J7 R K):=Vm hR
def CE(R:fA)(K:KF)(a0 a4:AV)(H:AH):Prop:=R.1 a0 (.ofNat 14) H λo1 H2=>cR K o1 H2 λv3=>ah 7 a4 (.agg [(.int 0 (.ofNat 0)),(.int 0 (.ofNat 0)),(.int 0 (.ofNat 0)),(.str 0 0),(.int 0 (.ofNat 0)),.ab,.ab]) H2 λH4=>aN 7 a4 H4 λv5=>K (.ret v5) H4
theorem Vo{R:fA}(hR:mz R){K:KF}:JZ K (CE R K):=λa0 a4 H h=>pk hR .nil h
def J8(R:fA)(K:KF):cX:=CE R K
theorem Vp{R:fA}(hR:mz R){K:KF}:JZ K (J8 R K):=Vo hR
def CF(R:fA)(K:KF)(x3:qp)(x4:cz)(x5 x6:kj)(x2:cX)(a0:AV)(a1:Int)(a4:AV)(a5:Int)(a6:AV)(H:AH):Prop:=ao a0 (af 2 a0 λv1=>ad v1 H λv2=>cI 0 v2 λz3=>bI (!(bq z3 (.ofNat 0))) (ah 7 a4 (.agg [(.int 0 (.ofNat 0)),(.int 0 (.ofNat 0)),(.int 0 (.ofNat 0)),(.str 0 0),(.int 0 (.ofNat 0)),.ab,.ab]) H λH4=>aN 7 a4 H4 λv5=>K (.ret v5) H4) (af 0 a6 λv6=>ad v6 H λv7=>cI 0 v7 λz8=>bI (bq z8 (.ofNat 2)) (ao a0 (af 1 a0 λv9=>ad v9 H λv10=>cI 0 v10 λz11=>ax 0 (Int.add z11 (.ofNat 1)) λz12=>ao a0 (af 1 a0 λv13=>ah 1 v13 (.int 0 z12) H λdh=>x3 a0 a1 a4 a5 a6 dh))) (R.2.2.1 a0 (.str 1 40) H λCx eE=>cR K Cx eE λv17=>bS v17 λxX=>bI xX (R.2.2.2.1 a0 a1 eE λJT js=>cR K JT js λv21=>eJ js (fc gPa (aB js) 41 λv22 qy=>ah 7 v22 v21 qy λpD=>x4 a0 a1 a4 v22 pD)) (af 0 a6 λv25=>ad v25 eE λv26=>cI 0 v26 λz27=>bI (bq z27 (.ofNat 3)) (ao a0 (af 1 a0 λv28=>ad v28 eE λv29=>cI 0 v29 λz30=>ax 0 (Int.add z30 (.ofNat 1)) λz31=>ao a0 (af 1 a0 λv32=>ah 1 v32 (.int 0 z31) eE λOl=>x5 a4 a5 a6 Ol))) (af 0 a6 λv34=>ad v34 eE λv35=>cI 0 v35 λz36=>bI (bq z36 (.ofNat 4)) (ao a0 (af 1 a0 λv37=>ad v37 eE λv38=>cI 0 v38 λz39=>ax 0 (Int.add z39 (.ofNat 1)) λz40=>ao a0 (af 1 a0 λv41=>ah 1 v41 (.int 0 z40) eE λUa=>x6 a4 a5 a6 Ua))) (R.2.2.1 a0 (.str 3 7104878) eE λo43 Om=>cR K o43 Om λv45=>bS v45 λz46=>bI z46 (ah 7 a4 (.agg [(.int 0 (.ofNat 1)),(.int 0 a5),(.int 0 (.ofNat 0)),(.str 0 0),(.int 0 (.ofNat 0)),.ab,.ab]) Om λH47=>aN 7 a4 H47 λv48=>K (.ret v48) H47) (R.2.2.1 a0 (.str 4 1702195828) Om λo49 H50=>cR K o49 H50 λv51=>bS v51 λz52=>bI z52 (ah 7 a4 (.agg [(.int 0 (.ofNat 2)),(.int 0 a5),(.int 0 (.ofNat 0)),(.str 0 0),(.int 0 (.ofNat 0)),.ab,.ab]) H50 λH53=>aN 7 a4 H53 λv54=>K (.ret v54) H53) (R.2.2.1 a0 (.str 5 435728179558) H50 λo55 Ub=>cR K o55 Ub λv57=>bS v57 λz58=>bI z58 (ah 7 a4 (.agg [(.int 0 (.ofNat 3)),(.int 0 a5),(.int 0 (.ofNat 0)),(.str 0 0),(.int 0 (.ofNat 0)),.ab,.ab]) Ub λH59=>aN 7 a4 H59 λv60=>K (.ret v60) H59) (R.2.2.1 a0 (.str 8 7957695015192261990) Ub λo61 Jt=>cR K o61 Jt λv63=>bS v63 λz64=>bI z64 (R.2.2.2.2.1 a0 a1 Jt λo65 Uc=>cR K o65 Uc λv67=>onVal v67 λl68=>gK l68 2 (aR (aB Uc) 1 2 (spl l68 [.ab,.ab] 0) λv69 H70=>one v69 (ah 7 a4 (.agg [(.int 0 (.ofNat 7)),(.int 0 a5),(.int 0 (.ofNat 0)),(.str 0 0),(.int 0 (.ofNat 0)),.ab,v69]) H70 λH71=>aN 7 a4 H71 λv72=>K (.ret v72) H71))) (R.2.2.1 a0 (.str 1 123) Jt λo73 H74=>cR K o73 H74 λv75=>bS v75 λz76=>bI z76 (R.2.2.2.2.2.2.2 a0 a5 a1 H74 λo77 H78=>cR K o77 H78 λv79=>ah 7 a4 v79 H78 λUd=>aN 7 a4 Ud λv81=>K (.ret v81) Ud) (x2 a0 a4 H74)))))))))))
theorem Vq{R:fA}(hR:mz R){K:KF}{x3:qp}{x4:cz}{x5 x6:kj}{x2:cX}(h3:J0 K x3)(h4:J1 K x4)(h5:J2 K x5)(h6:J3 K x6)(h2:JZ K x2):JY K (CF R K x3 x4 x5 x6 x2):=λa0 a1 a4 a5 a6 H h=>pk hR (cc h3 (cc h4 (cc h5 (cc h6 (cc h2 .nil))))) h
def J9(R:fA)(K:KF):qp:=CF R K (J4 R K) (J5 R K) (J6 R K) (J7 R K) (J8 R K)
theorem Vr{R:fA}(hR:mz R){K:KF}:JY K (J9 R K):=Vq hR (Vh hR) (Vj hR) (Vl hR) (Vn hR) (Vp hR)
def CG(R:fA)(K:KF)(x1:qp)(a0:AV)(a1:Int)(H:AH):Prop:=eJ H (fc gPa (aB H) 41 λv1 H2=>R.2.1 a0 H2 λo3 H4=>cR K o3 H4 λv5=>cI 0 v5 λz6=>ao a0 (af 0 a0 λv7=>ad v7 H4 λv8=>ao a0 (af 1 a0 λv9=>ad v9 H4 λv10=>cI 0 v10 λz11=>bf 4 v8 (.int 0 z11) λv12=>aN 4 v12 H4 λv13=>cL H4 (eJ H4 (hN (aB H4) [(.int 0 (.ofNat 0)),(.str 0 0),(.int 0 (.ofNat 0)),(.int 0 (.ofNat 0))] λv14 eM=>bT (Nat.beq eM.n (Nat.succ H4.n)) (ah 4 v14 v13 eM λeE=>x1 a0 a1 v1 z6 v14 eE))))))
theorem Vs{R:fA}(hR:mz R){K:KF}{x1:qp}(h1:JY K x1)(a0:AV)(a1:Int)(H:AH)(h:CG R K x1 a0 a1 H):fb 82 K [] (bD (eD 82) [a0,(.int 0 a1)]) [] H:=pk hR (cc h1 .nil) h
def ajv(R:fA)(K:KF):dW:=CG R K (J9 R K)
def Qz(R:fA):AV→Int→AH→KF→Prop:=λa0 a1 H K=>ajv R K a0 a1 H
theorem agU(R:fA)(hR:mz R):aC gPa 82 (aw [.a,.i 0] (Qz R)):=rk λK a0 a1 H h=>Vs hR (Vr hR) a0 a1 H h
abbrev cY:Type:=(AV→AH→KF→Prop)×(AV→AV→AH→KF→Prop)×(AV→AV→AH→KF→Prop)×(AV→Int→AH→KF→Prop)×(AV→AH→KF→Prop)×(AV→AV→AH→KF→Prop)×(AV→Int→Int→AH→KF→Prop)
def ajw(R:cY):List (Nat×dq):=[(39,aw [.a] R.1),(40,aw [.a,.a] R.2.1),(41,aw [.a,.a] R.2.2.1),(42,aw [.a,.i 0] R.2.2.2.1),(57,aw [.a] R.2.2.2.2.1),(59,aw [.a,.a] R.2.2.2.2.2.1),(76,aw [.a,.i 0,.i 0] R.2.2.2.2.2.2)]
abbrev iC(R:cY):Prop:=ag gPa (ajw R)
abbrev CH(K:KF)(F:iS):Prop:=aT 85 K [1,1,1,1] 123 [0,6,7] [.a,.a,.a] F
abbrev jW(K:KF)(F:dk):Prop:=aT 85 K [0,0,1,1,1] 123 [0,2,6,7,8] [.a,.i 0,.a,.a,.i 0] F
abbrev Ka(K:KF)(F:dk):Prop:=aT 85 K [1,0,1,0,0,0,1,1,1] 123 [0,2,6,7,8] [.a,.i 0,.a,.a,.i 0] F
abbrev uZ(K:KF)(F:bG):Prop:=aT 85 K [1,1,1,0,1,0,0,0,1,1,1] 123 [0,2,6,7,8,9] [.a,.i 0,.a,.a,.i 0,.a] F
abbrev Kb(K:KF)(F:dk):Prop:=aT 85 K [1,1,1,1,1,0,1,0,0,0,1,1,1] 123 [0,2,6,7,8] [.a,.i 0,.a,.a,.i 0] F
abbrev Kd(K:KF)(F:bG):Prop:=aT 85 K [1,0,1,1,1,0,0,1,1,0,1,0,0,0,1,1,1] 123 [0,2,6,7,8,9] [.a,.i 0,.a,.a,.i 0,.a] F
abbrev Ke(K:KF)(F:bG):Prop:=aT 85 K [0,1,1,1,1,1,0,0,1,1,0,1,0,0,0,1,1,1] 123 [0,2,6,7,8,9] [.a,.i 0,.a,.a,.i 0,.a] F
abbrev Kf(K:KF)(F:bG):Prop:=aT 85 K [1,1,1,1,1,1,0,0,1,1,0,1,0,0,0,1,1,1] 123 [0,2,6,7,8,9] [.a,.i 0,.a,.a,.i 0,.a] F
abbrev Kg(K:KF)(F:bG):Prop:=aT 85 K [1,0,1,1,1,1,1,0,0,1,1,0,1,0,0,0,1,1,1] 123 [0,2,6,7,8,9] [.a,.i 0,.a,.a,.i 0,.a] F
abbrev Fz(K:KF)(F:bG):Prop:=aT 85 K [1,1,1,1,1,1,1,0,0,1,1,0,1,0,0,0,1,1,1] 123 [0,2,6,7,8,9] [.a,.i 0,.a,.a,.i 0,.a] F
def CI(R:cY)(K:KF)(a0 a6 a7:AV)(H:AH):Prop:=R.2.2.2.2.2.1 a0 (.str 1 125) H λo1 H2=>cR K o1 H2 λv3=>aN 7 a7 H2 λv4=>ah 7 a6 v4 H2 λH5=>aN 7 a6 H5 λv6=>K (.ret v6) H5
theorem Vt{R:cY}(hR:iC R){K:KF}:CH K (CI R K):=λa0 a6 a7 H h=>pk hR .nil h
def u4(R:cY)(K:KF):iS:=CI R K
theorem GB{R:cY}(hR:iC R){K:KF}:CH K (u4 R K):=Vt hR
def CJ(R:cY)(K:KF)(x2:dk)(x1:iS)(a0:AV)(a2:Int)(a6 a7:AV)(a8:Int)(H:AH):Prop:=R.2.1 a0 (.str 1 44) H λo1 H2=>cR K o1 H2 λv3=>bS v3 λz4=>bI (!z4) (R.2.1 a0 (.str 1 59) H2 λo5 H6=>cR K o5 H6 λv7=>bS v7 λz8=>bI (!z8) (x1 a0 a6 a7 H6) (x2 a0 a2 a6 a7 a8 H6)) (x2 a0 a2 a6 a7 a8 H2)
theorem Vu{R:cY}(hR:iC R){K:KF}{x2:dk}{x1:iS}(h2:jW K x2)(h1:CH K x1):Kb K (CJ R K x2 x1):=λa0 a2 a6 a7 a8 H h=>pk hR (cc h2 (cc h1 .nil)) h
def CK(R:cY)(K:KF)(i2:dk):dk:=CJ R K i2 (u4 R K)
theorem Vv{R:cY}(hR:iC R){K:KF}{i2:dk}(g2:jW K i2):Kb K (CK R K i2):=Vu hR g2 (GB hR)
def CL(R:cY)(K:KF)(x5:dk)(a0:AV)(a2:Int)(a6 a7:AV)(a8:Int)(a9:AV)(H:AH):Prop:=R.2.2.2.1 a0 a2 H λo1 H2=>cR K o1 H2 λv3=>eJ H2 (fc gPa (aB H2) 41 λv4 H5=>ah 7 v4 v3 H5 λH6=>af 5 a7 λv7=>ad v7 H6 λv8=>aN 7 a9 H6 λv9=>aN 7 v4 H6 λv10=>onVal v9 λGA=>gK GA 7 (onVal v10 λl12=>gK l12 7 (aR (aB H6) 2 7 (spl l12 (spl GA [(.int 0 (.ofNat 0)),(.int 0 (.ofNat 0)),(.int 0 (.ofNat 0)),(.str 0 0),(.int 0 (.ofNat 0)),.ab,.ab,(.int 0 (.ofNat 0)),(.int 0 (.ofNat 0)),(.int 0 (.ofNat 0)),(.str 0 0),(.int 0 (.ofNat 0)),.ab,.ab] 0) 7) λv13 dh=>cQ 7 96 v8 v13 dh λv15 eE=>af 5 a7 λv17=>ah 1 v17 v15 eE λiy=>x5 a0 a2 a6 a7 a8 iy)))
theorem Vw{R:cY}(hR:iC R){K:KF}{x5:dk}(h5:Kb K x5):uZ K (CL R K x5):=λa0 a2 a6 a7 a8 a9 H h=>pk hR (cc h5 .nil) h
def nN(R:cY)(K:KF)(i2:dk):bG:=CL R K (CK R K i2)
theorem tv{R:cY}(hR:iC R){K:KF}{i2:dk}(g2:jW K i2):uZ K (nN R K i2):=Vw hR (Vv hR g2)
def CM(R:cY)(K:KF)(x4:bG)(a0:AV)(a2:Int)(a6 a7:AV)(a8:Int)(a9:AV)(H:AH):Prop:=R.2.2.2.2.1 a0 H λo1 H2=>cR K o1 H2 λv3=>af 3 a9 λv4=>ah 1 v4 v3 H2 λH5=>R.2.2.2.2.2.1 a0 (.str 1 61) H5 λo6 H7=>cR K o6 H7 λv8=>x4 a0 a2 a6 a7 a8 a9 H7
theorem Vx{R:cY}(hR:iC R){K:KF}{x4:bG}(h4:uZ K x4):Kg K (CM R K x4):=λa0 a2 a6 a7 a8 a9 H h=>pk hR (cc h4 .nil) h
def Kh(R:cY)(K:KF)(i2:dk):bG:=CM R K (nN R K i2)
theorem Vy{R:cY}(hR:iC R){K:KF}{i2:dk}(g2:jW K i2):Kg K (Kh R K i2):=Vx hR (tv hR g2)
def CN(R:cY)(K:KF)(x9:bG)(a0:AV)(a2:Int)(a6 a7:AV)(a8:Int)(a9:AV)(H:AH):Prop:=af 0 a9 λv1=>ah 1 v1 (.int 0 (.ofNat 5)) H λH2=>x9 a0 a2 a6 a7 a8 a9 H2
theorem Vz{R:cY}(hR:iC R){K:KF}{x9:bG}(h9:Kg K x9):Ke K (CN R K x9):=λa0 a2 a6 a7 a8 a9 H h=>pk hR (cc h9 .nil) h
def Ki(R:cY)(K:KF)(i2:dk):bG:=CN R K (Kh R K i2)
theorem VA{R:cY}(hR:iC R){K:KF}{i2:dk}(g2:jW K i2):Ke K (Ki R K i2):=Vz hR (Vy hR g2)
def CO(R:cY)(K:KF)(x4:bG)(a0:AV)(a2:Int)(a6 a7:AV)(a8:Int)(a9:AV)(H:AH):Prop:=R.2.2.2.2.2.1 a0 (.str 1 93) H λo1 H2=>cR K o1 H2 λv3=>R.2.2.2.2.2.1 a0 (.str 1 61) H2 λo4 H5=>cR K o4 H5 λv6=>x4 a0 a2 a6 a7 a8 a9 H5
theorem VB{R:cY}(hR:iC R){K:KF}{x4:bG}(h4:uZ K x4):Kd K (CO R K x4):=λa0 a2 a6 a7 a8 a9 H h=>pk hR (cc h4 .nil) h
def Kj(R:cY)(K:KF)(i2:dk):bG:=CO R K (nN R K i2)
theorem VC{R:cY}(hR:iC R){K:KF}{i2:dk}(g2:jW K i2):Kd K (Kj R K i2):=VB hR (tv hR g2)
def y9(R:cY)(K:KF)(x4:bG)(a0:AV)(a2:Int)(a6 a7:AV)(a8:Int)(a9:AV)(H:AH):Prop:=af 0 a9 λv1=>ah 1 v1 (.int 0 (.ofNat 4)) H λH2=>af 2 a9 λv3=>ah 1 v3 (.int 0 a8) H2 λH4=>x4 a0 a2 a6 a7 a8 a9 H4
theorem QA{R:cY}(hR:iC R){K:KF}{x4:bG}(h4:uZ K x4):Fz K (y9 R K x4):=λa0 a2 a6 a7 a8 a9 H h=>pk hR (cc h4 .nil) h
def FA(R:cY)(K:KF)(i2:dk):bG:=y9 R K (nN R K i2)
theorem QB{R:cY}(hR:iC R){K:KF}{i2:dk}(g2:jW K i2):Fz K (FA R K i2):=QA hR (tv hR g2)
def CP(R:cY)(K:KF)(x10:bG)(a0:AV)(a2:Int)(a6 a7:AV)(a8:Int)(a9:AV)(H:AH):Prop:=ax 0 (Int.add a8 (.ofNat 1)) λz1=>x10 a0 a2 a6 a7 z1 a9 H
theorem VD{R:cY}(hR:iC R){K:KF}{x10:bG}(h10:Fz K x10):Kf K (CP R K x10):=λa0 a2 a6 a7 a8 a9 H h=>pk hR (cc h10 .nil) h
def CQ(R:cY)(K:KF)(i2:dk):bG:=CP R K (FA R K i2)
theorem VE{R:cY}(hR:iC R){K:KF}{i2:dk}(g2:jW K i2):Kf K (CQ R K i2):=VD hR (QB hR g2)
def CR(R:cY)(K:KF)(x7 x6 x4 x8:bG)(a0:AV)(a2:Int)(a6 a7:AV)(a8:Int)(H:AH):Prop:=R.1 a0 H λo1 H2=>cR K o1 H2 λv3=>cI 0 v3 λz4=>eJ H2 (fc gPa (aB H2) 41 λv5 H6=>ah 7 v5 (.agg [(.int 0 (.ofNat 0)),(.int 0 z4),(.int 0 (.ofNat 0)),(.str 0 0),(.int 0 (.ofNat 1)),.ab,.ab]) H6 λH7=>ao a0 (af 2 a0 λv8=>ad v8 H7 λv9=>cI 0 v9 λz10=>bI (!(bq z10 (.ofNat 0))) (x4 a0 a2 a6 a7 a8 v5 H7) (R.2.1 a0 (.str 1 91) H7 λkC bO=>cR K kC bO λv13=>bS v13 λnM=>bI nM (R.2.2.2.1 a0 a2 bO λCx eE=>cR K Cx eE λv17=>ah 7 v5 v17 eE λiy=>x6 a0 a2 a6 a7 a8 v5 iy) (ao a0 (af 0 a0 λv19=>ad v19 bO λv20=>ao a0 (af 1 a0 λv21=>ad v21 bO λv22=>cI 0 v22 λz23=>bf 4 v20 (.int 0 z23) λv24=>af 0 v24 λv25=>ad v25 bO λv26=>cI 0 v26 λz27=>bI (bq z27 (.ofNat 2)) (ao a0 (af 0 a0 λv28=>ad v28 bO λv29=>ao a0 (af 1 a0 λv30=>ad v30 bO λv31=>cI 0 v31 λz32=>ax 0 (Int.add z32 (.ofNat 1)) λz33=>bf 4 v29 (.int 0 z33) λv34=>af 0 v34 λv35=>ad v35 bO λv36=>cI 0 v36 λz37=>bI (bq z37 (.ofNat 5)) (ao a0 (af 0 a0 λv38=>ad v38 bO λv39=>ao a0 (af 1 a0 λv40=>ad v40 bO λv41=>cI 0 v41 λz42=>ax 0 (Int.add z42 (.ofNat 1)) λz43=>bf 4 v39 (.int 0 z43) λv44=>af 1 v44 λv45=>ad v45 bO λv46=>ux v46 (.str 1 61) λv47=>bS v47 λz48=>bI z48 (x7 a0 a2 a6 a7 a8 v5 bO) (x8 a0 a2 a6 a7 a8 v5 bO)))) (x8 a0 a2 a6 a7 a8 v5 bO)))) (x8 a0 a2 a6 a7 a8 v5 bO)))))))
theorem VF{R:cY}(hR:iC R){K:KF}{x7 x6 x4 x8:bG}(h7:Ke K x7)(h6:Kd K x6)(h4:uZ K x4)(h8:Kf K x8):Ka K (CR R K x7 x6 x4 x8):=λa0 a2 a6 a7 a8 H h=>pk hR (cc h7 (cc h6 (cc h4 (cc h8 .nil)))) h
def CS(R:cY)(K:KF)(i2:dk):dk:=CR R K (Ki R K i2) (Kj R K i2) (nN R K i2) (CQ R K i2)
theorem VG{R:cY}(hR:iC R){K:KF}{i2:dk}(g2:jW K i2):Ka K (CS R K i2):=VF hR (VA hR g2) (VC hR g2) (tv hR g2) (VE hR g2)
def CT(R:cY)(K:KF)(x3:dk)(x1:iS)(a0:AV)(a2:Int)(a6 a7:AV)(a8:Int)(H:AH):Prop:=ao a0 (af 2 a0 λv1=>ad v1 H λv2=>cI 0 v2 λz3=>bI (bq z3 (.ofNat 0)) (R.2.2.1 a0 (.str 1 125) H λo4 H5=>cR K o4 H5 λv6=>bS v6 λz7=>bI (!z7) (af 5 a7 λv8=>ad v8 H5 λv9=>bN v9 λv10=>cI 0 v10 λz11=>bI (bq (.ofNat 2) 0) False (ax 0 (Int.tdiv z11 (.ofNat 2)) λz12=>R.2.2.2.2.2.2 a0 z12 (.ofNat 64) H5 λlB dh=>cR K lB dh λv15=>x3 a0 a2 a6 a7 a8 dh)) (x1 a0 a6 a7 H5)) (x1 a0 a6 a7 H))
theorem VH{R:cY}(hR:iC R){K:KF}{x3:dk}{x1:iS}(h3:Ka K x3)(h1:CH K x1):jW K (CT R K x3 x1):=λa0 a2 a6 a7 a8 H h=>pk hR (cc h3 (cc h1 .nil)) h
def Kk(R:cY)(K:KF)(i2:dk):dk:=CT R K (CS R K i2) (u4 R K)
theorem VI{R:cY}(hR:iC R){K:KF}{i2:dk}(g2:jW K i2):jW K (Kk R K i2):=VH hR (VG hR g2) (GB hR)
def CU(R:cY)(K:KF)(n:Nat):dk:=Nat.rec (motive:=λ_=>dk) (λ_ _ _ _ _ _=>False) (λ_ i=>Kk R K i) n
theorem VJ{R:cY}(hR:iC R){K:KF}(n:Nat):jW K (CU R K n):=Nat.rec (motive:=λn=>jW K (CU R K n)) (λa0 a2 a6 a7 a8 H h=>h.elim) (λn ih=>VI hR ih) n
def Kl(R:cY)(K:KF)(x2:dk)(a0:AV)(a1 a2:Int)(H:AH):Prop:=eJ H (fc gPa (aB H) 41 λv1 H2=>eJ H2 (fc gPa (aB H2) 41 λv3 H4=>ah 7 v3 (.agg [(.int 0 (.ofNat 8)),(.int 0 a1),(.int 0 (.ofNat 0)),(.str 0 0),(.int 0 (.ofNat 0)),.ab,.ab]) H4 λH5=>x2 a0 a2 v1 v3 (.ofNat 0) H5))
theorem VK{R:cY}(hR:iC R){K:KF}{x2:dk}(h2:jW K x2)(a0:AV)(a1 a2:Int)(H:AH)(h:Kl R K x2 a0 a1 a2 H):fb 85 K [] (bD (eD 85) [a0,(.int 0 a1),(.int 0 a2)]) [] H:=pk hR (cc h2 .nil) h
def VM(R:cY)(K:KF):iT:=Kl R K (CU R K NL)
def CV(R:cY):AV→Int→Int→AH→KF→Prop:=λa0 a1 a2 H K=>VM R K a0 a1 a2 H
theorem agV(R:cY)(hR:iC R):aC gPa 85 (aw [.a,.i 0,.i 0] (CV R)):=rk λK a0 a1 a2 H h=>VK hR (VJ hR NL) a0 a1 a2 H h
abbrev qU:Type:=(AV→Int→AH→KF→Prop)×(AV→Int→AH→KF→Prop)×(AV→AV→Int→AH→KF→Prop)×(AV→Int→Int→AH→KF→Prop)×(AV→Int→AH→KF→Prop)×(AV→AV→Int→AH→KF→Prop)×(AV→Int→AH→KF→Prop)×(AV→Int→AH→KF→Prop)×(AV→Int→AH→KF→Prop)×(AV→Int→Int→AH→KF→Prop)
def cM(S:qU):fh:=(f18,f37,f38,f39,f40,f41,S.2.1,S.2.2.1)
def u7(S:qU):tu:=(f37,S.2.2.2.1)
def aY(S:qU):bF:=(S.1,f18,f39,f40,f41,S.2.1,f57,S.2.2.2.2.1,f59,S.2.2.2.2.2.1)
def eF(S:qU):dA:=(f39,f41,S.2.2.2.1,S.2.2.2.2.2.2.1,S.2.2.2.2.2.2.2.1)
def fY(S:qU):gN:=(S.1,f40,f57,f59,f76)
def dv(S:qU):de:=(f39,f40,S.2.1,f57,f59,f76)
def mQ(S:qU):nX:=(f37,f39,f40,S.2.2.2.1,S.2.2.2.2.2.2.1)
def mR(S:qU):nY:=(f37,f39,f40,S.2.2.2.2.2.2.2.1,S.2.2.2.2.2.2.2.2.1)
def fZ(S:qU):fA:=(f18,f39,f40,S.2.1,S.2.2.2.2.1,f59,S.2.2.2.2.2.1,S.2.2.2.2.2.2.2.2.2)
def cN(S:qU):cY:=(f39,f40,f41,S.2.1,f57,f59,f76)
noncomputable def s10(n:Nat):qU:=Nat.rec (motive:=λ_=>qU) (λ_ _ _ _=>False,λ_ _ _ _=>False,λ_ _ _ _ _=>False,λ_ _ _ _ _=>False,λ_ _ _ _=>False,λ_ _ _ _ _=>False,λ_ _ _ _=>False,λ_ _ _ _=>False,λ_ _ _ _=>False,λ_ _ _ _ _=>False) (λ_ S=>(BD (cM S),Qh (u7 S),BS (aY S),B9 (eF S),Ch (fY S),Cu (dv S),Qx (mQ S),Qy (mR S),Qz (fZ S),CV (cN S))) n
theorem ajx(n:Nat):aC gPa 17 (aw [.a,.i 0] (s10 n).1)∧aC gPa 42 (aw [.a,.i 0] (s10 n).2.1)∧aC gPa 43 (aw [.a,.a,.i 0] (s10 n).2.2.1)∧aC gPa 56 (aw [.a,.i 0,.i 0] (s10 n).2.2.2.1)∧aC gPa 58 (aw [.a,.i 0] (s10 n).2.2.2.2.1)∧aC gPa 60 (aw [.a,.a,.i 0] (s10 n).2.2.2.2.2.1)∧aC gPa 74 (aw [.a,.i 0] (s10 n).2.2.2.2.2.2.1)∧aC gPa 75 (aw [.a,.i 0] (s10 n).2.2.2.2.2.2.2.1)∧aC gPa 82 (aw [.a,.i 0] (s10 n).2.2.2.2.2.2.2.2.1)∧aC gPa 85 (aw [.a,.i 0,.i 0] (s10 n).2.2.2.2.2.2.2.2.2):=by
 induction n with
 |zero=>exact⟨jP [.a,.i 0],jP [.a,.i 0],jP [.a,.a,.i 0],jP [.a,.i 0,.i 0],jP [.a,.i 0],jP [.a,.a,.i 0],jP [.a,.i 0],jP [.a,.i 0],jP [.a,.i 0],jP [.a,.i 0,.i 0]⟩
 |succ n ih=>exact⟨agM (cM (s10 n)) (ag.cons qs (ag.cons Bf (ag.cons ai5 (ag.cons qu (ag.cons oV (ag.cons uO (ag.cons (ih.2.1) (ag.cons (ih.2.2.1) ag.nil)))))))),agN (u7 (s10 n)) (ag.cons Bf (ag.cons (ih.2.2.2.1) ag.nil)),agO (aY (s10 n)) (ag.cons (ih.1) (ag.cons qs (ag.cons qu (ag.cons oV (ag.cons uO (ag.cons (ih.2.1) (ag.cons Bp (ag.cons (ih.2.2.2.2.1) (ag.cons xQ (ag.cons (ih.2.2.2.2.2.1) ag.nil)))))))))),agP (eF (s10 n)) (ag.cons qu (ag.cons uO (ag.cons (ih.2.2.2.1) (ag.cons (ih.2.2.2.2.2.2.1) (ag.cons (ih.2.2.2.2.2.2.2.1) ag.nil))))),agQ (fY (s10 n)) (ag.cons (ih.1) (ag.cons oV (ag.cons Bp (ag.cons xQ (ag.cons I5 ag.nil))))),agR (dv (s10 n)) (ag.cons qu (ag.cons oV (ag.cons (ih.2.1) (ag.cons Bp (ag.cons xQ (ag.cons I5 ag.nil)))))),agS (mQ (s10 n)) (ag.cons Bf (ag.cons qu (ag.cons oV (ag.cons (ih.2.2.2.1) (ag.cons (ih.2.2.2.2.2.2.1) ag.nil))))),agT (mR (s10 n)) (ag.cons Bf (ag.cons qu (ag.cons oV (ag.cons (ih.2.2.2.2.2.2.2.1) (ag.cons (ih.2.2.2.2.2.2.2.2.1) ag.nil))))),agU (fZ (s10 n)) (ag.cons qs (ag.cons qu (ag.cons oV (ag.cons (ih.2.1) (ag.cons (ih.2.2.2.2.1) (ag.cons xQ (ag.cons (ih.2.2.2.2.2.1) (ag.cons (ih.2.2.2.2.2.2.2.2.2) ag.nil)))))))),agV (cN (s10 n)) (ag.cons qu (ag.cons oV (ag.cons uO (ag.cons (ih.2.1) (ag.cons Bp (ag.cons xQ (ag.cons I5 ag.nil)))))))⟩
def f17:AV→Int→AH→KF→Prop:=(s10 NL).1
theorem ajy:aC gPa 17 (aw [.a,.i 0] f17):=(ajx NL).1
abbrev pb:Type:=(AV→AH→KF→Prop)×(AV→Int→AH→KF→Prop)×(AV→Int→AH→KF→Prop)
def aoB(R:pb):List (Nat×dq):=[(16,aw [.a] R.1),(17,aw [.a,.i 0] R.2.1),(18,aw [.a,.i 0] R.2.2)]
abbrev QC(R:pb):Prop:=ag gPa (aoB R)
abbrev QD(K:KF)(F:cX):Prop:=aT 7 K [1,1,1,1,1,1] 60 [8,9] [.a,.a] F
def He(R:pb)(K:KF)(a8 a9:AV)(H:AH):Prop:=ao a8 (af 2 a8 λv1=>ad v1 H λv2=>cI 0 v2 λz3=>bI (!(bq z3 (.ofNat 0))) (ao a8 (af 2 a8 λv4=>ad v4 H λv5=>cI 0 v5 λz6=>ao a8 (af 3 a8 λv7=>ad v7 H λv8=>cI 0 v8 λz9=>K (.ret (.aL [.ab,(.int 0 z6),(.int 0 z9)])) H))) (K (.ret (.aL [a9,(.int 0 (.ofNat 0)),(.int 0 (.ofNat 0))])) H))
theorem adI{R:pb}(hR:QC R){K:KF}:QD K (He R K):=λa8 a9 H h=>pk hR .nil h
def QF(R:pb)(K:KF):cX:=He R K
theorem adJ{R:pb}(hR:QC R){K:KF}:QD K (QF R K):=adI hR
def QG(R:pb)(K:KF)(x1:cX)(a0:AV)(H:AH):Prop:=R.1 a0 H λo1 H2=>cR K o1 H2 λv3=>dU v3 λl4=>eQ l4 0 λv5=>dU v3 λl6=>eQ l6 1 λv7=>cI 0 v7 λz8=>dU v3 λl9=>eQ l9 2 λv10=>cI 0 v10 λz11=>bI (!(bq z8 (.ofNat 0))) (K (.ret (.aL [.ab,(.int 0 z8),(.int 0 z11)])) H2) (one v5 (hN (aB H2) [v5,(.int 0 (.ofNat 0)),(.int 0 (.ofNat 0)),(.int 0 (.ofNat 0))] λv12 fu=>R.2.1 v12 (.ofNat 0) fu λxY eM=>cR K xY eM λv16=>ao v12 (af 2 v12 λv17=>ad v17 eM λv18=>cI 0 v18 λuU=>bI (bq uU (.ofNat 0)) (ao v12 (af 0 v12 λv20=>ad v20 eM λv21=>ao v12 (af 1 v12 λv22=>ad v22 eM λv23=>cI 0 v23 λz24=>bf 4 v21 (.int 0 z24) λv25=>af 0 v25 λv26=>ad v26 eM λv27=>cI 0 v27 λz28=>bI (!(bq z28 (.ofNat 0))) (R.2.2 v12 (.ofNat 14) eM λU2 xg=>cR K U2 xg λv31=>x1 v12 v16 xg) (x1 v12 v16 eM)))) (x1 v12 v16 eM))))
theorem adK{R:pb}(hR:QC R){K:KF}{x1:cX}(h1:QD K x1)(a0:AV)(H:AH)(h:QG R K x1 a0 H):fb 7 K [] (bD (eD 7) [a0]) [] H:=pk hR (cc h1 .nil) h
def ae7(R:pb)(K:KF):Ta:=QG R K (QF R K)
def QH(R:pb):AV→AH→KF→Prop:=λa0 H K=>ae7 R K a0 H
theorem ajz(R:pb)(hR:QC R):aC gPa 7 (aw [.a] (QH R)):=rk λK a0 H h=>adK hR (adJ hR) a0 H h
end Go.Proofs.YtcedghechlgecaaDoor.G
