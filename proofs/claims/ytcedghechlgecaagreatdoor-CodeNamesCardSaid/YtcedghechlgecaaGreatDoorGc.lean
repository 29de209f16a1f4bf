/- The functions of Source, Check, Size, told and the law, by program. No condition. -/
import Derived.Test.YtcedghechlgecaaGreatDoorGb
set_option maxRecDepth 100000
set_option maxHeartbeats 0
set_option linter.unusedVariables false
set_option linter.unusedSimpArgs false
namespace Go.Proofs.YtcedghechlgecaaGreatDoor.G
open Go Go.X
abbrev Oh:Type:=Int→AV→AV→Int→AH→Prop
abbrev tq:Type:=Int→AV→Int→Int→AH→Prop
abbrev Tii:Type:=Int→Int→AH→Prop
abbrev Oi:Type:=Int→Int→AV→AV→AH→Prop
abbrev ax4:Type:=Int→Int→Int→Int→AH→Prop
abbrev kJ:Type:=(AV→AH→KF→Prop)
def av7(R:kJ):List (Nat×bQ):=[(16,ai [.a] R)]
abbrev Bh(R:kJ):Prop:=ad Tryz.prog (av7 R)
abbrev RO(K:KF)(F:Ti):Prop:=aN 16 K [1,1,1,1] 28 [3] [.i 0] F
abbrev xo(K:KF)(F:tq):Prop:=aN 16 K [0,1,0,1,1,1] 28 [3,16,17,18] [.i 0,.a,.i 0,.i 0] F
def IT(R:kJ)(K:KF)(a3:Int)(H:AH):Prop:=K (.ret (.int 0 a3)) H
theorem ala{R:kJ}(hR:Bh R){K:KF}:RO K (IT R K):=λa3 H h=>pk hR .nil h
def xp(R:kJ)(K:KF):Ti:=IT R K
theorem alb{R:kJ}(hR:Bh R){K:KF}:RO K (xp R K):=ala hR
def uy(R:kJ)(K:KF)(x2:tq)(x1:Ti)(a3:Int)(a16:AV)(a17 Ft:Int)(H:AH):Prop:=bI (bO Ft a17) (cw 1 a16 (.int 0 Ft) λv1=>af v1 H λv2=>R v2 H λo3 H4=>cR K o3 H4 λv5=>cI 0 v5 λz6=>aJ 0 (Int.add a3 z6) λz7=>aJ 0 (Int.add Ft (.ofNat 1)) λz8=>x2 z7 a16 a17 z8 H4) (x1 a3 H)
theorem alc{R:kJ}(hR:Bh R){K:KF}{x2:tq}{x1:Ti}(h2:xo K x2)(h1:RO K x1):xo K (uy R K x2 x1):=λa3 a16 a17 Ft H h=>pk hR (cc h2 (cc h1 .nil)) h
def ald(R:kJ)(K:KF)(i2:tq):tq:=uy R K i2 (xp R K)
theorem ale{R:kJ}(hR:Bh R){K:KF}{i2:tq}(g2:xo K i2):xo K (ald R K i2):=alc hR g2 (alb hR)
def uz(R:kJ)(K:KF)(n:Nat):tq:=Nat.rec (motive:=λ_=>tq) (λ_ _ _ _ _=>False) (λ_ i=>ald R K i) n
theorem alf{R:kJ}(hR:Bh R){K:KF}(n:Nat):xo K (uz R K n):=Nat.rec (motive:=λn=>xo K (uz R K n)) (λa3 a16 a17 Ft H h=>h.elim) (λn ih=>ale hR ih) n
def Aq(R:kJ)(K:KF)(x2:tq)(a0:AV)(H:AH):Prop:=oU true a0 .eH H λv1=>bC v1 λz2=>bI z2 (K (.ret (.int 0 (.ofNat 0))) H) (aC a0 (ah 0 a0 λv3=>af v3 H λv4=>bR v4 λv5=>cI 0 v5 λz6=>aC a0 (ah 3 a0 λv7=>af v7 H λv8=>bR v8 λv9=>cI 0 v9 λz10=>x2 z6 v8 z10 (.ofNat 0) H)))
theorem alg{R:kJ}(hR:Bh R){K:KF}{x2:tq}(h2:xo K x2)(a0:AV)(H:AH)(h:Aq R K x2 a0 H):cx 16 K [] (aT (cv 16) [a0]) [] H:=pk hR (cc h2 .nil) h
def av8(R:kJ)(K:KF):Ta:=Aq R K (uz R K NL)
def ap5(R:kJ):AV→AH→KF→Prop:=λa0 H K=>av8 R K a0 H
theorem att(R:kJ)(hR:Bh R):an Tryz.prog 16 (ai [.a] (ap5 R)):=rk λK a0 H h=>alg hR (alf hR NL) a0 H h
abbrev s2R:Type:=(AV→AH→KF→Prop)
def lT(S:s2R):kJ:=(S)
noncomputable def s2(n:Nat):s2R:=Nat.rec (motive:=λ_=>s2R) (λ_ _ _=>False) (λ_ S=>(ap5 (lT S))) n
theorem ax5(n:Nat):an Tryz.prog 16 (ai [.a] (s2 n)):=by
 induction n with
 |zero=>exact ey [.a]
 |succ n ih=>exact att (lT (s2 n)) (ad.cons ih ad.nil)
def f16:AV→AH→KF→Prop:=(s2 NL)
theorem alh:an Tryz.prog 16 (ai [.a] f16):=(ax5 NL)
abbrev yD:Type:=Unit
def av9(R:yD):List (Nat×bQ):=[]
abbrev ap6(R:yD):Prop:=ad Tryz.prog (av9 R)
def IU(R:yD)(K:KF)(a0 a1:Int)(H:AH):Prop:=bI (!(bO a0 (.ofNat 0))) (K (.ret (.bool (bO a0 a1))) H) (K (.ret (.bool false)) H)
theorem ali{R:yD}(hR:ap6 R){K:KF}(a0 a1:Int)(H:AH)(h:IU R K a0 a1 H):cx 43 K [] (aT (cv 43) [(.int 0 a0),(.int 0 a1)]) [] H:=pk hR .nil h
def awa(R:yD)(K:KF):Tii:=IU R K
def ap7(R:yD):Int→Int→AH→KF→Prop:=λa0 a1 H K=>awa R K a0 a1 H
theorem atu(R:yD)(hR:ap6 R):an Tryz.prog 43 (ai [.i 0,.i 0] (ap7 R)):=rk λK a0 a1 H h=>ali hR a0 a1 H h
def RP:yD:=()
def f43:Int→Int→AH→KF→Prop:=ap7 RP
theorem alj:an Tryz.prog 43 (ai [.i 0,.i 0] f43):=atu RP ad.nil
abbrev fg:Type:=(Int→Int→AH→KF→Prop)
def awb(R:fg):List (Nat×bQ):=[(43,ai [.i 0,.i 0] R)]
abbrev nq(R:fg):Prop:=ad Tryz.prog (awb R)
abbrev RQ(K:KF)(F:ie):Prop:=aN 42 K [1,1,1,0,1,0,1] 106 [0,3,6,17] [.a,.a,.i 0,.b] F
abbrev RR(K:KF)(F:ie):Prop:=aN 42 K [1,1,1,1,1,0,1,0,1] 106 [0,3,6,28] [.a,.a,.i 0,.b] F
abbrev RS(K:KF)(F:ie):Prop:=aN 42 K [1,1,1,1,1,1,1,0,1,0,1] 106 [0,3,6,39] [.a,.a,.i 0,.b] F
abbrev RU(K:KF)(F:ie):Prop:=aN 42 K [1,1,1,1,1,1,1,1,1,1,1,0,1,0,1] 106 [0,3,6,60] [.a,.a,.i 0,.b] F
abbrev RV(K:KF)(F:ie):Prop:=aN 42 K [1,1,1,1,1,1,1,1,1,1,1,1,1,0,1,0,1] 106 [0,3,6,73] [.a,.a,.i 0,.b] F
abbrev RW(K:KF)(F:mX):Prop:=aN 42 K [1,1,1,1,1,1,1,1,1,1,1,1,1,1,1,0,1,0,1] 106 [0,3,83] [.a,.a,.b] F
def RX(R:fg)(K:KF)(a0 a3:AV)(a83:Bool)(H:AH):Prop:=bI a83 (ah 1 a3 λv1=>af v1 H λv2=>cI 0 v2 λz3=>aC a0 (ah 7 a0 λv4=>af v4 H λv5=>cI 0 v5 λz6=>R z3 z6 H λo7 H8=>cR K o7 H8 λv9=>bC v9 λz10=>bI z10 (ah 2 a3 λv11=>af v11 H8 λv12=>cI 0 v12 λz13=>aC a0 (ah 0 a0 λv14=>af v14 H8 λv15=>bR v15 λv16=>cI 0 v16 λz17=>R z13 z17 H8 λQD ik=>cR K QD ik λv20=>bC v20 λz21=>K (.ret (.bool z21)) ik)) (K (.ret (.bool false)) H8))) (ah 0 a3 λv22=>af v22 H λv23=>cI 0 v23 λz24=>R z24 (.ofNat 32) H λCn jS=>cR K Cn jS λv27=>bC v27 λz28=>K (.ret (.bool z28)) jS)
theorem alk{R:fg}(hR:nq R){K:KF}:RW K (RX R K):=λa0 a3 a83 H h=>pk hR .nil h
def RY(R:fg)(K:KF):mX:=RX R K
theorem alm{R:fg}(hR:nq R){K:KF}:RW K (RY R K):=alk hR
def RZ(R:fg)(K:KF)(x6:mX)(a0 a3:AV)(a6:Int)(a73:Bool)(H:AH):Prop:=bI a73 (ah 1 a3 λv1=>af v1 H λv2=>cI 0 v2 λz3=>aC a0 (ah 7 a0 λv4=>af v4 H λv5=>cI 0 v5 λz6=>R z3 z6 H λo7 H8=>cR K o7 H8 λv9=>bC v9 λz10=>K (.ret (.bool z10)) H8)) (bI (aV a6 (.ofNat 28)) (x6 a0 a3 (aV a6 (.ofNat 28)) H) (x6 a0 a3 (aV a6 (.ofNat 30)) H))
theorem aln{R:fg}(hR:nq R){K:KF}{x6:mX}(h6:RW K x6):RV K (RZ R K x6):=λa0 a3 a6 a73 H h=>pk hR (cc h6 .nil) h
def R1(R:fg)(K:KF):ie:=RZ R K (RY R K)
theorem alo{R:fg}(hR:nq R){K:KF}:RV K (R1 R K):=aln hR (alm hR)
def R3(R:fg)(K:KF)(x5:ie)(a0 a3:AV)(a6:Int)(a60:Bool)(H:AH):Prop:=bI a60 (ah 1 a3 λv1=>af v1 H λv2=>cI 0 v2 λz3=>aC a0 (ah 0 a0 λv4=>af v4 H λv5=>bR v5 λv6=>cI 0 v6 λz7=>R z3 z7 H λo8 H9=>cR K o8 H9 λv10=>bC v10 λz11=>K (.ret (.bool z11)) H9)) (bI (aV a6 (.ofNat 27)) (x5 a0 a3 a6 (aV a6 (.ofNat 27)) H) (x5 a0 a3 a6 (aV a6 (.ofNat 29)) H))
theorem alp{R:fg}(hR:nq R){K:KF}{x5:ie}(h5:RV K x5):RU K (R3 R K x5):=λa0 a3 a6 a60 H h=>pk hR (cc h5 .nil) h
def R4(R:fg)(K:KF):ie:=R3 R K (R1 R K)
theorem alq{R:fg}(hR:nq R){K:KF}:RU K (R4 R K):=alp hR (alo hR)
def R5(R:fg)(K:KF)(x4:ie)(a0 a3:AV)(a6:Int)(a39:Bool)(H:AH):Prop:=bI a39 (ah 1 a3 λv1=>af v1 H λv2=>cI 0 v2 λz3=>aC a0 (ah 4 a0 λv4=>af v4 H λv5=>bR v5 λv6=>cI 0 v6 λz7=>R z3 z7 H λo8 H9=>cR K o8 H9 λv10=>bC v10 λz11=>K (.ret (.bool z11)) H9)) (bI (aV a6 (.ofNat 12)) (ah 1 a3 λv12=>af v12 H λv13=>cI 0 v13 λlL=>aC a0 (ah 3 a0 λv15=>af v15 H λv16=>bR v16 λv17=>cI 0 v17 λyn=>R lL yn H λzu gV=>cR K zu gV λv21=>bC v21 λz22=>K (.ret (.bool z22)) gV)) (bI (aV a6 (.ofNat 23)) (x4 a0 a3 a6 (aV a6 (.ofNat 23)) H) (bI (aV a6 (.ofNat 24)) (x4 a0 a3 a6 (aV a6 (.ofNat 24)) H) (bI (aV a6 (.ofNat 25)) (x4 a0 a3 a6 (aV a6 (.ofNat 25)) H) (x4 a0 a3 a6 (aV a6 (.ofNat 26)) H)))))
theorem alr{R:fg}(hR:nq R){K:KF}{x4:ie}(h4:RU K x4):RS K (R5 R K x4):=λa0 a3 a6 a39 H h=>pk hR (cc h4 .nil) h
def R7(R:fg)(K:KF):ie:=R5 R K (R4 R K)
theorem als{R:fg}(hR:nq R){K:KF}:RS K (R7 R K):=alr hR (alq hR)
def Sh(R:fg)(K:KF)(x3:ie)(a0 a3:AV)(a6:Int)(a28:Bool)(H:AH):Prop:=bI a28 (ah 1 a3 λv1=>af v1 H λv2=>cI 0 v2 λz3=>aC a0 (ah 6 a0 λv4=>af v4 H λv5=>cI 0 v5 λz6=>R z3 z6 H λo7 H8=>cR K o7 H8 λv9=>bC v9 λz10=>K (.ret (.bool z10)) H8)) (bI (aV a6 (.ofNat 9)) (x3 a0 a3 a6 (aV a6 (.ofNat 9)) H) (x3 a0 a3 a6 (aV a6 (.ofNat 10)) H))
theorem alu{R:fg}(hR:nq R){K:KF}{x3:ie}(h3:RS K x3):RR K (Sh R K x3):=λa0 a3 a6 a28 H h=>pk hR (cc h3 .nil) h
def Sj(R:fg)(K:KF):ie:=Sh R K (R7 R K)
theorem alv{R:fg}(hR:nq R){K:KF}:RR K (Sj R K):=alu hR (als hR)
def Sl(R:fg)(K:KF)(x2:ie)(a0 a3:AV)(a6:Int)(a17:Bool)(H:AH):Prop:=bI a17 (ah 1 a3 λv1=>af v1 H λv2=>cI 0 v2 λz3=>aC a0 (ah 2 a0 λv4=>af v4 H λv5=>bR v5 λv6=>cI 0 v6 λz7=>R z3 z7 H λo8 H9=>cR K o8 H9 λv10=>bC v10 λz11=>K (.ret (.bool z11)) H9)) (bI (aV a6 (.ofNat 6)) (x2 a0 a3 a6 (aV a6 (.ofNat 6)) H) (bI (aV a6 (.ofNat 7)) (x2 a0 a3 a6 (aV a6 (.ofNat 7)) H) (x2 a0 a3 a6 (aV a6 (.ofNat 8)) H)))
theorem alw{R:fg}(hR:nq R){K:KF}{x2:ie}(h2:RR K x2):RQ K (Sl R K x2):=λa0 a3 a6 a17 H h=>pk hR (cc h2 .nil) h
def Sm(R:fg)(K:KF):ie:=Sl R K (Sj R K)
theorem alx{R:fg}(hR:nq R){K:KF}:RQ K (Sm R K):=alw hR (alv hR)
def Sn(R:fg)(K:KF)(x1:ie)(a0 a1:AV)(H:AH):Prop:=kc (aA H) a1 λv1 H2=>ah 0 v1 λv3=>af v3 H2 λv4=>cI 0 v4 λz5=>bI (aV z5 (.ofNat 4)) (ah 1 v1 λv6=>af v6 H2 λv7=>cI 0 v7 λz8=>aC a0 (ah 1 a0 λv9=>af v9 H2 λv10=>bR v10 λv11=>cI 0 v11 λz12=>R z8 z12 H2 λwL dG=>cR K wL dG λv15=>bC v15 λlK=>K (.ret (.bool lK)) dG)) (bI (aV z5 (.ofNat 5)) (x1 a0 v1 z5 (aV z5 (.ofNat 5)) H2) (x1 a0 v1 z5 (aV z5 (.ofNat 11)) H2))
theorem aly{R:fg}(hR:nq R){K:KF}{x1:ie}(h1:RQ K x1)(a0 a1:AV)(H:AH)(h:Sn R K x1 a0 a1 H):cx 42 K [] (aT (cv 42) [a0,a1]) [] H:=pk hR (cc h1 .nil) h
def So(R:fg)(K:KF):aU:=Sn R K (Sm R K)
def ap8(R:fg):AV→AV→AH→KF→Prop:=λa0 a1 H K=>So R K a0 a1 H
theorem atv(R:fg)(hR:nq R):an Tryz.prog 42 (ai [.a,.a] (ap8 R)):=rk λK a0 a1 H h=>aly hR (alx hR) a0 a1 H h
def xq:fg:=(f43)
def f42:AV→AV→AH→KF→Prop:=ap8 xq
theorem awc:an Tryz.prog 42 (ai [.a,.a] f42):=atv xq (ad.cons alj ad.nil)
abbrev dc:Type:=(AV→AH→KF→Prop)×(AV→AV→AH→KF→Prop)×(Int→Int→AH→KF→Prop)
def awd(R:dc):List (Nat×bQ):=[(18,ai [.a] R.1),(42,ai [.a,.a] R.2.1),(43,ai [.i 0,.i 0] R.2.2)]
abbrev ju(R:dc):Prop:=ad Tryz.prog (awd R)
abbrev Sp(K:KF)(F:Ta):Prop:=aN 18 K [1,1] 111 [0] [.a] F
abbrev Sq(K:KF)(F:Ta):Prop:=aN 18 K [1,1,1] 111 [0] [.a] F
abbrev Sr(K:KF)(F:T_):Prop:=aN 18 K [1,1,1,1] 111 [] [] F
abbrev xr(K:KF)(F:aB):Prop:=aN 18 K [0,1,0,1,1] 111 [0,49,50,51] [.a,.a,.i 0,.i 0] F
abbrev nM(K:KF)(F:aB):Prop:=aN 18 K [0,1,0,1,1,1] 111 [0,63,64,65] [.a,.a,.i 0,.i 0] F
abbrev Ss(K:KF)(F:aB):Prop:=aN 18 K [1,1,1,0,0,1,0,1,1,1] 111 [0,63,64,65] [.a,.a,.i 0,.i 0] F
abbrev uA(K:KF)(F:dA):Prop:=aN 18 K [0,1,1,1,0,0,1,1,0,0,1,0,1,1,1] 111 [0,63,64,65,75,76,77] [.a,.a,.i 0,.i 0,.a,.i 0,.i 0] F
abbrev St(K:KF)(F:dA):Prop:=aN 18 K [1,1,1,0,0,1,1,1,0,0,1,1,0,0,1,0,1,1,1] 111 [0,63,64,65,75,76,77] [.a,.a,.i 0,.i 0,.a,.i 0,.i 0] F
def Su(R:dc)(K:KF)(x5:aB)(a0 a63:AV)(a64 a65:Int)(H:AH):Prop:=aJ 0 (Int.add a65 (.ofNat 1)) λz1=>x5 a0 a63 a64 z1 H
theorem alz{R:dc}(hR:ju R){K:KF}{x5:aB}(h5:nM K x5):Ss K (Su R K x5):=λa0 a63 a64 a65 H h=>pk hR (cc h5 .nil) h
def CR(R:dc)(K:KF)(i5:aB):aB:=Su R K i5
theorem alA{R:dc}(hR:ju R){K:KF}{i5:aB}(g5:nM K i5):Ss K (CR R K i5):=alz hR g5
def Sv(R:dc)(K:KF)(x7:dA)(a0 a63:AV)(a64 a65:Int)(a75:AV)(a76 a77:Int)(H:AH):Prop:=aJ 0 (Int.add a77 (.ofNat 1)) λz1=>x7 a0 a63 a64 a65 a75 a76 z1 H
theorem alB{R:dc}(hR:ju R){K:KF}{x7:dA}(h7:uA K x7):St K (Sv R K x7):=λa0 a63 a64 a65 a75 a76 a77 H h=>pk hR (cc h7 .nil) h
def CS(R:dc)(K:KF)(i5:aB)(i7:dA):dA:=Sv R K i7
theorem alC{R:dc}(hR:ju R){K:KF}{i5:aB}{i7:dA}(g5:nM K i5)(g7:uA K i7):St K (CS R K i5 i7):=alB hR g7
def IV(R:dc)(K:KF)(x6:aB)(x8:dA)(a0 a63:AV)(a64 a65:Int)(a75:AV)(a76 a77:Int)(H:AH):Prop:=bI (bO a77 a76) (cw 2 a75 (.int 0 a77) λv1=>aM 2 v1 H λv2=>cm H (dC (aA H) [(.bool false),(.int 0 (.ofNat 0))] λv3 H4=>ag 2 v3 v2 H4 λH5=>ah 0 v3 λv6=>af v6 H5 λv7=>bC v7 λz8=>bI z8 (ah 1 v3 λv9=>af v9 H5 λv10=>cI 0 v10 λz11=>aC a0 (ah 6 a0 λv12=>af v12 H5 λv13=>cI 0 v13 λlL=>R.2.2 z11 lL H5 λtK dJ=>cR K tK dJ λv17=>bC v17 λyn=>bI (!yn) (K (.ret (.bool false)) dJ) (ah 0 v3 λv19=>af v19 dJ λv20=>bC v20 λz21=>bI (!z21) (ah 1 v3 λv22=>af v22 dJ λv23=>cI 0 v23 λz24=>aC a0 (ah 4 a0 λv25=>af v25 dJ λv26=>bR v26 λv27=>cI 0 v27 λz28=>R.2.2 z24 z28 dJ λo29 HK=>cR K o29 HK λv31=>bC v31 λz32=>bI (!z32) (K (.ret (.bool false)) HK) (x8 a0 a63 a64 a65 a75 a76 a77 HK))) (x8 a0 a63 a64 a65 a75 a76 a77 dJ)))) (ah 0 v3 λv33=>af v33 H5 λv34=>bC v34 λz35=>bI (!z35) (ah 1 v3 λv36=>af v36 H5 λv37=>cI 0 v37 λz38=>aC a0 (ah 4 a0 λv39=>af v39 H5 λv40=>bR v40 λv41=>cI 0 v41 λz42=>R.2.2 z38 z42 H5 λo43 Nr=>cR K o43 Nr λv45=>bC v45 λz46=>bI (!z46) (K (.ret (.bool false)) Nr) (x8 a0 a63 a64 a65 a75 a76 a77 Nr))) (x8 a0 a63 a64 a65 a75 a76 a77 H5)))) (x6 a0 a63 a64 a65 H)
theorem alD{R:dc}(hR:ju R){K:KF}{x6:aB}{x8:dA}(h6:Ss K x6)(h8:St K x8):uA K (IV R K x6 x8):=λa0 a63 a64 a65 a75 a76 a77 H h=>pk hR (cc h6 (cc h8 .nil)) h
def alE(R:dc)(K:KF)(i5:aB)(i7:dA):dA:=IV R K (CR R K i5) (CS R K i5 i7)
theorem alF{R:dc}(hR:ju R){K:KF}{i5:aB}{i7:dA}(g5:nM K i5)(g7:uA K i7):uA K (alE R K i5 i7):=alD hR (alA hR g5) (alC hR g5 g7)
def ry(R:dc)(K:KF)(i5:aB)(n:Nat):dA:=Nat.rec (motive:=λ_=>dA) (λ_ _ _ _ _ _ _ _=>False) (λ_ i=>alE R K i5 i) n
theorem alG{R:dc}(hR:ju R){K:KF}{i5:aB}(g5:nM K i5)(n:Nat):uA K (ry R K i5 n):=Nat.rec (motive:=λn=>uA K (ry R K i5 n)) (λa0 a63 a64 a65 a75 a76 a77 H h=>h.elim) (λn ih=>alF hR g5 ih) n
def IW(R:dc)(K:KF)(H:AH):Prop:=K (.ret (.bool true)) H
theorem alH{R:dc}(hR:ju R){K:KF}:Sr K (IW R K):=λH h=>pk hR .nil h
def xt(R:dc)(K:KF):T_:=IW R K
theorem alI{R:dc}(hR:ju R){K:KF}:Sr K (xt R K):=alH hR
def uB(R:dc)(K:KF)(x7:dA)(x3:T_)(a0 a63:AV)(a64 a65:Int)(H:AH):Prop:=bI (bO a65 a64) (cw 1 a63 (.int 0 a65) λv1=>af v1 H λv2=>R.1 v2 H λo3 H4=>cR K o3 H4 λv5=>bC v5 λz6=>bI (!z6) (K (.ret (.bool false)) H4) (aC v2 (ah 4 v2 λv7=>af v7 H4 λv8=>bR v8 λv9=>cI 0 v9 λz10=>x7 a0 a63 a64 a65 v8 z10 (.ofNat 0) H4))) (x3 H)
theorem alJ{R:dc}(hR:ju R){K:KF}{x7:dA}{x3:T_}(h7:uA K x7)(h3:Sr K x3):nM K (uB R K x7 x3):=λa0 a63 a64 a65 H h=>pk hR (cc h7 (cc h3 .nil)) h
def alK(R:dc)(K:KF)(i5:aB):aB:=uB R K (ry R K i5 NL) (xt R K)
theorem alL{R:dc}(hR:ju R){K:KF}{i5:aB}(g5:nM K i5):nM K (alK R K i5):=alJ hR (alG hR g5 NL) (alI hR)
def lU(R:dc)(K:KF)(n:Nat):aB:=Nat.rec (motive:=λ_=>aB) (λ_ _ _ _ _=>False) (λ_ i=>alK R K i) n
theorem alM{R:dc}(hR:ju R){K:KF}(n:Nat):nM K (lU R K n):=Nat.rec (motive:=λn=>nM K (lU R K n)) (λa0 a63 a64 a65 H h=>h.elim) (λn ih=>alL hR ih) n
def IX(R:dc)(K:KF)(x5:aB)(a0:AV)(H:AH):Prop:=aC a0 (ah 3 a0 λv1=>af v1 H λv2=>bR v2 λv3=>cI 0 v3 λz4=>x5 a0 v2 z4 (.ofNat 0) H)
theorem alN{R:dc}(hR:ju R){K:KF}{x5:aB}(h5:nM K x5):Sq K (IX R K x5):=λa0 H h=>pk hR (cc h5 .nil) h
def Ar(R:dc)(K:KF):Ta:=IX R K (lU R K NL)
theorem alO{R:dc}(hR:ju R){K:KF}:Sq K (Ar R K):=alN hR (alM hR NL)
def IY(R:dc)(K:KF)(x4:aB)(x2:Ta)(a0 a49:AV)(a50 a51:Int)(H:AH):Prop:=bI (bO a51 a50) (cw 3 a49 (.int 0 a51) λv1=>aM 3 v1 H λv2=>cm H (dC (aA H) [(.int 0 (.ofNat 0)),(.int 0 (.ofNat 0)),(.int 0 (.ofNat 0))] λv3 H4=>ag 3 v3 v2 H4 λH5=>aM 3 v3 H5 λv6=>R.2.1 a0 v6 H5 λo7 H8=>cR K o7 H8 λv9=>bC v9 λz10=>bI (!z10) (K (.ret (.bool false)) H8) (aJ 0 (Int.add a51 (.ofNat 1)) λz11=>x4 a0 a49 a50 z11 H8))) (x2 a0 H)
theorem alP{R:dc}(hR:ju R){K:KF}{x4:aB}{x2:Ta}(h4:xr K x4)(h2:Sq K x2):xr K (IY R K x4 x2):=λa0 a49 a50 a51 H h=>pk hR (cc h4 (cc h2 .nil)) h
def alQ(R:dc)(K:KF)(i4:aB):aB:=IY R K i4 (Ar R K)
theorem alR{R:dc}(hR:ju R){K:KF}{i4:aB}(g4:xr K i4):xr K (alQ R K i4):=alP hR g4 (alO hR)
def CT(R:dc)(K:KF)(n:Nat):aB:=Nat.rec (motive:=λ_=>aB) (λ_ _ _ _ _=>False) (λ_ i=>alQ R K i) n
theorem alS{R:dc}(hR:ju R){K:KF}(n:Nat):xr K (CT R K n):=Nat.rec (motive:=λn=>xr K (CT R K n)) (λa0 a49 a50 a51 H h=>h.elim) (λn ih=>alR hR ih) n
def Sw(R:dc)(K:KF)(x4:aB)(a0:AV)(H:AH):Prop:=aC a0 (ah 0 a0 λv1=>af v1 H λv2=>bR v2 λv3=>cI 0 v3 λz4=>x4 a0 v2 z4 (.ofNat 0) H)
theorem alT{R:dc}(hR:ju R){K:KF}{x4:aB}(h4:xr K x4):Sp K (Sw R K x4):=λa0 H h=>pk hR (cc h4 .nil) h
def IZ(R:dc)(K:KF):Ta:=Sw R K (CT R K NL)
theorem alU{R:dc}(hR:ju R){K:KF}:Sp K (IZ R K):=alT hR (alS hR NL)
def CU(R:dc)(K:KF)(x1:Ta)(a0:AV)(H:AH):Prop:=oU true a0 .eH H λv1=>bC v1 λz2=>bI z2 (K (.ret (.bool false)) H) (aC a0 (ah 0 a0 λv3=>af v3 H λv4=>bR v4 λv5=>cI 0 v5 λz6=>bI (aV z6 (.ofNat 0)) (K (.ret (.bool false)) H) (aC a0 (ah 0 a0 λv7=>af v7 H λv8=>aC a0 (ah 0 a0 λv9=>af v9 H λv10=>bR v10 λv11=>cI 0 v11 λz12=>aJ 0 (Int.sub z12 (.ofNat 1)) λz13=>cw 3 v8 (.int 0 z13) λv14=>ah 0 v14 λv15=>af v15 H λv16=>cI 0 v16 λz17=>bI (!(aV z17 (.ofNat 31))) (K (.ret (.bool false)) H) (aC a0 (ah 5 a0 λv18=>af v18 H λv19=>cI 0 v19 λz20=>aC a0 (ah 6 a0 λv21=>af v21 H λv22=>cI 0 v22 λz23=>bI (bO z23 z20) (K (.ret (.bool false)) H) (x1 a0 H)))))))))
theorem alV{R:dc}(hR:ju R){K:KF}{x1:Ta}(h1:Sp K x1)(a0:AV)(H:AH)(h:CU R K x1 a0 H):cx 18 K [] (aT (cv 18) [a0]) [] H:=pk hR (cc h1 .nil) h
def Sx(R:dc)(K:KF):Ta:=CU R K (IZ R K)
def I0(R:dc):AV→AH→KF→Prop:=λa0 H K=>Sx R K a0 H
theorem atw(R:dc)(hR:ju R):an Tryz.prog 18 (ai [.a] (I0 R)):=rk λK a0 H h=>alV hR (alU hR) a0 H h
abbrev s5R:Type:=(AV→AH→KF→Prop)
def cJ(S:s5R):dc:=(S,f42,f43)
noncomputable def s5(n:Nat):s5R:=Nat.rec (motive:=λ_=>s5R) (λ_ _ _=>False) (λ_ S=>(I0 (cJ S))) n
theorem ax6(n:Nat):an Tryz.prog 18 (ai [.a] (s5 n)):=by
 induction n with
 |zero=>exact ey [.a]
 |succ n ih=>exact atw (cJ (s5 n)) (ad.cons ih (ad.cons awc (ad.cons alj ad.nil)))
def f18:AV→AH→KF→Prop:=(s5 NL)
theorem alW:an Tryz.prog 18 (ai [.a] f18):=(ax6 NL)
abbrev pj:Type:=(AH→KF→Prop)×(AV→AH→KF→Prop)×(AV→AH→KF→Prop)×(AV→AH→KF→Prop)×(Int→AV→AV→AH→KF→Prop)
def afb(R:pj):List (Nat×bQ):=[(13,ai [] R.1),(14,ai [.a] R.2.1),(16,ai [.a] R.2.2.1),(18,ai [.a] R.2.2.2.1),(20,ai [.i 0,.a,.a] R.2.2.2.2)]
abbrev MA(R:pj):Prop:=ad Tryz.prog (afb R)
abbrev afc(K:KF)(F:Oi):Prop:=aN 6 K [1,1] 75 [2,3,9,10] [.i 0,.i 0,.a,.a] F
abbrev afd(K:KF)(F:Oh):Prop:=aN 6 K [1,1,1,1] 75 [3,11,12,13] [.i 0,.a,.a,.i 0] F
def Oj(R:pj)(K:KF)(a3:Int)(a11 a12:AV)(fU:Int)(H:AH):Prop:=aJ 3 a3 λz1=>bI (aV (.ofNat 32) 0) False (iL (Int.tmod z1 (.ofNat 32)) λz2=>aJ 0 z2 λz3=>aJ 0 (Int.add (.ofNat 1) z3) λz4=>qR a11 λg8 x9 y10=>bT (ew Tryz.prog g8) (fY (afb R) g8 (x9++([(.int 0 z4)]++y10)) H λo5 H6=>cR K o5 H6 λv7=>R.2.1 v7 H6 λqY cU=>cR K qY cU λv13=>dv v13 λl14=>cE l14 0 λv15=>dv v13 λl16=>cE l16 1 λv17=>cI 0 v17 λyn=>dv v13 λl19=>cE l19 2 λv20=>cI 0 v20 λz21=>R.1  cU λo22 nh=>cR K o22 nh λv24=>bC v24 λz25=>bI z25 (OI (.bool (aV fU (.ofNat 0))) (.bool (aV yn (.ofNat 0))) λv26=>bC v26 λz27=>bI z27 (R.2.2.1 a12 nh λo28 Fq=>cR K o28 Fq λv30=>cI 0 v30 λz31=>R.2.2.1 v15 Fq λo32 Cp=>cR K o32 Cp λv34=>cI 0 v34 λz35=>bI (aV z31 z35) (R.2.2.2.1 a12 Cp λo36 Hz=>cR K o36 Hz λv38=>bC v38 λz39=>OI (.bool z39) (.bool (aV fU (.ofNat 0))) λv40=>bC v40 λz41=>K (.ret (.bool z41)) Hz) (K (.ret (.bool false)) Cp)) (K (.ret (.bool false)) nh)) (K (.ret (.bool false)) nh)))
theorem aot{R:pj}(hR:MA R){K:KF}:afd K (Oj R K):=λa3 a11 a12 fU H h=>pk hR .nil h
def ap9(R:pj)(K:KF):Oh:=Oj R K
theorem aou{R:pj}(hR:MA R){K:KF}:afd K (ap9 R K):=aot hR
def Ok(R:pj)(K:KF)(x2:Oh)(a2 a3:Int)(a9 a10:AV)(H:AH):Prop:=aJ 3 a2 λz1=>bI (aV (.ofNat 32) 0) False (iL (Int.tmod z1 (.ofNat 32)) λz2=>aJ 0 z2 λz3=>aJ 0 (Int.add (.ofNat 1) z3) λz4=>R.2.2.2.2 z4 a9 a10 H λo5 H6=>cR K o5 H6 λv7=>R.2.1 v7 H6 λo8 H9=>cR K o8 H9 λv10=>dv v10 λVh=>cE Vh 0 λv12=>dv v10 λl13=>cE l13 1 λv14=>cI 0 v14 λnk=>dv v10 λl16=>cE l16 2 λv17=>cI 0 v17 λyn=>x2 a3 (.func 20 [] [a9,a10]) v12 nk H9)
theorem aov{R:pj}(hR:MA R){K:KF}{x2:Oh}(h2:afd K x2):afc K (Ok R K x2):=λa2 a3 a9 a10 H h=>pk hR (cc h2 .nil) h
def aqa(R:pj)(K:KF):Oi:=Ok R K (ap9 R K)
theorem aow{R:pj}(hR:MA R){K:KF}:afc K (aqa R K):=aov hR (aou hR)
def Ol(R:pj)(K:KF)(x1:Oi)(a0 a1 a2 a3:Int)(H:AH):Prop:=aJ 3 a0 λz1=>bI (aV (.ofNat 60) 0) False (iL (Int.tmod z1 (.ofNat 60)) λz2=>aJ 0 z2 λz3=>aJ 0 (Int.add (.ofNat 1) z3) λz4=>aJ 3 a1 λz5=>bI (aV (.ofNat 20) 0) False (iL (Int.tmod z5 (.ofNat 20)) λz6=>aJ 0 z6 λz7=>aJ 0 (Int.add (.ofNat 1) z7) λz8=>cm H (dC (aA H) [(.int 0 (.ofNat 0))] λv9 bo=>cm bo (dC (aA bo) [(.int 0 (.ofNat 0))] λv11 cU=>ag 1 v9 (.int 0 z4) cU λdj=>ag 1 v11 (.int 0 z8) dj λdG=>x1 a2 a3 v9 v11 dG))))
theorem aox{R:pj}(hR:MA R){K:KF}{x1:Oi}(h1:afc K x1)(a0 a1 a2 a3:Int)(H:AH)(h:Ol R K x1 a0 a1 a2 a3 H):cx 6 K [] (aT (cv 6) [(.int 0 a0),(.int 0 a1),(.int 0 a2),(.int 0 a3)]) [] H:=pk hR (cc h1 .nil) h
def ax7(R:pj)(K:KF):ax4:=Ol R K (aqa R K)
def awe(R:pj):Int→Int→Int→Int→AH→KF→Prop:=λa0 a1 a2 a3 H K=>ax7 R K a0 a1 a2 a3 H
theorem awf(R:pj)(hR:MA R):an Tryz.prog 6 (ai [.i 0,.i 0,.i 0,.i 0] (awe R)):=rk λK a0 a1 a2 a3 H h=>aox hR (aow hR) a0 a1 a2 a3 H h
abbrev yE:Type:=(AV→AH→KF→Prop)×(AV→AV→AV→AH→KF→Prop)
def awg(R:yE):List (Nat×bQ):=[(40,ai [.a] R.1),(41,ai [.a,.a,.a] R.2)]
abbrev aqb(R:yE):Prop:=ad Tryz.prog (awg R)
def As(R:yE)(K:KF)(a0:AV)(H:AH):Prop:=R.1 a0 H λo1 H2=>cR K o1 H2 λv3=>dv v3 λl4=>cE l4 0 λv5=>cI 0 v5 λz6=>dv v3 λl7=>cE l7 1 λv8=>cI 0 v8 λz9=>bI (!(aV z6 (.ofNat 0))) (K (.ret (.aE [.eH,(.int 0 z6),(.int 0 z9)])) H2) (dC (aA H2) [.ab,.ab,.ab,.ab,.ab,(.int 0 (.ofNat 0)),(.int 0 (.ofNat 0)),(.int 0 (.ofNat 0))] λv10 dq=>one v10 (dC (aA dq) [v10,.eH,.ab,.ab,(.int 0 (.ofNat 0)),.ab] λv12 dj=>bG (aA dj) 2 1 [(.str 4 1398359371),(.str 4 1447514689)] λv14 dH=>R.2 v12 v14 a0 dH λo16 jt=>cR K o16 jt λv18=>K (.ret (.aE [v18,(.int 0 (.ofNat 0)),(.int 0 (.ofNat 0))])) jt))
theorem alX{R:yE}(hR:aqb R){K:KF}(a0:AV)(H:AH)(h:As R K a0 H):cx 17 K [] (aT (cv 17) [a0]) [] H:=pk hR .nil h
def awh(R:yE)(K:KF):Ta:=As R K
def aqc(R:yE):AV→AH→KF→Prop:=λa0 H K=>awh R K a0 H
theorem atx(R:yE)(hR:aqb R):an Tryz.prog 17 (ai [.a] (aqc R)):=rk λK a0 H h=>alX hR a0 H h
abbrev yF:Type:=(AV→AH→KF→Prop)×(AV→AH→KF→Prop)
def awi(R:yF):List (Nat×bQ):=[(8,ai [.a] R.1),(17,ai [.a] R.2)]
abbrev aqd(R:yF):Prop:=ad Tryz.prog (awi R)
def I3(R:yF)(K:KF)(a0:AV)(H:AH):Prop:=R.1 a0 H λo1 H2=>cR K o1 H2 λv3=>dv v3 λl4=>cE l4 0 λv5=>dv v3 λl6=>cE l6 1 λv7=>cI 0 v7 λz8=>dv v3 λl9=>cE l9 2 λv10=>cI 0 v10 λz11=>bI (!(aV z8 (.ofNat 0))) (K (.ret (.aE [.eH,(.int 0 z8),(.int 0 z11)])) H2) (R.2 v5 H2 λqZ dj=>cR K qZ dj λv14=>dv v14 λl15=>cE l15 0 λv16=>dv v14 λl17=>cE l17 1 λv18=>cI 0 v18 λzy=>dv v14 λPM=>cE PM 2 λv21=>cI 0 v21 λz22=>K (.ret (.aE [v16,(.int 0 zy),(.int 0 z22)])) dj)
theorem alY{R:yF}(hR:aqd R){K:KF}(a0:AV)(H:AH)(h:I3 R K a0 H):cx 14 K [] (aT (cv 14) [a0]) [] H:=pk hR .nil h
def awj(R:yF)(K:KF):Ta:=I3 R K
def aqe(R:yF):AV→AH→KF→Prop:=λa0 H K=>awj R K a0 H
theorem aty(R:yF)(hR:aqd R):an Tryz.prog 14 (ai [.a] (aqe R)):=rk λK a0 H h=>alY hR a0 H h
abbrev yG:Type:=(AV→AH→KF→Prop)×(AV→AH→KF→Prop)×(AV→AH→KF→Prop)
def awk(R:yG):List (Nat×bQ):=[(14,ai [.a] R.1),(16,ai [.a] R.2.1),(18,ai [.a] R.2.2)]
abbrev aqf(R:yG):Prop:=ad Tryz.prog (awk R)
def I4(R:yG)(K:KF)(H:AH):Prop:=R.1 (.str 8 3539950744989099378) H λo1 H2=>cR K o1 H2 λv3=>dv v3 λl4=>cE l4 0 λv5=>dv v3 λl6=>cE l6 1 λv7=>cI 0 v7 λz8=>dv v3 λl9=>cE l9 2 λv10=>cI 0 v10 λz11=>R.1 (.str 8 8656039921681982834) H2 λqZ dj=>cR K qZ dj λv14=>dv v14 λl15=>cE l15 0 λv16=>dv v14 λl17=>cE l17 1 λv18=>cI 0 v18 λzy=>dv v14 λPM=>cE PM 2 λv21=>cI 0 v21 λz22=>bI (aV z8 (.ofNat 0)) (oU false v5 .eH dj λv23=>bC v23 λz24=>bI z24 (R.2.2 v5 dj λCn jS=>cR K Cn jS λv27=>bC v27 λz28=>bI z28 (oU true v16 .eH jS λv29=>bC v29 λz30=>bI z30 (bI (aV zy (.ofNat 14)) (bI (aV z22 (.ofNat 7)) (R.2.2 .eH jS λo31 np=>cR K o31 np λv33=>bC v33 λz34=>bI (!z34) (R.2.1 v5 np λo35 H36=>cR K o35 H36 λv37=>cI 0 v37 λz38=>K (.ret (.bool (bO (.ofNat 0) z38))) H36) (K (.ret (.bool false)) np)) (K (.ret (.bool false)) jS)) (K (.ret (.bool false)) jS)) (K (.ret (.bool false)) jS)) (K (.ret (.bool false)) jS)) (K (.ret (.bool false)) dj)) (K (.ret (.bool false)) dj)
theorem alZ{R:yG}(hR:aqf R){K:KF}(H:AH)(h:I4 R K H):cx 13 K [] (aT (cv 13) []) [] H:=pk hR .nil h
def awl(R:yG)(K:KF):T_:=I4 R K
def aqg(R:yG):AH→KF→Prop:=fun  H K=>awl R K  H
theorem atz(R:yG)(hR:aqf R):an Tryz.prog 13 (ai [] (aqg R)):=rk λK  H h=>alZ hR  H h
end Go.Proofs.YtcedghechlgecaaGreatDoor.G
