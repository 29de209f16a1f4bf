/- The functions of Check of both, by program. No condition. -/
import Derived.Test.YtcedghechlgecaaDoorGb
set_option maxRecDepth 100000
set_option maxHeartbeats 0
set_option linter.unusedVariables false
set_option linter.unusedSimpArgs false
namespace Go.Proofs.YtcedghechlgecaaDoor.G
open Go Go.X
abbrev ml:Type:=AV→AV→AV→AV→Int→AH→Prop
abbrev IC:Type:=AV→AV→AV→Bool→AH→Prop
abbrev uf:Type:=AV→AV→AV→Int→AV→AV→Int→Int→AH→Prop
abbrev dw:Type:=AV→AV→AV→Int→AV→Int→Int→AH→Prop
abbrev Ex:Type:=AV→AV→AV→Int→Bool→AH→Prop
abbrev mA:Type:=AV→AV→AV→Int→Int→Int→AH→Prop
abbrev ID:Type:=AV→AV→Int→Bool→AH→Prop
abbrev ug:Type:=Unit
def anp(R:ug):List (Nat×cY):=[]
abbrev ahg(R:ug):Prop:=af Tryd.prog (anp R)
def aaP(R:ug)(K:KF)(H:AH):Prop:=K (.ret (.aP [])) H
theorem aaQ{R:ug}(hR:ahg R){K:KF}(H:AH)(h:aaP R K H):dQ 21 K [] (bz (dy 21) []) [] H:=pk hR .nil h
def anq(R:ug)(K:KF):T_:=aaP R K
def ahh(R:ug):AH→KF→Prop:=fun  H K=>anq R K  H
theorem ai7(R:ug)(hR:ahg R):aw Tryd.prog 21 (ao [] (ahh R)):=rk λK  H h=>aaQ hR  H h
def aaR:ug:=()
def f21:AH→KF→Prop:=ahh aaR
theorem aaS:aw Tryd.prog 21 (ao [] f21):=ai7 aaR af.nil
abbrev uh:Type:=Unit
def anr(R:uh):List (Nat×cY):=[]
abbrev ahi(R:uh):Prop:=af Tryd.prog (anr R)
def Ey(R:uh)(K:KF)(a0:AV)(H:AH):Prop:=au a0 (ag 0 a0 λv1=>ad v1 H λv2=>au a0 (ag 0 a0 λv3=>ad v3 H λv4=>bO v4 λv5=>cI 0 v5 λz6=>aC 0 (Int.sub z6 (.ofNat 1)) λz7=>bb 1 v2 (.int 0 z7) λv8=>ad v8 H λv9=>K (.ret v9) H))
theorem aaT{R:uh}(hR:ahi R){K:KF}(a0:AV)(H:AH)(h:Ey R K a0 H):dQ 44 K [] (bz (dy 44) [a0]) [] H:=pk hR .nil h
def ans(R:uh)(K:KF):Ta:=Ey R K
def ahj(R:uh):AV→AH→KF→Prop:=λa0 H K=>ans R K a0 H
theorem ai8(R:uh)(hR:ahi R):aw Tryd.prog 44 (ao [.a] (ahj R)):=rk λK a0 H h=>aaT hR a0 H h
def MD:uh:=()
def f44:AV→AH→KF→Prop:=ahj MD
theorem ME:aw Tryd.prog 44 (ao [.a] f44):=ai8 MD af.nil
abbrev gd:Type:=Unit
def ant(R:gd):List (Nat×cY):=[]
abbrev oB(R:gd):Prop:=af Tryd.prog (ant R)
abbrev MF(K:KF)(F:T_):Prop:=aR 62 K [1,1,0,1] 32 [] [] F
abbrev oj(K:KF)(F:aF):Prop:=aR 62 K [0,1,0,1,0,1] 32 [1,12,13,14] [.a,.a,.i 0,.i 0] F
abbrev MG(K:KF)(F:aF):Prop:=aR 62 K [1,1,1,0,0,1,0,1,0,1] 32 [1,12,13,14] [.a,.a,.i 0,.i 0] F
abbrev sZ(K:KF)(F:dN):Prop:=aR 62 K [0,1,0,1,0,0,1,1,0,0,1,0,1,0,1] 32 [1,12,13,14,21,22,23] [.a,.a,.i 0,.i 0,.a,.i 0,.i 0] F
def Ez(R:gd)(K:KF)(x4:aF)(a1 a12:AV)(mL p9:Int)(H:AH):Prop:=aC 0 (Int.add p9 (.ofNat 1)) λz1=>x4 a1 a12 mL z1 H
theorem aaU{R:gd}(hR:oB R){K:KF}{x4:aF}(h4:oj K x4):MG K (Ez R K x4):=λa1 a12 mL p9 H h=>pk hR (cc h4 .nil) h
def aaV(R:gd)(K:KF)(i4:aF):aF:=Ez R K i4
theorem aaW{R:gd}(hR:oB R){K:KF}{i4:aF}(g4:oj K i4):MG K (aaV R K i4):=aaU hR g4
def EA(R:gd)(K:KF)(x8:dN)(x6:aF)(a1 a12:AV)(mL p9:Int)(a21:AV)(a22 a23:Int)(H:AH):Prop:=bI (cx a23 a22) (bb 1 a21 (.int 0 a23) λv1=>ad v1 H λv2=>uZ v2 a1 λv3=>bY v3 λz4=>bI z4 (K (.ret (.bool true)) H) (aC 0 (Int.add a23 (.ofNat 1)) λz5=>x8 a1 a12 mL p9 a21 a22 z5 H)) (x6 a1 a12 mL p9 H)
theorem aaX{R:gd}(hR:oB R){K:KF}{x8:dN}{x6:aF}(h8:sZ K x8)(h6:MG K x6):sZ K (EA R K x8 x6):=λa1 a12 mL p9 a21 a22 a23 H h=>pk hR (cc h8 (cc h6 .nil)) h
def aaY(R:gd)(K:KF)(i4:aF)(i8:dN):dN:=EA R K i8 (aaV R K i4)
theorem aaZ{R:gd}(hR:oB R){K:KF}{i4:aF}{i8:dN}(g4:oj K i4)(g8:sZ K i8):sZ K (aaY R K i4 i8):=aaX hR g8 (aaW hR g4)
def we(R:gd)(K:KF)(i4:aF)(n:Nat):dN:=Nat.rec (motive:=λ_=>dN) (λ_ _ _ _ _ _ _ _=>False) (λ_ i=>aaY R K i4 i) n
theorem aa0{R:gd}(hR:oB R){K:KF}{i4:aF}(g4:oj K i4)(n:Nat):sZ K (we R K i4 n):=Nat.rec (motive:=λn=>sZ K (we R K i4 n)) (λa1 a12 mL p9 a21 a22 a23 H h=>h.elim) (λn ih=>aaZ hR g4 ih) n
def EB(R:gd)(K:KF)(H:AH):Prop:=K (.ret (.bool false)) H
theorem aa1{R:gd}(hR:oB R){K:KF}:MF K (EB R K):=λH h=>pk hR .nil h
def aa2(R:gd)(K:KF):T_:=EB R K
theorem aa3{R:gd}(hR:oB R){K:KF}:MF K (aa2 R K):=aa1 hR
def EC(R:gd)(K:KF)(x8:dN)(x2:T_)(a1 a12:AV)(mL p9:Int)(H:AH):Prop:=bI (cx p9 mL) (bb 1 a12 (.int 0 p9) λv1=>ad v1 H λv2=>au v2 (ag 0 v2 λv3=>ad v3 H λv4=>bO v4 λv5=>cI 0 v5 λz6=>x8 a1 a12 mL p9 v4 z6 (.ofNat 0) H)) (x2 H)
theorem aa4{R:gd}(hR:oB R){K:KF}{x8:dN}{x2:T_}(h8:sZ K x8)(h2:MF K x2):oj K (EC R K x8 x2):=λa1 a12 mL p9 H h=>pk hR (cc h8 (cc h2 .nil)) h
def aa5(R:gd)(K:KF)(i4:aF):aF:=EC R K (we R K i4 NL) (aa2 R K)
theorem aa6{R:gd}(hR:oB R){K:KF}{i4:aF}(g4:oj K i4):oj K (aa5 R K i4):=aa4 hR (aa0 hR g4 NL) (aa3 hR)
def pF(R:gd)(K:KF)(n:Nat):aF:=Nat.rec (motive:=λ_=>aF) (λ_ _ _ _ _=>False) (λ_ i=>aa5 R K i) n
theorem aa7{R:gd}(hR:oB R){K:KF}(n:Nat):oj K (pF R K n):=Nat.rec (motive:=λn=>oj K (pF R K n)) (λa1 a12 mL p9 H h=>h.elim) (λn ih=>aa6 hR ih) n
def ED(R:gd)(K:KF)(x4:aF)(a0 a1:AV)(H:AH):Prop:=au a0 (ag 0 a0 λv1=>ad v1 H λv2=>bO v2 λv3=>cI 0 v3 λz4=>x4 a1 v2 z4 (.ofNat 0) H)
theorem aa8{R:gd}(hR:oB R){K:KF}{x4:aF}(h4:oj K x4)(a0 a1:AV)(H:AH)(h:ED R K x4 a0 a1 H):dQ 62 K [] (bz (dy 62) [a0,a1]) [] H:=pk hR (cc h4 .nil) h
def anu(R:gd)(K:KF):cN:=ED R K (pF R K NL)
def ahk(R:gd):AV→AV→AH→KF→Prop:=λa0 a1 H K=>anu R K a0 a1 H
theorem ai9(R:gd)(hR:oB R):aw Tryd.prog 62 (ao [.a,.a] (ahk R)):=rk λK a0 a1 H h=>aa8 hR (aa7 hR NL) a0 a1 H h
def jB:gd:=()
def f62:AV→AV→AH→KF→Prop:=ahk jB
theorem aa9:aw Tryd.prog 62 (ao [.a,.a] f62):=ai9 jB af.nil
abbrev ui:Type:=Unit
def anv(R:ui):List (Nat×cY):=[]
abbrev ahl(R:ui):Prop:=af Tryd.prog (anv R)
def EE(R:ui)(K:KF)(a0:AV)(H:AH):Prop:=wX true a0 λv1=>bY v1 λz2=>bI z2 (K (.ret .ab) H) (aT (aE H) 0 1 [] λv3 H4=>cO 1 16 v3 a0 H4 λv5 H6=>K (.ret v5) H6)
theorem aba{R:ui}(hR:ahl R){K:KF}(a0:AV)(H:AH)(h:EE R K a0 H):dQ 83 K [] (bz (dy 83) [a0]) [] H:=pk hR .nil h
def anw(R:ui)(K:KF):Ta:=EE R K
def ahm(R:ui):AV→AH→KF→Prop:=λa0 H K=>anw R K a0 H
theorem aja(R:ui)(hR:ahl R):aw Tryd.prog 83 (ao [.a] (ahm R)):=rk λK a0 H h=>aba hR a0 H h
def MH:ui:=()
def f83:AV→AH→KF→Prop:=ahm MH
theorem anx:aw Tryd.prog 83 (ao [.a] f83):=aja MH af.nil
abbrev uj:Type:=Unit
def anz(R:uj):List (Nat×cY):=[]
abbrev ahn(R:uj):Prop:=af Tryd.prog (anz R)
def abb(R:uj)(K:KF)(H:AH):Prop:=K (.ret (.aP [])) H
theorem abc{R:uj}(hR:ahn R){K:KF}(H:AH)(h:abb R K H):dQ 65 K [] (bz (dy 65) []) [] H:=pk hR .nil h
def anA(R:uj)(K:KF):T_:=abb R K
def aho(R:uj):AH→KF→Prop:=fun  H K=>anA R K  H
theorem ajb(R:uj)(hR:ahn R):aw Tryd.prog 65 (ao [] (aho R)):=rk λK  H h=>abc hR  H h
def abd:uj:=()
def f65:AH→KF→Prop:=aho abd
theorem abe:aw Tryd.prog 65 (ao [] f65):=ajb abd af.nil
abbrev uo:Type:=Unit
def anB(R:uo):List (Nat×cY):=[]
abbrev ahp(R:uo):Prop:=af Tryd.prog (anB R)
def abf(R:uo)(K:KF)(H:AH):Prop:=K (.ret (.aP [])) H
theorem abg{R:uo}(hR:ahp R){K:KF}(H:AH)(h:abf R K H):dQ 67 K [] (bz (dy 67) []) [] H:=pk hR .nil h
def anC(R:uo)(K:KF):T_:=abf R K
def ahq(R:uo):AH→KF→Prop:=fun  H K=>anC R K  H
theorem ajc(R:uo)(hR:ahp R):aw Tryd.prog 67 (ao [] (ahq R)):=rk λK  H h=>abg hR  H h
def abh:uo:=()
def f67:AH→KF→Prop:=ahq abh
theorem abi:aw Tryd.prog 67 (ao [] f67):=ajc abh af.nil
abbrev uq:Type:=Unit
def anD(R:uq):List (Nat×cY):=[]
abbrev ahr(R:uq):Prop:=af Tryd.prog (anD R)
def abj(R:uq)(K:KF)(H:AH):Prop:=K (.ret (.aP [])) H
theorem abk{R:uq}(hR:ahr R){K:KF}(H:AH)(h:abj R K H):dQ 79 K [] (bz (dy 79) []) [] H:=pk hR .nil h
def anE(R:uq)(K:KF):T_:=abj R K
def ahs(R:uq):AH→KF→Prop:=fun  H K=>anE R K  H
theorem ajd(R:uq)(hR:ahr R):aw Tryd.prog 79 (ao [] (ahs R)):=rk λK  H h=>abk hR  H h
def abl:uq:=()
def f79:AH→KF→Prop:=ahs abl
theorem abm:aw Tryd.prog 79 (ao [] f79):=ajd abl af.nil
abbrev ur:Type:=Unit
def anF(R:ur):List (Nat×cY):=[]
abbrev aht(R:ur):Prop:=af Tryd.prog (anF R)
def abn(R:ur)(K:KF)(H:AH):Prop:=K (.ret (.aP [])) H
theorem abo{R:ur}(hR:aht R){K:KF}(H:AH)(h:abn R K H):dQ 84 K [] (bz (dy 84) []) [] H:=pk hR .nil h
def anG(R:ur)(K:KF):T_:=abn R K
def ahu(R:ur):AH→KF→Prop:=fun  H K=>anG R K  H
theorem aje(R:ur)(hR:aht R):aw Tryd.prog 84 (ao [] (ahu R)):=rk λK  H h=>abo hR  H h
def abp:ur:=()
def f84:AH→KF→Prop:=ahu abp
theorem abq:aw Tryd.prog 84 (ao [] f84):=aje abp af.nil
abbrev iU:Type:=(AV→AV→AH→KF→Prop)×(AH→KF→Prop)×(AV→AH→KF→Prop)×(AV→AV→AH→KF→Prop)×(AV→AV→AH→KF→Prop)×(AH→KF→Prop)×(AH→KF→Prop)×(AV→AV→AH→KF→Prop)×(AH→KF→Prop)×(AH→KF→Prop)
def jC(R:iU):List (Nat×cY):=[(19,ao [.a,.a] R.1),(21,ao [] R.2.1),(44,ao [.a] R.2.2.1),(45,ao [.a,.a] R.2.2.2.1),(64,ao [.a,.a] R.2.2.2.2.1),(65,ao [] R.2.2.2.2.2.1),(67,ao [] R.2.2.2.2.2.2.1),(78,ao [.a,.a] R.2.2.2.2.2.2.2.1),(79,ao [] R.2.2.2.2.2.2.2.2.1),(84,ao [] R.2.2.2.2.2.2.2.2.2)]
abbrev xz(R:iU):Prop:=af Tryd.prog (jC R)
abbrev MI(K:KF)(F:ax):Prop:=aR 20 K [1,1,1] 38 [2,6,7] [.a,.a,.i 0] F
abbrev s0(K:KF)(F:dw):Prop:=aR 20 K [0,1,0,1,1] 38 [0,2,6,7,17,18,19] [.a,.a,.a,.i 0,.a,.i 0,.i 0] F
def EF(R:iU)(K:KF)(a2 a6:AV)(a7:Int)(H:AH):Prop:=ve a2 λg4 x5 y6=>bT (fX Tryd.prog g4) (jG (jC R) g4 (x5++([]++y6)) H λo1 H2=>cR K o1 H2 λv3=>au a6 (ag 0 a6 λv7=>ad v7 H2 λv8=>fx 1 v8 none (some (.int 0 a7)) none λv9=>au a6 (ag 0 a6 λv10=>ah 1 v10 v9 H2 λiQ=>K (.ret (.aP [])) iQ)))
theorem abr{R:iU}(hR:xz R){K:KF}:MI K (EF R K):=λa2 a6 a7 H h=>pk hR .nil h
def abt(R:iU)(K:KF):ax:=EF R K
theorem abu{R:iU}(hR:xz R){K:KF}:MI K (abt R K):=abr hR
def EG(R:iU)(K:KF)(x2:dw)(x1:ax)(a0 a2 a6:AV)(a7:Int)(a17:AV)(Eu yO:Int)(H:AH):Prop:=bI (cx yO Eu) (bb 5 a17 (.int 0 yO) λv1=>aQ 5 v1 H λv2=>eI H (hN (aE H) [(.int 0 (.ofNat 0)),(.int 0 (.ofNat 0)),.ab,.ab,.ab] λv3 H4=>ah 5 v3 v2 H4 λH5=>aQ 5 v3 H5 λv6=>R.2.2.2.1 a0 v6 H5 λo7 H8=>cR K o7 H8 λv9=>aC 0 (Int.add yO (.ofNat 1)) λz10=>x2 a0 a2 a6 a7 a17 Eu z10 H8)) (x1 a2 a6 a7 H)
theorem abv{R:iU}(hR:xz R){K:KF}{x2:dw}{x1:ax}(h2:s0 K x2)(h1:MI K x1):s0 K (EG R K x2 x1):=λa0 a2 a6 a7 a17 Eu yO H h=>pk hR (cc h2 (cc h1 .nil)) h
def abw(R:iU)(K:KF)(i2:dw):dw:=EG R K i2 (abt R K)
theorem abx{R:iU}(hR:xz R){K:KF}{i2:dw}(g2:s0 K i2):s0 K (abw R K i2):=abv hR g2 (abu hR)
def wh(R:iU)(K:KF)(n:Nat):dw:=Nat.rec (motive:=λ_=>dw) (λ_ _ _ _ _ _ _ _=>False) (λ_ i=>abw R K i) n
theorem aby{R:iU}(hR:xz R){K:KF}(n:Nat):s0 K (wh R K n):=Nat.rec (motive:=λn=>s0 K (wh R K n)) (λa0 a2 a6 a7 a17 Eu yO H h=>h.elim) (λn ih=>abx hR ih) n
def EH(R:iU)(K:KF)(x2:dw)(a0 a1 a2:AV)(H:AH):Prop:=R.2.2.1 a0 H λo1 H2=>cR K o1 H2 λv3=>au v3 (ag 0 v3 λv4=>ad v4 H2 λv5=>bO v5 λv6=>cI 0 v6 λz7=>bO a1 λv8=>cI 0 v8 λz9=>x2 a0 a2 v3 z7 a1 z9 (.ofNat 0) H2)
theorem abz{R:iU}(hR:xz R){K:KF}{x2:dw}(h2:s0 K x2)(a0 a1 a2:AV)(H:AH)(h:EH R K x2 a0 a1 a2 H):dQ 20 K [] (bz (dy 20) [a0,a1,a2]) [] H:=pk hR (cc h2 .nil) h
def anH(R:iU)(K:KF):gy:=EH R K (wh R K NL)
def Sc(R:iU):AV→AV→AV→AH→KF→Prop:=λa0 a1 a2 H K=>anH R K a0 a1 a2 H
theorem ajf(R:iU)(hR:xz R):aw Tryd.prog 20 (ao [.a,.a,.a] (Sc R)):=rk λK a0 a1 a2 H h=>abz hR (aby hR NL) a0 a1 a2 H h
abbrev cW:Type:=(AV→AV→AV→AH→KF→Prop)×(AV→AH→KF→Prop)×(AV→AV→AH→KF→Prop)×(AV→AV→AH→KF→Prop)×(AV→AV→AV→AH→KF→Prop)×(AV→AV→AH→KF→Prop)
def anI(R:cW):List (Nat×cY):=[(20,ao [.a,.a,.a] R.1),(44,ao [.a] R.2.1),(61,ao [.a,.a] R.2.2.1),(62,ao [.a,.a] R.2.2.2.1),(63,ao [.a,.a,.a] R.2.2.2.2.1),(66,ao [.a,.a] R.2.2.2.2.2)]
abbrev iw(R:cW):Prop:=af Tryd.prog (anI R)
abbrev MJ(K:KF)(F:gy):Prop:=aR 45 K [1,1,1] 147 [2,3,4] [.a,.a,.a] F
abbrev MK(K:KF)(F:IC):Prop:=aR 45 K [1,0,1,0,1,1] 147 [2,3,4,13] [.a,.a,.a,.b] F
abbrev ML(K:KF)(F:cN):Prop:=aR 45 K [1,0,1,1,1,0,1,1,1,1] 147 [2,3] [.a,.a] F
abbrev MM(K:KF)(F:cN):Prop:=aR 45 K [1,0,1,1,1,1,1,0,1,1,1,1] 147 [2,3] [.a,.a] F
abbrev MN(K:KF)(F:aJ):Prop:=aR 45 K [1,0,0,1,1,1,1,1,0,1,1,1,1] 147 [2,3,89,90,91] [.a,.a,.a,.i 0,.i 0] F
abbrev q8(K:KF)(F:aJ):Prop:=aR 45 K [0,1,0,0,1,1,1,1,1,0,1,1,1,1] 147 [2,3,89,90,91] [.a,.a,.a,.i 0,.i 0] F
abbrev MO(K:KF)(F:Ex):Prop:=aR 45 K [1,1,1,1,1,1,1,1,1,0,1,1,1,1] 147 [2,3,4,33,120] [.a,.a,.a,.i 0,.b] F
abbrev MP(K:KF)(F:aJ):Prop:=aR 45 K [1,1,1,0,0,1,0,0,1,1,1,1,1,0,1,1,1,1] 147 [2,3,89,90,91] [.a,.a,.a,.i 0,.i 0] F
abbrev MQ(K:KF)(F:iM):Prop:=aR 45 K [0,1,1,0,0,1,1,0,0,1,0,0,1,1,1,1,1,0,1,1,1,1] 147 [2,3,6,89,90,91] [.a,.a,.a,.a,.i 0,.i 0] F
abbrev qt(K:KF)(F:aF):Prop:=aR 45 K [0,1,1,1,1,1,1,1,1,1,1,1,1,1,1,1,1,0,1,1,1,1] 147 [2,39,40,41] [.a,.a,.i 0,.i 0] F
def yP(R:cW)(K:KF)(a2 a3 a6 a89:AV)(uu a91:Int)(H:AH):Prop:=ag 1 a6 λv1=>ad v1 H λv2=>cI 0 v2 λz3=>sd (.iface 56 (.agg [(.int 0 (.ofNat 14)),(.int 0 z3)])) (K (.cM (.iface 56 (.agg [(.int 0 (.ofNat 14)),(.int 0 z3)]))) H)
theorem abA{R:cW}(hR:iw R){K:KF}:MQ K (yP R K):=λa2 a3 a6 a89 uu a91 H h=>pk hR .nil h
def abB(R:cW)(K:KF):iM:=yP R K
theorem abC{R:cW}(hR:iw R){K:KF}:MQ K (abB R K):=abA hR
def yQ(R:cW)(K:KF)(a2 a3:AV)(H:AH):Prop:=ad a2 H λv1=>ag 3 a3 λv2=>ad v2 H λv3=>R.2.2.1 v1 v3 H λo4 H5=>cR K o4 H5 λv6=>K (.ret (.aP [])) H5
theorem abD{R:cW}(hR:iw R){K:KF}:MM K (yQ R K):=λa2 a3 H h=>pk hR .nil h
def abE(R:cW)(K:KF):cN:=yQ R K
theorem abF{R:cW}(hR:iw R){K:KF}:MM K (abE R K):=abD hR
def wi(R:cW)(K:KF)(x6:aJ)(a2 a3 a89:AV)(uu a91:Int)(H:AH):Prop:=aC 0 (Int.add a91 (.ofNat 1)) λz1=>x6 a2 a3 a89 uu z1 H
theorem abG{R:cW}(hR:iw R){K:KF}{x6:aJ}(h6:q8 K x6):MP K (wi R K x6):=λa2 a3 a89 uu a91 H h=>pk hR (cc h6 .nil) h
def abH(R:cW)(K:KF)(i6:aJ):aJ:=wi R K i6
theorem abI{R:cW}(hR:iw R){K:KF}{i6:aJ}(g6:q8 K i6):MP K (abH R K i6):=abG hR g6
def wj(R:cW)(K:KF)(x9:iM)(x4:cN)(x8:aJ)(a2 a3 a89:AV)(uu a91:Int)(H:AH):Prop:=bI (cx a91 uu) (bb 7 a89 (.int 0 a91) λv1=>aQ 7 v1 H λv2=>eI H (eX Tryd.prog (aE H) 41 λv3 H4=>ah 7 v3 v2 H4 λH5=>ag 0 v3 λv6=>ad v6 H5 λv7=>cI 0 v7 λz8=>bI (bA z8 (.ofNat 6)) (ad a2 H5 λv9=>ag 3 v3 λv10=>ad v10 H5 λv11=>R.2.2.2.1 v9 v11 H5 λqS fH=>cR K qS fH λv14=>bY v14 λmK=>bI (!mK) (x9 a2 a3 v3 a89 uu a91 fH) (x8 a2 a3 a89 uu a91 fH)) (x8 a2 a3 a89 uu a91 H5))) (x4 a2 a3 H)
theorem abJ{R:cW}(hR:iw R){K:KF}{x9:iM}{x4:cN}{x8:aJ}(h9:MQ K x9)(h4:MM K x4)(h8:MP K x8):q8 K (wj R K x9 x4 x8):=λa2 a3 a89 uu a91 H h=>pk hR (cc h9 (cc h4 (cc h8 .nil))) h
def abK(R:cW)(K:KF)(i6:aJ):aJ:=wj R K (abB R K) (abE R K) (abH R K i6)
theorem abL{R:cW}(hR:iw R){K:KF}{i6:aJ}(g6:q8 K i6):q8 K (abK R K i6):=abJ hR (abC hR) (abF hR) (abI hR g6)
def pG(R:cW)(K:KF)(n:Nat):aJ:=Nat.rec (motive:=λ_=>aJ) (λ_ _ _ _ _ _=>False) (λ_ i=>abK R K i) n
theorem abM{R:cW}(hR:iw R){K:KF}(n:Nat):q8 K (pG R K n):=Nat.rec (motive:=λn=>q8 K (pG R K n)) (λa2 a3 a89 uu a91 H h=>h.elim) (λn ih=>abL hR ih) n
def wm(R:cW)(K:KF)(x6:aJ)(a2 a3 a89:AV)(uu a91:Int)(H:AH):Prop:=x6 a2 a3 a89 uu a91 H
theorem abN{R:cW}(hR:iw R){K:KF}{x6:aJ}(h6:q8 K x6):MN K (wm R K x6):=λa2 a3 a89 uu a91 H h=>pk hR (cc h6 .nil) h
def abO(R:cW)(K:KF):aJ:=wm R K (pG R K NL)
theorem abP{R:cW}(hR:iw R){K:KF}:MN K (abO R K):=abN hR (abM hR NL)
def wo(R:cW)(K:KF)(a2 a3:AV)(H:AH):Prop:=ad a2 H λv1=>ag 3 a3 λv2=>ad v2 H λv3=>R.2.2.1 v1 v3 H λo4 H5=>cR K o4 H5 λv6=>K (.ret (.aP [])) H5
theorem abQ{R:cW}(hR:iw R){K:KF}:ML K (wo R K):=λa2 a3 H h=>pk hR .nil h
def abR(R:cW)(K:KF):cN:=wo R K
theorem abS{R:cW}(hR:iw R){K:KF}:ML K (abR R K):=abQ hR
def zQ(R:cW)(K:KF)(x10:aF)(a2 a39:AV)(a40 a41:Int)(H:AH):Prop:=bI (cx a41 a40) (bb 1 a39 (.int 0 a41) λv1=>ad v1 H λv2=>ad a2 H λv3=>R.1 v3 v2 (.func 67 [] []) H λo4 H5=>cR K o4 H5 λv6=>aC 0 (Int.add a41 (.ofNat 1)) λz7=>x10 a2 a39 a40 z7 H5) (K (.ret (.aP [])) H)
theorem Sd{R:cW}(hR:iw R){K:KF}{x10:aF}(h10:qt K x10):qt K (zQ R K x10):=λa2 a39 a40 a41 H h=>pk hR (cc h10 .nil) h
def Pz(R:cW)(K:KF)(i10:aF):aF:=zQ R K i10
theorem Se{R:cW}(hR:iw R){K:KF}{i10:aF}(g10:qt K i10):qt K (Pz R K i10):=Sd hR g10
def nM(R:cW)(K:KF)(n:Nat):aF:=Nat.rec (motive:=λ_=>aF) (λ_ _ _ _ _=>False) (λ_ i=>Pz R K i) n
theorem Sf{R:cW}(hR:iw R){K:KF}(n:Nat):qt K (nM R K n):=Nat.rec (motive:=λn=>qt K (nM R K n)) (λa2 a39 a40 a41 H h=>h.elim) (λn ih=>Se hR ih) n
def q9(R:cW)(K:KF)(x10:aF)(a2 a3 a4:AV)(a33:Int)(anJ:Bool)(H:AH):Prop:=bI anJ (ad a2 H λv1=>ag 3 a3 λv2=>ad v2 H λv3=>R.2.2.1 v1 v3 H λo4 H5=>cR K o4 H5 λv6=>ad a2 H5 λv7=>aQ 5 a3 H5 λv8=>R.2.2.2.2.1 v7 v8 (.func 65 [] []) H5 λo9 cn=>cR K o9 cn λv11=>K (.ret (.aP [])) cn) (bI (bA a33 (.ofNat 4)) (ad a2 H λv12=>aQ 5 a3 H λv13=>R.2.2.2.2.2 v12 v13 H λyF dZ=>cR K yF dZ λv16=>K (.ret (.aP [])) dZ) (bI (bA a33 (.ofNat 9)) (au a4 (ag 1 a4 λv17=>ad v17 H λv18=>cI 0 v18 λvD=>bI (bA vD (.ofNat 0)) (ag 1 a3 λv20=>ad v20 H λv21=>cI 0 v21 λz22=>sd (.iface 56 (.agg [(.int 0 (.ofNat 14)),(.int 0 z22)])) (K (.cM (.iface 56 (.agg [(.int 0 (.ofNat 14)),(.int 0 z22)]))) H)) (K (.ret (.aP [])) H))) (ad a2 H λv23=>ag 3 a3 λv24=>ad v24 H λv25=>R.2.2.1 v23 v25 H λo26 sH=>cR K o26 sH λv28=>ag 4 a3 λv29=>ad v29 sH λv30=>bO v30 λv31=>cI 0 v31 λz32=>x10 a2 v30 z32 (.ofNat 0) sH)))
theorem abT{R:cW}(hR:iw R){K:KF}{x10:aF}(h10:qt K x10):MO K (q9 R K x10):=λa2 a3 a4 a33 anJ H h=>pk hR (cc h10 .nil) h
def abU(R:cW)(K:KF):Ex:=q9 R K (nM R K NL)
theorem abV{R:cW}(hR:iw R){K:KF}:MO K (abU R K):=abT hR (Sf hR NL)
def wq(R:cW)(K:KF)(x5:aJ)(x3:cN)(x7:Ex)(a2 a3 a4:AV)(H:AH):Prop:=ag 0 a3 λv1=>ad v1 H λv2=>cI 0 v2 λz3=>bI (bA z3 (.ofNat 1)) (ad a2 H λv4=>ag 3 a3 λv5=>ad v5 H λv6=>R.2.2.1 v4 v6 H λo7 H8=>cR K o7 H8 λv9=>au a4 (ag 0 a4 λv10=>ad v10 H8 λv11=>ag 2 a3 λv12=>ad v12 H8 λv13=>cO 1 16 v11 v13 H8 λv14 dZ=>au a4 (ag 0 a4 λv16=>ah 1 v16 v14 dZ λjO=>K (.ret (.aP [])) jO))) (bI (bA z3 (.ofNat 12)) (au a4 (ag 0 a4 λv18=>ad v18 H λv19=>ag 2 a3 λv20=>ad v20 H λv21=>cO 1 16 v19 v21 H λv22 qT=>au a4 (ag 0 a4 λv24=>ah 1 v24 v22 qT λrI=>x3 a2 a3 rI))) (bI (bA z3 (.ofNat 2)) (ag 3 a3 λv26=>ad v26 H λv27=>ag 3 a3 λv28=>ad v28 H λv29=>bO v29 λv30=>cI 0 v30 λz31=>tD zn [(.int 0 z31)] (.int 0 (.ofNat 1)) λv32=>cI 0 v32 λz33=>fx 7 v27 none (some (.int 0 z33)) none λv34=>bO v34 λv35=>cI 0 v35 λz36=>x5 a2 a3 v34 z36 (.ofNat 0) H) (bI (bA z3 (.ofNat 8)) (ad a2 H λv37=>aQ 5 a3 H λv38=>R.2.2.2.2.1 v37 v38 (.func 64 [] [a2,a3]) H λo39 H40=>cR K o39 H40 λv41=>K (.ret (.aP [])) H40) (bI (bA z3 (.ofNat 5)) (x7 a2 a3 a4 z3 (bA z3 (.ofNat 5)) H) (bI (bA z3 (.ofNat 6)) (x7 a2 a3 a4 z3 (bA z3 (.ofNat 6)) H) (x7 a2 a3 a4 z3 (bA z3 (.ofNat 7)) H))))))
theorem abW{R:cW}(hR:iw R){K:KF}{x5:aJ}{x3:cN}{x7:Ex}(h5:MN K x5)(h3:ML K x3)(h7:MO K x7):MJ K (wq R K x5 x3 x7):=λa2 a3 a4 H h=>pk hR (cc h5 (cc h3 (cc h7 .nil))) h
def abX(R:cW)(K:KF):gy:=wq R K (abO R K) (abR R K) (abU R K)
theorem abY{R:cW}(hR:iw R){K:KF}:MJ K (abX R K):=abW hR (abP hR) (abS hR) (abV hR)
def wu(R:cW)(K:KF)(x1:gy)(a2 a3 a4:AV)(mL:Bool)(H:AH):Prop:=bI mL (au a4 (ag 0 a4 λv1=>ad v1 H λv2=>bO v2 λv3=>cI 0 v3 λz4=>ag 2 a3 λv5=>ad v5 H λv6=>bO v6 λv7=>cI 0 v7 λz8=>aC 0 (Int.add z4 z8) λz9=>bI (cx (.ofNat 150) z9) (ag 1 a3 λv10=>ad v10 H λv11=>cI 0 v11 λz12=>sd (.iface 56 (.agg [(.int 0 (.ofNat 8)),(.int 0 z12)])) (K (.cM (.iface 56 (.agg [(.int 0 (.ofNat 8)),(.int 0 z12)]))) H)) (x1 a2 a3 a4 H))) (x1 a2 a3 a4 H)
theorem abZ{R:cW}(hR:iw R){K:KF}{x1:gy}(h1:MJ K x1):MK K (wu R K x1):=λa2 a3 a4 mL H h=>pk hR (cc h1 .nil) h
def ab0(R:cW)(K:KF):IC:=wu R K (abX R K)
theorem ab1{R:cW}(hR:iw R){K:KF}:MK K (ab0 R K):=abZ hR (abY hR)
def EI(R:cW)(K:KF)(x2:IC)(a0 a1:AV)(H:AH):Prop:=mB (aE H) a0 λv1 H2=>mB (aE H2) a1 λv3 H4=>ad v1 H4 λv5=>R.2.1 v5 H4 λo6 H7=>cR K o6 H7 λv8=>ag 0 v3 λv9=>ad v9 H7 λv10=>cI 0 v10 λz11=>bI (bA z11 (.ofNat 1)) (x2 v1 v3 v8 (bA z11 (.ofNat 1)) H7) (bI (bA z11 (.ofNat 12)) (x2 v1 v3 v8 (bA z11 (.ofNat 12)) H7) (bI (bA z11 (.ofNat 6)) (x2 v1 v3 v8 (bA z11 (.ofNat 6)) H7) (x2 v1 v3 v8 (bA z11 (.ofNat 7)) H7)))
theorem ab2{R:cW}(hR:iw R){K:KF}{x2:IC}(h2:MK K x2)(a0 a1:AV)(H:AH)(h:EI R K x2 a0 a1 H):dQ 45 K [] (bz (dy 45) [a0,a1]) [] H:=pk hR (cc h2 .nil) h
def anK(R:cW)(K:KF):cN:=EI R K (ab0 R K)
def Sg(R:cW):AV→AV→AH→KF→Prop:=λa0 a1 H K=>anK R K a0 a1 H
theorem ajg(R:cW)(hR:iw R):aw Tryd.prog 45 (ao [.a,.a] (Sg R)):=rk λK a0 a1 H h=>ab2 hR (ab1 hR) a0 a1 H h
abbrev mP:Type:=(AV→AV→AH→KF→Prop)
def anL(R:mP):List (Nat×cY):=[(77,ao [.a,.a] R)]
abbrev EJ(R:mP):Prop:=af Tryd.prog (anL R)
abbrev s3(K:KF)(F:aF):Prop:=aR 61 K [0,1] 16 [0,6,7,8] [.a,.a,.i 0,.i 0] F
def EK(R:mP)(K:KF)(x1:aF)(a0 a6:AV)(a7 a8:Int)(H:AH):Prop:=bI (cx a8 a7) (bb 7 a6 (.int 0 a8) λv1=>aQ 7 v1 H λv2=>eI H (eX Tryd.prog (aE H) 41 λv3 H4=>ah 7 v3 v2 H4 λH5=>aQ 7 v3 H5 λv6=>R a0 v6 H5 λo7 H8=>cR K o7 H8 λv9=>aC 0 (Int.add a8 (.ofNat 1)) λz10=>x1 a0 a6 a7 z10 H8)) (K (.ret (.aP [])) H)
theorem ab3{R:mP}(hR:EJ R){K:KF}{x1:aF}(h1:s3 K x1):s3 K (EK R K x1):=λa0 a6 a7 a8 H h=>pk hR (cc h1 .nil) h
def ab4(R:mP)(K:KF)(i1:aF):aF:=EK R K i1
theorem ab5{R:mP}(hR:EJ R){K:KF}{i1:aF}(g1:s3 K i1):s3 K (ab4 R K i1):=ab3 hR g1
def wv(R:mP)(K:KF)(n:Nat):aF:=Nat.rec (motive:=λ_=>aF) (λ_ _ _ _ _=>False) (λ_ i=>ab4 R K i) n
theorem ab6{R:mP}(hR:EJ R){K:KF}(n:Nat):s3 K (wv R K n):=Nat.rec (motive:=λn=>s3 K (wv R K n)) (λa0 a6 a7 a8 H h=>h.elim) (λn ih=>ab5 hR ih) n
def EL(R:mP)(K:KF)(x1:aF)(a0 a1:AV)(H:AH):Prop:=bO a1 λv1=>cI 0 v1 λz2=>x1 a0 a1 z2 (.ofNat 0) H
theorem ab7{R:mP}(hR:EJ R){K:KF}{x1:aF}(h1:s3 K x1)(a0 a1:AV)(H:AH)(h:EL R K x1 a0 a1 H):dQ 61 K [] (bz (dy 61) [a0,a1]) [] H:=pk hR (cc h1 .nil) h
def anM(R:mP)(K:KF):cN:=EL R K (wv R K NL)
def Sh(R:mP):AV→AV→AH→KF→Prop:=λa0 a1 H K=>anM R K a0 a1 H
theorem ajh(R:mP)(hR:EJ R):aw Tryd.prog 61 (ao [.a,.a] (Sh R)):=rk λK a0 a1 H h=>ab7 hR (ab6 hR NL) a0 a1 H h
abbrev eL:Type:=(AV→AV→AV→AH→KF→Prop)×(AV→AH→KF→Prop)
def anN(R:eL):List (Nat×cY):=[(20,ao [.a,.a,.a] R.1),(44,ao [.a] R.2)]
abbrev kR(R:eL):Prop:=af Tryd.prog (anN R)
abbrev MS(K:KF)(F:ml):Prop:=aR 63 K [1,1,1] 70 [0,4,5,6,7] [.a,.a,.a,.a,.i 0] F
abbrev EM(K:KF)(F:ml):Prop:=aR 63 K [1,1,1,1] 70 [0,4,5,6,7] [.a,.a,.a,.a,.i 0] F
abbrev MT(K:KF)(F:dU):Prop:=aR 63 K [1,1,1,1,1] 70 [6,7] [.a,.i 0] F
abbrev MU(K:KF)(F:ml):Prop:=aR 63 K [0,1,0,1,1,1] 70 [0,4,5,6,7] [.a,.a,.a,.a,.i 0] F
abbrev pH(K:KF)(F:dw):Prop:=aR 63 K [0,1,0,1,1,1,1] 70 [0,5,6,7,36,37,38] [.a,.a,.a,.i 0,.a,.i 0,.i 0] F
abbrev MV(K:KF)(F:dw):Prop:=aR 63 K [1,1,1,0,0,1,0,1,1,1,1] 70 [0,5,6,7,36,37,38] [.a,.a,.a,.i 0,.a,.i 0,.i 0] F
abbrev MW(K:KF)(F:uf):Prop:=aR 63 K [1,1,0,0,1,1,0,0,1,0,1,1,1,1] 70 [0,5,6,7,9,36,37,38] [.a,.a,.a,.i 0,.a,.a,.i 0,.i 0] F
def yR(R:eL)(K:KF)(x5:dw)(a0 a5 a6:AV)(a7:Int)(a36:AV)(a37 a38:Int)(H:AH):Prop:=aC 0 (Int.add a38 (.ofNat 1)) λz1=>x5 a0 a5 a6 a7 a36 a37 z1 H
theorem ab8{R:eL}(hR:kR R){K:KF}{x5:dw}(h5:pH K x5):MV K (yR R K x5):=λa0 a5 a6 a7 a36 a37 a38 H h=>pk hR (cc h5 .nil) h
def ab9(R:eL)(K:KF)(i5:dw):dw:=yR R K i5
theorem aca{R:eL}(hR:kR R){K:KF}{i5:dw}(g5:pH K i5):MV K (ab9 R K i5):=ab8 hR g5
def yS(R:eL)(K:KF)(x6:dw)(a0 a5 a6:AV)(a7:Int)(a9 a36:AV)(a37 a38:Int)(H:AH):Prop:=R.1 a0 a9 (.func 78 [] [a6,a5]) H λo1 H2=>cR K o1 H2 λv3=>ad a6 H2 λv4=>au v4 (ag 1 v4 λv5=>ad v5 H2 λv6=>cI 0 v6 λz7=>aC 0 (Int.sub z7 (.ofNat 1)) λz8=>au v4 (ag 1 v4 λv9=>ah 1 v9 (.int 0 z8) H2 λcn=>x6 a0 a5 a6 a7 a36 a37 a38 cn))
theorem acb{R:eL}(hR:kR R){K:KF}{x6:dw}(h6:MV K x6):MW K (yS R K x6):=λa0 a5 a6 a7 a9 a36 a37 a38 H h=>pk hR (cc h6 .nil) h
def acd(R:eL)(K:KF)(i5:dw):uf:=yS R K (ab9 R K i5)
theorem ace{R:eL}(hR:kR R){K:KF}{i5:dw}(g5:pH K i5):MW K (acd R K i5):=acb hR (aca hR g5)
def EN(R:eL)(K:KF)(a6:AV)(a7:Int)(H:AH):Prop:=ad a6 H λv1=>ad a6 H λv2=>au v2 (ag 0 v2 λv3=>ad v3 H λv4=>fx 1 v4 none (some (.int 0 a7)) none λv5=>au v1 (ag 0 v1 λv6=>ah 1 v6 v5 H λH7=>K (.ret (.aP [])) H7))
theorem acf{R:eL}(hR:kR R){K:KF}:MT K (EN R K):=λa6 a7 H h=>pk hR .nil h
def acg(R:eL)(K:KF):dU:=EN R K
theorem ach{R:eL}(hR:kR R){K:KF}:MT K (acg R K):=acf hR
def EP(R:eL)(K:KF)(x7:uf)(x3:dU)(a0 a5 a6:AV)(a7:Int)(a36:AV)(a37 a38:Int)(H:AH):Prop:=bI (cx a38 a37) (bb 1 a36 (.int 0 a38) λv1=>ad v1 H λv2=>ad a6 H λv3=>au v3 (ag 1 v3 λv4=>ad v4 H λv5=>cI 0 v5 λz6=>aC 0 (Int.add z6 (.ofNat 1)) λz7=>au v3 (ag 1 v3 λv8=>ah 1 v8 (.int 0 z7) H λH9=>x7 a0 a5 a6 a7 v2 a36 a37 a38 H9))) (x3 a6 a7 H)
theorem aci{R:eL}(hR:kR R){K:KF}{x7:uf}{x3:dU}(h7:MW K x7)(h3:MT K x3):pH K (EP R K x7 x3):=λa0 a5 a6 a7 a36 a37 a38 H h=>pk hR (cc h7 (cc h3 .nil)) h
def acj(R:eL)(K:KF)(i5:dw):dw:=EP R K (acd R K i5) (acg R K)
theorem ack{R:eL}(hR:kR R){K:KF}{i5:dw}(g5:pH K i5):pH K (acj R K i5):=aci hR (ace hR g5) (ach hR)
def pI(R:eL)(K:KF)(n:Nat):dw:=Nat.rec (motive:=λ_=>dw) (λ_ _ _ _ _ _ _ _=>False) (λ_ i=>acj R K i) n
theorem acm{R:eL}(hR:kR R){K:KF}(n:Nat):pH K (pI R K n):=Nat.rec (motive:=λn=>pH K (pI R K n)) (λa0 a5 a6 a7 a36 a37 a38 H h=>h.elim) (λn ih=>ack hR ih) n
def wx(R:eL)(K:KF)(x5:dw)(a0 a4 a5 a6:AV)(a7:Int)(H:AH):Prop:=ag 4 a4 λv1=>ad v1 H λv2=>bO v2 λv3=>cI 0 v3 λz4=>x5 a0 a5 a6 a7 v2 z4 (.ofNat 0) H
theorem acn{R:eL}(hR:kR R){K:KF}{x5:dw}(h5:pH K x5):EM K (wx R K x5):=λa0 a4 a5 a6 a7 H h=>pk hR (cc h5 .nil) h
def MX(R:eL)(K:KF):ml:=wx R K (pI R K NL)
theorem HQ{R:eL}(hR:kR R){K:KF}:EM K (MX R K):=acn hR (acm hR NL)
def ES(R:eL)(K:KF)(x2:ml)(a0 a4 a5 a6:AV)(a7:Int)(H:AH):Prop:=ad a6 H λv1=>ad a6 H λv2=>au v2 (ag 0 v2 λv3=>ad v3 H λv4=>ag 2 a4 λv5=>ad v5 H λv6=>cO 1 16 v4 v6 H λv7 H8=>ad a6 H8 λv9=>bT (bu v9 v1) (au v1 (ag 0 v1 λv10=>ah 1 v10 v7 H8 λiQ=>x2 a0 a4 a5 a6 a7 iQ)))
theorem aco{R:eL}(hR:kR R){K:KF}{x2:ml}(h2:EM K x2):MU K (ES R K x2):=λa0 a4 a5 a6 a7 H h=>pk hR (cc h2 .nil) h
def acp(R:eL)(K:KF):ml:=ES R K (MX R K)
theorem acq{R:eL}(hR:kR R){K:KF}:MU K (acp R K):=aco hR (HQ hR)
def EU(R:eL)(K:KF)(x4 x2:ml)(a0 a4 a5 a6:AV)(a7:Int)(H:AH):Prop:=ag 0 a4 λv1=>ad v1 H λv2=>cI 0 v2 λz3=>bI (!(bA z3 (.ofNat 5))) (ag 0 a4 λv4=>ad v4 H λv5=>cI 0 v5 λz6=>bI (!(bA z6 (.ofNat 8))) (x4 a0 a4 a5 a6 a7 H) (x2 a0 a4 a5 a6 a7 H)) (x2 a0 a4 a5 a6 a7 H)
theorem acr{R:eL}(hR:kR R){K:KF}{x4 x2:ml}(h4:MU K x4)(h2:EM K x2):MS K (EU R K x4 x2):=λa0 a4 a5 a6 a7 H h=>pk hR (cc h4 (cc h2 .nil)) h
def acs(R:eL)(K:KF):ml:=EU R K (acp R K) (MX R K)
theorem acu{R:eL}(hR:kR R){K:KF}:MS K (acs R K):=acr hR (acq hR) (HQ hR)
def EV(R:eL)(K:KF)(x1:ml)(a0 a1 a2:AV)(H:AH):Prop:=mB (aE H) a1 λv1 H2=>mB (aE H2) a2 λv3 H4=>R.2 a0 H4 λo5 H6=>cR K o5 H6 λv7=>eI H6 (hN (aE H6) [.lA] λv8 H9=>ah 1 v8 v7 H9 λcn=>ad v8 cn λv11=>au v11 (ag 0 v11 λv12=>ad v12 cn λv13=>bO v13 λv14=>cI 0 v14 λmK=>x1 a0 v1 v3 v8 mK cn))
theorem acv{R:eL}(hR:kR R){K:KF}{x1:ml}(h1:MS K x1)(a0 a1 a2:AV)(H:AH)(h:EV R K x1 a0 a1 a2 H):dQ 63 K [] (bz (dy 63) [a0,a1,a2]) [] H:=pk hR (cc h1 .nil) h
def anO(R:eL)(K:KF):gy:=EV R K (acs R K)
def IE(R:eL):AV→AV→AV→AH→KF→Prop:=λa0 a1 a2 H K=>anO R K a0 a1 a2 H
theorem aji(R:eL)(hR:kR R):aw Tryd.prog 63 (ao [.a,.a,.a] (IE R)):=rk λK a0 a1 a2 H h=>acv hR (acu hR) a0 a1 a2 H h
abbrev rU:Type:=(AV→AV→AH→KF→Prop)
def anP(R:rU):List (Nat×cY):=[(61,ao [.a,.a] R)]
abbrev ahv(R:rU):Prop:=af Tryd.prog (anP R)
def EW(R:rU)(K:KF)(a0 a1:AV)(H:AH):Prop:=ad a0 H λv1=>ag 3 a1 λv2=>ad v2 H λv3=>R v1 v3 H λo4 H5=>cR K o4 H5 λv6=>K (.ret (.aP [])) H5
theorem acw{R:rU}(hR:ahv R){K:KF}(a0 a1:AV)(H:AH)(h:EW R K a0 a1 H):dQ 64 K [] (bz (dy 64) [a0,a1]) [] H:=pk hR .nil h
def anQ(R:rU)(K:KF):cN:=EW R K
def EX(R:rU):AV→AV→AH→KF→Prop:=λa0 a1 H K=>anQ R K a0 a1 H
theorem ajj(R:rU)(hR:ahv R):aw Tryd.prog 64 (ao [.a,.a] (EX R)):=rk λK a0 a1 H h=>acw hR a0 a1 H h
abbrev iV:Type:=(AV→AV→AV→AH→KF→Prop)×(AV→AV→AH→KF→Prop)
def anR(R:iV):List (Nat×cY):=[(20,ao [.a,.a,.a] R.1),(77,ao [.a,.a] R.2)]
abbrev rV(R:iV):Prop:=af Tryd.prog (anR R)
abbrev pJ(K:KF)(F:aJ):Prop:=aR 66 K [0,1,1] 30 [0,3,7,8,9] [.a,.a,.a,.i 0,.i 0] F
abbrev MY(K:KF)(F:aJ):Prop:=aR 66 K [1,1,1,0,0,1,1] 30 [0,3,7,8,9] [.a,.a,.a,.i 0,.i 0] F
abbrev MZ(K:KF)(F:iM):Prop:=aR 66 K [1,1,0,0,1,1,0,0,1,1] 30 [0,3,5,7,8,9] [.a,.a,.a,.a,.i 0,.i 0] F
def yT(R:iV)(K:KF)(x1:aJ)(a0 a3 a7:AV)(a8 a9:Int)(H:AH):Prop:=aC 0 (Int.add a9 (.ofNat 1)) λz1=>x1 a0 a3 a7 a8 z1 H
theorem acx{R:iV}(hR:rV R){K:KF}{x1:aJ}(h1:pJ K x1):MY K (yT R K x1):=λa0 a3 a7 a8 a9 H h=>pk hR (cc h1 .nil) h
def acy(R:iV)(K:KF)(i1:aJ):aJ:=yT R K i1
theorem acz{R:iV}(hR:rV R){K:KF}{i1:aJ}(g1:pJ K i1):MY K (acy R K i1):=acx hR g1
def yU(R:iV)(K:KF)(x2:aJ)(a0 a3 a5 a7:AV)(a8 a9:Int)(H:AH):Prop:=R.1 a0 a5 (.func 79 [] []) H λo1 H2=>cR K o1 H2 λv3=>x2 a0 a3 a7 a8 a9 H2
theorem acA{R:iV}(hR:rV R){K:KF}{x2:aJ}(h2:MY K x2):MZ K (yU R K x2):=λa0 a3 a5 a7 a8 a9 H h=>pk hR (cc h2 .nil) h
def acB(R:iV)(K:KF)(i1:aJ):iM:=yU R K (acy R K i1)
theorem acC{R:iV}(hR:rV R){K:KF}{i1:aJ}(g1:pJ K i1):MZ K (acB R K i1):=acA hR (acz hR g1)
def EY(R:iV)(K:KF)(x3:iM)(a0 a3 a7:AV)(a8 a9:Int)(H:AH):Prop:=bI (cx a9 a8) (bb 1 a7 (.int 0 a9) λv1=>ad v1 H λv2=>ag 3 a3 λv3=>ad v3 H λv4=>bO v4 λv5=>cI 0 v5 λz6=>bI (cx a9 z6) (ag 3 a3 λv7=>ad v7 H λv8=>bb 7 v8 (.int 0 a9) λv9=>aQ 7 v9 H λv10=>R.2 a0 v10 H λkM bQ=>cR K kM bQ λv13=>x3 a0 a3 v2 a7 a8 a9 bQ) (x3 a0 a3 v2 a7 a8 a9 H)) (K (.ret (.aP [])) H)
theorem acD{R:iV}(hR:rV R){K:KF}{x3:iM}(h3:MZ K x3):pJ K (EY R K x3):=λa0 a3 a7 a8 a9 H h=>pk hR (cc h3 .nil) h
def acE(R:iV)(K:KF)(i1:aJ):aJ:=EY R K (acB R K i1)
theorem acF{R:iV}(hR:rV R){K:KF}{i1:aJ}(g1:pJ K i1):pJ K (acE R K i1):=acD hR (acC hR g1)
def s4(R:iV)(K:KF)(n:Nat):aJ:=Nat.rec (motive:=λ_=>aJ) (λ_ _ _ _ _ _=>False) (λ_ i=>acE R K i) n
theorem acG{R:iV}(hR:rV R){K:KF}(n:Nat):pJ K (s4 R K n):=Nat.rec (motive:=λn=>pJ K (s4 R K n)) (λa0 a3 a7 a8 a9 H h=>h.elim) (λn ih=>acF hR ih) n
def EZ(R:iV)(K:KF)(x1:aJ)(a0 a1:AV)(H:AH):Prop:=mB (aE H) a1 λv1 H2=>ag 4 v1 λv3=>ad v3 H2 λv4=>bO v4 λv5=>cI 0 v5 λz6=>x1 a0 v1 v4 z6 (.ofNat 0) H2
theorem acH{R:iV}(hR:rV R){K:KF}{x1:aJ}(h1:pJ K x1)(a0 a1:AV)(H:AH)(h:EZ R K x1 a0 a1 H):dQ 66 K [] (bz (dy 66) [a0,a1]) [] H:=pk hR (cc h1 .nil) h
def anS(R:iV)(K:KF):cN:=EZ R K (s4 R K NL)
def Si(R:iV):AV→AV→AH→KF→Prop:=λa0 a1 H K=>anS R K a0 a1 H
theorem ajk(R:iV)(hR:rV R):aw Tryd.prog 66 (ao [.a,.a] (Si R)):=rk λK a0 a1 H h=>acH hR (acG hR NL) a0 a1 H h
abbrev dP:Type:=(AV→AH→KF→Prop)×(AV→AV→AV→AH→KF→Prop)×(AV→AV→AH→KF→Prop)×(AV→AV→AH→KF→Prop)×(AV→AH→KF→Prop)
def anT(R:dP):List (Nat×cY):=[(10,ao [.a] R.1),(20,ao [.a,.a,.a] R.2.1),(62,ao [.a,.a] R.2.2.1),(77,ao [.a,.a] R.2.2.2.1),(83,ao [.a] R.2.2.2.2)]
abbrev kg(R:dP):Prop:=af Tryd.prog (anT R)
abbrev M0(K:KF)(F:cN):Prop:=aR 77 K [1,1] 79 [0,3] [.a,.a] F
abbrev M3(K:KF)(F:cN):Prop:=aR 77 K [1,1,1] 79 [0,3] [.a,.a] F
abbrev M4(K:KF)(F:cN):Prop:=aR 77 K [0,1,0,1] 79 [0,3] [.a,.a] F
abbrev s5(K:KF)(F:aJ):Prop:=aR 77 K [0,1,0,1,1] 79 [0,3,29,30,31] [.a,.a,.a,.i 0,.i 0] F
abbrev pK(K:KF)(F:aF):Prop:=aR 77 K [0,1,1,1,1] 79 [0,40,41,42] [.a,.a,.i 0,.i 0] F
abbrev M5(K:KF)(F:aF):Prop:=aR 77 K [1,1,1,0,0,1,1,1,1] 79 [0,40,41,42] [.a,.a,.i 0,.i 0] F
abbrev M6(K:KF)(F:aJ):Prop:=aR 77 K [1,1,0,0,1,1,0,0,1,1,1,1] 79 [0,7,40,41,42] [.a,.a,.a,.i 0,.i 0] F
def E0(R:dP)(K:KF)(a0 a3:AV)(H:AH):Prop:=ag 1 a3 λv1=>ad v1 H λv2=>cI 0 v2 λz3=>sd (.iface 56 (.agg [(.int 0 (.ofNat 14)),(.int 0 z3)])) (K (.cM (.iface 56 (.agg [(.int 0 (.ofNat 14)),(.int 0 z3)]))) H)
theorem acI{R:dP}(hR:kg R){K:KF}:M4 K (E0 R K):=λa0 a3 H h=>pk hR .nil h
def acJ(R:dP)(K:KF):cN:=E0 R K
theorem acK{R:dP}(hR:kg R){K:KF}:M4 K (acJ R K):=acI hR
def wy(R:dP)(K:KF)(x5:aF)(a0 a40:AV)(a41 a42:Int)(H:AH):Prop:=aC 0 (Int.add a42 (.ofNat 1)) λz1=>x5 a0 a40 a41 z1 H
theorem acL{R:dP}(hR:kg R){K:KF}{x5:aF}(h5:pK K x5):M5 K (wy R K x5):=λa0 a40 a41 a42 H h=>pk hR (cc h5 .nil) h
def acM(R:dP)(K:KF)(i5:aF):aF:=wy R K i5
theorem acN{R:dP}(hR:kg R){K:KF}{i5:aF}(g5:pK K i5):M5 K (acM R K i5):=acL hR g5
def yV(R:dP)(K:KF)(x6:aF)(a0 a7 a40:AV)(a41 a42:Int)(H:AH):Prop:=ag 1 a7 λv1=>ad v1 H λv2=>R.2.1 a0 v2 (.func 84 [] []) H λo3 H4=>cR K o3 H4 λv5=>au a0 (ag 0 a0 λv6=>ad v6 H4 λv7=>au a0 (ag 0 a0 λv8=>ad v8 H4 λv9=>bO v9 λv10=>cI 0 v10 λz11=>aC 0 (Int.sub z11 (.ofNat 1)) λz12=>fx 1 v7 none (some (.int 0 z12)) none λv13=>au a0 (ag 0 a0 λv14=>ah 1 v14 v13 H4 λdZ=>x6 a0 a40 a41 a42 dZ)))
theorem acO{R:dP}(hR:kg R){K:KF}{x6:aF}(h6:M5 K x6):M6 K (yV R K x6):=λa0 a7 a40 a41 a42 H h=>pk hR (cc h6 .nil) h
def acP(R:dP)(K:KF)(i5:aF):aJ:=yV R K (acM R K i5)
theorem acQ{R:dP}(hR:kg R){K:KF}{i5:aF}(g5:pK K i5):M6 K (acP R K i5):=acO hR (acN hR g5)
def E5(R:dP)(K:KF)(x7:aJ)(a0 a40:AV)(a41 a42:Int)(H:AH):Prop:=bI (cx a42 a41) (bb 2 a40 (.int 0 a42) λv1=>aQ 2 v1 H λv2=>eI H (hN (aE H) [.ab,.ab] λv3 H4=>ah 2 v3 v2 H4 λH5=>au a0 (ag 0 a0 λv6=>ad v6 H5 λv7=>ag 0 v3 λv8=>ad v8 H5 λv9=>R.2.2.2.2 v9 H5 λCu iQ=>cR K Cu iQ λv12=>ad v6 iQ λv13=>bT (bu v13 v7) (one v12 (cP iQ (hN (aE iQ) [v12,(.int 0 (.ofNat 0))] λv14 dZ=>bT (Nat.beq dZ.n (Nat.succ iQ.n)) (cP dZ (one v14 (aT (aE dZ) 1 1 [v14] λv16 jO=>bT (Nat.beq jO.n (Nat.succ dZ.n)) (cO 1 8 v7 v16 jO λv18 kj=>au a0 (ag 0 a0 λv20=>ah 1 v20 v18 kj λgZ=>x7 a0 v3 a40 a41 a42 gZ))))))))))) (K (.ret (.aP [])) H)
theorem acR{R:dP}(hR:kg R){K:KF}{x7:aJ}(h7:M6 K x7):pK K (E5 R K x7):=λa0 a40 a41 a42 H h=>pk hR (cc h7 .nil) h
def acS(R:dP)(K:KF)(i5:aF):aF:=E5 R K (acP R K i5)
theorem acT{R:dP}(hR:kg R){K:KF}{i5:aF}(g5:pK K i5):pK K (acS R K i5):=acR hR (acQ hR g5)
def rh(R:dP)(K:KF)(n:Nat):aF:=Nat.rec (motive:=λ_=>aF) (λ_ _ _ _ _=>False) (λ_ i=>acS R K i) n
theorem acU{R:dP}(hR:kg R){K:KF}(n:Nat):pK K (rh R K n):=Nat.rec (motive:=λn=>pK K (rh R K n)) (λa0 a40 a41 a42 H h=>h.elim) (λn ih=>acT hR ih) n
def E8(R:dP)(K:KF)(x5:aF)(a0 a3:AV)(H:AH):Prop:=ag 6 a3 λv1=>ad v1 H λv2=>bO v2 λv3=>cI 0 v3 λz4=>x5 a0 v2 z4 (.ofNat 0) H
theorem acV{R:dP}(hR:kg R){K:KF}{x5:aF}(h5:pK K x5):M3 K (E8 R K x5):=λa0 a3 H h=>pk hR (cc h5 .nil) h
def acW(R:dP)(K:KF):cN:=E8 R K (rh R K NL)
theorem acX{R:dP}(hR:kg R){K:KF}:M3 K (acW R K):=acV hR (acU hR NL)
def E9(R:dP)(K:KF)(x4:aJ)(x2:cN)(a0 a3 a29:AV)(a30 a31:Int)(H:AH):Prop:=bI (cx a31 a30) (bb 7 a29 (.int 0 a31) λv1=>aQ 7 v1 H λv2=>eI H (eX Tryd.prog (aE H) 41 λv3 H4=>ah 7 v3 v2 H4 λH5=>aQ 7 v3 H5 λv6=>R.2.2.2.1 a0 v6 H5 λo7 H8=>cR K o7 H8 λv9=>aC 0 (Int.add a31 (.ofNat 1)) λz10=>x4 a0 a3 a29 a30 z10 H8)) (x2 a0 a3 H)
theorem acY{R:dP}(hR:kg R){K:KF}{x4:aJ}{x2:cN}(h4:s5 K x4)(h2:M3 K x2):s5 K (E9 R K x4 x2):=λa0 a3 a29 a30 a31 H h=>pk hR (cc h4 (cc h2 .nil)) h
def acZ(R:dP)(K:KF)(i4:aJ):aJ:=E9 R K i4 (acW R K)
theorem ac0{R:dP}(hR:kg R){K:KF}{i4:aJ}(g4:s5 K i4):s5 K (acZ R K i4):=acY hR g4 (acX hR)
def s6(R:dP)(K:KF)(n:Nat):aJ:=Nat.rec (motive:=λ_=>aJ) (λ_ _ _ _ _ _=>False) (λ_ i=>acZ R K i) n
theorem ac1{R:dP}(hR:kg R){K:KF}(n:Nat):s5 K (s6 R K n):=Nat.rec (motive:=λn=>s5 K (s6 R K n)) (λa0 a3 a29 a30 a31 H h=>h.elim) (λn ih=>ac0 hR ih) n
def yW(R:dP)(K:KF)(x4:aJ)(a0 a3:AV)(H:AH):Prop:=ag 5 a3 λv1=>ad v1 H λv2=>bO v2 λv3=>cI 0 v3 λz4=>x4 a0 a3 v2 z4 (.ofNat 0) H
theorem ac2{R:dP}(hR:kg R){K:KF}{x4:aJ}(h4:s5 K x4):M0 K (yW R K x4):=λa0 a3 H h=>pk hR (cc h4 .nil) h
def ac3(R:dP)(K:KF):cN:=yW R K (s6 R K NL)
theorem ac4{R:dP}(hR:kg R){K:KF}:M0 K (ac3 R K):=ac2 hR (ac1 hR NL)
def Fa(R:dP)(K:KF)(x3 x1:cN)(a0 a1:AV)(H:AH):Prop:=mB (aE H) a1 λv1 H2=>ag 0 v1 λv3=>ad v3 H2 λv4=>cI 0 v4 λz5=>bI (bA z5 (.ofNat 6)) (ag 3 v1 λv6=>ad v6 H2 λv7=>R.2.2.1 a0 v7 H2 λo8 H9=>cR K o8 H9 λv10=>bY v10 λz11=>bI (!z11) (ag 3 v1 λv12=>ad v12 H9 λv13=>R.1 v13 H9 λyF dZ=>cR K yF dZ λv16=>bY v16 λz17=>bI (!z17) (x3 a0 v1 dZ) (x1 a0 v1 dZ)) (x1 a0 v1 H9)) (x1 a0 v1 H2)
theorem ac5{R:dP}(hR:kg R){K:KF}{x3 x1:cN}(h3:M4 K x3)(h1:M0 K x1)(a0 a1:AV)(H:AH)(h:Fa R K x3 x1 a0 a1 H):dQ 77 K [] (bz (dy 77) [a0,a1]) [] H:=pk hR (cc h3 (cc h1 .nil)) h
def anU(R:dP)(K:KF):cN:=Fa R K (acJ R K) (ac3 R K)
def Sj(R:dP):AV→AV→AH→KF→Prop:=λa0 a1 H K=>anU R K a0 a1 H
theorem ajl(R:dP)(hR:kg R):aw Tryd.prog 77 (ao [.a,.a] (Sj R)):=rk λK a0 a1 H h=>ac5 hR (acK hR) (ac4 hR) a0 a1 H h
abbrev kT:Type:=(AV→AV→AH→KF→Prop)×(AH→KF→Prop)×(AV→AV→AH→KF→Prop)×(AH→KF→Prop)×(AH→KF→Prop)×(AV→AV→AH→KF→Prop)×(AH→KF→Prop)×(AH→KF→Prop)
def nr(R:kT):List (Nat×cY):=[(19,ao [.a,.a] R.1),(21,ao [] R.2.1),(64,ao [.a,.a] R.2.2.1),(65,ao [] R.2.2.2.1),(67,ao [] R.2.2.2.2.1),(78,ao [.a,.a] R.2.2.2.2.2.1),(79,ao [] R.2.2.2.2.2.2.1),(84,ao [] R.2.2.2.2.2.2.2)]
abbrev IF(R:kT):Prop:=af Tryd.prog (nr R)
abbrev M7(K:KF)(F:Ta):Prop:=aR 78 K [1,1] 18 [0] [.a] F
def yX(R:kT)(K:KF)(a0:AV)(H:AH):Prop:=ad a0 H λv1=>au v1 (ag 1 v1 λv2=>ad v2 H λv3=>cI 0 v3 λz4=>aC 0 (Int.add z4 (.ofNat 1)) λz5=>au v1 (ag 1 v1 λv6=>ah 1 v6 (.int 0 z5) H λH7=>K (.ret (.aP [])) H7))
theorem ac6{R:kT}(hR:IF R){K:KF}:M7 K (yX R K):=λa0 H h=>pk hR .nil h
def ac7(R:kT)(K:KF):Ta:=yX R K
theorem ac8{R:kT}(hR:IF R){K:KF}:M7 K (ac7 R K):=ac6 hR
def Fb(R:kT)(K:KF)(x1:Ta)(a0 a1:AV)(H:AH):Prop:=ad a0 H λv1=>au v1 (ag 1 v1 λv2=>ad v2 H λv3=>cI 0 v3 λz4=>aC 0 (Int.sub z4 (.ofNat 1)) λz5=>au v1 (ag 1 v1 λv6=>ah 1 v6 (.int 0 z5) H λH7=>ad a1 H7 λv8=>ve v8 λg12 yx y14=>bT (fX Tryd.prog g12) (jG (nr R) g12 (yx++([]++y14)) H7 λo9 cn=>cR K o9 cn λv11=>x1 a0 cn)))
theorem ac9{R:kT}(hR:IF R){K:KF}{x1:Ta}(h1:M7 K x1)(a0 a1:AV)(H:AH)(h:Fb R K x1 a0 a1 H):dQ 78 K [] (bz (dy 78) [a0,a1]) [] H:=pk hR (cc h1 .nil) h
def anV(R:kT)(K:KF):cN:=Fb R K (ac7 R K)
def Fc(R:kT):AV→AV→AH→KF→Prop:=λa0 a1 H K=>anV R K a0 a1 H
theorem ajm(R:kT)(hR:IF R):aw Tryd.prog 78 (ao [.a,.a] (Fc R)):=rk λK a0 a1 H h=>ac9 hR (ac8 hR) a0 a1 H h
abbrev uw:Type:=Unit
def anW(R:uw):List (Nat×cY):=[]
abbrev ahw(R:uw):Prop:=af Tryd.prog (anW R)
def Fe(R:uw)(K:KF)(a0 a1:AV)(H:AH):Prop:=au a0 (ag 0 a0 λv1=>ad v1 H λv2=>cO 1 16 v2 a1 H λv3 H4=>au a0 (ag 0 a0 λv5=>ah 1 v5 v3 H4 λH6=>au a0 (ag 1 a0 λv7=>ad v7 H6 λv8=>au a0 (ag 1 a0 λv9=>ad v9 H6 λv10=>bO v10 λv11=>cI 0 v11 λz12=>aC 0 (Int.sub z12 (.ofNat 1)) λz13=>au a0 (ag 1 a0 λv14=>ad v14 H6 λv15=>au a0 (ag 1 a0 λv16=>ad v16 H6 λv17=>bO v17 λv18=>cI 0 v18 λvD=>aC 0 (Int.sub vD (.ofNat 1)) λz20=>bb 1 v15 (.int 0 z20) λv21=>ad v21 H6 λv22=>cI 0 v22 λz23=>bO a1 λv24=>cI 0 v24 λz25=>aC 0 (Int.add z23 z25) λz26=>bb 1 v8 (.int 0 z13) λv27=>ah 1 v27 (.int 0 z26) H6 λp7=>K (.ret (.aP [])) p7))))))
theorem ada{R:uw}(hR:ahw R){K:KF}(a0 a1:AV)(H:AH)(h:Fe R K a0 a1 H):dQ 46 K [] (bz (dy 46) [a0,a1]) [] H:=pk hR .nil h
def anX(R:uw)(K:KF):cN:=Fe R K
def ahx(R:uw):AV→AV→AH→KF→Prop:=λa0 a1 H K=>anX R K a0 a1 H
theorem ajn(R:uw)(hR:ahw R):aw Tryd.prog 46 (ao [.a,.a] (ahx R)):=rk λK a0 a1 H h=>ada hR a0 a1 H h
def M8:uw:=()
def f46:AV→AV→AH→KF→Prop:=ahx M8
theorem adb:aw Tryd.prog 46 (ao [.a,.a] f46):=ajn M8 af.nil
abbrev ux:Type:=Unit
def anY(R:ux):List (Nat×cY):=[]
abbrev ahy(R:ux):Prop:=af Tryd.prog (anY R)
def Ff(R:ux)(K:KF)(a0:AV)(a1 a2:Int)(H:AH):Prop:=au a0 (ag 3 a0 λv1=>ad v1 H λv2=>cI 0 v2 λz3=>bI (bA z3 (.ofNat 0)) (au a0 (ag 3 a0 λv4=>ah 1 v4 (.int 0 a1) H λH5=>au a0 (ag 4 a0 λv6=>ah 1 v6 (.int 0 a2) H5 λH7=>K (.ret (.aP [])) H7))) (K (.ret (.aP [])) H))
theorem ade{R:ux}(hR:ahy R){K:KF}(a0:AV)(a1 a2:Int)(H:AH)(h:Ff R K a0 a1 a2 H):dQ 69 K [] (bz (dy 69) [a0,(.int 0 a1),(.int 0 a2)]) [] H:=pk hR .nil h
def anZ(R:ux)(K:KF):hO:=Ff R K
def ahz(R:ux):AV→Int→Int→AH→KF→Prop:=λa0 a1 a2 H K=>anZ R K a0 a1 a2 H
theorem ajo(R:ux)(hR:ahy R):aw Tryd.prog 69 (ao [.a,.i 0,.i 0] (ahz R)):=rk λK a0 a1 a2 H h=>ade hR a0 a1 a2 H h
def M9:ux:=()
def f69:AV→Int→Int→AH→KF→Prop:=ahz M9
theorem Na:aw Tryd.prog 69 (ao [.a,.i 0,.i 0] f69):=ajo M9 af.nil
abbrev uy:Type:=(AV→Int→Int→AH→KF→Prop)
def an0(R:uy):List (Nat×cY):=[(69,ao [.a,.i 0,.i 0] R)]
abbrev ahA(R:uy):Prop:=af Tryd.prog (an0 R)
def Fg(R:uy)(K:KF)(a0:AV)(a1 a2:Int)(H:AH):Prop:=au a0 (ag 1 a0 λv1=>ad v1 H λv2=>au a0 (ag 1 a0 λv3=>ad v3 H λv4=>bO v4 λv5=>cI 0 v5 λz6=>aC 0 (Int.sub z6 (.ofNat 1)) λz7=>bb 1 v2 (.int 0 z7) λv8=>ad v8 H λv9=>cI 0 v9 λz10=>aC 0 (Int.add z10 a1) λz11=>bI (cx (.ofNat 150) z11) (R a0 (.ofNat 8) a2 H λqS fH=>cR K qS fH λv14=>K (.ret (.aP [])) fH) (K (.ret (.aP [])) H)))
theorem adf{R:uy}(hR:ahA R){K:KF}(a0:AV)(a1 a2:Int)(H:AH)(h:Fg R K a0 a1 a2 H):dQ 68 K [] (bz (dy 68) [a0,(.int 0 a1),(.int 0 a2)]) [] H:=pk hR .nil h
def an1(R:uy)(K:KF):hO:=Fg R K
def ahB(R:uy):AV→Int→Int→AH→KF→Prop:=λa0 a1 a2 H K=>an1 R K a0 a1 a2 H
theorem ajp(R:uy)(hR:ahA R):aw Tryd.prog 68 (ao [.a,.i 0,.i 0] (ahB R)):=rk λK a0 a1 a2 H h=>adf hR a0 a1 a2 H h
def Fh:uy:=(f69)
def f68:AV→Int→Int→AH→KF→Prop:=ahB Fh
theorem an2:aw Tryd.prog 68 (ao [.a,.i 0,.i 0] f68):=ajp Fh (af.cons Na af.nil)
abbrev fE:Type:=(AV→AV→AH→KF→Prop)×(AV→AV→AH→KF→Prop)×(AV→AV→AH→KF→Prop)
def an3(R:fE):List (Nat×cY):=[(46,ao [.a,.a] R.1),(47,ao [.a,.a] R.2.1),(48,ao [.a,.a] R.2.2)]
abbrev nN(R:fE):Prop:=af Tryd.prog (an3 R)
abbrev Nb(K:KF)(F:iM):Prop:=aR 22 K [1] 98 [0,1,2,3,8,9] [.a,.a,.a,.a,.i 0,.i 0] F
abbrev Nc(K:KF)(F:aF):Prop:=aR 22 K [1,1,1] 98 [0,3,8,9] [.a,.a,.i 0,.i 0] F
abbrev Fi(K:KF)(F:hO):Prop:=aR 22 K [1,1,1,1] 98 [0,8,9] [.a,.i 0,.i 0] F
abbrev s7(K:KF)(F:mA):Prop:=aR 22 K [0,1,0,1,1] 98 [0,1,3,8,9,10] [.a,.a,.a,.i 0,.i 0,.i 0] F
abbrev Nd(K:KF)(F:aF):Prop:=aR 22 K [1,0,1,0,1,1,1] 98 [0,3,8,9] [.a,.a,.i 0,.i 0] F
def wz(R:fE)(K:KF)(a0:AV)(a8 a9:Int)(H:AH):Prop:=au a0 (ag 0 a0 λv1=>ad v1 H λv2=>fx 1 v2 none (some (.int 0 a8)) none λv3=>au a0 (ag 0 a0 λv4=>ah 1 v4 v3 H λH5=>au a0 (ag 1 a0 λv6=>ad v6 H5 λv7=>au a0 (ag 1 a0 λv8=>ad v8 H5 λv9=>bO v9 λv10=>cI 0 v10 λz11=>aC 0 (Int.sub z11 (.ofNat 1)) λz12=>bb 1 v7 (.int 0 z12) λv13=>ah 1 v13 (.int 0 a9) H5 λdk=>K (.ret (.aP [])) dk))))
theorem adg{R:fE}(hR:nN R){K:KF}:Fi K (wz R K):=λa0 a8 a9 H h=>pk hR .nil h
def Nf(R:fE)(K:KF):hO:=wz R K
theorem HS{R:fE}(hR:nN R){K:KF}:Fi K (Nf R K):=adg hR
def Fj(R:fE)(K:KF)(x3:hO)(a0 a3:AV)(a8 a9:Int)(H:AH):Prop:=R.2.2 a0 a3 H λo1 H2=>cR K o1 H2 λv3=>au a0 (ag 2 a0 λv4=>ad v4 H2 λv5=>au a0 (ag 2 a0 λv6=>ad v6 H2 λv7=>bO v7 λv8=>cI 0 v8 λz9=>aC 0 (Int.sub z9 (.ofNat 1)) λz10=>bb 1 v5 (.int 0 z10) λv11=>ad v11 H2 λv12=>cI 0 v12 λz13=>aC 0 (Int.add z13 (.ofNat 1)) λoe=>bb 1 v5 (.int 0 z10) λv15=>ah 1 v15 (.int 0 oe) H2 λeE=>x3 a0 a8 a9 eE))
theorem adh{R:fE}(hR:nN R){K:KF}{x3:hO}(h3:Fi K x3):Nd K (Fj R K x3):=λa0 a3 a8 a9 H h=>pk hR (cc h3 .nil) h
def adi(R:fE)(K:KF):aF:=Fj R K (Nf R K)
theorem adj{R:fE}(hR:nN R){K:KF}:Nd K (adi R K):=adh hR (HS hR)
def Fk(R:fE)(K:KF)(x5:aF)(x3:hO)(a0 a3:AV)(a8 a9:Int)(H:AH):Prop:=bO a3 λv1=>cI 0 v1 λz2=>bI (cx (.ofNat 0) z2) (au a0 (ag 2 a0 λv3=>ad v3 H λv4=>au a0 (ag 2 a0 λv5=>ad v5 H λv6=>bO v6 λv7=>cI 0 v7 λz8=>aC 0 (Int.sub z8 (.ofNat 1)) λz9=>bb 1 v4 (.int 0 z9) λv10=>ad v10 H λv11=>cI 0 v11 λz12=>aC 0 (Int.sub z12 (.ofNat 1)) λz13=>bb 1 v4 (.int 0 z9) λv14=>ah 1 v14 (.int 0 z13) H λdZ=>x5 a0 a3 a8 a9 dZ))) (x3 a0 a8 a9 H)
theorem adk{R:fE}(hR:nN R){K:KF}{x5:aF}{x3:hO}(h5:Nd K x5)(h3:Fi K x3):Nc K (Fk R K x5 x3):=λa0 a3 a8 a9 H h=>pk hR (cc h5 (cc h3 .nil)) h
def adl(R:fE)(K:KF):aF:=Fk R K (adi R K) (Nf R K)
theorem adm{R:fE}(hR:nN R){K:KF}:Nc K (adl R K):=adk hR (adj hR) (HS hR)
def Fl(R:fE)(K:KF)(x4:mA)(x2:aF)(a0 a1 a3:AV)(a8 a9 a10:Int)(H:AH):Prop:=bO a1 λv1=>cI 0 v1 λz2=>bI (cx a10 z2) (bb 5 a1 (.int 0 a10) λv3=>aQ 5 v3 H λv4=>R.2.1 a0 v4 H λo5 H6=>cR K o5 H6 λv7=>aC 0 (Int.add a10 (.ofNat 1)) λz8=>x4 a0 a1 a3 a8 a9 z8 H6) (x2 a0 a3 a8 a9 H)
theorem adn{R:fE}(hR:nN R){K:KF}{x4:mA}{x2:aF}(h4:s7 K x4)(h2:Nc K x2):s7 K (Fl R K x4 x2):=λa0 a1 a3 a8 a9 a10 H h=>pk hR (cc h4 (cc h2 .nil)) h
def ado(R:fE)(K:KF)(i4:mA):mA:=Fl R K i4 (adl R K)
theorem adp{R:fE}(hR:nN R){K:KF}{i4:mA}(g4:s7 K i4):s7 K (ado R K i4):=adn hR g4 (adm hR)
def wA(R:fE)(K:KF)(n:Nat):mA:=Nat.rec (motive:=λ_=>mA) (λ_ _ _ _ _ _ _=>False) (λ_ i=>ado R K i) n
theorem adq{R:fE}(hR:nN R){K:KF}(n:Nat):s7 K (wA R K n):=Nat.rec (motive:=λn=>s7 K (wA R K n)) (λa0 a1 a3 a8 a9 a10 H h=>h.elim) (λn ih=>adp hR ih) n
def Fm(R:fE)(K:KF)(x4:mA)(a0 a1 a2 a3:AV)(a8 a9:Int)(H:AH):Prop:=R.1 a0 a2 H λo1 H2=>cR K o1 H2 λv3=>x4 a0 a1 a3 a8 a9 (.ofNat 0) H2
theorem adr{R:fE}(hR:nN R){K:KF}{x4:mA}(h4:s7 K x4):Nb K (Fm R K x4):=λa0 a1 a2 a3 a8 a9 H h=>pk hR (cc h4 .nil) h
def Ng(R:fE)(K:KF):iM:=Fm R K (wA R K NL)
theorem ads{R:fE}(hR:nN R){K:KF}:Nb K (Ng R K):=adr hR (adq hR NL)
def Fo(R:fE)(K:KF)(x1:iM)(a0 a1 a2 a3:AV)(H:AH):Prop:=au a0 (ag 0 a0 λv1=>ad v1 H λv2=>bO v2 λv3=>cI 0 v3 λz4=>au a0 (ag 1 a0 λv5=>ad v5 H λv6=>au a0 (ag 1 a0 λv7=>ad v7 H λv8=>bO v8 λv9=>cI 0 v9 λz10=>aC 0 (Int.sub z10 (.ofNat 1)) λz11=>bb 1 v6 (.int 0 z11) λv12=>ad v12 H λv13=>cI 0 v13 λoe=>x1 a0 a1 a2 a3 z4 oe H)))
theorem adt{R:fE}(hR:nN R){K:KF}{x1:iM}(h1:Nb K x1)(a0 a1 a2 a3:AV)(H:AH)(h:Fo R K x1 a0 a1 a2 a3 H):dQ 22 K [] (bz (dy 22) [a0,a1,a2,a3]) [] H:=pk hR (cc h1 .nil) h
def an4(R:fE)(K:KF):ub:=Fo R K (Ng R K)
def Fp(R:fE):AV→AV→AV→AV→AH→KF→Prop:=λa0 a1 a2 a3 H K=>an4 R K a0 a1 a2 a3 H
theorem ajq(R:fE)(hR:nN R):aw Tryd.prog 22 (ao [.a,.a,.a,.a] (Fp R)):=rk λK a0 a1 a2 a3 H h=>adt hR (ads hR) a0 a1 a2 a3 H h
abbrev cA:Type:=(AV→AV→AV→AV→AH→KF→Prop)×(AV→AV→AH→KF→Prop)×(AV→AV→AH→KF→Prop)×(AV→AV→AH→KF→Prop)×(AV→Int→Int→AH→KF→Prop)×(AV→Int→Int→AH→KF→Prop)×(AV→AV→AH→KF→Prop)×(AV→AV→AV→AV→AH→KF→Prop)
def an5(R:cA):List (Nat×cY):=[(22,ao [.a,.a,.a,.a] R.1),(25,ao [.a,.a] R.2.1),(46,ao [.a,.a] R.2.2.1),(48,ao [.a,.a] R.2.2.2.1),(68,ao [.a,.i 0,.i 0] R.2.2.2.2.1),(69,ao [.a,.i 0,.i 0] R.2.2.2.2.2.1),(70,ao [.a,.a] R.2.2.2.2.2.2.1),(71,ao [.a,.a,.a,.a] R.2.2.2.2.2.2.2)]
abbrev gP(R:cA):Prop:=af Tryd.prog (an5 R)
abbrev Nh(K:KF)(F:cN):Prop:=aR 47 K [1,1,0,1,0,1,1] 181 [0,3] [.a,.a] F
abbrev Ni(K:KF)(F:cN):Prop:=aR 47 K [1,1,0,1,1,1,0,1,1] 181 [0,3] [.a,.a] F
abbrev Nj(K:KF)(F:gy):Prop:=aR 47 K [1,0,1,1,1,1,1,0,1,1] 181 [0,3,4] [.a,.a,.a] F
abbrev Nk(K:KF)(F:ID):Prop:=aR 47 K [1,1,1,1,1,1,1,0,1,1] 181 [0,3,8,89] [.a,.a,.i 0,.b] F
abbrev Fq(K:KF)(F:gy):Prop:=aR 47 K [1,1,0,1,1,1,1,1,0,1,1] 181 [0,3,4] [.a,.a,.a] F
abbrev Nl(K:KF)(F:cN):Prop:=aR 47 K [1,1,1,0,1,1,1,1,1,0,1,1] 181 [0,3] [.a,.a] F
abbrev Nn(K:KF)(F:gy):Prop:=aR 47 K [0,1,0,1,0,1,1,1,1,1,0,1,1] 181 [0,3,4] [.a,.a,.a] F
abbrev pL(K:KF)(F:ax):Prop:=aR 47 K [0,1,0,1,1,1,1,1,1,1,1,1,1,1,1,1,1,1,0,1,1] 181 [0,3,5] [.a,.a,.i 0] F
abbrev s8(K:KF)(F:ax):Prop:=aR 47 K [0,1,1,1,1,1,1,1,1,1,1,1,1,1,1,1,1,1,1,0,1,1] 181 [0,3,6] [.a,.a,.i 0] F
abbrev G4(K:KF)(F:ax):Prop:=aR 47 K [1,1,0,0,1,0,1,1,1,1,1,1,1,1,1,1,1,1,1,1,1,0,1,1] 181 [0,3,5] [.a,.a,.i 0] F
abbrev G5(K:KF)(F:ax):Prop:=aR 47 K [1,0,0,1,0,0,1,0,1,1,1,1,1,1,1,1,1,1,1,1,1,1,1,0,1,1] 181 [0,3,5] [.a,.a,.i 0] F
def s9(R:cA)(K:KF)(a0 a3:AV)(H:AH):Prop:=ag 3 a3 λv1=>ad v1 H λv2=>fx 7 v2 (some (.int 0 (.ofNat 1))) none none λv3=>R.2.2.2.1 a0 v3 H λo4 H5=>cR K o4 H5 λv6=>K (.ret (.aP [])) H5
theorem adu{R:cA}(hR:gP R){K:KF}:Nl K (s9 R K):=λa0 a3 H h=>pk hR .nil h
def adv(R:cA)(K:KF):cN:=s9 R K
theorem adw{R:cA}(hR:gP R){K:KF}:Nl K (adv R K):=adu hR
def wB(R:cA)(K:KF)(x6:cN)(a0 a3 a4:AV)(H:AH):Prop:=ag 0 a4 λv1=>ad v1 H λv2=>cI 0 v2 λz3=>bI (!(bA z3 (.ofNat 6))) (aQ 7 a4 H λv4=>R.2.2.2.2.2.2.1 a0 v4 H λo5 H6=>cR K o5 H6 λv7=>x6 a0 a3 H6) (x6 a0 a3 H)
theorem adx{R:cA}(hR:gP R){K:KF}{x6:cN}(h6:Nl K x6):Fq K (wB R K x6):=λa0 a3 a4 H h=>pk hR (cc h6 .nil) h
def No(R:cA)(K:KF):gy:=wB R K (adv R K)
theorem HT{R:cA}(hR:gP R){K:KF}:Fq K (No R K):=adx hR (adw hR)
def Fs(R:cA)(K:KF)(x5:gy)(a0 a3 a4:AV)(H:AH):Prop:=ag 1 a4 λv1=>ad v1 H λv2=>cI 0 v2 λz3=>R.2.2.2.2.2.1 a0 (.ofNat 14) z3 H λo4 H5=>cR K o4 H5 λv6=>x5 a0 a3 a4 H5
theorem ady{R:cA}(hR:gP R){K:KF}{x5:gy}(h5:Fq K x5):Nn K (Fs R K x5):=λa0 a3 a4 H h=>pk hR (cc h5 .nil) h
def adz(R:cA)(K:KF):gy:=Fs R K (No R K)
theorem adA{R:cA}(hR:gP R){K:KF}:Nn K (adz R K):=ady hR (HT hR)
def Ft(R:cA)(K:KF)(x7 x5:gy)(a0 a3 a4:AV)(H:AH):Prop:=ag 0 a4 λv1=>ad v1 H λv2=>cI 0 v2 λz3=>bI (bA z3 (.ofNat 6)) (au a0 (ag 0 a0 λv4=>ad v4 H λv5=>ag 3 a4 λv6=>ad v6 H λv7=>R.2.1 v5 v7 H λo8 H9=>cR K o8 H9 λv10=>bY v10 λz11=>bI (!z11) (x7 a0 a3 a4 H9) (x5 a0 a3 a4 H9))) (x5 a0 a3 a4 H)
theorem adB{R:cA}(hR:gP R){K:KF}{x7 x5:gy}(h7:Nn K x7)(h5:Fq K x5):Nj K (Ft R K x7 x5):=λa0 a3 a4 H h=>pk hR (cc h7 (cc h5 .nil)) h
def adC(R:cA)(K:KF):gy:=Ft R K (adz R K) (No R K)
theorem adD{R:cA}(hR:gP R){K:KF}:Nj K (adC R K):=adB hR (adA hR) (HT hR)
def Fv(R:cA)(K:KF)(a0 a3:AV)(H:AH):Prop:=ag 2 a3 λv1=>ad v1 H λv2=>R.2.2.1 a0 v2 H λo3 H4=>cR K o3 H4 λv5=>K (.ret (.aP [])) H4
theorem adE{R:cA}(hR:gP R){K:KF}:Nh K (Fv R K):=λa0 a3 H h=>pk hR .nil h
def adF(R:cA)(K:KF):cN:=Fv R K
theorem adG{R:cA}(hR:gP R){K:KF}:Nh K (adF R K):=adE hR
def Fw(R:cA)(K:KF)(a0 a3:AV)(H:AH):Prop:=ag 3 a3 λv1=>ad v1 H λv2=>R.2.2.2.1 a0 v2 H λo3 H4=>cR K o3 H4 λv5=>K (.ret (.aP [])) H4
theorem adH{R:cA}(hR:gP R){K:KF}:Ni K (Fw R K):=λa0 a3 H h=>pk hR .nil h
def adI(R:cA)(K:KF):cN:=Fw R K
theorem adJ{R:cA}(hR:gP R){K:KF}:Ni K (adI R K):=adH hR
def wC(R:cA)(K:KF)(x8:ax)(a0 a3:AV)(a5:Int)(H:AH):Prop:=aC 0 (Int.add a5 (.ofNat 1)) λz1=>x8 a0 a3 z1 H
theorem Sk{R:cA}(hR:gP R){K:KF}{x8:ax}(h8:pL K x8):G4 K (wC R K x8):=λa0 a3 a5 H h=>pk hR (cc h8 .nil) h
def PA(R:cA)(K:KF)(i8:ax):ax:=wC R K i8
theorem Sl{R:cA}(hR:gP R){K:KF}{i8:ax}(g8:pL K i8):G4 K (PA R K i8):=Sk hR g8
def wD(R:cA)(K:KF)(x10:ax)(a0 a3:AV)(a5:Int)(H:AH):Prop:=ag 4 a3 λv1=>ad v1 H λv2=>bb 1 v2 (.int 0 a5) λv3=>ad v3 H λv4=>R.1 a0 v4 .ab .ab H λo5 H6=>cR K o5 H6 λv7=>x10 a0 a3 a5 H6
theorem Sm{R:cA}(hR:gP R){K:KF}{x10:ax}(h10:G4 K x10):G5 K (wD R K x10):=λa0 a3 a5 H h=>pk hR (cc h10 .nil) h
def PC(R:cA)(K:KF)(i8:ax):ax:=wD R K (PA R K i8)
theorem Sn{R:cA}(hR:gP R){K:KF}{i8:ax}(g8:pL K i8):G5 K (PC R K i8):=Sm hR (Sl hR g8)
def Fx(R:cA)(K:KF)(x11:ax)(a0 a3:AV)(a5:Int)(H:AH):Prop:=ag 4 a3 λv1=>ad v1 H λv2=>bO v2 λv3=>cI 0 v3 λz4=>bI (cx a5 z4) (ag 3 a3 λv5=>ad v5 H λv6=>bO v6 λv7=>cI 0 v7 λz8=>bI (cx a5 z8) (ag 3 a3 λv9=>ad v9 H λv10=>aC 0 (Int.add a5 (.ofNat 1)) λz11=>fx 7 v10 (some (.int 0 a5)) (some (.int 0 z11)) none λv12=>R.2.2.2.1 a0 v12 H λlI dk=>cR K lI dk λv15=>x11 a0 a3 a5 dk) (x11 a0 a3 a5 H)) (K (.ret (.aP [])) H)
theorem adK{R:cA}(hR:gP R){K:KF}{x11:ax}(h11:G5 K x11):pL K (Fx R K x11):=λa0 a3 a5 H h=>pk hR (cc h11 .nil) h
def adL(R:cA)(K:KF)(i8:ax):ax:=Fx R K (PC R K i8)
theorem adM{R:cA}(hR:gP R){K:KF}{i8:ax}(g8:pL K i8):pL K (adL R K i8):=adK hR (Sn hR g8)
def pM(R:cA)(K:KF)(n:Nat):ax:=Nat.rec (motive:=λ_=>ax) (λ_ _ _ _=>False) (λ_ i=>adL R K i) n
theorem adN{R:cA}(hR:gP R){K:KF}(n:Nat):pL K (pM R K n):=Nat.rec (motive:=λn=>pL K (pM R K n)) (λa0 a3 a5 H h=>h.elim) (λn ih=>adM hR ih) n
def Fy(R:cA)(K:KF)(x9:ax)(a0 a3:AV)(a6:Int)(H:AH):Prop:=ag 4 a3 λv1=>ad v1 H λv2=>bO v2 λv3=>cI 0 v3 λz4=>bI (cx a6 z4) (ag 4 a3 λv5=>ad v5 H λv6=>bb 1 v6 (.int 0 a6) λv7=>ad v7 H λv8=>R.1 a0 v8 .ab .ab H λo9 cn=>cR K o9 cn λv11=>aC 0 (Int.add a6 (.ofNat 1)) λz12=>x9 a0 a3 z12 cn) (K (.ret (.aP [])) H)
theorem adO{R:cA}(hR:gP R){K:KF}{x9:ax}(h9:s8 K x9):s8 K (Fy R K x9):=λa0 a3 a6 H h=>pk hR (cc h9 .nil) h
def adP(R:cA)(K:KF)(i9:ax):ax:=Fy R K i9
theorem adQ{R:cA}(hR:gP R){K:KF}{i9:ax}(g9:s8 K i9):s8 K (adP R K i9):=adO hR g9
def ri(R:cA)(K:KF)(n:Nat):ax:=Nat.rec (motive:=λ_=>ax) (λ_ _ _ _=>False) (λ_ i=>adP R K i) n
theorem adR{R:cA}(hR:gP R){K:KF}(n:Nat):s8 K (ri R K n):=Nat.rec (motive:=λn=>s8 K (ri R K n)) (λa0 a3 a6 H h=>h.elim) (λn ih=>adQ hR ih) n
def wE(R:cA)(K:KF)(x8 x9:ax)(a0 a3:AV)(a8:Int)(a89:Bool)(H:AH):Prop:=bI a89 (ag 2 a3 λv1=>ad v1 H λv2=>bO v2 λv3=>cI 0 v3 λz4=>ag 1 a3 λv5=>ad v5 H λv6=>cI 0 v6 λz7=>R.2.2.2.2.1 a0 z4 z7 H λo8 H9=>cR K o8 H9 λv10=>ag 3 a3 λv11=>ad v11 H9 λv12=>R.2.2.2.1 a0 v12 H9 λlI dk=>cR K lI dk λv15=>ag 4 a3 λv16=>ad v16 dk λv17=>bb 1 v17 (.int 0 (.ofNat 0)) λv18=>ad v18 dk λv19=>ag 2 a3 λv20=>ad v20 dk λv21=>R.2.2.2.2.2.2.2 a0 v19 v21 .ab dk λUx qT=>cR K Ux qT λv24=>K (.ret (.aP [])) qT) (bI (bA a8 (.ofNat 5)) (ag 3 a3 λv25=>ad v25 H λv26=>R.2.2.2.1 a0 v26 H λo27 p7=>cR K o27 p7 λv29=>ag 4 a3 λv30=>ad v30 p7 λv31=>bb 1 v31 (.int 0 (.ofNat 0)) λv32=>ad v32 p7 λv33=>R.2.2.2.2.2.2.2 a0 v33 .ab .ab p7 λo34 H35=>cR K o34 H35 λv36=>K (.ret (.aP [])) H35) (bI (bA a8 (.ofNat 8)) (ag 4 a3 λv37=>ad v37 H λv38=>bb 1 v38 (.int 0 (.ofNat 0)) λv39=>ad v39 H λv40=>ag 3 a3 λv41=>ad v41 H λv42=>R.2.2.2.2.2.2.2 a0 v40 .ab v42 H λo43 Pt=>cR K o43 Pt λv45=>K (.ret (.aP [])) Pt) (bI (bA a8 (.ofNat 9)) (au a0 (ag 2 a0 λv46=>ad v46 H λv47=>au a0 (ag 2 a0 λv48=>ad v48 H λv49=>bO v49 λv50=>cI 0 v50 λz51=>aC 0 (Int.sub z51 (.ofNat 1)) λz52=>bb 1 v47 (.int 0 z52) λv53=>ad v53 H λv54=>cI 0 v54 λz55=>bI (bA z55 (.ofNat 0)) (ag 1 a3 λv56=>ad v56 H λv57=>cI 0 v57 λz58=>R.2.2.2.2.2.1 a0 (.ofNat 14) z58 H λo59 H60=>cR K o59 H60 λv61=>K (.ret (.aP [])) H60) (K (.ret (.aP [])) H)))) (bI (bA a8 (.ofNat 4)) (x8 a0 a3 (.ofNat 0) H) (ag 3 a3 λv62=>ad v62 H λv63=>R.2.2.2.1 a0 v63 H λo64 H65=>cR K o64 H65 λv66=>x9 a0 a3 (.ofNat 0) H65)))))
theorem adS{R:cA}(hR:gP R){K:KF}{x8 x9:ax}(h8:pL K x8)(h9:s8 K x9):Nk K (wE R K x8 x9):=λa0 a3 a8 a89 H h=>pk hR (cc h8 (cc h9 .nil)) h
def adT(R:cA)(K:KF):ID:=wE R K (pM R K NL) (ri R K NL)
theorem adU{R:cA}(hR:gP R){K:KF}:Nk K (adT R K):=adS hR (adN hR NL) (adR hR NL)
def Fz(R:cA)(K:KF)(x3:gy)(x1 x2:cN)(x4:ID)(a0 a1:AV)(H:AH):Prop:=mB (aE H) a1 λv1 H2=>ag 0 v1 λv3=>ad v3 H2 λv4=>cI 0 v4 λz5=>bI (bA z5 (.ofNat 1)) (ag 1 v1 λv6=>ad v6 H2 λv7=>cI 0 v7 λz8=>R.2.2.2.2.1 a0 (.ofNat 1) z8 H2 λo9 cn=>cR K o9 cn λv11=>ag 3 v1 λv12=>ad v12 cn λv13=>R.2.2.2.1 a0 v13 cn λyF dZ=>cR K yF dZ λv16=>x1 a0 v1 dZ) (bI (bA z5 (.ofNat 12)) (ag 1 v1 λv17=>ad v17 H2 λv18=>cI 0 v18 λvD=>R.2.2.2.2.1 a0 (.ofNat 1) vD H2 λU1 gZ=>cR K U1 gZ λv22=>ag 2 v1 λv23=>ad v23 gZ λv24=>R.2.2.1 a0 v24 gZ λUb Ap=>cR K Ub Ap λv27=>x2 a0 v1 Ap) (bI (bA z5 (.ofNat 2)) (ag 3 v1 λv28=>ad v28 H2 λv29=>bb 7 v29 (.int 0 (.ofNat 0)) λv30=>aQ 7 v30 H2 λv31=>eI H2 (eX Tryd.prog (aE H2) 41 λv32 Ps=>ah 7 v32 v31 Ps λH34=>x3 a0 v1 v32 H34)) (bI (bA z5 (.ofNat 6)) (x4 a0 v1 z5 (bA z5 (.ofNat 6)) H2) (x4 a0 v1 z5 (bA z5 (.ofNat 7)) H2))))
theorem adV{R:cA}(hR:gP R){K:KF}{x3:gy}{x1 x2:cN}{x4:ID}(h3:Nj K x3)(h1:Nh K x1)(h2:Ni K x2)(h4:Nk K x4)(a0 a1:AV)(H:AH)(h:Fz R K x3 x1 x2 x4 a0 a1 H):dQ 47 K [] (bz (dy 47) [a0,a1]) [] H:=pk hR (cc h3 (cc h1 (cc h2 (cc h4 .nil)))) h
def an6(R:cA)(K:KF):cN:=Fz R K (adC R K) (adF R K) (adI R K) (adT R K)
def FA(R:cA):AV→AV→AH→KF→Prop:=λa0 a1 H K=>an6 R K a0 a1 H
theorem ajr(R:cA)(hR:gP R):aw Tryd.prog 47 (ao [.a,.a] (FA R)):=rk λK a0 a1 H h=>adV hR (adD hR) (adG hR) (adJ hR) (adU hR) a0 a1 H h
abbrev gz:Type:=(AV→AH→KF→Prop)×(AV→AV→AH→KF→Prop)×(AV→Int→Int→AH→KF→Prop)×(AV→AV→AH→KF→Prop)
def an7(R:gz):List (Nat×cY):=[(11,ao [.a] R.1),(25,ao [.a,.a] R.2.1),(69,ao [.a,.i 0,.i 0] R.2.2.1),(70,ao [.a,.a] R.2.2.2)]
abbrev pN(R:gz):Prop:=af Tryd.prog (an7 R)
abbrev om(K:KF)(F:ax):Prop:=aR 48 K [0,1] 42 [0,1,4] [.a,.a,.i 0] F
abbrev Np(K:KF)(F:ax):Prop:=aR 48 K [1,1,0,0,1] 42 [0,1,4] [.a,.a,.i 0] F
abbrev FB(K:KF)(F:gN):Prop:=aR 48 K [1,1,0,0,1,0,0,1] 42 [0,1,4,5] [.a,.a,.i 0,.a] F
abbrev Nq(K:KF)(F:gN):Prop:=aR 48 K [0,1,0,1,0,0,1,0,0,1] 42 [0,1,4,5] [.a,.a,.i 0,.a] F
def ta(R:gz)(K:KF)(x1:ax)(a0 a1:AV)(a4:Int)(H:AH):Prop:=aC 0 (Int.add a4 (.ofNat 1)) λz1=>x1 a0 a1 z1 H
theorem adW{R:gz}(hR:pN R){K:KF}{x1:ax}(h1:om K x1):Np K (ta R K x1):=λa0 a1 a4 H h=>pk hR (cc h1 .nil) h
def adX(R:gz)(K:KF)(i1:ax):ax:=ta R K i1
theorem adY{R:gz}(hR:pN R){K:KF}{i1:ax}(g1:om K i1):Np K (adX R K i1):=adW hR g1
def td(R:gz)(K:KF)(x2:ax)(a0 a1:AV)(a4:Int)(a5:AV)(H:AH):Prop:=aQ 7 a5 H λv1=>R.2.2.2 a0 v1 H λo2 H3=>cR K o2 H3 λv4=>x2 a0 a1 a4 H3
theorem adZ{R:gz}(hR:pN R){K:KF}{x2:ax}(h2:Np K x2):FB K (td R K x2):=λa0 a1 a4 a5 H h=>pk hR (cc h2 .nil) h
def Nr(R:gz)(K:KF)(i1:ax):gN:=td R K (adX R K i1)
theorem HU{R:gz}(hR:pN R){K:KF}{i1:ax}(g1:om K i1):FB K (Nr R K i1):=adZ hR (adY hR g1)
def FC(R:gz)(K:KF)(x3:gN)(a0 a1:AV)(a4:Int)(a5:AV)(H:AH):Prop:=ag 1 a5 λv1=>ad v1 H λv2=>cI 0 v2 λz3=>R.2.2.1 a0 (.ofNat 14) z3 H λo4 H5=>cR K o4 H5 λv6=>x3 a0 a1 a4 a5 H5
theorem ad0{R:gz}(hR:pN R){K:KF}{x3:gN}(h3:FB K x3):Nq K (FC R K x3):=λa0 a1 a4 a5 H h=>pk hR (cc h3 .nil) h
def ad1(R:gz)(K:KF)(i1:ax):gN:=FC R K (Nr R K i1)
theorem ad2{R:gz}(hR:pN R){K:KF}{i1:ax}(g1:om K i1):Nq K (ad1 R K i1):=ad0 hR (HU hR g1)
def FD(R:gz)(K:KF)(x4 x3:gN)(a0 a1:AV)(a4:Int)(H:AH):Prop:=bO a1 λv1=>cI 0 v1 λz2=>bI (cx a4 z2) (bb 7 a1 (.int 0 a4) λv3=>aQ 7 v3 H λv4=>eI H (eX Tryd.prog (aE H) 41 λv5 H6=>ah 7 v5 v4 H6 λH7=>ag 0 v5 λv8=>ad v8 H7 λv9=>cI 0 v9 λz10=>bI (bA z10 (.ofNat 6)) (au a0 (ag 0 a0 λv11=>ad v11 H7 λv12=>ag 3 v5 λv13=>ad v13 H7 λv14=>R.2.1 v12 v14 H7 λDe eE=>cR K De eE λv17=>bY v17 λyE=>bI (!yE) (ag 3 v5 λv19=>ad v19 eE λv20=>R.1 v20 eE λyt js=>cR K yt js λv23=>bY v23 λz24=>bI (!z24) (x4 a0 a1 a4 v5 js) (x3 a0 a1 a4 v5 js)) (x3 a0 a1 a4 v5 eE))) (x3 a0 a1 a4 v5 H7))) (K (.ret (.aP [])) H)
theorem ad3{R:gz}(hR:pN R){K:KF}{x4 x3:gN}(h4:Nq K x4)(h3:FB K x3):om K (FD R K x4 x3):=λa0 a1 a4 H h=>pk hR (cc h4 (cc h3 .nil)) h
def ad4(R:gz)(K:KF)(i1:ax):ax:=FD R K (ad1 R K i1) (Nr R K i1)
theorem ad5{R:gz}(hR:pN R){K:KF}{i1:ax}(g1:om K i1):om K (ad4 R K i1):=ad3 hR (ad2 hR g1) (HU hR g1)
def pO(R:gz)(K:KF)(n:Nat):ax:=Nat.rec (motive:=λ_=>ax) (λ_ _ _ _=>False) (λ_ i=>ad4 R K i) n
theorem ad6{R:gz}(hR:pN R){K:KF}(n:Nat):om K (pO R K n):=Nat.rec (motive:=λn=>om K (pO R K n)) (λa0 a1 a4 H h=>h.elim) (λn ih=>ad5 hR ih) n
def FE(R:gz)(K:KF)(x1:ax)(a0 a1:AV)(H:AH):Prop:=x1 a0 a1 (.ofNat 0) H
theorem ad7{R:gz}(hR:pN R){K:KF}{x1:ax}(h1:om K x1)(a0 a1:AV)(H:AH)(h:FE R K x1 a0 a1 H):dQ 48 K [] (bz (dy 48) [a0,a1]) [] H:=pk hR (cc h1 .nil) h
def an8(R:gz)(K:KF):cN:=FE R K (pO R K NL)
def zR(R:gz):AV→AV→AH→KF→Prop:=λa0 a1 H K=>an8 R K a0 a1 H
theorem ajs(R:gz)(hR:pN R):aw Tryd.prog 48 (ao [.a,.a] (zR R)):=rk λK a0 a1 H h=>ad7 hR (ad6 hR NL) a0 a1 H h
abbrev gA:Type:=(AV→AV→AV→AV→AH→KF→Prop)×(AV→AV→AH→KF→Prop)
def an9(R:gA):List (Nat×cY):=[(22,ao [.a,.a,.a,.a] R.1),(48,ao [.a,.a] R.2)]
abbrev pP(R:gA):Prop:=af Tryd.prog (an9 R)
abbrev oo(K:KF)(F:ax):Prop:=aR 70 K [0,1,1,1] 76 [0,3,4] [.a,.a,.i 0] F
abbrev Ns(K:KF)(F:ax):Prop:=aR 70 K [1,1,0,0,1,1,1] 76 [0,3,4] [.a,.a,.i 0] F
abbrev Nt(K:KF)(F:ax):Prop:=aR 70 K [1,0,0,1,0,0,1,1,1] 76 [0,3,4] [.a,.a,.i 0] F
abbrev Nu(K:KF)(F:ax):Prop:=aR 70 K [1,1,0,0,1,0,0,1,1,1] 76 [0,3,4] [.a,.a,.i 0] F
def FF(R:gA)(K:KF)(x1:ax)(a0 a3:AV)(a4:Int)(H:AH):Prop:=aC 0 (Int.add a4 (.ofNat 1)) λz1=>x1 a0 a3 z1 H
theorem ad8{R:gA}(hR:pP R){K:KF}{x1:ax}(h1:oo K x1):Ns K (FF R K x1):=λa0 a3 a4 H h=>pk hR (cc h1 .nil) h
def ad9(R:gA)(K:KF)(i1:ax):ax:=FF R K i1
theorem aea{R:gA}(hR:pP R){K:KF}{i1:ax}(g1:oo K i1):Ns K (ad9 R K i1):=ad8 hR g1
def FG(R:gA)(K:KF)(x2:ax)(a0 a3:AV)(a4:Int)(H:AH):Prop:=au a0 (ag 1 a0 λv1=>ad v1 H λv2=>au a0 (ag 1 a0 λv3=>ad v3 H λv4=>bO v4 λv5=>cI 0 v5 λz6=>aC 0 (Int.sub z6 (.ofNat 1)) λz7=>fx 1 v2 none (some (.int 0 z7)) none λv8=>au a0 (ag 2 a0 λv9=>ad v9 H λv10=>au a0 (ag 2 a0 λv11=>ad v11 H λv12=>bO v12 λv13=>cI 0 v13 λoe=>aC 0 (Int.sub oe (.ofNat 1)) λmK=>fx 1 v10 none (some (.int 0 mK)) none λv16=>au a0 (ag 1 a0 λv17=>ah 1 v17 v8 H λiz=>au a0 (ag 2 a0 λv19=>ah 1 v19 v16 iz λjt=>x2 a0 a3 a4 jt))))))
theorem aeb{R:gA}(hR:pP R){K:KF}{x2:ax}(h2:Ns K x2):Nu K (FG R K x2):=λa0 a3 a4 H h=>pk hR (cc h2 .nil) h
def aec(R:gA)(K:KF)(i1:ax):ax:=FG R K (ad9 R K i1)
theorem aed{R:gA}(hR:pP R){K:KF}{i1:ax}(g1:oo K i1):Nu K (aec R K i1):=aeb hR (aea hR g1)
def FH(R:gA)(K:KF)(x4:ax)(a0 a3:AV)(a4:Int)(H:AH):Prop:=ag 6 a3 λv1=>ad v1 H λv2=>bb 2 v2 (.int 0 a4) λv3=>ag 1 v3 λv4=>ad v4 H λv5=>ag 6 a3 λv6=>ad v6 H λv7=>bb 2 v7 (.int 0 a4) λv8=>ag 0 v8 λv9=>ad v9 H λv10=>R.1 a0 v5 v10 .ab H λkM bQ=>cR K kM bQ λv13=>x4 a0 a3 a4 bQ
theorem aee{R:gA}(hR:pP R){K:KF}{x4:ax}(h4:Nu K x4):Nt K (FH R K x4):=λa0 a3 a4 H h=>pk hR (cc h4 .nil) h
def aef(R:gA)(K:KF)(i1:ax):ax:=FH R K (aec R K i1)
theorem aeg{R:gA}(hR:pP R){K:KF}{i1:ax}(g1:oo K i1):Nt K (aef R K i1):=aee hR (aed hR g1)
def FI(R:gA)(K:KF)(x3:ax)(a0 a3:AV)(a4:Int)(H:AH):Prop:=ag 6 a3 λv1=>ad v1 H λv2=>bO v2 λv3=>cI 0 v3 λz4=>bI (cx a4 z4) (au a0 (ag 1 a0 λv5=>ad v5 H λv6=>cP H (aT (aE H) 1 1 [(.int 0 (.ofNat 0))] λv7 H8=>bT (Nat.beq H8.n (Nat.succ H.n)) (au a0 (ag 2 a0 λv9=>ad v9 H8 λv10=>cP H8 (aT (aE H8) 1 1 [(.int 0 (.ofNat 0))] λv11 bQ=>bT (Nat.beq bQ.n (Nat.succ H8.n)) (cO 1 8 v6 v7 bQ λv13 dk=>ad v9 dk λv15=>bT (bu v15 v10) (cO 1 8 v10 v11 dk λv16 jO=>au a0 (ag 1 a0 λv18=>ah 1 v18 v13 jO λkj=>au a0 (ag 2 a0 λv20=>ah 1 v20 v16 kj λgZ=>x3 a0 a3 a4 gZ)))))))))) (K (.ret (.aP [])) H)
theorem aeh{R:gA}(hR:pP R){K:KF}{x3:ax}(h3:Nt K x3):oo K (FI R K x3):=λa0 a3 a4 H h=>pk hR (cc h3 .nil) h
def aei(R:gA)(K:KF)(i1:ax):ax:=FI R K (aef R K i1)
theorem aej{R:gA}(hR:pP R){K:KF}{i1:ax}(g1:oo K i1):oo K (aei R K i1):=aeh hR (aeg hR g1)
def wF(R:gA)(K:KF)(n:Nat):ax:=Nat.rec (motive:=λ_=>ax) (λ_ _ _ _=>False) (λ_ i=>aei R K i) n
theorem aek{R:gA}(hR:pP R){K:KF}(n:Nat):oo K (wF R K n):=Nat.rec (motive:=λn=>oo K (wF R K n)) (λa0 a3 a4 H h=>h.elim) (λn ih=>aej hR ih) n
def FJ(R:gA)(K:KF)(x1:ax)(a0 a1:AV)(H:AH):Prop:=mB (aE H) a1 λv1 H2=>ag 5 v1 λv3=>ad v3 H2 λv4=>R.2 a0 v4 H2 λo5 H6=>cR K o5 H6 λv7=>x1 a0 v1 (.ofNat 0) H6
theorem ael{R:gA}(hR:pP R){K:KF}{x1:ax}(h1:oo K x1)(a0 a1:AV)(H:AH)(h:FJ R K x1 a0 a1 H):dQ 70 K [] (bz (dy 70) [a0,a1]) [] H:=pk hR (cc h1 .nil) h
def aoa(R:gA)(K:KF):cN:=FJ R K (wF R K NL)
def FK(R:gA):AV→AV→AH→KF→Prop:=λa0 a1 H K=>aoa R K a0 a1 H
theorem ajt(R:gA)(hR:pP R):aw Tryd.prog 70 (ao [.a,.a] (FK R)):=rk λK a0 a1 H h=>ael hR (aek hR NL) a0 a1 H h
abbrev nO:Type:=(AV→AV→AV→AV→AH→KF→Prop)
def aob(R:nO):List (Nat×cY):=[(22,ao [.a,.a,.a,.a] R)]
abbrev IG(R:nO):Prop:=af Tryd.prog (aob R)
abbrev Nv(K:KF)(F:ub):Prop:=aR 71 K [1] 41 [0,1,2,3] [.a,.a,.a,.a] F
def FL(R:nO)(K:KF)(a0 a1 a2 a3:AV)(H:AH):Prop:=R a0 a1 a2 a3 H λo1 H2=>cR K o1 H2 λv3=>au a0 (ag 2 a0 λv4=>ad v4 H2 λv5=>au a0 (ag 2 a0 λv6=>ad v6 H2 λv7=>bO v7 λv8=>cI 0 v8 λz9=>aC 0 (Int.sub z9 (.ofNat 1)) λz10=>bb 1 v5 (.int 0 z10) λv11=>ad v11 H2 λv12=>cI 0 v12 λz13=>aC 0 (Int.sub z13 (.ofNat 1)) λoe=>bb 1 v5 (.int 0 z10) λv15=>ah 1 v15 (.int 0 oe) H2 λeE=>K (.ret (.aP [])) eE))
theorem aem{R:nO}(hR:IG R){K:KF}:Nv K (FL R K):=λa0 a1 a2 a3 H h=>pk hR .nil h
def aen(R:nO)(K:KF):ub:=FL R K
theorem aeo{R:nO}(hR:IG R){K:KF}:Nv K (aen R K):=aem hR
def FM(R:nO)(K:KF)(x1:ub)(a0 a1 a2 a3:AV)(H:AH):Prop:=au a0 (ag 2 a0 λv1=>ad v1 H λv2=>au a0 (ag 2 a0 λv3=>ad v3 H λv4=>bO v4 λv5=>cI 0 v5 λz6=>aC 0 (Int.sub z6 (.ofNat 1)) λz7=>bb 1 v2 (.int 0 z7) λv8=>ad v8 H λv9=>cI 0 v9 λz10=>aC 0 (Int.add z10 (.ofNat 1)) λz11=>bb 1 v2 (.int 0 z7) λv12=>ah 1 v12 (.int 0 z11) H λfH=>x1 a0 a1 a2 a3 fH))
theorem aep{R:nO}(hR:IG R){K:KF}{x1:ub}(h1:Nv K x1)(a0 a1 a2 a3:AV)(H:AH)(h:FM R K x1 a0 a1 a2 a3 H):dQ 71 K [] (bz (dy 71) [a0,a1,a2,a3]) [] H:=pk hR (cc h1 .nil) h
def aoc(R:nO)(K:KF):ub:=FM R K (aen R K)
def FN(R:nO):AV→AV→AV→AV→AH→KF→Prop:=λa0 a1 a2 a3 H K=>aoc R K a0 a1 a2 a3 H
theorem aju(R:nO)(hR:IG R):aw Tryd.prog 71 (ao [.a,.a,.a,.a] (FN R)):=rk λK a0 a1 a2 a3 H h=>aep hR (aeo hR) a0 a1 a2 a3 H h
abbrev xA:Type:=(AV→AV→AV→AV→AH→KF→Prop)×(AV→AV→AH→KF→Prop)×(AV→AV→AH→KF→Prop)×(AV→AV→AH→KF→Prop)×(AV→AV→AV→AV→AH→KF→Prop)
def FO(S:xA):fE:=(f46,S.2.1,S.2.2.1)
def FP(S:xA):cA:=(S.1,f25,f46,S.2.2.1,f68,f69,S.2.2.2.1,S.2.2.2.2)
def FQ(S:xA):gz:=(f11,f25,f69,S.2.2.2.1)
def FR(S:xA):gA:=(S.1,S.2.2.1)
def FT(S:xA):nO:=(S.1)
noncomputable def pQ(n:Nat):xA:=Nat.rec (motive:=λ_=>xA) (λ_ _ _ _ _ _=>False,λ_ _ _ _=>False,λ_ _ _ _=>False,λ_ _ _ _=>False,λ_ _ _ _ _ _=>False) (λ_ S=>(Fp (FO S),FA (FP S),zR (FQ S),FK (FR S),FN (FT S))) n
theorem aq1{F:AV→AH→KF→Prop}{A:AV→AV→AH→KF→Prop}(h1:aw Tryd.prog 11 (ao [.a] F))(h2:aw Tryd.prog 70 (ao [.a,.a] A)):aw Tryd.prog 48 (ao [.a,.a] (zR (F,f25,f69,A))):=ajs (F,f25,f69,A) (af.cons h1 (af.cons yH (af.cons Na (af.cons h2 af.nil))))
theorem ahC(n:Nat):pQ (n+1)=(Fp (FO (pQ n)),FA (FP (pQ n)),zR (FQ (pQ n)),FK (FR (pQ n)),FN (FT (pQ n))):=by kernel_rfl
theorem aod(n:Nat):aw Tryd.prog 22 (ao [.a,.a,.a,.a] (pQ n).1)∧aw Tryd.prog 47 (ao [.a,.a] (pQ n).2.1)∧aw Tryd.prog 48 (ao [.a,.a] (pQ n).2.2.1)∧aw Tryd.prog 70 (ao [.a,.a] (pQ n).2.2.2.1)∧aw Tryd.prog 71 (ao [.a,.a,.a,.a] (pQ n).2.2.2.2):=by
 induction n with
 |zero=>exact⟨gS [.a,.a,.a,.a],gS [.a,.a],gS [.a,.a],gS [.a,.a],gS [.a,.a,.a,.a]⟩
 |succ n ih=>
  rw[ahC];unfold FQ;refine⟨ajq (FO (pQ n)) (af.cons adb (af.cons (ih.2.1) (af.cons (ih.2.2.1) af.nil))),ajr (FP (pQ n)) (af.cons (ih.1) (af.cons yH (af.cons adb (af.cons (ih.2.2.1) (af.cons an2 (af.cons Na (af.cons (ih.2.2.2.1) (af.cons (ih.2.2.2.2) af.nil)))))))),?_,ajt (FR (pQ n)) (af.cons (ih.1) (af.cons (ih.2.2.1) af.nil)),aju (FT (pQ n)) (af.cons (ih.1) af.nil)⟩;exact aq1 Z5 ih.2.2.2.1
def f22:AV→AV→AV→AV→AH→KF→Prop:=(pQ NL).1
theorem aoe:aw Tryd.prog 22 (ao [.a,.a,.a,.a] f22):=(aod NL).1
abbrev yY:Type:=(AV→AV→AV→AV→AH→KF→Prop)
def apN(R:yY):List (Nat×cY):=[(22,ao [.a,.a,.a,.a] R)]
abbrev aof(R:yY):Prop:=af Tryd.prog (apN R)
def IH(R:yY)(K:KF)(a0:AV)(H:AH):Prop:=aT (aE H) 2 1 [(.str 4 1398359371),(.str 4 1447514689)] λv1 H2=>aT (aE H2) 1 1 [(.int 0 (.ofNat 2))] λv3 H4=>aT (aE H4) 1 1 [(.int 0 (.ofNat 0))] λv5 H6=>one v1 (one v3 (one v5 (hN (aE H6) [v1,v3,v5,(.int 0 (.ofNat 0)),(.int 0 (.ofNat 0))] λv7 H8=>R v7 a0 .ab .ab H8 λo9 cn=>cR K o9 cn λv11=>au v7 (ag 3 v7 λv12=>ad v12 cn λv13=>cI 0 v13 λoe=>au v7 (ag 4 v7 λv15=>ad v15 cn λv16=>cI 0 v16 λz17=>K (.ret (.aP [(.int 0 oe),(.int 0 z17)])) cn)))))
theorem afN{R:yY}(hR:aof R){K:KF}(a0:AV)(H:AH)(h:IH R K a0 H):dQ 9 K [] (bz (dy 9) [a0]) [] H:=pk hR .nil h
def apO(R:yY)(K:KF):Ta:=IH R K
def aog(R:yY):AV→AH→KF→Prop:=λa0 H K=>apO R K a0 H
theorem aoh(R:yY)(hR:aof R):aw Tryd.prog 9 (ao [.a] (aog R)):=rk λK a0 H h=>afN hR a0 H h
def ahD:yY:=(f22)
def f9:AV→AH→KF→Prop:=aog ahD
theorem apP:aw Tryd.prog 9 (ao [.a] f9):=aoh ahD (af.cons aoe af.nil)
abbrev rB:Type:=(AH→KF→Prop)×(AV→AH→KF→Prop)×(AV→AH→KF→Prop)×(AV→AH→KF→Prop)×(AV→AH→KF→Prop)×(AV→AH→KF→Prop)
def apQ(R:rB):List (Nat×cY):=[(6,ao [] R.1),(7,ao [.a] R.2.1),(8,ao [.a] R.2.2.1),(9,ao [.a] R.2.2.2.1),(10,ao [.a] R.2.2.2.2.1),(11,ao [.a] R.2.2.2.2.2)]
abbrev So(R:rB):Prop:=af Tryd.prog (apQ R)
abbrev Sp(K:KF)(F:cN):Prop:=aR 3 K [1,1,1,1] 58 [1,5] [.a,.a] F
def II(R:rB)(K:KF)(a1 a5:AV)(H:AH):Prop:=R.2.2.1 a5 H λo1 H2=>cR K o1 H2 λv3=>eU v3 λl4=>fh l4 0 λv5=>cI 0 v5 λz6=>eU v3 λl7=>fh l7 1 λv8=>cI 0 v8 λz9=>R.2.2.2.1 a5 H2 λCu iQ=>cR K Cu iQ λv12=>eU v12 λl13=>fh l13 0 λv14=>cI 0 v14 λmK=>eU v12 λl16=>fh l16 1 λv17=>cI 0 v17 λyE=>R.1  iQ λKV jt=>cR K KV jt λv21=>bY v21 λz22=>bI z22 (bI (bA z6 mK) (bI (bA z9 yE) (R.2.2.2.2.1 a1 jt λVU p5=>cR K VU p5 λv25=>bY v25 λz26=>R.2.2.2.2.2 a1 p5 λo27 p7=>cR K o27 p7 λv29=>bY v29 λz30=>Qv (.bool z26) (.bool z30) λv31=>bY v31 λz32=>K (.ret (.bool z32)) p7) (K (.ret (.bool false)) jt)) (K (.ret (.bool false)) jt)) (K (.ret (.bool false)) jt)
theorem afO{R:rB}(hR:So R){K:KF}:Sp K (II R K):=λa1 a5 H h=>pk hR .nil h
def ahE(R:rB)(K:KF):cN:=II R K
theorem afP{R:rB}(hR:So R){K:KF}:Sp K (ahE R K):=afO hR
def IJ(R:rB)(K:KF)(x1:cN)(a0 a1:AV)(H:AH):Prop:=sLen a0 λv1=>cI 0 v1 λz2=>bI (cx (.ofNat 1500) z2) (R.1  H λo3 H4=>cR K o3 H4 λv5=>bY v5 λz6=>K (.ret (.bool z6)) H4) (sLen a1 λv7=>cI 0 v7 λz8=>bI (cx (.ofNat 100) z8) (R.1  H λo9 cn=>cR K o9 cn λv11=>bY v11 λz12=>K (.ret (.bool z12)) cn) (R.2.1 a0 H λlI dk=>cR K lI dk λv15=>eU v15 λl16=>fh l16 0 λv17=>eU v15 λl18=>fh l18 1 λv19=>cI 0 v19 λz20=>eU v15 λl21=>fh l21 2 λv22=>cI 0 v22 λz23=>bI (!(bA z20 (.ofNat 0))) (R.1  dk λUS rI=>cR K US rI λv26=>bY v26 λz27=>K (.ret (.bool z27)) rI) (x1 a1 v17 dk)))
theorem afQ{R:rB}(hR:So R){K:KF}{x1:cN}(h1:Sp K x1)(a0 a1:AV)(H:AH)(h:IJ R K x1 a0 a1 H):dQ 3 K [] (bz (dy 3) [a0,a1]) [] H:=pk hR (cc h1 .nil) h
def apR(R:rB)(K:KF):cN:=IJ R K (ahE R K)
def aoi(R:rB):AV→AV→AH→KF→Prop:=λa0 a1 H K=>apR R K a0 a1 H
theorem aoj(R:rB)(hR:So R):aw Tryd.prog 3 (ao [.a,.a] (aoi R)):=rk λK a0 a1 H h=>afQ hR (afP hR) a0 a1 H h
abbrev Sq:Type:=Int→Int→AV→AH→Prop
abbrev rC:Type:=(AV→AH→KF→Prop)×(AV→AH→KF→Prop)×(AV→AH→KF→Prop)×(AV→AV→AH→KF→Prop)×(AV→AH→KF→Prop)
def apS(R:rC):List (Nat×cY):=[(7,ao [.a] R.1),(8,ao [.a] R.2.1),(10,ao [.a] R.2.2.1),(13,ao [.a,.a] R.2.2.2.1),(14,ao [.a] R.2.2.2.2)]
abbrev Sr(R:rC):Prop:=af Tryd.prog (apS R)
abbrev Ss(K:KF)(F:Sq):Prop:=aR 6 K [1,1,1,1] 79 [4,5,6] [.i 0,.i 0,.a] F
def ahF(R:rC)(K:KF)(a4 a5:Int)(a6:AV)(H:AH):Prop:=R.1 (.str 57 72997307505964344531455894998086941320034283952814635181180859164384563638121298425138771564722490727585656762664047096222917768750788460) H λo1 H2=>cR K o1 H2 λv3=>eU v3 λl4=>fh l4 0 λv5=>eU v3 λl6=>fh l6 1 λv7=>cI 0 v7 λz8=>eU v3 λl9=>fh l9 2 λv10=>cI 0 v10 λz11=>R.2.1 v5 H2 λqS fH=>cR K qS fH λv14=>eU v14 λl15=>fh l15 0 λv16=>cI 0 v16 λz17=>eU v14 λl18=>fh l18 1 λv19=>cI 0 v19 λz20=>bI (bA a4 (.ofNat 14)) (bI (bA a5 (.ofNat 7)) (bO a6 λv21=>cI 0 v21 λz22=>bI (bA z22 (.ofNat 0)) (bI (bA z17 (.ofNat 0)) (bI (bA z20 (.ofNat 0)) (bb 5 v5 (.int 0 (.ofNat 1)) λv23=>ag 3 v23 λv24=>ad v24 fH λv25=>bb 7 v25 (.int 0 (.ofNat 0)) λv26=>ag 6 v26 λv27=>ad v27 fH λv28=>bb 2 v28 (.int 0 (.ofNat 0)) λv29=>aQ 2 v29 fH λv30=>R.2.2.2.2 v30 fH λo31 H32=>cR K o31 H32 λv33=>aT (aE H32) 1 1 [(.str 1 120)] λv34 H35=>R.2.2.2.1 v33 v34 H35 λo36 H37=>cR K o36 H37 λv38=>bY v38 λz39=>bI z39 (R.2.2.1 (.str 4 1819042147) H37 λo40 H41=>cR K o40 H41 λv42=>bY v42 λz43=>bI z43 (R.2.2.1 (.str 4 1398359371) H41 λo44 H45=>cR K o44 H45 λv46=>bY v46 λz47=>K (.ret (.bool (!z47))) H45) (K (.ret (.bool false)) H41)) (K (.ret (.bool false)) H37)) (K (.ret (.bool false)) fH)) (K (.ret (.bool false)) fH)) (K (.ret (.bool false)) fH)) (K (.ret (.bool false)) fH)) (K (.ret (.bool false)) fH)
theorem afR{R:rC}(hR:Sr R){K:KF}:Ss K (ahF R K):=λa4 a5 a6 H h=>pk hR .nil h
def ahG(R:rC)(K:KF):Sq:=ahF R K
theorem afS{R:rC}(hR:Sr R){K:KF}:Ss K (ahG R K):=afR hR
def ahH(R:rC)(K:KF)(x1:Sq)(H:AH):Prop:=R.1 (.str 8 8656039921681982834) H λo1 H2=>cR K o1 H2 λv3=>eU v3 λl4=>fh l4 0 λv5=>eU v3 λl6=>fh l6 1 λv7=>cI 0 v7 λz8=>eU v3 λl9=>fh l9 2 λv10=>cI 0 v10 λz11=>R.2.1 v5 H2 λqS fH=>cR K qS fH λv14=>eU v14 λl15=>fh l15 0 λv16=>cI 0 v16 λz17=>eU v14 λl18=>fh l18 1 λv19=>cI 0 v19 λz20=>R.1 (.str 48 15457781127726651273577807304690796729515443873022912438520953111786733197608385440382277905080053345952144440913772) fH λyt js=>cR K yt js λv23=>eU v23 λl24=>fh l24 0 λv25=>eU v23 λl26=>fh l26 1 λv27=>cI 0 v27 λz28=>eU v23 λl29=>fh l29 2 λv30=>cI 0 v30 λz31=>x1 z17 z20 v25 js
theorem afT{R:rC}(hR:Sr R){K:KF}{x1:Sq}(h1:Ss K x1)(H:AH)(h:ahH R K x1 H):dQ 6 K [] (bz (dy 6) []) [] H:=pk hR (cc h1 .nil) h
def apT(R:rC)(K:KF):T_:=ahH R K (ahG R K)
def aok(R:rC):AH→KF→Prop:=fun  H K=>apT R K  H
theorem aol(R:rC)(hR:Sr R):aw Tryd.prog 6 (ao [] (aok R)):=rk λK  H h=>afT hR (afS hR)  H h
end Go.Proofs.YtcedghechlgecaaDoor.G
