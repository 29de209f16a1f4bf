/- The functions of Check of both, by program. No condition. -/
import Derived.Test.YtcedghechlgecaaDoorGb
set_option maxRecDepth 100000
set_option maxHeartbeats 0
set_option linter.unusedVariables false
set_option linter.unusedSimpArgs false
namespace Go.Proofs.YtcedghechlgecaaDoor.G
open Go Go.X
abbrev lX:Type:=AV→AV→AV→AV→Int→AH→Prop
abbrev Hi:Type:=AV→AV→AV→Bool→AH→Prop
abbrev tG:Type:=AV→AV→AV→Int→AV→AV→Int→Int→AH→Prop
abbrev dn:Type:=AV→AV→AV→Int→AV→Int→Int→AH→Prop
abbrev DK:Type:=AV→AV→AV→Int→Bool→AH→Prop
abbrev rK:Type:=AV→AV→AV→Int→Int→Int→AH→Prop
abbrev aft:Type:=AV→AV→Int→Bool→AH→Prop
abbrev tH:Type:=Unit
def alC(R:tH):List (Nat×dq):=[]
abbrev afu(R:tH):Prop:=ag Tryd.prog (alC R)
def ZX(R:tH)(K:KF)(H:AH):Prop:=K (.ret (.aL [])) H
theorem ZY{R:tH}(hR:afu R){K:KF}(H:AH)(h:ZX R K H):fb 21 K [] (bD (eD 21) []) [] H:=pk hR .nil h
def alD(R:tH)(K:KF):T_:=ZX R K
def afv(R:tH):AH→KF→Prop:=fun  H K=>alD R K  H
theorem ahl(R:tH)(hR:afu R):aC Tryd.prog 21 (aw [] (afv R)):=rk λK  H h=>ZY hR  H h
def ZZ:tH:=()
def f21:AH→KF→Prop:=afv ZZ
theorem Z0:aC Tryd.prog 21 (aw [] f21):=ahl ZZ ag.nil
abbrev tI:Type:=Unit
def alE(R:tI):List (Nat×dq):=[]
abbrev afw(R:tI):Prop:=ag Tryd.prog (alE R)
def DL(R:tI)(K:KF)(a0:AV)(H:AH):Prop:=ao a0 (af 0 a0 λv1=>ad v1 H λv2=>ao a0 (af 0 a0 λv3=>ad v3 H λv4=>bN v4 λv5=>cI 0 v5 λz6=>ax 0 (Int.sub z6 (.ofNat 1)) λz7=>bf 1 v2 (.int 0 z7) λv8=>ad v8 H λv9=>K (.ret v9) H))
theorem Z1{R:tI}(hR:afw R){K:KF}(a0:AV)(H:AH)(h:DL R K a0 H):fb 44 K [] (bD (eD 44) [a0]) [] H:=pk hR .nil h
def alF(R:tI)(K:KF):Ta:=DL R K
def afx(R:tI):AV→AH→KF→Prop:=λa0 H K=>alF R K a0 H
theorem ahm(R:tI)(hR:afw R):aC Tryd.prog 44 (aw [.a] (afx R)):=rk λK a0 H h=>Z1 hR a0 H h
def Ls:tI:=()
def f44:AV→AH→KF→Prop:=afx Ls
theorem Lt:aC Tryd.prog 44 (aw [.a] f44):=ahm Ls ag.nil
abbrev gi:Type:=Unit
def alG(R:gi):List (Nat×dq):=[]
abbrev oa(R:gi):Prop:=ag Tryd.prog (alG R)
abbrev Lu(K:KF)(F:T_):Prop:=aT 62 K [1,1,0,1] 32 [] [] F
abbrev nQ(K:KF)(F:aF):Prop:=aT 62 K [0,1,0,1,0,1] 32 [1,12,13,14] [.a,.a,.i 0,.i 0] F
abbrev Lw(K:KF)(F:aF):Prop:=aT 62 K [1,1,1,0,0,1,0,1,0,1] 32 [1,12,13,14] [.a,.a,.i 0,.i 0] F
abbrev sI(K:KF)(F:dO):Prop:=aT 62 K [0,1,0,1,0,0,1,1,0,0,1,0,1,0,1] 32 [1,12,13,14,21,22,23] [.a,.a,.i 0,.i 0,.a,.i 0,.i 0] F
def DM(R:gi)(K:KF)(x4:aF)(a1 a12:AV)(my pF:Int)(H:AH):Prop:=ax 0 (Int.add pF (.ofNat 1)) λz1=>x4 a1 a12 my z1 H
theorem Z2{R:gi}(hR:oa R){K:KF}{x4:aF}(h4:nQ K x4):Lw K (DM R K x4):=λa1 a12 my pF H h=>pk hR (cc h4 .nil) h
def Z3(R:gi)(K:KF)(i4:aF):aF:=DM R K i4
theorem Z4{R:gi}(hR:oa R){K:KF}{i4:aF}(g4:nQ K i4):Lw K (Z3 R K i4):=Z2 hR g4
def DN(R:gi)(K:KF)(x8:dO)(x6:aF)(a1 a12:AV)(my pF:Int)(a21:AV)(a22 a23:Int)(H:AH):Prop:=bI (cg a23 a22) (bf 1 a21 (.int 0 a23) λv1=>ad v1 H λv2=>ux v2 a1 λv3=>bS v3 λz4=>bI z4 (K (.ret (.bool true)) H) (ax 0 (Int.add a23 (.ofNat 1)) λz5=>x8 a1 a12 my pF a21 a22 z5 H)) (x6 a1 a12 my pF H)
theorem Z5{R:gi}(hR:oa R){K:KF}{x8:dO}{x6:aF}(h8:sI K x8)(h6:Lw K x6):sI K (DN R K x8 x6):=λa1 a12 my pF a21 a22 a23 H h=>pk hR (cc h8 (cc h6 .nil)) h
def Z6(R:gi)(K:KF)(i4:aF)(i8:dO):dO:=DN R K i8 (Z3 R K i4)
theorem Z7{R:gi}(hR:oa R){K:KF}{i4:aF}{i8:dO}(g4:nQ K i4)(g8:sI K i8):sI K (Z6 R K i4 i8):=Z5 hR g8 (Z4 hR g4)
def vy(R:gi)(K:KF)(i4:aF)(n:Nat):dO:=Nat.rec (motive:=λ_=>dO) (λ_ _ _ _ _ _ _ _=>False) (λ_ i=>Z6 R K i4 i) n
theorem Z8{R:gi}(hR:oa R){K:KF}{i4:aF}(g4:nQ K i4)(n:Nat):sI K (vy R K i4 n):=Nat.rec (motive:=λn=>sI K (vy R K i4 n)) (λa1 a12 my pF a21 a22 a23 H h=>h.elim) (λn ih=>Z7 hR g4 ih) n
def DO(R:gi)(K:KF)(H:AH):Prop:=K (.ret (.bool false)) H
theorem Z9{R:gi}(hR:oa R){K:KF}:Lu K (DO R K):=λH h=>pk hR .nil h
def aaa(R:gi)(K:KF):T_:=DO R K
theorem aab{R:gi}(hR:oa R){K:KF}:Lu K (aaa R K):=Z9 hR
def DQ(R:gi)(K:KF)(x8:dO)(x2:T_)(a1 a12:AV)(my pF:Int)(H:AH):Prop:=bI (cg pF my) (bf 1 a12 (.int 0 pF) λv1=>ad v1 H λv2=>ao v2 (af 0 v2 λv3=>ad v3 H λv4=>bN v4 λv5=>cI 0 v5 λz6=>x8 a1 a12 my pF v4 z6 (.ofNat 0) H)) (x2 H)
theorem aac{R:gi}(hR:oa R){K:KF}{x8:dO}{x2:T_}(h8:sI K x8)(h2:Lu K x2):nQ K (DQ R K x8 x2):=λa1 a12 my pF H h=>pk hR (cc h8 (cc h2 .nil)) h
def aad(R:gi)(K:KF)(i4:aF):aF:=DQ R K (vy R K i4 NL) (aaa R K)
theorem aae{R:gi}(hR:oa R){K:KF}{i4:aF}(g4:nQ K i4):nQ K (aad R K i4):=aac hR (Z8 hR g4 NL) (aab hR)
def pg(R:gi)(K:KF)(n:Nat):aF:=Nat.rec (motive:=λ_=>aF) (λ_ _ _ _ _=>False) (λ_ i=>aad R K i) n
theorem aaf{R:gi}(hR:oa R){K:KF}(n:Nat):nQ K (pg R K n):=Nat.rec (motive:=λn=>nQ K (pg R K n)) (λa1 a12 my pF H h=>h.elim) (λn ih=>aae hR ih) n
def DS(R:gi)(K:KF)(x4:aF)(a0 a1:AV)(H:AH):Prop:=ao a0 (af 0 a0 λv1=>ad v1 H λv2=>bN v2 λv3=>cI 0 v3 λz4=>x4 a1 v2 z4 (.ofNat 0) H)
theorem aag{R:gi}(hR:oa R){K:KF}{x4:aF}(h4:nQ K x4)(a0 a1:AV)(H:AH)(h:DS R K x4 a0 a1 H):fb 62 K [] (bD (eD 62) [a0,a1]) [] H:=pk hR (cc h4 .nil) h
def alH(R:gi)(K:KF):cX:=DS R K (pg R K NL)
def afy(R:gi):AV→AV→AH→KF→Prop:=λa0 a1 H K=>alH R K a0 a1 H
theorem ahn(R:gi)(hR:oa R):aC Tryd.prog 62 (aw [.a,.a] (afy R)):=rk λK a0 a1 H h=>aag hR (aaf hR NL) a0 a1 H h
def jE:gi:=()
def f62:AV→AV→AH→KF→Prop:=afy jE
theorem aah:aC Tryd.prog 62 (aw [.a,.a] f62):=ahn jE ag.nil
abbrev tJ:Type:=Unit
def alI(R:tJ):List (Nat×dq):=[]
abbrev afz(R:tJ):Prop:=ag Tryd.prog (alI R)
def DU(R:tJ)(K:KF)(a0:AV)(H:AH):Prop:=wc true a0 λv1=>bS v1 λz2=>bI z2 (K (.ret .ab) H) (aR (aB H) 0 1 [] λv3 H4=>cQ 1 16 v3 a0 H4 λv5 H6=>K (.ret v5) H6)
theorem aai{R:tJ}(hR:afz R){K:KF}(a0:AV)(H:AH)(h:DU R K a0 H):fb 83 K [] (bD (eD 83) [a0]) [] H:=pk hR .nil h
def alJ(R:tJ)(K:KF):Ta:=DU R K
def afA(R:tJ):AV→AH→KF→Prop:=λa0 H K=>alJ R K a0 H
theorem aho(R:tJ)(hR:afz R):aC Tryd.prog 83 (aw [.a] (afA R)):=rk λK a0 H h=>aai hR a0 H h
def Ly:tJ:=()
def f83:AV→AH→KF→Prop:=afA Ly
theorem alK:aC Tryd.prog 83 (aw [.a] f83):=aho Ly ag.nil
abbrev tK:Type:=Unit
def alL(R:tK):List (Nat×dq):=[]
abbrev afB(R:tK):Prop:=ag Tryd.prog (alL R)
def aaj(R:tK)(K:KF)(H:AH):Prop:=K (.ret (.aL [])) H
theorem aak{R:tK}(hR:afB R){K:KF}(H:AH)(h:aaj R K H):fb 65 K [] (bD (eD 65) []) [] H:=pk hR .nil h
def alM(R:tK)(K:KF):T_:=aaj R K
def afC(R:tK):AH→KF→Prop:=fun  H K=>alM R K  H
theorem ahp(R:tK)(hR:afB R):aC Tryd.prog 65 (aw [] (afC R)):=rk λK  H h=>aak hR  H h
def aal:tK:=()
def f65:AH→KF→Prop:=afC aal
theorem aam:aC Tryd.prog 65 (aw [] f65):=ahp aal ag.nil
abbrev tL:Type:=Unit
def alN(R:tL):List (Nat×dq):=[]
abbrev afD(R:tL):Prop:=ag Tryd.prog (alN R)
def aan(R:tL)(K:KF)(H:AH):Prop:=K (.ret (.aL [])) H
theorem aao{R:tL}(hR:afD R){K:KF}(H:AH)(h:aan R K H):fb 67 K [] (bD (eD 67) []) [] H:=pk hR .nil h
def alO(R:tL)(K:KF):T_:=aan R K
def afE(R:tL):AH→KF→Prop:=fun  H K=>alO R K  H
theorem ahq(R:tL)(hR:afD R):aC Tryd.prog 67 (aw [] (afE R)):=rk λK  H h=>aao hR  H h
def aap:tL:=()
def f67:AH→KF→Prop:=afE aap
theorem aaq:aC Tryd.prog 67 (aw [] f67):=ahq aap ag.nil
abbrev tM:Type:=Unit
def alP(R:tM):List (Nat×dq):=[]
abbrev afF(R:tM):Prop:=ag Tryd.prog (alP R)
def aar(R:tM)(K:KF)(H:AH):Prop:=K (.ret (.aL [])) H
theorem aas{R:tM}(hR:afF R){K:KF}(H:AH)(h:aar R K H):fb 79 K [] (bD (eD 79) []) [] H:=pk hR .nil h
def alQ(R:tM)(K:KF):T_:=aar R K
def afG(R:tM):AH→KF→Prop:=fun  H K=>alQ R K  H
theorem ahr(R:tM)(hR:afF R):aC Tryd.prog 79 (aw [] (afG R)):=rk λK  H h=>aas hR  H h
def aat:tM:=()
def f79:AH→KF→Prop:=afG aat
theorem aau:aC Tryd.prog 79 (aw [] f79):=ahr aat ag.nil
abbrev tN:Type:=Unit
def alR(R:tN):List (Nat×dq):=[]
abbrev afH(R:tN):Prop:=ag Tryd.prog (alR R)
def aav(R:tN)(K:KF)(H:AH):Prop:=K (.ret (.aL [])) H
theorem aaw{R:tN}(hR:afH R){K:KF}(H:AH)(h:aav R K H):fb 84 K [] (bD (eD 84) []) [] H:=pk hR .nil h
def alS(R:tN)(K:KF):T_:=aav R K
def afI(R:tN):AH→KF→Prop:=fun  H K=>alS R K  H
theorem ahs(R:tN)(hR:afH R):aC Tryd.prog 84 (aw [] (afI R)):=rk λK  H h=>aaw hR  H h
def aax:tN:=()
def f84:AH→KF→Prop:=afI aax
theorem aay:aC Tryd.prog 84 (aw [] f84):=ahs aax ag.nil
abbrev iY:Type:=(AV→AV→AH→KF→Prop)×(AH→KF→Prop)×(AV→AH→KF→Prop)×(AV→AV→AH→KF→Prop)×(AV→AV→AH→KF→Prop)×(AH→KF→Prop)×(AH→KF→Prop)×(AV→AV→AH→KF→Prop)×(AH→KF→Prop)×(AH→KF→Prop)
def jF(R:iY):List (Nat×dq):=[(19,aw [.a,.a] R.1),(21,aw [] R.2.1),(44,aw [.a] R.2.2.1),(45,aw [.a,.a] R.2.2.2.1),(64,aw [.a,.a] R.2.2.2.2.1),(65,aw [] R.2.2.2.2.2.1),(67,aw [] R.2.2.2.2.2.2.1),(78,aw [.a,.a] R.2.2.2.2.2.2.2.1),(79,aw [] R.2.2.2.2.2.2.2.2.1),(84,aw [] R.2.2.2.2.2.2.2.2.2)]
abbrev wP(R:iY):Prop:=ag Tryd.prog (jF R)
abbrev Lz(K:KF)(F:aE):Prop:=aT 20 K [1,1,1] 38 [2,6,7] [.a,.a,.i 0] F
abbrev sJ(K:KF)(F:dn):Prop:=aT 20 K [0,1,0,1,1] 38 [0,2,6,7,17,18,19] [.a,.a,.a,.i 0,.a,.i 0,.i 0] F
def DV(R:iY)(K:KF)(a2 a6:AV)(a7:Int)(H:AH):Prop:=uE a2 λg4 x5 y6=>bT (gb Tryd.prog g4) (jI (jF R) g4 (x5++([]++y6)) H λo1 H2=>cR K o1 H2 λv3=>ao a6 (af 0 a6 λv7=>ad v7 H2 λv8=>fE 1 v8 none (some (.int 0 a7)) none λv9=>ao a6 (af 0 a6 λv10=>ah 1 v10 v9 H2 λiQ=>K (.ret (.aL [])) iQ)))
theorem aaz{R:iY}(hR:wP R){K:KF}:Lz K (DV R K):=λa2 a6 a7 H h=>pk hR .nil h
def aaA(R:iY)(K:KF):aE:=DV R K
theorem aaB{R:iY}(hR:wP R){K:KF}:Lz K (aaA R K):=aaz hR
def DW(R:iY)(K:KF)(x2:dn)(x1:aE)(a0 a2 a6:AV)(a7:Int)(a17:AV)(DJ yg:Int)(H:AH):Prop:=bI (cg yg DJ) (bf 5 a17 (.int 0 yg) λv1=>aN 5 v1 H λv2=>eJ H (hN (aB H) [(.int 0 (.ofNat 0)),(.int 0 (.ofNat 0)),.ab,.ab,.ab] λv3 H4=>ah 5 v3 v2 H4 λH5=>aN 5 v3 H5 λv6=>R.2.2.2.1 a0 v6 H5 λo7 H8=>cR K o7 H8 λv9=>ax 0 (Int.add yg (.ofNat 1)) λz10=>x2 a0 a2 a6 a7 a17 DJ z10 H8)) (x1 a2 a6 a7 H)
theorem aaC{R:iY}(hR:wP R){K:KF}{x2:dn}{x1:aE}(h2:sJ K x2)(h1:Lz K x1):sJ K (DW R K x2 x1):=λa0 a2 a6 a7 a17 DJ yg H h=>pk hR (cc h2 (cc h1 .nil)) h
def aaD(R:iY)(K:KF)(i2:dn):dn:=DW R K i2 (aaA R K)
theorem aaE{R:iY}(hR:wP R){K:KF}{i2:dn}(g2:sJ K i2):sJ K (aaD R K i2):=aaC hR g2 (aaB hR)
def vz(R:iY)(K:KF)(n:Nat):dn:=Nat.rec (motive:=λ_=>dn) (λ_ _ _ _ _ _ _ _=>False) (λ_ i=>aaD R K i) n
theorem aaF{R:iY}(hR:wP R){K:KF}(n:Nat):sJ K (vz R K n):=Nat.rec (motive:=λn=>sJ K (vz R K n)) (λa0 a2 a6 a7 a17 DJ yg H h=>h.elim) (λn ih=>aaE hR ih) n
def DX(R:iY)(K:KF)(x2:dn)(a0 a1 a2:AV)(H:AH):Prop:=R.2.2.1 a0 H λo1 H2=>cR K o1 H2 λv3=>ao v3 (af 0 v3 λv4=>ad v4 H2 λv5=>bN v5 λv6=>cI 0 v6 λz7=>bN a1 λv8=>cI 0 v8 λz9=>x2 a0 a2 v3 z7 a1 z9 (.ofNat 0) H2)
theorem aaG{R:iY}(hR:wP R){K:KF}{x2:dn}(h2:sJ K x2)(a0 a1 a2:AV)(H:AH)(h:DX R K x2 a0 a1 a2 H):fb 20 K [] (bD (eD 20) [a0,a1,a2]) [] H:=pk hR (cc h2 .nil) h
def alT(R:iY)(K:KF):iS:=DX R K (vz R K NL)
def QY(R:iY):AV→AV→AV→AH→KF→Prop:=λa0 a1 a2 H K=>alT R K a0 a1 a2 H
theorem aht(R:iY)(hR:wP R):aC Tryd.prog 20 (aw [.a,.a,.a] (QY R)):=rk λK a0 a1 a2 H h=>aaG hR (aaF hR NL) a0 a1 a2 H h
abbrev cP:Type:=(AV→AV→AV→AH→KF→Prop)×(AV→AH→KF→Prop)×(AV→AV→AH→KF→Prop)×(AV→AV→AH→KF→Prop)×(AV→AV→AV→AH→KF→Prop)×(AV→AV→AH→KF→Prop)
def alU(R:cP):List (Nat×dq):=[(20,aw [.a,.a,.a] R.1),(44,aw [.a] R.2.1),(61,aw [.a,.a] R.2.2.1),(62,aw [.a,.a] R.2.2.2.1),(63,aw [.a,.a,.a] R.2.2.2.2.1),(66,aw [.a,.a] R.2.2.2.2.2)]
abbrev iv(R:cP):Prop:=ag Tryd.prog (alU R)
abbrev LA(K:KF)(F:iS):Prop:=aT 45 K [1,1,1] 147 [2,3,4] [.a,.a,.a] F
abbrev LB(K:KF)(F:Hi):Prop:=aT 45 K [1,0,1,0,1,1] 147 [2,3,4,13] [.a,.a,.a,.b] F
abbrev LC(K:KF)(F:cX):Prop:=aT 45 K [1,0,1,1,1,0,1,1,1,1] 147 [2,3] [.a,.a] F
abbrev LD(K:KF)(F:cX):Prop:=aT 45 K [1,0,1,1,1,1,1,0,1,1,1,1] 147 [2,3] [.a,.a] F
abbrev LF(K:KF)(F:aI):Prop:=aT 45 K [1,0,0,1,1,1,1,1,0,1,1,1,1] 147 [2,3,89,90,91] [.a,.a,.a,.i 0,.i 0] F
abbrev qG(K:KF)(F:aI):Prop:=aT 45 K [0,1,0,0,1,1,1,1,1,0,1,1,1,1] 147 [2,3,89,90,91] [.a,.a,.a,.i 0,.i 0] F
abbrev LG(K:KF)(F:DK):Prop:=aT 45 K [1,1,1,1,1,1,1,1,1,0,1,1,1,1] 147 [2,3,4,33,120] [.a,.a,.a,.i 0,.b] F
abbrev LH(K:KF)(F:aI):Prop:=aT 45 K [1,1,1,0,0,1,0,0,1,1,1,1,1,0,1,1,1,1] 147 [2,3,89,90,91] [.a,.a,.a,.i 0,.i 0] F
abbrev LJ(K:KF)(F:jv):Prop:=aT 45 K [0,1,1,0,0,1,1,0,0,1,0,0,1,1,1,1,1,0,1,1,1,1] 147 [2,3,6,89,90,91] [.a,.a,.a,.a,.i 0,.i 0] F
abbrev pY(K:KF)(F:aF):Prop:=aT 45 K [0,1,1,1,1,1,1,1,1,1,1,1,1,1,1,1,1,0,1,1,1,1] 147 [2,39,40,41] [.a,.a,.i 0,.i 0] F
def yh(R:cP)(K:KF)(a2 a3 a6 a89:AV)(tO a91:Int)(H:AH):Prop:=af 1 a6 λv1=>ad v1 H λv2=>cI 0 v2 λz3=>rH (.iface 56 (.agg [(.int 0 (.ofNat 14)),(.int 0 z3)])) (K (.cG (.iface 56 (.agg [(.int 0 (.ofNat 14)),(.int 0 z3)]))) H)
theorem aaH{R:cP}(hR:iv R){K:KF}:LJ K (yh R K):=λa2 a3 a6 a89 tO a91 H h=>pk hR .nil h
def aaI(R:cP)(K:KF):jv:=yh R K
theorem aaJ{R:cP}(hR:iv R){K:KF}:LJ K (aaI R K):=aaH hR
def yi(R:cP)(K:KF)(a2 a3:AV)(H:AH):Prop:=ad a2 H λv1=>af 3 a3 λv2=>ad v2 H λv3=>R.2.2.1 v1 v3 H λo4 H5=>cR K o4 H5 λv6=>K (.ret (.aL [])) H5
theorem aaK{R:cP}(hR:iv R){K:KF}:LD K (yi R K):=λa2 a3 H h=>pk hR .nil h
def aaL(R:cP)(K:KF):cX:=yi R K
theorem aaM{R:cP}(hR:iv R){K:KF}:LD K (aaL R K):=aaK hR
def vA(R:cP)(K:KF)(x6:aI)(a2 a3 a89:AV)(tO a91:Int)(H:AH):Prop:=ax 0 (Int.add a91 (.ofNat 1)) λz1=>x6 a2 a3 a89 tO z1 H
theorem aaN{R:cP}(hR:iv R){K:KF}{x6:aI}(h6:qG K x6):LH K (vA R K x6):=λa2 a3 a89 tO a91 H h=>pk hR (cc h6 .nil) h
def aaO(R:cP)(K:KF)(i6:aI):aI:=vA R K i6
theorem aaP{R:cP}(hR:iv R){K:KF}{i6:aI}(g6:qG K i6):LH K (aaO R K i6):=aaN hR g6
def vB(R:cP)(K:KF)(x9:jv)(x4:cX)(x8:aI)(a2 a3 a89:AV)(tO a91:Int)(H:AH):Prop:=bI (cg a91 tO) (bf 7 a89 (.int 0 a91) λv1=>aN 7 v1 H λv2=>eJ H (fc Tryd.prog (aB H) 41 λv3 H4=>ah 7 v3 v2 H4 λH5=>af 0 v3 λv6=>ad v6 H5 λv7=>cI 0 v7 λz8=>bI (bq z8 (.ofNat 6)) (ad a2 H5 λv9=>af 3 v3 λv10=>ad v10 H5 λv11=>R.2.2.2.1 v9 v11 H5 λoY fu=>cR K oY fu λv14=>bS v14 λmw=>bI (!mw) (x9 a2 a3 v3 a89 tO a91 fu) (x8 a2 a3 a89 tO a91 fu)) (x8 a2 a3 a89 tO a91 H5))) (x4 a2 a3 H)
theorem aaQ{R:cP}(hR:iv R){K:KF}{x9:jv}{x4:cX}{x8:aI}(h9:LJ K x9)(h4:LD K x4)(h8:LH K x8):qG K (vB R K x9 x4 x8):=λa2 a3 a89 tO a91 H h=>pk hR (cc h9 (cc h4 (cc h8 .nil))) h
def aaR(R:cP)(K:KF)(i6:aI):aI:=vB R K (aaI R K) (aaL R K) (aaO R K i6)
theorem aaS{R:cP}(hR:iv R){K:KF}{i6:aI}(g6:qG K i6):qG K (aaR R K i6):=aaQ hR (aaJ hR) (aaM hR) (aaP hR g6)
def ph(R:cP)(K:KF)(n:Nat):aI:=Nat.rec (motive:=λ_=>aI) (λ_ _ _ _ _ _=>False) (λ_ i=>aaR R K i) n
theorem aaT{R:cP}(hR:iv R){K:KF}(n:Nat):qG K (ph R K n):=Nat.rec (motive:=λn=>qG K (ph R K n)) (λa2 a3 a89 tO a91 H h=>h.elim) (λn ih=>aaS hR ih) n
def vC(R:cP)(K:KF)(x6:aI)(a2 a3 a89:AV)(tO a91:Int)(H:AH):Prop:=x6 a2 a3 a89 tO a91 H
theorem aaU{R:cP}(hR:iv R){K:KF}{x6:aI}(h6:qG K x6):LF K (vC R K x6):=λa2 a3 a89 tO a91 H h=>pk hR (cc h6 .nil) h
def aaV(R:cP)(K:KF):aI:=vC R K (ph R K NL)
theorem aaW{R:cP}(hR:iv R){K:KF}:LF K (aaV R K):=aaU hR (aaT hR NL)
def vD(R:cP)(K:KF)(a2 a3:AV)(H:AH):Prop:=ad a2 H λv1=>af 3 a3 λv2=>ad v2 H λv3=>R.2.2.1 v1 v3 H λo4 H5=>cR K o4 H5 λv6=>K (.ret (.aL [])) H5
theorem aaX{R:cP}(hR:iv R){K:KF}:LC K (vD R K):=λa2 a3 H h=>pk hR .nil h
def aaY(R:cP)(K:KF):cX:=vD R K
theorem aaZ{R:cP}(hR:iv R){K:KF}:LC K (aaY R K):=aaX hR
def zd(R:cP)(K:KF)(x10:aF)(a2 a39:AV)(a40 a41:Int)(H:AH):Prop:=bI (cg a41 a40) (bf 1 a39 (.int 0 a41) λv1=>ad v1 H λv2=>ad a2 H λv3=>R.1 v3 v2 (.func 67 [] []) H λo4 H5=>cR K o4 H5 λv6=>ax 0 (Int.add a41 (.ofNat 1)) λz7=>x10 a2 a39 a40 z7 H5) (K (.ret (.aL [])) H)
theorem QZ{R:cP}(hR:iv R){K:KF}{x10:aF}(h10:pY K x10):pY K (zd R K x10):=λa2 a39 a40 a41 H h=>pk hR (cc h10 .nil) h
def Ov(R:cP)(K:KF)(i10:aF):aF:=zd R K i10
theorem Q0{R:cP}(hR:iv R){K:KF}{i10:aF}(g10:pY K i10):pY K (Ov R K i10):=QZ hR g10
def nx(R:cP)(K:KF)(n:Nat):aF:=Nat.rec (motive:=λ_=>aF) (λ_ _ _ _ _=>False) (λ_ i=>Ov R K i) n
theorem Q2{R:cP}(hR:iv R){K:KF}(n:Nat):pY K (nx R K n):=Nat.rec (motive:=λn=>pY K (nx R K n)) (λa2 a39 a40 a41 H h=>h.elim) (λn ih=>Q0 hR ih) n
def qH(R:cP)(K:KF)(x10:aF)(a2 a3 a4:AV)(a33:Int)(alV:Bool)(H:AH):Prop:=bI alV (ad a2 H λv1=>af 3 a3 λv2=>ad v2 H λv3=>R.2.2.1 v1 v3 H λo4 H5=>cR K o4 H5 λv6=>ad a2 H5 λv7=>aN 5 a3 H5 λv8=>R.2.2.2.2.1 v7 v8 (.func 65 [] []) H5 λo9 cm=>cR K o9 cm λv11=>K (.ret (.aL [])) cm) (bI (bq a33 (.ofNat 4)) (ad a2 H λv12=>aN 5 a3 H λv13=>R.2.2.2.2.2 v12 v13 H λxY eM=>cR K xY eM λv16=>K (.ret (.aL [])) eM) (bI (bq a33 (.ofNat 9)) (ao a4 (af 1 a4 λv17=>ad v17 H λv18=>cI 0 v18 λuU=>bI (bq uU (.ofNat 0)) (af 1 a3 λv20=>ad v20 H λv21=>cI 0 v21 λz22=>rH (.iface 56 (.agg [(.int 0 (.ofNat 14)),(.int 0 z22)])) (K (.cG (.iface 56 (.agg [(.int 0 (.ofNat 14)),(.int 0 z22)]))) H)) (K (.ret (.aL [])) H))) (ad a2 H λv23=>af 3 a3 λv24=>ad v24 H λv25=>R.2.2.1 v23 v25 H λo26 sk=>cR K o26 sk λv28=>af 4 a3 λv29=>ad v29 sk λv30=>bN v30 λv31=>cI 0 v31 λz32=>x10 a2 v30 z32 (.ofNat 0) sk)))
theorem aa0{R:cP}(hR:iv R){K:KF}{x10:aF}(h10:pY K x10):LG K (qH R K x10):=λa2 a3 a4 a33 alV H h=>pk hR (cc h10 .nil) h
def aa1(R:cP)(K:KF):DK:=qH R K (nx R K NL)
theorem aa2{R:cP}(hR:iv R){K:KF}:LG K (aa1 R K):=aa0 hR (Q2 hR NL)
def vE(R:cP)(K:KF)(x5:aI)(x3:cX)(x7:DK)(a2 a3 a4:AV)(H:AH):Prop:=af 0 a3 λv1=>ad v1 H λv2=>cI 0 v2 λz3=>bI (bq z3 (.ofNat 1)) (ad a2 H λv4=>af 3 a3 λv5=>ad v5 H λv6=>R.2.2.1 v4 v6 H λo7 H8=>cR K o7 H8 λv9=>ao a4 (af 0 a4 λv10=>ad v10 H8 λv11=>af 2 a3 λv12=>ad v12 H8 λv13=>cQ 1 16 v11 v13 H8 λv14 eM=>ao a4 (af 0 a4 λv16=>ah 1 v16 v14 eM λjO=>K (.ret (.aL [])) jO))) (bI (bq z3 (.ofNat 12)) (ao a4 (af 0 a4 λv18=>ad v18 H λv19=>af 2 a3 λv20=>ad v20 H λv21=>cQ 1 16 v19 v21 H λv22 qy=>ao a4 (af 0 a4 λv24=>ah 1 v24 v22 qy λrf=>x3 a2 a3 rf))) (bI (bq z3 (.ofNat 2)) (af 3 a3 λv26=>ad v26 H λv27=>af 3 a3 λv28=>ad v28 H λv29=>bN v29 λv30=>cI 0 v30 λz31=>s7 yI [(.int 0 z31)] (.int 0 (.ofNat 1)) λv32=>cI 0 v32 λz33=>fE 7 v27 none (some (.int 0 z33)) none λv34=>bN v34 λv35=>cI 0 v35 λz36=>x5 a2 a3 v34 z36 (.ofNat 0) H) (bI (bq z3 (.ofNat 8)) (ad a2 H λv37=>aN 5 a3 H λv38=>R.2.2.2.2.1 v37 v38 (.func 64 [] [a2,a3]) H λo39 H40=>cR K o39 H40 λv41=>K (.ret (.aL [])) H40) (bI (bq z3 (.ofNat 5)) (x7 a2 a3 a4 z3 (bq z3 (.ofNat 5)) H) (bI (bq z3 (.ofNat 6)) (x7 a2 a3 a4 z3 (bq z3 (.ofNat 6)) H) (x7 a2 a3 a4 z3 (bq z3 (.ofNat 7)) H))))))
theorem aa3{R:cP}(hR:iv R){K:KF}{x5:aI}{x3:cX}{x7:DK}(h5:LF K x5)(h3:LC K x3)(h7:LG K x7):LA K (vE R K x5 x3 x7):=λa2 a3 a4 H h=>pk hR (cc h5 (cc h3 (cc h7 .nil))) h
def aa4(R:cP)(K:KF):iS:=vE R K (aaV R K) (aaY R K) (aa1 R K)
theorem aa5{R:cP}(hR:iv R){K:KF}:LA K (aa4 R K):=aa3 hR (aaW hR) (aaZ hR) (aa2 hR)
def vF(R:cP)(K:KF)(x1:iS)(a2 a3 a4:AV)(my:Bool)(H:AH):Prop:=bI my (ao a4 (af 0 a4 λv1=>ad v1 H λv2=>bN v2 λv3=>cI 0 v3 λz4=>af 2 a3 λv5=>ad v5 H λv6=>bN v6 λv7=>cI 0 v7 λz8=>ax 0 (Int.add z4 z8) λz9=>bI (cg (.ofNat 150) z9) (af 1 a3 λv10=>ad v10 H λv11=>cI 0 v11 λz12=>rH (.iface 56 (.agg [(.int 0 (.ofNat 8)),(.int 0 z12)])) (K (.cG (.iface 56 (.agg [(.int 0 (.ofNat 8)),(.int 0 z12)]))) H)) (x1 a2 a3 a4 H))) (x1 a2 a3 a4 H)
theorem aa6{R:cP}(hR:iv R){K:KF}{x1:iS}(h1:LA K x1):LB K (vF R K x1):=λa2 a3 a4 my H h=>pk hR (cc h1 .nil) h
def aa7(R:cP)(K:KF):Hi:=vF R K (aa4 R K)
theorem aa8{R:cP}(hR:iv R){K:KF}:LB K (aa7 R K):=aa6 hR (aa5 hR)
def DY(R:cP)(K:KF)(x2:Hi)(a0 a1:AV)(H:AH):Prop:=mj (aB H) a0 λv1 H2=>mj (aB H2) a1 λv3 H4=>ad v1 H4 λv5=>R.2.1 v5 H4 λo6 H7=>cR K o6 H7 λv8=>af 0 v3 λv9=>ad v9 H7 λv10=>cI 0 v10 λz11=>bI (bq z11 (.ofNat 1)) (x2 v1 v3 v8 (bq z11 (.ofNat 1)) H7) (bI (bq z11 (.ofNat 12)) (x2 v1 v3 v8 (bq z11 (.ofNat 12)) H7) (bI (bq z11 (.ofNat 6)) (x2 v1 v3 v8 (bq z11 (.ofNat 6)) H7) (x2 v1 v3 v8 (bq z11 (.ofNat 7)) H7)))
theorem aa9{R:cP}(hR:iv R){K:KF}{x2:Hi}(h2:LB K x2)(a0 a1:AV)(H:AH)(h:DY R K x2 a0 a1 H):fb 45 K [] (bD (eD 45) [a0,a1]) [] H:=pk hR (cc h2 .nil) h
def alW(R:cP)(K:KF):cX:=DY R K (aa7 R K)
def Q3(R:cP):AV→AV→AH→KF→Prop:=λa0 a1 H K=>alW R K a0 a1 H
theorem ahu(R:cP)(hR:iv R):aC Tryd.prog 45 (aw [.a,.a] (Q3 R)):=rk λK a0 a1 H h=>aa9 hR (aa8 hR) a0 a1 H h
abbrev mC:Type:=(AV→AV→AH→KF→Prop)
def alX(R:mC):List (Nat×dq):=[(77,aw [.a,.a] R)]
abbrev DZ(R:mC):Prop:=ag Tryd.prog (alX R)
abbrev sK(K:KF)(F:aF):Prop:=aT 61 K [0,1] 16 [0,6,7,8] [.a,.a,.i 0,.i 0] F
def D0(R:mC)(K:KF)(x1:aF)(a0 a6:AV)(a7 a8:Int)(H:AH):Prop:=bI (cg a8 a7) (bf 7 a6 (.int 0 a8) λv1=>aN 7 v1 H λv2=>eJ H (fc Tryd.prog (aB H) 41 λv3 H4=>ah 7 v3 v2 H4 λH5=>aN 7 v3 H5 λv6=>R a0 v6 H5 λo7 H8=>cR K o7 H8 λv9=>ax 0 (Int.add a8 (.ofNat 1)) λz10=>x1 a0 a6 a7 z10 H8)) (K (.ret (.aL [])) H)
theorem aba{R:mC}(hR:DZ R){K:KF}{x1:aF}(h1:sK K x1):sK K (D0 R K x1):=λa0 a6 a7 a8 H h=>pk hR (cc h1 .nil) h
def abb(R:mC)(K:KF)(i1:aF):aF:=D0 R K i1
theorem abc{R:mC}(hR:DZ R){K:KF}{i1:aF}(g1:sK K i1):sK K (abb R K i1):=aba hR g1
def vG(R:mC)(K:KF)(n:Nat):aF:=Nat.rec (motive:=λ_=>aF) (λ_ _ _ _ _=>False) (λ_ i=>abb R K i) n
theorem abd{R:mC}(hR:DZ R){K:KF}(n:Nat):sK K (vG R K n):=Nat.rec (motive:=λn=>sK K (vG R K n)) (λa0 a6 a7 a8 H h=>h.elim) (λn ih=>abc hR ih) n
def D5(R:mC)(K:KF)(x1:aF)(a0 a1:AV)(H:AH):Prop:=bN a1 λv1=>cI 0 v1 λz2=>x1 a0 a1 z2 (.ofNat 0) H
theorem abe{R:mC}(hR:DZ R){K:KF}{x1:aF}(h1:sK K x1)(a0 a1:AV)(H:AH)(h:D5 R K x1 a0 a1 H):fb 61 K [] (bD (eD 61) [a0,a1]) [] H:=pk hR (cc h1 .nil) h
def alY(R:mC)(K:KF):cX:=D5 R K (vG R K NL)
def Q4(R:mC):AV→AV→AH→KF→Prop:=λa0 a1 H K=>alY R K a0 a1 H
theorem ahv(R:mC)(hR:DZ R):aC Tryd.prog 61 (aw [.a,.a] (Q4 R)):=rk λK a0 a1 H h=>abe hR (abd hR NL) a0 a1 H h
abbrev eO:Type:=(AV→AV→AV→AH→KF→Prop)×(AV→AH→KF→Prop)
def alZ(R:eO):List (Nat×dq):=[(20,aw [.a,.a,.a] R.1),(44,aw [.a] R.2)]
abbrev kI(R:eO):Prop:=ag Tryd.prog (alZ R)
abbrev LK(K:KF)(F:lX):Prop:=aT 63 K [1,1,1] 70 [0,4,5,6,7] [.a,.a,.a,.a,.i 0] F
abbrev D6(K:KF)(F:lX):Prop:=aT 63 K [1,1,1,1] 70 [0,4,5,6,7] [.a,.a,.a,.a,.i 0] F
abbrev LL(K:KF)(F:dW):Prop:=aT 63 K [1,1,1,1,1] 70 [6,7] [.a,.i 0] F
abbrev LM(K:KF)(F:lX):Prop:=aT 63 K [0,1,0,1,1,1] 70 [0,4,5,6,7] [.a,.a,.a,.a,.i 0] F
abbrev pj(K:KF)(F:dn):Prop:=aT 63 K [0,1,0,1,1,1,1] 70 [0,5,6,7,36,37,38] [.a,.a,.a,.i 0,.a,.i 0,.i 0] F
abbrev LN(K:KF)(F:dn):Prop:=aT 63 K [1,1,1,0,0,1,0,1,1,1,1] 70 [0,5,6,7,36,37,38] [.a,.a,.a,.i 0,.a,.i 0,.i 0] F
abbrev LO(K:KF)(F:tG):Prop:=aT 63 K [1,1,0,0,1,1,0,0,1,0,1,1,1,1] 70 [0,5,6,7,9,36,37,38] [.a,.a,.a,.i 0,.a,.a,.i 0,.i 0] F
def yj(R:eO)(K:KF)(x5:dn)(a0 a5 a6:AV)(a7:Int)(a36:AV)(a37 a38:Int)(H:AH):Prop:=ax 0 (Int.add a38 (.ofNat 1)) λz1=>x5 a0 a5 a6 a7 a36 a37 z1 H
theorem abf{R:eO}(hR:kI R){K:KF}{x5:dn}(h5:pj K x5):LN K (yj R K x5):=λa0 a5 a6 a7 a36 a37 a38 H h=>pk hR (cc h5 .nil) h
def abg(R:eO)(K:KF)(i5:dn):dn:=yj R K i5
theorem abh{R:eO}(hR:kI R){K:KF}{i5:dn}(g5:pj K i5):LN K (abg R K i5):=abf hR g5
def yk(R:eO)(K:KF)(x6:dn)(a0 a5 a6:AV)(a7:Int)(a9 a36:AV)(a37 a38:Int)(H:AH):Prop:=R.1 a0 a9 (.func 78 [] [a6,a5]) H λo1 H2=>cR K o1 H2 λv3=>ad a6 H2 λv4=>ao v4 (af 1 v4 λv5=>ad v5 H2 λv6=>cI 0 v6 λz7=>ax 0 (Int.sub z7 (.ofNat 1)) λz8=>ao v4 (af 1 v4 λv9=>ah 1 v9 (.int 0 z8) H2 λcm=>x6 a0 a5 a6 a7 a36 a37 a38 cm))
theorem abi{R:eO}(hR:kI R){K:KF}{x6:dn}(h6:LN K x6):LO K (yk R K x6):=λa0 a5 a6 a7 a9 a36 a37 a38 H h=>pk hR (cc h6 .nil) h
def abj(R:eO)(K:KF)(i5:dn):tG:=yk R K (abg R K i5)
theorem abk{R:eO}(hR:kI R){K:KF}{i5:dn}(g5:pj K i5):LO K (abj R K i5):=abi hR (abh hR g5)
def D7(R:eO)(K:KF)(a6:AV)(a7:Int)(H:AH):Prop:=ad a6 H λv1=>ad a6 H λv2=>ao v2 (af 0 v2 λv3=>ad v3 H λv4=>fE 1 v4 none (some (.int 0 a7)) none λv5=>ao v1 (af 0 v1 λv6=>ah 1 v6 v5 H λH7=>K (.ret (.aL [])) H7))
theorem abl{R:eO}(hR:kI R){K:KF}:LL K (D7 R K):=λa6 a7 H h=>pk hR .nil h
def abm(R:eO)(K:KF):dW:=D7 R K
theorem abn{R:eO}(hR:kI R){K:KF}:LL K (abm R K):=abl hR
def D8(R:eO)(K:KF)(x7:tG)(x3:dW)(a0 a5 a6:AV)(a7:Int)(a36:AV)(a37 a38:Int)(H:AH):Prop:=bI (cg a38 a37) (bf 1 a36 (.int 0 a38) λv1=>ad v1 H λv2=>ad a6 H λv3=>ao v3 (af 1 v3 λv4=>ad v4 H λv5=>cI 0 v5 λz6=>ax 0 (Int.add z6 (.ofNat 1)) λz7=>ao v3 (af 1 v3 λv8=>ah 1 v8 (.int 0 z7) H λH9=>x7 a0 a5 a6 a7 v2 a36 a37 a38 H9))) (x3 a6 a7 H)
theorem abo{R:eO}(hR:kI R){K:KF}{x7:tG}{x3:dW}(h7:LO K x7)(h3:LL K x3):pj K (D8 R K x7 x3):=λa0 a5 a6 a7 a36 a37 a38 H h=>pk hR (cc h7 (cc h3 .nil)) h
def abp(R:eO)(K:KF)(i5:dn):dn:=D8 R K (abj R K i5) (abm R K)
theorem abq{R:eO}(hR:kI R){K:KF}{i5:dn}(g5:pj K i5):pj K (abp R K i5):=abo hR (abk hR g5) (abn hR)
def po(R:eO)(K:KF)(n:Nat):dn:=Nat.rec (motive:=λ_=>dn) (λ_ _ _ _ _ _ _ _=>False) (λ_ i=>abp R K i) n
theorem abr{R:eO}(hR:kI R){K:KF}(n:Nat):pj K (po R K n):=Nat.rec (motive:=λn=>pj K (po R K n)) (λa0 a5 a6 a7 a36 a37 a38 H h=>h.elim) (λn ih=>abq hR ih) n
def vH(R:eO)(K:KF)(x5:dn)(a0 a4 a5 a6:AV)(a7:Int)(H:AH):Prop:=af 4 a4 λv1=>ad v1 H λv2=>bN v2 λv3=>cI 0 v3 λz4=>x5 a0 a5 a6 a7 v2 z4 (.ofNat 0) H
theorem abt{R:eO}(hR:kI R){K:KF}{x5:dn}(h5:pj K x5):D6 K (vH R K x5):=λa0 a4 a5 a6 a7 H h=>pk hR (cc h5 .nil) h
def LQ(R:eO)(K:KF):lX:=vH R K (po R K NL)
theorem GD{R:eO}(hR:kI R){K:KF}:D6 K (LQ R K):=abt hR (abr hR NL)
def D9(R:eO)(K:KF)(x2:lX)(a0 a4 a5 a6:AV)(a7:Int)(H:AH):Prop:=ad a6 H λv1=>ad a6 H λv2=>ao v2 (af 0 v2 λv3=>ad v3 H λv4=>af 2 a4 λv5=>ad v5 H λv6=>cQ 1 16 v4 v6 H λv7 H8=>ad a6 H8 λv9=>bT (bj v9 v1) (ao v1 (af 0 v1 λv10=>ah 1 v10 v7 H8 λiQ=>x2 a0 a4 a5 a6 a7 iQ)))
theorem abu{R:eO}(hR:kI R){K:KF}{x2:lX}(h2:D6 K x2):LM K (D9 R K x2):=λa0 a4 a5 a6 a7 H h=>pk hR (cc h2 .nil) h
def abv(R:eO)(K:KF):lX:=D9 R K (LQ R K)
theorem abw{R:eO}(hR:kI R){K:KF}:LM K (abv R K):=abu hR (GD hR)
def Ea(R:eO)(K:KF)(x4 x2:lX)(a0 a4 a5 a6:AV)(a7:Int)(H:AH):Prop:=af 0 a4 λv1=>ad v1 H λv2=>cI 0 v2 λz3=>bI (!(bq z3 (.ofNat 5))) (af 0 a4 λv4=>ad v4 H λv5=>cI 0 v5 λz6=>bI (!(bq z6 (.ofNat 8))) (x4 a0 a4 a5 a6 a7 H) (x2 a0 a4 a5 a6 a7 H)) (x2 a0 a4 a5 a6 a7 H)
theorem abx{R:eO}(hR:kI R){K:KF}{x4 x2:lX}(h4:LM K x4)(h2:D6 K x2):LK K (Ea R K x4 x2):=λa0 a4 a5 a6 a7 H h=>pk hR (cc h4 (cc h2 .nil)) h
def aby(R:eO)(K:KF):lX:=Ea R K (abv R K) (LQ R K)
theorem abz{R:eO}(hR:kI R){K:KF}:LK K (aby R K):=abx hR (abw hR) (GD hR)
def Eb(R:eO)(K:KF)(x1:lX)(a0 a1 a2:AV)(H:AH):Prop:=mj (aB H) a1 λv1 H2=>mj (aB H2) a2 λv3 H4=>R.2 a0 H4 λo5 H6=>cR K o5 H6 λv7=>eJ H6 (hN (aB H6) [.ll] λv8 H9=>ah 1 v8 v7 H9 λcm=>ad v8 cm λv11=>ao v11 (af 0 v11 λv12=>ad v12 cm λv13=>bN v13 λv14=>cI 0 v14 λmw=>x1 a0 v1 v3 v8 mw cm))
theorem abA{R:eO}(hR:kI R){K:KF}{x1:lX}(h1:LK K x1)(a0 a1 a2:AV)(H:AH)(h:Eb R K x1 a0 a1 a2 H):fb 63 K [] (bD (eD 63) [a0,a1,a2]) [] H:=pk hR (cc h1 .nil) h
def al0(R:eO)(K:KF):iS:=Eb R K (aby R K)
def Hj(R:eO):AV→AV→AV→AH→KF→Prop:=λa0 a1 a2 H K=>al0 R K a0 a1 a2 H
theorem ahw(R:eO)(hR:kI R):aC Tryd.prog 63 (aw [.a,.a,.a] (Hj R)):=rk λK a0 a1 a2 H h=>abA hR (abz hR) a0 a1 a2 H h
abbrev ry:Type:=(AV→AV→AH→KF→Prop)
def al1(R:ry):List (Nat×dq):=[(61,aw [.a,.a] R)]
abbrev afJ(R:ry):Prop:=ag Tryd.prog (al1 R)
def Ec(R:ry)(K:KF)(a0 a1:AV)(H:AH):Prop:=ad a0 H λv1=>af 3 a1 λv2=>ad v2 H λv3=>R v1 v3 H λo4 H5=>cR K o4 H5 λv6=>K (.ret (.aL [])) H5
theorem abB{R:ry}(hR:afJ R){K:KF}(a0 a1:AV)(H:AH)(h:Ec R K a0 a1 H):fb 64 K [] (bD (eD 64) [a0,a1]) [] H:=pk hR .nil h
def al2(R:ry)(K:KF):cX:=Ec R K
def Ed(R:ry):AV→AV→AH→KF→Prop:=λa0 a1 H K=>al2 R K a0 a1 H
theorem ahx(R:ry)(hR:afJ R):aC Tryd.prog 64 (aw [.a,.a] (Ed R)):=rk λK a0 a1 H h=>abB hR a0 a1 H h
abbrev iZ:Type:=(AV→AV→AV→AH→KF→Prop)×(AV→AV→AH→KF→Prop)
def al3(R:iZ):List (Nat×dq):=[(20,aw [.a,.a,.a] R.1),(77,aw [.a,.a] R.2)]
abbrev rz(R:iZ):Prop:=ag Tryd.prog (al3 R)
abbrev pq(K:KF)(F:aI):Prop:=aT 66 K [0,1,1] 30 [0,3,7,8,9] [.a,.a,.a,.i 0,.i 0] F
abbrev LU(K:KF)(F:aI):Prop:=aT 66 K [1,1,1,0,0,1,1] 30 [0,3,7,8,9] [.a,.a,.a,.i 0,.i 0] F
abbrev LV(K:KF)(F:jv):Prop:=aT 66 K [1,1,0,0,1,1,0,0,1,1] 30 [0,3,5,7,8,9] [.a,.a,.a,.a,.i 0,.i 0] F
def yl(R:iZ)(K:KF)(x1:aI)(a0 a3 a7:AV)(a8 a9:Int)(H:AH):Prop:=ax 0 (Int.add a9 (.ofNat 1)) λz1=>x1 a0 a3 a7 a8 z1 H
theorem abC{R:iZ}(hR:rz R){K:KF}{x1:aI}(h1:pq K x1):LU K (yl R K x1):=λa0 a3 a7 a8 a9 H h=>pk hR (cc h1 .nil) h
def abD(R:iZ)(K:KF)(i1:aI):aI:=yl R K i1
theorem abE{R:iZ}(hR:rz R){K:KF}{i1:aI}(g1:pq K i1):LU K (abD R K i1):=abC hR g1
def ym(R:iZ)(K:KF)(x2:aI)(a0 a3 a5 a7:AV)(a8 a9:Int)(H:AH):Prop:=R.1 a0 a5 (.func 79 [] []) H λo1 H2=>cR K o1 H2 λv3=>x2 a0 a3 a7 a8 a9 H2
theorem abF{R:iZ}(hR:rz R){K:KF}{x2:aI}(h2:LU K x2):LV K (ym R K x2):=λa0 a3 a5 a7 a8 a9 H h=>pk hR (cc h2 .nil) h
def abG(R:iZ)(K:KF)(i1:aI):jv:=ym R K (abD R K i1)
theorem abH{R:iZ}(hR:rz R){K:KF}{i1:aI}(g1:pq K i1):LV K (abG R K i1):=abF hR (abE hR g1)
def Ee(R:iZ)(K:KF)(x3:jv)(a0 a3 a7:AV)(a8 a9:Int)(H:AH):Prop:=bI (cg a9 a8) (bf 1 a7 (.int 0 a9) λv1=>ad v1 H λv2=>af 3 a3 λv3=>ad v3 H λv4=>bN v4 λv5=>cI 0 v5 λz6=>bI (cg a9 z6) (af 3 a3 λv7=>ad v7 H λv8=>bf 7 v8 (.int 0 a9) λv9=>aN 7 v9 H λv10=>R.2 a0 v10 H λkC bO=>cR K kC bO λv13=>x3 a0 a3 v2 a7 a8 a9 bO) (x3 a0 a3 v2 a7 a8 a9 H)) (K (.ret (.aL [])) H)
theorem abI{R:iZ}(hR:rz R){K:KF}{x3:jv}(h3:LV K x3):pq K (Ee R K x3):=λa0 a3 a7 a8 a9 H h=>pk hR (cc h3 .nil) h
def abJ(R:iZ)(K:KF)(i1:aI):aI:=Ee R K (abG R K i1)
theorem abK{R:iZ}(hR:rz R){K:KF}{i1:aI}(g1:pq K i1):pq K (abJ R K i1):=abI hR (abH hR g1)
def sL(R:iZ)(K:KF)(n:Nat):aI:=Nat.rec (motive:=λ_=>aI) (λ_ _ _ _ _ _=>False) (λ_ i=>abJ R K i) n
theorem abL{R:iZ}(hR:rz R){K:KF}(n:Nat):pq K (sL R K n):=Nat.rec (motive:=λn=>pq K (sL R K n)) (λa0 a3 a7 a8 a9 H h=>h.elim) (λn ih=>abK hR ih) n
def Ef(R:iZ)(K:KF)(x1:aI)(a0 a1:AV)(H:AH):Prop:=mj (aB H) a1 λv1 H2=>af 4 v1 λv3=>ad v3 H2 λv4=>bN v4 λv5=>cI 0 v5 λz6=>x1 a0 v1 v4 z6 (.ofNat 0) H2
theorem abM{R:iZ}(hR:rz R){K:KF}{x1:aI}(h1:pq K x1)(a0 a1:AV)(H:AH)(h:Ef R K x1 a0 a1 H):fb 66 K [] (bD (eD 66) [a0,a1]) [] H:=pk hR (cc h1 .nil) h
def al4(R:iZ)(K:KF):cX:=Ef R K (sL R K NL)
def Q5(R:iZ):AV→AV→AH→KF→Prop:=λa0 a1 H K=>al4 R K a0 a1 H
theorem ahy(R:iZ)(hR:rz R):aC Tryd.prog 66 (aw [.a,.a] (Q5 R)):=rk λK a0 a1 H h=>abM hR (abL hR NL) a0 a1 H h
abbrev dQ:Type:=(AV→AH→KF→Prop)×(AV→AV→AV→AH→KF→Prop)×(AV→AV→AH→KF→Prop)×(AV→AV→AH→KF→Prop)×(AV→AH→KF→Prop)
def al5(R:dQ):List (Nat×dq):=[(10,aw [.a] R.1),(20,aw [.a,.a,.a] R.2.1),(62,aw [.a,.a] R.2.2.1),(77,aw [.a,.a] R.2.2.2.1),(83,aw [.a] R.2.2.2.2)]
abbrev j8(R:dQ):Prop:=ag Tryd.prog (al5 R)
abbrev LW(K:KF)(F:cX):Prop:=aT 77 K [1,1] 79 [0,3] [.a,.a] F
abbrev LX(K:KF)(F:cX):Prop:=aT 77 K [1,1,1] 79 [0,3] [.a,.a] F
abbrev LY(K:KF)(F:cX):Prop:=aT 77 K [0,1,0,1] 79 [0,3] [.a,.a] F
abbrev sM(K:KF)(F:aI):Prop:=aT 77 K [0,1,0,1,1] 79 [0,3,29,30,31] [.a,.a,.a,.i 0,.i 0] F
abbrev pr(K:KF)(F:aF):Prop:=aT 77 K [0,1,1,1,1] 79 [0,40,41,42] [.a,.a,.i 0,.i 0] F
abbrev LZ(K:KF)(F:aF):Prop:=aT 77 K [1,1,1,0,0,1,1,1,1] 79 [0,40,41,42] [.a,.a,.i 0,.i 0] F
abbrev L9(K:KF)(F:aI):Prop:=aT 77 K [1,1,0,0,1,1,0,0,1,1,1,1] 79 [0,7,40,41,42] [.a,.a,.a,.i 0,.i 0] F
def Eg(R:dQ)(K:KF)(a0 a3:AV)(H:AH):Prop:=af 1 a3 λv1=>ad v1 H λv2=>cI 0 v2 λz3=>rH (.iface 56 (.agg [(.int 0 (.ofNat 14)),(.int 0 z3)])) (K (.cG (.iface 56 (.agg [(.int 0 (.ofNat 14)),(.int 0 z3)]))) H)
theorem abN{R:dQ}(hR:j8 R){K:KF}:LY K (Eg R K):=λa0 a3 H h=>pk hR .nil h
def abO(R:dQ)(K:KF):cX:=Eg R K
theorem abP{R:dQ}(hR:j8 R){K:KF}:LY K (abO R K):=abN hR
def vI(R:dQ)(K:KF)(x5:aF)(a0 a40:AV)(a41 a42:Int)(H:AH):Prop:=ax 0 (Int.add a42 (.ofNat 1)) λz1=>x5 a0 a40 a41 z1 H
theorem abQ{R:dQ}(hR:j8 R){K:KF}{x5:aF}(h5:pr K x5):LZ K (vI R K x5):=λa0 a40 a41 a42 H h=>pk hR (cc h5 .nil) h
def abR(R:dQ)(K:KF)(i5:aF):aF:=vI R K i5
theorem abS{R:dQ}(hR:j8 R){K:KF}{i5:aF}(g5:pr K i5):LZ K (abR R K i5):=abQ hR g5
def yn(R:dQ)(K:KF)(x6:aF)(a0 a7 a40:AV)(a41 a42:Int)(H:AH):Prop:=af 1 a7 λv1=>ad v1 H λv2=>R.2.1 a0 v2 (.func 84 [] []) H λo3 H4=>cR K o3 H4 λv5=>ao a0 (af 0 a0 λv6=>ad v6 H4 λv7=>ao a0 (af 0 a0 λv8=>ad v8 H4 λv9=>bN v9 λv10=>cI 0 v10 λz11=>ax 0 (Int.sub z11 (.ofNat 1)) λz12=>fE 1 v7 none (some (.int 0 z12)) none λv13=>ao a0 (af 0 a0 λv14=>ah 1 v14 v13 H4 λeM=>x6 a0 a40 a41 a42 eM)))
theorem abT{R:dQ}(hR:j8 R){K:KF}{x6:aF}(h6:LZ K x6):L9 K (yn R K x6):=λa0 a7 a40 a41 a42 H h=>pk hR (cc h6 .nil) h
def abU(R:dQ)(K:KF)(i5:aF):aI:=yn R K (abR R K i5)
theorem abV{R:dQ}(hR:j8 R){K:KF}{i5:aF}(g5:pr K i5):L9 K (abU R K i5):=abT hR (abS hR g5)
def Eh(R:dQ)(K:KF)(x7:aI)(a0 a40:AV)(a41 a42:Int)(H:AH):Prop:=bI (cg a42 a41) (bf 2 a40 (.int 0 a42) λv1=>aN 2 v1 H λv2=>eJ H (hN (aB H) [.ab,.ab] λv3 H4=>ah 2 v3 v2 H4 λH5=>ao a0 (af 0 a0 λv6=>ad v6 H5 λv7=>af 0 v3 λv8=>ad v8 H5 λv9=>R.2.2.2.2 v9 H5 λBM iQ=>cR K BM iQ λv12=>ad v6 iQ λv13=>bT (bj v13 v7) (one v12 (cL iQ (hN (aB iQ) [v12,(.int 0 (.ofNat 0))] λv14 eM=>bT (Nat.beq eM.n (Nat.succ iQ.n)) (cL eM (one v14 (aR (aB eM) 1 1 [v14] λv16 jO=>bT (Nat.beq jO.n (Nat.succ eM.n)) (cQ 1 8 v7 v16 jO λv18 kc=>ao a0 (af 0 a0 λv20=>ah 1 v20 v18 kc λgZ=>x7 a0 v3 a40 a41 a42 gZ))))))))))) (K (.ret (.aL [])) H)
theorem abW{R:dQ}(hR:j8 R){K:KF}{x7:aI}(h7:L9 K x7):pr K (Eh R K x7):=λa0 a40 a41 a42 H h=>pk hR (cc h7 .nil) h
def abX(R:dQ)(K:KF)(i5:aF):aF:=Eh R K (abU R K i5)
theorem abY{R:dQ}(hR:j8 R){K:KF}{i5:aF}(g5:pr K i5):pr K (abX R K i5):=abW hR (abV hR g5)
def qI(R:dQ)(K:KF)(n:Nat):aF:=Nat.rec (motive:=λ_=>aF) (λ_ _ _ _ _=>False) (λ_ i=>abX R K i) n
theorem abZ{R:dQ}(hR:j8 R){K:KF}(n:Nat):pr K (qI R K n):=Nat.rec (motive:=λn=>pr K (qI R K n)) (λa0 a40 a41 a42 H h=>h.elim) (λn ih=>abY hR ih) n
def Ei(R:dQ)(K:KF)(x5:aF)(a0 a3:AV)(H:AH):Prop:=af 6 a3 λv1=>ad v1 H λv2=>bN v2 λv3=>cI 0 v3 λz4=>x5 a0 v2 z4 (.ofNat 0) H
theorem ab0{R:dQ}(hR:j8 R){K:KF}{x5:aF}(h5:pr K x5):LX K (Ei R K x5):=λa0 a3 H h=>pk hR (cc h5 .nil) h
def ab1(R:dQ)(K:KF):cX:=Ei R K (qI R K NL)
theorem ab2{R:dQ}(hR:j8 R){K:KF}:LX K (ab1 R K):=ab0 hR (abZ hR NL)
def Ej(R:dQ)(K:KF)(x4:aI)(x2:cX)(a0 a3 a29:AV)(a30 a31:Int)(H:AH):Prop:=bI (cg a31 a30) (bf 7 a29 (.int 0 a31) λv1=>aN 7 v1 H λv2=>eJ H (fc Tryd.prog (aB H) 41 λv3 H4=>ah 7 v3 v2 H4 λH5=>aN 7 v3 H5 λv6=>R.2.2.2.1 a0 v6 H5 λo7 H8=>cR K o7 H8 λv9=>ax 0 (Int.add a31 (.ofNat 1)) λz10=>x4 a0 a3 a29 a30 z10 H8)) (x2 a0 a3 H)
theorem ab3{R:dQ}(hR:j8 R){K:KF}{x4:aI}{x2:cX}(h4:sM K x4)(h2:LX K x2):sM K (Ej R K x4 x2):=λa0 a3 a29 a30 a31 H h=>pk hR (cc h4 (cc h2 .nil)) h
def ab4(R:dQ)(K:KF)(i4:aI):aI:=Ej R K i4 (ab1 R K)
theorem ab5{R:dQ}(hR:j8 R){K:KF}{i4:aI}(g4:sM K i4):sM K (ab4 R K i4):=ab3 hR g4 (ab2 hR)
def sN(R:dQ)(K:KF)(n:Nat):aI:=Nat.rec (motive:=λ_=>aI) (λ_ _ _ _ _ _=>False) (λ_ i=>ab4 R K i) n
theorem ab6{R:dQ}(hR:j8 R){K:KF}(n:Nat):sM K (sN R K n):=Nat.rec (motive:=λn=>sM K (sN R K n)) (λa0 a3 a29 a30 a31 H h=>h.elim) (λn ih=>ab5 hR ih) n
def yo(R:dQ)(K:KF)(x4:aI)(a0 a3:AV)(H:AH):Prop:=af 5 a3 λv1=>ad v1 H λv2=>bN v2 λv3=>cI 0 v3 λz4=>x4 a0 a3 v2 z4 (.ofNat 0) H
theorem ab7{R:dQ}(hR:j8 R){K:KF}{x4:aI}(h4:sM K x4):LW K (yo R K x4):=λa0 a3 H h=>pk hR (cc h4 .nil) h
def ab8(R:dQ)(K:KF):cX:=yo R K (sN R K NL)
theorem ab9{R:dQ}(hR:j8 R){K:KF}:LW K (ab8 R K):=ab7 hR (ab6 hR NL)
def Ek(R:dQ)(K:KF)(x3 x1:cX)(a0 a1:AV)(H:AH):Prop:=mj (aB H) a1 λv1 H2=>af 0 v1 λv3=>ad v3 H2 λv4=>cI 0 v4 λz5=>bI (bq z5 (.ofNat 6)) (af 3 v1 λv6=>ad v6 H2 λv7=>R.2.2.1 a0 v7 H2 λo8 H9=>cR K o8 H9 λv10=>bS v10 λz11=>bI (!z11) (af 3 v1 λv12=>ad v12 H9 λv13=>R.1 v13 H9 λxY eM=>cR K xY eM λv16=>bS v16 λz17=>bI (!z17) (x3 a0 v1 eM) (x1 a0 v1 eM)) (x1 a0 v1 H9)) (x1 a0 v1 H2)
theorem aca{R:dQ}(hR:j8 R){K:KF}{x3 x1:cX}(h3:LY K x3)(h1:LW K x1)(a0 a1:AV)(H:AH)(h:Ek R K x3 x1 a0 a1 H):fb 77 K [] (bD (eD 77) [a0,a1]) [] H:=pk hR (cc h3 (cc h1 .nil)) h
def al6(R:dQ)(K:KF):cX:=Ek R K (abO R K) (ab8 R K)
def Q6(R:dQ):AV→AV→AH→KF→Prop:=λa0 a1 H K=>al6 R K a0 a1 H
theorem ahz(R:dQ)(hR:j8 R):aC Tryd.prog 77 (aw [.a,.a] (Q6 R)):=rk λK a0 a1 H h=>aca hR (abP hR) (ab9 hR) a0 a1 H h
abbrev kJ:Type:=(AV→AV→AH→KF→Prop)×(AH→KF→Prop)×(AV→AV→AH→KF→Prop)×(AH→KF→Prop)×(AH→KF→Prop)×(AV→AV→AH→KF→Prop)×(AH→KF→Prop)×(AH→KF→Prop)
def mU(R:kJ):List (Nat×dq):=[(19,aw [.a,.a] R.1),(21,aw [] R.2.1),(64,aw [.a,.a] R.2.2.1),(65,aw [] R.2.2.2.1),(67,aw [] R.2.2.2.2.1),(78,aw [.a,.a] R.2.2.2.2.2.1),(79,aw [] R.2.2.2.2.2.2.1),(84,aw [] R.2.2.2.2.2.2.2)]
abbrev Hk(R:kJ):Prop:=ag Tryd.prog (mU R)
abbrev Ma(K:KF)(F:Ta):Prop:=aT 78 K [1,1] 18 [0] [.a] F
def yp(R:kJ)(K:KF)(a0:AV)(H:AH):Prop:=ad a0 H λv1=>ao v1 (af 1 v1 λv2=>ad v2 H λv3=>cI 0 v3 λz4=>ax 0 (Int.add z4 (.ofNat 1)) λz5=>ao v1 (af 1 v1 λv6=>ah 1 v6 (.int 0 z5) H λH7=>K (.ret (.aL [])) H7))
theorem acb{R:kJ}(hR:Hk R){K:KF}:Ma K (yp R K):=λa0 H h=>pk hR .nil h
def acd(R:kJ)(K:KF):Ta:=yp R K
theorem ace{R:kJ}(hR:Hk R){K:KF}:Ma K (acd R K):=acb hR
def El(R:kJ)(K:KF)(x1:Ta)(a0 a1:AV)(H:AH):Prop:=ad a0 H λv1=>ao v1 (af 1 v1 λv2=>ad v2 H λv3=>cI 0 v3 λz4=>ax 0 (Int.sub z4 (.ofNat 1)) λz5=>ao v1 (af 1 v1 λv6=>ah 1 v6 (.int 0 z5) H λH7=>ad a1 H7 λv8=>uE v8 λg12 Gv y14=>bT (gb Tryd.prog g12) (jI (mU R) g12 (Gv++([]++y14)) H7 λo9 cm=>cR K o9 cm λv11=>x1 a0 cm)))
theorem acf{R:kJ}(hR:Hk R){K:KF}{x1:Ta}(h1:Ma K x1)(a0 a1:AV)(H:AH)(h:El R K x1 a0 a1 H):fb 78 K [] (bD (eD 78) [a0,a1]) [] H:=pk hR (cc h1 .nil) h
def al7(R:kJ)(K:KF):cX:=El R K (acd R K)
def Em(R:kJ):AV→AV→AH→KF→Prop:=λa0 a1 H K=>al7 R K a0 a1 H
theorem ahA(R:kJ)(hR:Hk R):aC Tryd.prog 78 (aw [.a,.a] (Em R)):=rk λK a0 a1 H h=>acf hR (ace hR) a0 a1 H h
abbrev Hl:Type:=Unit
def al8(R:Hl)(K:KF)(a0 a1:AV)(H:AH):Prop:=ao a0 (af 0 a0 λv1=>ad v1 H λv2=>cQ 1 16 v2 a1 H λv3 H4=>ao a0 (af 0 a0 λv5=>ah 1 v5 v3 H4 λH6=>ao a0 (af 1 a0 λv7=>ad v7 H6 λv8=>ao a0 (af 1 a0 λv9=>ad v9 H6 λv10=>bN v10 λv11=>cI 0 v11 λz12=>ax 0 (Int.sub z12 (.ofNat 1)) λz13=>ao a0 (af 1 a0 λv14=>ad v14 H6 λv15=>ao a0 (af 1 a0 λv16=>ad v16 H6 λv17=>bN v17 λv18=>cI 0 v18 λuU=>ax 0 (Int.sub uU (.ofNat 1)) λz20=>bf 1 v15 (.int 0 z20) λv21=>ad v21 H6 λv22=>cI 0 v22 λz23=>bN a1 λv24=>cI 0 v24 λz25=>ax 0 (Int.add z23 z25) λz26=>bf 1 v8 (.int 0 z13) λv27=>ah 1 v27 (.int 0 z26) H6 λpE=>K (.ret (.aL [])) pE))))))
def al9(R:Hl)(K:KF):cX:=al8 R K
def aoR(R:Hl):AV→AV→AH→KF→Prop:=λa0 a1 H K=>al9 R K a0 a1 H
def ama:Hl:=()
def f46:AV→AV→AH→KF→Prop:=aoR ama
abbrev Hm:Type:=Unit
def Mb(R:Hm)(K:KF)(a0:AV)(a1 a2:Int)(H:AH):Prop:=ao a0 (af 3 a0 λv1=>ad v1 H λv2=>cI 0 v2 λz3=>bI (bq z3 (.ofNat 0)) (ao a0 (af 3 a0 λv4=>ah 1 v4 (.int 0 a1) H λH5=>ao a0 (af 4 a0 λv6=>ah 1 v6 (.int 0 a2) H5 λH7=>K (.ret (.aL [])) H7))) (K (.ret (.aL [])) H))
def amb(R:Hm)(K:KF):iT:=Mb R K
def aoS(R:Hm):AV→Int→Int→AH→KF→Prop:=λa0 a1 a2 H K=>amb R K a0 a1 a2 H
def acg:Hm:=()
def f69:AV→Int→Int→AH→KF→Prop:=aoS acg
abbrev Hn:Type:=(AV→Int→Int→AH→KF→Prop)
def amc(R:Hn)(K:KF)(a0:AV)(a1 a2:Int)(H:AH):Prop:=ao a0 (af 1 a0 λv1=>ad v1 H λv2=>ao a0 (af 1 a0 λv3=>ad v3 H λv4=>bN v4 λv5=>cI 0 v5 λz6=>ax 0 (Int.sub z6 (.ofNat 1)) λz7=>bf 1 v2 (.int 0 z7) λv8=>ad v8 H λv9=>cI 0 v9 λz10=>ax 0 (Int.add z10 a1) λz11=>bI (cg (.ofNat 150) z11) (R a0 (.ofNat 8) a2 H λoY fu=>cR K oY fu λv14=>K (.ret (.aL [])) fu) (K (.ret (.aL [])) H)))
def amd(R:Hn)(K:KF):iT:=amc R K
def aoT(R:Hn):AV→Int→Int→AH→KF→Prop:=λa0 a1 a2 H K=>amd R K a0 a1 a2 H
def ame:Hn:=(f69)
def f68:AV→Int→Int→AH→KF→Prop:=aoT ame
abbrev lN:Type:=(AV→AV→AH→KF→Prop)×(AV→AV→AH→KF→Prop)×(AV→AV→AH→KF→Prop)
def amf(R:lN)(K:KF)(a0:AV)(a8 a9:Int)(H:AH):Prop:=ao a0 (af 0 a0 λv1=>ad v1 H λv2=>fE 1 v2 none (some (.int 0 a8)) none λv3=>ao a0 (af 0 a0 λv4=>ah 1 v4 v3 H λH5=>ao a0 (af 1 a0 λv6=>ad v6 H5 λv7=>ao a0 (af 1 a0 λv8=>ad v8 H5 λv9=>bN v9 λv10=>cI 0 v10 λz11=>ax 0 (Int.sub z11 (.ofNat 1)) λz12=>bf 1 v7 (.int 0 z12) λv13=>ah 1 v13 (.int 0 a9) H5 λdh=>K (.ret (.aL [])) dh))))
def ach(R:lN)(K:KF):iT:=amf R K
def amg(R:lN)(K:KF)(x3:iT)(a0 a3:AV)(a8 a9:Int)(H:AH):Prop:=R.2.2 a0 a3 H λo1 H2=>cR K o1 H2 λv3=>ao a0 (af 2 a0 λv4=>ad v4 H2 λv5=>ao a0 (af 2 a0 λv6=>ad v6 H2 λv7=>bN v7 λv8=>cI 0 v8 λz9=>ax 0 (Int.sub z9 (.ofNat 1)) λz10=>bf 1 v5 (.int 0 z10) λv11=>ad v11 H2 λv12=>cI 0 v12 λz13=>ax 0 (Int.add z13 (.ofNat 1)) λnM=>bf 1 v5 (.int 0 z10) λv15=>ah 1 v15 (.int 0 nM) H2 λeE=>x3 a0 a8 a9 eE))
def amh(R:lN)(K:KF):aF:=amg R K (ach R K)
def ami(R:lN)(K:KF)(x5:aF)(x3:iT)(a0 a3:AV)(a8 a9:Int)(H:AH):Prop:=bN a3 λv1=>cI 0 v1 λz2=>bI (cg (.ofNat 0) z2) (ao a0 (af 2 a0 λv3=>ad v3 H λv4=>ao a0 (af 2 a0 λv5=>ad v5 H λv6=>bN v6 λv7=>cI 0 v7 λz8=>ax 0 (Int.sub z8 (.ofNat 1)) λz9=>bf 1 v4 (.int 0 z9) λv10=>ad v10 H λv11=>cI 0 v11 λz12=>ax 0 (Int.sub z12 (.ofNat 1)) λz13=>bf 1 v4 (.int 0 z9) λv14=>ah 1 v14 (.int 0 z13) H λeM=>x5 a0 a3 a8 a9 eM))) (x3 a0 a8 a9 H)
def amj(R:lN)(K:KF):aF:=ami R K (amh R K) (ach R K)
def amk(R:lN)(K:KF)(x4:rK)(x2:aF)(a0 a1 a3:AV)(a8 a9 a10:Int)(H:AH):Prop:=bN a1 λv1=>cI 0 v1 λz2=>bI (cg a10 z2) (bf 5 a1 (.int 0 a10) λv3=>aN 5 v3 H λv4=>R.2.1 a0 v4 H λo5 H6=>cR K o5 H6 λv7=>ax 0 (Int.add a10 (.ofNat 1)) λz8=>x4 a0 a1 a3 a8 a9 z8 H6) (x2 a0 a3 a8 a9 H)
def aml(R:lN)(K:KF)(i4:rK):rK:=amk R K i4 (amj R K)
def amm(R:lN)(K:KF)(n:Nat):rK:=Nat.rec (motive:=λ_=>rK) (λ_ _ _ _ _ _ _=>False) (λ_ i=>aml R K i) n
def amn(R:lN)(K:KF)(x4:rK)(a0 a1 a2 a3:AV)(a8 a9:Int)(H:AH):Prop:=R.1 a0 a2 H λo1 H2=>cR K o1 H2 λv3=>x4 a0 a1 a3 a8 a9 (.ofNat 0) H2
def amo(R:lN)(K:KF):jv:=amn R K (amm R K NL)
def amp(R:lN)(K:KF)(x1:jv)(a0 a1 a2 a3:AV)(H:AH):Prop:=ao a0 (af 0 a0 λv1=>ad v1 H λv2=>bN v2 λv3=>cI 0 v3 λz4=>ao a0 (af 1 a0 λv5=>ad v5 H λv6=>ao a0 (af 1 a0 λv7=>ad v7 H λv8=>bN v8 λv9=>cI 0 v9 λz10=>ax 0 (Int.sub z10 (.ofNat 1)) λz11=>bf 1 v6 (.int 0 z11) λv12=>ad v12 H λv13=>cI 0 v13 λnM=>x1 a0 a1 a2 a3 z4 nM H)))
def amq(R:lN)(K:KF):zc:=amp R K (amo R K)
def aoU(R:lN):AV→AV→AV→AV→AH→KF→Prop:=λa0 a1 a2 a3 H K=>amq R K a0 a1 a2 a3 H
abbrev gj:Type:=(AV→AV→AV→AV→AH→KF→Prop)×(AV→AV→AH→KF→Prop)×(AV→AV→AH→KF→Prop)×(AV→AV→AH→KF→Prop)×(AV→Int→Int→AH→KF→Prop)×(AV→Int→Int→AH→KF→Prop)×(AV→AV→AH→KF→Prop)×(AV→AV→AV→AV→AH→KF→Prop)
def amr(R:gj)(K:KF)(a0 a3:AV)(H:AH):Prop:=af 3 a3 λv1=>ad v1 H λv2=>fE 7 v2 (some (.int 0 (.ofNat 1))) none none λv3=>R.2.2.2.1 a0 v3 H λo4 H5=>cR K o4 H5 λv6=>K (.ret (.aL [])) H5
def ams(R:gj)(K:KF):cX:=amr R K
def amt(R:gj)(K:KF)(x6:cX)(a0 a3 a4:AV)(H:AH):Prop:=af 0 a4 λv1=>ad v1 H λv2=>cI 0 v2 λz3=>bI (!(bq z3 (.ofNat 6))) (aN 7 a4 H λv4=>R.2.2.2.2.2.2.1 a0 v4 H λo5 H6=>cR K o5 H6 λv7=>x6 a0 a3 H6) (x6 a0 a3 H)
def aci(R:gj)(K:KF):iS:=amt R K (ams R K)
def amu(R:gj)(K:KF)(x5:iS)(a0 a3 a4:AV)(H:AH):Prop:=af 1 a4 λv1=>ad v1 H λv2=>cI 0 v2 λz3=>R.2.2.2.2.2.1 a0 (.ofNat 14) z3 H λo4 H5=>cR K o4 H5 λv6=>x5 a0 a3 a4 H5
def amv(R:gj)(K:KF):iS:=amu R K (aci R K)
def amw(R:gj)(K:KF)(x7 x5:iS)(a0 a3 a4:AV)(H:AH):Prop:=af 0 a4 λv1=>ad v1 H λv2=>cI 0 v2 λz3=>bI (bq z3 (.ofNat 6)) (ao a0 (af 0 a0 λv4=>ad v4 H λv5=>af 3 a4 λv6=>ad v6 H λv7=>R.2.1 v5 v7 H λo8 H9=>cR K o8 H9 λv10=>bS v10 λz11=>bI (!z11) (x7 a0 a3 a4 H9) (x5 a0 a3 a4 H9))) (x5 a0 a3 a4 H)
def amx(R:gj)(K:KF):iS:=amw R K (amv R K) (aci R K)
def amy(R:gj)(K:KF)(a0 a3:AV)(H:AH):Prop:=af 2 a3 λv1=>ad v1 H λv2=>R.2.2.1 a0 v2 H λo3 H4=>cR K o3 H4 λv5=>K (.ret (.aL [])) H4
def amz(R:gj)(K:KF):cX:=amy R K
def amA(R:gj)(K:KF)(a0 a3:AV)(H:AH):Prop:=af 3 a3 λv1=>ad v1 H λv2=>R.2.2.2.1 a0 v2 H λo3 H4=>cR K o3 H4 λv5=>K (.ret (.aL [])) H4
def amB(R:gj)(K:KF):cX:=amA R K
def ahB(R:gj)(K:KF)(x8:aE)(a0 a3:AV)(a5:Int)(H:AH):Prop:=ax 0 (Int.add a5 (.ofNat 1)) λz1=>x8 a0 a3 z1 H
def ahC(R:gj)(K:KF)(i8:aE):aE:=ahB R K i8
def ahD(R:gj)(K:KF)(x10:aE)(a0 a3:AV)(a5:Int)(H:AH):Prop:=af 4 a3 λv1=>ad v1 H λv2=>bf 1 v2 (.int 0 a5) λv3=>ad v3 H λv4=>R.1 a0 v4 .ab .ab H λo5 H6=>cR K o5 H6 λv7=>x10 a0 a3 a5 H6
def ahE(R:gj)(K:KF)(i8:aE):aE:=ahD R K (ahC R K i8)
def amC(R:gj)(K:KF)(x11:aE)(a0 a3:AV)(a5:Int)(H:AH):Prop:=af 4 a3 λv1=>ad v1 H λv2=>bN v2 λv3=>cI 0 v3 λz4=>bI (cg a5 z4) (af 3 a3 λv5=>ad v5 H λv6=>bN v6 λv7=>cI 0 v7 λz8=>bI (cg a5 z8) (af 3 a3 λv9=>ad v9 H λv10=>ax 0 (Int.add a5 (.ofNat 1)) λz11=>fE 7 v10 (some (.int 0 a5)) (some (.int 0 z11)) none λv12=>R.2.2.2.1 a0 v12 H λlB dh=>cR K lB dh λv15=>x11 a0 a3 a5 dh) (x11 a0 a3 a5 H)) (K (.ret (.aL [])) H)
def amD(R:gj)(K:KF)(i8:aE):aE:=amC R K (ahE R K i8)
def amE(R:gj)(K:KF)(n:Nat):aE:=Nat.rec (motive:=λ_=>aE) (λ_ _ _ _=>False) (λ_ i=>amD R K i) n
def amF(R:gj)(K:KF)(x9:aE)(a0 a3:AV)(a6:Int)(H:AH):Prop:=af 4 a3 λv1=>ad v1 H λv2=>bN v2 λv3=>cI 0 v3 λz4=>bI (cg a6 z4) (af 4 a3 λv5=>ad v5 H λv6=>bf 1 v6 (.int 0 a6) λv7=>ad v7 H λv8=>R.1 a0 v8 .ab .ab H λo9 cm=>cR K o9 cm λv11=>ax 0 (Int.add a6 (.ofNat 1)) λz12=>x9 a0 a3 z12 cm) (K (.ret (.aL [])) H)
def amG(R:gj)(K:KF)(i9:aE):aE:=amF R K i9
def amH(R:gj)(K:KF)(n:Nat):aE:=Nat.rec (motive:=λ_=>aE) (λ_ _ _ _=>False) (λ_ i=>amG R K i) n
def amI(R:gj)(K:KF)(x8 x9:aE)(a0 a3:AV)(a8:Int)(a89:Bool)(H:AH):Prop:=bI a89 (af 2 a3 λv1=>ad v1 H λv2=>bN v2 λv3=>cI 0 v3 λz4=>af 1 a3 λv5=>ad v5 H λv6=>cI 0 v6 λz7=>R.2.2.2.2.1 a0 z4 z7 H λo8 H9=>cR K o8 H9 λv10=>af 3 a3 λv11=>ad v11 H9 λv12=>R.2.2.2.1 a0 v12 H9 λlB dh=>cR K lB dh λv15=>af 4 a3 λv16=>ad v16 dh λv17=>bf 1 v17 (.int 0 (.ofNat 0)) λv18=>ad v18 dh λv19=>af 2 a3 λv20=>ad v20 dh λv21=>R.2.2.2.2.2.2.2 a0 v19 v21 .ab dh λTC qy=>cR K TC qy λv24=>K (.ret (.aL [])) qy) (bI (bq a8 (.ofNat 5)) (af 3 a3 λv25=>ad v25 H λv26=>R.2.2.2.1 a0 v26 H λo27 pE=>cR K o27 pE λv29=>af 4 a3 λv30=>ad v30 pE λv31=>bf 1 v31 (.int 0 (.ofNat 0)) λv32=>ad v32 pE λv33=>R.2.2.2.2.2.2.2 a0 v33 .ab .ab pE λo34 H35=>cR K o34 H35 λv36=>K (.ret (.aL [])) H35) (bI (bq a8 (.ofNat 8)) (af 4 a3 λv37=>ad v37 H λv38=>bf 1 v38 (.int 0 (.ofNat 0)) λv39=>ad v39 H λv40=>af 3 a3 λv41=>ad v41 H λv42=>R.2.2.2.2.2.2.2 a0 v40 .ab v42 H λo43 Om=>cR K o43 Om λv45=>K (.ret (.aL [])) Om) (bI (bq a8 (.ofNat 9)) (ao a0 (af 2 a0 λv46=>ad v46 H λv47=>ao a0 (af 2 a0 λv48=>ad v48 H λv49=>bN v49 λv50=>cI 0 v50 λz51=>ax 0 (Int.sub z51 (.ofNat 1)) λz52=>bf 1 v47 (.int 0 z52) λv53=>ad v53 H λv54=>cI 0 v54 λz55=>bI (bq z55 (.ofNat 0)) (af 1 a3 λv56=>ad v56 H λv57=>cI 0 v57 λz58=>R.2.2.2.2.2.1 a0 (.ofNat 14) z58 H λo59 H60=>cR K o59 H60 λv61=>K (.ret (.aL [])) H60) (K (.ret (.aL [])) H)))) (bI (bq a8 (.ofNat 4)) (x8 a0 a3 (.ofNat 0) H) (af 3 a3 λv62=>ad v62 H λv63=>R.2.2.2.1 a0 v63 H λo64 H65=>cR K o64 H65 λv66=>x9 a0 a3 (.ofNat 0) H65)))))
def amJ(R:gj)(K:KF):aft:=amI R K (amE R K NL) (amH R K NL)
def amK(R:gj)(K:KF)(x3:iS)(x1 x2:cX)(x4:aft)(a0 a1:AV)(H:AH):Prop:=mj (aB H) a1 λv1 H2=>af 0 v1 λv3=>ad v3 H2 λv4=>cI 0 v4 λz5=>bI (bq z5 (.ofNat 1)) (af 1 v1 λv6=>ad v6 H2 λv7=>cI 0 v7 λz8=>R.2.2.2.2.1 a0 (.ofNat 1) z8 H2 λo9 cm=>cR K o9 cm λv11=>af 3 v1 λv12=>ad v12 cm λv13=>R.2.2.2.1 a0 v13 cm λxY eM=>cR K xY eM λv16=>x1 a0 v1 eM) (bI (bq z5 (.ofNat 12)) (af 1 v1 λv17=>ad v17 H2 λv18=>cI 0 v18 λuU=>R.2.2.2.2.1 a0 (.ofNat 1) uU H2 λT9 gZ=>cR K T9 gZ λv22=>af 2 v1 λv23=>ad v23 gZ λv24=>R.2.2.1 a0 v24 gZ λIZ q9=>cR K IZ q9 λv27=>x2 a0 v1 q9) (bI (bq z5 (.ofNat 2)) (af 3 v1 λv28=>ad v28 H2 λv29=>bf 7 v29 (.int 0 (.ofNat 0)) λv30=>aN 7 v30 H2 λv31=>eJ H2 (fc Tryd.prog (aB H2) 41 λv32 Ol=>ah 7 v32 v31 Ol λH34=>x3 a0 v1 v32 H34)) (bI (bq z5 (.ofNat 6)) (x4 a0 v1 z5 (bq z5 (.ofNat 6)) H2) (x4 a0 v1 z5 (bq z5 (.ofNat 7)) H2))))
def amL(R:gj)(K:KF):cX:=amK R K (amx R K) (amz R K) (amB R K) (amJ R K)
def aoV(R:gj):AV→AV→AH→KF→Prop:=λa0 a1 H K=>amL R K a0 a1 H
abbrev mD:Type:=(AV→AH→KF→Prop)×(AV→AV→AH→KF→Prop)×(AV→Int→Int→AH→KF→Prop)×(AV→AV→AH→KF→Prop)
def vJ(R:mD)(K:KF)(x1:aE)(a0 a1:AV)(a4:Int)(H:AH):Prop:=ax 0 (Int.add a4 (.ofNat 1)) λz1=>x1 a0 a1 z1 H
def amM(R:mD)(K:KF)(i1:aE):aE:=vJ R K i1
def vK(R:mD)(K:KF)(x2:aE)(a0 a1:AV)(a4:Int)(a5:AV)(H:AH):Prop:=aN 7 a5 H λv1=>R.2.2.2 a0 v1 H λo2 H3=>cR K o2 H3 λv4=>x2 a0 a1 a4 H3
def acj(R:mD)(K:KF)(i1:aE):iV:=vK R K (amM R K i1)
def Mc(R:mD)(K:KF)(x3:iV)(a0 a1:AV)(a4:Int)(a5:AV)(H:AH):Prop:=af 1 a5 λv1=>ad v1 H λv2=>cI 0 v2 λz3=>R.2.2.1 a0 (.ofNat 14) z3 H λo4 H5=>cR K o4 H5 λv6=>x3 a0 a1 a4 a5 H5
def amN(R:mD)(K:KF)(i1:aE):iV:=Mc R K (acj R K i1)
def Md(R:mD)(K:KF)(x4 x3:iV)(a0 a1:AV)(a4:Int)(H:AH):Prop:=bN a1 λv1=>cI 0 v1 λz2=>bI (cg a4 z2) (bf 7 a1 (.int 0 a4) λv3=>aN 7 v3 H λv4=>eJ H (fc Tryd.prog (aB H) 41 λv5 H6=>ah 7 v5 v4 H6 λH7=>af 0 v5 λv8=>ad v8 H7 λv9=>cI 0 v9 λz10=>bI (bq z10 (.ofNat 6)) (ao a0 (af 0 a0 λv11=>ad v11 H7 λv12=>af 3 v5 λv13=>ad v13 H7 λv14=>R.2.1 v12 v14 H7 λCx eE=>cR K Cx eE λv17=>bS v17 λxX=>bI (!xX) (af 3 v5 λv19=>ad v19 eE λv20=>R.1 v20 eE λsj gU=>cR K sj gU λv23=>bS v23 λz24=>bI (!z24) (x4 a0 a1 a4 v5 gU) (x3 a0 a1 a4 v5 gU)) (x3 a0 a1 a4 v5 eE))) (x3 a0 a1 a4 v5 H7))) (K (.ret (.aL [])) H)
def amO(R:mD)(K:KF)(i1:aE):aE:=Md R K (amN R K i1) (acj R K i1)
def sO(R:mD)(K:KF)(n:Nat):aE:=Nat.rec (motive:=λ_=>aE) (λ_ _ _ _=>False) (λ_ i=>amO R K i) n
def Me(R:mD)(K:KF)(x1:aE)(a0 a1:AV)(H:AH):Prop:=x1 a0 a1 (.ofNat 0) H
def amP(R:mD)(K:KF):cX:=Me R K (sO R K NL)
def afK(R:mD):AV→AV→AH→KF→Prop:=λa0 a1 H K=>amP R K a0 a1 H
abbrev ny:Type:=(AV→AV→AV→AV→AH→KF→Prop)×(AV→AV→AH→KF→Prop)
def amQ(R:ny)(K:KF)(x1:aE)(a0 a3:AV)(a4:Int)(H:AH):Prop:=ax 0 (Int.add a4 (.ofNat 1)) λz1=>x1 a0 a3 z1 H
def amR(R:ny)(K:KF)(i1:aE):aE:=amQ R K i1
def amS(R:ny)(K:KF)(x2:aE)(a0 a3:AV)(a4:Int)(H:AH):Prop:=ao a0 (af 1 a0 λv1=>ad v1 H λv2=>ao a0 (af 1 a0 λv3=>ad v3 H λv4=>bN v4 λv5=>cI 0 v5 λz6=>ax 0 (Int.sub z6 (.ofNat 1)) λz7=>fE 1 v2 none (some (.int 0 z7)) none λv8=>ao a0 (af 2 a0 λv9=>ad v9 H λv10=>ao a0 (af 2 a0 λv11=>ad v11 H λv12=>bN v12 λv13=>cI 0 v13 λnM=>ax 0 (Int.sub nM (.ofNat 1)) λmw=>fE 1 v10 none (some (.int 0 mw)) none λv16=>ao a0 (af 1 a0 λv17=>ah 1 v17 v8 H λiy=>ao a0 (af 2 a0 λv19=>ah 1 v19 v16 iy λjs=>x2 a0 a3 a4 js))))))
def amT(R:ny)(K:KF)(i1:aE):aE:=amS R K (amR R K i1)
def amU(R:ny)(K:KF)(x4:aE)(a0 a3:AV)(a4:Int)(H:AH):Prop:=af 6 a3 λv1=>ad v1 H λv2=>bf 2 v2 (.int 0 a4) λv3=>af 1 v3 λv4=>ad v4 H λv5=>af 6 a3 λv6=>ad v6 H λv7=>bf 2 v7 (.int 0 a4) λv8=>af 0 v8 λv9=>ad v9 H λv10=>R.1 a0 v5 v10 .ab H λkC bO=>cR K kC bO λv13=>x4 a0 a3 a4 bO
def amV(R:ny)(K:KF)(i1:aE):aE:=amU R K (amT R K i1)
def amW(R:ny)(K:KF)(x3:aE)(a0 a3:AV)(a4:Int)(H:AH):Prop:=af 6 a3 λv1=>ad v1 H λv2=>bN v2 λv3=>cI 0 v3 λz4=>bI (cg a4 z4) (ao a0 (af 1 a0 λv5=>ad v5 H λv6=>cL H (aR (aB H) 1 1 [(.int 0 (.ofNat 0))] λv7 H8=>bT (Nat.beq H8.n (Nat.succ H.n)) (ao a0 (af 2 a0 λv9=>ad v9 H8 λv10=>cL H8 (aR (aB H8) 1 1 [(.int 0 (.ofNat 0))] λv11 bO=>bT (Nat.beq bO.n (Nat.succ H8.n)) (cQ 1 8 v6 v7 bO λv13 dh=>ad v9 dh λv15=>bT (bj v15 v10) (cQ 1 8 v10 v11 dh λv16 jO=>ao a0 (af 1 a0 λv18=>ah 1 v18 v13 jO λkc=>ao a0 (af 2 a0 λv20=>ah 1 v20 v16 kc λgZ=>x3 a0 a3 a4 gZ)))))))))) (K (.ret (.aL [])) H)
def amX(R:ny)(K:KF)(i1:aE):aE:=amW R K (amV R K i1)
def amY(R:ny)(K:KF)(n:Nat):aE:=Nat.rec (motive:=λ_=>aE) (λ_ _ _ _=>False) (λ_ i=>amX R K i) n
def amZ(R:ny)(K:KF)(x1:aE)(a0 a1:AV)(H:AH):Prop:=mj (aB H) a1 λv1 H2=>af 5 v1 λv3=>ad v3 H2 λv4=>R.2 a0 v4 H2 λo5 H6=>cR K o5 H6 λv7=>x1 a0 v1 (.ofNat 0) H6
def am0(R:ny)(K:KF):cX:=amZ R K (amY R K NL)
def aoW(R:ny):AV→AV→AH→KF→Prop:=λa0 a1 H K=>am0 R K a0 a1 H
abbrev ze:Type:=(AV→AV→AV→AV→AH→KF→Prop)
def am1(R:ze)(K:KF)(a0 a1 a2 a3:AV)(H:AH):Prop:=R a0 a1 a2 a3 H λo1 H2=>cR K o1 H2 λv3=>ao a0 (af 2 a0 λv4=>ad v4 H2 λv5=>ao a0 (af 2 a0 λv6=>ad v6 H2 λv7=>bN v7 λv8=>cI 0 v8 λz9=>ax 0 (Int.sub z9 (.ofNat 1)) λz10=>bf 1 v5 (.int 0 z10) λv11=>ad v11 H2 λv12=>cI 0 v12 λz13=>ax 0 (Int.sub z13 (.ofNat 1)) λnM=>bf 1 v5 (.int 0 z10) λv15=>ah 1 v15 (.int 0 nM) H2 λeE=>K (.ret (.aL [])) eE))
def am2(R:ze)(K:KF):zc:=am1 R K
def am3(R:ze)(K:KF)(x1:zc)(a0 a1 a2 a3:AV)(H:AH):Prop:=ao a0 (af 2 a0 λv1=>ad v1 H λv2=>ao a0 (af 2 a0 λv3=>ad v3 H λv4=>bN v4 λv5=>cI 0 v5 λz6=>ax 0 (Int.sub z6 (.ofNat 1)) λz7=>bf 1 v2 (.int 0 z7) λv8=>ad v8 H λv9=>cI 0 v9 λz10=>ax 0 (Int.add z10 (.ofNat 1)) λz11=>bf 1 v2 (.int 0 z7) λv12=>ah 1 v12 (.int 0 z11) H λfu=>x1 a0 a1 a2 a3 fu))
def am4(R:ze)(K:KF):zc:=am3 R K (am2 R K)
def aoX(R:ze):AV→AV→AV→AV→AH→KF→Prop:=λa0 a1 a2 a3 H K=>am4 R K a0 a1 a2 a3 H
abbrev yq:Type:=(AV→AV→AV→AV→AH→KF→Prop)×(AV→AV→AH→KF→Prop)×(AV→AV→AH→KF→Prop)×(AV→AV→AH→KF→Prop)×(AV→AV→AV→AV→AH→KF→Prop)
def am5(S:yq):lN:=(f46,S.2.1,S.2.2.1)
def am6(S:yq):gj:=(S.1,f25,f46,S.2.2.1,f68,f69,S.2.2.2.1,S.2.2.2.2)
def am7(S:yq):mD:=(f11,f25,f69,S.2.2.2.1)
def am8(S:yq):ny:=(S.1,S.2.2.1)
def am9(S:yq):ze:=(S.1)
noncomputable def s22(n:Nat):yq:=Nat.rec (motive:=λ_=>yq) (λ_ _ _ _ _ _=>False,λ_ _ _ _=>False,λ_ _ _ _=>False,λ_ _ _ _=>False,λ_ _ _ _ _ _=>False) (λ_ S=>(aoU (am5 S),aoV (am6 S),afK (am7 S),aoW (am8 S),aoX (am9 S))) n
def f22:AV→AV→AV→AV→AH→KF→Prop:=(s22 NL).1
abbrev Q7:Type:=(AV→AV→AV→AV→AH→KF→Prop)
def aoY(R:Q7)(K:KF)(a0:AV)(H:AH):Prop:=aR (aB H) 2 1 [(.str 4 1398359371),(.str 4 1447514689)] λv1 H2=>aR (aB H2) 1 1 [(.int 0 (.ofNat 2))] λv3 H4=>aR (aB H4) 1 1 [(.int 0 (.ofNat 0))] λv5 H6=>one v1 (one v3 (one v5 (hN (aB H6) [v1,v3,v5,(.int 0 (.ofNat 0)),(.int 0 (.ofNat 0))] λv7 H8=>R v7 a0 .ab .ab H8 λo9 cm=>cR K o9 cm λv11=>ao v7 (af 3 v7 λv12=>ad v12 cm λv13=>cI 0 v13 λnM=>ao v7 (af 4 v7 λv15=>ad v15 cm λv16=>cI 0 v16 λz17=>K (.ret (.aL [(.int 0 nM),(.int 0 z17)])) cm)))))
def aoZ(R:Q7)(K:KF):Ta:=aoY R K
def aqh(R:Q7):AV→AH→KF→Prop:=λa0 H K=>aoZ R K a0 H
def ao0:Q7:=(f22)
def f9:AV→AH→KF→Prop:=aqh ao0
abbrev FG:Type:=(AH→KF→Prop)×(AV→AH→KF→Prop)×(AV→AH→KF→Prop)×(AV→AH→KF→Prop)×(AV→AH→KF→Prop)×(AV→AH→KF→Prop)
def ao1(R:FG)(K:KF)(a1 a5:AV)(H:AH):Prop:=R.2.2.1 a5 H λo1 H2=>cR K o1 H2 λv3=>dU v3 λl4=>eQ l4 0 λv5=>cI 0 v5 λz6=>dU v3 λl7=>eQ l7 1 λv8=>cI 0 v8 λz9=>R.2.2.2.1 a5 H2 λBM iQ=>cR K BM iQ λv12=>dU v12 λl13=>eQ l13 0 λv14=>cI 0 v14 λmw=>dU v12 λl16=>eQ l16 1 λv17=>cI 0 v17 λxX=>R.1  iQ λJT js=>cR K JT js λv21=>bS v21 λz22=>bI z22 (bI (bq z6 mw) (bI (bq z9 xX) (R.2.2.2.2.1 a1 js λU1 pD=>cR K U1 pD λv25=>bS v25 λz26=>R.2.2.2.2.2 a1 pD λo27 pE=>cR K o27 pE λv29=>bS v29 λz30=>acN (.bool z26) (.bool z30) λv31=>bS v31 λz32=>K (.ret (.bool z32)) pE) (K (.ret (.bool false)) js)) (K (.ret (.bool false)) js)) (K (.ret (.bool false)) js)
def ao2(R:FG)(K:KF):cX:=ao1 R K
def ao3(R:FG)(K:KF)(x1:cX)(a0 a1:AV)(H:AH):Prop:=sLen a0 λv1=>cI 0 v1 λz2=>bI (cg (.ofNat 1500) z2) (R.1  H λo3 H4=>cR K o3 H4 λv5=>bS v5 λz6=>K (.ret (.bool z6)) H4) (sLen a1 λv7=>cI 0 v7 λz8=>bI (cg (.ofNat 100) z8) (R.1  H λo9 cm=>cR K o9 cm λv11=>bS v11 λz12=>K (.ret (.bool z12)) cm) (R.2.1 a0 H λlB dh=>cR K lB dh λv15=>dU v15 λl16=>eQ l16 0 λv17=>dU v15 λMf=>eQ Mf 1 λv19=>cI 0 v19 λz20=>dU v15 λl21=>eQ l21 2 λv22=>cI 0 v22 λz23=>bI (!(bq z20 (.ofNat 0))) (R.1  dh λTX rf=>cR K TX rf λv26=>bS v26 λz27=>K (.ret (.bool z27)) rf) (x1 a1 v17 dh)))
def ao4(R:FG)(K:KF):cX:=ao3 R K (ao2 R K)
def aqi(R:FG):AV→AV→AH→KF→Prop:=λa0 a1 H K=>ao4 R K a0 a1 H
abbrev Q8:Type:=Bool→Int→AV→AH→Prop
abbrev qJ:Type:=Bool→Int→AV→Int→Int→AH→Prop
abbrev fG:Type:=Bool→Int→AV→Int→Int→Int→AH→Prop
abbrev Ho:Type:=Bool→Int→Int→AV→AH→Prop
abbrev nR:Type:=Bool→Int→Int→AV→Int→AH→Prop
abbrev Hp:Type:=Int→AV→Int→Int→AH→Prop
abbrev aqj:Type:=Int→Bool→Int→AH→Prop
abbrev eL:Type:=(AH→KF→Prop)×(AV→AH→KF→Prop)×(AV→AH→KF→Prop)
def ao5(R:eL):List (Nat×dq):=[(6,aw [] R.1),(7,aw [.a] R.2.1),(8,aw [.a] R.2.2)]
abbrev kl(R:eL):Prop:=ag Tryd.prog (ao5 R)
abbrev Q9(K:KF)(F:Ho):Prop:=aT 5 K [1,1,1,1] 91 [1,2,7,8] [.b,.i 0,.i 0,.a] F
abbrev Ra(K:KF)(F:Q8):Prop:=aT 5 K [1,1,1,1,1] 91 [1,7,8] [.b,.i 0,.a] F
abbrev wQ(K:KF)(F:nR):Prop:=aT 5 K [0,1,0,1,1,1,1] 91 [1,2,7,8,9] [.b,.i 0,.i 0,.a,.i 0] F
abbrev Rb(K:KF)(F:qJ):Prop:=aT 5 K [1,1,1,1,1,1,1,1] 91 [1,7,8,10,11] [.b,.i 0,.a,.i 0,.i 0] F
abbrev Rc(K:KF)(F:qJ):Prop:=aT 5 K [1,1,1,1,1,1,1,1,1] 91 [1,7,8,10,11] [.b,.i 0,.a,.i 0,.i 0] F
abbrev Rd(K:KF)(F:Hp):Prop:=aT 5 K [1,1,1,1,1,1,1,1,1,1] 91 [7,8,10,11] [.i 0,.a,.i 0,.i 0] F
abbrev rA(K:KF)(F:fG):Prop:=aT 5 K [0,1,0,1,1,1,1,1,1,1,1] 91 [1,7,8,10,11,12] [.b,.i 0,.a,.i 0,.i 0,.i 0] F
abbrev Re(K:KF)(F:fG):Prop:=aT 5 K [1,1,0,0,1,0,1,1,1,1,1,1,1,1] 91 [1,7,8,10,11,12] [.b,.i 0,.a,.i 0,.i 0,.i 0] F
abbrev Rf(K:KF)(F:fG):Prop:=aT 5 K [1,0,0,1,0,0,1,0,1,1,1,1,1,1,1,1] 91 [1,7,8,10,11,12] [.b,.i 0,.a,.i 0,.i 0,.i 0] F
def Eo(R:eL)(K:KF)(x7:fG)(a1:Bool)(a7:Int)(a8:AV)(a10 a11 a12:Int)(H:AH):Prop:=ax 0 (Int.add a12 (.ofNat 1)) λz1=>x7 a1 a7 a8 a10 a11 z1 H
theorem adL{R:eL}(hR:kl R){K:KF}{x7:fG}(h7:rA K x7):Re K (Eo R K x7):=λa1 a7 a8 a10 a11 a12 H h=>pk hR (cc h7 .nil) h
def afL(R:eL)(K:KF)(i7:fG):fG:=Eo R K i7
theorem adM{R:eL}(hR:kl R){K:KF}{i7:fG}(g7:rA K i7):Re K (afL R K i7):=adL hR g7
def Ep(R:eL)(K:KF)(x8:fG)(a1:Bool)(a7:Int)(a8:AV)(a10 a11 a12:Int)(H:AH):Prop:=EU a8 (.str 8 2333744681770512236) λv1=>x8 a1 a7 v1 a10 a11 a12 H
theorem adN{R:eL}(hR:kl R){K:KF}{x8:fG}(h8:Re K x8):Rf K (Ep R K x8):=λa1 a7 a8 a10 a11 a12 H h=>pk hR (cc h8 .nil) h
def afM(R:eL)(K:KF)(i7:fG):fG:=Ep R K (afL R K i7)
theorem adO{R:eL}(hR:kl R){K:KF}{i7:fG}(g7:rA K i7):Rf K (afM R K i7):=adN hR (adM hR g7)
def Er(R:eL)(K:KF)(a7:Int)(a8:AV)(a10 a11:Int)(H:AH):Prop:=R.2.1 a8 H λo1 H2=>cR K o1 H2 λv3=>dU v3 λl4=>eQ l4 0 λv5=>dU v3 λl6=>eQ l6 1 λv7=>cI 0 v7 λz8=>dU v3 λl9=>eQ l9 2 λv10=>cI 0 v10 λz11=>R.2.2 v5 H2 λoY fu=>cR K oY fu λv14=>dU v14 λl15=>eQ l15 0 λv16=>cI 0 v16 λz17=>dU v14 λMf=>eQ Mf 1 λv19=>cI 0 v19 λz20=>bI (!(cg a11 a7)) (R.1  fu λsj gU=>cR K sj gU λv23=>bS v23 λz24=>bI z24 (bI (bq z8 (.ofNat 0)) (bI (bq z17 (.ofNat 0)) (K (.ret (.bool (bq z20 (.ofNat 0)))) gU) (K (.ret (.bool false)) gU)) (K (.ret (.bool false)) gU)) (K (.ret (.bool false)) gU)) (R.1  fu λIZ q9=>cR K IZ q9 λv27=>bS v27 λz28=>bI z28 (bI (bq z8 (.ofNat 0)) (bI (bq z17 (.ofNat 8)) (K (.ret (.bool (bq z20 a10))) q9) (K (.ret (.bool false)) q9)) (K (.ret (.bool false)) q9)) (K (.ret (.bool false)) q9))
theorem adP{R:eL}(hR:kl R){K:KF}:Rd K (Er R K):=λa7 a8 a10 a11 H h=>pk hR .nil h
def afN(R:eL)(K:KF):Hp:=Er R K
theorem adQ{R:eL}(hR:kl R){K:KF}:Rd K (afN R K):=adP hR
def Hq(R:eL)(K:KF)(x6:Hp)(a1:Bool)(a7:Int)(a8:AV)(a10 a11:Int)(H:AH):Prop:=bI a1 (EU a8 (.str 3 6581861) λv1=>x6 a7 v1 a10 a11 H) (x6 a7 a8 a10 a11 H)
theorem adR{R:eL}(hR:kl R){K:KF}{x6:Hp}(h6:Rd K x6):Rc K (Hq R K x6):=λa1 a7 a8 a10 a11 H h=>pk hR (cc h6 .nil) h
def afO(R:eL)(K:KF):qJ:=Hq R K (afN R K)
theorem adS{R:eL}(hR:kl R){K:KF}:Rc K (afO R K):=adR hR (adQ hR)
def Hr(R:eL)(K:KF)(x9:fG)(x5:qJ)(a1:Bool)(a7:Int)(a8:AV)(a10 a11 a12:Int)(H:AH):Prop:=bI (cg a12 a7) (bI (bq a12 a11) (sLen a8 λv1=>cI 0 v1 λz2=>x9 a1 a7 a8 z2 a11 a12 H) (x9 a1 a7 a8 a10 a11 a12 H)) (x5 a1 a7 a8 a10 a11 H)
theorem adT{R:eL}(hR:kl R){K:KF}{x9:fG}{x5:qJ}(h9:Rf K x9)(h5:Rc K x5):rA K (Hr R K x9 x5):=λa1 a7 a8 a10 a11 a12 H h=>pk hR (cc h9 (cc h5 .nil)) h
def afP(R:eL)(K:KF)(i7:fG):fG:=Hr R K (afM R K i7) (afO R K)
theorem adU{R:eL}(hR:kl R){K:KF}{i7:fG}(g7:rA K i7):rA K (afP R K i7):=adT hR (adO hR g7) (adS hR)
def wR(R:eL)(K:KF)(n:Nat):fG:=Nat.rec (motive:=λ_=>fG) (λ_ _ _ _ _ _ _=>False) (λ_ i=>afP R K i) n
theorem adV{R:eL}(hR:kl R){K:KF}(n:Nat):rA K (wR R K n):=Nat.rec (motive:=λn=>rA K (wR R K n)) (λa1 a7 a8 a10 a11 a12 H h=>h.elim) (λn ih=>adU hR ih) n
def Hs(R:eL)(K:KF)(x7:fG)(a1:Bool)(a7:Int)(a8:AV)(a10 a11:Int)(H:AH):Prop:=x7 a1 a7 a8 a10 a11 (.ofNat 0) H
theorem adW{R:eL}(hR:kl R){K:KF}{x7:fG}(h7:rA K x7):Rb K (Hs R K x7):=λa1 a7 a8 a10 a11 H h=>pk hR (cc h7 .nil) h
def afQ(R:eL)(K:KF):qJ:=Hs R K (wR R K NL)
theorem adX{R:eL}(hR:kl R){K:KF}:Rb K (afQ R K):=adW hR (adV hR NL)
def Ht(R:eL)(K:KF)(x4:qJ)(a1:Bool)(a7:Int)(a8:AV)(H:AH):Prop:=bI a1 (x4 a1 a7 a8 (.ofNat 0) (.ofNat 150) H) (x4 a1 a7 a8 (.ofNat 0) (.ofNat 148) H)
theorem adY{R:eL}(hR:kl R){K:KF}{x4:qJ}(h4:Rb K x4):Ra K (Ht R K x4):=λa1 a7 a8 H h=>pk hR (cc h4 .nil) h
def afR(R:eL)(K:KF):Q8:=Ht R K (afQ R K)
theorem adZ{R:eL}(hR:kl R){K:KF}:Ra K (afR R K):=adY hR (adX hR)
def Hu(R:eL)(K:KF)(x3:nR)(x2:Q8)(a1:Bool)(a2 a7:Int)(a8:AV)(a9:Int)(H:AH):Prop:=ax 3 a2 λz1=>bI (bq (.ofNat 20) 0) False (jB (Int.tmod z1 (.ofNat 20)) λz2=>ax 0 z2 λz3=>bI (cg a9 z3) (EU a8 (.str 23 3102566866157794967423829780017747123011582099009335140) λv4=>ax 0 (Int.add a9 (.ofNat 1)) λz5=>x3 a1 a2 a7 v4 z5 H) (x2 a1 a7 a8 H))
theorem ad0{R:eL}(hR:kl R){K:KF}{x3:nR}{x2:Q8}(h3:wQ K x3)(h2:Ra K x2):wQ K (Hu R K x3 x2):=λa1 a2 a7 a8 a9 H h=>pk hR (cc h3 (cc h2 .nil)) h
def afS(R:eL)(K:KF)(i3:nR):nR:=Hu R K i3 (afR R K)
theorem ad1{R:eL}(hR:kl R){K:KF}{i3:nR}(g3:wQ K i3):wQ K (afS R K i3):=ad0 hR g3 (adZ hR)
def zf(R:eL)(K:KF)(n:Nat):nR:=Nat.rec (motive:=λ_=>nR) (λ_ _ _ _ _ _=>False) (λ_ i=>afS R K i) n
theorem ad2{R:eL}(hR:kl R){K:KF}(n:Nat):wQ K (zf R K n):=Nat.rec (motive:=λn=>wQ K (zf R K n)) (λa1 a2 a7 a8 a9 H h=>h.elim) (λn ih=>ad1 hR ih) n
def Hv(R:eL)(K:KF)(x3:nR)(a1:Bool)(a2 a7:Int)(a8:AV)(H:AH):Prop:=x3 a1 a2 a7 a8 (.ofNat 0) H
theorem ad3{R:eL}(hR:kl R){K:KF}{x3:nR}(h3:wQ K x3):Q9 K (Hv R K x3):=λa1 a2 a7 a8 H h=>pk hR (cc h3 .nil) h
def afT(R:eL)(K:KF):Ho:=Hv R K (zf R K NL)
theorem ad4{R:eL}(hR:kl R){K:KF}:Q9 K (afT R K):=ad3 hR (ad2 hR NL)
def Hw(R:eL)(K:KF)(x1:Ho)(a0:Int)(a1:Bool)(a2:Int)(H:AH):Prop:=ax 3 a0 λz1=>bI (bq (.ofNat 20) 0) False (jB (Int.tmod z1 (.ofNat 20)) λz2=>ax 0 z2 λz3=>ax 0 (Int.add (.ofNat 140) z3) λz4=>bI a1 (x1 a1 a2 z4 (.str 21 47003022666263580512491423601275476348955544219500) H) (x1 a1 a2 z4 (.str 0 0) H))
theorem ad5{R:eL}(hR:kl R){K:KF}{x1:Ho}(h1:Q9 K x1)(a0:Int)(a1:Bool)(a2:Int)(H:AH)(h:Hw R K x1 a0 a1 a2 H):fb 5 K [] (bD (eD 5) [(.int 0 a0),(.bool a1),(.int 0 a2)]) [] H:=pk hR (cc h1 .nil) h
def ao6(R:eL)(K:KF):aqj:=Hw R K (afT R K)
def ana(R:eL):Int→Bool→Int→AH→KF→Prop:=λa0 a1 a2 H K=>ao6 R K a0 a1 a2 H
theorem anb(R:eL)(hR:kl R):aC Tryd.prog 5 (aw [.i 0,.b,.i 0] (ana R)):=rk λK a0 a1 a2 H h=>ad5 hR (ad4 hR) a0 a1 a2 H h
abbrev Rg:Type:=Int→Int→AV→AH→Prop
abbrev qV:Type:=(AV→AH→KF→Prop)×(AV→AH→KF→Prop)×(AV→AH→KF→Prop)×(AV→AV→AH→KF→Prop)×(AV→AH→KF→Prop)
def ao7(R:qV):List (Nat×dq):=[(7,aw [.a] R.1),(8,aw [.a] R.2.1),(10,aw [.a] R.2.2.1),(13,aw [.a,.a] R.2.2.2.1),(14,aw [.a] R.2.2.2.2)]
abbrev Rh(R:qV):Prop:=ag Tryd.prog (ao7 R)
abbrev Ri(K:KF)(F:Rg):Prop:=aT 6 K [1,1,1,1] 79 [4,5,6] [.i 0,.i 0,.a] F
def afU(R:qV)(K:KF)(a4 a5:Int)(a6:AV)(H:AH):Prop:=R.1 (.str 57 72997307505964344531455894998086941320034283952814635181180859164384563638121298425138771564722490727585656762664047096222917768750788460) H λo1 H2=>cR K o1 H2 λv3=>dU v3 λl4=>eQ l4 0 λv5=>dU v3 λl6=>eQ l6 1 λv7=>cI 0 v7 λz8=>dU v3 λl9=>eQ l9 2 λv10=>cI 0 v10 λz11=>R.2.1 v5 H2 λoY fu=>cR K oY fu λv14=>dU v14 λl15=>eQ l15 0 λv16=>cI 0 v16 λz17=>dU v14 λMf=>eQ Mf 1 λv19=>cI 0 v19 λz20=>bI (bq a4 (.ofNat 14)) (bI (bq a5 (.ofNat 7)) (bN a6 λv21=>cI 0 v21 λz22=>bI (bq z22 (.ofNat 0)) (bI (bq z17 (.ofNat 0)) (bI (bq z20 (.ofNat 0)) (bf 5 v5 (.int 0 (.ofNat 1)) λv23=>af 3 v23 λv24=>ad v24 fu λv25=>bf 7 v25 (.int 0 (.ofNat 0)) λv26=>af 6 v26 λv27=>ad v27 fu λv28=>bf 2 v28 (.int 0 (.ofNat 0)) λv29=>aN 2 v29 fu λv30=>R.2.2.2.2 v30 fu λo31 H32=>cR K o31 H32 λv33=>aR (aB H32) 1 1 [(.str 1 120)] λv34 H35=>R.2.2.2.1 v33 v34 H35 λo36 H37=>cR K o36 H37 λv38=>bS v38 λz39=>bI z39 (R.2.2.1 (.str 4 1819042147) H37 λo40 H41=>cR K o40 H41 λv42=>bS v42 λz43=>bI z43 (R.2.2.1 (.str 4 1398359371) H41 λo44 H45=>cR K o44 H45 λv46=>bS v46 λz47=>K (.ret (.bool (!z47))) H45) (K (.ret (.bool false)) H41)) (K (.ret (.bool false)) H37)) (K (.ret (.bool false)) fu)) (K (.ret (.bool false)) fu)) (K (.ret (.bool false)) fu)) (K (.ret (.bool false)) fu)) (K (.ret (.bool false)) fu)
theorem ad6{R:qV}(hR:Rh R){K:KF}:Ri K (afU R K):=λa4 a5 a6 H h=>pk hR .nil h
def afV(R:qV)(K:KF):Rg:=afU R K
theorem ad7{R:qV}(hR:Rh R){K:KF}:Ri K (afV R K):=ad6 hR
def afW(R:qV)(K:KF)(x1:Rg)(H:AH):Prop:=R.1 (.str 8 8656039921681982834) H λo1 H2=>cR K o1 H2 λv3=>dU v3 λl4=>eQ l4 0 λv5=>dU v3 λl6=>eQ l6 1 λv7=>cI 0 v7 λz8=>dU v3 λl9=>eQ l9 2 λv10=>cI 0 v10 λz11=>R.2.1 v5 H2 λoY fu=>cR K oY fu λv14=>dU v14 λl15=>eQ l15 0 λv16=>cI 0 v16 λz17=>dU v14 λMf=>eQ Mf 1 λv19=>cI 0 v19 λz20=>R.1 (.str 48 15457781127726651273577807304690796729515443873022912438520953111786733197608385440382277905080053345952144440913772) fu λsj gU=>cR K sj gU λv23=>dU v23 λl24=>eQ l24 0 λv25=>dU v23 λl26=>eQ l26 1 λv27=>cI 0 v27 λz28=>dU v23 λl29=>eQ l29 2 λv30=>cI 0 v30 λz31=>x1 z17 z20 v25 gU
theorem ad8{R:qV}(hR:Rh R){K:KF}{x1:Rg}(h1:Ri K x1)(H:AH)(h:afW R K x1 H):fb 6 K [] (bD (eD 6) []) [] H:=pk hR (cc h1 .nil) h
def ao8(R:qV)(K:KF):T_:=afW R K (afV R K)
def anc(R:qV):AH→KF→Prop:=fun  H K=>ao8 R K  H
theorem ane(R:qV)(hR:Rh R):aC Tryd.prog 6 (aw [] (anc R)):=rk λK  H h=>ad8 hR (ad7 hR)  H h
end Go.Proofs.YtcedghechlgecaaDoor.G
