/- Script of the program and of the document, Same, told, tree.Same, tree.Bare, the law ParseJoins over texts as lists (names shortened). No condition: lemmas. -/
import Derived.Test.YtcedghechlgecaaGreatDoorLa
set_option maxRecDepth 100000
set_option maxHeartbeats 0
set_option linter.unusedVariables false
set_option linter.unusedSimpArgs false
namespace Go.Proofs.YtcedghechlgecaaGreatDoor.G
open Go Go.X
abbrev uh:Type:=(AV→AH→KF→Prop)×(AV→AH→KF→Prop)×(AV→AH→KF→Prop)×(AV→Int→AH→KF→Prop)
noncomputable def acb(R:uh):List (Nat×cW):=[(21,ao [.a] R.1),(23,ao [.a] R.2.1),(24,ao [.a] R.2.2.1),(25,ao [.a,.i 0] R.2.2.2)]
noncomputable def SF(R:AV→AH→KF→Prop)(K:KF)(v:AV)(a0 a1 a2 a3:AV)(X:AH→Prop)(H:AH):Prop:=ur 57 (.agg []) true v λv1=>dX v1 λl2=>cP l2 0 λv3=>dX v1 λl4=>cP l4 1 λv5=>bO v5 λz6=>cD H (fV (aP H) [] λv7 H8=>ag 0 v7 v3 H8 λH9=>bI z6 (aC a0 H9 λv10=>cK v10 (aL 3 v10 λv11=>aC v11 H9 λv12=>cI 0 v12 λz13=>aC a0 H9 λv14=>R v14 H9 λwM iU=>cR K wM iU λv17=>aC v11 iU λv18=>cI 0 v18 λmS=>bT (aT (.int 0 mS) (.int 0 z13)) (aC a0 iU λv20=>bT (aT v20 v10) (fQ v17 λMz=>cP Mz 3 λv22=>cI 0 v22 λz23=>ag 1 a1 .ab iU λie=>ag 1 a2 (.int 0 z13) ie λkN=>ag 1 a3 (.int 0 z23) kN λuK=>X uK)))) (X H9))
noncomputable def xX(K:KF)(a2 a3 a4:AV)(H:AH):Prop:=aC a2 H λv5=>aC a3 H λv6=>aC a4 H λv7=>K (.ret (.bD [v5,v6,v7])) H
noncomputable def As(R:uh)(K:KF)(a2 a3 a4 a8:AV)(v:AV)(H:AH):Prop:=SF R.2.1 K v a8 a2 a3 a4 (xX K a2 a3 a4) H
noncomputable def aa7(R:uh)(K:KF)(a2 a3 a4 a8:AV):KF:=λo H=>match o with|.cZ v=>As R K a2 a3 a4 a8 v H|.ret v=>False
noncomputable def GY(R:uh)(K:KF)(a2 a3 a4 a8:AV)(H:AH):Prop:=aC a8 H λv1=>R.2.2.1 v1 H λo2 H3=>cR (aa7 R K a2 a3 a4 a8) o2 H3 λv4=>ag 1 a2 v4 H3 λH5=>aC a8 H5 λv6=>R.2.1 v6 H5 λo7 H8=>cR (aa7 R K a2 a3 a4 a8) o7 H8 λv9=>fQ v9 λl10=>cP l10 0 λv11=>cI 0 v11 λz12=>bI (!(bX z12 (.ofNat 0)))
 (aC a8 H8 λv13=>R.2.2.2 v13 (.ofNat 14) H8 λoD eM=>cR (aa7 R K a2 a3 a4 a8) oD eM λv16=>aC a2 eM λv1=>ag 1 a2 v1 eM λH2=>ag 1 a3 (.int 0 (.ofNat 0)) H2 λH3=>ag 1 a4 (.int 0 (.ofNat 0)) H3 λH4=>As R K a2 a3 a4 a8 .dZ H4)
 (aC a2 H8 λv1=>ag 1 a2 v1 H8 λH2=>ag 1 a3 (.int 0 (.ofNat 0)) H2 λH3=>ag 1 a4 (.int 0 (.ofNat 0)) H3 λH4=>As R K a2 a3 a4 a8 .dZ H4)
noncomputable def KN(R:uh)(K:KF)(a0:AV)(H:AH):Prop:=cD H (fV (aP H) [.ab] λv1 H2=>cD H2 (fV (aP H2) [(.int 0 (.ofNat 0))] λv3 H4=>cD H4 (fV (aP H4) [(.int 0 (.ofNat 0))] λv5 H6=>R.1 a0 H6 λo7 H8=>cR K o7 H8 λv9=>dX v9 λl10=>cP l10 0 λv11=>dX v9 λl12=>cP l12 1 λv13=>cI 0 v13 λqe=>dX v9 λl15=>cP l15 2 λv16=>cI 0 v16 λz17=>bI (!(bX qe (.ofNat 0))) (ag 1 v1 .ab H8 λgm=>ag 1 v3 (.int 0 qe) gm λjN=>ag 1 v5 (.int 0 z17) jN λjj=>xX K v1 v3 v5 jj) (one v11 (fV (aP H8) [v11,(.int 0 (.ofNat 0)),(.int 0 (.ofNat 0)),(.int 0 (.ofNat 0))] λv24 kN=>cD kN (fV (aP kN) [.iL] λv26 nF=>ag 1 v26 v24 nF λsj=>GY R K v1 v3 v5 v26 sj))))))
theorem ajA(R:uh)(K:KF)(a0:AV)(H:AH):KN R K a0 H=OF (eO (acb R)) (Gy Tryz.prog (eO (acb R))) Tryz.prog Tryz.prog.globals.size 400 400 8 [a0] H K:=by kernel_rfl
end Go.Proofs.YtcedghechlgecaaGreatDoor.G
namespace Go.Proofs.YtcedghechlgecaaGreatDoor
open Go Go.X Go.Proofs.YtcedghechlgecaaGreatDoor.G
section
variable {H:AH}{S:LS}{K:KF}{C:Ctx}{i d:Nat}
theorem ahe{c:Nat}(hM:Mem H S)(hp:Ak C S c i)(hK:∀H' S',Mem H' S'→aD cB S S'→K (.ret (.agg (eW C.T i))) H'):f23 (.ptr C.bp 0) H K:=by
 obtain⟨⟨d,hob⟩,tk,lt⟩:=hp;show uH Bj K (.ptr C.bp 0) H;unfold uH;refine cn (b9 hM (λa ha=>?_) λH1 m1=>?_)
 ·simp only[List.mem_cons,List.not_mem_nil,or_false]at ha;rcases ha with rfl|rfl|rfl|rfl<;>rfl
 have c1:aD cB S (S.push (.ce [.int 0 (.ofNat 0),.str 0 0,.int 0 (.ofNat 0),.int 0 (.ofNat 0)] 0)):=(aD.refl _ _).push _;have o1:=c1.ob hM hob λq=>q;have t1:=tk.keep hM λb _ hb=>c1.2 b hb λq=>q;simp only[dG,bu,Nat.zero_add];refine aG m1 o1 (v:=C.vT) rfl ?_;refine aG m1 o1 (v:=.int 0 (i:Int)) rfl ?_;simp only[aR];refine t1.load m1 lt ?_;rw[Al lt];refine iu m1 (LS.ak _ _) (by omega) rfl (by show 0+4≤4;omega) (λa ha=>?_) λH2 m2=>?_
 ·simp only[eW,List.mem_cons,List.not_mem_nil,or_false]at ha;rcases ha with rfl|rfl|rfl|rfl<;>rfl
 have m2:Mem H2 ((S.push (.ce [.int 0 (.ofNat 0),.str 0 0,.int 0 (.ofNat 0),.int 0 (.ofNat 0)] 0)).set S.n (.ce (eW C.T i) 0)):=m2;have c2:=c1.set (b:=S.n) (.inr (Nat.le_refl _)) (.ce (eW C.T i) 0);refine oR m2 (LS.ay _ _ _) (by show 0+4≤4;omega) ?_;exact hK H2 _ m2 c2
def X3(o c t:Nat):Nat→Prop:=λb=>b=o∨b=c∨b=t
theorem KO{o c t:Nat}{x y z:AV}{v:AV}{n p:Int}(hv:v.one=true)(hM:Mem H S)(ho:S.ob o=.ce [x] 0)(hc:S.ob c=.ce [y] 0)(ht:S.ob t=.ce [z] 0)(h1:o≠c)(h2:o≠t)(h3:c≠t){k:AH→Prop}
  (hk:∀H' S',Mem H' S'→aD (X3 o c t) S S'→S'.ob o=.ce [v] 0→S'.ob c=.ce [.int 0 n] 0→S'.ob t=.ce [.int 0 p] 0→k H') :
  ag 1 (.ptr o 0) v H λH2=>ag 1 (.ptr c 0) (.int 0 n) H2 λH3=>ag 1 (.ptr t 0) (.int 0 p) H3 k:=by
 refine bj (v:=v) hM ho (by omega) (by show 0<1;omega) hv λH2 m2=>?_;have m2:Mem H2 (S.set o (.ce [v] 0)):=m2;refine bj (v:=.int 0 n) m2 ((LS.aq _ _ (Ne.symm h1)).trans hc) (by omega) (by show 0<1;omega) rfl λH3 m3=>?_;have m3:Mem H3 ((S.set o (.ce [v] 0)).set c (.ce [.int 0 n] 0)):=m3;refine bj (v:=.int 0 p) m3 ((LS.aq _ _ (Ne.symm h3)).trans ((LS.aq _ _ (Ne.symm h2)).trans ht)) (by omega) (by show 0<1;omega) rfl λH4 m4=>?_;have m4:Mem H4 (((S.set o (.ce [v] 0)).set c (.ce [.int 0 n] 0)).set t (.ce [.int 0 p] 0)):=m4;refine hk H4 _ m4 ((((aD.refl _ S).set (.inl (.inl rfl)) _).set (.inl (.inr (.inl rfl))) _).set (.inl (.inr (.inr rfl))) _) ?_ ?_ (LS.ay _ _ _)
 ·exact(LS.aq _ _ h2).trans ((LS.aq _ _ h1).trans (LS.ay _ _ _))
 ·exact(LS.aq _ _ h3).trans (LS.ay _ _ _)
theorem At{o c t:Nat}{v:AV}{n p:Int}(hM:Mem H S)(ho:S.ob o=.ce [v] 0)(hc:S.ob c=.ce [.int 0 n] 0)(ht:S.ob t=.ce [.int 0 p] 0)(hK:K (.ret (.bD [v,.int 0 n,.int 0 p])) H):xX K (.ptr o 0) (.ptr c 0) (.ptr t 0) H:=by
 unfold xX;refine aG hM ho (v:=v) rfl ?_;refine aG hM hc (v:=.int 0 n) rfl ?_;refine aG hM ht (v:=.int 0 p) rfl ?_;exact hK
theorem Y7{R:uh}(q2:R.2.1=f23){c o cd t bx:Nat}{x y z:AV}(hpv:C.pv=.iface 57 (.agg []))(hM:Mem H S)(hp:Ak C S c i)(ho:S.ob o=.ce [x] 0)(hc:S.ob cd=.ce [y] 0)(ht:S.ob t=.ce [z] 0)(hb:S.ob bx=.ce [.ptr C.bp 0] 0)(h1:o≠cd)(h2:o≠t)(h3:cd≠t)
  (hK:∀H' S',Mem H' S'→aD (X3 o cd t) S S'→K (.ret (.bD [.ab,.int 0 (c:Int),.int 0 (aW C.T i:Int)])) H'):As R K (.ptr o 0) (.ptr cd 0) (.ptr t 0) (.ptr bx 0) C.pv H:=by
 unfold As SF;rw[hpv];refine YJ ?_;simp only[fN,fH,ga,bo];refine cn (b9 hM (λa ha=>by simp at ha) λH1 m1=>?_);refine hV m1 (c:=[]) (z:=[]) (LS.ak _ _) rfl rfl (λa ha=>by simp at ha) λH2 m2=>?_;have c2:aD cB S ((S.push (.ce [] 0)).set S.n (.ce [] 0)):=((aD.refl _ S).push _).set (.inr (Nat.le_refl _)) _;revert m2 c2;generalize (S.push (.ce [] 0)).set S.n (.ce [] 0)=S2;intro m2 c2;have keep:∀{b:Nat}{l:List AV},S.ob b=.ce l 0→S2.ob b=.ce l 0:=λh=>c2.ob hM h λq=>q;have p2:Ak C S2 c i:=by
  obtain⟨⟨d,hob⟩,tk,lt⟩:=hp;exact⟨⟨d,keep hob⟩,tk.keep hM λb _ hb=>c2.2 b hb λq=>q,lt⟩
 rw[aU];refine aG m2 (keep hb) (v:=.ptr C.bp 0) rfl ?_;simp only[dG,bu,Nat.zero_add];obtain⟨d,hob⟩:=hp.ob;refine aG m2 (keep hob) (v:=.int 0 (c:Int)) rfl ?_;rw[aR];refine aG m2 (keep hb) (v:=.ptr C.bp 0) rfl ?_;rw[q2];refine ahe m2 p2 λH3 S3 m3 c3=>?_;have c13:=c2.trans c3;have De:∀{b:Nat}{l:List AV},S.ob b=.ce l 0→S3.ob b=.ce l 0:=λh=>c13.ob hM h λq=>q;rw[aA];refine aG m3 (De hob) (v:=.int 0 (c:Int)) rfl ?_;rw[aR];refine cv (ko _ _) ?_;refine aG m3 (De hb) (v:=.ptr C.bp 0) rfl ?_;refine cv (by simp[aT]) ?_;rw[yo];unfold eW;simp only[fH,ga,aR];refine KO rfl m3 (De ho) (De hc) (De ht) h1 h2 h3 λH4 S4 m4 c4 o4 d4 t4=>?_;exact At m4 o4 d4 t4 (hK H4 S4 m4 (c13.no.trans c4))
theorem ahf{R:uh}{o cd t bx:Nat}{v:AV}{n p:Int}(hM:Mem H S)(ho:S.ob o=.ce [v] 0)(hc:S.ob cd=.ce [.int 0 n] 0)(ht:S.ob t=.ce [.int 0 p] 0)
  (hK:∀H' S',Mem H' S'→aD cB S S'→K (.ret (.bD [v,.int 0 n,.int 0 p])) H'):As R K (.ptr o 0) (.ptr cd 0) (.ptr t 0) (.ptr bx 0) .dZ H:=by
 unfold As SF;refine YK ?_;simp only[fN,fH,ga,bo];refine cn (b9 hM (λa ha=>by simp at ha) λH1 m1=>?_);refine hV m1 (c:=[]) (z:=[]) (LS.ak _ _) rfl rfl (λa ha=>by simp at ha) λH2 m2=>?_;have c2:aD cB S ((S.push (.ce [] 0)).set S.n (.ce [] 0)):=((aD.refl _ S).push _).set (.inr (Nat.le_refl _)) _;rw[aV];exact At m2 (c2.ob hM ho λq=>q) (c2.ob hM hc λq=>q) (c2.ob hM ht λq=>q) (hK H2 _ m2 c2)
theorem ajB{R:uh}{F:AV→AH→KF→Prop}(q1:R.1=F)(q2:R.2.1=f23)(q3:R.2.2.1=f24)(q4:R.2.2.2=f25){s:List Nat}{r:List Tok ⊕ Nat}(h8:B8 s)(hs:s.length≤10000)(hr:dn s 0 r)(hM:Mem H S)(hF:∀{K:KF}{H':AH}{S':LS},Mem H' S'→Ext S S'→LxQ K S' r→F (al s) H' K)(hP:ScP K S (lA r)):KN R K (al s) H:=by
 unfold KN;rw[q1];refine cn (b9 hM (λa ha=>by simp at ha;subst ha;rfl) λH1 m1=>?_);refine cn (b9 m1 (λa ha=>by simp at ha;subst ha;rfl) λH2 m2=>?_);refine cn (b9 m2 (λa ha=>by simp at ha;subst ha;rfl) λH3 m3=>?_);have e0:Int.ofNat 0=((0:Nat):Int):=rfl;have x3:aD cB S (((S.push (.ce [.ab] 0)).push (.ce [.int 0 (.ofNat 0)] 0)).push (.ce [.int 0 (.ofNat 0)] 0)):=(((aD.refl _ S).push _).push _).push _;have o3:(((S.push (.ce [.ab] 0)).push (.ce [.int 0 (.ofNat 0)] 0)).push (.ce [.int 0 (.ofNat 0)] 0)).ob S.n=.ce [.ab] 0:=by
  rw[LS.cj _ _ (show S.n<S.n+1+1 by omega),LS.cj _ _ (show S.n<S.n+1 by omega)];exact LS.ak _ _
 have d3:(((S.push (.ce [.ab] 0)).push (.ce [.int 0 (.ofNat 0)] 0)).push (.ce [.int 0 (.ofNat 0)] 0)).ob (S.n+1)=.ce [.int 0 (.ofNat 0)] 0:=by
  rw[LS.cj _ _ (show S.n+1<S.n+1+1 by omega)];exact LS.ak _ _
 have t3:(((S.push (.ce [.ab] 0)).push (.ce [.int 0 (.ofNat 0)] 0)).push (.ce [.int 0 (.ofNat 0)] 0)).ob (S.n+1+1)=.ce [.int 0 (.ofNat 0)] 0:=LS.ak _ _;have n3:(((S.push (.ce [.ab] 0)).push (.ce [.int 0 (.ofNat 0)] 0)).push (.ce [.int 0 (.ofNat 0)] 0)).n=S.n+3:=rfl;show F (al s) H3 (λo7 H8=>cR K o7 H8 λv9=>dX v9 λl10=>cP l10 0 λv11=>dX v9 λl12=>cP l12 1 λv13=>cI 0 v13 λqe=>dX v9 λl15=>cP l15 2 λv16=>cI 0 v16 λz17=>bI (!(bX qe (.ofNat 0))) (ag 1 (.ptr S.n 0) .ab H8 λgm=>ag 1 (.ptr (S.n+1) 0) (.int 0 qe) gm λjN=>ag 1 (.ptr (S.n+1+1) 0) (.int 0 z17) jN λjj=>xX K (.ptr S.n 0) (.ptr (S.n+1) 0) (.ptr (S.n+1+1) 0) jj) (one v11 (fV (aP H8) [v11,(.int 0 (.ofNat 0)),(.int 0 (.ofNat 0)),(.int 0 (.ofNat 0))] λv24 kN=>cD kN (fV (aP kN) [.iL] λv26 nF=>ag 1 v26 v24 nF λsj=>GY R K (.ptr S.n 0) (.ptr (S.n+1) 0) (.ptr (S.n+1+1) 0) v26 sj))));revert m3 x3 o3 d3 t3 n3;generalize ((S.push (.ce [.ab] 0)).push (.ce [.int 0 (.ofNat 0)] 0)).push (.ce [.int 0 (.ofNat 0)] 0)=S3;intro m3 x3 o3 d3 t3 n3;clear m1 m2;refine hF m3 x3.ext ?_;cases r with
 |inr e=>
  intro H4 S4 m4 x4;have x4:aD cB S3 S4:=x4.chg;simp only[aA,fN,fH,ga,aR];rw[cV,decide_eq_false (by simp)];simp only[Bool.not_false,aU];refine KO rfl m4 (x4.ob m3 o3 λq=>q) (x4.ob m3 d3 λq=>q) (x4.ob m3 t3 λq=>q) (by omega) (by omega) (by omega) λH5 S5 m5 c5 o5 d5 t5=>?_;refine At m5 o5 d5 t5 ?_;exact hP H5 S5 m5 ((x3.trans x4).iW c5 λb hb=>.inr (by rcases hb with q|q|q<;>omega)).ext
 |inl ts=>
  intro H4 S4 v m4 x4 f4 b4;have x4:aD cB S3 S4:=x4.chg;have n4:=x4.1;simp only[aA,fN,fH,ga,aR];rw[cV,e0,decide_eq_true (show(0:Int)=((0:Nat):Int)from rfl)];simp only[Bool.not_true,aV];refine iX f4.one' ?_;refine b9 m4 (λa ha=>?_) λH5 m5=>?_
  ·simp only[List.mem_cons,List.not_mem_nil,or_false]at ha;rcases ha with rfl|rfl|rfl|rfl
   ·exact f4.one'
   all_goals rfl
  refine cn (b9 m5 (λa ha=>by simp at ha;subst ha;rfl) λH6 m6=>?_);refine bj (v:=.ptr S4.n 0) m6 (LS.ak _ _) (by omega) (by show 0<1;omega) rfl λH7 m7=>?_;have m7:Mem H7 (((S4.push (.ce [v,.int 0 ((0:Nat):Int),.int 0 ((0:Nat):Int),.int 0 0] 0)).push (.ce [.iL] 0)).set (S4.n+1) (.ce [.ptr S4.n 0] 0)):=m7;have c7:aD cB S4 (((S4.push (.ce [v,.int 0 ((0:Nat):Int),.int 0 ((0:Nat):Int),.int 0 0] 0)).push (.ce [.iL] 0)).set (S4.n+1) (.ce [.ptr S4.n 0] 0)):=(((aD.refl _ S4).push _).push _).set (.inr (by omega)) _;have o7:LS.ob _ S4.n=.ce [v,.int 0 ((0:Nat):Int),.int 0 ((0:Nat):Int),.int 0 0] 0:=(LS.aq ((S4.push (.ce [v,.int 0 ((0:Nat):Int),.int 0 ((0:Nat):Int),.int 0 0] 0)).push (.ce [.iL] 0)) (.ce [.ptr S4.n 0] 0) (show S4.n≠S4.n+1 by omega)).trans ((LS.cj _ _ (show S4.n<S4.n+1 by omega)).trans (LS.ak _ _));have b7:LS.ob _ (S4.n+1)=.ce [.ptr S4.n 0] 0:=LS.ay ((S4.push (.ce [v,.int 0 ((0:Nat):Int),.int 0 ((0:Nat):Int),.int 0 0] 0)).push (.ce [.iL] 0)) (S4.n+1) (.ce [.ptr S4.n 0] 0);have n7:(((S4.push (.ce [v,.int 0 ((0:Nat):Int),.int 0 ((0:Nat):Int),.int 0 0] 0)).push (.ce [.iL] 0)).set (S4.n+1) (.ce [.ptr S4.n 0] 0)).n=S4.n+2:=rfl;revert m7 c7 o7 b7 n7;generalize ((S4.push (.ce [v,.int 0 ((0:Nat):Int),.int 0 ((0:Nat):Int),.int 0 0] 0)).push (.ce [.iL] 0)).set (S4.n+1) (.ce [.ptr S4.n 0] 0)=S7;intro m7 c7 o7 b7 n7;clear m5 m6;have hlen:=hr.few ts rfl;have aaY:∀b,bd v b→b<S4.n:=λb hb=>f4.lt m4 hb
  let C:Ctx:=⟨ts,S4.n,v,.iface 57 (.agg []),hr.qW,hr.b8 h8 ts rfl,by omega,λq=>by have:=aaY _ q;omega⟩
  have p7:bH C S7 0 0:=⟨o7,f4.keep m4 λb _ hb=>c7.2 b hb λq=>q,hr.qW.1⟩
  have k7:∀{b:Nat}{l:List AV},b<S.n+3→S3.ob b=.ce l 0→S7.ob b=.ce l 0:=λhb h=>(c7.2 _ (by omega) λq=>q).trans (x4.ob m3 h λq=>q);show GY R K (.ptr S.n 0) (.ptr (S.n+1) 0) (.ptr (S.n+1+1) 0) (.ptr (S4.n+1) 0) H7;unfold GY;refine aG m7 b7 (v:=.ptr S4.n 0) rfl ?_;have gv:G.NL=1000000:=rfl;have e24:f24=(s13 G.NL).1:=by unfold f24;rfl
  rw[q3,e24];clear e24;generalize G.NL=iV at gv ⊢;refine(okP (C:=C) rfl (64*ts.length+64) iV (by omega) (by omega)).block (64*ts.length+64) (Nat.le_refl _) (by omega) m7 p7 ?_;have hsc:lA (.inl ts)=(match fC ts with|.ok b _=>.inl b|.err c i=>.inr (c,aW ts i)|.bW=>.inl []):=rfl;have hne:=wz hr.qW;have x7:aD cB S S7:=(x3.trans x4).trans c7;have Gg:∀{S8:LS},aD (bL C) S7 S8→∀{b:Nat}{l:List AV},b≠S4.n→b<S7.n→S7.ob b=.ce l 0→S8.ob b=.ce l 0:=by
   intro S8 c8 b l h1 h2 h;exact(c8.2 b h2 λq=>h1 q).trans h
  cases hb:cz ts (64*ts.length+64) 0 0 with
  |bW=>unfold fC at hne;rw[hb]at hne;exact absurd rfl hne
  |err c i=>
   rw[hsc]at hP;unfold fC at hP;rw[hb]at hP;have hP:∀H' S',Mem H' S'→Ext S S'→K (.ret (.bD [.ab,.int 0 (c:Int),.int 0 (aW ts i:Int)])) H':=hP;intro H8 S8 m8 c8 p8;rw[jJ];refine Y7 (C:=C) q2 rfl m8 p8 (Gg c8 (by omega) (by omega) (k7 (by omega) o3)) (Gg c8 (by omega) (by omega) (k7 (by omega) d3)) (Gg c8 (by omega) (by omega) (k7 (by omega) t3)) (Gg c8 (by omega) (by omega) b7) (by omega) (by omega) (by omega) λH9 S9 m9 c9=>?_;exact hP H9 S9 m9 ((x7.iW c8 λb hb=>.inr (by have hb:b=S4.n:=hb;omega)).iW c9 λb hb=>.inr (by rcases hb with q|q|q<;>omega)).ext
  |ok b j=>
   have hjl:=wA hr.qW b j hb;rw[hsc]at hP;unfold fC at hP;rw[hb]at hP;intro H8 S8 w m8 c8 p8 rv8;rw[aA];have x8:aD cB S S8:=x7.iW c8 λb hb=>.inr (by have hb:b=S4.n:=hb;omega);have n8:=c8.1;have ahg:w.one=true:=rv8.choose_spec.1.one;refine bj (v:=w) m8 (Gg c8 (by omega) (by omega) (k7 (by omega) o3)) (by omega) (by show 0<1;omega) ahg λH9 m9=>?_;have m9:Mem H9 (S8.set S.n (.ce [w] 0)):=m9;have p9:bH C (S8.set S.n (.ce [w] 0)) j 0:=p8.keep m8 (X:=λb=>b=S.n) ⟨Nat.le_refl _,λb _ hb=>LS.aq _ _ hb⟩ (λq=>by have q:S4.n=S.n:=q;omega) λb hb q=>by
    have q:b=S.n:=q;have:=b4 b hb;omega
   have o9:=LS.ay S8 S.n (.ce [w] 0);have d9:(S8.set S.n (.ce [w] 0)).ob (S.n+1)=.ce [.int 0 (.ofNat 0)] 0:=(LS.aq _ _ (by omega)).trans (Gg c8 (by omega) (by omega) (k7 (by omega) d3));have t9:(S8.set S.n (.ce [w] 0)).ob (S.n+1+1)=.ce [.int 0 (.ofNat 0)] 0:=(LS.aq _ _ (by omega)).trans (Gg c8 (by omega) (by omega) (k7 (by omega) t3));have Y8:(S8.set S.n (.ce [w] 0)).ob (S4.n+1)=.ce [.ptr S4.n 0] 0:=(LS.aq _ _ (by omega)).trans (Gg c8 (by omega) (by omega) b7);have x9:aD cB S (S8.set S.n (.ce [w] 0)):=x8.set (.inr (Nat.le_refl _)) _;have rv9:dY (S8.set S.n (.ce [w] 0)) (eI S7.n S8.n) w b:=rv8.go (λb hb=>LS.aq _ _ (by have:=hb.1;omega)) λ_ h=>h;have n9:(S8.set S.n (.ce [w] 0)).n=S8.n:=rfl;revert m9 p9 o9 d9 t9 Y8 x9 rv9 n9;generalize S8.set S.n (.ce [w] 0)=S9;intro m9 p9 o9 d9 t9 Y8 x9 rv9 n9;clear m8 p8;refine aG m9 Y8 (v:=.ptr S4.n 0) rfl ?_;rw[q2];refine iY (C:=C) m9 p9 λbM S10 m10 c10 p10=>?_;rw[aA,yo];unfold eW;simp only[fH,ga,aR];have k10:∀{b:Nat}{l:List AV},S9.ob b=.ce l 0→S10.ob b=.ce l 0:=λh=>c10.ob m9 h λq=>q;have x10:=x9.trans c10;have n10:=c10.1;rw[cV,e0];by_cases hk:bC ts j=0
   ·rw[decide_eq_true (by show((bC ts j:Nat):Int)=_;rw[hk])];simp only[Bool.not_true,aV];have hP:ScP K S (match (if bC ts j=0 then bF.ok b j else .err 14 j)with|.ok b _=>.inl b|.err c i=>.inr (c,aW ts i)|.bW=>.inl []):=hP;rw[if_pos hk]at hP;refine aG m10 (k10 o9) (v:=w) rfl ?_;refine KO ahg m10 (k10 o9) (k10 d9) (k10 t9) (by omega) (by omega) (by omega) λfD S11 m11 c11 pZ d11 t11=>?_;refine ahf m11 pZ d11 t11 λdA S12 m12 c12=>?_;have n11:=c11.1;refine hP dA S12 w m12 ((x10.iW c11 λb hb=>.inr (by rcases hb with q|q|q<;>omega)).trans c12).ext ?_;refine rv9.go (λb hb=>?_) λb hb=>?_
    ·have h1:=hb.1;have h2:=hb.2;have hn:b<S9.n:=by omega
     exact(c12.2 b (by omega) λq=>q).trans ((c11.2 b (by omega) λq=>by rcases q with q|q|q<;>omega).trans (c10.2 b hn λq=>q))
    ·have h1:=hb.1;have h2:=hb.2;have:=c12.1;exact⟨by omega,by omega⟩
   ·rw[decide_eq_false (by show ¬((bC ts j:Nat):Int)=_;omega)];simp only[Bool.not_false,aU];have hP:ScP K S (match (if bC ts j=0 then bF.ok b j else .err 14 j)with|.ok b _=>.inl b|.err c i=>.inr (c,aW ts i)|.bW=>.inl []):=hP;rw[if_neg hk]at hP;refine aG m10 (k10 Y8) (v:=.ptr S4.n 0) rfl ?_;have e14:Int.ofNat 14=((14:Nat):Int):=rfl;rw[e14];rw[q4];refine mW (C:=C) (c:=14) rfl m10 p10 λfD S11 m11 c11 e11=>?_;rw[jJ];have k11:∀{b:Nat}{l:List AV},b≠S4.n→S9.ob b=.ce l 0→S11.ob b=.ce l 0:=λhb h=>c11.ob m10 (k10 h) λq=>hb q;refine Y7 (C:=C) q2 rfl m11 e11 (k11 (by omega) o9) (k11 (by omega) d9) (k11 (by omega) t9) (k11 (by omega) Y8) (by omega) (by omega) (by omega) λdA S12 m12 c12=>?_;exact hP dA S12 m12 ((x10.iW c11 λb hb=>.inr (by have hb:b=S4.n:=hb;omega)).iW c12 λb hb=>.inr (by rcases hb with q|q|q<;>omega)).ext
end
end Go.Proofs.YtcedghechlgecaaGreatDoor
namespace Go.X
section
variable {S S':LS}{H:AH}
def j4(S:LS):Nat→Prop:=λx=>x<S.n
theorem cJ.at_{Q:Nat→Prop}{sz n:Nat}{v:AV}{cl:Nat→List AV}{i q:Nat}{k:AV→Prop}(h:cJ S Q sz v n cl)(hi:i<n)(hk:∀b o cs m,Q b→S.ob b=.ce cs m→o+sz≤cs.length→(cs.drop o).take sz=cl i→k (.ptr b o)):dj sz v (.int q i) k:=by
 rcases h with⟨rfl,rfl⟩|⟨b,o,c,ex,cs,m,rfl,h1,h3,h4,h5,h6⟩
 ·omega
 ·refine oe (by omega) (by omega) ?_;rw[Int.toNat_natCast];have hle:(i+1)*sz≤n*sz:=Nat.mul_le_mul_right _ (by omega);rw[Nat.add_mul,Nat.one_mul]at hle;exact hk b _ cs m h1 h3 (by omega) (h6 i hi)
theorem cJ.wF{Q:Nat→Prop}{n:Nat}{v:AV}{f:Nat→AV}{i q:Nat}{k:AV→Prop}(h:cJ S Q 1 v n (λi=>[f i]))(hM:Mem H S)(hi:i<n)(hk:k (f i)):dj 1 v (.int q i) λp=>aC p H k:=by
 refine h.at_ hi λb o cs m _ h3 h4 h5=>aG hM h3 ?_ hk;have:((cs.drop o).take 1)[0]? = [f i][0]?:=by rw[h5]
 rw[List.getElem?_take,if_pos (by omega),List.getElem?_drop,Nat.add_zero]at this;exact this
theorem eZ.same{Q:Nat→Prop}{c:List AV}{s:aK}(h:eZ S Q c s):aT (.agg c) (.agg c)=true:=by
 cases h with
 |mk kind at_ names l bs vn vl vb cl bv bc g1 g2 _ g4 _ _=>
  refine Kt λa ha=>?_;simp only[List.mem_cons,List.not_mem_nil,or_false]at ha;rcases ha with rfl|rfl|rfl|rfl|rfl<;>first|exact ko _ _|exact g1.1.same|exact g2.same|exact g4.same
def lV(S:LS)(Q:Nat→Prop)(v:AV)(bs:List (List aK)):Prop:=∃bv:Nat→AV,cJ S Q 1 v bs.length (λi=>[bv i])∧∀(i:Nat) (b:List aK),bs[i]? = some b→dY S Q (bv i) b
def kY(S:LS)(Q:Nat→Prop)(v:AV)(f:List cq):Prop:=∃cf:Nat→List AV,cJ S Q 2 v f.length cf∧∀(i:Nat) (g:cq),f[i]? = some g→RF S Q (cf i) g
theorem eZ.out{Q:Nat→Prop}{c:List AV}{kind at_:Nat}{names:List (List Nat)}{l:List aE}{bs:List (List aK)}(h:eZ S Q c (.mk kind at_ names l bs)):∃vn vl vb,c=[.int 0 kind,.int 0 at_,vn,vl,vb]∧ik S Q vn names∧gS S Q vl l∧lV S Q vb bs:=by
 cases h with
 |mk _ _ _ _ _ vn vl vb cl bv bc g1 g2 g3 g4 g5 g6=>exact⟨vn,vl,vb,rfl,g1,⟨cl,g2,g3⟩,⟨bv,g4,λi b hb=>⟨bc i,g5 i b hb,λj s hs=>g6 i b j s hb hs⟩⟩⟩
theorem RE.out{Q:Nat→Prop}{c:List AV}{kind at_ n op:Nat}{s:List Nat}{l:List aE}{f:List cq}(h:RE S Q c (.mk kind at_ n s op l f)):∃vl vf,c=[.int 0 kind,.int 0 at_,.int 0 n,al s,.int 0 op,vl,vf]∧B8 s∧gS S Q vl l∧kY S Q vf f:=by
 cases h with
 |mk _ _ _ _ _ _ _ vl vf cl cf g1 g2 g3 g4 g5=>exact⟨vl,vf,rfl,g1,⟨cl,g2,g3⟩,⟨cf,g4,g5⟩⟩
theorem RF.out{Q:Nat→Prop}{c:List AV}{ps:List (List Nat)}{body:List aK}(h:RF S Q c (.mk ps body)):∃vp vb,c=[vp,vb]∧ik S Q vp ps∧dY S Q vb body:=by
 cases h with
 |mk _ _ vp vb cb g1 g2 g3=>exact⟨vp,vb,rfl,g1,⟨cb,g2,g3⟩⟩
theorem cJ.ext{sz n:Nat}{v:AV}{cl:Nat→List AV}(h:cJ S (j4 S) sz v n cl)(hx:Ext S S'):cJ S' (j4 S') sz v n cl:=h.go (λb hb=>hx.ob b hb) λb hb=>Nat.lt_of_lt_of_le hb hx.n
theorem ik.ext{v:AV}{l:List (List Nat)}(h:ik S (j4 S) v l)(hx:Ext S S'):ik S' (j4 S') v l:=⟨h.1.ext hx,h.2⟩
theorem RE.ext{c:List AV}{e:aE}(h:RE S (j4 S) c e)(hx:Ext S S'):RE S' (j4 S') c e:=h.go (λb hb=>hx.ob b hb) λb hb=>Nat.lt_of_lt_of_le hb hx.n
theorem RF.ext{c:List AV}{e:cq}(h:RF S (j4 S) c e)(hx:Ext S S'):RF S' (j4 S') c e:=h.go (λb hb=>hx.ob b hb) λb hb=>Nat.lt_of_lt_of_le hb hx.n
theorem eZ.ext{c:List AV}{e:aK}(h:eZ S (j4 S) c e)(hx:Ext S S'):eZ S' (j4 S') c e:=h.go (λb hb=>hx.ob b hb) λb hb=>Nat.lt_of_lt_of_le hb hx.n
theorem dY.ext{v:AV}{l:List aK}(h:dY S (j4 S) v l)(hx:Ext S S'):dY S' (j4 S') v l:=by
 obtain⟨cl,g1,g2⟩:=h;exact⟨cl,g1.ext hx,λi e he=>(g2 i e he).ext hx⟩
theorem gS.ext{v:AV}{l:List aE}(h:gS S (j4 S) v l)(hx:Ext S S'):gS S' (j4 S') v l:=by
 obtain⟨cl,g1,g2⟩:=h;exact⟨cl,g1.ext hx,λi e he=>(g2 i e he).ext hx⟩
theorem lV.ext{v:AV}{l:List (List aK)}(h:lV S (j4 S) v l)(hx:Ext S S'):lV S' (j4 S') v l:=by
 obtain⟨cl,g1,g2⟩:=h;exact⟨cl,g1.ext hx,λi e he=>(g2 i e he).ext hx⟩
theorem kY.ext{v:AV}{l:List cq}(h:kY S (j4 S) v l)(hx:Ext S S'):kY S' (j4 S') v l:=by
 obtain⟨cl,g1,g2⟩:=h;exact⟨cl,g1.ext hx,λi e he=>(g2 i e he).ext hx⟩
theorem aE.xY(e:aE):1≤e.sz:=by cases e;simp only[aE.sz];omega
theorem aK.xY(e:aK):1≤e.sz:=by cases e;simp only[aK.sz];omega
theorem cq.xY(e:cq):1≤e.sz:=by cases e;simp only[cq.sz];omega
theorem Au:∀{l:List aE}{i:Nat}{e:aE},l[i]? = some e→e.sz≤db l
 |[],i,e,h=>by simp at h
 |a::l,0,e,h=>by simp at h;subst h;simp only[db];omega
 |a::l,i+1,e,h=>by have:=Au (l:=l) (i:=i) (e:=e) (by simpa using h);simp only[db];omega
theorem Av:∀{l:List aK}{i:Nat}{e:aK},l[i]? = some e→e.sz≤gb l
 |[],i,e,h=>by simp at h
 |a::l,0,e,h=>by simp at h;subst h;simp only[gb];omega
 |a::l,i+1,e,h=>by have:=Av (l:=l) (i:=i) (e:=e) (by simpa using h);simp only[gb];omega
theorem Aw:∀{l:List cq}{i:Nat}{e:cq},l[i]? = some e→e.sz≤jA l
 |[],i,e,h=>by simp at h
 |a::l,0,e,h=>by simp at h;subst h;simp only[jA];omega
 |a::l,i+1,e,h=>by have:=Aw (l:=l) (i:=i) (e:=e) (by simpa using h);simp only[jA];omega
theorem Ax:∀{l:List (List aK)}{i:Nat}{e:List aK},l[i]? = some e→1+gb e≤gd l
 |[],i,e,h=>by simp at h
 |a::l,0,e,h=>by simp at h;subst h;simp only[gd];omega
 |a::l,i+1,e,h=>by have:=Ax (l:=l) (i:=i) (e:=e) (by simpa using h);simp only[gd];omega
theorem Ay:∀l:List aE,l.length≤db l
 |[]=>Nat.le_refl _
 |a::l=>by have:=Ay l;have:=a.xY;simp only[db,List.length_cons];omega
theorem sV:∀l:List aK,l.length≤gb l
 |[]=>Nat.le_refl _
 |a::l=>by have:=sV l;have:=a.xY;simp only[gb,List.length_cons];omega
theorem Az:∀l:List cq,l.length≤jA l
 |[]=>Nat.le_refl _
 |a::l=>by have:=Az l;have:=a.xY;simp only[jA,List.length_cons];omega
theorem AA:∀l:List (List aK),l.length≤gd l
 |[]=>Nat.le_refl _
 |a::l=>by have:=AA l;simp only[gd,List.length_cons];omega
end
end Go.X
namespace Go.Proofs.YtcedghechlgecaaGreatDoor
open Go Go.X Go.Proofs.YtcedghechlgecaaGreatDoor.G
section
variable {H:AH}{S:LS}{K:KF}
def lW{α:Type}(F:AV→AV→AH→KF→Prop)(Rp:LS→(Nat→Prop)→AV→α→Prop)(b:α):Prop:=∀{K:KF}{H:AH}{S:LS}{v w:AV},Mem H S→Rp S (j4 S) v b→Rp S (j4 S) w b→(∀H' S',Mem H' S'→Ext S S'→K (.ret (.bool true)) H')→F v w H K
theorem t29{l:List (List Nat)}(hl:l.length≤900000):lW f29 ik l:=by
 intro K H S v w hM h1 h2 hK;have loop:∀(q i:Nat),i≤l.length→l.length-i<q→BL sy K q v w (i:Int) H:=by
  intro q
  induction q with
  |zero=>intro i _ h;omega
  |succ q ih=>
   intro i hi hq;show Jh sy K (BL sy K q) (Jg sy K) v w (i:Int) H;unfold Jh Jg;refine h1.1.len ?_;rw[aR,di];refine cH (λg=>?_) (λ_=>hK H S hM (Ext.refl S));have hil:i<l.length:=by omega
   refine h1.1.wF hM hil ?_;refine h2.1.wF hM hil ?_;have h8:B8 (l[i]?.getD []):=by rw[List.getElem?_eq_getElem hil];exact h1.2 _ (List.getElem_mem _)
   refine OV h8 h8 ?_;rw[decide_eq_true rfl,bo];simp only[Bool.not_true,aV,gC,km];refine w0 (by omega) (by omega) ?_;exact ih (i+1) (by omega) (by omega)
 show Ji sy K (BL sy K G.NL) v w H;unfold Ji;have gv:G.NL=1000000:=rfl;generalize G.NL=iV at gv ⊢;refine h1.1.len ?_;rw[aR];refine h2.1.len ?_;rw[aR,cV,decide_eq_true rfl];simp only[Bool.not_true,aV];exact loop iV 0 (Nat.zero_le _) (by omega)
theorem nat_eq(a:Nat):bX (a:Int) (a:Int)=true:=by rw[cV,decide_eq_true rfl]
section
end
end
end Go.Proofs.YtcedghechlgecaaGreatDoor
namespace Go.X
section
variable {S S':LS}{H:AH}
theorem cJ.N8{Q:Nat→Prop}{sz n j:Nat}{v a:AV}{cl:Nat→List AV}{i q:Nat}{k:AV→Prop}(h:cJ S Q sz v n cl)(hM:Mem H S)(hi:i<n)(hj:j<sz)(ha:(cl i)[j]? = some a)(hk:k a):dj sz v (.int q i) λp=>aL j p λp'=>aC p' H k:=by
 refine h.at_ hi λb o cs m _ h3 h4 h5=>?_;rw[bu];refine aG hM h3 ?_ hk;rw[←h5,List.getElem?_take,if_pos hj,List.getElem?_drop]at ha;exact ha
end
end Go.X
namespace Go.Proofs.YtcedghechlgecaaGreatDoor
open Go Go.X Go.Proofs.YtcedghechlgecaaGreatDoor.G
section
variable {H:AH}{S:LS}{K:KF}
section
end
end
section
variable {H:AH}{S:LS}{K:KF}
noncomputable def R8:uh:=(Lx.g21,f23,f24,f25)
noncomputable def g8:AV→AH→KF→Prop:=λa H K=>KN R8 K a H
theorem acd:az Tryz.prog 8 (ao [.a] g8):=λhb l H K hf=>by
 match l,hf with
 |[a],hf=>
  have hf:KN R8 K a H:=hf;rw[ajA]at hf;exact az.ZZ (ad.cons Lx.ahb (ad.cons jE (ad.cons afM (ad.cons mQ ad.nil)))) mix 400 400 hb [a] H K hf
theorem Fi{s:List Nat}{r:List Tok ⊕ Nat}(h8:B8 s)(hs:s.length≤5000)(hr:dn s 0 r)(hM:Mem H S)(hT:kz Lx.qu S)(hP:ScP K S (lA r)):g8 (al s) H K:=
 ajB (F:=Lx.g21) rfl rfl rfl rfl h8 (by omega) hr hM (λm x q=>Lx.ah7 h8 (by omega) m (hT.ext hM x) hr (by cases r<;>exact q)) hP
def tx1:List Nat:=[114,101,116,117,114,110,32,49,32,43,32,50,32,42,32,51]
def tx2:List Nat:=[120]
def ts1:List Tok:=[⟨1,[114,101,116,117,114,110],0,0⟩,⟨3,[],1,7⟩,⟨5,[43],0,9⟩,⟨3,[],2,11⟩,⟨5,[42],0,13⟩,⟨3,[],3,15⟩,⟨0,[],0,16⟩]
def ts2:List Tok:=[⟨2,[120],0,0⟩,⟨0,[],0,1⟩]
theorem lx1:dn tx1 0 (.inl ts1):=by
 unfold tx1 ts1;refine dn.tok _ _ _ _ _ _ _ _ (by decide) (by decide) (gD.word _ _ (by decide) (by decide) (by decide)) ?_;refine dn.blank 32 _ _ _ (by decide) ?_;refine dn.tok _ _ _ _ _ _ _ _ (by decide) (by decide) (gD.num _ _ _ (by decide) (by decide)) ?_;refine dn.blank 32 _ _ _ (by decide) ?_;refine dn.tok _ _ _ _ _ _ _ _ (by decide) (by decide) (gD.sign _ _ (by decide) (by decide) (by decide) (by decide) (by decide)) ?_;refine dn.blank 32 _ _ _ (by decide) ?_;refine dn.tok _ _ _ _ _ _ _ _ (by decide) (by decide) (gD.num _ _ _ (by decide) (by decide)) ?_;refine dn.blank 32 _ _ _ (by decide) ?_;refine dn.tok _ _ _ _ _ _ _ _ (by decide) (by decide) (gD.sign _ _ (by decide) (by decide) (by decide) (by decide) (by decide)) ?_;refine dn.blank 32 _ _ _ (by decide) ?_;refine dn.tok _ _ _ _ _ _ _ _ (by decide) (by decide) (gD.num _ _ _ (by decide) (by decide)) ?_;exact dn.nil _
theorem lx2:dn tx2 0 (.inl ts2):=by
 unfold tx2 ts2;refine dn.tok _ _ _ _ _ _ _ _ (by decide) (by decide) (gD.name _ _ (by decide) (by decide) (by decide)) ?_;exact dn.nil _
def e1:aE:=.mk 14 9 0 [] 1 [.mk 4 7 1 [] 0 [] [],.mk 14 13 0 [] 3 [.mk 4 11 2 [] 0 [] [],.mk 4 15 3 [] 0 [] []] []] []
theorem sc1:lA (.inl ts1)=.inl [.mk 10 0 [] [e1] []]:=by kernel_rfl
theorem sc2:lA (.inl ts2)=.inr (14,1):=by kernel_rfl
noncomputable def g7:AH→KF→Prop:=agi g8
theorem ah8:az Tryz.prog 7 (ao [] g7):=agj g8 (ad.cons acd ad.nil)
theorem ahh(hM:Mem H S)(hT:kz Lx.qu S)(hK:∀H' S',Mem H' S'→Ext S S'→K (.ret (.bool true)) H'):g7 H K:=by
 show GB g8 K H;unfold GB;have l1:AV.str 16 67957635696521517601713190803061630322=al tx1:=zY rfl (by decide);have l2:AV.str 1 120=al tx2:=zY rfl (by decide);rw[l1,l2];refine Fi (aZ (by decide)) (by decide) lx1 hM hT ?_;rw[sc1];intro H1 S1 v m1 x1 rv1;simp only[aA,fN,fH,ga,aR];refine Fi (aZ (by decide)) (by decide) lx2 m1 (hT.ext hM x1) ?_;rw[sc2];intro H2 S2 m2 x2;simp only[aA,fN,fH,ga,aR];obtain⟨cl,s1,g1⟩:=rv1.go (Q':=j4 S2) (λb hb=>x2.ob b hb.2) λb hb=>Nat.lt_of_lt_of_le hb.2 x2.n;have h1:=g1 0 _ rfl;obtain⟨vn,vl,vb,c1,N1,⟨cl',s1',g1'⟩,B1⟩:=h1.out;have h2:=g1' 0 _ rfl;obtain⟨vl2,vf2,c2,_,_,_⟩:=h2.out;have e0:(Int.ofNat 0)=((0:Nat):Int):=rfl;rw[cV,decide_eq_true (by rfl),aU,cV,decide_eq_true (by rfl),aU];refine s1.len ?_;rw[aR,cV,decide_eq_true (by rfl),aU];refine s1.N8 (i:=0) m2 (by decide) (by decide) (a:=vl) (by rw[c1];rfl) ?_;refine s1'.len ?_;rw[aR,cV,decide_eq_true (by rfl),aU];refine s1.N8 (i:=0) m2 (by decide) (by decide) (a:=vl) (by rw[c1];rfl) ?_;refine s1'.N8 (i:=0) m2 (by decide) (by decide) (a:=.int 0 ((9:Nat):Int)) (by rw[c2];rfl) ?_;rw[aR,cV,decide_eq_true (by rfl),aU];refine s1.N8 (i:=0) m2 (by decide) (by decide) (a:=vl) (by rw[c1];rfl) ?_;refine s1'.N8 (i:=0) m2 (by decide) (by decide) (a:=.int 0 ((1:Nat):Int)) (by rw[c2];rfl) ?_;rw[aR,cV,decide_eq_true (by rfl),aU,aU];exact hK H2 S2 m2 (x1.trans x2)
end
end Go.Proofs.YtcedghechlgecaaGreatDoor
namespace Go.X
section
variable {S S':LS}{H:AH}
theorem Df{c:List AV}{k:AV→AH→Prop}(hM:Mem H S)(ho:∀a∈c,a.one=true)
  (hk:∀H' S',Mem H' S'→Ext S S'→S'.ob S.n=.ce c 0→S'.n=S.n+1→k (.ptr S.n 0) H'):ng (aP H) (.agg c) k:=
 zV hM ho λH1 m1=>hk H1 _ m1 (Ext.push S _) (LS.ak _ _) rfl
end
end Go.X
namespace Go.Proofs.YtcedghechlgecaaGreatDoor
open Go Go.X Go.Proofs.YtcedghechlgecaaGreatDoor.G
section
variable {H:AH}{S:LS}{K:KF}
theorem qX{n:Nat}{z c:List AV}{k:AV→AH→Prop}(hM:Mem H S)(hz:∀a∈z,a.one=true)(hzl:z.length=n)(hc:c.length=n)(ho:∀a∈c,a.one=true)
  (hk:∀H' S',Mem H' S'→Ext S S'→S'.ob S.n=.ce c 0→S'.n=S.n+1→k (.ptr S.n 0) H'):cD H (fV (aP H) z λv H4=>ag n v (.agg c) H4 λH5=>k v H5):=by
 refine cn (b9 hM hz λH1 m1=>?_);refine hV m1 (LS.ak _ _) hzl hc ho λH2 m2=>?_;exact hk H2 _ m2 ((Ext.push S _).set (Nat.le_refl _) _) (LS.ay _ _ _) rfl
def z2:List AV:=[.ab,.ab]
theorem Dg:∀a∈z2,a.one=true:=by
 intro a ha;simp only[z2,List.mem_cons,List.not_mem_nil,or_false]at ha;rcases ha with rfl|rfl<;>rfl
def Fj(S:LS)(Q:Nat→Prop)(v:AV)(e:cq):Prop:=∃c,v=.agg c∧RF S Q c e
def pI{α:Type}(F:AV→AV→AV→AH→KF→Prop)(g:Nat)(Rp:LS→(Nat→Prop)→AV→α→Prop)(b:α):Prop:=lW (λv w=>F v w (.func g [] [])) Rp b
theorem t72{l:List (List Nat)}(hl:l.length≤900000):lW f72 ik l:=by
 intro K H S v w hM h1 h2 hK;have loop:∀(q i:Nat),i≤l.length→l.length-i<q→vm qo K q v w (l.length:Int) (i:Int) H:=by
  intro q
  induction q with
  |zero=>intro i _ h;omega
  |succ q ih=>
   intro i hi hq;show Cn qo K (vm qo K q) (Cm qo K) v w (l.length:Int) (i:Int) H;unfold Cn Cm;rw[di];refine cH (λg=>?_) (λ_=>hK H S hM (Ext.refl S));have hil:i<l.length:=by omega
   refine h1.1.wF hM hil ?_;refine h2.1.wF hM hil ?_;have h8:B8 (l[i]?.getD []):=by rw[List.getElem?_eq_getElem hil];exact h1.2 _ (List.getElem_mem _)
   refine OV h8 h8 ?_;rw[decide_eq_true rfl,bo];simp only[Bool.not_true,aV,gC,km];refine w0 (by omega) (by omega) ?_;exact ih (i+1) (by omega) (by omega)
 show Co qo K (vm qo K G.NL) v w H;unfold Co;have gv:G.NL=1000000:=rfl;generalize G.NL=iV at gv ⊢;refine h1.1.len ?_;rw[aR];refine h2.1.len ?_;rw[aR,nat_eq];simp only[Bool.not_true,aV];refine h1.1.len ?_;rw[aR];exact loop iV 0 (Nat.zero_le _) (by omega)
theorem ahi{R:gV}{x y:AV}{k:gN→AH→Prop}(h:R x y H k):hY (.func 32 [] []) λg a b=>bT (cY Tryz.prog g) (eO (Cq R) g (a++([x,y]++b)) H k):=by
 show bT (cY Tryz.prog 32) (eO (Cq R) 32 [x,y] H k);refine cv (by kernel_rfl) ?_;exact h
theorem t31{R:gV}{b:List aK}(hb:b.length≤900000)(hR:∀s∈b,lW R C5 s):pI (GD R) 32 dY b:=by
 intro K H S v w hM h1 h2 hK;have loop:∀(q i:Nat) (H:AH) (S':LS),i≤b.length→b.length-i<q→Mem H S'→Ext S S'→sH R K q w (.func 32 [] []) v (b.length:Int) (i:Int) H:=by
  intro q
  induction q with
  |zero=>intro i H S' _ h;omega
  |succ q ih=>
   intro i H S' hi hq hM hE;show Cr R K (J0 R K) (xN R K (sH R K q)) w (.func 32 [] []) v (b.length:Int) (i:Int) H;unfold Cr;rw[di];refine cH (λg=>?_) (λ_=>hK H S' hM hE);have hil:i<b.length:=by omega
   obtain⟨s,hs⟩:∃s,b[i]? = some s:=⟨_,List.getElem?_eq_getElem hil⟩
   obtain⟨cl,s1,g1⟩:=h1.ext hE;obtain⟨cl',s2,g2⟩:=h2.ext hE;have e1:=g1 i s hs;have e2:=g2 i s hs;refine s1.load hM hil ?_;refine qX hM sS rfl e1.len e1.ones λH1 S1 m1 x1 o1 n1=>?_;refine(s2.ext x1).load m1 hil ?_;refine qX m1 sS rfl e2.len e2.ones λH2 S2 m2 x2 o2 n2=>?_;have x12:=x1.trans x2;refine fl m2 ((x2.ob _ (by omega)).trans o1) e1.len ?_;refine fl m2 o2 e2.len ?_;refine ahi ?_;refine hR s (List.mem_of_getElem? hs) m2 ⟨_,rfl,e1.ext x12⟩ ⟨_,rfl,e2.ext x12⟩ λH3 S3 m3 x3=>?_;rw[aA,bo];simp only[Bool.not_true,aV];show xN R K (sH R K q) w (.func 32 [] []) v (b.length:Int) (i:Int) H3;unfold xN;simp only[gC,km];refine w0 (by omega) (by omega) ?_;exact ih (i+1) H3 S3 (by omega) (by omega) m3 (hE.trans (x12.trans x3))
 show Cs R K (sH R K G.NL) v w (.func 32 [] []) H;unfold Cs;have gv:G.NL=1000000:=rfl;generalize G.NL=iV at gv ⊢;refine h1.choose_spec.1.len ?_;rw[aR];refine h2.choose_spec.1.len ?_;rw[aR,nat_eq];simp only[Bool.not_true,aV];refine h1.choose_spec.1.len ?_;rw[aR];exact loop iV 0 H S (Nat.zero_le _) (by omega) hM (Ext.refl S)
theorem ahj{R:gX}{x y:AV}{k:gN→AH→Prop}(h:R x y H k):hY (.func 74 [] []) λg a b=>bT (cY Tryz.prog g) (eO (Cu R) g (a++([x,y]++b)) H k):=by
 show bT (cY Tryz.prog 74) (eO (Cu R) 74 [x,y] H k);refine cv (by kernel_rfl) ?_;exact h
theorem t73{R:gX}{b:List aE}(hb:b.length≤900000)(hR:∀s∈b,lW R kE s):pI (GG R) 74 gS b:=by
 intro K H S v w hM h1 h2 hK;have loop:∀(q i:Nat) (H:AH) (S':LS),i≤b.length→b.length-i<q→Mem H S'→Ext S S'→sI R K q w (.func 74 [] []) v (b.length:Int) (i:Int) H:=by
  intro q
  induction q with
  |zero=>intro i H S' _ h;omega
  |succ q ih=>
   intro i H S' hi hq hM hE;show Cv R K (J3 R K) (xO R K (sI R K q)) w (.func 74 [] []) v (b.length:Int) (i:Int) H;unfold Cv;simp only[gO];rw[di];refine cH (λg=>?_) (λ_=>hK H S' hM hE);have hil:i<b.length:=by omega
   obtain⟨s,hs⟩:∃s,b[i]? = some s:=⟨_,List.getElem?_eq_getElem hil⟩
   obtain⟨cl,s1,g1⟩:=h1.ext hE;obtain⟨cl',s2,g2⟩:=h2.ext hE;have e1:=g1 i s hs;have e2:=g2 i s hs;refine s1.load hM hil ?_;refine qX hM dm rfl e1.len e1.ones λH1 S1 m1 x1 o1 n1=>?_;refine(s2.ext x1).load m1 hil ?_;refine qX m1 dm rfl e2.len e2.ones λH2 S2 m2 x2 o2 n2=>?_;have x12:=x1.trans x2;refine fl m2 ((x2.ob _ (by omega)).trans o1) e1.len ?_;refine fl m2 o2 e2.len ?_;refine ahj ?_;refine hR s (List.mem_of_getElem? hs) m2 ⟨_,rfl,e1.ext x12⟩ ⟨_,rfl,e2.ext x12⟩ λH3 S3 m3 x3=>?_;rw[aA,bo];simp only[Bool.not_true,aV];show xO R K (sI R K q) w (.func 74 [] []) v (b.length:Int) (i:Int) H3;unfold xO;simp only[gC,km];refine w0 (by omega) (by omega) ?_;exact ih (i+1) H3 S3 (by omega) (by omega) m3 (hE.trans (x12.trans x3))
 show Cw R K (sI R K G.NL) v w (.func 74 [] []) H;unfold Cw;have gv:G.NL=1000000:=rfl;generalize G.NL=iV at gv ⊢;refine h1.choose_spec.1.len ?_;rw[aR];refine h2.choose_spec.1.len ?_;rw[aR,nat_eq];simp only[Bool.not_true,aV];refine h1.choose_spec.1.len ?_;rw[aR];exact loop iV 0 H S (Nat.zero_le _) (by omega) hM (Ext.refl S)
theorem aey{R:fL}{x y:AV}{k:gN→AH→Prop}(h:R x y H k):hY (.func 109 [] []) λg a b=>bT (cY Tryz.prog g) (eO (zf R) g (a++([x,y]++b)) H k):=by
 show bT (cY Tryz.prog 109) (eO (zf R) 109 [x,y] H k);refine cv (by kernel_rfl) ?_;exact h
theorem ajC{R:fL}{b:List cq}(hb:b.length≤900000)(hR:∀s∈b,lW R Fj s):pI (CB R) 109 kY b:=by
 intro K H S v w hM h1 h2 hK;have loop:∀(q i:Nat) (H:AH) (S':LS),i≤b.length→b.length-i<q→Mem H S'→Ext S S'→pF R K q w (.func 109 [] []) v (b.length:Int) (i:Int) H:=by
  intro q
  induction q with
  |zero=>intro i H S' _ h;omega
  |succ q ih=>
   intro i H S' hi hq hM hE;show zg R K (E5 R K) (vq R K (pF R K q)) w (.func 109 [] []) v (b.length:Int) (i:Int) H;unfold zg;rw[di];refine cH (λg=>?_) (λ_=>hK H S' hM hE);have hil:i<b.length:=by omega
   obtain⟨s,hs⟩:∃s,b[i]? = some s:=⟨_,List.getElem?_eq_getElem hil⟩
   obtain⟨cl,s1,g1⟩:=h1.ext hE;obtain⟨cl',s2,g2⟩:=h2.ext hE;have e1:=g1 i s hs;have e2:=g2 i s hs;refine s1.load hM hil ?_;refine qX hM Dg rfl e1.len e1.ones λH1 S1 m1 x1 o1 n1=>?_;refine(s2.ext x1).load m1 hil ?_;refine qX m1 Dg rfl e2.len e2.ones λH2 S2 m2 x2 o2 n2=>?_;have x12:=x1.trans x2;refine fl m2 ((x2.ob _ (by omega)).trans o1) e1.len ?_;refine fl m2 o2 e2.len ?_;refine aey ?_;refine hR s (List.mem_of_getElem? hs) m2 ⟨_,rfl,e1.ext x12⟩ ⟨_,rfl,e2.ext x12⟩ λH3 S3 m3 x3=>?_;rw[aA,bo];simp only[Bool.not_true,aV];show vq R K (pF R K q) w (.func 109 [] []) v (b.length:Int) (i:Int) H3;unfold vq;simp only[gC,km];refine w0 (by omega) (by omega) ?_;exact ih (i+1) H3 S3 (by omega) (by omega) m3 (hE.trans (x12.trans x3))
 show zh R K (pF R K G.NL) v w (.func 109 [] []) H;unfold zh;have gv:G.NL=1000000:=rfl;generalize G.NL=iV at gv ⊢;refine h1.choose_spec.1.len ?_;rw[aR];refine h2.choose_spec.1.len ?_;rw[aR,nat_eq];simp only[Bool.not_true,aV];refine h1.choose_spec.1.len ?_;rw[aR];exact loop iV 0 H S (Nat.zero_le _) (by omega) hM (Ext.refl S)
theorem ahk{R:jt}{x y:AV}{k:gN→AH→Prop}(h:R x y H k):hY (.func 11 [] []) λg a b=>bT (cY Tryz.prog g) (eO (Cy R) g (a++([x,y]++b)) H k):=by
 show bT (cY Tryz.prog 11) (eO (Cy R) 11 [x,y] H k);refine cv (by kernel_rfl) ?_;exact h
theorem t75{R:jt}{b:List (List aK)}(hb:b.length≤900000)(hR:∀s∈b,lW R dY s):pI (GI R) 11 lV b:=by
 intro K H S v w hM h1 h2 hK;have loop:∀(q i:Nat) (H:AH) (S':LS),i≤b.length→b.length-i<q→Mem H S'→Ext S S'→vo R K q w (.func 11 [] []) v (b.length:Int) (i:Int) H:=by
  intro q
  induction q with
  |zero=>intro i H S' _ h;omega
  |succ q ih=>
   intro i H S' hi hq hM hE;show Cz R K (vo R K q) (J5 R K) w (.func 11 [] []) v (b.length:Int) (i:Int) H;unfold Cz;rw[di];refine cH (λg=>?_) (λ_=>hK H S' hM hE);have hil:i<b.length:=by omega
   obtain⟨s,hs⟩:∃s,b[i]? = some s:=⟨_,List.getElem?_eq_getElem hil⟩
   obtain⟨bv,s1,g1⟩:=h1.ext hE;obtain⟨bv',s2,g2⟩:=h2.ext hE;refine s1.wF hM hil ?_;refine s2.wF hM hil ?_;refine ahk ?_;refine hR s (List.mem_of_getElem? hs) hM (g1 i s hs) (g2 i s hs) λH3 S3 m3 x3=>?_;rw[aA,bo];simp only[Bool.not_true,aV,gC,km];refine w0 (by omega) (by omega) ?_;exact ih (i+1) H3 S3 (by omega) (by omega) m3 (hE.trans x3)
 show CA R K (vo R K G.NL) v w (.func 11 [] []) H;unfold CA;have gv:G.NL=1000000:=rfl;generalize G.NL=iV at gv ⊢;refine h1.choose_spec.1.len ?_;rw[aR];refine h2.choose_spec.1.len ?_;rw[aR,nat_eq];simp only[Bool.not_true,aV];refine h1.choose_spec.1.len ?_;rw[aR];exact loop iV 0 H S (Nat.zero_le _) (by omega) hM (Ext.refl S)
theorem t32{R:qQ}{s:aK}(hn:∀k a ns l bs,s=.mk k a ns l bs→ns.length≤900000∧pI R.2.1 74 gS l∧pI R.2.2 11 lV bs)(r:R.1=f72):lW (GF R) C5 s:=by
 obtain⟨kind,at_,ns,l,bs⟩:=s;obtain⟨h0,h1,h2⟩:=hn kind at_ ns l bs rfl;intro K H S v w hM ⟨c,ev,e1⟩ ⟨c',ew,e2⟩ hK;subst ev;subst ew;show Ct R K (.agg c) (.agg c') H;unfold Ct;rw[r];refine Df hM e1.ones λH1 S1 m1 x1 o1 n1=>?_;refine Df m1 e2.ones λH2 S2 m2 x2 o2 n2=>?_;have x12:=x1.trans x2;have jW:=(x2.ob _ (by omega)).trans o1;obtain⟨vn,vl,vb,c1,N1,L1,B1⟩:=(e1.ext x12).out;obtain⟨vn',vl',vb',c2,N2,L2,B2⟩:=(e2.ext x12).out;subst c1;subst c2;simp only[bu,Nat.zero_add];refine aG m2 jW (v:=.int 0 (kind:Int)) rfl ?_;rw[aR];refine aG m2 o2 (v:=.int 0 (kind:Int)) rfl ?_;rw[aR,nat_eq,aU];refine aG m2 jW (v:=.int 0 (at_:Int)) rfl ?_;rw[aR];refine aG m2 o2 (v:=.int 0 (at_:Int)) rfl ?_;rw[aR,nat_eq,aU];refine aG m2 jW (v:=vn) rfl ?_;refine aG m2 o2 (v:=vn') rfl ?_;refine t72 h0 m2 N1 N2 λH3 S3 m3 x3=>?_;rw[aA,bo,aU];refine aG m3 ((x3.ob _ (by omega)).trans jW) (v:=vl) rfl ?_;refine aG m3 ((x3.ob _ (by omega)).trans o2) (v:=vl') rfl ?_;refine h1 m3 (L1.ext x3) (L2.ext x3) λH4 S4 m4 x4=>?_;rw[aA,bo,aU];have x34:=x3.trans x4;refine aG m4 ((x34.ob _ (by omega)).trans jW) (v:=vb) rfl ?_;refine aG m4 ((x34.ob _ (by omega)).trans o2) (v:=vb') rfl ?_;refine h2 m4 (B1.ext x34) (B2.ext x34) λH5 S5 m5 x5=>?_;rw[aA,bo];exact hK H5 S5 m5 (x12.trans (x34.trans x5))
theorem t74{R:qS}{s:aE}(hn:∀k a n t op l fs,s=.mk k a n t op l fs→pI R.1 74 gS l∧pI R.2 109 kY fs):lW (GH R) kE s:=by
 obtain⟨kind,at_,nn,t,op,l,fs⟩:=s;obtain⟨h1,h2⟩:=hn kind at_ nn t op l fs rfl;intro K H S v w hM ⟨c,ev,e1⟩ ⟨c',ew,e2⟩ hK;subst ev;subst ew;show Cx R K (.agg c) (.agg c') H;unfold Cx;refine Df hM e1.ones λH1 S1 m1 x1 o1 n1=>?_;refine Df m1 e2.ones λH2 S2 m2 x2 o2 n2=>?_;have x12:=x1.trans x2;have jW:=(x2.ob _ (by omega)).trans o1;obtain⟨vl,vf,c1,h8,L1,F1⟩:=(e1.ext x12).out;obtain⟨vl',vf',c2,_,L2,F2⟩:=(e2.ext x12).out;subst c1;subst c2;simp only[bu,Nat.zero_add];refine aG m2 jW (v:=.int 0 (kind:Int)) rfl ?_;rw[aR];refine aG m2 o2 (v:=.int 0 (kind:Int)) rfl ?_;rw[aR,nat_eq,aU];refine aG m2 jW (v:=.int 0 (at_:Int)) rfl ?_;rw[aR];refine aG m2 o2 (v:=.int 0 (at_:Int)) rfl ?_;rw[aR,nat_eq,aU];refine aG m2 jW (v:=.int 0 (nn:Int)) rfl ?_;rw[aR];refine aG m2 o2 (v:=.int 0 (nn:Int)) rfl ?_;rw[aR,nat_eq,aU];refine aG m2 jW (v:=al t) rfl ?_;refine aG m2 o2 (v:=al t) rfl ?_;refine Bf h8 h8 ?_;rw[decide_eq_true rfl,bo,aU];refine aG m2 jW (v:=.int 0 (op:Int)) rfl ?_;rw[aR];refine aG m2 o2 (v:=.int 0 (op:Int)) rfl ?_;rw[aR,nat_eq,aU];refine aG m2 jW (v:=vl) rfl ?_;refine aG m2 o2 (v:=vl') rfl ?_;refine h1 m2 L1 L2 λH4 S4 m4 x4=>?_;rw[aA,bo,aU];refine aG m4 ((x4.ob _ (by omega)).trans jW) (v:=vf) rfl ?_;refine aG m4 ((x4.ob _ (by omega)).trans o2) (v:=vf') rfl ?_;refine h2 m4 (F1.ext x4) (F2.ext x4) λH5 S5 m5 x5=>?_;rw[aA,bo];exact hK H5 S5 m5 (x12.trans (x4.trans x5))
theorem t109{R:oz}{s:cq}(hn:∀ps b,s=.mk ps b→ps.length≤900000∧lW R.1 dY b)(r:R.2=f72):lW (CC R) Fj s:=by
 obtain⟨ps,b⟩:=s;obtain⟨h0,h1⟩:=hn ps b rfl;intro K H S v w hM ⟨c,ev,e1⟩ ⟨c',ew,e2⟩ hK;subst ev;subst ew;show zi R K (.agg c) (.agg c') H;unfold zi;rw[r];refine Df hM e1.ones λH1 S1 m1 x1 o1 n1=>?_;refine Df m1 e2.ones λH2 S2 m2 x2 o2 n2=>?_;have x12:=x1.trans x2;have jW:=(x2.ob _ (by omega)).trans o1;obtain⟨vp,vb,c1,N1,B1⟩:=(e1.ext x12).out;obtain⟨vp',vb',c2,N2,B2⟩:=(e2.ext x12).out;subst c1;subst c2;simp only[bu,Nat.zero_add];refine aG m2 jW (v:=vp) rfl ?_;refine aG m2 o2 (v:=vp') rfl ?_;refine t72 h0 m2 N1 N2 λH3 S3 m3 x3=>?_;rw[aA,bo,aU];refine aG m3 ((x3.ob _ (by omega)).trans jW) (v:=vb) rfl ?_;refine aG m3 ((x3.ob _ (by omega)).trans o2) (v:=vb') rfl ?_;refine h1 m3 (B1.ext x3) (B2.ext x3) λH4 S4 m4 x4=>?_;rw[aA,bo];exact hK H4 S4 m4 (x12.trans (x3.trans x4))
theorem t11{R:qO}{b:List aK}(h:pI R 32 dY b):lW (GC R) dY b:=by
 intro K H S v w hM h1 h2 hK;show Cp R K v w H;unfold Cp;refine h hM h1 h2 λH4 S4 m4 x4=>?_;rw[aA,bo];exact hK H4 S4 m4 x4
theorem ajD(m:Nat):s3 (m+1)=(GC (J6 (s3 m)),GD (J7 (s3 m)),GF (J8 (s3 m)),GG (J9 (s3 m)),GH (Ka (s3 m)),GI (Kb (s3 m)),CB (E6 (s3 m)),CC (E7 (s3 m))):=by kernel_rfl
structure ahl(m:Nat)(R:xP):Prop where
 same:∀b,3*gb b+3<m→lW R.1 dY b
 ss:∀b,3*gb b+2<m→pI R.2.1 32 dY b
 st:∀s,3*s.sz+1<m→lW R.2.2.1 C5 s
 es:∀l,3*db l+2<m→pI R.2.2.2.1 74 gS l
 ex:∀e,3*e.sz+1<m→lW R.2.2.2.2.1 kE e
 bs:∀l,3*gd l+2<m→pI R.2.2.2.2.2.1 11 lV l
 fs:∀l,3*jA l+2<m→pI R.2.2.2.2.2.2.1 109 kY l
 fn:∀e,3*e.sz+1<m→lW R.2.2.2.2.2.2.2 Fj e
theorem ahm:∀m:Nat,m≤900000→∀M:Nat,m≤M→ahl m (s3 M)
 |0,_,M,_=>⟨λb h=>by omega,λb h=>by omega,λb h=>by omega,λb h=>by omega,λb h=>by omega,λb h=>by omega,λb h=>by omega,λb h=>by omega⟩
 |m+1,hm,0,h=>by omega
 |m+1,hm,M+1,h=>by
  have A:=ahm m (by omega) M (by omega);rw[ajD];refine⟨λb h=>?_,λb h=>?_,λs h=>?_,λl h=>?_,λe h=>?_,λl h=>?_,λl h=>?_,λe h=>?_⟩
  ·exact t11 (A.ss b (by omega))
  ·refine t31 (by have:=sV b;omega) λs hs=>A.st s ?_;obtain⟨i,hi⟩:=List.mem_iff_getElem?.1 hs;have:=Av hi;omega
  ·refine t32 (λk a ns l bs e=>?_) rfl;subst e;simp only[aK.sz]at h;exact⟨by omega,A.es l (by omega),A.bs bs (by omega)⟩
  ·refine t73 (by have:=Ay l;omega) λs hs=>A.ex s ?_;obtain⟨i,hi⟩:=List.mem_iff_getElem?.1 hs;have:=Au hi;omega
  ·refine t74 λk a n t op l fs e=>?_;subst e;simp only[aE.sz]at h;exact⟨A.es l (by omega),A.fs fs (by omega)⟩
  ·refine t75 (by have:=AA l;omega) λs hs=>A.same s ?_;obtain⟨i,hi⟩:=List.mem_iff_getElem?.1 hs;have:=Ax hi;omega
  ·refine ajC (by have:=Az l;omega) λs hs=>A.fn s ?_;obtain⟨i,hi⟩:=List.mem_iff_getElem?.1 hs;have:=Aw hi;omega
  ·refine t109 (λps b e=>?_) rfl;subst e;simp only[cq.sz]at h;exact⟨by omega,A.same b (by omega)⟩
theorem SG{b:List aK}(hb:gb b≤200000):lW f11 dY b:=by
 have e:f11=(s3 G.NL).1:=by unfold f11;rfl
 rw[e];have gv:G.NL=1000000:=rfl;clear e;generalize G.NL=iV at gv ⊢;have h:=(ahm (3*gb b+4) (by omega) iV (by omega)).same;exact @h b (by omega)
end
end Go.Proofs.YtcedghechlgecaaGreatDoor
namespace Go.X
section
variable {S S':LS}{H:AH}
theorem dY.done{lo:Nat}{v:AV}{l:List aK}(h:cy wx lo S v l)(hM:Mem H S):dY S (eI lo S.n) v l:=h.done hM
theorem gS.done{lo:Nat}{v:AV}{l:List aE}(h:cy kA lo S v l)(hM:Mem H S):gS S (eI lo S.n) v l:=h.done hM
theorem kY.done{lo:Nat}{v:AV}{l:List cq}(h:cy aaS lo S v l)(hM:Mem H S):kY S (eI lo S.n) v l:=h.done hM
theorem lV.done{lo:Nat}{v:AV}{l:List (List aK)}(h:cy Aj lo S v l)(hM:Mem H S):lV S (eI lo S.n) v l:=by
 obtain⟨cl,g1,g2⟩:=h.done hM;refine⟨λi=>(cl i).headD .ab,g1.congr λi hi=>?_,λi b hb=>?_⟩
 ·obtain⟨v,bc,e,_⟩:=g2 i _ (List.getElem?_eq_getElem hi);show cl i=[(cl i).headD .ab];rw[e];rfl
 ·obtain⟨v,bc,e,q1,q2⟩:=g2 i b hb;show dY S (eI lo S.n) ((cl i).headD .ab) b;rw[e];exact⟨bc,q1,q2⟩
theorem tT{α:Type}{l:List α}{i:Nat}{a:α}(h:l[i]? = some a):l.take (i+1)=l.take i++[a]:=by
 rw[List.take_add_one,h];rfl
theorem cy.ext{α:Type}{R:Rep α}{lo:Nat}{v:AV}{l:List α}(h:cy R lo S v l)(hM:Mem H S)(hx:Ext S S'):cy R lo S' v l:=h.keep hM hx.n λb _ hb=>hx.ob b hb
end
end Go.X
namespace Go.Proofs.YtcedghechlgecaaGreatDoor
open Go Go.X Go.Proofs.YtcedghechlgecaaGreatDoor.G
section
variable {H:AH}{S:LS}{K:KF}
def kH{α:Type}(F:AV→AH→KF→Prop)(Rp:LS→(Nat→Prop)→AV→α→Prop)(a a':α):Prop:=∀{K:KF}{H:AH}{S:LS}{v:AV},Mem H S→Rp S (j4 S) v a→(∀H' S' w,Mem H' S'→Ext S S'→Rp S' (eI S.n S'.n) w a'→K (.ret w) H')→F v H K
def mC{α:Type}(F:AV→AV→AH→KF→Prop)(g:Nat)(Rp:LS→(Nat→Prop)→AV→α→Prop)(a a':α):Prop:=kH (λv=>F v (.func g [] [])) Rp a a'
theorem ahn{b o n c z:Nat}{ex:Bool}{k:AV→Prop}(h:k (.bool false)):ye true (.slice b o n c z ex) k:=h
theorem b35{l:List (List Nat)}(hl:l.length≤900000):kH f35 ik l l:=by
 intro K H S v hM h hK;show CE Kd K v H;unfold CE;obtain⟨h1,h8⟩:=h;rcases h1 with⟨rfl,e0⟩|⟨b,o,c,ex,cs,m,rfl,q1,q2,q3,q4,q5⟩
 ·show K (.ret .ab) H;exact hK H S .ab hM (Ext.refl S) ⟨.inl ⟨rfl,e0⟩,h8⟩
 ·refine ahn ?_;rw[bo,aV];refine dP hM rfl (λ_ h=>by simp at h) λH1 m1=>?_;have q2':(S.push (.ce [] 0)).ob b=.ce cs m:=(LS.cj _ _ q1).trans q2;have f1:eg (S.push (.ce [] 0)) 1 (.slice S.n 0 0 0 1 true) 0 []:=.inr ⟨S.n,0,true,[],rfl,LS.ak _ _,rfl,Nat.le_refl _,rfl,rfl,λ_ h=>by simp at h⟩;refine pU (ex:=ex) (cap:=c) (k:=λl'=>tW 1 16 l.length _ l' H1 _) m1 q2' q4 ?_;have hone:∀a∈(cs.drop o).take (l.length*1),a.one=true:=by
   intro a ha;obtain⟨i,hi⟩:=List.mem_iff_getElem?.1 ha;have hil:i<l.length:=by
    have:=(List.getElem?_eq_some_iff.1 hi).1;rw[List.length_take]at this;omega
   have g:=q5 i hil;rw[List.getElem?_take,if_pos (by omega),List.getElem?_drop]at hi;have g0:((cs.drop (o+i*1)).take 1)[0]? = [al (l[i]?.getD [])][0]?:=by rw[g]
   rw[List.getElem?_take,if_pos (by omega),List.getElem?_drop,Nat.add_zero,Nat.mul_one,hi]at g0;simp at g0;rw[g0];rfl
  refine xl m1 f1 (by omega) (.inr (by intro q;cases q)) (by rw[List.length_take,List.length_drop];omega) (by omega) hone λH2 S2 v2 m2 he=>?_;obtain⟨a1,a2,a3,a4⟩:=he;have a1:S.n+1≤S2.n:=a1;rw[Nat.zero_add,List.nil_append]at a3;refine hK H2 S2 v2 m2 ⟨by omega,λx hx=>?_⟩ ⟨?_,h8⟩
  ·rw[a2 x (by show x<S.n+1;omega) (λq=>by have q:x=S.n:=q;omega)];exact LS.cj _ _ hx
  ·refine(a3.slR (Q:=eI S.n S2.n) λx hx=>⟨?_,a3.lt m2 hx⟩).congr λi hi=>?_
   ·rcases a4 x hx with q|q
    ·have q:x=S.n:=q;omega
    ·have q:S.n+1≤x:=q;omega
   ·refine Eq.trans ?_ (q5 i hi);rw[List.drop_take,List.take_take,List.drop_drop,Nat.min_eq_left (by omega)]
theorem zC:∀a:List aK,(bf a).length=a.length
 |[]=>rfl
 |e::a=>by rw[bf,List.length_cons,List.length_cons,zC a]
theorem aez{R:ju}{x:AV}{k:gN→AH→Prop}(h:R x H k):hY (.func 34 [] []) λg a b=>bT (cY Tryz.prog g) (eO (CG R) g (a++([x]++b)) H k):=by
 show bT (cY Tryz.prog 34) (eO (CG R) 34 [x] H k);refine cv (by kernel_rfl) ?_;exact h
theorem b33{R:ju}{b:List aK}(hb:b.length≤900000)(hR:∀s∈b,kH R C5 s s.bare):mC (GK R) 34 dY b (bf b):=by
 intro K H S v hM h1 hK;have loop:∀(q i:Nat) (w:AV) (H:AH) (S':LS),i≤b.length→b.length-i<q→Mem H S'→Ext S S'→cy wx S.n S' w (bf (b.take i))→vr R K q (.func 34 [] []) w v (b.length:Int) (i:Int) H:=by
  intro q
  induction q with
  |zero=>intro i w H S' _ h;omega
  |succ q ih=>
   intro i w H S' hi hq hM hE L;show CI R K (vr R K q) (CH R K) (.func 34 [] []) w v (b.length:Int) (i:Int) H;unfold CI CH;rw[di];refine cH (λg=>?_) (λg=>?_)
   ·have hil:i<b.length:=by omega
    obtain⟨s,hs⟩:∃s,b[i]? = some s:=⟨_,List.getElem?_eq_getElem hil⟩
    obtain⟨cl,s1,g1⟩:=h1.ext hE;have e1:=g1 i s hs;refine s1.load hM hil ?_;refine qX hM sS rfl e1.len e1.ones λH1 S1 m1 x1 o1 n1=>?_;refine fl m1 o1 e1.len ?_;refine aez ?_;refine hR s (List.mem_of_getElem? hs) m1 ⟨_,rfl,e1.ext x1⟩ λH3 S3 w3 m3 x3 ⟨c3,ew,e3⟩=>?_;subst ew;rw[aA,fO];refine gq e3.len ?_;rw[agO e3.len rfl];have kD:=x1.trans x3;have L3:=L.ext hM kD;have AB:∀x,bd w x→x<S'.n:=λx hx=>L.lt hM hx;have:=hE.n;have:=x1.n;have hlen:(bf (b.take i)).length=i:=by rw[zC,List.length_take];omega
    refine L3.push (R:=wx) (bytes:=88) m3 e3 (λx hx=>⟨by have:=hx.1;omega,hx.2,λq=>by have:=AB x q;have:=hx.1;omega⟩) (by have:=x3.n;omega) (by rw[hlen];omega) λH5 S5 w5 m5 L5 n5 k5 b5=>?_;simp only[gC,km];refine w0 (by omega) (by omega) ?_;refine ih (i+1) w5 H5 S5 (by omega) (by omega) m5 ⟨by have:=kD.n;omega,λx hx=>?_⟩ ?_
    ·rw[k5 x (by have:=kD.n;omega) λq=>by have:=L.lo q;omega];exact(hE.trans kD).ob x hx
    ·rw[tT hs,bK];simp only[bf];exact L5
   ·have e:i=b.length:=by omega
    subst e;rw[List.take_length]at L;exact hK H S' w hM hE (dY.done L hM)
 show CJ R K (vr R K G.NL) v (.func 34 [] []) H;unfold CJ;have gv:G.NL=1000000:=rfl;generalize G.NL=iV at gv ⊢;refine h1.choose_spec.1.len ?_;rw[aR];exact loop iV 0 .ab H S (Nat.zero_le _) (by omega) hM (Ext.refl S) (cy.nil _ _ _)
theorem zD:∀a:List aE,(bJ a).length=a.length
 |[]=>rfl
 |e::a=>by rw[bJ,List.length_cons,List.length_cons,zD a]
theorem aeA{R:jv}{x:AV}{k:gN→AH→Prop}(h:R x H k):hY (.func 37 [] []) λg a b=>bT (cY Tryz.prog g) (eO (CL R) g (a++([x]++b)) H k):=by
 show bT (cY Tryz.prog 37) (eO (CL R) 37 [x] H k);refine cv (by kernel_rfl) ?_;exact h
theorem b36{R:jv}{b:List aE}(hb:b.length≤900000)(hR:∀s∈b,kH R kE s s.bare):mC (GM R) 37 gS b (bJ b):=by
 intro K H S v hM h1 hK;have loop:∀(q i:Nat) (w:AV) (H:AH) (S':LS),i≤b.length→b.length-i<q→Mem H S'→Ext S S'→cy kA S.n S' w (bJ (b.take i))→vt R K q (.func 37 [] []) w v (b.length:Int) (i:Int) H:=by
  intro q
  induction q with
  |zero=>intro i w H S' _ h;omega
  |succ q ih=>
   intro i w H S' hi hq hM hE L;show CN R K (vt R K q) (CM R K) (.func 37 [] []) w v (b.length:Int) (i:Int) H;unfold CN CM;simp only[gO];rw[di];refine cH (λg=>?_) (λg=>?_)
   ·have hil:i<b.length:=by omega
    obtain⟨s,hs⟩:∃s,b[i]? = some s:=⟨_,List.getElem?_eq_getElem hil⟩
    obtain⟨cl,s1,g1⟩:=h1.ext hE;have e1:=g1 i s hs;refine s1.load hM hil ?_;refine qX hM dm rfl e1.len e1.ones λH1 S1 m1 x1 o1 n1=>?_;refine fl m1 o1 e1.len ?_;refine aeA ?_;refine hR s (List.mem_of_getElem? hs) m1 ⟨_,rfl,e1.ext x1⟩ λH3 S3 w3 m3 x3 ⟨c3,ew,e3⟩=>?_;subst ew;rw[aA,fO];refine gq e3.len ?_;rw[wy e3.len rfl];have kD:=x1.trans x3;have L3:=L.ext hM kD;have AB:∀x,bd w x→x<S'.n:=λx hx=>L.lt hM hx;have:=hE.n;have:=x1.n;have hlen:(bJ (b.take i)).length=i:=by rw[zD,List.length_take];omega
    refine L3.push (R:=kA) (bytes:=96) m3 e3 (λx hx=>⟨by have:=hx.1;omega,hx.2,λq=>by have:=AB x q;have:=hx.1;omega⟩) (by have:=x3.n;omega) (by rw[hlen];omega) λH5 S5 w5 m5 L5 n5 k5 b5=>?_;simp only[gC,km];refine w0 (by omega) (by omega) ?_;refine ih (i+1) w5 H5 S5 (by omega) (by omega) m5 ⟨by have:=kD.n;omega,λx hx=>?_⟩ ?_
    ·rw[k5 x (by have:=kD.n;omega) λq=>by have:=L.lo q;omega];exact(hE.trans kD).ob x hx
    ·rw[tT hs,bR];simp only[bJ];exact L5
   ·have e:i=b.length:=by omega
    subst e;rw[List.take_length]at L;exact hK H S' w hM hE (gS.done L hM)
 show CO R K (vt R K G.NL) v (.func 37 [] []) H;unfold CO;have gv:G.NL=1000000:=rfl;generalize G.NL=iV at gv ⊢;refine h1.choose_spec.1.len ?_;rw[aR];exact loop iV 0 .ab H S (Nat.zero_le _) (by omega) hM (Ext.refl S) (cy.nil _ _ _)
theorem aaX{l z:List AV}(hl:l.length=2)(hz:z.length=2):spl l z 0=l:=by
 match l,hl,z,hz with
 |[a,b],_,[_,_],_=>rfl
theorem Dh:∀a b:List cq,cm (a++b)=cm a++cm b
 |[],b=>by simp[cm]
 |e::a,b=>by rw[List.cons_append,cm,cm,Dh a b];rfl
theorem zE:∀a:List cq,(cm a).length=a.length
 |[]=>rfl
 |e::a=>by rw[cm,List.length_cons,List.length_cons,zE a]
theorem aeB{R:jx}{x:AV}{k:gN→AH→Prop}(h:R x H k):hY (.func 77 [] []) λg a b=>bT (cY Tryz.prog g) (eO (CV R) g (a++([x]++b)) H k):=by
 show bT (cY Tryz.prog 77) (eO (CV R) 77 [x] H k);refine cv (by kernel_rfl) ?_;exact h
theorem b76{R:jx}{b:List cq}(hb:b.length≤900000)(hR:∀s∈b,kH R Fj s s.bare):mC (GQ R) 77 kY b (cm b):=by
 intro K H S v hM h1 hK;have loop:∀(q i:Nat) (w:AV) (H:AH) (S':LS),i≤b.length→b.length-i<q→Mem H S'→Ext S S'→cy aaS S.n S' w (cm (b.take i))→vw R K q (.func 77 [] []) w v (b.length:Int) (i:Int) H:=by
  intro q
  induction q with
  |zero=>intro i w H S' _ h;omega
  |succ q ih=>
   intro i w H S' hi hq hM hE L;show CX R K (vw R K q) (CW R K) (.func 77 [] []) w v (b.length:Int) (i:Int) H;unfold CX CW;rw[di];refine cH (λg=>?_) (λg=>?_)
   ·have hil:i<b.length:=by omega
    obtain⟨s,hs⟩:∃s,b[i]? = some s:=⟨_,List.getElem?_eq_getElem hil⟩
    obtain⟨cl,s1,g1⟩:=h1.ext hE;have e1:=g1 i s hs;refine s1.load hM hil ?_;refine qX hM Dg rfl e1.len e1.ones λH1 S1 m1 x1 o1 n1=>?_;refine fl m1 o1 e1.len ?_;refine aeB ?_;refine hR s (List.mem_of_getElem? hs) m1 ⟨_,rfl,e1.ext x1⟩ λH3 S3 w3 m3 x3 ⟨c3,ew,e3⟩=>?_;subst ew;rw[aA,fO];refine gq e3.len ?_;rw[aaX e3.len rfl];have kD:=x1.trans x3;have L3:=L.ext hM kD;have AB:∀x,bd w x→x<S'.n:=λx hx=>L.lt hM hx;have:=hE.n;have:=x1.n;have hlen:(cm (b.take i)).length=i:=by rw[zE,List.length_take];omega
    refine L3.push (R:=aaS) (bytes:=48) m3 e3 (λx hx=>⟨by have:=hx.1;omega,hx.2,λq=>by have:=AB x q;have:=hx.1;omega⟩) (by have:=x3.n;omega) (by rw[hlen];omega) λH5 S5 w5 m5 L5 n5 k5 b5=>?_;simp only[gC,km];refine w0 (by omega) (by omega) ?_;refine ih (i+1) w5 H5 S5 (by omega) (by omega) m5 ⟨by have:=kD.n;omega,λx hx=>?_⟩ ?_
    ·rw[k5 x (by have:=kD.n;omega) λq=>by have:=L.lo q;omega];exact(hE.trans kD).ob x hx
    ·rw[tT hs,Dh];simp only[cm];exact L5
   ·have e:i=b.length:=by omega
    subst e;rw[List.take_length]at L;exact hK H S' w hM hE (kY.done L hM)
 show CY R K (vw R K G.NL) v (.func 77 [] []) H;unfold CY;have gv:G.NL=1000000:=rfl;generalize G.NL=iV at gv ⊢;refine h1.choose_spec.1.len ?_;rw[aR];exact loop iV 0 .ab H S (Nat.zero_le _) (by omega) hM (Ext.refl S) (cy.nil _ _ _)
theorem zF:∀a:List (List aK),(cg a).length=a.length
 |[]=>rfl
 |e::a=>by rw[cg,List.length_cons,List.length_cons,zF a]
theorem aeC{R:jw}{x:AV}{k:gN→AH→Prop}(h:R x H k):hY (.func 12 [] []) λg a b=>bT (cY Tryz.prog g) (eO (CR R) g (a++([x]++b)) H k):=by
 show bT (cY Tryz.prog 12) (eO (CR R) 12 [x] H k);refine cv (by kernel_rfl) ?_;exact h
theorem b38{R:jw}{b:List (List aK)}(hb:b.length≤900000)(hR:∀s∈b,kH R dY s (bf s)):mC (GP R) 12 lV b (cg b):=by
 intro K H S v hM h1 hK;have loop:∀(q i:Nat) (w:AV) (H:AH) (S':LS),i≤b.length→b.length-i<q→Mem H S'→Ext S S'→cy Aj S.n S' w (cg (b.take i))→vu R K q (.func 12 [] []) w v (b.length:Int) (i:Int) H:=by
  intro q
  induction q with
  |zero=>intro i w H S' _ h;omega
  |succ q ih=>
   intro i w H S' hi hq hM hE L;show CT R K (vu R K q) (CS R K) (.func 12 [] []) w v (b.length:Int) (i:Int) H;unfold CT CS;rw[di];refine cH (λg=>?_) (λg=>?_)
   ·have hil:i<b.length:=by omega
    obtain⟨s,hs⟩:∃s,b[i]? = some s:=⟨_,List.getElem?_eq_getElem hil⟩
    obtain⟨bv,s1,g1⟩:=h1.ext hE;refine s1.wF hM hil ?_;refine aeC ?_;refine hR s (List.mem_of_getElem? hs) hM (g1 i s hs) λH3 S3 w3 m3 x3 ⟨c3,e3,e4⟩=>?_;rw[aA];refine iX e3.one ?_;have L3:=L.ext hM x3;have AB:∀x,bd w x→x<S'.n:=λx hx=>L.lt hM hx;have:=hE.n;have hlen:(cg (b.take i)).length=i:=by rw[zF,List.length_take];omega
    refine L3.push (R:=Aj) (bytes:=24) m3 ⟨w3,c3,rfl,e3,e4⟩ (λx hx=>⟨by have:=hx.1;omega,hx.2,λq=>by have:=AB x q;have:=hx.1;omega⟩) (by have:=x3.n;omega) (by rw[hlen];omega) λH5 S5 w5 m5 L5 n5 k5 b5=>?_;simp only[gC,km];refine w0 (by omega) (by omega) ?_;refine ih (i+1) w5 H5 S5 (by omega) (by omega) m5 ⟨by have:=x3.n;omega,λx hx=>?_⟩ ?_
    ·rw[k5 x (by have:=x3.n;omega) λq=>by have:=L.lo q;omega];exact(hE.trans x3).ob x hx
    ·rw[tT hs,bS];simp only[cg];exact L5
   ·have e:i=b.length:=by omega
    subst e;rw[List.take_length]at L;exact hK H S' w hM hE (lV.done L hM)
 show CU R K (vu R K G.NL) v (.func 12 [] []) H;unfold CU;have gv:G.NL=1000000:=rfl;generalize G.NL=iV at gv ⊢;refine h1.choose_spec.1.len ?_;rw[aR];exact loop iV 0 .ab H S (Nat.zero_le _) (by omega) hM (Ext.refl S) (cy.nil _ _ _)
theorem b12{R:qT}{b:List aK}(h:mC R 34 dY b (bf b)):kH (GJ R) dY b (bf b):=by
 intro K H S v hM h1 hK;show CF R K v H;unfold CF;refine h hM h1 λH4 S4 w m4 x4 r4=>?_;rw[aA];exact hK H4 S4 w m4 x4 r4
theorem _root_.Go.X.gS.go{S S':LS}{Q Q':Nat→Prop}{v:AV}{l:List aE}(h:gS S Q v l)(hk:∀b,Q b→S'.ob b=S.ob b)(h1:∀b,Q b→Q' b):gS S' Q' v l:=by
 obtain⟨cl,g1,g2⟩:=h;exact⟨cl,g1.go hk h1,λi e he=>(g2 i e he).go hk h1⟩
theorem _root_.Go.X.kY.go{S S':LS}{Q Q':Nat→Prop}{v:AV}{l:List cq}(h:kY S Q v l)(hk:∀b,Q b→S'.ob b=S.ob b)(h1:∀b,Q b→Q' b):kY S' Q' v l:=by
 obtain⟨cl,g1,g2⟩:=h;exact⟨cl,g1.go hk h1,λi e he=>(g2 i e he).go hk h1⟩
theorem _root_.Go.X.lV.go{S S':LS}{Q Q':Nat→Prop}{v:AV}{l:List (List aK)}(h:lV S Q v l)(hk:∀b,Q b→S'.ob b=S.ob b)(h1:∀b,Q b→Q' b):lV S' Q' v l:=by
 obtain⟨cl,g1,g2⟩:=h;exact⟨cl,g1.go hk h1,λi e he=>dY.go (g2 i e he) hk h1⟩
theorem _root_.Go.X.eZ.mk'{S:LS}{Q:Nat→Prop}{kind a:Nat}{ns:List (List Nat)}{l:List aE}{bs:List (List aK)}{vn vl vb:AV}(h1:ik S Q vn ns)(h2:gS S Q vl l)(h3:lV S Q vb bs):eZ S Q [.int 0 kind,.int 0 a,vn,vl,vb] (.mk kind a ns l bs):=by
 obtain⟨cl,a1,a2⟩:=h2;obtain⟨bv,b1,b2⟩:=h3;have hex:∀i,∃cb:Nat→List AV,∀b,bs[i]? = some b→cJ S Q 5 (bv i) b.length cb∧∀j s,b[j]? = some s→eZ S Q (cb j) s:=λi=>by
  cases e:bs[i]? with
  |none=>exact⟨λ_=>[],λb q=>by cases q⟩
  |some b=>
   obtain⟨cb,q1,q2⟩:=b2 i b e;exact⟨cb,λb' q=>by cases q;exact⟨q1,q2⟩⟩
 exact .mk kind a ns l bs vn vl vb cl bv (λi=>(hex i).choose) h1 a1 a2 b1 (λi b hb=>((hex i).choose_spec b hb).1) λi b j s hb hs=>((hex i).choose_spec b hb).2 j s hs
theorem _root_.Go.X.RE.mk'{S:LS}{Q:Nat→Prop}{kind a n op:Nat}{t:List Nat}{l:List aE}{fs:List cq}{vl vf:AV}(h8:B8 t)(h2:gS S Q vl l)(h3:kY S Q vf fs):RE S Q [.int 0 kind,.int 0 a,.int 0 n,al t,.int 0 op,vl,vf] (.mk kind a n t op l fs):=by
 obtain⟨cl,a1,a2⟩:=h2;obtain⟨bv,b1,b2⟩:=h3;exact .mk kind a n t op l fs vl vf cl bv h8 a1 a2 b1 b2
theorem _root_.Go.X.RF.mk'{S:LS}{Q:Nat→Prop}{ps:List (List Nat)}{b:List aK}{vp vb:AV}(h1:ik S Q vp ps)(h3:dY S Q vb b):RF S Q [vp,vb] (.mk ps b):=by
 obtain⟨cb,b1,b2⟩:=h3;exact .mk ps b vp vb cb h1 b1 b2
theorem _root_.Go.X.lV.one{S:LS}{Q:Nat→Prop}{v:AV}{l:List (List aK)}(h:lV S Q v l):v.one=true:=h.choose_spec.1.one
theorem _root_.Go.X.lV.same{S:LS}{Q:Nat→Prop}{v:AV}{l:List (List aK)}(h:lV S Q v l):aT v v=true:=h.choose_spec.1.same
theorem _root_.Go.X.gS.one{S:LS}{Q:Nat→Prop}{v:AV}{l:List aE}(h:gS S Q v l):v.one=true:=h.choose_spec.1.one
theorem _root_.Go.X.gS.same{S:LS}{Q:Nat→Prop}{v:AV}{l:List aE}(h:gS S Q v l):aT v v=true:=h.choose_spec.1.same
theorem _root_.Go.X.dY.one{S:LS}{Q:Nat→Prop}{v:AV}{l:List aK}(h:dY S Q v l):v.one=true:=h.choose_spec.1.one
theorem _root_.Go.X.dY.same{S:LS}{Q:Nat→Prop}{v:AV}{l:List aK}(h:dY S Q v l):aT v v=true:=h.choose_spec.1.same
theorem _root_.Go.X.kY.one{S:LS}{Q:Nat→Prop}{v:AV}{l:List cq}(h:kY S Q v l):v.one=true:=h.choose_spec.1.one
theorem b34{R:qU}{s:aK}(hn:∀k a ns l bs,s=.mk k a ns l bs→ns.length≤900000∧mC R.2.1 37 gS l (bJ l)∧mC R.2.2 12 lV bs (cg bs))(r:R.1=f35):kH (GL R) C5 s s.bare:=by
 obtain⟨kind,at_,ns,l,bs⟩:=s;obtain⟨h0,h1,h2⟩:=hn kind at_ ns l bs rfl;intro K H S v hM ⟨c,ev,e1⟩ hK;subst ev;show CK R K (.agg c) H;unfold CK;rw[r];refine Df hM e1.ones λH1 S1 m1 x1 o1 n1=>?_;refine cn (b9 m1 sS λH2 m2=>?_);have m2:Mem H2 (S1.push (.ce z5 0)):=m2;have x2:Ext S1 (S1.push (.ce z5 0)):=Ext.push _ _;have o2:(S1.push (.ce z5 0)).ob S1.n=.ce z5 0:=LS.ak _ _;have n2:(S1.push (.ce z5 0)).n=S1.n+1:=rfl;revert m2 x2 o2 n2;generalize S1.push (.ce z5 0)=S2;intro m2 x2 o2 n2;have x12:=x1.trans x2;have jW:=(x2.ob _ (by omega)).trans o1;obtain⟨vn,vl,vb,c1,N1,L1,B1⟩:=(e1.ext x12).out;subst c1;simp only[bu,Nat.zero_add];refine aG m2 jW (v:=.int 0 (kind:Int)) rfl ?_;rw[aR];refine aG m2 jW (v:=vn) rfl ?_;refine aG m2 jW (v:=vl) rfl ?_;refine aG m2 jW (v:=vb) rfl ?_;refine b35 h0 m2 N1 λH3 S3 w3 m3 x3 N3=>?_;rw[aA];have kT:=(x3.ob _ (by omega)).trans jW;refine aG m3 kT (v:=vb) rfl ?_;refine cv B1.same ?_;refine aG m3 kT (v:=vl) rfl ?_;refine cv (gS.same L1) ?_;refine aG m3 kT (v:=.int 0 (kind:Int)) rfl ?_;rw[aR];refine cv (ko _ _) ?_;refine h1 m3 (L1.ext x3) λH4 S4 w4 m4 x4 N4=>?_;rw[aA];have oD:=(x4.ob _ (by have:=x3.n;omega)).trans kT;refine aG m4 oD (v:=vb) rfl ?_;refine cv B1.same ?_;refine aG m4 oD (v:=.int 0 (kind:Int)) rfl ?_;rw[aR];refine cv (ko _ _) ?_;refine h2 m4 ((B1.ext x3).ext x4) λH5 S5 w5 m5 x5 N5=>?_;rw[aA];have wM:=(x5.ob _ (by have:=x3.n;have:=x4.n;omega)).trans oD;refine aG m5 wM (v:=.int 0 (kind:Int)) rfl ?_;rw[aR];refine cv (ko _ _) ?_;refine iX N3.one ?_;refine iX (gS.one N4) ?_;refine iX N5.one ?_;have x35:=x3.trans (x4.trans x5);have hR:eZ S5 (eI S.n S5.n) [.int 0 (kind:Int),.int 0 ((0:Nat):Int),w3,w4,w5] (aK.mk kind 0 ns (bJ l) (cg bs)):=by
  have:=x12.n;have:=x3.n;have:=x4.n;have:=x5.n;exact eZ.mk' (ik.go N3 (λb hb=>(x4.trans x5).ob b hb.2) λb hb=>⟨by have:=hb.1;omega,by have:=hb.2;omega⟩)
   (gS.go N4 (λb hb=>x5.ob b hb.2) λb hb=>⟨by have:=hb.1;omega,by have:=hb.2;omega⟩)
   (lV.go N5 (λb hb=>rfl) λb hb=>⟨by have:=hb.1;omega,by have:=hb.2;omega⟩)
 refine hV m5 ((x35.ob _ (by omega)).trans o2) rfl rfl hR.ones λH6 m6=>?_;have m6:Mem H6 (S5.set S1.n (.ce [.int 0 (kind:Int),.int 0 ((0:Nat):Int),w3,w4,w5] 0)):=m6;have x6:Ext S (S5.set S1.n (.ce [.int 0 (kind:Int),.int 0 ((0:Nat):Int),w3,w4,w5] 0)):=(x12.trans x35).set (by have:=x1.n;omega) _;have o6:(S5.set S1.n (.ce [.int 0 (kind:Int),.int 0 ((0:Nat):Int),w3,w4,w5] 0)).ob S1.n=.ce [.int 0 (kind:Int),.int 0 ((0:Nat):Int),w3,w4,w5] 0:=LS.ay _ _ _;have Y9:(S5.set S1.n (.ce [.int 0 (kind:Int),.int 0 ((0:Nat):Int),w3,w4,w5] 0)).n=S5.n:=rfl;have ne:∀b,S1.n<b→(S5.set S1.n (.ce [.int 0 (kind:Int),.int 0 ((0:Nat):Int),w3,w4,w5] 0)).ob b=S5.ob b:=λb hb=>LS.aq _ _ (by omega);revert m6 x6 o6 Y9 ne;generalize S5.set S1.n (.ce [.int 0 (kind:Int),.int 0 ((0:Nat):Int),w3,w4,w5] 0)=S6;intro m6 x6 o6 Y9 ne;refine fl m6 o6 rfl ?_;refine hK H6 _ _ m6 x6 ⟨_,rfl,?_⟩;have:=x12.n;have:=x3.n;have:=x4.n;have:=x5.n;exact eZ.mk' (ik.go N3 (λb hb=>(ne b (by have:=hb.1;omega)).trans ((x4.trans x5).ob b hb.2)) λb hb=>⟨by have:=hb.1;omega,by have:=hb.2;omega⟩)
   (gS.go N4 (λb hb=>(ne b (by have:=hb.1;omega)).trans (x5.ob b hb.2)) λb hb=>⟨by have:=hb.1;omega,by have:=hb.2;omega⟩)
   (lV.go N5 (λb hb=>ne b (by have:=hb.1;omega)) λb hb=>⟨by have:=hb.1;omega,by have:=hb.2;omega⟩)
theorem b77{R:qV}{s:cq}(hn:∀ps b,s=.mk ps b→ps.length≤900000∧kH R.1 dY b (bf b))(r:R.2=f35):kH (GR R) Fj s s.bare:=by
 obtain⟨ps,bb⟩:=s;obtain⟨h0,h1⟩:=hn ps bb rfl;intro K H S v hM ⟨c,ev,e1⟩ hK;subst ev;show CZ R K (.agg c) H;unfold CZ;rw[r];refine Df hM e1.ones λH1 S1 m1 x1 o1 n1=>?_;refine cn (b9 m1 Dg λH2 m2=>?_);have m2:Mem H2 (S1.push (.ce z2 0)):=m2;have x2:Ext S1 (S1.push (.ce z2 0)):=Ext.push _ _;have o2:(S1.push (.ce z2 0)).ob S1.n=.ce z2 0:=LS.ak _ _;have n2:(S1.push (.ce z2 0)).n=S1.n+1:=rfl;revert m2 x2 o2 n2;generalize S1.push (.ce z2 0)=S2;intro m2 x2 o2 n2;have x12:=x1.trans x2;have jW:=(x2.ob _ (by omega)).trans o1;obtain⟨vp,vb,c1,N1,B1⟩:=(e1.ext x12).out;subst c1;simp only[bu,Nat.zero_add];refine aG m2 jW (v:=vp) rfl ?_;refine aG m2 jW (v:=vb) rfl ?_;refine b35 h0 m2 N1 λH3 S3 w3 m3 x3 N3=>?_;rw[aA];have kT:=(x3.ob _ (by omega)).trans jW;refine aG m3 kT (v:=vb) rfl ?_;refine cv (dY.same B1) ?_;refine h1 m3 (B1.ext x3) λH4 S4 w4 m4 x4 N4=>?_;rw[aA];refine iX N3.one ?_;refine iX (dY.one N4) ?_;have ah9:∀a∈[w3,w4],a.one=true:=by
  intro a ha;simp only[List.mem_cons,List.not_mem_nil,or_false]at ha;rcases ha with rfl|rfl
  ·exact N3.one
  ·exact dY.one N4
 have x34:=x3.trans x4;refine hV m4 ((x34.ob _ (by omega)).trans o2) rfl rfl ah9 λH6 m6=>?_;have m6:Mem H6 (S4.set S1.n (.ce [w3,w4] 0)):=m6;have x6:Ext S (S4.set S1.n (.ce [w3,w4] 0)):=(x12.trans x34).set (by have:=x1.n;omega) _;have o6:(S4.set S1.n (.ce [w3,w4] 0)).ob S1.n=.ce [w3,w4] 0:=LS.ay _ _ _;have Y9:(S4.set S1.n (.ce [w3,w4] 0)).n=S4.n:=rfl;have ne:∀b,S1.n<b→(S4.set S1.n (.ce [w3,w4] 0)).ob b=S4.ob b:=λb hb=>LS.aq _ _ (by omega);revert m6 x6 o6 Y9 ne;generalize S4.set S1.n (.ce [w3,w4] 0)=S6;intro m6 x6 o6 Y9 ne;refine fl m6 o6 rfl ?_;refine hK H6 _ _ m6 x6 ⟨_,rfl,?_⟩;have:=x12.n;have:=x3.n;have:=x4.n;exact RF.mk' (ik.go N3 (λb hb=>(ne b (by have:=hb.1;omega)).trans (x4.ob b hb.2)) λb hb=>⟨by have:=hb.1;omega,by have:=hb.2;omega⟩)
   (dY.go N4 (λb hb=>ne b (by have:=hb.1;omega)) λb hb=>⟨by have:=hb.1;omega,by have:=hb.2;omega⟩)
theorem b37{R:mB}{s:aE}(hn:∀k a n t op l fs,s=.mk k a n t op l fs→mC R.1 37 gS l (bJ l)∧mC R.2 77 kY fs (cm fs)):kH (GO R) kE s s.bare:=by
 obtain⟨kind,at_,nn,t,op,l,fs⟩:=s;obtain⟨h1,h2⟩:=hn kind at_ nn t op l fs rfl;intro K H S v hM ⟨c,ev,e1⟩ hK;subst ev;show CQ R K (CP R K) (.agg c) H;unfold CQ CP;simp only[gO];refine Df hM e1.ones λH1 S1 m1 x1 o1 n1=>?_;refine cn (b9 m1 dm λH2 m2=>?_);have m2:Mem H2 (S1.push (.ce z7 0)):=m2;have x2:Ext S1 (S1.push (.ce z7 0)):=Ext.push _ _;have o2:(S1.push (.ce z7 0)).ob S1.n=.ce z7 0:=LS.ak _ _;have n2:(S1.push (.ce z7 0)).n=S1.n+1:=rfl;revert m2 x2 o2 n2;generalize S1.push (.ce z7 0)=S2;intro m2 x2 o2 n2;have x12:=x1.trans x2;have jW:=(x2.ob _ (by omega)).trans o1;obtain⟨vl,vf,c1,h8,L1,F1⟩:=(e1.ext x12).out;subst c1;simp only[bu,Nat.zero_add];refine aG m2 jW (v:=vl) rfl ?_;refine h1 m2 L1 λH3 S3 w3 m3 x3 N3=>?_;rw[aA];have:=x3.n;have kT:=(x3.ob _ (by omega)).trans jW;refine bj m3 kT (by omega) (by show 1<7;omega) rfl λH4 m4=>?_;have oD:(S3.set S.n (.ce [.int 0 (kind:Int),.int 0 ((0:Nat):Int),.int 0 (nn:Int),al t,.int 0 (op:Int),vl,vf] 0)).ob S.n=.ce [.int 0 (kind:Int),.int 0 ((0:Nat):Int),.int 0 (nn:Int),al t,.int 0 (op:Int),vl,vf] 0:=LS.ay _ _ _;refine bj m4 oD (by omega) (by show 5<7;omega) (gS.one N3) λH5 m5=>?_;have m5:Mem H5 ((S3.set S.n (.ce [.int 0 (kind:Int),.int 0 ((0:Nat):Int),.int 0 (nn:Int),al t,.int 0 (op:Int),vl,vf] 0)).set S.n (.ce [.int 0 (kind:Int),.int 0 ((0:Nat):Int),.int 0 (nn:Int),al t,.int 0 (op:Int),w3,vf] 0)):=m5;have wM:((S3.set S.n (.ce [.int 0 (kind:Int),.int 0 ((0:Nat):Int),.int 0 (nn:Int),al t,.int 0 (op:Int),vl,vf] 0)).set S.n (.ce [.int 0 (kind:Int),.int 0 ((0:Nat):Int),.int 0 (nn:Int),al t,.int 0 (op:Int),w3,vf] 0)).ob S.n=.ce [.int 0 (kind:Int),.int 0 ((0:Nat):Int),.int 0 (nn:Int),al t,.int 0 (op:Int),w3,vf] 0:=LS.ay _ _ _;have n5:((S3.set S.n (.ce [.int 0 (kind:Int),.int 0 ((0:Nat):Int),.int 0 (nn:Int),al t,.int 0 (op:Int),vl,vf] 0)).set S.n (.ce [.int 0 (kind:Int),.int 0 ((0:Nat):Int),.int 0 (nn:Int),al t,.int 0 (op:Int),w3,vf] 0)).n=S3.n:=rfl;have k5:∀b,b≠S.n→((S3.set S.n (.ce [.int 0 (kind:Int),.int 0 ((0:Nat):Int),.int 0 (nn:Int),al t,.int 0 (op:Int),vl,vf] 0)).set S.n (.ce [.int 0 (kind:Int),.int 0 ((0:Nat):Int),.int 0 (nn:Int),al t,.int 0 (op:Int),w3,vf] 0)).ob b=S3.ob b:=λb hb=>(LS.aq _ _ hb).trans (LS.aq _ _ hb);revert m5 wM n5 k5;generalize (S3.set S.n (.ce [.int 0 (kind:Int),.int 0 ((0:Nat):Int),.int 0 (nn:Int),al t,.int 0 (op:Int),vl,vf] 0)).set S.n (.ce [.int 0 (kind:Int),.int 0 ((0:Nat):Int),.int 0 (nn:Int),al t,.int 0 (op:Int),w3,vf] 0)=S5;intro m5 wM n5 k5;clear m4 oD;refine aG m5 wM (v:=vf) rfl ?_;have F5:kY S5 (j4 S5) vf fs:=by
  have e1':=(e1.ext (x12.trans x3)).out;obtain⟨vl',vf',c1',_,_,F1'⟩:=(e1.ext (Ext.refl S)).out;injection c1' with _ q1;injection q1 with _ q1;injection q1 with _ q1;injection q1 with _ q1;injection q1 with _ q1;injection q1 with _ q1;injection q1 with q1 _;subst q1;have x05:=(x12.trans x3)
  have:=x05.n;exact kY.go F1' (λb hb=>by
   have hb:b<S.n:=hb;rw[k5 b (by omega)];exact x05.ob b hb) λb hb=>by
   have hb:b<S.n:=hb;show b<S5.n;omega
 refine h2 m5 F5 λH6 S6 w6 m6 x6 N6=>?_;rw[aA];have:=x1.n;have:=x2.n;have:=x6.n;have o16:=(x6.ob _ (by omega)).trans wM;refine bj m6 o16 (by omega) (by show 6<7;omega) N6.one λH7 m7=>?_;have m7:Mem H7 (S6.set S.n (.ce [.int 0 (kind:Int),.int 0 ((0:Nat):Int),.int 0 (nn:Int),al t,.int 0 (op:Int),w3,w6] 0)):=m7;have oi:(S6.set S.n (.ce [.int 0 (kind:Int),.int 0 ((0:Nat):Int),.int 0 (nn:Int),al t,.int 0 (op:Int),w3,w6] 0)).ob S.n=.ce [.int 0 (kind:Int),.int 0 ((0:Nat):Int),.int 0 (nn:Int),al t,.int 0 (op:Int),w3,w6] 0:=LS.ay _ _ _;have n7:(S6.set S.n (.ce [.int 0 (kind:Int),.int 0 ((0:Nat):Int),.int 0 (nn:Int),al t,.int 0 (op:Int),w3,w6] 0)).n=S6.n:=rfl;have k7:∀b,b≠S.n→(S6.set S.n (.ce [.int 0 (kind:Int),.int 0 ((0:Nat):Int),.int 0 (nn:Int),al t,.int 0 (op:Int),w3,w6] 0)).ob b=S6.ob b:=λb hb=>LS.aq _ _ hb;revert m7 oi n7 k7;generalize S6.set S.n (.ce [.int 0 (kind:Int),.int 0 ((0:Nat):Int),.int 0 (nn:Int),al t,.int 0 (op:Int),w3,w6] 0)=S7;intro m7 oi n7 k7;have Yb:S7.ob S1.n=.ce z7 0:=by
  rw[k7 _ (by omega),x6.ob _ (by omega),k5 _ (by omega),x3.ob _ (by omega)];exact o2
 have L7:gS S7 (eI S1.n S7.n) w3 (bJ l):=gS.go N3 (λb hb=>by
  have h1:=hb.1;have h2:=hb.2;rw[k7 _ (by omega),x6.ob _ (by omega),k5 _ (by omega)]) λb hb=>⟨by have:=hb.1;omega,by have:=hb.2;omega⟩
 have F7:kY S7 (eI S1.n S7.n) w6 (cm fs):=kY.go N6 (λb hb=>by
  have h1:=hb.1;have h2:=hb.2;rw[k7 _ (by omega)]) λb hb=>⟨by have:=hb.1;omega,by have:=hb.2;omega⟩
 have hR:=RE.mk' (kind:=kind) (a:=0) (n:=nn) (op:=op) h8 L7 F7;refine fl m7 oi rfl ?_;refine hV m7 Yb rfl rfl hR.ones λH8 m8=>?_;have o8:(S7.set S1.n (.ce [.int 0 (kind:Int),.int 0 ((0:Nat):Int),.int 0 (nn:Int),al t,.int 0 (op:Int),w3,w6] 0)).ob S1.n=.ce [.int 0 (kind:Int),.int 0 ((0:Nat):Int),.int 0 (nn:Int),al t,.int 0 (op:Int),w3,w6] 0:=LS.ay _ _ _;refine fl m8 o8 rfl ?_;have n8:(S7.set S1.n (.ce [.int 0 (kind:Int),.int 0 ((0:Nat):Int),.int 0 (nn:Int),al t,.int 0 (op:Int),w3,w6] 0)).n=S7.n:=rfl;refine hK H8 _ _ m8 ⟨by omega,λb hb=>?_⟩ ⟨_,rfl,?_⟩
 ·rw[LS.aq _ _ (by omega),k7 _ (by omega),x6.ob _ (by omega),k5 _ (by omega),x3.ob _ (by omega),x12.ob _ hb]
 ·have hne:∀b,eI S2.n S7.n b→(S7.set S1.n (.ce [.int 0 (kind:Int),.int 0 ((0:Nat):Int),.int 0 (nn:Int),al t,.int 0 (op:Int),w3,w6] 0)).ob b=S7.ob b:=λb hb=>LS.aq _ _ (by have:=hb.1;omega);have L8:gS S7 (eI S2.n S7.n) w3 (bJ l):=gS.go N3 (λb hb=>by
   have h1:=hb.1;have h2:=hb.2;rw[k7 _ (by omega),x6.ob _ (by omega),k5 _ (by omega)]) λb hb=>⟨by have:=hb.1;omega,by have:=hb.2;omega⟩
  have F8:kY S7 (eI S2.n S7.n) w6 (cm fs):=kY.go N6 (λb hb=>by
   have h1:=hb.1;have h2:=hb.2;rw[k7 _ (by omega)]) λb hb=>⟨by have:=hb.1;omega,by have:=hb.2;omega⟩
  exact RE.mk' h8 (gS.go L8 hne λb hb=>⟨by have:=hb.1;omega,by have:=hb.2;omega⟩) (kY.go F8 hne λb hb=>⟨by have:=hb.1;omega,by have:=hb.2;omega⟩)
theorem ajE(m:Nat):s5 (m+1)=(GJ (Kj (s5 m)),GK (Kk (s5 m)),GL (Kl (s5 m)),GM (Km (s5 m)),GO (Kn (s5 m)),GP (Ko (s5 m)),GQ (Kp (s5 m)),GR (Kq (s5 m))):=by kernel_rfl
structure aeD(m:Nat)(R:xQ):Prop where
 bare:∀b,3*gb b+3<m→kH R.1 dY b (bf b)
 ss:∀b,3*gb b+2<m→mC R.2.1 34 dY b (bf b)
 st:∀s,3*s.sz+1<m→kH R.2.2.1 C5 s s.bare
 es:∀l,3*db l+2<m→mC R.2.2.2.1 37 gS l (bJ l)
 ex:∀e,3*e.sz+1<m→kH R.2.2.2.2.1 kE e e.bare
 bs:∀l,3*gd l+2<m→mC R.2.2.2.2.2.1 12 lV l (cg l)
 fs:∀l,3*jA l+2<m→mC R.2.2.2.2.2.2.1 77 kY l (cm l)
 fn:∀e,3*e.sz+1<m→kH R.2.2.2.2.2.2.2 Fj e e.bare
theorem ace:∀m:Nat,m≤900000→∀M:Nat,m≤M→aeD m (s5 M)
 |0,_,M,_=>⟨λb h=>by omega,λb h=>by omega,λb h=>by omega,λb h=>by omega,λb h=>by omega,λb h=>by omega,λb h=>by omega,λb h=>by omega⟩
 |m+1,hm,0,h=>by omega
 |m+1,hm,M+1,h=>by
  have A:=ace m (by omega) M (by omega);rw[ajE];refine⟨λb h=>?_,λb h=>?_,λs h=>?_,λl h=>?_,λe h=>?_,λl h=>?_,λl h=>?_,λe h=>?_⟩
  ·exact b12 (A.ss b (by omega))
  ·refine b33 (by have:=sV b;omega) λs hs=>A.st s ?_;obtain⟨i,hi⟩:=List.mem_iff_getElem?.1 hs;have:=Av hi;omega
  ·refine b34 (λk a ns l bs e=>?_) rfl;subst e;simp only[aK.sz]at h;exact⟨by omega,A.es l (by omega),A.bs bs (by omega)⟩
  ·refine b36 (by have:=Ay l;omega) λs hs=>A.ex s ?_;obtain⟨i,hi⟩:=List.mem_iff_getElem?.1 hs;have:=Au hi;omega
  ·refine b37 λk a n t op l fs e=>?_;subst e;simp only[aE.sz]at h;exact⟨A.es l (by omega),A.fs fs (by omega)⟩
  ·refine b38 (by have:=AA l;omega) λs hs=>A.bare s ?_;obtain⟨i,hi⟩:=List.mem_iff_getElem?.1 hs;have:=Ax hi;omega
  ·refine b76 (by have:=Az l;omega) λs hs=>A.fn s ?_;obtain⟨i,hi⟩:=List.mem_iff_getElem?.1 hs;have:=Aw hi;omega
  ·refine b77 (λps b e=>?_) rfl;subst e;simp only[cq.sz]at h;exact⟨by omega,A.bare b (by omega)⟩
theorem Di{b:List aK}(hb:gb b≤200000):kH f12 dY b (bf b):=by
 have e:f12=(s5 G.NL).1:=by unfold f12;rfl
 rw[e];have gv:G.NL=1000000:=rfl;clear e;generalize G.NL=iV at gv ⊢;have h:=(ace (3*gb b+4) (by omega) iV (by omega)).bare;exact @h b (by omega)
end
end Go.Proofs.YtcedghechlgecaaGreatDoor
namespace Go.X
section
variable {S:LS}{H:AH}
theorem aia{sz b o n c i j:Nat}{ex:Bool}{lo hi:Option AV}{k:AV→Prop}(hij:i≤j)(hj:j≤c)(hlo:lo=some (.int 0 i)∨lo=none∧i=0)(hhi:hi=some (.int 0 j)∨hi=none∧j=n)(hk:k (.slice b (o+i*sz) (j-i) (c-i) sz ex)):pQ sz (.slice b o n c sz ex) lo hi none k:=by
 have go:bT (Nat.ble i j) (bT (Nat.ble j c) (bT (Nat.ble c c) (bw (Nat.add o (Nat.mul i sz)) λo'=>bw (Nat.sub j i) λn=>bw (Nat.sub c i) λc'=>k (.slice b o' n c' sz (ex||Option.isSome (none:Option AV)))))):=by
  refine cv (Nat.ble_eq_true_of_le hij) (cv (Nat.ble_eq_true_of_le hj) (cv (Nat.ble_eq_true_of_le (Nat.le_refl _)) ?_));simp only[aX,Option.isSome_none,Bool.or_false];exact hk
 rcases hlo with rfl|⟨rfl,rfl⟩<;>rcases hhi with rfl|⟨rfl,rfl⟩<;>(show bT (Nat.beq sz sz) _;exact cv (Nat.beq_refl _) go)
theorem dY.part{Q:Nat→Prop}{v:AV}{a b:List aK}{lo hi:Option AV}{i j:Nat}{k:AV→Prop}(h:dY S Q v a)(hij:i≤j)(hj:j≤a.length)(hlo:lo=some (.int 0 (i:Int))∨lo=none∧i=0)(hhi:hi=some (.int 0 (j:Int))∨hi=none∧j=a.length)(hb:b=(a.drop i).take (j-i))
  (hk:∀v',dY S Q v' b→k v'):pQ 5 v lo hi none k:=by
 obtain⟨cl,g1,g2⟩:=h;have hbl:b.length=j-i:=by rw[hb,List.length_take,List.length_drop];omega
 have hbg:∀n e,b[n]? = some e→a[i+n]? = some e:=λn e he=>by
  have hn:=(List.getElem?_eq_some_iff.1 he).1;rw[hb,List.getElem?_take,if_pos (by omega),List.getElem?_drop]at he;exact he
 rcases g1 with⟨rfl,e0⟩|⟨bk,o,c,ex,cs,m,rfl,q1,q2,q3,q4,q5⟩
 ·have ei:i=0:=by omega
  have ej:j=0:=by omega
  subst ei;subst ej;have:pQ 5 .ab lo hi none k↔k .ab:=by
   rcases hlo with rfl|⟨rfl,_⟩<;>rcases hhi with rfl|⟨rfl,_⟩<;>exact Iff.rfl
  rw[this];exact hk _ ⟨λ_=>[],.inl ⟨rfl,by omega⟩,λn e he=>by
   have:=(List.getElem?_eq_some_iff.1 he).1;omega⟩
 ·have hle:i*5+(j-i)*5≤a.length*5:=by rw[←Nat.add_mul];exact Nat.mul_le_mul_right _ (by omega)
  refine aia hij (by omega) hlo hhi (hk _ ⟨λn=>cl (i+n),.inr ⟨bk,o+i*5,c-i,ex,cs,m,by rw[hbl],q1,q2,by omega,by rw[hbl];omega,λn hn=>?_⟩,λn e he=>g2 _ e (hbg n e he)⟩);have:=q5 (i+n) (by omega);rw[Nat.add_mul,←Nat.add_assoc]at this;exact this
end
end Go.X
namespace Go.Proofs.YtcedghechlgecaaGreatDoor
open Go Go.X Go.Proofs.YtcedghechlgecaaGreatDoor.G
section
variable {H:AH}{S:LS}{K:KF}
noncomputable def R4:kR:=(g7,g8,f11,f12)
noncomputable def g4:AV→AV→AH→KF→Prop:=agL R4
theorem aib:az Tryz.prog 4 (ao [.a,.a] g4):=agM R4 (ad.cons ah8 (ad.cons acd (ad.cons agv (ad.cons agK ad.nil))))
theorem Za:R4.1=g7:=rfl
theorem r4b:R4.2.1=g8:=rfl
theorem r4c:R4.2.2.1=f11:=rfl
theorem r4d:R4.2.2.2=f12:=rfl
mutual
theorem aa8:∀e:aE,e.bare.sz=e.sz
 |.mk k a n s op l f=>by simp only[aE.bare,aE.sz,xZ l,Gh f]
theorem xZ:∀l:List aE,db (bJ l)=db l
 |[]=>rfl
 |e::l=>by simp only[bJ,db,aa8 e,xZ l]
theorem aa9:∀e:cq,e.bare.sz=e.sz
 |.mk ps b=>by simp only[cq.bare,cq.sz,qv b]
theorem Gh:∀l:List cq,jA (cm l)=jA l
 |[]=>rfl
 |e::l=>by simp only[cm,jA,aa9 e,Gh l]
theorem aba:∀e:aK,e.bare.sz=e.sz
 |.mk k a ns l bs=>by simp only[aK.bare,aK.sz,xZ l,Gi bs]
theorem qv:∀l:List aK,gb (bf l)=gb l
 |[]=>rfl
 |e::l=>by simp only[bf,gb,aba e,qv l]
theorem Gi:∀l:List (List aK),gd (cg l)=gd l
 |[]=>rfl
 |e::l=>by simp only[cg,gd,qv e,Gi l]
end
theorem abb{a:List aK}(h:0<a.length):∃s,a[a.length-1]? = some s∧a.getLast? = some s:=by
 refine⟨a[a.length-1],List.getElem?_eq_getElem _,?_⟩;rw[List.getLast?_eq_getElem?,List.getElem?_eq_getElem (by omega)]
theorem AD{s:List Nat}{r:List Tok ⊕ Nat}{b:List aK}(hr:dn s 0 r)(hs:s.length≤801)(h:lA r=.inl b):gb b≤20000:=by
 cases r with
 |inr e=>cases h
 |inl ts=>
  have hlen:=hr.few ts rfl;obtain⟨j,hp⟩:=Kw hr.qW h;unfold fC at hp;obtain⟨a,i,e1,e2⟩:=aS hp;have h1:=(YL (64*ts.length+64)).block e1;have h2:=wA hr.qW a i e1;split at e2
  ·cases e2;omega
  ·cases e2
theorem ajF{s t:List Nat}(h8:B8 s)(zB:B8 t)(hM:Mem H S)(hT:kz Lx.qu S)(hK:∀H',K (.ret (.bool true)) H'):g4 (al s) (al t) H K:=by
 have fin:∀{H':AH}{S':LS},Mem H' S'→Ext S S'→g7 H' λo1 H2=>cR K o1 H2 λv3=>bO v3 λz4=>K (.ret (.bool z4)) H2:=λ{H' S'} m x=>by
  refine ahh m (hT.ext hM x) λH1 S1 m1 x1=>?_;rw[aA,bo];exact hK _
 show GS R4 K (tP R4 K (wv R4 K (wu R4 K))) (al s) (al t) H;unfold GS;rw[Za,r4b];have ajG:Int.ofNat 400=400:=rfl;simp only[jC,aR,di,ajG];refine cH (λg=>fin hM (Ext.refl S)) (λgs=>?_);refine cH (λg=>fin hM (Ext.refl S)) (λgt=>?_);obtain⟨r1,hr1⟩:=xm (s.length+1) s 0 (by omega);obtain⟨r2,hr2⟩:=xm (t.length+1) t 0 (by omega);refine Fi h8 (by omega) hr1 hM hT ?_;have q1:∀{a5 a8:AV}{e:Nat}{f:Int}{H':AH}{S':LS},e≠0→Mem H' S'→Ext S S'→tP R4 K (wv R4 K (wu R4 K)) (al s) (al t) a5 (e:Int) a8 f H':=λ{a5 a8 e f H' S'} he m x=>by
  unfold tP;rw[Za,cV,decide_eq_false (by show ¬(e:Int)=0;omega)];simp only[Bool.not_false,aU];exact fin m x
 have q2:∀{a5 a8:AV}{f:Nat}{H':AH}{S':LS},f≠0→Mem H' S'→Ext S S'→tP R4 K (wv R4 K (wu R4 K)) (al s) (al t) a5 0 a8 (f:Int) H':=λ{a5 a8 f H' S'} he m x=>by
  unfold tP;rw[Za,cV,decide_eq_true (by rfl)];simp only[Bool.not_true,aV];rw[cV,decide_eq_false (by show ¬(f:Int)=0;omega)];simp only[Bool.not_false,aU];exact fin m x
 cases hs1:lA r1 with
 |inr p=>
  obtain⟨c,p⟩:=p;have hc:=NR hs1;intro H1 S1 m1 x1;simp only[aA,fN,fH,ga,aR];refine Fi zB (by omega) hr2 m1 (hT.ext hM x1) ?_;cases hs2:lA r2 with
  |inr p2=>
   obtain⟨c2,p2⟩:=p2;intro H2 S2 m2 x2;simp only[aA,fN,fH,ga,aR];exact q1 hc m2 (x1.trans x2)
  |inl b=>
   intro H2 S2 v2 m2 x2 rv2;simp only[aA,fN,fH,ga,aR];exact q1 hc m2 (x1.trans x2)
 |inl a=>
  intro H1 S1 v1 m1 x1 rv1;simp only[aA,fN,fH,ga,aR];refine Fi zB (by omega) hr2 m1 (hT.ext hM x1) ?_;cases hs2:lA r2 with
  |inr p2=>
   obtain⟨c2,p2⟩:=p2;have hc:=NR hs2;intro H2 S2 m2 x2;simp only[aA,fN,fH,ga,aR];exact q2 hc m2 (x1.trans x2)
  |inl b=>
   intro H2 S2 v2 m2 x2 rv2;simp only[aA,fN,fH,ga,aR];have za:=AD hr1 (by omega) hs1;have zb:=AD hr2 (by omega) hs2;have la:=sV a;have lb:=sV b;have A2:dY S2 (j4 S2) v1 a:=rv1.go (λx hx=>x2.ob x hx.2) λx hx=>Nat.lt_of_lt_of_le hx.2 x2.n;have B2:dY S2 (j4 S2) v2 b:=rv2.go (λx hx=>rfl) λx hx=>hx.2;unfold tP;rw[Za];rw[cV,decide_eq_true (by rfl)];simp only[Bool.not_true,aV];have go:(∀x,a.getLast? = some x→x.kind≠10)→wv R4 K (wu R4 K) (al s) (al t) v1 v2 H2:=λhk=>by
    unfold wv;rw[r4b];have l10:AV.str 1 10=al [10]:=zY rfl (by decide);rw[l10];refine TN (by simp;omega) ?_;refine TN (by simp;omega) ?_;have ajH:s++[10]++t=s++10::t:=by simp
    rw[ajH];obtain⟨ta,e1⟩:∃ta,r1=.inl ta:=by
     cases r1 with
     |inl ta=>exact⟨ta,rfl⟩
     |inr e=>cases hs1
    obtain⟨tb,e2⟩:∃tb,r2=.inl tb:=by
     cases r2 with
     |inl tb=>exact⟨tb,rfl⟩
     |inr e=>cases hs2
    subst e1;subst e2;obtain⟨tc,b',hr3,hs3,hbare⟩:=LC hr1 hr2 hs1 hs2 hk;have zc:=AD hr3 (by simp;omega) hs3;have h8c:B8 (s++10::t):=by
     intro c hc;rcases List.mem_append.1 hc with g|g
     ·exact h8 c g
     ·rcases List.mem_cons.1 g with g|g
      ·omega
      ·exact zB c g
    refine Fi h8c (by simp;omega) hr3 m2 (hT.ext hM (x1.trans x2)) ?_;rw[hs3];intro H3 S3 v3 m3 x3 rv3;have kD:=x1.trans (x2.trans x3);have A3:=A2.ext x3;have B3:=B2.ext x3;have C3:dY S3 (j4 S3) v3 (a++b'):=rv3.go (λx hx=>rfl) λx hx=>hx.2;simp only[aA,fN,fH,ga,aR];have lb':b'.length=b.length:=by rw[←wC b',←wC b,hbare]
    rw[cV,decide_eq_true (by rfl)];simp only[Bool.not_true,aV];refine C3.choose_spec.1.len ?_;rw[aR];refine A3.choose_spec.1.len ?_;rw[aR];refine B3.choose_spec.1.len ?_;rw[aR,gC];refine w0 (by omega) (by omega) ?_;rw[cV,decide_eq_true (by rw[List.length_append,lb'];rfl)];simp only[Bool.not_true,aV];unfold wu;rw[Za,r4c,r4d];refine ahh m3 (hT.ext hM kD) λH4 S4 m4 x4=>?_;rw[aA,bo,aU];have A4:=A3.ext x4;have B4:=B3.ext x4;have C4:=C3.ext x4;refine A4.choose_spec.1.len ?_;rw[aR];refine C4.part (b:=a) (Nat.zero_le _) (by simp) (.inr ⟨rfl,rfl⟩) (.inl rfl) (by simp) λw1 C1=>?_;have ake:gb (a++b')=gb a+gb b':=Am a b';refine Di (b:=a) (by omega) m4 C1 λH5 S5 u1 m5 x5 U1=>?_;rw[aA];refine Di (b:=a) (by omega) m5 (A4.ext x5) λH6 S6 u2 m6 x6 U2=>?_;rw[aA];have U1':dY S6 (j4 S6) u1 (bf a):=U1.go (λx hx=>x6.ob x hx.2) λx hx=>Nat.lt_of_lt_of_le hx.2 x6.n;have U2':dY S6 (j4 S6) u2 (bf a):=U2.go (λx hx=>rfl) λx hx=>hx.2;refine SG (by rw[qv];omega) m6 U1' U2' λH7 S7 m7 x7=>?_;rw[aA,bo,aU];have x47:=x5.trans (x6.trans x7);have A7:=A4.ext x47;have B7:=B4.ext x47;have C7:=C4.ext x47;refine A7.choose_spec.1.len ?_;rw[aR];refine C7.part (b:=b') (i:=a.length) (j:=(a++b').length) (by simp) (Nat.le_refl _) (.inl rfl) (.inr ⟨rfl,rfl⟩) (by simp) λw2 C2=>?_;refine Di (b:=b') (by omega) m7 C2 λH8 S8 u3 m8 x8 U3=>?_;rw[aA];refine Di (b:=b) (by omega) m8 (B7.ext x8) λH9 S9 u4 m9 x9 U4=>?_;rw[aA];rw[hbare]at U3;have U3':dY S9 (j4 S9) u3 (bf b):=U3.go (λx hx=>x9.ob x hx.2) λx hx=>Nat.lt_of_lt_of_le hx.2 x9.n;have U4':dY S9 (j4 S9) u4 (bf b):=U4.go (λx hx=>rfl) λx hx=>hx.2;refine SG (by rw[qv];omega) m9 U3' U4' λbM S10 m10 x10=>?_;rw[aA,bo,aU];have aho:=x8.trans (x9.trans x10);have A10:=A7.ext aho;have C10:=C7.ext aho;refine A10.choose_spec.1.len ?_;rw[aR];refine C10.part (b:=a) (Nat.zero_le _) (by simp) (.inr ⟨rfl,rfl⟩) (.inl rfl) (by simp) λw3 C3'=>?_;refine SG (by omega) m10 C3' A10 λfD S11 m11 x11=>?_;rw[aA,bo];exact hK _
   refine A2.choose_spec.1.len ?_;rw[aR,di];have e0:Int.ofNat 0=((0:Nat):Int):=rfl;rw[e0];refine cH (λg=>?_) (λg=>?_)
   ·have hpos:0<a.length:=by omega
    obtain⟨st,hst,hlast⟩:=abb hpos;refine A2.choose_spec.1.len ?_;rw[aR,Z1,km];refine w0 (by omega) (by omega) ?_;have eidx:(a.length:Int)-1=((a.length-1:Nat):Int):=by omega
    rw[eidx];obtain⟨cl,s1,gg⟩:=id A2;obtain⟨l0,hl0⟩:=(gg _ _ hst).k0;refine s1.N8 m2 (by omega) (by omega) (j:=0) (a:=.int 0 (st.kind:Int)) (by rw[hl0];rfl) ?_;rw[aR,cV];refine cH (λ_=>fin m2 (x1.trans x2)) (λg10=>?_);refine go λx hx=>?_;rw[hlast]at hx;cases hx;intro q;exact g10 (by rw[q];rfl)
   ·refine go λx hx=>?_;have:a=[]:=List.length_eq_zero_iff.1 (by omega);rw[this]at hx;cases hx
end
end Go.Proofs.YtcedghechlgecaaGreatDoor
