/- The law over lists. No condition: lemmas. -/
import Derived.Test.YtcedghechlgecaaGreatDoorLa
set_option maxRecDepth 100000
set_option maxHeartbeats 0
set_option linter.unusedVariables false
set_option linter.unusedSimpArgs false
namespace Go.Proofs.YtcedghechlgecaaGreatDoor.G
open Go Go.X
abbrev xm:Type:=(AV→AH→KF→Prop)×(AV→AH→KF→Prop)×(AV→AH→KF→Prop)×(AV→Int→AH→KF→Prop)
noncomputable def anJ(R:xm):List (Nat×cP):=[(21,ao [.a] R.1),(23,ao [.a] R.2.1),(24,ao [.a] R.2.2.1),(25,ao [.a,.i 0] R.2.2.2)]
noncomputable def acW(R:AV→AH→KF→Prop)(K:KF)(v:AV)(a0 a1 a2 a3:AV)(X:AH→Prop)(H:AH):Prop:=xt 57 (.agg []) true v λv1=>eA v1 λl2=>cX l2 0 λv3=>eA v1 λl4=>cX l4 1 λv5=>bf v5 λz6=>cw H (gE (aA H) [] λv7 H8=>ae 0 v7 v3 H8 λH9=>bI z6 (ak a0 H9 λv10=>aP v10 (al 3 v10 λv11=>ak v11 H9 λv12=>cI 0 v12 λz13=>ak a0 H9 λv14=>R v14 H9 λvd dm=>cR K vd dm λv17=>ak v11 dm λv18=>cI 0 v18 λsn=>bT (aU (.int 0 sn) (.int 0 z13)) (ak a0 dm λv20=>bT (aU v20 v10) (gz v17 λU2=>cX U2 3 λv22=>cI 0 v22 λz23=>ae 1 a1 .ab dm λfS=>ae 1 a2 (.int 0 z13) fS λkZ=>ae 1 a3 (.int 0 z23) kZ λnO=>X nO)))) (X H9))
noncomputable def BG(K:KF)(a2 a3 a4:AV)(H:AH):Prop:=ak a2 H λv5=>ak a3 H λv6=>ak a4 H λv7=>K (.ret (.aY [v5,v6,v7])) H
noncomputable def Fl(R:xm)(K:KF)(a2 a3 a4 a8:AV)(v:AV)(H:AH):Prop:=acW R.2.1 K v a8 a2 a3 a4 (BG K a2 a3 a4) H
noncomputable def amp(R:xm)(K:KF)(a2 a3 a4 a8:AV):KF:=λo H=>match o with|.dB v=>Fl R K a2 a3 a4 a8 v H|.ret v=>False
noncomputable def Ol(R:xm)(K:KF)(a2 a3 a4 a8:AV)(H:AH):Prop:=ak a8 H λv1=>R.2.2.1 v1 H λo2 H3=>cR (amp R K a2 a3 a4 a8) o2 H3 λv4=>ae 1 a2 v4 H3 λH5=>ak a8 H5 λv6=>R.2.1 v6 H5 λo7 H8=>cR (amp R K a2 a3 a4 a8) o7 H8 λv9=>gz v9 λl10=>cX l10 0 λv11=>cI 0 v11 λz12=>bI (!(bj z12 (.ofNat 0)))
 (ak a8 H8 λv13=>R.2.2.2 v13 (.ofNat 14) H8 λGq eM=>cR (amp R K a2 a3 a4 a8) Gq eM λv16=>ak a2 eM λv1=>ae 1 a2 v1 eM λH2=>ae 1 a3 (.int 0 (.ofNat 0)) H2 λH3=>ae 1 a4 (.int 0 (.ofNat 0)) H3 λH4=>Fl R K a2 a3 a4 a8 .fl H4)
 (ak a2 H8 λv1=>ae 1 a2 v1 H8 λH2=>ae 1 a3 (.int 0 (.ofNat 0)) H2 λH3=>ae 1 a4 (.int 0 (.ofNat 0)) H3 λH4=>Fl R K a2 a3 a4 a8 .fl H4)
noncomputable def Tm(R:xm)(K:KF)(a0:AV)(H:AH):Prop:=cw H (gE (aA H) [.ab] λv1 H2=>cw H2 (gE (aA H2) [(.int 0 (.ofNat 0))] λv3 H4=>cw H4 (gE (aA H4) [(.int 0 (.ofNat 0))] λv5 H6=>R.1 a0 H6 λo7 H8=>cR K o7 H8 λv9=>eA v9 λl10=>cX l10 0 λv11=>eA v9 λl12=>cX l12 1 λv13=>cI 0 v13 λmn=>eA v9 λl15=>cX l15 2 λv16=>cI 0 v16 λz17=>bI (!(bj mn (.ofNat 0))) (ae 1 v1 .ab H8 λdK=>ae 1 v3 (.int 0 mn) dK λib=>ae 1 v5 (.int 0 z17) ib λfD=>BG K v1 v3 v5 fD) (one v11 (gE (aA H8) [v11,(.int 0 (.ofNat 0)),(.int 0 (.ofNat 0)),(.int 0 (.ofNat 0))] λv24 kZ=>cw kZ (gE (aA kZ) [.jA] λv26 kB=>ae 1 v26 v24 kB λwu=>Ol R K v1 v3 v5 v26 wu))))))
theorem awX(R:xm)(K:KF)(a0:AV)(H:AH):Tm R K a0 H=Xj (tw (anJ R)) (N4 Tryz.prog (tw (anJ R))) Tryz.prog Tryz.prog.globals.size 400 400 8 [a0] H K:=by kernel_rfl
end Go.Proofs.YtcedghechlgecaaGreatDoor.G
namespace Go.Proofs.YtcedghechlgecaaGreatDoor
open Go Go.X Go.Proofs.YtcedghechlgecaaGreatDoor.G
section
variable {H:AH}{S:LS}{K:KF}{C:Ctx}{i d:Nat}
theorem at6{c:Nat}(hM:Mem H S)(hp:E9 C S c i)(hK:∀H' S',Mem H' S'→an aV S S'→K (.ret (.agg (dY C.T i))) H'):f23 (.ptr C.bp 0) H K:=by
 obtain⟨⟨d,hob⟩,tk,lt⟩:=hp;show xH Ga K (.ptr C.bp 0) H;unfold xH;refine bE (bz hM (λa ha=>?_) λH1 m1=>?_)
 ·simp only[List.mem_cons,List.not_mem_nil,or_false]at ha;rcases ha with rfl|rfl|rfl|rfl<;>rfl
 have c1:an aV S (S.push (.ce [.int 0 (.ofNat 0),.str 0 0,.int 0 (.ofNat 0),.int 0 (.ofNat 0)] 0)):=(an.refl _ _).push _;have o1:=c1.ob hM hob λq=>q;have t1:=tk.keep hM λb _ hb=>c1.2 b hb λq=>q;simp only[cj,aL,Nat.zero_add];refine aw m1 o1 (v:=C.vT) rfl ?_;refine aw m1 o1 (v:=.int 0 (i:Int)) rfl ?_;simp only[aE];refine t1.load m1 lt ?_;rw[rK lt];refine gK m1 (LS.ag _ _) (by omega) rfl (by show 0+4≤4;omega) (λa ha=>?_) λH2 m2=>?_
 ·simp only[dY,List.mem_cons,List.not_mem_nil,or_false]at ha;rcases ha with rfl|rfl|rfl|rfl<;>rfl
 have m2:Mem H2 ((S.push (.ce [.int 0 (.ofNat 0),.str 0 0,.int 0 (.ofNat 0),.int 0 (.ofNat 0)] 0)).set S.n (.ce (dY C.T i) 0)):=m2;have c2:=c1.set (b:=S.n) (.inr (Nat.le_refl _)) (.ce (dY C.T i) 0);refine lQ m2 (LS.aj _ _ _) (by show 0+4≤4;omega) ?_;exact hK H2 _ m2 c2
def X3(o c t:Nat):Nat→Prop:=λb=>b=o∨b=c∨b=t
theorem Tn{o c t:Nat}{x y z:AV}{v:AV}{n p:Int}(hv:v.one=true)(hM:Mem H S)(ho:S.ob o=.ce [x] 0)(hc:S.ob c=.ce [y] 0)(ht:S.ob t=.ce [z] 0)(h1:o≠c)(h2:o≠t)(h3:c≠t){k:AH→Prop}
  (hk:∀H' S',Mem H' S'→an (X3 o c t) S S'→S'.ob o=.ce [v] 0→S'.ob c=.ce [.int 0 n] 0→S'.ob t=.ce [.int 0 p] 0→k H') :
  ae 1 (.ptr o 0) v H λH2=>ae 1 (.ptr c 0) (.int 0 n) H2 λH3=>ae 1 (.ptr t 0) (.int 0 p) H3 k:=by
 refine aT (v:=v) hM ho (by omega) (by show 0<1;omega) hv λH2 m2=>?_;have m2:Mem H2 (S.set o (.ce [v] 0)):=m2;refine aT (v:=.int 0 n) m2 ((LS.ah _ _ (Ne.symm h1)).trans hc) (by omega) (by show 0<1;omega) rfl λH3 m3=>?_;have m3:Mem H3 ((S.set o (.ce [v] 0)).set c (.ce [.int 0 n] 0)):=m3;refine aT (v:=.int 0 p) m3 ((LS.ah _ _ (Ne.symm h3)).trans ((LS.ah _ _ (Ne.symm h2)).trans ht)) (by omega) (by show 0<1;omega) rfl λH4 m4=>?_;have m4:Mem H4 (((S.set o (.ce [v] 0)).set c (.ce [.int 0 n] 0)).set t (.ce [.int 0 p] 0)):=m4;refine hk H4 _ m4 ((((an.refl _ S).set (.inl (.inl rfl)) _).set (.inl (.inr (.inl rfl))) _).set (.inl (.inr (.inr rfl))) _) ?_ ?_ (LS.aj _ _ _)
 ·exact(LS.ah _ _ h2).trans ((LS.ah _ _ h1).trans (LS.aj _ _ _))
 ·exact(LS.ah _ _ h3).trans (LS.aj _ _ _)
theorem Fm{o c t:Nat}{v:AV}{n p:Int}(hM:Mem H S)(ho:S.ob o=.ce [v] 0)(hc:S.ob c=.ce [.int 0 n] 0)(ht:S.ob t=.ce [.int 0 p] 0)(hK:K (.ret (.aY [v,.int 0 n,.int 0 p])) H):BG K (.ptr o 0) (.ptr c 0) (.ptr t 0) H:=by
 unfold BG;refine aw hM ho (v:=v) rfl ?_;refine aw hM hc (v:=.int 0 n) rfl ?_;refine aw hM ht (v:=.int 0 p) rfl ?_;exact hK
theorem ake{R:xm}(q2:R.2.1=f23){c o cd t bx:Nat}{x y z:AV}(hpv:C.pv=.iface 57 (.agg []))(hM:Mem H S)(hp:E9 C S c i)(ho:S.ob o=.ce [x] 0)(hc:S.ob cd=.ce [y] 0)(ht:S.ob t=.ce [z] 0)(hb:S.ob bx=.ce [.ptr C.bp 0] 0)(h1:o≠cd)(h2:o≠t)(h3:cd≠t)
  (hK:∀H' S',Mem H' S'→an (X3 o cd t) S S'→K (.ret (.aY [.ab,.int 0 (c:Int),.int 0 (aq C.T i:Int)])) H'):Fl R K (.ptr o 0) (.ptr cd 0) (.ptr t 0) (.ptr bx 0) C.pv H:=by
 unfold Fl acW;rw[hpv];refine ajP ?_;simp only[fF,fG,fR,aB];refine bE (bz hM (λa ha=>by simp at ha) λH1 m1=>?_);refine eJ m1 (c:=[]) (z:=[]) (LS.ag _ _) rfl rfl (λa ha=>by simp at ha) λH2 m2=>?_;have c2:an aV S ((S.push (.ce [] 0)).set S.n (.ce [] 0)):=((an.refl _ S).push _).set (.inr (Nat.le_refl _)) _;revert m2 c2;generalize (S.push (.ce [] 0)).set S.n (.ce [] 0)=S2;intro m2 c2;have keep:∀{b:Nat}{l:List AV},S.ob b=.ce l 0→S2.ob b=.ce l 0:=λh=>c2.ob hM h λq=>q;have p2:E9 C S2 c i:=by
  obtain⟨⟨d,hob⟩,tk,lt⟩:=hp;exact⟨⟨d,keep hob⟩,tk.keep hM λb _ hb=>c2.2 b hb λq=>q,lt⟩
 rw[az];refine aw m2 (keep hb) (v:=.ptr C.bp 0) rfl ?_;simp only[cj,aL,Nat.zero_add];obtain⟨d,hob⟩:=hp.ob;refine aw m2 (keep hob) (v:=.int 0 (c:Int)) rfl ?_;rw[aE];refine aw m2 (keep hb) (v:=.ptr C.bp 0) rfl ?_;rw[q2];refine at6 m2 p2 λH3 S3 m3 c3=>?_;have c13:=c2.trans c3;have Jv:∀{b:Nat}{l:List AV},S.ob b=.ce l 0→S3.ob b=.ce l 0:=λh=>c13.ob hM h λq=>q;rw[ai];refine aw m3 (Jv hob) (v:=.int 0 (c:Int)) rfl ?_;rw[aE];refine cE (ql _ _) ?_;refine aw m3 (Jv hb) (v:=.ptr C.bp 0) rfl ?_;refine cE (by simp[aU]) ?_;rw[BT];unfold dY;simp only[fG,fR,aE];refine Tn rfl m3 (Jv ho) (Jv hc) (Jv ht) h1 h2 h3 λH4 S4 m4 c4 o4 d4 t4=>?_;exact Fm m4 o4 d4 t4 (hK H4 S4 m4 (c13.no.trans c4))
theorem at7{R:xm}{o cd t bx:Nat}{v:AV}{n p:Int}(hM:Mem H S)(ho:S.ob o=.ce [v] 0)(hc:S.ob cd=.ce [.int 0 n] 0)(ht:S.ob t=.ce [.int 0 p] 0)
  (hK:∀H' S',Mem H' S'→an aV S S'→K (.ret (.aY [v,.int 0 n,.int 0 p])) H'):Fl R K (.ptr o 0) (.ptr cd 0) (.ptr t 0) (.ptr bx 0) .fl H:=by
 unfold Fl acW;refine ajQ ?_;simp only[fF,fG,fR,aB];refine bE (bz hM (λa ha=>by simp at ha) λH1 m1=>?_);refine eJ m1 (c:=[]) (z:=[]) (LS.ag _ _) rfl rfl (λa ha=>by simp at ha) λH2 m2=>?_;have c2:an aV S ((S.push (.ce [] 0)).set S.n (.ce [] 0)):=((an.refl _ S).push _).set (.inr (Nat.le_refl _)) _;rw[ax];exact Fm m2 (c2.ob hM ho λq=>q) (c2.ob hM hc λq=>q) (c2.ob hM ht λq=>q) (hK H2 _ m2 c2)
theorem awY{R:xm}{F:AV→AH→KF→Prop}(q1:R.1=F)(q2:R.2.1=f23)(q3:R.2.2.1=f24)(q4:R.2.2.2=f25){s:List Nat}{r:List Tok ⊕ Nat}(h8:B8 s)(hs:s.length≤10000)(hr:fh s 0 r)(hM:Mem H S)(hF:∀{K:KF}{H':AH}{S':LS},Mem H' S'→Ext S S'→LxQ K S' r→F (af s) H' K)(hP:SC K S (vG r)):Tm R K (af s) H:=by
 unfold Tm;rw[q1];refine bE (bz hM (λa ha=>by simp at ha;subst ha;rfl) λH1 m1=>?_);refine bE (bz m1 (λa ha=>by simp at ha;subst ha;rfl) λH2 m2=>?_);refine bE (bz m2 (λa ha=>by simp at ha;subst ha;rfl) λH3 m3=>?_);have e0:Int.ofNat 0=((0:Nat):Int):=rfl;have x3:an aV S (((S.push (.ce [.ab] 0)).push (.ce [.int 0 (.ofNat 0)] 0)).push (.ce [.int 0 (.ofNat 0)] 0)):=(((an.refl _ S).push _).push _).push _;have o3:(((S.push (.ce [.ab] 0)).push (.ce [.int 0 (.ofNat 0)] 0)).push (.ce [.int 0 (.ofNat 0)] 0)).ob S.n=.ce [.ab] 0:=by
  rw[LS.aZ _ _ (show S.n<S.n+1+1 by omega),LS.aZ _ _ (show S.n<S.n+1 by omega)];exact LS.ag _ _
 have d3:(((S.push (.ce [.ab] 0)).push (.ce [.int 0 (.ofNat 0)] 0)).push (.ce [.int 0 (.ofNat 0)] 0)).ob (S.n+1)=.ce [.int 0 (.ofNat 0)] 0:=by
  rw[LS.aZ _ _ (show S.n+1<S.n+1+1 by omega)];exact LS.ag _ _
 have t3:(((S.push (.ce [.ab] 0)).push (.ce [.int 0 (.ofNat 0)] 0)).push (.ce [.int 0 (.ofNat 0)] 0)).ob (S.n+1+1)=.ce [.int 0 (.ofNat 0)] 0:=LS.ag _ _;have n3:(((S.push (.ce [.ab] 0)).push (.ce [.int 0 (.ofNat 0)] 0)).push (.ce [.int 0 (.ofNat 0)] 0)).n=S.n+3:=rfl;show F (af s) H3 (λo7 H8=>cR K o7 H8 λv9=>eA v9 λl10=>cX l10 0 λv11=>eA v9 λl12=>cX l12 1 λv13=>cI 0 v13 λmn=>eA v9 λl15=>cX l15 2 λv16=>cI 0 v16 λz17=>bI (!(bj mn (.ofNat 0))) (ae 1 (.ptr S.n 0) .ab H8 λdK=>ae 1 (.ptr (S.n+1) 0) (.int 0 mn) dK λib=>ae 1 (.ptr (S.n+1+1) 0) (.int 0 z17) ib λfD=>BG K (.ptr S.n 0) (.ptr (S.n+1) 0) (.ptr (S.n+1+1) 0) fD) (one v11 (gE (aA H8) [v11,(.int 0 (.ofNat 0)),(.int 0 (.ofNat 0)),(.int 0 (.ofNat 0))] λv24 kZ=>cw kZ (gE (aA kZ) [.jA] λv26 kB=>ae 1 v26 v24 kB λwu=>Ol R K (.ptr S.n 0) (.ptr (S.n+1) 0) (.ptr (S.n+1+1) 0) v26 wu))));revert m3 x3 o3 d3 t3 n3;generalize ((S.push (.ce [.ab] 0)).push (.ce [.int 0 (.ofNat 0)] 0)).push (.ce [.int 0 (.ofNat 0)] 0)=S3;intro m3 x3 o3 d3 t3 n3;clear m1 m2;refine hF m3 x3.ext ?_;cases r with
 |inr e=>
  intro H4 S4 m4 x4;have x4:an aV S3 S4:=x4.chg;simp only[ai,fF,fG,fR,aE];rw[bq,decide_eq_false (by simp)];simp only[Bool.not_false,az];refine Tn rfl m4 (x4.ob m3 o3 λq=>q) (x4.ob m3 d3 λq=>q) (x4.ob m3 t3 λq=>q) (by omega) (by omega) (by omega) λH5 S5 m5 c5 o5 d5 t5=>?_;refine Fm m5 o5 d5 t5 ?_;exact hP H5 S5 m5 ((x3.trans x4).gi c5 λb hb=>.inr (by rcases hb with q|q|q<;>omega)).ext
 |inl ts=>
  intro H4 S4 v m4 x4 f4 b4;have x4:an aV S3 S4:=x4.chg;have n4:=x4.1;simp only[ai,fF,fG,fR,aE];rw[bq,e0,decide_eq_true (show(0:Int)=((0:Nat):Int)from rfl)];simp only[Bool.not_true,ax];refine ey f4.one' ?_;refine bz m4 (λa ha=>?_) λH5 m5=>?_
  ·simp only[List.mem_cons,List.not_mem_nil,or_false]at ha;rcases ha with rfl|rfl|rfl|rfl
   ·exact f4.one'
   all_goals rfl
  refine bE (bz m5 (λa ha=>by simp at ha;subst ha;rfl) λH6 m6=>?_);refine aT (v:=.ptr S4.n 0) m6 (LS.ag _ _) (by omega) (by show 0<1;omega) rfl λH7 m7=>?_;have m7:Mem H7 (((S4.push (.ce [v,.int 0 ((0:Nat):Int),.int 0 ((0:Nat):Int),.int 0 0] 0)).push (.ce [.jA] 0)).set (S4.n+1) (.ce [.ptr S4.n 0] 0)):=m7;have c7:an aV S4 (((S4.push (.ce [v,.int 0 ((0:Nat):Int),.int 0 ((0:Nat):Int),.int 0 0] 0)).push (.ce [.jA] 0)).set (S4.n+1) (.ce [.ptr S4.n 0] 0)):=(((an.refl _ S4).push _).push _).set (.inr (by omega)) _;have o7:LS.ob _ S4.n=.ce [v,.int 0 ((0:Nat):Int),.int 0 ((0:Nat):Int),.int 0 0] 0:=(LS.ah ((S4.push (.ce [v,.int 0 ((0:Nat):Int),.int 0 ((0:Nat):Int),.int 0 0] 0)).push (.ce [.jA] 0)) (.ce [.ptr S4.n 0] 0) (show S4.n≠S4.n+1 by omega)).trans ((LS.aZ _ _ (show S4.n<S4.n+1 by omega)).trans (LS.ag _ _));have b7:LS.ob _ (S4.n+1)=.ce [.ptr S4.n 0] 0:=LS.aj ((S4.push (.ce [v,.int 0 ((0:Nat):Int),.int 0 ((0:Nat):Int),.int 0 0] 0)).push (.ce [.jA] 0)) (S4.n+1) (.ce [.ptr S4.n 0] 0);have n7:(((S4.push (.ce [v,.int 0 ((0:Nat):Int),.int 0 ((0:Nat):Int),.int 0 0] 0)).push (.ce [.jA] 0)).set (S4.n+1) (.ce [.ptr S4.n 0] 0)).n=S4.n+2:=rfl;revert m7 c7 o7 b7 n7;generalize ((S4.push (.ce [v,.int 0 ((0:Nat):Int),.int 0 ((0:Nat):Int),.int 0 0] 0)).push (.ce [.jA] 0)).set (S4.n+1) (.ce [.ptr S4.n 0] 0)=S7;intro m7 c7 o7 b7 n7;clear m5 m6;have hlen:=hr.few ts rfl;have SP:∀b,aG v b→b<S4.n:=λb hb=>f4.lt m4 hb
  let C:Ctx:=⟨ts,S4.n,v,.iface 57 (.agg []),hr.tG,hr.b8 h8 ts rfl,by omega,λq=>by have:=SP _ q;omega⟩
  have p7:bS C S7 0 0:=⟨o7,f4.keep m4 λb _ hb=>c7.2 b hb λq=>q,hr.tG.1⟩
  have k7:∀{b:Nat}{l:List AV},b<S.n+3→S3.ob b=.ce l 0→S7.ob b=.ce l 0:=λhb h=>(c7.2 _ (by omega) λq=>q).trans (x4.ob m3 h λq=>q);show Ol R K (.ptr S.n 0) (.ptr (S.n+1) 0) (.ptr (S.n+1+1) 0) (.ptr (S4.n+1) 0) H7;unfold Ol;refine aw m7 b7 (v:=.ptr S4.n 0) rfl ?_;have gf:G.NL=1000000:=rfl;have e24:f24=(s13 G.NL).1:=by unfold f24;rfl
  rw[q3,e24];clear e24;generalize G.NL=iA at gf ⊢;refine(okP (C:=C) rfl (64*ts.length+64) iA (by omega) (by omega)).block (64*ts.length+64) (Nat.le_refl _) (by omega) m7 p7 ?_;have hsc:vG (.inl ts)=(match mA ts with|.ok b _=>.inl b|.err c i=>.inr (c,aq ts i)|.bA=>.inl []):=rfl;have hne:=Jf hr.tG;have x7:an aV S S7:=(x3.trans x4).trans c7;have NK:∀{S8:LS},an (aK C) S7 S8→∀{b:Nat}{l:List AV},b≠S4.n→b<S7.n→S7.ob b=.ce l 0→S8.ob b=.ce l 0:=by
   intro S8 c8 b l h1 h2 h;exact(c8.2 b h2 λq=>h1 q).trans h
  cases hb:cF ts (64*ts.length+64) 0 0 with
  |bA=>unfold mA at hne;rw[hb]at hne;exact absurd rfl hne
  |err c i=>
   rw[hsc]at hP;unfold mA at hP;rw[hb]at hP;have hP:∀H' S',Mem H' S'→Ext S S'→K (.ret (.aY [.ab,.int 0 (c:Int),.int 0 (aq ts i:Int)])) H':=hP;intro H8 S8 m8 c8 p8;rw[kx];refine ake (C:=C) q2 rfl m8 p8 (NK c8 (by omega) (by omega) (k7 (by omega) o3)) (NK c8 (by omega) (by omega) (k7 (by omega) d3)) (NK c8 (by omega) (by omega) (k7 (by omega) t3)) (NK c8 (by omega) (by omega) b7) (by omega) (by omega) (by omega) λH9 S9 m9 c9=>?_;exact hP H9 S9 m9 ((x7.gi c8 λb hb=>.inr (by have hb:b=S4.n:=hb;omega)).gi c9 λb hb=>.inr (by rcases hb with q|q|q<;>omega)).ext
  |ok b j=>
   have hjl:=zY hr.tG b j hb;rw[hsc]at hP;unfold mA at hP;rw[hb]at hP;intro H8 S8 w m8 c8 p8 rv8;rw[ai];have x8:an aV S S8:=x7.gi c8 λb hb=>.inr (by have hb:b=S4.n:=hb;omega);have n8:=c8.1;have aua:w.one=true:=rv8.choose_spec.1.one;refine aT (v:=w) m8 (NK c8 (by omega) (by omega) (k7 (by omega) o3)) (by omega) (by show 0<1;omega) aua λH9 m9=>?_;have m9:Mem H9 (S8.set S.n (.ce [w] 0)):=m9;have p9:bS C (S8.set S.n (.ce [w] 0)) j 0:=p8.keep m8 (X:=λb=>b=S.n) ⟨Nat.le_refl _,λb _ hb=>LS.ah _ _ hb⟩ (λq=>by have q:S4.n=S.n:=q;omega) λb hb q=>by
    have q:b=S.n:=q;have:=b4 b hb;omega
   have o9:=LS.aj S8 S.n (.ce [w] 0);have d9:(S8.set S.n (.ce [w] 0)).ob (S.n+1)=.ce [.int 0 (.ofNat 0)] 0:=(LS.ah _ _ (by omega)).trans (NK c8 (by omega) (by omega) (k7 (by omega) d3));have t9:(S8.set S.n (.ce [w] 0)).ob (S.n+1+1)=.ce [.int 0 (.ofNat 0)] 0:=(LS.ah _ _ (by omega)).trans (NK c8 (by omega) (by omega) (k7 (by omega) t3));have bb9:(S8.set S.n (.ce [w] 0)).ob (S4.n+1)=.ce [.ptr S4.n 0] 0:=(LS.ah _ _ (by omega)).trans (NK c8 (by omega) (by omega) b7);have x9:an aV S (S8.set S.n (.ce [w] 0)):=x8.set (.inr (Nat.le_refl _)) _;have rv9:fK (S8.set S.n (.ce [w] 0)) (fb S7.n S8.n) w b:=rv8.go (λb hb=>LS.ah _ _ (by have:=hb.1;omega)) λ_ h=>h;have n9:(S8.set S.n (.ce [w] 0)).n=S8.n:=rfl;revert m9 p9 o9 d9 t9 bb9 x9 rv9 n9;generalize S8.set S.n (.ce [w] 0)=S9;intro m9 p9 o9 d9 t9 bb9 x9 rv9 n9;clear m8 p8;refine aw m9 bb9 (v:=.ptr S4.n 0) rfl ?_;rw[q2];refine jK (C:=C) m9 p9 λbJ S10 m10 c10 p10=>?_;rw[ai,BT];unfold dY;simp only[fG,fR,aE];have k10:∀{b:Nat}{l:List AV},S9.ob b=.ce l 0→S10.ob b=.ce l 0:=λh=>c10.ob m9 h λq=>q;have x10:=x9.trans c10;have n10:=c10.1;rw[bq,e0];by_cases hk:bH ts j=0
   ·rw[decide_eq_true (by show((bH ts j:Nat):Int)=_;rw[hk])];simp only[Bool.not_true,ax];have hP:SC K S (match (if bH ts j=0 then ay.ok b j else .err 14 j)with|.ok b _=>.inl b|.err c i=>.inr (c,aq ts i)|.bA=>.inl []):=hP;rw[if_pos hk]at hP;refine aw m10 (k10 o9) (v:=w) rfl ?_;refine Tn aua m10 (k10 o9) (k10 d9) (k10 t9) (by omega) (by omega) (by omega) λdZ S11 m11 c11 kj d11 t11=>?_;refine at7 m11 kj d11 t11 λbL S12 m12 c12=>?_;have n11:=c11.1;refine hP bL S12 w m12 ((x10.gi c11 λb hb=>.inr (by rcases hb with q|q|q<;>omega)).trans c12).ext ?_;refine rv9.go (λb hb=>?_) λb hb=>?_
    ·have h1:=hb.1;have h2:=hb.2;have hn:b<S9.n:=by omega
     exact(c12.2 b (by omega) λq=>q).trans ((c11.2 b (by omega) λq=>by rcases q with q|q|q<;>omega).trans (c10.2 b hn λq=>q))
    ·have h1:=hb.1;have h2:=hb.2;have:=c12.1;exact⟨by omega,by omega⟩
   ·rw[decide_eq_false (by show ¬((bH ts j:Nat):Int)=_;omega)];simp only[Bool.not_false,az];have hP:SC K S (match (if bH ts j=0 then ay.ok b j else .err 14 j)with|.ok b _=>.inl b|.err c i=>.inr (c,aq ts i)|.bA=>.inl []):=hP;rw[if_neg hk]at hP;refine aw m10 (k10 bb9) (v:=.ptr S4.n 0) rfl ?_;have e14:Int.ofNat 14=((14:Nat):Int):=rfl;rw[e14];rw[q4];refine oY (C:=C) (c:=14) rfl m10 p10 λdZ S11 m11 c11 e11=>?_;rw[kx];have k11:∀{b:Nat}{l:List AV},b≠S4.n→S9.ob b=.ce l 0→S11.ob b=.ce l 0:=λhb h=>c11.ob m10 (k10 h) λq=>hb q;refine ake (C:=C) q2 rfl m11 e11 (k11 (by omega) o9) (k11 (by omega) d9) (k11 (by omega) t9) (k11 (by omega) bb9) (by omega) (by omega) (by omega) λbL S12 m12 c12=>?_;exact hP bL S12 m12 ((x10.gi c11 λb hb=>.inr (by have hb:b=S4.n:=hb;omega)).gi c12 λb hb=>.inr (by rcases hb with q|q|q<;>omega)).ext
end
end Go.Proofs.YtcedghechlgecaaGreatDoor
namespace Go.X
section
variable {S S':LS}{H:AH}
def kC(S:LS):Nat→Prop:=λx=>x<S.n
theorem cM.at_{Q:Nat→Prop}{sz n:Nat}{v:AV}{cl:Nat→List AV}{i q:Nat}{k:AV→Prop}(h:cM S Q sz v n cl)(hi:i<n)(hk:∀b o cs m,Q b→S.ob b=.ce cs m→o+sz≤cs.length→(cs.drop o).take sz=cl i→k (.ptr b o)):cK sz v (.int q i) k:=by
 rcases h with⟨rfl,rfl⟩|⟨b,o,c,ex,cs,m,rfl,h1,h3,h4,h5,h6⟩
 ·omega
 ·refine mj (by omega) (by omega) ?_;rw[Int.toNat_natCast];have hle:(i+1)*sz≤n*sz:=Nat.mul_le_mul_right _ (by omega);rw[Nat.add_mul,Nat.one_mul]at hle;exact hk b _ cs m h1 h3 (by omega) (h6 i hi)
theorem cM.Om{Q:Nat→Prop}{n:Nat}{v:AV}{f:Nat→AV}{i q:Nat}{k:AV→Prop}(h:cM S Q 1 v n (λi=>[f i]))(hM:Mem H S)(hi:i<n)(hk:k (f i)):cK 1 v (.int q i) λp=>ak p H k:=by
 refine h.at_ hi λb o cs m _ h3 h4 h5=>aw hM h3 ?_ hk;have:((cs.drop o).take 1)[0]? = [f i][0]?:=by rw[h5]
 rw[List.getElem?_take,if_pos (by omega),List.getElem?_drop,Nat.add_zero]at this;exact this
theorem ft.same{Q:Nat→Prop}{c:List AV}{s:aS}(h:ft S Q c s):aU (.agg c) (.agg c)=true:=by
 cases h with
 |mk kind at_ names l bs vn vl vb cl bv bc g1 g2 _ g4 _ _=>
  refine SB λa ha=>?_;simp only[List.mem_cons,List.not_mem_nil,or_false]at ha;rcases ha with rfl|rfl|rfl|rfl|rfl<;>first|exact ql _ _|exact g1.1.same|exact g2.same|exact g4.same
def WM(S:LS)(Q:Nat→Prop)(v:AV)(bs:List (List aS)):Prop:=∃bv:Nat→AV,cM S Q 1 v bs.length (λi=>[bv i])∧∀(i:Nat) (b:List aS),bs[i]? = some b→fK S Q (bv i) b
def WN(S:LS)(Q:Nat→Prop)(v:AV)(f:List iP):Prop:=∃cf:Nat→List AV,cM S Q 2 v f.length cf∧∀(i:Nat) (g:iP),f[i]? = some g→RF S Q (cf i) g
theorem ft.out{Q:Nat→Prop}{c:List AV}{kind at_:Nat}{names:List (List Nat)}{l:List aC}{bs:List (List aS)}(h:ft S Q c (.mk kind at_ names l bs)):∃vn vl vb,c=[.int 0 kind,.int 0 at_,vn,vl,vb]∧ku S Q vn names∧s8 S Q vl l∧WM S Q vb bs:=by
 cases h with
 |mk _ _ _ _ _ vn vl vb cl bv bc g1 g2 g3 g4 g5 g6=>exact⟨vn,vl,vb,rfl,g1,⟨cl,g2,g3⟩,⟨bv,g4,λi b hb=>⟨bc i,g5 i b hb,λj s hs=>g6 i b j s hb hs⟩⟩⟩
theorem RE.out{Q:Nat→Prop}{c:List AV}{kind at_ n op:Nat}{s:List Nat}{l:List aC}{f:List iP}(h:RE S Q c (.mk kind at_ n s op l f)):∃vl vf,c=[.int 0 kind,.int 0 at_,.int 0 n,af s,.int 0 op,vl,vf]∧B8 s∧s8 S Q vl l∧WN S Q vf f:=by
 cases h with
 |mk _ _ _ _ _ _ _ vl vf cl cf g1 g2 g3 g4 g5=>exact⟨vl,vf,rfl,g1,⟨cl,g2,g3⟩,⟨cf,g4,g5⟩⟩
theorem RF.out{Q:Nat→Prop}{c:List AV}{ps:List (List Nat)}{body:List aS}(h:RF S Q c (.mk ps body)):∃vp vb,c=[vp,vb]∧ku S Q vp ps∧fK S Q vb body:=by
 cases h with
 |mk _ _ vp vb cb g1 g2 g3=>exact⟨vp,vb,rfl,g1,⟨cb,g2,g3⟩⟩
theorem cM.ext{sz n:Nat}{v:AV}{cl:Nat→List AV}(h:cM S (kC S) sz v n cl)(hx:Ext S S'):cM S' (kC S') sz v n cl:=h.go (λb hb=>hx.ob b hb) λb hb=>Nat.lt_of_lt_of_le hb hx.n
theorem ku.ext{v:AV}{l:List (List Nat)}(h:ku S (kC S) v l)(hx:Ext S S'):ku S' (kC S') v l:=⟨h.1.ext hx,h.2⟩
theorem RE.ext{c:List AV}{e:aC}(h:RE S (kC S) c e)(hx:Ext S S'):RE S' (kC S') c e:=h.go (λb hb=>hx.ob b hb) λb hb=>Nat.lt_of_lt_of_le hb hx.n
theorem RF.ext{c:List AV}{e:iP}(h:RF S (kC S) c e)(hx:Ext S S'):RF S' (kC S') c e:=h.go (λb hb=>hx.ob b hb) λb hb=>Nat.lt_of_lt_of_le hb hx.n
theorem ft.ext{c:List AV}{e:aS}(h:ft S (kC S) c e)(hx:Ext S S'):ft S' (kC S') c e:=h.go (λb hb=>hx.ob b hb) λb hb=>Nat.lt_of_lt_of_le hb hx.n
theorem fK.ext{v:AV}{l:List aS}(h:fK S (kC S) v l)(hx:Ext S S'):fK S' (kC S') v l:=by
 obtain⟨cl,g1,g2⟩:=h;exact⟨cl,g1.ext hx,λi e he=>(g2 i e he).ext hx⟩
theorem s8.ext{v:AV}{l:List aC}(h:s8 S (kC S) v l)(hx:Ext S S'):s8 S' (kC S') v l:=by
 obtain⟨cl,g1,g2⟩:=h;exact⟨cl,g1.ext hx,λi e he=>(g2 i e he).ext hx⟩
theorem WM.ext{v:AV}{l:List (List aS)}(h:WM S (kC S) v l)(hx:Ext S S'):WM S' (kC S') v l:=by
 obtain⟨cl,g1,g2⟩:=h;exact⟨cl,g1.ext hx,λi e he=>(g2 i e he).ext hx⟩
theorem WN.ext{v:AV}{l:List iP}(h:WN S (kC S) v l)(hx:Ext S S'):WN S' (kC S') v l:=by
 obtain⟨cl,g1,g2⟩:=h;exact⟨cl,g1.ext hx,λi e he=>(g2 i e he).ext hx⟩
theorem aC.BH(e:aC):1≤e.sz:=by cases e;simp only[aC.sz];omega
theorem aS.BH(e:aS):1≤e.sz:=by cases e;simp only[aS.sz];omega
theorem iP.BH(e:iP):1≤e.sz:=by cases e;simp only[iP.sz];omega
theorem To:∀{l:List aC}{i:Nat}{e:aC},l[i]? = some e→e.sz≤dH l
 |[],i,e,h=>by simp at h
 |a::l,0,e,h=>by simp at h;subst h;simp only[dH];omega
 |a::l,i+1,e,h=>by have:=To (l:=l) (i:=i) (e:=e) (by simpa using h);simp only[dH];omega
theorem Tp:∀{l:List aS}{i:Nat}{e:aS},l[i]? = some e→e.sz≤iY l
 |[],i,e,h=>by simp at h
 |a::l,0,e,h=>by simp at h;subst h;simp only[iY];omega
 |a::l,i+1,e,h=>by have:=Tp (l:=l) (i:=i) (e:=e) (by simpa using h);simp only[iY];omega
theorem Tq:∀{l:List iP}{i:Nat}{e:iP},l[i]? = some e→e.sz≤mB l
 |[],i,e,h=>by simp at h
 |a::l,0,e,h=>by simp at h;subst h;simp only[mB];omega
 |a::l,i+1,e,h=>by have:=Tq (l:=l) (i:=i) (e:=e) (by simpa using h);simp only[mB];omega
theorem Ts:∀{l:List (List aS)}{i:Nat}{e:List aS},l[i]? = some e→1+iY e≤iQ l
 |[],i,e,h=>by simp at h
 |a::l,0,e,h=>by simp at h;subst h;simp only[iQ];omega
 |a::l,i+1,e,h=>by have:=Ts (l:=l) (i:=i) (e:=e) (by simpa using h);simp only[iQ];omega
theorem vK:∀l:List aC,l.length≤dH l
 |[]=>Nat.le_refl _
 |a::l=>by have:=vK l;have:=a.BH;simp only[dH,List.length_cons];omega
theorem Fo:∀l:List aS,l.length≤iY l
 |[]=>Nat.le_refl _
 |a::l=>by have:=Fo l;have:=a.BH;simp only[iY,List.length_cons];omega
theorem Tt:∀l:List iP,l.length≤mB l
 |[]=>Nat.le_refl _
 |a::l=>by have:=Tt l;have:=a.BH;simp only[mB,List.length_cons];omega
theorem Tu:∀l:List (List aS),l.length≤iQ l
 |[]=>Nat.le_refl _
 |a::l=>by have:=Tu l;simp only[iQ,List.length_cons];omega
end
end Go.X
namespace Go.Proofs.YtcedghechlgecaaGreatDoor
open Go Go.X Go.Proofs.YtcedghechlgecaaGreatDoor.G
section
variable {H:AH}{S:LS}{K:KF}
def vL{α:Type}(F:AV→AV→AH→KF→Prop)(Rp:LS→(Nat→Prop)→AV→α→Prop)(b:α):Prop:=∀{K:KF}{H:AH}{S:LS}{v w:AV},Mem H S→Rp S (kC S) v b→Rp S (kC S) w b→(∀H' S',Mem H' S'→Ext S S'→K (.ret (.bool true)) H')→F v w H K
theorem t29{l:List (List Nat)}(hl:l.length≤900000):vL f29 ku l:=by
 intro K H S v w hM h1 h2 hK;have loop:∀(q i:Nat),i≤l.length→l.length-i<q→yn sy K q v w (i:Int) H:=by
  intro q
  induction q with
  |zero=>intro i _ h;omega
  |succ q ih=>
   intro i hi hq;show HB sy K (yn sy K q) (HA sy K) v w (i:Int) H;unfold HB HA;refine h1.1.len ?_;rw[aE,cn];refine bN (λg=>?_) (λ_=>hK H S hM (Ext.refl S));have hil:i<l.length:=by omega
   refine h1.1.Om hM hil ?_;refine h2.1.Om hM hil ?_;have h8:B8 (l[i]?.getD []):=by rw[List.getElem?_eq_getElem hil];exact h1.2 _ (List.getElem_mem _)
   refine Xz h8 h8 ?_;rw[decide_eq_true rfl,aB];simp only[Bool.not_true,ax,dA,fL];refine w0 (by omega) (by omega) ?_;exact ih (i+1) (by omega) (by omega)
 show HC sy K (yn sy K G.NL) v w H;unfold HC;have gf:G.NL=1000000:=rfl;generalize G.NL=iA at gf ⊢;refine h1.1.len ?_;rw[aE];refine h2.1.len ?_;rw[aE,bq,decide_eq_true rfl];simp only[Bool.not_true,ax];exact loop iA 0 (Nat.zero_le _) (by omega)
theorem nat_eq(a:Nat):bj (a:Int) (a:Int)=true:=by rw[bq,decide_eq_true rfl]
section
variable {R:eC}{i2:AV→AV→Int→AH→Prop}{S0:LS}
theorem awZ{a0 a1:AV}{a5:Int}{x y:Nat}{p q r t u p' q' r' t' u':AV}{bs:List (List aS)}(hR:∀(i:Nat) (b:List aS),bs[i]? = some b→vL R.1 fK b)(hn:bs.length≤900000)(hend:∀H' S',Mem H' S'→Ext S S'→HE R K i2 a0 a1 a5 H')(ox:S.ob x=.ce [p,q,r,t,u] 0)(oy:S.ob y=.ce [p',q',r',t',u'] 0)(hx:x<S.n)(hy:y<S.n)(h1:WM S (kC S) u bs)(h2:WM S (kC S) u' bs) :
  ∀(n k:Nat) (H:AH) (S':LS),k≤bs.length→bs.length-k<n→Mem H S'→Ext S S'→vk R K i2 n a0 a1 a5 (.ptr x 0) (.ptr y 0) (k:Int) H:=by
 intro n
 induction n with
 |zero=>intro k H S' _ h;omega
 |succ n ih=>
  intro k H S' hk hq hM hE;show HG R K (HE R K i2) (QS R K i2 (vk R K i2 n)) a0 a1 a5 (.ptr x 0) (.ptr y 0) (k:Int) H;unfold HG;simp only[aL,Nat.zero_add];have ox':=(hE.ob x hx).trans ox;have oy':=(hE.ob y hy).trans oy;obtain⟨bv,s1,r1⟩:=h1.ext hE;obtain⟨bv',s2,r2⟩:=h2.ext hE;refine aw hM ox' (v:=u) rfl ?_;refine s1.len ?_;rw[aE,cn];refine bN (λg=>?_) (λ_=>hend H S' hM hE);have hkl:k<bs.length:=by omega
  have hb:=List.getElem?_eq_getElem hkl;refine aw hM ox' (v:=u) rfl ?_;refine s1.Om hM hkl ?_;refine aw hM oy' (v:=u') rfl ?_;refine s2.Om hM hkl ?_;refine hR k _ hb hM (r1 k _ hb) (r2 k _ hb) λH2 S2 m2 x2=>?_;rw[ai,aB];simp only[Bool.not_true,ax];show HF R K (vk R K i2 n) a0 a1 a5 (.ptr x 0) (.ptr y 0) (k:Int) H2;unfold HF;rw[dA,fL];refine w0 (by omega) (by omega) ?_;exact ih (k+1) H2 S2 (by omega) (by omega) m2 (hE.trans x2)
theorem au4{m:Nat}(hm:m≤900000)(Tl:R.2.1=f29)(hR1:∀b,iY b+1≤m→vL R.1 fK b)(hR2:∀l,dH l+1≤m→vL R.2.2 s8 l){b:List aS}(hb:iY b≤m){v w:AV}(hK:∀H' S',Mem H' S'→Ext S S'→K (.ret (.bool true)) H')(h1:fK S (kC S) v b)(h2:fK S (kC S) w b) :
  ∀(n i:Nat) (H:AH) (S':LS),i≤b.length→b.length-i<n→Mem H S'→Ext S S'→oT R K n v w (i:Int) H:=by
 have hlb:=Fo b;intro n
 induction n with
 |zero=>intro i H S' _ h;omega
 |succ n ih=>
  intro i H S' hi hq hM hE;show HJ R K (QU R K (oT R K n)) (QV R K) v w (i:Int) H;unfold HJ;obtain⟨cl,s1,g1⟩:=h1.ext hE;obtain⟨cl',s2,g2⟩:=h2.ext hE;refine s1.len ?_;rw[aE,cn];refine bN (λg=>?_) (λ_=>hK H S' hM hE);have hil:i<b.length:=by omega
  obtain⟨s,hs⟩:∃s,b[i]? = some s:=⟨_,List.getElem?_eq_getElem hil⟩
  have hsz:=Tp hs;have e1:=g1 i s hs;have e2:=g2 i s hs;refine s1.load hM hil ?_;refine s2.at_ hil λbb oo cs mm hbb hob hlen hcl=>?_;refine lQ hM hob hlen ?_;rw[hcl];refine hM.bG (bE (bz hM yZ λH1 m1=>?_));rw[m1.n,hM.n];refine cE (by show Nat.beq (S'.n+1) (S'.n+1)=true;exact Nat.beq_refl _) (m1.bG (bE (bz m1 yZ λH2 m2=>?_)));rw[m2.n];refine cE (by show Nat.beq (S'.n+1+1) (S'.n+1+1)=true;exact Nat.beq_refl _) ?_;refine eJ m2 (z:=z5) (c:=cl i) ((LS.aZ _ _ (show S'.n<S'.n+1 by omega)).trans (LS.ag _ _)) rfl e1.len e1.ones λH3 m3=>?_;have x3:an aV S' (((S'.push (.ce z5 0)).push (.ce z5 0)).set S'.n (.ce (cl i) 0)):=(((an.refl _ S').push _).push _).set (.inr (Nat.le_refl _)) _;have amq:=x3.ob hM hob λq=>q;refine lQ m3 amq hlen ?_;rw[hcl];refine cE e2.same ?_;refine eJ m3 (z:=z5) (c:=cl' i) (b:=S'.n+1) ((LS.ah _ _ (by omega)).trans (LS.ag _ _)) rfl e2.len e2.ones λH4 m4=>?_;have m4:Mem H4 ((((S'.push (.ce z5 0)).push (.ce z5 0)).set S'.n (.ce (cl i) 0)).set (S'.n+1) (.ce (cl' i) 0)):=m4;have x4:an aV S' ((((S'.push (.ce z5 0)).push (.ce z5 0)).set S'.n (.ce (cl i) 0)).set (S'.n+1) (.ce (cl' i) 0)):=x3.set (.inr (by omega)) _;have o1:((((S'.push (.ce z5 0)).push (.ce z5 0)).set S'.n (.ce (cl i) 0)).set (S'.n+1) (.ce (cl' i) 0)).ob S'.n=.ce (cl i) 0:=(LS.ah _ _ (by omega)).trans (LS.aj _ _ _);have o2:((((S'.push (.ce z5 0)).push (.ce z5 0)).set S'.n (.ce (cl i) 0)).set (S'.n+1) (.ce (cl' i) 0)).ob (S'.n+1)=.ce (cl' i) 0:=LS.aj _ _ _;have n4:((((S'.push (.ce z5 0)).push (.ce z5 0)).set S'.n (.ce (cl i) 0)).set (S'.n+1) (.ce (cl' i) 0)).n=S'.n+2:=rfl;revert m4 x4 o1 o2 n4;generalize (((S'.push (.ce z5 0)).push (.ce z5 0)).set S'.n (.ce (cl i) 0)).set (S'.n+1) (.ce (cl' i) 0)=S4;intro m4 x4 o1 o2 n4;clear m1 m2 m3;have E4:Ext S' S4:=x4.ext;have e1:=e1.ext E4;have e2:=e2.ext E4;obtain⟨kind,at_,names,l,bs⟩:=s;obtain⟨vn,vl,vb,c1,N1,L1,B1⟩:=e1.out;obtain⟨NC,Es,Et,c2,N2,L2,B2⟩:=e2.out;rw[c1]at o1;rw[c2]at o2;simp only[aS.sz]at hsz;have hll:=vK l;have hbl:=Tu bs;show HI R K (QT R K (oT R K n)) v w (i:Int) (.ptr S'.n 0) (.ptr (S'.n+1) 0) H4;unfold HI;simp only[aL,Nat.zero_add];refine aw m4 o1 (v:=.int 0 (kind:Int)) rfl ?_;rw[aE];refine aw m4 o2 (v:=.int 0 (kind:Int)) rfl ?_;rw[aE,nat_eq];simp only[Bool.not_true,ax];refine aw m4 o1 (v:=.int 0 (at_:Int)) rfl ?_;rw[aE];refine aw m4 o2 (v:=.int 0 (at_:Int)) rfl ?_;rw[aE,nat_eq];simp only[Bool.not_true,ax];refine aw m4 o1 (v:=vn) rfl ?_;refine aw m4 o2 (v:=NC) rfl ?_;rw[Tl];refine t29 (by omega) m4 N1 N2 λH5 m5S m5 x5=>?_;rw[ai,aB];simp only[Bool.not_true,ax];have vd:=(x5.ob _ (by omega)).trans o1;have GG:=(x5.ob _ (by omega)).trans o2;refine aw m5 vd (v:=vl) rfl ?_;refine aw m5 GG (v:=Es) rfl ?_;refine hR2 l (by omega) m5 (L1.ext x5) (L2.ext x5) λH6 m6S m6 x6=>?_;rw[ai,aB];simp only[Bool.not_true,ax];have zc:=x5.trans x6;have o16:=(zc.ob _ (by omega)).trans o1;have xJ:=(zc.ob _ (by omega)).trans o2;have n6:=zc.n;have B16:=B1.ext zc;have B26:=B2.ext zc;refine aw m6 o16 (v:=vb) rfl ?_;refine B16.choose_spec.1.len ?_;rw[aE];refine aw m6 xJ (v:=Et) rfl ?_;refine B26.choose_spec.1.len ?_;rw[aE,nat_eq];simp only[Bool.not_true,ax];show HH R K (vk R K (oT R K n) G.NL) v w (i:Int) (.ptr S'.n 0) (.ptr (S'.n+1) 0) H6;unfold HH;have gf:G.NL=1000000:=rfl;generalize G.NL=iA at gf ⊢;have EE:=hE.trans (E4.trans zc);refine awZ (i2:=oT R K n) (λk bk hbk=>hR1 bk (by have:=Ts hbk;omega)) (by omega) (λH7 S7 m7 x7=>?_) o16 xJ (by omega) (by omega) B16 B26 iA 0 H6 m6S (Nat.zero_le _) (by omega) m6 (Ext.refl _);show HD R K (oT R K n) v w (i:Int) H7;unfold HD;rw[dA,fL];refine w0 (by omega) (by omega) ?_;exact ih (i+1) H7 S7 (by omega) (by omega) m7 (EE.trans x7)
end
end
end Go.Proofs.YtcedghechlgecaaGreatDoor
namespace Go.X
section
variable {S S':LS}{H:AH}
theorem cM.Bz{Q:Nat→Prop}{sz n j:Nat}{v a:AV}{cl:Nat→List AV}{i q:Nat}{k:AV→Prop}(h:cM S Q sz v n cl)(hM:Mem H S)(hi:i<n)(hj:j<sz)(ha:(cl i)[j]? = some a)(hk:k a):cK sz v (.int q i) λp=>al j p λp'=>ak p' H k:=by
 refine h.at_ hi λb o cs m _ h3 h4 h5=>?_;rw[aL];refine aw hM h3 ?_ hk;rw[←h5,List.getElem?_take,if_pos hj,List.getElem?_drop]at ha;exact ha
end
end Go.X
namespace Go.Proofs.YtcedghechlgecaaGreatDoor
open Go Go.X Go.Proofs.YtcedghechlgecaaGreatDoor.G
section
variable {H:AH}{S:LS}{K:KF}
section
variable {R:eD}{i2:AV→AV→Int→AH→Prop}{S0:LS}
theorem aw0{a0 a1:AV}{a5:Int}{x y:Nat}{p q r t o l u p' q' r' t' o' l' u':AV}{fs:List iP}(Tl:R.2.1=f29)(hR:∀(i:Nat) (g:iP),fs[i]? = some g→g.sz≤900000∧∀ps b,g=.mk ps b→vL R.1 fK b)(hn:fs.length≤900000)(hend:∀H' S',Mem H' S'→Ext S S'→HM R K i2 a0 a1 a5 H')(ox:S.ob x=.ce [p,q,r,t,o,l,u] 0)(oy:S.ob y=.ce [p',q',r',t',o',l',u'] 0)(hx:x<S.n)(hy:y<S.n)(h1:WN S (kC S) u fs)(h2:WN S (kC S) u' fs) :
  ∀(n k:Nat) (H:AH) (S':LS),k≤fs.length→fs.length-k<n→Mem H S'→Ext S S'→vm R K i2 n a0 a1 a5 (.ptr x 0) (.ptr y 0) (k:Int) H:=by
 intro n
 induction n with
 |zero=>intro k H S' _ h;omega
 |succ n ih=>
  intro k H S' hk hq hM hE;show HO R K (HM R K i2) (Q2 R K i2 (vm R K i2 n)) a0 a1 a5 (.ptr x 0) (.ptr y 0) (k:Int) H;unfold HO;have pf:∀(b:Nat) (kk:AV→Prop),al 6 (.ptr b 0) kk=kk (.ptr b 6):=λb kk=>by rw[aL]
  simp only[pf];have ox':=(hE.ob x hx).trans ox;have oy':=(hE.ob y hy).trans oy;obtain⟨cf,s1,r1⟩:=h1.ext hE;obtain⟨cf',s2,r2⟩:=h2.ext hE;refine aw hM ox' (v:=u) rfl ?_;refine s1.len ?_;rw[aE,cn];refine bN (λg=>?_) (λ_=>hend H S' hM hE);have hkl:k<fs.length:=by omega
  obtain⟨g,hg⟩:∃g,fs[k]? = some g:=⟨_,List.getElem?_eq_getElem hkl⟩
  obtain⟨hgs,hgb⟩:=hR k g hg;have e1:=r1 k g hg;have e2:=r2 k g hg;obtain⟨ps,body⟩:=g;have hgb:vL R.1 fK body:=@hgb ps body rfl;simp only[iP.sz]at hgs;obtain⟨vp,vb,c1,N1,B1⟩:=e1.out;obtain⟨vp',Et,c2,N2,B2⟩:=e2.out;refine aw hM ox' (v:=u) rfl ?_;refine s1.Bz hM hkl (by omega) (a:=vp) (by rw[c1];rfl) ?_;refine aw hM oy' (v:=u') rfl ?_;refine s2.Bz hM hkl (by omega) (a:=vp') (by rw[c2];rfl) ?_;rw[Tl];refine t29 (by omega) hM N1 N2 λH2 S2 m2 x2=>?_;rw[ai,aB];simp only[Bool.not_true,ax];have hE2:=hE.trans x2;have ox2:=(hE2.ob x hx).trans ox;have oy2:=(hE2.ob y hy).trans oy;refine aw m2 ox2 (v:=u) rfl ?_;refine(s1.ext x2).Bz m2 hkl (by omega) (a:=vb) (by rw[c1];rfl) ?_;refine aw m2 oy2 (v:=u') rfl ?_;refine(s2.ext x2).Bz m2 hkl (by omega) (a:=Et) (by rw[c2];rfl) ?_;refine hgb m2 (B1.ext x2) (B2.ext x2) λH3 S3 m3 x3=>?_;rw[ai,aB];simp only[Bool.not_true,ax];show HN R K (vm R K i2 n) a0 a1 a5 (.ptr x 0) (.ptr y 0) (k:Int) H3;unfold HN;rw[dA,fL];refine w0 (by omega) (by omega) ?_;exact ih (k+1) H3 S3 (by omega) (by omega) m3 (hE2.trans x3)
theorem au5{m:Nat}(hm:m≤900000)(Tl:R.2.1=f29)(hR1:∀b,iY b+1≤m→vL R.1 fK b)(hR2:∀l,dH l+1≤m→vL R.2.2 s8 l){b:List aC}(hb:dH b≤m){v w:AV}(hK:∀H' S',Mem H' S'→Ext S S'→K (.ret (.bool true)) H')(h1:s8 S (kC S) v b)(h2:s8 S (kC S) w b) :
  ∀(n i:Nat) (H:AH) (S':LS),i≤b.length→b.length-i<n→Mem H S'→Ext S S'→oU R K n v w (i:Int) H:=by
 have hlb:=vK b;intro n
 induction n with
 |zero=>intro i H S' _ h;omega
 |succ n ih=>
  intro i H S' hi hq hM hE;show HS R K (Q4 R K (oU R K n)) (Q5 R K) v w (i:Int) H;unfold HS;simp only[eU];obtain⟨cl,s1,g1⟩:=h1.ext hE;obtain⟨cl',s2,g2⟩:=h2.ext hE;refine s1.len ?_;rw[aE,cn];refine bN (λg=>?_) (λ_=>hK H S' hM hE);have hil:i<b.length:=by omega
  obtain⟨s,hs⟩:∃s,b[i]? = some s:=⟨_,List.getElem?_eq_getElem hil⟩
  have hsz:=To hs;have e1:=g1 i s hs;have e2:=g2 i s hs;refine s1.load hM hil ?_;refine s2.at_ hil λbb oo cs mm hbb hob hlen hcl=>?_;refine lQ hM hob hlen ?_;rw[hcl];refine hM.bG (bE (bz hM cm λH1 m1=>?_));rw[m1.n,hM.n];refine cE (by show Nat.beq (S'.n+1) (S'.n+1)=true;exact Nat.beq_refl _) (m1.bG (bE (bz m1 cm λH2 m2=>?_)));rw[m2.n];refine cE (by show Nat.beq (S'.n+1+1) (S'.n+1+1)=true;exact Nat.beq_refl _) ?_;refine eJ m2 (z:=z7) (c:=cl i) ((LS.aZ _ _ (show S'.n<S'.n+1 by omega)).trans (LS.ag _ _)) rfl e1.len e1.ones λH3 m3=>?_;have x3:an aV S' (((S'.push (.ce z7 0)).push (.ce z7 0)).set S'.n (.ce (cl i) 0)):=(((an.refl _ S').push _).push _).set (.inr (Nat.le_refl _)) _;have amq:=x3.ob hM hob λq=>q;refine lQ m3 amq hlen ?_;rw[hcl];refine cE e2.same ?_;refine eJ m3 (z:=z7) (c:=cl' i) (b:=S'.n+1) ((LS.ah _ _ (by omega)).trans (LS.ag _ _)) rfl e2.len e2.ones λH4 m4=>?_;have m4:Mem H4 ((((S'.push (.ce z7 0)).push (.ce z7 0)).set S'.n (.ce (cl i) 0)).set (S'.n+1) (.ce (cl' i) 0)):=m4;have x4:an aV S' ((((S'.push (.ce z7 0)).push (.ce z7 0)).set S'.n (.ce (cl i) 0)).set (S'.n+1) (.ce (cl' i) 0)):=x3.set (.inr (by omega)) _;have o1:((((S'.push (.ce z7 0)).push (.ce z7 0)).set S'.n (.ce (cl i) 0)).set (S'.n+1) (.ce (cl' i) 0)).ob S'.n=.ce (cl i) 0:=(LS.ah _ _ (by omega)).trans (LS.aj _ _ _);have o2:((((S'.push (.ce z7 0)).push (.ce z7 0)).set S'.n (.ce (cl i) 0)).set (S'.n+1) (.ce (cl' i) 0)).ob (S'.n+1)=.ce (cl' i) 0:=LS.aj _ _ _;have n4:((((S'.push (.ce z7 0)).push (.ce z7 0)).set S'.n (.ce (cl i) 0)).set (S'.n+1) (.ce (cl' i) 0)).n=S'.n+2:=rfl;revert m4 x4 o1 o2 n4;generalize (((S'.push (.ce z7 0)).push (.ce z7 0)).set S'.n (.ce (cl i) 0)).set (S'.n+1) (.ce (cl' i) 0)=S4;intro m4 x4 o1 o2 n4;clear m1 m2 m3;have E4:Ext S' S4:=x4.ext;have e1:=e1.ext E4;have e2:=e2.ext E4;obtain⟨kind,at_,nn,s,op,l,fs⟩:=s;obtain⟨vl,vf,c1,h8,L1,F1⟩:=e1.out;obtain⟨Es,vf',c2,_,L2,F2⟩:=e2.out;rw[c1]at o1;rw[c2]at o2;simp only[aC.sz]at hsz;have hll:=vK l;have hbl:=Tt fs;show HQ R K (Q3 R K (oU R K n)) v w (i:Int) (.ptr S'.n 0) (.ptr (S'.n+1) 0) H4;unfold HQ;simp only[aL,Nat.zero_add];refine aw m4 o1 (v:=.int 0 (kind:Int)) rfl ?_;rw[aE];refine aw m4 o2 (v:=.int 0 (kind:Int)) rfl ?_;rw[aE,nat_eq];simp only[Bool.not_true,ax];refine aw m4 o1 (v:=.int 0 (at_:Int)) rfl ?_;rw[aE];refine aw m4 o2 (v:=.int 0 (at_:Int)) rfl ?_;rw[aE,nat_eq];simp only[Bool.not_true,ax];refine aw m4 o1 (v:=.int 0 (nn:Int)) rfl ?_;rw[aE];refine aw m4 o2 (v:=.int 0 (nn:Int)) rfl ?_;rw[aE,nat_eq];simp only[Bool.not_true,ax];refine aw m4 o1 (v:=af s) rfl ?_;refine aw m4 o2 (v:=af s) rfl ?_;refine Xz h8 h8 ?_;rw[decide_eq_true rfl,aB];simp only[Bool.not_true,ax];refine aw m4 o1 (v:=.int 0 (op:Int)) rfl ?_;rw[aE];refine aw m4 o2 (v:=.int 0 (op:Int)) rfl ?_;rw[aE,nat_eq];simp only[Bool.not_true,ax];refine aw m4 o1 (v:=vl) rfl ?_;refine aw m4 o2 (v:=Es) rfl ?_;refine hR2 l (by omega) m4 L1 L2 λH6 m6S m6 zc=>?_;rw[ai,aB];simp only[Bool.not_true,ax];have o16:=(zc.ob _ (by omega)).trans o1;have xJ:=(zc.ob _ (by omega)).trans o2;have n6:=zc.n;have F16:=F1.ext zc;have F26:=F2.ext zc;refine aw m6 o16 (v:=vf) rfl ?_;refine F16.choose_spec.1.len ?_;rw[aE];refine aw m6 xJ (v:=vf') rfl ?_;refine F26.choose_spec.1.len ?_;rw[aE,nat_eq];simp only[Bool.not_true,ax];show HP R K (vm R K (oU R K n) G.NL) v w (i:Int) (.ptr S'.n 0) (.ptr (S'.n+1) 0) H6;unfold HP;have gf:G.NL=1000000:=rfl;generalize G.NL=iA at gf ⊢;have EE:=hE.trans (E4.trans zc);refine aw0 (i2:=oU R K n) Tl (λk bk hbk=>?_) (by omega) (λH7 S7 m7 x7=>?_) o16 xJ (by omega) (by omega) F16 F26 iA 0 H6 m6S (Nat.zero_le _) (by omega) m6 (Ext.refl _)
  ·have h1:=Tq hbk;refine⟨by omega,λps bb e=>hR1 bb ?_⟩;subst e;simp only[iP.sz]at h1;omega
  show HL R K (oU R K n) v w (i:Int) H7;unfold HL;rw[dA,fL];refine w0 (by omega) (by omega) ?_;exact ih (i+1) H7 S7 (by omega) (by omega) m7 (EE.trans x7)
end
theorem au6(m:Nat):sC (m+1)=(aaT (yo (sC m)),aaU (yp (sC m))):=by kernel_rfl
theorem anK:∀m:Nat,m≤900000→∀M:Nat,m≤M→(∀b,iY b+1≤m→vL (sC M).1 fK b)∧(∀l,dH l+1≤m→vL (sC M).2 s8 l)
 |0,_,M,_=>⟨λb h=>by omega,λb h=>by omega⟩
 |m+1,hm,0,h=>by omega
 |m+1,hm,M+1,h=>by
  obtain⟨i1,i2⟩:=anK m (by omega) M (by omega);rw[au6];have gf:G.NL=1000000:=rfl;refine⟨λb hb=>?_,λl hl=>?_⟩
  ·intro K H S v w hM h1 h2 hK;show HK (yo (sC M)) K (oT (yo (sC M)) K G.NL) v w H;unfold HK;generalize G.NL=iA at gf ⊢;refine h1.choose_spec.1.len ?_;rw[aE];refine h2.choose_spec.1.len ?_;rw[aE,nat_eq];simp only[Bool.not_true,ax];have:=Fo b;exact au4 (R:=yo (sC M)) (by omega) rfl i1 i2 (by omega) hK h1 h2 iA 0 H S (Nat.zero_le _) (by omega) hM (Ext.refl S)
  ·intro K H S v w hM h1 h2 hK;show HT (yp (sC M)) K (oU (yp (sC M)) K G.NL) v w H;unfold HT;generalize G.NL=iA at gf ⊢;refine h1.choose_spec.1.len ?_;rw[aE];refine h2.choose_spec.1.len ?_;rw[aE,nat_eq];simp only[Bool.not_true,ax];have:=vK l;exact au5 (R:=yp (sC M)) (by omega) rfl i1 i2 (by omega) hK h1 h2 iA 0 H S (Nat.zero_le _) (by omega) hM (Ext.refl S)
theorem anL{b:List aS}(hb:iY b≤800000):vL f10 fK b:=by
 have e:f10=(sC G.NL).1:=by unfold f10;rfl
 rw[e];have gf:G.NL=1000000:=rfl;clear e;generalize G.NL=iA at gf ⊢;have h:=(anK (iY b+1) (by omega) iA (by omega)).1;exact @h b (Nat.le_refl _)
end
section
variable {H:AH}{S:LS}{K:KF}
noncomputable def R8:xm:=(Lx.g21,f23,f24,f25)
noncomputable def g8:AV→AH→KF→Prop:=λa H K=>Tm R8 K a H
theorem anM:av Tryz.prog 8 (ao [.a] g8):=λhb l H K hf=>by
 match l,hf with
 |[a],hf=>
  have hf:Tm R8 K a H:=hf;rw[awX]at hf;exact av.ak2 (ad.cons Lx.atY (ad.cons kh (ad.cons arO (ad.cons oP ad.nil)))) mix 400 400 hb [a] H K hf
theorem amr{s:List Nat}{r:List Tok ⊕ Nat}(h8:B8 s)(hs:s.length≤5000)(hr:fh s 0 r)(hM:Mem H S)(hT:lS Lx.sT S)(hP:SC K S (vG r)):g8 (af s) H K:=
 awY (F:=Lx.g21) rfl rfl rfl rfl h8 (by omega) hr hM (λm x q=>Lx.auX h8 (by omega) m (hT.ext hM x) hr (by cases r<;>exact q)) hP
def tx1:List Nat:=[114,101,116,117,114,110,32,49,32,43,32,50,32,42,32,51]
def tx2:List Nat:=[120]
def ts1:List Tok:=[⟨1,[114,101,116,117,114,110],0,0⟩,⟨3,[],1,7⟩,⟨5,[43],0,9⟩,⟨3,[],2,11⟩,⟨5,[42],0,13⟩,⟨3,[],3,15⟩,⟨0,[],0,16⟩]
def ts2:List Tok:=[⟨2,[120],0,0⟩,⟨0,[],0,1⟩]
theorem lx1:fh tx1 0 (.inl ts1):=by
 unfold tx1 ts1;refine fh.tok _ _ _ _ _ _ _ _ (by decide) (by decide) (jO.word _ _ (by decide) (by decide) (by decide)) ?_;refine fh.blank 32 _ _ _ (by decide) ?_;refine fh.tok _ _ _ _ _ _ _ _ (by decide) (by decide) (jO.num _ _ _ (by decide) (by decide)) ?_;refine fh.blank 32 _ _ _ (by decide) ?_;refine fh.tok _ _ _ _ _ _ _ _ (by decide) (by decide) (jO.sign _ _ (by decide) (by decide) (by decide) (by decide) (by decide)) ?_;refine fh.blank 32 _ _ _ (by decide) ?_;refine fh.tok _ _ _ _ _ _ _ _ (by decide) (by decide) (jO.num _ _ _ (by decide) (by decide)) ?_;refine fh.blank 32 _ _ _ (by decide) ?_;refine fh.tok _ _ _ _ _ _ _ _ (by decide) (by decide) (jO.sign _ _ (by decide) (by decide) (by decide) (by decide) (by decide)) ?_;refine fh.blank 32 _ _ _ (by decide) ?_;refine fh.tok _ _ _ _ _ _ _ _ (by decide) (by decide) (jO.num _ _ _ (by decide) (by decide)) ?_;exact fh.nil _
theorem lx2:fh tx2 0 (.inl ts2):=by
 unfold tx2 ts2;refine fh.tok _ _ _ _ _ _ _ _ (by decide) (by decide) (jO.name _ _ (by decide) (by decide) (by decide)) ?_;exact fh.nil _
def e1:aC:=.mk 14 9 0 [] 1 [.mk 4 7 1 [] 0 [] [],.mk 14 13 0 [] 3 [.mk 4 11 2 [] 0 [] [],.mk 4 15 3 [] 0 [] []] []] []
theorem sc1:vG (.inl ts1)=.inl [.mk 10 0 [] [e1] []]:=by kernel_rfl
theorem sc2:vG (.inl ts2)=.inr (14,1):=by kernel_rfl
noncomputable def g7:AH→KF→Prop:=atd g8
theorem au7:av Tryz.prog 7 (ao [] g7):=ate g8 (ad.cons anM ad.nil)
theorem ams(hM:Mem H S)(hT:lS Lx.sT S)(hK:∀H' S',Mem H' S'→Ext S S'→K (.ret (.bool true)) H'):g7 H K:=by
 show Oc g8 K H;unfold Oc;have l1:AV.str 16 67957635696521517601713190803061630322=af tx1:=Pr rfl (by decide);have l2:AV.str 1 120=af tx2:=Pr rfl (by decide);rw[l1,l2];refine amr (aD (by decide)) (by decide) lx1 hM hT ?_;rw[sc1];intro H1 S1 v m1 x1 rv1;simp only[ai,fF,fG,fR,aE];refine amr (aD (by decide)) (by decide) lx2 m1 (hT.ext hM x1) ?_;rw[sc2];intro H2 S2 m2 x2;simp only[ai,fF,fG,fR,aE];obtain⟨cl,s1,g1⟩:=rv1.go (Q':=kC S2) (λb hb=>x2.ob b hb.2) λb hb=>Nat.lt_of_lt_of_le hb.2 x2.n;have h1:=g1 0 _ rfl;obtain⟨vn,vl,vb,c1,N1,⟨cl',s1',g1'⟩,B1⟩:=h1.out;have h2:=g1' 0 _ rfl;obtain⟨vl2,vf2,c2,_,_,_⟩:=h2.out;have e0:(Int.ofNat 0)=((0:Nat):Int):=rfl;rw[bq,decide_eq_true (by rfl),az,bq,decide_eq_true (by rfl),az];refine s1.len ?_;rw[aE,bq,decide_eq_true (by rfl),az];refine s1.Bz (i:=0) m2 (by decide) (by decide) (a:=vl) (by rw[c1];rfl) ?_;refine s1'.len ?_;rw[aE,bq,decide_eq_true (by rfl),az];refine s1.Bz (i:=0) m2 (by decide) (by decide) (a:=vl) (by rw[c1];rfl) ?_;refine s1'.Bz (i:=0) m2 (by decide) (by decide) (a:=.int 0 ((9:Nat):Int)) (by rw[c2];rfl) ?_;rw[aE,bq,decide_eq_true (by rfl),az];refine s1.Bz (i:=0) m2 (by decide) (by decide) (a:=vl) (by rw[c1];rfl) ?_;refine s1'.Bz (i:=0) m2 (by decide) (by decide) (a:=.int 0 ((1:Nat):Int)) (by rw[c2];rfl) ?_;rw[aE,bq,decide_eq_true (by rfl),az,az];exact hK H2 S2 m2 (x1.trans x2)
end
section
variable {H:AH}{S:LS}{K:KF}{C:Ctx}{i d:Nat}
theorem Tv{R:qu}{S0:LS}{r:ay (List aS)}{v:AV}{b:List aS}{r0:List aS ⊕ Nat×Nat}(hM:Mem H S)(hd:bB C S r)(hv:∀b' j,r=.ok b' j→b=b')(hr:r0=(match r with|.ok b _=>.inl b|.err c i=>.inr (c,aq C.T i)|.bA=>.inl []))(hx:Ext S0 S)(hR:fK S (fb S0.n S.n) v b)(hP:SC K S0 r0):aaQ R K (.ptr C.bp 0) v H:=by
 show Oa R K (.ptr C.bp 0) v H;unfold Oa;have e0:Int.ofNat 0=((0:Nat):Int):=rfl;refine iL hM hd ?_;rw[bq,e0];subst hr;cases r with
 |bA=>exact absurd rfl hd.no
 |ok a i=>
  rw[decide_eq_true (by show((0:Nat):Int)=_;rfl)];simp only[Bool.not_true,ax];have hP:∀H' S' v,Mem H' S'→Ext S0 S'→fK S' (fb S0.n S'.n) v a→K (.ret (.aY [v,.int 0 0,.int 0 0])) H':=hP;rw[hv a i rfl]at hR;exact hP H S v hM hx hR
 |err c i=>
  have hc:=(hd.cd c i rfl).1;rw[decide_eq_false (by show ¬((c:Nat):Int)=((0:Nat):Int);omega)];simp only[Bool.not_false,az];refine iL hM hd ?_;simp only[cj,aL,Nat.zero_add];refine aw hM hd.ob (v:=.int 0 (aq C.T i:Int)) rfl ?_;rw[aE];have hP:∀H' S',Mem H' S'→Ext S0 S'→K (.ret (.aY [.ab,.int 0 (c:Int),.int 0 (aq C.T i:Int)])) H':=hP;exact hP H S hM hx
theorem aw1{R:qu}{F:AV→AH→KF→Prop}(q1:R.1=F)(q2:R.2.1=f27)(q3:R.2.2=f28){s:List Nat}{r:List Tok ⊕ Nat}(h8:B8 s)(hs:s.length≤5000)(hr:fh s 0 r)(hM:Mem H S)(hF:∀{K:KF},LxQ K S r→F (af s) H K)(hP:SC K S (vG r)):aaS R (af s) H K:=by
 unfold aaS am5 aaR;rw[q1];refine hF ?_;have e0:Int.ofNat 0=((0:Nat):Int):=rfl;cases r with
 |inr e=>
  intro H4 S4 m4 x4;simp only[ai,fF,fG,fR,aE];rw[bq,decide_eq_false (by simp)];simp only[Bool.not_false,az];exact hP H4 S4 m4 x4
 |inl ts=>
  intro H4 S4 v m4 x4 f4 b4;have n4:=x4.n;simp only[ai,fF,fG,fR,aE];rw[bq,e0,decide_eq_true (show(0:Int)=((0:Nat):Int)from rfl)];simp only[Bool.not_true,ax];refine ey f4.one' ?_;refine bz m4 (λa ha=>?_) λH5 m5=>?_
  ·simp only[List.mem_cons,List.not_mem_nil,or_false]at ha;rcases ha with rfl|rfl|rfl|rfl
   ·exact f4.one'
   all_goals rfl
  have c5:an aV S4 (S4.push (.ce [v,.int 0 ((0:Nat):Int),.int 0 ((0:Nat):Int),.int 0 ((0:Nat):Int)] 0)):=(an.refl _ _).push _;have o5:(S4.push (.ce [v,.int 0 ((0:Nat):Int),.int 0 ((0:Nat):Int),.int 0 ((0:Nat):Int)] 0)).ob S4.n=_:=LS.ag _ _;have n5:(S4.push (.ce [v,.int 0 ((0:Nat):Int),.int 0 ((0:Nat):Int),.int 0 ((0:Nat):Int)] 0)).n=S4.n+1:=rfl;have m5:Mem H5 (S4.push (.ce [v,.int 0 ((0:Nat):Int),.int 0 ((0:Nat):Int),.int 0 ((0:Nat):Int)] 0)):=m5;revert m5 c5 o5 n5;generalize S4.push (.ce [v,.int 0 ((0:Nat):Int),.int 0 ((0:Nat):Int),.int 0 ((0:Nat):Int)] 0)=S5;intro c5 o5 n5 m5;have hlen:=hr.few ts rfl;have SP:∀b,aG v b→b<S4.n:=λb hb=>f4.lt m4 hb;obtain⟨C,hC⟩:∃C:Ctx,C=⟨ts,S4.n,v,.iface 57 (.agg []),hr.tG,hr.b8 h8 ts rfl,by omega,λq=>by have:=SP _ q;omega⟩:=⟨_,rfl⟩
  have cT:C.T=ts:=by rw[hC]
  have cb:C.bp=S4.n:=by rw[hC]
  have cv:C.vT=v:=by rw[hC]
  clear hC;have d5:bB C S5 (ay.ok () 0:ay Unit):=⟨by rw[cb,cv];exact o5,by rw[cT,cv];exact f4.keep m4 λb _ hb=>c5.2 b hb λq=>q,by rw[cT];exact hr.tG.1,λq=>(by cases q),λc i q=>(by cases q)⟩
  have e27:f27=(au G.NL).1:=by unfold f27;rfl
  rw[q2,e27];clear e27;have gf:G.NL=1000000:=rfl;generalize G.NL=iA at gf ⊢;rw[←cb];have x5:Ext S S5:=x4.trans c5.ext;have hsc:vG (.inl ts)=(match mA ts with|.ok b _=>.inl b|.err c i=>.inr (c,aq ts i)|.bA=>.inl []):=rfl;rw[hsc]at hP;have hne:=Jf hr.tG;have hlt:=zY hr.tG;unfold mA at hP hne;refine(okX (C:=C) iA (by omega)).block (64*ts.length+64) (by omega) (by omega) m5 d5 ?_;show bd C (aK C) fK _ S5 (cF C.T (64*ts.length+64) 0 0);rw[cT];generalize hb:cF ts (64*ts.length+64) 0 0=rb at hP hne hlt;refine⟨λq=>hne (by rw[q];rfl),λH6 S6 w b m6 c6 d6 rv6 ha=>?_⟩;show cR K (.ret w) H6 _;rw[ai];have nS:=x4.n;have x6:Ext S S6:=⟨Nat.le_trans x5.n c6.1,λb hb=>(c6.2 b (Nat.lt_of_lt_of_le hb x5.n) λq=>by
   have q:b=C.bp:=q;rw[cb]at q;omega).trans (x5.ob b hb)⟩
  have R6:fK S6 (fb S.n S6.n) w b:=rv6.go (λ_ _=>rfl) λb hb=>⟨Nat.le_trans x5.n hb.1,hb.2⟩
  have axy:=d6.dO m6;refine iL m6 d6 ?_;rw[bq];cases rb with
  |bA=>exact absurd rfl d6.no
  |err c i=>
   have hc:=(d6.cd c i rfl).1;rw[decide_eq_false (by show ¬((c:Nat):Int)=((0:Nat):Int);omega),ax];exact Tv (r:=(ay.err c i:ay (List aS))) m6 d6 (λb' j q=>by cases q) (by rw[cT];rfl) x6 R6 hP
  |ok b' j=>
   have hbb:b=b':=ha b' j rfl;rw[decide_eq_true (by show((0:Nat):Int)=((0:Nat):Int);rfl),az];refine D2 m6 d6 (j:=0) (v:=.int 0 (bH C.T j:Int)) (by omega) rfl ?_;rw[aE,bq,cT];by_cases hk:bH ts j=0
   ·rw[decide_eq_true (by show((bH ts j:Nat):Int)=((0:Nat):Int);rw[hk])];simp only[Bool.not_true,ax];refine Tv (r:=(ay.ok b' j:ay (List aS))) m6 d6 (λb'' j' q=>by cases q;exact hbb) ?_ x6 R6 hP;show((match (if bH ts j=0 then ay.ok b' j else .err 14 j)with|.ok b _=>.inl b|.err c i=>.inr (c,aq ts i)|.bA=>.inl []):List aS ⊕ Nat×Nat)=_;rw[if_pos hk]
   ·rw[decide_eq_false (by show ¬((bH ts j:Nat):Int)=((0:Nat):Int);omega)];simp only[Bool.not_false,az];have e14:Int.ofNat 14=((14:Nat):Int):=rfl;rw[q3,e14];refine rO (c:=14) (by omega) (by omega) m6 d6 λH7 S7 m7 c7 d7=>?_;rw[ai];have x7:Ext S S7:=⟨Nat.le_trans x6.n c7.1,λb hb=>(c7.2 b (Nat.lt_of_lt_of_le hb x6.n) λq=>by
     have q:b=C.bp:=q;rw[cb]at q;omega).trans (x6.ob b hb)⟩
    have R7:fK S7 (fb S.n S7.n) w b:=rv6.go (λb hb=>c7.2 b hb.2 λq=>by
     have q:b=C.bp:=q;have:=hb.1;rw[cb]at q;omega) λb hb=>⟨Nat.le_trans x5.n hb.1,Nat.lt_of_lt_of_le hb.2 c7.1⟩
    refine Tv (r:=(ay.err 14 j:ay (List aS))) m7 (d7.as rfl rfl rfl (λq=>by cases q) λc i q=>d7.cd c i (by cases q;rfl)) (λb' j q=>by cases q) ?_ x7 R7 hP;show((match (if bH ts j=0 then ay.ok b' j else .err 14 j)with|.ok b _=>.inl b|.err c i=>.inr (c,aq ts i)|.bA=>.inl []):List aS ⊕ Nat×Nat)=_;rw[if_neg hk];show(Sum.inr (14,aq ts j):List aS ⊕ Nat×Nat)=.inr (14,aq C.T j);rw[cT]
end
section
variable {H:AH}{S:LS}{K:KF}
noncomputable def R9:qu:=(f26,f27,f28)
noncomputable def g9:AV→AH→KF→Prop:=aaS R9
theorem au8:av Tryz.prog 9 (ao [.a] g9):=asb R9 (ad.cons atb (ad.cons asa (ad.cons so ad.nil)))
theorem aub{s:List Nat}{r:List Tok ⊕ Nat}(h8:B8 s)(hs:s.length≤5000)(hr:fh s 0 r)(hM:Mem H S)(hP:SC K S (vG r)):g9 (af s) H K:=
 aw1 (R:=R9) (F:=f26) rfl rfl rfl h8 hs hr hM (λq=>Lx.au3 h8 (by omega) hM hr (by cases r<;>exact q)) hP
theorem aqA{s:List Nat}{r:List Tok ⊕ Nat}{b:List aS}(hr:fh s 0 r)(hs:s.length≤5000)(h:vG r=.inl b):iY b≤800000:=by
 cases r with
 |inr e=>cases h
 |inl ts=>
  have hlen:=hr.few ts rfl;have hlt:=zY hr.tG;have hsc:vG (.inl ts)=(match mA ts with|.ok b _=>.inl b|.err c i=>.inr (c,aq ts i)|.bA=>.inl []):=rfl;rw[hsc]at h;unfold mA at h;cases hb:cF ts (64*ts.length+64) 0 0 with
  |bA=>
   rw[hb]at h;have h:(Sum.inl []:List aS ⊕ Nat×Nat)=.inl b:=h;cases h;simp[iY]
  |err c i=>
   rw[hb]at h;have h:(Sum.inr (c,aq ts i):List aS ⊕ Nat×Nat)=.inl b:=h;cases h
  |ok a j=>
   have h1:=(ajR (64*ts.length+64)).block hb;have h2:=hlt a j hb;rw[hb]at h;have h:((match (if bH ts j=0 then ay.ok a j else .err 14 j)with|.ok b _=>.inl b|.err c i=>.inr (c,aq ts i)|.bA=>.inl []):List aS ⊕ Nat×Nat)=.inl b:=h;split at h
   ·rename_i x _ e;cases h;split at e
    ·cases e;omega
    ·cases e
   ·cases h
   ·rename_i e;split at e<;>cases e
noncomputable def R3:sY:=(g7,g8,g9,f10)
noncomputable def g3:AV→AH→KF→Prop:=asl R3
theorem au9:av Tryz.prog 3 (ao [.a] g3):=asm R3 (ad.cons au7 (ad.cons anM (ad.cons au8 (ad.cons asj ad.nil))))
theorem aw2{s:List Nat}(h8:B8 s)(hM:Mem H S)(hT:lS Lx.sT S)(hK:∀H',K (.ret (.bool true)) H'):g3 (af s) H K:=by
 have r3a:R3.1=g7:=rfl;have r3b:R3.2.1=g8:=rfl;have r3c:R3.2.2.1=g9:=rfl;have r3d:R3.2.2.2=f10:=rfl;show Ob R3 K (HU R3 K) (af s) H;unfold Ob;rw[r3a,r3b,r3c];simp only[eL,aE,cn];have e:Int.ofNat 1500=1500:=rfl;rw[e];refine bN (λg=>?_) (λg=>?_)
 ·refine ams hM hT λH1 S1 m1 x1=>?_;rw[ai,aB];exact hK _
 ·have hs:s.length≤1500:=by omega
  obtain⟨r,hr⟩:=FW (s.length+1) s 0 (by omega);refine amr h8 (by omega) hr hM hT ?_;cases hsc:vG r with
  |inl b=>
   have hsz:=aqA hr (by omega) hsc;intro H1 S1 v1 m1 x1 rv1;simp only[ai,fF,fG,fR,aE];refine aub h8 (by omega) hr m1 ?_;rw[hsc];intro H2 S2 v2 m2 x2 rv2;simp only[ai,fF,fG,fR,aE];unfold HU;rw[r3a,r3d];refine ams m2 (hT.ext hM (x1.trans x2)) λH3 S3 m3 x3=>?_;rw[ai,aB,az,bq,decide_eq_true rfl,az,az];have q1:fK S3 (kC S3) v1 b:=rv1.go (λb hb=>((x2.trans x3).ob b hb.2)) λb hb=>Nat.lt_of_lt_of_le hb.2 (x2.trans x3).n;have q2:fK S3 (kC S3) v2 b:=rv2.go (λb hb=>x3.ob b hb.2) λb hb=>Nat.lt_of_lt_of_le hb.2 x3.n;refine anL hsz m3 q1 q2 λH4 S4 m4 x4=>?_;rw[ai,aB];exact hK _
  |inr p=>
   obtain⟨c,p⟩:=p;intro H1 S1 m1 x1;simp only[ai,fF,fG,fR,aE];refine aub h8 (by omega) hr m1 ?_;rw[hsc];intro H2 S2 m2 x2;simp only[ai,fF,fG,fR,aE];unfold HU;rw[r3a,r3d];refine ams m2 (hT.ext hM (x1.trans x2)) λH3 S3 m3 x3=>?_;rw[ai,aB,az,bq,decide_eq_true rfl,az,bq,decide_eq_true rfl,az];have q1:fK S3 (kC S3) .ab []:=⟨λ_=>[],.inl ⟨rfl,rfl⟩,λi e h=>by simp at h⟩
   refine anL (b:=[]) (by simp[iY]) m3 q1 q1 λH4 S4 m4 x4=>?_;rw[ai,aB];exact hK _
end
end Go.Proofs.YtcedghechlgecaaGreatDoor
