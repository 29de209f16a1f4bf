/- What the compiler makes of the scripts, Check and Size of it, the law CodeNames. No condition: definitions and lemmas. -/
import Derived.Test.YtcedghechlgecaaGreatDoorTa
set_option maxRecDepth 100000
set_option maxHeartbeats 0
set_option linter.unusedVariables false
set_option linter.unusedSimpArgs false
namespace Go.Proofs.YtcedghechlgecaaGreatDoor
open Go Go.X Go.Proofs.YtcedghechlgecaaGreatDoor.G
section
variable {H H':AH}{S S':LS}{K:KF}{lo:Nat}{f f':Fm}{s:List Nat}
def LT(m:Nat):Nat→List (List Nat×Nat)
 |0=>[([75,69,89,83],0),([65,82,71,86],1)]
 |i+1=>LT m i++[(nN (m+1),2+i)]
theorem Jm(m:Nat):∀i,(LT m i).length=2+i
 |0=>rfl
 |i+1=>by rw[LT,List.length_append,Jm m i];rfl
theorem afE(m:Nat):B8 (nN m):=λx hx=>by
 rw[List.eq_of_mem_replicate hx]
 decide
theorem afF(m:Nat):∀i,∀p∈LT m i,B8 p.1
 |0,p,hp=>by
  simp only[LT,List.mem_cons,List.not_mem_nil,or_false]at hp;rcases hp with rfl|rfl<;>(intro x hx;revert x;decide)
 |i+1,p,hp=>by
  rw[LT]at hp;rcases List.mem_append.1 hp with g|g
  ·exact afF m i p g
  ·rw[List.mem_singleton]at g;subst g;exact afE _
theorem amk(m i:Nat):eG (LT m (i+1)) (nN (m+1))=((2+i:Nat):Int):=by
 rw[LT,NU,if_pos rfl]
def NW:Nat→List (Nat×Nat)
 |0=>[]
 |i+1=>NW i++[(0,0),(0,0),(4,0)]++[(8,2+i)]
theorem E8:∀i,(NW i).length=4*i
 |0=>rfl
 |i+1=>by
  rw[NW,List.length_append,List.length_append,E8 i];show 4*i+3+1=_;omega
def YB(k:Nat):List (Nat×Nat):=NW k++[(0,0),(0,0),(12,0)]++[(8,2+k)]
def YC(k:Nat):List (Nat×Nat):=YB k++[(0,0),(0,0),(6,2+k)]++[(31,0)]
theorem YD(k:Nat):(YB k).length=4*k+4:=by
 rw[YB,List.length_append,List.length_append,E8];rfl
theorem aue(k:Nat):(YC k).length=4*k+8:=by
 rw[YC,List.length_append,List.length_append,YD];rfl
theorem aml{k1 k3 k2:Nat}(h1:1≤k1){k:Nat}:∀i,i≤k→∀x∈NW i,oN k1 (3+k) k3 k2 x
 |0,_,x,hx=>by cases hx
 |i+1,hi,x,hx=>by
  rw[NW]at hx;simp only[List.mem_append,List.mem_cons,List.not_mem_nil,or_false]at hx;rcases hx with(g|rfl|rfl|rfl)|rfl
  ·exact aml h1 i (by omega) x g
  ·exact .inl (.inl rfl)
  ·exact .inl (.inl rfl)
  ·exact .inr (.inl ⟨rfl,by show 0<k1;omega⟩)
  ·exact .inr (.inr (.inl ⟨.inr rfl,by show 2+i<3+k;omega⟩))
theorem axz{k1 k3 k2 k:Nat}(h1:1≤k1)(h2:1≤k2):∀x∈YC k++[(1,0),(31,0)],oN k1 (3+k) k3 k2 x:=λx hx=>by
 unfold YC YB at hx;simp only[List.mem_append,List.mem_cons,List.not_mem_nil,or_false]at hx;rcases hx with((((g|rfl|rfl|rfl)|rfl)|rfl|rfl|rfl)|rfl)|rfl|rfl
 ·exact aml h1 k (Nat.le_refl _) x g
 ·exact .inl (.inl rfl)
 ·exact .inl (.inl rfl)
 ·exact .inr (.inr (.inr (.inr ⟨rfl,by show 0<k2;omega⟩)))
 ·exact .inr (.inr (.inl ⟨.inr rfl,by show 2+k<3+k;omega⟩))
 ·exact .inl (.inl rfl)
 ·exact .inl (.inl rfl)
 ·exact .inr (.inr (.inl ⟨.inl rfl,by show 2+k<3+k;omega⟩))
 ·exact .inl (.inr (.inr rfl))
 ·exact .inl (.inr (.inl rfl))
 ·exact .inl (.inr (.inr rfl))
theorem nU(m:Nat):∀(k p:Nat),(oP m p k).length=k
 |0,_=>rfl
 |k+1,p=>by rw[oP,List.length_cons,nU m k]
theorem NX(m:Nat):∀(k p i:Nat),i<k→∃q,(oP m p k)[i]? = some (aL m q)
 |k+1,p,0,_=>⟨p,rfl⟩
 |k+1,p,i+1,h=>by
  obtain⟨q,e⟩:=NX m k (p+(m+12)) i (by omega);exact⟨q,e⟩
theorem Tz(k j m:Nat):(nS k j m).length=k+2:=by
 rw[nS,List.length_append,nU];rfl
theorem axA{k j m i:Nat}(h:i<k):∃q,(nS k j m)[i]? = some (aL m q):=by
 obtain⟨q,e⟩:=NX m k 0 i h;exact⟨q,by rw[nS,List.getElem?_append_left (by rw[nU];exact h)];exact e⟩
theorem axB(k j m:Nat):(nS k j m)[k]? = some (fnS m j (k*(m+12))):=by
 rw[nS,List.getElem?_append_right (by rw[nU];exact Nat.le_refl _),nU,Nat.sub_self];rfl
theorem axC(k j m:Nat):∃q,(nS k j m)[k+1]? = some (aR m q):=by
 rw[nS,List.getElem?_append_right (by rw[nU];omega),nU,Nat.add_sub_cancel_left];exact⟨_,rfl⟩
section
variable {S0 S1 S2:LS}{c p n:Nat}{D:Nat→Prop}{f1:Fm}
structure Pl where
 L:Nat→List (List Nat×Nat)
 R:Nat→Nat
 N:Nat→Nat
 is:Nat→List (Nat×Nat)
def TI(lo:Nat)(S0:LS)(c p:Nat)(z:Int)(P:Pl)(S2:LS)(f1:Fm)(i:Nat)(H':AH)(S':LS):Prop:=
 ∃f' D,bV S2 S' [f1] [f']∧Tp lo S0 c p (P.L i) (P.R i) z (P.N i) (P.is i) H' S' f' D∧(i≠0→f'.k 1=1)
theorem Tp.stay{L:List (List Nat×Nat)}{R n:Nat}{z:Int}{is:List (Nat×Nat)}(h:Tp lo S0 c p L R z n is H S f D)(m:Mem H' S')(x:Ext S S'):Tp lo S0 c p L R z n is H' S' f D∧bV S S' [f] [f]:=by
 have c':=h.ch.keep m x.n λy hy=>x.ob y (h.ch.bX hy);have s':bV S S' [f] [f]:=bV.put bV.refl x.n λy hy=>x.ob y hy;exact⟨h.next c' s' rfl rfl rfl h.rg ⟨rfl,rfl,rfl⟩ ⟨rfl,rfl,rfl⟩ h.k0 h.l0 h.n4 h.i1,s'⟩
theorem TI.stay{z:Int}{P:Pl}{i:Nat}(h:TI lo S0 c p z P S2 f1 i H S)(mm:Mem H' S')(x:Ext S S'):TI lo S0 c p z P S2 f1 i H' S':=by
 obtain⟨f',D,s',h,g⟩:=h;obtain⟨a,b⟩:=h.stay mm x;exact⟨f',D,s'.trans b,a,g⟩
def Jn(N:Nat)(z:Int)(P:Pl)(l:List aP):Prop:=
 ∀{lo:Nat}{S0 S2:LS}{c p i:Nat}{f1:Fm}{H:AH}{S:LS}{K:KF}{cs:List AV}{e:aP},l[i]? = some e→TI lo S0 c p z P S2 f1 i H S→fT S (dQ lo) cs e→(∀H' S',TI lo S0 c p z P S2 f1 (i+1) H' S'→K (.ret (.aE [])) H')→(tB (N+3)).c119 (.ptr c 0) (.agg cs) H K
def yK(k j m:Nat):Pl:=⟨λi=>if i≤k then LT m i else LT m (k+1),λi=>if i≤k then 2+i else 3+k,λi=>if i≤k then 0 else 6*(j+1),λi=>if i≤k then NW i else if i=k+1 then YB k else YC k⟩
theorem Oz{k j m i:Nat}(h:i≤k):(yK k j m).L i=LT m i∧(yK k j m).R i=2+i∧(yK k j m).N i=0∧(yK k j m).is i=NW i:=⟨if_pos h,if_pos h,if_pos h,if_pos h⟩
theorem aqr(k j m:Nat):(yK k j m).L (k+1)=LT m (k+1)∧(yK k j m).R (k+1)=3+k∧(yK k j m).N (k+1)=6*(j+1)∧(yK k j m).is (k+1)=YB k:=by
 have h:¬k+1≤k:=by omega
 exact⟨if_neg h,if_neg h,if_neg h,(if_neg h).trans (if_pos rfl)⟩
theorem aqs(k j m:Nat):(yK k j m).L (k+2)=LT m (k+1)∧(yK k j m).R (k+2)=3+k∧(yK k j m).N (k+2)=6*(j+1)∧(yK k j m).is (k+2)=YC k:=by
 have h:¬k+2≤k:=by omega
 have g:¬k+2=k+1:=by omega
 exact⟨if_neg h,if_neg h,if_neg h,(if_neg h).trans (if_neg g)⟩
theorem amm{k j m n:Nat}(hk1:1≤k)(hk:k≤60)(hj:j≤100):Jn (n+7*(j+1)) ((k+1:Nat):Int) (yK k j m) (nS k j m):=by
 intro lo S0 S2 c p i f1 H S K cs e he h hR hK;have hi:i<k+2:=by
  have:=(List.getElem?_eq_some_iff.1 he).1;rw[Tz]at this;exact this
 obtain⟨f',D,s',h,hn⟩:=h;rcases Nat.lt_trichotomy i k with hik|hik|hik
 ·obtain⟨q,eq⟩:=axA (j:=j) (m:=m) hik;rw[eq]at he;cases he;obtain⟨a1,a2,a3,a4⟩:=Oz (j:=j) (m:=m) (Nat.le_of_lt hik);obtain⟨b1,b2,b3,b4⟩:=Oz (k:=k) (j:=j) (m:=m) (i:=i+1) (by omega);have hL:=Jm m i;rw[a1,a2,a3,a4,←hL]at h;refine axw (n:=n+7*(j+1)) h hR (by omega) (by rw[E8];omega) λH1 S1 f2 h1 s1 g1=>?_;rw[hL]at h1;have e2:2+i+1=2+(i+1):=by omega
  rw[e2]at h1;refine hK H1 S1 ⟨f2,D,s'.trans s1,?_,λ_=>g1⟩;rw[b1,b2,b3,b4];exact h1
 ·subst hik;rw[axB]at he;cases he;obtain⟨a1,a2,a3,a4⟩:=Oz (k:=i) (j:=j) (m:=m) (Nat.le_refl i);obtain⟨b1,b2,b3,b4⟩:=aqr i j m;have hL:=Jm m i;rw[a1,a2,a3,a4,←hL]at h;obtain⟨i',rfl⟩:∃i',i=i'+1:=⟨i-1,by omega⟩
  have ho:=amk m i';have e3:2+i'=i'+1+1:=by omega
  rw[e3]at ho;have hF:NV (tB (n+7*(j+1))).xN (nN (m+1)) (oO m j ((i'+1)*(m+12)+(m+21))) (6*(j+1)) 1:=YA j (by omega);refine axx (n:=n+7*(j+1)) (s:=nN (m+1)) hF (by omega) h hR (by omega) (by rw[E8];omega) (afF m _) (afE _) (by omega) ho λH1 S1 f2 D1 h1 s1 g1=>?_;rw[hL]at h1;have e2:2+(i'+1)+1=3+(i'+1):=by omega
  rw[e2]at h1;refine hK H1 S1 ⟨f2,D1,s'.trans s1,?_,λ_=>g1.trans (hn (by omega))⟩;rw[b1,b2,b3,b4];exact h1
 ·obtain rfl:i=k+1:=by omega
  obtain⟨q,eq⟩:=axC k j m;rw[eq]at he;cases he;obtain⟨a1,a2,a3,a4⟩:=aqr k j m;obtain⟨b1,b2,b3,b4⟩:=aqs k j m;have hL:=Jm m (k+1);rw[a1,a2,a3,a4]at h;refine axy (n:=n+7*(j+1)) (a:=2+k) h hR (by omega) (by rw[YD];omega) (afF m _) (afE _) (amk m k) λH1 S1 f2 h1 s1 g1=>?_;refine hK H1 S1 ⟨f2,D,s'.trans s1,?_,λ_=>g1.trans (hn (by omega))⟩;have e5:k+1+1=k+2:=rfl;rw[e5,b1,b2,b3,b4];exact h1
end
end
section
variable {H H':AH}{S S':LS}{K:KF}{lo:Nat}{f f':Fm}{s:List Nat}
section
variable {S0 S1:LS}{c p n R:Nat}{z:Int}{L:List (List Nat×Nat)}{is:List (Nat×Nat)}{D:Nat→Prop}
theorem Tp.fin(h:Tp lo S0 c p L R z n is H S f D)(hok:∀i∈is,oN (f.k 1) R 0 (if n=0 then 0 else 1) i)(la:∃is',is=is'++[(31,0)])(le:is.length≤1000)(hz:n≠0→0≤z∧z<R)(h2:2≤R) :
  ∃D',kI S D' (.ptr p 0) (is.length+n) []∧∀x,D' x→lo≤x∧x<S.n:=by
 have g:=h.ch.h.1;have fs:=g.fs
 let D':Nat→Prop:=λx=>x=p∨(∃i,i<4∧aF (f.v i) x)∨D x
 have hD':∀x,D' x→lo≤x∧x<S.n:=λx hx=>by
  rcases hx with e|⟨i,hi,q⟩|q
  ·subst e;have hx:eU [f] x:=⟨f,List.mem_cons_self ..,.inr (.inl h.p.symm)⟩
   exact⟨h.ch.lw x hx,h.ch.bX hx⟩
  ·have hx:eU [f] x:=⟨f,List.mem_cons_self ..,.inr (.inr ⟨i,by omega,q⟩)⟩
   exact⟨h.ch.lw x hx,h.ch.bX hx⟩
  ·obtain⟨d1,d2,d3,d4⟩:=h.d x q;exact⟨d1,d2⟩
 have f0:=fs 0 (by omega);rw[h.k0,h.l0]at f0;have f1:=fs 1 (by omega);have f2:=fs 2 (by omega);have f3:=fs 3 (by omega);rw[h.t3.1,h.t3.2]at f3;have op:=g.op;rw[h.p]at op;have bd:∀k2 l2,f.k 2=k2→f.l 2=l2→k2=(if n=0 then 0 else 1)→yJ S D' p (f.v 0) (f.v 1) (f.v 2) (f.v 3) (f.k 1) k2 2 R (f.l 1) l2 is []:=λk2 l2 e1 e2 e3=>by
  refine⟨.inl rfl,?_,f0,f1,by rw[←e1,←e2];exact f2,f3,λx hx=>.inr (.inl ⟨0,by omega,hx⟩),λx hx=>.inr (.inl ⟨1,by omega,hx⟩),λx hx=>.inr (.inl ⟨2,by omega,hx⟩),λx hx=>.inr (.inl ⟨3,by omega,hx⟩),λi hi=>?_,la,h2,le,Nat.zero_le _⟩
  ·rw[op];unfold Fm.pc;rw[h.par,h.rg]
  ·rw[e3];exact hok i hi
 refine⟨D',?_,hD'⟩;by_cases e:n=0
 ·have hv:=h.w0 e;rw[hv]at f2;obtain⟨k2,l2⟩:f.k 2=0∧f.l 2=[]:=by
   rcases f2 with⟨_,g1,g3⟩|⟨_,_,_,_,g,_⟩
   ·exact⟨g1,g3⟩
   ·cases g
  subst e;exact .leaf (bd 0 [] k2 l2 (by rw[if_pos rfl]))
 ·obtain⟨w,a,b,pt⟩:=h.w1 e;refine .node (bd 1 [w] a b (by rw[if_neg e])) (pt.weak h.ch.m λx hx=>.inr (.inr hx)) λx hx=>?_;rw[List.mem_singleton]at hx;subst hx;obtain⟨z0,z1⟩:=hz e;exact⟨z0,λ_=>z1,λe=>(by cases e)⟩
theorem ao7{vp vb:AV}{C:CC}{Q:Nat→Prop}(h:Ch lo H S [dI c p])(hQ:∀x,Q x→x<S.n∧¬eU [dI c p] x)(hp:iZ S Q vp eg)
  (hK:∀H1 S1 f1,bV S S1 [dI c p] [f1]→Tp lo S c p (LT 0 0) 2 z 0 [] H1 S1 f1 (λ_=>False)→C.c85 (.ptr c 0) vb H1 λo1 H2=>cR K o1 H2 λ_=>(jO C).2.2 (.ptr c 0) 1 0 H2 λo3 H4=>cR K o3 H4 λ_=>(jO C).2.2 (.ptr c 0) 31 0 H4 λo5 H6=>cR K o5 H6 λ_=>rp (jO C) K (.ptr c 0) H6):Es (jO C) (.ptr c 0) vp vb H K:=by
 show Ae (jO C) K (rq (jO C) K G.NL) (.ptr (dI c p).c 0) vp vb H;unfold Ae;refine hp.1.len ?_;rw[az];have cQ:G.NL=999997+1+1+1:=rfl;generalize 999997=q at cQ;rw[cQ];have lw:∀{S1:LS}{fs:List Fm},bV S S1 [dI c p] fs→∀x,Q x→S1.ob x=S.ob x:=λs x hx=>s.ob x (hQ x hx).1 (hQ x hx).2;show pH (jO C) K (rq (jO C) K (q+1+1)) (uq (jO C) K (rp (jO C) K)) (.ptr (dI c p).c 0) vp vb vp 2 0 H;unfold pH;rw[bz,decide_eq_true (by decide),aG];refine bW.E0 (i:=0) hp.1 h.m (by show 0<2;omega) ?_;have e0:(jO C).1=f84:=rfl;rw[e0];show f84 (.ptr (dI c p).c 0) (ak [75,69,89,83]) H _;refine aoX h (by show 0≤1000000;omega) (by show 0≤1000000;omega) λH1 S1 v1 c1 s1=>?_;rw[aq,az];refine w0 (by decide) (by decide) ?_;generalize hf1:({ (dI c p).set 4 v1 ((dI c p).k 4+1) ((dI c p).l 4++[ak [75,69,89,83],.int 0 ((dI c p).k 4:Int)])with reg:=max (dI c p).reg ((dI c p).k 4+1) }:Fm)=f1 at c1 s1;have k1:f1.k 4=1∧f1.l 4=[ak [75,69,89,83],.int 0 (0:Int)]∧f1.reg=1∧f1.c=c∧f1.p=p∧f1.par=0∧∀i,i≠4→(dI c p).same f1 i:=by
  rw[←hf1];exact⟨rfl,rfl,rfl,rfl,rfl,rfl,λi hi=>(dI c p).fe 4 _ _ _ hi⟩
 obtain⟨a1,a2,a3,a4,a5,a6,a7⟩:=k1;show pH (jO C) K (rq (jO C) K (q+1)) (uq (jO C) K (rp (jO C) K)) (.ptr c 0) vp vb vp 2 1 H1;unfold pH;rw[bz,decide_eq_true (by decide),aG];refine bW.E0 (i:=1) (hp.1.go (lw s1) λ_ g=>g) c1.m (by show 1<2;omega) ?_;rw[e0,←a4];show f84 (.ptr f1.c 0) (ak [65,82,71,86]) H1 _;refine aoX c1 (by omega) (by omega) λH2 S2 v2 c2 s2=>?_;rw[aq,az];refine w0 (by decide) (by decide) ?_;generalize hf2:({ f1.set 4 v2 (f1.k 4+1) (f1.l 4++[ak [65,82,71,86],.int 0 (f1.k 4:Int)])with reg:=max f1.reg (f1.k 4+1) }:Fm)=f2 at c2 s2;have k2:f2.k 4=2∧f2.l 4=rL (LT 0 0)∧f2.reg=2∧f2.c=c∧f2.p=p∧f2.par=0∧∀i,i≠4→f1.same f2 i:=by
  rw[←hf2];refine⟨by show f1.k 4+1=2;rw[a1],?_,by show max f1.reg (f1.k 4+1)=2;rw[a1,a3];rfl,a4,a5,a6,λi hi=>f1.fe 4 _ _ _ hi⟩;show f1.l 4++[ak [65,82,71,86],.int 0 (f1.k 4:Int)]=_;rw[a1,a2];rfl
 obtain⟨b1,b2,b3,b4,b5,b6,b7⟩:=k2;show pH (jO C) K (rq (jO C) K q) (uq (jO C) K (rp (jO C) K)) (.ptr f1.c 0) vp vb vp 2 2 H2;unfold pH;rw[bz,decide_eq_false (by decide),aw];unfold uq;rw[a4,←b4];refine c2.fc (j:=0) rfl ?_;have sl2:=hp.1.go (S':=S2) (Q':=Q) (lw (s1.trans s2)) λ_ g=>g;refine sl2.len ?_;rw[az];simp only[aW,av,Nat.zero_add];refine aS c2.m c2.h.1.op (by omega) (by show 5<8;omega) rfl λH3 m3=>?_;have m3:Mem H3 (S2.set f2.p (.ce (f2.pc.set 5 (.int 0 ((eg).length:Int))) 0)):=m3;have k3:∀x,x≠f2.p→(S2.set f2.p (.ce (f2.pc.set 5 (.int 0 ((eg).length:Int))) 0)).ob x=S2.ob x:=λx hx=>LS.ao _ _ hx;have o3:(S2.set f2.p (.ce (f2.pc.set 5 (.int 0 ((eg).length:Int))) 0)).ob f2.p=.ce (f2.pc.set 5 (.int 0 ((eg).length:Int))) 0:=LS.au _ _ _;have n3:(S2.set f2.p (.ce (f2.pc.set 5 (.int 0 ((eg).length:Int))) 0)).n=S2.n:=rfl;generalize S2.set f2.p (.ce (f2.pc.set 5 (.int 0 ((eg).length:Int))) 0)=S3 at m3 k3 o3 n3;have g2:=c2.h.1;have hF:uN S3 ({ f2 with par:=2 }:Fm) (fG []):=by
  refine g2.upd c2.m (i:=0) (v':=f2.v 0) (n':=f2.k 0) (l':=f2.l 0) (by omega) ?_ ((g2.fs 0 (by omega)).keep c2.m λx hx _=>k3 x λq=>(g2.vc 0 (by omega)).2 (q ▸ hx)) (λx hx=>.inl hx) (λx hx h1 h2 h3=>k3 x h2) ((k3 _ g2.cp).trans g2.oc) o3;rw[f2.set_self 0]
 obtain⟨c3,s3⟩:=c2.upd m3 hF (λx hx=>.inl hx) (by omega) λx hx hno=>k3 x λq=>hno (.inr (.inl q));have s0:=(s1.trans s2).trans s3;have row:∀i,i≠4→(dI c p).same f2 i:=λi hi=>⟨(b7 i hi).1.trans (a7 i hi).1,(b7 i hi).2.1.trans (a7 i hi).2.1,(b7 i hi).2.2.trans (a7 i hi).2.2⟩
 have T:Tp lo S c p (LT 0 0) 2 z 0 [] H3 S3 ({ f2 with par:=2 }:Fm) (λ_=>False):=⟨c3,s0,b4,b5,rfl,b3,(row 0 (by decide)).2.1,(row 0 (by decide)).2.2,⟨b1,b2⟩,.inl ⟨(row 1 (by decide)).2.1,(row 1 (by decide)).2.2⟩,⟨(row 3 (by decide)).2.1,(row 3 (by decide)).2.2⟩,λ_=>(row 2 (by decide)).1,λe=>absurd rfl e,λx hx=>hx.elim⟩
 have e1:(jO C).2.1=C.c85:=rfl;rw[e1,b4];exact hK H3 S3 _ s0 T
theorem axD{N:Nat}{vp vb:AV}{l:List aP}{P:Pl}{Q:Nat→Prop}(hS:Jn N z P l)(hP:P.L 0=LT 0 0∧P.R 0=2∧P.N 0=0∧P.is 0=[])(hpre:∃L',P.L l.length=LT 0 0++L')(hl:l.length≤1000)(hl0:l.length≠0)(his:(P.is l.length).length≤990)
  (hok:∀i∈P.is l.length++[(1,0),(31,0)],oN 1 (P.R l.length) 0 (if P.N l.length=0 then 0 else 1) i) (hz:P.N l.length≠0→0≤z∧z<(P.R l.length:Int)) (h2:2≤P.R l.length) (h:Ch lo H S [dI c p]) (hQ:∀x,Q x→x<S.n∧¬eU [dI c p] x) (hp:iZ S Q vp eg) (hb:lz S (dQ lo) vb l)
  (hK:∀H' S' D,Mem H' S'→bV S S' [dI c p] []→kI S' D (.ptr p 0) ((P.is l.length).length+2+P.N l.length) []→(∀x,D x→lo≤x∧x<S'.n)→K (.ret (.ptr p 0)) H'):(tB (N+7)).xN (.ptr c 0) vp vb H K:=by
 obtain⟨cb,q2,q3⟩:=hb;rw[C8];show Es (jO (tB (N+6))) (.ptr c 0) vp vb H K;refine ao7 (z:=z) h hQ hp λH1 S1 f1 s1 T=>?_;obtain rfl:=T.c;show IM (tB (N+5)).c117 (.ptr f1.c 0) vb H1 _;refine axm (X:=λH3=>∃S3 f3 D,Tp lo S f1.c p (LT 0 0) (P.R l.length) z (P.N l.length) (P.is l.length) H3 S3 f3 D∧f3.k 1=1) T.ch q2.one (λH2 S2 b1 b2 c2 s2 o1 o2 l1 l2 K2 hK2=>?_) (λH3 hX=>?_)
 ·show CK (Gx (tB (N+4))) (.ptr f1.c 0) (.func 118 [] [.ptr b1 0,.ptr b2 0]) H2 K2;have w1:¬eU [f1] b1:=λg=>by have:=T.ch.bX g;omega
  have w2:¬eU [f1] b2:=λg=>by have:=T.ch.bX g;omega
  have e1:b1<S2.n:=c2.m.lt (by rw[o1];simp);have e2:b2<S2.n:=c2.m.lt (by rw[o2];simp);refine aqn (G:=λS3 f3 r3=>r3=[]∧∃H3 D,Tp lo S f1.c p (P.L l.length) (P.R l.length) z (P.N l.length) (P.is l.length) H3 S3 f3 D∧f3.k 1=1) c2 (by rw[T.n4.1];show 2≤900000;omega) (λK3 hK3=>?_) (λH4 S4 S3 f3 r3 v g ec c4 s34 s4=>?_)
  ·show CM (tB (N+3)).c119 (.ptr b1 0) (.ptr b2 0) H2 K3;refine aqo (lo:=lo) (n:=l.length) (c:=f1.c) (vb:=vb) (cl:=cb) (I:=λi H' S'=>TI lo S f1.c p z P S2 f1 i H' S')
    (λi H' S' ⟨f',D,s',b,_⟩=>⟨b.ch.m,(s'.ob b1 e1 w1).trans o1,(s'.ob b2 e2 w2).trans o2,q2.go (h.low b.sp) λ_ g=>g⟩) (λi Ha Sa Hb Sb hI mb xb=>hI.stay mb xb) (λi Ha Sa hin hI K4 hK4=>?_) (λi hin=>?_) (by omega) ⟨f1,λ_=>False,bV.refl,?_,λe=>absurd rfl e⟩ λH3 S3 hI=>?_
   ·have he:=List.getElem?_eq_getElem hin;obtain⟨f',D,s',b,g⟩:=hI;have hr:=(q3 i _ he).go (S':=Sa) (Q':=dQ lo) (h.low b.sp) λ_ g=>g;exact hS he ⟨f',D,s',b,g⟩ hr hK4
   ·have hr:=q3 i _ (List.getElem?_eq_getElem hin);exact⟨hr.len,hr.ones⟩
   ·obtain⟨p1,p2,p3,p4⟩:=hP;rw[p1,p2,p3,p4];exact T.next c2 s2 rfl rfl rfl T.rg ⟨rfl,rfl,rfl⟩ ⟨rfl,rfl,rfl⟩ T.k0 T.l0 T.n4 T.i1
   ·obtain⟨f',D,s',b,g⟩:=hI;obtain⟨L',eL⟩:=hpre;refine hK3 H3 S3 f' [] (rL L') ⟨rfl,H3,D,b,g hl0⟩ b.c ?_ ?_ b.ch s'
    ·rw[b.n4.2,eL,Ys,T.n4.2]
    ·rw[b.n4.1,eL,T.n4.1,List.length_append];omega
  ·obtain⟨rfl,H3,D,b,g⟩:=g;exact hK2 H4 ⟨S4,_,D,b.next c4 s34 rfl rfl rfl b.rg (f3.fe 4 _ _ _ (by decide)) (f3.fe 4 _ _ _ (by decide)) b.k0 b.l0 T.n4 b.i1,g⟩
 ·obtain⟨S3,f3,D,b,g1⟩:=hX;show cR K (.ret (.aE [])) H3 _;rw[aq];have e2:(jO (tB (N+6))).2.2=f86:=rfl;rw[e2];have ec:=b.c;rw[←ec];show f86 (.ptr f3.c 0) ((1:Nat):Int) ((0:Nat):Int) H3 _;have hk0:=b.k0;refine xL (op:=1) (a:=0) b.ch (by omega) λH4 S4 v4 c4 s4=>?_;have b4:=b.next (is':=P.is l.length++[(1,0)]) c4 s4 rfl rfl rfl b.rg (f3.fe 0 _ _ _ (by decide)) (f3.fe 0 _ _ _ (by decide)) (by show f3.k 0+1=_;rw[b.k0,List.length_append];rfl) (by show f3.l 0++bH 1 0=_;rw[b.l0,qK];rfl) b.n4 b.i1;have g4:(f3.set 0 v4 (f3.k 0+1) (f3.l 0++bH 1 0)).k 1=1:=g1;have e4:(f3.set 0 v4 (f3.k 0+1) (f3.l 0++bH 1 0)).c=f3.c:=rfl;generalize f3.set 0 v4 (f3.k 0+1) (f3.l 0++bH 1 0)=f4 at c4 s4 b4 g4 e4;rw[aq,←e4];show f86 (.ptr f4.c 0) ((31:Nat):Int) ((0:Nat):Int) H4 _;have hk4:=b4.k0;rw[List.length_append]at hk4;have hk4:f4.k 0=(P.is l.length).length+1:=hk4;refine xL (op:=31) (a:=0) b4.ch (by omega) λH5 S5 v5 c5 s5=>?_;have b5:=b4.next (is':=P.is l.length++[(1,0)]++[(31,0)]) c5 s5 rfl rfl rfl b4.rg (f4.fe 0 _ _ _ (by decide)) (f4.fe 0 _ _ _ (by decide)) (by show f4.k 0+1=_;rw[b4.k0];simp only[List.length_append];rfl) (by show f4.l 0++bH 31 0=_;rw[b4.l0,qK (P.is l.length++[(1,0)])];rfl) b4.n4 b4.i1;have g5:(f4.set 0 v5 (f4.k 0+1) (f4.l 0++bH 31 0)).k 1=1:=g4;have e5:(f4.set 0 v5 (f4.k 0+1) (f4.l 0++bH 31 0)).c=f4.c:=rfl;generalize f4.set 0 v5 (f4.k 0+1) (f4.l 0++bH 31 0)=f5 at c5 s5 b5 g5 e5;rw[aq,←e5];unfold rp;refine c5.fc (j:=0) rfl ?_;have ea:P.is l.length++[(1,0)]++[(31,0)]=P.is l.length++[(1,0),(31,0)]:=by rw[List.append_assoc];rfl
  obtain⟨D',pt,hD⟩:=b5.fin (λi hi=>by rw[g5];rw[ea]at hi;exact hok i hi) ⟨_,rfl⟩ (by rw[ea,List.length_append];show(P.is l.length).length+2≤1000;omega) hz h2;have el:(P.is l.length++[(1,0)]++[(31,0)]).length=(P.is l.length).length+2:=by rw[ea,List.length_append];rfl
  rw[el]at pt;rw[b5.p];exact hK H5 S5 D' c5.m b5.sp.tl pt hD
end
end
section
variable {H H':AH}{S S':LS}{K:KF}
theorem MQ:∀{is:List (Nat×Nat)}{i:Nat}{x:Nat×Nat},is[i]? = some x→((BJ is).drop (i*3)).take 3=bH x.1 x.2
 |[],i,x,h=>by cases h
 |a::is,0,x,h=>by cases h;rfl
 |a::is,i+1,x,h=>by
  have h':is[i]? = some x:=h;have e:(i+1)*3=i*3+3:=by omega
  rw[e,←MQ h'];rfl
theorem YE:∀{t:List (Bool×Int)}{i:Nat}{x:Bool×Int},t[i]? = some x→((tkF t).drop (i*2)).take 2=[.bool x.1,.int 0 x.2]
 |[],i,x,h=>by cases h
 |a::t,0,x,h=>by cases h;rfl
 |a::t,i+1,x,h=>by
  have h':t[i]? = some x:=h;have e:(i+1)*2=i*2+2:=by omega
  rw[e,←YE h'];rfl
theorem axE{is:List (Nat×Nat)}{i:Nat}{x:Nat×Nat}(h:is[i]? = some x):(BJ is)[i*3+0]? = some (.int 0 (x.1:Int)):=by
 have g:=MQ h;have e:(((BJ is).drop (i*3)).take 3)[0]? = (bH x.1 x.2)[0]?:=by rw[g]
 rw[List.getElem?_take,if_pos (by omega),List.getElem?_drop]at e;exact e
theorem TA{a b:Int}(h0:0≤a)(h:a<b)(hK:K (.ret (.bool true)) H):f43 a b H K:=by
 show IU RP K a b H;unfold IU;have z0:Int.ofNat 0=(0:Int):=rfl;simp only[bz,z0];rw[decide_eq_false (by omega),Bool.not_false,aG,decide_eq_true h];exact hK
section
variable {D:Nat→Prop}{p:Nat}{v0 v1 v2 v3:AV}{k1 k2 par reg:Nat}{l1 l2:List AV}{is:List (Nat×Nat)}{t:List (Bool×Int)}
theorem aAI{i:Nat×Nat}(hM:Mem H S)(b:yJ S D p v0 v1 v2 v3 k1 k2 par reg l1 l2 is t)(hi:oN k1 reg t.length k2 i)(hK:∀H' S',Mem H' S'→Ext S S'→K (.ret (.bool true)) H'):f42 (.ptr p 0) (.agg (bH i.1 i.2)) H K:=by
 obtain⟨op,a⟩:=i;show So xq K (.ptr p 0) (.agg (bH op a)) H;unfold So Sn;refine Gs hM (Gw op a) λH1 S1 m1 x1 o1 n1=>?_;have op1:=x1.get hM b.op;have eR:xq=f43:=rfl;rw[av];refine aj m1 o1 (v:=.int 0 (op:Int)) rfl ?_;rw[az];have fin:K (.ret (.bool true)) H1:=hK H1 S1 m1 x1;have hz:∀n:Nat,(0:Int)≤(n:Int):=λn=>by omega
 have aAJ:a<reg→(ah 1 (.ptr S.n 0) λv=>af v H1 λv=>cI 0 v λz=>aC (.ptr p 0) (ah 6 (.ptr p 0) λv=>af v H1 λv=>cI 0 v λw=>xq z w H1 λo G=>cR K o G λv=>bC v λb=>K (.ret (.bool b)) G)):=λh=>by
  simp only[av,aW,Nat.zero_add];refine aj m1 o1 (v:=.int 0 (a:Int)) rfl ?_;rw[az];refine aj m1 op1 (v:=.int 0 (reg:Int)) rfl ?_;rw[az,eR];refine TA (hz a) (by omega) ?_;rw[aq,aX];exact fin
 have ao8:∀{j n sz:Nat}{l:List AV}{w:AV},a<n→[v0,v1,.ab,v2,v3,.int 0 (par:Int),.int 0 (reg:Int),.int 0 0][j]? = some w→cK S1 sz w n l→(ah 1 (.ptr S.n 0) λv=>af v H1 λv=>cI 0 v λz=>aC (.ptr p 0) (ah j (.ptr p 0) λv=>af v H1 λv=>bR v λv=>cI 0 v λw=>xq z w H1 λo G=>cR K o G λv=>bC v λb=>K (.ret (.bool b)) G)):=λ{j n sz l w} h hw hs=>by
  simp only[av,aW,Nat.zero_add];refine aj m1 o1 (v:=.int 0 (a:Int)) rfl ?_;rw[az];refine aj m1 op1 hw ?_;refine hs.len ?_;rw[az,eR];refine TA (hz a) (by omega) ?_;rw[aq,aX];exact fin
 have aAK:op<32→(ah 0 (.ptr S.n 0) λv=>af v H1 λv=>cI 0 v λz=>xq z (.ofNat 32) H1 λo G=>cR K o G λv=>bC v λb=>K (.ret (.bool b)) G):=λh=>by
  rw[av];refine aj m1 o1 (v:=.int 0 (op:Int)) rfl ?_;rw[az,eR];refine TA (hz op) (by show(op:Int)<32;omega) ?_;rw[aq,aX];exact fin
 simp only[bD];rcases hi with((e|e|e)|⟨e,h⟩|⟨e|e,h⟩|⟨e,h⟩|⟨e,h⟩)<;>(have e:op=_:=e;subst e)<;>(repeat first|rw[aw]|rw[aG]|rw[decide_eq_false (by decide)]|rw[decide_eq_true (by decide)]|unfold Sm Sl|unfold Sj Sh|unfold R7 R5|unfold R4 R3|unfold R1 RZ|unfold RY RX|simp only[bD])
 iterate 3 exact aAK (by decide)
 ·exact ao8 (j:=1) h rfl (b.f1.ext hM x1)
 iterate 2 exact aAJ h
 ·exact ao8 (j:=4) h rfl (b.f3.ext hM x1)
 ·exact ao8 (j:=3) h rfl (b.f2.ext hM x1)
theorem yJ.ext(b:yJ S D p v0 v1 v2 v3 k1 k2 par reg l1 l2 is t)(hM:Mem H S)(x:Ext S S')(hD:∀x,D x→x<S.n):yJ S' D p v0 v1 v2 v3 k1 k2 par reg l1 l2 is t:=b.keep hM (λy hy=>x.ob y (hD y hy)) λ_ g=>g
theorem amn{Sb:AV→AH→KF→Prop}(hM:Mem H S)(hD:∀x,D x→x<S.n)(b:yJ S D p v0 v1 v2 v3 k1 k2 par reg l1 l2 is t)(hK:∀H' S',Mem H' S'→Ext S S'→Ar (cJ Sb) K (.ptr p 0) H'):I0 (cJ Sb) (.ptr p 0) H K:=by
 obtain⟨is',eis⟩:=b.la;have hlen:is.length=is'.length+1:=by rw[eis,List.length_append];rfl
 have hle:=b.le;have hpr:=b.pr;have loop:∀(q i:Nat){H1:AH}{S1:LS},i≤is.length→is.length-i<q→Mem H1 S1→Ext S S1→CT (cJ Sb) K q (.ptr p 0) v0 (is.length:Int) (i:Int) H1:=by
  intro q
  induction q with
  |zero=>intro i _ _ _ h;omega
  |succ q ih=>
   intro i H1 S1 hi hq m1 x1;show IY (cJ Sb) K (CT (cJ Sb) K q) (Ar (cJ Sb) K) (.ptr p 0) v0 (is.length:Int) (i:Int) H1;unfold IY;rw[bz];refine bY (λg=>?_) (λg=>?_)
   ·have hin:i<is.length:=by omega
    have hx:=List.getElem?_eq_getElem hin;have b1:=b.ext hM x1 hD;have e1:=MQ hx;generalize hxx:is[i]=xx at hx e1;have hmem:xx∈is:=hxx ▸ List.getElem_mem hin;refine b1.f0.load m1 hin ?_;rw[e1];refine oM (n:=3) (c:=bH xx.1 xx.2) m1 (λa ha=>?_) rfl rfl (Gw _ _) λH2 S2 m2 x2 o2 n2=>?_
    ·simp only[List.mem_cons,List.not_mem_nil,or_false]at ha;rcases ha with rfl|rfl|rfl<;>rfl
    refine kx m2 o2 (by show 0+3≤3;omega) ?_;have e2:((bH xx.1 xx.2).drop 0).take 3=bH xx.1 xx.2:=rfl;rw[e2];have eR:(cJ Sb).2.1=f42:=rfl;rw[eR];have x12:=x1.trans x2;refine aAI m2 (b.ext hM x12 hD) (b.ok xx hmem) λH3 S3 m3 x3=>?_;rw[aq,aX,Bool.not_true,aw];simp only[eo,fN];refine w0 (by omega) (by omega) ?_;exact ih (i+1) (by omega) (by omega) m3 (x12.trans x3)
   ·exact hK H1 S1 m1 x1
 show Sx (cJ Sb) K (.ptr p 0) H;unfold Sx CU;rw[vd,Bool.not_true,aX,aw];simp only[aW,av,Nat.zero_add];refine aj hM b.op (v:=v0) rfl ?_;refine b.f0.len ?_;rw[az,bD,decide_eq_false (by show ¬((is.length:Nat):Int)=0;omega),aw];refine aj hM b.op (v:=v0) rfl ?_;refine aj hM b.op (v:=v0) rfl ?_;refine b.f0.len ?_;rw[az,wH,fN];refine w0 (by omega) (by omega) ?_;have ei:((is.length:Nat):Int)-1=((is'.length:Nat):Int):=by omega
 rw[ei];have aAL:is[is'.length]? = some (31,0):=by
  rw[eis,List.getElem?_append_right (Nat.le_refl _),Nat.sub_self];rfl
 have hf:=λk=>MM (i:=is'.length) (o:=0) (q:=0) (k:=k) b.f0 hM (by omega) (by omega) (axE aAL);refine hf _ ?_;have e31:aV (((31:Nat):Nat):Int) (Int.ofNat 31)=true:=by rw[bD];exact decide_eq_true rfl
 rw[az];show bI (!(aV (((31:Nat):Nat):Int) (Int.ofNat 31))) _ _;rw[e31,Bool.not_true,aw];refine aj hM b.op (v:=.int 0 (par:Int)) rfl ?_;rw[az];refine aj hM b.op (v:=.int 0 (reg:Int)) rfl ?_;rw[az,bz,decide_eq_false (by omega),aw];unfold IZ Sw;simp only[aW,av,Nat.zero_add];refine aj hM b.op (v:=v0) rfl ?_;refine b.f0.len ?_;rw[az];have cQ:G.NL=1000000:=rfl;exact loop G.NL 0 (Nat.zero_le _) (by rw[cQ];omega) hM (Ext.refl S)
end
end
section
variable {H H':AH}{S S':LS}{K:KF}{D:Nat→Prop}
theorem kI.op{v:AV}{n:Nat}{t:List (Bool×Int)}(h:kI S D v n t):∃p pc v3,v=.ptr p 0∧S.ob p=.ce pc 0∧pc[4]? = some v3∧cK S 2 v3 t.length (tkF t):=by
 cases h with
 |leaf b=>exact⟨_,_,_,rfl,b.op,rfl,b.f3⟩
 |node b _ _=>exact⟨_,_,_,rfl,b.op,rfl,b.f3⟩
theorem kI.tl{v:AV}{n:Nat}{t:List (Bool×Int)}(h:kI S D v n t):t.length≤1:=by
 cases h with
 |leaf b=>exact b.tl
 |node b _ _=>exact b.tl
theorem kI.pos{v:AV}{n:Nat}{t:List (Bool×Int)}(h:kI S D v n t):0<n:=by
 cases h with
 |leaf b=>
  obtain⟨_,e⟩:=b.la;rw[e,List.length_append];exact Nat.succ_pos _
 |node b _ _=>
  obtain⟨_,e⟩:=b.la;rw[e,List.length_append];show 0<_+1+_;omega
theorem axF(hM:Mem H S){v:AV}{n:Nat}{t:List (Bool×Int)}(h:kI S D v n t):∀{q:Nat}{H':AH}{S':LS}{K:KF},n≤q→Mem H' S'→(∀x,D x→S'.ob x=S.ob x)→(∀x,D x→x<S'.n)→(∀SC mn,Mem SC mn→Ext S' mn→K (.ret (.bool true)) SC)→s5 q v H' K:=by
 induction h with
 |@leaf p v0 v1 v2 v3 k1 par reg l1 l2 is t b=>
  intro q H' S' K hq m' he hD hK;obtain⟨q,rfl⟩:∃q',q=q'+1:=⟨q-1,by
   obtain⟨_,e⟩:=b.la;rw[e,List.length_append]at hq;have hq:_+1≤q:=hq;omega⟩
  have b':yJ S' D p v0 v1 v2 v3 k1 0 par reg l1 l2 is t:=b.keep hM he λ_ g=>g;show I0 (cJ (s5 q)) (.ptr p 0) H' K;refine amn m' hD b' λH1 S1 m1 x1=>?_;have b1:=b'.ext m' x1 hD;unfold Ar IX;simp only[aW,av,Nat.zero_add];refine aj m1 b1.op (v:=v2) rfl ?_;refine b1.f2.len ?_;rw[az];have cQ:G.NL=999999+1:=rfl;generalize 999999=N at cQ;rw[cQ];show uB (cJ (s5 q)) K (ry (cJ (s5 q)) K (lU (cJ (s5 q)) K N) G.NL) (xt (cJ (s5 q)) K) (.ptr p 0) v2 ((0:Nat):Int) 0 H1;unfold uB;rw[bz,decide_eq_false (by decide),aw];unfold xt IW;exact hK H1 S1 m1 x1
 |@node p v0 v1 v2 v3 w k1 par reg n l1 is t t' b hw ht ih=>
  intro q H' S' K hq m' he hD hK;obtain⟨q,rfl⟩:∃q',q=q'+1:=⟨q-1,by have:=hw.pos;omega⟩
  have hlen:1≤is.length:=by
   obtain⟨_,e⟩:=b.la;rw[e,List.length_append];exact Nat.le_add_left 1 _
  have b':yJ S' D p v0 v1 v2 v3 k1 1 par reg l1 [w] is t:=b.keep hM he λ_ g=>g;show I0 (cJ (s5 q)) (.ptr p 0) H' K;refine amn m' hD b' λH1 S1 m1 x1=>?_;have b1:=b'.ext m' x1 hD;unfold Ar IX;simp only[aW,av,Nat.zero_add];refine aj m1 b1.op (v:=v2) rfl ?_;refine b1.f2.len ?_;rw[az];have cQ:G.NL=999998+1+1:=rfl;generalize 999998=N at cQ;rw[cQ];show uB (cJ (s5 q)) K (ry (cJ (s5 q)) K (lU (cJ (s5 q)) K (N+1)) G.NL) (xt (cJ (s5 q)) K) (.ptr p 0) v2 ((1:Nat):Int) 0 H1;unfold uB;rw[bz,decide_eq_true (by decide),aG];have at0:=λk=>b1.f2.at_ (i:=0) (q:=0) (k:=k) (by omega);refine at0 _ λbk cs mm hb hc hcs=>?_;refine aj m1 hc (v:=w) (by
   have:=hcs 0 (by omega);exact this) ?_
  have e1:(cJ (s5 q)).1=s5 q:=rfl;rw[e1];refine ih (by omega) m1 (λx hx=>(x1.ob x (hD x hx)).trans (he x hx)) (λx hx=>Nat.lt_of_lt_of_le (hD x hx) x1.n) λH2 S2 m2 x2=>?_;rw[aq,aX,Bool.not_true,aw];have YF:=x1.trans x2;have hw2:kI S2 D w n t':=hw.keep hM λx hx=>(YF.ob x (hD x hx)).trans (he x hx);obtain⟨p',pc,Tn,rfl,o2,e4,f4⟩:=hw2.op;simp only[aW,av,Nat.zero_add];refine aj m2 o2 e4 ?_;refine f4.len ?_;rw[az];have e3:(cJ (s5 q)).2.2=f43:=rfl;have done:∀{H3 S3},Mem H3 S3→Ext S' S3→CR (cJ (s5 q)) K (lU (cJ (s5 q)) K (N+1)) (.ptr p 0) v2 ((1:Nat):Int) 0 H3:=λ{H3 S3} m3 x3=>by
   unfold CR Su;refine w0 (by decide) (by decide) ?_;show uB (cJ (s5 q)) K (ry (cJ (s5 q)) K (lU (cJ (s5 q)) K N) G.NL) (xt (cJ (s5 q)) K) (.ptr p 0) v2 ((1:Nat):Int) 1 H3;unfold uB;rw[bz,decide_eq_false (by decide),aw];unfold xt IW;exact hK H3 S3 m3 x3
  have htl:t'.length≤1:=hw.tl;have loop:∀(r i:Nat){H3:AH}{S3:LS},i≤t'.length→t'.length-i<r→Mem H3 S3→Ext S2 S3→ry (cJ (s5 q)) K (lU (cJ (s5 q)) K (N+1)) r (.ptr p 0) v2 ((1:Nat):Int) 0 Tn (t'.length:Int) (i:Int) H3:=by
   intro r
   induction r with
   |zero=>intro i _ _ _ h;omega
   |succ r ihr=>
    intro i H3 S3 hi hr m3 x3;show IV (cJ (s5 q)) K (CR (cJ (s5 q)) K (lU (cJ (s5 q)) K (N+1))) (CS (cJ (s5 q)) K (lU (cJ (s5 q)) K (N+1)) (ry (cJ (s5 q)) K (lU (cJ (s5 q)) K (N+1)) r)) (.ptr p 0) v2 ((1:Nat):Int) 0 Tn (t'.length:Int) (i:Int) H3;unfold IV;rw[bz];refine bY (λg=>?_) (λg=>?_)
    ·have hin:i<t'.length:=by omega
     have hx:=List.getElem?_eq_getElem hin;have ec:=YE hx;have hmem:=List.getElem_mem hin;generalize t'[i]=xx at hx ec hmem;obtain⟨o,z⟩:=xx;refine(f4.ext m2 x3).load m3 hin ?_;rw[ec];refine oM (n:=2) (c:=[.bool o,.int 0 z]) m3 (λa ha=>?_) rfl rfl (λa ha=>?_) λH4 S4 m4 x4 o4 n4=>?_
     ·simp only[List.mem_cons,List.not_mem_nil,or_false]at ha;rcases ha with rfl|rfl<;>rfl
     ·simp only[List.mem_cons,List.not_mem_nil,or_false]at ha;rcases ha with rfl|rfl<;>rfl
     have x34:=x3.trans x4;have b4:=b'.ext m' (YF.trans x34) hD;obtain⟨z0,zr,zk⟩:=ht _ hmem;have Nb:∀{x:Prop},x=x→CS (cJ (s5 q)) K (lU (cJ (s5 q)) K (N+1)) (ry (cJ (s5 q)) K (lU (cJ (s5 q)) K (N+1)) r) (.ptr p 0) v2 ((1:Nat):Int) 0 Tn (t'.length:Int) (i:Int) H4:=λ_=>by
      unfold CS Sv;simp only[eo,fN];refine w0 (by omega) (by omega) ?_;exact ihr (i+1) (by omega) (by omega) m4 x34
     simp only[aW,av,Nat.zero_add];refine aj m4 o4 (v:=.bool o) rfl ?_;rw[aX];cases o with
     |true=>
      rw[aG];refine aj m4 o4 (v:=.int 0 z) rfl ?_;rw[az];refine aj m4 b4.op (v:=.int 0 (reg:Int)) rfl ?_;rw[az,e3];refine TA z0 (zr rfl) ?_;rw[aq,aX,Bool.not_true,aw];refine aj m4 o4 (v:=.bool true) rfl ?_;rw[aX,Bool.not_true,aw];exact Nb (x:=True) rfl
     |false=>
      rw[aw];refine aj m4 o4 (v:=.bool false) rfl ?_;rw[aX,Bool.not_false,aG];refine aj m4 o4 (v:=.int 0 z) rfl ?_;rw[az];refine aj m4 b4.op (v:=v3) rfl ?_;refine b4.f3.len ?_;rw[az,e3];refine TA z0 (zk rfl) ?_;rw[aq,aX,Bool.not_true,aw];exact Nb (x:=True) rfl
    ·exact done m3 (YF.trans x3)
  have hG:G.NL=1000000:=rfl;exact loop G.NL 0 (Nat.zero_le _) (by rw[hG];omega) m2 (Ext.refl S2)
theorem ao9(hM:Mem H S){v:AV}{n:Nat}{t:List (Bool×Int)}(h:kI S D v n t):∀{q:Nat}{K:KF},n≤q→n≤900000→K (.ret (.int 0 (n:Int))) H→s2 q v H K:=by
 induction h with
 |@leaf p v0 v1 v2 v3 k1 par reg l1 l2 is t b=>
  intro q K hq hn hK;obtain⟨q,rfl⟩:∃q',q=q'+1:=⟨q-1,by
   obtain⟨_,e⟩:=b.la;rw[e,List.length_append]at hq;have hq:_+1≤q:=hq;omega⟩
  show Aq (lT (s2 q)) K (uz (lT (s2 q)) K G.NL) (.ptr p 0) H;unfold Aq;rw[vd,Bool.not_true,aX,aw];simp only[aW,av,Nat.zero_add];refine aj hM b.op (v:=v0) rfl ?_;refine b.f0.len ?_;rw[az];refine aj hM b.op (v:=v2) rfl ?_;refine b.f2.len ?_;rw[az];have cQ:G.NL=999999+1:=rfl;generalize 999999=N at cQ;rw[cQ];show uy (lT (s2 q)) K (uz (lT (s2 q)) K N) (xp (lT (s2 q)) K) (is.length:Int) v2 ((0:Nat):Int) 0 H;unfold uy;rw[bz,decide_eq_false (by decide),aw];unfold xp IT;exact hK
 |@node p v0 v1 v2 v3 w k1 par reg n l1 is t t' b hw ht ih=>
  intro q K hq hn hK;have hlen:1≤is.length:=by
   obtain⟨_,e⟩:=b.la;rw[e,List.length_append];exact Nat.le_add_left 1 _
  obtain⟨q,rfl⟩:∃q',q=q'+1:=⟨q-1,by omega⟩
  show Aq (lT (s2 q)) K (uz (lT (s2 q)) K G.NL) (.ptr p 0) H;unfold Aq;rw[vd,Bool.not_true,aX,aw];simp only[aW,av,Nat.zero_add];refine aj hM b.op (v:=v0) rfl ?_;refine b.f0.len ?_;rw[az];refine aj hM b.op (v:=v2) rfl ?_;refine b.f2.len ?_;rw[az];have cQ:G.NL=999998+1+1:=rfl;generalize 999998=N at cQ;rw[cQ];show uy (lT (s2 q)) K (uz (lT (s2 q)) K (N+1)) (xp (lT (s2 q)) K) (is.length:Int) v2 ((1:Nat):Int) 0 H;unfold uy;rw[bz,decide_eq_true (by decide),aG];have at0:=λk=>b.f2.at_ (i:=0) (q:=0) (k:=k) (by omega);refine at0 _ λbk cs mm hb hc hcs=>?_;refine aj hM hc (v:=w) (by
   have:=hcs 0 (by omega);exact this) ?_
  have e1:lT (s2 q)=s2 q:=rfl;rw[e1];refine ih (by omega) (by omega) ?_;rw[aq,az];simp only[eo];refine w0 (by omega) (by omega) ?_;refine w0 (by decide) (by decide) ?_;show uy (s2 q) K (uz (s2 q) K N) (xp (s2 q) K) ((is.length:Int)+(n:Int)) v2 ((1:Nat):Int) 1 H;unfold uy;rw[bz,decide_eq_false (by decide),aw];unfold xp IT;have e:(is.length:Int)+(n:Int)=((is.length+n:Nat):Int):=by omega
  rw[e];exact hK
end
end Go.Proofs.YtcedghechlgecaaGreatDoor
namespace Go.X
section
variable {m:Nat}
theorem YG:∀(j p:Nat),dW (oO m j p)≤10*j+10
 |0,p=>by
  simp only[oO,aR,dW,aP.sz,iG,aO.sz,xC,qd,List.length_nil];omega
 |j+1,p=>by
  have:=YG j (p+(m+21));simp only[oO,dW,aP.sz,iG,aO.sz,xC,gr.sz,qd,List.length_singleton,List.length_nil];omega
theorem TB:∀(k p:Nat),dW (oP m p k)≤10*k
 |0,_=>Nat.le_refl _
 |k+1,p=>by
  have:=TB k (p+(m+12));simp only[oP,aL,dW,aP.sz,iG,aO.sz,xC,qd,List.length_singleton];omega
theorem axG(k j:Nat):dW (nS k j m)≤10*k+10*j+50:=by
 have h1:=TB (m:=m) k 0;have h2:=YG (m:=m) j (k*(m+12)+(m+21));unfold nS;rw[Gh];simp only[fnS,aR,dW,aP.sz,iG,aO.sz,xC,gr.sz,qd,List.length_singleton,List.length_nil];omega
theorem TC:∀{a b:List aP},nR a→nR b→nR (a++b)
 |[],_,_,h=>h
 |_::_,_,h,g=>⟨h.1,TC h.2 g⟩
theorem aqt(p:Nat):(aR m p).wg:=⟨λh=>by omega,λh=>by omega,λh=>by omega,⟨⟨λ_=>⟨rfl,rfl⟩,trivial,trivial⟩,trivial⟩,trivial⟩
theorem aqu{p q:Nat}{b:List aP}(h:nR b):(aP.mk 1 p [nN (m+1)] [.mk 7 q 0 [] 0 [] [.mk [] b]] []).wg:=⟨λh=>by omega,λ_=>rfl,λh=>by omega,⟨⟨λh=>by omega,trivial,⟨h,trivial⟩⟩,trivial⟩,trivial⟩
theorem YH:∀(j p:Nat),nR (oO m j p)
 |0,p=>⟨aqt p,trivial⟩
 |j+1,p=>⟨aqu (YH j _),trivial⟩
theorem TD:∀(k p:Nat),nR (oP m p k)
 |0,_=>trivial
 |k+1,p=>⟨⟨λh=>by omega,λ_=>rfl,λh=>by omega,⟨⟨λh=>by omega,trivial,trivial⟩,trivial⟩,trivial⟩,TD k _⟩
theorem axH(k j:Nat):nR (nS k j m):=TC (TD k 0) ⟨aqu (YH j _),aqt _,trivial⟩
theorem Jo{s:List Nat}(h:B8 s):∀n,B8 (iD s n)
 |0=>λc hc=>by simp[iD]at hc
 |n+1=>λc hc=>(List.mem_append.1 hc).elim (h c) (Jo h n c)
theorem nB8(m:Nat):B8 (nN m):=λx hx=>by
 rw[List.eq_of_mem_replicate hx]
 decide
theorem pP{l:List Nat}(h:(l.all λc=>decide (c<256))=true):B8 l:=λc hc=>of_decide_eq_true (List.all_eq_true.1 h c hc)
theorem nV{a b:List Nat}(h:B8 a)(g:B8 b):B8 (a++b):=λc hc=>(List.mem_append.1 hc).elim (h c) (g c)
theorem axI(k d:Nat):B8 (Bw k d m):=
 nV (Jo (nV (pP (by decide)) (nV (nB8 _) (pP (by decide)))) k) (nV (Jo (nV (pP (by decide)) (nV (nB8 _) (pP (by decide)))) d) (nV (nV (pP (by decide)) (nV (nB8 _) (pP (by decide)))) (nV (Jo (pP (by decide)) d) (nV (pP (by decide)) (nB8 _)))))
theorem auf(k d:Nat):(Bw k d m).length=k*(m+12)+(d*(m+21)+((m+9)+(d*4+(m+8)))):=by
 have h1:(sL m).length=m+12:=by simp[sL,jh]
 have h2:(sF m).length=m+21:=by simp[sF,jh]
 have h3:(sR m).length=m+9:=by simp[sR,jh]
 have h4:(sZ m).length=m+8:=by simp[sZ,jh]
 have h5:sE.length=4:=rfl;unfold Bw;simp only[List.length_append,sW,h1,h2,h3,h4,h5]
end
end Go.X
namespace Go.Proofs.YtcedghechlgecaaGreatDoor
open Go Go.X Go.Proofs.YtcedghechlgecaaGreatDoor.G
section
variable {H:AH}{S:LS}{K:KF}
def N17:Nat:=400
noncomputable def R17:yE:=(g40,(tB N17).xN)
noncomputable def g17:AV→AH→KF→Prop:=aqc R17
theorem axJ:an Tryz.prog 17 (ai [.a] g17):=atx R17 (ad.cons awU (ad.cons (ayH N17).k41 ad.nil))
theorem Ch.none(hM:Mem H S):Ch S.n H S []:=⟨hM,trivial,List.Pairwise.nil,λx ⟨g,hg,_⟩=>(by cases hg),Nat.le_refl _⟩
theorem aqv{v:AV}{l:List aP}{P:Pl}{z:Int}{N nn:Nat}(eN:N17=N+7)(hck:Jd nn l=none)(hM:Mem H S)(hT:gB gl S)(hg:gl.length≤S.n)(hb:lz S (ltX S) v l)(hw:nR l)(hsz:dW l≤200000)(hn:3*dW l+1≤nn)(hn2:nn≤200000)
  (hS:Jn N z P l) (hP:P.L 0=LT 0 0∧P.R 0=2∧P.N 0=0∧P.is 0=[]) (hpre:∃L',P.L l.length=LT 0 0++L') (hl:l.length≤1000) (hl0:l.length≠0) (his:(P.is l.length).length≤990)
  (hok:∀i∈P.is l.length++[(1,0),(31,0)],oN 1 (P.R l.length) 0 (if P.N l.length=0 then 0 else 1) i) (hz:P.N l.length≠0→0≤z∧z<(P.R l.length:Int)) (h2:2≤P.R l.length)
  (hK:∀H' S' p D,Mem H' S'→Ext S S'→kI S' D (.ptr p 0) ((P.is l.length).length+2+P.N l.length) []→(∀x,D x→x<S'.n)→K (.ret (.aE [.ptr p 0,.int 0 0,.int 0 0])) H'):g17 v H K:=by
 show As R17 K v H;unfold As;have ra:R17.1=g40:=rfl;have rb:R17.2=(tB N17).xN:=rfl;rw[ra,rb];refine ck8 (n:=nn) hM hT hg hb hw hsz hn hn2 λH1 S1 m1 x1=>?_;rw[hck];simp only[aq,fF,fy,fM];have e0:eC none=0:=rfl;have e1:eA none=0:=rfl;rw[e0,e1];unfold cC;simp only[az];have eq0:aV (((0:Nat):Int)) (Int.ofNat 0)=true:=by rw[bD];exact decide_eq_true rfl
 show bI (!(aV (((0:Nat):Int)) (Int.ofNat 0))) _ _;rw[eq0,Bool.not_true,aw];refine bF m1 (λa ha=>?_) λH2 m2=>?_
 ·simp only[List.mem_cons,List.not_mem_nil,or_false]at ha;rcases ha with rfl|rfl|rfl|rfl|rfl|rfl|rfl|rfl<;>rfl
 refine gU rfl ?_;refine bF m2 (λa ha=>?_) λH3 m3=>?_
 ·simp only[List.mem_cons,List.not_mem_nil,or_false]at ha;rcases ha with rfl|rfl|rfl|rfl|rfl|rfl<;>rfl
 have m3:Mem H3 ((S1.push (.ce (dI (S1.n+1) S1.n).pc 0)).push (.ce ((dI (S1.n+1) S1.n).cc (fG [])) 0)):=m3;have c3:=(Ch.none m1).new m3;have k3:∀x,x<S1.n→((S1.push (.ce (dI (S1.n+1) S1.n).pc 0)).push (.ce ((dI (S1.n+1) S1.n).cc (fG [])) 0)).ob x=S1.ob x:=λx hx=>(LS.bq _ _ (Nat.lt_succ_of_lt hx)).trans (LS.bq _ _ hx);have n3:((S1.push (.ce (dI (S1.n+1) S1.n).pc 0)).push (.ce ((dI (S1.n+1) S1.n).cc (fG [])) 0)).n=S1.n+2:=rfl;generalize (S1.push (.ce (dI (S1.n+1) S1.n).pc 0)).push (.ce ((dI (S1.n+1) S1.n).cc (fG [])) 0)=S3 at m3 c3 k3 n3;refine cZ m3 rfl (λa ha=>?_) λH4 m4=>?_
 ·simp only[List.mem_cons,List.not_mem_nil,or_false]at ha;rcases ha with rfl|rfl<;>rfl
 have m4:Mem H4 (S3.push (.ce (eg.map ak) 0)):=m4;have x34:Ext S3 (S3.push (.ce (eg.map ak) 0)):=Ext.push _ _;have o4:(S3.push (.ce (eg.map ak) 0)).ob S3.n=.ce (eg.map ak) 0:=LS.al _ _;have n4:(S3.push (.ce (eg.map ak) 0)).n=S3.n+1:=rfl;generalize S3.push (.ce (eg.map ak) 0)=S4 at m4 x34 o4 n4;have c4:Ch S1.n H4 S4 [dI (S1.n+1) S1.n]:=c3.keep m4 x34.n λx hx=>x34.ob x (c3.bX hx);have x14:Ext S1 S4:=⟨by omega,λx hx=>(x34.ob x (by omega)).trans (k3 x hx)⟩
 have x04:=x1.trans x14;have ow:∀x,eU [dI (S1.n+1) S1.n] x→x=S1.n+1∨x=S1.n:=λx ⟨g,hg,hx⟩=>by
  rw[List.mem_singleton]at hg;subst hg;rcases hx with w|w|⟨i,_,w⟩
  ·exact .inl w
  ·exact .inr w
  ·exact w.elim
 rw[eN];have hpN:iZ S4 (λx=>x=S3.n) (.slice S3.n 0 2 2 1 true) eg:=⟨bW.names (l:=eg) rfl o4,λt ht=>by
  simp only[eg,List.mem_cons,List.not_mem_nil,or_false]at ht;rcases ht with rfl|rfl<;>(intro x hx;revert x;decide)⟩
 refine axD (Q:=λx=>x=S3.n) hS hP hpre hl hl0 his hok hz h2 c4 (λx hx=>⟨by omega,λq=>by have:=ow x q;omega⟩) hpN (hb.go (λx hx=>x04.ob x hx) λx hx=>by
  have hx:x<S.n:=hx;have:=x1.n;show x<S1.n;omega) λH5 S5 D m5 s5 pt hD=>?_
 rw[aq];refine hK H5 S5 S1.n D m5 ?_ pt λx hx=>(hD x hx).2;have h5:=s5.n;have hx1:=x1.n;refine⟨by omega,λx hx=>(s5.ob x (by omega) λq=>by have:=ow x q;omega).trans (x04.ob x hx)⟩
end
section
variable {H:AH}{S:LS}{K:KF}
theorem axK:(AV.str 6 35649862463340)=ak [108,111,99,97,108,32]:=mw (by decide) (by decide)
theorem aAM:(AV.str 5 138263149856)=ak [32,61,32,49,32]:=mw (by decide) (by decide)
theorem aAN:(AV.str 14 652297974888299277214257271291168)=ak [32,61,32,102,117,110,99,116,105,111,110,40,41,32]:=mw (by decide) (by decide)
theorem axL:(AV.str 7 9128637130630514)=ak [114,101,116,117,114,110,32]:=mw (by decide) (by decide)
theorem aAO:(AV.str 4 543452773)=ak [101,110,100,32]:=mw (by decide) (by decide)
theorem cN:(AV.str 1 110)=ak [110]:=mw (by decide) (by decide)
theorem cSp:(AV.str 1 32)=ak [32]:=mw (by decide) (by decide)
theorem aug(m:Nat):nN m++[110]=nN (m+1):=(List.replicate_succ' (n:=m) (a:=110)).symm
theorem axM{k d m b1 b2:Nat}(hk:k≤60)(hd:d≤20)(hm:m≤31)(hM:Mem H S)(h1:S.ob b1=.ce [.int 0 (k:Int)] 0)(h2:S.ob b2=.ce [.int 0 (d:Int)] 0)(hK:K (.ret (ak (Bw k d m))) H):f20 ((m:Int)+1) (.ptr b1 0) (.ptr b2 0) H K:=by
 have z0:Int.ofNat 0=(0:Int):=rfl;have s1:(sL m).length=m+12:=by simp[sL,jh]
 have s2:(sF m).length=m+21:=by simp[sF,jh]
 have s3:(sR m).length=m+9:=by simp[sR,jh]
 have s5:sE.length=4:=rfl;obtain⟨P1,hP1⟩:∃P,P=iD (sL m) k:=⟨_,rfl⟩
 obtain⟨P2,hP2⟩:∃P,P=P1++iD (sF m) d++sR m:=⟨_,rfl⟩
 have km:k*(m+12)≤60*43:=Nat.mul_le_mul hk (by omega);have dm:d*(m+21)≤20*52:=Nat.mul_le_mul hd (by omega);have l1:P1.length≤60*43:=by rw[hP1,sW,s1];exact km
 have l2:P2.length≤60*43+20*52+40:=by
  rw[hP2,List.length_append,List.length_append,sW,s2,s3];omega
 have lp8:∀(q i:Nat),i≤d→d-i<q→zX gj K q (.ptr b2 0) (ak (nN (m+1))) (ak (P2++iD sE i)) (i:Int) H:=by
  intro q
  induction q with
  |zero=>intro i _ h;omega
  |succ q ih=>
   intro i hi hq;show It gj K (zX gj K q) (Is gj K) (.ptr b2 0) (ak (nN (m+1))) (ak (P2++iD sE i)) (i:Int) H;have le:(P2++iD sE i).length=P2.length+i*4:=by rw[List.length_append,sW,s5]
   unfold It;refine aj hM h2 (v:=.int 0 (d:Int)) rfl ?_;rw[az,bz];refine bY (λg=>?_) (λg=>?_)
   ·rw[aAO];refine lI (by rw[le];show _+4≤_;omega) ?_;rw[eo,fN];refine w0 (by omega) (by omega) ?_;have e:P2++iD sE i++[101,110,100,32]=P2++iD sE (i+1):=by rw[Bv,List.append_assoc];rfl
    rw[e];exact ih (i+1) (by omega) (by omega)
   ·obtain rfl:i=d:=by omega
    unfold Is Ra;rw[axL];refine lI (by rw[le];show _+7≤_;omega) ?_;refine lI (by rw[List.length_append,le,jh];show _+7+_≤_;omega) ?_;have e:P2++iD sE i++[114,101,116,117,114,110,32]++nN (m+1)=Bw k i m:=by
     rw[hP2,hP1];unfold Bw sZ;simp only[List.append_assoc]
    rw[e];exact hK
 have lp6:∀(q i:Nat),i≤d→d-i<q→zY gj K q (.ptr b2 0) (ak (nN (m+1))) (ak (P1++iD (sF m) i)) (i:Int) H:=by
  intro q
  induction q with
  |zero=>intro i _ h;omega
  |succ q ih=>
   intro i hi hq;show Iv gj K (zY gj K q) (Iu gj K (zX gj K G.NL)) (.ptr b2 0) (ak (nN (m+1))) (ak (P1++iD (sF m) i)) (i:Int) H;have im:i*(m+21)≤20*52:=Nat.mul_le_mul (by omega) (by omega);have le:(P1++iD (sF m) i).length=P1.length+i*(m+21):=by rw[List.length_append,sW,s2]
   unfold Iv;refine aj hM h2 (v:=.int 0 (d:Int)) rfl ?_;rw[az,bz];refine bY (λg=>?_) (λg=>?_)
   ·rw[axK];refine lI (by rw[le];show _+6≤_;omega) ?_;refine lI (by rw[List.length_append,le,jh];show _+6+_≤_;omega) ?_;rw[aAN];refine lI (by rw[List.length_append,List.length_append,le,jh];show _+6+_+14≤_;omega) ?_;rw[eo,fN];refine w0 (by omega) (by omega) ?_;have e:P1++iD (sF m) i++[108,111,99,97,108,32]++nN (m+1)++[32,61,32,102,117,110,99,116,105,111,110,40,41,32]=P1++iD (sF m) (i+1):=by
     rw[Bv];unfold sF;simp only[List.append_assoc]
    rw[e];exact ih (i+1) (by omega) (by omega)
   ·obtain rfl:i=d:=by omega
    unfold Iu;rw[axL];refine lI (by rw[le];show _+7≤_;omega) ?_;refine lI (by rw[List.length_append,le,jh];show _+7+_≤_;omega) ?_;rw[cSp];refine lI (by rw[List.length_append,List.length_append,le,jh];show _+7+_+1≤_;omega) ?_;have e:P1++iD (sF m) i++[114,101,116,117,114,110,32]++nN (m+1)++[32]=P2++iD sE 0:=by
     rw[hP2];unfold sR;simp only[List.append_assoc];show _=_++(_++(_++(_++(_++[]))));rw[List.append_nil]
    rw[e];have cQ:G.NL=1000000:=rfl;exact lp8 G.NL 0 (Nat.zero_le _) (by rw[cQ];omega)
 have lp5:∀(q i:Nat),i≤k→k-i<q→zZ gj K q (.ptr b1 0) (.ptr b2 0) (ak (nN (m+1))) (ak (iD (sL m) i)) (i:Int) H:=by
  intro q
  induction q with
  |zero=>intro i _ h;omega
  |succ q ih=>
   intro i hi hq;show Ix gj K (zZ gj K q) (Iw gj K (zY gj K G.NL)) (.ptr b1 0) (.ptr b2 0) (ak (nN (m+1))) (ak (iD (sL m) i)) (i:Int) H;have im:i*(m+12)≤60*43:=Nat.mul_le_mul (by omega) (by omega);have le:(iD (sL m) i).length=i*(m+12):=by rw[sW,s1]
   unfold Ix;refine aj hM h1 (v:=.int 0 (k:Int)) rfl ?_;rw[az,bz];refine bY (λg=>?_) (λg=>?_)
   ·rw[axK];refine lI (by rw[le];show _+6≤_;omega) ?_;refine lI (by rw[List.length_append,le,jh];show _+6+_≤_;omega) ?_;rw[aAM];refine lI (by rw[List.length_append,List.length_append,le,jh];show _+6+_+5≤_;omega) ?_;rw[eo,fN];refine w0 (by omega) (by omega) ?_;have e:iD (sL m) i++[108,111,99,97,108,32]++nN (m+1)++[32,61,32,49,32]=iD (sL m) (i+1):=by
     rw[Bv];unfold sL;simp only[List.append_assoc]
    rw[e];exact ih (i+1) (by omega) (by omega)
   ·obtain rfl:i=k:=by omega
    unfold Iw;have e:iD (sL m) i=P1++iD (sF m) 0:=by rw[hP1];exact(List.append_nil _).symm
    rw[e];have cQ:G.NL=1000000:=rfl;exact lp6 G.NL 0 (Nat.zero_le _) (by rw[cQ];omega)
 have lp2:∀(q i:Nat),i≤m+1→m+1-i<q→Aa gj K q ((m:Int)+1) (.ptr b1 0) (.ptr b2 0) (ak (nN i)) (i:Int) H:=by
  intro q
  induction q with
  |zero=>intro i _ h;omega
  |succ q ih=>
   intro i hi hq;show Iz gj K (Aa gj K q) (Iy gj K (zZ gj K G.NL)) ((m:Int)+1) (.ptr b1 0) (.ptr b2 0) (ak (nN i)) (i:Int) H;unfold Iz;rw[bz];refine bY (λg=>?_) (λg=>?_)
   ·rw[cN];refine lI (by rw[jh];show _+1≤_;omega) ?_;rw[eo,fN];refine w0 (by omega) (by omega) ?_;rw[aug];exact ih (i+1) (by omega) (by omega)
   ·obtain rfl:i=m+1:=by omega
    unfold Iy;have cQ:G.NL=1000000:=rfl;exact lp5 G.NL 0 (Nat.zero_le _) (by rw[cQ];omega)
 show IA gj K (Aa gj K G.NL) ((m:Int)+1) (.ptr b1 0) (.ptr b2 0) H;unfold IA;have cQ:G.NL=1000000:=rfl;exact lp2 G.NL 0 (Nat.zero_le _) (by rw[cQ];omega)
end
end Go.Proofs.YtcedghechlgecaaGreatDoor
namespace Go.X
def tx1:List Nat:=[114,101,116,117,114,110,32,49]
def tx2:List Nat:=[114,101,116,117,114,110,32,120]
def tk1:List Tok:=[⟨1,[114,101,116,117,114,110],0,0⟩,⟨3,[],1,7⟩,⟨0,[],0,8⟩]
def tk2:List Tok:=[⟨1,[114,101,116,117,114,110],0,0⟩,⟨2,[120],0,7⟩,⟨0,[],0,8⟩]
theorem aAP:cA tx1 0 (.inl tk1):=by
 unfold tx1 tk1;refine cA.tok _ _ _ _ _ _ _ _ (by decide) (by decide) (jA.word _ _ (by decide) (by decide) (by decide)) ?_;refine cA.blank 32 _ _ _ (by decide) ?_;refine cA.tok _ _ _ _ _ _ _ _ (by decide) (by decide) (jA.num _ _ _ (by decide) (by decide)) ?_;exact cA.nil _
theorem aAQ:cA tx2 0 (.inl tk2):=by
 unfold tx2 tk2;refine cA.tok _ _ _ _ _ _ _ _ (by decide) (by decide) (jA.word _ _ (by decide) (by decide) (by decide)) ?_;refine cA.blank 32 _ _ _ (by decide) ?_;refine cA.tok _ _ _ _ _ _ _ _ (by decide) (by decide) (jA.name _ _ (by decide) (by decide) (by decide)) ?_;exact cA.nil _
def as1:List aP:=[.mk 10 0 [] [.mk 4 7 1 [] 0 [] []] []]
def as2:List aP:=[.mk 10 0 [] [.mk 6 7 0 [120] 0 [] []] []]
theorem sc1:Bj (.inl tk1)=.inl as1:=by kernel_rfl
theorem sc2:Bj (.inl tk2)=.inl as2:=by kernel_rfl
theorem ck1:Jd 40 as1=none:=by kernel_rfl
theorem ck2:Jd 40 as2=some (14,7):=by kernel_rfl
end Go.X
namespace Go.Proofs.YtcedghechlgecaaGreatDoor
open Go Go.X Go.Proofs.YtcedghechlgecaaGreatDoor.G
section
variable {H:AH}{S:LS}{K:KF}
noncomputable def R14:yF:=(g8,g17)
noncomputable def g14:AV→AH→KF→Prop:=aqe R14
theorem amo:an Tryz.prog 14 (ai [.a] g14):=aty R14 (ad.cons ayC (ad.cons axJ ad.nil))
theorem MS(h:gB Lx.pN S):gB gl S:=λb z hb=>by
 match b,hb with
 |0,hb=>exact h 0 z hb
 |1,hb=>cases hb
 |2,hb=>cases hb
 |3,hb=>cases hb
 |4,hb=>cases hb
 |5,hb=>cases hb
 |6,hb=>cases hb
 |7,hb=>cases hb
 |8,hb=>cases hb
 |b+9,hb=>cases hb
theorem afG{s:List Nat}{ts:List Tok}{l:List aP}{nn:Nat}(h8:B8 s)(hs:s.length≤5000)(hr:cA s 0 (.inl ts))(hsc:Bj (.inl ts)=.inl l)(hM:Mem H S)(hT:gB Lx.pN S)
  (hC:∀H1 S1 v1,Mem H1 S1→Ext S S1→lz S1 (ltX S1) v1 l→∀K':KF,(∀H2 v c a,K (.ret (.aE [v,.int 0 c,.int 0 a])) H2→K' (.ret (.aE [v,.int 0 c,.int 0 a])) H2)→g17 v1 H1 K'):g14 (ak s) H K:=by
 show I3 R14 K (ak s) H;unfold I3;have ra:R14.1=g8:=rfl;have rb:R14.2=g17:=rfl;rw[ra,rb];refine aAs h8 hs hr hM hT ?_;rw[hsc];intro H1 S1 v1 m1 x1 rv1;simp only[aq,fF,fy,fM,az];have eq0:aV (0:Int) (Int.ofNat 0)=true:=by rw[bD];exact decide_eq_true rfl
 rw[eq0,Bool.not_true,aw];have B1:lz S1 (ltX S1) v1 l:=rv1.go (λx hx=>rfl) λx hx=>hx.2;refine hC H1 S1 v1 m1 x1 B1 _ λH2 v c a hk=>?_;simp only[aq,fF,fy,fM,az];exact hk
theorem YI{k j m:Nat}(hk1:1≤k)(hk:k≤60)(hj:j≤19)(hm:m≤31)(hM:Mem H S)(hT:gB Lx.pN S)(hg:gl.length≤S.n)
  (hK:∀H' S' p D,Mem H' S'→Ext S S'→kI S' D (.ptr p 0) (4*k+10+6*(j+1)) []→(∀x,D x→x<S'.n)→K (.ret (.aE [.ptr p 0,.int 0 0,.int 0 0])) H'):g14 (ak (Bw k (j+1) m)) H K:=by
 have km:k*(m+12)≤60*43:=Nat.mul_le_mul hk (by omega);have dm:(j+1)*(m+21)≤20*52:=Nat.mul_le_mul (by omega) (by omega);refine afG (nn:=0) (axI k (j+1)) (by rw[auf];omega) (amg hm k (j+1)) (aua hm hj) hM hT λH1 S1 v1 m1 x1 B1 K' hK'=>?_;have hsz:=axG (m:=m) k j;obtain⟨c1,c2,c3,c4⟩:=aqs k j m;obtain⟨a1,a2,a3,a4⟩:=Oz (k:=k) (j:=j) (m:=m) (Nat.zero_le k);have hl:=Tz k j m;have hx:=x1.n;have isl:=aue k;refine aqv (P:=yK k j m) (z:=((k+1:Nat):Int)) (N:=(400-7-7*(j+1))+7*(j+1)) (nn:=8000+4) (by show 400=_;omega) (axr hk1 hk) m1 (MS (hT.ext hM x1)) (by omega) B1 (axH k j) (by omega) (by omega) (by omega) (amm hk1 hk (by omega)) ⟨a1,a2,a3,a4⟩ ?_ (by omega) (by omega) ?_ ?_ ?_ ?_ λH2 S2 p D m2 x2 pt hD=>hK' H2 _ _ _ ?_
 ·rw[hl,c1];have:∀i,∃L',LT m i=LT 0 0++L':=λi=>by
   induction i with
   |zero=>exact⟨[],rfl⟩
   |succ i ih=>
    obtain⟨L',e⟩:=ih;exact⟨L'++[(nN (m+1),2+i)],by
     have hs:LT m (i+1)=LT m i++[(nN (m+1),2+i)]:=rfl;rw[hs,e,List.append_assoc]⟩
  exact this (k+1)
 ·rw[hl,c4];omega
 ·rw[hl,c2,c3,c4,if_neg (by omega)];exact axz (by omega) (by omega)
 ·rw[hl,c2];intro _;omega
 ·rw[hl,c2];omega
 ·rw[hl,c3,c4,isl]at pt;have e:4*k+8+2+6*(j+1)=4*k+10+6*(j+1):=by omega
  rw[e]at pt;exact hK H2 S2 p D m2 (x1.trans x2) pt hD
def pl1:Pl:=⟨λ_=>LT 0 0,λ_=>2,λ_=>0,λi=>if i=0 then [] else [(0,0),(0,0),(4,0),(31,0)]⟩
theorem apa{n:Nat}:Jn n 0 pl1 as1:=by
 intro lo S0 S2 c p i f1 H S K cs e he h hR hK;have hi:i=0:=by
  have:=(List.getElem?_eq_some_iff.1 he).1;have:i<1:=this;omega
 subst hi;cases he;obtain⟨f',D,s',h,hn⟩:=h;have h:Tp lo S0 c p (LT 0 0) 2 0 0 [] H S f' D:=h;have h1:=hR.ones;rw[C8,←h.c];show pI (nc (tB (n+2))) (.ptr f'.c 0) (.agg cs) H K;cases hR with
 |mk kind at_ names l bs vn vl vb cl bv bc g1 g2 g3 g4 g5 g6=>
 have ge:=g3 0 _ rfl;have gl:=bW.one1 g2;generalize cl 0=c0 at ge gl;have hc:=ge.len;have hc1:=ge.ones;have hk0:=h.k0;refine afA (f:=f') (r:=[]) (cl:=λ_=>c0) (G:=λS1 f1 S2 f2 r2=>r2=[]∧∃H2,Tp lo S0 c p (LT 0 0) 2 0 0 [(0,0),(0,0),(4,0)] H2 S2 f2 D∧f2.k 1=1) h.ch h1 gl (by rw[hk0];exact Nat.zero_le _) (λH1 S1 f1 x1 C9 c1 s1 K' hK'=>?_) (λH3 S3 S1 f1 S2 f2 r2 v0 x1 g s23 c3 s3=>?_)
 ·show rv (tB (n+1)).c148 (.ptr f1.c 0) vl H1 K';refine E4 (Q:=λH2=>∃S2 f2,Tp lo S0 c p (LT 0 0) 2 0 0 [(0,0),(0,0),(4,0)] H2 S2 f2 D∧f2.k 1=1∧bV S1 S2 [f1] [f2]) c1 (gl.go (h.ch.low s1) λ_ g=>g) hc hc1 (λH' S' c' s' K2 hK2=>?_) (λH2 ⟨S2,f2,b,b1,s2⟩=>hK' H2 S2 f2 [] ⟨rfl,H2,b,b1⟩ (b.c.trans h.c.symm) (by rw[b.k0];show 3≤900000;omega) b.ch s2);show mJ (lX (tB n)) (.ptr f1.c 0) (.agg c0) H' K2;have a0:=x1.k0;have a1:=x1.l0;cases ge with
  |mk kind at2 n2 s2 op l2 f2 vl2 vf2 pL Tx e1 e2 e3 e4 e5=>
  have i1:=x1.s 1 (by decide);refine axh c' hc1 rfl rfl (by rw[a0,hk0];show 0+1≤999999;omega) (by rw[i1.2.1,i1.2.2];exact h.i1) λH2 S2 f2 x2 Da k1 l1 c2 s2=>hK2 H2 ⟨S2,f2,?_,k1,s'.trans s2⟩;have x:=(x1.weak (Q:=λi=>i≠0∧i≠1) λi hi=>hi.1).trans x2;have y2:=x.s 2 (by decide);have y3:=x.s 3 (by decide);have y4:=x.s 4 (by decide);exact h.next c2 ((s1.trans s').trans s2) x.c x.p x.par (by rw[Da,C9];exact h.rg) y2 y3 (by rw[x.k0,h.k0];rfl) (by rw[x.l0,h.l0];rfl) ⟨y4.2.1.trans h.n4.1,y4.2.2.trans h.n4.2⟩ (.inr ⟨k1,l1⟩)
 ·obtain⟨rfl,H2,b,b1⟩:=g;refine hK H3 S3 ⟨_,D,s'.trans s3,b.next c3 s23 rfl rfl rfl b.rg (f2.fe 0 _ _ _ (by decide)) (f2.fe 0 _ _ _ (by decide)) ?_ ?_ b.n4 b.i1,λ_=>b1⟩
  ·show f2.k 0+1=4;rw[b.k0];rfl
  ·show f2.l 0++bH 31 0=BJ [(0,0),(0,0),(4,0),(31,0)];rw[b.l0];rfl
noncomputable def R13:yG:=(g14,f16,f18)
noncomputable def g13:AH→KF→Prop:=aqg R13
theorem axN:an Tryz.prog 13 (ai [] g13):=atz R13 (ad.cons amo (ad.cons alh (ad.cons alW ad.nil)))
theorem ayM(hM:Mem H S)(hT:gB Lx.pN S)(hg:gl.length≤S.n)(hK:∀H' S',Mem H' S'→Ext S S'→K (.ret (.bool true)) H'):g13 H K:=by
 show I4 R13 K H;unfold I4;have ra:R13.1=g14:=rfl;have rb:R13.2.1=f16:=rfl;have rc:R13.2.2=f18:=rfl;rw[ra,rb,rc];have t1:(AV.str 8 3539950744989099378)=ak tx1:=mw (by decide) (by decide);have t2:(AV.str 8 8656039921681982834)=ak tx2:=mw (by decide) (by decide);rw[t1,t2];have z0:Int.ofNat 0=(0:Int):=rfl;have cQ:G.NL=1000000:=rfl;refine afG (nn:=0) (pP (by decide)) (by decide) aAP sc1 hM hT λH1 S1 v1 m1 x1 B1 K' hK'=>?_;have hx1:=x1.n;refine aqv (P:=pl1) (z:=0) (N:=393) (nn:=40) rfl ck1 m1 (MS (hT.ext hM x1)) (by omega) B1 ⟨⟨λh=>by omega,λh=>by omega,λh=>by omega,⟨⟨λh=>by omega,trivial,trivial⟩,trivial⟩,trivial⟩,trivial⟩ (by decide) (by decide) (by decide) apa ⟨rfl,rfl,rfl,rfl⟩ ⟨[],rfl⟩ (by decide) (by decide) (by decide) (λi hi=>?_) (λe=>absurd rfl e) (by decide) λH2 S2 p D m2 x2 pt hD=>hK' H2 _ _ _ ?_
 ·have hi:i∈[(0,0),(0,0),(4,0),(31,0),(1,0),(31,0)]:=hi;simp only[List.mem_cons,List.not_mem_nil,or_false]at hi;rcases hi with rfl|rfl|rfl|rfl|rfl|rfl
  ·exact .inl (.inl rfl)
  ·exact .inl (.inl rfl)
  ·exact .inr (.inl ⟨rfl,Nat.zero_lt_one⟩)
  ·exact .inl (.inr (.inr rfl))
  ·exact .inl (.inr (.inl rfl))
  ·exact .inl (.inr (.inr rfl))
 have YF:=x1.trans x2;have pt:kI S2 D (.ptr p 0) 6 []:=pt;simp only[aq,fF,fy,fM,az];refine afG (nn:=0) (pP (by decide)) (by decide) aAQ sc2 m2 (hT.ext hM YF) λH3 S3 v3 m3 x3 B3 K3 hK3=>?_;have x03:=YF.trans x3;have hx3:=x03.n;show As R17 K3 v3 H3;unfold As;have r1:R17.1=g40:=rfl;rw[r1];refine ck8 (n:=40) m3 (MS (hT.ext hM x03)) (by omega) B3 ⟨⟨λh=>by omega,λh=>by omega,λh=>by omega,⟨⟨λ_=>⟨rfl,rfl⟩,trivial,trivial⟩,trivial⟩,trivial⟩,trivial⟩ (by decide) (by decide) (by decide) λH4 S4 m4 x4=>?_;rw[ck2];have e1:eC (some (14,7))=14:=rfl;have e2:eA (some (14,7))=7:=rfl;rw[e1,e2];unfold cC;simp only[aq,fF,fy,fM,az];have q14:aV (((14:Nat):Int)) (Int.ofNat 0)=false:=by rw[bD];exact decide_eq_false (by decide)
 show bI (!(aV (((14:Nat):Int)) (Int.ofNat 0))) _ _;rw[q14,Bool.not_false,aG];refine hK3 H4 _ _ _ ?_;simp only[aq,fF,fy,fM,az];have x04:=x03.trans x4;have x24:=x3.trans x4;have q0:aV (0:Int) (Int.ofNat 0)=true:=by rw[bD];exact decide_eq_true rfl
 rw[q0,aG];rw[vd,aX];show bI true _ _;rw[aG];have pt4:kI S4 D (.ptr p 0) 6 []:=pt.keep m2 λx hx=>x24.ob x (hD x hx);have hD4:∀x,D x→x<S4.n:=λx hx=>Nat.lt_of_lt_of_le (hD x hx) x24.n;show s5 G.NL (.ptr p 0) H4 _;refine axF m4 pt4 (by rw[cQ];omega) m4 (λ_ _=>rfl) hD4 λH5 S5 m5 x5=>?_;rw[aq,aX,aG,U4,aX,aG];have q7:aV (((14:Nat):Int)) (Int.ofNat 14)=true:=by rw[bD];exact decide_eq_true rfl
 have q8:aV (((7:Nat):Int)) (Int.ofNat 7)=true:=by rw[bD];exact decide_eq_true rfl
 rw[q7,aG,q8,aG];have hN2:G.NL=999999+1:=rfl;have ckn:∀{K2:KF},K2 (.ret (.bool false)) H5→f18 .eH H5 K2:=λ{K2} h=>by
  show s5 G.NL .eH H5 K2;rw[hN2];generalize 999999=q;show CU (cJ (s5 q)) K2 (IZ (cJ (s5 q)) K2) .eH H5;unfold CU;rw[U4,aX,aG];exact h
 refine ckn ?_;rw[aq,aX,Bool.not_false,aG];have pt5:kI S5 D (.ptr p 0) 6 []:=pt4.keep m4 λx hx=>x5.ob x (hD4 x hx);show s2 G.NL (.ptr p 0) H5 _;refine ao9 m5 pt5 (by rw[cQ];omega) (by omega) ?_;rw[aq,az];have q6:bO (Int.ofNat 0) (((6:Nat):Int))=true:=by rw[bz];exact decide_eq_true (by decide)
 rw[q6];exact hK H5 S5 m5 (x04.trans x5)
end
end Go.Proofs.YtcedghechlgecaaGreatDoor
namespace Go.X
theorem OA{n:Nat}(hn:0<n)(z:Int):∃r:Nat,r<n∧Int.tmod (z%18446744073709551616) (Int.ofNat n)=(r:Int):=by
 obtain⟨u,hu⟩:=Int.eq_ofNat_of_zero_le (Int.emod_nonneg z (show(18446744073709551616:Int)≠0 by omega));rw[hu];exact⟨u%n,Nat.mod_lt u hn,rfl⟩
theorem aqw(q:AV→Prop)(h:q (.bool true)):OI (.bool true) (.bool true) q:=h
end Go.X
namespace Go.Proofs.YtcedghechlgecaaGreatDoor
open Go Go.X Go.Proofs.YtcedghechlgecaaGreatDoor.G
section
variable {H:AH}{S:LS}{K:KF}
noncomputable def R6:pj:=(g13,g14,f16,f18,f20)
noncomputable def g6:Int→Int→Int→Int→AH→KF→Prop:=awe R6
theorem ayN:an Tryz.prog 6 (ai [.i 0,.i 0,.i 0,.i 0] g6):=awf R6 (ad.cons axN (ad.cons amo (ad.cons alh (ad.cons alW (ad.cons ajV ad.nil)))))
theorem aAR{n dp a b:Int}(hM:Mem H S)(hT:gB Lx.pN S)(hg:gl.length≤S.n)(hK:∀H',K (.ret (.bool true)) H'):g6 n dp a b H K:=by
 have ra:R6.1=g13:=rfl;have rb:R6.2.1=g14:=rfl;have rc:R6.2.2.1=f16:=rfl;have rd:R6.2.2.2.1=f18:=rfl;have re:R6.2.2.2.2=f20:=rfl;have cQ:G.NL=1000000:=rfl;obtain⟨k,hk,ek⟩:=OA (n:=60) (by omega) n;obtain⟨d,hd,ed⟩:=OA (n:=20) (by omega) dp;obtain⟨m,hm,em⟩:=OA (n:=32) (by omega) a;obtain⟨m',hm',em'⟩:=OA (n:=32) (by omega) b;have a1:∀r:Nat,Int.add (.ofNat 1) (r:Int)=((1+r:Nat):Int):=λ_=>rfl;show Ol R6 K (Ok R6 K (Oj R6 K)) n dp a b H;unfold Ol;refine w3 ?_;rw[bD,show decide (Int.ofNat 60=0)=false from rfl,aw,iB,ek];refine w0 (by omega) (by omega) ?_;rw[a1];refine w0 (by omega) (by omega) ?_;refine w3 ?_;rw[bD,show decide (Int.ofNat 20=0)=false from rfl,aw,iB,ed];refine w0 (by omega) (by omega) ?_;rw[a1];refine w0 (by omega) (by omega) ?_;refine bZ (bF hM (λx hx=>by rw[List.mem_singleton]at hx;subst hx;rfl) λH1 m1=>?_);refine bZ (bF m1 (λx hx=>by rw[List.mem_singleton]at hx;subst hx;rfl) λH2 m2=>?_);have x2:Ext S ((S.push (.ce [.int 0 (.ofNat 0)] 0)).push (.ce [.int 0 (.ofNat 0)] 0)):=(Ext.push _ _).trans (Ext.push _ _);have o1:((S.push (.ce [.int 0 (.ofNat 0)] 0)).push (.ce [.int 0 (.ofNat 0)] 0)).ob S.n=.ce [.int 0 (.ofNat 0)] 0:=(LS.bq _ _ (Nat.lt_succ_self _)).trans (LS.al _ _);have o2:((S.push (.ce [.int 0 (.ofNat 0)] 0)).push (.ce [.int 0 (.ofNat 0)] 0)).ob (S.n+1)=.ce [.int 0 (.ofNat 0)] 0:=LS.al _ _;have n2:((S.push (.ce [.int 0 (.ofNat 0)] 0)).push (.ce [.int 0 (.ofNat 0)] 0)).n=S.n+2:=rfl;have m2:Mem H2 ((S.push (.ce [.int 0 (.ofNat 0)] 0)).push (.ce [.int 0 (.ofNat 0)] 0)):=m2;show ag 1 (.ptr S.n 0) _ H2 _;generalize (S.push (.ce [.int 0 (.ofNat 0)] 0)).push (.ce [.int 0 (.ofNat 0)] 0)=S2 at m2 x2 o1 o2 n2;refine aS m2 o1 (by omega) (by show 0<1;omega) rfl λH3 m3=>?_;have m3:Mem H3 (S2.set S.n (.ce [.int 0 ((1+k:Nat):Int)] 0)):=m3;have k3:∀x,x≠S.n→(S2.set S.n (.ce [.int 0 ((1+k:Nat):Int)] 0)).ob x=S2.ob x:=λx hx=>LS.ao _ _ hx;have p3:(S2.set S.n (.ce [.int 0 ((1+k:Nat):Int)] 0)).ob S.n=.ce [.int 0 ((1+k:Nat):Int)] 0:=LS.au _ _ _;have n3:(S2.set S.n (.ce [.int 0 ((1+k:Nat):Int)] 0)).n=S2.n:=rfl;generalize S2.set S.n (.ce [.int 0 ((1+k:Nat):Int)] 0)=S3 at m3 k3 p3 n3;show ag 1 (.ptr (S.n+1) 0) _ H3 _;refine aS m3 ((k3 _ (by omega)).trans o2) (by omega) (by show 0<1;omega) rfl λH4 m4=>?_;have m4:Mem H4 (S3.set (S.n+1) (.ce [.int 0 ((1+d:Nat):Int)] 0)):=m4;have k4:∀x,x≠S.n+1→(S3.set (S.n+1) (.ce [.int 0 ((1+d:Nat):Int)] 0)).ob x=S3.ob x:=λx hx=>LS.ao _ _ hx;have p4:(S3.set (S.n+1) (.ce [.int 0 ((1+d:Nat):Int)] 0)).ob (S.n+1)=.ce [.int 0 ((1+d:Nat):Int)] 0:=LS.au _ _ _;have n4:(S3.set (S.n+1) (.ce [.int 0 ((1+d:Nat):Int)] 0)).n=S3.n:=rfl;generalize S3.set (S.n+1) (.ce [.int 0 ((1+d:Nat):Int)] 0)=S4 at m4 k4 p4 n4;have q4:S4.ob S.n=.ce [.int 0 ((1+k:Nat):Int)] 0:=(k4 _ (by omega)).trans p3;have x4:Ext S S4:=⟨by omega,λx hx=>(k4 x (by omega)).trans ((k3 x (by omega)).trans (x2.ob x hx))⟩
 have hT4:gB Lx.pN S4:=hT.ext hM x4;unfold Ok;refine w3 ?_;rw[bD,show decide (Int.ofNat 32=0)=false from rfl,aw,iB,em];refine w0 (by omega) (by omega) ?_;rw[a1];refine w0 (by omega) (by omega) ?_;rw[re,rb];have c1:∀r:Nat,((1+r:Nat):Int)=(r:Int)+1:=λr=>by omega
 show f20 ((1+m:Nat):Int) (.ptr S.n 0) (.ptr (S.n+1) 0) H4 _;rw[c1 m];refine axM (k:=1+k) (d:=1+d) (m:=m) (by omega) (by omega) (by omega) m4 q4 p4 ?_;rw[aq];have ed1:1+d=d+1:=by omega
 rw[ed1]at p4 ⊢;refine YI (by omega) (by omega) (by omega) (by omega) m4 hT4 (by omega) λH5 S5 p D m5 x5 pt hD=>?_;simp only[aq,fF,fy,fM,az];unfold Oj;refine w3 ?_;rw[bD,show decide (Int.ofNat 32=0)=false from rfl,aw,iB,em'];refine w0 (by omega) (by omega) ?_;rw[a1];refine w0 (by omega) (by omega) ?_;show bT (ew Tryz.prog 20) (fY (afb R6) 20 [.int 0 ((1+m':Nat):Int),.ptr S.n 0,.ptr (S.n+1) 0] H5 _);refine bA (by kernel_rfl) ?_;show f20 ((1+m':Nat):Int) (.ptr S.n 0) (.ptr (S.n+1) 0) H5 _;rw[c1 m'];refine axM (k:=1+k) (d:=d+1) (m:=m') (by omega) (by omega) (by omega) m5 (x5.get m4 q4) (x5.get m4 p4) ?_;rw[aq,ra,rb,rc,rd];have x05:=x4.trans x5;refine YI (by omega) (by omega) (by omega) (by omega) m5 (hT.ext hM x05) (by have:=x05.n;omega) λH6 S6 p' D' m6 x6 pt' hD'=>?_;simp only[aq,fF,fy,fM,az];have x06:=x05.trans x6;refine ayM m6 (hT.ext hM x06) (by have:=x06.n;omega) λH7 S7 m7 x7=>?_;rw[aq,aX,aG];have q0:aV (0:Int) (Int.ofNat 0)=true:=by rw[bD];exact decide_eq_true rfl
 rw[q0];refine aqw _ ?_;rw[aX,aG];have x57:=x6.trans x7;have pt7:=pt.keep m5 λx hx=>x57.ob x (hD x hx);have aAS:=pt'.keep m6 λx hx=>x7.ob x (hD' x hx);show s2 G.NL (.ptr p 0) H7 _;refine ao9 m7 pt7 (by rw[cQ];omega) (by omega) ?_;rw[aq,az];show s2 G.NL (.ptr p' 0) H7 _;refine ao9 m7 aAS (by rw[cQ];omega) (by omega) ?_;rw[aq,az,bD,decide_eq_true rfl,aG];show s5 G.NL (.ptr p 0) H7 _;refine axF m7 pt7 (by rw[cQ];omega) m7 (λ_ _=>rfl) (λx hx=>Nat.lt_of_lt_of_le (hD x hx) x57.n) λH8 S8 m8 x8=>?_;rw[aq,aX];refine aqw _ ?_;rw[aX];exact hK H8
end
end Go.Proofs.YtcedghechlgecaaGreatDoor
