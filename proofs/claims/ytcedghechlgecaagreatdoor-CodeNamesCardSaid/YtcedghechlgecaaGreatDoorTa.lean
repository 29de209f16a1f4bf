/- The scripts of the law; the compiler. No condition: definitions and lemmas. -/
import Derived.Test.YtcedghechlgecaaGreatDoorLa
set_option maxRecDepth 100000
set_option maxHeartbeats 0
set_option linter.unusedVariables false
set_option linter.unusedSimpArgs false
namespace Go.X
section
variable {H:AH}{S S' mn:LS}
theorem atY{bytes sz n:Nat}{v:AV}{l l':List AV}{k:AV→AH→Prop}(hM:Mem H S)(hs:cK S sz v n l)(hsz:0<sz)(hl':l'.length=sz)(hl:(n+1)*bytes≤1099511627776)(h1:∀a∈l',a.one=true)
  (hK:∀H' S' v',Mem H' S'→uH S v (n+1) sz (l++l') S' v'→k v' H'):bP H (bG (aA H) 1 sz l' λx H'=>bT (Nat.beq H'.n (Nat.succ H.n)) (cV sz bytes v x H' k)):=by
 refine hM.bP ?_;refine cZ hM (by omega) h1 λH1 m1=>?_;have m1:Mem H1 (S.push (.ce l' 0)):=m1;rw[m1.n,hM.n];refine bA (by show Nat.beq (S.n+1) (S.n+1)=true;exact Nat.beq_refl _) ?_;have hs1:cK (S.push (.ce l' 0)) sz v n l:=hs.keep hM λb _ hb=>LS.bq _ _ hb;have hlt1:∀b,aF v b→b<S.n:=λb hb=>hs.lt hM hb;refine lZ (ex:=true) (cap:=1) (o:=0) (n:=1) (l:=l') (m:=0) (b:=S.n) (k:=λl=>qP sz bytes 1 _ l H1 k) m1 (LS.al _ _) (by omega) ?_;rw[List.drop_zero,List.take_of_length_le (by omega)];refine wJ m1 hs1 hsz (.inl (by omega)) (by omega) hl h1 λH' S' v' h' he=>?_;obtain⟨e1,e2,e3,e4⟩:=he;have e1':S.n+1≤S'.n:=e1;refine hK H' S' v' h' ⟨by omega,λb hb hne=>?_,e3,λb hb=>?_⟩
 ·rw[e2 b (by show b<S.n+1;omega) hne,LS.bq _ _ hb]
 ·rcases e4 b hb with g|g
  ·exact .inl g
  ·have g':S.n+1≤b:=g;exact .inr (by omega)
theorem MM{sz n:Nat}{v:AV}{l:List AV}{i o:Nat}{q:Nat}{a:AV}{k:AV→Prop}(h:cK S sz v n l)(hM:Mem H S)(hi:i<n)(ho:o<sz)(ha:l[i*sz+o]? = some a)(hk:k a):cw sz v (.int q i) λp=>ah o p λp'=>af p' H k:=by
 refine h.at_ hi λb cs m hb hc he=>?_;rw[av];exact aj hM hc (by rw[he o ho];exact ha) hk
structure Fm where
 c:Nat
 p:Nat
 v:Nat→AV
 l:Nat→List AV
 k:Nat→Nat
 par:Nat
 reg:Nat
def Tl(i:Nat):Nat:=if i=0 then 3 else if i=3∨i=4 then 2 else 1
theorem atZ(i:Nat):0<Tl i:=by
 unfold Tl;split
 ·omega
 ·split<;>omega
def Fm.cc(f:Fm)(ar:AV):List AV:=[.ptr f.p 0,ar,f.v 4,f.v 5,.int 0 0,.ab]
def Fm.pc(f:Fm):List AV:=[f.v 0,f.v 1,.ab,f.v 2,f.v 3,.int 0 (f.par:Int),.int 0 (f.reg:Int),.int 0 0]
def Fm.own(f:Fm)(x:Nat):Prop:=x=f.c∨x=f.p∨∃i,i<6∧aF (f.v i) x
structure uN(S:LS)(f:Fm)(ar:AV):Prop where
 oc:S.ob f.c=.ce (f.cc ar) 0
 op:S.ob f.p=.ce f.pc 0
 fs:∀i,i<6→cK S (Tl i) (f.v i) (f.k i) (f.l i)
 cp:f.c≠f.p
 vc:∀i,i<6→¬aF (f.v i) f.c∧¬aF (f.v i) f.p
 vv:∀i j,i<6→j<6→i≠j→∀x,aF (f.v i) x→¬aF (f.v j) x
def Fm.set(f:Fm)(i:Nat)(v:AV)(n:Nat)(l:List AV):Fm:={ f with v:=λj=>if j=i then v else f.v j,l:=λj=>if j=i then l else f.l j,k:=λj=>if j=i then n else f.k j }
theorem uN.bX{f:Fm}{ar:AV}(h:uN S f ar)(hM:Mem H S){x:Nat}(hx:f.own x):x<S.n:=by
 rcases hx with rfl|rfl|⟨i,hi,g⟩
 ·exact hM.lt (by rw[h.oc];simp)
 ·exact hM.lt (by rw[h.op];simp)
 ·exact(h.fs i hi).lt hM g
theorem uN.keep{f:Fm}{ar:AV}(h:uN S f ar)(hM:Mem H S)(hk:∀x,f.own x→S'.ob x=S.ob x):uN S' f ar:=
 { h with oc:=(hk _ (.inl rfl)).trans h.oc,op:=(hk _ (.inr (.inl rfl))).trans h.op,fs:=λi hi=>(h.fs i hi).keep hM λx hx _=>hk x (.inr (.inr ⟨i,hi,hx⟩)) }
theorem uN.upd{f f':Fm}{ar:AV}{i n':Nat}{v':AV}{l':List AV}(h:uN S f ar)(hM:Mem H S)(hi:i<6)(e:f'={ f.set i v' n' l' with par:=f'.par,reg:=f'.reg })(hf:cK S' (Tl i) v' n' l')(hb:∀x,aF v' x→aF (f.v i) x∨S.n≤x)(hk:∀x,x<S.n→x≠f.c→x≠f.p→¬aF (f.v i) x→S'.ob x=S.ob x)(hc:S'.ob f.c=.ce (f'.cc ar) 0)(hp:S'.ob f.p=.ce f'.pc 0):uN S' f' ar:=by
 have lt:∀{x},f.own x→x<S.n:=λg=>h.bX hM g;have hcl:f.c<S.n:=lt (.inl rfl);have hpl:f.p<S.n:=lt (.inr (.inl rfl));have ec:f'.c=f.c:=by rw[e];rfl
 have ep:f'.p=f.p:=by rw[e];rfl
 have ev:∀j,f'.v j=if j=i then v' else f.v j:=λj=>by rw[e];rfl
 have el:∀j,f'.l j=if j=i then l' else f.l j:=λj=>by rw[e];rfl
 have ek:∀j,f'.k j=if j=i then n' else f.k j:=λj=>by rw[e];rfl
 refine⟨by rw[ec];exact hc,by rw[ep];exact hp,λj hj=>?_,by rw[ec,ep];exact h.cp,λj hj=>?_,λj m hj hm hne x hx hy=>?_⟩
 ·rw[ev,el,ek];by_cases g:j=i
  ·rw[if_pos g,if_pos g,if_pos g,g];exact hf
  ·rw[if_neg g,if_neg g,if_neg g];refine(h.fs j hj).keep hM λx hx hl=>hk x hl (λq=>(h.vc j hj).1 (q ▸ hx)) (λq=>(h.vc j hj).2 (q ▸ hx)) (h.vv j i hj hi g x hx)
 ·rw[ev,ec,ep];by_cases g:j=i
  ·rw[if_pos g];exact⟨λq=>(hb _ q).elim (h.vc i hi).1 (by omega),λq=>(hb _ q).elim (h.vc i hi).2 (by omega)⟩
  ·rw[if_neg g];exact h.vc j hj
 ·rw[ev]at hx hy;by_cases g:j=i
  ·rw[if_pos g]at hx;rw[if_neg (λq=>hne (g.trans q.symm))]at hy;rcases hb x hx with q|q
   ·exact h.vv i m hi hm (λw=>hne (g.trans w)) x q hy
   ·have:=lt (.inr (.inr ⟨m,hm,hy⟩));omega
  ·rw[if_neg g]at hx;by_cases g2:m=i
   ·rw[if_pos g2]at hy;rcases hb x hy with q|q
    ·exact h.vv j i hj hi g x hx q
    ·have:=lt (.inr (.inr ⟨j,hj,hx⟩));omega
   ·rw[if_neg g2]at hy;exact h.vv j m hj hm hne x hx hy
def fG:List Fm→AV
 |[]=>.eH
 |f::_=>.ptr f.c 0
def Ji(S:LS):List Fm→Prop
 |[]=>True
 |f::r=>uN S f (fG r)∧Ji S r
def eU(fs:List Fm)(x:Nat):Prop:=∃f∈fs,f.own x
structure Ch(lo:Nat)(H:AH)(S:LS)(fs:List Fm):Prop where
 m:Mem H S
 h:Ji S fs
 d:fs.Pairwise λf g=>∀x,f.own x→¬g.own x
 lw:∀x,eU fs x→lo≤x
 l:lo≤S.n
structure bV(S S':LS)(fs fs':List Fm):Prop where
 n:S.n≤S'.n
 ob:∀x,x<S.n→¬eU fs x→S'.ob x=S.ob x
 own:∀x,eU fs' x→eU fs x∨S.n≤x
theorem bV.refl{fs:List Fm}:bV S S fs fs:=⟨Nat.le_refl _,λ_ _ _=>rfl,λ_ h=>.inl h⟩
theorem bV.trans{fs fs' axa:List Fm}(h:bV S S' fs fs')(g:bV S' mn fs' axa):bV S mn fs axa:=
 ⟨Nat.le_trans h.n g.n,λx hx hn=>(g.ob x (Nat.lt_of_lt_of_le hx h.n) λq=>(h.own x q).elim hn (by omega)).trans (h.ob x hx hn),λx hx=>(g.own x hx).elim (h.own x) λq=>.inr (Nat.le_trans h.n q)⟩
theorem Ji.keep:∀{fs:List Fm},Ji S fs→Mem H S→(∀x,eU fs x→S'.ob x=S.ob x)→Ji S' fs
 |[],_,_,_=>trivial
 |f::r,h,hM,hk=>⟨h.1.keep hM λx hx=>hk x ⟨f,List.mem_cons_self ..,hx⟩,Ji.keep h.2 hM λx ⟨g,hg,hx⟩=>hk x ⟨g,List.mem_cons_of_mem _ hg,hx⟩⟩
theorem Ji.bX:∀{fs:List Fm},Ji S fs→Mem H S→∀{x},eU fs x→x<S.n
 |f::r,h,hM,x,⟨g,hg,hx⟩=>(List.mem_cons.1 hg).elim (λe=>h.1.bX hM (e ▸ hx)) λe=>Ji.bX h.2 hM ⟨g,e,hx⟩
theorem Ch.upd{lo:Nat}{H':AH}{f f':Fm}{r:List Fm}(h:Ch lo H S (f::r))(m:Mem H' S')(hf:uN S' f' (fG r))(ho:∀x,f'.own x→f.own x∨S.n≤x)(hn:S.n≤S'.n)(hk:∀x,x<S.n→¬f.own x→S'.ob x=S.ob x):Ch lo H' S' (f'::r)∧bV S S' (f::r) (f'::r):=by
 have hr:∀g∈r,∀x,g.own x→¬f.own x:=λg hg x hx hy=>(List.pairwise_cons.1 h.d).1 g hg x hy hx;have lt:∀{x},eU (f::r) x→x<S.n:=λg=>h.h.bX h.m g;refine⟨⟨m,⟨hf,h.h.2.keep h.m λx ⟨g,hg,hx⟩=>hk x (lt ⟨g,List.mem_cons_of_mem _ hg,hx⟩) (hr g hg x hx)⟩,List.pairwise_cons.2 ⟨λg hg x hx hy=>?_,(List.pairwise_cons.1 h.d).2⟩,λx hx=>?_,Nat.le_trans h.l hn⟩,hn,λx hx hno=>hk x hx λg=>hno ⟨f,List.mem_cons_self ..,g⟩,λx hx=>?_⟩
 ·rcases ho x hx with q|q
  ·exact hr g hg x hy q
  ·have:=lt ⟨g,List.mem_cons_of_mem _ hg,hy⟩;omega
 ·obtain⟨g,hg,hx⟩:=hx;rcases List.mem_cons.1 hg with e|e
  ·subst e;rcases ho x hx with q|q
   ·exact h.lw x ⟨f,List.mem_cons_self ..,q⟩
   ·have:=h.l;omega
  ·exact h.lw x ⟨g,List.mem_cons_of_mem _ e,hx⟩
 ·obtain⟨g,hg,hx⟩:=hx;rcases List.mem_cons.1 hg with e|e
  ·subst e;rcases ho x hx with q|q
   ·exact .inl ⟨f,List.mem_cons_self ..,q⟩
   ·exact .inr q
  ·exact .inl ⟨g,List.mem_cons_of_mem _ e,hx⟩
end
section
variable {H:AH}{S S' mn:LS}
section
variable {lo:Nat}{f:Fm}{r:List Fm}
theorem axb{a b:Int}{k:AV→Prop}(h:∀z,(z=a∧b<a∨z=b∧a≤b)→k (.int 0 z)):oh GJ [.int 0 a] (.int 0 b) k:=by
 show bI (bO b a) (k (.int 0 a)) (k (.int 0 b));rw[bz];exact bY (λg=>h a (.inl ⟨rfl,g⟩)) (λg=>h b (.inr ⟨rfl,by omega⟩))
theorem Ch.fc(h:Ch lo H S (f::r)){j:Nat}{a:AV}{k:AV→Prop}(ha:(f.cc (fG r))[j]? = some a)(hk:k a):aC (.ptr f.c 0) (ah j (.ptr f.c 0) λv=>af v H k):=by
 simp only[aW,av,Nat.zero_add];exact aj h.m h.h.1.oc ha hk
theorem Ch.fp(h:Ch lo H S (f::r)){j:Nat}{a:AV}{k:AV→Prop}(ha:f.pc[j]? = some a)(hk:k a):aC (.ptr f.p 0) (ah j (.ptr f.p 0) λv=>af v H k):=by
 simp only[aW,av,Nat.zero_add];exact aj h.m h.h.1.op ha hk
theorem MN{v':AV}{n':Nat}{l':List AV}{i:Nat}(hi:i<6)(hb:∀x,aF v' x→aF (f.v i) x∨S.n≤x):∀x,(f.set i v' n' l').own x→f.own x∨S.n≤x:=λx hx=>by
 rcases hx with g|g|⟨j,hj,g⟩
 ·exact .inl (.inl g)
 ·exact .inl (.inr (.inl g))
 ·have g:aF (if j=i then v' else f.v j) x:=g;by_cases e:j=i
  ·rw[if_pos e]at g;exact(hb x g).imp (λw=>.inr (.inr ⟨i,hi,w⟩)) id
  ·rw[if_neg e]at g;exact .inl (.inr (.inr ⟨j,hj,g⟩))
theorem Ch.rowP{i j bytes:Nat}{l':List AV}{k:AH→Prop}(h:Ch lo H S (f::r))(hij:(i=0∧j=0)∨(i=1∧j=1)∨(i=2∧j=3)∨(i=3∧j=4))(hl':l'.length=Tl i)(h1:∀a∈l',a.one=true)(hb:(f.k i+1)*bytes≤1099511627776)
  (hk:∀H' S' v',Ch lo H' S' (f.set i v' (f.k i+1) (f.l i++l')::r)→bV S S' (f::r) (f.set i v' (f.k i+1) (f.l i++l')::r)→k H') :
  bP H (bG (aA H) 1 (Tl i) l' λv7 H8=>bT (Nat.beq H8.n (Nat.succ H.n)) (cV (Tl i) bytes (f.v i) v7 H8 λv9 bo=>af (.ptr f.c 0) bo λv11=>bT (aH v11 (.ptr f.p 0)) (aC (.ptr f.p 0) (ah j (.ptr f.p 0) λv12=>ag 1 v12 v9 bo λdj=>k dj)))):=by
 have hi:i<6:=by omega
 have hj:j<8:=by omega
 refine atY h.m (h.h.1.fs i hi) (atZ i) hl' hb h1 λH1 S1 v1 m1 he=>?_;obtain⟨n1,k1,f1,b1⟩:=he;have lt:∀{x},f.own x→x<S.n:=λg=>h.h.1.bX h.m g;have hcl:f.c<S.n:=lt (.inl rfl);have hpl:f.p<S.n:=lt (.inr (.inl rfl));have ec:S1.ob f.c=.ce (f.cc (fG r)) 0:=(k1 _ hcl (h.h.1.vc i hi).1).trans h.h.1.oc;have ep:S1.ob f.p=.ce f.pc 0:=(k1 _ hpl (h.h.1.vc i hi).2).trans h.h.1.op;refine aj m1 ec (v:=.ptr f.p 0) rfl ?_;refine bA (by simp[aH]) ?_;simp only[aW,av,Nat.zero_add];have hv1:v1.one=true:=by
  rcases f1 with⟨rfl,_⟩|⟨_,_,_,_,rfl,_⟩<;>rfl
 refine aS m1 ep (by omega) (by show j<8;exact hj) hv1 λH2 m2=>?_;have k2:∀x,x≠f.p→(S1.set f.p (.ce (f.pc.set j v1) 0)).ob x=S1.ob x:=λx hx=>LS.ao _ _ hx;have m2:Mem H2 (S1.set f.p (.ce (f.pc.set j v1) 0)):=m2;have hpv:¬aF v1 f.p:=λg=>(b1 _ g).elim (h.h.1.vc i hi).2 (by omega);have hk3:∀x,x<S.n→x≠f.c→x≠f.p→¬aF (f.v i) x→(S1.set f.p (.ce (f.pc.set j v1) 0)).ob x=S.ob x:=λx hx _ hne hb=>(k2 x hne).trans (k1 x hx hb);have hpc:(f.set i v1 (f.k i+1) (f.l i++l')).pc=f.pc.set j v1:=by
  rcases hij with⟨rfl,rfl⟩|⟨rfl,rfl⟩|⟨rfl,rfl⟩|⟨rfl,rfl⟩<;>rfl
 have hcc:(f.set i v1 (f.k i+1) (f.l i++l')).cc (fG r)=f.cc (fG r):=by
  rcases hij with⟨rfl,rfl⟩|⟨rfl,rfl⟩|⟨rfl,rfl⟩|⟨rfl,rfl⟩<;>rfl
 have hF:uN (S1.set f.p (.ce (f.pc.set j v1) 0)) (f.set i v1 (f.k i+1) (f.l i++l')) (fG r):=h.h.1.upd h.m hi rfl (f1.keep m1 λx hx _=>k2 x λg=>hpv (g ▸ hx)) b1 hk3 (by
  rw[hcc];exact(k2 _ h.h.1.cp).trans ec) (by
  rw[hpc];exact LS.au _ _ _)
 obtain⟨c2,s2⟩:=h.upd m2 hF (MN hi b1) n1 λx hx hno=>hk3 x hx (λg=>hno (.inl g)) (λg=>hno (.inr (.inl g))) λg=>hno (.inr (.inr ⟨i,hi,g⟩));exact hk H2 _ v1 c2 s2
end
end
end Go.X
namespace Go.Proofs.YtcedghechlgecaaGreatDoor
open Go Go.X Go.Proofs.YtcedghechlgecaaGreatDoor.G
section
variable {H:AH}{S:LS}{K:KF}{lo:Nat}{f:Fm}{r:List Fm}
def bH(op a:Nat):List AV:=[.int 0 (op:Int),.int 0 (a:Int),.int 0 (.ofNat 0)]
theorem Gw(op a:Nat):∀x∈bH op a,x.one=true:=λx hx=>by
 simp only[bH,List.mem_cons,List.not_mem_nil,or_false]at hx;rcases hx with rfl|rfl|rfl<;>rfl
theorem xL{op a:Nat}(h:Ch lo H S (f::r))(hl:f.k 0≤1000000)(hK:∀H' S' v',Ch lo H' S' (f.set 0 v' (f.k 0+1) (f.l 0++bH op a)::r)→bV S S' (f::r) (f.set 0 v' (f.k 0+1) (f.l 0++bH op a)::r)→K (.ret (.aE [])) H'):f86 (.ptr f.c 0) (op:Int) (a:Int) H K:=by
 show ID Re K (.ptr f.c 0) (op:Int) (a:Int) H;unfold ID;simp only[aW,av,Nat.zero_add];refine aj h.m h.h.1.oc (v:=.ptr f.p 0) rfl ?_;refine aj h.m h.h.1.oc (v:=.ptr f.p 0) rfl ?_;simp only[aW,av,Nat.zero_add];refine aj h.m h.h.1.op (v:=f.v 0) rfl ?_;have hr:=λk=>h.rowP (i:=0) (j:=0) (bytes:=24) (l':=bH op a) (k:=k) (.inl ⟨rfl,rfl⟩) rfl (Gw op a) (by omega);simp only[aW,av,Nat.zero_add]at hr;exact hr _ hK
theorem E3(h:Ch lo H S (f::r))(hl:f.k 0≤1000000)(hK:∀H' S' v',Ch lo H' S' (f.set 0 v' (f.k 0+1) (f.l 0++bH 0 0)::r)→bV S S' (f::r) (f.set 0 v' (f.k 0+1) (f.l 0++bH 0 0)::r)→K (.ret (.aE [])) H'):f144 (.ptr f.c 0) H K:=by
 show Ec Ed K (.ptr f.c 0) H;unfold Ec;have e:Ed=f86:=rfl;rw[e];refine xL (op:=0) (a:=0) h hl λH1 S1 v1 c1 s1=>?_;rw[aq];exact hK H1 S1 v1 c1 s1
theorem aoX{nm:List Nat}(h:Ch lo H S (f::r))(hl:f.k 4≤1000000)(hg:f.reg≤1000000)(hK:∀H' S' v',Ch lo H' S' ({ f.set 4 v' (f.k 4+1) (f.l 4++[ak nm,.int 0 (f.k 4:Int)])with reg:=max f.reg (f.k 4+1) }::r)→bV S S' (f::r) ({ f.set 4 v' (f.k 4+1) (f.l 4++[ak nm,.int 0 (f.k 4:Int)])with reg:=max f.reg (f.k 4+1) }::r)→K (.ret (.int 0 (f.k 4:Int))) H'):f84 (.ptr f.c 0) (ak nm) H K:=by
 show IF CJ K (IE CJ K (Rh CJ K)) (.ptr f.c 0) (ak nm) H;unfold IF;refine h.fc (j:=2) rfl ?_;refine(h.h.1.fs 4 (by omega)).len ?_;rw[az];refine h.fc (j:=2) rfl ?_;refine gU rfl ?_;refine G7 (sz:=2) h.m (h.h.1.fs 4 (by omega)) (by omega) rfl (by omega) (λa ha=>by
  simp only[List.mem_cons,List.not_mem_nil,or_false]at ha;rcases ha with rfl|rfl<;>rfl) λH1 S1 v1 m1 he=>?_
 obtain⟨n1,k1,f1,b1⟩:=he;have lt:∀{x},f.own x→x<S.n:=λg=>h.h.1.bX h.m g;have hcl:f.c<S.n:=lt (.inl rfl);have hpl:f.p<S.n:=lt (.inr (.inl rfl));have ec:S1.ob f.c=.ce (f.cc (fG r)) 0:=(k1 _ hcl (h.h.1.vc 4 (by omega)).1).trans h.h.1.oc;have ep:S1.ob f.p=.ce f.pc 0:=(k1 _ hpl (h.h.1.vc 4 (by omega)).2).trans h.h.1.op;have hv1:v1.one=true:=by
  rcases f1 with⟨rfl,_⟩|⟨_,_,_,_,rfl,_⟩<;>rfl
 simp only[aW,av,Nat.zero_add];refine aS m1 ec (by omega) (by show 2<6;omega) hv1 λH2 m2=>?_;have m2:Mem H2 (S1.set f.c (.ce ((f.cc (fG r)).set 2 v1) 0)):=m2;have k2:∀x,x≠f.c→(S1.set f.c (.ce ((f.cc (fG r)).set 2 v1) 0)).ob x=S1.ob x:=λx hx=>LS.ao _ _ hx;have oc2:(S1.set f.c (.ce ((f.cc (fG r)).set 2 v1) 0)).ob f.c=.ce ((f.cc (fG r)).set 2 v1) 0:=LS.au _ _ _;have op2:=(k2 _ (Ne.symm h.h.1.cp)).trans ep;have n2:(S1.set f.c (.ce ((f.cc (fG r)).set 2 v1) 0)).n=S1.n:=rfl;generalize S1.set f.c (.ce ((f.cc (fG r)).set 2 v1) 0)=S2 at m2 k2 oc2 op2 n2;unfold IE;simp only[aW,av,Nat.zero_add];refine aj m2 oc2 (v:=.ptr f.p 0) rfl ?_;refine aj m2 oc2 (v:=.ptr f.p 0) rfl ?_;simp only[aW,av,Nat.zero_add];refine aj m2 op2 (v:=.int 0 (f.reg:Int)) rfl ?_;rw[az,eo,fN];refine w0 (by omega) (by omega) ?_;refine axb λz hz=>?_;rw[az];have ez:z=((max f.reg (f.k 4+1):Nat):Int):=by
  rcases hz with⟨rfl,g⟩|⟨rfl,g⟩<;>omega
 subst ez;refine aS m2 op2 (by omega) (by show 6<8;omega) rfl λH3 m3=>?_;have m3:Mem H3 (S2.set f.p (.ce (f.pc.set 6 (.int 0 ((max f.reg (f.k 4+1):Nat):Int))) 0)):=m3;have k3:∀x,x≠f.p→(S2.set f.p (.ce (f.pc.set 6 (.int 0 ((max f.reg (f.k 4+1):Nat):Int))) 0)).ob x=S2.ob x:=λx hx=>LS.ao _ _ hx;have hcv:¬aF v1 f.c:=λg=>(b1 _ g).elim (h.h.1.vc 4 (by omega)).1 (by omega);have hpv:¬aF v1 f.p:=λg=>(b1 _ g).elim (h.h.1.vc 4 (by omega)).2 (by omega);have hk3:∀x,x<S.n→x≠f.c→x≠f.p→¬aF (f.v 4) x→(S2.set f.p (.ce (f.pc.set 6 (.int 0 ((max f.reg (f.k 4+1):Nat):Int))) 0)).ob x=S.ob x:=λx hx h1 h2 hb=>((k3 x h2).trans (k2 x h1)).trans (k1 x hx hb);have f3:cK (S2.set f.p (.ce (f.pc.set 6 (.int 0 ((max f.reg (f.k 4+1):Nat):Int))) 0)) 2 v1 (f.k 4+1) (f.l 4++[ak nm,.int 0 (f.k 4:Int)]):=f1.keep m1 λx hx _=>(k3 x λg=>hpv (g ▸ hx)).trans (k2 x λg=>hcv (g ▸ hx));have hF:uN (S2.set f.p (.ce (f.pc.set 6 (.int 0 ((max f.reg (f.k 4+1):Nat):Int))) 0)) { f.set 4 v1 (f.k 4+1) (f.l 4++[ak nm,.int 0 (f.k 4:Int)])with reg:=max f.reg (f.k 4+1) } (fG r):=h.h.1.upd h.m (i:=4) (by omega) rfl f3 b1 hk3 ((k3 _ h.h.1.cp).trans oc2) (LS.au _ _ _);obtain⟨c4,s4⟩:=h.upd m3 hF (λx hx=>MN (f:=f) (i:=4) (n':=f.k 4+1) (l':=f.l 4++[ak nm,.int 0 (f.k 4:Int)]) (by omega) b1 x hx) (by show S.n≤S2.n;omega) λx hx hno=>hk3 x hx (λg=>hno (.inl g)) (λg=>hno (.inr (.inl g))) λg=>hno (.inr (.inr ⟨4,by omega,g⟩));exact hK H3 _ v1 c4 s4
end
end Go.Proofs.YtcedghechlgecaaGreatDoor
namespace Go.X
theorem Fm.set_self(f:Fm)(i:Nat):f.set i (f.v i) (f.k i) (f.l i)=f:=by
 have h1:(λj=>if j=i then f.v i else f.v j)=f.v:=funext λj=>by
  split
  ·rename_i e;rw[e]
  ·rfl
 have h2:(λj=>if j=i then f.l i else f.l j)=f.l:=funext λj=>by
  split
  ·rename_i e;rw[e]
  ·rfl
 have h3:(λj=>if j=i then f.k i else f.k j)=f.k:=funext λj=>by
  split
  ·rename_i e;rw[e]
  ·rfl
 unfold Fm.set;rw[h1,h2,h3]
end Go.X
namespace Go.Proofs.YtcedghechlgecaaGreatDoor
open Go Go.X Go.Proofs.YtcedghechlgecaaGreatDoor.G
section
variable {H:AH}{S:LS}{K:KF}{lo:Nat}{f:Fm}{r:List Fm}
theorem aqm{v:AV}{l:List Int}{a:Int}(hM:Mem H S)(hr:cK S 1 v l.length (l.map λz=>.int 0 z))(hl:l.length≤900000)
  (hK:∀z:Int,((z = -1∧a∉l)∨∃i:Nat,z=i∧l[i]? = some a)→K (.ret (.int 0 z)) H):f189 v a H K:=by
 have loop:∀(q i:Nat),i≤l.length→l.length-i<q→(∀j t,j<i→l[j]? = some t→t≠a)→vG qB K q v a (l.length:Int) (i:Int) H:=by
  intro q
  induction q with
  |zero=>intro i _ h;omega
  |succ q ih=>
   intro i hi hq hno;show Eg qB K (vG qB K q) (Ef qB K) v a (l.length:Int) (i:Int) H;unfold Eg Ef;rw[bz];refine bY (λg=>?_) (λg=>?_)
   ·have hil:i<l.length:=by omega
    have ht:=List.getElem?_eq_getElem hil;refine hr.at_ hil λb cs m hb hc he=>?_;refine aj hM hc (v:=.int 0 l[i]) (by
     have:=he 0 (by omega);rw[Nat.add_zero]at this;rw[this,Nat.mul_one,List.getElem?_map,ht];rfl) ?_
    rw[az,bD];refine bY (λe=>?_) (λe=>?_)
    ·exact hK i (.inr ⟨i,rfl,by rw[ht,e]⟩)
    ·simp only[eo,fN];refine w0 (by omega) (by omega) ?_;refine ih (i+1) (by omega) (by omega) λj t hj hjt=>?_;rcases Nat.lt_or_ge j i with g1|g1
     ·exact hno j t g1 hjt
     ·have e1:j=i:=by omega
      subst e1;rw[ht]at hjt;cases hjt;exact λq=>e q.symm
   ·refine hK _ (.inl ⟨rfl,λh=>?_⟩);obtain⟨j,hj⟩:=List.mem_iff_getElem?.1 h;have:=(List.getElem?_eq_some_iff.1 hj).1;exact absurd rfl (hno j a (by omega) hj)
 show Eh qB K (vG qB K G.NL) v a H;unfold Eh;have cQ:G.NL=1000000:=rfl;generalize G.NL=iC at cQ ⊢;refine hr.len ?_;rw[az];exact loop iC 0 (Nat.zero_le _) (by omega) λj t h=>by omega
theorem ayD(h:Ch lo H S (f::r))(hl:f.k 1=0∧f.l 1=[]∨f.k 1=1∧f.l 1=[.int 0 1])
  (hK:∀H' S' v',Ch lo H' S' (f.set 1 v' 1 [.int 0 1]::r)→bV S S' (f::r) (f.set 1 v' 1 [.int 0 1]::r)→K (.ret (.int 0 0)) H'):f173 (.ptr f.c 0) 1 H K:=by
 show Ek sG K (Ej sG K (vH sG K)) (vH sG K) (.ptr f.c 0) 1 H;have hfs:=h.h.1.fs 1 (by omega);unfold Ek;have e0:sG=f189:=rfl;rw[e0];refine h.fc (j:=0) rfl ?_;refine h.fp (j:=1) rfl ?_;rcases hl with⟨hk,hl⟩|⟨hk,hl⟩
 ·refine aqm (l:=[]) (a:=1) h.m (by rw[hk,hl]at hfs;exact hfs) (by decide) λz hz=>?_;rw[aq,az,bz];have ez:z = -1:=by
   rcases hz with⟨e,_⟩|⟨i,_,g⟩
   ·exact e
   ·cases g
  subst ez;rw[decide_eq_true (by decide),aG];refine h.fc (j:=0) rfl ?_;refine h.fp (j:=1) rfl ?_;refine hfs.len ?_;rw[az];unfold Ej;simp only[aW,av,Nat.zero_add];refine aj h.m h.h.1.oc (v:=.ptr f.p 0) rfl ?_;refine aj h.m h.h.1.oc (v:=.ptr f.p 0) rfl ?_;simp only[aW,av,Nat.zero_add];refine aj h.m h.h.1.op (v:=f.v 1) rfl ?_;have hr:=λk=>h.rowP (i:=1) (j:=1) (bytes:=8) (l':=[.int 0 1]) (k:=k) (.inr (.inl ⟨rfl,rfl⟩)) rfl (λa ha=>by
   rw[List.mem_singleton]at ha;subst ha;rfl) (by omega)
  simp only[aW,av,Nat.zero_add]at hr;refine hr _ λH1 S1 v1 c1 s1=>?_;rw[hk,hl]at c1 s1;unfold vH;rw[hk];exact hK H1 S1 v1 c1 s1
 ·refine aqm (l:=[1]) (a:=1) h.m (by rw[hk,hl]at hfs;exact hfs) (by decide) λz hz=>?_;rw[aq,az,bz];have ez:z=0:=by
   rcases hz with⟨_,e⟩|⟨i,e,g⟩
   ·exact absurd (List.mem_singleton.2 rfl) e
   ·match i,g with
    |0,_=>exact e
  subst ez;rw[decide_eq_false (by decide),aw];unfold vH;have e1:f.set 1 (f.v 1) 1 [.int 0 1]=f:=by
   have:=f.set_self 1;rw[hk,hl]at this;exact this
  refine hK H S (f.v 1) (by rw[e1];exact h) ?_;rw[e1];exact bV.refl
end
end Go.Proofs.YtcedghechlgecaaGreatDoor
namespace Go.X
def rL(L:List (List Nat×Nat)):List AV:=L.flatMap λp=>[ak p.1,.int 0 (p.2:Int)]
theorem ame:∀{L:List (List Nat×Nat)}{i:Nat}{p:List Nat×Nat},L[i]? = some p→(rL L)[i*2]? = some (ak p.1)∧(rL L)[i*2+1]? = some (.int 0 (p.2:Int))
 |[],i,p,h=>by cases h
 |q::L,0,p,h=>by cases h;exact⟨rfl,rfl⟩
 |q::L,i+1,p,h=>by
  have h':L[i]? = some p:=h;obtain⟨g1,g2⟩:=ame h';have e1:(i+1)*2=i*2+1+1:=by omega
  rw[e1];exact⟨g1,g2⟩
theorem Ys(L M:List (List Nat×Nat)):rL (L++M)=rL L++rL M:=List.flatMap_append ..
def eG(L:List (List Nat×Nat))(s:List Nat):Int:=((L.reverse.find? λp=>decide (s=p.1)).map λp=>(p.2:Int)).getD (-1)
theorem NU(L:List (List Nat×Nat))(p:List Nat×Nat)(s:List Nat):eG (L++[p]) s=if s=p.1 then (p.2:Int) else eG L s:=by
 unfold eG;rw[List.reverse_append,List.reverse_singleton,List.singleton_append,List.find?_cons];by_cases e:s=p.1
 ·rw[decide_eq_true e,if_pos e];rfl
 ·rw[decide_eq_false e,if_neg e]
end Go.X
namespace Go.Proofs.YtcedghechlgecaaGreatDoor
open Go Go.X Go.Proofs.YtcedghechlgecaaGreatDoor.G
section
variable {H:AH}{S:LS}{K:KF}{lo:Nat}{f:Fm}{r:List Fm}
theorem Ox{c:Nat}{cs:List AV}{v:AV}{L:List (List Nat×Nat)}{s:List Nat}(hM:Mem H S)(hc:S.ob c=.ce cs 0)(hv:cs[2]? = some v)(hr:cK S 2 v L.length (rL L))(hl8:∀p∈L,B8 p.1)(h8:B8 s)(hl:L.length≤900000)
  (hK:K (.ret (.int 0 (eG L s))) H):f171 (.ptr c 0) (ak s) H K:=by
 have loop:∀(q i:Nat),i≤L.length→i<q→eG (L.take i) s=eG L s→vI qC K q (.ptr c 0) (ak s) ((i:Int)-1) H:=by
  intro q
  induction q with
  |zero=>intro i _ h;omega
  |succ q ih=>
   intro i hi hq he;show En qC K (vI qC K q) (Em qC K) (.ptr c 0) (ak s) ((i:Int)-1) H;unfold En Em;have z0:Int.ofNat 0=(0:Int):=rfl;rw[bz,z0]
   match i with
   |0=>
    rw[decide_eq_true (by omega),Bool.not_true,aw];have e0:eG L s = -1:=by rw[←he];rfl
    rw[e0]at hK;exact hK
   |i+1=>
    have ei:((i+1:Nat):Int)-1=(i:Int):=by omega
    rw[ei,decide_eq_false (by omega),Bool.not_false,aG];have hil:i<L.length:=by omega
    have ht:=List.getElem?_eq_getElem hil;obtain⟨a1,a2⟩:=ame ht;have et:L.take (i+1)=L.take i++[L[i]]:=by rw[List.take_add_one,ht];rfl
    rw[et,NU]at he;simp only[aW,av,Nat.zero_add];refine aj hM hc hv ?_;refine MM (i:=i) (o:=0) hr hM hil (by omega) a1 ?_;refine A5 (hl8 _ (List.getElem_mem _)) h8 ?_;rw[aX];by_cases e:s=L[i].1
    ·rw[decide_eq_true e.symm,aG];rw[if_pos e]at he;refine aj hM hc hv ?_;refine MM (i:=i) (o:=1) hr hM hil (by omega) a2 ?_;rw[az,he];exact hK
    ·rw[decide_eq_false λq=>e q.symm,aw];rw[if_neg e]at he;simp only[wH,fN];refine w0 (by omega) (by omega) ?_;exact ih i (by omega) (by omega) he
 show Eo qC K (vI qC K G.NL) (.ptr c 0) (ak s) H;unfold Eo;have cQ:G.NL=1000000:=rfl;generalize G.NL=iC at cQ ⊢;simp only[aW,av,Nat.zero_add];refine aj hM hc hv ?_;refine hr.len ?_;rw[az];simp only[wH,fN];refine w0 (by omega) (by omega) ?_;exact loop iC L.length (Nat.le_refl _) (by omega) (by rw[List.take_length])
end
end Go.Proofs.YtcedghechlgecaaGreatDoor
namespace Go.X
section
variable {H H':AH}{S S' mn:LS}
theorem Ch.tail{lo:Nat}{f:Fm}{r:List Fm}(h:Ch lo H S (f::r)):Ch lo H S r:=
 ⟨h.m,h.h.2,(List.pairwise_cons.1 h.d).2,λx ⟨g,hg,hx⟩=>h.lw x ⟨g,List.mem_cons_of_mem _ hg,hx⟩,h.l⟩
theorem Ch.inner{lo:Nat}{f:Fm}{r r':List Fm}(h:Ch lo H S (f::r))(c:Ch lo H' S' r')(s:bV S S' r r')(e:fG r'=fG r):Ch lo H' S' (f::r')∧bV S S' (f::r) (f::r'):=by
 have hd:∀x,f.own x→¬eU r x:=λx hx ⟨g,hg,hy⟩=>(List.pairwise_cons.1 h.d).1 g hg x hx hy;have lt:∀{x},f.own x→x<S.n:=λg=>h.h.1.bX h.m g;have hf:uN S' f (fG r'):=by
  rw[e];exact h.h.1.keep h.m λx hx=>s.ob x (lt hx) (hd x hx)
 refine⟨⟨c.m,⟨hf,c.h⟩,List.pairwise_cons.2 ⟨λg hg x hx hy=>?_,c.d⟩,λx hx=>?_,c.l⟩,s.n,λx hx hno=>s.ob x hx λ⟨g,hg,hy⟩=>hno ⟨g,List.mem_cons_of_mem _ hg,hy⟩,λx hx=>?_⟩
 ·rcases s.own x ⟨g,hg,hy⟩with q|q
  ·exact hd x hx q
  ·have:=lt hx;omega
 ·obtain⟨g,hg,hy⟩:=hx;rcases List.mem_cons.1 hg with q|q
  ·subst q;exact h.lw x ⟨g,List.mem_cons_self ..,hy⟩
  ·exact c.lw x ⟨g,q,hy⟩
 ·obtain⟨g,hg,hy⟩:=hx;rcases List.mem_cons.1 hg with q|q
  ·subst q;exact .inl ⟨g,List.mem_cons_self ..,hy⟩
  ·rcases s.own x ⟨g,q,hy⟩with⟨g2,h2,h3⟩|q2
   ·exact .inl ⟨g2,List.mem_cons_of_mem _ h2,h3⟩
   ·exact .inr q2
theorem Ch.two{lo:Nat}{f f2:Fm}{r:List Fm}{v5 v3:AV}{n5 n3:Nat}{l5 l3:List AV}(h:Ch lo H S (f::r))(m:Mem H' S')(e:f2=(f.set 5 v5 n5 l5).set 3 v3 n3 l3)(n0:S.n≤S'.n)(f5:cK S' 1 v5 n5 l5)(f3:cK S' 2 v3 n3 l3)
  (b5:∀x,aF v5 x→S.n≤x) (b3:∀x,aF v3 x→S.n≤x) (b53:∀x,aF v5 x→¬aF v3 x) (hk:∀x,x<S.n→x≠f.c→x≠f.p→S'.ob x=S.ob x) (oc:S'.ob f.c=.ce (f2.cc (fG r)) 0) (op:S'.ob f.p=.ce f2.pc 0):Ch lo H' S' (f2::r)∧bV S S' (f::r) (f2::r):=by
 have lt:∀{x},f.own x→x<S.n:=λg=>h.h.1.bX h.m g;have hcl:f.c<S.n:=lt (.inl rfl);have hpl:f.p<S.n:=lt (.inr (.inl rfl));have ec:f2.c=f.c:=by rw[e];rfl
 have ep:f2.p=f.p:=by rw[e];rfl
 have ev:∀j,f2.v j=if j=3 then v3 else if j=5 then v5 else f.v j:=λj=>by rw[e];rfl
 have el:∀j,f2.l j=if j=3 then l3 else if j=5 then l5 else f.l j:=λj=>by rw[e];rfl
 have ek:∀j,f2.k j=if j=3 then n3 else if j=5 then n5 else f.k j:=λj=>by rw[e];rfl
 have bl:∀j x,j<6→j≠3→j≠5→aF (f.v j) x→x<S.n:=λj x hj _ _ g=>lt (.inr (.inr ⟨j,hj,g⟩));have xM:∀j,j=3∨j=5∨(j≠3∧j≠5):=λj=>by omega
 have Yt:f2.v 3=v3:=by rw[ev,if_pos rfl]
 have Yu:f2.v 5=v5:=by rw[ev,if_neg (by decide),if_pos rfl]
 have Tm:∀j,j≠3→j≠5→f2.v j=f.v j:=λj a b=>by rw[ev,if_neg a,if_neg b]
 have hF:uN S' f2 (fG r):=by
  refine⟨by rw[ec];exact oc,by rw[ep];exact op,λj hj=>?_,by rw[ec,ep];exact h.h.1.cp,λj hj=>?_,λi j hi hj hne x hx hy=>?_⟩
  ·rcases xM j with q|q|⟨q1,q2⟩
   ·subst q;rw[Yt,el,ek,if_pos rfl,if_pos rfl];exact f3
   ·subst q;rw[Yu,el,ek,if_neg (by decide),if_pos rfl,if_neg (by decide),if_pos rfl];exact f5
   ·rw[Tm j q1 q2,el,ek,if_neg q1,if_neg q2,if_neg q1,if_neg q2];exact(h.h.1.fs j hj).keep h.m λx hx hl=>hk x hl (λw=>(h.h.1.vc j hj).1 (w ▸ hx)) (λw=>(h.h.1.vc j hj).2 (w ▸ hx))
  ·rw[ec,ep];rcases xM j with q|q|⟨q1,q2⟩
   ·subst q;rw[Yt];exact⟨λg=>by have:=b3 _ g;omega,λg=>by have:=b3 _ g;omega⟩
   ·subst q;rw[Yu];exact⟨λg=>by have:=b5 _ g;omega,λg=>by have:=b5 _ g;omega⟩
   ·rw[Tm j q1 q2];exact h.h.1.vc j hj
  ·rcases xM i with q|q|⟨q1,q2⟩
   ·subst q;rw[Yt]at hx;rcases xM j with p|p|⟨p1,p2⟩
    ·exact hne p.symm
    ·subst p;rw[Yu]at hy;exact b53 x hy hx
    ·rw[Tm j p1 p2]at hy;have:=b3 x hx;have:=bl j x hj p1 p2 hy;omega
   ·subst q;rw[Yu]at hx;rcases xM j with p|p|⟨p1,p2⟩
    ·subst p;rw[Yt]at hy;exact b53 x hx hy
    ·exact hne p.symm
    ·rw[Tm j p1 p2]at hy;have:=b5 x hx;have:=bl j x hj p1 p2 hy;omega
   ·rw[Tm i q1 q2]at hx;rcases xM j with p|p|⟨p1,p2⟩
    ·subst p;rw[Yt]at hy;have:=b3 x hy;have:=bl i x hi q1 q2 hx;omega
    ·subst p;rw[Yu]at hy;have:=b5 x hy;have:=bl i x hi q1 q2 hx;omega
    ·rw[Tm j p1 p2]at hy;exact h.h.1.vv i j hi hj hne x hx hy
 refine h.upd m hF (λx hx=>?_) n0 λx hx hno=>hk x hx (λg=>hno (.inl g)) (λg=>hno (.inr (.inl g)));rcases hx with g|g|⟨j,hj,g⟩
 ·rw[ec]at g;exact .inl (.inl g)
 ·rw[ep]at g;exact .inl (.inr (.inl g))
 ·rcases xM j with q|q|⟨q1,q2⟩
  ·subst q;rw[Yt]at g;exact .inr (b3 x g)
  ·subst q;rw[Yu]at g;exact .inr (b5 x g)
  ·rw[Tm j q1 q2]at g;exact .inl (.inr (.inr ⟨j,hj,g⟩))
end
end Go.X
namespace Go.Proofs.YtcedghechlgecaaGreatDoor
open Go Go.X Go.Proofs.YtcedghechlgecaaGreatDoor.G
section
variable {H:AH}{S:LS}{K:KF}{lo:Nat}{f:Fm}{r:List Fm}
theorem amf{v:AV}{s:List Nat}(hr:cK S 1 v 0 [])(hK:K (.ret (.int 0 (-1))) H):f121 v (ak s) H K:=by
 show qy gq K (lO gq K G.NL) v (ak s) H;unfold qy;refine hr.len ?_;rw[az];have cQ:G.NL=999999+1:=rfl;generalize 999999=q at cQ;rw[cQ];show qx gq K (lO gq K q) (sr gq K) v (ak s) 0 0 H;unfold qx sr;rw[bz,decide_eq_false (by decide),aw];exact hK
def rM(f:Fm):Prop:=f.v 5=.ab∧f.k 5=0∧f.l 5=[]∧f.v 3=.ab∧f.k 3=0∧f.l 3=[]
def Yv(s:List Nat)(o:Bool)(z:Int)(f f2:Fm):Prop:=∃(v5 v3:AV),f2=(f.set 5 v5 1 [ak s]).set 3 v3 1 [.bool o,.int 0 z]
theorem Yv.c{s:List Nat}{o:Bool}{z:Int}{f f2:Fm}(h:Yv s o z f f2):f2.c=f.c:=by
 obtain⟨v5,v3,rfl⟩:=h;rfl
theorem axc{a6:Nat}{o:Bool}{z:Int}{s:List Nat}{R:gO}(h:Ch lo H S (f::r))(ht:rM f)(hb:S.ob a6=.ce [.bool o,.int 0 z] 0)(ha:¬f.own a6)
  (hK:∀H' S' f2,Yv s o z f f2→Ch lo H' S' (f2::r)→bV S S' (f::r) (f2::r)→K (.ret (.int 0 0)) H'):vK R K (vJ R K) (.ptr f.c 0) (ak s) (.ptr a6 0) H:=by
 obtain⟨t1,t2,t3,t4,t5,t6⟩:=ht;have lt:∀{x},f.own x→x<S.n:=λg=>h.h.1.bX h.m g;have hcl:f.c<S.n:=lt (.inl rfl);have hpl:f.p<S.n:=lt (.inr (.inl rfl));have hal:a6<S.n:=h.m.lt (by rw[hb];simp);have hac:a6≠f.c:=λq=>ha (.inl q);have hap:a6≠f.p:=λq=>ha (.inr (.inl q));unfold vK;simp only[aW,av,Nat.zero_add];refine aj h.m h.h.1.oc (v:=.ptr f.p 0) rfl ?_;refine aj h.m h.h.1.oc (v:=f.v 5) rfl ?_;refine h.m.bP ?_;refine gU rfl ?_;refine cZ h.m rfl (λa ha=>by
  rw[List.mem_singleton]at ha;subst ha;rfl) λH1 m1=>?_
 have m1:Mem H1 (S.push (.ce [ak s] 0)):=m1;have k1:∀x,x<S.n→(S.push (.ce [ak s] 0)).ob x=S.ob x:=λx hx=>LS.bq _ _ hx;have o1:(S.push (.ce [ak s] 0)).ob S.n=.ce [ak s] 0:=LS.al _ _;have n1:(S.push (.ce [ak s] 0)).n=S.n+1:=rfl;rw[m1.n,h.m.n,n1];refine bA (by show Nat.beq (S.n+1) (S.n+1)=true;exact Nat.beq_refl _) ?_;generalize S.push (.ce [ak s] 0)=S1 at m1 k1 o1 n1;refine aj m1 ((k1 _ hcl).trans h.h.1.oc) (v:=.ptr f.p 0) rfl ?_;simp only[aW,av,Nat.zero_add];refine aj m1 ((k1 _ hpl).trans h.h.1.op) (v:=f.v 3) rfl ?_;refine kx m1 ((k1 _ hal).trans hb) (by show 0+2≤2;omega) ?_;refine m1.bP ?_;show onVal (.agg [AV.bool o,.int 0 z]) _;rw[gK];refine ia rfl ?_;have es:spl [AV.bool o,.int 0 z] [.bool false,.int 0 (.ofNat 0)] 0=[.bool o,.int 0 z]:=rfl;rw[es];have h1b:∀a∈[AV.bool o,.int 0 z],a.one=true:=λa ha=>by
  simp only[List.mem_cons,List.not_mem_nil,or_false]at ha;rcases ha with rfl|rfl<;>rfl
 refine cZ m1 rfl h1b λH2 m2=>?_;have m2:Mem H2 (S1.push (.ce [.bool o,.int 0 z] 0)):=m2;have k2:∀x,x<S1.n→(S1.push (.ce [.bool o,.int 0 z] 0)).ob x=S1.ob x:=λx hx=>LS.bq _ _ hx;have o2:(S1.push (.ce [.bool o,.int 0 z] 0)).ob S1.n=.ce [.bool o,.int 0 z] 0:=LS.al _ _;have n2:(S1.push (.ce [.bool o,.int 0 z] 0)).n=S1.n+1:=rfl;refine bA (by rw[m2.n,n2,n1];exact Nat.beq_refl _) ?_;generalize S1.push (.ce [.bool o,.int 0 z] 0)=S2 at m2 k2 o2 n2;rw[t1];refine lZ (ex:=true) (cap:=1) (o:=0) (n:=1) (l:=[ak s]) (m:=0) (b:=S.n) (k:=λl=>qP 1 16 1 .ab l H2 _) m2 ((k2 _ (by omega)).trans o1) (by show 0+1*1≤1;omega) ?_;refine wJ m2 (cK.nil S2 1) (by omega) (.inl (by omega)) rfl (by omega) (λa ha=>by
  have ha:a∈[ak s]:=ha;rw[List.mem_singleton]at ha;subst ha;rfl) λH3 S3 v15 m3 he3=>?_
 obtain⟨n3,k3',f5,b5⟩:=he3;have k3:∀x,x<S.n→S3.ob x=S.ob x:=λx hx=>(k3' x (by omega) id).trans ((k2 x (by omega)).trans (k1 x hx));have o3:S3.ob S1.n=.ce [.bool o,.int 0 z] 0:=(k3' _ (by omega) id).trans o2;refine kx m3 ((k3 _ hal).trans hb) (by show 0+2≤2;omega) ?_;refine bA (by simp[aH,lF]) ?_;refine aj m3 ((k3 _ hpl).trans h.h.1.op) (v:=f.v 3) rfl ?_;rw[t4];refine bA (by simp[aH]) ?_;refine aj m3 ((k3 _ hcl).trans h.h.1.oc) (v:=.ptr f.p 0) rfl ?_;refine bA (by simp[aH]) ?_;refine aj m3 ((k3 _ hcl).trans h.h.1.oc) (v:=.ptr f.p 0) rfl ?_;refine bA (by simp[aH]) ?_;refine lZ (ex:=true) (cap:=1) (o:=0) (n:=1) (l:=[.bool o,.int 0 z]) (m:=0) (b:=S1.n) (k:=λl=>qP 2 16 1 .ab l H3 _) m3 o3 (by show 0+1*2≤2;omega) ?_;refine wJ m3 (cK.nil S3 2) (by omega) (.inl (by omega)) rfl (by omega) h1b λH4 S4 v21 m4 he4=>?_;obtain⟨n4,k4',f3,b3⟩:=he4;have k4:∀x,x<S.n→S4.ob x=S.ob x:=λx hx=>(k4' x (by omega) id).trans (k3 x hx);refine aj m4 ((k4 _ hcl).trans h.h.1.oc) (v:=.ptr f.p 0) rfl ?_;refine bA (by simp[aH]) ?_;have aAt:v15.one=true:=by
  rcases f5 with⟨rfl,_⟩|⟨_,_,_,_,rfl,_⟩<;>rfl
 have aAu:v21.one=true:=by
  rcases f3 with⟨rfl,_⟩|⟨_,_,_,_,rfl,_⟩<;>rfl
 refine aS m4 ((k4 _ hcl).trans h.h.1.oc) (by omega) (by show 3<6;omega) aAt λH5 m5=>?_;have m5:Mem H5 (S4.set f.c (.ce ((f.cc (fG r)).set 3 v15) 0)):=m5;have k5:∀x,x≠f.c→(S4.set f.c (.ce ((f.cc (fG r)).set 3 v15) 0)).ob x=S4.ob x:=λx hx=>LS.ao _ _ hx;have o5:(S4.set f.c (.ce ((f.cc (fG r)).set 3 v15) 0)).ob f.c=.ce ((f.cc (fG r)).set 3 v15) 0:=LS.au _ _ _;have n5:(S4.set f.c (.ce ((f.cc (fG r)).set 3 v15) 0)).n=S4.n:=rfl;generalize S4.set f.c (.ce ((f.cc (fG r)).set 3 v15) 0)=S5 at m5 k5 o5 n5;have p5:S5.ob f.p=.ce f.pc 0:=(k5 _ (Ne.symm h.h.1.cp)).trans ((k4 _ hpl).trans h.h.1.op);refine aS m5 p5 (by omega) (by show 4<8;omega) aAu λH6 m6=>?_;have m6:Mem H6 (S5.set f.p (.ce (f.pc.set 4 v21) 0)):=m6;have k6:∀x,x≠f.p→(S5.set f.p (.ce (f.pc.set 4 v21) 0)).ob x=S5.ob x:=λx hx=>LS.ao _ _ hx;have p6:(S5.set f.p (.ce (f.pc.set 4 v21) 0)).ob f.p=.ce (f.pc.set 4 v21) 0:=LS.au _ _ _;have n6:(S5.set f.p (.ce (f.pc.set 4 v21) 0)).n=S5.n:=rfl;generalize S5.set f.p (.ce (f.pc.set 4 v21) 0)=S6 at m6 k6 p6 n6;have o6:S6.ob f.c=.ce ((f.cc (fG r)).set 3 v15) 0:=(k6 _ h.h.1.cp).trans o5;unfold vJ;simp only[aW,av,Nat.zero_add];refine aj m6 o6 (v:=v15) rfl ?_;have bk5:∀x,aF v15 x→S2.n≤x:=λx g=>(b5 x g).elim False.elim id;have bk3:∀x,aF v21 x→S3.n≤x:=λx g=>(b3 x g).elim False.elim id;have lt5:∀x,aF v15 x→x<S3.n:=λx g=>f5.lt m3 g;have lt3:∀x,aF v21 x→x<S4.n:=λx g=>f3.lt m4 g;have g5:cK S6 1 v15 1 [ak s]:=(f5.keep m3 λx hx hl=>(k4' x hl id)).keep m4 λx hx hl=>by
  have:=bk5 x hx;exact(k6 x (by omega)).trans (k5 x (by omega))
 have g3:cK S6 2 v21 1 [.bool o,.int 0 z]:=f3.keep m4 λx hx hl=>by
  have:=bk3 x hx;exact(k6 x (by omega)).trans (k5 x (by omega))
 refine g5.len ?_;rw[az];simp only[wH,fN];refine w0 (by omega) (by omega) ?_;obtain⟨c6,s6⟩:=h.two (f2:=(f.set 5 v15 1 [ak s]).set 3 v21 1 [.bool o,.int 0 z]) m6 rfl (by omega) g5 g3 (λx g=>by have:=bk5 x g;omega) (λx g=>by have:=bk3 x g;omega) (λx g q=>by
  have:=lt5 x g;have:=bk3 x q;omega) (λx hx h1 h2=>(k6 x h2).trans ((k5 x h1).trans (k4 x hx))) o6 p6
 exact hK H6 S6 _ ⟨v15,v21,rfl⟩ c6 s6
end
end Go.Proofs.YtcedghechlgecaaGreatDoor
namespace Go.X
section
variable {H H':AH}{S S' mn:LS}
theorem Ch.keep{lo:Nat}{fs:List Fm}(h:Ch lo H S fs)(m:Mem H' S')(n0:S.n≤S'.n)(hk:∀x,eU fs x→S'.ob x=S.ob x):Ch lo H' S' fs:=⟨m,h.h.keep h.m hk,h.d,h.lw,Nat.le_trans h.l n0⟩
theorem bV.put{fs fs':List Fm}(s:bV S S' fs fs')(n0:S'.n≤mn.n)(hk:∀x,x<S.n→mn.ob x=S'.ob x):bV S mn fs fs':=⟨Nat.le_trans s.n n0,λx hx hn=>(hk x hx).trans (s.ob x hx hn),s.own⟩
theorem Ch.bX{lo:Nat}{fs:List Fm}(h:Ch lo H S fs){x:Nat}(hx:eU fs x):x<S.n:=h.h.bX h.m hx
def Ax(f:Fm):Prop:=f.k 4=0∧f.l 4=[]
end
end Go.X
namespace Go.Proofs.YtcedghechlgecaaGreatDoor
open Go Go.X Go.Proofs.YtcedghechlgecaaGreatDoor.G
def Ay:List Fm→Bool
 |[]=>true
 |_::_=>false
def Az(z:Int):List Fm→Int
 |[]=>z
 |_::_=>0
inductive AA(s:List Nat)(z:Int):List Fm→List Fm→Prop
 |nil:AA s z [] []
 |cons {f f2:Fm}{r r2:List Fm}:Yv s (Ay r) (Az z r) f f2→AA s z r r2→AA s z (f::r) (f2::r2)
theorem ayE{lo:Nat}{s:List Nat}{top:Fm}{L:List (List Nat×Nat)}(hB:∀p∈L,B8 p.1)(h8:B8 s)(hz:0≤eG L s)(hl:L.length≤900000)(tl:top.l 4=rL L)(tk:top.k 4=L.length):∀(bu:List Fm) (n:Nat){H:AH}{S:LS}{K:KF}{f:Fm},bu.length<n→Ch lo H S (f::(bu++[top]))→rM f→(∀g∈bu,rM g∧Ax g)→
  (∀H' S' f2 cY,Yv s (Ay bu) (Az (eG L s) bu) f f2→AA s (eG L s) bu cY→Ch lo H' S' (f2::(cY++[top]))→bV S S' (f::(bu++[top])) (f2::(cY++[top]))→K (.ret (.int 0 0)) H')→yA n (.ptr f.c 0) (ak s) H K:=by
 intro bu
 induction bu with
 |nil=>
  intro n H S K f hn h ht _ hK;obtain⟨n,rfl⟩:∃m,n=m+1:=⟨n-1,by simp at hn;omega⟩
  show vN (mT (yA n)) K (vM (mT (yA n)) K (vK (mT (yA n)) K (vJ (mT (yA n)) K))) (.ptr f.c 0) (ak s) H;unfold vN;refine h.fc (j:=3) rfl ?_;show f121 (f.v 5) (ak s) H _;refine amf (by have:=h.h.1.fs 5 (by omega);rw[ht.2.1,ht.2.2.1]at this;exact this) ?_;have z0:Int.ofNat 0=(0:Int):=rfl;rw[aq,az,bz,z0,decide_eq_true (by decide),Bool.not_true,aw];refine h.fc (j:=1) rfl ?_;show oU true (.ptr top.c 0) .eH H _;rw[vd,Bool.not_true,aX,aw];refine h.fc (j:=1) rfl ?_;show f171 (.ptr top.c 0) (ak s) H _;have gt:=h.h.2.1;refine Ox (cs:=top.cc (fG [])) (v:=top.v 4) (L:=L) h.m gt.oc rfl (by have:=gt.fs 4 (by omega);rw[tk,tl]at this;exact this) hB h8 hl ?_;rw[aq,az];refine oM (n:=2) (z:=[.bool false,.int 0 (.ofNat 0)]) (c:=[.bool true,.int 0 (eG L s)]) h.m (λa ha=>?_) rfl rfl (λa ha=>?_) λH1 S1 m1 x1 o1 n1=>?_
  ·simp only[List.mem_cons,List.not_mem_nil,or_false]at ha;rcases ha with rfl|rfl<;>rfl
  ·simp only[List.mem_cons,List.not_mem_nil,or_false]at ha;rcases ha with rfl|rfl<;>rfl
  have c1:=h.keep m1 (by omega) λx hx=>x1.ob x (h.bX hx);have s1:bV S S1 (f::([]++[top])) (f::([]++[top])):=bV.put bV.refl (by omega) λx hx=>x1.ob x hx;unfold vM;rw[av];refine aj m1 o1 (v:=.int 0 (eG L s)) rfl ?_;rw[az,bz,z0,decide_eq_false (by omega),aw];refine axc (o:=true) (z:=eG L s) c1 ht o1 (λq=>by have:=h.bX ⟨f,List.mem_cons_self ..,q⟩;omega) λH2 S2 f2 t2 c2 s2=>?_;exact hK H2 S2 f2 [] t2 .nil c2 (s1.trans s2)
 |cons g bu ih=>
  intro n H S K f hn h ht hg hK;obtain⟨n,rfl⟩:∃m,n=m+1:=⟨n-1,by simp at hn;omega⟩
  obtain⟨⟨hg1,hg2,hg3⟩,hgs⟩:(rM g∧Ax g)∧∀x∈bu,rM x∧Ax x:=⟨hg g (List.mem_cons_self ..),λx hx=>hg x (List.mem_cons_of_mem _ hx)⟩
  have hn':bu.length<n:=by simp at hn;omega
  show vN (mT (yA n)) K (vM (mT (yA n)) K (vK (mT (yA n)) K (vJ (mT (yA n)) K))) (.ptr f.c 0) (ak s) H;unfold vN;refine h.fc (j:=3) rfl ?_;show f121 (f.v 5) (ak s) H _;refine amf (by have:=h.h.1.fs 5 (by omega);rw[ht.2.1,ht.2.2.1]at this;exact this) ?_;have z0:Int.ofNat 0=(0:Int):=rfl;rw[aq,az,bz,z0,decide_eq_true (by decide),Bool.not_true,aw];refine h.fc (j:=1) rfl ?_;show oU true (.ptr g.c 0) .eH H _;rw[vd,Bool.not_true,aX,aw];refine h.fc (j:=1) rfl ?_;show f171 (.ptr g.c 0) (ak s) H _;have gt:=h.h.2.1;refine Ox (cs:=g.cc (fG (bu++[top]))) (v:=g.v 4) (L:=[]) h.m gt.oc rfl (by have:=gt.fs 4 (by omega);rw[hg2,hg3]at this;exact this) (λp hp=>by cases hp) h8 (by decide) ?_;rw[aq,az];refine oM (n:=2) (z:=[.bool false,.int 0 (.ofNat 0)]) (c:=[.bool true,.int 0 (eG [] s)]) h.m (λa ha=>?_) rfl rfl (λa ha=>?_) λH1 S1 m1 x1 o1 n1=>?_
  ·simp only[List.mem_cons,List.not_mem_nil,or_false]at ha;rcases ha with rfl|rfl<;>rfl
  ·simp only[List.mem_cons,List.not_mem_nil,or_false]at ha;rcases ha with rfl|rfl<;>rfl
  have c1:=h.keep m1 (by omega) λx hx=>x1.ob x (h.bX hx);have s1:bV S S1 (f::(g::bu++[top])) (f::(g::bu++[top])):=bV.put bV.refl (by omega) λx hx=>x1.ob x hx;unfold vM;rw[av];refine aj m1 o1 (v:=.int 0 (eG [] s)) rfl ?_;have e0:eG [] s = -1:=rfl;rw[e0,az,bz,z0,decide_eq_true (by decide),aG];refine c1.fc (j:=1) rfl ?_;show yA n (.ptr g.c 0) (ak s) H1 _;refine ih n hn' c1.tail hg1 hgs λH2 S2 g2 cY t2 ts2 c2 s2=>?_;obtain⟨c3,s3⟩:=c1.inner c2 s2 (by show AV.ptr g2.c 0=.ptr g.c 0;rw[t2.c]);have hno:¬eU (f::(g::bu++[top])) S.n:=λq=>by have:=h.bX q;omega
  have o2:S2.ob S.n=.ce [.bool true,.int 0 (-1)] 0:=(s3.ob S.n (by omega) hno).trans o1;rw[aq,az];refine hV c3.m o2 (by omega) (l':=[.bool false,.int 0 0]) rfl (by show 0+2≤2;omega) (λa ha=>?_) λH4 m4=>?_
  ·simp only[List.mem_cons,List.not_mem_nil,or_false]at ha;rcases ha with rfl|rfl<;>rfl
  have m4:Mem H4 (S2.set S.n (.ce [.bool false,.int 0 0] 0)):=m4;have k4:∀x,x≠S.n→(S2.set S.n (.ce [.bool false,.int 0 0] 0)).ob x=S2.ob x:=λx hx=>LS.ao _ _ hx;have o4:(S2.set S.n (.ce [.bool false,.int 0 0] 0)).ob S.n=.ce [.bool false,.int 0 0] 0:=LS.au _ _ _;have n4:(S2.set S.n (.ce [.bool false,.int 0 0] 0)).n=S2.n:=rfl;generalize S2.set S.n (.ce [.bool false,.int 0 0] 0)=S4 at m4 k4 o4 n4;have c4:=c3.keep m4 (by omega) λx hx=>k4 x λq=>by
   subst q;exact(s3.own _ hx).elim hno (by omega)
  rw[av];refine aj m4 o4 (v:=.int 0 0) rfl ?_;rw[az,bz,decide_eq_false (by decide),aw];refine axc (o:=false) (z:=0) c4 ht o4 (λq=>hno ⟨f,List.mem_cons_self ..,q⟩) λH5 S5 f2 t5 c5 s5=>?_;exact hK H5 S5 f2 (g2::cY) t5 (.cons t2 ts2) c5 (((s1.trans s3).put (by omega) λx hx=>k4 x (by omega)).trans s5)
section
variable {H:AH}{S:LS}{K:KF}{lo:Nat}{f:Fm}{r:List Fm}{s:List Nat}
theorem axd{L:List (List Nat×Nat)}{a:Nat}(h:Ch lo H S (f::r))(tl:f.l 4=rL L)(tk:f.k 4=L.length)(hB:∀p∈L,B8 p.1)(h8:B8 s)(hl:L.length≤900000)(ha:eG L s=(a:Int))(h0:f.k 0≤1000000)
  (hK:∀H' S' v',Ch lo H' S' (f.set 0 v' (f.k 0+1) (f.l 0++bH 6 a)::r)→bV S S' (f::r) (f.set 0 v' (f.k 0+1) (f.l 0++bH 6 a)::r)→K (.ret (.aE [])) H'):f175 (.ptr f.c 0) (ak s) H K:=by
 show vO Ep K (.ptr f.c 0) (ak s) H;unfold vO;show f171 (.ptr f.c 0) (ak s) H _;refine Ox (cs:=f.cc (fG r)) (v:=f.v 4) (L:=L) h.m h.h.1.oc rfl (by have:=h.h.1.fs 4 (by omega);rw[tk,tl]at this;exact this) hB h8 hl ?_;have z0:Int.ofNat 0=(0:Int):=rfl;rw[aq,az,ha,bz,z0,decide_eq_false (by omega),Bool.not_false,aG];show f86 (.ptr f.c 0) ((6:Nat):Int) (a:Int) H _;refine xL (op:=6) (a:=a) h h0 λH1 S1 v1 c1 s1=>?_;exact hK H1 S1 v1 c1 s1
theorem axe{top:Fm}{bu:List Fm}{L:List (List Nat×Nat)}(h:Ch lo H S (f::(bu++[top])))(ht:rM f)(hn:Ax f)(hg:∀g∈bu,rM g∧Ax g)(hmd:bu.length<1000000)(tl:top.l 4=rL L)(tk:top.k 4=L.length)(hB:∀p∈L,B8 p.1)(h8:B8 s)(hl:L.length≤900000)(hz:0≤eG L s)(h0:f.k 0≤1000000)
  (hK:∀H' S' f2 cY v',Yv s (Ay bu) (Az (eG L s) bu) f f2→AA s (eG L s) bu cY→Ch lo H' S' (f2.set 0 v' (f.k 0+1) (f.l 0++bH 9 0)::(cY++[top]))→bV S S' (f::(bu++[top])) (f2.set 0 v' (f.k 0+1) (f.l 0++bH 9 0)::(cY++[top]))→K (.ret (.aE [])) H'):f175 (.ptr f.c 0) (ak s) H K:=by
 show vO Ep K (.ptr f.c 0) (ak s) H;unfold vO;show f171 (.ptr f.c 0) (ak s) H _;refine Ox (cs:=f.cc (fG (bu++[top]))) (v:=f.v 4) (L:=[]) h.m h.h.1.oc rfl (by have:=h.h.1.fs 4 (by omega);rw[hn.1,hn.2]at this;exact this) (λp hp=>by cases hp) h8 (by decide) ?_;have z0:Int.ofNat 0=(0:Int):=rfl;have e0:eG [] s = -1:=rfl;rw[aq,az,e0,bz,z0,decide_eq_true (by decide),Bool.not_true,aw];show yA G.NL (.ptr f.c 0) (ak s) H _;refine ayE hB h8 hz hl tl tk bu G.NL (by show bu.length<1000000;exact hmd) h ht hg λH1 S1 f2 cY t2 ts2 c2 s2=>?_;rw[aq,az,bz,decide_eq_false (by decide),Bool.not_false,aG];have ek:f2.k 0=f.k 0:=by obtain⟨_,_,rfl⟩:=t2;rfl
 have el:f2.l 0=f.l 0:=by obtain⟨_,_,rfl⟩:=t2;rfl
 have hc:f2.c=f.c:=t2.c;show f86 (.ptr f.c 0) ((9:Nat):Int) ((0:Nat):Int) H1 _;rw[←hc];refine xL (op:=9) (a:=0) c2 (by omega) λH3 S3 v3 c3 s3=>?_;rw[ek,el]at c3 s3;exact hK H3 S3 f2 cY v3 t2 ts2 c3 (s2.trans s3)
end
end Go.Proofs.YtcedghechlgecaaGreatDoor
namespace Go.X
def Fm.nm(f:Fm)(nm:List Nat)(v:AV):Fm:={ f.set 4 v (f.k 4+1) (f.l 4++[ak nm,.int 0 (f.k 4:Int)])with reg:=max f.reg (f.k 4+1) }
end Go.X
namespace Go.Proofs.YtcedghechlgecaaGreatDoor
open Go Go.X Go.Proofs.YtcedghechlgecaaGreatDoor.G
section
variable {H:AH}{S:LS}{K:KF}{lo:Nat}{f:Fm}{r:List Fm}{nm:List Nat}
theorem ayF(h:Ch lo H S (f::r))(hl:f.k 4≤1000000)(hg:f.reg≤1000000)(h0:f.k 0≤1000000)
  (hK:∀H' S' v v0,Ch lo H' S' ((f.nm nm v).set 0 v0 (f.k 0+1) (f.l 0++bH 8 (f.k 4))::r)→bV S S' (f::r) ((f.nm nm v).set 0 v0 (f.k 0+1) (f.l 0++bH 8 (f.k 4))::r)→K (.ret (.aE [])) H'):f146 (.ptr f.c 0) (ak nm) H K:=by
 show Er Lg K (.ptr f.c 0) (ak nm) H;unfold Er;show f84 (.ptr f.c 0) (ak nm) H _;refine aoX h hl hg λH1 S1 v1 c1 s1=>?_;have c1:Ch lo H1 S1 (f.nm nm v1::r):=c1;have s1:bV S S1 (f::r) (f.nm nm v1::r):=s1;rw[aq,az];show f86 (.ptr (f.nm nm v1).c 0) ((8:Nat):Int) (f.k 4:Int) H1 _;refine xL (op:=8) (a:=f.k 4) c1 h0 λH2 S2 v2 c2 s2=>?_;exact hK H2 S2 v1 v2 c2 (s1.trans s2)
end
structure CC where
 xN:AV→AV→AV→AH→KF→Prop
 c85:AV→AV→AH→KF→Prop
 c117:AV→AV→AH→KF→Prop
 afz:AV→AV→AH→KF→Prop
 c119:AV→AV→AH→KF→Prop
 c145:AV→AV→AH→KF→Prop
 c148:AV→AV→AH→KF→Prop
noncomputable def axf:AV→Int→Int→Int→AV→AH→KF→Prop:=ak4 (jH,jH)
theorem at1:an Tryz.prog 156 (ai [.a,.i 0,.i 0,.i 0,.a] axf):=aon (jH,jH) (ad.cons fb (ad.cons fb ad.nil))
noncomputable def lX(S:CC):cn:=(f20,S.xN,f86,f144,S.c145,S.c148,f152,f153,f173,f174,f175,jH,f177,f190)
noncomputable def nc(S:CC):cF:=(S.c85,f86,f144,S.c145,f146,f147,S.c148,jH,jH,f153,axf)
noncomputable def Gx(S:CC):ur:=(f81,f83,S.afz,jH,f141,f143,jH,jH,jH,jH,f170,ff4,jH,f188)
noncomputable def jO(S:CC):iI:=(f84,S.c85,f86)
noncomputable def tS(S:CC):CC:=⟨Es (jO S),IM S.c117,CK (Gx S),CM S.c119,pI (nc S),rv S.c148,mJ (lX S)⟩
noncomputable def tB(n:Nat):CC:=Nat.rec (motive:=λ_=>CC) ⟨λ_ _ _ _ _=>False,λ_ _ _ _=>False,λ_ _ _ _=>False,λ_ _ _ _=>False,λ_ _ _ _=>False,λ_ _ _ _=>False,λ_ _ _ _=>False⟩ (λ_ S=>tS S) n
theorem C8(n:Nat):tB (n+1)=tS (tB n):=rfl
structure aoY(S:CC):Prop where
 k41:an Tryz.prog 41 (ai [.a,.a,.a] S.xN)
 k85:an Tryz.prog 85 (ai [.a,.a] S.c85)
 aAv:an Tryz.prog 117 (ai [.a,.a] S.c117)
 aAw:an Tryz.prog 118 (ai [.a,.a] S.afz)
 aAx:an Tryz.prog 119 (ai [.a,.a] S.c119)
 axg:an Tryz.prog 145 (ai [.a,.a] S.c145)
 aoZ:an Tryz.prog 148 (ai [.a,.a] S.c148)
theorem ayG{S:CC}(h:aoY S):aoY (tS S):=
 ⟨asW (jO S) (ad.cons akk (ad.cons h.k85 (ad.cons tZ ad.nil))),
 asY S.c117 (ad.cons h.aAv ad.nil),
 aoe (Gx S) (ad.cons avT (ad.cons Rd (ad.cons h.aAw (ad.cons fb (ad.cons KZ (ad.cons K0 (ad.cons fb (ad.cons fb (ad.cons fb (ad.cons fb (ad.cons Le (ad.cons Tc (ad.cons fb (ad.cons Lf ad.nil)))))))))))))),
 aof S.c119 (ad.cons h.aAx ad.nil),
 aog (nc S) (ad.cons h.k85 (ad.cons tZ (ad.cons Wb (ad.cons h.axg (ad.cons asS (ad.cons asV (ad.cons h.aoZ (ad.cons fb (ad.cons fb (ad.cons Wh (ad.cons at1 ad.nil))))))))))),
 aol S.c148 (ad.cons h.aoZ ad.nil),
 aom (lX S) (ad.cons ajV (ad.cons h.k41 (ad.cons tZ (ad.cons Wb (ad.cons h.axg (ad.cons h.aoZ (ad.cons We (ad.cons Wh (ad.cons asw (ad.cons Wq (ad.cons asF (ad.cons fb (ad.cons asI (ad.cons asL ad.nil))))))))))))))⟩
theorem ayH(n:Nat):aoY (tB n):=by
 induction n with
 |zero=>exact⟨no3,BG,BG,BG,BG,BG,BG⟩
 |succ n ih=>exact ayG ih
end Go.Proofs.YtcedghechlgecaaGreatDoor
namespace Go.X
def Fm.same(f f':Fm)(i:Nat):Prop:=f'.v i=f.v i∧f'.k i=f.k i∧f'.l i=f.l i
structure XP(f f':Fm)(n:Nat)(a:List AV)(P:Nat→Prop):Prop where
 c:f'.c=f.c
 p:f'.p=f.p
 par:f'.par=f.par
 k0:f'.k 0=f.k 0+n
 l0:f'.l 0=f.l 0++a
 s:∀i,P i→f.same f' i
theorem Fm.fe(f:Fm)(i:Nat)(v:AV)(n:Nat)(l:List AV){j:Nat}(h:j≠i):f.same (f.set i v n l) j:=
 ⟨if_neg h,if_neg h,if_neg h⟩
theorem XP.code(f:Fm)(v:AV)(a:List AV):XP f (f.set 0 v (f.k 0+1) (f.l 0++a)) 1 a (λi=>i≠0):=⟨rfl,rfl,rfl,rfl,rfl,λ_ h=>f.fe 0 _ _ _ h⟩
theorem XP.row(f:Fm){i:Nat}(v:AV)(n:Nat)(l:List AV)(hi:0≠i):XP f (f.set i v n l) 0 [] (λj=>j≠i):=⟨rfl,rfl,rfl,(f.fe i _ _ _ hi).2.1,by rw[(f.fe i _ _ _ hi).2.2,List.append_nil],λ_ h=>f.fe i _ _ _ h⟩
theorem XP.trans{f g h:Fm}{n m:Nat}{a b:List AV}{P Q:Nat→Prop}(x:XP f g n a P)(y:XP g h m b Q):XP f h (n+m) (a++b) (λi=>P i∧Q i):=
 ⟨y.c.trans x.c,y.p.trans x.p,y.par.trans x.par,by rw[y.k0,x.k0];omega,by rw[y.l0,x.l0,List.append_assoc],λi ⟨hp,hq⟩=>⟨(y.s i hq).1.trans (x.s i hp).1,(y.s i hq).2.1.trans (x.s i hp).2.1,(y.s i hq).2.2.trans (x.s i hp).2.2⟩⟩
theorem XP.weak{f g:Fm}{n:Nat}{a:List AV}{P Q:Nat→Prop}(x:XP f g n a P)(h:∀i,Q i→P i):XP f g n a Q:=⟨x.c,x.p,x.par,x.k0,x.l0,λi hi=>x.s i (h i hi)⟩
theorem Ch.box{H H':AH}{S:LS}{lo:Nat}{fs:List Fm}(h:Ch lo H S fs){c:gi}(m:Mem H' (S.push c)):Ch lo H' (S.push c) fs∧bV S (S.push c) fs fs:=
 ⟨h.keep m (Nat.le_succ _) λx hx=>LS.bq _ _ (h.bX hx),bV.put bV.refl (Nat.le_succ _) λx hx=>LS.bq _ _ hx⟩
end Go.X
namespace Go.Proofs.YtcedghechlgecaaGreatDoor
open Go Go.X Go.Proofs.YtcedghechlgecaaGreatDoor.G
section
variable {H:AH}{S:LS}{K:KF}{lo:Nat}{f:Fm}{r:List Fm}{s:List Nat}
theorem axh{C:CC}{cs:List AV}(h:Ch lo H S (f::r))(h1:∀a∈cs,a.one=true)(hk:cs[0]? = some (.int 0 (4:Nat)))(hn:cs[2]? = some (.int 0 (1:Nat)))(h0:f.k 0≤999999)(hl:f.k 1=0∧f.l 1=[]∨f.k 1=1∧f.l 1=[.int 0 1])
  (hK:∀H' S' f',XP f f' 2 (bH 0 0++bH 4 0) (λi=>i≠0∧i≠1)→f'.reg=f.reg→f'.k 1=1→f'.l 1=[.int 0 1]→Ch lo H' S' (f'::r)→bV S S' (f::r) (f'::r)→K (.ret (.aE [])) H'):mJ (lX C) (.ptr f.c 0) (.agg cs) H K:=by
 show oG (lX C) K (.ptr f.c 0) (.agg cs) H;unfold oG wc;refine qa h.m h1 λH1 m1=>?_;obtain⟨c1,s1⟩:=h.box m1;have o1:(S.push (.ce cs 0)).ob S.n=.ce cs 0:=LS.al _ _;have n1:(S.push (.ce cs 0)).n=S.n+1:=rfl;have w1:¬eU (f::r) S.n:=λq=>by have:=h.bX q;omega
 generalize S.push (.ce cs 0)=S1 at m1 c1 s1 o1 n1;show f144 (.ptr f.c 0) H1 _;refine E3 c1 (by omega) λH2 S2 v2 c2 s2=>?_;have o2:S2.ob S.n=.ce cs 0:=(s2.ob S.n (by omega) w1).trans o1;have x2:=XP.code f v2 (bH 0 0);simp only[av,Nat.zero_add];refine aj c2.m o2 hk ?_;rw[az];simp only[bD];rw[decide_eq_false (by decide),aw,decide_eq_false (by decide),aw,decide_eq_false (by decide),aw,decide_eq_true (by decide),aG];refine aj c2.m o2 hn ?_;rw[az];generalize hf2:f.set 0 v2 (f.k 0+1) (f.l 0++bH 0 0)=f2 at c2 s2 x2;have e1:=x2.s 1 (by decide);rw[←x2.c];show f173 (.ptr f2.c 0) 1 H2 _;refine ayD c2 (by rw[e1.2.1,e1.2.2];exact hl) λH3 S3 v3 c3 s3=>?_;rw[aq,az];have x3:=XP.row f2 (i:=1) v3 1 [.int 0 1] (by decide);have k3:(f2.set 1 v3 1 [.int 0 1]).k 1=1:=rfl;have l3:(f2.set 1 v3 1 [.int 0 1]).l 1=[.int 0 1]:=rfl;have r3:(f2.set 1 v3 1 [.int 0 1]).reg=f.reg:=by rw[←hf2];rfl
 generalize f2.set 1 v3 1 [.int 0 1]=f3 at c3 s3 x3 k3 l3 r3;have x23:=x2.trans x3;rw[←x3.c];show f86 (.ptr f3.c 0) ((4:Nat):Int) ((0:Nat):Int) H3 _;refine xL (op:=4) (a:=0) c3 (by rw[x23.k0];omega) λH4 S4 v4 c4 s4=>?_;have x4:=XP.code f3 v4 (bH 4 0);have x:=(x23.trans x4).weak (Q:=λi=>i≠0∧i≠1) λi hi=>⟨⟨hi.1,hi.2⟩,hi.1⟩
 rw[List.append_nil]at x;have g1:=x4.s 1 (by decide);exact hK H4 S4 _ x r3 (g1.2.1.trans k3) (g1.2.2.trans l3) c4 (((s1.trans s2).trans s3).trans s4)
end
section
variable {H:AH}{S:LS}{K:KF}{lo:Nat}{f:Fm}{r:List Fm}{s:List Nat}
theorem aAy{C:CC}{cs:List AV}{L:List (List Nat×Nat)}{a:Nat}(h:Ch lo H S (f::r))(h1:∀a∈cs,a.one=true)(hk:cs[0]? = some (.int 0 (6:Nat)))(hn:cs[3]? = some (ak s))(h0:f.k 0≤999999)(tl:f.l 4=rL L)(tk:f.k 4=L.length)(hB:∀p∈L,B8 p.1)(h8:B8 s)(hl:L.length≤900000)(ha:eG L s=(a:Int))
  (hK:∀H' S' f',XP f f' 2 (bH 0 0++bH 6 a) (λi=>i≠0)→f'.reg=f.reg→Ch lo H' S' (f'::r)→bV S S' (f::r) (f'::r)→K (.ret (.aE [])) H'):mJ (lX C) (.ptr f.c 0) (.agg cs) H K:=by
 show oG (lX C) K (.ptr f.c 0) (.agg cs) H;unfold oG wc;refine qa h.m h1 λH1 m1=>?_;obtain⟨c1,s1⟩:=h.box m1;have o1:(S.push (.ce cs 0)).ob S.n=.ce cs 0:=LS.al _ _;have n1:(S.push (.ce cs 0)).n=S.n+1:=rfl;have w1:¬eU (f::r) S.n:=λq=>by have:=h.bX q;omega
 generalize S.push (.ce cs 0)=S1 at m1 c1 s1 o1 n1;show f144 (.ptr f.c 0) H1 _;refine E3 c1 (by omega) λH2 S2 v2 c2 s2=>?_;have o2:S2.ob S.n=.ce cs 0:=(s2.ob S.n (by omega) w1).trans o1;have x2:=XP.code f v2 (bH 0 0);have r2:(f.set 0 v2 (f.k 0+1) (f.l 0++bH 0 0)).reg=f.reg:=rfl;simp only[av,Nat.zero_add];refine aj c2.m o2 hk ?_;rw[az];simp only[bD];rw[decide_eq_false (by decide),aw,decide_eq_false (by decide),aw,decide_eq_false (by decide),aw,decide_eq_false (by decide),aw,decide_eq_false (by decide),aw,decide_eq_true (by decide),aG];refine aj c2.m o2 hn ?_;generalize f.set 0 v2 (f.k 0+1) (f.l 0++bH 0 0)=f2 at c2 s2 x2 r2;have e4:=x2.s 4 (by decide);rw[←x2.c];have eR:(lX C).2.2.2.2.2.2.2.2.2.2.1=f175:=rfl;rw[eR];refine axd (L:=L) (a:=a) c2 (e4.2.2.trans tl) (e4.2.1.trans tk) hB h8 hl ha (by rw[x2.k0];omega) λH3 S3 v3 c3 s3=>?_;have x:=(x2.trans (XP.code f2 v3 (bH 6 a))).weak (Q:=λi=>i≠0) λi hi=>⟨hi,hi⟩
 exact hK H3 S3 _ x r2 c3 ((s1.trans s2).trans s3)
theorem aAz{C:CC}{cs:List AV}{top:Fm}{bu:List Fm}{L:List (List Nat×Nat)}(h:Ch lo H S (f::(bu++[top])))(h1:∀a∈cs,a.one=true)(hk:cs[0]? = some (.int 0 (6:Nat)))(hn:cs[3]? = some (ak s))(h0:f.k 0≤999999)(ht:rM f)(hf:Ax f)(hg:∀g∈bu,rM g∧Ax g)(hmd:bu.length<1000000)(tl:top.l 4=rL L)(tk:top.k 4=L.length)(hB:∀p∈L,B8 p.1)(h8:B8 s)(hl:L.length≤900000)(hz:0≤eG L s)
  (hK:∀H' S' f' cY,XP f f' 2 (bH 0 0++bH 9 0) (λi=>i≠0∧i≠3∧i≠5)→f'.reg=f.reg→f'.k 3=1∧f'.l 3=[.bool (Ay bu),.int 0 (Az (eG L s) bu)]→AA s (eG L s) bu cY→Ch lo H' S' (f'::(cY++[top]))→bV S S' (f::(bu++[top])) (f'::(cY++[top]))→K (.ret (.aE [])) H'):mJ (lX C) (.ptr f.c 0) (.agg cs) H K:=by
 show oG (lX C) K (.ptr f.c 0) (.agg cs) H;unfold oG wc;refine qa h.m h1 λH1 m1=>?_;obtain⟨c1,s1⟩:=h.box m1;have o1:(S.push (.ce cs 0)).ob S.n=.ce cs 0:=LS.al _ _;have n1:(S.push (.ce cs 0)).n=S.n+1:=rfl;have w1:¬eU (f::(bu++[top])) S.n:=λq=>by have:=h.bX q;omega
 generalize S.push (.ce cs 0)=S1 at m1 c1 s1 o1 n1;show f144 (.ptr f.c 0) H1 _;refine E3 c1 (by omega) λH2 S2 v2 c2 s2=>?_;have o2:S2.ob S.n=.ce cs 0:=(s2.ob S.n (by omega) w1).trans o1;have x2:=XP.code f v2 (bH 0 0);have r2:(f.set 0 v2 (f.k 0+1) (f.l 0++bH 0 0)).reg=f.reg:=rfl;simp only[av,Nat.zero_add];refine aj c2.m o2 hk ?_;rw[az];simp only[bD];rw[decide_eq_false (by decide),aw,decide_eq_false (by decide),aw,decide_eq_false (by decide),aw,decide_eq_false (by decide),aw,decide_eq_false (by decide),aw,decide_eq_true (by decide),aG];refine aj c2.m o2 hn ?_;generalize f.set 0 v2 (f.k 0+1) (f.l 0++bH 0 0)=f2 at c2 s2 x2 r2;have e3:=x2.s 3 (by decide);have e4:=x2.s 4 (by decide);have e5:=x2.s 5 (by decide);obtain⟨t1,t2,t3,t4,t5,t6⟩:=ht;have ht2:rM f2:=⟨e5.1.trans t1,e5.2.1.trans t2,e5.2.2.trans t3,e3.1.trans t4,e3.2.1.trans t5,e3.2.2.trans t6⟩
 rw[←x2.c];have eR:(lX C).2.2.2.2.2.2.2.2.2.2.1=f175:=rfl;rw[eR];refine axe (L:=L) c2 ht2 ⟨e4.2.1.trans hf.1,e4.2.2.trans hf.2⟩ hg hmd tl tk hB h8 hl hz (by rw[x2.k0];omega) λH3 S3 f3 cY v3 t3 ts3 c3 s3=>?_;have x3:XP f2 (f3.set 0 v3 (f2.k 0+1) (f2.l 0++bH 9 0)) 1 (bH 9 0) (λi=>i≠0∧i≠3∧i≠5):=by
  obtain⟨v5,Tn,rfl⟩:=t3;refine⟨rfl,rfl,rfl,rfl,rfl,λi ⟨i0,i3,i5⟩=>?_⟩;exact⟨(if_neg i0).trans ((if_neg i3).trans (if_neg i5)),(if_neg i0).trans ((if_neg i3).trans (if_neg i5)),(if_neg i0).trans ((if_neg i3).trans (if_neg i5))⟩
 have r3:(f3.set 0 v3 (f2.k 0+1) (f2.l 0++bH 9 0)).reg=f2.reg:=by
  obtain⟨v5,Tn,rfl⟩:=t3;rfl
 have g3:(f3.set 0 v3 (f2.k 0+1) (f2.l 0++bH 9 0)).k 3=1∧(f3.set 0 v3 (f2.k 0+1) (f2.l 0++bH 9 0)).l 3=[.bool (Ay bu),.int 0 (Az (eG L s) bu)]:=by
  obtain⟨v5,Tn,rfl⟩:=t3;exact⟨rfl,rfl⟩
 have x:=(x2.trans x3).weak (Q:=λi=>i≠0∧i≠3∧i≠5) λi hi=>⟨hi.1,hi⟩
 exact hK H3 S3 _ cY x (r3.trans r2) g3 ts3 c3 ((s1.trans s2).trans s3)
end
end Go.Proofs.YtcedghechlgecaaGreatDoor
namespace Go.X
section
variable {H H':AH}{S S' mn:LS}
def dI(c p:Nat):Fm:=⟨c,p,λ_=>.ab,λ_=>[],λ_=>0,0,0⟩
theorem Ch.new{lo:Nat}{fs:List Fm}(h:Ch lo H S fs)(m:Mem H' ((S.push (.ce (dI (S.n+1) S.n).pc 0)).push (.ce ((dI (S.n+1) S.n).cc (fG fs)) 0))) :
  Ch lo H' ((S.push (.ce (dI (S.n+1) S.n).pc 0)).push (.ce ((dI (S.n+1) S.n).cc (fG fs)) 0)) (dI (S.n+1) S.n::fs):=by
 have k:∀x,x<S.n→((S.push (.ce (dI (S.n+1) S.n).pc 0)).push (.ce ((dI (S.n+1) S.n).cc (fG fs)) 0)).ob x=S.ob x:=λx hx=>(LS.bq _ _ (Nat.lt_succ_of_lt hx)).trans (LS.bq _ _ hx);have ho:∀x,(dI (S.n+1) S.n).own x→x=S.n+1∨x=S.n:=λx hx=>by
  rcases hx with g|g|⟨i,_,g⟩
  ·exact .inl g
  ·exact .inr g
  ·exact g.elim
 refine⟨m,⟨⟨LS.al _ _,(LS.bq _ _ (Nat.lt_succ_self _)).trans (LS.al _ _),λi _=>cK.nil _ _,Nat.succ_ne_self _,λi _=>⟨id,id⟩,λi j _ _ _ x hx=>hx.elim⟩,h.h.keep h.m λx hx=>k x (h.bX hx)⟩,List.pairwise_cons.2 ⟨λg hg x hx hy=>?_,h.d⟩,λx hx=>?_,Nat.le_trans h.l (by show S.n≤S.n+1+1;omega)⟩
 ·have:=h.bX ⟨g,hg,hy⟩;rcases ho x hx with e|e<;>omega
 ·obtain⟨g,hg,hy⟩:=hx;rcases List.mem_cons.1 hg with e|e
  ·subst e;have:=h.l;rcases ho x hy with e|e<;>omega
  ·exact h.lw x ⟨g,e,hy⟩
end
end Go.X
namespace Go.Proofs.YtcedghechlgecaaGreatDoor
open Go Go.X Go.Proofs.YtcedghechlgecaaGreatDoor.G
section
variable {H H':AH}{S S':LS}
def BJ(l:List (Nat×Nat)):List AV:=l.flatMap λi=>bH i.1 i.2
theorem qK(a b:List (Nat×Nat)):BJ (a++b)=BJ a++BJ b:=List.flatMap_append ..
def tkF(t:List (Bool×Int)):List AV:=t.flatMap λx=>[.bool x.1,.int 0 x.2]
def oN(k1 reg k3 k2:Nat)(i:Nat×Nat):Prop:=(i.1=0∨i.1=1∨i.1=31)∨i.1=4∧i.2<k1∨(i.1=6∨i.1=8)∧i.2<reg∨i.1=9∧i.2<k3∨i.1=12∧i.2<k2
def aAA(t:List (Bool×Int))(reg k:Nat):Prop:=∀x∈t,0≤x.2∧(x.1=true→x.2<reg)∧(x.1=false→x.2<k)
structure yJ(S:LS)(D:Nat→Prop)(p:Nat)(v0 v1 v2 v3:AV)(k1 k2 par reg:Nat)(l1 l2:List AV)(is:List (Nat×Nat))(t:List (Bool×Int)):Prop where
 dp:D p
 op:S.ob p=.ce [v0,v1,.ab,v2,v3,.int 0 (par:Int),.int 0 (reg:Int),.int 0 0] 0
 f0:cK S 3 v0 is.length (BJ is)
 f1:cK S 1 v1 k1 l1
 f2:cK S 1 v2 k2 l2
 f3:cK S 2 v3 t.length (tkF t)
 d0:∀x,aF v0 x→D x
 d1:∀x,aF v1 x→D x
 d2:∀x,aF v2 x→D x
 d3:∀x,aF v3 x→D x
 ok:∀i∈is,oN k1 reg t.length k2 i
 la:∃is',is=is'++[(31,0)]
 pr:par≤reg
 le:is.length≤1000
 tl:t.length≤1
theorem yJ.keep{D D':Nat→Prop}{p:Nat}{v0 v1 v2 v3:AV}{k1 k2 par reg:Nat}{l1 l2:List AV}{is:List (Nat×Nat)}{t:List (Bool×Int)}(h:yJ S D p v0 v1 v2 v3 k1 k2 par reg l1 l2 is t)(hM:Mem H S)(hk:∀x,D x→S'.ob x=S.ob x)(hD:∀x,D x→D' x):yJ S' D' p v0 v1 v2 v3 k1 k2 par reg l1 l2 is t:=
 { h with dp:=hD _ h.dp,op:=(hk p h.dp).trans h.op,f0:=h.f0.keep hM λx hx _=>hk x (h.d0 x hx),f1:=h.f1.keep hM λx hx _=>hk x (h.d1 x hx),f2:=h.f2.keep hM λx hx _=>hk x (h.d2 x hx),f3:=h.f3.keep hM λx hx _=>hk x (h.d3 x hx),d0:=λx hx=>hD x (h.d0 x hx),d1:=λx hx=>hD x (h.d1 x hx),d2:=λx hx=>hD x (h.d2 x hx),d3:=λx hx=>hD x (h.d3 x hx) }
inductive kI(S:LS)(D:Nat→Prop):AV→Nat→List (Bool×Int)→Prop
 |leaf {p:Nat}{v0 v1 v2 v3:AV}{k1 par reg:Nat}{l1 l2:List AV}{is:List (Nat×Nat)}{t:List (Bool×Int)}:yJ S D p v0 v1 v2 v3 k1 0 par reg l1 l2 is t→kI S D (.ptr p 0) is.length t
 |node {p:Nat}{v0 v1 v2 v3 w:AV}{k1 par reg n:Nat}{l1:List AV}{is:List (Nat×Nat)}{t t':List (Bool×Int)}:yJ S D p v0 v1 v2 v3 k1 1 par reg l1 [w] is t→kI S D w n t'→aAA t' reg t.length→kI S D (.ptr p 0) (is.length+n) t
theorem kI.keep{D:Nat→Prop}{v:AV}{n:Nat}{t:List (Bool×Int)}(h:kI S D v n t)(hM:Mem H S)(hk:∀x,D x→S'.ob x=S.ob x):kI S' D v n t:=by
 induction h with
 |leaf h=>exact .leaf (h.keep hM hk λ_ g=>g)
 |node h _ h3 ih=>exact .node (h.keep hM hk λ_ g=>g) ih h3
theorem kI.weak{D D':Nat→Prop}{v:AV}{n:Nat}{t:List (Bool×Int)}(h:kI S D v n t)(hM:Mem H S)(hD:∀x,D x→D' x):kI S D' v n t:=by
 induction h with
 |leaf h=>exact .leaf (h.keep hM (λ_ _=>rfl) hD)
 |node h _ h3 ih=>exact .node (h.keep hM (λ_ _=>rfl) hD) ih h3
end
section
variable {H:AH}{S:LS}{K:KF}{lo:Nat}{f:Fm}{r:List Fm}{s:List Nat}
structure ao0(top:Fm)(L:List (List Nat×Nat))(s:List Nat):Prop where
 tl:top.l 4=rL L
 tk:top.k 4=L.length
 hB:∀p∈L,B8 p.1
 h8:B8 s
 hl:L.length≤900000
 hz:0≤eG L s
def NV(F:AV→AV→AV→AH→KF→Prop)(s:List Nat)(b:List aP)(n q:Nat):Prop:=
 ∀{lo:Nat}{H:AH}{S:LS}{K:KF}{c p:Nat}{bu:List Fm}{top:Fm}{L:List (List Nat×Nat)}{vp vb:AV},Ch lo H S (dI c p::(bu++[top]))→(∀x∈bu,rM x∧Ax x)→bu.length<q→ao0 top L s→iZ S (dQ lo) vp []→lz S (dQ lo) vb b→
  (∀(H':AH) (S':LS) (cY:List Fm) (D:Nat→Prop),AA s (eG L s) bu cY→Ch lo H' S' (cY++[top])→bV S S' (dI c p::(bu++[top])) (cY++[top])→kI S' D (.ptr p 0) n [(Ay bu,Az (eG L s) bu)]→(∀x,D x→lo≤x∧x<S'.n∧¬eU (cY++[top]) x∧(x=p∨S.n≤x))→K (.ret (.ptr p 0)) H')→F (.ptr c 0) vp vb H K
theorem AA.head{z:Int}{bu cY:List Fm}{top:Fm}(ht:AA s z bu cY)(e:f::r=bu++[top]):∃f2 r2,cY++[top]=f2::r2∧XP f f2 0 [] (λi=>i≠3∧i≠5)∧f2.reg=f.reg:=by
 cases ht with
 |nil=>
  cases e;exact⟨f,[],rfl,⟨rfl,rfl,rfl,rfl,(List.append_nil _).symm,λi _=>⟨rfl,rfl,rfl⟩⟩,rfl⟩
 |cons hr ht=>
  rename_i g g2 l l2;cases e;refine⟨g2,l2++[top],rfl,?_⟩;obtain⟨v5,v3,rfl⟩:=hr;refine⟨⟨rfl,rfl,rfl,rfl,(List.append_nil _).symm,λi ⟨i3,i5⟩=>?_⟩,rfl⟩;exact⟨(if_neg i3).trans (if_neg i5),(if_neg i3).trans (if_neg i5),(if_neg i3).trans (if_neg i5)⟩
end
end Go.Proofs.YtcedghechlgecaaGreatDoor
namespace Go.X
theorem bW.axi{H:AH}{S:LS}{Q:Nat→Prop}{sz n j:Nat}{v a:AV}{cl:Nat→List AV}{i q:Nat}{k:AV→Prop}(h:bW S Q sz v n cl)(hM:Mem H S)(hi:i<n)(hj:j<sz)(ha:(cl i)[j]? = some a)(hk:k a):cw sz v (.int q i) λp=>ah j p λp'=>af p' H k:=by
 refine h.at_ hi λb o cs m _ h3 h4 h5=>?_;rw[av];refine aj hM h3 ?_ hk;rw[←h5,List.getElem?_take,if_pos hj,List.getElem?_drop]at ha;exact ha
end Go.X
namespace Go.Proofs.YtcedghechlgecaaGreatDoor
open Go Go.X Go.Proofs.YtcedghechlgecaaGreatDoor.G
section
variable {H:AH}{S:LS}{K:KF}{lo:Nat}{f:Fm}{r:List Fm}{s:List Nat}
theorem axj{C:CC}{cs:List AV}{b:List aP}{n q:Nat}{z:Int}{vf vp vb:AV}(hF:NV C.xN s b n q)(h:Ch lo H S (f::r))
  (hfs:∀f1,XP f f1 1 (bH 0 0) (λi=>i≠0)→∃bu top L,f1::r=bu++[top]∧(∀x∈bu,rM x∧Ax x)∧bu.length<q∧ao0 top L s∧eG L s=z)
  (h1:∀a∈cs,a.one=true) (hk:cs[0]? = some (.int 0 (7:Nat))) (hv:cs[6]? = some vf) (hfn:bW S (dQ lo) 2 vf 1 (λ_=>[vp,vb])) (hp:iZ S (dQ lo) vp []) (hb:lz S (dQ lo) vb b) (h0:f.k 0≤999999) (h2:f.v 2=.ab)
  (hK:∀H' S' f' r' w D t,XP f f' 2 (bH 0 0++bH 12 0) (λi=>i=1∨i=4)→f'.reg=f.reg→f'.k 2=1→f'.l 2=[w]→kI S' D w n t→(∀x,D x→lo≤x∧x<S'.n∧¬eU (f'::r') x∧S.n≤x)→(∃f1 f2 bu top cY,XP f f1 1 (bH 0 0) (λi=>i≠0)∧f1::r=bu++[top]∧AA s z bu cY∧cY++[top]=f2::r'∧t=[(Ay bu,Az z bu)]∧f2.same f' 3)→Ch lo H' S' (f'::r')→bV S S' (f::r) (f'::r')→K (.ret (.aE [])) H'):mJ (lX C) (.ptr f.c 0) (.agg cs) H K:=by
 show oG (lX C) K (.ptr f.c 0) (.agg cs) H;unfold oG wc;refine qa h.m h1 λH1 m1=>?_;obtain⟨c1,s1⟩:=h.box m1;have o1:(S.push (.ce cs 0)).ob S.n=.ce cs 0:=LS.al _ _;have n1:(S.push (.ce cs 0)).n=S.n+1:=rfl;have w1:¬eU (f::r) S.n:=λq=>by have:=h.bX q;omega
 generalize S.push (.ce cs 0)=S1 at m1 c1 s1 o1 n1;show f144 (.ptr f.c 0) H1 _;refine E3 c1 (by omega) λH2 S2 v2 c2 s2=>?_;have o2:S2.ob S.n=.ce cs 0:=(s2.ob S.n (by omega) w1).trans o1;have x2:=XP.code f v2 (bH 0 0);have r2:(f.set 0 v2 (f.k 0+1) (f.l 0++bH 0 0)).reg=f.reg:=rfl;simp only[av,Nat.zero_add];refine aj c2.m o2 hk ?_;rw[az];simp only[bD];rw[decide_eq_false (by decide),aw,decide_eq_false (by decide),aw,decide_eq_false (by decide),aw,decide_eq_false (by decide),aw,decide_eq_false (by decide),aw,decide_eq_false (by decide),aw,decide_eq_true (by decide),aG];generalize f.set 0 v2 (f.k 0+1) (f.l 0++bH 0 0)=f1 at c2 s2 x2 r2;have n2:S1.n≤S2.n:=s2.n;refine bF c2.m (λa ha=>?_) λH3 m3=>?_
 ·simp only[List.mem_cons,List.not_mem_nil,or_false]at ha;rcases ha with rfl|rfl|rfl|rfl|rfl|rfl|rfl|rfl<;>rfl
 refine gU rfl (gU rfl ?_);refine bF m3 (λa ha=>?_) λH4 m4=>?_
 ·simp only[List.mem_cons,List.not_mem_nil,or_false]at ha;rcases ha with rfl|rfl|rfl|rfl|rfl|rfl<;>rfl
 have m4:Mem H4 ((S2.push (.ce (dI (S2.n+1) S2.n).pc 0)).push (.ce ((dI (S2.n+1) S2.n).cc (fG (f1::r))) 0)):=by
  rw[←x2.c]at m4;exact m4
 have c4:=c2.new m4;have k4:∀x,x<S2.n→((S2.push (.ce (dI (S2.n+1) S2.n).pc 0)).push (.ce ((dI (S2.n+1) S2.n).cc (fG (f1::r))) 0)).ob x=S2.ob x:=λx hx=>(LS.bq _ _ (Nat.lt_succ_of_lt hx)).trans (LS.bq _ _ hx);have n4:((S2.push (.ce (dI (S2.n+1) S2.n).pc 0)).push (.ce ((dI (S2.n+1) S2.n).cc (fG (f1::r))) 0)).n=S2.n+2:=rfl;generalize (S2.push (.ce (dI (S2.n+1) S2.n).pc 0)).push (.ce ((dI (S2.n+1) S2.n).cc (fG (f1::r))) 0)=S4 at m4 c4 k4 n4;have s4:bV S S4 (f::r) (f1::r):=bV.put (s1.trans s2) (by omega) λx hx=>k4 x (by omega);have lw:∀x,dQ lo x→S4.ob x=S.ob x:=λx hx=>by
  have hx:x<lo:=hx;have hl:=h.l;exact s4.ob x (by omega) λq=>by have:=h.lw x q;omega
 have gf:=c4.h.2.1;have e2:=x2.s 2 (by decide);have hv2:f1.v 2=.ab:=e2.1.trans h2;unfold Mh Mg;rw[←x2.c];simp only[aW,av,Nat.zero_add];refine aj c4.m gf.oc (v:=.ptr f1.p 0) rfl ?_;refine aj c4.m gf.oc (v:=.ptr f1.p 0) rfl ?_;simp only[aW,av,Nat.zero_add];refine aj c4.m gf.op (v:=f1.v 2) rfl ?_;have o4:S4.ob S.n=.ce cs 0:=(k4 _ (by omega)).trans o2;refine aj c4.m o4 hv ?_;have hs4:=hfn.go (S':=S4) (Q':=dQ lo) lw λ_ g=>g;refine bW.axi (i:=0) hs4 c4.m (by omega) (by omega) (j:=0) (a:=vp) rfl ?_;refine aj c4.m o4 hv ?_;refine bW.axi (i:=0) hs4 c4.m (by omega) (by omega) (j:=1) (a:=vb) rfl ?_;have eR:(lX C).2.1=C.xN:=rfl;rw[eR];obtain⟨bu,top,L,ef,ayI,hml,hT,ez⟩:=hfs f1 x2;rw[ef]at c4;show C.xN (.ptr (S2.n+1) 0) vp vb H4 _;refine hF c4 ayI hml hT ⟨hp.1.go lw λ_ g=>g,hp.2⟩ (hb.go lw λ_ g=>g) λH5 S5 cY D ts c5 s5 pt hD=>?_;rw[ez]at ts pt;obtain⟨f2,r',e5,x22,r22⟩:=ts.head ef;rw[e5]at c5 s5 hD;rw[aq];have g2:=c5.h.1;have e22:=x22.s 2 (by decide);have axk:f2.v 2=.ab:=e22.1.trans hv2;obtain⟨k2,l2⟩:f2.k 2=0∧f2.l 2=[]:=by
  have g:=g2.fs 2 (by omega);rw[axk]at g;rcases g with⟨_,g1,g3⟩|⟨_,_,_,_,g,_⟩
  ·exact⟨g1,g3⟩
  ·cases g
 rw[←x22.c,←x22.p];refine aj c5.m g2.op (v:=f2.v 2) rfl ?_;refine bA (by rw[axk,hv2];simp[aH]) ?_;refine aj c5.m g2.oc (v:=.ptr f2.p 0) rfl ?_;refine bA (by simp[aH]) ?_;refine aj c5.m g2.oc (v:=.ptr f2.p 0) rfl ?_;refine bA (by simp[aH]) ?_;rw[←e22.1];have hr:=λk=>c5.rowP (i:=2) (j:=3) (bytes:=8) (l':=[.ptr S2.n 0]) (k:=k) (.inr (.inr (.inl ⟨rfl,rfl⟩))) rfl (λa ha=>by
  rw[List.mem_singleton]at ha;subst ha;rfl) (by rw[k2];omega)
 simp only[aW,av,Nat.zero_add]at hr;refine hr _ λH6 S6 v6 c6 s6=>?_;rw[k2,l2]at c6 s6;have x3:=XP.row f2 (i:=2) v6 1 [.ptr S2.n 0] (by decide);have k3:(f2.set 2 v6 1 [.ptr S2.n 0]).k 2=1:=rfl;have l3:(f2.set 2 v6 1 [.ptr S2.n 0]).l 2=[.ptr S2.n 0]:=rfl;have r3:(f2.set 2 v6 1 [.ptr S2.n 0]).reg=f.reg:=r22.trans r2;have c6:Ch lo H6 S6 (f2.set 2 v6 1 [.ptr S2.n 0]::r'):=c6;have s6:bV S5 S6 (f2::r') (f2.set 2 v6 1 [.ptr S2.n 0]::r'):=s6;generalize f2.set 2 v6 1 [.ptr S2.n 0]=f3 at c6 s6 x3 k3 l3 r3;have g3:=c6.h.1;unfold Mf Me;rw[←x3.c];simp only[aW,av,Nat.zero_add];refine aj c6.m g3.oc (v:=.ptr f3.p 0) rfl ?_;simp only[aW,av,Nat.zero_add];refine aj c6.m g3.op (v:=f3.v 2) rfl ?_;refine(g3.fs 2 (by omega)).len ?_;rw[k3,az];simp only[wH,fN];refine w0 (by omega) (by omega) ?_;have axl:=(x2.trans x22).trans x3;have eP:(lX C).2.2.1=f86:=rfl;rw[eP];show f86 (.ptr f3.c 0) ((12:Nat):Int) ((0:Nat):Int) H6 _;refine xL (op:=12) (a:=0) c6 (by rw[axl.k0];omega) λH7 S7 v7 c7 s7=>?_;have x7:=XP.code f3 v7 (bH 12 0);have xx:=(axl.trans x7).weak (Q:=λi=>i=1∨i=4) λi hi=>by
  rcases hi with rfl|rfl<;>exact⟨⟨⟨by decide,by decide,by decide⟩,by decide⟩,by decide⟩
 rw[List.append_nil,List.append_nil]at xx;have e7:=x7.s 2 (by decide);have hfm:∀x,eU (dI (S2.n+1) S2.n::(bu++[top])) x→eU (f::r) x∨S.n≤x:=λx ⟨g,hg,hx⟩=>by
  rcases List.mem_cons.1 hg with q|q
  ·subst q;rcases hx with w|w|⟨i,_,w⟩
   ·have w:x=S2.n+1:=w;exact .inr (by omega)
   ·have w:x=S2.n:=w;exact .inr (by omega)
   ·exact w.elim
  ·rw[←ef]at q;exact s4.own x ⟨g,q,hx⟩
 have s45:bV S S5 (f::r) (f2::r'):=⟨Nat.le_trans s4.n s5.n,λx hx hno=>(s5.ob x (Nat.lt_of_lt_of_le hx s4.n) λq=>(hfm x q).elim hno (by omega)).trans (s4.ob x hx hno),λx hx=>by
  rcases s5.own x hx with q|q
  ·exact hfm x q
  ·have:=s4.n;exact .inr (by omega)⟩
 have s67:=s6.trans s7;have hno:∀x,D x→¬eU (f3.set 0 v7 (f3.k 0+1) (f3.l 0++bH 12 0)::r') x:=λx hx q=>by
  obtain⟨_,d2,d3,_⟩:=hD x hx;exact(s67.own x q).elim d3 (by omega)
 have pt7:kI S7 D (.ptr S2.n 0) n [(Ay bu,Az z bu)]:=pt.keep c5.m λx hx=>s67.ob x (hD x hx).2.1 (hD x hx).2.2.1;have a3:=x3.s 3 (by decide);have a7:=x7.s 3 (by decide);have e73:f2.same (f3.set 0 v7 (f3.k 0+1) (f3.l 0++bH 12 0)) 3:=⟨a7.1.trans a3.1,a7.2.1.trans a3.2.1,a7.2.2.trans a3.2.2⟩
 refine hK H7 S7 _ r' (.ptr S2.n 0) D _ xx r3 (e7.2.1.trans k3) (e7.2.2.trans l3) pt7 (λx hx=>?_) ⟨f1,f2,bu,top,cY,x2,ef,ts,e5,rfl,e73⟩ c7 (s45.trans s67);obtain⟨d1,d2,d3,d4⟩:=hD x hx;have:=s67.n;refine⟨d1,by omega,hno x hx,?_⟩;rcases d4 with q|q<;>omega
end
section
variable {H:AH}{S:LS}{K:KF}{lo:Nat}{f:Fm}{r:List Fm}{s:List Nat}
theorem E4{F:AV→AV→AH→KF→Prop}{v:AV}{c:List AV}{Q:AH→Prop}(h:Ch lo H S (f::r))(hs:bW S (dQ lo) 7 v 1 (λ_=>c))(hc:c.length=7)(hc1:∀a∈c,a.one=true)
  (hE:∀H' S',Ch lo H' S' (f::r)→bV S S' (f::r) (f::r)→∀K':KF,(∀H2,Q H2→K' (.ret (.aE [])) H2)→F (.ptr f.c 0) (.agg c) H' K') (hK:∀H2,Q H2→K (.ret (.aE [])) H2):rv F (.ptr f.c 0) v H K:=by
 show EJ F K (wa F K G.NL) (.ptr f.c 0) v H;unfold EJ;refine hs.len ?_;rw[az];have cQ:G.NL=999998+1+1:=rfl;generalize 999998=q at cQ;rw[cQ];show vZ F K (wa F K (q+1)) (.ptr f.c 0) v 1 0 H;unfold vZ;rw[bz,decide_eq_true (by decide),aG];refine bW.load (i:=0) hs h.m (by omega) ?_;rw[gQ];refine oM (n:=7) (c:=c) h.m (λa ha=>?_) rfl hc hc1 λH1 S1 m1 x1 o1 n1=>?_
 ·simp only[z7,List.mem_cons,List.not_mem_nil,or_false]at ha;rcases ha with rfl|rfl|rfl|rfl|rfl|rfl|rfl<;>rfl
 refine kx m1 o1 (by omega) ?_;rw[List.drop_zero,List.take_of_length_le (by omega)];refine hE H1 S1 (h.keep m1 (by omega) λx hx=>x1.ob x (h.bX hx)) (bV.put bV.refl (by omega) λx hx=>x1.ob x hx) _ λH2 q2=>?_;rw[aq];refine w0 (by decide) (by decide) ?_;show vZ F K (wa F K q) (.ptr f.c 0) v 1 1 H2;unfold vZ;rw[bz,decide_eq_false (by decide),aw];exact hK H2 q2
end
section
variable {H:AH}{S:LS}{K:KF}{lo:Nat}{f:Fm}{r:List Fm}{s:List Nat}
theorem ao1{C:CC}{vn vl vb at_:AV}{nm:List Nat}{cl:Nat→List AV}{G:LS→Fm→LS→Fm→List Fm→Prop}(h:Ch lo H S (f::r))(h1:∀a∈[AV.int 0 (1:Nat),at_,vn,vl,vb],a.one=true)(hn:iZ S (dQ lo) vn [nm])(hl:bW S (dQ lo) 7 vl 1 cl)(h0:f.k 0≤900000)
  (hE:∀H1 S1 f1,XP f f1 1 (bH 0 0) (λi=>i≠0)→f1.reg=f.reg→Ch lo H1 S1 (f1::r)→bV S S1 (f::r) (f1::r)→∀K':KF,(∀H2 S2 f2 r2,G S1 f1 S2 f2 r2→f2.c=f.c→f2.k 4≤900000→f2.reg≤900000→f2.k 0≤900000→Ch lo H2 S2 (f2::r2)→bV S1 S2 (f1::r) (f2::r2)→K' (.ret (.aE [])) H2)→C.c145 (.ptr f1.c 0) vl H1 K')
  (hK:∀H3 S3 S1 f1 S2 f2 r2 v v0,XP f f1 1 (bH 0 0) (λi=>i≠0)→G S1 f1 S2 f2 r2→bV S2 S3 (f2::r2) ((f2.nm nm v).set 0 v0 (f2.k 0+1) (f2.l 0++bH 8 (f2.k 4))::r2)→Ch lo H3 S3 ((f2.nm nm v).set 0 v0 (f2.k 0+1) (f2.l 0++bH 8 (f2.k 4))::r2)→bV S S3 (f::r) ((f2.nm nm v).set 0 v0 (f2.k 0+1) (f2.l 0++bH 8 (f2.k 4))::r2)→K (.ret (.aE [])) H3):pI (nc C) (.ptr f.c 0) (.agg [.int 0 (1:Nat),at_,vn,vl,vb]) H K:=by
 show Ai (nc C) K (.ptr f.c 0) (.agg [.int 0 (1:Nat),at_,vn,vl,vb]) H;unfold Ai Ex;refine afp h.m λH1 S1 m1 x1 o1 n1=>?_;refine Gs m1 h1 λH2 S2 m2 x2 o2 n2=>?_;have c2:=h.keep m2 (by omega) λx hx=>(x2.ob x (by have:=h.bX hx;omega)).trans (x1.ob x (h.bX hx));have s2:bV S S2 (f::r) (f::r):=bV.put bV.refl (by omega) λx hx=>(x2.ob x (by omega)).trans (x1.ob x hx);have b1:S2.ob S.n=.ce [.ptr f.c 0] 0:=(x2.ob _ (by omega)).trans o1;have w:∀x,S.n≤x→x<S2.n→¬eU (f::r) x:=λx hx _ q=>by have:=h.bX q;omega
 refine aj m2 b1 (v:=.ptr f.c 0) rfl ?_;have e3:(nc C).2.2.1=f144:=rfl;rw[e3];refine E3 c2 (by omega) λH3 S3 v3 c3 s3=>?_;have p3:S3.ob S.n=.ce [.ptr f.c 0] 0:=(s3.ob S.n (by omega) (w _ (Nat.le_refl _) (by omega))).trans b1;have q3:S3.ob S1.n=.ce [.int 0 (1:Nat),at_,vn,vl,vb] 0:=(s3.ob S1.n (by omega) (w _ (by omega) (by omega))).trans o2;have x3:=XP.code f v3 (bH 0 0);have r3:(f.set 0 v3 (f.k 0+1) (f.l 0++bH 0 0)).reg=f.reg:=rfl;generalize f.set 0 v3 (f.k 0+1) (f.l 0++bH 0 0)=f1 at c3 s3 x3 r3;have n3:=s3.n;have w3:∀x,S.n≤x→x<S2.n→¬eU (f1::r) x:=λx h1 h2 q=>(s3.own x q).elim (w x h1 h2) (by omega);simp only[av,Nat.zero_add];refine aj c3.m q3 (v:=.int 0 (1:Nat)) rfl ?_;rw[az];simp only[bD];rw[decide_eq_true (by decide),aG];refine aj c3.m p3 (v:=.ptr f.c 0) rfl ?_;refine aj c3.m q3 (v:=vl) rfl ?_;have e4:(nc C).2.2.2.1=C.c145:=rfl;rw[e4,←x3.c];refine hE H3 S3 f1 x3 r3 c3 (s2.trans s3) _ λH4 S4 f2 r2 g ec k4 rg k0 c4 s4=>?_;rw[aq];have n4:=s4.n;have p4:S4.ob S.n=.ce [.ptr f2.c 0] 0:=by
  rw[ec];exact(s4.ob S.n (by omega) (w3 _ (Nat.le_refl _) (by omega))).trans p3
 have q4:S4.ob S1.n=.ce [.int 0 (1:Nat),at_,vn,vl,vb] 0:=(s4.ob S1.n (by omega) (w3 _ (by omega) (by omega))).trans q3;have s04:bV S S4 (f::r) (f2::r2):=(s2.trans s3).trans s4;have lw:∀x,dQ lo x→S4.ob x=S.ob x:=λx hx=>by
  have hx:x<lo:=hx;have hl:=h.l;exact s04.ob x (by omega) λq=>by have:=h.lw x q;omega
 unfold LG LF;simp only[av,Nat.zero_add];refine aj c4.m q4 (v:=vl) rfl ?_;refine(hl.go (S':=S4) (Q':=dQ lo) lw λ_ g=>g).len ?_;rw[az];simp only[bD];rw[decide_eq_false (by decide),aw];unfold LD LC;refine aj c4.m p4 (v:=.ptr f2.c 0) rfl ?_;simp only[av,Nat.zero_add];refine aj c4.m q4 (v:=vn) rfl ?_;have hn4:=hn.1.go (S':=S4) (Q':=dQ lo) lw λ_ g=>g;refine bW.E0 (i:=0) hn4 c4.m (by show 0<1;omega) ?_;have e5:(nc C).2.2.2.2.1=f146:=rfl;rw[e5];show f146 (.ptr f2.c 0) (ak nm) H4 _;refine ayF c4 (by omega) (by omega) (by omega) λH5 S5 v v0 c5 s5=>?_;exact hK H5 S5 S3 f1 S4 f2 r2 v v0 x3 g s5 c5 (s04.trans s5)
end
section
variable {H:AH}{S:LS}{K:KF}{lo:Nat}{f:Fm}{r:List Fm}{s:List Nat}
theorem afA{C:CC}{vn vl vb at_:AV}{cl:Nat→List AV}{G:LS→Fm→LS→Fm→List Fm→Prop}(h:Ch lo H S (f::r))(h1:∀a∈[AV.int 0 (10:Nat),at_,vn,vl,vb],a.one=true)(hl:bW S (dQ lo) 7 vl 1 cl)(h0:f.k 0≤900000)
  (hE:∀H1 S1 f1,XP f f1 1 (bH 0 0) (λi=>i≠0)→f1.reg=f.reg→Ch lo H1 S1 (f1::r)→bV S S1 (f::r) (f1::r)→∀K':KF,(∀H2 S2 f2 r2,G S1 f1 S2 f2 r2→f2.c=f.c→f2.k 0≤900000→Ch lo H2 S2 (f2::r2)→bV S1 S2 (f1::r) (f2::r2)→K' (.ret (.aE [])) H2)→C.c145 (.ptr f1.c 0) vl H1 K')
  (hK:∀H3 S3 S1 f1 S2 f2 r2 v0,XP f f1 1 (bH 0 0) (λi=>i≠0)→G S1 f1 S2 f2 r2→bV S2 S3 (f2::r2) (f2.set 0 v0 (f2.k 0+1) (f2.l 0++bH 31 0)::r2)→Ch lo H3 S3 (f2.set 0 v0 (f2.k 0+1) (f2.l 0++bH 31 0)::r2)→bV S S3 (f::r) (f2.set 0 v0 (f2.k 0+1) (f2.l 0++bH 31 0)::r2)→K (.ret (.aE [])) H3):pI (nc C) (.ptr f.c 0) (.agg [.int 0 (10:Nat),at_,vn,vl,vb]) H K:=by
 show Ai (nc C) K (.ptr f.c 0) (.agg [.int 0 (10:Nat),at_,vn,vl,vb]) H;unfold Ai Ex;refine afp h.m λH1 S1 m1 x1 o1 n1=>?_;refine Gs m1 h1 λH2 S2 m2 x2 o2 n2=>?_;have c2:=h.keep m2 (by omega) λx hx=>(x2.ob x (by have:=h.bX hx;omega)).trans (x1.ob x (h.bX hx));have s2:bV S S2 (f::r) (f::r):=bV.put bV.refl (by omega) λx hx=>(x2.ob x (by omega)).trans (x1.ob x hx);have b1:S2.ob S.n=.ce [.ptr f.c 0] 0:=(x2.ob _ (by omega)).trans o1;have w:∀x,S.n≤x→x<S2.n→¬eU (f::r) x:=λx hx _ q=>by have:=h.bX q;omega
 refine aj m2 b1 (v:=.ptr f.c 0) rfl ?_;have e3:(nc C).2.2.1=f144:=rfl;rw[e3];refine E3 c2 (by omega) λH3 S3 v3 c3 s3=>?_;have p3:S3.ob S.n=.ce [.ptr f.c 0] 0:=(s3.ob S.n (by omega) (w _ (Nat.le_refl _) (by omega))).trans b1;have q3:S3.ob S1.n=.ce [.int 0 (10:Nat),at_,vn,vl,vb] 0:=(s3.ob S1.n (by omega) (w _ (by omega) (by omega))).trans o2;have x3:=XP.code f v3 (bH 0 0);have r3:(f.set 0 v3 (f.k 0+1) (f.l 0++bH 0 0)).reg=f.reg:=rfl;generalize f.set 0 v3 (f.k 0+1) (f.l 0++bH 0 0)=f1 at c3 s3 x3 r3;have n3:=s3.n;have w3:∀x,S.n≤x→x<S2.n→¬eU (f1::r) x:=λx h1 h2 q=>(s3.own x q).elim (w x h1 h2) (by omega);simp only[av,Nat.zero_add];refine aj c3.m q3 (v:=.int 0 (10:Nat)) rfl ?_;rw[az];simp only[bD];rw[decide_eq_false (by decide),aw,decide_eq_false (by decide),aw,decide_eq_false (by decide),aw,decide_eq_false (by decide),aw,decide_eq_false (by decide),aw,decide_eq_false (by decide),aw,decide_eq_false (by decide),aw,decide_eq_false (by decide),aw,decide_eq_false (by decide),aw,decide_eq_false (by decide),aw,decide_eq_true (by decide),aG];refine aj c3.m p3 (v:=.ptr f.c 0) rfl ?_;refine aj c3.m q3 (v:=vl) rfl ?_;have e4:(nc C).2.2.2.1=C.c145:=rfl;rw[e4,←x3.c];refine hE H3 S3 f1 x3 r3 c3 (s2.trans s3) _ λH4 S4 f2 r2 g ec k0 c4 s4=>?_;rw[aq];have n4:=s4.n;have p4:S4.ob S.n=.ce [.ptr f2.c 0] 0:=by
  rw[ec];exact(s4.ob S.n (by omega) (w3 _ (Nat.le_refl _) (by omega))).trans p3
 have q4:S4.ob S1.n=.ce [.int 0 (10:Nat),at_,vn,vl,vb] 0:=(s4.ob S1.n (by omega) (w3 _ (by omega) (by omega))).trans q3;have s04:bV S S4 (f::r) (f2::r2):=(s2.trans s3).trans s4;have lw:∀x,dQ lo x→S4.ob x=S.ob x:=λx hx=>by
  have hx:x<lo:=hx;have hl:=h.l;exact s04.ob x (by omega) λq=>by have:=h.lw x q;omega
 unfold LL LK;simp only[av,Nat.zero_add];refine aj c4.m q4 (v:=vl) rfl ?_;refine(hl.go (S':=S4) (Q':=dQ lo) lw λ_ g=>g).len ?_;rw[az];simp only[bD];rw[decide_eq_false (by decide),aw];unfold LJ LH;refine aj c4.m p4 (v:=.ptr f2.c 0) rfl ?_;have e5:(nc C).2.1=f86:=rfl;rw[e5];show f86 (.ptr f2.c 0) ((31:Nat):Int) ((0:Nat):Int) H4 _;refine xL (op:=31) (a:=0) c4 (by omega) λH5 S5 v0 c5 s5=>?_;exact hK H5 S5 S3 f1 S4 f2 r2 v0 x3 g s5 c5 (s04.trans s5)
end
end Go.Proofs.YtcedghechlgecaaGreatDoor
namespace Go.X
section
variable {S:LS}{H:AH}
theorem ayJ{sz b o n c i j:Nat}{ex:Bool}{lo hi:Option AV}{k:AV→Prop}(hij:i≤j)(hj:j≤c)(hlo:lo=some (.int 0 i)∨lo=none∧i=0)(hhi:hi=some (.int 0 j)∨hi=none∧j=n)(hk:k (.slice b (o+i*sz) (j-i) (c-i) sz ex)):kU sz (.slice b o n c sz ex) lo hi none k:=by
 have go:bT (Nat.ble i j) (bT (Nat.ble j c) (bT (Nat.ble c c) (bj (Nat.add o (Nat.mul i sz)) λo'=>bj (Nat.sub j i) λn=>bj (Nat.sub c i) λc'=>k (.slice b o' n c' sz (ex||Option.isSome (none:Option AV)))))):=by
  refine bA (Nat.ble_eq_true_of_le hij) (bA (Nat.ble_eq_true_of_le hj) (bA (Nat.ble_eq_true_of_le (Nat.le_refl _)) ?_));simp only[aY,Option.isSome_none,Bool.or_false];exact hk
 rcases hlo with rfl|⟨rfl,rfl⟩<;>rcases hhi with rfl|⟨rfl,rfl⟩<;>(show bT (Nat.beq sz sz) _;exact bA (Nat.beq_refl _) go)
theorem cK.cut{sz n m:Nat}{v:AV}{l:List AV}{k:AV→Prop}(h:cK S sz v n l)(hm:m≤n)(hk:∀v',cK S sz v' m (l.take (m*sz))→(∀x,aF v' x→aF v x)→v'.one=true→k v'):kU sz v none (some (.int 0 (m:Int))) none k:=by
 rcases h with⟨rfl,rfl,rfl⟩|⟨b,c,ex,cs,rfl,h2,h3,h4,h5,h6,h7⟩
 ·have e:m=0:=by omega
  subst e;show k .ab;exact hk _ (.inl ⟨rfl,rfl,List.take_nil⟩) (λx hx=>hx) rfl
 ·refine ayJ (i:=0) (j:=m) (Nat.zero_le _) (by omega) (.inr ⟨rfl,rfl⟩) (.inl rfl) ?_;rw[Nat.zero_mul,Nat.add_zero,Nat.sub_zero,Nat.sub_zero];have hle:m*sz≤n*sz:=Nat.mul_le_mul_right _ hm;refine hk _ (.inr ⟨b,c,ex,cs,rfl,h2,h3,by omega,?_,?_,h7⟩) (λx hx=>hx) rfl
  ·rw[List.length_take];omega
  ·have e:(l.take (m*sz)).length=m*sz:=by rw[List.length_take];omega
   rw[e];have e2:l.take (m*sz)=(cs.take l.length).take (m*sz):=by rw[h6]
   rw[e2,List.take_take,Nat.min_eq_left (by omega)]
theorem at3{a:AV}{k:List AV→Prop}(h:a.one=true)(hk:k [a]):onVal a k:=by cases a<;>first|exact hk|cases h
theorem aAB{v:AV}{k:AV→AH→Prop}(hM:Mem H S)(h1:v.one=true)(hk:∀H' S',Mem H' S'→Ext S S'→S'.ob S.n=.ce [v] 0→S'.n=S.n+1→k (.ptr S.n 0) H'):kc (aA H) v k:=
 at3 h1 (bF hM (λa ha=>by simp only[List.mem_singleton]at ha;subst ha;exact h1) λH1 m1=>hk H1 _ m1 (Ext.push _ _) (LS.al _ _) rfl)
end
theorem cK.ln{S:LS}{sz n:Nat}{v:AV}{l:List AV}(h:cK S sz v n l):l.length=n*sz:=by
 rcases h with⟨_,rfl,rfl⟩|⟨_,_,_,_,_,_,_,_,h,_⟩
 ·rw[Nat.zero_mul];rfl
 ·exact h
end Go.X
namespace Go.Proofs.YtcedghechlgecaaGreatDoor
open Go Go.X Go.Proofs.YtcedghechlgecaaGreatDoor.G
section
variable {H:AH}{S:LS}{K:KF}{lo:Nat}{f:Fm}{r:List Fm}
theorem aqn{C:CC}{b1 b2:AV}{G:LS→Fm→List Fm→Prop}(h:Ch lo H S (f::r))(hl:f.k 4≤900000)
  (hrun:∀K':KF,(∀H2 S2 f2 r2 l',G S2 f2 r2→f2.c=f.c→f2.l 4=f.l 4++l'→f.k 4≤f2.k 4→Ch lo H2 S2 (f2::r2)→bV S S2 (f::r) (f2::r2)→K' (.ret (.aE [])) H2)→C.afz b1 b2 H K')
  (hK:∀H3 S3 S2 f2 r2 v,G S2 f2 r2→f2.c=f.c→Ch lo H3 S3 (f2.set 4 v (f.k 4) (f.l 4)::r2)→bV S2 S3 (f2::r2) (f2.set 4 v (f.k 4) (f.l 4)::r2)→bV S S3 (f::r) (f2.set 4 v (f.k 4) (f.l 4)::r2)→K (.ret (.aE [])) H3):CK (Gx C) (.ptr f.c 0) (.func 118 [] [b1,b2]) H K:=by
 show Eu (Gx C) K (.ptr f.c 0) (.func 118 [] [b1,b2]) H;unfold Eu;refine h.fc (j:=2) rfl ?_;refine(h.h.1.fs 4 (by omega)).len ?_;rw[az];show bT (ew Tryz.prog 118) (fY (Lq (Gx C)) 118 [b1,b2] H _);refine bA (by kernel_rfl) ?_;show C.afz b1 b2 H _;refine hrun _ λH2 S2 f2 r2 l' g ec el ek c2 s2=>?_;rw[aq,←ec];have e4:(f2.l 4).take (f.k 4*2)=f.l 4:=by
  have:=(h.h.1.fs 4 (by omega)).ln;have:(f.l 4).length=f.k 4*2:=this;rw[el,←this,List.take_left'];rfl
 refine c2.fc (j:=2) rfl ?_;refine cK.cut (sz:=2) (m:=f.k 4) (c2.h.1.fs 4 (by omega)) ek λv' hv hb h1=>?_;rw[e4]at hv;simp only[aW,av,Nat.zero_add];refine aS c2.m c2.h.1.oc (by omega) (by show 2<6;omega) h1 λH3 m3=>?_;have m3:Mem H3 (S2.set f2.c (.ce ((f2.cc (fG r2)).set 2 v') 0)):=m3;have k3:∀x,x≠f2.c→(S2.set f2.c (.ce ((f2.cc (fG r2)).set 2 v') 0)).ob x=S2.ob x:=λx hx=>LS.ao _ _ hx;have o3:(S2.set f2.c (.ce ((f2.cc (fG r2)).set 2 v') 0)).ob f2.c=.ce ((f2.cc (fG r2)).set 2 v') 0:=LS.au _ _ _;have n3:(S2.set f2.c (.ce ((f2.cc (fG r2)).set 2 v') 0)).n=S2.n:=rfl;generalize S2.set f2.c (.ce ((f2.cc (fG r2)).set 2 v') 0)=S3 at m3 k3 o3 n3;have vc:=c2.h.1.vc 4 (by omega);have hF:uN S3 (f2.set 4 v' (f.k 4) (f.l 4)) (fG r2):=c2.h.1.upd c2.m (i:=4) (by omega) rfl (hv.keep c2.m λx hx _=>k3 x λq=>vc.1 (q ▸ hb x hx)) (λx hx=>.inl (hb x hx)) (λx hx h1 h2 h3=>k3 x h1) o3 ((k3 _ (Ne.symm c2.h.1.cp)).trans c2.h.1.op);obtain⟨c3,s3⟩:=c2.upd m3 hF (λx hx=>MN (f:=f2) (i:=4) (n':=f.k 4) (l':=f.l 4) (by omega) (λx hx=>.inl (hb x hx)) x hx) (by omega) λx hx hno=>k3 x λq=>hno (.inl q);exact hK H3 S3 S2 f2 r2 v' g ec c3 s3 (s2.trans s3)
end
section
variable {H:AH}{S:LS}{K:KF}{lo:Nat}{f:Fm}{r:List Fm}
theorem axm{F:AV→AV→AH→KF→Prop}{vb:AV}{X:AH→Prop}(h:Ch lo H S (f::r))(hv:vb.one=true)
  (hX:∀H2 S2 b1 b2,Ch lo H2 S2 (f::r)→bV S S2 (f::r) (f::r)→S2.ob b1=.ce [vb] 0→S2.ob b2=.ce [.ptr f.c 0] 0→S.n≤b1→S.n≤b2→∀K':KF,(∀H3,X H3→K' (.ret (.aE [])) H3)→F (.ptr f.c 0) (.func 118 [] [.ptr b1 0,.ptr b2 0]) H2 K')
  (hK:∀H3,X H3→K (.ret (.aE [])) H3):IM F (.ptr f.c 0) vb H K:=by
 show IL F K (.ptr f.c 0) vb H;unfold IL;refine afp h.m λH1 S1 m1 x1 o1 n1=>?_;refine aAB m1 hv λH2 S2 m2 x2 o2 n2=>?_;have c2:=h.keep m2 (by omega) λx hx=>(x2.ob x (by have:=h.bX hx;omega)).trans (x1.ob x (h.bX hx));have s2:bV S S2 (f::r) (f::r):=bV.put bV.refl (by omega) λx hx=>(x2.ob x (by omega)).trans (x1.ob x hx);have b1:S2.ob S.n=.ce [.ptr f.c 0] 0:=(x2.ob _ (by omega)).trans o1;refine aj m2 b1 (v:=.ptr f.c 0) rfl ?_;refine hX H2 S2 S1.n S.n c2 s2 o2 b1 (by omega) (Nat.le_refl _) _ λH3 x3=>?_;rw[aq];exact hK H3 x3
theorem aqo{F:AV→AV→AH→KF→Prop}{b1 b2 c n:Nat}{vb:AV}{cl:Nat→List AV}{I:Nat→AH→LS→Prop}
  (hm:∀i H S,I i H S→Mem H S∧S.ob b1=.ce [vb] 0∧S.ob b2=.ce [.ptr c 0] 0∧bW S (dQ lo) 5 vb n cl)
  (hx:∀i H S H' S',I i H S→Mem H' S'→Ext S S'→I i H' S')
  (hst:∀i H S,i<n→I i H S→∀K':KF,(∀H2 S2,I (i+1) H2 S2→K' (.ret (.aE [])) H2)→F (.ptr c 0) (.agg (cl i)) H K')
  (hcl:∀i,i<n→(cl i).length=5∧∀a∈cl i,a.one=true) (hn:n≤900000) (h0:I 0 H S) (hK:∀H2 S2,I n H2 S2→K (.ret (.aE [])) H2):CM F (.ptr b1 0) (.ptr b2 0) H K:=by
 have loop:∀(q i:Nat){H:AH}{S:LS},i≤n→n-i<q→I i H S→vW F K q (.ptr b2 0) vb (n:Int) (i:Int) H:=by
  intro q
  induction q with
  |zero=>intro i _ _ _ h;omega
  |succ q ih=>
   intro i H S hi hq hI;obtain⟨m,o1,o2,sl⟩:=hm i H S hI;show Ev F K (vW F K q) (.ptr b2 0) vb (n:Int) (i:Int) H;unfold Ev;rw[bz];refine bY (λg=>?_) (λg=>?_)
   ·have hin:i<n:=by omega
    obtain⟨hc,hc1⟩:=hcl i hin;refine bW.load (i:=i) sl m hin ?_;refine oM (n:=5) (c:=cl i) m (λa ha=>?_) rfl hc hc1 λH1 S1 m1 x1 p1 n1=>?_
    ·simp only[List.mem_cons,List.not_mem_nil,or_false]at ha;rcases ha with rfl|rfl|rfl|rfl|rfl<;>rfl
    have i1:=hx i H S H1 S1 hI m1 x1;obtain⟨_,_,o2',_⟩:=hm i H1 S1 i1;refine aj m1 o2' (v:=.ptr c 0) rfl ?_;refine kx m1 p1 (by omega) ?_;rw[List.drop_zero,List.take_of_length_le (by omega)];refine hst i H1 S1 hin i1 _ λH2 S2 i2=>?_;rw[aq];simp only[eo,fN];refine w0 (by omega) (by omega) ?_;exact ih (i+1) (by omega) (by omega) i2
   ·have e:i=n:=by omega
    subst e;exact hK H S hI
 obtain⟨m,o1,o2,sl⟩:=hm 0 H S h0;show Ew F K (vW F K G.NL) (.ptr b1 0) (.ptr b2 0) H;unfold Ew;have cQ:G.NL=1000000:=rfl;generalize G.NL=iC at cQ ⊢;refine aj m o1 (v:=vb) rfl ?_;refine sl.len ?_;rw[az];exact loop iC 0 (Nat.zero_le _) (by omega) h0
end
section
variable {H:AH}{S:LS}{K:KF}{lo:Nat}{f:Fm}{r:List Fm}
theorem aAC{C:CC}{vp vb:AV}{Q:Nat→Prop}{Gd:LS→Fm→List Fm→Prop}(h:Ch lo H S (f::r))(hp:iZ S Q vp [])(h0:f.par=0)
  (hB:∀H1 S1,Ch lo H1 S1 (f::r)→bV S S1 (f::r) (f::r)→∀K':KF,(∀H2 S2 f2 r2,Gd S2 f2 r2→f2.c=f.c→f2.k 0≤900000→Ch lo H2 S2 (f2::r2)→bV S1 S2 (f::r) (f2::r2)→K' (.ret (.aE [])) H2)→C.c85 (.ptr f.c 0) vb H1 K')
  (hK:∀H3 S3 S2 f2 r2 f3,Gd S2 f2 r2→f2.c=f.c→XP f2 f3 2 (bH 1 0++bH 31 0) (λi=>i≠0)→f3.reg=f2.reg→Ch lo H3 S3 (f3::r2)→bV S2 S3 (f2::r2) (f3::r2)→bV S S3 (f::r) (f3::r2)→K (.ret (.ptr f3.p 0)) H3):Es (jO C) (.ptr f.c 0) vp vb H K:=by
 show Ae (jO C) K (rq (jO C) K G.NL) (.ptr f.c 0) vp vb H;unfold Ae;refine hp.1.len ?_;rw[az];have cQ:G.NL=999999+1:=rfl;generalize 999999=q at cQ;rw[cQ];show pH (jO C) K (rq (jO C) K q) (uq (jO C) K (rp (jO C) K)) (.ptr f.c 0) vp vb vp 0 0 H;unfold pH;rw[bz,decide_eq_false (by decide),aw];unfold uq;refine h.fc (j:=0) rfl ?_;refine hp.1.len ?_;rw[az];simp only[aW,av,Nat.zero_add];refine aS h.m h.h.1.op (by omega) (by show 5<8;omega) rfl λH1 m1=>?_;have ep:f.pc.set 5 (.int 0 (([]:List (List Nat)).length:Int))=f.pc:=by
  show [f.v 0,f.v 1,.ab,f.v 2,f.v 3,.int 0 (0:Int),.int 0 (f.reg:Int),.int 0 0]=f.pc;unfold Fm.pc;rw[h0];rfl
 have m1:Mem H1 (S.set f.p (.ce (f.pc.set 5 (.int 0 (([]:List (List Nat)).length:Int))) 0)):=m1;rw[ep]at m1;have k1:∀x,(S.set f.p (.ce f.pc 0)).ob x=S.ob x:=λx=>by
  by_cases e:x=f.p
  ·subst e;exact(LS.au _ _ _).trans h.h.1.op.symm
  ·exact LS.ao _ _ e
 have n1:(S.set f.p (.ce f.pc 0)).n=S.n:=rfl;generalize S.set f.p (.ce f.pc 0)=S1 at m1 k1 n1;have c1:=h.keep m1 (by omega) λx _=>k1 x;have s1:bV S S1 (f::r) (f::r):=bV.put bV.refl (by omega) λx _=>k1 x;have e1:(jO C).2.1=C.c85:=rfl;rw[e1];refine hB H1 S1 c1 s1 _ λH2 S2 f2 r2 g ec k0 c2 s2=>?_;rw[aq,←ec];have e2:(jO C).2.2=f86:=rfl;rw[e2];show f86 (.ptr f2.c 0) ((1:Nat):Int) ((0:Nat):Int) H2 _;refine xL (op:=1) (a:=0) c2 (by omega) λH3 S3 v3 c3 s3=>?_;have x3:=XP.code f2 v3 (bH 1 0);have r3:(f2.set 0 v3 (f2.k 0+1) (f2.l 0++bH 1 0)).reg=f2.reg:=rfl;generalize f2.set 0 v3 (f2.k 0+1) (f2.l 0++bH 1 0)=f3 at c3 s3 x3 r3
 try rw[aq]
 try rw[e2]
 rw[←x3.c];show f86 (.ptr f3.c 0) ((31:Nat):Int) ((0:Nat):Int) H3 _;refine xL (op:=31) (a:=0) c3 (by rw[x3.k0];omega) λH4 S4 v4 c4 s4=>?_;have x4:=XP.code f3 v4 (bH 31 0);have x:=(x3.trans x4).weak (Q:=λi=>i≠0) λi hi=>⟨hi,hi⟩
 try rw[aq]
 unfold rp;refine c4.fc (j:=0) rfl ?_;exact hK H4 S4 S2 f2 r2 _ g ec x r3 c4 (s3.trans s4) (((s1.trans s2).trans s3).trans s4)
end
end Go.Proofs.YtcedghechlgecaaGreatDoor
namespace Go.X
theorem bW.one1{S:LS}{Q:Nat→Prop}{sz:Nat}{v:AV}{cl:Nat→List AV}(h:bW S Q sz v 1 cl):bW S Q sz v 1 (λ_=>cl 0):=by
 rcases h with h|⟨b,o,c,ex,cs,m,e1,h2,h3,h4,h5,h6⟩
 ·exact .inl h
 ·refine .inr ⟨b,o,c,ex,cs,m,e1,h2,h3,h4,h5,λi hi=>?_⟩;obtain rfl:i=0:=by omega
  exact h6 0 hi
end Go.X
namespace Go.Proofs.YtcedghechlgecaaGreatDoor
open Go Go.X Go.Proofs.YtcedghechlgecaaGreatDoor.G
section
variable {H H':AH}{S S':LS}{K:KF}{lo:Nat}{f:Fm}{r:List Fm}{s:List Nat}
theorem AA.own{z:Int}{bu cY:List Fm}(t:AA s z bu cY)(hN:∀g∈bu,rM g){top:Fm}{x:Nat}(h:eU (bu++[top]) x):eU (cY++[top]) x:=by
 induction t with
 |nil=>exact h
 |@cons f f2 r r2 hr t ih=>
  obtain⟨g,hg,hx⟩:=h;rcases List.mem_cons.1 hg with e|e
  ·subst e;obtain⟨n5,_,_,n3,_,_⟩:=hN g (List.mem_cons_self ..);obtain⟨v5,v3,rfl⟩:=hr;refine⟨_,List.mem_cons_self ..,?_⟩;rcases hx with q|q|⟨i,hi,q⟩
   ·exact .inl q
   ·exact .inr (.inl q)
   ·refine .inr (.inr ⟨i,hi,?_⟩);by_cases e3:i=3
    ·subst e3;rw[n3]at q;exact q.elim
    ·by_cases e5:i=5
     ·subst e5;rw[n5]at q;exact q.elim
     ·have e:(((g.set 5 v5 1 [ak s]).set 3 v3 1 [.bool (Ay r),.int 0 (Az z r)]).v i)=g.v i:=(if_neg e3).trans (if_neg e5);rw[e];exact q
  ·obtain⟨g2,h2,h3⟩:=ih (λy hy=>hN y (List.mem_cons_of_mem _ hy)) ⟨g,e,hx⟩;exact⟨g2,List.mem_cons_of_mem _ h2,h3⟩
structure Bd(lo:Nat)(S0:LS)(c p:Nat)(bu:List Fm)(top:Fm)(s:List Nat)(z:Int)(n:Nat)(is:List (Nat×Nat))(H:AH)(S:LS)(f:Fm)(r:List Fm)(D:Nat→Prop):Prop where
 ch:Ch lo H S (f::r)
 sp:bV S0 S (dI c p::(bu++[top])) (f::r)
 tk:∃cY,r=cY++[top]∧AA s z bu cY
 c:f.c=c
 p:f.p=p
 par:f.par=0
 rg:f.reg≤1∧(n≠0→f.k 2=1)
 k0:f.k 0=is.length
 l0:f.l 0=BJ is
 t3:f.k 3=1∧f.l 3=tkF [(Ay bu,Az z bu)]
 w:(f.k 2=0∧n=0)∨∃w,f.k 2=1∧f.l 2=[w]∧kI S D w n [(false,0)]
 d:∀x,D x→lo≤x∧x<S.n∧¬eU (f::r) x∧S0.n≤x
section
variable {S0 S1:LS}{c p n:Nat}{bu:List Fm}{top:Fm}{z:Int}{is is':List (Nat×Nat)}{D:Nat→Prop}{f':Fm}
theorem Bd.next(h:Bd lo S0 c p bu top s z n is H S f r D)(c':Ch lo H' S' (f'::r))(s':bV S S' (f::r) (f'::r))(hc:f'.c=f.c)(hp:f'.p=f.p)(hpar:f'.par=f.par)(hr:f'.reg≤1)(h2:f.same f' 2)(h3:f.same f' 3)(hk:f'.k 0=is'.length)(hl:f'.l 0=BJ is'):Bd lo S0 c p bu top s z n is' H' S' f' r D where
 ch:=c'
 sp:=h.sp.trans s'
 tk:=h.tk
 c:=hc.trans h.c
 p:=hp.trans h.p
 par:=hpar.trans h.par
 rg:=⟨hr,λg=>h2.2.1.trans (h.rg.2 g)⟩
 k0:=hk
 l0:=hl
 t3:=⟨h3.2.1.trans h.t3.1,h3.2.2.trans h.t3.2⟩
 w:=h.w.imp (λ⟨a,b⟩=>⟨h2.2.1.trans a,b⟩) λ⟨w,a,b,pt⟩=>⟨w,h2.2.1.trans a,h2.2.2.trans b,pt.keep h.ch.m λx hx=>s'.ob x (h.d x hx).2.1 (h.d x hx).2.2.1⟩
 d:=λx hx=>by
  obtain⟨d1,d2,d3,d4⟩:=h.d x hx;have:=s'.n;exact⟨d1,by omega,λq=>(s'.own x q).elim d3 (by omega),d4⟩
theorem Bd.pre(h:Bd lo S1 c p bu top s z n is H S f r D)(g:bV S0 S1 (dI c p::(bu++[top])) (dI c p::(bu++[top]))):Bd lo S0 c p bu top s z n is H S f r D:=
 { h with sp:=g.trans h.sp,d:=λx hx=>⟨(h.d x hx).1,(h.d x hx).2.1,(h.d x hx).2.2.1,Nat.le_trans g.n (h.d x hx).2.2.2⟩ }
theorem Bd.fin(h:Bd lo S0 c p bu top s z n is H S f r D)(hN:∀g∈bu,rM g)(hok:∀i∈is,oN 0 f.reg 1 (f.k 2) i)(la:∃is',is=is'++[(31,0)])(le:is.length≤1000) :
  ∃D',kI S D' (.ptr p 0) (is.length+n) [(Ay bu,Az z bu)]∧∀x,D' x→lo≤x∧x<S.n∧¬eU r x∧(x=p∨S0.n≤x):=by
 have g:=h.ch.h.1;have fs:=g.fs;have own:∀x,f.own x→x≠f.c→lo≤x∧x<S.n∧¬eU r x∧(x=p∨S0.n≤x):=λx hx hne=>by
  have hno:¬eU r x:=λ⟨y,hy,hq⟩=>(List.pairwise_cons.1 h.ch.d).1 y hy x hx hq;refine⟨h.ch.lw x ⟨f,List.mem_cons_self ..,hx⟩,h.ch.bX ⟨f,List.mem_cons_self ..,hx⟩,hno,?_⟩;rcases h.sp.own x ⟨f,List.mem_cons_self ..,hx⟩with⟨y,hy,hq⟩|q
  ·rcases List.mem_cons.1 hy with e|e
   ·subst e;rcases hq with w|w|⟨i,_,w⟩
    ·exact absurd (w.trans h.c.symm) hne
    ·exact .inl w
    ·exact w.elim
   ·obtain⟨cY,e2,t⟩:=h.tk;rw[e2]at hno;exact absurd (t.own hN ⟨y,e,hq⟩) hno
  ·exact .inr q
 have row:∀i,i<6→∀x,aF (f.v i) x→lo≤x∧x<S.n∧¬eU r x∧(x=p∨S0.n≤x):=λi hi x hx=>own x (.inr (.inr ⟨i,hi,hx⟩)) λe=>(g.vc i hi).1 (e ▸ hx)
 let D':Nat→Prop:=λx=>x=p∨(∃i,i<4∧aF (f.v i) x)∨D x
 have hD':∀x,D' x→lo≤x∧x<S.n∧¬eU r x∧(x=p∨S0.n≤x):=λx hx=>by
  rcases hx with e|⟨i,hi,q⟩|q
  ·subst e;exact own _ (.inr (.inl h.p.symm)) λe=>g.cp (e.symm.trans h.p.symm)
  ·exact row i (by omega) x q
  ·obtain⟨d1,d2,d3,d4⟩:=h.d x q;exact⟨d1,d2,λ⟨y,hy,hq⟩=>d3 ⟨y,List.mem_cons_of_mem _ hy,hq⟩,.inr d4⟩
 have f0:=fs 0 (by omega);rw[h.k0,h.l0]at f0;have f1:=fs 1 (by omega);have f2:=fs 2 (by omega);have f3:=fs 3 (by omega);rw[h.t3.1,h.t3.2]at f3;have op:=g.op;rw[h.p]at op;have bd:∀k2 l2,f.k 2=k2→f.l 2=l2→yJ S D' p (f.v 0) (f.v 1) (f.v 2) (f.v 3) (f.k 1) k2 0 f.reg (f.l 1) l2 is [(Ay bu,Az z bu)]:=λk2 l2 e1 e2=>by
  refine⟨.inl rfl,?_,f0,f1,by rw[←e1,←e2];exact f2,f3,λx hx=>.inr (.inl ⟨0,by omega,hx⟩),λx hx=>.inr (.inl ⟨1,by omega,hx⟩),λx hx=>.inr (.inl ⟨2,by omega,hx⟩),λx hx=>.inr (.inl ⟨3,by omega,hx⟩),λi hi=>?_,la,Nat.zero_le _,le,Nat.le_refl _⟩
  ·rw[op];unfold Fm.pc;rw[h.par]
  ·rw[←e1];rcases hok i hi with q|q|q|q|q
   ·exact .inl q
   ·exact absurd q.2 (by omega)
   ·exact .inr (.inr (.inl q))
   ·exact .inr (.inr (.inr (.inl q)))
   ·exact .inr (.inr (.inr (.inr q)))
 refine⟨D',?_,hD'⟩;rcases h.w with⟨a,rfl⟩|⟨w,a,b,pt⟩
 ·exact .leaf (bd 0 (f.l 2) a rfl)
 ·refine .node (bd 1 [w] a b) (pt.weak h.ch.m λx hx=>.inr (.inr hx)) λx hx=>?_;rw[List.mem_singleton]at hx;subst hx;exact⟨Int.le_refl _,λe=>(by cases e),λ_=>by show(0:Int)<((1:Nat):Int);decide⟩
end
def StC(F:AV→AV→AH→KF→Prop)(s:List Nat)(b:aP)(n q:Nat)(is:List (Nat×Nat)):Prop:=
 ∀{lo:Nat}{H:AH}{S:LS}{K:KF}{c p:Nat}{bu:List Fm}{top:Fm}{L:List (List Nat×Nat)}{cs:List AV},Ch lo H S (dI c p::(bu++[top]))→(∀x∈bu,rM x∧Ax x)→bu.length<q→ao0 top L s→fT S (dQ lo) cs b→
  (∀(H':AH) (S':LS) (f:Fm) (r:List Fm) (D:Nat→Prop),Bd lo S c p bu top s (eG L s) n is H' S' f r D→(∀i∈is,oN 0 f.reg 1 (f.k 2) i)→K (.ret (.aE [])) H')→F (.ptr c 0) (.agg cs) H K
end
end Go.Proofs.YtcedghechlgecaaGreatDoor
namespace Go.X
theorem E5:∀(w:List Nat) (d:Nat) (l:List Nat),(∀c∈w,LP c∨DP c)→¬(LP d∨DP d)→dz (w++d::l)=w.length
 |[],d,l,_,h=>by rw[List.nil_append,dz,if_neg h];rfl
 |c::w,d,l,hw,h=>by rw[List.cons_append,dz,if_pos (hw c (List.mem_cons_self ..)),E5 w d l (λx hx=>hw x (List.mem_cons_of_mem _ hx)) h];rfl
theorem To:∀(w:List Nat),(∀c∈w,LP c∨DP c)→dz w=w.length
 |[],_=>rfl
 |c::w,hw=>by rw[dz,if_pos (hw c (List.mem_cons_self ..)),To w (λx hx=>hw x (List.mem_cons_of_mem _ hx))];rfl
structure Jj(c:Nat)(w:List Nat):Prop where
 f:LP c
 a:∀x∈c::w,LP x∨DP x
 n:(c::w).length≤32
theorem Jj.nb{c:Nat}{w:List Nat}(h:Jj c w):¬zm c∧c≠45:=by
 have:=h.f;unfold LP at this;unfold zm;omega
theorem Yw{c d p:Nat}{w l:List Nat}{ts:List Tok}(h:Jj c w)(hd:¬(LP d∨DP d))(hw:c::w∈iO)(hr:cA (d::l) (p+(c::w).length) (.inl ts)):cA ((c::w)++d::l) p (.inl (⟨1,c::w,0,p⟩::ts)):=by
 have hr1:dz (c::(w++d::l))=(c::w).length:=E5 (c::w) d l h.a hd;have ht:(c::(w++d::l)).take (c::w).length=c::w:=List.take_left' (l₁:=c::w) rfl;have hk:=jA.word c (w++d::l) h.f (by rw[hr1];exact h.n) (by rw[hr1,ht];exact hw);rw[hr1,ht]at hk;refine cA.tok c (w++d::l) p 1 (c::w) 0 _ ts h.nb.1 (λg=>h.nb.2 g.1) hk ?_;have hdr:(c::(w++d::l)).drop (c::w).length=d::l:=List.drop_left' (l₁:=c::w) rfl;rw[hdr];exact hr
theorem at4{c d p:Nat}{w l:List Nat}{ts:List Tok}(h:Jj c w)(hd:¬(LP d∨DP d))(hw:c::w∉iO)(hr:cA (d::l) (p+(c::w).length) (.inl ts)):cA ((c::w)++d::l) p (.inl (⟨2,c::w,0,p⟩::ts)):=by
 have hr1:dz (c::(w++d::l))=(c::w).length:=E5 (c::w) d l h.a hd;have ht:(c::(w++d::l)).take (c::w).length=c::w:=List.take_left' (l₁:=c::w) rfl;have hk:=jA.name c (w++d::l) h.f (by rw[hr1];exact h.n) (by rw[hr1,ht];exact hw);rw[hr1,ht]at hk;refine cA.tok c (w++d::l) p 2 (c::w) 0 _ ts h.nb.1 (λg=>h.nb.2 g.1) hk ?_;have hdr:(c::(w++d::l)).drop (c::w).length=d::l:=List.drop_left' (l₁:=c::w) rfl;rw[hdr];exact hr
theorem sV{p:Nat}{l:List Nat}{r:List Tok ⊕ Nat}(h:cA l (p+1) r):cA (32::l) p r:=.blank 32 l p r (.inl rfl) h
theorem E6{c d p:Nat}{l:List Nat}{ts:List Tok}(h1:¬zm c)(h2:c≠45)(h3:¬DP c)(h4:¬LP c)(h5:c≠34)(h6:c≠39)(h7:[c,d]∉o0)(h8:c∈ones)(hr:cA (d::l) (p+1) (.inl ts)):cA (c::d::l) p (.inl (⟨5,[c],0,p⟩::ts)):=by
 have hs:kz (c::d::l)=1:=by
  rw[kz,if_neg h7,if_pos h8]
 have hk:=jA.sign c (d::l) h3 h4 h5 h6 (by rw[hs];decide);rw[hs]at hk;exact cA.tok c (d::l) p 5 [c] 0 1 ts h1 (λg=>h2 g.1) hk hr
theorem axn:¬(LP 32∨DP 32):=by decide
def iD(s:List Nat):Nat→List Nat
 |0=>[]
 |n+1=>s++iD s n
def jf(t:Nat→List Tok)(w:Nat):Nat→Nat→List Tok
 |0,_=>[]
 |n+1,p=>t p++jf t w n (p+w)
theorem Jk{s:List Nat}{t:Nat→List Tok}{w:Nat}(h:∀{l:List Nat}{p:Nat}{ts:List Tok},cA l (p+w) (.inl ts)→cA (s++l) p (.inl (t p++ts))):∀(n:Nat){l:List Nat}{p:Nat}{ts:List Tok},cA l (p+n*w) (.inl ts)→cA (iD s n++l) p (.inl (jf t w n p++ts))
 |0,l,p,ts,g=>by
  rw[Nat.zero_mul,Nat.add_zero]at g;exact g
 |n+1,l,p,ts,g=>by
  rw[iD,jf,List.append_assoc,List.append_assoc];refine h (Jk h n ?_);have e:p+w+n*w=p+(n+1)*w:=by rw[Nat.add_mul,Nat.one_mul];omega
  rw[e];exact g
theorem sW(s:List Nat):∀n,(iD s n).length=n*s.length
 |0=>by simp[iD]
 |n+1=>by rw[iD,List.length_append,sW s n,Nat.add_mul,Nat.one_mul];omega
theorem Bv(s:List Nat):∀n,iD s (n+1)=iD s n++s
 |0=>by simp[iD]
 |n+1=>by
  have h:s++iD s (n+1)=(s++iD s n)++s:=by rw[Bv s n,List.append_assoc]
  exact h
def nN(m:Nat):List Nat:=List.replicate m 110
theorem jh(m:Nat):(nN m).length=m:=List.length_replicate
theorem Tq(m:Nat):nN m∉iO:=by
 intro h;have ha:∀w∈iO,∃c∈w,c≠110:=by decide
 obtain⟨c,hc,hne⟩:=ha _ h;exact hne (List.eq_of_mem_replicate hc)
theorem aqp{m:Nat}(h:m≤31):Jj 110 (nN m):=by
 refine⟨by decide,λx hx=>?_,?_⟩
 ·rcases List.mem_cons.1 hx with rfl|g
  ·decide
  ·rw[List.eq_of_mem_replicate g]
   decide
 ·rw[List.length_cons,jh];omega
theorem ao2{c p:Nat}{w:List Nat}(h:Jj c w)(hw:c::w∉iO):cA (c::w) p (.inl [⟨2,c::w,0,p⟩,⟨0,[],0,p+(c::w).length⟩]):=by
 have hr1:dz (c::w)=(c::w).length:=To (c::w) h.a;have ht:(c::w).take (c::w).length=c::w:=List.take_length;have hk:=jA.name c w h.f (by rw[hr1];exact h.n) (by rw[hr1,ht];exact hw);rw[hr1,ht]at hk;refine cA.tok c w p 2 (c::w) 0 _ _ h.nb.1 (λg=>h.nb.2 g.1) hk ?_;rw[List.drop_length];exact cA.nil _
theorem axo{p:Nat}{l:List Nat}{ts:List Tok}(h:cA (32::l) (p+1) (.inl ts)):cA (49::32::l) p (.inl (⟨3,[],1,p⟩::ts)):=by
 have hr:dz (49::32::l)=1:=E5 [49] 32 l (by decide) (by decide);have hk:=jA.num 49 (32::l) 1 (by decide) (by rw[hr];rfl);rw[hr]at hk;exact cA.tok 49 (32::l) p 3 [] 1 1 ts (by decide) (λg=>by cases g.1) hk h
section
variable {m:Nat}
def tL(m p:Nat):List Tok:=[⟨1,[108,111,99,97,108],0,p⟩,⟨2,nN (m+1),0,p+6⟩,⟨5,[61],0,p+m+8⟩,⟨3,[],1,p+m+10⟩]
def tF(m p:Nat):List Tok:=[⟨1,[108,111,99,97,108],0,p⟩,⟨2,nN (m+1),0,p+6⟩,⟨5,[61],0,p+m+8⟩,⟨1,[102,117,110,99,116,105,111,110],0,p+m+10⟩,⟨5,[40],0,p+m+18⟩,⟨5,[41],0,p+m+19⟩]
def tR(m p:Nat):List Tok:=[⟨1,[114,101,116,117,114,110],0,p⟩,⟨2,nN (m+1),0,p+7⟩]
def tE(p:Nat):List Tok:=[⟨1,[101,110,100],0,p⟩]
def sL(m:Nat):List Nat:=[108,111,99,97,108,32]++(nN (m+1)++[32,61,32,49,32])
def sF(m:Nat):List Nat:=[108,111,99,97,108,32]++(nN (m+1)++[32,61,32,102,117,110,99,116,105,111,110,40,41,32])
def sR(m:Nat):List Nat:=[114,101,116,117,114,110,32]++(nN (m+1)++[32])
def sE:List Nat:=[101,110,100,32]
def sZ(m:Nat):List Nat:=[114,101,116,117,114,110,32]++nN (m+1)
theorem afB(hm:m≤31){l:List Nat}{p q:Nat}{ts:List Tok}(hq:q=p+m+2)(h:cA l q (.inl ts)):cA (nN (m+1)++32::l) p (.inl (⟨2,nN (m+1),0,p⟩::ts)):=by
 subst hq;refine at4 (c:=110) (w:=nN m) (aqp hm) axn (Tq (m+1)) (sV ?_);have e:p+(110::nN m).length+1=p+m+2:=by rw[List.length_cons,jh];omega
 rw[e];exact h
theorem Ts{w:List Nat}{c:Nat}(h:Jj c w)(hw:c::w∈iO){l:List Nat}{p q:Nat}{ts:List Tok}(hq:q=p+(c::w).length+1)(hr:cA l q (.inl ts)):cA ((c::w)++32::l) p (.inl (⟨1,c::w,0,p⟩::ts)):=by
 subst hq;exact Yw h axn hw (sV hr)
theorem Yx:Jj 108 [111,99,97,108]:=⟨by decide,by decide,by decide⟩
theorem Tt:Jj 114 [101,116,117,114,110]:=⟨by decide,by decide,by decide⟩
theorem aAD(hm:m≤31){l:List Nat}{p:Nat}{ts:List Tok}(h:cA l (p+(m+12)) (.inl ts)):cA (sL m++l) p (.inl (tL m p++ts)):=by
 have e:sL m++l=(108::[111,99,97,108])++32::(nN (m+1)++32::(61::32::49::32::l)):=by
  unfold sL;simp
 rw[e];refine Ts Yx (by decide) (q:=p+6) rfl (afB hm (q:=p+m+8) (by omega) ?_);refine E6 (c:=61) (d:=32) (by decide) (by decide) (by decide) (by decide) (by decide) (by decide) (by decide) (by decide) (sV (axo (sV ?_)));have e2:p+m+8+1+1+1+1=p+(m+12):=by omega
 rw[e2];exact h
theorem aAE(hm:m≤31){l:List Nat}{p:Nat}{ts:List Tok}(h:cA l (p+(m+21)) (.inl ts)):cA (sF m++l) p (.inl (tF m p++ts)):=by
 have e:sF m++l=(108::[111,99,97,108])++32::(nN (m+1)++32::(61::32::((102::[117,110,99,116,105,111,110])++40::41::32::l))):=by
  unfold sF;simp
 rw[e];refine Ts Yx (by decide) (q:=p+6) rfl (afB hm (q:=p+m+8) (by omega) ?_);refine E6 (c:=61) (d:=32) (by decide) (by decide) (by decide) (by decide) (by decide) (by decide) (by decide) (by decide) (sV ?_);refine Yw (c:=102) (w:=[117,110,99,116,105,111,110]) (d:=40) ⟨by decide,by decide,by decide⟩ (by decide) (by decide) ?_;refine E6 (c:=40) (d:=41) (by decide) (by decide) (by decide) (by decide) (by decide) (by decide) (by decide) (by decide) ?_;refine E6 (c:=41) (d:=32) (by decide) (by decide) (by decide) (by decide) (by decide) (by decide) (by decide) (by decide) (sV ?_);have e2:p+m+8+1+1+(102::[117,110,99,116,105,111,110]).length+1+1+1=p+(m+21):=by
  show p+m+8+1+1+8+1+1+1=_;omega
 rw[e2];exact h
theorem aAF(hm:m≤31){l:List Nat}{p:Nat}{ts:List Tok}(h:cA l (p+(m+9)) (.inl ts)):cA (sR m++l) p (.inl (tR m p++ts)):=by
 have e:sR m++l=(114::[101,116,117,114,110])++32::(nN (m+1)++32::l):=by
  unfold sR;simp
 rw[e];exact Ts Tt (by decide) (q:=p+7) rfl (afB hm (q:=p+(m+9)) (by omega) h)
theorem aAG{l:List Nat}{p:Nat}{ts:List Tok}(h:cA l (p+4) (.inl ts)):cA (sE++l) p (.inl (tE p++ts)):=
 Ts (c:=101) (w:=[110,100]) ⟨by decide,by decide,by decide⟩ (by decide) (q:=p+4) rfl h
theorem aAH(hm:m≤31){p:Nat}:cA (sZ m) p (.inl (tR m p++[⟨0,[],0,p+m+8⟩])):=by
 have e:sZ m=(114::[101,116,117,114,110])++32::nN (m+1):=rfl;rw[e];refine Ts Tt (by decide) (q:=p+7) rfl ?_;have h:=ao2 (p:=p+7) (aqp hm) (Tq (m+1));have e2:p+7+(110::nN m).length=p+m+8:=by rw[List.length_cons,jh];omega
 rw[e2]at h;exact h
def Bw(k d m:Nat):List Nat:=iD (sL m) k++(iD (sF m) d++(sR m++(iD sE d++sZ m)))
def y0(k d m:Nat):List Tok:=jf (tL m) (m+12) k 0++(jf (tF m) (m+21) d (k*(m+12))++(tR m (k*(m+12)+d*(m+21))++(jf tE 4 d (k*(m+12)+d*(m+21)+(m+9))++(tR m (k*(m+12)+d*(m+21)+(m+9)+d*4)++[⟨0,[],0,k*(m+12)+d*(m+21)+(m+9)+d*4+m+8⟩]))))
theorem amg(hm:m≤31)(k d:Nat):cA (Bw k d m) 0 (.inl (y0 k d m)):=by
 unfold Bw y0;refine Jk (aAD hm) k ?_;rw[Nat.zero_add];exact Jk (aAE hm) d (aAF hm (Jk aAG d (aAH hm)))
end
def lq(y:Tok)(s:List Nat):Bool:=(decide (y.kind=1)||decide (y.kind=5))&&decide (y.text=s)
def enA(y:Tok):Bool:=lq y [101,110,100]||(lq y [101,108,115,101]||(lq y [101,108,115,101,105,102]||(lq y [117,110,116,105,108]||decide (y.kind=0))))
section
variable {T R:List Tok}{i d p q m n:Nat}{x y:Tok}{nm:List Nat}
theorem uZ{b:Bool}(h:b=false):¬b=true:=by rw[h];decide
theorem gR(h:T.drop i=x::R):T[i]? = some x:=by
 have:=congrArg (λl=>l[0]?) h;simpa[List.getElem?_drop]using this
theorem dw(h:T.drop i=x::R):T.drop (i+1)=R:=by
 have:=congrArg (List.drop 1) h;simpa[List.drop_drop]using this
theorem cO(g:T[i]? = some x)(s:List Nat):isA T s i=lq x s:=by
 unfold isA cg ft;rw[g];rfl
theorem lY(g:T[i]? = some x):nr T i=enA x:=by
 unfold nr;rw[cO g,cO g,cO g,cO g];unfold cg;rw[g];rfl
theorem AB(g:T[i]? = some x):aZ T i=x.pos:=by
 unfold aZ;rw[g]
theorem qf(g:T[i]? = some x):cg T i=x.kind:=by
 unfold cg;rw[g]
theorem ao3(g:T[i]? = some ⟨2,nm,0,q⟩):oJ T i=.ok nm (i+1):=by
 unfold oJ cg ft;rw[g];rfl
theorem Gy{s:List Nat}(g:T[i]? = some x)(h:lq x s=true):dR T s i=.ok () (i+1):=by
 unfold dR;rw[cO g,if_pos h]
theorem MO{out:List aP}{s:aP}{j:Nat}(hs:nt T n i d=.ok s j)(he:nr T i=false)(hk:s.kind≠10)(ho:isA T [59] j=false):dP T (n+1) out i d=dP T n (out++[s]) j d:=by
 rw[dP.eq_2,if_neg (by rw[he];decide),hs];simp only[cG.bind];rw[if_neg (λg=>hk g.1)];unfold sQ;rw[ho];rfl
theorem Tu{out:List aP}(he:nr T i=true):dP T (n+1) out i d=.ok out i:=by
 rw[dP.eq_2,if_pos he]
end
def NOp(y:Tok):Prop:=lq y [111,114]=false∧lq y [97,110,100]=false∧lq y [46,46]=false∧(∀s∈tests,lq y s=false)∧(∀s∈sums,lq y s=false)∧∀s∈terms,lq y s=false
section
variable {T R L:List Tok}{i d p q m n j:Nat}{x y:Tok}
theorem op1:∀(l:List (List Nat)) (f:Nat),(∀s∈l,isA T s i=false)→mK T i f l=0
 |[],_,_=>rfl
 |s::l,f,h=>by rw[mK,h s (List.mem_cons_self ..),if_neg (by decide),op1 l (f+1) λs hs=>h s (List.mem_cons_of_mem _ hs)]
theorem Jl{e:aO}(hu:iY T (n+5) i (d+1)=.ok e j)(hy:T[j]? = some y)(ho:NOp y)(hd:d≤90):fu T (n+12) i d=.ok e j:=by
 obtain⟨o1,o2,o3,o4,o5,o6⟩:=ho;rw[fu.eq_2,if_neg (by omega),mU.eq_2,rz.eq_2,rA.eq_2,pT.eq_2,yV.eq_2,rD.eq_2,hu];simp only[cG.bind];rw[rE.eq_2,op1 _ _ (λs hs=>by rw[cO hy];exact o6 s hs),if_pos rfl];simp only[];rw[uY.eq_2,op1 _ _ (λs hs=>by rw[cO hy];exact o5 s hs),if_pos rfl];simp only[];rw[cO hy,o3,if_neg (by decide)];simp only[];rw[rC.eq_2,op1 _ _ (λs hs=>by rw[cO hy];exact o4 s hs),if_pos rfl];simp only[];rw[rB.eq_2,cO hy,o2,if_neg (by decide)];simp only[];rw[mz.eq_2,cO hy,o1,if_neg (by decide)]
theorem Oy{w:List Nat}(h:w=[108,111,99,97,108]∨w=[114,101,116,117,114,110]∨w=[101,110,100]):NOp ⟨1,w,0,p⟩:=by
 rcases h with rfl|rfl|rfl<;>exact⟨rfl,rfl,rfl,by intro s hs;simp only[tests,List.mem_cons,List.not_mem_nil,or_false]at hs;rcases hs with rfl|rfl|rfl|rfl|rfl|rfl<;>rfl,by intro s hs;simp only[sums,List.mem_cons,List.not_mem_nil,or_false]at hs;rcases hs with rfl|rfl<;>rfl,by intro s hs;simp only[terms,List.mem_cons,List.not_mem_nil,or_false]at hs;rcases hs with rfl|rfl|rfl<;>rfl⟩
theorem at5:NOp ⟨0,[],0,p⟩:=⟨rfl,rfl,rfl,λ_ _=>rfl,λ_ _=>rfl,λ_ _=>rfl⟩
theorem un0(g:T[i]? = some x)(h:lq x [110,111,116]=false∧lq x [45]=false∧lq x [35]=false):BC T i=0:=by
 unfold BC;rw[cO g,h.1,if_neg (by decide),cO g,h.2.1,if_neg (by decide),cO g,h.2.2,if_neg (by decide)]
theorem at6(g:T[i]? = some x):xv T i=x.n:=by
 unfold xv;rw[g]
theorem ao4(g:T[i]? = some x):ft T i=x.text:=by
 unfold ft;rw[g]
theorem axp{v:Nat}(g:T[i]? = some ⟨3,[],v,p⟩):iY T (n+5) i d=.ok (.mk 4 p v [] 0 [] []) (i+1):=by
 rw[iY.eq_2,un0 g ⟨rfl,rfl,rfl⟩,if_pos rfl,oK.eq_2,qf g,cO g,if_neg (by simp[lq]),jL.eq_2,qf g,if_pos (by simp),AB g,at6 g]
theorem at7{nm:List Nat}(g:T[i]? = some ⟨2,nm,0,p⟩)(hy:T[i+1]? = some y)(h:lq y [46]=false∧lq y [91]=false∧lq y [40]=false):iY T (n+5) i d=.ok (.mk 6 p 0 nm 0 [] []) (i+1):=by
 rw[iY.eq_2,un0 g ⟨rfl,rfl,rfl⟩,if_pos rfl,oK.eq_2,qf g,if_pos (by simp),jL.eq_2,qf g,if_neg (by simp),if_neg (by simp),if_pos (by simp),AB g,ao4 g];simp only[cG.bind];rw[mL.eq_2,cO hy,h.1,if_neg (by decide),cO hy,h.2.1,if_neg (by decide),cO hy,h.2.2,if_neg (by decide)]
theorem amh{body:List aP}(h:T.drop i=⟨1,[102,117,110,99,116,105,111,110],0,p⟩::⟨5,[40],0,p+8⟩::⟨5,[41],0,p+9⟩::R)(hd:d≤90)(hb:dP T n [] (i+3) (d+1)=.ok body j)(hj:T[j]? = some ⟨1,[101,110,100],0,q⟩):iY T (n+5) i d=.ok (.mk 7 p 0 [] 0 [] [.mk [] body]) (j+1):=by
 have g3:=gR h;have h4:=dw h;have g4:=gR h4;have g5:=gR (dw h4);have hp:kC T (n+1) true [] (i+1+1)=.ok [] (i+1+1+1):=by
  rw[kC.eq_2,if_neg (by rw[cO g5];simp[lq]),Gy g5 rfl];rfl
 have ayK:∀a,pU T (n+2) a (i+1) d=.ok (.mk 7 a 0 [] 0 [] [.mk [] body]) (j+1):=λa=>by
  rw[pU.eq_2,Gy g4 rfl];simp only[cG.bind];rw[hp];simp only[];rw[fk.eq_2,if_neg (by omega),hb];simp only[];rw[Gy hj rfl]
 have hl:pS T i=0:=by
  unfold pS;rw[cO g3,if_neg (by simp[lq]),cO g3,if_neg (by simp[lq]),cO g3,if_neg (by simp[lq])]
 rw[iY.eq_2,un0 g3 ⟨rfl,rfl,rfl⟩,if_pos rfl,oK.eq_2,qf g3,cO g3,if_neg (by simp[lq]),jL.eq_2,qf g3,if_neg (by simp),if_neg (by simp),if_neg (by simp),if_neg (by rw[hl];decide),cO g3,if_pos (by exact rfl),AB g3];exact ayK _
theorem MP{nm:List Nat}{e:aO}(h:T.drop i=⟨1,[108,111,99,97,108],0,p⟩::⟨2,nm,0,q⟩::⟨5,[61],0,m⟩::R)(he:fu T n (i+3) d=.ok e j):nt T (n+2) i d=.ok (.mk 1 p [nm] [e] []) j:=by
 have g0:=gR h;have h1:=dw h;have g1:=gR h1;have g2:=gR (dw h1);rw[nt.eq_2,cO g0,if_pos (by exact rfl),pJ.eq_2,cO g1,if_neg (by simp[lq]),ao3 g1];simp only[cG.bind];rw[cO g2,if_pos (by exact rfl),AB g0];have he:fu T n (i+1+1+1) d=.ok e j:=he;rw[he]
theorem ami{nm:List Nat}(h:T.drop i=⟨1,[114,101,116,117,114,110],0,p⟩::⟨2,nm,0,q⟩::y::R)(ho:NOp y)(hy:lq y [46]=false∧lq y [91]=false∧lq y [40]=false)(hd:d≤90):nt T (n+14) i d=.ok (.mk 10 p [] [.mk 6 q 0 nm 0 [] []] []) (i+2):=by
 have g0:=gR h;have h1:=dw h;have g1:=gR h1;have g2:=gR (dw h1);have he:fu T (n+12) (i+1) d=.ok (.mk 6 q 0 nm 0 [] []) (i+1+1):=Jl (at7 g1 g2 hy) g2 ho hd;rw[nt.eq_2,cO g0,if_neg (by exact uZ rfl),cO g0,if_neg (by exact uZ rfl),cO g0,if_neg (by exact uZ rfl),cO g0,if_neg (by exact uZ rfl),cO g0,if_neg (by exact uZ rfl),cO g0,if_neg (by exact uZ rfl),cO g0,if_neg (by exact uZ rfl),cO g0,if_pos (by exact rfl),sS.eq_2,if_neg (by
  rw[cO g1,lY g1];simp[lq,enA]),he]
 simp only[cG.bind];rw[AB g0]
def aL(m p:Nat):aP:=.mk 1 p [nN (m+1)] [.mk 4 (p+m+10) 1 [] 0 [] []] []
def aR(m p:Nat):aP:=.mk 10 p [] [.mk 6 (p+7) 0 (nN (m+1)) 0 [] []] []
def oO(m:Nat):Nat→Nat→List aP
 |0,p=>[aR m p]
 |j+1,p=>[.mk 1 p [nN (m+1)] [.mk 7 (p+m+10) 0 [] 0 [] [.mk [] (oO m j (p+(m+21)))]] []]
theorem Yy:∀(j:Nat){i p q d:Nat}{L:List Tok}{n:Nat},T.drop i=jf (tF m) (m+21) j p++(tR m (p+j*(m+21))++(jf tE 4 (j+1) q++L))→2*j+d≤80→dP T (n+20*j+20) [] i d=.ok (oO m j p) (i+7*j+2)∧T.drop (i+7*j+2)=tE (q+j*4)++L
 |0,i,p,q,d,L,n,h,hd=>by
  have h0:T.drop i=⟨1,[114,101,116,117,114,110],0,p+0*(m+21)⟩::⟨2,nN (m+1),0,p+0*(m+21)+7⟩::⟨1,[101,110,100],0,q⟩::L:=h;have g2:=gR (dw (dw h0));rw[Nat.zero_mul,Nat.add_zero]at h0;have hs:=ami (n:=n+5) (d:=d) h0 (Oy (.inr (.inr rfl))) ⟨rfl,rfl,rfl⟩ (by omega);refine⟨?_,?_⟩
  ·show dP T (n+19+1) [] i d=.ok ([]++[aR m p]) (i+2);rw[dP.eq_2,lY (gR h0),if_neg (by exact uZ rfl),hs];simp only[cG.bind];have ho:sQ T [59] (i+2)=i+2:=by
    unfold sQ;rw[cO g2];rfl
   rw[ho,if_neg (by
    rw[lY g2];exact λg=>by cases g.2),Tu (by rw[lY g2];rfl)]
   rfl
  ·exact dw (dw h0)
 |j+1,i,p,q,d,L,n,h,hd=>by
  have hF:T.drop i=tF m p++(jf (tF m) (m+21) j (p+(m+21))++(tR m (p+(j+1)*(m+21))++(jf tE 4 (j+1+1) q++L))):=by
   rw[h];show(tF m p++jf (tF m) (m+21) j (p+(m+21)))++_=_;rw[List.append_assoc]
  have h0:T.drop i=⟨1,[108,111,99,97,108],0,p⟩::⟨2,nN (m+1),0,p+6⟩::⟨5,[61],0,p+m+8⟩::⟨1,[102,117,110,99,116,105,111,110],0,p+m+10⟩::⟨5,[40],0,p+m+18⟩::⟨5,[41],0,p+m+19⟩::(jf (tF m) (m+21) j (p+(m+21))++(tR m (p+(j+1)*(m+21))++(jf tE 4 (j+1+1) q++L))):=hF;have h3:=dw (dw (dw h0));have h6:T.drop (i+6)=jf (tF m) (m+21) j (p+(m+21))++(tR m (p+(m+21)+j*(m+21))++(jf tE 4 (j+1) q++(tE (q+(j+1)*4)++L))):=by
   have e1:p+(m+21)+j*(m+21)=p+(j+1)*(m+21):=by rw[Nat.add_mul,Nat.one_mul];omega
   have e2:jf tE 4 (j+1+1) q++L=jf tE 4 (j+1) q++(tE (q+(j+1)*4)++L):=by
    have:∀(n q:Nat),jf tE 4 (n+1) q=jf tE 4 n q++tE (q+n*4):=λn=>by
     induction n with
     |zero=>intro q;simp[jf]
     |succ n ih=>
      intro q;have h1:jf tE 4 (n+1+1) q=tE q++jf tE 4 (n+1) (q+4):=rfl;have h2:jf tE 4 (n+1) q=tE q++jf tE 4 n (q+4):=rfl;rw[h1,ih,h2,List.append_assoc];have:q+4+n*4=q+(n+1)*4:=by omega
      rw[this]
    rw[this,List.append_assoc]
   rw[e1,←e2];exact dw (dw (dw h3))
  obtain⟨b1,b2⟩:=Yy j (n:=n+5) (d:=d+2) h6 (by omega);have g1:T[i+6+7*j+2]? = some ⟨1,[101,110,100],0,q+j*4⟩:=gR b2;have b3:T.drop (i+6+7*j+2+1)=tE (q+(j+1)*4)++L:=dw b2;have g2:T[i+6+7*j+2+1]? = some ⟨1,[101,110,100],0,q+(j+1)*4⟩:=gR b3;have e1:n+5+20*j+20=n+20*j+25:=by omega
  rw[e1]at b1;have hu:=amh (p:=p+m+10) (d:=d+1) h3 (by omega) b1 g1;have hx:=Jl (n:=n+20*j+25) (d:=d) hu g2 (Oy (.inr (.inr rfl))) (by omega);have hs:=MP h0 hx;have e2:i+6+7*j+2+1=i+7*(j+1)+2:=by omega
  rw[e2]at hs b3 g2;refine⟨?_,b3⟩;have en:n+20*(j+1)+20=n+20*j+25+12+2+1:=by omega
  rw[en,MO hs (by rw[lY (gR h0)];rfl) (by simp[aP.kind]) (by rw[cO g2];rfl)];exact Tu (by rw[lY g2];rfl)
end
section
variable {T R L:List Tok}{i d p q m n j k:Nat}{x y:Tok}
def oP(m:Nat):Nat→Nat→List aP
 |_,0=>[]
 |p,k+1=>aL m p::oP m (p+(m+12)) k
def fnS(m j p:Nat):aP:=.mk 1 p [nN (m+1)] [.mk 7 (p+m+10) 0 [] 0 [] [.mk [] (oO m j (p+(m+21)))]] []
def nS(k j m:Nat):List aP:=oP m 0 k++[fnS m j (k*(m+12)),aR m (k*(m+12)+(j+1)*(m+21)+(m+9)+(j+1)*4)]
def LcL(L:List Tok):Prop:=∃p R,L=⟨1,[108,111,99,97,108],0,p⟩::R
theorem ayL(h:LcL L):∀k p,LcL (jf (tL m) (m+12) k p++L)
 |0,_=>h
 |k+1,p=>⟨p,_,rfl⟩
theorem Tv(hd:d≤80):∀(k:Nat){out:List aP}{i p:Nat}{L:List Tok},T.drop i=jf (tL m) (m+12) k p++L→LcL L→dP T (n+14+k) out i d=dP T (n+14) (out++oP m p k) (i+4*k) d∧T.drop (i+4*k)=L
 |0,out,i,p,L,h,_=>by
  refine⟨?_,h⟩;simp only[oP,List.append_nil,Nat.mul_zero,Nat.add_zero]
 |k+1,out,i,p,L,h,hL=>by
  obtain⟨p',R,e⟩:=ayL (m:=m) hL k (p+(m+12));have h0:T.drop i=⟨1,[108,111,99,97,108],0,p⟩::⟨2,nN (m+1),0,p+6⟩::⟨5,[61],0,p+m+8⟩::⟨3,[],1,p+m+10⟩::(jf (tL m) (m+12) k (p+(m+12))++L):=h;have h3:=dw (dw (dw h0));have h4:T.drop (i+4)=jf (tL m) (m+12) k (p+(m+12))++L:=dw h3;obtain⟨e1,e2⟩:=Tv hd k (out:=out++[aL m p]) h4 hL;have g4:T[i+4]? = some ⟨1,[108,111,99,97,108],0,p'⟩:=by
   rw[e]at h4;exact gR h4
  have hx:fu T (n+k+12) (i+3) d=.ok (.mk 4 (p+m+10) 1 [] 0 [] []) (i+3+1):=Jl (n:=n+k) (axp (gR h3)) g4 (Oy (.inl rfl)) (by omega);have hs:=MP h0 hx;have em:n+k+12+2=n+14+k:=by omega
  rw[em]at hs;refine⟨?_,?_⟩
  ·rw[←Nat.add_assoc,MO hs (by rw[lY (gR h0)];rfl) (by simp[aP.kind]) (by rw[cO g4];rfl)];have e3:i+3+1=i+4:=rfl;rw[e3];show dP T (n+14+k) (out++[aL m p]) (i+4) d=_;rw[e1,List.append_assoc];have:i+4+4*k=i+4*(k+1):=by omega
   rw[this];rfl
  ·rw[←e2];congr 1;omega
theorem E7{t:Nat→List Tok}{w c:Nat}(h:∀p,(t p).length=c):∀(n p:Nat),(jf t w n p).length=n*c
 |0,p=>(Nat.zero_mul c).symm
 |n+1,p=>by rw[jf,List.length_append,h,E7 h n,Nat.add_mul,Nat.one_mul,Nat.add_comm]
theorem afC{T:List Tok}{a:List aP}{j:Nat}(h:dP T (64*T.length+63) [] 0 1=.ok a j)(hk:cg T j=0):lV T=.ok a j:=by
 have e:fk T (64*T.length+64) 0 0=dP T (64*T.length+63) [] 0 1:=by
  rw[show 64*T.length+64=(64*T.length+63)+1 by omega,fk.eq_2,if_neg (by omega)]
 unfold lV;rw[e,h];show(if cg T j=0 then _ else _)=_;rw[if_pos hk]
theorem aua(hm:m≤31)(hj:j≤19):Bj (.inl (y0 k (j+1) m))=.inl (nS k j m):=by
 have hT:=(amg hm k (j+1)).I6;have fin:∀a j',lV (y0 k (j+1) m)=.ok a j'→Bj (.inl (y0 k (j+1) m))=.inl a:=λa j' h=>by
  have hsc:Bj (.inl (y0 k (j+1) m))=(match lV (y0 k (j+1) m)with|.ok b _=>.inl b|.err c i=>.inr (c,aZ (y0 k (j+1) m) i)|.dZ=>.inl []):=rfl;rw[hsc,h]
 obtain⟨P,hP⟩:∃P,P=k*(m+12):=⟨_,rfl⟩
 obtain⟨Q,hQ⟩:∃Q,Q=P+(j+1)*(m+21)+(m+9):=⟨_,rfl⟩
 have hd0:(y0 k (j+1) m).drop 0=jf (tL m) (m+12) k 0++(jf (tF m) (m+21) (j+1) P++(tR m (P+(j+1)*(m+21))++(jf tE 4 (j+1) Q++(tR m (Q+(j+1)*4)++[⟨0,[],0,Q+(j+1)*4+m+8⟩])))):=by
  rw[hQ,hP];rfl
 generalize hTT:y0 k (j+1) m=T at *;have hlen:T.length=k*4+((j+1)*6+(2+((j+1)*1+3))):=by
  have h:=congrArg List.length hd0;rw[List.drop_zero]at h;simp only[List.length_append,E7 (t:=tL m) (c:=4) λ_=>rfl,E7 (t:=tF m) (c:=6) λ_=>rfl,E7 (t:=tE) (c:=1) λ_=>rfl]at h;rw[h];rfl
 obtain⟨N,hN⟩:∃N,N+20*j+64+k=64*T.length+63:=⟨64*T.length+63-(20*j+64+k),by omega⟩
 obtain⟨e1,e2⟩:=Tv (n:=N+20*j+50) (d:=1) (by omega) k (out:=[]) hd0 ⟨P,_,rfl⟩;rw[Nat.zero_add]at e2;have h0:T.drop (4*k)=⟨1,[108,111,99,97,108],0,P⟩::⟨2,nN (m+1),0,P+6⟩::⟨5,[61],0,P+m+8⟩::⟨1,[102,117,110,99,116,105,111,110],0,P+m+10⟩::⟨5,[40],0,P+m+18⟩::⟨5,[41],0,P+m+19⟩::(jf (tF m) (m+21) j (P+(m+21))++(tR m (P+(j+1)*(m+21))++(jf tE 4 (j+1) Q++(tR m (Q+(j+1)*4)++[⟨0,[],0,Q+(j+1)*4+m+8⟩])))):=by
  rw[e2];rfl
 have h3:=dw (dw (dw h0));have h6:T.drop (4*k+6)=jf (tF m) (m+21) j (P+(m+21))++(tR m (P+(m+21)+j*(m+21))++(jf tE 4 (j+1) Q++(tR m (Q+(j+1)*4)++[⟨0,[],0,Q+(j+1)*4+m+8⟩]))):=by
  have e1:P+(m+21)+j*(m+21)=P+(j+1)*(m+21):=by rw[Nat.add_mul,Nat.one_mul];omega
  rw[e1];exact dw (dw (dw h3))
 obtain⟨b1,b2⟩:=Yy j (n:=N+29) (d:=3) h6 (by omega);have g1:T[4*k+6+7*j+2]? = some ⟨1,[101,110,100],0,Q+j*4⟩:=gR b2;have b3:T.drop (4*k+6+7*j+2+1)=⟨1,[114,101,116,117,114,110],0,Q+(j+1)*4⟩::⟨2,nN (m+1),0,Q+(j+1)*4+7⟩::⟨0,[],0,Q+(j+1)*4+m+8⟩::[]:=dw b2;have g2:=gR b3;have g4:=gR (dw (dw b3));have hu:=amh (p:=P+m+10) (d:=1+1) h3 (by omega) b1 g1;have hx:=Jl (d:=1) hu g2 (Oy (.inr (.inl rfl))) (by omega);have hs:=MP h0 hx;have hr:=ami (n:=N+20*j+48) (d:=1) b3 at5 ⟨rfl,rfl,rfl⟩ (by omega);have en:N+29+20*j+20+12+2=N+20*j+63:=by omega
 rw[en]at hs;have en2:N+20*j+48+14=N+20*j+62:=by omega
 rw[en2]at hr;have hz:dP T (N+20*j+50+14+k) [] 0 1=.ok (nS k j m) (4*k+6+7*j+2+1+2):=by
  rw[e1,Nat.zero_add];have en3:N+20*j+50+14=N+20*j+63+1:=by omega
  rw[en3,MO hs (by rw[lY (gR h0)];rfl) (by simp[aP.kind]) (by rw[cO g2];rfl)];have en4:N+20*j+63=N+20*j+62+1:=by omega
  rw[en4,dP.eq_2,lY g2,if_neg (by exact uZ rfl),hr];simp only[cG.bind];have ho:sQ T [59] (4*k+6+7*j+2+1+2)=4*k+6+7*j+2+1+2:=by
   unfold sQ;rw[cO g4];rfl
  rw[ho,if_neg (by
   rw[lY g4];exact λg=>by cases g.2),show N+20*j+62=N+20*j+61+1 from rfl,Tu (by rw[lY g4];rfl)]
  unfold nS;rw[←hP,←hQ];simp only[List.nil_append,List.append_assoc];rfl
 have en5:N+20*j+50+14+k=64*T.length+63:=by omega
 rw[en5]at hz;exact fin _ _ (afC hz (by rw[qf g4]))
theorem axq{n lp a v:Nat}{L:List (List (List Nat))}{ns:List (List Nat)}:kE n L ns (.mk 4 a v [] 0 [] [])=none:=by
 cases n with
 |zero=>rfl
 |succ n=>
  rw[kE,if_neg (λg=>by cases g.1)];rfl
theorem aub{n a:Nat}{L:List (List (List Nat))}{ns:List (List Nat)}{nm:List Nat}(h:uD L ns nm=true):kE n L ns (.mk 6 a 0 nm 0 [] [])=none:=by
 cases n with
 |zero=>rfl
 |succ n=>
  rw[kE,if_neg (λg=>by rw[h]at g;cases g.2.1)];rfl
theorem amj{n lp:Nat}{L:List (List (List Nat))}{ns:List (List Nat)}(h:uD L ns (nN (m+1))=true):kS n L lp (ns,none) (aR m p)=(ns,none):=by
 cases n with
 |zero=>rfl
 |succ n=>
  unfold aR;rw[kS.eq_2,if_neg (by decide),if_neg (by decide),if_neg (by decide),if_neg (by decide),if_neg (by decide),if_neg (by decide),if_neg (by decide),if_neg (by decide)];simp only[cy,dk,pW,aub h]
theorem Yz:∀(j:Nat){n p:Nat}{L:List (List (List Nat))},nN (m+1)∈L.flatten→kB n L 0 [] (oO m j p) []=none
 |0,n,p,L,h=>by
  cases n with
  |zero=>rfl
  |succ n=>
   have ha:uD L [] (nN (m+1))=true:=by
    unfold uD;rw[List.append_nil];exact decide_eq_true h
   rw[kB];show fl (kS n L 0 ([],none) (aR m p)).2 (cy (kE n L (kS n L 0 ([],none) (aR m p)).1) [])=none;rw[amj ha];rfl
 |j+1,n,p,L,h=>by
  cases n with
  |zero=>rfl
  |succ n=>
   rw[kB];show fl (kS n L 0 ([],none) (fnS m j p)).2 (cy _ [])=none;have e:(kS n L 0 ([],none) (fnS m j p)).2=none:=by
    cases n with
    |zero=>rfl
    |succ n=>
     unfold fnS;have l1:uK [] [nN (m+1)] p=none:=rfl;rw[kS.eq_2,if_pos rfl,l1];simp only[cy,dk,pW];cases n with
     |zero=>rfl
     |succ n=>
      rw[kE,if_neg (λg=>by cases g.1)];simp only[cy,dk,pW];cases n with
      |zero=>rfl
      |succ n=>
       rw[kF];exact Yz j (by simp only[List.flatten_append,List.mem_append];exact .inl h)
   rw[e];rfl
theorem Tw{n:Nat}{L:List (List (List Nat))}:∀(k p:Nat) (ns:List (List Nat)),ns.length+k≤150→(oP m p k).foldl (kS (n+1) L 0) (ns,none)=(ns++List.replicate k (nN (m+1)),none)
 |0,p,ns,h=>by simp[oP]
 |k+1,p,ns,h=>by
  have l1:uK ns [nN (m+1)] p=none:=by
   unfold uK;rw[if_neg (by simp;omega)]
  have e:kS (n+1) L 0 (ns,none) (aL m p)=(ns++[nN (m+1)],none):=by
   unfold aL;rw[kS.eq_2,if_pos rfl,l1];simp only[cy,dk,pW,axq (lp:=0)]
  rw[oP,List.foldl_cons,e,Tw k (p+(m+12)) (ns++[nN (m+1)]) (by simp;omega),List.append_assoc];rfl
theorem axr{n:Nat}(hk1:1≤k)(hk:k≤60):Jd (n+4) (nS k j m)=none:=by
 unfold Jd nS;have hlen:(eg++List.replicate k (nN (m+1))).length=2+k:=by
  rw[List.length_append,List.length_replicate];rfl
 have hmem:nN (m+1)∈eg++List.replicate k (nN (m+1)):=List.mem_append_right _ (List.mem_replicate.2 ⟨by omega,rfl⟩);rw[kB,List.foldl_append,Tw k 0 eg (by show 2+k≤150;omega),List.foldl_cons,List.foldl_cons,List.foldl_nil];have e:kS (n+3) [] 0 (eg++List.replicate k (nN (m+1)),none) (fnS m j (k*(m+12)))=(eg++List.replicate k (nN (m+1))++[nN (m+1)],none):=by
  unfold fnS;have l1:uK (eg++List.replicate k (nN (m+1))) [nN (m+1)] (k*(m+12))=none:=by
   unfold uK;rw[if_neg (by rw[hlen];simp;omega)]
  rw[kS.eq_2,if_pos rfl,l1];simp only[cy,dk,pW];rw[kE,if_neg (λg=>by cases g.1)];simp only[cy,dk,pW];rw[kF,Yz j (by simp only[List.nil_append,List.flatten_cons,List.flatten_nil,List.append_nil];exact hmem)]
 rw[e,amj (by
  unfold uD;refine decide_eq_true ?_;simp only[List.flatten_nil,List.nil_append];exact List.mem_append_left _ hmem)]
 rfl
end
end Go.X
namespace Go.X
open Go.Proofs.YtcedghechlgecaaGreatDoor
section
variable {H:AH}{S S':LS}{lo:Nat}
theorem XP.noT{f g:Fm}{n:Nat}{a:List AV}{P:Nat→Prop}(x:XP f g n a P)(h3:P 3)(h5:P 5)(h:rM f):rM g:=by
 obtain⟨t1,t2,t3,t4,t5,t6⟩:=h;have e3:=x.s 3 h3;have e5:=x.s 5 h5;exact⟨e5.1.trans t1,e5.2.1.trans t2,e5.2.2.trans t3,e3.1.trans t4,e3.2.1.trans t5,e3.2.2.trans t6⟩
theorem XP.noN{f g:Fm}{n:Nat}{a:List AV}{P:Nat→Prop}(x:XP f g n a P)(h4:P 4)(h:Ax f):Ax g:=⟨(x.s 4 h4).2.1.trans h.1,(x.s 4 h4).2.2.trans h.2⟩
theorem Ch.low{fs fs':List Fm}(h:Ch lo H S fs)(s:bV S S' fs fs'):∀x,dQ lo x→S'.ob x=S.ob x:=λx hx=>by
 have hx:x<lo:=hx;have hl:=h.l;exact s.ob x (by omega) λq=>by have:=h.lw x q;omega
end
end Go.X
namespace Go.Proofs.YtcedghechlgecaaGreatDoor
open Go Go.X Go.Proofs.YtcedghechlgecaaGreatDoor.G
section
variable {H H':AH}{S S':LS}{K:KF}{lo:Nat}{f:Fm}{r:List Fm}{s:List Nat}
theorem axs(c p:Nat):rM (dI c p):=⟨rfl,rfl,rfl,rfl,rfl,rfl⟩
theorem axt(c p:Nat):Ax (dI c p):=⟨rfl,rfl⟩
theorem auc{m n p q:Nat}(hq:q≤900000):StC (tB (n+3)).c119 (nN (m+1)) (aR m p) 0 q [(0,0),(0,0),(9,0),(31,0)]:=by
 intro lo H S K c p' bu top L cs h hm hml hT hR hK;have h1:=hR.ones;rw[C8];show pI (nc (tB (n+2))) (.ptr (dI c p').c 0) (.agg cs) H K;unfold aR at hR;cases hR with
 |mk kind at_ names l bs vn vl vb cl bv bc g1 g2 g3 g4 g5 g6=>
 have ge:=g3 0 _ rfl;have gl:=bW.one1 g2;generalize cl 0=c0 at ge gl;have hc:=ge.len;have hc1:=ge.ones;refine afA (f:=dI c p') (cl:=λ_=>c0) (G:=λS1 f1 S2 f2 r2=>∃H2 D,Bd lo S c p' bu top (nN (m+1)) (eG L (nN (m+1))) 0 [(0,0),(0,0),(9,0)] H2 S2 f2 r2 D) h h1 gl (Nat.zero_le _) (λH1 S1 f1 x1 C9 c1 s1 K' hK'=>?_) (λH3 S3 S1 f1 S2 f2 r2 v0 x1 g s23 c3 s3=>?_)
 ·show rv (tB (n+1)).c148 (.ptr f1.c 0) vl H1 K';refine E4 (Q:=λH2=>∃S2 f2 r2 D,Bd lo S c p' bu top (nN (m+1)) (eG L (nN (m+1))) 0 [(0,0),(0,0),(9,0)] H2 S2 f2 r2 D∧bV S1 S2 (f1::(bu++[top])) (f2::r2)) c1 (gl.go (h.low s1) λ_ g=>g) hc hc1 (λH' S' c' s' K2 hK2=>?_) (λH2 ⟨S2,f2,r2,D,b,s2⟩=>hK' H2 S2 f2 r2 ⟨H2,D,b⟩ b.c (by rw[b.k0];show 3≤900000;omega) b.ch s2);show mJ (lX (tB n)) (.ptr f1.c 0) (.agg c0) H' K2;have a0:f1.k 0=1:=x1.k0;have a1:f1.l 0=bH 0 0:=x1.l0;cases ge with
  |mk kind at2 n2 s2 op l2 f2 vl2 vf2 pL Tx e1 e2 e3 e4 e5=>
  refine aAz (s:=nN (m+1)) (L:=L) c' hc1 rfl rfl (by omega) (x1.noT (by decide) (by decide) (axs c p')) (x1.noN (by decide) (axt c p')) hm (by omega) hT.tl hT.tk hT.hB hT.h8 hT.hl hT.hz λH2 S2 f2 cY x2 Da t3 t2 c2 s2=>hK2 H2 ⟨S2,f2,cY++[top],λ_=>False,?_,s'.trans s2⟩;have k2:=x2.s 2 (by decide);have k2':=x1.s 2 (by decide);refine⟨c2,(s1.trans s').trans s2,⟨cY,rfl,t2⟩,x2.c.trans x1.c,x2.p.trans x1.p,x2.par.trans x1.par,⟨by rw[Da,C9];exact Nat.zero_le _,λg=>absurd rfl g⟩,by rw[x2.k0,a0];rfl,by rw[x2.l0,a1];rfl,t3,.inl ⟨k2.2.1.trans k2'.2.1,rfl⟩,λx hx=>hx.elim⟩
 ·obtain⟨H2,D,b⟩:=g;refine hK H3 S3 _ r2 D (b.next (is':=[(0,0),(0,0),(9,0),(31,0)]) c3 s23 rfl rfl rfl b.rg.1 (f2.fe 0 _ _ _ (by decide)) (f2.fe 0 _ _ _ (by decide)) ?_ ?_) λi hi=>?_
  ·show f2.k 0+1=4;rw[b.k0];rfl
  ·show f2.l 0++bH 31 0=_;rw[b.l0];rfl
  ·simp only[List.mem_cons,List.not_mem_nil,or_false]at hi;rcases hi with rfl|rfl|rfl|rfl
   ·exact .inl (.inl rfl)
   ·exact .inl (.inl rfl)
   ·exact .inr (.inr (.inr (.inl ⟨rfl,Nat.zero_lt_one⟩)))
   ·exact .inl (.inr (.inr rfl))
theorem aud{n p p2 k q:Nat}{nm:List Nat}{body:List aP}(hF:NV (tB n).xN s body k (q+1))(hk:k≠0):StC (tB (n+3)).c119 s (.mk 1 p [nm] [.mk 7 p2 0 [] 0 [] [.mk [] body]] []) k q [(0,0),(0,0),(12,0),(8,0)]:=by
 intro lo H S K c p' bu top L cs h hm hml hT hR hK;have h1:=hR.ones;rw[C8];show pI (nc (tB (n+2))) (.ptr (dI c p').c 0) (.agg cs) H K;cases hR with
 |mk kind at_ names l bs vn vl vb cl bv bc g1 g2 g3 g4 g5 g6=>
 have ge:=g3 0 _ rfl;have gl:=bW.one1 g2;generalize cl 0=c0 at ge gl;have hc:=ge.len;have hc1:=ge.ones;refine ao1 (f:=dI c p') (nm:=nm) (cl:=λ_=>c0) (G:=λS1 f1 S2 f2 r2=>∃H2 D,Bd lo S c p' bu top s (eG L s) k [(0,0),(0,0),(12,0)] H2 S2 f2 r2 D∧f2.k 4=0) h h1 g1 gl (Nat.zero_le _) (λH1 S1 f1 x1 C9 c1 s1 K' hK'=>?_) (λH3 S3 S1 f1 S2 f2 r2 v v0 x1 g s23 c3 s3=>?_)
 ·show rv (tB (n+1)).c148 (.ptr f1.c 0) vl H1 K';refine E4 (Q:=λH2=>∃S2 f2 r2 D,Bd lo S c p' bu top s (eG L s) k [(0,0),(0,0),(12,0)] H2 S2 f2 r2 D∧f2.k 4=0∧bV S1 S2 (f1::(bu++[top])) (f2::r2)) c1 (gl.go (h.low s1) λ_ g=>g) hc hc1 (λH' S' c' s' K2 hK2=>?_) (λH2 ⟨S2,f2,r2,D,b,b4,s2⟩=>hK' H2 S2 f2 r2 ⟨H2,D,b,b4⟩ b.c (by omega) (by have:=b.rg.1;omega) (by rw[b.k0];show 3≤900000;omega) b.ch s2);show mJ (lX (tB n)) (.ptr f1.c 0) (.agg c0) H' K2;have a0:f1.k 0=1:=x1.k0;have a1:f1.l 0=bH 0 0:=x1.l0;have n1:=x1.noT (by decide) (by decide) (axs c p');have n2:=x1.noN (by decide) (axt c p');have lw:=h.low (s1.trans s');have ge':=ge.go (S':=S') (Q':=dQ lo) lw λ_ g=>g;cases ge' with
  |mk kind at2 n2 s2 op l2 f2 vl2 vf2 pL Tx e1 e2 e3 e4 e5=>
  have gf:=e5 0 _ rfl;have gfl:=bW.one1 e4;generalize Tx 0=d0 at gf gfl;cases gf with
  |mk ps bd vp vbb cb q1 q2 q3=>
  have i2:=x1.s 2 (by decide);refine axj (z:=eG L s) hF c' (λf1' x1'=>⟨f1'::bu,top,L,rfl,λx hx=>?_,by show bu.length+1<q+1;omega,hT,rfl⟩) hc1 rfl rfl gfl q1 ⟨cb,q2,q3⟩ (by omega) i2.1 λH2 S2 f2 r2 w D t x2 Da k2 l2 pt hD he c2 s2=>?_
  ·rcases List.mem_cons.1 hx with e|e
   ·subst e;exact⟨x1'.noT (by decide) (by decide) n1,x1'.noN (by decide) n2⟩
   ·exact hm x e
  ·obtain⟨f1',g2,afD,top',axu,x1',em,ts,e5,et,s3⟩:=he;have em':(f1'::bu)++[top]=afD++[top']:=em;obtain⟨rfl,ao5⟩:=List.append_inj' em' rfl;obtain rfl:top=top':=by simpa using ao5
   cases ts with
   |@cons _ gg _ cY hr ts=>
   obtain⟨rfl,rfl⟩:gg=g2∧cY++[top]=r2:=by
    have e5:gg::(cY++[top])=g2::r2:=e5;exact⟨List.cons.inj e5 |>.1,List.cons.inj e5 |>.2⟩
   have t3:gg.k 3=1∧gg.l 3=[.bool (Ay bu),.int 0 (Az (eG L s) bu)]:=by
    obtain⟨v5,Tn,rfl⟩:=hr;exact⟨rfl,rfl⟩
   have et:t=[(false,0)]:=et;rw[et]at pt;have n01:=s1.n;have n12:=s'.n;have i4:=x1.s 4 (by decide);have j4:=x2.s 4 (by decide);refine hK2 H2 ⟨S2,f2,cY++[top],D,⟨c2,(s1.trans s').trans s2,⟨cY,rfl,ts⟩,x2.c.trans x1.c,x2.p.trans x1.p,x2.par.trans x1.par,⟨by rw[Da,C9];exact Nat.zero_le _,λ_=>k2⟩,by rw[x2.k0,a0];rfl,by rw[x2.l0,a1];rfl,⟨s3.2.1.trans t3.1,s3.2.2.trans t3.2⟩,.inr ⟨w,k2,l2,pt⟩,λx hx=>?_⟩,j4.2.1.trans i4.2.1,s'.trans s2⟩;obtain⟨d1,d2,d3,d4⟩:=hD x hx;exact⟨d1,d2,d3,by omega⟩
 ·obtain⟨H2,D,b,b4⟩:=g;have b2:=b.rg.2 hk;have axv:((f2.nm nm v).set 0 v0 (f2.k 0+1) (f2.l 0++bH 8 (f2.k 4))).reg=1:=by
   show max f2.reg (f2.k 4+1)=1;rw[b4];have:=b.rg.1;omega
  refine hK H3 S3 _ r2 D (b.next (is':=[(0,0),(0,0),(12,0),(8,0)]) c3 s23 rfl rfl rfl (by rw[axv];exact Nat.le_refl _) ⟨rfl,rfl,rfl⟩ ⟨rfl,rfl,rfl⟩ ?_ ?_) λi hi=>?_
  ·show f2.k 0+1=4;rw[b.k0];rfl
  ·show f2.l 0++bH 8 (f2.k 4)=_;rw[b.l0,b4];rfl
  ·have e2:((f2.nm nm v).set 0 v0 (f2.k 0+1) (f2.l 0++bH 8 (f2.k 4))).k 2=1:=b2;rw[axv,e2];simp only[List.mem_cons,List.not_mem_nil,or_false]at hi;rcases hi with rfl|rfl|rfl|rfl
   ·exact .inl (.inl rfl)
   ·exact .inl (.inl rfl)
   ·exact .inr (.inr (.inr (.inr ⟨rfl,Nat.zero_lt_one⟩)))
   ·exact .inr (.inr (.inl ⟨.inr rfl,Nat.zero_lt_one⟩))
end
end Go.Proofs.YtcedghechlgecaaGreatDoor
namespace Go.X
section
variable {S S':LS}{f:Fm}{r:List Fm}
theorem bV.tl{fs:List Fm}(h:bV S S' fs (f::r)):bV S S' fs r:=⟨h.n,h.ob,λx ⟨g,hg,hx⟩=>h.own x ⟨g,List.mem_cons_of_mem _ hg,hx⟩⟩
end
end Go.X
namespace Go.Proofs.YtcedghechlgecaaGreatDoor
open Go Go.X Go.Proofs.YtcedghechlgecaaGreatDoor.G
section
variable {H H':AH}{S S':LS}{K:KF}{lo:Nat}{f:Fm}{r:List Fm}{s:List Nat}
theorem aqq{n k q:Nat}{b:aP}{is:List (Nat×Nat)}(hS:StC (tB (n+3)).c119 s b k q is)(hi:is.length=4):NV (tB (n+7)).xN s [b] (6+k) q:=by
 intro lo H S K c p bu top L vp vb h hm hml hT hp hb hK;rw[C8];show Es (jO (tB (n+6))) (.ptr (dI c p).c 0) vp vb H K;obtain⟨cb,q2,q3⟩:=hb;refine aAC (Gd:=λS2 f2 r2=>∃H2 D,Bd lo S c p bu top s (eG L s) k is H2 S2 f2 r2 D∧∀i∈is,oN 0 f2.reg 1 (f2.k 2) i) h hp rfl (λH1 S1 c1 s1 K' hK'=>?_) (λH3 S3 S2 f2 r2 f3 g ec x3 rg3 c3 s23 s3=>?_)
 ·show IM (tB (n+5)).c117 (.ptr (dI c p).c 0) vb H1 K';refine axm (X:=λH3=>∃S3 f3 r3 D,Bd lo S c p bu top s (eG L s) k is H3 S3 f3 r3 D∧(∀i∈is,oN 0 f3.reg 1 (f3.k 2) i)∧bV S1 S3 (dI c p::(bu++[top])) (f3::r3)) c1 q2.one (λH2 S2 b1 b2 c2 s2 o1 o2 l1 l2 K2 hK2=>?_) (λH3 ⟨S3,f3,r3,D,b,ok,s3⟩=>hK' H3 S3 f3 r3 ⟨H3,D,b,ok⟩ b.c (by rw[b.k0,hi];omega) b.ch s3);show CK (Gx (tB (n+4))) (.ptr (dI c p).c 0) (.func 118 [] [.ptr b1 0,.ptr b2 0]) H2 K2;have w1:¬eU (dI c p::(bu++[top])) b1:=λg=>by have:=c1.bX g;omega
  have w2:¬eU (dI c p::(bu++[top])) b2:=λg=>by have:=c1.bX g;omega
  have e1:b1<S2.n:=c2.m.lt (by rw[o1];simp);have e2:b2<S2.n:=c2.m.lt (by rw[o2];simp);refine aqn (G:=λS3 f3 r3=>∃H3 D,Bd lo S c p bu top s (eG L s) k is H3 S3 f3 r3 D∧∀i∈is,oN 0 f3.reg 1 (f3.k 2) i) c2 (Nat.zero_le _) (λK3 hK3=>?_) (λH4 S4 S3 f3 r3 v g ec c4 s34 s4=>?_)
  ·show CM (tB (n+3)).c119 (.ptr b1 0) (.ptr b2 0) H2 K3;have s02:=s1.trans s2;refine aqo (lo:=lo) (n:=1) (c:=c) (vb:=vb) (cl:=cb) (I:=λi H' S'=>∃f3 r3,Ch lo H' S' (f3::r3)∧bV S2 S' (dI c p::(bu++[top])) (f3::r3)∧((i=0∧f3=dI c p∧r3=bu++[top])∨(i=1∧∃D,Bd lo S c p bu top s (eG L s) k is H' S' f3 r3 D∧∀i∈is,oN 0 f3.reg 1 (f3.k 2) i)))
    (λi H' S' ⟨f3,r3,c',s',_⟩=>⟨c'.m,(s'.ob b1 e1 w1).trans o1,(s'.ob b2 e2 w2).trans o2,q2.go (h.low (s02.trans s')) λ_ g=>g⟩) (λi Ha Sa Hb Sb hI mb xb=>?_) (λi Ha Sa hin hI K4 hK4=>?_) (λi hin=>?_) (by decide) ⟨dI c p,bu++[top],c2,bV.refl,.inl ⟨rfl,rfl,rfl⟩⟩ λH3 S3 hI=>?_
   ·obtain⟨f3,r3,c',s',hI⟩:=hI;have cb':=c'.keep mb xb.n λx hx=>xb.ob x (c'.bX hx);have sb':bV Sa Sb (f3::r3) (f3::r3):=bV.put bV.refl xb.n λx hx=>xb.ob x hx;refine⟨f3,r3,cb',s'.trans sb',?_⟩;rcases hI with hI|⟨ei,D,b,ok⟩
    ·exact .inl hI
    ·exact .inr ⟨ei,D,b.next cb' sb' rfl rfl rfl b.rg.1 ⟨rfl,rfl,rfl⟩ ⟨rfl,rfl,rfl⟩ b.k0 b.l0,ok⟩
   ·obtain⟨f3,r3,c',s',hI⟩:=hI;rcases hI with⟨rfl,rfl,rfl⟩|⟨rfl,_⟩
    ·have hr:=(q3 0 b rfl).go (S':=Sa) (Q':=dQ lo) (h.low (s02.trans s')) λ_ g=>g;refine hS c' hm hml hT hr λH5 S5 f5 r5 D b5 ok=>hK4 H5 S5 ⟨f5,r5,b5.ch,s'.trans b5.sp,.inr ⟨rfl,D,b5.pre (s02.trans s'),ok⟩⟩
    ·omega
   ·obtain rfl:i=0:=by omega
    have hr:=q3 0 b rfl;exact⟨hr.len,hr.ones⟩
   ·obtain⟨f3,r3,c',s',hI⟩:=hI;rcases hI with⟨e,_⟩|⟨_,D,b,ok⟩
    ·cases e
    ·exact hK3 H3 S3 f3 r3 (f3.l 4) ⟨H3,D,b,ok⟩ b.c rfl (Nat.zero_le _) c' s'
  ·obtain⟨H3,D,b,ok⟩:=g;exact hK2 H4 ⟨S4,_,r3,D,b.next c4 s34 rfl rfl rfl b.rg.1 (f3.fe 4 _ _ _ (by decide)) (f3.fe 4 _ _ _ (by decide)) b.k0 b.l0,ok,s2.trans s4⟩
 ·obtain⟨H2,D,b,ok⟩:=g;have g2:=x3.s 2 (by decide);have b':=b.next (is':=is++[(1,0),(31,0)]) c3 s23 x3.c x3.p x3.par (by rw[rg3];exact b.rg.1) g2 (x3.s 3 (by decide)) (by rw[x3.k0,b.k0,List.length_append];rfl) (by rw[x3.l0,b.l0,qK];rfl);obtain⟨D',pt,hD⟩:=b'.fin (λg hg=>(hm g hg).1) (λi hi=>by
   rw[rg3,g2.2.1];rcases List.mem_append.1 hi with e|e
   ·exact ok i e
   ·simp only[List.mem_cons,List.not_mem_nil,or_false]at e;rcases e with rfl|rfl
    ·exact .inl (.inr (.inl rfl))
    ·exact .inl (.inr (.inr rfl))) ⟨is++[(1,0)],by rw[List.append_assoc];rfl⟩ (by rw[List.length_append,hi];decide)
  obtain⟨cY,er,ts⟩:=b.tk;subst er;have el:(is++[(1,0),(31,0)]).length+k=6+k:=by rw[List.length_append,hi];rfl
  rw[el]at pt;rw[x3.p,b.p];exact hK H3 S3 cY D' ts c3.tail s3.tl pt hD
theorem YA{m n:Nat}:∀(j:Nat){p q:Nat},q+j≤900000→NV (tB (n+7*(j+1))).xN (nN (m+1)) (oO m j p) (6*(j+1)) q
 |0,p,q,hq=>aqq (n:=n) (auc (m:=m) (n:=n) (p:=p) (by omega)) rfl
 |j+1,p,q,hq=>by
  have ih:NV (tB (n+7*(j+1))).xN (nN (m+1)) (oO m j (p+(m+21))) (6*(j+1)) (q+1):=YA j (by omega);have hs:StC (tB (n+7*(j+1)+3)).c119 (nN (m+1)) (.mk 1 p [nN (m+1)] [.mk 7 (p+m+10) 0 [] 0 [] [.mk [] (oO m j (p+(m+21)))]] []) (6*(j+1)) q [(0,0),(0,0),(12,0),(8,0)]:=aud ih (by omega);have h:NV (tB (n+7*(j+1)+7)).xN (nN (m+1)) (oO m (j+1) p) (6+6*(j+1)) q:=aqq hs rfl;have e:6+6*(j+1)=6*(j+1+1):=by omega
  rw[e]at h;exact h
end
section
variable {H H':AH}{S S':LS}{K:KF}{lo:Nat}{f f':Fm}{s:List Nat}
structure Tp(lo:Nat)(S0:LS)(c p:Nat)(L:List (List Nat×Nat))(R:Nat)(z:Int)(n:Nat)(is:List (Nat×Nat))(H:AH)(S:LS)(f:Fm)(D:Nat→Prop):Prop where
 ch:Ch lo H S [f]
 sp:bV S0 S [dI c p] [f]
 c:f.c=c
 p:f.p=p
 par:f.par=2
 rg:f.reg=R
 k0:f.k 0=is.length
 l0:f.l 0=BJ is
 n4:f.k 4=L.length∧f.l 4=rL L
 i1:f.k 1=0∧f.l 1=[]∨f.k 1=1∧f.l 1=[.int 0 1]
 t3:f.k 3=0∧f.l 3=[]
 w0:n=0→f.v 2=.ab
 w1:n≠0→∃w,f.k 2=1∧f.l 2=[w]∧kI S D w n [(true,z)]
 d:∀x,D x→lo≤x∧x<S.n∧¬eU [f] x∧S0.n≤x
section
variable {S0 S1:LS}{c p n R R':Nat}{z:Int}{L L':List (List Nat×Nat)}{is is':List (Nat×Nat)}{D:Nat→Prop}
theorem Tp.next(h:Tp lo S0 c p L R z n is H S f D)(c':Ch lo H' S' [f'])(s':bV S S' [f] [f'])(hc:f'.c=f.c)(hp:f'.p=f.p)(hpar:f'.par=f.par)(hr:f'.reg=R')(h2:f.same f' 2)(h3:f.same f' 3)(hk:f'.k 0=is'.length)(hl:f'.l 0=BJ is')(h4:f'.k 4=L'.length∧f'.l 4=rL L')(h1:f'.k 1=0∧f'.l 1=[]∨f'.k 1=1∧f'.l 1=[.int 0 1]):Tp lo S0 c p L' R' z n is' H' S' f' D where
 ch:=c'
 sp:=h.sp.trans s'
 c:=hc.trans h.c
 p:=hp.trans h.p
 par:=hpar.trans h.par
 rg:=hr
 k0:=hk
 l0:=hl
 n4:=h4
 i1:=h1
 t3:=⟨h3.2.1.trans h.t3.1,h3.2.2.trans h.t3.2⟩
 w0:=λe=>h2.1.trans (h.w0 e)
 w1:=λe=>by
  obtain⟨w,a,b,pt⟩:=h.w1 e;exact⟨w,h2.2.1.trans a,h2.2.2.trans b,pt.keep h.ch.m λx hx=>s'.ob x (h.d x hx).2.1 (h.d x hx).2.2.1⟩
 d:=λx hx=>by
  obtain⟨d1,d2,d3,d4⟩:=h.d x hx;have:=s'.n;exact⟨d1,by omega,λq=>(s'.own x q).elim d3 (by omega),d4⟩
theorem ao6(L:List (List Nat×Nat))(nm:List Nat):rL (L++[(nm,L.length)])=rL L++[ak nm,.int 0 (L.length:Int)]:=by
 rw[Ys];rfl
theorem Tp.new{f2:Fm}{nm:List Nat}{v v0:AV}{H3:AH}{S3:LS}(b:Tp lo S0 c p L L.length z n is H S f2 D)(c3:Ch lo H3 S3 [(f2.nm nm v).set 0 v0 (f2.k 0+1) (f2.l 0++bH 8 (f2.k 4))])(s3:bV S S3 [f2] [(f2.nm nm v).set 0 v0 (f2.k 0+1) (f2.l 0++bH 8 (f2.k 4))]):Tp lo S0 c p (L++[(nm,L.length)]) (L.length+1) z n (is++[(8,L.length)]) H3 S3 ((f2.nm nm v).set 0 v0 (f2.k 0+1) (f2.l 0++bH 8 (f2.k 4))) D:=by
 obtain⟨n4,m4⟩:=b.n4;refine b.next c3 s3 rfl rfl rfl ?_ ⟨rfl,rfl,rfl⟩ ⟨rfl,rfl,rfl⟩ ?_ ?_ ⟨?_,?_⟩ b.i1
 ·show max f2.reg (f2.k 4+1)=_;rw[b.rg,n4];exact Nat.max_eq_right (Nat.le_succ _)
 ·show f2.k 0+1=_;rw[b.k0,List.length_append];rfl
 ·show f2.l 0++bH 8 (f2.k 4)=_;rw[b.l0,n4,qK];rfl
 ·show f2.k 4+1=_;rw[n4,List.length_append];rfl
 ·show f2.l 4++[ak nm,.int 0 (f2.k 4:Int)]=_;rw[m4,n4,ao6]
theorem axw{m n p q:Nat}{cs:List AV}(h:Tp lo S0 c p L L.length z 0 is H S f D)(hR:fT S (dQ lo) cs (aL m q))(hL:L.length≤1000)(hi:is.length≤1000)
  (hK:∀H' S' f',Tp lo S0 c p (L++[(nN (m+1),L.length)]) (L.length+1) z 0 (is++[(0,0),(0,0),(4,0)]++[(8,L.length)]) H' S' f' D→bV S S' [f] [f']→f'.k 1=1→K (.ret (.aE [])) H'):(tB (n+3)).c119 (.ptr c 0) (.agg cs) H K:=by
 have h1:=hR.ones;rw[C8,←h.c];show pI (nc (tB (n+2))) (.ptr f.c 0) (.agg cs) H K;unfold aL at hR;cases hR with
 |mk kind at_ names l bs vn vl vb cl bv bc g1 g2 g3 g4 g5 g6=>
 have ge:=g3 0 _ rfl;have gl:=bW.one1 g2;generalize cl 0=c0 at ge gl;have hc:=ge.len;have hc1:=ge.ones;have hk0:=h.k0;refine ao1 (f:=f) (r:=[]) (nm:=nN (m+1)) (cl:=λ_=>c0) (G:=λS1 f1 S2 f2 r2=>r2=[]∧∃H2,Tp lo S0 c p L L.length z 0 (is++[(0,0),(0,0),(4,0)]) H2 S2 f2 D∧f2.k 1=1) h.ch h1 g1 gl (by omega) (λH1 S1 f1 x1 C9 c1 s1 K' hK'=>?_) (λH3 S3 S1 f1 S2 f2 r2 v v0 x1 g s23 c3 s3=>?_)
 ·show rv (tB (n+1)).c148 (.ptr f1.c 0) vl H1 K';refine E4 (Q:=λH2=>∃S2 f2,Tp lo S0 c p L L.length z 0 (is++[(0,0),(0,0),(4,0)]) H2 S2 f2 D∧f2.k 1=1∧bV S1 S2 [f1] [f2]) c1 (gl.go (h.ch.low s1) λ_ g=>g) hc hc1 (λH' S' c' s' K2 hK2=>?_) (λH2 ⟨S2,f2,b,b1,s2⟩=>hK' H2 S2 f2 [] ⟨rfl,H2,b,b1⟩ (b.c.trans h.c.symm) (by rw[b.n4.1];omega) (by rw[b.rg];omega) (by rw[b.k0,List.length_append];show is.length+3≤_;omega) b.ch s2);show mJ (lX (tB n)) (.ptr f1.c 0) (.agg c0) H' K2;have a0:=x1.k0;have a1:=x1.l0;cases ge with
  |mk kind at2 n2 s2 op l2 f2 vl2 vf2 pL Tx e1 e2 e3 e4 e5=>
  have i1:=x1.s 1 (by decide);refine axh c' hc1 rfl rfl (by omega) (by rw[i1.2.1,i1.2.2];exact h.i1) λH2 S2 f2 x2 Da k1 l1 c2 s2=>hK2 H2 ⟨S2,f2,?_,k1,s'.trans s2⟩;have x:=(x1.weak (Q:=λi=>i≠0∧i≠1) λi hi=>hi.1).trans x2;have y2:=x.s 2 (by decide);have y3:=x.s 3 (by decide);have y4:=x.s 4 (by decide);refine h.next c2 ((s1.trans s').trans s2) x.c x.p x.par (by rw[Da,C9];exact h.rg) y2 y3 (by rw[x.k0,h.k0,List.length_append];rfl) (by rw[x.l0,h.l0,qK];rfl) ⟨y4.2.1.trans h.n4.1,y4.2.2.trans h.n4.2⟩ (.inr ⟨k1,l1⟩)
 ·obtain⟨rfl,H2,b,b1⟩:=g;exact hK H3 S3 _ (b.new c3 s23) s3 b1
theorem axx{n p p1 p2 k:Nat}{nm:List Nat}{body:List aP}{cs:List AV}(hF:NV (tB n).xN s body k 1)(hk:k≠0)(h:Tp lo S0 c p L L.length z 0 is H S f D)(hR:fT S (dQ lo) cs (.mk 1 p1 [nm] [.mk 7 p2 0 [] 0 [] [.mk [] body]] []))(hL:L.length≤1000)(hi:is.length≤1000)(hB:∀p∈L,B8 p.1)(h8:B8 s)(hz:0≤z)(ez:eG L s=z)
  (hK:∀H' S' f' D',Tp lo S0 c p (L++[(nm,L.length)]) (L.length+1) z k (is++[(0,0),(0,0),(12,0)]++[(8,L.length)]) H' S' f' D'→bV S S' [f] [f']→f'.k 1=f.k 1→K (.ret (.aE [])) H'):(tB (n+3)).c119 (.ptr c 0) (.agg cs) H K:=by
 have h1:=hR.ones;rw[C8,←h.c];show pI (nc (tB (n+2))) (.ptr f.c 0) (.agg cs) H K;cases hR with
 |mk kind at_ names l bs vn vl vb cl bv bc g1 g2 g3 g4 g5 g6=>
 have ge:=g3 0 _ rfl;have gl:=bW.one1 g2;generalize cl 0=c0 at ge gl;have hc:=ge.len;have hc1:=ge.ones;have hk0:=h.k0;refine ao1 (f:=f) (r:=[]) (nm:=nm) (cl:=λ_=>c0) (G:=λS1 f1 S2 f2 r2=>r2=[]∧∃H2 D',Tp lo S0 c p L L.length z k (is++[(0,0),(0,0),(12,0)]) H2 S2 f2 D'∧f2.k 1=f.k 1) h.ch h1 g1 gl (by omega) (λH1 S1 f1 x1 C9 c1 s1 K' hK'=>?_) (λH3 S3 S1 f1 S2 f2 r2 v v0 x1 g s23 c3 s3=>?_)
 ·show rv (tB (n+1)).c148 (.ptr f1.c 0) vl H1 K';refine E4 (Q:=λH2=>∃S2 f2 D',Tp lo S0 c p L L.length z k (is++[(0,0),(0,0),(12,0)]) H2 S2 f2 D'∧f2.k 1=f.k 1∧bV S1 S2 [f1] [f2]) c1 (gl.go (h.ch.low s1) λ_ g=>g) hc hc1 (λH' S' c' s' K2 hK2=>?_) (λH2 ⟨S2,f2,D',b,b1,s2⟩=>hK' H2 S2 f2 [] ⟨rfl,H2,D',b,b1⟩ (b.c.trans h.c.symm) (by rw[b.n4.1];omega) (by rw[b.rg];omega) (by rw[b.k0,List.length_append];show is.length+3≤_;omega) b.ch s2);show mJ (lX (tB n)) (.ptr f1.c 0) (.agg c0) H' K2;have a0:=x1.k0;have a1:=x1.l0;have lw:=h.ch.low (s1.trans s');have ge':=ge.go (S':=S') (Q':=dQ lo) lw λ_ g=>g;cases ge' with
  |mk kind at2 n2 s2 op l2 f2 vl2 vf2 pL Tx e1 e2 e3 e4 e5=>
  have gf:=e5 0 _ rfl;have gfl:=bW.one1 e4;generalize Tx 0=d0 at gf gfl;cases gf with
  |mk ps bd vp vbb cb q1 q2 q3=>
  have i2:=x1.s 2 (by decide);have i4:=x1.s 4 (by decide);have i3:=x1.s 3 (by decide);have i1:=x1.s 1 (by decide);refine axj (z:=z) hF c' (λf1' x1'=>⟨[],f1',L,rfl,λx hx=>(by cases hx),Nat.zero_lt_one,⟨?_,?_,hB,h8,by omega,by rw[ez];exact hz⟩,ez⟩) hc1 rfl rfl gfl q1 ⟨cb,q2,q3⟩ (by omega) (i2.1.trans (h.w0 rfl)) λH2 S2 f2 r2 w D' t x2 Da k2 l2 pt hD he c2 s2=>?_
  ·exact(x1'.s 4 (by decide)).2.2.trans (i4.2.2.trans h.n4.2)
  ·exact(x1'.s 4 (by decide)).2.1.trans (i4.2.1.trans h.n4.1)
  ·obtain⟨f1',g2,afD,top',axu,x1',em,ts,e5,et,s3⟩:=he;have em':[]++[f1']=afD++[top']:=em;obtain⟨rfl,ao5⟩:=List.append_inj' em' rfl;obtain rfl:f1'=top':=by simpa using ao5
   cases ts;obtain⟨rfl,rfl⟩:f1'=g2∧[]=r2:=by
    have e5:[f1']=g2::r2:=e5;exact⟨(List.cons.inj e5).1,(List.cons.inj e5).2⟩
   have et:t=[(true,z)]:=et;rw[et]at pt;have n01:=s1.n;have n12:=s'.n;have n0:=h.sp.n;have j4:=x2.s 4 (by decide);have j1:=x2.s 1 (by decide);have y3:=x1'.s 3 (by decide);have h1':f2.k 1=f.k 1∧f2.l 1=f.l 1:=⟨j1.2.1.trans i1.2.1,j1.2.2.trans i1.2.2⟩
   refine hK2 H2 ⟨S2,f2,D',⟨c2,h.sp.trans ((s1.trans s').trans s2),(x2.c.trans x1.c).trans h.c,(x2.p.trans x1.p).trans h.p,(x2.par.trans x1.par).trans h.par,by rw[Da,C9];exact h.rg,by rw[x2.k0,a0,h.k0,List.length_append];rfl,by rw[x2.l0,a1,h.l0,qK,List.append_assoc];rfl,⟨(j4.2.1.trans i4.2.1).trans h.n4.1,(j4.2.2.trans i4.2.2).trans h.n4.2⟩,by rw[h1'.1,h1'.2];exact h.i1,⟨((s3.2.1.trans y3.2.1).trans i3.2.1).trans h.t3.1,((s3.2.2.trans y3.2.2).trans i3.2.2).trans h.t3.2⟩,λe=>absurd e hk,λ_=>⟨w,k2,l2,pt⟩,λx hx=>?_⟩,h1'.1,s'.trans s2⟩;obtain⟨d1,d2,d3,d4⟩:=hD x hx;exact⟨d1,d2,d3,by omega⟩
 ·obtain⟨rfl,H2,D',b,b1⟩:=g;exact hK H3 S3 _ D' (b.new c3 s23) s3 b1
theorem axy{m n p q a k:Nat}{cs:List AV}(h:Tp lo S0 c p L R z k is H S f D)(hR:fT S (dQ lo) cs (aR m q))(hL:L.length≤1000)(hi:is.length≤1000)(hB:∀p∈L,B8 p.1)(h8:B8 (nN (m+1)))(ha:eG L (nN (m+1))=(a:Int))
  (hK:∀H' S' f',Tp lo S0 c p L R z k (is++[(0,0),(0,0),(6,a)]++[(31,0)]) H' S' f' D→bV S S' [f] [f']→f'.k 1=f.k 1→K (.ret (.aE [])) H'):(tB (n+3)).c119 (.ptr c 0) (.agg cs) H K:=by
 have h1:=hR.ones;rw[C8,←h.c];show pI (nc (tB (n+2))) (.ptr f.c 0) (.agg cs) H K;unfold aR at hR;cases hR with
 |mk kind at_ names l bs vn vl vb cl bv bc g1 g2 g3 g4 g5 g6=>
 have ge:=g3 0 _ rfl;have gl:=bW.one1 g2;generalize cl 0=c0 at ge gl;have hc:=ge.len;have hc1:=ge.ones;have hk0:=h.k0;refine afA (f:=f) (r:=[]) (cl:=λ_=>c0) (G:=λS1 f1 S2 f2 r2=>r2=[]∧∃H2,Tp lo S0 c p L R z k (is++[(0,0),(0,0),(6,a)]) H2 S2 f2 D∧f2.k 1=f.k 1) h.ch h1 gl (by omega) (λH1 S1 f1 x1 C9 c1 s1 K' hK'=>?_) (λH3 S3 S1 f1 S2 f2 r2 v0 x1 g s23 c3 s3=>?_)
 ·show rv (tB (n+1)).c148 (.ptr f1.c 0) vl H1 K';refine E4 (Q:=λH2=>∃S2 f2,Tp lo S0 c p L R z k (is++[(0,0),(0,0),(6,a)]) H2 S2 f2 D∧f2.k 1=f.k 1∧bV S1 S2 [f1] [f2]) c1 (gl.go (h.ch.low s1) λ_ g=>g) hc hc1 (λH' S' c' s' K2 hK2=>?_) (λH2 ⟨S2,f2,b,b1,s2⟩=>hK' H2 S2 f2 [] ⟨rfl,H2,b,b1⟩ (b.c.trans h.c.symm) (by rw[b.k0,List.length_append];show is.length+3≤_;omega) b.ch s2);show mJ (lX (tB n)) (.ptr f1.c 0) (.agg c0) H' K2;have a0:=x1.k0;have a1:=x1.l0;cases ge with
  |mk kind at2 n2 s2 op l2 f2 vl2 vf2 pL Tx e1 e2 e3 e4 e5=>
  have i4:=x1.s 4 (by decide);have i1:=x1.s 1 (by decide);refine aAy (s:=nN (m+1)) (L:=L) (a:=a) c' hc1 rfl rfl (by omega) (i4.2.2.trans h.n4.2) (i4.2.1.trans h.n4.1) hB h8 (by omega) ha λH2 S2 f2 x2 Da c2 s2=>hK2 H2 ⟨S2,f2,?_,?_,s'.trans s2⟩
  ·have x:=x1.trans x2;have y1:=x.s 1 (by decide);have y2:=x.s 2 (by decide);have y3:=x.s 3 (by decide);have y4:=x.s 4 (by decide);refine h.next c2 ((s1.trans s').trans s2) x.c x.p x.par (by rw[Da,C9];exact h.rg) y2 y3 (by rw[x.k0,h.k0,List.length_append];rfl) (by rw[x.l0,h.l0,qK];rfl) ⟨y4.2.1.trans h.n4.1,y4.2.2.trans h.n4.2⟩ (by rw[y1.2.1,y1.2.2];exact h.i1)
  ·have j1:=x2.s 1 (by decide);exact j1.2.1.trans i1.2.1
 ·obtain⟨rfl,H2,b,b1⟩:=g;refine hK H3 S3 _ (b.next c3 s23 rfl rfl rfl b.rg (f2.fe 0 _ _ _ (by decide)) (f2.fe 0 _ _ _ (by decide)) ?_ ?_ b.n4 b.i1) s3 b1
  ·show f2.k 0+1=_;rw[b.k0];simp only[List.length_append];rfl
  ·show f2.l 0++bH 31 0=_;rw[b.l0,qK _ [(31,0)]];rfl
end
end
end Go.Proofs.YtcedghechlgecaaGreatDoor
