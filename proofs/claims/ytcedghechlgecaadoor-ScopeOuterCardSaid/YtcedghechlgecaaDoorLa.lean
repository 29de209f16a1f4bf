/- The lexer of the document; Script. No condition: lemmas. -/
import Derived.Test.YtcedghechlgecaaDoorQa
set_option maxRecDepth 100000
set_option maxHeartbeats 0
set_option linter.unusedVariables false
set_option linter.unusedSimpArgs false
namespace Go.X
end Go.X
namespace Go.Proofs.YtcedghechlgecaaDoor.Lx
open Go Go.X Go.Proofs.YtcedghechlgecaaDoor Go.Proofs.YtcedghechlgecaaDoor.G
def lS:List AV:=[(.str 3 6581857),(.str 5 461195539042),(.str 2 28516),(.str 4 1702063205),(.str 6 112602859662437),(.str 3 6581861),(.str 5 435728179558),(.str 3 7499622),(.str 8 7957695015192261990),(.str 2 26217),(.str 2 28265),(.str 5 465490374508),(.str 3 7104878),(.str 3 7630702),(.str 2 29295),(.str 6 127961662514546),(.str 6 121437875889522),(.str 4 1852139636),(.str 4 1702195828),(.str 5 465625706101),(.str 5 435610544247)]
end Go.Proofs.YtcedghechlgecaaDoor.Lx
namespace Go.X
end Go.X
namespace Go.Proofs.YtcedghechlgecaaDoor.Lx
open Go Go.X Go.Proofs.YtcedghechlgecaaDoor Go.Proofs.YtcedghechlgecaaDoor.G
section
variable {H:AH}{S:LS}{K:KF}
theorem s5:∀a∈lS,∃n x,a=.str n x:=by
 intro a ha;simp only[lS,List.mem_cons,List.not_mem_nil,or_false]at ha;rcases ha with rfl|rfl|rfl|rfl|rfl|rfl|rfl|rfl|rfl|rfl|rfl|rfl|rfl|rfl|rfl|rfl|rfl|rfl|rfl|rfl|rfl<;>exact⟨_,_,rfl⟩
end
section
variable {H:AH}{S:LS}{K:KF}
theorem amA{c:Nat}{k:Bool→Prop}(h:∀b,(b=true↔DP c)→k b):bI (!(df (c:Int) (.ofNat 48))) (k (!(df (.ofNat 57) (c:Int)))) (k false):=by
 have e1:Int.ofNat 48=48:=rfl;have e2:Int.ofNat 57=57:=rfl;rw[cE,cE,e1,e2];by_cases g:(c:Int)<48
 ·rw[decide_eq_true g];simp only[Bool.not_true,aG];exact h _ ⟨λx=>(by cases x),λx=>by unfold DP at x;omega⟩
 ·rw[decide_eq_false g];simp only[Bool.not_false,aK];refine h _ ?_;unfold DP;simp only[Bool.not_eq_true',decide_eq_false_iff_not];omega
theorem Ky{c:Nat}(h:∀b,(b=true↔DP c)→K (.ret (.bool b)) H):f33 (c:Int) H K:=by
 show Fq Od K (c:Int) H;unfold Fq;exact amA (k:=λb=>K (.ret (.bool b)) H) h
theorem amB{c:Nat}{x y:Prop}(h1:97≤c∧c≤122∨65≤c∧c≤90→x)(h2:¬(97≤c∧c≤122∨65≤c∧c≤90)→y) :
  bI (!(df (c:Int) (.ofNat 97))) (bI (!(df (.ofNat 122) (c:Int))) x (bI (!(df (c:Int) (.ofNat 65))) (bI (!(df (.ofNat 90) (c:Int))) x y) y)) (bI (!(df (c:Int) (.ofNat 65))) (bI (!(df (.ofNat 90) (c:Int))) x y) y):=by
 have e1:Int.ofNat 97=97:=rfl;have e2:Int.ofNat 122=122:=rfl;have e3:Int.ofNat 65=65:=rfl;have e4:Int.ofNat 90=90:=rfl;simp only[cE];rw[e1,e2,e3,e4];have low:(97≤c→122<c)→bI (!(decide ((c:Int)<65))) (bI (!(decide (90<(c:Int)))) x y) y:=λhl=>by
  by_cases g3:(c:Int)<65
  ·rw[decide_eq_true g3];exact h2 (by omega)
  ·rw[decide_eq_false g3];simp only[Bool.not_false,aK];by_cases g4:90<(c:Int)
   ·rw[decide_eq_true g4];exact h2 (by omega)
   ·rw[decide_eq_false g4];exact h1 (by omega)
 by_cases g1:(c:Int)<97
 ·rw[decide_eq_true g1];exact low (by omega)
 ·rw[decide_eq_false g1];simp only[Bool.not_false,aK];by_cases g2:122<(c:Int)
  ·rw[decide_eq_true g2];exact low (by omega)
  ·rw[decide_eq_false g2];exact h1 (by omega)
theorem agH{c:Nat}(h:∀b,(b=true↔LP c)→K (.ret (.bool b)) H):f31 (c:Int) H K:=by
 show Fp Oc K (c:Int) H;unfold Fp;refine amB (λg=>h _ ⟨λ_=>by unfold LP;omega,λ_=>rfl⟩) λg=>h _ ?_;have e:Int.ofNat 95=95:=rfl;rw[bD,e];unfold LP;simp only[decide_eq_true_eq];omega
def eqS(a b:AV):Bool:=match a,b with|.str n x,.str m y=>Nat.beq n m&&Nat.beq x y|_,_=>false
theorem afh(a b:AV):eqS a b=eqS b a:=by
 cases a<;>cases b<;>try rfl
 rename_i n x m y;show(Nat.beq n m&&Nat.beq x y)=(Nat.beq m n&&Nat.beq y x);have c:∀a b:Nat,Nat.beq a b=Nat.beq b a:=λa b=>by
  rw[Bool.eq_iff_iff,Nat.beq_eq,Nat.beq_eq];exact eq_comm
 rw[c n m,c x y]
def ug(l:List AV)(s:AV):Bool:=l.any (eqS s)
theorem alE{n x:Nat}{a:AV}(h:∃m y,a=.str m y){k:AV→Prop}(hk:k (.bool (eqS (.str n x) a))):yg a (.str n x) k:=by
 obtain⟨m,y,rfl⟩:=h;rw[afh]at hk;exact hk
theorem adx{l:List AV}{i:Nat}{a s:AV}(h:l[i]? = some a):ug (l.drop i) s=(eqS s a||ug (l.drop (i+1)) s):=by
 have hi:=(List.getElem?_eq_some_iff.1 h).1;rw[List.drop_eq_getElem_cons hi];have:l[i]=a:=(List.getElem?_eq_some_iff.1 h).2;rw[this];rfl
section
variable {Q:Nat→Prop}{v:AV}{l:List AV}{n x:Nat}
theorem PJ(hM:Mem H S)(hr:lV S Q v l)(hl:l.length≤1000)(hs:∀a∈l,∃m y,a=.str m y)(h1:K (.ret (.bool (ug l (.str n x)))) H) :
  ∀(q i:Nat),i≤l.length→l.length-i<q→ug (l.drop i) (.str n x)=ug l (.str n x)→qj kW K q v (.str n x) i H
 |0,_,_,h,_=>by omega
 |q+1,i,hi,hn,hd=>by
  show wC kW K (qj kW K q) (zG kW K) v (.str n x) i H;unfold wC;refine hr.len ?_;simp only[aQ,cE];refine bH (λg=>?_) (λg=>?_)
  ·obtain⟨a,ha⟩:∃a,l[i]? = some a:=⟨l[i],List.getElem?_eq_getElem (by omega)⟩
   refine hr.load hM ha (alE (hs a (List.mem_of_getElem? ha)) ?_);simp only[aM];rw[adx ha]at hd;cases e:eqS (.str n x) a with
   |true=>
    rw[e,Bool.true_or]at hd;simp only[aK];rw[←hd]at h1;exact h1
   |false=>
    rw[e,Bool.false_or]at hd;simp only[aG,dp,fe];refine w0 (by omega) (by omega) ?_;exact PJ hM hr hl hs h1 q (i+1) (by omega) (by omega) hd
  ·have e:l.drop i=[]:=List.drop_of_length_le (by omega);rw[e]at hd;have hd':ug l (.str n x)=false:=hd.symm;rw[hd']at h1;exact h1
theorem agI(hM:Mem H S)(hr:lV S Q v l)(hl:l.length≤1000)(hs:∀a∈l,∃m y,a=.str m y)(h1:K (.ret (.bool (ug l (.str n x)))) H):f25 v (.str n x) H K:=by
 show wD kW K (qj kW K G.NL) v (.str n x) H;unfold wD;exact PJ hM hr hl hs h1 G.NL 0 (by omega) (by have:G.NL=1000000:=rfl;omega) rfl
end
theorem amC{n x:Nat}(hM:Mem H S)(hK:∀H' S',Mem H' S'→Ext S S'→K (.ret (.bool (ug lS (.str n x)))) H'):f32 (.str n x) H K:=by
 have r13:FA=f25:=rfl;show Fz FA K (.str n x) H;unfold Fz;rw[r13];refine eI hM rfl (λa ha=>by obtain⟨m,y,rfl⟩:=s5 a ha;rfl) λH1 h1=>?_;refine agI (l:=lS) (v:=.slice S.n 0 21 21 1 true) h1 (Q:=λ_=>True) (.inr ⟨S.n,0,21,true,lS,0,rfl,Nat.le_refl _,trivial,LS.ax _ _,by decide,rfl⟩) (by decide) s5 ?_;simp only[ai,aM];exact hK H1 _ h1 (Ext.push _ _)
end
end Go.Proofs.YtcedghechlgecaaDoor.Lx
namespace Go.X
theorem aik{l m:List Nat}(h1:l.take 2=m)(h2:m∈lH):lg l=2:=by
 match l with
 |[]=>subst h1;simp[lH]at h2
 |[a]=>subst h1;simp[lH]at h2
 |a::b::r=>
  have e:[a,b]∈lH:=by
   have:(a::b::r).take 2=[a,b]:=rfl;rw[this]at h1;rw[h1];exact h2
  simp only[lg];rw[if_pos e]
theorem ail{a:Nat}{l:List Nat}(h:∀m∈lH,(a::l).take 2≠m):lg (a::l)=if a∈ones then 1 else 0:=by
 cases l with
 |nil=>rfl
 |cons b r=>
  have e:[a,b]∉lH:=λg=>h _ g rfl;simp only[lg];rw[if_neg e]
theorem afi:∀m∈lH,m.length=2:=by decide
end Go.X
namespace Go.Proofs.YtcedghechlgecaaDoor.Lx
open Go Go.X Go.Proofs.YtcedghechlgecaaDoor Go.Proofs.YtcedghechlgecaaDoor.G
section
variable {H:AH}{S:LS}{K:KF}
theorem Ud:([.str 2 11822,.str 2 15677,.str 2 15742,.str 2 15676,.str 2 15678,.str 2 12079]:List AV)=lH.map ah:=by rfl
theorem ady{a b:Nat}{r:List Nat}(h:(¬∃v,nG a=some v)∨(¬∃v,nG b=some v)):esc (120::a::b::r)=none:=by
 simp only[esc];rw[if_neg (by omega),if_neg (by omega),if_neg (by omega),if_pos trivial];split
 ·rename_i x y hx hy;rcases h with g|g
  ·exact absurd ⟨_,hx⟩ g
  ·exact absurd ⟨_,hy⟩ g
 ·rfl
end
end Go.Proofs.YtcedghechlgecaaDoor.Lx
namespace Go.X
section
variable {H:AH}{S:LS}
theorem dT.frv{v:AV}{n:Nat}{l:List AV}(h:dT S 1 v n l):jf S v l:=by
 rcases h with⟨rfl,_,rfl⟩|⟨b,c,ex,cs,rfl,h2,h3,h4,h5,h6,h7⟩
 ·exact .inl ⟨rfl,rfl⟩
 ·have e:n=l.length:=by omega
  subst e;exact .inr ⟨b,c,ex,cs,rfl,h2,by omega,h4,h6,h7⟩
theorem RL(l m:List Nat):Bn (l++m)=Bn l++Bn m:=by simp[Bn]
structure ys(S0 S:LS)(v:AV)(acc:List Nat):Prop where
 x:Ext S0 S
 fr:dT S 1 v acc.length (Bn acc)
 own:∀b,au v b→S0.n≤b
 b8:B8 acc
theorem ys.push{S0:LS}{v:AV}{acc:List Nat}(h:ys S0 S v acc)(hM:Mem H S){c:Nat}(hc:c<256)(hl:acc.length≤1000000){k:AV→AH→Prop}(hK:∀H' S' v',Mem H' S'→ys S0 S' v' (acc++[c])→k v' H') :
  aX (ay H) 1 1 [.int 1 (c:Int)] λx H'=>dw 1 1 v x H' k:=by
 refine Db hM h.fr (by omega) rfl (by omega) (λa ha=>by simp at ha;subst ha;rfl) λH' S' v' h' he=>hK H' S' v' h' ?_;obtain⟨e1,e2⟩:=he.ext h.x h.own;refine⟨e1,?_,e2,h.b8.app (B8.cons hc B8.nil)⟩;rw[RL,List.length_append];exact he.2.2.1
end
end Go.X
namespace Go.Proofs.YtcedghechlgecaaDoor.Lx
open Go Go.X Go.Proofs.YtcedghechlgecaaDoor Go.Proofs.YtcedghechlgecaaDoor.G
section
variable {H:AH}{S:LS}{K:KF}
end
section
variable {H:AH}{S:LS}{K:KF}
structure pV(S0 S:LS)(v:AV)(acc:List Tok)(bt:Nat)(tc:List AV):Prop where
 x:Ext S0 S
 fr:dT S 4 v acc.length (tcs acc)
 own:∀b,au v b→S0.n≤b
 tb:S.ob bt=.ce tc 0
 tl:tc.length=4
 tn:S0.n≤bt
 ne:¬au v bt
def RM(K:KF)(S0:LS)(acc:List Tok)(r:List Tok ⊕ Nat):Prop:=match r with
 |.inl ts=>∀H' S' v',Mem H' S'→Ext S0 S'→dT S' 4 v' (acc++ts).length (tcs (acc++ts))→(∀b,au v' b→S0.n≤b)→K (.ret (.bF [v',.int 0 0,.int 0 0])) H'
 |.inr e=>∀H' S',Mem H' S'→Ext S0 S'→K (.ret (.bF [.ab,.int 0 14,.int 0 (e:Int)])) H'
section
variable {S0:LS}{v:AV}{acc:List Tok}{bt:Nat}{tc:List AV}
theorem pV.ext{S':LS}(h:pV S0 S v acc bt tc)(hM:Mem H S)(hx:Ext S S'):pV S0 S' v acc bt tc:=
 ⟨h.x.trans hx,h.fr.keep hM λb _ hb=>hx.ob b hb,h.own,hx.get hM h.tb,h.tl,h.tn,h.ne⟩
theorem pV.store(h:pV S0 S v acc bt tc)(hM:Mem H S){o:Nat}{a:AV}{k:AH→Prop}(ho:o<4)(ha:a.one=true)(hk:∀H' S',Mem H' S'→pV S0 S' v acc bt (tc.set o a)→k H'):ag o (.ptr bt 0) λp=>ak 1 p a H k:=by
 rw[aU,Nat.zero_add];refine cZ hM h.tb (by omega) (by rw[h.tl];exact ho) ha λH' h'=>?_;refine hk H' _ h' ⟨h.x.set h.tn _,h.fr.keep hM λb hb _=>LS.av _ _ λe=>?_,h.own,LS.aC _ _ _,by rw[List.length_set];exact h.tl,h.tn,h.ne⟩;subst e;exact h.ne hb
theorem pV.load(h:pV S0 S v acc bt tc)(hM:Mem H S){o:Nat}{a:AV}{k:AV→Prop}(ho:tc[o]? = some a)(hk:k a):ag o (.ptr bt 0) λp=>af p H k:=by
 rw[aU,Nat.zero_add];exact aF hM h.tb ho hk
theorem pV.push(h:pV S0 S v acc bt tc)(hM:Mem H S){t:Tok}(e:tc=t.cs)(hl:acc.length≤100000){k:AV→AH→Prop}(hk:∀H' S' v',Mem H' S'→pV S0 S' v' (acc++[t]) bt tc→k v' H') :
  aZ 4 (.ptr bt 0) H λv1=>onVal v1 λl2=>gv l2 4 (aX (ay H) 1 4 (spl l2 [.int 0 (.ofNat 0),.str 0 0,.int 0 (.ofNat 0),.int 0 (.ofNat 0)] 0) λv3 H4=>dw 4 40 v v3 H4 k):=by
 refine qM hM h.tb (by rw[h.tl];omega) ?_;rw[List.drop_zero,List.take_of_length_le (by rw[h.tl];omega),e];show aX (ay H) 1 4 t.cs λv3 H4=>dw 4 40 v v3 H4 k;refine Db hM h.fr (by omega) rfl (by omega) (λa ha=>?_) λH' S' v' h' he=>?_
 ·simp only[Tok.cs,List.mem_cons,List.not_mem_nil,or_false]at ha;rcases ha with rfl|rfl|rfl|rfl<;>rfl
 ·obtain⟨e1,e2⟩:=he.ext h.x h.own;obtain⟨a1,a2,a3,a4⟩:=he;have hlt:bt<S.n:=hM.lt (by rw[h.tb];simp);have ecs:tcs (acc++[t])=tcs acc++t.cs:=by
   rw[Q5];show tcs acc++(t.cs++[])=_;rw[List.append_nil]
  refine hk H' S' v' h' ⟨e1,by rw[ecs,List.length_append];exact a3,e2,by rw[a2 bt hlt h.ne];exact h.tb,h.tl,h.tn,λg=>?_⟩;rcases a4 bt g with g|g
  ·exact h.ne g
  ·omega
variable {s:List Nat}{p:Nat}{i1:AV→AV→AV→Int→AH→Prop}
theorem suf{s:List Nat}{p c:Nat}{l:List Nat}(h:s.drop p=c::l):s[p]? = some c∧p<s.length∧s.drop (p+1)=l:=by
 have hlt:p<s.length:=by
  rcases Nat.lt_or_ge p s.length with g|g
  ·exact g
  ·rw[List.drop_of_length_le g]at h;cases h
 rw[List.drop_eq_getElem_cons hlt]at h;injection h with h1 h2;exact⟨by rw[List.getElem?_eq_getElem hlt,h1],hlt,h2⟩
theorem take2{c:Nat}{l:List Nat}:(c::l).take ([45,45]:List Nat).length=[45,45]↔c=45∧l.head? = some 45:=by
 show(c::l).take 2=[45,45]↔_;cases l with
 |nil=>simp
 |cons d l=>simp
end
end
end Go.Proofs.YtcedghechlgecaaDoor.Lx
namespace Go.X
theorem zX{f:AV→Bool}{t:List Nat}(hf:∀m,B8 m→f (ah m)=decide (t=m)):∀(ws:List (List Nat)),(∀m∈ws,B8 m)→(ws.map ah).any f=decide (t∈ws)
 |[],h=>rfl
 |m::ws,h=>by
  rw[List.map_cons,List.any_cons,zX hf ws (λx hx=>h x (by simp[hx])),hf m (h m (by simp)),Bool.eq_iff_iff];simp
theorem aim{m:Nat}{l t:List Nat}{j:Nat}(h:qc m l t j):¬qO m l:=by
 induction h with
 |stop l=>
  intro g;cases g with
  |line _ h=>exact h rfl
  |one _ _ h=>exact h rfl
  |bad _ h=>exact h rfl
  |esc _ _ _ h=>exact h rfl
 |one c l t j h1 h2 h3 _ ih=>
  intro g;cases g with
  |line _ h=>exact h2 rfl
  |one _ _ _ _ _ g=>exact ih g
  |bad _ h=>exact h3 rfl
  |esc _ _ _ h=>exact h3 rfl
 |esc l t v k j h1 he _ ih=>
  intro g;cases g with
  |one _ _ _ _ h _=>exact h rfl
  |bad _ _ h=>rw[he]at h;cases h
  |esc _ v' k' _ h g=>
   rw[he]at h;cases h;exact ih g
theorem RN{m:Nat}{l t:List Nat}{j:Nat}(h:qc m l t j):∀{t' j'},qc m l t' j'→t'=t∧j'=j:=by
 induction h with
 |stop l=>
  intro t' j' g;cases g with
  |stop=>exact⟨rfl,rfl⟩
  |one _ _ _ _ h=>exact absurd rfl h
  |esc _ _ _ _ _ h=>exact absurd rfl h
 |one c l t j h1 h2 h3 _ ih=>
  intro t' j' g;cases g with
  |stop=>exact absurd rfl h1
  |one _ _ _ _ _ _ _ g=>
   obtain⟨rfl,rfl⟩:=ih g;exact⟨rfl,rfl⟩
  |esc _ _ _ _ _ h=>exact absurd rfl h3
 |esc l t v k j h1 he _ ih=>
  intro t' j' g;cases g with
  |stop=>exact absurd rfl h1
  |one _ _ _ _ _ _ h=>exact absurd rfl h
  |esc _ _ v' k' _ _ h g=>
   rw[he]at h;cases h;obtain⟨rfl,rfl⟩:=ih g;exact⟨rfl,rfl⟩
theorem IM{l:List Nat}{k:Nat}{t:List Nat}{n j:Nat}(h:mU l k t n j):¬xD l:=by
 intro g;cases h with
 |num c l v h1 h2=>
  cases g with
  |num _ _ _ h=>rw[h2]at h;cases h
  |long _ _ h=>unfold LP at h;unfold DP at h1;omega
  |quo _ _ h=>unfold DP at h1;omega
  |great _ _ _ _ h=>unfold DP at h1;omega
  |sign _ _ h=>exact h h1
 |word c l h1 h2 h3=>
  cases g with
  |num _ _ h=>unfold LP at h1;unfold DP at h;omega
  |long _ _ _ h=>omega
  |quo _ _ h=>unfold LP at h1;omega
  |great _ _ _ _ h=>unfold LP at h1;omega
  |sign _ _ _ h=>exact h h1
 |name c l h1 h2 h3=>
  cases g with
  |num _ _ h=>unfold LP at h1;unfold DP at h;omega
  |long _ _ _ h=>omega
  |quo _ _ h=>unfold LP at h1;omega
  |great _ _ _ _ h=>unfold LP at h1;omega
  |sign _ _ _ h=>exact h h1
 |quo c l t j h1 h2 h3=>
  cases g with
  |num _ _ h=>unfold DP at h;omega
  |long _ _ h=>unfold LP at h;omega
  |quo _ _ _ h=>exact aim h2 h
  |great _ _ t' j' _ h h4=>
   obtain⟨rfl,rfl⟩:=RN h2 h;omega
  |sign _ _ _ _ h h'=>omega
 |sign c l h1 h2 h3 h4 h5=>
  cases g with
  |num _ _ h=>exact h1 h
  |long _ _ h=>exact h2 h
  |quo _ _ h=>omega
  |great _ _ _ _ h=>omega
  |sign _ _ _ _ _ _ h=>exact h5 h
theorem RO{l:List Nat}{k k':Nat}{t t':List Nat}{n n' j j':Nat}(h:mU l k t n j)(g:mU l k' t' n' j'):k'=k∧t'=t∧n'=n∧j'=j:=by
 cases h with
 |num c l v h1 h2=>
  cases g with
  |num _ _ _ _ h=>rw[h2]at h;cases h;exact⟨rfl,rfl,rfl,rfl⟩
  |word _ _ h=>unfold LP at h;unfold DP at h1;omega
  |name _ _ h=>unfold LP at h;unfold DP at h1;omega
  |quo _ _ _ _ h=>unfold DP at h1;omega
  |sign _ _ h=>exact absurd h1 h
 |word c l h1 h2 h3=>
  cases g with
  |num _ _ _ h=>unfold LP at h1;unfold DP at h;omega
  |word=>exact⟨rfl,rfl,rfl,rfl⟩
  |name _ _ _ _ h=>exact absurd h3 h
  |quo _ _ _ _ h=>unfold LP at h1;omega
  |sign _ _ _ h=>exact absurd h1 h
 |name c l h1 h2 h3=>
  cases g with
  |num _ _ _ h=>unfold LP at h1;unfold DP at h;omega
  |word _ _ _ _ h=>exact absurd h h3
  |name=>exact⟨rfl,rfl,rfl,rfl⟩
  |quo _ _ _ _ h=>unfold LP at h1;omega
  |sign _ _ _ h=>exact absurd h1 h
 |quo c l t j h1 h2 h3=>
  cases g with
  |num _ _ _ h=>unfold DP at h;omega
  |word _ _ h=>unfold LP at h;omega
  |name _ _ h=>unfold LP at h;omega
  |quo _ _ _ _ _ h=>
   obtain⟨rfl,rfl⟩:=RN h2 h;exact⟨rfl,rfl,rfl,rfl⟩
  |sign _ _ _ _ h h'=>omega
 |sign c l h1 h2 h3 h4 h5=>
  cases g with
  |num _ _ _ h=>exact absurd h h1
  |word _ _ h=>exact absurd h h2
  |name _ _ h=>exact absurd h h2
  |quo _ _ _ _ h=>omega
  |sign=>exact⟨rfl,rfl,rfl,rfl⟩
theorem afj:∀m∈lI,B8 m:=λm hm=>bj ((by decide:∀m∈lI,(m.all λc=>Nat.blt c 256)=true) m hm)
end Go.X
namespace Go.Proofs.YtcedghechlgecaaDoor.Lx
open Go Go.X Go.Proofs.YtcedghechlgecaaDoor Go.Proofs.YtcedghechlgecaaDoor.G
section
variable {H:AH}{S:LS}{K:KF}
theorem oa:lS=lI.map ah:=by rfl
theorem alF{t:List Nat}(h:B8 t):ug lS (ah t)=decide (t∈lI):=by
 rw[oa];exact zX (λm hm=>J8 h hm) lI afj
section
variable {S0:LS}{H0:AH}{v:AV}{acc:List Tok}{bt:Nat}{tc:List AV}{s:List Nat}{p:Nat}{i1:AV→AV→AV→Int→AH→Prop}
def badL(K:KF)(S0:LS)(p:Nat):Prop:=∀H' S',Mem H' S'→Ext S0 S'→K (.ret (.bF [.ab,.int 0 14,.int 0 (p:Int)])) H'
theorem RM.tok{k:Nat}{t:List Nat}{n:Nat}{ts:List Tok}(h:RM K S0 acc (.inl (⟨k,t,n,p⟩::ts))):RM K S0 (acc++[⟨k,t,n,p⟩]) (.inl ts):=
 λH' S' v' m x f o=>h H' S' v' m x (by rw[List.append_assoc]at f;exact f) o
end
end
section
variable {H:AH}{S:LS}{K:KF}
theorem anT:nL.1=f31:=rfl
theorem anU:nL.2=f33:=rfl
section
variable {s:List Nat}{p:Nat}
theorem adz{c:Nat}{l:List Nat}:(c::l).take 2=[45,45]↔c=45∧l.head? = some 45:=take2
theorem adA(h8:B8 s)(hs:s.length≤16384){c:Nat}{l:List Nat}(hd:s.drop p=c::l)(hc:vP c){q:Nat}(hk:dY bR K q (ah s) ((p+1:Nat):Int) H):dY bR K (q+1) (ah s) (p:Int) H:=by
 obtain⟨h1,h2,h3⟩:=suf hd;show rQ bR K (dY bR K q) (wA bR K (dY bR K q)) (wy bR K) (ah s) (p:Int) H;unfold rQ;have e32:Int.ofNat 32=32:=rfl;have e9:Int.ofNat 9=9:=rfl;have e10:Int.ofNat 10=10:=rfl;have e13:Int.ofNat 13=13:=rfl;have one:∀{k:Int→Prop},k ((p+1:Nat):Int)→aN 0 (Int.add (p:Int) (.ofNat 1)) k:=λ{k} h=>by
  simp only[dp,fe];exact w0 (by omega) (by omega) h
 simp only[iP,aQ,cE];rw[decide_eq_true (by omega),aK,e32,e9,e10,e13];refine fK h8 h1 ?_;simp only[aQ,bD];refine bH (λ_=>one hk) (λg1=>?_);refine fK h8 h1 ?_;simp only[aQ,bD];refine bH (λ_=>one hk) (λg2=>?_);refine fK h8 h1 ?_;simp only[aQ,bD];refine bH (λ_=>one hk) (λg3=>?_);refine fK h8 h1 ?_;simp only[aQ,bD];refine bH (λ_=>one hk) (λg4=>?_);exfalso;unfold vP at hc;omega
theorem adB(h8:B8 s)(hs:s.length≤16384){c:Nat}{l:List Nat}(hd:s.drop p=c::l)(hc:¬vP c){q:Nat}(hk:wA bR K (dY bR K q) (ah s) (p:Int) H):dY bR K (q+1) (ah s) (p:Int) H:=by
 obtain⟨h1,h2,h3⟩:=suf hd;show rQ bR K (dY bR K q) (wA bR K (dY bR K q)) (wy bR K) (ah s) (p:Int) H;unfold rQ;have e32:Int.ofNat 32=32:=rfl;have e9:Int.ofNat 9=9:=rfl;have e10:Int.ofNat 10=10:=rfl;have e13:Int.ofNat 13=13:=rfl;unfold vP at hc;simp only[iP,aQ,cE];rw[decide_eq_true (by omega),aK,e32,e9,e10,e13];refine fK h8 h1 ?_;simp only[aQ,bD];rw[decide_eq_false (by omega),aG];refine fK h8 h1 ?_;simp only[aQ,bD];rw[decide_eq_false (by omega),aG];refine fK h8 h1 ?_;simp only[aQ,bD];rw[decide_eq_false (by omega),aG];refine fK h8 h1 ?_;simp only[aQ,bD];rw[decide_eq_false (by omega),aG];exact hk
theorem ain(hs:s.length≤16384)(hp:s.length≤p){q:Nat}(hk:K (.ret (.int 0 (p:Int))) H):dY bR K (q+1) (ah s) (p:Int) H:=by
 show rQ bR K (dY bR K q) (wA bR K (dY bR K q)) (wy bR K) (ah s) (p:Int) H;unfold rQ;simp only[iP,aQ,cE];rw[decide_eq_false (by omega),aG];show tL bR K (p:Int) H;unfold tL;exact hk
theorem Cf(h8:B8 s)(hs:s.length≤16384){c:Nat}{l:List Nat}(hd:s.drop p=c::l)(hc:¬vP c)(hr:¬(c=45∧l.head? = some 45)){q:Nat}(hk:K (.ret (.int 0 (p:Int))) H):dY bR K (q+1) (ah s) (p:Int) H:=by
 obtain⟨h1,h2,h3⟩:=suf hd;refine adB h8 hs hd hc ?_;show wz bR K (Ob bR K (dY bR K q)) (tL bR K) (ah s) (p:Int) H;unfold wz tL;have e2:Int.ofNat 2=2:=rfl;simp only[dp,fe,e2];refine w0 (by omega) (by omega) ?_;simp only[iP,aQ,cE];refine bH (λg=>?_) (λ_=>hk);refine w0 (by omega) (by omega) ?_;refine Am (i:=p) (j:=p+2) h8 (by omega) (by omega) ?_;rw[hd,Nat.add_sub_cancel_left];refine An (m:=[45,45]) (by rw[←hd];exact(h8.drop p).take _) (bj (by decide)) ?_;rw[aM,decide_eq_false (λg=>hr (adz.1 g)),aG];exact hk
theorem PK(h8:B8 s)(hs:s.length≤16384){e q0:Nat}(hk:dY bR K q0 (ah s) (e:Int) H):∀(q j:Nat),j≤s.length→s.length-j<q→j+j9 (s.drop j)=e→wx bR K (dY bR K q0) q (ah s) (j:Int) H
 |0,_,_,h,_=>by omega
 |q+1,j,hj,hq,he=>by
  show Fm bR K (wx bR K (dY bR K q0) q) (dY bR K q0) (ah s) (j:Int) H;unfold Fm;simp only[iP,aQ,cE];refine bH (λg=>?_) (λg=>?_)
  ·have hjl:j<s.length:=by omega
   obtain⟨c,hc⟩:∃c,s[j]? = some c:=⟨_,List.getElem?_eq_getElem hjl⟩
   have hd:s.drop j=c::s.drop (j+1):=by
    rw[List.drop_eq_getElem_cons hjl];rw[(List.getElem?_eq_some_iff.1 hc).2]
   refine fK h8 hc ?_;simp only[aQ,bD];have e10:Int.ofNat 10=10:=rfl;rw[e10];by_cases g2:(c:Int)=10
   ·rw[decide_eq_true g2];simp only[Bool.not_true,aG];have ec:c=10:=by omega
    subst ec;rw[hd]at he;have:j9 (10::s.drop (j+1))=0:=by unfold j9;simp
    rw[this]at he;rw[show j=e by omega];exact hk
   ·rw[decide_eq_false g2];simp only[Bool.not_false,aK,dp,fe];refine w0 (by omega) (by omega) ?_;refine PK h8 hs hk q (j+1) (by omega) (by omega) ?_;rw[hd]at he;have:j9 (c::s.drop (j+1))=j9 (s.drop (j+1))+1:=by
     conv=>lhs;unfold j9
     rw[if_neg (by omega)]
    omega
  ·rw[List.drop_of_length_le (by omega)]at he;have:j=e:=he;subst this;exact hk
theorem Ue(h8:B8 s)(hs:s.length≤16384){l:List Nat}(hd:s.drop p=45::45::l){q:Nat}(hk:dY bR K q (ah s) ((p+j9 (45::45::l):Nat):Int) H):dY bR K (q+1) (ah s) (p:Int) H:=by
 obtain⟨h1,h2,h3⟩:=suf hd;obtain⟨h4,h5,h6⟩:=suf h3;refine adB h8 hs hd (by unfold vP;omega) ?_;show wz bR K (Fo bR K (wx bR K (dY bR K q) G.NL)) (tL bR K) (ah s) (p:Int) H;unfold wz;have e2:Int.ofNat 2=2:=rfl;simp only[dp,fe,e2];refine w0 (by omega) (by omega) ?_;simp only[iP,aQ,cE];rw[decide_eq_true (by omega),aK];refine w0 (by omega) (by omega) ?_;refine Am (i:=p) (j:=p+2) h8 (by omega) (by omega) ?_;rw[hd,Nat.add_sub_cancel_left];refine An (m:=[45,45]) (by rw[←hd];exact(h8.drop p).take _) (bj (by decide)) ?_;rw[aM,decide_eq_true (adz.2 ⟨rfl,rfl⟩),aK];unfold Fo;exact PK h8 hs hk G.NL p (by omega) (by have:G.NL=1000000:=rfl;omega) (by rw[hd])
theorem amD(h8:B8 s)(hs:s.length≤16384)(hp:p≤s.length)(hk:K (.ret (.int 0 ((p+gw (s.drop p):Nat):Int))) H):f30 (ah s) (p:Int) H K:=by
 have key:∀(q j:Nat),j≤s.length→s.length-j<q→j+gw (s.drop j)=p+gw (s.drop p)→tN nL K q (ah s) (j:Int) H:=by
  intro q
  induction q with
  |zero=>intro j _ h _;omega
  |succ q ih=>
   intro j hj hq he;show Fv nL K (tN nL K q) (Ft nL K) (ah s) (j:Int) H;unfold Fv Ft;rw[anT,anU];simp only[iP,aQ,cE];refine bH (λg=>?_) (λg=>?_)
   ·have hjl:j<s.length:=by omega
    obtain⟨c,hc⟩:∃c,s[j]? = some c:=⟨_,List.getElem?_eq_getElem hjl⟩
    have hd:s.drop j=c::s.drop (j+1):=by
     rw[List.drop_eq_getElem_cons hjl];rw[(List.getElem?_eq_some_iff.1 hc).2]
    rw[hd]at he;have next:LP c∨DP c→tN nL K q (ah s) ((j+1:Nat):Int) H:=λhl=>ih (j+1) (by omega) (by omega) (by
     have:gw (c::s.drop (j+1))=gw (s.drop (j+1))+1:=by
      conv=>lhs;unfold gw
      rw[if_pos hl]
     omega)
    refine fK h8 hc ?_;simp only[aQ,dp,fe];refine agH λb hb=>?_;simp only[ai,aM];refine y7 (λeb=>?_) (λeb=>?_)
    ·refine w0 (by omega) (by omega) ?_;exact next (.inl (hb.1 eb))
    ·refine fK h8 hc ?_;simp only[aQ];refine Ky λb' hb'=>?_;simp only[ai,aM];refine y7 (λeb'=>?_) (λeb'=>?_)
     ·refine w0 (by omega) (by omega) ?_;exact next (.inr (hb'.1 eb'))
     ·have:gw (c::s.drop (j+1))=0:=by
       unfold gw;rw[if_neg];rintro(g|g)
       ·have:=hb.2 g;rw[this]at eb;cases eb
       ·have:=hb'.2 g;rw[this]at eb';cases eb'
      rw[this,Nat.add_zero]at he;rw[he];exact hk
   ·rw[List.drop_of_length_le (by omega)]at he;have e:j=p+gw (s.drop p):=he;rw[e];exact hk
 show Fw nL K (tN nL K G.NL) (ah s) (p:Int) H;unfold Fw;exact key G.NL p hp (by have:G.NL=1000000:=rfl;omega) rfl
theorem Kz{c:Nat}(hc:c<256)(hk:∀z:Int,(∀v,nG c=some v→z=v)→(nG c=none→z = -1)→K (.ret (.int 0 z)) H):f55 (c:Int) H K:=by
 have r38:qk=f33:=rfl;show FG qk K (FF qk K) (zI qk K (zH qk K)) (c:Int) H;unfold FG;rw[r38];refine Ky λb hb=>?_;simp only[ai,aM];have e48:Int.ofNat 48=48:=rfl;have e97:Int.ofNat 97=97:=rfl;have anV:Int.ofNat 102=102:=rfl;have e65:Int.ofNat 65=65:=rfl;have e70:Int.ofNat 70=70:=rfl;have e10:Int.ofNat 10=10:=rfl;refine y7 (λeb=>?_) (λeb=>?_)
 ·have hd:=hb.1 eb;have hd':=hd;unfold DP at hd';rw[BN,e48];refine lG (z':=((c-48:Nat):Int)) (by rw[C7];omega) ?_;refine w0 (by omega) (by omega) ?_;refine hk _ (λv hv=>?_) (λhn=>?_)
  ·unfold nG at hv;rw[if_pos hd]at hv;cases hv;rfl
  ·unfold nG at hn;rw[if_pos hd]at hn;cases hn
 ·have hd:¬DP c:=λg=>by have:=hb.2 g;rw[this]at eb;cases eb
  have big:¬(97≤c∧c≤102)→zI qk K (zH qk K) (c:Int) H:=λh1=>by
   unfold zI;have none_:¬(65≤c∧c≤70)→K (.ret (.int 0 (.negSucc 0))) H:=λh2=>hk _ (λv hv=>by
    unfold nG at hv;rw[if_neg hd,if_neg h1,if_neg h2]at hv;cases hv) (λ_=>rfl)
   rw[cE,cE,e65,e70];by_cases g1:(c:Int)<65
   ·rw[decide_eq_true g1];exact none_ (by omega)
   rw[decide_eq_false g1];simp only[Bool.not_false,aK];by_cases g2:(70:Int)<c
   ·rw[decide_eq_true g2];exact none_ (by omega)
   rw[decide_eq_false g2];simp only[Bool.not_false,aK];unfold zH;rw[BN,e65];refine lG (z':=((c-65:Nat):Int)) (by rw[C7];omega) ?_;refine w0 (by omega) (by omega) ?_;rw[dp,e10];refine w0 (by omega) (by omega) ?_;refine hk _ (λv hv=>?_) (λhn=>?_)
   ·unfold nG at hv;rw[if_neg hd,if_neg h1,if_pos (by omega)]at hv;cases hv;omega
   ·unfold nG at hn;rw[if_neg hd,if_neg h1,if_pos (by omega)]at hn;cases hn
  rw[cE,cE,e97,anV];by_cases g1:(c:Int)<97
  ·rw[decide_eq_true g1];exact big (by omega)
  rw[decide_eq_false g1];simp only[Bool.not_false,aK];by_cases g2:(102:Int)<c
  ·rw[decide_eq_true g2];exact big (by omega)
  rw[decide_eq_false g2];simp only[Bool.not_false,aK];unfold FF;rw[BN,e97];refine lG (z':=((c-97:Nat):Int)) (by rw[C7];omega) ?_;refine w0 (by omega) (by omega) ?_;rw[dp,e10];refine w0 (by omega) (by omega) ?_;refine hk _ (λv hv=>?_) (λhn=>?_)
  ·unfold nG at hv;rw[if_neg hd,if_pos (by omega)]at hv;cases hv;omega
  ·unfold nG at hn;rw[if_neg hd,if_pos (by omega)]at hn;cases hn
theorem amE(h8:B8 s)(hs:s.length≤16384)(h1:∀v,tz s=some v→K (.ret (.bF [.int 0 (v:Int),.bool true])) H)(h2:tz s=none→K (.ret (.bF [.int 0 0,.bool false])) H):f34 (ah s) H K:=by
 have r27:oX=f33:=rfl;have key:∀(q i a:Nat),i≤s.length→s.length-i<q→(∀x∈s.take i,DP x)→vr 0 s=vr a (s.drop i)→a≤9223372036854775809→wE oX K q (ah s) (a:Int) (i:Int) H:=by
  intro q
  induction q with
  |zero=>intro i a _ h _ _ _;omega
  |succ q ih=>
   intro i a hi hq hd hv ha;show FD oX K (FB oX K (wE oX K q)) (FC oX K) (ah s) (a:Int) (i:Int) H;unfold FD;rw[r27];simp only[iP,aQ,cE];refine bH (λg=>?_) (λg=>?_)
   ·have hil:i<s.length:=by omega
    obtain⟨c,hc⟩:∃c,s[i]? = some c:=⟨_,List.getElem?_eq_getElem hil⟩
    have hc8:=h8 c (List.mem_of_getElem? hc);have hdr:s.drop i=c::s.drop (i+1):=by
     rw[List.drop_eq_getElem_cons hil];rw[(List.getElem?_eq_some_iff.1 hc).2]
    rw[hdr]at hv;refine fK h8 hc ?_;simp only[aQ];refine Ky λb hb=>?_;simp only[ai,aM];cases b with
    |false=>
     simp only[Bool.not_false,aK];refine h2 ?_;unfold tz;rw[if_neg];rintro⟨g1,_⟩;have:=hb.2 (g1 c (List.mem_of_getElem? hc));cases this
    |true=>
     have hdc:=hb.1 rfl;have anW:=hdc;unfold DP at anW;simp only[Bool.not_true,aG];have eb:Int.ofNat 922337203685477580=922337203685477580:=rfl;have e10:Int.ofNat 10=10:=rfl;have e48:Int.ofNat 48=48:=rfl;rw[eb,e10,e48];refine bH (λg1=>h2 ?_) (λg1=>?_)
     ·unfold tz;rw[if_neg];rintro⟨_,g2⟩;have h3:vr a (c::s.drop (i+1))=vr (a*10+(c-48)) (s.drop (i+1)):=rfl;have h4:=Q7 (s.drop (i+1)) (a*10+(c-48));omega
     ·rw[ai2];refine w3 ?_;refine fK h8 hc ?_;simp only[aQ,BN,dp];refine lG (z':=((c-48:Nat):Int)) (by rw[C7];omega) ?_;refine lG (z':=((c-48:Nat):Int)) (by rw[St];omega) ?_;refine lG (z':=((a*10+(c-48):Nat):Int)) (by rw[St];omega) ?_;unfold FB;simp only[dp,fe];refine w0 (by omega) (by omega) ?_;refine ih (i+1) (a*10+(c-48)) (by omega) (by omega) (λx hx=>?_) hv (by omega);rw[List.take_add_one,hc]at hx;simp only[List.mem_append,Option.toList]at hx;rcases hx with hx|hx
      ·exact hd x hx
      ·have:x=c:=by simpa using hx
       rw[this];exact hdc
   ·have hall:∀x∈s,DP x:=λx hx=>hd x (by rw[List.take_of_length_le (by omega)];exact hx);rw[List.drop_of_length_le (by omega)]at hv;have hv':vr 0 s=a:=hv;unfold FC;have em:Int.ofNat 9223372036854775807=9223372036854775807:=rfl;rw[cE,em];refine bH (λg1=>h2 ?_) (λg1=>?_)
    ·unfold tz;rw[if_neg];rintro⟨_,g2⟩;omega
    ·refine w0 (by omega) (by omega) ?_;refine h1 a ?_;unfold tz;rw[if_pos ⟨hall,by omega⟩,hv']
 show FE oX K (wE oX K G.NL) (ah s) H;unfold FE;exact key G.NL 0 0 (Nat.zero_le _) (by have:G.NL=1000000:=rfl;omega) (λx hx=>by simp at hx) rfl (by omega)
end
end
end Go.Proofs.YtcedghechlgecaaDoor.Lx
namespace Go.X
section
variable {H:AH}{S:LS}
theorem aio{bytes sz n:Nat}{v:AV}{l l':List AV}{k:AV→AH→Prop}(hM:Mem H S)(hs:dT S sz v n l)(hsz:0<sz)(hl':l'.length=sz)(hl:(n+1)*bytes≤1099511627776)(h1:∀a∈l',a.one=true)
  (hK:∀H' S' v',Mem H' S'→qN S v (n+1) sz (l++l') S' v'→k v' H'):aX (ay H) 1 sz l' λx H'=>bT (Nat.beq H'.n (Nat.succ H.n)) (dw sz bytes v x H' k):=by
 refine eI hM (by omega) h1 λH1 m1=>cV (sr (by rw[m1.n,hM.n];rfl)) ?_;have hs1:dT (S.push (.ce l' 0)) sz v n l:=hs.keep hM λb _ hb=>LS.bC _ _ hb;have hlt1:∀b,au v b→b<S.n:=λb hb=>hs.lt hM hb;refine nF (ex:=true) (cap:=1) (o:=0) (n:=1) (l:=l') (m:=0) (b:=S.n) (k:=λl=>py sz bytes 1 _ l H1 k) m1 (LS.ax _ _) (by omega) ?_;rw[List.drop_zero,List.take_of_length_le (by omega)];refine ru m1 hs1 hsz (.inl (by omega)) (by omega) hl h1 λH' S' v' h' he=>?_;obtain⟨e1,e2,e3,e4⟩:=he;have e1':S.n+1≤S'.n:=e1;refine hK H' S' v' h' ⟨by omega,λb hb hne=>?_,e3,λb hb=>?_⟩
 ·rw[e2 b (by show b<S.n+1;omega) hne,LS.bC _ _ hb]
 ·rcases e4 b hb with g|g
  ·exact .inl g
  ·have g':S.n+1≤b:=g;exact .inr (by omega)
theorem ys.Ub{S0:LS}{v:AV}{acc:List Nat}(h:ys S0 S v acc)(hM:Mem H S){c:Nat}(hc:c<256)(hl:acc.length≤1000000){k:AV→AH→Prop}(hK:∀H' S' v',Mem H' S'→ys S0 S' v' (acc++[c])→k v' H') :
  aX (ay H) 1 1 [.int 1 (c:Int)] λx H'=>bT (Nat.beq H'.n (Nat.succ H.n)) (dw 1 1 v x H' k):=by
 refine aio hM h.fr (by omega) rfl (by omega) (λa ha=>by simp at ha;subst ha;rfl) λH' S' v' h' he=>hK H' S' v' h' ?_;obtain⟨e1,e2⟩:=he.ext h.x h.own;refine⟨e1,?_,e2,h.b8.app (B8.cons hc B8.nil)⟩;rw[RL,List.length_append];exact he.2.2.1
end
end Go.X
namespace Go.Proofs.YtcedghechlgecaaDoor.Lx
open Go Go.X Go.Proofs.YtcedghechlgecaaDoor Go.Proofs.YtcedghechlgecaaDoor.G
section
variable {H:AH}{S:LS}{K:KF}
section
variable {s:List Nat}{p:Nat}
theorem alG:(AV.str 17 20123422373665890509693217210346309823787)=ah ones:=by rfl
theorem amF(h8:B8 s)(hs:s.length≤16384)(hM:Mem H S){c:Nat}{l:List Nat}(hd:s.drop p=c::l)(hK:∀H' S',Mem H' S'→Ext S S'→K (.ret (.int 0 ((lg (c::l):Nat):Int))) H'):f36 (ah s) (p:Int) H K:=by
 have r29:ql=f25:=rfl;obtain⟨g1,g2,g3⟩:=suf hd;have o8:B8 ones:=bj (by decide);have loop:∀{H:AH}{S1:LS},Mem H S1→Ext S S1→(∀m∈lH,(c::l).take 2≠m)→∀(q i:Nat),i≤17→17-i<q→(∀j,j<i→ones[j]?≠some c)→wH ql K q (ah s) (p:Int) (ah ones) (i:Int) H:=by
  intro H S1 hM hx hno q
  induction q with
  |zero=>intro i _ h _;omega
  |succ q ih=>
   intro i hi hq hn;show FP ql K (wH ql K q) (FO ql K) (ah s) (p:Int) (ah ones) (i:Int) H;unfold FP;simp only[iP,aQ,cE];have hk:=hK H S1 hM hx;rw[ail hno]at hk;refine bH (λg=>?_) (λg=>?_)
   ·have hil:i<ones.length:=by omega
    obtain⟨d,hdd⟩:∃d,ones[i]? = some d:=⟨_,List.getElem?_eq_getElem hil⟩
    refine fK o8 hdd ?_;simp only[aQ];refine fK h8 g1 ?_;simp only[aQ,bD];refine bH (λg4=>?_) (λg4=>?_)
    ·have e:d=c:=by omega
     subst e;rw[if_pos (List.mem_of_getElem? hdd)]at hk;exact hk
    ·simp only[dp,fe];refine w0 (by omega) (by omega) ?_;refine ih (i+1) (by have:ones.length=17:=rfl;omega) (by have:ones.length=17:=rfl;omega) λj hj hjc=>?_;by_cases e:j=i
     ·subst e;rw[hdd]at hjc;cases hjc;exact g4 rfl
     ·exact hn j (by omega) hjc
   ·have hnm:c∉ones:=λhm=>by
     obtain⟨j,hj,e⟩:=List.mem_iff_getElem.1 hm;exact hn j (by omega) (by rw[List.getElem?_eq_getElem hj,e])
    unfold FO;rw[if_neg hnm]at hk;exact hk
 show FQ ql K (wH ql K G.NL) (ah s) (p:Int) H;unfold FQ;have e2:Int.ofNat 2=2:=rfl;rw[r29,alG];simp only[dp,fe,e2];refine w0 (by omega) (by omega) ?_;simp only[iP,aQ,cE];have hsl:(c::l).length=s.length-p:=by rw[←hd];simp
 refine bH (λg=>?_) (λg=>?_)
 ·rw[Ud];refine eI hM rfl (λa ha=>?_) λH1 m1=>?_
  ·obtain⟨x,_,rfl⟩:=List.mem_map.1 ha;rfl
  ·refine w0 (by omega) (by omega) ?_;refine Am (i:=p) (j:=p+2) h8 (by omega) (by omega) ?_;rw[hd,Nat.add_sub_cancel_left];have PL:B8 ((c::l).take 2):=by rw[←hd];exact(h8.drop p).take 2
   have tw8:∀m∈lH,B8 m:=λm hm=>bj ((by decide:∀m∈lH,(m.all λc=>Nat.blt c 256)=true) m hm);have x1:Ext S (S.push (.ce (lH.map ah) 0)):=Ext.push _ _;have hw:ug (lH.map ah) (ah ((c::l).take 2))=decide ((c::l).take 2∈lH):=zX (λm hm=>J8 PL hm) lH tw8;refine agI (l:=lH.map ah) (v:=.slice S.n 0 6 6 1 true) m1 (Q:=λ_=>True) (.inr ⟨S.n,0,6,true,lH.map ah,0,rfl,Nat.le_refl _,trivial,LS.ax _ _,by decide,rfl⟩) (by decide) (λa ha=>by obtain⟨x,_,rfl⟩:=List.mem_map.1 ha;exact⟨_,_,rfl⟩) ?_;have hw':ug (lH.map ah) (.str ((c::l).take 2).length (num ((c::l).take 2)))=decide ((c::l).take 2∈lH):=hw;rw[hw',ai,aM];refine bH (λg4=>?_) (λg4=>?_)
   ·have hk:=hK H1 _ m1 x1;rw[aik rfl g4]at hk;exact hk
   ·exact loop m1 x1 (λm hm e=>g4 (by rw[e];exact hm)) G.NL 0 (by omega) (by have:G.NL=1000000:=rfl;omega) λj hj=>by omega
 ·have hl1:l=[]:=by
   cases l with
   |nil=>rfl
   |cons d r=>simp at hsl;omega
  exact loop hM (Ext.refl S) (λm hm e=>by
   have:=afi m hm;rw[←e,hl1]at this;simp at this) G.NL 0 (by omega) (by have:G.NL=1000000:=rfl;omega) λj hj=>by omega
def Uf(K:KF)(H:AH):Prop:=K (.ret (.bF [.str 0 0,.int 0 0,.bool false])) H
theorem lX{S0:LS}{m i q:Nat}{v:AV}{acc:List Nat}(h8:B8 s)(hi:i≤s.length)(hs:s.length≤16384)(hM:Mem H S)(hB:ys S0 S v acc)(hal:acc.length≤i)(qV:m≠10)(vx:m≠92)
  (hbad:s.drop i=[]∨((s.drop i).head? = some 10∧10≠m)∨(∃l',s.drop i=92::l'∧92≠m∧esc l'=none)→Uf K H)
  (hgood:(s.drop i).head? = some m→K (.ret (.bF [ah acc,.int 0 ((i+1:Nat):Int),.bool (decide (acc.length≤4096))])) H)
  (hone:∀c,(s.drop i).head? = some c→c≠m→c≠10→c≠92→∀H' S' v',Mem H' S'→ys S0 S' v' (acc++[c])→gj cN K q (ah s) (m:Int) v' ((i+1:Nat):Int) H')
  (alH:∀l' x k,s.drop i=92::l'→92≠m→esc l'=some (x,k)→∀H' S' v',Mem H' S'→ys S0 S' v' (acc++[x])→gj cN K q (ah s) (m:Int) v' ((i+k+1:Nat):Int) H') :
  gj cN K (q+1) (ah s) (m:Int) v (i:Int) H:=by
 have r28:cN=f55:=rfl;show FM cN K (oY cN K (gj cN K q)) (Ou cN K) (Ow cN K (gj cN K q)) (ah s) (m:Int) v (i:Int) H;unfold FM
 try simp only[iP,aQ,cE]
 have hnext:∀(n:Nat) (v':AV) (H':AH),(n:Int)≤2000000→gj cN K q (ah s) (m:Int) v' ((n+1:Nat):Int) H'→oY cN K (gj cN K q) (ah s) (m:Int) v' (n:Int) H':=λn v' H' hn h=>by
  unfold oY;simp only[dp,fe];exact w0 (by omega) (by omega) h
 refine bH (λg=>?_) (λg=>hbad (.inl ?_))
 ·have hil:i<s.length:=by omega
  obtain⟨c,hc⟩:∃c,s[i]? = some c:=⟨_,List.getElem?_eq_getElem hil⟩
  have hd:s.drop i=c::s.drop (i+1):=by
   rw[List.drop_eq_getElem_cons hil];rw[(List.getElem?_eq_some_iff.1 hc).2]
  have hhd:(s.drop i).head? = some c:=by rw[hd];rfl
  refine fK h8 hc ?_;have e10:Int.ofNat 10=10:=rfl;have e92:Int.ofNat 92=92:=rfl;have anX:Int.ofNat 110=110:=rfl;have e116:Int.ofNat 116=116:=rfl;have e34:Int.ofNat 34=34:=rfl;have e39:Int.ofNat 39=39:=rfl;have e120:Int.ofNat 120=120:=rfl;have e0:Int.ofNat 0=0:=rfl;have e2:Int.ofNat 2=2:=rfl;have amG:Int.ofNat 4096=4096:=rfl;simp only[aQ,bD];rw[e10,e92];refine bH (λg3=>hbad (.inr (.inl ?_))) (λg3=>?_)
  ·have ec:c=10:=by omega
   subst ec;exact⟨hhd,λe=>qV e.symm⟩
  refine bH (λg2=>?_) (λg2=>?_)
  ·have ecm:c=m:=by omega
   refine U7 hM hB.fr.frv hB.b8 ?_;simp only[dp,fe];refine w0 (by omega) (by omega) ?_;refine hB.fr.len ?_;simp only[aQ,cE];have:=hgood (by rw[hhd,ecm]);have e:(!decide (Int.ofNat 4096<(acc.length:Int)))=decide (acc.length≤4096):=by
    rw[Bool.eq_iff_iff,amG];simp;omega
   rw[e];exact this
  ·have hcm:c≠m:=by omega
   by_cases g4:(c:Int)=92
   ·rw[decide_eq_true g4];have ec:c=92:=by omega
    subst ec;simp only[Bool.not_true,aG,dp,fe];refine w0 (by omega) (by omega) ?_
    try simp only[iP,aQ,cE]
    by_cases g5:((i:Int)+1)<s.length
    ·rw[decide_eq_true g5];simp only[Bool.not_true,aG];have alI:i+1<s.length:=by omega
     obtain⟨d,hdd⟩:∃d,s[i+1]? = some d:=⟨_,List.getElem?_eq_getElem alI⟩
     have hd8:=h8 d (List.mem_of_getElem? hdd);have hd2:s.drop (i+1)=d::s.drop (i+2):=by
      rw[List.drop_eq_getElem_cons alI];rw[(List.getElem?_eq_some_iff.1 hdd).2]
     have sx:∀{k:AV→Prop},k (.int 1 (d:Int))→gC (ah s) (.int 0 ((i:Int)+1)) k:=λhk=>fK (i:=i+1) h8 hdd hk;refine sx ?_;simp only[aQ];have KB:esc (d::s.drop (i+2))=none→Uf K H:=λhe=>hbad (.inr (.inr ⟨_,hd,hcm,by rw[hd2];exact he⟩));have Ug:∀x,esc (d::s.drop (i+2))=some (x,1)→x<256→aX (ay H) 1 1 [.int 1 (x:Int)] λw H'=>dw 1 1 v w H' λv' Hg=>oY cN K (gj cN K q) (ah s) (m:Int) v' ((i:Int)+1) Hg:=λx he hx=>by
      refine hB.push hM hx (by omega) λH' S' v' h' hB'=>?_;refine hnext (i+1) v' H' (by omega) ?_;exact alH _ x 1 hd hcm (by rw[hd2];exact he) H' S' v' h' hB'
     show FL cN K (oY cN K (gj cN K q)) (FK cN K (gj cN K q)) (ah s) (m:Int) v ((i:Int)+1) (d:Int) H;unfold FL;simp only[bD];rw[anX,e116,e92,e34,e39];refine bH (λg6=>Ug 10 (by simp only[esc];rw[if_pos (by omega)]) (by omega)) (λg6=>?_);refine bH (λg7=>Ug 9 (by simp only[esc];rw[if_neg (by omega),if_pos (by omega)]) (by omega)) (λg7=>?_);have mark:d=92∨d=34∨d=39→FK cN K (gj cN K q) (ah s) (m:Int) v ((i:Int)+1) (d:Int) true H:=λhdm=>by
      show wG cN K (FJ cN K (gj cN K q)) (oY cN K (gj cN K q)) (ah s) (m:Int) v ((i:Int)+1) (d:Int) true H;unfold wG;rw[aK];refine sx ?_;simp only[aQ];exact Ug d (by simp only[esc];rw[if_neg (by omega),if_neg (by omega),if_pos hdm]) hd8
     refine bH (λg8=>?_) λg8=>bH (λg21=>?_) λg21=>?_
     ·rw[decide_eq_true g8];exact mark (by omega)
     ·rw[decide_eq_true g21];exact mark (by omega)
     by_cases g16:(d:Int)=39
     ·rw[decide_eq_true g16];exact mark (by omega)
     rw[decide_eq_false g16];show wG cN K (FJ cN K (gj cN K q)) (oY cN K (gj cN K q)) (ah s) (m:Int) v ((i:Int)+1) (d:Int) false H;unfold wG;rw[aG,bD,e120];refine bH (λg11=>?_) (λg11=>KB ?_)
     ·have ed:d=120:=by omega
      subst ed;simp only[dp,e2,fe];refine w0 (by omega) (by omega) ?_
      try simp only[iP,aQ,cE]
      by_cases g50:((i:Int)+1+2)<s.length
      ·rw[decide_eq_true g50];simp only[Bool.not_true,aG];have alJ:i+2<s.length:=by omega
       have alK:i+3<s.length:=by omega
       obtain⟨a,haa⟩:∃a,s[i+2]? = some a:=⟨_,List.getElem?_eq_getElem alJ⟩
       obtain⟨b,hbb⟩:∃b,s[i+3]? = some b:=⟨_,List.getElem?_eq_getElem alK⟩
       have hd3:s.drop (i+2)=a::b::s.drop (i+4):=by
        rw[List.drop_eq_getElem_cons alJ,List.drop_eq_getElem_cons alK];rw[(List.getElem?_eq_some_iff.1 haa).2,(List.getElem?_eq_some_iff.1 hbb).2]
       have ha8:=h8 a (List.mem_of_getElem? haa);have hb8:=h8 b (List.mem_of_getElem? hbb);have sa:∀{k:AV→Prop},k (.int 1 (a:Int))→gC (ah s) (.int 0 ((i:Int)+1+1)) k:=λhk=>by
        have:=fK (q:=0) (i:=i+2) h8 haa hk;rw[show((i+2:Nat):Int)=(i:Int)+1+1 by omega]at this;exact this
       have sb:∀{k:AV→Prop},k (.int 1 (b:Int))→gC (ah s) (.int 0 ((i:Int)+1+2)) k:=λhk=>by
        have:=fK (q:=0) (i:=i+3) h8 hbb hk;rw[show((i+3:Nat):Int)=(i:Int)+1+2 by omega]at this;exact this
       refine w0 (by omega) (by omega) ?_;refine sa ?_;simp only[aQ];rw[r28];refine Kz ha8 λz hz1 hz2=>?_;simp only[ai,aQ,cE];rw[e0];cases ea:nG a with
       |none=>
        have:=hz2 ea;rw[decide_eq_true (by omega),aK];exact KB (by rw[hd3];exact ady (.inl (by rw[ea];rintro⟨x,hx⟩;cases hx)))
       |some x=>
        have hzx:=hz1 x ea;have hx16:=Ap ea;rw[decide_eq_false (by omega),aG];refine w0 (by omega) (by omega) ?_;refine sb ?_;simp only[aQ];refine Kz hb8 λz' hz1' hz2'=>?_;simp only[ai,aQ,cE];cases eb:nG b with
        |none=>
         have:=hz2' eb;rw[decide_eq_true (by omega),aK];exact KB (by rw[hd3];exact ady (.inr (by rw[eb];rintro⟨x,hx⟩;cases hx)))
        |some y=>
         have hzy:=hz1' y eb;have anY:=Ap eb;rw[decide_eq_false (by omega),aG];show FI cN K (Ov cN K (gj cN K q)) (ah s) (m:Int) v ((i:Int)+1) H;unfold FI;rw[r28];simp only[dp,e2,fe];refine w0 (by omega) (by omega) ?_;refine sa ?_;simp only[aQ];refine w0 (by omega) (by omega) ?_;refine sb ?_;simp only[aQ];refine Kz ha8 λw hw1 _=>?_;have hwx:=hw1 x ea;simp only[ai,aQ];have shl:∀{k:AV→Prop},k (.int 0 ((16*x:Nat):Int))→RW 0 (.int 0 w) (.int 3 (.ofNat 4)) k:=λ{k} hk=>by
          rw[hwx];show bT (Nat.beq 0 0) (aN 0 (Int.mul (x:Int) (.ofNat (Nat.pow 2 (Nat.min 4 64)))) λz=>k (.int 0 z));refine cV rfl ?_;have e:(Nat.pow 2 (Nat.min 4 64))=16:=rfl;rw[e,ai2];refine lG (z:=(x:Int)*Int.ofNat 16) (z':=((16*x:Nat):Int)) ?_ hk;have e16:Int.ofNat 16=16:=rfl;rw[e16,Ss (by omega) (by omega)];omega
         refine shl ?_;simp only[aQ];refine Kz hb8 λw' anZ _=>?_;have hwy:=anZ y eb;simp only[ai,aQ];rw[ae,ae,hwy];have an0:Nat.lor (mz 0 ((16*x:Nat):Int)) (mz 0 (y:Int))=16*x+y:=by
          show(16*x) ||| y=_;exact(by decide +kernel:∀x,x<16→∀y,y<16→((16*x) ||| y)=16*x+y) x hx16 y anY
         rw[an0];refine lG (z:=Int.ofNat (16*x+y)) (z':=((16*x+y:Nat):Int)) (by rw[Ss (by show(_:Int)≤((16*x+y:Nat):Int);omega) (by show((16*x+y:Nat):Int)<_;omega)];rfl) ?_;refine lG (z:=((16*x+y:Nat):Int)) (z':=((16*x+y:Nat):Int)) (by rw[C7];omega) ?_;refine hM.dx (hB.Ub hM (by omega) (by omega) λH' S' v' h' hB'=>?_);show FH cN K (oY cN K (gj cN K q)) (ah s) (m:Int) v' ((i:Int)+1) H';unfold FH;simp only[dp,e2];refine w0 (by omega) (by omega) ?_;have:=hnext (i+3) v' H' (by omega) (alH _ (16*x+y) 3 hd hcm (by
          rw[hd2,hd3];simp only[esc];rw[if_neg (by omega),if_neg (by omega),if_neg (by omega),if_pos trivial,ea,eb]) H' S' v' h' hB')
         rw[show((i+3:Nat):Int)=(i:Int)+1+2 by omega]at this;exact this
      ·rw[decide_eq_false g50];simp only[Bool.not_false,aK];refine KB ?_;simp only[esc];rw[if_neg (by omega),if_neg (by omega),if_neg (by omega),if_pos trivial];have hlen:(s.drop (i+2)).length≤1:=by simp;omega
       match hx:s.drop (i+2),hlen with
       |[],_=>rfl
       |[a],_=>rfl
       |a::b::r,h=>simp at h
     ·simp only[esc];rw[if_neg (by omega),if_neg (by omega),if_neg (by omega),if_neg (by omega)]
    ·rw[decide_eq_false g5];simp only[Bool.not_false,aK];refine hbad (.inr (.inr ⟨_,hd,hcm,?_⟩));rw[List.drop_of_length_le (by omega)];rfl
   ·rw[decide_eq_false g4];simp only[Bool.not_false,aK];refine hB.push hM (h8 c (List.mem_of_getElem? hc)) (by omega) λH' S' v' h' hB'=>?_;refine hnext i v' H' (by omega) ?_;exact hone c hhd hcm (by omega) (by omega) H' S' v' h' hB'
 ·exact List.drop_of_length_le (by omega)
end
end
section
variable {H:AH}{S:LS}{K:KF}
section
variable {s:List Nat}{p:Nat}
theorem aip{S0:LS}{m:Nat}(h8:B8 s)(hlen:s.length≤16384)(qV:m≠10)(vx:m≠92){l t:List Nat}{j:Nat}(hq:qc m l t j) :
  ∀(q i:Nat) (acc:List Nat) (v:AV) (H:AH) (S:LS),l=s.drop i→i≤s.length→s.length-i<q→Mem H S→ys S0 S v acc→acc.length≤i→
   (∀H' S',Mem H' S'→Ext S0 S'→K (.ret (.bF [ah (acc++t),.int 0 ((i+j:Nat):Int),.bool (decide ((acc++t).length≤4096))])) H')→gj cN K q (ah s) (m:Int) v i H:=by
 induction hq with
 |stop l=>
  intro q i acc v H S hl hi hq hM hB ha hg;obtain⟨q,rfl⟩:∃p,q=p+1:=⟨q-1,by omega⟩
  rw[List.append_nil]at hg;refine lX h8 hi hlen hM hB ha qV vx (λh=>?_) (λ_=>hg H S hM hB.x) (λc h hc=>?_) (λl' x k h hm=>?_)
  ·rw[←hl]at h;rcases h with h|⟨h,h'⟩|⟨l',h,h',_⟩
   ·cases h
   ·simp at h;exact absurd h.symm h'
   ·injection h with h1;exact absurd h1.symm h'
  ·rw[←hl]at h;simp at h;exact absurd h.symm hc
  ·rw[←hl]at h;injection h with h1;exact absurd h1.symm hm
 |one c l t j hm h10 JO hq' ih=>
  intro q i acc v H S hl hi hq hM hB ha hg;obtain⟨q,rfl⟩:∃p,q=p+1:=⟨q-1,by omega⟩
  have hil:i<s.length:=by
   rcases Nat.lt_or_ge i s.length with g|g
   ·exact g
   ·rw[List.drop_of_length_le g]at hl;cases hl
  have hl':l=s.drop (i+1):=by
   rw[←List.drop_drop,←hl];rfl
  have e:∀x:List Nat,(acc++[c])++x=acc++c::x:=λx=>by simp
  refine lX h8 hi hlen hM hB ha qV vx (λh=>?_) (λh=>?_) (λd h _ _ _ H' S' v' h' hB'=>?_) (λl' x k h hm=>?_)
  ·rw[←hl]at h;rcases h with h|⟨h,h'⟩|⟨l',h,h',_⟩
   ·cases h
   ·simp at h;exact absurd h h10
   ·injection h with h1;exact absurd h1 JO
  ·rw[←hl]at h;simp at h;exact absurd h hm
  ·rw[←hl]at h;have hdc:c=d:=by simpa using h
   subst hdc;refine ih q (i+1) (acc++[c]) v' H' S' hl' (by omega) (by omega) h' hB' (by simp;omega) ?_;rw[e,show i+1+j=i+(j+1) by omega];exact hg
  ·rw[←hl]at h;injection h with h1;exact absurd h1 JO
 |esc l t x k j JO he hq' ih=>
  intro q i acc v H S hl hi hq hM hB ha hg;obtain⟨q,rfl⟩:∃p,q=p+1:=⟨q-1,by omega⟩
  have hil:i<s.length:=by
   rcases Nat.lt_or_ge i s.length with g|g
   ·exact g
   ·rw[List.drop_of_length_le g]at hl;cases hl
  have hl':l=s.drop (i+1):=by
   rw[←List.drop_drop,←hl];rfl
  have hk:=Ao he;have hkl:i+1+k≤s.length:=by
   have:l.length=s.length-(i+1):=by rw[hl'];simp
   omega
  have e:∀y:List Nat,(acc++[x])++y=acc++x::y:=λy=>by simp
  refine lX h8 hi hlen hM hB ha qV vx (λh=>?_) (λh=>?_) (λd h _ _ PM=>?_) (λl' x' k' h _ he' H' S' v' h' hB'=>?_)
  ·rw[←hl]at h;rcases h with h|⟨h,h'⟩|⟨l',h,h',hn⟩
   ·cases h
   ·simp at h
   ·injection h with _ h1;subst h1;rw[he]at hn;cases hn
  ·rw[←hl]at h;simp at h;exact absurd h.symm JO
  ·rw[←hl]at h;have hdc:92=d:=by simpa using h
   exact absurd hdc.symm PM
  ·rw[←hl]at h;injection h with _ h1;subst h1;rw[he]at he';cases he';refine ih q (i+k+1) (acc++[x]) v' H' S' (by rw[hl',List.drop_drop];congr 1;omega) (by omega) (by omega) h' hB' (by simp;omega) ?_;rw[e,show i+k+1+j=i+(k+j+1) by omega];exact hg
theorem aiq{S0:LS}{m:Nat}(h8:B8 s)(hlen:s.length≤16384)(qV:m≠10)(vx:m≠92){l:List Nat}(hq:qO m l) :
  ∀(q i:Nat) (acc:List Nat) (v:AV) (H:AH) (S:LS),l=s.drop i→i≤s.length→s.length-i<q→Mem H S→ys S0 S v acc→acc.length≤i→
   (∀H' S',Mem H' S'→Ext S0 S'→Uf K H')→gj cN K q (ah s) (m:Int) v i H:=by
 induction hq with
 |nil=>
  intro q i acc v H S hl hi hq hM hB ha hb;obtain⟨q,rfl⟩:∃p,q=p+1:=⟨q-1,by omega⟩
  refine lX h8 hi hlen hM hB ha qV vx (λ_=>hb H S hM hB.x) (λh=>?_) (λc h hc=>?_) (λl' x k h hm=>?_)<;>(rw[←hl]at h;cases h)
 |line l qV=>
  intro q i acc v H S hl hi hq hM hB ha hb;obtain⟨q,rfl⟩:∃p,q=p+1:=⟨q-1,by omega⟩
  refine lX h8 hi hlen hM hB ha qV vx (λ_=>hb H S hM hB.x) (λh=>?_) (λc h _ hc=>?_) (λl' x k h hm=>?_)
  ·rw[←hl]at h;simp at h;exact absurd h.symm qV
  ·rw[←hl]at h;simp at h;exact absurd h.symm hc
  ·rw[←hl]at h;injection h with h1;cases h1
 |one c l hm h10 JO hq' ih=>
  intro q i acc v H S hl hi hq hM hB ha hb;obtain⟨q,rfl⟩:∃p,q=p+1:=⟨q-1,by omega⟩
  have hil:i<s.length:=by
   rcases Nat.lt_or_ge i s.length with g|g
   ·exact g
   ·rw[List.drop_of_length_le g]at hl;cases hl
  have hl':l=s.drop (i+1):=by
   rw[←List.drop_drop,←hl];rfl
  refine lX h8 hi hlen hM hB ha qV vx (λ_=>hb H S hM hB.x) (λh=>?_) (λd h _ _ _ H' S' v' h' hB'=>?_) (λl' x k h hm=>?_)
  ·rw[←hl]at h;simp at h;exact absurd h hm
  ·exact ih q (i+1) _ v' H' S' hl' (by omega) (by omega) h' hB' (by simp;omega) hb
  ·rw[←hl]at h;injection h with h1;exact absurd h1 JO
 |bad l hm he=>
  intro q i acc v H S hl hi hq hM hB ha hb;obtain⟨q,rfl⟩:∃p,q=p+1:=⟨q-1,by omega⟩
  refine lX h8 hi hlen hM hB ha qV vx (λ_=>hb H S hM hB.x) (λh=>?_) (λd h _ _ PM=>?_) (λl' x' k' h _ he'=>?_)
  ·rw[←hl]at h;simp at h;exact absurd h.symm hm
  ·rw[←hl]at h;have hdc:92=d:=by simpa using h
   exact absurd hdc.symm PM
  ·rw[←hl]at h;injection h with _ h1;subst h1;rw[he]at he';cases he'
 |esc l x k JO he hq' ih=>
  intro q i acc v H S hl hi hq hM hB ha hb;obtain⟨q,rfl⟩:∃p,q=p+1:=⟨q-1,by omega⟩
  have hil:i<s.length:=by
   rcases Nat.lt_or_ge i s.length with g|g
   ·exact g
   ·rw[List.drop_of_length_le g]at hl;cases hl
  have hl':l=s.drop (i+1):=by
   rw[←List.drop_drop,←hl];rfl
  have hk:=Ao he;have hkl:i+1+k≤s.length:=by
   have:l.length=s.length-(i+1):=by rw[hl'];simp
   omega
  refine lX h8 hi hlen hM hB ha qV vx (λ_=>hb H S hM hB.x) (λh=>?_) (λd h _ _ PM=>?_) (λl' x' k' h _ he' H' S' v' h' hB'=>?_)
  ·rw[←hl]at h;simp at h;exact absurd h.symm JO
  ·rw[←hl]at h;have hdc:92=d:=by simpa using h
   exact absurd hdc.symm PM
  ·rw[←hl]at h;injection h with _ h1;subst h1;rw[he]at he';cases he';exact ih q (i+k+1) _ v' H' S' (by rw[hl',List.drop_drop];congr 1;omega) (by omega) (by omega) h' hB' (by simp;omega) hb
theorem amH{m:Nat}{l:List Nat}(h8:B8 s)(hs:s.length≤16384)(hd:s.drop p=m::l)(hm:m=34∨m=39)(hM:Mem H S)
  (hg:∀t j,qc m l t j→∀H' S',Mem H' S'→Ext S S'→K (.ret (.bF [ah t,.int 0 ((p+1+j:Nat):Int),.bool (decide (t.length≤4096))])) H')
  (hb:qO m l→∀H' S',Mem H' S'→Ext S S'→Uf K H'):f35 (ah s) (p:Int) H K:=by
 obtain⟨g1,g2,g3⟩:=suf hd;show FN cN K (gj cN K G.NL) (ah s) (p:Int) H;unfold FN;refine fK h8 g1 ?_;simp only[aQ,dp,fe];refine w0 (by omega) (by omega) ?_;have hB:ys S S .ab []:=⟨Ext.refl S,dT.nil S 1,λ_ h=>h.elim,B8.nil⟩
 have fV:G.NL=1000000:=rfl;rcases Dc (m:=m) (by omega) (by omega) (l.length+1) l (by omega)with⟨t,j,hq⟩|hq
 ·exact aip h8 hs (by omega) (by omega) hq G.NL (p+1) [] .ab H S g3.symm (by omega) (by omega) hM hB (by simp) (hg t j hq)
 ·exact aiq h8 hs (by omega) (by omega) hq G.NL (p+1) [] .ab H S g3.symm (by omega) (by omega) hM hB (by simp) (hb hq)
end
end
section
variable {H:AH}{S:LS}{K:KF}
theorem an1:bq.2.2.2.1=f32:=rfl
theorem alL:bq.1=f29:=rfl
theorem an2:bq.2.1=f30:=rfl
theorem an3:bq.2.2.1=f31:=rfl
theorem an4:bq.2.2.2.2.1=f33:=rfl
theorem an5:bq.2.2.2.2.2.1=f34:=rfl
theorem an6:bq.2.2.2.2.2.2.1=f35:=rfl
theorem an7:bq.2.2.2.2.2.2.2=f36:=rfl
structure yt(S0 S:LS)(v:AV)(acc:List Tok):Prop where
 x:Ext S0 S
 fr:dT S 4 v acc.length (tcs acc)
 own:∀b,au v b→S0.n≤b
theorem pV.j{S0:LS}{v:AV}{acc:List Tok}{bt:Nat}{tc:List AV}(h:pV S0 S v acc bt tc):yt S0 S v acc:=⟨h.x,h.fr,h.own⟩
theorem yt.new{S0:LS}{v:AV}{acc:List Tok}{c0 c1:List AV}(hJ:yt S0 S v acc)(hM:Mem H S)(h4:c1.length=4):pV S0 ((S.push (.ce c0 0)).set S.n (.ce c1 0)) v acc S.n c1:=by
 have lt:∀b,au v b→b<S.n:=λb hb=>hJ.fr.lt hM hb;exact⟨(hJ.x.trans (Ext.push S _)).set hJ.x.n _,hJ.fr.keep hM λb hb hlt=>by
   rw[LS.av _ _ (by have:=lt b hb;omega),LS.bC _ _ hlt],hJ.own,LS.aC _ _ _,h4,hJ.x.n,λg=>by have:=lt _ g;omega⟩
noncomputable def xb(K:KF)(s:List Nat)(q:Nat)(v:AV):KF:=λo H=>cR K o H λv5=>cI 0 v5 λz=>dZ bq K q (ah s) v z H
theorem amI{t:List Nat}(h:B8 t)(hM:Mem H S)(hK:∀H' S',Mem H' S'→Ext S S'→K (.ret (.bool (decide (t∈lI)))) H'):f32 (ah t) H K:=by
 refine amC hM λH' S' h' x'=>?_;have:=alF h;unfold ah at this;rw[this];exact hK H' S' h' x'
section
variable {S0:LS}{H0:AH}{v:AV}{acc:List Tok}{bt:Nat}{tc:List AV}{s:List Nat}{p q:Nat}
theorem ya(hs:s.length≤16384)(hM:Mem H S){t:Tok}(hI:pV S0 S v acc bt t.cs)(hal:acc.length≤100000){e:Nat}(hk:∀H' S' v',Mem H' S'→yt S0 S' v' (acc++[t])→dY bR (xb K s q v') G.NL (ah s) (e:Int) H') :
  nM bq K (dZ bq K q) (ah s) v (.ptr bt 0) (e:Int) H:=by
 show FR bq K (dZ bq K q) (ah s) v (.ptr bt 0) (e:Int) H;unfold FR;rw[alL];refine hI.push hM rfl hal λH' S' v' h' i'=>?_;show wB bR (xb K s q v') (dY bR (xb K s q v') G.NL) (ah s) (e:Int) H';unfold wB;exact hk H' S' v' h' i'.j
theorem afk(h8:B8 s)(hs:s.length≤16384)(hp:p≤s.length)(hM:Mem H S){t:List Nat}(PL:B8 t){e:Nat}(het:e=p+t.length)(hes:e≤s.length)(hI:pV S0 S v acc bt (Tok.cs ⟨2,t,0,p⟩))(hal:acc.length≤100000)
  (h1:t.length≤32→∀k,(k=1∧t∈lI∨k=2∧t∉lI)→∀H' S' v',Mem H' S'→yt S0 S' v' (acc++[⟨k,t,0,p⟩])→dY bR (xb K s q v') G.NL (ah s) (e:Int) H')
  (h2:32<t.length→badL K S0 p):zL bq K (dZ bq K q) (ah s) v (p:Int) (.ptr bt 0) (e:Int) H:=by
 show FW bq K (FV bq K (dZ bq K q)) (ah s) v (p:Int) (.ptr bt 0) (e:Int) H;unfold FW;have e32:Int.ofNat 32=32:=rfl;have last:∀{H:AH}{S:LS}(k:Nat),Mem H S→pV S0 S v acc bt (Tok.cs ⟨k,t,0,p⟩)→(k=1∧t∈lI∨k=2∧t∉lI)→FV bq K (dZ bq K q) (ah s) v (p:Int) (.ptr bt 0) (e:Int) H:=λ{H S} k hM hI hk=>by
  show FU bq K (nM bq K (dZ bq K q)) (ah s) v (p:Int) (.ptr bt 0) (e:Int) H;unfold FU;rw[BN];refine w0 (by omega) (by omega) ?_;rw[cE,e32];refine bH (λg=>h2 (by omega) H S hM hI.x) (λg=>?_);exact ya (t:=⟨k,t,0,p⟩) hs hM hI hal (h1 (by omega) k hk)
 refine hI.load hM rfl ?_;rw[an1];refine amI PL hM λH2 S2 m2 x2=>?_;simp only[ai,aM];have i2:=hI.ext hM x2;refine bH (λg=>?_) (λg=>last 2 m2 i2 (.inr ⟨rfl,g⟩));refine i2.store m2 (by omega) rfl λH3 S3 m3 i3=>?_;exact last 1 m3 i3 (.inl ⟨rfl,g⟩)
theorem air(h8:B8 s)(hs:s.length≤16384)(hM:Mem H S){t:List Nat}{e:Nat}(hpe:p≤e)(hes:e≤s.length)(ht:(s.drop p).take (e-p)=t)(hI:pV S0 S v acc bt (Tok.cs ⟨3,[],0,p⟩))(hal:acc.length≤100000)
  (h1:∀n,tz t=some n→∀H' S' v',Mem H' S'→yt S0 S' v' (acc++[⟨3,[],n,p⟩])→dY bR (xb K s q v') G.NL (ah s) (e:Int) H')
  (h2:tz t=none→badL K S0 p):zM bq K (dZ bq K q) (ah s) v (p:Int) (.ptr bt 0) (e:Int) H:=by
 show FX bq K (nM bq K (dZ bq K q)) (ah s) v (p:Int) (.ptr bt 0) (e:Int) H;unfold FX;refine Am (i:=p) (j:=e) h8 hpe hes ?_;rw[an5,ht];have PL:B8 t:=by rw[←ht];exact(h8.drop p).take _
 have hlt:t.length≤16384:=by rw[←ht];simp;omega
 refine amE PL hlt (λn hn=>?_) (λhn=>?_)
 ·simp only[ai,pO,rq,rr,aQ,aM,Bool.not_true,aG];refine hI.store hM (by omega) rfl λH1 S1 m1 i1=>?_;exact ya (t:=⟨3,[],n,p⟩) hs m1 i1 hal (h1 n hn)
 ·simp only[ai,pO,rq,rr,aQ,aM,Bool.not_false,aK];exact h2 hn H S hM hI.x
theorem Uh(h8:B8 s)(hs:s.length≤16384)(hM:Mem H S){c:Nat}{l:List Nat}(hd:s.drop p=c::l)(hc:c=34∨c=39)(hI:pV S0 S v acc bt (Tok.cs ⟨0,[],0,p⟩))(hal:acc.length≤100000)
  (h1:∀t j,qc c l t j→t.length≤4096→∀H' S' v',Mem H' S'→yt S0 S' v' (acc++[⟨4,t,0,p⟩])→dY bR (xb K s q v') G.NL (ah s) ((p+(j+1):Nat):Int) H')
  (h2:(qO c l∨∃t j,qc c l t j∧4096<t.length)→badL K S0 p):wK bq K (dZ bq K q) (ah s) v (p:Int) (.ptr bt 0) H:=by
 show FT bq K (OF bq K (dZ bq K q)) (ah s) v (p:Int) (.ptr bt 0) H;unfold FT;rw[an6];refine amH h8 hs hd hc hM (λt j hq H2 S2 m2 x2=>?_) (λhb H2 S2 m2 x2=>?_)
 ·simp only[ai,pO,rq,rr,aQ,aM];have i2:=hI.ext hM x2;show wJ bq K (nM bq K (dZ bq K q)) (ah s) v (p:Int) (.ptr bt 0) (ah t) ((p+1+j:Nat):Int) (decide (t.length≤4096)) H2;unfold wJ;by_cases g:t.length≤4096
  ·rw[decide_eq_true g];simp only[Bool.not_true,aG];refine i2.store m2 (by omega) rfl λH3 S3 m3 i3=>?_;refine i3.store m3 (by omega) rfl λH4 S4 m4 i4=>?_;refine ya (t:=⟨4,t,0,p⟩) hs m4 i4 hal ?_;rw[show p+1+j=p+(j+1) by omega];exact h1 t j hq g
  ·rw[decide_eq_false g];simp only[Bool.not_false,aK];exact h2 (.inr ⟨t,j,hq,by omega⟩) H2 S2 m2 i2.x
 ·show cR K (.ret (.bF [.str 0 0,.int 0 0,.bool false])) H2 _;simp only[ai,pO,rq,rr,aQ,aM];have i2:=hI.ext hM x2;show wJ bq K (nM bq K (dZ bq K q)) (ah s) v (p:Int) (.ptr bt 0) (.str 0 0) 0 false H2;unfold wJ;simp only[Bool.not_false,aK];exact h2 (.inl hb) H2 S2 m2 i2.x
theorem afl(h8:B8 s)(hs:s.length≤16384)(hM:Mem H S){c:Nat}{l:List Nat}(hd:s.drop p=c::l)(hI:pV S0 S v acc bt (Tok.cs ⟨0,[],0,p⟩))(hal:acc.length≤100000)
  (h1:lg (c::l)≠0→∀H' S' v',Mem H' S'→yt S0 S' v' (acc++[⟨5,(c::l).take (lg (c::l)),0,p⟩])→dY bR (xb K s q v') G.NL (ah s) ((p+lg (c::l):Nat):Int) H')
  (h2:lg (c::l)=0→badL K S0 p):zN bq K (dZ bq K q) (ah s) v (p:Int) (.ptr bt 0) H:=by
 show F8 bq K (IC bq K (dZ bq K q)) (ah s) v (p:Int) (.ptr bt 0) H;unfold F8;obtain⟨g1,g2,g3⟩:=suf hd;rw[an7];have hsg:=U8 (c::l);have hsl:(c::l).length=s.length-p:=by rw[←hd];simp
 refine amF h8 hs hM hd λH1 S1 m1 x1=>?_;simp only[ai,aQ];have i1:=hI.ext hM x1;show AL bq K (nM bq K (dZ bq K q)) (ah s) v (p:Int) (.ptr bt 0) ((lg (c::l):Nat):Int) H1;unfold AL;have e0:Int.ofNat 0=0:=rfl;rw[bD,e0];refine bH (λg=>h2 (by omega) H1 S1 m1 i1.x) (λg=>?_);simp only[dp];refine w0 (by omega) (by omega) ?_;refine Am (i:=p) (j:=p+lg (c::l)) h8 (by omega) (by omega) ?_;refine w0 (by omega) (by omega) ?_;rw[hd,Nat.add_sub_cancel_left];refine i1.store m1 (by omega) rfl λH3 S3 m3 i3=>?_;refine i3.store m3 (by omega) rfl λH4 S4 m4 i4=>?_;exact ya (t:=⟨5,(c::l).take (lg (c::l)),0,p⟩) (e:=p+lg (c::l)) hs m4 i4 hal (h1 (by omega))
theorem zY(h8:B8 s)(hs:s.length≤16384)(hM:Mem H S){c:Nat}{l:List Nat}(hd:s.drop p=c::l)(hJ:yt S0 S v acc)(hal:acc.length≤100000)
  (h1:∀k t n j,mU (c::l) k t n j→∀H' S' v',Mem H' S'→yt S0 S' v' (acc++[⟨k,t,n,p⟩])→dY bR (xb K s q v') G.NL (ah s) ((p+j:Nat):Int) H')
  (h2:xD (c::l)→badL K S0 p):dZ bq K (q+1) (ah s) v (p:Int) H:=by
 show wL bq K (wK bq K (dZ bq K q)) (zL bq K (dZ bq K q)) (zM bq K (dZ bq K q)) (FZ bq K) (zN bq K (dZ bq K q)) (ah s) v (p:Int) H;unfold wL;obtain⟨g1,g2,g3⟩:=suf hd;have hrl:=vQ (c::l);have hsl:(c::l).length=s.length-p:=by rw[←hd];simp
 have e34:Int.ofNat 34=34:=rfl;have e39:Int.ofNat 39=39:=rfl;simp only[iP,aQ,cE];rw[decide_eq_true (by omega),aK,an2,an3,an4,e34,e39];refine eZ (eC hM (λa ha=>?_) λH1 m1=>?_)
 ·simp only[List.mem_cons,List.not_mem_nil,or_false]at ha;rcases ha with rfl|rfl|rfl|rfl<;>rfl
 refine pP m1 (LS.ax _ _) (by omega) rfl (by show 0+4≤4;omega) (λa ha=>?_) λH2 m2=>?_
 ·simp only[List.mem_cons,List.not_mem_nil,or_false]at ha;rcases ha with rfl|rfl|rfl|rfl<;>rfl
 have m2:Mem H2 ((S.push (.ce [.int 0 (.ofNat 0),.str 0 0,.int 0 (.ofNat 0),.int 0 (.ofNat 0)] 0)).set S.n (.ce (Tok.cs ⟨0,[],0,p⟩) 0)):=m2;have i2:=hJ.new hM (c0:=[.int 0 (.ofNat 0),.str 0 0,.int 0 (.ofNat 0),.int 0 (.ofNat 0)]) (c1:=Tok.cs ⟨0,[],0,p⟩) rfl;refine amD h8 hs (by omega) ?_;simp only[ai,aQ];rw[hd];have an8:((c::l).take (gw (c::l))).length=gw (c::l):=by rw[List.length_take];omega
 have PL:B8 ((c::l).take (gw (c::l))):=by rw[←hd];exact(h8.drop p).take _
 refine fK h8 g1 ?_;simp only[aQ];refine agH λb hb=>?_;simp only[ai,aM];refine y7 (λeb=>?_) (λeb=>?_)
 ·have hlp:=hb.1 eb;refine Am (i:=p) (j:=p+gw (c::l)) h8 (by omega) (by omega) ?_;rw[hd,Nat.add_sub_cancel_left];refine i2.store m2 (by omega) rfl λH3 S3 m3 i3=>?_;refine i3.store m3 (by omega) rfl λH4 S4 m4 i4=>?_;refine afk h8 hs (by omega) m4 PL (by rw[an8]) (by omega) i4 hal (λht k hk=>?_) (λht=>h2 (.long c l hlp (by omega)));rcases hk with⟨rfl,hk⟩|⟨rfl,hk⟩
  ·exact h1 _ _ _ _ (.word c l hlp (by omega) hk)
  ·exact h1 _ _ _ _ (.name c l hlp (by omega) hk)
 ·have hnl:¬LP c:=λg=>by have:=hb.2 g;rw[this]at eb;cases eb
  refine fK h8 g1 ?_;simp only[aQ];refine Ky λb' hb'=>?_;simp only[ai,aM];refine y7 (λeb'=>?_) (λeb'=>?_)
  ·have hdp:=hb'.1 eb';refine i2.store m2 (by omega) rfl λH3 S3 m3 i3=>?_;refine air (t:=(c::l).take (gw (c::l))) h8 hs m3 (by omega) (by omega) (by rw[hd,Nat.add_sub_cancel_left]) i3 hal (λn hn=>h1 _ _ _ _ (.num c l n hdp hn)) (λhn=>h2 (.num c l hdp hn))
  ·have hnd:¬DP c:=λg=>by have:=hb'.2 g;rw[this]at eb';cases eb'
   have quo:c=34∨c=39→wK bq K (dZ bq K q) (ah s) v (p:Int) (.ptr S.n 0) H2:=λhc=>by
    refine Uh h8 hs m2 hd hc i2 hal (λt j hq ht=>h1 _ _ _ _ (.quo c l t j hc hq ht)) (λhb=>?_);rcases hb with hb|⟨t,j,hq,ht⟩
    ·exact h2 (.quo c l hc hb)
    ·exact h2 (.great c l t j hc hq ht)
   refine fK h8 g1 ?_;simp only[aQ,bD];refine bH (λg4=>quo (by omega)) (λg4=>?_);refine fK h8 g1 ?_;simp only[aQ,bD];refine bH (λg5=>quo (by omega)) (λg5=>?_);exact afl h8 hs m2 hd i2 hal (λhz=>h1 _ _ _ _ (.sign c l hnd hnl (by omega) (by omega) hz)) (λhz=>h2 (.sign c l hnd hnl (by omega) (by omega) hz))
theorem ais(hs:s.length≤16384)(hM:Mem H S)(hJ:yt S0 S v acc)(hp:p=s.length)(hal:acc.length≤100000)(hP:RM K S0 acc (.inl [⟨0,[],0,p⟩])):dZ bq K (q+1) (ah s) v (p:Int) H:=by
 show wL bq K (wK bq K (dZ bq K q)) (zL bq K (dZ bq K q)) (zM bq K (dZ bq K q)) (FZ bq K) (zN bq K (dZ bq K q)) (ah s) v (p:Int) H;unfold wL;simp only[iP,aQ,cE];rw[decide_eq_false (by omega),aG];show FY bq K (ah s) v H;unfold FY;simp only[iP,aQ];subst hp;refine Db (l':=Tok.cs ⟨0,[],0,s.length⟩) hM hJ.fr (by omega) rfl (by omega) (λa ha=>?_) λH' S' v' h' he=>?_
 ·simp only[Tok.cs,List.mem_cons,List.not_mem_nil,or_false]at ha;rcases ha with rfl|rfl|rfl|rfl<;>rfl
 ·obtain⟨e1,e2⟩:=he.ext hJ.x hJ.own;have ecs:tcs (acc++[⟨0,[],0,s.length⟩])=tcs acc++Tok.cs ⟨0,[],0,s.length⟩:=by
   rw[Q5];show tcs acc++(Tok.cs _++[])=_;rw[List.append_nil]
  exact hP H' S' v' h' e1 (by rw[ecs,List.length_append];exact he.2.2.1) e2
theorem A6{H:AH}(h:dZ bq K q (ah s) v (p:Int) H):xb K s q v (.ret (.int 0 (p:Int))) H:=by
 unfold xb;rw[ai,aQ];exact h
theorem ait(h8:B8 s)(hs:s.length≤16384){l:List Nat}{p:Nat}{r:List Tok ⊕ Nat}(hr:jg l p r) :
  l=s.drop p→p≤s.length→∀(q m:Nat),s.length-p<q→s.length-p<m→∀(acc:List Tok) (v:AV) (H:AH) (S:LS),Mem H S→yt S0 S v acc→acc.length≤p→RM K S0 acc r→
   dY bR (xb K s q v) m (ah s) (p:Int) H:=by
 have fV:G.NL=1000000:=rfl
 induction hr with
 |nil p=>
  intro hl hp q m hq hm acc v H S hM hJ ha hP;obtain⟨m,rfl⟩:∃n,m=n+1:=⟨m-1,by omega⟩
  obtain⟨q,rfl⟩:∃n,q=n+1:=⟨q-1,by omega⟩
  have hps:p=s.length:=by
   have:=congrArg List.length hl;simp at this;omega
  exact ain hs (by omega) (A6 (ais hs hM hJ hps (by omega) hP))
 |blank c l p r hc _ ih=>
  intro hl hp q m hq hm acc v H S hM hJ ha hP;obtain⟨m,rfl⟩:∃n,m=n+1:=⟨m-1,by omega⟩
  obtain⟨g1,g2,g3⟩:=suf hl.symm;exact adA h8 hs hl.symm hc (ih g3.symm (by omega) q m (by omega) (by omega) acc v H S hM hJ (by omega) hP)
 |remark l p r _ ih=>
  intro hl hp q m hq hm acc v H S hM hJ ha hP;obtain⟨m,rfl⟩:∃n,m=n+1:=⟨m-1,by omega⟩
  obtain⟨g1,g2,g3⟩:=suf hl.symm;have hll:=BT (45::45::l);have h1:1≤j9 (45::45::l):=by unfold j9;simp
  have hsl:(45::45::l).length=s.length-p:=by rw[hl];simp
  refine Ue h8 hs hl.symm ?_;exact ih (by rw[hl,List.drop_drop]) (by omega) q m (by omega) (by omega) acc v H S hM hJ (by omega) hP
 |wrong c l p h1 h2 hn=>
  intro hl hp q m hq hm acc v H S hM hJ ha hP;obtain⟨m,rfl⟩:∃n,m=n+1:=⟨m-1,by omega⟩
  obtain⟨q,rfl⟩:∃n,q=n+1:=⟨q-1,by omega⟩
  obtain⟨g1,g2,g3⟩:=suf hl.symm;refine Cf h8 hs hl.symm h1 h2 (A6 ?_);refine zY h8 hs hM hl.symm hJ (by omega) (λk t n j ht=>?_) (λ_=>hP);exact absurd hn (IM ht)
 |tok c l p k t n j ts h1 h2 ht _ ih=>
  intro hl hp q m hq hm acc v H S hM hJ ha hP;obtain⟨m,rfl⟩:∃n,m=n+1:=⟨m-1,by omega⟩
  obtain⟨q,rfl⟩:∃n,q=n+1:=⟨q-1,by omega⟩
  obtain⟨g1,g2,g3⟩:=suf hl.symm;have hj:=ht.len;have hsl:(c::l).length=s.length-p:=by rw[hl];simp
  refine Cf h8 hs hl.symm h1 h2 (A6 ?_);refine zY h8 hs hM hl.symm hJ (by omega) (λk' t' n' j' ht' H2 S2 v2 m2 i2=>?_) (λhn=>absurd hn (IM ht));obtain⟨rfl,rfl,rfl,rfl⟩:=RO ht ht';exact ih (by rw[hl,List.drop_drop]) (by omega) q G.NL (by omega) (by omega) _ v2 H2 S2 m2 i2 (by simp;omega) hP.tok
 |bad c l p k t n j e h1 h2 ht _ ih=>
  intro hl hp q m hq hm acc v H S hM hJ ha hP;obtain⟨m,rfl⟩:∃n,m=n+1:=⟨m-1,by omega⟩
  obtain⟨q,rfl⟩:∃n,q=n+1:=⟨q-1,by omega⟩
  obtain⟨g1,g2,g3⟩:=suf hl.symm;have hj:=ht.len;have hsl:(c::l).length=s.length-p:=by rw[hl];simp
  refine Cf h8 hs hl.symm h1 h2 (A6 ?_);refine zY h8 hs hM hl.symm hJ (by omega) (λk' t' n' j' ht' H2 S2 v2 m2 i2=>?_) (λhn=>absurd hn (IM ht));obtain⟨rfl,rfl,rfl,rfl⟩:=RO ht ht';exact ih (by rw[hl,List.drop_drop]) (by omega) q G.NL (by omega) (by omega) _ v2 H2 S2 m2 i2 (by simp;omega) hP
theorem amJ(h8:B8 s)(hs:s.length≤16384)(hM:Mem H S){r:List Tok ⊕ Nat}(hr:jg s 0 r)(hP:RM K S [] r):f16 (ah s) H K:=by
 show Ga bq K (dZ bq K G.NL) (ah s) H;unfold Ga;simp only[iP,aQ,cE];have e:Int.ofNat 16384=16384:=rfl;rw[e,decide_eq_false (by omega),aG,alL];show wB bR (xb K s G.NL .ab) (dY bR (xb K s G.NL .ab) G.NL) (ah s) ((0:Nat):Int) H;unfold wB;have fV:G.NL=1000000:=rfl;exact ait h8 hs hr rfl (Nat.zero_le _) G.NL G.NL (by omega) (by omega) [] .ab H S hM ⟨Ext.refl S,dT.nil _ _,λ_ h=>h.elim⟩ (Nat.le_refl _) hP
end
end
end Go.Proofs.YtcedghechlgecaaDoor.Lx
namespace Go.Proofs.YtcedghechlgecaaDoor
open Go Go.X Go.Proofs.YtcedghechlgecaaDoor.G
section
variable {H:AH}{S:LS}{K:KF}
noncomputable def R9:qi:=(f16,f17,f18)
noncomputable def g7:AV→AH→KF→Prop:=TM R9
theorem an9{s:List Nat}{r:List Tok ⊕ Nat}(h8:B8 s)(hs:s.length≤5000)(hr:jg s 0 r)(hM:Mem H S)(hP:ScP K S (vw r)):g7 (ah s) H K:=
 anR (R:=R9) (F:=f16) rfl rfl rfl h8 hs hr hM (λq=>Lx.amJ h8 (by omega) hM hr (by cases r<;>exact q)) hP
end
end Go.Proofs.YtcedghechlgecaaDoor
