/- The lexer of the document; Script. No condition: lemmas. -/
import Derived.Test.YtcedghechlgecaaDoorQa
set_option maxRecDepth 100000
set_option maxHeartbeats 0
set_option linter.unusedVariables false
set_option linter.unusedSimpArgs false
namespace Go.X
end Go.X
namespace Go.Proofs.YtcedghechlgecaaDoor.Lx
open Go Go.X Go.Proofs.YtcedghechlgecaaDoor Go.Proofs.YtcedghechlgecaaDoor.G
def lF:List AV:=[(.str 3 6581857),(.str 5 461195539042),(.str 2 28516),(.str 4 1702063205),(.str 6 112602859662437),(.str 3 6581861),(.str 5 435728179558),(.str 3 7499622),(.str 8 7957695015192261990),(.str 2 26217),(.str 2 28265),(.str 5 465490374508),(.str 3 7104878),(.str 3 7630702),(.str 2 29295),(.str 6 127961662514546),(.str 6 121437875889522),(.str 4 1852139636),(.str 4 1702195828),(.str 5 465625706101),(.str 5 435610544247)]
end Go.Proofs.YtcedghechlgecaaDoor.Lx
namespace Go.X
end Go.X
namespace Go.Proofs.YtcedghechlgecaaDoor.Lx
open Go Go.X Go.Proofs.YtcedghechlgecaaDoor Go.Proofs.YtcedghechlgecaaDoor.G
section
variable {H:AH}{S:LS}{K:KF}
theorem rM:∀a∈lF,∃n x,a=.str n x:=by
 intro a ha;simp only[lF,List.mem_cons,List.not_mem_nil,or_false]at ha;rcases ha with rfl|rfl|rfl|rfl|rfl|rfl|rfl|rfl|rfl|rfl|rfl|rfl|rfl|rfl|rfl|rfl|rfl|rfl|rfl|rfl|rfl<;>exact⟨_,_,rfl⟩
end
section
variable {H:AH}{S:LS}{K:KF}
theorem apr{c:Nat}{k:Bool→Prop}(h:∀b,(b=true↔DP c)→k b):bI (!(cg (c:Int) (.ofNat 48))) (k (!(cg (.ofNat 57) (c:Int)))) (k false):=by
 have e1:Int.ofNat 48=48:=rfl;have e2:Int.ofNat 57=57:=rfl;rw[cK,cK,e1,e2];by_cases g:(c:Int)<48
 ·rw[decide_eq_true g];simp only[Bool.not_true,aH];exact h _ ⟨λx=>(by cases x),λx=>by unfold DP at x;omega⟩
 ·rw[decide_eq_false g];simp only[Bool.not_false,aG];refine h _ ?_;unfold DP;simp only[Bool.not_eq_true',decide_eq_false_iff_not];omega
theorem HB{c:Nat}(h:∀b,(b=true↔DP c)→K (.ret (.bool b)) H):f33 (c:Int) H K:=by
 show C0 Kq K (c:Int) H;unfold C0;exact apr (k:=λb=>K (.ret (.bool b)) H) h
theorem aps{c:Nat}{x y:Prop}(h1:97≤c∧c≤122∨65≤c∧c≤90→x)(h2:¬(97≤c∧c≤122∨65≤c∧c≤90)→y) :
  bI (!(cg (c:Int) (.ofNat 97))) (bI (!(cg (.ofNat 122) (c:Int))) x (bI (!(cg (c:Int) (.ofNat 65))) (bI (!(cg (.ofNat 90) (c:Int))) x y) y)) (bI (!(cg (c:Int) (.ofNat 65))) (bI (!(cg (.ofNat 90) (c:Int))) x y) y):=by
 have e1:Int.ofNat 97=97:=rfl;have e2:Int.ofNat 122=122:=rfl;have e3:Int.ofNat 65=65:=rfl;have e4:Int.ofNat 90=90:=rfl;simp only[cK];rw[e1,e2,e3,e4];have low:(97≤c→122<c)→bI (!(decide ((c:Int)<65))) (bI (!(decide (90<(c:Int)))) x y) y:=λhl=>by
  by_cases g3:(c:Int)<65
  ·rw[decide_eq_true g3];exact h2 (by omega)
  ·rw[decide_eq_false g3];simp only[Bool.not_false,aG];by_cases g4:90<(c:Int)
   ·rw[decide_eq_true g4];exact h2 (by omega)
   ·rw[decide_eq_false g4];exact h1 (by omega)
 by_cases g1:(c:Int)<97
 ·rw[decide_eq_true g1];exact low (by omega)
 ·rw[decide_eq_false g1];simp only[Bool.not_false,aG];by_cases g2:122<(c:Int)
  ·rw[decide_eq_true g2];exact low (by omega)
  ·rw[decide_eq_false g2];exact h1 (by omega)
theorem afZ{c:Nat}(h:∀b,(b=true↔LP c)→K (.ret (.bool b)) H):f31 (c:Int) H K:=by
 show CZ Kp K (c:Int) H;unfold CZ;refine aps (λg=>h _ ⟨λ_=>by unfold LP;omega,λ_=>rfl⟩) λg=>h _ ?_;have e:Int.ofNat 95=95:=rfl;rw[bu,e];unfold LP;simp only[decide_eq_true_eq];omega
def eqS(a b:AV):Bool:=match a,b with|.str n x,.str m y=>Nat.beq n m&&Nat.beq x y|_,_=>false
theorem aek(a b:AV):eqS a b=eqS b a:=by
 cases a<;>cases b<;>try rfl
 rename_i n x m y;show(Nat.beq n m&&Nat.beq x y)=(Nat.beq m n&&Nat.beq y x);have c:∀a b:Nat,Nat.beq a b=Nat.beq b a:=λa b=>by
  rw[Bool.eq_iff_iff,Nat.beq_eq,Nat.beq_eq];exact eq_comm
 rw[c n m,c x y]
def sU(l:List AV)(s:AV):Bool:=l.any (eqS s)
theorem anJ{n x:Nat}{a:AV}(h:∃m y,a=.str m y){k:AV→Prop}(hk:k (.bool (eqS (.str n x) a))):ux a (.str n x) k:=by
 obtain⟨m,y,rfl⟩:=h;rw[aek]at hk;exact hk
theorem acB{l:List AV}{i:Nat}{a s:AV}(h:l[i]? = some a):sU (l.drop i) s=(eqS s a||sU (l.drop (i+1)) s):=by
 have hi:=(List.getElem?_eq_some_iff.1 h).1;rw[List.drop_eq_getElem_cons hi];have:l[i]=a:=(List.getElem?_eq_some_iff.1 h).2;rw[this];rfl
section
variable {Q:Nat→Prop}{v:AV}{l:List AV}{n x:Nat}
theorem MA(hM:Mem H S)(hr:j9 S Q v l)(hl:l.length≤1000)(hs:∀a∈l,∃m y,a=.str m y)(h1:K (.ret (.bool (sU l (.str n x)))) H) :
  ∀(q i:Nat),i≤l.length→l.length-i<q→sU (l.drop i) (.str n x)=sU l (.str n x)→pc kG K q v (.str n x) i H
 |0,_,_,h,_=>by omega
 |q+1,i,hi,hn,hd=>by
  show vg kG K (pc kG K q) (xZ kG K) v (.str n x) i H;unfold vg;refine hr.len ?_;simp only[aO,cK];refine cx (λg=>?_) (λg=>?_)
  ·obtain⟨a,ha⟩:∃a,l[i]? = some a:=⟨l[i],List.getElem?_eq_getElem (by omega)⟩
   refine hr.load hM ha (anJ (hs a (List.mem_of_getElem? ha)) ?_);simp only[aM];rw[acB ha]at hd;cases e:eqS (.str n x) a with
   |true=>
    rw[e,Bool.true_or]at hd;simp only[aG];rw[←hd]at h1;exact h1
   |false=>
    rw[e,Bool.false_or]at hd;simp only[aH,dS,fz];refine w0 (by omega) (by omega) ?_;exact MA hM hr hl hs h1 q (i+1) (by omega) (by omega) hd
  ·have e:l.drop i=[]:=List.drop_of_length_le (by omega);rw[e]at hd;have hd':sU l (.str n x)=false:=hd.symm;rw[hd']at h1;exact h1
theorem af0(hM:Mem H S)(hr:j9 S Q v l)(hl:l.length≤1000)(hs:∀a∈l,∃m y,a=.str m y)(h1:K (.ret (.bool (sU l (.str n x)))) H):f25 v (.str n x) H K:=by
 show vh kG K (pc kG K G.NL) v (.str n x) H;unfold vh;exact MA hM hr hl hs h1 G.NL 0 (by omega) (by have:G.NL=1000000:=rfl;omega) rfl
end
theorem apt{n x:Nat}(hM:Mem H S)(hK:∀H' S',Mem H' S'→Ext S S'→K (.ret (.bool (sU lF (.str n x)))) H'):f32 (.str n x) H K:=by
 have r13:Da=f25:=rfl;show C9 Da K (.str n x) H;unfold C9;rw[r13];refine dJ hM rfl (λa ha=>by obtain⟨m,y,rfl⟩:=rM a ha;rfl) λH1 h1=>?_;refine af0 (l:=lF) (v:=.slice S.n 0 21 21 1 true) h1 (Q:=λ_=>True) (.inr ⟨S.n,0,21,true,lF,0,rfl,Nat.le_refl _,trivial,LS.aq _ _,by decide,rfl⟩) (by decide) rM ?_;simp only[al,aM];exact hK H1 _ h1 (Ext.push _ _)
end
end Go.Proofs.YtcedghechlgecaaDoor.Lx
namespace Go.X
theorem ahT{l m:List Nat}(h1:l.take 2=m)(h2:m∈kQ):ki l=2:=by
 match l with
 |[]=>subst h1;simp[kQ]at h2
 |[a]=>subst h1;simp[kQ]at h2
 |a::b::r=>
  have e:[a,b]∈kQ:=by
   have:(a::b::r).take 2=[a,b]:=rfl;rw[this]at h1;rw[h1];exact h2
  simp only[ki];rw[if_pos e]
theorem ahU{a:Nat}{l:List Nat}(h:∀m∈kQ,(a::l).take 2≠m):ki (a::l)=if a∈ones then 1 else 0:=by
 cases l with
 |nil=>rfl
 |cons b r=>
  have e:[a,b]∉kQ:=λg=>h _ g rfl;simp only[ki];rw[if_neg e]
theorem ael:∀m∈kQ,m.length=2:=by decide
end Go.X
namespace Go.Proofs.YtcedghechlgecaaDoor.Lx
open Go Go.X Go.Proofs.YtcedghechlgecaaDoor Go.Proofs.YtcedghechlgecaaDoor.G
section
variable {H:AH}{S:LS}{K:KF}
theorem Rr:([.str 2 11822,.str 2 15677,.str 2 15742,.str 2 15676,.str 2 15678,.str 2 12079]:List AV)=kQ.map ai:=by rfl
theorem acC{a b:Nat}{r:List Nat}(h:(¬∃v,mO a=some v)∨(¬∃v,mO b=some v)):esc (120::a::b::r)=none:=by
 simp only[esc];rw[if_neg (by omega),if_neg (by omega),if_neg (by omega),if_pos trivial];split
 ·rename_i x y hx hy;rcases h with g|g
  ·exact absurd ⟨_,hx⟩ g
  ·exact absurd ⟨_,hy⟩ g
 ·rfl
end
end Go.Proofs.YtcedghechlgecaaDoor.Lx
namespace Go.X
section
variable {H:AH}{S:LS}
theorem fj.frv{v:AV}{n:Nat}{l:List AV}(h:fj S 1 v n l):fa S v l:=by
 rcases h with⟨rfl,_,rfl⟩|⟨b,c,ex,cs,rfl,h2,h3,h4,h5,h6,h7⟩
 ·exact .inl ⟨rfl,rfl⟩
 ·have e:n=l.length:=by omega
  subst e;exact .inr ⟨b,c,ex,cs,rfl,h2,by omega,h4,h6,h7⟩
theorem OJ(l m:List Nat):zH (l++m)=zH l++zH m:=by simp[zH]
structure xj(S0 S:LS)(v:AV)(acc:List Nat):Prop where
 x:Ext S0 S
 fr:fj S 1 v acc.length (zH acc)
 own:∀b,aj v b→S0.n≤b
 b8:B8 acc
theorem xj.push{S0:LS}{v:AV}{acc:List Nat}(h:xj S0 S v acc)(hM:Mem H S){c:Nat}(hc:c<256)(hl:acc.length≤1000000){k:AV→AH→Prop}(hK:∀H' S' v',Mem H' S'→xj S0 S' v' (acc++[c])→k v' H') :
  aR (aB H) 1 1 [.int 1 (c:Int)] λx H'=>cQ 1 1 v x H' k:=by
 refine Ba hM h.fr (by omega) rfl (by omega) (λa ha=>by simp at ha;subst ha;rfl) λH' S' v' h' he=>hK H' S' v' h' ?_;obtain⟨e1,e2⟩:=he.ext h.x h.own;refine⟨e1,?_,e2,h.b8.app (B8.cons hc B8.nil)⟩;rw[OJ,List.length_append];exact he.2.2.1
end
end Go.X
namespace Go.Proofs.YtcedghechlgecaaDoor.Lx
open Go Go.X Go.Proofs.YtcedghechlgecaaDoor Go.Proofs.YtcedghechlgecaaDoor.G
section
variable {H:AH}{S:LS}{K:KF}
end
section
variable {H:AH}{S:LS}{K:KF}
structure oH(S0 S:LS)(v:AV)(acc:List Tok)(bt:Nat)(tc:List AV):Prop where
 x:Ext S0 S
 fr:fj S 4 v acc.length (tcs acc)
 own:∀b,aj v b→S0.n≤b
 tb:S.ob bt=.ce tc 0
 tl:tc.length=4
 tn:S0.n≤bt
 ne:¬aj v bt
def OK(K:KF)(S0:LS)(acc:List Tok)(r:List Tok ⊕ Nat):Prop:=match r with
 |.inl ts=>∀H' S' v',Mem H' S'→Ext S0 S'→fj S' 4 v' (acc++ts).length (tcs (acc++ts))→(∀b,aj v' b→S0.n≤b)→K (.ret (.aL [v',.int 0 0,.int 0 0])) H'
 |.inr e=>∀H' S',Mem H' S'→Ext S0 S'→K (.ret (.aL [.ab,.int 0 14,.int 0 (e:Int)])) H'
section
variable {S0:LS}{v:AV}{acc:List Tok}{bt:Nat}{tc:List AV}
theorem oH.ext{S':LS}(h:oH S0 S v acc bt tc)(hM:Mem H S)(hx:Ext S S'):oH S0 S' v acc bt tc:=
 ⟨h.x.trans hx,h.fr.keep hM λb _ hb=>hx.ob b hb,h.own,hx.get hM h.tb,h.tl,h.tn,h.ne⟩
theorem oH.store(h:oH S0 S v acc bt tc)(hM:Mem H S){o:Nat}{a:AV}{k:AH→Prop}(ho:o<4)(ha:a.one=true)(hk:∀H' S',Mem H' S'→oH S0 S' v acc bt (tc.set o a)→k H'):af o (.ptr bt 0) λp=>ah 1 p a H k:=by
 rw[aQ,Nat.zero_add];refine bH hM h.tb (by omega) (by rw[h.tl];exact ho) ha λH' h'=>?_;refine hk H' _ h' ⟨h.x.set h.tn _,h.fr.keep hM λb hb _=>LS.an _ _ λe=>?_,h.own,LS.av _ _ _,by rw[List.length_set];exact h.tl,h.tn,h.ne⟩;subst e;exact h.ne hb
theorem oH.load(h:oH S0 S v acc bt tc)(hM:Mem H S){o:Nat}{a:AV}{k:AV→Prop}(ho:tc[o]? = some a)(hk:k a):af o (.ptr bt 0) λp=>ad p H k:=by
 rw[aQ,Nat.zero_add];exact aD hM h.tb ho hk
theorem oH.push(h:oH S0 S v acc bt tc)(hM:Mem H S){t:Tok}(e:tc=t.cs)(hl:acc.length≤100000){k:AV→AH→Prop}(hk:∀H' S' v',Mem H' S'→oH S0 S' v' (acc++[t]) bt tc→k v' H') :
  aN 4 (.ptr bt 0) H λv1=>onVal v1 λl2=>gK l2 4 (aR (aB H) 1 4 (spl l2 [.int 0 (.ofNat 0),.str 0 0,.int 0 (.ofNat 0),.int 0 (.ofNat 0)] 0) λv3 H4=>cQ 4 40 v v3 H4 k):=by
 refine wD hM h.tb (by rw[h.tl];omega) ?_;rw[List.drop_zero,List.take_of_length_le (by rw[h.tl];omega),e];show aR (aB H) 1 4 t.cs λv3 H4=>cQ 4 40 v v3 H4 k;refine Ba hM h.fr (by omega) rfl (by omega) (λa ha=>?_) λH' S' v' h' he=>?_
 ·simp only[Tok.cs,List.mem_cons,List.not_mem_nil,or_false]at ha;rcases ha with rfl|rfl|rfl|rfl<;>rfl
 ·obtain⟨e1,e2⟩:=he.ext h.x h.own;obtain⟨a1,a2,a3,a4⟩:=he;have hlt:bt<S.n:=hM.lt (by rw[h.tb];simp);have ecs:tcs (acc++[t])=tcs acc++t.cs:=by
   rw[Og];show tcs acc++(t.cs++[])=_;rw[List.append_nil]
  refine hk H' S' v' h' ⟨e1,by rw[ecs,List.length_append];exact a3,e2,by rw[a2 bt hlt h.ne];exact h.tb,h.tl,h.tn,λg=>?_⟩;rcases a4 bt g with g|g
  ·exact h.ne g
  ·omega
variable {s:List Nat}{p:Nat}{i1:AV→AV→AV→Int→AH→Prop}
theorem suf{s:List Nat}{p c:Nat}{l:List Nat}(h:s.drop p=c::l):s[p]? = some c∧p<s.length∧s.drop (p+1)=l:=by
 have hlt:p<s.length:=by
  rcases Nat.lt_or_ge p s.length with g|g
  ·exact g
  ·rw[List.drop_of_length_le g]at h;cases h
 rw[List.drop_eq_getElem_cons hlt]at h;injection h with h1 h2;exact⟨by rw[List.getElem?_eq_getElem hlt,h1],hlt,h2⟩
theorem take2{c:Nat}{l:List Nat}:(c::l).take ([45,45]:List Nat).length=[45,45]↔c=45∧l.head? = some 45:=by
 show(c::l).take 2=[45,45]↔_;cases l with
 |nil=>simp
 |cons d l=>simp
end
end
end Go.Proofs.YtcedghechlgecaaDoor.Lx
namespace Go.X
theorem yy{f:AV→Bool}{t:List Nat}(hf:∀m,B8 m→f (ai m)=decide (t=m)):∀(ws:List (List Nat)),(∀m∈ws,B8 m)→(ws.map ai).any f=decide (t∈ws)
 |[],h=>rfl
 |m::ws,h=>by
  rw[List.map_cons,List.any_cons,yy hf ws (λx hx=>h x (by simp[hx])),hf m (h m (by simp)),Bool.eq_iff_iff];simp
theorem ahV{m:Nat}{l t:List Nat}{j:Nat}(h:oU m l t j):¬pW m l:=by
 induction h with
 |stop l=>
  intro g;cases g with
  |line _ h=>exact h rfl
  |one _ _ h=>exact h rfl
  |bad _ h=>exact h rfl
  |esc _ _ _ h=>exact h rfl
 |one c l t j h1 h2 h3 _ ih=>
  intro g;cases g with
  |line _ h=>exact h2 rfl
  |one _ _ _ _ _ g=>exact ih g
  |bad _ h=>exact h3 rfl
  |esc _ _ _ h=>exact h3 rfl
 |esc l t v k j h1 he _ ih=>
  intro g;cases g with
  |one _ _ _ _ h _=>exact h rfl
  |bad _ _ h=>rw[he]at h;cases h
  |esc _ v' k' _ h g=>
   rw[he]at h;cases h;exact ih g
theorem OL{m:Nat}{l t:List Nat}{j:Nat}(h:oU m l t j):∀{t' j'},oU m l t' j'→t'=t∧j'=j:=by
 induction h with
 |stop l=>
  intro t' j' g;cases g with
  |stop=>exact⟨rfl,rfl⟩
  |one _ _ _ _ h=>exact absurd rfl h
  |esc _ _ _ _ _ h=>exact absurd rfl h
 |one c l t j h1 h2 h3 _ ih=>
  intro t' j' g;cases g with
  |stop=>exact absurd rfl h1
  |one _ _ _ _ _ _ _ g=>
   obtain⟨rfl,rfl⟩:=ih g;exact⟨rfl,rfl⟩
  |esc _ _ _ _ _ h=>exact absurd rfl h3
 |esc l t v k j h1 he _ ih=>
  intro t' j' g;cases g with
  |stop=>exact absurd rfl h1
  |one _ _ _ _ _ _ h=>exact absurd rfl h
  |esc _ _ v' k' _ _ h g=>
   rw[he]at h;cases h;obtain⟨rfl,rfl⟩:=ih g;exact⟨rfl,rfl⟩
theorem FM{l:List Nat}{k:Nat}{t:List Nat}{n j:Nat}(h:kR l k t n j):¬xN l:=by
 intro g;cases h with
 |num c l v h1 h2=>
  cases g with
  |num _ _ _ h=>rw[h2]at h;cases h
  |long _ _ h=>unfold LP at h;unfold DP at h1;omega
  |quo _ _ h=>unfold DP at h1;omega
  |great _ _ _ _ h=>unfold DP at h1;omega
  |sign _ _ h=>exact h h1
 |word c l h1 h2 h3=>
  cases g with
  |num _ _ h=>unfold LP at h1;unfold DP at h;omega
  |long _ _ _ h=>omega
  |quo _ _ h=>unfold LP at h1;omega
  |great _ _ _ _ h=>unfold LP at h1;omega
  |sign _ _ _ h=>exact h h1
 |name c l h1 h2 h3=>
  cases g with
  |num _ _ h=>unfold LP at h1;unfold DP at h;omega
  |long _ _ _ h=>omega
  |quo _ _ h=>unfold LP at h1;omega
  |great _ _ _ _ h=>unfold LP at h1;omega
  |sign _ _ _ h=>exact h h1
 |quo c l t j h1 h2 h3=>
  cases g with
  |num _ _ h=>unfold DP at h;omega
  |long _ _ h=>unfold LP at h;omega
  |quo _ _ _ h=>exact ahV h2 h
  |great _ _ t' j' _ h h4=>
   obtain⟨rfl,rfl⟩:=OL h2 h;omega
  |sign _ _ _ _ h h'=>omega
 |sign c l h1 h2 h3 h4 h5=>
  cases g with
  |num _ _ h=>exact h1 h
  |long _ _ h=>exact h2 h
  |quo _ _ h=>omega
  |great _ _ _ _ h=>omega
  |sign _ _ _ _ _ _ h=>exact h5 h
theorem OM{l:List Nat}{k k':Nat}{t t':List Nat}{n n' j j':Nat}(h:kR l k t n j)(g:kR l k' t' n' j'):k'=k∧t'=t∧n'=n∧j'=j:=by
 cases h with
 |num c l v h1 h2=>
  cases g with
  |num _ _ _ _ h=>rw[h2]at h;cases h;exact⟨rfl,rfl,rfl,rfl⟩
  |word _ _ h=>unfold LP at h;unfold DP at h1;omega
  |name _ _ h=>unfold LP at h;unfold DP at h1;omega
  |quo _ _ _ _ h=>unfold DP at h1;omega
  |sign _ _ h=>exact absurd h1 h
 |word c l h1 h2 h3=>
  cases g with
  |num _ _ _ h=>unfold LP at h1;unfold DP at h;omega
  |word=>exact⟨rfl,rfl,rfl,rfl⟩
  |name _ _ _ _ h=>exact absurd h3 h
  |quo _ _ _ _ h=>unfold LP at h1;omega
  |sign _ _ _ h=>exact absurd h1 h
 |name c l h1 h2 h3=>
  cases g with
  |num _ _ _ h=>unfold LP at h1;unfold DP at h;omega
  |word _ _ _ _ h=>exact absurd h h3
  |name=>exact⟨rfl,rfl,rfl,rfl⟩
  |quo _ _ _ _ h=>unfold LP at h1;omega
  |sign _ _ _ h=>exact absurd h1 h
 |quo c l t j h1 h2 h3=>
  cases g with
  |num _ _ _ h=>unfold DP at h;omega
  |word _ _ h=>unfold LP at h;omega
  |name _ _ h=>unfold LP at h;omega
  |quo _ _ _ _ _ h=>
   obtain⟨rfl,rfl⟩:=OL h2 h;exact⟨rfl,rfl,rfl,rfl⟩
  |sign _ _ _ _ h h'=>omega
 |sign c l h1 h2 h3 h4 h5=>
  cases g with
  |num _ _ _ h=>exact absurd h h1
  |word _ _ h=>exact absurd h h2
  |name _ _ h=>exact absurd h h2
  |quo _ _ _ _ h=>omega
  |sign=>exact⟨rfl,rfl,rfl,rfl⟩
theorem aem:∀m∈jV,B8 m:=λm hm=>aX ((by decide:∀m∈jV,(m.all λc=>Nat.blt c 256)=true) m hm)
end Go.X
namespace Go.Proofs.YtcedghechlgecaaDoor.Lx
open Go Go.X Go.Proofs.YtcedghechlgecaaDoor Go.Proofs.YtcedghechlgecaaDoor.G
section
variable {H:AH}{S:LS}{K:KF}
theorem nc:lF=jV.map ai:=by rfl
theorem anK{t:List Nat}(h:B8 t):sU lF (ai t)=decide (t∈jV):=by
 rw[nc];exact yy (λm hm=>Qg h hm) jV aem
section
variable {S0:LS}{H0:AH}{v:AV}{acc:List Tok}{bt:Nat}{tc:List AV}{s:List Nat}{p:Nat}{i1:AV→AV→AV→Int→AH→Prop}
def badL(K:KF)(S0:LS)(p:Nat):Prop:=∀H' S',Mem H' S'→Ext S0 S'→K (.ret (.aL [.ab,.int 0 14,.int 0 (p:Int)])) H'
theorem OK.tok{k:Nat}{t:List Nat}{n:Nat}{ts:List Tok}(h:OK K S0 acc (.inl (⟨k,t,n,p⟩::ts))):OK K S0 (acc++[⟨k,t,n,p⟩]) (.inl ts):=
 λH' S' v' m x f o=>h H' S' v' m x (by rw[List.append_assoc]at f;exact f) o
end
end
section
variable {H:AH}{S:LS}{K:KF}
theorem aqJ:mS.1=f31:=rfl
theorem aqK:mS.2=f33:=rfl
section
variable {s:List Nat}{p:Nat}
theorem acD{c:Nat}{l:List Nat}:(c::l).take 2=[45,45]↔c=45∧l.head? = some 45:=take2
theorem acE(h8:B8 s)(hs:s.length≤16384){c:Nat}{l:List Nat}(hd:s.drop p=c::l)(hc:si c){q:Nat}(hk:eG bV K q (ai s) ((p+1:Nat):Int) H):eG bV K (q+1) (ai s) (p:Int) H:=by
 obtain⟨h1,h2,h3⟩:=suf hd;show qB bV K (eG bV K q) (vd bV K (eG bV K q)) (va bV K) (ai s) (p:Int) H;unfold qB;have e32:Int.ofNat 32=32:=rfl;have e9:Int.ofNat 9=9:=rfl;have e10:Int.ofNat 10=10:=rfl;have e13:Int.ofNat 13=13:=rfl;have one:∀{k:Int→Prop},k ((p+1:Nat):Int)→ax 0 (Int.add (p:Int) (.ofNat 1)) k:=λ{k} h=>by
  simp only[dS,fz];exact w0 (by omega) (by omega) h
 simp only[jc,aO,cK];rw[decide_eq_true (by omega),aG,e32,e9,e10,e13];refine fX h8 h1 ?_;simp only[aO,bu];refine cx (λ_=>one hk) (λg1=>?_);refine fX h8 h1 ?_;simp only[aO,bu];refine cx (λ_=>one hk) (λg2=>?_);refine fX h8 h1 ?_;simp only[aO,bu];refine cx (λ_=>one hk) (λg3=>?_);refine fX h8 h1 ?_;simp only[aO,bu];refine cx (λ_=>one hk) (λg4=>?_);exfalso;unfold si at hc;omega
theorem acF(h8:B8 s)(hs:s.length≤16384){c:Nat}{l:List Nat}(hd:s.drop p=c::l)(hc:¬si c){q:Nat}(hk:vd bV K (eG bV K q) (ai s) (p:Int) H):eG bV K (q+1) (ai s) (p:Int) H:=by
 obtain⟨h1,h2,h3⟩:=suf hd;show qB bV K (eG bV K q) (vd bV K (eG bV K q)) (va bV K) (ai s) (p:Int) H;unfold qB;have e32:Int.ofNat 32=32:=rfl;have e9:Int.ofNat 9=9:=rfl;have e10:Int.ofNat 10=10:=rfl;have e13:Int.ofNat 13=13:=rfl;unfold si at hc;simp only[jc,aO,cK];rw[decide_eq_true (by omega),aG,e32,e9,e10,e13];refine fX h8 h1 ?_;simp only[aO,bu];rw[decide_eq_false (by omega),aH];refine fX h8 h1 ?_;simp only[aO,bu];rw[decide_eq_false (by omega),aH];refine fX h8 h1 ?_;simp only[aO,bu];rw[decide_eq_false (by omega),aH];refine fX h8 h1 ?_;simp only[aO,bu];rw[decide_eq_false (by omega),aH];exact hk
theorem ahW(hs:s.length≤16384)(hp:s.length≤p){q:Nat}(hk:K (.ret (.int 0 (p:Int))) H):eG bV K (q+1) (ai s) (p:Int) H:=by
 show qB bV K (eG bV K q) (vd bV K (eG bV K q)) (va bV K) (ai s) (p:Int) H;unfold qB;simp only[jc,aO,cK];rw[decide_eq_false (by omega),aH];show ss bV K (p:Int) H;unfold ss;exact hk
theorem Ar(h8:B8 s)(hs:s.length≤16384){c:Nat}{l:List Nat}(hd:s.drop p=c::l)(hc:¬si c)(hr:¬(c=45∧l.head? = some 45)){q:Nat}(hk:K (.ret (.int 0 (p:Int))) H):eG bV K (q+1) (ai s) (p:Int) H:=by
 obtain⟨h1,h2,h3⟩:=suf hd;refine acF h8 hs hd hc ?_;show vc bV K (Ko bV K (eG bV K q)) (ss bV K) (ai s) (p:Int) H;unfold vc ss;have e2:Int.ofNat 2=2:=rfl;simp only[dS,fz,e2];refine w0 (by omega) (by omega) ?_;simp only[jc,aO,cK];refine cx (λg=>?_) (λ_=>hk);refine w0 (by omega) (by omega) ?_;refine yO (i:=p) (j:=p+2) h8 (by omega) (by omega) ?_;rw[hd,Nat.add_sub_cancel_left];refine wG (m:=[45,45]) (by rw[←hd];exact(h8.drop p).take _) (aX (by decide)) ?_;rw[aM,decide_eq_false (λg=>hr (acD.1 g)),aH];exact hk
theorem MB(h8:B8 s)(hs:s.length≤16384){e q0:Nat}(hk:eG bV K q0 (ai s) (e:Int) H):∀(q j:Nat),j≤s.length→s.length-j<q→j+mv (s.drop j)=e→u9 bV K (eG bV K q0) q (ai s) (j:Int) H
 |0,_,_,h,_=>by omega
 |q+1,j,hj,hq,he=>by
  show CX bV K (u9 bV K (eG bV K q0) q) (eG bV K q0) (ai s) (j:Int) H;unfold CX;simp only[jc,aO,cK];refine cx (λg=>?_) (λg=>?_)
  ·have hjl:j<s.length:=by omega
   obtain⟨c,hc⟩:∃c,s[j]? = some c:=⟨_,List.getElem?_eq_getElem hjl⟩
   have hd:s.drop j=c::s.drop (j+1):=by
    rw[List.drop_eq_getElem_cons hjl];rw[(List.getElem?_eq_some_iff.1 hc).2]
   refine fX h8 hc ?_;simp only[aO,bu];have e10:Int.ofNat 10=10:=rfl;rw[e10];by_cases g2:(c:Int)=10
   ·rw[decide_eq_true g2];simp only[Bool.not_true,aH];have ec:c=10:=by omega
    subst ec;rw[hd]at he;have:mv (10::s.drop (j+1))=0:=by unfold mv;simp
    rw[this]at he;rw[show j=e by omega];exact hk
   ·rw[decide_eq_false g2];simp only[Bool.not_false,aG,dS,fz];refine w0 (by omega) (by omega) ?_;refine MB h8 hs hk q (j+1) (by omega) (by omega) ?_;rw[hd]at he;have:mv (c::s.drop (j+1))=mv (s.drop (j+1))+1:=by
     conv=>lhs;unfold mv
     rw[if_neg (by omega)]
    omega
  ·rw[List.drop_of_length_le (by omega)]at he;have:j=e:=he;subst this;exact hk
theorem Rs(h8:B8 s)(hs:s.length≤16384){l:List Nat}(hd:s.drop p=45::45::l){q:Nat}(hk:eG bV K q (ai s) ((p+mv (45::45::l):Nat):Int) H):eG bV K (q+1) (ai s) (p:Int) H:=by
 obtain⟨h1,h2,h3⟩:=suf hd;obtain⟨h4,h5,h6⟩:=suf h3;refine acF h8 hs hd (by unfold si;omega) ?_;show vc bV K (CY bV K (u9 bV K (eG bV K q) G.NL)) (ss bV K) (ai s) (p:Int) H;unfold vc;have e2:Int.ofNat 2=2:=rfl;simp only[dS,fz,e2];refine w0 (by omega) (by omega) ?_;simp only[jc,aO,cK];rw[decide_eq_true (by omega),aG];refine w0 (by omega) (by omega) ?_;refine yO (i:=p) (j:=p+2) h8 (by omega) (by omega) ?_;rw[hd,Nat.add_sub_cancel_left];refine wG (m:=[45,45]) (by rw[←hd];exact(h8.drop p).take _) (aX (by decide)) ?_;rw[aM,decide_eq_true (acD.2 ⟨rfl,rfl⟩),aG];unfold CY;exact MB h8 hs hk G.NL p (by omega) (by have:G.NL=1000000:=rfl;omega) (by rw[hd])
theorem apu(h8:B8 s)(hs:s.length≤16384)(hp:p≤s.length)(hk:K (.ret (.int 0 ((p+fI (s.drop p):Nat):Int))) H):f30 (ai s) (p:Int) H K:=by
 have key:∀(q j:Nat),j≤s.length→s.length-j<q→j+fI (s.drop j)=p+fI (s.drop p)→sw mS K q (ai s) (j:Int) H:=by
  intro q
  induction q with
  |zero=>intro j _ h _;omega
  |succ q ih=>
   intro j hj hq he;show C7 mS K (sw mS K q) (C6 mS K) (ai s) (j:Int) H;unfold C7 C6;rw[aqJ,aqK];simp only[jc,aO,cK];refine cx (λg=>?_) (λg=>?_)
   ·have hjl:j<s.length:=by omega
    obtain⟨c,hc⟩:∃c,s[j]? = some c:=⟨_,List.getElem?_eq_getElem hjl⟩
    have hd:s.drop j=c::s.drop (j+1):=by
     rw[List.drop_eq_getElem_cons hjl];rw[(List.getElem?_eq_some_iff.1 hc).2]
    rw[hd]at he;have next:LP c∨DP c→sw mS K q (ai s) ((j+1:Nat):Int) H:=λhl=>ih (j+1) (by omega) (by omega) (by
     have:fI (c::s.drop (j+1))=fI (s.drop (j+1))+1:=by
      conv=>lhs;unfold fI
      rw[if_pos hl]
     omega)
    refine fX h8 hc ?_;simp only[aO,dS,fz];refine afZ λb hb=>?_;simp only[al,aM];refine xI (λeb=>?_) (λeb=>?_)
    ·refine w0 (by omega) (by omega) ?_;exact next (.inl (hb.1 eb))
    ·refine fX h8 hc ?_;simp only[aO];refine HB λb' hb'=>?_;simp only[al,aM];refine xI (λeb'=>?_) (λeb'=>?_)
     ·refine w0 (by omega) (by omega) ?_;exact next (.inr (hb'.1 eb'))
     ·have:fI (c::s.drop (j+1))=0:=by
       unfold fI;rw[if_neg];rintro(g|g)
       ·have:=hb.2 g;rw[this]at eb;cases eb
       ·have:=hb'.2 g;rw[this]at eb';cases eb'
      rw[this,Nat.add_zero]at he;rw[he];exact hk
   ·rw[List.drop_of_length_le (by omega)]at he;have e:j=p+fI (s.drop p):=he;rw[e];exact hk
 show C8 mS K (sw mS K G.NL) (ai s) (p:Int) H;unfold C8;exact key G.NL p hp (by have:G.NL=1000000:=rfl;omega) rfl
theorem HC{c:Nat}(hc:c<256)(hk:∀z:Int,(∀v,mO c=some v→z=v)→(mO c=none→z = -1)→K (.ret (.int 0 z)) H):f55 (c:Int) H K:=by
 have r38:pd=f33:=rfl;show Dg pd K (Df pd K) (yb pd K (ya pd K)) (c:Int) H;unfold Dg;rw[r38];refine HB λb hb=>?_;simp only[al,aM];have e48:Int.ofNat 48=48:=rfl;have e97:Int.ofNat 97=97:=rfl;have aqL:Int.ofNat 102=102:=rfl;have e65:Int.ofNat 65=65:=rfl;have e70:Int.ofNat 70=70:=rfl;have e10:Int.ofNat 10=10:=rfl;refine xI (λeb=>?_) (λeb=>?_)
 ·have hd:=hb.1 eb;have hd':=hd;unfold DP at hd';rw[pU,e48];refine lA (z':=((c-48:Nat):Int)) (by rw[A7];omega) ?_;refine w0 (by omega) (by omega) ?_;refine hk _ (λv hv=>?_) (λhn=>?_)
  ·unfold mO at hv;rw[if_pos hd]at hv;cases hv;rfl
  ·unfold mO at hn;rw[if_pos hd]at hn;cases hn
 ·have hd:¬DP c:=λg=>by have:=hb.2 g;rw[this]at eb;cases eb
  have big:¬(97≤c∧c≤102)→yb pd K (ya pd K) (c:Int) H:=λh1=>by
   unfold yb;have none_:¬(65≤c∧c≤70)→K (.ret (.int 0 (.negSucc 0))) H:=λh2=>hk _ (λv hv=>by
    unfold mO at hv;rw[if_neg hd,if_neg h1,if_neg h2]at hv;cases hv) (λ_=>rfl)
   rw[cK,cK,e65,e70];by_cases g1:(c:Int)<65
   ·rw[decide_eq_true g1];exact none_ (by omega)
   rw[decide_eq_false g1];simp only[Bool.not_false,aG];by_cases g2:(70:Int)<c
   ·rw[decide_eq_true g2];exact none_ (by omega)
   rw[decide_eq_false g2];simp only[Bool.not_false,aG];unfold ya;rw[pU,e65];refine lA (z':=((c-65:Nat):Int)) (by rw[A7];omega) ?_;refine w0 (by omega) (by omega) ?_;rw[dS,e10];refine w0 (by omega) (by omega) ?_;refine hk _ (λv hv=>?_) (λhn=>?_)
   ·unfold mO at hv;rw[if_neg hd,if_neg h1,if_pos (by omega)]at hv;cases hv;omega
   ·unfold mO at hn;rw[if_neg hd,if_neg h1,if_pos (by omega)]at hn;cases hn
  rw[cK,cK,e97,aqL];by_cases g1:(c:Int)<97
  ·rw[decide_eq_true g1];exact big (by omega)
  rw[decide_eq_false g1];simp only[Bool.not_false,aG];by_cases g2:(102:Int)<c
  ·rw[decide_eq_true g2];exact big (by omega)
  rw[decide_eq_false g2];simp only[Bool.not_false,aG];unfold Df;rw[pU,e97];refine lA (z':=((c-97:Nat):Int)) (by rw[A7];omega) ?_;refine w0 (by omega) (by omega) ?_;rw[dS,e10];refine w0 (by omega) (by omega) ?_;refine hk _ (λv hv=>?_) (λhn=>?_)
  ·unfold mO at hv;rw[if_neg hd,if_pos (by omega)]at hv;cases hv;omega
  ·unfold mO at hn;rw[if_neg hd,if_pos (by omega)]at hn;cases hn
theorem apv(h8:B8 s)(hs:s.length≤16384)(h1:∀v,ug s=some v→K (.ret (.aL [.int 0 (v:Int),.bool true])) H)(h2:ug s=none→K (.ret (.aL [.int 0 0,.bool false])) H):f34 (ai s) H K:=by
 have r27:nO=f33:=rfl;have key:∀(q i a:Nat),i≤s.length→s.length-i<q→(∀x∈s.take i,DP x)→uf 0 s=uf a (s.drop i)→a≤9223372036854775809→vi nO K q (ai s) (a:Int) (i:Int) H:=by
  intro q
  induction q with
  |zero=>intro i a _ h _ _ _;omega
  |succ q ih=>
   intro i a hi hq hd hv ha;show Dd nO K (Db nO K (vi nO K q)) (Dc nO K) (ai s) (a:Int) (i:Int) H;unfold Dd;rw[r27];simp only[jc,aO,cK];refine cx (λg=>?_) (λg=>?_)
   ·have hil:i<s.length:=by omega
    obtain⟨c,hc⟩:∃c,s[i]? = some c:=⟨_,List.getElem?_eq_getElem hil⟩
    have hc8:=h8 c (List.mem_of_getElem? hc);have hdr:s.drop i=c::s.drop (i+1):=by
     rw[List.drop_eq_getElem_cons hil];rw[(List.getElem?_eq_some_iff.1 hc).2]
    rw[hdr]at hv;refine fX h8 hc ?_;simp only[aO];refine HB λb hb=>?_;simp only[al,aM];cases b with
    |false=>
     simp only[Bool.not_false,aG];refine h2 ?_;unfold ug;rw[if_neg];rintro⟨g1,_⟩;have:=hb.2 (g1 c (List.mem_of_getElem? hc));cases this
    |true=>
     have hdc:=hb.1 rfl;have aqM:=hdc;unfold DP at aqM;simp only[Bool.not_true,aH];have eb:Int.ofNat 922337203685477580=922337203685477580:=rfl;have e10:Int.ofNat 10=10:=rfl;have e48:Int.ofNat 48=48:=rfl;rw[eb,e10,e48];refine cx (λg1=>h2 ?_) (λg1=>?_)
     ·unfold ug;rw[if_neg];rintro⟨_,g2⟩;have h3:uf a (c::s.drop (i+1))=uf (a*10+(c-48)) (s.drop (i+1)):=rfl;have h4:=Oi (s.drop (i+1)) (a*10+(c-48));omega
     ·rw[aiS];refine w3 ?_;refine fX h8 hc ?_;simp only[aO,pU,dS];refine lA (z':=((c-48:Nat):Int)) (by rw[A7];omega) ?_;refine lA (z':=((c-48:Nat):Int)) (by rw[Qb];omega) ?_;refine lA (z':=((a*10+(c-48):Nat):Int)) (by rw[Qb];omega) ?_;unfold Db;simp only[dS,fz];refine w0 (by omega) (by omega) ?_;refine ih (i+1) (a*10+(c-48)) (by omega) (by omega) (λx hx=>?_) hv (by omega);rw[List.take_add_one,hc]at hx;simp only[List.mem_append,Option.toList]at hx;rcases hx with hx|hx
      ·exact hd x hx
      ·have:x=c:=by simpa using hx
       rw[this];exact hdc
   ·have hall:∀x∈s,DP x:=λx hx=>hd x (by rw[List.take_of_length_le (by omega)];exact hx);rw[List.drop_of_length_le (by omega)]at hv;have hv':uf 0 s=a:=hv;unfold Dc;have em:Int.ofNat 9223372036854775807=9223372036854775807:=rfl;rw[cK,em];refine cx (λg1=>h2 ?_) (λg1=>?_)
    ·unfold ug;rw[if_neg];rintro⟨_,g2⟩;omega
    ·refine w0 (by omega) (by omega) ?_;refine h1 a ?_;unfold ug;rw[if_pos ⟨hall,by omega⟩,hv']
 show De nO K (vi nO K G.NL) (ai s) H;unfold De;exact key G.NL 0 0 (Nat.zero_le _) (by have:G.NL=1000000:=rfl;omega) (λx hx=>by simp at hx) rfl (by omega)
end
end
end Go.Proofs.YtcedghechlgecaaDoor.Lx
namespace Go.X
section
variable {H:AH}{S:LS}
theorem ahX{bytes sz n:Nat}{v:AV}{l l':List AV}{k:AV→AH→Prop}(hM:Mem H S)(hs:fj S sz v n l)(hsz:0<sz)(hl':l'.length=sz)(hl:(n+1)*bytes≤1099511627776)(h1:∀a∈l',a.one=true)
  (hK:∀H' S' v',Mem H' S'→qT S v (n+1) sz (l++l') S' v'→k v' H'):aR (aB H) 1 sz l' λx H'=>bT (Nat.beq H'.n (Nat.succ H.n)) (cQ sz bytes v x H' k):=by
 refine dJ hM (by omega) h1 λH1 m1=>cC (qS (by rw[m1.n,hM.n];rfl)) ?_;have hs1:fj (S.push (.ce l' 0)) sz v n l:=hs.keep hM λb _ hb=>LS.bR _ _ hb;have hlt1:∀b,aj v b→b<S.n:=λb hb=>hs.lt hM hb;refine oB (ex:=true) (cap:=1) (o:=0) (n:=1) (l:=l') (m:=0) (b:=S.n) (k:=λl=>qP sz bytes 1 _ l H1 k) m1 (LS.aq _ _) (by omega) ?_;rw[List.drop_zero,List.take_of_length_le (by omega)];refine xM m1 hs1 hsz (.inl (by omega)) (by omega) hl h1 λH' S' v' h' he=>?_;obtain⟨e1,e2,e3,e4⟩:=he;have e1':S.n+1≤S'.n:=e1;refine hK H' S' v' h' ⟨by omega,λb hb hne=>?_,e3,λb hb=>?_⟩
 ·rw[e2 b (by show b<S.n+1;omega) hne,LS.bR _ _ hb]
 ·rcases e4 b hb with g|g
  ·exact .inl g
  ·have g':S.n+1≤b:=g;exact .inr (by omega)
theorem xj.Ro{S0:LS}{v:AV}{acc:List Nat}(h:xj S0 S v acc)(hM:Mem H S){c:Nat}(hc:c<256)(hl:acc.length≤1000000){k:AV→AH→Prop}(hK:∀H' S' v',Mem H' S'→xj S0 S' v' (acc++[c])→k v' H') :
  aR (aB H) 1 1 [.int 1 (c:Int)] λx H'=>bT (Nat.beq H'.n (Nat.succ H.n)) (cQ 1 1 v x H' k):=by
 refine ahX hM h.fr (by omega) rfl (by omega) (λa ha=>by simp at ha;subst ha;rfl) λH' S' v' h' he=>hK H' S' v' h' ?_;obtain⟨e1,e2⟩:=he.ext h.x h.own;refine⟨e1,?_,e2,h.b8.app (B8.cons hc B8.nil)⟩;rw[OJ,List.length_append];exact he.2.2.1
end
end Go.X
namespace Go.Proofs.YtcedghechlgecaaDoor.Lx
open Go Go.X Go.Proofs.YtcedghechlgecaaDoor Go.Proofs.YtcedghechlgecaaDoor.G
section
variable {H:AH}{S:LS}{K:KF}
section
variable {s:List Nat}{p:Nat}
theorem anL:(AV.str 17 20123422373665890509693217210346309823787)=ai ones:=by rfl
theorem apw(h8:B8 s)(hs:s.length≤16384)(hM:Mem H S){c:Nat}{l:List Nat}(hd:s.drop p=c::l)(hK:∀H' S',Mem H' S'→Ext S S'→K (.ret (.int 0 ((ki (c::l):Nat):Int))) H'):f36 (ai s) (p:Int) H K:=by
 have r29:pe=f25:=rfl;obtain⟨g1,g2,g3⟩:=suf hd;have o8:B8 ones:=aX (by decide);have loop:∀{H:AH}{S1:LS},Mem H S1→Ext S S1→(∀m∈kQ,(c::l).take 2≠m)→∀(q i:Nat),i≤17→17-i<q→(∀j,j<i→ones[j]?≠some c)→vm pe K q (ai s) (p:Int) (ai ones) (i:Int) H:=by
  intro H S1 hM hx hno q
  induction q with
  |zero=>intro i _ h _;omega
  |succ q ih=>
   intro i hi hq hn;show Dr pe K (vm pe K q) (Dq pe K) (ai s) (p:Int) (ai ones) (i:Int) H;unfold Dr;simp only[jc,aO,cK];have hk:=hK H S1 hM hx;rw[ahU hno]at hk;refine cx (λg=>?_) (λg=>?_)
   ·have hil:i<ones.length:=by omega
    obtain⟨d,hdd⟩:∃d,ones[i]? = some d:=⟨_,List.getElem?_eq_getElem hil⟩
    refine fX o8 hdd ?_;simp only[aO];refine fX h8 g1 ?_;simp only[aO,bu];refine cx (λg4=>?_) (λg4=>?_)
    ·have e:d=c:=by omega
     subst e;rw[if_pos (List.mem_of_getElem? hdd)]at hk;exact hk
    ·simp only[dS,fz];refine w0 (by omega) (by omega) ?_;refine ih (i+1) (by have:ones.length=17:=rfl;omega) (by have:ones.length=17:=rfl;omega) λj hj hjc=>?_;by_cases e:j=i
     ·subst e;rw[hdd]at hjc;cases hjc;exact g4 rfl
     ·exact hn j (by omega) hjc
   ·have hnm:c∉ones:=λhm=>by
     obtain⟨j,hj,e⟩:=List.mem_iff_getElem.1 hm;exact hn j (by omega) (by rw[List.getElem?_eq_getElem hj,e])
    unfold Dq;rw[if_neg hnm]at hk;exact hk
 show Ds pe K (vm pe K G.NL) (ai s) (p:Int) H;unfold Ds;have e2:Int.ofNat 2=2:=rfl;rw[r29,anL];simp only[dS,fz,e2];refine w0 (by omega) (by omega) ?_;simp only[jc,aO,cK];have hsl:(c::l).length=s.length-p:=by rw[←hd];simp
 refine cx (λg=>?_) (λg=>?_)
 ·rw[Rr];refine dJ hM rfl (λa ha=>?_) λH1 m1=>?_
  ·obtain⟨x,_,rfl⟩:=List.mem_map.1 ha;rfl
  ·refine w0 (by omega) (by omega) ?_;refine yO (i:=p) (j:=p+2) h8 (by omega) (by omega) ?_;rw[hd,Nat.add_sub_cancel_left];have MC:B8 ((c::l).take 2):=by rw[←hd];exact(h8.drop p).take 2
   have tw8:∀m∈kQ,B8 m:=λm hm=>aX ((by decide:∀m∈kQ,(m.all λc=>Nat.blt c 256)=true) m hm);have x1:Ext S (S.push (.ce (kQ.map ai) 0)):=Ext.push _ _;have hw:sU (kQ.map ai) (ai ((c::l).take 2))=decide ((c::l).take 2∈kQ):=yy (λm hm=>Qg MC hm) kQ tw8;refine af0 (l:=kQ.map ai) (v:=.slice S.n 0 6 6 1 true) m1 (Q:=λ_=>True) (.inr ⟨S.n,0,6,true,kQ.map ai,0,rfl,Nat.le_refl _,trivial,LS.aq _ _,by decide,rfl⟩) (by decide) (λa ha=>by obtain⟨x,_,rfl⟩:=List.mem_map.1 ha;exact⟨_,_,rfl⟩) ?_;have hw':sU (kQ.map ai) (.str ((c::l).take 2).length (num ((c::l).take 2)))=decide ((c::l).take 2∈kQ):=hw;rw[hw',al,aM];refine cx (λg4=>?_) (λg4=>?_)
   ·have hk:=hK H1 _ m1 x1;rw[ahT rfl g4]at hk;exact hk
   ·exact loop m1 x1 (λm hm e=>g4 (by rw[e];exact hm)) G.NL 0 (by omega) (by have:G.NL=1000000:=rfl;omega) λj hj=>by omega
 ·have hl1:l=[]:=by
   cases l with
   |nil=>rfl
   |cons d r=>simp at hsl;omega
  exact loop hM (Ext.refl S) (λm hm e=>by
   have:=ael m hm;rw[←e,hl1]at this;simp at this) G.NL 0 (by omega) (by have:G.NL=1000000:=rfl;omega) λj hj=>by omega
def Rt(K:KF)(H:AH):Prop:=K (.ret (.aL [.str 0 0,.int 0 0,.bool false])) H
theorem lH{S0:LS}{m i q:Nat}{v:AV}{acc:List Nat}(h8:B8 s)(hi:i≤s.length)(hs:s.length≤16384)(hM:Mem H S)(hB:xj S0 S v acc)(hal:acc.length≤i)(p7:m≠10)(ui:m≠92)
  (hbad:s.drop i=[]∨((s.drop i).head? = some 10∧10≠m)∨(∃l',s.drop i=92::l'∧92≠m∧esc l'=none)→Rt K H)
  (hgood:(s.drop i).head? = some m→K (.ret (.aL [ai acc,.int 0 ((i+1:Nat):Int),.bool (decide (acc.length≤4096))])) H)
  (hone:∀c,(s.drop i).head? = some c→c≠m→c≠10→c≠92→∀H' S' v',Mem H' S'→xj S0 S' v' (acc++[c])→gv cO K q (ai s) (m:Int) v' ((i+1:Nat):Int) H')
  (anM:∀l' x k,s.drop i=92::l'→92≠m→esc l'=some (x,k)→∀H' S' v',Mem H' S'→xj S0 S' v' (acc++[x])→gv cO K q (ai s) (m:Int) v' ((i+k+1:Nat):Int) H') :
  gv cO K (q+1) (ai s) (m:Int) v (i:Int) H:=by
 have r28:cO=f55:=rfl;show Dm cO K (nP cO K (gv cO K q)) (KE cO K) (KH cO K (gv cO K q)) (ai s) (m:Int) v (i:Int) H;unfold Dm
 try simp only[jc,aO,cK]
 have hnext:∀(n:Nat) (v':AV) (H':AH),(n:Int)≤2000000→gv cO K q (ai s) (m:Int) v' ((n+1:Nat):Int) H'→nP cO K (gv cO K q) (ai s) (m:Int) v' (n:Int) H':=λn v' H' hn h=>by
  unfold nP;simp only[dS,fz];exact w0 (by omega) (by omega) h
 refine cx (λg=>?_) (λg=>hbad (.inl ?_))
 ·have hil:i<s.length:=by omega
  obtain⟨c,hc⟩:∃c,s[i]? = some c:=⟨_,List.getElem?_eq_getElem hil⟩
  have hd:s.drop i=c::s.drop (i+1):=by
   rw[List.drop_eq_getElem_cons hil];rw[(List.getElem?_eq_some_iff.1 hc).2]
  have hhd:(s.drop i).head? = some c:=by rw[hd];rfl
  refine fX h8 hc ?_;have e10:Int.ofNat 10=10:=rfl;have e92:Int.ofNat 92=92:=rfl;have aqN:Int.ofNat 110=110:=rfl;have e116:Int.ofNat 116=116:=rfl;have e34:Int.ofNat 34=34:=rfl;have e39:Int.ofNat 39=39:=rfl;have e120:Int.ofNat 120=120:=rfl;have e0:Int.ofNat 0=0:=rfl;have e2:Int.ofNat 2=2:=rfl;have apx:Int.ofNat 4096=4096:=rfl;simp only[aO,bu];rw[e10,e92];refine cx (λg3=>hbad (.inr (.inl ?_))) (λg3=>?_)
  ·have ec:c=10:=by omega
   subst ec;exact⟨hhd,λe=>p7 e.symm⟩
  refine cx (λg2=>?_) (λg2=>?_)
  ·have ecm:c=m:=by omega
   refine SS hM hB.fr.frv hB.b8 ?_;simp only[dS,fz];refine w0 (by omega) (by omega) ?_;refine hB.fr.len ?_;simp only[aO,cK];have:=hgood (by rw[hhd,ecm]);have e:(!decide (Int.ofNat 4096<(acc.length:Int)))=decide (acc.length≤4096):=by
    rw[Bool.eq_iff_iff,apx];simp;omega
   rw[e];exact this
  ·have hcm:c≠m:=by omega
   by_cases g4:(c:Int)=92
   ·rw[decide_eq_true g4];have ec:c=92:=by omega
    subst ec;simp only[Bool.not_true,aH,dS,fz];refine w0 (by omega) (by omega) ?_
    try simp only[jc,aO,cK]
    by_cases g5:((i:Int)+1)<s.length
    ·rw[decide_eq_true g5];simp only[Bool.not_true,aH];have MD:i+1<s.length:=by omega
     obtain⟨d,hdd⟩:∃d,s[i+1]? = some d:=⟨_,List.getElem?_eq_getElem MD⟩
     have hd8:=h8 d (List.mem_of_getElem? hdd);have hd2:s.drop (i+1)=d::s.drop (i+2):=by
      rw[List.drop_eq_getElem_cons MD];rw[(List.getElem?_eq_some_iff.1 hdd).2]
     have sx:∀{k:AV→Prop},k (.int 1 (d:Int))→gT (ai s) (.int 0 ((i:Int)+1)) k:=λhk=>fX (i:=i+1) h8 hdd hk;refine sx ?_;simp only[aO];have HD:esc (d::s.drop (i+2))=none→Rt K H:=λhe=>hbad (.inr (.inr ⟨_,hd,hcm,by rw[hd2];exact he⟩));have Ru:∀x,esc (d::s.drop (i+2))=some (x,1)→x<256→aR (aB H) 1 1 [.int 1 (x:Int)] λw H'=>cQ 1 1 v w H' λv' Et=>nP cO K (gv cO K q) (ai s) (m:Int) v' ((i:Int)+1) Et:=λx he hx=>by
      refine hB.push hM hx (by omega) λH' S' v' h' hB'=>?_;refine hnext (i+1) v' H' (by omega) ?_;exact anM _ x 1 hd hcm (by rw[hd2];exact he) H' S' v' h' hB'
     show Dl cO K (nP cO K (gv cO K q)) (Dk cO K (gv cO K q)) (ai s) (m:Int) v ((i:Int)+1) (d:Int) H;unfold Dl;simp only[bu];rw[aqN,e116,e92,e34,e39];refine cx (λg6=>Ru 10 (by simp only[esc];rw[if_pos (by omega)]) (by omega)) (λg6=>?_);refine cx (λg7=>Ru 9 (by simp only[esc];rw[if_neg (by omega),if_pos (by omega)]) (by omega)) (λg7=>?_);have mark:d=92∨d=34∨d=39→Dk cO K (gv cO K q) (ai s) (m:Int) v ((i:Int)+1) (d:Int) true H:=λhdm=>by
      show vk cO K (Dj cO K (gv cO K q)) (nP cO K (gv cO K q)) (ai s) (m:Int) v ((i:Int)+1) (d:Int) true H;unfold vk;rw[aG];refine sx ?_;simp only[aO];exact Ru d (by simp only[esc];rw[if_neg (by omega),if_neg (by omega),if_pos hdm]) hd8
     refine cx (λg8=>?_) λg8=>cx (λg21=>?_) λg21=>?_
     ·rw[decide_eq_true g8];exact mark (by omega)
     ·rw[decide_eq_true g21];exact mark (by omega)
     by_cases g16:(d:Int)=39
     ·rw[decide_eq_true g16];exact mark (by omega)
     rw[decide_eq_false g16];show vk cO K (Dj cO K (gv cO K q)) (nP cO K (gv cO K q)) (ai s) (m:Int) v ((i:Int)+1) (d:Int) false H;unfold vk;rw[aH,bu,e120];refine cx (λg11=>?_) (λg11=>HD ?_)
     ·have ed:d=120:=by omega
      subst ed;simp only[dS,e2,fz];refine w0 (by omega) (by omega) ?_
      try simp only[jc,aO,cK]
      by_cases g50:((i:Int)+1+2)<s.length
      ·rw[decide_eq_true g50];simp only[Bool.not_true,aH];have anN:i+2<s.length:=by omega
       have anO:i+3<s.length:=by omega
       obtain⟨a,haa⟩:∃a,s[i+2]? = some a:=⟨_,List.getElem?_eq_getElem anN⟩
       obtain⟨b,hbb⟩:∃b,s[i+3]? = some b:=⟨_,List.getElem?_eq_getElem anO⟩
       have hd3:s.drop (i+2)=a::b::s.drop (i+4):=by
        rw[List.drop_eq_getElem_cons anN,List.drop_eq_getElem_cons anO];rw[(List.getElem?_eq_some_iff.1 haa).2,(List.getElem?_eq_some_iff.1 hbb).2]
       have ha8:=h8 a (List.mem_of_getElem? haa);have hb8:=h8 b (List.mem_of_getElem? hbb);have sa:∀{k:AV→Prop},k (.int 1 (a:Int))→gT (ai s) (.int 0 ((i:Int)+1+1)) k:=λhk=>by
        have:=fX (q:=0) (i:=i+2) h8 haa hk;rw[show((i+2:Nat):Int)=(i:Int)+1+1 by omega]at this;exact this
       have sb:∀{k:AV→Prop},k (.int 1 (b:Int))→gT (ai s) (.int 0 ((i:Int)+1+2)) k:=λhk=>by
        have:=fX (q:=0) (i:=i+3) h8 hbb hk;rw[show((i+3:Nat):Int)=(i:Int)+1+2 by omega]at this;exact this
       refine w0 (by omega) (by omega) ?_;refine sa ?_;simp only[aO];rw[r28];refine HC ha8 λz hz1 hz2=>?_;simp only[al,aO,cK];rw[e0];cases ea:mO a with
       |none=>
        have:=hz2 ea;rw[decide_eq_true (by omega),aG];exact HD (by rw[hd3];exact acC (.inl (by rw[ea];rintro⟨x,hx⟩;cases hx)))
       |some x=>
        have hzx:=hz1 x ea;have hx16:=yQ ea;rw[decide_eq_false (by omega),aH];refine w0 (by omega) (by omega) ?_;refine sb ?_;simp only[aO];refine HC hb8 λz' hz1' hz2'=>?_;simp only[al,aO,cK];cases eb:mO b with
        |none=>
         have:=hz2' eb;rw[decide_eq_true (by omega),aG];exact HD (by rw[hd3];exact acC (.inr (by rw[eb];rintro⟨x,hx⟩;cases hx)))
        |some y=>
         have hzy:=hz1' y eb;have aqO:=yQ eb;rw[decide_eq_false (by omega),aH];show Di cO K (KG cO K (gv cO K q)) (ai s) (m:Int) v ((i:Int)+1) H;unfold Di;rw[r28];simp only[dS,e2,fz];refine w0 (by omega) (by omega) ?_;refine sa ?_;simp only[aO];refine w0 (by omega) (by omega) ?_;refine sb ?_;simp only[aO];refine HC ha8 λw hw1 _=>?_;have hwx:=hw1 x ea;simp only[al,aO];have shl:∀{k:AV→Prop},k (.int 0 ((16*x:Nat):Int))→Pj 0 (.int 0 w) (.int 3 (.ofNat 4)) k:=λ{k} hk=>by
          rw[hwx];show bT (Nat.beq 0 0) (ax 0 (Int.mul (x:Int) (.ofNat (Nat.pow 2 (Nat.min 4 64)))) λz=>k (.int 0 z));refine cC rfl ?_;have e:(Nat.pow 2 (Nat.min 4 64))=16:=rfl;rw[e,aiS];refine lA (z:=(x:Int)*Int.ofNat 16) (z':=((16*x:Nat):Int)) ?_ hk;have e16:Int.ofNat 16=16:=rfl;rw[e16,Qa (by omega) (by omega)];omega
         refine shl ?_;simp only[aO];refine HC hb8 λw' aqP _=>?_;have hwy:=aqP y eb;simp only[al,aO];rw[aV,aV,hwy];have aqQ:Nat.lor (nz 0 ((16*x:Nat):Int)) (nz 0 (y:Int))=16*x+y:=by
          show(16*x) ||| y=_;exact(by decide +kernel:∀x,x<16→∀y,y<16→((16*x) ||| y)=16*x+y) x hx16 y aqO
         rw[aqQ];refine lA (z:=Int.ofNat (16*x+y)) (z':=((16*x+y:Nat):Int)) (by rw[Qa (by show(_:Int)≤((16*x+y:Nat):Int);omega) (by show((16*x+y:Nat):Int)<_;omega)];rfl) ?_;refine lA (z:=((16*x+y:Nat):Int)) (z':=((16*x+y:Nat):Int)) (by rw[A7];omega) ?_;refine hM.cL (hB.Ro hM (by omega) (by omega) λH' S' v' h' hB'=>?_);show Dh cO K (nP cO K (gv cO K q)) (ai s) (m:Int) v' ((i:Int)+1) H';unfold Dh;simp only[dS,e2];refine w0 (by omega) (by omega) ?_;have:=hnext (i+3) v' H' (by omega) (anM _ (16*x+y) 3 hd hcm (by
          rw[hd2,hd3];simp only[esc];rw[if_neg (by omega),if_neg (by omega),if_neg (by omega),if_pos trivial,ea,eb]) H' S' v' h' hB')
         rw[show((i+3:Nat):Int)=(i:Int)+1+2 by omega]at this;exact this
      ·rw[decide_eq_false g50];simp only[Bool.not_false,aG];refine HD ?_;simp only[esc];rw[if_neg (by omega),if_neg (by omega),if_neg (by omega),if_pos trivial];have hlen:(s.drop (i+2)).length≤1:=by simp;omega
       match hx:s.drop (i+2),hlen with
       |[],_=>rfl
       |[a],_=>rfl
       |a::b::r,h=>simp at h
     ·simp only[esc];rw[if_neg (by omega),if_neg (by omega),if_neg (by omega),if_neg (by omega)]
    ·rw[decide_eq_false g5];simp only[Bool.not_false,aG];refine hbad (.inr (.inr ⟨_,hd,hcm,?_⟩));rw[List.drop_of_length_le (by omega)];rfl
   ·rw[decide_eq_false g4];simp only[Bool.not_false,aG];refine hB.push hM (h8 c (List.mem_of_getElem? hc)) (by omega) λH' S' v' h' hB'=>?_;refine hnext i v' H' (by omega) ?_;exact hone c hhd hcm (by omega) (by omega) H' S' v' h' hB'
 ·exact List.drop_of_length_le (by omega)
end
end
section
variable {H:AH}{S:LS}{K:KF}
section
variable {s:List Nat}{p:Nat}
theorem ahY{S0:LS}{m:Nat}(h8:B8 s)(hlen:s.length≤16384)(p7:m≠10)(ui:m≠92){l t:List Nat}{j:Nat}(hq:oU m l t j) :
  ∀(q i:Nat) (acc:List Nat) (v:AV) (H:AH) (S:LS),l=s.drop i→i≤s.length→s.length-i<q→Mem H S→xj S0 S v acc→acc.length≤i→
   (∀H' S',Mem H' S'→Ext S0 S'→K (.ret (.aL [ai (acc++t),.int 0 ((i+j:Nat):Int),.bool (decide ((acc++t).length≤4096))])) H')→gv cO K q (ai s) (m:Int) v i H:=by
 induction hq with
 |stop l=>
  intro q i acc v H S hl hi hq hM hB ha hg;obtain⟨q,rfl⟩:∃p,q=p+1:=⟨q-1,by omega⟩
  rw[List.append_nil]at hg;refine lH h8 hi hlen hM hB ha p7 ui (λh=>?_) (λ_=>hg H S hM hB.x) (λc h hc=>?_) (λl' x k h hm=>?_)
  ·rw[←hl]at h;rcases h with h|⟨h,h'⟩|⟨l',h,h',_⟩
   ·cases h
   ·simp at h;exact absurd h.symm h'
   ·injection h with h1;exact absurd h1.symm h'
  ·rw[←hl]at h;simp at h;exact absurd h.symm hc
  ·rw[←hl]at h;injection h with h1;exact absurd h1.symm hm
 |one c l t j hm h10 GI hq' ih=>
  intro q i acc v H S hl hi hq hM hB ha hg;obtain⟨q,rfl⟩:∃p,q=p+1:=⟨q-1,by omega⟩
  have hil:i<s.length:=by
   rcases Nat.lt_or_ge i s.length with g|g
   ·exact g
   ·rw[List.drop_of_length_le g]at hl;cases hl
  have hl':l=s.drop (i+1):=by
   rw[←List.drop_drop,←hl];rfl
  have e:∀x:List Nat,(acc++[c])++x=acc++c::x:=λx=>by simp
  refine lH h8 hi hlen hM hB ha p7 ui (λh=>?_) (λh=>?_) (λd h _ _ _ H' S' v' h' hB'=>?_) (λl' x k h hm=>?_)
  ·rw[←hl]at h;rcases h with h|⟨h,h'⟩|⟨l',h,h',_⟩
   ·cases h
   ·simp at h;exact absurd h h10
   ·injection h with h1;exact absurd h1 GI
  ·rw[←hl]at h;simp at h;exact absurd h hm
  ·rw[←hl]at h;have hdc:c=d:=by simpa using h
   subst hdc;refine ih q (i+1) (acc++[c]) v' H' S' hl' (by omega) (by omega) h' hB' (by simp;omega) ?_;rw[e,show i+1+j=i+(j+1) by omega];exact hg
  ·rw[←hl]at h;injection h with h1;exact absurd h1 GI
 |esc l t x k j GI he hq' ih=>
  intro q i acc v H S hl hi hq hM hB ha hg;obtain⟨q,rfl⟩:∃p,q=p+1:=⟨q-1,by omega⟩
  have hil:i<s.length:=by
   rcases Nat.lt_or_ge i s.length with g|g
   ·exact g
   ·rw[List.drop_of_length_le g]at hl;cases hl
  have hl':l=s.drop (i+1):=by
   rw[←List.drop_drop,←hl];rfl
  have hk:=yP he;have hkl:i+1+k≤s.length:=by
   have:l.length=s.length-(i+1):=by rw[hl'];simp
   omega
  have e:∀y:List Nat,(acc++[x])++y=acc++x::y:=λy=>by simp
  refine lH h8 hi hlen hM hB ha p7 ui (λh=>?_) (λh=>?_) (λd h _ _ ME=>?_) (λl' x' k' h _ he' H' S' v' h' hB'=>?_)
  ·rw[←hl]at h;rcases h with h|⟨h,h'⟩|⟨l',h,h',hn⟩
   ·cases h
   ·simp at h
   ·injection h with _ h1;subst h1;rw[he]at hn;cases hn
  ·rw[←hl]at h;simp at h;exact absurd h.symm GI
  ·rw[←hl]at h;have hdc:92=d:=by simpa using h
   exact absurd hdc.symm ME
  ·rw[←hl]at h;injection h with _ h1;subst h1;rw[he]at he';cases he';refine ih q (i+k+1) (acc++[x]) v' H' S' (by rw[hl',List.drop_drop];congr 1;omega) (by omega) (by omega) h' hB' (by simp;omega) ?_;rw[e,show i+k+1+j=i+(k+j+1) by omega];exact hg
theorem ahZ{S0:LS}{m:Nat}(h8:B8 s)(hlen:s.length≤16384)(p7:m≠10)(ui:m≠92){l:List Nat}(hq:pW m l) :
  ∀(q i:Nat) (acc:List Nat) (v:AV) (H:AH) (S:LS),l=s.drop i→i≤s.length→s.length-i<q→Mem H S→xj S0 S v acc→acc.length≤i→
   (∀H' S',Mem H' S'→Ext S0 S'→Rt K H')→gv cO K q (ai s) (m:Int) v i H:=by
 induction hq with
 |nil=>
  intro q i acc v H S hl hi hq hM hB ha hb;obtain⟨q,rfl⟩:∃p,q=p+1:=⟨q-1,by omega⟩
  refine lH h8 hi hlen hM hB ha p7 ui (λ_=>hb H S hM hB.x) (λh=>?_) (λc h hc=>?_) (λl' x k h hm=>?_)<;>(rw[←hl]at h;cases h)
 |line l p7=>
  intro q i acc v H S hl hi hq hM hB ha hb;obtain⟨q,rfl⟩:∃p,q=p+1:=⟨q-1,by omega⟩
  refine lH h8 hi hlen hM hB ha p7 ui (λ_=>hb H S hM hB.x) (λh=>?_) (λc h _ hc=>?_) (λl' x k h hm=>?_)
  ·rw[←hl]at h;simp at h;exact absurd h.symm p7
  ·rw[←hl]at h;simp at h;exact absurd h.symm hc
  ·rw[←hl]at h;injection h with h1;cases h1
 |one c l hm h10 GI hq' ih=>
  intro q i acc v H S hl hi hq hM hB ha hb;obtain⟨q,rfl⟩:∃p,q=p+1:=⟨q-1,by omega⟩
  have hil:i<s.length:=by
   rcases Nat.lt_or_ge i s.length with g|g
   ·exact g
   ·rw[List.drop_of_length_le g]at hl;cases hl
  have hl':l=s.drop (i+1):=by
   rw[←List.drop_drop,←hl];rfl
  refine lH h8 hi hlen hM hB ha p7 ui (λ_=>hb H S hM hB.x) (λh=>?_) (λd h _ _ _ H' S' v' h' hB'=>?_) (λl' x k h hm=>?_)
  ·rw[←hl]at h;simp at h;exact absurd h hm
  ·exact ih q (i+1) _ v' H' S' hl' (by omega) (by omega) h' hB' (by simp;omega) hb
  ·rw[←hl]at h;injection h with h1;exact absurd h1 GI
 |bad l hm he=>
  intro q i acc v H S hl hi hq hM hB ha hb;obtain⟨q,rfl⟩:∃p,q=p+1:=⟨q-1,by omega⟩
  refine lH h8 hi hlen hM hB ha p7 ui (λ_=>hb H S hM hB.x) (λh=>?_) (λd h _ _ ME=>?_) (λl' x' k' h _ he'=>?_)
  ·rw[←hl]at h;simp at h;exact absurd h.symm hm
  ·rw[←hl]at h;have hdc:92=d:=by simpa using h
   exact absurd hdc.symm ME
  ·rw[←hl]at h;injection h with _ h1;subst h1;rw[he]at he';cases he'
 |esc l x k GI he hq' ih=>
  intro q i acc v H S hl hi hq hM hB ha hb;obtain⟨q,rfl⟩:∃p,q=p+1:=⟨q-1,by omega⟩
  have hil:i<s.length:=by
   rcases Nat.lt_or_ge i s.length with g|g
   ·exact g
   ·rw[List.drop_of_length_le g]at hl;cases hl
  have hl':l=s.drop (i+1):=by
   rw[←List.drop_drop,←hl];rfl
  have hk:=yP he;have hkl:i+1+k≤s.length:=by
   have:l.length=s.length-(i+1):=by rw[hl'];simp
   omega
  refine lH h8 hi hlen hM hB ha p7 ui (λ_=>hb H S hM hB.x) (λh=>?_) (λd h _ _ ME=>?_) (λl' x' k' h _ he' H' S' v' h' hB'=>?_)
  ·rw[←hl]at h;simp at h;exact absurd h.symm GI
  ·rw[←hl]at h;have hdc:92=d:=by simpa using h
   exact absurd hdc.symm ME
  ·rw[←hl]at h;injection h with _ h1;subst h1;rw[he]at he';cases he';exact ih q (i+k+1) _ v' H' S' (by rw[hl',List.drop_drop];congr 1;omega) (by omega) (by omega) h' hB' (by simp;omega) hb
theorem apy{m:Nat}{l:List Nat}(h8:B8 s)(hs:s.length≤16384)(hd:s.drop p=m::l)(hm:m=34∨m=39)(hM:Mem H S)
  (hg:∀t j,oU m l t j→∀H' S',Mem H' S'→Ext S S'→K (.ret (.aL [ai t,.int 0 ((p+1+j:Nat):Int),.bool (decide (t.length≤4096))])) H')
  (hb:pW m l→∀H' S',Mem H' S'→Ext S S'→Rt K H'):f35 (ai s) (p:Int) H K:=by
 obtain⟨g1,g2,g3⟩:=suf hd;show Dp cO K (gv cO K G.NL) (ai s) (p:Int) H;unfold Dp;refine fX h8 g1 ?_;simp only[aO,dS,fz];refine w0 (by omega) (by omega) ?_;have hB:xj S S .ab []:=⟨Ext.refl S,fj.nil S 1,λ_ h=>h.elim,B8.nil⟩
 have iR:G.NL=1000000:=rfl;rcases IU (m:=m) (by omega) (by omega) (l.length+1) l (by omega)with⟨t,j,hq⟩|hq
 ·exact ahY h8 hs (by omega) (by omega) hq G.NL (p+1) [] .ab H S g3.symm (by omega) (by omega) hM hB (by simp) (hg t j hq)
 ·exact ahZ h8 hs (by omega) (by omega) hq G.NL (p+1) [] .ab H S g3.symm (by omega) (by omega) hM hB (by simp) (hb hq)
end
end
section
variable {H:AH}{S:LS}{K:KF}
theorem aqR:bg.2.2.2.1=f32:=rfl
theorem anP:bg.1=f29:=rfl
theorem aqS:bg.2.1=f30:=rfl
theorem aqT:bg.2.2.1=f31:=rfl
theorem aqU:bg.2.2.2.2.1=f33:=rfl
theorem aqV:bg.2.2.2.2.2.1=f34:=rfl
theorem aqW:bg.2.2.2.2.2.2.1=f35:=rfl
theorem aqX:bg.2.2.2.2.2.2.2=f36:=rfl
structure xk(S0 S:LS)(v:AV)(acc:List Tok):Prop where
 x:Ext S0 S
 fr:fj S 4 v acc.length (tcs acc)
 own:∀b,aj v b→S0.n≤b
theorem oH.j{S0:LS}{v:AV}{acc:List Tok}{bt:Nat}{tc:List AV}(h:oH S0 S v acc bt tc):xk S0 S v acc:=⟨h.x,h.fr,h.own⟩
theorem xk.new{S0:LS}{v:AV}{acc:List Tok}{c0 c1:List AV}(hJ:xk S0 S v acc)(hM:Mem H S)(h4:c1.length=4):oH S0 ((S.push (.ce c0 0)).set S.n (.ce c1 0)) v acc S.n c1:=by
 have lt:∀b,aj v b→b<S.n:=λb hb=>hJ.fr.lt hM hb;exact⟨(hJ.x.trans (Ext.push S _)).set hJ.x.n _,hJ.fr.keep hM λb hb hlt=>by
   rw[LS.an _ _ (by have:=lt b hb;omega),LS.bR _ _ hlt],hJ.own,LS.av _ _ _,h4,hJ.x.n,λg=>by have:=lt _ g;omega⟩
noncomputable def vQ(K:KF)(s:List Nat)(q:Nat)(v:AV):KF:=λo H=>cR K o H λv5=>cI 0 v5 λz=>eH bg K q (ai s) v z H
theorem apz{t:List Nat}(h:B8 t)(hM:Mem H S)(hK:∀H' S',Mem H' S'→Ext S S'→K (.ret (.bool (decide (t∈jV)))) H'):f32 (ai t) H K:=by
 refine apt hM λH' S' h' x'=>?_;have:=anK h;unfold ai at this;rw[this];exact hK H' S' h' x'
section
variable {S0:LS}{H0:AH}{v:AV}{acc:List Tok}{bt:Nat}{tc:List AV}{s:List Nat}{p q:Nat}
theorem wW(hs:s.length≤16384)(hM:Mem H S){t:Tok}(hI:oH S0 S v acc bt t.cs)(hal:acc.length≤100000){e:Nat}(hk:∀H' S' v',Mem H' S'→xk S0 S' v' (acc++[t])→eG bV (vQ K s q v') G.NL (ai s) (e:Int) H') :
  mT bg K (eH bg K q) (ai s) v (.ptr bt 0) (e:Int) H:=by
 show Dt bg K (eH bg K q) (ai s) v (.ptr bt 0) (e:Int) H;unfold Dt;rw[anP];refine hI.push hM rfl hal λH' S' v' h' i'=>?_;show ve bV (vQ K s q v') (eG bV (vQ K s q v') G.NL) (ai s) (e:Int) H';unfold ve;exact hk H' S' v' h' i'.j
theorem aen(h8:B8 s)(hs:s.length≤16384)(hp:p≤s.length)(hM:Mem H S){t:List Nat}(MC:B8 t){e:Nat}(het:e=p+t.length)(hes:e≤s.length)(hI:oH S0 S v acc bt (Tok.cs ⟨2,t,0,p⟩))(hal:acc.length≤100000)
  (h1:t.length≤32→∀k,(k=1∧t∈jV∨k=2∧t∉jV)→∀H' S' v',Mem H' S'→xk S0 S' v' (acc++[⟨k,t,0,p⟩])→eG bV (vQ K s q v') G.NL (ai s) (e:Int) H')
  (h2:32<t.length→badL K S0 p):yd bg K (eH bg K q) (ai s) v (p:Int) (.ptr bt 0) (e:Int) H:=by
 show Dx bg K (Dw bg K (eH bg K q)) (ai s) v (p:Int) (.ptr bt 0) (e:Int) H;unfold Dx;have e32:Int.ofNat 32=32:=rfl;have last:∀{H:AH}{S:LS}(k:Nat),Mem H S→oH S0 S v acc bt (Tok.cs ⟨k,t,0,p⟩)→(k=1∧t∈jV∨k=2∧t∉jV)→Dw bg K (eH bg K q) (ai s) v (p:Int) (.ptr bt 0) (e:Int) H:=λ{H S} k hM hI hk=>by
  show Dv bg K (mT bg K (eH bg K q)) (ai s) v (p:Int) (.ptr bt 0) (e:Int) H;unfold Dv;rw[pU];refine w0 (by omega) (by omega) ?_;rw[cK,e32];refine cx (λg=>h2 (by omega) H S hM hI.x) (λg=>?_);exact wW (t:=⟨k,t,0,p⟩) hs hM hI hal (h1 (by omega) k hk)
 refine hI.load hM rfl ?_;rw[aqR];refine apz MC hM λH2 S2 m2 x2=>?_;simp only[al,aM];have i2:=hI.ext hM x2;refine cx (λg=>?_) (λg=>last 2 m2 i2 (.inr ⟨rfl,g⟩));refine i2.store m2 (by omega) rfl λH3 S3 m3 i3=>?_;exact last 1 m3 i3 (.inl ⟨rfl,g⟩)
theorem ah0(h8:B8 s)(hs:s.length≤16384)(hM:Mem H S){t:List Nat}{e:Nat}(hpe:p≤e)(hes:e≤s.length)(ht:(s.drop p).take (e-p)=t)(hI:oH S0 S v acc bt (Tok.cs ⟨3,[],0,p⟩))(hal:acc.length≤100000)
  (h1:∀n,ug t=some n→∀H' S' v',Mem H' S'→xk S0 S' v' (acc++[⟨3,[],n,p⟩])→eG bV (vQ K s q v') G.NL (ai s) (e:Int) H')
  (h2:ug t=none→badL K S0 p):ye bg K (eH bg K q) (ai s) v (p:Int) (.ptr bt 0) (e:Int) H:=by
 show Dy bg K (mT bg K (eH bg K q)) (ai s) v (p:Int) (.ptr bt 0) (e:Int) H;unfold Dy;refine yO (i:=p) (j:=e) h8 hpe hes ?_;rw[aqV,ht];have MC:B8 t:=by rw[←ht];exact(h8.drop p).take _
 have hlt:t.length≤16384:=by rw[←ht];simp;omega
 refine apv MC hlt (λn hn=>?_) (λhn=>?_)
 ·simp only[al,mh,nJ,nK,aO,aM,Bool.not_true,aH];refine hI.store hM (by omega) rfl λH1 S1 m1 i1=>?_;exact wW (t:=⟨3,[],n,p⟩) hs m1 i1 hal (h1 n hn)
 ·simp only[al,mh,nJ,nK,aO,aM,Bool.not_false,aG];exact h2 hn H S hM hI.x
theorem Rv(h8:B8 s)(hs:s.length≤16384)(hM:Mem H S){c:Nat}{l:List Nat}(hd:s.drop p=c::l)(hc:c=34∨c=39)(hI:oH S0 S v acc bt (Tok.cs ⟨0,[],0,p⟩))(hal:acc.length≤100000)
  (h1:∀t j,oU c l t j→t.length≤4096→∀H' S' v',Mem H' S'→xk S0 S' v' (acc++[⟨4,t,0,p⟩])→eG bV (vQ K s q v') G.NL (ai s) ((p+(j+1):Nat):Int) H')
  (h2:(pW c l∨∃t j,oU c l t j∧4096<t.length)→badL K S0 p):vt bg K (eH bg K q) (ai s) v (p:Int) (.ptr bt 0) H:=by
 show Du bg K (KS bg K (eH bg K q)) (ai s) v (p:Int) (.ptr bt 0) H;unfold Du;rw[aqW];refine apy h8 hs hd hc hM (λt j hq H2 S2 m2 x2=>?_) (λhb H2 S2 m2 x2=>?_)
 ·simp only[al,mh,nJ,nK,aO,aM];have i2:=hI.ext hM x2;show vr bg K (mT bg K (eH bg K q)) (ai s) v (p:Int) (.ptr bt 0) (ai t) ((p+1+j:Nat):Int) (decide (t.length≤4096)) H2;unfold vr;by_cases g:t.length≤4096
  ·rw[decide_eq_true g];simp only[Bool.not_true,aH];refine i2.store m2 (by omega) rfl λH3 S3 m3 i3=>?_;refine i3.store m3 (by omega) rfl λH4 S4 m4 i4=>?_;refine wW (t:=⟨4,t,0,p⟩) hs m4 i4 hal ?_;rw[show p+1+j=p+(j+1) by omega];exact h1 t j hq g
  ·rw[decide_eq_false g];simp only[Bool.not_false,aG];exact h2 (.inr ⟨t,j,hq,by omega⟩) H2 S2 m2 i2.x
 ·show cR K (.ret (.aL [.str 0 0,.int 0 0,.bool false])) H2 _;simp only[al,mh,nJ,nK,aO,aM];have i2:=hI.ext hM x2;show vr bg K (mT bg K (eH bg K q)) (ai s) v (p:Int) (.ptr bt 0) (.str 0 0) 0 false H2;unfold vr;simp only[Bool.not_false,aG];exact h2 (.inl hb) H2 S2 m2 i2.x
theorem aeo(h8:B8 s)(hs:s.length≤16384)(hM:Mem H S){c:Nat}{l:List Nat}(hd:s.drop p=c::l)(hI:oH S0 S v acc bt (Tok.cs ⟨0,[],0,p⟩))(hal:acc.length≤100000)
  (h1:ki (c::l)≠0→∀H' S' v',Mem H' S'→xk S0 S' v' (acc++[⟨5,(c::l).take (ki (c::l)),0,p⟩])→eG bV (vQ K s q v') G.NL (ai s) ((p+ki (c::l):Nat):Int) H')
  (h2:ki (c::l)=0→badL K S0 p):yf bg K (eH bg K q) (ai s) v (p:Int) (.ptr bt 0) H:=by
 show DB bg K (FC bg K (eH bg K q)) (ai s) v (p:Int) (.ptr bt 0) H;unfold DB;obtain⟨g1,g2,g3⟩:=suf hd;rw[aqX];have hsg:=SU (c::l);have hsl:(c::l).length=s.length-p:=by rw[←hd];simp
 refine apw h8 hs hM hd λH1 S1 m1 x1=>?_;simp only[al,aO];have i1:=hI.ext hM x1;show zb bg K (mT bg K (eH bg K q)) (ai s) v (p:Int) (.ptr bt 0) ((ki (c::l):Nat):Int) H1;unfold zb;have e0:Int.ofNat 0=0:=rfl;rw[bu,e0];refine cx (λg=>h2 (by omega) H1 S1 m1 i1.x) (λg=>?_);simp only[dS];refine w0 (by omega) (by omega) ?_;refine yO (i:=p) (j:=p+ki (c::l)) h8 (by omega) (by omega) ?_;refine w0 (by omega) (by omega) ?_;rw[hd,Nat.add_sub_cancel_left];refine i1.store m1 (by omega) rfl λH3 S3 m3 i3=>?_;refine i3.store m3 (by omega) rfl λH4 S4 m4 i4=>?_;exact wW (t:=⟨5,(c::l).take (ki (c::l)),0,p⟩) (e:=p+ki (c::l)) hs m4 i4 hal (h1 (by omega))
theorem yz(h8:B8 s)(hs:s.length≤16384)(hM:Mem H S){c:Nat}{l:List Nat}(hd:s.drop p=c::l)(hJ:xk S0 S v acc)(hal:acc.length≤100000)
  (h1:∀k t n j,kR (c::l) k t n j→∀H' S' v',Mem H' S'→xk S0 S' v' (acc++[⟨k,t,n,p⟩])→eG bV (vQ K s q v') G.NL (ai s) ((p+j:Nat):Int) H')
  (h2:xN (c::l)→badL K S0 p):eH bg K (q+1) (ai s) v (p:Int) H:=by
 show vu bg K (vt bg K (eH bg K q)) (yd bg K (eH bg K q)) (ye bg K (eH bg K q)) (DA bg K) (yf bg K (eH bg K q)) (ai s) v (p:Int) H;unfold vu;obtain⟨g1,g2,g3⟩:=suf hd;have hrl:=uN (c::l);have hsl:(c::l).length=s.length-p:=by rw[←hd];simp
 have e34:Int.ofNat 34=34:=rfl;have e39:Int.ofNat 39=39:=rfl;simp only[jc,aO,cK];rw[decide_eq_true (by omega),aG,aqS,aqT,aqU,e34,e39];refine e8 (dt hM (λa ha=>?_) λH1 m1=>?_)
 ·simp only[List.mem_cons,List.not_mem_nil,or_false]at ha;rcases ha with rfl|rfl|rfl|rfl<;>rfl
 refine oA m1 (LS.aq _ _) (by omega) rfl (by show 0+4≤4;omega) (λa ha=>?_) λH2 m2=>?_
 ·simp only[List.mem_cons,List.not_mem_nil,or_false]at ha;rcases ha with rfl|rfl|rfl|rfl<;>rfl
 have m2:Mem H2 ((S.push (.ce [.int 0 (.ofNat 0),.str 0 0,.int 0 (.ofNat 0),.int 0 (.ofNat 0)] 0)).set S.n (.ce (Tok.cs ⟨0,[],0,p⟩) 0)):=m2;have i2:=hJ.new hM (c0:=[.int 0 (.ofNat 0),.str 0 0,.int 0 (.ofNat 0),.int 0 (.ofNat 0)]) (c1:=Tok.cs ⟨0,[],0,p⟩) rfl;refine apu h8 hs (by omega) ?_;simp only[al,aO];rw[hd];have aqY:((c::l).take (fI (c::l))).length=fI (c::l):=by rw[List.length_take];omega
 have MC:B8 ((c::l).take (fI (c::l))):=by rw[←hd];exact(h8.drop p).take _
 refine fX h8 g1 ?_;simp only[aO];refine afZ λb hb=>?_;simp only[al,aM];refine xI (λeb=>?_) (λeb=>?_)
 ·have hlp:=hb.1 eb;refine yO (i:=p) (j:=p+fI (c::l)) h8 (by omega) (by omega) ?_;rw[hd,Nat.add_sub_cancel_left];refine i2.store m2 (by omega) rfl λH3 S3 m3 i3=>?_;refine i3.store m3 (by omega) rfl λH4 S4 m4 i4=>?_;refine aen h8 hs (by omega) m4 MC (by rw[aqY]) (by omega) i4 hal (λht k hk=>?_) (λht=>h2 (.long c l hlp (by omega)));rcases hk with⟨rfl,hk⟩|⟨rfl,hk⟩
  ·exact h1 _ _ _ _ (.word c l hlp (by omega) hk)
  ·exact h1 _ _ _ _ (.name c l hlp (by omega) hk)
 ·have hnl:¬LP c:=λg=>by have:=hb.2 g;rw[this]at eb;cases eb
  refine fX h8 g1 ?_;simp only[aO];refine HB λb' hb'=>?_;simp only[al,aM];refine xI (λeb'=>?_) (λeb'=>?_)
  ·have hdp:=hb'.1 eb';refine i2.store m2 (by omega) rfl λH3 S3 m3 i3=>?_;refine ah0 (t:=(c::l).take (fI (c::l))) h8 hs m3 (by omega) (by omega) (by rw[hd,Nat.add_sub_cancel_left]) i3 hal (λn hn=>h1 _ _ _ _ (.num c l n hdp hn)) (λhn=>h2 (.num c l hdp hn))
  ·have hnd:¬DP c:=λg=>by have:=hb'.2 g;rw[this]at eb';cases eb'
   have quo:c=34∨c=39→vt bg K (eH bg K q) (ai s) v (p:Int) (.ptr S.n 0) H2:=λhc=>by
    refine Rv h8 hs m2 hd hc i2 hal (λt j hq ht=>h1 _ _ _ _ (.quo c l t j hc hq ht)) (λhb=>?_);rcases hb with hb|⟨t,j,hq,ht⟩
    ·exact h2 (.quo c l hc hb)
    ·exact h2 (.great c l t j hc hq ht)
   refine fX h8 g1 ?_;simp only[aO,bu];refine cx (λg4=>quo (by omega)) (λg4=>?_);refine fX h8 g1 ?_;simp only[aO,bu];refine cx (λg5=>quo (by omega)) (λg5=>?_);exact aeo h8 hs m2 hd i2 hal (λhz=>h1 _ _ _ _ (.sign c l hnd hnl (by omega) (by omega) hz)) (λhz=>h2 (.sign c l hnd hnl (by omega) (by omega) hz))
theorem ah1(hs:s.length≤16384)(hM:Mem H S)(hJ:xk S0 S v acc)(hp:p=s.length)(hal:acc.length≤100000)(hP:OK K S0 acc (.inl [⟨0,[],0,p⟩])):eH bg K (q+1) (ai s) v (p:Int) H:=by
 show vu bg K (vt bg K (eH bg K q)) (yd bg K (eH bg K q)) (ye bg K (eH bg K q)) (DA bg K) (yf bg K (eH bg K q)) (ai s) v (p:Int) H;unfold vu;simp only[jc,aO,cK];rw[decide_eq_false (by omega),aH];show Dz bg K (ai s) v H;unfold Dz;simp only[jc,aO];subst hp;refine Ba (l':=Tok.cs ⟨0,[],0,s.length⟩) hM hJ.fr (by omega) rfl (by omega) (λa ha=>?_) λH' S' v' h' he=>?_
 ·simp only[Tok.cs,List.mem_cons,List.not_mem_nil,or_false]at ha;rcases ha with rfl|rfl|rfl|rfl<;>rfl
 ·obtain⟨e1,e2⟩:=he.ext hJ.x hJ.own;have ecs:tcs (acc++[⟨0,[],0,s.length⟩])=tcs acc++Tok.cs ⟨0,[],0,s.length⟩:=by
   rw[Og];show tcs acc++(Tok.cs _++[])=_;rw[List.append_nil]
  exact hP H' S' v' h' e1 (by rw[ecs,List.length_append];exact he.2.2.1) e2
theorem zq{H:AH}(h:eH bg K q (ai s) v (p:Int) H):vQ K s q v (.ret (.int 0 (p:Int))) H:=by
 unfold vQ;rw[al,aO];exact h
theorem ah2(h8:B8 s)(hs:s.length≤16384){l:List Nat}{p:Nat}{r:List Tok ⊕ Nat}(hr:dT l p r) :
  l=s.drop p→p≤s.length→∀(q m:Nat),s.length-p<q→s.length-p<m→∀(acc:List Tok) (v:AV) (H:AH) (S:LS),Mem H S→xk S0 S v acc→acc.length≤p→OK K S0 acc r→
   eG bV (vQ K s q v) m (ai s) (p:Int) H:=by
 have iR:G.NL=1000000:=rfl
 induction hr with
 |nil p=>
  intro hl hp q m hq hm acc v H S hM hJ ha hP;obtain⟨m,rfl⟩:∃n,m=n+1:=⟨m-1,by omega⟩
  obtain⟨q,rfl⟩:∃n,q=n+1:=⟨q-1,by omega⟩
  have hps:p=s.length:=by
   have:=congrArg List.length hl;simp at this;omega
  exact ahW hs (by omega) (zq (ah1 hs hM hJ hps (by omega) hP))
 |blank c l p r hc _ ih=>
  intro hl hp q m hq hm acc v H S hM hJ ha hP;obtain⟨m,rfl⟩:∃n,m=n+1:=⟨m-1,by omega⟩
  obtain⟨g1,g2,g3⟩:=suf hl.symm;exact acE h8 hs hl.symm hc (ih g3.symm (by omega) q m (by omega) (by omega) acc v H S hM hJ (by omega) hP)
 |remark l p r _ ih=>
  intro hl hp q m hq hm acc v H S hM hJ ha hP;obtain⟨m,rfl⟩:∃n,m=n+1:=⟨m-1,by omega⟩
  obtain⟨g1,g2,g3⟩:=suf hl.symm;have hll:=Am (45::45::l);have h1:1≤mv (45::45::l):=by unfold mv;simp
  have hsl:(45::45::l).length=s.length-p:=by rw[hl];simp
  refine Rs h8 hs hl.symm ?_;exact ih (by rw[hl,List.drop_drop]) (by omega) q m (by omega) (by omega) acc v H S hM hJ (by omega) hP
 |wrong c l p h1 h2 hn=>
  intro hl hp q m hq hm acc v H S hM hJ ha hP;obtain⟨m,rfl⟩:∃n,m=n+1:=⟨m-1,by omega⟩
  obtain⟨q,rfl⟩:∃n,q=n+1:=⟨q-1,by omega⟩
  obtain⟨g1,g2,g3⟩:=suf hl.symm;refine Ar h8 hs hl.symm h1 h2 (zq ?_);refine yz h8 hs hM hl.symm hJ (by omega) (λk t n j ht=>?_) (λ_=>hP);exact absurd hn (FM ht)
 |tok c l p k t n j ts h1 h2 ht _ ih=>
  intro hl hp q m hq hm acc v H S hM hJ ha hP;obtain⟨m,rfl⟩:∃n,m=n+1:=⟨m-1,by omega⟩
  obtain⟨q,rfl⟩:∃n,q=n+1:=⟨q-1,by omega⟩
  obtain⟨g1,g2,g3⟩:=suf hl.symm;have hj:=ht.len;have hsl:(c::l).length=s.length-p:=by rw[hl];simp
  refine Ar h8 hs hl.symm h1 h2 (zq ?_);refine yz h8 hs hM hl.symm hJ (by omega) (λk' t' n' j' ht' H2 S2 v2 m2 i2=>?_) (λhn=>absurd hn (FM ht));obtain⟨rfl,rfl,rfl,rfl⟩:=OM ht ht';exact ih (by rw[hl,List.drop_drop]) (by omega) q G.NL (by omega) (by omega) _ v2 H2 S2 m2 i2 (by simp;omega) hP.tok
 |bad c l p k t n j e h1 h2 ht _ ih=>
  intro hl hp q m hq hm acc v H S hM hJ ha hP;obtain⟨m,rfl⟩:∃n,m=n+1:=⟨m-1,by omega⟩
  obtain⟨q,rfl⟩:∃n,q=n+1:=⟨q-1,by omega⟩
  obtain⟨g1,g2,g3⟩:=suf hl.symm;have hj:=ht.len;have hsl:(c::l).length=s.length-p:=by rw[hl];simp
  refine Ar h8 hs hl.symm h1 h2 (zq ?_);refine yz h8 hs hM hl.symm hJ (by omega) (λk' t' n' j' ht' H2 S2 v2 m2 i2=>?_) (λhn=>absurd hn (FM ht));obtain⟨rfl,rfl,rfl,rfl⟩:=OM ht ht';exact ih (by rw[hl,List.drop_drop]) (by omega) q G.NL (by omega) (by omega) _ v2 H2 S2 m2 i2 (by simp;omega) hP
theorem apA(h8:B8 s)(hs:s.length≤16384)(hM:Mem H S){r:List Tok ⊕ Nat}(hr:dT s 0 r)(hP:OK K S [] r):f16 (ai s) H K:=by
 show DC bg K (eH bg K G.NL) (ai s) H;unfold DC;simp only[jc,aO,cK];have e:Int.ofNat 16384=16384:=rfl;rw[e,decide_eq_false (by omega),aH,anP];show ve bV (vQ K s G.NL .ab) (eG bV (vQ K s G.NL .ab) G.NL) (ai s) ((0:Nat):Int) H;unfold ve;have iR:G.NL=1000000:=rfl;exact ah2 h8 hs hr rfl (Nat.zero_le _) G.NL G.NL (by omega) (by omega) [] .ab H S hM ⟨Ext.refl S,fj.nil _ _,λ_ h=>h.elim⟩ (Nat.le_refl _) hP
end
end
end Go.Proofs.YtcedghechlgecaaDoor.Lx
namespace Go.Proofs.YtcedghechlgecaaDoor
open Go Go.X Go.Proofs.YtcedghechlgecaaDoor.G
section
variable {H:AH}{S:LS}{K:KF}
noncomputable def R9:pb:=(f16,f17,f18)
noncomputable def g7:AV→AH→KF→Prop:=QH R9
theorem aqZ{s:List Nat}{r:List Tok ⊕ Nat}(h8:B8 s)(hs:s.length≤5000)(hr:dT s 0 r)(hM:Mem H S)(hP:ScP K S (yr r)):g7 (ai s) H K:=
 aqH (R:=R9) (F:=f16) rfl rfl rfl h8 hs hr hM (λq=>Lx.apA h8 (by omega) hM hr (by cases r<;>exact q)) hP
end
end Go.Proofs.YtcedghechlgecaaDoor
