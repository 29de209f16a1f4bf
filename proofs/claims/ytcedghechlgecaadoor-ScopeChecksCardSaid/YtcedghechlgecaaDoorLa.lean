/- The lexer of the document; Script. No condition: lemmas. -/
import Derived.Test.YtcedghechlgecaaDoorQa
set_option maxRecDepth 100000
set_option maxHeartbeats 0
set_option linter.unusedVariables false
set_option linter.unusedSimpArgs false
namespace Go.X
end Go.X
namespace Go.Proofs.YtcedghechlgecaaDoor.Lx
open Go Go.X Go.Proofs.YtcedghechlgecaaDoor Go.Proofs.YtcedghechlgecaaDoor.G
def lO:List AV:=[(.str 3 6581857),(.str 5 461195539042),(.str 2 28516),(.str 4 1702063205),(.str 6 112602859662437),(.str 3 6581861),(.str 5 435728179558),(.str 3 7499622),(.str 8 7957695015192261990),(.str 2 26217),(.str 2 28265),(.str 5 465490374508),(.str 3 7104878),(.str 3 7630702),(.str 2 29295),(.str 6 127961662514546),(.str 6 121437875889522),(.str 4 1852139636),(.str 4 1702195828),(.str 5 465625706101),(.str 5 435610544247)]
end Go.Proofs.YtcedghechlgecaaDoor.Lx
namespace Go.X
end Go.X
namespace Go.Proofs.YtcedghechlgecaaDoor.Lx
open Go Go.X Go.Proofs.YtcedghechlgecaaDoor Go.Proofs.YtcedghechlgecaaDoor.G
section
variable {H:AH}{S:LS}{K:KF}
theorem sj:∀a∈lO,∃n x,a=.str n x:=by
 intro a ha;simp only[lO,List.mem_cons,List.not_mem_nil,or_false]at ha;rcases ha with rfl|rfl|rfl|rfl|rfl|rfl|rfl|rfl|rfl|rfl|rfl|rfl|rfl|rfl|rfl|rfl|rfl|rfl|rfl|rfl|rfl<;>exact⟨_,_,rfl⟩
end
section
variable {H:AH}{S:LS}{K:KF}
theorem aqc{c:Nat}{k:Bool→Prop}(h:∀b,(b=true↔DP c)→k b):bI (!(cx (c:Int) (.ofNat 48))) (k (!(cx (.ofNat 57) (c:Int)))) (k false):=by
 have e1:Int.ofNat 48=48:=rfl;have e2:Int.ofNat 57=57:=rfl;rw[cz,cz,e1,e2];by_cases g:(c:Int)<48
 ·rw[decide_eq_true g];simp only[Bool.not_true,aI];exact h _ ⟨λx=>(by cases x),λx=>by unfold DP at x;omega⟩
 ·rw[decide_eq_false g];simp only[Bool.not_false,aH];refine h _ ?_;unfold DP;simp only[Bool.not_eq_true',decide_eq_false_iff_not];omega
theorem IP{c:Nat}(h:∀b,(b=true↔DP c)→K (.ret (.bool b)) H):f33 (c:Int) H K:=by
 show DH Ls K (c:Int) H;unfold DH;exact aqc (k:=λb=>K (.ret (.bool b)) H) h
theorem aqd{c:Nat}{x y:Prop}(h1:97≤c∧c≤122∨65≤c∧c≤90→x)(h2:¬(97≤c∧c≤122∨65≤c∧c≤90)→y) :
  bI (!(cx (c:Int) (.ofNat 97))) (bI (!(cx (.ofNat 122) (c:Int))) x (bI (!(cx (c:Int) (.ofNat 65))) (bI (!(cx (.ofNat 90) (c:Int))) x y) y)) (bI (!(cx (c:Int) (.ofNat 65))) (bI (!(cx (.ofNat 90) (c:Int))) x y) y):=by
 have e1:Int.ofNat 97=97:=rfl;have e2:Int.ofNat 122=122:=rfl;have e3:Int.ofNat 65=65:=rfl;have e4:Int.ofNat 90=90:=rfl;simp only[cz];rw[e1,e2,e3,e4];have low:(97≤c→122<c)→bI (!(decide ((c:Int)<65))) (bI (!(decide (90<(c:Int)))) x y) y:=λhl=>by
  by_cases g3:(c:Int)<65
  ·rw[decide_eq_true g3];exact h2 (by omega)
  ·rw[decide_eq_false g3];simp only[Bool.not_false,aH];by_cases g4:90<(c:Int)
   ·rw[decide_eq_true g4];exact h2 (by omega)
   ·rw[decide_eq_false g4];exact h1 (by omega)
 by_cases g1:(c:Int)<97
 ·rw[decide_eq_true g1];exact low (by omega)
 ·rw[decide_eq_false g1];simp only[Bool.not_false,aH];by_cases g2:122<(c:Int)
  ·rw[decide_eq_true g2];exact low (by omega)
  ·rw[decide_eq_false g2];exact h1 (by omega)
theorem ahK{c:Nat}(h:∀b,(b=true↔LP c)→K (.ret (.bool b)) H):f31 (c:Int) H K:=by
 show DG Lr K (c:Int) H;unfold DG;refine aqd (λg=>h _ ⟨λ_=>by unfold LP;omega,λ_=>rfl⟩) λg=>h _ ?_;have e:Int.ofNat 95=95:=rfl;rw[aZ,e];unfold LP;simp only[decide_eq_true_eq];omega
def eqS(a b:AV):Bool:=match a,b with|.str n x,.str m y=>Nat.beq n m&&Nat.beq x y|_,_=>false
theorem af5(a b:AV):eqS a b=eqS b a:=by
 cases a<;>cases b<;>try rfl
 rename_i n x m y;show(Nat.beq n m&&Nat.beq x y)=(Nat.beq m n&&Nat.beq y x);have c:∀a b:Nat,Nat.beq a b=Nat.beq b a:=λa b=>by
  rw[Bool.eq_iff_iff,Nat.beq_eq,Nat.beq_eq];exact eq_comm
 rw[c n m,c x y]
def tj(l:List AV)(s:AV):Bool:=l.any (eqS s)
theorem aoP{n x:Nat}{a:AV}(h:∃m y,a=.str m y){k:AV→Prop}(hk:k (.bool (eqS (.str n x) a))):uZ a (.str n x) k:=by
 obtain⟨m,y,rfl⟩:=h;rw[af5]at hk;exact hk
theorem aeG{l:List AV}{i:Nat}{a s:AV}(h:l[i]? = some a):tj (l.drop i) s=(eqS s a||tj (l.drop (i+1)) s):=by
 have hi:=(List.getElem?_eq_some_iff.1 h).1;rw[List.drop_eq_getElem_cons hi];have:l[i]=a:=(List.getElem?_eq_some_iff.1 h).2;rw[this];rfl
section
variable {Q:Nat→Prop}{v:AV}{l:List AV}{n x:Nat}
theorem NQ(hM:Mem H S)(hr:jN S Q v l)(hl:l.length≤1000)(hs:∀a∈l,∃m y,a=.str m y)(h1:K (.ret (.bool (tj l (.str n x)))) H) :
  ∀(q i:Nat),i≤l.length→l.length-i<q→tj (l.drop i) (.str n x)=tj l (.str n x)→pB kP K q v (.str n x) i H
 |0,_,_,h,_=>by omega
 |q+1,i,hi,hn,hd=>by
  show vQ kP K (pB kP K q) (yG kP K) v (.str n x) i H;unfold vQ;refine hr.len ?_;simp only[aK,cz];refine bR (λg=>?_) (λg=>?_)
  ·obtain⟨a,ha⟩:∃a,l[i]? = some a:=⟨l[i],List.getElem?_eq_getElem (by omega)⟩
   refine hr.load hM ha (aoP (hs a (List.mem_of_getElem? ha)) ?_);simp only[aN];rw[aeG ha]at hd;cases e:eqS (.str n x) a with
   |true=>
    rw[e,Bool.true_or]at hd;simp only[aH];rw[←hd]at h1;exact h1
   |false=>
    rw[e,Bool.false_or]at hd;simp only[aI,dh,dX];refine w0 (by omega) (by omega) ?_;exact NQ hM hr hl hs h1 q (i+1) (by omega) (by omega) hd
  ·have e:l.drop i=[]:=List.drop_of_length_le (by omega);rw[e]at hd;have hd':tj l (.str n x)=false:=hd.symm;rw[hd']at h1;exact h1
theorem ahL(hM:Mem H S)(hr:jN S Q v l)(hl:l.length≤1000)(hs:∀a∈l,∃m y,a=.str m y)(h1:K (.ret (.bool (tj l (.str n x)))) H):f25 v (.str n x) H K:=by
 show vR kP K (pB kP K G.NL) v (.str n x) H;unfold vR;exact NQ hM hr hl hs h1 G.NL 0 (by omega) (by have:G.NL=1000000:=rfl;omega) rfl
end
theorem aqe{n x:Nat}(hM:Mem H S)(hK:∀H' S',Mem H' S'→Ext S S'→K (.ret (.bool (tj lO (.str n x)))) H'):f32 (.str n x) H K:=by
 have r13:DN=f25:=rfl;show DM DN K (.str n x) H;unfold DM;rw[r13];refine dj hM rfl (λa ha=>by obtain⟨m,y,rfl⟩:=sj a ha;rfl) λH1 h1=>?_;refine ahL (l:=lO) (v:=.slice S.n 0 21 21 1 true) h1 (Q:=λ_=>True) (.inr ⟨S.n,0,21,true,lO,0,rfl,Nat.le_refl _,trivial,LS.av _ _,by decide,rfl⟩) (by decide) sj ?_;simp only[aj,aN];exact hK H1 _ h1 (Ext.push _ _)
end
end Go.Proofs.YtcedghechlgecaaDoor.Lx
namespace Go.X
theorem ajK{l m:List Nat}(h1:l.take 2=m)(h2:m∈lG):kY l=2:=by
 match l with
 |[]=>subst h1;simp[lG]at h2
 |[a]=>subst h1;simp[lG]at h2
 |a::b::r=>
  have e:[a,b]∈lG:=by
   have:(a::b::r).take 2=[a,b]:=rfl;rw[this]at h1;rw[h1];exact h2
  simp only[kY];rw[if_pos e]
theorem ajL{a:Nat}{l:List Nat}(h:∀m∈lG,(a::l).take 2≠m):kY (a::l)=if a∈ones then 1 else 0:=by
 cases l with
 |nil=>rfl
 |cons b r=>
  have e:[a,b]∉lG:=λg=>h _ g rfl;simp only[kY];rw[if_neg e]
theorem af6:∀m∈lG,m.length=2:=by decide
end Go.X
namespace Go.Proofs.YtcedghechlgecaaDoor.Lx
open Go Go.X Go.Proofs.YtcedghechlgecaaDoor Go.Proofs.YtcedghechlgecaaDoor.G
section
variable {H:AH}{S:LS}{K:KF}
theorem Sy:([.str 2 11822,.str 2 15677,.str 2 15742,.str 2 15676,.str 2 15678,.str 2 12079]:List AV)=lG.map ai:=by rfl
theorem aeH{a b:Nat}{r:List Nat}(h:(¬∃v,nh a=some v)∨(¬∃v,nh b=some v)):esc (120::a::b::r)=none:=by
 simp only[esc];rw[if_neg (by omega),if_neg (by omega),if_neg (by omega),if_pos trivial];split
 ·rename_i x y hx hy;rcases h with g|g
  ·exact absurd ⟨_,hx⟩ g
  ·exact absurd ⟨_,hy⟩ g
 ·rfl
end
end Go.Proofs.YtcedghechlgecaaDoor.Lx
namespace Go.X
section
variable {H:AH}{S:LS}
theorem ff.frv{v:AV}{n:Nat}{l:List AV}(h:ff S 1 v n l):dY S v l:=by
 rcases h with⟨rfl,_,rfl⟩|⟨b,c,ex,cs,rfl,h2,h3,h4,h5,h6,h7⟩
 ·exact .inl ⟨rfl,rfl⟩
 ·have e:n=l.length:=by omega
  subst e;exact .inr ⟨b,c,ex,cs,rfl,h2,by omega,h4,h6,h7⟩
theorem PV(l m:List Nat):An (l++m)=An l++An m:=by simp[An]
structure xQ(S0 S:LS)(v:AV)(acc:List Nat):Prop where
 x:Ext S0 S
 fr:ff S 1 v acc.length (An acc)
 own:∀b,ak v b→S0.n≤b
 b8:B8 acc
theorem xQ.push{S0:LS}{v:AV}{acc:List Nat}(h:xQ S0 S v acc)(hM:Mem H S){c:Nat}(hc:c<256)(hl:acc.length≤1000000){k:AV→AH→Prop}(hK:∀H' S' v',Mem H' S'→xQ S0 S' v' (acc++[c])→k v' H') :
  aT (aE H) 1 1 [.int 1 (c:Int)] λx H'=>cO 1 1 v x H' k:=by
 refine BK hM h.fr (by omega) rfl (by omega) (λa ha=>by simp at ha;subst ha;rfl) λH' S' v' h' he=>hK H' S' v' h' ?_;obtain⟨e1,e2⟩:=he.ext h.x h.own;refine⟨e1,?_,e2,h.b8.app (B8.cons hc B8.nil)⟩;rw[PV,List.length_append];exact he.2.2.1
end
end Go.X
namespace Go.Proofs.YtcedghechlgecaaDoor.Lx
open Go Go.X Go.Proofs.YtcedghechlgecaaDoor Go.Proofs.YtcedghechlgecaaDoor.G
section
variable {H:AH}{S:LS}{K:KF}
end
section
variable {H:AH}{S:LS}{K:KF}
structure pc(S0 S:LS)(v:AV)(acc:List Tok)(bt:Nat)(tc:List AV):Prop where
 x:Ext S0 S
 fr:ff S 4 v acc.length (tcs acc)
 own:∀b,ak v b→S0.n≤b
 tb:S.ob bt=.ce tc 0
 tl:tc.length=4
 tn:S0.n≤bt
 ne:¬ak v bt
def PW(K:KF)(S0:LS)(acc:List Tok)(r:List Tok ⊕ Nat):Prop:=match r with
 |.inl ts=>∀H' S' v',Mem H' S'→Ext S0 S'→ff S' 4 v' (acc++ts).length (tcs (acc++ts))→(∀b,ak v' b→S0.n≤b)→K (.ret (.aP [v',.int 0 0,.int 0 0])) H'
 |.inr e=>∀H' S',Mem H' S'→Ext S0 S'→K (.ret (.aP [.ab,.int 0 14,.int 0 (e:Int)])) H'
section
variable {S0:LS}{v:AV}{acc:List Tok}{bt:Nat}{tc:List AV}
theorem pc.ext{S':LS}(h:pc S0 S v acc bt tc)(hM:Mem H S)(hx:Ext S S'):pc S0 S' v acc bt tc:=
 ⟨h.x.trans hx,h.fr.keep hM λb _ hb=>hx.ob b hb,h.own,hx.get hM h.tb,h.tl,h.tn,h.ne⟩
theorem pc.store(h:pc S0 S v acc bt tc)(hM:Mem H S){o:Nat}{a:AV}{k:AH→Prop}(ho:o<4)(ha:a.one=true)(hk:∀H' S',Mem H' S'→pc S0 S' v acc bt (tc.set o a)→k H'):ag o (.ptr bt 0) λp=>ah 1 p a H k:=by
 rw[aM,Nat.zero_add];refine bJ hM h.tb (by omega) (by rw[h.tl];exact ho) ha λH' h'=>?_;refine hk H' _ h' ⟨h.x.set h.tn _,h.fr.keep hM λb hb _=>LS.aq _ _ λe=>?_,h.own,LS.ay _ _ _,by rw[List.length_set];exact h.tl,h.tn,h.ne⟩;subst e;exact h.ne hb
theorem pc.load(h:pc S0 S v acc bt tc)(hM:Mem H S){o:Nat}{a:AV}{k:AV→Prop}(ho:tc[o]? = some a)(hk:k a):ag o (.ptr bt 0) λp=>ad p H k:=by
 rw[aM,Nat.zero_add];exact az hM h.tb ho hk
theorem pc.push(h:pc S0 S v acc bt tc)(hM:Mem H S){t:Tok}(e:tc=t.cs)(hl:acc.length≤100000){k:AV→AH→Prop}(hk:∀H' S' v',Mem H' S'→pc S0 S' v' (acc++[t]) bt tc→k v' H') :
  aQ 4 (.ptr bt 0) H λv1=>onVal v1 λl2=>gK l2 4 (aT (aE H) 1 4 (spl l2 [.int 0 (.ofNat 0),.str 0 0,.int 0 (.ofNat 0),.int 0 (.ofNat 0)] 0) λv3 H4=>cO 4 40 v v3 H4 k):=by
 refine xl hM h.tb (by rw[h.tl];omega) ?_;rw[List.drop_zero,List.take_of_length_le (by rw[h.tl];omega),e];show aT (aE H) 1 4 t.cs λv3 H4=>cO 4 40 v v3 H4 k;refine BK hM h.fr (by omega) rfl (by omega) (λa ha=>?_) λH' S' v' h' he=>?_
 ·simp only[Tok.cs,List.mem_cons,List.not_mem_nil,or_false]at ha;rcases ha with rfl|rfl|rfl|rfl<;>rfl
 ·obtain⟨e1,e2⟩:=he.ext h.x h.own;obtain⟨a1,a2,a3,a4⟩:=he;have hlt:bt<S.n:=hM.lt (by rw[h.tb];simp);have ecs:tcs (acc++[t])=tcs acc++t.cs:=by
   rw[Pm];show tcs acc++(t.cs++[])=_;rw[List.append_nil]
  refine hk H' S' v' h' ⟨e1,by rw[ecs,List.length_append];exact a3,e2,by rw[a2 bt hlt h.ne];exact h.tb,h.tl,h.tn,λg=>?_⟩;rcases a4 bt g with g|g
  ·exact h.ne g
  ·omega
variable {s:List Nat}{p:Nat}{i1:AV→AV→AV→Int→AH→Prop}
theorem suf{s:List Nat}{p c:Nat}{l:List Nat}(h:s.drop p=c::l):s[p]? = some c∧p<s.length∧s.drop (p+1)=l:=by
 have hlt:p<s.length:=by
  rcases Nat.lt_or_ge p s.length with g|g
  ·exact g
  ·rw[List.drop_of_length_le g]at h;cases h
 rw[List.drop_eq_getElem_cons hlt]at h;injection h with h1 h2;exact⟨by rw[List.getElem?_eq_getElem hlt,h1],hlt,h2⟩
theorem take2{c:Nat}{l:List Nat}:(c::l).take ([45,45]:List Nat).length=[45,45]↔c=45∧l.head? = some 45:=by
 show(c::l).take 2=[45,45]↔_;cases l with
 |nil=>simp
 |cons d l=>simp
end
end
end Go.Proofs.YtcedghechlgecaaDoor.Lx
namespace Go.X
theorem y9{f:AV→Bool}{t:List Nat}(hf:∀m,B8 m→f (ai m)=decide (t=m)):∀(ws:List (List Nat)),(∀m∈ws,B8 m)→(ws.map ai).any f=decide (t∈ws)
 |[],h=>rfl
 |m::ws,h=>by
  rw[List.map_cons,List.any_cons,y9 hf ws (λx hx=>h x (by simp[hx])),hf m (h m (by simp)),Bool.eq_iff_iff];simp
theorem ajM{m:Nat}{l t:List Nat}{j:Nat}(h:pw m l t j):¬qq m l:=by
 induction h with
 |stop l=>
  intro g;cases g with
  |line _ h=>exact h rfl
  |one _ _ h=>exact h rfl
  |bad _ h=>exact h rfl
  |esc _ _ _ h=>exact h rfl
 |one c l t j h1 h2 h3 _ ih=>
  intro g;cases g with
  |line _ h=>exact h2 rfl
  |one _ _ _ _ _ g=>exact ih g
  |bad _ h=>exact h3 rfl
  |esc _ _ _ h=>exact h3 rfl
 |esc l t v k j h1 he _ ih=>
  intro g;cases g with
  |one _ _ _ _ h _=>exact h rfl
  |bad _ _ h=>rw[he]at h;cases h
  |esc _ v' k' _ h g=>
   rw[he]at h;cases h;exact ih g
theorem PX{m:Nat}{l t:List Nat}{j:Nat}(h:pw m l t j):∀{t' j'},pw m l t' j'→t'=t∧j'=j:=by
 induction h with
 |stop l=>
  intro t' j' g;cases g with
  |stop=>exact⟨rfl,rfl⟩
  |one _ _ _ _ h=>exact absurd rfl h
  |esc _ _ _ _ _ h=>exact absurd rfl h
 |one c l t j h1 h2 h3 _ ih=>
  intro t' j' g;cases g with
  |stop=>exact absurd rfl h1
  |one _ _ _ _ _ _ _ g=>
   obtain⟨rfl,rfl⟩:=ih g;exact⟨rfl,rfl⟩
  |esc _ _ _ _ _ h=>exact absurd rfl h3
 |esc l t v k j h1 he _ ih=>
  intro t' j' g;cases g with
  |stop=>exact absurd rfl h1
  |one _ _ _ _ _ _ h=>exact absurd rfl h
  |esc _ _ v' k' _ _ h g=>
   rw[he]at h;cases h;obtain⟨rfl,rfl⟩:=ih g;exact⟨rfl,rfl⟩
theorem Hd{l:List Nat}{k:Nat}{t:List Nat}{n j:Nat}(h:mE l k t n j):¬xp l:=by
 intro g;cases h with
 |num c l v h1 h2=>
  cases g with
  |num _ _ _ h=>rw[h2]at h;cases h
  |long _ _ h=>unfold LP at h;unfold DP at h1;omega
  |quo _ _ h=>unfold DP at h1;omega
  |great _ _ _ _ h=>unfold DP at h1;omega
  |sign _ _ h=>exact h h1
 |word c l h1 h2 h3=>
  cases g with
  |num _ _ h=>unfold LP at h1;unfold DP at h;omega
  |long _ _ _ h=>omega
  |quo _ _ h=>unfold LP at h1;omega
  |great _ _ _ _ h=>unfold LP at h1;omega
  |sign _ _ _ h=>exact h h1
 |name c l h1 h2 h3=>
  cases g with
  |num _ _ h=>unfold LP at h1;unfold DP at h;omega
  |long _ _ _ h=>omega
  |quo _ _ h=>unfold LP at h1;omega
  |great _ _ _ _ h=>unfold LP at h1;omega
  |sign _ _ _ h=>exact h h1
 |quo c l t j h1 h2 h3=>
  cases g with
  |num _ _ h=>unfold DP at h;omega
  |long _ _ h=>unfold LP at h;omega
  |quo _ _ _ h=>exact ajM h2 h
  |great _ _ t' j' _ h h4=>
   obtain⟨rfl,rfl⟩:=PX h2 h;omega
  |sign _ _ _ _ h h'=>omega
 |sign c l h1 h2 h3 h4 h5=>
  cases g with
  |num _ _ h=>exact h1 h
  |long _ _ h=>exact h2 h
  |quo _ _ h=>omega
  |great _ _ _ _ h=>omega
  |sign _ _ _ _ _ _ h=>exact h5 h
theorem PY{l:List Nat}{k k':Nat}{t t':List Nat}{n n' j j':Nat}(h:mE l k t n j)(g:mE l k' t' n' j'):k'=k∧t'=t∧n'=n∧j'=j:=by
 cases h with
 |num c l v h1 h2=>
  cases g with
  |num _ _ _ _ h=>rw[h2]at h;cases h;exact⟨rfl,rfl,rfl,rfl⟩
  |word _ _ h=>unfold LP at h;unfold DP at h1;omega
  |name _ _ h=>unfold LP at h;unfold DP at h1;omega
  |quo _ _ _ _ h=>unfold DP at h1;omega
  |sign _ _ h=>exact absurd h1 h
 |word c l h1 h2 h3=>
  cases g with
  |num _ _ _ h=>unfold LP at h1;unfold DP at h;omega
  |word=>exact⟨rfl,rfl,rfl,rfl⟩
  |name _ _ _ _ h=>exact absurd h3 h
  |quo _ _ _ _ h=>unfold LP at h1;omega
  |sign _ _ _ h=>exact absurd h1 h
 |name c l h1 h2 h3=>
  cases g with
  |num _ _ _ h=>unfold LP at h1;unfold DP at h;omega
  |word _ _ _ _ h=>exact absurd h h3
  |name=>exact⟨rfl,rfl,rfl,rfl⟩
  |quo _ _ _ _ h=>unfold LP at h1;omega
  |sign _ _ _ h=>exact absurd h1 h
 |quo c l t j h1 h2 h3=>
  cases g with
  |num _ _ _ h=>unfold DP at h;omega
  |word _ _ h=>unfold LP at h;omega
  |name _ _ h=>unfold LP at h;omega
  |quo _ _ _ _ _ h=>
   obtain⟨rfl,rfl⟩:=PX h2 h;exact⟨rfl,rfl,rfl,rfl⟩
  |sign _ _ _ _ h h'=>omega
 |sign c l h1 h2 h3 h4 h5=>
  cases g with
  |num _ _ _ h=>exact absurd h h1
  |word _ _ h=>exact absurd h h2
  |name _ _ h=>exact absurd h h2
  |quo _ _ _ _ h=>omega
  |sign=>exact⟨rfl,rfl,rfl,rfl⟩
theorem af7:∀m∈lH,B8 m:=λm hm=>bg ((by decide:∀m∈lH,(m.all λc=>Nat.blt c 256)=true) m hm)
end Go.X
namespace Go.Proofs.YtcedghechlgecaaDoor.Lx
open Go Go.X Go.Proofs.YtcedghechlgecaaDoor Go.Proofs.YtcedghechlgecaaDoor.G
section
variable {H:AH}{S:LS}{K:KF}
theorem nA:lO=lH.map ai:=by rfl
theorem aoQ{t:List Nat}(h:B8 t):tj lO (ai t)=decide (t∈lH):=by
 rw[nA];exact y9 (λm hm=>Rg h hm) lH af7
section
variable {S0:LS}{H0:AH}{v:AV}{acc:List Tok}{bt:Nat}{tc:List AV}{s:List Nat}{p:Nat}{i1:AV→AV→AV→Int→AH→Prop}
def badL(K:KF)(S0:LS)(p:Nat):Prop:=∀H' S',Mem H' S'→Ext S0 S'→K (.ret (.aP [.ab,.int 0 14,.int 0 (p:Int)])) H'
theorem PW.tok{k:Nat}{t:List Nat}{n:Nat}{ts:List Tok}(h:PW K S0 acc (.inl (⟨k,t,n,p⟩::ts))):PW K S0 (acc++[⟨k,t,n,p⟩]) (.inl ts):=
 λH' S' v' m x f o=>h H' S' v' m x (by rw[List.append_assoc]at f;exact f) o
end
end
section
variable {H:AH}{S:LS}{K:KF}
theorem arw:np.1=f31:=rfl
theorem arx:np.2=f33:=rfl
section
variable {s:List Nat}{p:Nat}
theorem aeI{c:Nat}{l:List Nat}:(c::l).take 2=[45,45]↔c=45∧l.head? = some 45:=take2
theorem aeJ(h8:B8 s)(hs:s.length≤16384){c:Nat}{l:List Nat}(hd:s.drop p=c::l)(hc:vt c){q:Nat}(hk:eG bZ K q (ai s) ((p+1:Nat):Int) H):eG bZ K (q+1) (ai s) (p:Int) H:=by
 obtain⟨h1,h2,h3⟩:=suf hd;show qW bZ K (eG bZ K q) (vO bZ K (eG bZ K q)) (vM bZ K) (ai s) (p:Int) H;unfold qW;have e32:Int.ofNat 32=32:=rfl;have e9:Int.ofNat 9=9:=rfl;have e10:Int.ofNat 10=10:=rfl;have e13:Int.ofNat 13=13:=rfl;have one:∀{k:Int→Prop},k ((p+1:Nat):Int)→aC 0 (Int.add (p:Int) (.ofNat 1)) k:=λ{k} h=>by
  simp only[dh,dX];exact w0 (by omega) (by omega) h
 simp only[iZ,aK,cz];rw[decide_eq_true (by omega),aH,e32,e9,e10,e13];refine fR h8 h1 ?_;simp only[aK,aZ];refine bR (λ_=>one hk) (λg1=>?_);refine fR h8 h1 ?_;simp only[aK,aZ];refine bR (λ_=>one hk) (λg2=>?_);refine fR h8 h1 ?_;simp only[aK,aZ];refine bR (λ_=>one hk) (λg3=>?_);refine fR h8 h1 ?_;simp only[aK,aZ];refine bR (λ_=>one hk) (λg4=>?_);exfalso;unfold vt at hc;omega
theorem aeK(h8:B8 s)(hs:s.length≤16384){c:Nat}{l:List Nat}(hd:s.drop p=c::l)(hc:¬vt c){q:Nat}(hk:vO bZ K (eG bZ K q) (ai s) (p:Int) H):eG bZ K (q+1) (ai s) (p:Int) H:=by
 obtain⟨h1,h2,h3⟩:=suf hd;show qW bZ K (eG bZ K q) (vO bZ K (eG bZ K q)) (vM bZ K) (ai s) (p:Int) H;unfold qW;have e32:Int.ofNat 32=32:=rfl;have e9:Int.ofNat 9=9:=rfl;have e10:Int.ofNat 10=10:=rfl;have e13:Int.ofNat 13=13:=rfl;unfold vt at hc;simp only[iZ,aK,cz];rw[decide_eq_true (by omega),aH,e32,e9,e10,e13];refine fR h8 h1 ?_;simp only[aK,aZ];rw[decide_eq_false (by omega),aI];refine fR h8 h1 ?_;simp only[aK,aZ];rw[decide_eq_false (by omega),aI];refine fR h8 h1 ?_;simp only[aK,aZ];rw[decide_eq_false (by omega),aI];refine fR h8 h1 ?_;simp only[aK,aZ];rw[decide_eq_false (by omega),aI];exact hk
theorem ajN(hs:s.length≤16384)(hp:s.length≤p){q:Nat}(hk:K (.ret (.int 0 (p:Int))) H):eG bZ K (q+1) (ai s) (p:Int) H:=by
 show qW bZ K (eG bZ K q) (vO bZ K (eG bZ K q)) (vM bZ K) (ai s) (p:Int) H;unfold qW;simp only[iZ,aK,cz];rw[decide_eq_false (by omega),aI];show sN bZ K (p:Int) H;unfold sN;exact hk
theorem A0(h8:B8 s)(hs:s.length≤16384){c:Nat}{l:List Nat}(hd:s.drop p=c::l)(hc:¬vt c)(hr:¬(c=45∧l.head? = some 45)){q:Nat}(hk:K (.ret (.int 0 (p:Int))) H):eG bZ K (q+1) (ai s) (p:Int) H:=by
 obtain⟨h1,h2,h3⟩:=suf hd;refine aeK h8 hs hd hc ?_;show vN bZ K (Lq bZ K (eG bZ K q)) (sN bZ K) (ai s) (p:Int) H;unfold vN sN;have e2:Int.ofNat 2=2:=rfl;simp only[dh,dX,e2];refine w0 (by omega) (by omega) ?_;simp only[iZ,aK,cz];refine bR (λg=>?_) (λ_=>hk);refine w0 (by omega) (by omega) ?_;refine zu (i:=p) (j:=p+2) h8 (by omega) (by omega) ?_;rw[hd,Nat.add_sub_cancel_left];refine xo (m:=[45,45]) (by rw[←hd];exact(h8.drop p).take _) (bg (by decide)) ?_;rw[aN,decide_eq_false (λg=>hr (aeI.1 g)),aI];exact hk
theorem NR(h8:B8 s)(hs:s.length≤16384){e q0:Nat}(hk:eG bZ K q0 (ai s) (e:Int) H):∀(q j:Nat),j≤s.length→s.length-j<q→j+j4 (s.drop j)=e→vK bZ K (eG bZ K q0) q (ai s) (j:Int) H
 |0,_,_,h,_=>by omega
 |q+1,j,hj,hq,he=>by
  show DE bZ K (vK bZ K (eG bZ K q0) q) (eG bZ K q0) (ai s) (j:Int) H;unfold DE;simp only[iZ,aK,cz];refine bR (λg=>?_) (λg=>?_)
  ·have hjl:j<s.length:=by omega
   obtain⟨c,hc⟩:∃c,s[j]? = some c:=⟨_,List.getElem?_eq_getElem hjl⟩
   have hd:s.drop j=c::s.drop (j+1):=by
    rw[List.drop_eq_getElem_cons hjl];rw[(List.getElem?_eq_some_iff.1 hc).2]
   refine fR h8 hc ?_;simp only[aK,aZ];have e10:Int.ofNat 10=10:=rfl;rw[e10];by_cases g2:(c:Int)=10
   ·rw[decide_eq_true g2];simp only[Bool.not_true,aI];have ec:c=10:=by omega
    subst ec;rw[hd]at he;have:j4 (10::s.drop (j+1))=0:=by unfold j4;simp
    rw[this]at he;rw[show j=e by omega];exact hk
   ·rw[decide_eq_false g2];simp only[Bool.not_false,aH,dh,dX];refine w0 (by omega) (by omega) ?_;refine NR h8 hs hk q (j+1) (by omega) (by omega) ?_;rw[hd]at he;have:j4 (c::s.drop (j+1))=j4 (s.drop (j+1))+1:=by
     conv=>lhs;unfold j4
     rw[if_neg (by omega)]
    omega
  ·rw[List.drop_of_length_le (by omega)]at he;have:j=e:=he;subst this;exact hk
theorem SA(h8:B8 s)(hs:s.length≤16384){l:List Nat}(hd:s.drop p=45::45::l){q:Nat}(hk:eG bZ K q (ai s) ((p+j4 (45::45::l):Nat):Int) H):eG bZ K (q+1) (ai s) (p:Int) H:=by
 obtain⟨h1,h2,h3⟩:=suf hd;obtain⟨h4,h5,h6⟩:=suf h3;refine aeK h8 hs hd (by unfold vt;omega) ?_;show vN bZ K (DF bZ K (vK bZ K (eG bZ K q) G.NL)) (sN bZ K) (ai s) (p:Int) H;unfold vN;have e2:Int.ofNat 2=2:=rfl;simp only[dh,dX,e2];refine w0 (by omega) (by omega) ?_;simp only[iZ,aK,cz];rw[decide_eq_true (by omega),aH];refine w0 (by omega) (by omega) ?_;refine zu (i:=p) (j:=p+2) h8 (by omega) (by omega) ?_;rw[hd,Nat.add_sub_cancel_left];refine xo (m:=[45,45]) (by rw[←hd];exact(h8.drop p).take _) (bg (by decide)) ?_;rw[aN,decide_eq_true (aeI.2 ⟨rfl,rfl⟩),aH];unfold DF;exact NR h8 hs hk G.NL p (by omega) (by have:G.NL=1000000:=rfl;omega) (by rw[hd])
theorem aqf(h8:B8 s)(hs:s.length≤16384)(hp:p≤s.length)(hk:K (.ret (.int 0 ((p+gx (s.drop p):Nat):Int))) H):f30 (ai s) (p:Int) H K:=by
 have key:∀(q j:Nat),j≤s.length→s.length-j<q→j+gx (s.drop j)=p+gx (s.drop p)→sP np K q (ai s) (j:Int) H:=by
  intro q
  induction q with
  |zero=>intro j _ h _;omega
  |succ q ih=>
   intro j hj hq he;show DK np K (sP np K q) (DJ np K) (ai s) (j:Int) H;unfold DK DJ;rw[arw,arx];simp only[iZ,aK,cz];refine bR (λg=>?_) (λg=>?_)
   ·have hjl:j<s.length:=by omega
    obtain⟨c,hc⟩:∃c,s[j]? = some c:=⟨_,List.getElem?_eq_getElem hjl⟩
    have hd:s.drop j=c::s.drop (j+1):=by
     rw[List.drop_eq_getElem_cons hjl];rw[(List.getElem?_eq_some_iff.1 hc).2]
    rw[hd]at he;have next:LP c∨DP c→sP np K q (ai s) ((j+1:Nat):Int) H:=λhl=>ih (j+1) (by omega) (by omega) (by
     have:gx (c::s.drop (j+1))=gx (s.drop (j+1))+1:=by
      conv=>lhs;unfold gx
      rw[if_pos hl]
     omega)
    refine fR h8 hc ?_;simp only[aK,dh,dX];refine ahK λb hb=>?_;simp only[aj,aN];refine yn (λeb=>?_) (λeb=>?_)
    ·refine w0 (by omega) (by omega) ?_;exact next (.inl (hb.1 eb))
    ·refine fR h8 hc ?_;simp only[aK];refine IP λb' hb'=>?_;simp only[aj,aN];refine yn (λeb'=>?_) (λeb'=>?_)
     ·refine w0 (by omega) (by omega) ?_;exact next (.inr (hb'.1 eb'))
     ·have:gx (c::s.drop (j+1))=0:=by
       unfold gx;rw[if_neg];rintro(g|g)
       ·have:=hb.2 g;rw[this]at eb;cases eb
       ·have:=hb'.2 g;rw[this]at eb';cases eb'
      rw[this,Nat.add_zero]at he;rw[he];exact hk
   ·rw[List.drop_of_length_le (by omega)]at he;have e:j=p+gx (s.drop p):=he;rw[e];exact hk
 show DL np K (sP np K G.NL) (ai s) (p:Int) H;unfold DL;exact key G.NL p hp (by have:G.NL=1000000:=rfl;omega) rfl
theorem IQ{c:Nat}(hc:c<256)(hk:∀z:Int,(∀v,nh c=some v→z=v)→(nh c=none→z = -1)→K (.ret (.int 0 z)) H):f55 (c:Int) H K:=by
 have r38:pC=f33:=rfl;show DW pC K (DV pC K) (yJ pC K (yI pC K)) (c:Int) H;unfold DW;rw[r38];refine IP λb hb=>?_;simp only[aj,aN];have e48:Int.ofNat 48=48:=rfl;have e97:Int.ofNat 97=97:=rfl;have ary:Int.ofNat 102=102:=rfl;have e65:Int.ofNat 65=65:=rfl;have e70:Int.ofNat 70=70:=rfl;have e10:Int.ofNat 10=10:=rfl;refine yn (λeb=>?_) (λeb=>?_)
 ·have hd:=hb.1 eb;have hd':=hd;unfold DP at hd';rw[kW,e48];refine lF (z':=((c-48:Nat):Int)) (by rw[BH];omega) ?_;refine w0 (by omega) (by omega) ?_;refine hk _ (λv hv=>?_) (λhn=>?_)
  ·unfold nh at hv;rw[if_pos hd]at hv;cases hv;rfl
  ·unfold nh at hn;rw[if_pos hd]at hn;cases hn
 ·have hd:¬DP c:=λg=>by have:=hb.2 g;rw[this]at eb;cases eb
  have big:¬(97≤c∧c≤102)→yJ pC K (yI pC K) (c:Int) H:=λh1=>by
   unfold yJ;have none_:¬(65≤c∧c≤70)→K (.ret (.int 0 (.negSucc 0))) H:=λh2=>hk _ (λv hv=>by
    unfold nh at hv;rw[if_neg hd,if_neg h1,if_neg h2]at hv;cases hv) (λ_=>rfl)
   rw[cz,cz,e65,e70];by_cases g1:(c:Int)<65
   ·rw[decide_eq_true g1];exact none_ (by omega)
   rw[decide_eq_false g1];simp only[Bool.not_false,aH];by_cases g2:(70:Int)<c
   ·rw[decide_eq_true g2];exact none_ (by omega)
   rw[decide_eq_false g2];simp only[Bool.not_false,aH];unfold yI;rw[kW,e65];refine lF (z':=((c-65:Nat):Int)) (by rw[BH];omega) ?_;refine w0 (by omega) (by omega) ?_;rw[dh,e10];refine w0 (by omega) (by omega) ?_;refine hk _ (λv hv=>?_) (λhn=>?_)
   ·unfold nh at hv;rw[if_neg hd,if_neg h1,if_pos (by omega)]at hv;cases hv;omega
   ·unfold nh at hn;rw[if_neg hd,if_neg h1,if_pos (by omega)]at hn;cases hn
  rw[cz,cz,e97,ary];by_cases g1:(c:Int)<97
  ·rw[decide_eq_true g1];exact big (by omega)
  rw[decide_eq_false g1];simp only[Bool.not_false,aH];by_cases g2:(102:Int)<c
  ·rw[decide_eq_true g2];exact big (by omega)
  rw[decide_eq_false g2];simp only[Bool.not_false,aH];unfold DV;rw[kW,e97];refine lF (z':=((c-97:Nat):Int)) (by rw[BH];omega) ?_;refine w0 (by omega) (by omega) ?_;rw[dh,e10];refine w0 (by omega) (by omega) ?_;refine hk _ (λv hv=>?_) (λhn=>?_)
  ·unfold nh at hv;rw[if_neg hd,if_pos (by omega)]at hv;cases hv;omega
  ·unfold nh at hn;rw[if_neg hd,if_pos (by omega)]at hn;cases hn
theorem aqg(h8:B8 s)(hs:s.length≤16384)(h1:∀v,sG s=some v→K (.ret (.aP [.int 0 (v:Int),.bool true])) H)(h2:sG s=none→K (.ret (.aP [.int 0 0,.bool false])) H):f34 (ai s) H K:=by
 have r27:oh=f33:=rfl;have key:∀(q i a:Nat),i≤s.length→s.length-i<q→(∀x∈s.take i,DP x)→uP 0 s=uP a (s.drop i)→a≤9223372036854775809→vS oh K q (ai s) (a:Int) (i:Int) H:=by
  intro q
  induction q with
  |zero=>intro i a _ h _ _ _;omega
  |succ q ih=>
   intro i a hi hq hd hv ha;show DS oh K (DO oh K (vS oh K q)) (DQ oh K) (ai s) (a:Int) (i:Int) H;unfold DS;rw[r27];simp only[iZ,aK,cz];refine bR (λg=>?_) (λg=>?_)
   ·have hil:i<s.length:=by omega
    obtain⟨c,hc⟩:∃c,s[i]? = some c:=⟨_,List.getElem?_eq_getElem hil⟩
    have hc8:=h8 c (List.mem_of_getElem? hc);have hdr:s.drop i=c::s.drop (i+1):=by
     rw[List.drop_eq_getElem_cons hil];rw[(List.getElem?_eq_some_iff.1 hc).2]
    rw[hdr]at hv;refine fR h8 hc ?_;simp only[aK];refine IP λb hb=>?_;simp only[aj,aN];cases b with
    |false=>
     simp only[Bool.not_false,aH];refine h2 ?_;unfold sG;rw[if_neg];rintro⟨g1,_⟩;have:=hb.2 (g1 c (List.mem_of_getElem? hc));cases this
    |true=>
     have hdc:=hb.1 rfl;have arz:=hdc;unfold DP at arz;simp only[Bool.not_true,aI];have eb:Int.ofNat 922337203685477580=922337203685477580:=rfl;have e10:Int.ofNat 10=10:=rfl;have e48:Int.ofNat 48=48:=rfl;rw[eb,e10,e48];refine bR (λg1=>h2 ?_) (λg1=>?_)
     ·unfold sG;rw[if_neg];rintro⟨_,g2⟩;have h3:uP a (c::s.drop (i+1))=uP (a*10+(c-48)) (s.drop (i+1)):=rfl;have h4:=Pp (s.drop (i+1)) (a*10+(c-48));omega
     ·rw[akC];refine w3 ?_;refine fR h8 hc ?_;simp only[aK,kW,dh];refine lF (z':=((c-48:Nat):Int)) (by rw[BH];omega) ?_;refine lF (z':=((c-48:Nat):Int)) (by rw[Rb];omega) ?_;refine lF (z':=((a*10+(c-48):Nat):Int)) (by rw[Rb];omega) ?_;unfold DO;simp only[dh,dX];refine w0 (by omega) (by omega) ?_;refine ih (i+1) (a*10+(c-48)) (by omega) (by omega) (λx hx=>?_) hv (by omega);rw[List.take_add_one,hc]at hx;simp only[List.mem_append,Option.toList]at hx;rcases hx with hx|hx
      ·exact hd x hx
      ·have:x=c:=by simpa using hx
       rw[this];exact hdc
   ·have hall:∀x∈s,DP x:=λx hx=>hd x (by rw[List.take_of_length_le (by omega)];exact hx);rw[List.drop_of_length_le (by omega)]at hv;have hv':uP 0 s=a:=hv;unfold DQ;have em:Int.ofNat 9223372036854775807=9223372036854775807:=rfl;rw[cz,em];refine bR (λg1=>h2 ?_) (λg1=>?_)
    ·unfold sG;rw[if_neg];rintro⟨_,g2⟩;omega
    ·refine w0 (by omega) (by omega) ?_;refine h1 a ?_;unfold sG;rw[if_pos ⟨hall,by omega⟩,hv']
 show DU oh K (vS oh K G.NL) (ai s) H;unfold DU;exact key G.NL 0 0 (Nat.zero_le _) (by have:G.NL=1000000:=rfl;omega) (λx hx=>by simp at hx) rfl (by omega)
end
end
end Go.Proofs.YtcedghechlgecaaDoor.Lx
namespace Go.X
section
variable {H:AH}{S:LS}
theorem ajO{bytes sz n:Nat}{v:AV}{l l':List AV}{k:AV→AH→Prop}(hM:Mem H S)(hs:ff S sz v n l)(hsz:0<sz)(hl':l'.length=sz)(hl:(n+1)*bytes≤1099511627776)(h1:∀a∈l',a.one=true)
  (hK:∀H' S' v',Mem H' S'→rz S v (n+1) sz (l++l') S' v'→k v' H'):aT (aE H) 1 sz l' λx H'=>bT (Nat.beq H'.n (Nat.succ H.n)) (cO sz bytes v x H' k):=by
 refine dj hM (by omega) h1 λH1 m1=>cG (ry (by rw[m1.n,hM.n];rfl)) ?_;have hs1:ff (S.push (.ce l' 0)) sz v n l:=hs.keep hM λb _ hb=>LS.bS _ _ hb;have hlt1:∀b,ak v b→b<S.n:=λb hb=>hs.lt hM hb;refine oZ (ex:=true) (cap:=1) (o:=0) (n:=1) (l:=l') (m:=0) (b:=S.n) (k:=λl=>rr sz bytes 1 _ l H1 k) m1 (LS.av _ _) (by omega) ?_;rw[List.drop_zero,List.take_of_length_le (by omega)];refine yr m1 hs1 hsz (.inl (by omega)) (by omega) hl h1 λH' S' v' h' he=>?_;obtain⟨e1,e2,e3,e4⟩:=he;have e1':S.n+1≤S'.n:=e1;refine hK H' S' v' h' ⟨by omega,λb hb hne=>?_,e3,λb hb=>?_⟩
 ·rw[e2 b (by show b<S.n+1;omega) hne,LS.bS _ _ hb]
 ·rcases e4 b hb with g|g
  ·exact .inl g
  ·have g':S.n+1≤b:=g;exact .inr (by omega)
theorem xQ.Sw{S0:LS}{v:AV}{acc:List Nat}(h:xQ S0 S v acc)(hM:Mem H S){c:Nat}(hc:c<256)(hl:acc.length≤1000000){k:AV→AH→Prop}(hK:∀H' S' v',Mem H' S'→xQ S0 S' v' (acc++[c])→k v' H') :
  aT (aE H) 1 1 [.int 1 (c:Int)] λx H'=>bT (Nat.beq H'.n (Nat.succ H.n)) (cO 1 1 v x H' k):=by
 refine ajO hM h.fr (by omega) rfl (by omega) (λa ha=>by simp at ha;subst ha;rfl) λH' S' v' h' he=>hK H' S' v' h' ?_;obtain⟨e1,e2⟩:=he.ext h.x h.own;refine⟨e1,?_,e2,h.b8.app (B8.cons hc B8.nil)⟩;rw[PV,List.length_append];exact he.2.2.1
end
end Go.X
namespace Go.Proofs.YtcedghechlgecaaDoor.Lx
open Go Go.X Go.Proofs.YtcedghechlgecaaDoor Go.Proofs.YtcedghechlgecaaDoor.G
section
variable {H:AH}{S:LS}{K:KF}
section
variable {s:List Nat}{p:Nat}
theorem aoR:(AV.str 17 20123422373665890509693217210346309823787)=ai ones:=by rfl
theorem aqh(h8:B8 s)(hs:s.length≤16384)(hM:Mem H S){c:Nat}{l:List Nat}(hd:s.drop p=c::l)(hK:∀H' S',Mem H' S'→Ext S S'→K (.ret (.int 0 ((kY (c::l):Nat):Int))) H'):f36 (ai s) (p:Int) H K:=by
 have r29:pD=f25:=rfl;obtain⟨g1,g2,g3⟩:=suf hd;have o8:B8 ones:=bg (by decide);have loop:∀{H:AH}{S1:LS},Mem H S1→Ext S S1→(∀m∈lG,(c::l).take 2≠m)→∀(q i:Nat),i≤17→17-i<q→(∀j,j<i→ones[j]?≠some c)→vW pD K q (ai s) (p:Int) (ai ones) (i:Int) H:=by
  intro H S1 hM hx hno q
  induction q with
  |zero=>intro i _ h _;omega
  |succ q ih=>
   intro i hi hq hn;show Ea pD K (vW pD K q) (D9 pD K) (ai s) (p:Int) (ai ones) (i:Int) H;unfold Ea;simp only[iZ,aK,cz];have hk:=hK H S1 hM hx;rw[ajL hno]at hk;refine bR (λg=>?_) (λg=>?_)
   ·have hil:i<ones.length:=by omega
    obtain⟨d,hdd⟩:∃d,ones[i]? = some d:=⟨_,List.getElem?_eq_getElem hil⟩
    refine fR o8 hdd ?_;simp only[aK];refine fR h8 g1 ?_;simp only[aK,aZ];refine bR (λg4=>?_) (λg4=>?_)
    ·have e:d=c:=by omega
     subst e;rw[if_pos (List.mem_of_getElem? hdd)]at hk;exact hk
    ·simp only[dh,dX];refine w0 (by omega) (by omega) ?_;refine ih (i+1) (by have:ones.length=17:=rfl;omega) (by have:ones.length=17:=rfl;omega) λj hj hjc=>?_;by_cases e:j=i
     ·subst e;rw[hdd]at hjc;cases hjc;exact g4 rfl
     ·exact hn j (by omega) hjc
   ·have hnm:c∉ones:=λhm=>by
     obtain⟨j,hj,e⟩:=List.mem_iff_getElem.1 hm;exact hn j (by omega) (by rw[List.getElem?_eq_getElem hj,e])
    unfold D9;rw[if_neg hnm]at hk;exact hk
 show Eb pD K (vW pD K G.NL) (ai s) (p:Int) H;unfold Eb;have e2:Int.ofNat 2=2:=rfl;rw[r29,aoR];simp only[dh,dX,e2];refine w0 (by omega) (by omega) ?_;simp only[iZ,aK,cz];have hsl:(c::l).length=s.length-p:=by rw[←hd];simp
 refine bR (λg=>?_) (λg=>?_)
 ·rw[Sy];refine dj hM rfl (λa ha=>?_) λH1 m1=>?_
  ·obtain⟨x,_,rfl⟩:=List.mem_map.1 ha;rfl
  ·refine w0 (by omega) (by omega) ?_;refine zu (i:=p) (j:=p+2) h8 (by omega) (by omega) ?_;rw[hd,Nat.add_sub_cancel_left];have NS:B8 ((c::l).take 2):=by rw[←hd];exact(h8.drop p).take 2
   have tw8:∀m∈lG,B8 m:=λm hm=>bg ((by decide:∀m∈lG,(m.all λc=>Nat.blt c 256)=true) m hm);have x1:Ext S (S.push (.ce (lG.map ai) 0)):=Ext.push _ _;have hw:tj (lG.map ai) (ai ((c::l).take 2))=decide ((c::l).take 2∈lG):=y9 (λm hm=>Rg NS hm) lG tw8;refine ahL (l:=lG.map ai) (v:=.slice S.n 0 6 6 1 true) m1 (Q:=λ_=>True) (.inr ⟨S.n,0,6,true,lG.map ai,0,rfl,Nat.le_refl _,trivial,LS.av _ _,by decide,rfl⟩) (by decide) (λa ha=>by obtain⟨x,_,rfl⟩:=List.mem_map.1 ha;exact⟨_,_,rfl⟩) ?_;have hw':tj (lG.map ai) (.str ((c::l).take 2).length (num ((c::l).take 2)))=decide ((c::l).take 2∈lG):=hw;rw[hw',aj,aN];refine bR (λg4=>?_) (λg4=>?_)
   ·have hk:=hK H1 _ m1 x1;rw[ajK rfl g4]at hk;exact hk
   ·exact loop m1 x1 (λm hm e=>g4 (by rw[e];exact hm)) G.NL 0 (by omega) (by have:G.NL=1000000:=rfl;omega) λj hj=>by omega
 ·have hl1:l=[]:=by
   cases l with
   |nil=>rfl
   |cons d r=>simp at hsl;omega
  exact loop hM (Ext.refl S) (λm hm e=>by
   have:=af6 m hm;rw[←e,hl1]at this;simp at this) G.NL 0 (by omega) (by have:G.NL=1000000:=rfl;omega) λj hj=>by omega
def SB(K:KF)(H:AH):Prop:=K (.ret (.aP [.str 0 0,.int 0 0,.bool false])) H
theorem lR{S0:LS}{m i q:Nat}{v:AV}{acc:List Nat}(h8:B8 s)(hi:i≤s.length)(hs:s.length≤16384)(hM:Mem H S)(hB:xQ S0 S v acc)(hal:acc.length≤i)(qw:m≠10)(uS:m≠92)
  (hbad:s.drop i=[]∨((s.drop i).head? = some 10∧10≠m)∨(∃l',s.drop i=92::l'∧92≠m∧esc l'=none)→SB K H)
  (hgood:(s.drop i).head? = some m→K (.ret (.aP [ai acc,.int 0 ((i+1:Nat):Int),.bool (decide (acc.length≤4096))])) H)
  (hone:∀c,(s.drop i).head? = some c→c≠m→c≠10→c≠92→∀H' S' v',Mem H' S'→xQ S0 S' v' (acc++[c])→gp cV K q (ai s) (m:Int) v' ((i+1:Nat):Int) H')
  (aoS:∀l' x k,s.drop i=92::l'→92≠m→esc l'=some (x,k)→∀H' S' v',Mem H' S'→xQ S0 S' v' (acc++[x])→gp cV K q (ai s) (m:Int) v' ((i+k+1:Nat):Int) H') :
  gp cV K (q+1) (ai s) (m:Int) v (i:Int) H:=by
 have r28:cV=f55:=rfl;show D7 cV K (oi cV K (gp cV K q)) (LJ cV K) (LL cV K (gp cV K q)) (ai s) (m:Int) v (i:Int) H;unfold D7
 try simp only[iZ,aK,cz]
 have hnext:∀(n:Nat) (v':AV) (H':AH),(n:Int)≤2000000→gp cV K q (ai s) (m:Int) v' ((n+1:Nat):Int) H'→oi cV K (gp cV K q) (ai s) (m:Int) v' (n:Int) H':=λn v' H' hn h=>by
  unfold oi;simp only[dh,dX];exact w0 (by omega) (by omega) h
 refine bR (λg=>?_) (λg=>hbad (.inl ?_))
 ·have hil:i<s.length:=by omega
  obtain⟨c,hc⟩:∃c,s[i]? = some c:=⟨_,List.getElem?_eq_getElem hil⟩
  have hd:s.drop i=c::s.drop (i+1):=by
   rw[List.drop_eq_getElem_cons hil];rw[(List.getElem?_eq_some_iff.1 hc).2]
  have hhd:(s.drop i).head? = some c:=by rw[hd];rfl
  refine fR h8 hc ?_;have e10:Int.ofNat 10=10:=rfl;have e92:Int.ofNat 92=92:=rfl;have arA:Int.ofNat 110=110:=rfl;have e116:Int.ofNat 116=116:=rfl;have e34:Int.ofNat 34=34:=rfl;have e39:Int.ofNat 39=39:=rfl;have e120:Int.ofNat 120=120:=rfl;have e0:Int.ofNat 0=0:=rfl;have e2:Int.ofNat 2=2:=rfl;have aqi:Int.ofNat 4096=4096:=rfl;simp only[aK,aZ];rw[e10,e92];refine bR (λg3=>hbad (.inr (.inl ?_))) (λg3=>?_)
  ·have ec:c=10:=by omega
   subst ec;exact⟨hhd,λe=>qw e.symm⟩
  refine bR (λg2=>?_) (λg2=>?_)
  ·have ecm:c=m:=by omega
   refine TX hM hB.fr.frv hB.b8 ?_;simp only[dh,dX];refine w0 (by omega) (by omega) ?_;refine hB.fr.len ?_;simp only[aK,cz];have:=hgood (by rw[hhd,ecm]);have e:(!decide (Int.ofNat 4096<(acc.length:Int)))=decide (acc.length≤4096):=by
    rw[Bool.eq_iff_iff,aqi];simp;omega
   rw[e];exact this
  ·have hcm:c≠m:=by omega
   by_cases g4:(c:Int)=92
   ·rw[decide_eq_true g4];have ec:c=92:=by omega
    subst ec;simp only[Bool.not_true,aI,dh,dX];refine w0 (by omega) (by omega) ?_
    try simp only[iZ,aK,cz]
    by_cases g5:((i:Int)+1)<s.length
    ·rw[decide_eq_true g5];simp only[Bool.not_true,aI];have A5:i+1<s.length:=by omega
     obtain⟨d,hdd⟩:∃d,s[i+1]? = some d:=⟨_,List.getElem?_eq_getElem A5⟩
     have hd8:=h8 d (List.mem_of_getElem? hdd);have hd2:s.drop (i+1)=d::s.drop (i+2):=by
      rw[List.drop_eq_getElem_cons A5];rw[(List.getElem?_eq_some_iff.1 hdd).2]
     have sx:∀{k:AV→Prop},k (.int 1 (d:Int))→gX (ai s) (.int 0 ((i:Int)+1)) k:=λhk=>fR (i:=i+1) h8 hdd hk;refine sx ?_;simp only[aK];have IS:esc (d::s.drop (i+2))=none→SB K H:=λhe=>hbad (.inr (.inr ⟨_,hd,hcm,by rw[hd2];exact he⟩));have SC:∀x,esc (d::s.drop (i+2))=some (x,1)→x<256→aT (aE H) 1 1 [.int 1 (x:Int)] λw H'=>cO 1 1 v w H' λv' FV=>oi cV K (gp cV K q) (ai s) (m:Int) v' ((i:Int)+1) FV:=λx he hx=>by
      refine hB.push hM hx (by omega) λH' S' v' h' hB'=>?_;refine hnext (i+1) v' H' (by omega) ?_;exact aoS _ x 1 hd hcm (by rw[hd2];exact he) H' S' v' h' hB'
     show D6 cV K (oi cV K (gp cV K q)) (D0 cV K (gp cV K q)) (ai s) (m:Int) v ((i:Int)+1) (d:Int) H;unfold D6;simp only[aZ];rw[arA,e116,e92,e34,e39];refine bR (λg6=>SC 10 (by simp only[esc];rw[if_pos (by omega)]) (by omega)) (λg6=>?_);refine bR (λg7=>SC 9 (by simp only[esc];rw[if_neg (by omega),if_pos (by omega)]) (by omega)) (λg7=>?_);have mark:d=92∨d=34∨d=39→D0 cV K (gp cV K q) (ai s) (m:Int) v ((i:Int)+1) (d:Int) true H:=λhdm=>by
      show vV cV K (DZ cV K (gp cV K q)) (oi cV K (gp cV K q)) (ai s) (m:Int) v ((i:Int)+1) (d:Int) true H;unfold vV;rw[aH];refine sx ?_;simp only[aK];exact SC d (by simp only[esc];rw[if_neg (by omega),if_neg (by omega),if_pos hdm]) hd8
     refine bR (λg8=>?_) λg8=>bR (λg21=>?_) λg21=>?_
     ·rw[decide_eq_true g8];exact mark (by omega)
     ·rw[decide_eq_true g21];exact mark (by omega)
     by_cases g16:(d:Int)=39
     ·rw[decide_eq_true g16];exact mark (by omega)
     rw[decide_eq_false g16];show vV cV K (DZ cV K (gp cV K q)) (oi cV K (gp cV K q)) (ai s) (m:Int) v ((i:Int)+1) (d:Int) false H;unfold vV;rw[aI,aZ,e120];refine bR (λg11=>?_) (λg11=>IS ?_)
     ·have ed:d=120:=by omega
      subst ed;simp only[dh,e2,dX];refine w0 (by omega) (by omega) ?_
      try simp only[iZ,aK,cz]
      by_cases g50:((i:Int)+1+2)<s.length
      ·rw[decide_eq_true g50];simp only[Bool.not_true,aI];have aoT:i+2<s.length:=by omega
       have aoU:i+3<s.length:=by omega
       obtain⟨a,haa⟩:∃a,s[i+2]? = some a:=⟨_,List.getElem?_eq_getElem aoT⟩
       obtain⟨b,hbb⟩:∃b,s[i+3]? = some b:=⟨_,List.getElem?_eq_getElem aoU⟩
       have hd3:s.drop (i+2)=a::b::s.drop (i+4):=by
        rw[List.drop_eq_getElem_cons aoT,List.drop_eq_getElem_cons aoU];rw[(List.getElem?_eq_some_iff.1 haa).2,(List.getElem?_eq_some_iff.1 hbb).2]
       have ha8:=h8 a (List.mem_of_getElem? haa);have hb8:=h8 b (List.mem_of_getElem? hbb);have sa:∀{k:AV→Prop},k (.int 1 (a:Int))→gX (ai s) (.int 0 ((i:Int)+1+1)) k:=λhk=>by
        have:=fR (q:=0) (i:=i+2) h8 haa hk;rw[show((i+2:Nat):Int)=(i:Int)+1+1 by omega]at this;exact this
       have sb:∀{k:AV→Prop},k (.int 1 (b:Int))→gX (ai s) (.int 0 ((i:Int)+1+2)) k:=λhk=>by
        have:=fR (q:=0) (i:=i+3) h8 hbb hk;rw[show((i+3:Nat):Int)=(i:Int)+1+2 by omega]at this;exact this
       refine w0 (by omega) (by omega) ?_;refine sa ?_;simp only[aK];rw[r28];refine IQ ha8 λz hz1 hz2=>?_;simp only[aj,aK,cz];rw[e0];cases ea:nh a with
       |none=>
        have:=hz2 ea;rw[decide_eq_true (by omega),aH];exact IS (by rw[hd3];exact aeH (.inl (by rw[ea];rintro⟨x,hx⟩;cases hx)))
       |some x=>
        have hzx:=hz1 x ea;have hx16:=zx ea;rw[decide_eq_false (by omega),aI];refine w0 (by omega) (by omega) ?_;refine sb ?_;simp only[aK];refine IQ hb8 λz' hz1' hz2'=>?_;simp only[aj,aK,cz];cases eb:nh b with
        |none=>
         have:=hz2' eb;rw[decide_eq_true (by omega),aH];exact IS (by rw[hd3];exact aeH (.inr (by rw[eb];rintro⟨x,hx⟩;cases hx)))
        |some y=>
         have hzy:=hz1' y eb;have arB:=zx eb;rw[decide_eq_false (by omega),aI];show DY cV K (LK cV K (gp cV K q)) (ai s) (m:Int) v ((i:Int)+1) H;unfold DY;rw[r28];simp only[dh,e2,dX];refine w0 (by omega) (by omega) ?_;refine sa ?_;simp only[aK];refine w0 (by omega) (by omega) ?_;refine sb ?_;simp only[aK];refine IQ ha8 λw hw1 _=>?_;have hwx:=hw1 x ea;simp only[aj,aK];have shl:∀{k:AV→Prop},k (.int 0 ((16*x:Nat):Int))→Qs 0 (.int 0 w) (.int 3 (.ofNat 4)) k:=λ{k} hk=>by
          rw[hwx];show bT (Nat.beq 0 0) (aC 0 (Int.mul (x:Int) (.ofNat (Nat.pow 2 (Nat.min 4 64)))) λz=>k (.int 0 z));refine cG rfl ?_;have e:(Nat.pow 2 (Nat.min 4 64))=16:=rfl;rw[e,akC];refine lF (z:=(x:Int)*Int.ofNat 16) (z':=((16*x:Nat):Int)) ?_ hk;have e16:Int.ofNat 16=16:=rfl;rw[e16,Ra (by omega) (by omega)];omega
         refine shl ?_;simp only[aK];refine IQ hb8 λw' arC _=>?_;have hwy:=arC y eb;simp only[aj,aK];rw[aY,aY,hwy];have arD:Nat.lor (nQ 0 ((16*x:Nat):Int)) (nQ 0 (y:Int))=16*x+y:=by
          show(16*x) ||| y=_;exact(by decide +kernel:∀x,x<16→∀y,y<16→((16*x) ||| y)=16*x+y) x hx16 y arB
         rw[arD];refine lF (z:=Int.ofNat (16*x+y)) (z':=((16*x+y:Nat):Int)) (by rw[Ra (by show(_:Int)≤((16*x+y:Nat):Int);omega) (by show((16*x+y:Nat):Int)<_;omega)];rfl) ?_;refine lF (z:=((16*x+y:Nat):Int)) (z':=((16*x+y:Nat):Int)) (by rw[BH];omega) ?_;refine hM.cP (hB.Sw hM (by omega) (by omega) λH' S' v' h' hB'=>?_);show DX cV K (oi cV K (gp cV K q)) (ai s) (m:Int) v' ((i:Int)+1) H';unfold DX;simp only[dh,e2];refine w0 (by omega) (by omega) ?_;have:=hnext (i+3) v' H' (by omega) (aoS _ (16*x+y) 3 hd hcm (by
          rw[hd2,hd3];simp only[esc];rw[if_neg (by omega),if_neg (by omega),if_neg (by omega),if_pos trivial,ea,eb]) H' S' v' h' hB')
         rw[show((i+3:Nat):Int)=(i:Int)+1+2 by omega]at this;exact this
      ·rw[decide_eq_false g50];simp only[Bool.not_false,aH];refine IS ?_;simp only[esc];rw[if_neg (by omega),if_neg (by omega),if_neg (by omega),if_pos trivial];have hlen:(s.drop (i+2)).length≤1:=by simp;omega
       match hx:s.drop (i+2),hlen with
       |[],_=>rfl
       |[a],_=>rfl
       |a::b::r,h=>simp at h
     ·simp only[esc];rw[if_neg (by omega),if_neg (by omega),if_neg (by omega),if_neg (by omega)]
    ·rw[decide_eq_false g5];simp only[Bool.not_false,aH];refine hbad (.inr (.inr ⟨_,hd,hcm,?_⟩));rw[List.drop_of_length_le (by omega)];rfl
   ·rw[decide_eq_false g4];simp only[Bool.not_false,aH];refine hB.push hM (h8 c (List.mem_of_getElem? hc)) (by omega) λH' S' v' h' hB'=>?_;refine hnext i v' H' (by omega) ?_;exact hone c hhd hcm (by omega) (by omega) H' S' v' h' hB'
 ·exact List.drop_of_length_le (by omega)
end
end
section
variable {H:AH}{S:LS}{K:KF}
section
variable {s:List Nat}{p:Nat}
theorem ajP{S0:LS}{m:Nat}(h8:B8 s)(hlen:s.length≤16384)(qw:m≠10)(uS:m≠92){l t:List Nat}{j:Nat}(hq:pw m l t j) :
  ∀(q i:Nat) (acc:List Nat) (v:AV) (H:AH) (S:LS),l=s.drop i→i≤s.length→s.length-i<q→Mem H S→xQ S0 S v acc→acc.length≤i→
   (∀H' S',Mem H' S'→Ext S0 S'→K (.ret (.aP [ai (acc++t),.int 0 ((i+j:Nat):Int),.bool (decide ((acc++t).length≤4096))])) H')→gp cV K q (ai s) (m:Int) v i H:=by
 induction hq with
 |stop l=>
  intro q i acc v H S hl hi hq hM hB ha hg;obtain⟨q,rfl⟩:∃p,q=p+1:=⟨q-1,by omega⟩
  rw[List.append_nil]at hg;refine lR h8 hi hlen hM hB ha qw uS (λh=>?_) (λ_=>hg H S hM hB.x) (λc h hc=>?_) (λl' x k h hm=>?_)
  ·rw[←hl]at h;rcases h with h|⟨h,h'⟩|⟨l',h,h',_⟩
   ·cases h
   ·simp at h;exact absurd h.symm h'
   ·injection h with h1;exact absurd h1.symm h'
  ·rw[←hl]at h;simp at h;exact absurd h.symm hc
  ·rw[←hl]at h;injection h with h1;exact absurd h1.symm hm
 |one c l t j hm h10 HY hq' ih=>
  intro q i acc v H S hl hi hq hM hB ha hg;obtain⟨q,rfl⟩:∃p,q=p+1:=⟨q-1,by omega⟩
  have hil:i<s.length:=by
   rcases Nat.lt_or_ge i s.length with g|g
   ·exact g
   ·rw[List.drop_of_length_le g]at hl;cases hl
  have hl':l=s.drop (i+1):=by
   rw[←List.drop_drop,←hl];rfl
  have e:∀x:List Nat,(acc++[c])++x=acc++c::x:=λx=>by simp
  refine lR h8 hi hlen hM hB ha qw uS (λh=>?_) (λh=>?_) (λd h _ _ _ H' S' v' h' hB'=>?_) (λl' x k h hm=>?_)
  ·rw[←hl]at h;rcases h with h|⟨h,h'⟩|⟨l',h,h',_⟩
   ·cases h
   ·simp at h;exact absurd h h10
   ·injection h with h1;exact absurd h1 HY
  ·rw[←hl]at h;simp at h;exact absurd h hm
  ·rw[←hl]at h;have hdc:c=d:=by simpa using h
   subst hdc;refine ih q (i+1) (acc++[c]) v' H' S' hl' (by omega) (by omega) h' hB' (by simp;omega) ?_;rw[e,show i+1+j=i+(j+1) by omega];exact hg
  ·rw[←hl]at h;injection h with h1;exact absurd h1 HY
 |esc l t x k j HY he hq' ih=>
  intro q i acc v H S hl hi hq hM hB ha hg;obtain⟨q,rfl⟩:∃p,q=p+1:=⟨q-1,by omega⟩
  have hil:i<s.length:=by
   rcases Nat.lt_or_ge i s.length with g|g
   ·exact g
   ·rw[List.drop_of_length_le g]at hl;cases hl
  have hl':l=s.drop (i+1):=by
   rw[←List.drop_drop,←hl];rfl
  have hk:=zw he;have hkl:i+1+k≤s.length:=by
   have:l.length=s.length-(i+1):=by rw[hl'];simp
   omega
  have e:∀y:List Nat,(acc++[x])++y=acc++x::y:=λy=>by simp
  refine lR h8 hi hlen hM hB ha qw uS (λh=>?_) (λh=>?_) (λd h _ _ NT=>?_) (λl' x' k' h _ he' H' S' v' h' hB'=>?_)
  ·rw[←hl]at h;rcases h with h|⟨h,h'⟩|⟨l',h,h',hn⟩
   ·cases h
   ·simp at h
   ·injection h with _ h1;subst h1;rw[he]at hn;cases hn
  ·rw[←hl]at h;simp at h;exact absurd h.symm HY
  ·rw[←hl]at h;have hdc:92=d:=by simpa using h
   exact absurd hdc.symm NT
  ·rw[←hl]at h;injection h with _ h1;subst h1;rw[he]at he';cases he';refine ih q (i+k+1) (acc++[x]) v' H' S' (by rw[hl',List.drop_drop];congr 1;omega) (by omega) (by omega) h' hB' (by simp;omega) ?_;rw[e,show i+k+1+j=i+(k+j+1) by omega];exact hg
theorem ajQ{S0:LS}{m:Nat}(h8:B8 s)(hlen:s.length≤16384)(qw:m≠10)(uS:m≠92){l:List Nat}(hq:qq m l) :
  ∀(q i:Nat) (acc:List Nat) (v:AV) (H:AH) (S:LS),l=s.drop i→i≤s.length→s.length-i<q→Mem H S→xQ S0 S v acc→acc.length≤i→
   (∀H' S',Mem H' S'→Ext S0 S'→SB K H')→gp cV K q (ai s) (m:Int) v i H:=by
 induction hq with
 |nil=>
  intro q i acc v H S hl hi hq hM hB ha hb;obtain⟨q,rfl⟩:∃p,q=p+1:=⟨q-1,by omega⟩
  refine lR h8 hi hlen hM hB ha qw uS (λ_=>hb H S hM hB.x) (λh=>?_) (λc h hc=>?_) (λl' x k h hm=>?_)<;>(rw[←hl]at h;cases h)
 |line l qw=>
  intro q i acc v H S hl hi hq hM hB ha hb;obtain⟨q,rfl⟩:∃p,q=p+1:=⟨q-1,by omega⟩
  refine lR h8 hi hlen hM hB ha qw uS (λ_=>hb H S hM hB.x) (λh=>?_) (λc h _ hc=>?_) (λl' x k h hm=>?_)
  ·rw[←hl]at h;simp at h;exact absurd h.symm qw
  ·rw[←hl]at h;simp at h;exact absurd h.symm hc
  ·rw[←hl]at h;injection h with h1;cases h1
 |one c l hm h10 HY hq' ih=>
  intro q i acc v H S hl hi hq hM hB ha hb;obtain⟨q,rfl⟩:∃p,q=p+1:=⟨q-1,by omega⟩
  have hil:i<s.length:=by
   rcases Nat.lt_or_ge i s.length with g|g
   ·exact g
   ·rw[List.drop_of_length_le g]at hl;cases hl
  have hl':l=s.drop (i+1):=by
   rw[←List.drop_drop,←hl];rfl
  refine lR h8 hi hlen hM hB ha qw uS (λ_=>hb H S hM hB.x) (λh=>?_) (λd h _ _ _ H' S' v' h' hB'=>?_) (λl' x k h hm=>?_)
  ·rw[←hl]at h;simp at h;exact absurd h hm
  ·exact ih q (i+1) _ v' H' S' hl' (by omega) (by omega) h' hB' (by simp;omega) hb
  ·rw[←hl]at h;injection h with h1;exact absurd h1 HY
 |bad l hm he=>
  intro q i acc v H S hl hi hq hM hB ha hb;obtain⟨q,rfl⟩:∃p,q=p+1:=⟨q-1,by omega⟩
  refine lR h8 hi hlen hM hB ha qw uS (λ_=>hb H S hM hB.x) (λh=>?_) (λd h _ _ NT=>?_) (λl' x' k' h _ he'=>?_)
  ·rw[←hl]at h;simp at h;exact absurd h.symm hm
  ·rw[←hl]at h;have hdc:92=d:=by simpa using h
   exact absurd hdc.symm NT
  ·rw[←hl]at h;injection h with _ h1;subst h1;rw[he]at he';cases he'
 |esc l x k HY he hq' ih=>
  intro q i acc v H S hl hi hq hM hB ha hb;obtain⟨q,rfl⟩:∃p,q=p+1:=⟨q-1,by omega⟩
  have hil:i<s.length:=by
   rcases Nat.lt_or_ge i s.length with g|g
   ·exact g
   ·rw[List.drop_of_length_le g]at hl;cases hl
  have hl':l=s.drop (i+1):=by
   rw[←List.drop_drop,←hl];rfl
  have hk:=zw he;have hkl:i+1+k≤s.length:=by
   have:l.length=s.length-(i+1):=by rw[hl'];simp
   omega
  refine lR h8 hi hlen hM hB ha qw uS (λ_=>hb H S hM hB.x) (λh=>?_) (λd h _ _ NT=>?_) (λl' x' k' h _ he' H' S' v' h' hB'=>?_)
  ·rw[←hl]at h;simp at h;exact absurd h.symm HY
  ·rw[←hl]at h;have hdc:92=d:=by simpa using h
   exact absurd hdc.symm NT
  ·rw[←hl]at h;injection h with _ h1;subst h1;rw[he]at he';cases he';exact ih q (i+k+1) _ v' H' S' (by rw[hl',List.drop_drop];congr 1;omega) (by omega) (by omega) h' hB' (by simp;omega) hb
theorem aqj{m:Nat}{l:List Nat}(h8:B8 s)(hs:s.length≤16384)(hd:s.drop p=m::l)(hm:m=34∨m=39)(hM:Mem H S)
  (hg:∀t j,pw m l t j→∀H' S',Mem H' S'→Ext S S'→K (.ret (.aP [ai t,.int 0 ((p+1+j:Nat):Int),.bool (decide (t.length≤4096))])) H')
  (hb:qq m l→∀H' S',Mem H' S'→Ext S S'→SB K H'):f35 (ai s) (p:Int) H K:=by
 obtain⟨g1,g2,g3⟩:=suf hd;show D8 cV K (gp cV K G.NL) (ai s) (p:Int) H;unfold D8;refine fR h8 g1 ?_;simp only[aK,dh,dX];refine w0 (by omega) (by omega) ?_;have hB:xQ S S .ab []:=⟨Ext.refl S,ff.nil S 1,λ_ h=>h.elim,B8.nil⟩
 have gu:G.NL=1000000:=rfl;rcases BL (m:=m) (by omega) (by omega) (l.length+1) l (by omega)with⟨t,j,hq⟩|hq
 ·exact ajP h8 hs (by omega) (by omega) hq G.NL (p+1) [] .ab H S g3.symm (by omega) (by omega) hM hB (by simp) (hg t j hq)
 ·exact ajQ h8 hs (by omega) (by omega) hq G.NL (p+1) [] .ab H S g3.symm (by omega) (by omega) hM hB (by simp) (hb hq)
end
end
section
variable {H:AH}{S:LS}{K:KF}
theorem arE:bq.2.2.2.1=f32:=rfl
theorem aoV:bq.1=f29:=rfl
theorem arF:bq.2.1=f30:=rfl
theorem arG:bq.2.2.1=f31:=rfl
theorem arH:bq.2.2.2.2.1=f33:=rfl
theorem arI:bq.2.2.2.2.2.1=f34:=rfl
theorem arJ:bq.2.2.2.2.2.2.1=f35:=rfl
theorem arK:bq.2.2.2.2.2.2.2=f36:=rfl
structure xR(S0 S:LS)(v:AV)(acc:List Tok):Prop where
 x:Ext S0 S
 fr:ff S 4 v acc.length (tcs acc)
 own:∀b,ak v b→S0.n≤b
theorem pc.j{S0:LS}{v:AV}{acc:List Tok}{bt:Nat}{tc:List AV}(h:pc S0 S v acc bt tc):xR S0 S v acc:=⟨h.x,h.fr,h.own⟩
theorem xR.new{S0:LS}{v:AV}{acc:List Tok}{c0 c1:List AV}(hJ:xR S0 S v acc)(hM:Mem H S)(h4:c1.length=4):pc S0 ((S.push (.ce c0 0)).set S.n (.ce c1 0)) v acc S.n c1:=by
 have lt:∀b,ak v b→b<S.n:=λb hb=>hJ.fr.lt hM hb;exact⟨(hJ.x.trans (Ext.push S _)).set hJ.x.n _,hJ.fr.keep hM λb hb hlt=>by
   rw[LS.aq _ _ (by have:=lt b hb;omega),LS.bS _ _ hlt],hJ.own,LS.ay _ _ _,h4,hJ.x.n,λg=>by have:=lt _ g;omega⟩
noncomputable def wM(K:KF)(s:List Nat)(q:Nat)(v:AV):KF:=λo H=>cR K o H λv5=>cI 0 v5 λz=>eH bq K q (ai s) v z H
theorem aqk{t:List Nat}(h:B8 t)(hM:Mem H S)(hK:∀H' S',Mem H' S'→Ext S S'→K (.ret (.bool (decide (t∈lH)))) H'):f32 (ai t) H K:=by
 refine aqe hM λH' S' h' x'=>?_;have:=aoQ h;unfold ai at this;rw[this];exact hK H' S' h' x'
section
variable {S0:LS}{H0:AH}{v:AV}{acc:List Tok}{bt:Nat}{tc:List AV}{s:List Nat}{p q:Nat}
theorem xG(hs:s.length≤16384)(hM:Mem H S){t:Tok}(hI:pc S0 S v acc bt t.cs)(hal:acc.length≤100000){e:Nat}(hk:∀H' S' v',Mem H' S'→xR S0 S' v' (acc++[t])→eG bZ (wM K s q v') G.NL (ai s) (e:Int) H') :
  nq bq K (eH bq K q) (ai s) v (.ptr bt 0) (e:Int) H:=by
 show Ec bq K (eH bq K q) (ai s) v (.ptr bt 0) (e:Int) H;unfold Ec;rw[aoV];refine hI.push hM rfl hal λH' S' v' h' i'=>?_;show vP bZ (wM K s q v') (eG bZ (wM K s q v') G.NL) (ai s) (e:Int) H';unfold vP;exact hk H' S' v' h' i'.j
theorem af8(h8:B8 s)(hs:s.length≤16384)(hp:p≤s.length)(hM:Mem H S){t:List Nat}(NS:B8 t){e:Nat}(het:e=p+t.length)(hes:e≤s.length)(hI:pc S0 S v acc bt (Tok.cs ⟨2,t,0,p⟩))(hal:acc.length≤100000)
  (h1:t.length≤32→∀k,(k=1∧t∈lH∨k=2∧t∉lH)→∀H' S' v',Mem H' S'→xR S0 S' v' (acc++[⟨k,t,0,p⟩])→eG bZ (wM K s q v') G.NL (ai s) (e:Int) H')
  (h2:32<t.length→badL K S0 p):yL bq K (eH bq K q) (ai s) v (p:Int) (.ptr bt 0) (e:Int) H:=by
 show Eg bq K (Ef bq K (eH bq K q)) (ai s) v (p:Int) (.ptr bt 0) (e:Int) H;unfold Eg;have e32:Int.ofNat 32=32:=rfl;have last:∀{H:AH}{S:LS}(k:Nat),Mem H S→pc S0 S v acc bt (Tok.cs ⟨k,t,0,p⟩)→(k=1∧t∈lH∨k=2∧t∉lH)→Ef bq K (eH bq K q) (ai s) v (p:Int) (.ptr bt 0) (e:Int) H:=λ{H S} k hM hI hk=>by
  show Ee bq K (nq bq K (eH bq K q)) (ai s) v (p:Int) (.ptr bt 0) (e:Int) H;unfold Ee;rw[kW];refine w0 (by omega) (by omega) ?_;rw[cz,e32];refine bR (λg=>h2 (by omega) H S hM hI.x) (λg=>?_);exact xG (t:=⟨k,t,0,p⟩) hs hM hI hal (h1 (by omega) k hk)
 refine hI.load hM rfl ?_;rw[arE];refine aqk NS hM λH2 S2 m2 x2=>?_;simp only[aj,aN];have i2:=hI.ext hM x2;refine bR (λg=>?_) (λg=>last 2 m2 i2 (.inr ⟨rfl,g⟩));refine i2.store m2 (by omega) rfl λH3 S3 m3 i3=>?_;exact last 1 m3 i3 (.inl ⟨rfl,g⟩)
theorem ajR(h8:B8 s)(hs:s.length≤16384)(hM:Mem H S){t:List Nat}{e:Nat}(hpe:p≤e)(hes:e≤s.length)(ht:(s.drop p).take (e-p)=t)(hI:pc S0 S v acc bt (Tok.cs ⟨3,[],0,p⟩))(hal:acc.length≤100000)
  (h1:∀n,sG t=some n→∀H' S' v',Mem H' S'→xR S0 S' v' (acc++[⟨3,[],n,p⟩])→eG bZ (wM K s q v') G.NL (ai s) (e:Int) H')
  (h2:sG t=none→badL K S0 p):yM bq K (eH bq K q) (ai s) v (p:Int) (.ptr bt 0) (e:Int) H:=by
 show Eh bq K (nq bq K (eH bq K q)) (ai s) v (p:Int) (.ptr bt 0) (e:Int) H;unfold Eh;refine zu (i:=p) (j:=e) h8 hpe hes ?_;rw[arI,ht];have NS:B8 t:=by rw[←ht];exact(h8.drop p).take _
 have hlt:t.length≤16384:=by rw[←ht];simp;omega
 refine aqg NS hlt (λn hn=>?_) (λhn=>?_)
 ·simp only[aj,ky,me,mf,aK,aN,Bool.not_true,aI];refine hI.store hM (by omega) rfl λH1 S1 m1 i1=>?_;exact xG (t:=⟨3,[],n,p⟩) hs m1 i1 hal (h1 n hn)
 ·simp only[aj,ky,me,mf,aK,aN,Bool.not_false,aH];exact h2 hn H S hM hI.x
theorem SD(h8:B8 s)(hs:s.length≤16384)(hM:Mem H S){c:Nat}{l:List Nat}(hd:s.drop p=c::l)(hc:c=34∨c=39)(hI:pc S0 S v acc bt (Tok.cs ⟨0,[],0,p⟩))(hal:acc.length≤100000)
  (h1:∀t j,pw c l t j→t.length≤4096→∀H' S' v',Mem H' S'→xR S0 S' v' (acc++[⟨4,t,0,p⟩])→eG bZ (wM K s q v') G.NL (ai s) ((p+(j+1):Nat):Int) H')
  (h2:(qq c l∨∃t j,pw c l t j∧4096<t.length)→badL K S0 p):vZ bq K (eH bq K q) (ai s) v (p:Int) (.ptr bt 0) H:=by
 show Ed bq K (LY bq K (eH bq K q)) (ai s) v (p:Int) (.ptr bt 0) H;unfold Ed;rw[arJ];refine aqj h8 hs hd hc hM (λt j hq H2 S2 m2 x2=>?_) (λhb H2 S2 m2 x2=>?_)
 ·simp only[aj,ky,me,mf,aK,aN];have i2:=hI.ext hM x2;show vY bq K (nq bq K (eH bq K q)) (ai s) v (p:Int) (.ptr bt 0) (ai t) ((p+1+j:Nat):Int) (decide (t.length≤4096)) H2;unfold vY;by_cases g:t.length≤4096
  ·rw[decide_eq_true g];simp only[Bool.not_true,aI];refine i2.store m2 (by omega) rfl λH3 S3 m3 i3=>?_;refine i3.store m3 (by omega) rfl λH4 S4 m4 i4=>?_;refine xG (t:=⟨4,t,0,p⟩) hs m4 i4 hal ?_;rw[show p+1+j=p+(j+1) by omega];exact h1 t j hq g
  ·rw[decide_eq_false g];simp only[Bool.not_false,aH];exact h2 (.inr ⟨t,j,hq,by omega⟩) H2 S2 m2 i2.x
 ·show cR K (.ret (.aP [.str 0 0,.int 0 0,.bool false])) H2 _;simp only[aj,ky,me,mf,aK,aN];have i2:=hI.ext hM x2;show vY bq K (nq bq K (eH bq K q)) (ai s) v (p:Int) (.ptr bt 0) (.str 0 0) 0 false H2;unfold vY;simp only[Bool.not_false,aH];exact h2 (.inl hb) H2 S2 m2 i2.x
theorem af9(h8:B8 s)(hs:s.length≤16384)(hM:Mem H S){c:Nat}{l:List Nat}(hd:s.drop p=c::l)(hI:pc S0 S v acc bt (Tok.cs ⟨0,[],0,p⟩))(hal:acc.length≤100000)
  (h1:kY (c::l)≠0→∀H' S' v',Mem H' S'→xR S0 S' v' (acc++[⟨5,(c::l).take (kY (c::l)),0,p⟩])→eG bZ (wM K s q v') G.NL (ai s) ((p+kY (c::l):Nat):Int) H')
  (h2:kY (c::l)=0→badL K S0 p):yN bq K (eH bq K q) (ai s) v (p:Int) (.ptr bt 0) H:=by
 show Ek bq K (G0 bq K (eH bq K q)) (ai s) v (p:Int) (.ptr bt 0) H;unfold Ek;obtain⟨g1,g2,g3⟩:=suf hd;rw[arK];have hsg:=TY (c::l);have hsl:(c::l).length=s.length-p:=by rw[←hd];simp
 refine aqh h8 hs hM hd λH1 S1 m1 x1=>?_;simp only[aj,aK];have i1:=hI.ext hM x1;show zP bq K (nq bq K (eH bq K q)) (ai s) v (p:Int) (.ptr bt 0) ((kY (c::l):Nat):Int) H1;unfold zP;have e0:Int.ofNat 0=0:=rfl;rw[aZ,e0];refine bR (λg=>h2 (by omega) H1 S1 m1 i1.x) (λg=>?_);simp only[dh];refine w0 (by omega) (by omega) ?_;refine zu (i:=p) (j:=p+kY (c::l)) h8 (by omega) (by omega) ?_;refine w0 (by omega) (by omega) ?_;rw[hd,Nat.add_sub_cancel_left];refine i1.store m1 (by omega) rfl λH3 S3 m3 i3=>?_;refine i3.store m3 (by omega) rfl λH4 S4 m4 i4=>?_;exact xG (t:=⟨5,(c::l).take (kY (c::l)),0,p⟩) (e:=p+kY (c::l)) hs m4 i4 hal (h1 (by omega))
theorem za(h8:B8 s)(hs:s.length≤16384)(hM:Mem H S){c:Nat}{l:List Nat}(hd:s.drop p=c::l)(hJ:xR S0 S v acc)(hal:acc.length≤100000)
  (h1:∀k t n j,mE (c::l) k t n j→∀H' S' v',Mem H' S'→xR S0 S' v' (acc++[⟨k,t,n,p⟩])→eG bZ (wM K s q v') G.NL (ai s) ((p+j:Nat):Int) H')
  (h2:xp (c::l)→badL K S0 p):eH bq K (q+1) (ai s) v (p:Int) H:=by
 show wa bq K (vZ bq K (eH bq K q)) (yL bq K (eH bq K q)) (yM bq K (eH bq K q)) (Ej bq K) (yN bq K (eH bq K q)) (ai s) v (p:Int) H;unfold wa;obtain⟨g1,g2,g3⟩:=suf hd;have hrl:=vu (c::l);have hsl:(c::l).length=s.length-p:=by rw[←hd];simp
 have e34:Int.ofNat 34=34:=rfl;have e39:Int.ofNat 39=39:=rfl;simp only[iZ,aK,cz];rw[decide_eq_true (by omega),aH,arF,arG,arH,e34,e39];refine eT (dp hM (λa ha=>?_) λH1 m1=>?_)
 ·simp only[List.mem_cons,List.not_mem_nil,or_false]at ha;rcases ha with rfl|rfl|rfl|rfl<;>rfl
 refine oY m1 (LS.av _ _) (by omega) rfl (by show 0+4≤4;omega) (λa ha=>?_) λH2 m2=>?_
 ·simp only[List.mem_cons,List.not_mem_nil,or_false]at ha;rcases ha with rfl|rfl|rfl|rfl<;>rfl
 have m2:Mem H2 ((S.push (.ce [.int 0 (.ofNat 0),.str 0 0,.int 0 (.ofNat 0),.int 0 (.ofNat 0)] 0)).set S.n (.ce (Tok.cs ⟨0,[],0,p⟩) 0)):=m2;have i2:=hJ.new hM (c0:=[.int 0 (.ofNat 0),.str 0 0,.int 0 (.ofNat 0),.int 0 (.ofNat 0)]) (c1:=Tok.cs ⟨0,[],0,p⟩) rfl;refine aqf h8 hs (by omega) ?_;simp only[aj,aK];rw[hd];have arL:((c::l).take (gx (c::l))).length=gx (c::l):=by rw[List.length_take];omega
 have NS:B8 ((c::l).take (gx (c::l))):=by rw[←hd];exact(h8.drop p).take _
 refine fR h8 g1 ?_;simp only[aK];refine ahK λb hb=>?_;simp only[aj,aN];refine yn (λeb=>?_) (λeb=>?_)
 ·have hlp:=hb.1 eb;refine zu (i:=p) (j:=p+gx (c::l)) h8 (by omega) (by omega) ?_;rw[hd,Nat.add_sub_cancel_left];refine i2.store m2 (by omega) rfl λH3 S3 m3 i3=>?_;refine i3.store m3 (by omega) rfl λH4 S4 m4 i4=>?_;refine af8 h8 hs (by omega) m4 NS (by rw[arL]) (by omega) i4 hal (λht k hk=>?_) (λht=>h2 (.long c l hlp (by omega)));rcases hk with⟨rfl,hk⟩|⟨rfl,hk⟩
  ·exact h1 _ _ _ _ (.word c l hlp (by omega) hk)
  ·exact h1 _ _ _ _ (.name c l hlp (by omega) hk)
 ·have hnl:¬LP c:=λg=>by have:=hb.2 g;rw[this]at eb;cases eb
  refine fR h8 g1 ?_;simp only[aK];refine IP λb' hb'=>?_;simp only[aj,aN];refine yn (λeb'=>?_) (λeb'=>?_)
  ·have hdp:=hb'.1 eb';refine i2.store m2 (by omega) rfl λH3 S3 m3 i3=>?_;refine ajR (t:=(c::l).take (gx (c::l))) h8 hs m3 (by omega) (by omega) (by rw[hd,Nat.add_sub_cancel_left]) i3 hal (λn hn=>h1 _ _ _ _ (.num c l n hdp hn)) (λhn=>h2 (.num c l hdp hn))
  ·have hnd:¬DP c:=λg=>by have:=hb'.2 g;rw[this]at eb';cases eb'
   have quo:c=34∨c=39→vZ bq K (eH bq K q) (ai s) v (p:Int) (.ptr S.n 0) H2:=λhc=>by
    refine SD h8 hs m2 hd hc i2 hal (λt j hq ht=>h1 _ _ _ _ (.quo c l t j hc hq ht)) (λhb=>?_);rcases hb with hb|⟨t,j,hq,ht⟩
    ·exact h2 (.quo c l hc hb)
    ·exact h2 (.great c l t j hc hq ht)
   refine fR h8 g1 ?_;simp only[aK,aZ];refine bR (λg4=>quo (by omega)) (λg4=>?_);refine fR h8 g1 ?_;simp only[aK,aZ];refine bR (λg5=>quo (by omega)) (λg5=>?_);exact af9 h8 hs m2 hd i2 hal (λhz=>h1 _ _ _ _ (.sign c l hnd hnl (by omega) (by omega) hz)) (λhz=>h2 (.sign c l hnd hnl (by omega) (by omega) hz))
theorem ajS(hs:s.length≤16384)(hM:Mem H S)(hJ:xR S0 S v acc)(hp:p=s.length)(hal:acc.length≤100000)(hP:PW K S0 acc (.inl [⟨0,[],0,p⟩])):eH bq K (q+1) (ai s) v (p:Int) H:=by
 show wa bq K (vZ bq K (eH bq K q)) (yL bq K (eH bq K q)) (yM bq K (eH bq K q)) (Ej bq K) (yN bq K (eH bq K q)) (ai s) v (p:Int) H;unfold wa;simp only[iZ,aK,cz];rw[decide_eq_false (by omega),aI];show Ei bq K (ai s) v H;unfold Ei;simp only[iZ,aK];subst hp;refine BK (l':=Tok.cs ⟨0,[],0,s.length⟩) hM hJ.fr (by omega) rfl (by omega) (λa ha=>?_) λH' S' v' h' he=>?_
 ·simp only[Tok.cs,List.mem_cons,List.not_mem_nil,or_false]at ha;rcases ha with rfl|rfl|rfl|rfl<;>rfl
 ·obtain⟨e1,e2⟩:=he.ext hJ.x hJ.own;have ecs:tcs (acc++[⟨0,[],0,s.length⟩])=tcs acc++Tok.cs ⟨0,[],0,s.length⟩:=by
   rw[Pm];show tcs acc++(Tok.cs _++[])=_;rw[List.append_nil]
  exact hP H' S' v' h' e1 (by rw[ecs,List.length_append];exact he.2.2.1) e2
theorem Ad{H:AH}(h:eH bq K q (ai s) v (p:Int) H):wM K s q v (.ret (.int 0 (p:Int))) H:=by
 unfold wM;rw[aj,aK];exact h
theorem ajT(h8:B8 s)(hs:s.length≤16384){l:List Nat}{p:Nat}{r:List Tok ⊕ Nat}(hr:jl l p r) :
  l=s.drop p→p≤s.length→∀(q m:Nat),s.length-p<q→s.length-p<m→∀(acc:List Tok) (v:AV) (H:AH) (S:LS),Mem H S→xR S0 S v acc→acc.length≤p→PW K S0 acc r→
   eG bZ (wM K s q v) m (ai s) (p:Int) H:=by
 have gu:G.NL=1000000:=rfl
 induction hr with
 |nil p=>
  intro hl hp q m hq hm acc v H S hM hJ ha hP;obtain⟨m,rfl⟩:∃n,m=n+1:=⟨m-1,by omega⟩
  obtain⟨q,rfl⟩:∃n,q=n+1:=⟨q-1,by omega⟩
  have hps:p=s.length:=by
   have:=congrArg List.length hl;simp at this;omega
  exact ajN hs (by omega) (Ad (ajS hs hM hJ hps (by omega) hP))
 |blank c l p r hc _ ih=>
  intro hl hp q m hq hm acc v H S hM hJ ha hP;obtain⟨m,rfl⟩:∃n,m=n+1:=⟨m-1,by omega⟩
  obtain⟨g1,g2,g3⟩:=suf hl.symm;exact aeJ h8 hs hl.symm hc (ih g3.symm (by omega) q m (by omega) (by omega) acc v H S hM hJ (by omega) hP)
 |remark l p r _ ih=>
  intro hl hp q m hq hm acc v H S hM hJ ha hP;obtain⟨m,rfl⟩:∃n,m=n+1:=⟨m-1,by omega⟩
  obtain⟨g1,g2,g3⟩:=suf hl.symm;have hll:=AU (45::45::l);have h1:1≤j4 (45::45::l):=by unfold j4;simp
  have hsl:(45::45::l).length=s.length-p:=by rw[hl];simp
  refine SA h8 hs hl.symm ?_;exact ih (by rw[hl,List.drop_drop]) (by omega) q m (by omega) (by omega) acc v H S hM hJ (by omega) hP
 |wrong c l p h1 h2 hn=>
  intro hl hp q m hq hm acc v H S hM hJ ha hP;obtain⟨m,rfl⟩:∃n,m=n+1:=⟨m-1,by omega⟩
  obtain⟨q,rfl⟩:∃n,q=n+1:=⟨q-1,by omega⟩
  obtain⟨g1,g2,g3⟩:=suf hl.symm;refine A0 h8 hs hl.symm h1 h2 (Ad ?_);refine za h8 hs hM hl.symm hJ (by omega) (λk t n j ht=>?_) (λ_=>hP);exact absurd hn (Hd ht)
 |tok c l p k t n j ts h1 h2 ht _ ih=>
  intro hl hp q m hq hm acc v H S hM hJ ha hP;obtain⟨m,rfl⟩:∃n,m=n+1:=⟨m-1,by omega⟩
  obtain⟨q,rfl⟩:∃n,q=n+1:=⟨q-1,by omega⟩
  obtain⟨g1,g2,g3⟩:=suf hl.symm;have hj:=ht.len;have hsl:(c::l).length=s.length-p:=by rw[hl];simp
  refine A0 h8 hs hl.symm h1 h2 (Ad ?_);refine za h8 hs hM hl.symm hJ (by omega) (λk' t' n' j' ht' H2 S2 v2 m2 i2=>?_) (λhn=>absurd hn (Hd ht));obtain⟨rfl,rfl,rfl,rfl⟩:=PY ht ht';exact ih (by rw[hl,List.drop_drop]) (by omega) q G.NL (by omega) (by omega) _ v2 H2 S2 m2 i2 (by simp;omega) hP.tok
 |bad c l p k t n j e h1 h2 ht _ ih=>
  intro hl hp q m hq hm acc v H S hM hJ ha hP;obtain⟨m,rfl⟩:∃n,m=n+1:=⟨m-1,by omega⟩
  obtain⟨q,rfl⟩:∃n,q=n+1:=⟨q-1,by omega⟩
  obtain⟨g1,g2,g3⟩:=suf hl.symm;have hj:=ht.len;have hsl:(c::l).length=s.length-p:=by rw[hl];simp
  refine A0 h8 hs hl.symm h1 h2 (Ad ?_);refine za h8 hs hM hl.symm hJ (by omega) (λk' t' n' j' ht' H2 S2 v2 m2 i2=>?_) (λhn=>absurd hn (Hd ht));obtain⟨rfl,rfl,rfl,rfl⟩:=PY ht ht';exact ih (by rw[hl,List.drop_drop]) (by omega) q G.NL (by omega) (by omega) _ v2 H2 S2 m2 i2 (by simp;omega) hP
theorem aql(h8:B8 s)(hs:s.length≤16384)(hM:Mem H S){r:List Tok ⊕ Nat}(hr:jl s 0 r)(hP:PW K S [] r):f16 (ai s) H K:=by
 show El bq K (eH bq K G.NL) (ai s) H;unfold El;simp only[iZ,aK,cz];have e:Int.ofNat 16384=16384:=rfl;rw[e,decide_eq_false (by omega),aI,aoV];show vP bZ (wM K s G.NL .ab) (eG bZ (wM K s G.NL .ab) G.NL) (ai s) ((0:Nat):Int) H;unfold vP;have gu:G.NL=1000000:=rfl;exact ajT h8 hs hr rfl (Nat.zero_le _) G.NL G.NL (by omega) (by omega) [] .ab H S hM ⟨Ext.refl S,ff.nil _ _,λ_ h=>h.elim⟩ (Nat.le_refl _) hP
end
end
end Go.Proofs.YtcedghechlgecaaDoor.Lx
namespace Go.Proofs.YtcedghechlgecaaDoor
open Go Go.X Go.Proofs.YtcedghechlgecaaDoor.G
section
variable {H:AH}{S:LS}{K:KF}
noncomputable def R9:pA:=(f16,f17,f18)
noncomputable def g7:AV→AH→KF→Prop:=RL R9
theorem arM{s:List Nat}{r:List Tok ⊕ Nat}(h8:B8 s)(hs:s.length≤5000)(hr:jl s 0 r)(hM:Mem H S)(hP:ScP K S (uR r)):g7 (ai s) H K:=
 aru (R:=R9) (F:=f16) rfl rfl rfl h8 hs hr hM (λq=>Lx.aql h8 (by omega) hM hr (by cases r<;>exact q)) hP
end
end Go.Proofs.YtcedghechlgecaaDoor
