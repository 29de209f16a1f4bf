/- Scope of both, the law ScopeChecks over texts as lists. No condition: lemmas. -/
import Derived.Test.YtcedghechlgecaaDoorLa
set_option maxRecDepth 100000
set_option maxHeartbeats 0
set_option linter.unusedVariables false
set_option linter.unusedSimpArgs false
namespace Go.X
section
variable {S S':LS}{H:AH}
def nR(S:LS):Nat→Prop:=λx=>x<S.n
theorem eu.at_{Q:Nat→Prop}{sz n:Nat}{v:AV}{cl:Nat→List AV}{i q:Nat}{k:AV→Prop}(h:eu S Q sz v n cl)(hi:i<n)(hk:∀b o cs m,Q b→S.ob b=.ce cs m→o+sz≤cs.length→(cs.drop o).take sz=cl i→k (.ptr b o)):bb sz v (.int q i) k:=by
 rcases h with⟨rfl,rfl⟩|⟨b,o,c,ex,cs,m,rfl,h1,h3,h4,h5,h6⟩
 ·omega
 ·refine ng (by omega) (by omega) ?_;rw[Int.toNat_natCast];have hle:(i+1)*sz≤n*sz:=Nat.mul_le_mul_right _ (by omega);rw[Nat.add_mul,Nat.one_mul]at hle;exact hk b _ cs m h1 h3 (by omega) (h6 i hi)
theorem eu.uB{Q:Nat→Prop}{n:Nat}{v:AV}{f:Nat→AV}{i q:Nat}{k:AV→Prop}(h:eu S Q 1 v n (λi=>[f i]))(hM:Mem H S)(hi:i<n)(hk:k (f i)):bb 1 v (.int q i) λp=>ad p H k:=by
 refine h.at_ hi λb o cs m _ h3 h4 h5=>az hM h3 ?_ hk;have:((cs.drop o).take 1)[0]? = [f i][0]?:=by rw[h5]
 rw[List.getElem?_take,if_pos (by omega),List.getElem?_drop,Nat.add_zero]at this;exact this
theorem iA.same{Q:Nat→Prop}{c:List AV}{s:aA}(h:iA S Q c s):bu (.agg c) (.agg c)=true:=by
 cases h with
 |mk kind at_ names l bs vn vl vb cl bv bc g1 g2 _ g4 _ _=>
  refine Nz λa ha=>?_;simp only[List.mem_cons,List.not_mem_nil,or_false]at ha;rcases ha with rfl|rfl|rfl|rfl|rfl<;>first|exact xm _ _|exact g1.1.same|exact g2.same|exact g4.same
def At(S:LS)(Q:Nat→Prop)(v:AV)(bs:List (List aA)):Prop:=∃bv:Nat→AV,eu S Q 1 v bs.length (λi=>[bv i])∧∀(i:Nat) (b:List aA),bs[i]? = some b→fY S Q (bv i) b
def HZ(S:LS)(Q:Nat→Prop)(v:AV)(f:List eV):Prop:=∃cf:Nat→List AV,eu S Q 2 v f.length cf∧∀(i:Nat) (g:eV),f[i]? = some g→RF S Q (cf i) g
theorem iA.out{Q:Nat→Prop}{c:List AV}{kind at_:Nat}{names:List (List Nat)}{l:List al}{bs:List (List aA)}(h:iA S Q c (.mk kind at_ names l bs)):∃vn vl vb,c=[.int 0 kind,.int 0 at_,vn,vl,vb]∧kl S Q vn names∧oq S Q vl l∧At S Q vb bs:=by
 cases h with
 |mk _ _ _ _ _ vn vl vb cl bv bc g1 g2 g3 g4 g5 g6=>exact⟨vn,vl,vb,rfl,g1,⟨cl,g2,g3⟩,⟨bv,g4,λi b hb=>⟨bc i,g5 i b hb,λj s hs=>g6 i b j s hb hs⟩⟩⟩
theorem RE.out{Q:Nat→Prop}{c:List AV}{kind at_ n op:Nat}{s:List Nat}{l:List al}{f:List eV}(h:RE S Q c (.mk kind at_ n s op l f)):∃vl vf,c=[.int 0 kind,.int 0 at_,.int 0 n,ai s,.int 0 op,vl,vf]∧B8 s∧oq S Q vl l∧HZ S Q vf f:=by
 cases h with
 |mk _ _ _ _ _ _ _ vl vf cl cf g1 g2 g3 g4 g5=>exact⟨vl,vf,rfl,g1,⟨cl,g2,g3⟩,⟨cf,g4,g5⟩⟩
theorem RF.out{Q:Nat→Prop}{c:List AV}{ps:List (List Nat)}{body:List aA}(h:RF S Q c (.mk ps body)):∃vp vb,c=[vp,vb]∧kl S Q vp ps∧fY S Q vb body:=by
 cases h with
 |mk _ _ vp vb cb g1 g2 g3=>exact⟨vp,vb,rfl,g1,⟨cb,g2,g3⟩⟩
theorem eu.ext{sz n:Nat}{v:AV}{cl:Nat→List AV}(h:eu S (nR S) sz v n cl)(hx:Ext S S'):eu S' (nR S') sz v n cl:=h.go (λb hb=>hx.ob b hb) λb hb=>Nat.lt_of_lt_of_le hb hx.n
theorem kl.ext{v:AV}{l:List (List Nat)}(h:kl S (nR S) v l)(hx:Ext S S'):kl S' (nR S') v l:=⟨h.1.ext hx,h.2⟩
theorem RE.ext{c:List AV}{e:al}(h:RE S (nR S) c e)(hx:Ext S S'):RE S' (nR S') c e:=h.go (λb hb=>hx.ob b hb) λb hb=>Nat.lt_of_lt_of_le hb hx.n
theorem RF.ext{c:List AV}{e:eV}(h:RF S (nR S) c e)(hx:Ext S S'):RF S' (nR S') c e:=h.go (λb hb=>hx.ob b hb) λb hb=>Nat.lt_of_lt_of_le hb hx.n
theorem iA.ext{c:List AV}{e:aA}(h:iA S (nR S) c e)(hx:Ext S S'):iA S' (nR S') c e:=h.go (λb hb=>hx.ob b hb) λb hb=>Nat.lt_of_lt_of_le hb hx.n
theorem fY.ext{v:AV}{l:List aA}(h:fY S (nR S) v l)(hx:Ext S S'):fY S' (nR S') v l:=by
 obtain⟨cl,g1,g2⟩:=h;exact⟨cl,g1.ext hx,λi e he=>(g2 i e he).ext hx⟩
theorem oq.ext{v:AV}{l:List al}(h:oq S (nR S) v l)(hx:Ext S S'):oq S' (nR S') v l:=by
 obtain⟨cl,g1,g2⟩:=h;exact⟨cl,g1.ext hx,λi e he=>(g2 i e he).ext hx⟩
theorem At.ext{v:AV}{l:List (List aA)}(h:At S (nR S) v l)(hx:Ext S S'):At S' (nR S') v l:=by
 obtain⟨cl,g1,g2⟩:=h;exact⟨cl,g1.ext hx,λi e he=>(g2 i e he).ext hx⟩
theorem HZ.ext{v:AV}{l:List eV}(h:HZ S (nR S) v l)(hx:Ext S S'):HZ S' (nR S') v l:=by
 obtain⟨cl,g1,g2⟩:=h;exact⟨cl,g1.ext hx,λi e he=>(g2 i e he).ext hx⟩
theorem al.pV(e:al):1≤e.sz:=by cases e;simp only[al.sz];omega
theorem aA.pV(e:aA):1≤e.sz:=by cases e;simp only[aA.sz];omega
theorem eV.pV(e:eV):1≤e.sz:=by cases e;simp only[eV.sz];omega
theorem j2:∀{l:List al}{i:Nat}{e:al},l[i]? = some e→e.sz≤bB l
 |[],i,e,h=>by simp at h
 |a::l,0,e,h=>by simp at h;subst h;simp only[bB];omega
 |a::l,i+1,e,h=>by have:=j2 (l:=l) (i:=i) (e:=e) (by simpa using h);simp only[bB];omega
theorem A6:∀{l:List aA}{i:Nat}{e:aA},l[i]? = some e→e.sz≤dO l
 |[],i,e,h=>by simp at h
 |a::l,0,e,h=>by simp at h;subst h;simp only[dO];omega
 |a::l,i+1,e,h=>by have:=A6 (l:=l) (i:=i) (e:=e) (by simpa using h);simp only[dO];omega
theorem tm:∀{l:List eV}{i:Nat}{e:eV},l[i]? = some e→e.sz≤lM l
 |[],i,e,h=>by simp at h
 |a::l,0,e,h=>by simp at h;subst h;simp only[lM];omega
 |a::l,i+1,e,h=>by have:=tm (l:=l) (i:=i) (e:=e) (by simpa using h);simp only[lM];omega
theorem lY:∀{l:List (List aA)}{i:Nat}{e:List aA},l[i]? = some e→1+dO e≤fI l
 |[],i,e,h=>by simp at h
 |a::l,0,e,h=>by simp at h;subst h;simp only[fI];omega
 |a::l,i+1,e,h=>by have:=lY (l:=l) (i:=i) (e:=e) (by simpa using h);simp only[fI];omega
theorem nB:∀l:List al,l.length≤bB l
 |[]=>Nat.le_refl _
 |a::l=>by have:=nB l;have:=a.pV;simp only[bB,List.length_cons];omega
theorem A7:∀l:List aA,l.length≤dO l
 |[]=>Nat.le_refl _
 |a::l=>by have:=A7 l;have:=a.pV;simp only[dO,List.length_cons];omega
theorem A8:∀l:List eV,l.length≤lM l
 |[]=>Nat.le_refl _
 |a::l=>by have:=A8 l;have:=a.pV;simp only[lM,List.length_cons];omega
theorem oH:∀l:List (List aA),l.length≤fI l
 |[]=>Nat.le_refl _
 |a::l=>by have:=oH l;simp only[fI,List.length_cons];omega
end
section
variable {S S':LS}{H:AH}
theorem eu.fld{Q:Nat→Prop}{sz n j:Nat}{v a:AV}{cl:Nat→List AV}{i q:Nat}{k:AV→Prop}(h:eu S Q sz v n cl)(hM:Mem H S)(hi:i<n)(hj:j<sz)(ha:(cl i)[j]? = some a)(hk:k a):bb sz v (.int q i) λp=>ag j p λp'=>ad p' H k:=by
 refine h.at_ hi λb o cs m _ h3 h4 h5=>?_;rw[aM];refine az hM h3 ?_ hk;rw[←h5,List.getElem?_take,if_pos hj,List.getElem?_drop]at ha;exact ha
end
section
variable {S S':LS}{H:AH}
end
section
variable {S S':LS}{H:AH}
theorem fY.done{lo:Nat}{v:AV}{l:List aA}(h:iR mG lo S v l)(hM:Mem H S):fY S (jd lo S.n) v l:=h.done hM
theorem oq.done{lo:Nat}{v:AV}{l:List al}(h:iR ku lo S v l)(hM:Mem H S):oq S (jd lo S.n) v l:=h.done hM
theorem HZ.done{lo:Nat}{v:AV}{l:List eV}(h:iR aq2 lo S v l)(hM:Mem H S):HZ S (jd lo S.n) v l:=h.done hM
theorem At.done{lo:Nat}{v:AV}{l:List (List aA)}(h:iR tf lo S v l)(hM:Mem H S):At S (jd lo S.n) v l:=by
 obtain⟨cl,g1,g2⟩:=h.done hM;refine⟨λi=>(cl i).headD .ab,g1.congr λi hi=>?_,λi b hb=>?_⟩
 ·obtain⟨v,bc,e,_⟩:=g2 i _ (List.getElem?_eq_getElem hi);show cl i=[(cl i).headD .ab];rw[e];rfl
 ·obtain⟨v,bc,e,q1,q2⟩:=g2 i b hb;show fY S (jd lo S.n) ((cl i).headD .ab) b;rw[e];exact⟨bc,q1,q2⟩
theorem rn{α:Type}{l:List α}{i:Nat}{a:α}(h:l[i]? = some a):l.take (i+1)=l.take i++[a]:=by
 rw[List.take_add_one,h];rfl
theorem iR.ext{α:Type}{R:Rep α}{lo:Nat}{v:AV}{l:List α}(h:iR R lo S v l)(hM:Mem H S)(hx:Ext S S'):iR R lo S' v l:=h.keep hM hx.n λb _ hb=>hx.ob b hb
end
section
variable {S:LS}{H:AH}
theorem ahM{sz b o n c i j:Nat}{ex:Bool}{lo hi:Option AV}{k:AV→Prop}(hij:i≤j)(hj:j≤c)(hlo:lo=some (.int 0 i)∨lo=none∧i=0)(hhi:hi=some (.int 0 j)∨hi=none∧j=n)(hk:k (.slice b (o+i*sz) (j-i) (c-i) sz ex)):fx sz (.slice b o n c sz ex) lo hi none k:=by
 have go:bT (Nat.ble i j) (bT (Nat.ble j c) (bT (Nat.ble c c) (bD (Nat.add o (Nat.mul i sz)) λo'=>bD (Nat.sub j i) λn=>bD (Nat.sub c i) λc'=>k (.slice b o' n c' sz (ex||Option.isSome (none:Option AV)))))):=by
  refine cG (Nat.ble_eq_true_of_le hij) (cG (Nat.ble_eq_true_of_le hj) (cG (Nat.ble_eq_true_of_le (Nat.le_refl _)) ?_));simp only[aY,Option.isSome_none,Bool.or_false];exact hk
 rcases hlo with rfl|⟨rfl,rfl⟩<;>rcases hhi with rfl|⟨rfl,rfl⟩<;>(show bT (Nat.beq sz sz) _;exact cG (Nat.beq_refl _) go)
theorem fY.part{Q:Nat→Prop}{v:AV}{a b:List aA}{lo hi:Option AV}{i j:Nat}{k:AV→Prop}(h:fY S Q v a)(hij:i≤j)(hj:j≤a.length)(hlo:lo=some (.int 0 (i:Int))∨lo=none∧i=0)(hhi:hi=some (.int 0 (j:Int))∨hi=none∧j=a.length)(hb:b=(a.drop i).take (j-i))
  (hk:∀v',fY S Q v' b→k v'):fx 5 v lo hi none k:=by
 obtain⟨cl,g1,g2⟩:=h;have hbl:b.length=j-i:=by rw[hb,List.length_take,List.length_drop];omega
 have hbg:∀n e,b[n]? = some e→a[i+n]? = some e:=λn e he=>by
  have hn:=(List.getElem?_eq_some_iff.1 he).1;rw[hb,List.getElem?_take,if_pos (by omega),List.getElem?_drop]at he;exact he
 rcases g1 with⟨rfl,e0⟩|⟨bk,o,c,ex,cs,m,rfl,q1,q2,q3,q4,q5⟩
 ·have ei:i=0:=by omega
  have ej:j=0:=by omega
  subst ei;subst ej;have:fx 5 .ab lo hi none k↔k .ab:=by
   rcases hlo with rfl|⟨rfl,_⟩<;>rcases hhi with rfl|⟨rfl,_⟩<;>exact Iff.rfl
  rw[this];exact hk _ ⟨λ_=>[],.inl ⟨rfl,by omega⟩,λn e he=>by
   have:=(List.getElem?_eq_some_iff.1 he).1;omega⟩
 ·have hle:i*5+(j-i)*5≤a.length*5:=by rw[←Nat.add_mul];exact Nat.mul_le_mul_right _ (by omega)
  refine ahM hij (by omega) hlo hhi (hk _ ⟨λn=>cl (i+n),.inr ⟨bk,o+i*5,c-i,ex,cs,m,by rw[hbl],q1,q2,by omega,by rw[hbl];omega,λn hn=>?_⟩,λn e he=>g2 _ e (hbg n e he)⟩);have:=q5 (i+n) (by omega);rw[Nat.add_mul,←Nat.add_assoc]at this;exact this
end
section
variable {H:AH}{S S':LS}
theorem uC{Q:Nat→Prop}{v:AV}{l:List (List Nat)}(h:kl S Q v l):jN S Q v (l.map ai):=by
 obtain⟨h1,_⟩:=h;rcases h1 with⟨rfl,e0⟩|⟨b,o,c,ex,cs,m,rfl,q1,q2,q3,q4,q5⟩
 ·exact .inl ⟨rfl,by rw[List.length_eq_zero_iff.1 e0];rfl⟩
 ·refine .inr ⟨b,o,c,ex,cs,m,by rw[List.length_map],by rw[List.length_map];exact q3,q1,q2,by rw[List.length_map];omega,?_⟩;refine List.ext_getElem? λi=>?_;rw[List.length_map,List.getElem?_take,List.getElem?_map];by_cases hi:i<l.length
  ·rw[if_pos hi,List.getElem?_drop,List.getElem?_eq_getElem hi];have g:=q5 i hi;have g0:((cs.drop (o+i*1)).take 1)[0]? = [ai (l[i]?.getD [])][0]?:=by rw[g]
   rw[List.getElem?_take,if_pos (by omega),List.getElem?_drop,Nat.add_zero,Nat.mul_one,List.getElem?_eq_getElem hi]at g0;exact g0
  ·rw[if_neg hi,List.getElem?_eq_none (by omega)];rfl
theorem PZ(l:List (List Nat)):∀a∈l.map ai,a.one=true:=by
 intro a ha;obtain⟨t,_,rfl⟩:=List.mem_map.1 ha;rfl
structure j3(lo b:Nat)(S:LS)(vn vo:AV)(ns out:List (List Nat)):Prop where
 ob:S.ob b=.ce [vn,vo] 0
 fn:dY S vn (ns.map ai)
 fo:dY S vo (out.map ai)
 n8:∀t∈ns,B8 t
 o8:∀t∈out,B8 t
 nen:¬ak vn b
 neo:¬ak vo b
 ap:∀x,ak vn x→¬ak vo x
 wN:lo≤b
 Au:∀x,ak vn x→lo≤x
 loo:∀x,ak vo x→lo≤x
def own(b:Nat)(vn vo:AV)(x:Nat):Prop:=x=b∨ak vn x∨ak vo x
structure tp(b:Nat)(S S':LS)(vn vo cL qc:AV):Prop where
 n:S.n≤S'.n
 ob:∀x,x<S.n→¬own b vn vo x→S'.ob x=S.ob x
 own:∀x,own b cL qc x→own b vn vo x∨S.n≤x
theorem tp.refl{b:Nat}{S:LS}{vn vo:AV}:tp b S S vn vo vn vo:=⟨Nat.le_refl _,λ_ _ _=>rfl,λ_ h=>.inl h⟩
theorem tp.trans{b:Nat}{S S' lL:LS}{vn vo cL qc NU aoW:AV}(h:tp b S S' vn vo cL qc)(g:tp b S' lL cL qc NU aoW):tp b S lL vn vo NU aoW:=
 ⟨Nat.le_trans h.n g.n,λx hx hn=>(g.ob x (Nat.lt_of_lt_of_le hx h.n) λq=>(h.own x q).elim hn (by omega)).trans (h.ob x hx hn),λx hx=>(g.own x hx).elim (h.own x) λq=>.inr (Nat.le_trans h.n q)⟩
section
variable {lo b:Nat}{vn vo:AV}{ns out:List (List Nat)}
theorem j3.zb(h:j3 lo b S vn vo ns out){x:Nat}(hx:own b vn vo x):lo≤x:=by
 rcases hx with rfl|q|q
 ·exact h.wN
 ·exact h.Au x q
 ·exact h.loo x q
theorem j3.iv(h:j3 lo b S vn vo ns out)(hM:Mem H S){x:Nat}(hx:own b vn vo x):x<S.n:=by
 rcases hx with rfl|q|q
 ·exact hM.lt (by rw[h.ob];simp)
 ·exact h.fn.lt hM q
 ·exact h.fo.lt hM q
theorem j3.keep(h:j3 lo b S vn vo ns out)(hM:Mem H S)(hk:∀x,own b vn vo x→S'.ob x=S.ob x):j3 lo b S' vn vo ns out:=
 { h with ob:=(hk b (.inl rfl)).trans h.ob,fn:=h.fn.keep hM λx hx _=>hk x (.inr (.inl hx)),fo:=h.fo.keep hM λx hx _=>hk x (.inr (.inr hx)) }
theorem j3.ext(h:j3 lo b S vn vo ns out)(hM:Mem H S)(hx:Ext S S'):j3 lo b S' vn vo ns out:=h.keep hM λx q=>hx.ob x (h.iv hM q)
theorem Ext.ost(hx:Ext S S'):tp b S S' vn vo vn vo:=⟨hx.n,λx h _=>hx.ob x h,λ_ h=>.inl h⟩
theorem tp.low{cL qc:AV}(g:tp b S S' vn vo cL qc)(h:j3 lo b S vn vo ns out)(hlo:lo≤S.n){x:Nat}(hx:x<lo):S'.ob x=S.ob x:=g.ob x (by omega) λq=>by have:=h.zb q;omega
theorem j3.gH{k:AV→Prop}(h:j3 lo b S vn vo ns out)(hM:Mem H S)(hk:k vn):au (.ptr b 0) (ag 0 (.ptr b 0) λv=>ad v H k):=by
 simp only[bV,aM,Nat.zero_add];exact az hM h.ob (v:=vn) rfl hk
theorem dY.one{v:AV}{l:List AV}(h:dY S v l):v.one=true:=by
 rcases h with⟨rfl,_⟩|⟨b,c,ex,cs,rfl,_⟩<;>rfl
theorem j3.qu{k:AH→Prop}{cL:AV}{ns':List (List Nat)}(h:j3 lo b S vn vo ns out)(hM:Mem H S)(hf:dY S cL (ns'.map ai))(h8:∀t∈ns',B8 t)(hne:¬ak cL b)(hap:∀x,ak cL x→¬ak vo x)(hlo:∀x,ak cL x→lo≤x)
  (hk:∀H' S',Mem H' S'→S'.n=S.n→(∀x,x≠b→S'.ob x=S.ob x)→j3 lo b S' cL vo ns' out→k H'):au (.ptr b 0) (ag 0 (.ptr b 0) λv=>ah 1 v cL H k):=by
 simp only[bV,aM,Nat.zero_add];refine bJ hM h.ob (by omega) (by show 0<2;omega) hf.one λH' m=>?_;have k1:∀x,x≠b→(S.set b (.ce [cL,vo] 0)).ob x=S.ob x:=λx hx=>LS.aq _ _ hx;exact hk H' _ m rfl k1 ⟨LS.ay _ _ _,hf.keep hM λx hx _=>k1 x λq=>hne (q ▸ hx),h.fo.keep hM λx hx _=>k1 x λq=>h.neo (q ▸ hx),h8,h.o8,hne,h.neo,hap,h.wN,hlo,h.loo⟩
theorem j3.add0{Q:Nat→Prop}{a1:AV}{l:List (List Nat)}{k:AH→Prop}(h:j3 lo b S vn vo ns out)(hM:Mem H S)(hlo:lo≤S.n)(hr:jN S Q a1 (l.map ai))(h8:∀t∈l,B8 t)(hl:ns.length+l.length≤1000000)
  (hk:∀H' S' cL,Mem H' S'→tp b S S' vn vo cL vo→j3 lo b S' cL vo (ns++l) out→k H'):cO 1 16 vn a1 H λv7 H8=>au (.ptr b 0) (ag 0 (.ptr b 0) λv9=>ah 1 v9 v7 H8 k):=by
 refine qJ hM h.fn hr (by simp;omega) (PZ _) λH1 S1 v1 m1 n1 k1 f1 b1 _ _ _=>?_;have hbl:=h.iv hM (.inl rfl);have h1:j3 lo b S1 vn vo [] out∨True:=.inr trivial;have e1:S1.ob b=.ce [vn,vo] 0:=(k1 b hbl h.nen).trans h.ob;have fo1:dY S1 vo (out.map ai):=h.fo.keep hM λx hx hlt=>k1 x hlt λq=>h.ap x q hx;have hne:¬ak v1 b:=λq=>(b1 b q).elim h.nen (by omega);have hap:∀x,ak v1 x→¬ak vo x:=λx hx q=>(b1 x hx).elim (λw=>h.ap x w q) λw=>by have:=h.fo.lt hM q;omega
 simp only[bV,aM,Nat.zero_add];refine bJ m1 e1 (by omega) (by show 0<2;omega) f1.one λH' m=>?_;have k2:∀x,x≠b→(S1.set b (.ce [v1,vo] 0)).ob x=S1.ob x:=λx hx=>LS.aq _ _ hx;refine hk H' _ v1 m ⟨n1,λx hx hn=>?_,λx hx=>?_⟩ ⟨LS.ay _ _ _,?_,fo1.keep m1 λx hx _=>k2 x λq=>h.neo (q ▸ hx),λt ht=>?_,h.o8,hne,h.neo,hap,h.wN,λx hx=>?_,h.loo⟩
 ·exact(k2 x λq=>hn (.inl q)).trans (k1 x hx λq=>hn (.inr (.inl q)))
 ·rcases hx with q|q|q
  ·exact .inl (.inl q)
  ·exact(b1 x q).elim (λw=>.inl (.inr (.inl w))) .inr
  ·exact .inl (.inr (.inr q))
 ·rw[List.map_append];exact f1.keep m1 λx hx _=>k2 x λq=>hne (q ▸ hx)
 ·rcases List.mem_append.1 ht with g|g
  ·exact h.n8 t g
  ·exact h8 t g
 ·exact(b1 x hx).elim (h.Au x) λw=>by omega
theorem j3.add{Q:Nat→Prop}{a1:AV}{l:List (List Nat)}{k:AH→Prop}(h:j3 lo b S vn vo ns out)(hM:Mem H S)(hlo:lo≤S.n)(hr:jN S Q a1 (l.map ai))(h8:∀t∈l,B8 t)(hl:ns.length+l.length≤1000000)
  (hk:∀H' S' cL,Mem H' S'→tp b S S' vn vo cL vo→j3 lo b S' cL vo (ns++l) out→k H'):au (.ptr b 0) (ag 0 (.ptr b 0) λv5=>ad v5 H λv6=>cO 1 16 v6 a1 H λv7 H8=>au (.ptr b 0) (ag 0 (.ptr b 0) λv9=>ah 1 v9 v7 H8 k)):=by
 refine h.gH hM ?_;exact h.add0 hM hlo hr h8 hl hk
theorem j3.cut{j:Nat}{k:AH→Prop}(h:j3 lo b S vn vo ns out)(hM:Mem H S)(hj:j≤ns.length)
  (hk:∀H' S' cL,Mem H' S'→tp b S S' vn vo cL vo→j3 lo b S' cL vo (ns.take j) out→k H'):au (.ptr b 0) (ag 0 (.ptr b 0) λv4=>ad v4 H λv5=>fx 1 v5 none (some (.int 0 (j:Int))) none λv6=>au (.ptr b 0) (ag 0 (.ptr b 0) λv7=>ah 1 v7 v6 H k)):=by
 refine h.gH hM ?_;refine qp h.fn (by rw[List.length_map];exact hj) λv' f' hb _ _=>?_;rw[←List.map_take]at f';refine h.qu hM f' (λt ht=>h.n8 t (List.mem_of_mem_take ht)) (λq=>h.nen ((hb b).1 q)) (λx q=>h.ap x ((hb x).1 q)) (λx q=>h.Au x ((hb x).1 q)) λH' S' m n k1 h'=>?_;refine hk H' S' v' m ⟨by omega,λx _ hn=>k1 x λq=>hn (.inl q),λx hx=>?_⟩ h';rcases hx with q|q|q
 ·exact .inl (.inl q)
 ·exact .inl (.inr (.inl ((hb x).1 q)))
 ·exact .inl (.inr (.inr q))
theorem j3.put{s:List Nat}{k:AV→AH→Prop}(h:j3 lo b S vn vo ns out)(hM:Mem H S)(hlo:lo≤S.n)(h8:B8 s)(hl:out.length≤1000000)
  (hk:∀H' S' qc,Mem H' S'→Ext S S'∨True→S.n≤S'.n→(∀x,x<S.n→¬ak vo x→S'.ob x=S.ob x)→dY S' qc ((out++[s]).map ai)→(∀x,ak qc x→ak vo x∨S.n≤x)→k qc H'):aT (aE H) 1 1 [ai s] λv3 H4=>cO 1 16 vo v3 H4 k:=by
 refine dj hM rfl (λa ha=>by simp only[List.mem_singleton]at ha;subst ha;rfl) λH1 m1=>?_;have x1:Ext S (S.push (.ce [ai s] 0)):=Ext.push _ _;have r1:jN (S.push (.ce [ai s] 0)) (λ_=>True) (.slice S.n 0 1 1 1 true) [ai s]:=.inr ⟨S.n,0,1,true,[ai s],0,rfl,by simp,trivial,LS.av _ _,by simp,rfl⟩;have f1:dY (S.push (.ce [ai s] 0)) vo (out.map ai):=h.fo.keep hM λx _ hx=>LS.bS _ _ hx;refine qJ m1 f1 r1 (by simp;omega) (λa ha=>by simp only[List.mem_singleton]at ha;subst ha;rfl) λH2 S2 v2 m2 n2 k2 f2 b2 _ _ _=>?_;have n2:S.n+1≤S2.n:=n2;refine hk H2 S2 v2 m2 (.inr trivial) (by omega) (λx hx hn=>?_) (by rw[List.map_append];exact f2) λx hx=>?_
 ·rw[k2 x (by show x<S.n+1;omega) hn];exact LS.bS _ _ hx
 ·rcases b2 x hx with q|q
  ·exact .inl q
  ·have q:S.n+1≤x:=q;exact .inr (by omega)
end
end
end Go.X
namespace Go.Proofs.YtcedghechlgecaaDoor
open Go Go.X Go.Proofs.YtcedghechlgecaaDoor.G
section
variable {H:AH}{S:LS}{K:KF}
theorem arN{Q:Nat→Prop}{v:AV}{l:List (List Nat)}{s:List Nat}(hM:Mem H S)(hr:jN S Q v (l.map ai))(hl8:∀t∈l,B8 t)(h8:B8 s)(hl:l.length≤900000)
  (hK:∀z:Int,(0≤z↔s∈l)→K (.ret (.int 0 z)) H):f49 v (ai s) H K:=by
 have loop:∀(q i:Nat),i≤l.length→l.length-i<q→(∀j t,j<i→l[j]? = some t→t≠s)→wc qY K q v (ai s) (l.length:Int) (i:Int) H:=by
  intro q
  induction q with
  |zero=>intro i _ h;omega
  |succ q ih=>
   intro i hi hq hno;show Ep qY K (wc qY K q) (Eo qY K) v (ai s) (l.length:Int) (i:Int) H;unfold Ep Eo;rw[cz];refine bR (λg=>?_) (λg=>?_)
   ·have hil:i<l.length:=by omega
    have ht:=List.getElem?_eq_getElem hil;refine hr.load hM (a:=ai l[i]) (by rw[List.getElem?_map,ht];rfl) ?_;refine xo h8 (hl8 _ (List.getElem_mem _)) ?_;rw[aN];by_cases e:s=l[i]
    ·rw[decide_eq_true e,aH];exact hK i ⟨λ_=>by rw[e];exact List.getElem_mem _,λ_=>by omega⟩
    ·rw[decide_eq_false e,aI];simp only[dh,dX];refine w0 (by omega) (by omega) ?_;refine ih (i+1) (by omega) (by omega) λj t hj hjt=>?_;rcases Nat.lt_or_ge j i with g1|g1
     ·exact hno j t g1 hjt
     ·have e1:j=i:=by omega
      subst e1;rw[ht]at hjt;cases hjt;exact λq=>e q.symm
   ·refine hK _ ⟨λh=>absurd h (by decide),λh=>?_⟩;obtain⟨j,hj⟩:=List.mem_iff_getElem?.1 h;have:=(List.getElem?_eq_some_iff.1 hj).1;exact absurd rfl (hno j s (by omega) hj)
 show Er qY K (wc qY K G.NL) v (ai s) H;unfold Er;have gu:G.NL=1000000:=rfl;generalize G.NL=eW at gu ⊢;refine hr.len ?_;rw[aK,List.length_map];exact loop eW 0 (Nat.zero_le _) (by omega) λj t h=>by omega
theorem arO{Q:Nat→Prop}{v:AV}{l:List (List Nat)}{s:List Nat}(hM:Mem H S)(hr:jN S Q v (l.map ai))(hl8:∀t∈l,B8 t)(h8:B8 s)(hl:l.length≤900000)
  (hK:K (.ret (.bool (decide (s∈l)))) H):f23 v (ai s) H K:=by
 show Es Mb K v (ai s) H;unfold Es;refine arN hM hr hl8 h8 hl λz hz=>?_;rw[aj,aK,cz];have e:(!decide (z<Int.ofNat 0))=decide (s∈l):=by
  by_cases g:s∈l
  ·have:=hz.2 g;rw[decide_eq_true g,decide_eq_false (by show ¬z<0;omega)];rfl
  ·have:¬0≤z:=λq=>g (hz.1 q);rw[decide_eq_false g,decide_eq_true (by show z<0;omega)];rfl
 rw[e];exact hK
theorem aga{Q:Nat→Prop}{v:AV}{l:List (List Nat)}{s:List Nat}(hM:Mem H S)(hr:jN S Q v (l.map ai))(hl8:∀t∈l,B8 t)(h8:B8 s)(hl:l.length≤900000)
  (hK:K (.ret (.bool (decide (s∈l)))) H):f25 v (ai s) H K:=by
 have loop:∀(q i:Nat),i≤l.length→l.length-i<q→(∀j t,j<i→l[j]? = some t→t≠s)→pB kP K q v (ai s) (i:Int) H:=by
  intro q
  induction q with
  |zero=>intro i _ h;omega
  |succ q ih=>
   intro i hi hq hno;show vQ kP K (pB kP K q) (yG kP K) v (ai s) (i:Int) H;unfold vQ yG;refine hr.len ?_;rw[aK,cz,List.length_map];refine bR (λg=>?_) (λg=>?_)
   ·have hil:i<l.length:=by omega
    have ht:=List.getElem?_eq_getElem hil;refine hr.load hM (a:=ai l[i]) (by rw[List.getElem?_map,ht];rfl) ?_;refine xo (hl8 _ (List.getElem_mem _)) h8 ?_;rw[aN];by_cases e:l[i]=s
    ·rw[decide_eq_true e,aH];rw[decide_eq_true (by rw[←e];exact List.getElem_mem _)]at hK;exact hK
    ·rw[decide_eq_false e,aI];simp only[dh,dX];refine w0 (by omega) (by omega) ?_;refine ih (i+1) (by omega) (by omega) λj t hj hjt=>?_;rcases Nat.lt_or_ge j i with g1|g1
     ·exact hno j t g1 hjt
     ·have e1:j=i:=by omega
      subst e1;rw[ht]at hjt;cases hjt;exact e
   ·rw[decide_eq_false (λh=>by
     obtain⟨j,hj⟩:=List.mem_iff_getElem?.1 h;have:=(List.getElem?_eq_some_iff.1 hj).1;exact absurd rfl (hno j s (by omega) hj))]at hK
    exact hK
 show vR kP K (pB kP K G.NL) v (ai s) H;unfold vR;have gu:G.NL=1000000:=rfl;generalize G.NL=eW at gu ⊢;exact loop eW 0 (Nat.zero_le _) (by omega) λj t h=>by omega
end
end Go.Proofs.YtcedghechlgecaaDoor
namespace Go.X
def SE(c:Bt AV):Nat→List AV→Prop
 |_,[]=>True
 |i,a::l=>c.fO i λv=>bT (bu v a) (SE c (Nat.succ i) l)
def NV(z:List AV)(o:lT)(H:AH):Prop:=
 match o with
 |.ret (.slice b o' n m sz ex)=>bT (Nat.beq o' 0) (bT (Nat.beq n z.length) (bT (Nat.beq m z.length) (bT (Nat.beq sz 1) (bT ex (H.t.fO b λob=>match ob with|.cells c q md=>bT (Nat.beq q z.length) (bT (Nat.beq md 0) (SE c 0 z))|_=>False)))))
 |_=>False
theorem Ia{c:Bt AV}(hs:∀a b,bu a b=true→(∃n x,b=.str n x)→a=b):∀{l:List AV}{i:Nat},(∀a∈l,∃n x,a=.str n x)→SE c i l→∀j,j<l.length→c.get? (i+j)=l[j]?
 |[],i,_,_,j,hj=>by simp at hj
 |a::l,i,hl,h,j,hj=>by
  obtain⟨v,h1,h2⟩:=Bt.dK _ _ _ h;obtain⟨h3,h4⟩:=aD h2;cases j with
  |zero=>rw[Nat.add_zero,h1];exact congrArg some (hs v a h3 (hl a (by simp)))
  |succ j=>
   have:=Ia hs (λx hx=>hl x (by simp[hx])) h4 j (by simpa using hj);rw[show i+(j+1)=Nat.succ i+j by omega];simpa using this
theorem aeL{a b:AV}(h:bu a b=true)(hb:∃n x,b=.str n x):a=b:=by
 obtain⟨n,x,rfl⟩:=hb;cases a<;>simp only[bu,Bool.and_eq_true]at h<;>try cases h
 rename_i h1 h2;rw[Nat.eq_of_beq_eq_true h1,Nat.eq_of_beq_eq_true h2]
theorem SF{z:List AV}{o:lT}{H:AH}(hz:∀a∈z,∃n x,a=.str n x)(h:NV z o H):∃b c,o=.ret (.slice b 0 z.length z.length 1 true)∧H.at b=.cells c z.length 0∧∀i:Nat,i<z.length→c.get? i=z[i]?:=by
 unfold NV at h;split at h
 ·rename_i b o' n m sz ex;obtain⟨h1,h⟩:=aD h;obtain⟨h2,h⟩:=aD h;obtain⟨h3,h⟩:=aD h;obtain⟨h4,h⟩:=aD h;obtain⟨h5,h⟩:=aD h;obtain⟨ob,g1,h⟩:=Bt.dK _ _ _ h;cases ob with
  |cells c q md=>
   obtain⟨h6,hq⟩:=aD h;obtain⟨h7,hC⟩:=aD hq;have e1:=Nat.eq_of_beq_eq_true h1;have e2:=Nat.eq_of_beq_eq_true h2;have e3:=Nat.eq_of_beq_eq_true h3;have e4:=Nat.eq_of_beq_eq_true h4;have e6:=Nat.eq_of_beq_eq_true h6;have e7:=Nat.eq_of_beq_eq_true h7;subst e1;subst e2;subst e3;subst e4;subst h5;refine⟨b,c,rfl,?_,λi hi=>?_⟩
   ·unfold AH.at
    rw[g1,e6,e7]
    try rfl
   ·have:=Ia (λ_ _=>aeL) hz hC i hi;rw[Nat.zero_add]at this;exact this
  |map=>exact h.elim
  |iter=>exact h.elim
  |dead=>exact h.elim
 ·exact h.elim
theorem of_run{p:Prop}(h:p=True):p:=by rw[h];trivial
theorem aw.weaken{P:Program}{g:Nat}{F F':cY}(h:aw P g F)(hw:∀l H K,F' l H K→F l H K):aw P g F':=λhb l H K hf=>h hb l H K (hw l H K hf)
theorem Av:∀t∈builtins,B8 t:=by
 intro t ht;simp only[builtins,List.mem_cons,List.not_mem_nil,or_false]at ht;rcases ht with rfl|rfl|rfl|rfl|rfl|rfl|rfl|rfl|rfl|rfl|rfl|rfl|rfl|rfl|rfl|rfl|rfl|rfl|rfl|rfl|rfl|rfl<;>exact bg (by decide)
end Go.X
namespace Go.Proofs.YtcedghechlgecaaDoor
open Go Go.X Go.Proofs.YtcedghechlgecaaDoor.G
section
variable {H:AH}{S:LS}{K:KF}
def spc:List Int:=(List.range 256).map λi=>if Nat.beq i 32||(Nat.ble 9 i&&Nat.ble i 13) then 1 else 0
def tb0:List AV:=spc.map λz=>AV.int 1 z
def gl:List (Option (List AV)):=[some tb0,none,none]
def lO:List AV:=[(.str 4 1701869940),(.str 5 491496043109),(.str 5 465674789744),(.str 6 111550524650083),(.str 6 111520796337522),(.str 5 431315315065),(.str 6 126948300911731),(.str 8 7453010373645660020),(.str 5 500068609908),(.str 3 6452595),(.str 4 1702132066),(.str 4 1918986339),(.str 3 7366002),(.str 5 491328139381),(.str 5 491328597868),(.str 7 28555907813500274),(.str 4 1684957542),(.str 6 128034677157481),(.str 6 111559349986674),(.str 4 1937335659),(.str 4 1852403562),(.str 4 1819042147)]
def wdT:AV:=.str 130 4989745452750927712642869024936041018982183869112399744596646328559347698139019358746423479417311085373974869505494574274628988303325946808601483887101106809989390966068797068531459062952690525578417336589675308608346298249300317674214036809461764501959304432550546839486516338336139505618763273980857346390260084
theorem SG:JV gl ⟨.e,0⟩ (λH0=>ao [.a] f24 [wdT] H0 (NV lO))=True:=by kernel_rfl
theorem nA:lO=builtins.map ai:=by kernel_rfl
theorem sj:∀a∈lO,∃n x,a=.str n x:=by
 rw[nA];intro a ha;obtain⟨t,_,rfl⟩:=List.mem_map.1 ha;exact⟨_,_,rfl⟩
theorem NW:∀z,some z∈gl→∀a∈z,yo a=true:=by
 intro z hz a ha;simp only[gl,List.mem_cons,Option.some.injEq,reduceCtorEq,List.not_mem_nil,or_false]at hz;subst hz;obtain⟨x,_,rfl⟩:=List.mem_map.1 ha;rfl
noncomputable def SI:AV→AH→KF→Prop:=λa H K=>a=wdT∧∃S,Mem H S∧ni gl S∧∀H',Mem H' (S.push (.ce lO 0))→K (.ret (.slice S.n 0 lO.length lO.length 1 true)) H'
theorem ajU:aw Tryd.prog 24 (ao [.a] SI):=by
 have h:=aw.TZ (gl:=gl) (by kernel_rfl) NW aaO (args:=[wdT]) (λa ha=>by simp only[List.mem_singleton]at ha;subst ha;rfl) (z:=lO) (λa ha=>by obtain⟨n,x,rfl⟩:=sj a ha;rfl)
  (λo H' hk=>SF sj hk) (HH (of_run SG))
 refine h.weaken λl H K hf=>?_;cases l with
 |nil=>exact hf.elim
 |cons a l=>cases l with
  |nil=>
   have hf':SI a H K:=hf;obtain⟨rfl,hS⟩:=hf';exact⟨rfl,hS⟩
  |cons b l=>exact hf.elim
noncomputable def R10:ud:=(f23,SI)
noncomputable def g10:AV→AH→KF→Prop:=RO R10
theorem aeM:aw Tryd.prog 10 (ao [.a] g10):=Pu R10 (af.cons Mc (af.cons ajU af.nil))
theorem aoX{s:List Nat}(hM:Mem H S)(hT:ni gl S)(h8:B8 s)(hK:∀H' S',Mem H' S'→Ext S S'→K (.ret (.bool (decide (s∈builtins)))) H'):g10 (ai s) H K:=by
 show Et R10 K (ai s) H;unfold Et;have ra:R10.1=f23:=rfl;have rb:R10.2=SI:=rfl;rw[ra,rb];refine⟨rfl,S,hM,hT,λH1 m1=>?_⟩;simp only[aj];have x1:Ext S (S.push (.ce lO 0)):=Ext.push _ _;have r1:jN (S.push (.ce lO 0)) (λ_=>True) (.slice S.n 0 lO.length lO.length 1 true) (builtins.map ai):=.inr ⟨S.n,0,lO.length,true,lO,0,by rw[←nA],by rw[←nA];exact Nat.le_refl _,trivial,LS.av _ _,by rw[←nA];omega,by rw[←nA,List.drop_zero];exact List.take_of_length_le (Nat.le_refl _)⟩;refine arO m1 r1 Av h8 (by decide) ?_;rw[aj,aN];exact hK H1 _ m1 x1
theorem aoY{s:List Nat}(hM:Mem H S)(h8:B8 s)(hK:∀H' S',Mem H' S'→Ext S S'→K (.ret (.bool (decide (s∈builtins)))) H'):f11 (ai s) H K:=by
 show Ev Ew K (ai s) H;unfold Ev;have ra:Ew=f25:=rfl;rw[ra];have ew:[(.str 4 1701869940),(.str 5 491496043109),(.str 5 465674789744),(.str 6 111550524650083),(.str 6 111520796337522),(.str 5 431315315065),(.str 6 126948300911731),(.str 8 7453010373645660020),(.str 5 500068609908),(.str 3 6452595),(.str 4 1702132066),(.str 4 1918986339),(.str 3 7366002),(.str 5 491328139381),(.str 5 491328597868),(.str 7 28555907813500274),(.str 4 1684957542),(.str 6 128034677157481),(.str 6 111559349986674),(.str 4 1937335659),(.str 4 1852403562),(.str 4 1819042147)]=lO:=rfl;rw[ew];refine dj hM rfl (λa ha=>by obtain⟨n,x,rfl⟩:=sj a ha;rfl) λH1 m1=>?_;have x1:Ext S (S.push (.ce lO 0)):=Ext.push _ _;have r1:jN (S.push (.ce lO 0)) (λ_=>True) (.slice S.n 0 22 22 1 true) (builtins.map ai):=.inr ⟨S.n,0,22,true,lO,0,by rw[←nA];rfl,by rw[←nA];exact Nat.le_refl _,trivial,LS.av _ _,by rw[←nA];show 0+lO.length≤lO.length;omega,by rw[←nA,List.drop_zero];exact List.take_of_length_le (Nat.le_refl _)⟩;refine aga m1 r1 Av h8 (by decide) ?_;rw[aj,aN];exact hK H1 _ m1 x1
noncomputable def R73:oA:=(g10,f23)
noncomputable def g73:AV→AV→AH→KF→Prop:=RP R73
def OPo(lo b:Nat)(S:LS)(vn vo:AV)(ns out:List (List Nat))(K:KF):Prop:=∀H' S' cL qc,Mem H' S'→tp b S S' vn vo cL qc→j3 lo b S' cL qc ns out→K (.ret (.aP [])) H'
end
end Go.Proofs.YtcedghechlgecaaDoor
namespace Go.X
structure asB(n:Nat):Prop where
 e:∀ns out x,x.wf→(oE n ns out x).length≤out.length+x.sz
 f:∀ns out x,x.wf→(oF n ns out x).length≤out.length+x.sz
 w:∀ns names b thn out,yZ b→rD thn→(oW n ns names b thn out).length≤out.length+dO b+bB thn
 s:∀r x,x.wf→(oS n r x).2.length≤r.2.length+x.sz∧(oS n r x).1.length≤r.1.length+x.sz
theorem zc:∀(l:List aA) (i:Nat),dO (l.take i)≤dO l
 |[],i=>by simp[dO]
 |a::l,0=>by simp[dO]
 |a::l,i+1=>by have:=zc l i;simp only[List.take_succ_cons,dO];omega
theorem NX{l:List aA}{i:Nat}{e:aA}(h:l[i]? = some e):dO (l.take (i+1))=dO (l.take i)+e.sz:=by
 rw[List.take_add_one,h,AX];simp[dO]
section
variable {H:AH}{S S':LS}
def fi(lo:Nat):Nat→Prop:=λx=>x<lo
structure En(gl:List (Option (List AV)))(lo b:Nat)(H:AH)(S:LS)(vn vo:AV)(ns out:List (List Nat)):Prop where
 m:Mem H S
 o:j3 lo b S vn vo ns out
 t:ni gl S
 g:gl.length≤lo
 l:lo≤S.n
section
variable {gl:List (Option (List AV))}{lo b:Nat}{vn vo cL qc:AV}{ns out ns' out':List (List Nat)}{H':AH}
theorem P0(hT:ni gl S)(hg:gl.length≤lo)(hk:∀x,x<lo→S'.ob x=S.ob x):ni gl S':=λx z hz=>(hk x (Nat.lt_of_lt_of_le (List.getElem?_eq_some_iff.1 hz).1 hg)).trans (hT x z hz)
theorem En.low(h:En gl lo b H S vn vo ns out)(g:tp b S S' vn vo cL qc):∀x,x<lo→S'.ob x=S.ob x:=λx hx=>g.low h.o h.l hx
theorem En.step(h:En gl lo b H S vn vo ns out)(m:Mem H' S')(g:tp b S S' vn vo cL qc)(o:j3 lo b S' cL qc ns' out'):En gl lo b H' S' cL qc ns' out':=
 ⟨m,o,P0 h.t h.g (h.low g),h.g,Nat.le_trans h.l g.n⟩
theorem En.ext(h:En gl lo b H S vn vo ns out)(m:Mem H' S')(x:Ext S S'):En gl lo b H' S' vn vo ns out:=h.step m x.ost (h.o.ext h.m x)
theorem En.new(h:En gl lo b H S vn vo ns out):¬own b vn vo S.n:=λq=>Nat.lt_irrefl _ (h.o.iv h.m q)
theorem lZ{v:AV}{l:List al}(h:oq S (fi lo) v l)(hk:∀x,x<lo→S'.ob x=S.ob x):oq S' (fi lo) v l:=by
 obtain⟨cl,g1,g2⟩:=h;exact⟨cl,g1.go hk λ_ h=>h,λi e he=>(g2 i e he).go hk λ_ h=>h⟩
theorem zd{v:AV}{l:List aA}(h:fY S (fi lo) v l)(hk:∀x,x<lo→S'.ob x=S.ob x):fY S' (fi lo) v l:=by
 obtain⟨cl,g1,g2⟩:=h;exact⟨cl,g1.go hk λ_ h=>h,λi e he=>(g2 i e he).go hk λ_ h=>h⟩
theorem NY{v:AV}{l:List eV}(h:HZ S (fi lo) v l)(hk:∀x,x<lo→S'.ob x=S.ob x):HZ S' (fi lo) v l:=by
 obtain⟨cl,g1,g2⟩:=h;exact⟨cl,g1.go hk λ_ h=>h,λi e he=>(g2 i e he).go hk λ_ h=>h⟩
theorem mV{v:AV}{l:List (List aA)}(h:At S (fi lo) v l)(hk:∀x,x<lo→S'.ob x=S.ob x):At S' (fi lo) v l:=by
 obtain⟨cl,g1,g2⟩:=h;exact⟨cl,g1.go hk λ_ h=>h,λi e he=>zd (g2 i e he) hk⟩
theorem A9{v:AV}{l:List (List Nat)}(h:kl S (fi lo) v l)(hk:∀x,x<lo→S'.ob x=S.ob x):kl S' (fi lo) v l:=⟨h.1.go hk λ_ h=>h,h.2⟩
theorem NZ:kl S (fi lo) .ab []:=⟨.inl ⟨rfl,rfl⟩,λt h=>by simp at h⟩
theorem He:oq S (fi lo) .ab []:=⟨λ_=>[],.inl ⟨rfl,rfl⟩,λi e h=>by simp at h⟩
end
end
end Go.X
namespace Go.Proofs.YtcedghechlgecaaDoor
open Go Go.X Go.Proofs.YtcedghechlgecaaDoor.G
section
variable {H:AH}{S:LS}{K:KF}
structure ExC(F:AV→AV→AH→KF→Prop)(n:Nat)(l:List al):Prop where
 run:∀{K:KF}{H:AH}{S:LS}{lo b:Nat}{vn vo v:AV}{ns out:List (List Nat)},En gl lo b H S vn vo ns out→oq S (fi lo) v l→rD l→ns.length+bB l≤800000→out.length+bB l≤800000→OPo lo b S vn vo ns (l.foldl (oE n ns) out) K→F (.ptr b 0) v H K
structure WiC(F:AV→AV→AV→AV→AH→KF→Prop)(n:Nat)(names:List (List Nat))(bd:List aA)(thn:List al):Prop where
 run:∀{K:KF}{H:AH}{S:LS}{lo b:Nat}{vn vo v1 v2 v3:AV}{ns out:List (List Nat)},En gl lo b H S vn vo ns out→kl S (fi lo) v1 names→fY S (fi lo) v2 bd→oq S (fi lo) v3 thn→yZ bd→rD thn→ns.length+names.length+dO bd+bB thn≤800000→out.length+dO bd+bB thn≤800000→OPo lo b S vn vo ns (oW n ns names bd thn out) K→F (.ptr b 0) v1 v2 v3 H K
structure StC(F:AV→AV→AH→KF→Prop)(n:Nat)(s:aA):Prop where
 run:∀{K:KF}{H:AH}{S:LS}{lo b:Nat}{vn vo v:AV}{ns out:List (List Nat)},En gl lo b H S vn vo ns out→rvS S (fi lo) v s→s.wf→ns.length+s.sz≤800000→out.length+s.sz≤800000→OPo lo b S vn vo (oS n (ns,out) s).1 (oS n (ns,out) s).2 K→F (.ptr b 0) v H K
theorem rY{n:Nat}{z c:List AV}{k:AV→AH→Prop}(hM:Mem H S)(hz:∀a∈z,a.one=true)(hzl:z.length=n)(hc:c.length=n)(ho:∀a∈c,a.one=true)
  (hk:∀H' S',Mem H' S'→Ext S S'→S'.ob S.n=.ce c 0→S'.n=S.n+1→k (.ptr S.n 0) H'):eI H (hN (aE H) z λv H4=>ah n v (.agg c) H4 λH5=>k v H5):=by
 refine eT (dp hM hz λH1 m1=>?_);refine km m1 (LS.av _ _) hzl hc ho λH2 m2=>?_;exact hk H2 _ m2 ((Ext.push S _).set (Nat.le_refl _) _) (LS.ay _ _ _) rfl
def z2:List AV:=[.ab,.ab]
theorem aoZ:∀a∈z2,a.one=true:=by
 intro a ha;simp only[z2,List.mem_cons,List.not_mem_nil,or_false]at ha;rcases ha with rfl|rfl<;>rfl
theorem ExC.zero{F:AV→AV→AH→KF→Prop}(h:ExC F 1 []):ExC F 0 []:=⟨λ{_ _ _ _ _ _ _ _ _ _} e r w b1 b2 k=>h.run e r w b1 b2 k⟩
end
end Go.Proofs.YtcedghechlgecaaDoor
namespace Go.X
section
variable {H:AH}{S S':LS}
end
end Go.X
namespace Go.Proofs.YtcedghechlgecaaDoor
open Go Go.X Go.Proofs.YtcedghechlgecaaDoor.G
section
variable {H:AH}{S:LS}{K:KF}
abbrev t9R:Type:=(AV→AV→AV→AV→AH→KF→Prop)×(AV→AV→AH→KF→Prop)×(AV→AV→AH→KF→Prop)
noncomputable def xS(U:AV→AV→AH→KF→Prop)(n:Nat):t9R:=Nat.rec (motive:=λ_=>t9R) (λ_ _ _ _ _ _=>False,λ_ _ _ _=>False,λ_ _ _ _=>False) (λ_ S=>(RQ (S.2.1,S.2.2),RR (S.1,S.2.2),RS (S.1,S.2.2,U))) n
noncomputable abbrev t9 (n:Nat):t9R:=xS g73 n
theorem aqm(U:AV→AV→AH→KF→Prop)(n:Nat):xS U (n+1)=(RQ ((xS U n).2.1,(xS U n).2.2),RR ((xS U n).1,(xS U n).2.2),RS ((xS U n).1,(xS U n).2.2,U)):=rfl
theorem ao0{U:AV→AV→AH→KF→Prop}(hU:aw Tryd.prog 73 (ao [.a,.a] U))(n:Nat):aw Tryd.prog 27 (ao [.a,.a,.a,.a] (xS U n).1)∧aw Tryd.prog 52 (ao [.a,.a] (xS U n).2.1)∧aw Tryd.prog 53 (ao [.a,.a] (xS U n).2.2):=by
 induction n with
 |zero=>exact⟨gS [.a,.a,.a,.a],gS [.a,.a],gS [.a,.a]⟩
 |succ n ih=>
  rw[aqm];exact⟨aiW _ (af.cons ih.2.1 (af.cons ih.2.2 af.nil)),aiX _ (af.cons ih.1 (af.cons ih.2.2 af.nil)),aiY _ (af.cons ih.1 (af.cons ih.2.2 (af.cons hU af.nil)))⟩
structure asC(m:Nat)(W:AV→AV→AV→AV→AH→KF→Prop)(T:AV→AV→AH→KF→Prop)(X:AV→AV→AH→KF→Prop):Prop where
 ex:∀n l,3*bB l+1<m→2*bB l≤n→ExC X n l
 st:∀n s,3*s.sz+1<m→2*s.sz≤n→StC T n s
noncomputable def g14:AV→AH→KF→Prop:=RU (t9 G.NL).1
structure OuC(F:AV→AH→KF→Prop)(n:Nat)(ps:List (List Nat))(bd:List aA):Prop where
 run:∀{K:KF}{H:AH}{S:LS}{c:List AV},Mem H S→ni gl S→gl.length≤S.n→RF S (nR S) c (.mk ps bd)→yZ bd→(∀H' S' w,Mem H' S'→Ext S S'→kl S' (jd S.n S'.n) w (oW n [] ps bd [] [])→K (.ret w) H')→F (.agg c) H K
end
end Go.Proofs.YtcedghechlgecaaDoor
namespace Go.X
end Go.X
namespace Go.Proofs.YtcedghechlgecaaDoor
open Go Go.X Go.Proofs.YtcedghechlgecaaDoor.G
section
variable {H:AH}{S:LS}{K:KF}
section
variable {R:fD}{n lo b x k a:Nat}{wn' N4 wb' v v3 vn vo:AV}{ns nm out:List (List Nat)}{l:List al}{bs:List (List aA)}{z8:Int}{i3:AV→AV→AV→Int→Int→AH→Prop}{ii:Nat}
theorem fW(hx:S.ob x=.ce [.int 0 (k:Int),.int 0 (a:Int),wn',N4,wb'] 0){j:Nat}{w:AV}{kk:AV→Prop}(hM:Mem H S)(hw:[.int 0 (k:Int),.int 0 (a:Int),wn',N4,wb'][j]? = some w)(hk:kk w):ag j (.ptr x 0) λp=>ad p H kk:=by
 simp only[aM,Nat.zero_add];exact az hM hx hw hk
end
end
end Go.Proofs.YtcedghechlgecaaDoor
namespace Go.X
section
variable {H:AH}{S:LS}
end
end Go.X
namespace Go.Proofs.YtcedghechlgecaaDoor
open Go Go.X Go.Proofs.YtcedghechlgecaaDoor.G
section
variable {H:AH}{S:LS}{K:KF}
noncomputable def uD:AH→KF→Prop:=λH K=>(∃S,Mem H S∧ni gl S)∧K (.ret (.bool true)) H
theorem ajV{s:List Nat}{r:List Tok ⊕ Nat}{b:List aA}(hr:jl s 0 r)(hs:s.length≤1500)(h:uR r=.inl b):dO b≤50000:=by
 cases r with
 |inr e=>cases h
 |inl ts=>
  have hlen:=hr.few ts rfl;have hsc:uR (.inl ts)=(match jx ts with|.ok b _=>.inl b|.err c i=>.inr (c,aB ts i)|.aS=>.inl []):=rfl;rw[hsc]at h;cases hp:jx ts with
  |aS=>exact absurd hp (FW hr.zV)
  |err c i=>rw[hp]at h;cases h
  |ok b' j=>
   rw[hp]at h;cases h;unfold jx at hp;obtain⟨a,i,e1,e2⟩:=aV hp;have h1:=(aet (64*ts.length+64)).block e1;have h2:=FX hr.zV a i e1;split at e2
   ·cases e2;omega
   ·cases e2
theorem ahN:aw Tryd.prog 7 (ao [.a] g7):=alk R9 (af.cons alQ (af.cons alj (af.cons qM af.nil)))
noncomputable def R4:sX:=(uD,g7,f12,f13,g14,f15)
noncomputable def g4:AV→AH→KF→Prop:=aq0 R4
end
end Go.Proofs.YtcedghechlgecaaDoor
