/- Scope of both, the law ScopeMany over texts as lists. No condition: lemmas. -/
import Derived.Test.YtcedghechlgecaaDoorLa
set_option maxRecDepth 100000
set_option maxHeartbeats 0
set_option linter.unusedVariables false
set_option linter.unusedSimpArgs false
namespace Go.X
section
variable {S S':LS}{H:AH}
def nU(S:LS):Nat→Prop:=λx=>x<S.n
theorem dZ.at_{Q:Nat→Prop}{sz n:Nat}{v:AV}{cl:Nat→List AV}{i q:Nat}{k:AV→Prop}(h:dZ S Q sz v n cl)(hi:i<n)(hk:∀b o cs m,Q b→S.ob b=.ce cs m→o+sz≤cs.length→(cs.drop o).take sz=cl i→k (.ptr b o)):bf sz v (.int q i) k:=by
 rcases h with⟨rfl,rfl⟩|⟨b,o,c,ex,cs,m,rfl,h1,h3,h4,h5,h6⟩
 ·omega
 ·refine mN (by omega) (by omega) ?_;rw[Int.toNat_natCast];have hle:(i+1)*sz≤n*sz:=Nat.mul_le_mul_right _ (by omega);rw[Nat.add_mul,Nat.one_mul]at hle;exact hk b _ cs m h1 h3 (by omega) (h6 i hi)
theorem dZ.Rx{Q:Nat→Prop}{n:Nat}{v:AV}{f:Nat→AV}{i q:Nat}{k:AV→Prop}(h:dZ S Q 1 v n (λi=>[f i]))(hM:Mem H S)(hi:i<n)(hk:k (f i)):bf 1 v (.int q i) λp=>ad p H k:=by
 refine h.at_ hi λb o cs m _ h3 h4 h5=>aD hM h3 ?_ hk;have:((cs.drop o).take 1)[0]? = [f i][0]?:=by rw[h5]
 rw[List.getElem?_take,if_pos (by omega),List.getElem?_drop,Nat.add_zero]at this;exact this
theorem iz.same{Q:Nat→Prop}{c:List AV}{s:az}(h:iz S Q c s):bj (.agg c) (.agg c)=true:=by
 cases h with
 |mk kind at_ names l bs vn vl vb cl bv bc g1 g2 _ g4 _ _=>
  refine Mj λa ha=>?_;simp only[List.mem_cons,List.not_mem_nil,or_false]at ha;rcases ha with rfl|rfl|rfl|rfl|rfl<;>first|exact wE _ _|exact g1.1.same|exact g2.same|exact g4.same
def GJ(S:LS)(Q:Nat→Prop)(v:AV)(bs:List (List az)):Prop:=∃bv:Nat→AV,dZ S Q 1 v bs.length (λi=>[bv i])∧∀(i:Nat) (b:List az),bs[i]? = some b→gw S Q (bv i) b
def GK(S:LS)(Q:Nat→Prop)(v:AV)(f:List fm):Prop:=∃cf:Nat→List AV,dZ S Q 2 v f.length cf∧∀(i:Nat) (g:fm),f[i]? = some g→RF S Q (cf i) g
theorem iz.out{Q:Nat→Prop}{c:List AV}{kind at_:Nat}{names:List (List Nat)}{l:List au}{bs:List (List az)}(h:iz S Q c (.mk kind at_ names l bs)):∃vn vl vb,c=[.int 0 kind,.int 0 at_,vn,vl,vb]∧kK S Q vn names∧pt S Q vl l∧GJ S Q vb bs:=by
 cases h with
 |mk _ _ _ _ _ vn vl vb cl bv bc g1 g2 g3 g4 g5 g6=>exact⟨vn,vl,vb,rfl,g1,⟨cl,g2,g3⟩,⟨bv,g4,λi b hb=>⟨bc i,g5 i b hb,λj s hs=>g6 i b j s hb hs⟩⟩⟩
theorem RE.out{Q:Nat→Prop}{c:List AV}{kind at_ n op:Nat}{s:List Nat}{l:List au}{f:List fm}(h:RE S Q c (.mk kind at_ n s op l f)):∃vl vf,c=[.int 0 kind,.int 0 at_,.int 0 n,ai s,.int 0 op,vl,vf]∧B8 s∧pt S Q vl l∧GK S Q vf f:=by
 cases h with
 |mk _ _ _ _ _ _ _ vl vf cl cf g1 g2 g3 g4 g5=>exact⟨vl,vf,rfl,g1,⟨cl,g2,g3⟩,⟨cf,g4,g5⟩⟩
theorem RF.out{Q:Nat→Prop}{c:List AV}{ps:List (List Nat)}{body:List az}(h:RF S Q c (.mk ps body)):∃vp vb,c=[vp,vb]∧kK S Q vp ps∧gw S Q vb body:=by
 cases h with
 |mk _ _ vp vb cb g1 g2 g3=>exact⟨vp,vb,rfl,g1,⟨cb,g2,g3⟩⟩
theorem dZ.ext{sz n:Nat}{v:AV}{cl:Nat→List AV}(h:dZ S (nU S) sz v n cl)(hx:Ext S S'):dZ S' (nU S') sz v n cl:=h.go (λb hb=>hx.ob b hb) λb hb=>Nat.lt_of_lt_of_le hb hx.n
theorem kK.ext{v:AV}{l:List (List Nat)}(h:kK S (nU S) v l)(hx:Ext S S'):kK S' (nU S') v l:=⟨h.1.ext hx,h.2⟩
theorem RE.ext{c:List AV}{e:au}(h:RE S (nU S) c e)(hx:Ext S S'):RE S' (nU S') c e:=h.go (λb hb=>hx.ob b hb) λb hb=>Nat.lt_of_lt_of_le hb hx.n
theorem RF.ext{c:List AV}{e:fm}(h:RF S (nU S) c e)(hx:Ext S S'):RF S' (nU S') c e:=h.go (λb hb=>hx.ob b hb) λb hb=>Nat.lt_of_lt_of_le hb hx.n
theorem iz.ext{c:List AV}{e:az}(h:iz S (nU S) c e)(hx:Ext S S'):iz S' (nU S') c e:=h.go (λb hb=>hx.ob b hb) λb hb=>Nat.lt_of_lt_of_le hb hx.n
theorem gw.ext{v:AV}{l:List az}(h:gw S (nU S) v l)(hx:Ext S S'):gw S' (nU S') v l:=by
 obtain⟨cl,g1,g2⟩:=h;exact⟨cl,g1.ext hx,λi e he=>(g2 i e he).ext hx⟩
theorem pt.ext{v:AV}{l:List au}(h:pt S (nU S) v l)(hx:Ext S S'):pt S' (nU S') v l:=by
 obtain⟨cl,g1,g2⟩:=h;exact⟨cl,g1.ext hx,λi e he=>(g2 i e he).ext hx⟩
theorem GJ.ext{v:AV}{l:List (List az)}(h:GJ S (nU S) v l)(hx:Ext S S'):GJ S' (nU S') v l:=by
 obtain⟨cl,g1,g2⟩:=h;exact⟨cl,g1.ext hx,λi e he=>(g2 i e he).ext hx⟩
theorem GK.ext{v:AV}{l:List fm}(h:GK S (nU S) v l)(hx:Ext S S'):GK S' (nU S') v l:=by
 obtain⟨cl,g1,g2⟩:=h;exact⟨cl,g1.ext hx,λi e he=>(g2 i e he).ext hx⟩
theorem au.pz(e:au):1≤e.sz:=by cases e;simp only[au.sz];omega
theorem az.pz(e:az):1≤e.sz:=by cases e;simp only[az.sz];omega
theorem fm.pz(e:fm):1≤e.sz:=by cases e;simp only[fm.sz];omega
theorem nd:∀{l:List au}{i:Nat}{e:au},l[i]? = some e→e.sz≤fD l
 |[],i,e,h=>by simp at h
 |a::l,0,e,h=>by simp at h;subst h;simp only[fD];omega
 |a::l,i+1,e,h=>by have:=nd (l:=l) (i:=i) (e:=e) (by simpa using h);simp only[fD];omega
theorem MF:∀{l:List az}{i:Nat}{e:az},l[i]? = some e→e.sz≤dI l
 |[],i,e,h=>by simp at h
 |a::l,0,e,h=>by simp at h;subst h;simp only[dI];omega
 |a::l,i+1,e,h=>by have:=MF (l:=l) (i:=i) (e:=e) (by simpa using h);simp only[dI];omega
theorem As:∀{l:List fm}{i:Nat}{e:fm},l[i]? = some e→e.sz≤yt l
 |[],i,e,h=>by simp at h
 |a::l,0,e,h=>by simp at h;subst h;simp only[yt];omega
 |a::l,i+1,e,h=>by have:=As (l:=l) (i:=i) (e:=e) (by simpa using h);simp only[yt];omega
theorem sV:∀{l:List (List az)}{i:Nat}{e:List az},l[i]? = some e→1+dI e≤pw l
 |[],i,e,h=>by simp at h
 |a::l,0,e,h=>by simp at h;subst h;simp only[pw];omega
 |a::l,i+1,e,h=>by have:=sV (l:=l) (i:=i) (e:=e) (by simpa using h);simp only[pw];omega
theorem p9:∀l:List au,l.length≤fD l
 |[]=>Nat.le_refl _
 |a::l=>by have:=p9 l;have:=a.pz;simp only[fD,List.length_cons];omega
theorem MG:∀l:List az,l.length≤dI l
 |[]=>Nat.le_refl _
 |a::l=>by have:=MG l;have:=a.pz;simp only[dI,List.length_cons];omega
theorem MH:∀l:List fm,l.length≤yt l
 |[]=>Nat.le_refl _
 |a::l=>by have:=MH l;have:=a.pz;simp only[yt,List.length_cons];omega
theorem wX:∀l:List (List az),l.length≤pw l
 |[]=>Nat.le_refl _
 |a::l=>by have:=wX l;simp only[pw,List.length_cons];omega
end
section
variable {S S':LS}{H:AH}
theorem dZ.fld{Q:Nat→Prop}{sz n j:Nat}{v a:AV}{cl:Nat→List AV}{i q:Nat}{k:AV→Prop}(h:dZ S Q sz v n cl)(hM:Mem H S)(hi:i<n)(hj:j<sz)(ha:(cl i)[j]? = some a)(hk:k a):bf sz v (.int q i) λp=>af j p λp'=>ad p' H k:=by
 refine h.at_ hi λb o cs m _ h3 h4 h5=>?_;rw[aQ];refine aD hM h3 ?_ hk;rw[←h5,List.getElem?_take,if_pos hj,List.getElem?_drop]at ha;exact ha
end
section
variable {S S':LS}{H:AH}
end
section
variable {S S':LS}{H:AH}
theorem gw.done{lo:Nat}{v:AV}{l:List az}(h:iU mo lo S v l)(hM:Mem H S):gw S (jd lo S.n) v l:=h.done hM
theorem pt.done{lo:Nat}{v:AV}{l:List au}(h:iU km lo S v l)(hM:Mem H S):pt S (jd lo S.n) v l:=h.done hM
theorem GK.done{lo:Nat}{v:AV}{l:List fm}(h:iU aqk lo S v l)(hM:Mem H S):GK S (jd lo S.n) v l:=h.done hM
theorem GJ.done{lo:Nat}{v:AV}{l:List (List az)}(h:iU sQ lo S v l)(hM:Mem H S):GJ S (jd lo S.n) v l:=by
 obtain⟨cl,g1,g2⟩:=h.done hM;refine⟨λi=>(cl i).headD .ab,g1.congr λi hi=>?_,λi b hb=>?_⟩
 ·obtain⟨v,bc,e,_⟩:=g2 i _ (List.getElem?_eq_getElem hi);show cl i=[(cl i).headD .ab];rw[e];rfl
 ·obtain⟨v,bc,e,q1,q2⟩:=g2 i b hb;show gw S (jd lo S.n) ((cl i).headD .ab) b;rw[e];exact⟨bc,q1,q2⟩
theorem yA{α:Type}{l:List α}{i:Nat}{a:α}(h:l[i]? = some a):l.take (i+1)=l.take i++[a]:=by
 rw[List.take_add_one,h];rfl
theorem iU.ext{α:Type}{R:Rep α}{lo:Nat}{v:AV}{l:List α}(h:iU R lo S v l)(hM:Mem H S)(hx:Ext S S'):iU R lo S' v l:=h.keep hM hx.n λb _ hb=>hx.ob b hb
end
section
variable {S:LS}{H:AH}
theorem af1{sz b o n c i j:Nat}{ex:Bool}{lo hi:Option AV}{k:AV→Prop}(hij:i≤j)(hj:j≤c)(hlo:lo=some (.int 0 i)∨lo=none∧i=0)(hhi:hi=some (.int 0 j)∨hi=none∧j=n)(hk:k (.slice b (o+i*sz) (j-i) (c-i) sz ex)):fE sz (.slice b o n c sz ex) lo hi none k:=by
 have go:bT (Nat.ble i j) (bT (Nat.ble j c) (bT (Nat.ble c c) (bB (Nat.add o (Nat.mul i sz)) λo'=>bB (Nat.sub j i) λn=>bB (Nat.sub c i) λc'=>k (.slice b o' n c' sz (ex||Option.isSome (none:Option AV)))))):=by
  refine cC (Nat.ble_eq_true_of_le hij) (cC (Nat.ble_eq_true_of_le hj) (cC (Nat.ble_eq_true_of_le (Nat.le_refl _)) ?_));simp only[aV,Option.isSome_none,Bool.or_false];exact hk
 rcases hlo with rfl|⟨rfl,rfl⟩<;>rcases hhi with rfl|⟨rfl,rfl⟩<;>(show bT (Nat.beq sz sz) _;exact cC (Nat.beq_refl _) go)
theorem gw.part{Q:Nat→Prop}{v:AV}{a b:List az}{lo hi:Option AV}{i j:Nat}{k:AV→Prop}(h:gw S Q v a)(hij:i≤j)(hj:j≤a.length)(hlo:lo=some (.int 0 (i:Int))∨lo=none∧i=0)(hhi:hi=some (.int 0 (j:Int))∨hi=none∧j=a.length)(hb:b=(a.drop i).take (j-i))
  (hk:∀v',gw S Q v' b→k v'):fE 5 v lo hi none k:=by
 obtain⟨cl,g1,g2⟩:=h;have hbl:b.length=j-i:=by rw[hb,List.length_take,List.length_drop];omega
 have hbg:∀n e,b[n]? = some e→a[i+n]? = some e:=λn e he=>by
  have hn:=(List.getElem?_eq_some_iff.1 he).1;rw[hb,List.getElem?_take,if_pos (by omega),List.getElem?_drop]at he;exact he
 rcases g1 with⟨rfl,e0⟩|⟨bk,o,c,ex,cs,m,rfl,q1,q2,q3,q4,q5⟩
 ·have ei:i=0:=by omega
  have ej:j=0:=by omega
  subst ei;subst ej;have:fE 5 .ab lo hi none k↔k .ab:=by
   rcases hlo with rfl|⟨rfl,_⟩<;>rcases hhi with rfl|⟨rfl,_⟩<;>exact Iff.rfl
  rw[this];exact hk _ ⟨λ_=>[],.inl ⟨rfl,by omega⟩,λn e he=>by
   have:=(List.getElem?_eq_some_iff.1 he).1;omega⟩
 ·have hle:i*5+(j-i)*5≤a.length*5:=by rw[←Nat.add_mul];exact Nat.mul_le_mul_right _ (by omega)
  refine af1 hij (by omega) hlo hhi (hk _ ⟨λn=>cl (i+n),.inr ⟨bk,o+i*5,c-i,ex,cs,m,by rw[hbl],q1,q2,by omega,by rw[hbl];omega,λn hn=>?_⟩,λn e he=>g2 _ e (hbg n e he)⟩);have:=q5 (i+n) (by omega);rw[Nat.add_mul,←Nat.add_assoc]at this;exact this
end
section
variable {H:AH}{S S':LS}
theorem EI{Q:Nat→Prop}{v:AV}{l:List (List Nat)}(h:kK S Q v l):j9 S Q v (l.map ai):=by
 obtain⟨h1,_⟩:=h;rcases h1 with⟨rfl,e0⟩|⟨b,o,c,ex,cs,m,rfl,q1,q2,q3,q4,q5⟩
 ·exact .inl ⟨rfl,by rw[List.length_eq_zero_iff.1 e0];rfl⟩
 ·refine .inr ⟨b,o,c,ex,cs,m,by rw[List.length_map],by rw[List.length_map];exact q3,q1,q2,by rw[List.length_map];omega,?_⟩;refine List.ext_getElem? λi=>?_;rw[List.length_map,List.getElem?_take,List.getElem?_map];by_cases hi:i<l.length
  ·rw[if_pos hi,List.getElem?_drop,List.getElem?_eq_getElem hi];have g:=q5 i hi;have g0:((cs.drop (o+i*1)).take 1)[0]? = [ai (l[i]?.getD [])][0]?:=by rw[g]
   rw[List.getElem?_take,if_pos (by omega),List.getElem?_drop,Nat.add_zero,Nat.mul_one,List.getElem?_eq_getElem hi]at g0;exact g0
  ·rw[if_neg hi,List.getElem?_eq_none (by omega)];rfl
theorem ah3(l:List (List Nat)):∀a∈l.map ai,a.one=true:=by
 intro a ha;obtain⟨t,_,rfl⟩:=List.mem_map.1 ha;rfl
structure j0(lo b:Nat)(S:LS)(vn vo:AV)(ns out:List (List Nat)):Prop where
 ob:S.ob b=.ce [vn,vo] 0
 fn:fa S vn (ns.map ai)
 fo:fa S vo (out.map ai)
 n8:∀t∈ns,B8 t
 o8:∀t∈out,B8 t
 nen:¬aj vn b
 neo:¬aj vo b
 ap:∀x,aj vn x→¬aj vo x
 vR:lo≤b
 GL:∀x,aj vn x→lo≤x
 loo:∀x,aj vo x→lo≤x
def own(b:Nat)(vn vo:AV)(x:Nat):Prop:=x=b∨aj vn x∨aj vo x
structure sW(b:Nat)(S S':LS)(vn vo eU pI:AV):Prop where
 n:S.n≤S'.n
 ob:∀x,x<S.n→¬own b vn vo x→S'.ob x=S.ob x
 own:∀x,own b eU pI x→own b vn vo x∨S.n≤x
theorem sW.refl{b:Nat}{S:LS}{vn vo:AV}:sW b S S vn vo vn vo:=⟨Nat.le_refl _,λ_ _ _=>rfl,λ_ h=>.inl h⟩
theorem sW.trans{b:Nat}{S S' lD:LS}{vn vo eU pI MI anQ:AV}(h:sW b S S' vn vo eU pI)(g:sW b S' lD eU pI MI anQ):sW b S lD vn vo MI anQ:=
 ⟨Nat.le_trans h.n g.n,λx hx hn=>(g.ob x (Nat.lt_of_lt_of_le hx h.n) λq=>(h.own x q).elim hn (by omega)).trans (h.ob x hx hn),λx hx=>(g.own x hx).elim (h.own x) λq=>.inr (Nat.le_trans h.n q)⟩
section
variable {lo b:Nat}{vn vo:AV}{ns out:List (List Nat)}
theorem j0.yB(h:j0 lo b S vn vo ns out){x:Nat}(hx:own b vn vo x):lo≤x:=by
 rcases hx with rfl|q|q
 ·exact h.vR
 ·exact h.GL x q
 ·exact h.loo x q
theorem j0.iL(h:j0 lo b S vn vo ns out)(hM:Mem H S){x:Nat}(hx:own b vn vo x):x<S.n:=by
 rcases hx with rfl|q|q
 ·exact hM.lt (by rw[h.ob];simp)
 ·exact h.fn.lt hM q
 ·exact h.fo.lt hM q
theorem j0.keep(h:j0 lo b S vn vo ns out)(hM:Mem H S)(hk:∀x,own b vn vo x→S'.ob x=S.ob x):j0 lo b S' vn vo ns out:=
 { h with ob:=(hk b (.inl rfl)).trans h.ob,fn:=h.fn.keep hM λx hx _=>hk x (.inr (.inl hx)),fo:=h.fo.keep hM λx hx _=>hk x (.inr (.inr hx)) }
theorem j0.ext(h:j0 lo b S vn vo ns out)(hM:Mem H S)(hx:Ext S S'):j0 lo b S' vn vo ns out:=h.keep hM λx q=>hx.ob x (h.iL hM q)
theorem Ext.ost(hx:Ext S S'):sW b S S' vn vo vn vo:=⟨hx.n,λx h _=>hx.ob x h,λ_ h=>.inl h⟩
theorem sW.low{eU pI:AV}(g:sW b S S' vn vo eU pI)(h:j0 lo b S vn vo ns out)(hlo:lo≤S.n){x:Nat}(hx:x<lo):S'.ob x=S.ob x:=g.ob x (by omega) λq=>by have:=h.yB q;omega
theorem j0.gO{k:AV→Prop}(h:j0 lo b S vn vo ns out)(hM:Mem H S)(hk:k vn):ao (.ptr b 0) (af 0 (.ptr b 0) λv=>ad v H k):=by
 simp only[bY,aQ,Nat.zero_add];exact aD hM h.ob (v:=vn) rfl hk
theorem fa.one{v:AV}{l:List AV}(h:fa S v l):v.one=true:=by
 rcases h with⟨rfl,_⟩|⟨b,c,ex,cs,rfl,_⟩<;>rfl
theorem j0.pZ{k:AH→Prop}{eU:AV}{ns':List (List Nat)}(h:j0 lo b S vn vo ns out)(hM:Mem H S)(hf:fa S eU (ns'.map ai))(h8:∀t∈ns',B8 t)(hne:¬aj eU b)(hap:∀x,aj eU x→¬aj vo x)(hlo:∀x,aj eU x→lo≤x)
  (hk:∀H' S',Mem H' S'→S'.n=S.n→(∀x,x≠b→S'.ob x=S.ob x)→j0 lo b S' eU vo ns' out→k H'):ao (.ptr b 0) (af 0 (.ptr b 0) λv=>ah 1 v eU H k):=by
 simp only[bY,aQ,Nat.zero_add];refine bH hM h.ob (by omega) (by show 0<2;omega) hf.one λH' m=>?_;have k1:∀x,x≠b→(S.set b (.ce [eU,vo] 0)).ob x=S.ob x:=λx hx=>LS.an _ _ hx;exact hk H' _ m rfl k1 ⟨LS.av _ _ _,hf.keep hM λx hx _=>k1 x λq=>hne (q ▸ hx),h.fo.keep hM λx hx _=>k1 x λq=>h.neo (q ▸ hx),h8,h.o8,hne,h.neo,hap,h.vR,hlo,h.loo⟩
theorem j0.add0{Q:Nat→Prop}{a1:AV}{l:List (List Nat)}{k:AH→Prop}(h:j0 lo b S vn vo ns out)(hM:Mem H S)(hlo:lo≤S.n)(hr:j9 S Q a1 (l.map ai))(h8:∀t∈l,B8 t)(hl:ns.length+l.length≤1000000)
  (hk:∀H' S' eU,Mem H' S'→sW b S S' vn vo eU vo→j0 lo b S' eU vo (ns++l) out→k H'):cQ 1 16 vn a1 H λv7 H8=>ao (.ptr b 0) (af 0 (.ptr b 0) λv9=>ah 1 v9 v7 H8 k):=by
 refine sg hM h.fn hr (by simp;omega) (ah3 _) λH1 S1 v1 m1 n1 k1 f1 b1 _ _ _=>?_;have hbl:=h.iL hM (.inl rfl);have h1:j0 lo b S1 vn vo [] out∨True:=.inr trivial;have e1:S1.ob b=.ce [vn,vo] 0:=(k1 b hbl h.nen).trans h.ob;have fo1:fa S1 vo (out.map ai):=h.fo.keep hM λx hx hlt=>k1 x hlt λq=>h.ap x q hx;have hne:¬aj v1 b:=λq=>(b1 b q).elim h.nen (by omega);have hap:∀x,aj v1 x→¬aj vo x:=λx hx q=>(b1 x hx).elim (λw=>h.ap x w q) λw=>by have:=h.fo.lt hM q;omega
 simp only[bY,aQ,Nat.zero_add];refine bH m1 e1 (by omega) (by show 0<2;omega) f1.one λH' m=>?_;have k2:∀x,x≠b→(S1.set b (.ce [v1,vo] 0)).ob x=S1.ob x:=λx hx=>LS.an _ _ hx;refine hk H' _ v1 m ⟨n1,λx hx hn=>?_,λx hx=>?_⟩ ⟨LS.av _ _ _,?_,fo1.keep m1 λx hx _=>k2 x λq=>h.neo (q ▸ hx),λt ht=>?_,h.o8,hne,h.neo,hap,h.vR,λx hx=>?_,h.loo⟩
 ·exact(k2 x λq=>hn (.inl q)).trans (k1 x hx λq=>hn (.inr (.inl q)))
 ·rcases hx with q|q|q
  ·exact .inl (.inl q)
  ·exact(b1 x q).elim (λw=>.inl (.inr (.inl w))) .inr
  ·exact .inl (.inr (.inr q))
 ·rw[List.map_append];exact f1.keep m1 λx hx _=>k2 x λq=>hne (q ▸ hx)
 ·rcases List.mem_append.1 ht with g|g
  ·exact h.n8 t g
  ·exact h8 t g
 ·exact(b1 x hx).elim (h.GL x) λw=>by omega
theorem j0.add{Q:Nat→Prop}{a1:AV}{l:List (List Nat)}{k:AH→Prop}(h:j0 lo b S vn vo ns out)(hM:Mem H S)(hlo:lo≤S.n)(hr:j9 S Q a1 (l.map ai))(h8:∀t∈l,B8 t)(hl:ns.length+l.length≤1000000)
  (hk:∀H' S' eU,Mem H' S'→sW b S S' vn vo eU vo→j0 lo b S' eU vo (ns++l) out→k H'):ao (.ptr b 0) (af 0 (.ptr b 0) λv5=>ad v5 H λv6=>cQ 1 16 v6 a1 H λv7 H8=>ao (.ptr b 0) (af 0 (.ptr b 0) λv9=>ah 1 v9 v7 H8 k)):=by
 refine h.gO hM ?_;exact h.add0 hM hlo hr h8 hl hk
theorem j0.cut{j:Nat}{k:AH→Prop}(h:j0 lo b S vn vo ns out)(hM:Mem H S)(hj:j≤ns.length)
  (hk:∀H' S' eU,Mem H' S'→sW b S S' vn vo eU vo→j0 lo b S' eU vo (ns.take j) out→k H'):ao (.ptr b 0) (af 0 (.ptr b 0) λv4=>ad v4 H λv5=>fE 1 v5 none (some (.int 0 (j:Int))) none λv6=>ao (.ptr b 0) (af 0 (.ptr b 0) λv7=>ah 1 v7 v6 H k)):=by
 refine h.gO hM ?_;refine pV h.fn (by rw[List.length_map];exact hj) λv' f' hb _ _=>?_;rw[←List.map_take]at f';refine h.pZ hM f' (λt ht=>h.n8 t (List.mem_of_mem_take ht)) (λq=>h.nen ((hb b).1 q)) (λx q=>h.ap x ((hb x).1 q)) (λx q=>h.GL x ((hb x).1 q)) λH' S' m n k1 h'=>?_;refine hk H' S' v' m ⟨by omega,λx _ hn=>k1 x λq=>hn (.inl q),λx hx=>?_⟩ h';rcases hx with q|q|q
 ·exact .inl (.inl q)
 ·exact .inl (.inr (.inl ((hb x).1 q)))
 ·exact .inl (.inr (.inr q))
theorem j0.put{s:List Nat}{k:AV→AH→Prop}(h:j0 lo b S vn vo ns out)(hM:Mem H S)(hlo:lo≤S.n)(h8:B8 s)(hl:out.length≤1000000)
  (hk:∀H' S' pI,Mem H' S'→Ext S S'∨True→S.n≤S'.n→(∀x,x<S.n→¬aj vo x→S'.ob x=S.ob x)→fa S' pI ((out++[s]).map ai)→(∀x,aj pI x→aj vo x∨S.n≤x)→k pI H'):aR (aB H) 1 1 [ai s] λv3 H4=>cQ 1 16 vo v3 H4 k:=by
 refine dJ hM rfl (λa ha=>by simp only[List.mem_singleton]at ha;subst ha;rfl) λH1 m1=>?_;have x1:Ext S (S.push (.ce [ai s] 0)):=Ext.push _ _;have r1:j9 (S.push (.ce [ai s] 0)) (λ_=>True) (.slice S.n 0 1 1 1 true) [ai s]:=.inr ⟨S.n,0,1,true,[ai s],0,rfl,by simp,trivial,LS.aq _ _,by simp,rfl⟩;have f1:fa (S.push (.ce [ai s] 0)) vo (out.map ai):=h.fo.keep hM λx _ hx=>LS.bR _ _ hx;refine sg m1 f1 r1 (by simp;omega) (λa ha=>by simp only[List.mem_singleton]at ha;subst ha;rfl) λH2 S2 v2 m2 n2 k2 f2 b2 _ _ _=>?_;have n2:S.n+1≤S2.n:=n2;refine hk H2 S2 v2 m2 (.inr trivial) (by omega) (λx hx hn=>?_) (by rw[List.map_append];exact f2) λx hx=>?_
 ·rw[k2 x (by show x<S.n+1;omega) hn];exact LS.bR _ _ hx
 ·rcases b2 x hx with q|q
  ·exact .inl q
  ·have q:S.n+1≤x:=q;exact .inr (by omega)
end
end
end Go.X
namespace Go.Proofs.YtcedghechlgecaaDoor
open Go Go.X Go.Proofs.YtcedghechlgecaaDoor.G
section
variable {H:AH}{S:LS}{K:KF}
theorem aq0{Q:Nat→Prop}{v:AV}{l:List (List Nat)}{s:List Nat}(hM:Mem H S)(hr:j9 S Q v (l.map ai))(hl8:∀t∈l,B8 t)(h8:B8 s)(hl:l.length≤900000)
  (hK:∀z:Int,(0≤z↔s∈l)→K (.ret (.int 0 z)) H):f49 v (ai s) H K:=by
 have loop:∀(q i:Nat),i≤l.length→l.length-i<q→(∀j t,j<i→l[j]? = some t→t≠s)→vx qD K q v (ai s) (l.length:Int) (i:Int) H:=by
  intro q
  induction q with
  |zero=>intro i _ h;omega
  |succ q ih=>
   intro i hi hq hno;show DF qD K (vx qD K q) (DE qD K) v (ai s) (l.length:Int) (i:Int) H;unfold DF DE;rw[cK];refine cx (λg=>?_) (λg=>?_)
   ·have hil:i<l.length:=by omega
    have ht:=List.getElem?_eq_getElem hil;refine hr.load hM (a:=ai l[i]) (by rw[List.getElem?_map,ht];rfl) ?_;refine wG h8 (hl8 _ (List.getElem_mem _)) ?_;rw[aM];by_cases e:s=l[i]
    ·rw[decide_eq_true e,aG];exact hK i ⟨λ_=>by rw[e];exact List.getElem_mem _,λ_=>by omega⟩
    ·rw[decide_eq_false e,aH];simp only[dS,fz];refine w0 (by omega) (by omega) ?_;refine ih (i+1) (by omega) (by omega) λj t hj hjt=>?_;rcases Nat.lt_or_ge j i with g1|g1
     ·exact hno j t g1 hjt
     ·have e1:j=i:=by omega
      subst e1;rw[ht]at hjt;cases hjt;exact λq=>e q.symm
   ·refine hK _ ⟨λh=>absurd h (by decide),λh=>?_⟩;obtain⟨j,hj⟩:=List.mem_iff_getElem?.1 h;have:=(List.getElem?_eq_some_iff.1 hj).1;exact absurd rfl (hno j s (by omega) hj)
 show DG qD K (vx qD K G.NL) v (ai s) H;unfold DG;have iR:G.NL=1000000:=rfl;generalize G.NL=iq at iR ⊢;refine hr.len ?_;rw[aO,List.length_map];exact loop iq 0 (Nat.zero_le _) (by omega) λj t h=>by omega
theorem aq1{Q:Nat→Prop}{v:AV}{l:List (List Nat)}{s:List Nat}(hM:Mem H S)(hr:j9 S Q v (l.map ai))(hl8:∀t∈l,B8 t)(h8:B8 s)(hl:l.length≤900000)
  (hK:K (.ret (.bool (decide (s∈l)))) H):f23 v (ai s) H K:=by
 show DH KX K v (ai s) H;unfold DH;refine aq0 hM hr hl8 h8 hl λz hz=>?_;rw[al,aO,cK];have e:(!decide (z<Int.ofNat 0))=decide (s∈l):=by
  by_cases g:s∈l
  ·have:=hz.2 g;rw[decide_eq_true g,decide_eq_false (by show ¬z<0;omega)];rfl
  ·have:¬0≤z:=λq=>g (hz.1 q);rw[decide_eq_false g,decide_eq_true (by show z<0;omega)];rfl
 rw[e];exact hK
theorem anR{Q:Nat→Prop}{v:AV}{l:List (List Nat)}{s:List Nat}(hM:Mem H S)(hr:j9 S Q v (l.map ai))(hl8:∀t∈l,B8 t)(h8:B8 s)(hl:l.length≤900000)
  (hK:K (.ret (.bool (decide (s∈l)))) H):f25 v (ai s) H K:=by
 have loop:∀(q i:Nat),i≤l.length→l.length-i<q→(∀j t,j<i→l[j]? = some t→t≠s)→pc kG K q v (ai s) (i:Int) H:=by
  intro q
  induction q with
  |zero=>intro i _ h;omega
  |succ q ih=>
   intro i hi hq hno;show vg kG K (pc kG K q) (xZ kG K) v (ai s) (i:Int) H;unfold vg xZ;refine hr.len ?_;rw[aO,cK,List.length_map];refine cx (λg=>?_) (λg=>?_)
   ·have hil:i<l.length:=by omega
    have ht:=List.getElem?_eq_getElem hil;refine hr.load hM (a:=ai l[i]) (by rw[List.getElem?_map,ht];rfl) ?_;refine wG (hl8 _ (List.getElem_mem _)) h8 ?_;rw[aM];by_cases e:l[i]=s
    ·rw[decide_eq_true e,aG];rw[decide_eq_true (by rw[←e];exact List.getElem_mem _)]at hK;exact hK
    ·rw[decide_eq_false e,aH];simp only[dS,fz];refine w0 (by omega) (by omega) ?_;refine ih (i+1) (by omega) (by omega) λj t hj hjt=>?_;rcases Nat.lt_or_ge j i with g1|g1
     ·exact hno j t g1 hjt
     ·have e1:j=i:=by omega
      subst e1;rw[ht]at hjt;cases hjt;exact e
   ·rw[decide_eq_false (λh=>by
     obtain⟨j,hj⟩:=List.mem_iff_getElem?.1 h;have:=(List.getElem?_eq_some_iff.1 hj).1;exact absurd rfl (hno j s (by omega) hj))]at hK
    exact hK
 show vh kG K (pc kG K G.NL) v (ai s) H;unfold vh;have iR:G.NL=1000000:=rfl;generalize G.NL=iq at iR ⊢;exact loop iq 0 (Nat.zero_le _) (by omega) λj t h=>by omega
end
end Go.Proofs.YtcedghechlgecaaDoor
namespace Go.X
def Ry(c:Bt AV):Nat→List AV→Prop
 |_,[]=>True
 |i,a::l=>c.fV i λv=>bT (bj v a) (Ry c (Nat.succ i) l)
def MJ(z:List AV)(o:lJ)(H:AH):Prop:=
 match o with
 |.ret (.slice b o' n m sz ex)=>bT (Nat.beq o' 0) (bT (Nat.beq n z.length) (bT (Nat.beq m z.length) (bT (Nat.beq sz 1) (bT ex (H.t.fV b λob=>match ob with|.cells c q md=>bT (Nat.beq q z.length) (bT (Nat.beq md 0) (Ry c 0 z))|_=>False)))))
 |_=>False
theorem GM{c:Bt AV}(hs:∀a b,bj a b=true→(∃n x,b=.str n x)→a=b):∀{l:List AV}{i:Nat},(∀a∈l,∃n x,a=.str n x)→Ry c i l→∀j,j<l.length→c.get? (i+j)=l[j]?
 |[],i,_,_,j,hj=>by simp at hj
 |a::l,i,hl,h,j,hj=>by
  obtain⟨v,h1,h2⟩:=Bt.dL _ _ _ h;obtain⟨h3,h4⟩:=aA h2;cases j with
  |zero=>rw[Nat.add_zero,h1];exact congrArg some (hs v a h3 (hl a (by simp)))
  |succ j=>
   have:=GM hs (λx hx=>hl x (by simp[hx])) h4 j (by simpa using hj);rw[show i+(j+1)=Nat.succ i+j by omega];simpa using this
theorem acG{a b:AV}(h:bj a b=true)(hb:∃n x,b=.str n x):a=b:=by
 obtain⟨n,x,rfl⟩:=hb;cases a<;>simp only[bj,Bool.and_eq_true]at h<;>try cases h
 rename_i h1 h2;rw[Nat.eq_of_beq_eq_true h1,Nat.eq_of_beq_eq_true h2]
theorem Rz{z:List AV}{o:lJ}{H:AH}(hz:∀a∈z,∃n x,a=.str n x)(h:MJ z o H):∃b c,o=.ret (.slice b 0 z.length z.length 1 true)∧H.at b=.cells c z.length 0∧∀i:Nat,i<z.length→c.get? i=z[i]?:=by
 unfold MJ at h;split at h
 ·rename_i b o' n m sz ex;obtain⟨h1,h⟩:=aA h;obtain⟨h2,h⟩:=aA h;obtain⟨h3,h⟩:=aA h;obtain⟨h4,h⟩:=aA h;obtain⟨h5,h⟩:=aA h;obtain⟨ob,g1,h⟩:=Bt.dL _ _ _ h;cases ob with
  |cells c q md=>
   obtain⟨h6,hq⟩:=aA h;obtain⟨h7,hC⟩:=aA hq;have e1:=Nat.eq_of_beq_eq_true h1;have e2:=Nat.eq_of_beq_eq_true h2;have e3:=Nat.eq_of_beq_eq_true h3;have e4:=Nat.eq_of_beq_eq_true h4;have e6:=Nat.eq_of_beq_eq_true h6;have e7:=Nat.eq_of_beq_eq_true h7;subst e1;subst e2;subst e3;subst e4;subst h5;refine⟨b,c,rfl,?_,λi hi=>?_⟩
   ·unfold AH.at
    rw[g1,e6,e7]
    try rfl
   ·have:=GM (λ_ _=>acG) hz hC i hi;rw[Nat.zero_add]at this;exact this
  |map=>exact h.elim
  |iter=>exact h.elim
  |dead=>exact h.elim
 ·exact h.elim
theorem of_run{p:Prop}(h:p=True):p:=by rw[h];trivial
theorem aC.weaken{P:Program}{g:Nat}{F F':dq}(h:aC P g F)(hw:∀l H K,F' l H K→F l H K):aC P g F':=λhb l H K hf=>h hb l H K (hw l H K hf)
theorem zN:∀t∈builtins,B8 t:=by
 intro t ht;simp only[builtins,List.mem_cons,List.not_mem_nil,or_false]at ht;rcases ht with rfl|rfl|rfl|rfl|rfl|rfl|rfl|rfl|rfl|rfl|rfl|rfl|rfl|rfl|rfl|rfl|rfl|rfl|rfl|rfl|rfl|rfl<;>exact aX (by decide)
end Go.X
namespace Go.Proofs.YtcedghechlgecaaDoor
open Go Go.X Go.Proofs.YtcedghechlgecaaDoor.G
section
variable {H:AH}{S:LS}{K:KF}
def spc:List Int:=(List.range 256).map λi=>if Nat.beq i 32||(Nat.ble 9 i&&Nat.ble i 13) then 1 else 0
def tb0:List AV:=spc.map λz=>AV.int 1 z
def gl:List (Option (List AV)):=[some tb0,none,none]
def lF:List AV:=[(.str 4 1701869940),(.str 5 491496043109),(.str 5 465674789744),(.str 6 111550524650083),(.str 6 111520796337522),(.str 5 431315315065),(.str 6 126948300911731),(.str 8 7453010373645660020),(.str 5 500068609908),(.str 3 6452595),(.str 4 1702132066),(.str 4 1918986339),(.str 3 7366002),(.str 5 491328139381),(.str 5 491328597868),(.str 7 28555907813500274),(.str 4 1684957542),(.str 6 128034677157481),(.str 6 111559349986674),(.str 4 1937335659),(.str 4 1852403562),(.str 4 1819042147)]
def wdT:AV:=.str 130 4989745452750927712642869024936041018982183869112399744596646328559347698139019358746423479417311085373974869505494574274628988303325946808601483887101106809989390966068797068531459062952690525578417336589675308608346298249300317674214036809461764501959304432550546839486516338336139505618763273980857346390260084
theorem RA:IW gl ⟨.e,0⟩ (λH0=>aw [.a] f24 [wdT] H0 (MJ lF))=True:=by kernel_rfl
theorem nc:lF=builtins.map ai:=by kernel_rfl
theorem rM:∀a∈lF,∃n x,a=.str n x:=by
 rw[nc];intro a ha;obtain⟨t,_,rfl⟩:=List.mem_map.1 ha;exact⟨_,_,rfl⟩
theorem MK:∀z,some z∈gl→∀a∈z,xJ a=true:=by
 intro z hz a ha;simp only[gl,List.mem_cons,Option.some.injEq,reduceCtorEq,List.not_mem_nil,or_false]at hz;subst hz;obtain⟨x,_,rfl⟩:=List.mem_map.1 ha;rfl
noncomputable def RB:AV→AH→KF→Prop:=λa H K=>a=wdT∧∃S,Mem H S∧mP gl S∧∀H',Mem H' (S.push (.ce lF 0))→K (.ret (.slice S.n 0 lF.length lF.length 1 true)) H'
theorem ah4:aC Tryd.prog 24 (aw [.a] RB):=by
 have h:=aC.SV (gl:=gl) (by kernel_rfl) MK ZW (args:=[wdT]) (λa ha=>by simp only[List.mem_singleton]at ha;subst ha;rfl) (z:=lF) (λa ha=>by obtain⟨n,x,rfl⟩:=rM a ha;rfl)
  (λo H' hk=>Rz rM hk) (Gt (of_run RA))
 refine h.weaken λl H K hf=>?_;cases l with
 |nil=>exact hf.elim
 |cons a l=>cases l with
  |nil=>
   have hf':RB a H K:=hf;obtain⟨rfl,hS⟩:=hf';exact⟨rfl,hS⟩
  |cons b l=>exact hf.elim
noncomputable def R10:tF:=(f23,RB)
noncomputable def g10:AV→AH→KF→Prop:=QK R10
theorem anS:aC Tryd.prog 10 (aw [.a] g10):=On R10 (ag.cons KY (ag.cons ah4 ag.nil))
theorem aq2{s:List Nat}(hM:Mem H S)(hT:mP gl S)(h8:B8 s)(hK:∀H' S',Mem H' S'→Ext S S'→K (.ret (.bool (decide (s∈builtins)))) H'):g10 (ai s) H K:=by
 show DI R10 K (ai s) H;unfold DI;have ra:R10.1=f23:=rfl;have rb:R10.2=RB:=rfl;rw[ra,rb];refine⟨rfl,S,hM,hT,λH1 m1=>?_⟩;simp only[al];have x1:Ext S (S.push (.ce lF 0)):=Ext.push _ _;have r1:j9 (S.push (.ce lF 0)) (λ_=>True) (.slice S.n 0 lF.length lF.length 1 true) (builtins.map ai):=.inr ⟨S.n,0,lF.length,true,lF,0,by rw[←nc],by rw[←nc];exact Nat.le_refl _,trivial,LS.aq _ _,by rw[←nc];omega,by rw[←nc,List.drop_zero];exact List.take_of_length_le (Nat.le_refl _)⟩;refine aq1 m1 r1 zN h8 (by decide) ?_;rw[al,aM];exact hK H1 _ m1 x1
theorem aq3{s:List Nat}(hM:Mem H S)(h8:B8 s)(hK:∀H' S',Mem H' S'→Ext S S'→K (.ret (.bool (decide (s∈builtins)))) H'):f11 (ai s) H K:=by
 show Lg Lh K (ai s) H;unfold Lg;have ra:Lh=f25:=rfl;rw[ra];have ew:[(.str 4 1701869940),(.str 5 491496043109),(.str 5 465674789744),(.str 6 111550524650083),(.str 6 111520796337522),(.str 5 431315315065),(.str 6 126948300911731),(.str 8 7453010373645660020),(.str 5 500068609908),(.str 3 6452595),(.str 4 1702132066),(.str 4 1918986339),(.str 3 7366002),(.str 5 491328139381),(.str 5 491328597868),(.str 7 28555907813500274),(.str 4 1684957542),(.str 6 128034677157481),(.str 6 111559349986674),(.str 4 1937335659),(.str 4 1852403562),(.str 4 1819042147)]=lF:=rfl;rw[ew];refine dJ hM rfl (λa ha=>by obtain⟨n,x,rfl⟩:=rM a ha;rfl) λH1 m1=>?_;have x1:Ext S (S.push (.ce lF 0)):=Ext.push _ _;have r1:j9 (S.push (.ce lF 0)) (λ_=>True) (.slice S.n 0 22 22 1 true) (builtins.map ai):=.inr ⟨S.n,0,22,true,lF,0,by rw[←nc];rfl,by rw[←nc];exact Nat.le_refl _,trivial,LS.aq _ _,by rw[←nc];show 0+lF.length≤lF.length;omega,by rw[←nc,List.drop_zero];exact List.take_of_length_le (Nat.le_refl _)⟩;refine anR m1 r1 zN h8 (by decide) ?_;rw[al,aM];exact hK H1 _ m1 x1
noncomputable def R73:nZ:=(g10,f23)
noncomputable def g73:AV→AV→AH→KF→Prop:=QL R73
def OPo(lo b:Nat)(S:LS)(vn vo:AV)(ns out:List (List Nat))(K:KF):Prop:=∀H' S' eU pI,Mem H' S'→sW b S S' vn vo eU pI→j0 lo b S' eU pI ns out→K (.ret (.aL [])) H'
end
end Go.Proofs.YtcedghechlgecaaDoor
namespace Go.X
structure arS(n:Nat):Prop where
 e:∀ns out x,x.wf→(oE n ns out x).length≤out.length+x.sz
 f:∀ns out x,x.wf→(oF n ns out x).length≤out.length+x.sz
 w:∀ns names b thn out,yu b→qW thn→(oW n ns names b thn out).length≤out.length+dI b+fD thn
 s:∀r x,x.wf→(oS n r x).2.length≤r.2.length+x.sz∧(oS n r x).1.length≤r.1.length+x.sz
theorem GN:∀(l:List az) (i:Nat),dI (l.take i)≤dI l
 |[],i=>by simp[dI]
 |a::l,0=>by simp[dI]
 |a::l,i+1=>by have:=GN l i;simp only[List.take_succ_cons,dI];omega
theorem aep{l:List az}{i:Nat}{e:az}(h:l[i]? = some e):dI (l.take (i+1))=dI (l.take i)+e.sz:=by
 rw[List.take_add_one,h,Ao];simp[dI]
section
variable {H:AH}{S S':LS}
def gy(lo:Nat):Nat→Prop:=λx=>x<lo
structure En(gl:List (Option (List AV)))(lo b:Nat)(H:AH)(S:LS)(vn vo:AV)(ns out:List (List Nat)):Prop where
 m:Mem H S
 o:j0 lo b S vn vo ns out
 t:mP gl S
 g:gl.length≤lo
 l:lo≤S.n
section
variable {gl:List (Option (List AV))}{lo b:Nat}{vn vo eU pI:AV}{ns out ns' out':List (List Nat)}{H':AH}
theorem ON(hT:mP gl S)(hg:gl.length≤lo)(hk:∀x,x<lo→S'.ob x=S.ob x):mP gl S':=λx z hz=>(hk x (Nat.lt_of_lt_of_le (List.getElem?_eq_some_iff.1 hz).1 hg)).trans (hT x z hz)
theorem En.low(h:En gl lo b H S vn vo ns out)(g:sW b S S' vn vo eU pI):∀x,x<lo→S'.ob x=S.ob x:=λx hx=>g.low h.o h.l hx
theorem En.step(h:En gl lo b H S vn vo ns out)(m:Mem H' S')(g:sW b S S' vn vo eU pI)(o:j0 lo b S' eU pI ns' out'):En gl lo b H' S' eU pI ns' out':=
 ⟨m,o,ON h.t h.g (h.low g),h.g,Nat.le_trans h.l g.n⟩
theorem En.ext(h:En gl lo b H S vn vo ns out)(m:Mem H' S')(x:Ext S S'):En gl lo b H' S' vn vo ns out:=h.step m x.ost (h.o.ext h.m x)
theorem En.new(h:En gl lo b H S vn vo ns out):¬own b vn vo S.n:=λq=>Nat.lt_irrefl _ (h.o.iL h.m q)
theorem uj{v:AV}{l:List au}(h:pt S (gy lo) v l)(hk:∀x,x<lo→S'.ob x=S.ob x):pt S' (gy lo) v l:=by
 obtain⟨cl,g1,g2⟩:=h;exact⟨cl,g1.go hk λ_ h=>h,λi e he=>(g2 i e he).go hk λ_ h=>h⟩
theorem ML{v:AV}{l:List az}(h:gw S (gy lo) v l)(hk:∀x,x<lo→S'.ob x=S.ob x):gw S' (gy lo) v l:=by
 obtain⟨cl,g1,g2⟩:=h;exact⟨cl,g1.go hk λ_ h=>h,λi e he=>(g2 i e he).go hk λ_ h=>h⟩
theorem aeq{v:AV}{l:List fm}(h:GK S (gy lo) v l)(hk:∀x,x<lo→S'.ob x=S.ob x):GK S' (gy lo) v l:=by
 obtain⟨cl,g1,g2⟩:=h;exact⟨cl,g1.go hk λ_ h=>h,λi e he=>(g2 i e he).go hk λ_ h=>h⟩
theorem wY{v:AV}{l:List (List az)}(h:GJ S (gy lo) v l)(hk:∀x,x<lo→S'.ob x=S.ob x):GJ S' (gy lo) v l:=by
 obtain⟨cl,g1,g2⟩:=h;exact⟨cl,g1.go hk λ_ h=>h,λi e he=>ML (g2 i e he) hk⟩
theorem anT{v:AV}{l:List (List Nat)}(h:kK S (gy lo) v l)(hk:∀x,x<lo→S'.ob x=S.ob x):kK S' (gy lo) v l:=⟨h.1.go hk λ_ h=>h,h.2⟩
end
end
end Go.X
namespace Go.Proofs.YtcedghechlgecaaDoor
open Go Go.X Go.Proofs.YtcedghechlgecaaDoor.G
section
variable {H:AH}{S:LS}{K:KF}
structure ExC(F:AV→AV→AH→KF→Prop)(n:Nat)(l:List au):Prop where
 run:∀{K:KF}{H:AH}{S:LS}{lo b:Nat}{vn vo v:AV}{ns out:List (List Nat)},En gl lo b H S vn vo ns out→pt S (gy lo) v l→qW l→ns.length+fD l≤800000→out.length+fD l≤800000→OPo lo b S vn vo ns (l.foldl (oE n ns) out) K→F (.ptr b 0) v H K
structure WiC(F:AV→AV→AV→AV→AH→KF→Prop)(n:Nat)(names:List (List Nat))(bd:List az)(thn:List au):Prop where
 run:∀{K:KF}{H:AH}{S:LS}{lo b:Nat}{vn vo v1 v2 v3:AV}{ns out:List (List Nat)},En gl lo b H S vn vo ns out→kK S (gy lo) v1 names→gw S (gy lo) v2 bd→pt S (gy lo) v3 thn→yu bd→qW thn→ns.length+names.length+dI bd+fD thn≤800000→out.length+dI bd+fD thn≤800000→OPo lo b S vn vo ns (oW n ns names bd thn out) K→F (.ptr b 0) v1 v2 v3 H K
structure StC(F:AV→AV→AH→KF→Prop)(n:Nat)(s:az):Prop where
 run:∀{K:KF}{H:AH}{S:LS}{lo b:Nat}{vn vo v:AV}{ns out:List (List Nat)},En gl lo b H S vn vo ns out→rvS S (gy lo) v s→s.wf→ns.length+s.sz≤800000→out.length+s.sz≤800000→OPo lo b S vn vo (oS n (ns,out) s).1 (oS n (ns,out) s).2 K→F (.ptr b 0) v H K
theorem tT{n:Nat}{z c:List AV}{k:AV→AH→Prop}(hM:Mem H S)(hz:∀a∈z,a.one=true)(hzl:z.length=n)(hc:c.length=n)(ho:∀a∈c,a.one=true)
  (hk:∀H' S',Mem H' S'→Ext S S'→S'.ob S.n=.ce c 0→S'.n=S.n+1→k (.ptr S.n 0) H'):eJ H (hN (aB H) z λv H4=>ah n v (.agg c) H4 λH5=>k v H5):=by
 refine e8 (dt hM hz λH1 m1=>?_);refine kg m1 (LS.aq _ _) hzl hc ho λH2 m2=>?_;exact hk H2 _ m2 ((Ext.push S _).set (Nat.le_refl _) _) (LS.av _ _ _) rfl
def z2:List AV:=[.ab,.ab]
theorem anU:∀a∈z2,a.one=true:=by
 intro a ha;simp only[z2,List.mem_cons,List.not_mem_nil,or_false]at ha;rcases ha with rfl|rfl<;>rfl
theorem ExC.zero{F:AV→AV→AH→KF→Prop}(h:ExC F 1 []):ExC F 0 []:=⟨λ{_ _ _ _ _ _ _ _ _ _} e r w b1 b2 k=>h.run e r w b1 b2 k⟩
end
end Go.Proofs.YtcedghechlgecaaDoor
namespace Go.X
section
variable {H:AH}{S S':LS}
end
end Go.X
namespace Go.Proofs.YtcedghechlgecaaDoor
open Go Go.X Go.Proofs.YtcedghechlgecaaDoor.G
section
variable {H:AH}{S:LS}{K:KF}
abbrev t9R:Type:=(AV→AV→AV→AV→AH→KF→Prop)×(AV→AV→AH→KF→Prop)×(AV→AV→AH→KF→Prop)
noncomputable def xl(U:AV→AV→AH→KF→Prop)(n:Nat):t9R:=Nat.rec (motive:=λ_=>t9R) (λ_ _ _ _ _ _=>False,λ_ _ _ _=>False,λ_ _ _ _=>False) (λ_ S=>(QM (S.2.1,S.2.2),QN (S.1,S.2.2),QO (S.1,S.2.2,U))) n
noncomputable abbrev t9 (n:Nat):t9R:=xl g73 n
theorem apB(U:AV→AV→AH→KF→Prop)(n:Nat):xl U (n+1)=(QM ((xl U n).2.1,(xl U n).2.2),QN ((xl U n).1,(xl U n).2.2),QO ((xl U n).1,(xl U n).2.2,U)):=rfl
theorem anV{U:AV→AV→AH→KF→Prop}(hU:aC Tryd.prog 73 (aw [.a,.a] U))(n:Nat):aC Tryd.prog 27 (aw [.a,.a,.a,.a] (xl U n).1)∧aC Tryd.prog 52 (aw [.a,.a] (xl U n).2.1)∧aC Tryd.prog 53 (aw [.a,.a] (xl U n).2.2):=by
 induction n with
 |zero=>exact⟨jP [.a,.a,.a,.a],jP [.a,.a],jP [.a,.a]⟩
 |succ n ih=>
  rw[apB];exact⟨ahb _ (ag.cons ih.2.1 (ag.cons ih.2.2 ag.nil)),ahc _ (ag.cons ih.1 (ag.cons ih.2.2 ag.nil)),ahd _ (ag.cons ih.1 (ag.cons ih.2.2 (ag.cons hU ag.nil)))⟩
structure arT(m:Nat)(W:AV→AV→AV→AV→AH→KF→Prop)(T:AV→AV→AH→KF→Prop)(X:AV→AV→AH→KF→Prop):Prop where
 ex:∀n l,3*fD l+1<m→2*fD l≤n→ExC X n l
 st:∀n s,3*s.sz+1<m→2*s.sz≤n→StC T n s
noncomputable def g14:AV→AH→KF→Prop:=QQ (t9 G.NL).1
structure OuC(F:AV→AH→KF→Prop)(n:Nat)(ps:List (List Nat))(bd:List az):Prop where
 run:∀{K:KF}{H:AH}{S:LS}{c:List AV},Mem H S→mP gl S→gl.length≤S.n→RF S (nU S) c (.mk ps bd)→yu bd→(∀H' S' w,Mem H' S'→Ext S S'→kK S' (jd S.n S'.n) w (oW n [] ps bd [] [])→K (.ret w) H')→F (.agg c) H K
end
end Go.Proofs.YtcedghechlgecaaDoor
namespace Go.X
end Go.X
namespace Go.Proofs.YtcedghechlgecaaDoor
open Go Go.X Go.Proofs.YtcedghechlgecaaDoor.G
section
variable {H:AH}{S:LS}{K:KF}
section
variable {R:fK}{n lo b x k a:Nat}{wn' OO wb' v v3 vn vo:AV}{ns nm out:List (List Nat)}{l:List au}{bs:List (List az)}{z8:Int}{i3:AV→AV→AV→Int→Int→AH→Prop}{ii:Nat}
theorem nf(hx:S.ob x=.ce [.int 0 (k:Int),.int 0 (a:Int),wn',OO,wb'] 0){j:Nat}{w:AV}{kk:AV→Prop}(hM:Mem H S)(hw:[.int 0 (k:Int),.int 0 (a:Int),wn',OO,wb'][j]? = some w)(hk:kk w):af j (.ptr x 0) λp=>ad p H kk:=by
 simp only[aQ,Nat.zero_add];exact aD hM hx hw hk
end
end
end Go.Proofs.YtcedghechlgecaaDoor
namespace Go.X
section
variable {H:AH}{S:LS}
end
end Go.X
namespace Go.Proofs.YtcedghechlgecaaDoor
open Go Go.X Go.Proofs.YtcedghechlgecaaDoor.G
section
variable {H:AH}{S:LS}{K:KF}
noncomputable def rD:AH→KF→Prop:=λH K=>(∃S,Mem H S∧mP gl S)∧K (.ret (.bool true)) H
theorem af2:aC Tryd.prog 7 (aw [.a] g7):=ajz R9 (ag.cons aj3 (ag.cons ajy (ag.cons qs ag.nil)))
noncomputable def R4:sG:=(rD,g7,f12,f13,g14,f15)
noncomputable def g4:AV→AH→KF→Prop:=aqg R4
end
end Go.Proofs.YtcedghechlgecaaDoor
