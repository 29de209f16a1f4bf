/- Scope of both, the law ScopeOuter over texts as lists. No condition: lemmas. -/
import Derived.Test.YtcedghechlgecaaDoorLa
set_option maxRecDepth 100000
set_option maxHeartbeats 0
set_option linter.unusedVariables false
set_option linter.unusedSimpArgs false
namespace Go.X
section
variable {S S':LS}{H:AH}
def pd(S:LS):Nat→Prop:=λx=>x<S.n
theorem dH.at_{Q:Nat→Prop}{sz n:Nat}{v:AV}{cl:Nat→List AV}{i q:Nat}{k:AV→Prop}(h:dH S Q sz v n cl)(hi:i<n)(hk:∀b o cs m,Q b→S.ob b=.ce cs m→o+sz≤cs.length→(cs.drop o).take sz=cl i→k (.ptr b o)):cn sz v (.int q i) k:=by
 rcases h with⟨rfl,rfl⟩|⟨b,o,c,ex,cs,m,rfl,h1,h3,h4,h5,h6⟩
 ·omega
 ·refine nE (by omega) (by omega) ?_;rw[Int.toNat_natCast];have hle:(i+1)*sz≤n*sz:=Nat.mul_le_mul_right _ (by omega);rw[Nat.add_mul,Nat.one_mul]at hle;exact hk b _ cs m h1 h3 (by omega) (h6 i hi)
theorem dH.rh{Q:Nat→Prop}{n:Nat}{v:AV}{f:Nat→AV}{i q:Nat}{k:AV→Prop}(h:dH S Q 1 v n (λi=>[f i]))(hM:Mem H S)(hi:i<n)(hk:k (f i)):cn 1 v (.int q i) λp=>af p H k:=by
 refine h.at_ hi λb o cs m _ h3 h4 h5=>aF hM h3 ?_ hk;have:((cs.drop o).take 1)[0]? = [f i][0]?:=by rw[h5]
 rw[List.getElem?_take,if_pos (by omega),List.getElem?_drop,Nat.add_zero]at this;exact this
theorem gR.same{Q:Nat→Prop}{c:List AV}{s:aw}(h:gR S Q c s):bw (.agg c) (.agg c)=true:=by
 cases h with
 |mk kind at_ names l bs vn vl vb cl bv bc g1 g2 _ g4 _ _=>
  refine BZ λa ha=>?_;simp only[List.mem_cons,List.not_mem_nil,or_false]at ha;rcases ha with rfl|rfl|rfl|rfl|rfl<;>first|exact C9 _ _|exact g1.1.same|exact g2.same|exact g4.same
def Bs(S:LS)(Q:Nat→Prop)(v:AV)(bs:List (List aw)):Prop:=∃bv:Nat→AV,dH S Q 1 v bs.length (λi=>[bv i])∧∀(i:Nat) (b:List aw),bs[i]? = some b→gp S Q (bv i) b
def Hu(S:LS)(Q:Nat→Prop)(v:AV)(f:List dq):Prop:=∃cf:Nat→List AV,dH S Q 2 v f.length cf∧∀(i:Nat) (g:dq),f[i]? = some g→RF S Q (cf i) g
theorem gR.out{Q:Nat→Prop}{c:List AV}{kind at_:Nat}{names:List (List Nat)}{l:List ao}{bs:List (List aw)}(h:gR S Q c (.mk kind at_ names l bs)):∃vn vl vb,c=[.int 0 kind,.int 0 at_,vn,vl,vb]∧jG S Q vn names∧qx S Q vl l∧Bs S Q vb bs:=by
 cases h with
 |mk _ _ _ _ _ vn vl vb cl bv bc g1 g2 g3 g4 g5 g6=>exact⟨vn,vl,vb,rfl,g1,⟨cl,g2,g3⟩,⟨bv,g4,λi b hb=>⟨bc i,g5 i b hb,λj s hs=>g6 i b j s hb hs⟩⟩⟩
theorem RE.out{Q:Nat→Prop}{c:List AV}{kind at_ n op:Nat}{s:List Nat}{l:List ao}{f:List dq}(h:RE S Q c (.mk kind at_ n s op l f)):∃vl vf,c=[.int 0 kind,.int 0 at_,.int 0 n,ah s,.int 0 op,vl,vf]∧B8 s∧qx S Q vl l∧Hu S Q vf f:=by
 cases h with
 |mk _ _ _ _ _ _ _ vl vf cl cf g1 g2 g3 g4 g5=>exact⟨vl,vf,rfl,g1,⟨cl,g2,g3⟩,⟨cf,g4,g5⟩⟩
theorem RF.out{Q:Nat→Prop}{c:List AV}{ps:List (List Nat)}{body:List aw}(h:RF S Q c (.mk ps body)):∃vp vb,c=[vp,vb]∧jG S Q vp ps∧gp S Q vb body:=by
 cases h with
 |mk _ _ vp vb cb g1 g2 g3=>exact⟨vp,vb,rfl,g1,⟨cb,g2,g3⟩⟩
theorem dH.ext{sz n:Nat}{v:AV}{cl:Nat→List AV}(h:dH S (pd S) sz v n cl)(hx:Ext S S'):dH S' (pd S') sz v n cl:=h.go (λb hb=>hx.ob b hb) λb hb=>Nat.lt_of_lt_of_le hb hx.n
theorem jG.ext{v:AV}{l:List (List Nat)}(h:jG S (pd S) v l)(hx:Ext S S'):jG S' (pd S') v l:=⟨h.1.ext hx,h.2⟩
theorem RE.ext{c:List AV}{e:ao}(h:RE S (pd S) c e)(hx:Ext S S'):RE S' (pd S') c e:=h.go (λb hb=>hx.ob b hb) λb hb=>Nat.lt_of_lt_of_le hb hx.n
theorem RF.ext{c:List AV}{e:dq}(h:RF S (pd S) c e)(hx:Ext S S'):RF S' (pd S') c e:=h.go (λb hb=>hx.ob b hb) λb hb=>Nat.lt_of_lt_of_le hb hx.n
theorem gR.ext{c:List AV}{e:aw}(h:gR S (pd S) c e)(hx:Ext S S'):gR S' (pd S') c e:=h.go (λb hb=>hx.ob b hb) λb hb=>Nat.lt_of_lt_of_le hb hx.n
theorem gp.ext{v:AV}{l:List aw}(h:gp S (pd S) v l)(hx:Ext S S'):gp S' (pd S') v l:=by
 obtain⟨cl,g1,g2⟩:=h;exact⟨cl,g1.ext hx,λi e he=>(g2 i e he).ext hx⟩
theorem qx.ext{v:AV}{l:List ao}(h:qx S (pd S) v l)(hx:Ext S S'):qx S' (pd S') v l:=by
 obtain⟨cl,g1,g2⟩:=h;exact⟨cl,g1.ext hx,λi e he=>(g2 i e he).ext hx⟩
theorem Bs.ext{v:AV}{l:List (List aw)}(h:Bs S (pd S) v l)(hx:Ext S S'):Bs S' (pd S') v l:=by
 obtain⟨cl,g1,g2⟩:=h;exact⟨cl,g1.ext hx,λi e he=>(g2 i e he).ext hx⟩
theorem Hu.ext{v:AV}{l:List dq}(h:Hu S (pd S) v l)(hx:Ext S S'):Hu S' (pd S') v l:=by
 obtain⟨cl,g1,g2⟩:=h;exact⟨cl,g1.ext hx,λi e he=>(g2 i e he).ext hx⟩
theorem ao.qt(e:ao):1≤e.sz:=by cases e;simp only[ao.sz];omega
theorem aw.qt(e:aw):1≤e.sz:=by cases e;simp only[aw.sz];omega
theorem dq.qt(e:dq):1≤e.sz:=by cases e;simp only[dq.sz];omega
theorem jC:∀{l:List ao}{i:Nat}{e:ao},l[i]? = some e→e.sz≤aH l
 |[],i,e,h=>by simp at h
 |a::l,0,e,h=>by simp at h;subst h;simp only[aH];omega
 |a::l,i+1,e,h=>by have:=jC (l:=l) (i:=i) (e:=e) (by simpa using h);simp only[aH];omega
theorem qW:∀{l:List aw}{i:Nat}{e:aw},l[i]? = some e→e.sz≤cx l
 |[],i,e,h=>by simp at h
 |a::l,0,e,h=>by simp at h;subst h;simp only[cx];omega
 |a::l,i+1,e,h=>by have:=qW (l:=l) (i:=i) (e:=e) (by simpa using h);simp only[cx];omega
theorem pC:∀{l:List dq}{i:Nat}{e:dq},l[i]? = some e→e.sz≤fJ l
 |[],i,e,h=>by simp at h
 |a::l,0,e,h=>by simp at h;subst h;simp only[fJ];omega
 |a::l,i+1,e,h=>by have:=pC (l:=l) (i:=i) (e:=e) (by simpa using h);simp only[fJ];omega
theorem j8:∀{l:List (List aw)}{i:Nat}{e:List aw},l[i]? = some e→1+cx e≤dR l
 |[],i,e,h=>by simp at h
 |a::l,0,e,h=>by simp at h;subst h;simp only[dR];omega
 |a::l,i+1,e,h=>by have:=j8 (l:=l) (i:=i) (e:=e) (by simpa using h);simp only[dR];omega
theorem pD:∀l:List ao,l.length≤aH l
 |[]=>Nat.le_refl _
 |a::l=>by have:=pD l;have:=a.qt;simp only[aH,List.length_cons];omega
theorem yb:∀l:List aw,l.length≤cx l
 |[]=>Nat.le_refl _
 |a::l=>by have:=yb l;have:=a.qt;simp only[cx,List.length_cons];omega
theorem yc:∀l:List dq,l.length≤fJ l
 |[]=>Nat.le_refl _
 |a::l=>by have:=yc l;have:=a.qt;simp only[fJ,List.length_cons];omega
theorem yd:∀l:List (List aw),l.length≤dR l
 |[]=>Nat.le_refl _
 |a::l=>by have:=yd l;simp only[dR,List.length_cons];omega
end
section
variable {S S':LS}{H:AH}
theorem dH.sf{Q:Nat→Prop}{sz n j:Nat}{v a:AV}{cl:Nat→List AV}{i q:Nat}{k:AV→Prop}(h:dH S Q sz v n cl)(hM:Mem H S)(hi:i<n)(hj:j<sz)(ha:(cl i)[j]? = some a)(hk:k a):cn sz v (.int q i) λp=>ag j p λp'=>af p' H k:=by
 refine h.at_ hi λb o cs m _ h3 h4 h5=>?_;rw[aU];refine aF hM h3 ?_ hk;rw[←h5,List.getElem?_take,if_pos hj,List.getElem?_drop]at ha;exact ha
end
section
variable {S S':LS}{H:AH}
theorem bxA{c:List AV}{k:AV→AH→Prop}(hM:Mem H S)(ho:∀a∈c,a.one=true)
  (hk:∀H' S',Mem H' S'→Ext S S'→S'.ob S.n=.ce c 0→S'.n=S.n+1→k (.ptr S.n 0) H'):vd (ay H) (.agg c) k:=
 Lz hM ho λH1 m1=>hk H1 _ m1 (Ext.push S _) (LS.ax _ _) rfl
end
section
variable {S S':LS}{H:AH}
theorem gp.done{lo:Nat}{v:AV}{l:List aw}(h:iI mW lo S v l)(hM:Mem H S):gp S (iy lo S.n) v l:=h.done hM
theorem qx.done{lo:Nat}{v:AV}{l:List ao}(h:iI kD lo S v l)(hM:Mem H S):qx S (iy lo S.n) v l:=h.done hM
theorem Hu.done{lo:Nat}{v:AV}{l:List dq}(h:iI anq lo S v l)(hM:Mem H S):Hu S (iy lo S.n) v l:=h.done hM
theorem Bs.done{lo:Nat}{v:AV}{l:List (List aw)}(h:iI ub lo S v l)(hM:Mem H S):Bs S (iy lo S.n) v l:=by
 obtain⟨cl,g1,g2⟩:=h.done hM;refine⟨λi=>(cl i).headD .ab,g1.congr λi hi=>?_,λi b hb=>?_⟩
 ·obtain⟨v,bc,e,_⟩:=g2 i _ (List.getElem?_eq_getElem hi);show cl i=[(cl i).headD .ab];rw[e];rfl
 ·obtain⟨v,bc,e,q1,q2⟩:=g2 i b hb;show gp S (iy lo S.n) ((cl i).headD .ab) b;rw[e];exact⟨bc,q1,q2⟩
theorem jN{α:Type}{l:List α}{i:Nat}{a:α}(h:l[i]? = some a):l.take (i+1)=l.take i++[a]:=by
 rw[List.take_add_one,h];rfl
theorem iI.ext{α:Type}{R:Rep α}{lo:Nat}{v:AV}{l:List α}(h:iI R lo S v l)(hM:Mem H S)(hx:Ext S S'):iI R lo S' v l:=h.keep hM hx.n λb _ hb=>hx.ob b hb
end
section
variable {S:LS}{H:AH}
theorem Ui{sz b o n c i j:Nat}{ex:Bool}{lo hi:Option AV}{k:AV→Prop}(hij:i≤j)(hj:j≤c)(hlo:lo=some (.int 0 i)∨lo=none∧i=0)(hhi:hi=some (.int 0 j)∨hi=none∧j=n)(hk:k (.slice b (o+i*sz) (j-i) (c-i) sz ex)):nz sz (.slice b o n c sz ex) lo hi none k:=by
 have go:bT (Nat.ble i j) (bT (Nat.ble j c) (bT (Nat.ble c c) (aB (Nat.add o (Nat.mul i sz)) λo'=>aB (Nat.sub j i) λn=>aB (Nat.sub c i) λc'=>k (.slice b o' n c' sz (ex||Option.isSome (none:Option AV)))))):=by
  refine cV (Nat.ble_eq_true_of_le hij) (cV (Nat.ble_eq_true_of_le hj) (cV (Nat.ble_eq_true_of_le (Nat.le_refl _)) ?_));simp only[ae,Option.isSome_none,Bool.or_false];exact hk
 rcases hlo with rfl|⟨rfl,rfl⟩<;>rcases hhi with rfl|⟨rfl,rfl⟩<;>(show bT (Nat.beq sz sz) _;exact cV (Nat.beq_refl _) go)
theorem gp.part{Q:Nat→Prop}{v:AV}{a b:List aw}{lo hi:Option AV}{i j:Nat}{k:AV→Prop}(h:gp S Q v a)(hij:i≤j)(hj:j≤a.length)(hlo:lo=some (.int 0 (i:Int))∨lo=none∧i=0)(hhi:hi=some (.int 0 (j:Int))∨hi=none∧j=a.length)(hb:b=(a.drop i).take (j-i))
  (hk:∀v',gp S Q v' b→k v'):nz 5 v lo hi none k:=by
 obtain⟨cl,g1,g2⟩:=h;have hbl:b.length=j-i:=by rw[hb,List.length_take,List.length_drop];omega
 have hbg:∀n e,b[n]? = some e→a[i+n]? = some e:=λn e he=>by
  have hn:=(List.getElem?_eq_some_iff.1 he).1;rw[hb,List.getElem?_take,if_pos (by omega),List.getElem?_drop]at he;exact he
 rcases g1 with⟨rfl,e0⟩|⟨bk,o,c,ex,cs,m,rfl,q1,q2,q3,q4,q5⟩
 ·have ei:i=0:=by omega
  have ej:j=0:=by omega
  subst ei;subst ej;have:nz 5 .ab lo hi none k↔k .ab:=by
   rcases hlo with rfl|⟨rfl,_⟩<;>rcases hhi with rfl|⟨rfl,_⟩<;>exact Iff.rfl
  rw[this];exact hk _ ⟨λ_=>[],.inl ⟨rfl,by omega⟩,λn e he=>by
   have:=(List.getElem?_eq_some_iff.1 he).1;omega⟩
 ·have hle:i*5+(j-i)*5≤a.length*5:=by rw[←Nat.add_mul];exact Nat.mul_le_mul_right _ (by omega)
  refine Ui hij (by omega) hlo hhi (hk _ ⟨λn=>cl (i+n),.inr ⟨bk,o+i*5,c-i,ex,cs,m,by rw[hbl],q1,q2,by omega,by rw[hbl];omega,λn hn=>?_⟩,λn e he=>g2 _ e (hbg n e he)⟩);have:=q5 (i+n) (by omega);rw[Nat.add_mul,←Nat.add_assoc]at this;exact this
end
section
variable {H:AH}{S S':LS}
theorem A7{Q:Nat→Prop}{v:AV}{l:List (List Nat)}(h:jG S Q v l):lV S Q v (l.map ah):=by
 obtain⟨h1,_⟩:=h;rcases h1 with⟨rfl,e0⟩|⟨b,o,c,ex,cs,m,rfl,q1,q2,q3,q4,q5⟩
 ·exact .inl ⟨rfl,by rw[List.length_eq_zero_iff.1 e0];rfl⟩
 ·refine .inr ⟨b,o,c,ex,cs,m,by rw[List.length_map],by rw[List.length_map];exact q3,q1,q2,by rw[List.length_map];omega,?_⟩;refine List.ext_getElem? λi=>?_;rw[List.length_map,List.getElem?_take,List.getElem?_map];by_cases hi:i<l.length
  ·rw[if_pos hi,List.getElem?_drop,List.getElem?_eq_getElem hi];have g:=q5 i hi;have g0:((cs.drop (o+i*1)).take 1)[0]? = [ah (l[i]?.getD [])][0]?:=by rw[g]
   rw[List.getElem?_take,if_pos (by omega),List.getElem?_drop,Nat.add_zero,Nat.mul_one,List.getElem?_eq_getElem hi]at g0;exact g0
  ·rw[if_neg hi,List.getElem?_eq_none (by omega)];rfl
theorem aiu(l:List (List Nat)):∀a∈l.map ah,a.one=true:=by
 intro a ha;obtain⟨t,_,rfl⟩:=List.mem_map.1 ha;rfl
structure iT(lo b:Nat)(S:LS)(vn vo:AV)(ns out:List (List Nat)):Prop where
 ob:S.ob b=.ce [vn,vo] 0
 fn:jf S vn (ns.map ah)
 fo:jf S vo (out.map ah)
 n8:∀t∈ns,B8 t
 o8:∀t∈out,B8 t
 PN:¬au vn b
 JP:¬au vo b
 ap:∀x,au vn x→¬au vo x
 lob:lo≤b
 lon:∀x,au vn x→lo≤x
 RP:∀x,au vo x→lo≤x
def own(b:Nat)(vn vo:AV)(x:Nat):Prop:=x=b∨au vn x∨au vo x
structure fc(b:Nat)(S S':LS)(vn vo bV cO:AV):Prop where
 n:S.n≤S'.n
 ob:∀x,x<S.n→¬own b vn vo x→S'.ob x=S.ob x
 own:∀x,own b bV cO x→own b vn vo x∨S.n≤x
theorem fc.refl{b:Nat}{S:LS}{vn vo:AV}:fc b S S vn vo vn vo:=⟨Nat.le_refl _,λ_ _ _=>rfl,λ_ h=>.inl h⟩
theorem fc.trans{b:Nat}{S S' pb:LS}{vn vo bV cO alM alN:AV}(h:fc b S S' vn vo bV cO)(g:fc b S' pb bV cO alM alN):fc b S pb vn vo alM alN:=
 ⟨Nat.le_trans h.n g.n,λx hx hn=>(g.ob x (Nat.lt_of_lt_of_le hx h.n) λq=>(h.own x q).elim hn (by omega)).trans (h.ob x hx hn),λx hx=>(g.own x hx).elim (h.own x) λq=>.inr (Nat.le_trans h.n q)⟩
section
variable {lo b:Nat}{vn vo:AV}{ns out:List (List Nat)}
theorem iT.alO(h:iT lo b S vn vo ns out){x:Nat}(hx:own b vn vo x):lo≤x:=by
 rcases hx with rfl|q|q
 ·exact h.lob
 ·exact h.lon x q
 ·exact h.RP x q
theorem iT.zZ(h:iT lo b S vn vo ns out)(hM:Mem H S){x:Nat}(hx:own b vn vo x):x<S.n:=by
 rcases hx with rfl|q|q
 ·exact hM.lt (by rw[h.ob];simp)
 ·exact h.fn.lt hM q
 ·exact h.fo.lt hM q
theorem iT.keep(h:iT lo b S vn vo ns out)(hM:Mem H S)(hk:∀x,own b vn vo x→S'.ob x=S.ob x):iT lo b S' vn vo ns out:=
 { h with ob:=(hk b (.inl rfl)).trans h.ob,fn:=h.fn.keep hM λx hx _=>hk x (.inr (.inl hx)),fo:=h.fo.keep hM λx hx _=>hk x (.inr (.inr hx)) }
theorem iT.ext(h:iT lo b S vn vo ns out)(hM:Mem H S)(hx:Ext S S'):iT lo b S' vn vo ns out:=h.keep hM λx q=>hx.ob x (h.zZ hM q)
theorem Ext.ost(hx:Ext S S'):fc b S S' vn vo vn vo:=⟨hx.n,λx h _=>hx.ob x h,λ_ h=>.inl h⟩
theorem fc.low{bV cO:AV}(g:fc b S S' vn vo bV cO)(h:iT lo b S vn vo ns out)(hlo:lo≤S.n){x:Nat}(hx:x<lo):S'.ob x=S.ob x:=g.ob x (by omega) λq=>by have:=h.alO q;omega
theorem iT.gy{k:AV→Prop}(h:iT lo b S vn vo ns out)(hM:Mem H S)(hk:k vn):aI (.ptr b 0) (ag 0 (.ptr b 0) λv=>af v H k):=by
 simp only[dL,aU,Nat.zero_add];exact aF hM h.ob (v:=vn) rfl hk
theorem iT.ldO{k:AV→Prop}(h:iT lo b S vn vo ns out)(hM:Mem H S)(hk:k vo):aI (.ptr b 0) (ag 1 (.ptr b 0) λv=>af v H k):=by
 simp only[dL,aU,Nat.zero_add];exact aF hM h.ob (v:=vo) rfl hk
theorem jf.one{v:AV}{l:List AV}(h:jf S v l):v.one=true:=by
 rcases h with⟨rfl,_⟩|⟨b,c,ex,cs,rfl,_⟩<;>rfl
theorem iT.qT{k:AH→Prop}{bV:AV}{ns':List (List Nat)}(h:iT lo b S vn vo ns out)(hM:Mem H S)(hf:jf S bV (ns'.map ah))(h8:∀t∈ns',B8 t)(hne:¬au bV b)(hap:∀x,au bV x→¬au vo x)(hlo:∀x,au bV x→lo≤x)
  (hk:∀H' S',Mem H' S'→S'.n=S.n→(∀x,x≠b→S'.ob x=S.ob x)→iT lo b S' bV vo ns' out→k H'):aI (.ptr b 0) (ag 0 (.ptr b 0) λv=>ak 1 v bV H k):=by
 simp only[dL,aU,Nat.zero_add];refine cZ hM h.ob (by omega) (by show 0<2;omega) hf.one λH' m=>?_;have k1:∀x,x≠b→(S.set b (.ce [bV,vo] 0)).ob x=S.ob x:=λx hx=>LS.av _ _ hx;exact hk H' _ m rfl k1 ⟨LS.aC _ _ _,hf.keep hM λx hx _=>k1 x λq=>hne (q ▸ hx),h.fo.keep hM λx hx _=>k1 x λq=>h.JP (q ▸ hx),h8,h.o8,hne,h.JP,hap,h.lob,hlo,h.RP⟩
theorem iT.add0{Q:Nat→Prop}{a1:AV}{l:List (List Nat)}{k:AH→Prop}(h:iT lo b S vn vo ns out)(hM:Mem H S)(hlo:lo≤S.n)(hr:lV S Q a1 (l.map ah))(h8:∀t∈l,B8 t)(hl:ns.length+l.length≤1000000)
  (hk:∀H' S' bV,Mem H' S'→fc b S S' vn vo bV vo→iT lo b S' bV vo (ns++l) out→k H'):dw 1 16 vn a1 H λv7 H8=>aI (.ptr b 0) (ag 0 (.ptr b 0) λv9=>ak 1 v9 v7 H8 k):=by
 refine LA hM h.fn hr (by simp;omega) (aiu _) λH1 S1 v1 m1 n1 k1 f1 b1 _ _ _=>?_;have hbl:=h.zZ hM (.inl rfl);have h1:iT lo b S1 vn vo [] out∨True:=.inr trivial;have e1:S1.ob b=.ce [vn,vo] 0:=(k1 b hbl h.PN).trans h.ob;have fo1:jf S1 vo (out.map ah):=h.fo.keep hM λx hx hlt=>k1 x hlt λq=>h.ap x q hx;have hne:¬au v1 b:=λq=>(b1 b q).elim h.PN (by omega);have hap:∀x,au v1 x→¬au vo x:=λx hx q=>(b1 x hx).elim (λw=>h.ap x w q) λw=>by have:=h.fo.lt hM q;omega
 simp only[dL,aU,Nat.zero_add];refine cZ m1 e1 (by omega) (by show 0<2;omega) f1.one λH' m=>?_;have k2:∀x,x≠b→(S1.set b (.ce [v1,vo] 0)).ob x=S1.ob x:=λx hx=>LS.av _ _ hx;refine hk H' _ v1 m ⟨n1,λx hx hn=>?_,λx hx=>?_⟩ ⟨LS.aC _ _ _,?_,fo1.keep m1 λx hx _=>k2 x λq=>h.JP (q ▸ hx),λt ht=>?_,h.o8,hne,h.JP,hap,h.lob,λx hx=>?_,h.RP⟩
 ·exact(k2 x λq=>hn (.inl q)).trans (k1 x hx λq=>hn (.inr (.inl q)))
 ·rcases hx with q|q|q
  ·exact .inl (.inl q)
  ·exact(b1 x q).elim (λw=>.inl (.inr (.inl w))) .inr
  ·exact .inl (.inr (.inr q))
 ·rw[List.map_append];exact f1.keep m1 λx hx _=>k2 x λq=>hne (q ▸ hx)
 ·rcases List.mem_append.1 ht with g|g
  ·exact h.n8 t g
  ·exact h8 t g
 ·exact(b1 x hx).elim (h.lon x) λw=>by omega
theorem iT.add{Q:Nat→Prop}{a1:AV}{l:List (List Nat)}{k:AH→Prop}(h:iT lo b S vn vo ns out)(hM:Mem H S)(hlo:lo≤S.n)(hr:lV S Q a1 (l.map ah))(h8:∀t∈l,B8 t)(hl:ns.length+l.length≤1000000)
  (hk:∀H' S' bV,Mem H' S'→fc b S S' vn vo bV vo→iT lo b S' bV vo (ns++l) out→k H'):aI (.ptr b 0) (ag 0 (.ptr b 0) λv5=>af v5 H λv6=>dw 1 16 v6 a1 H λv7 H8=>aI (.ptr b 0) (ag 0 (.ptr b 0) λv9=>ak 1 v9 v7 H8 k)):=by
 refine h.gy hM ?_;exact h.add0 hM hlo hr h8 hl hk
theorem iT.cut{j:Nat}{k:AH→Prop}(h:iT lo b S vn vo ns out)(hM:Mem H S)(hj:j≤ns.length)
  (hk:∀H' S' bV,Mem H' S'→fc b S S' vn vo bV vo→iT lo b S' bV vo (ns.take j) out→k H'):aI (.ptr b 0) (ag 0 (.ptr b 0) λv4=>af v4 H λv5=>nz 1 v5 none (some (.int 0 (j:Int))) none λv6=>aI (.ptr b 0) (ag 0 (.ptr b 0) λv7=>ak 1 v7 v6 H k)):=by
 refine h.gy hM ?_;refine aec h.fn (by rw[List.length_map];exact hj) λv' f' hb _ _=>?_;rw[←List.map_take]at f';refine h.qT hM f' (λt ht=>h.n8 t (List.mem_of_mem_take ht)) (λq=>h.PN ((hb b).1 q)) (λx q=>h.ap x ((hb x).1 q)) (λx q=>h.lon x ((hb x).1 q)) λH' S' m n k1 h'=>?_;refine hk H' S' v' m ⟨by omega,λx _ hn=>k1 x λq=>hn (.inl q),λx hx=>?_⟩ h';rcases hx with q|q|q
 ·exact .inl (.inl q)
 ·exact .inl (.inr (.inl ((hb x).1 q)))
 ·exact .inl (.inr (.inr q))
theorem iT.put{s:List Nat}{k:AV→AH→Prop}(h:iT lo b S vn vo ns out)(hM:Mem H S)(hlo:lo≤S.n)(h8:B8 s)(hl:out.length≤1000000)
  (hk:∀H' S' cO,Mem H' S'→Ext S S'∨True→S.n≤S'.n→(∀x,x<S.n→¬au vo x→S'.ob x=S.ob x)→jf S' cO ((out++[s]).map ah)→(∀x,au cO x→au vo x∨S.n≤x)→k cO H'):aX (ay H) 1 1 [ah s] λv3 H4=>dw 1 16 vo v3 H4 k:=by
 refine eI hM rfl (λa ha=>by simp only[List.mem_singleton]at ha;subst ha;rfl) λH1 m1=>?_;have x1:Ext S (S.push (.ce [ah s] 0)):=Ext.push _ _;have r1:lV (S.push (.ce [ah s] 0)) (λ_=>True) (.slice S.n 0 1 1 1 true) [ah s]:=.inr ⟨S.n,0,1,true,[ah s],0,rfl,by simp,trivial,LS.ax _ _,by simp,rfl⟩;have f1:jf (S.push (.ce [ah s] 0)) vo (out.map ah):=h.fo.keep hM λx _ hx=>LS.bC _ _ hx;refine LA m1 f1 r1 (by simp;omega) (λa ha=>by simp only[List.mem_singleton]at ha;subst ha;rfl) λH2 S2 v2 m2 n2 k2 f2 b2 _ _ _=>?_;have n2:S.n+1≤S2.n:=n2;refine hk H2 S2 v2 m2 (.inr trivial) (by omega) (λx hx hn=>?_) (by rw[List.map_append];exact f2) λx hx=>?_
 ·rw[k2 x (by show x<S.n+1;omega) hn];exact LS.bC _ _ hx
 ·rcases b2 x hx with q|q
  ·exact .inl q
  ·have q:S.n+1≤x:=q;exact .inr (by omega)
end
end
end Go.X
namespace Go.Proofs.YtcedghechlgecaaDoor
open Go Go.X Go.Proofs.YtcedghechlgecaaDoor.G
section
variable {H:AH}{S:LS}{K:KF}
theorem aoa{Q:Nat→Prop}{v:AV}{l:List (List Nat)}{s:List Nat}(hM:Mem H S)(hr:lV S Q v (l.map ah))(hl8:∀t∈l,B8 t)(h8:B8 s)(hl:l.length≤900000)
  (hK:∀z:Int,(0≤z↔s∈l)→K (.ret (.int 0 z)) H):f49 v (ah s) H K:=by
 have loop:∀(q i:Nat),i≤l.length→l.length-i<q→(∀j t,j<i→l[j]? = some t→t≠s)→wP rV K q v (ah s) (l.length:Int) (i:Int) H:=by
  intro q
  induction q with
  |zero=>intro i _ h;omega
  |succ q ih=>
   intro i hi hq hno;show Gs rV K (wP rV K q) (Gr rV K) v (ah s) (l.length:Int) (i:Int) H;unfold Gs Gr;rw[cE];refine bH (λg=>?_) (λg=>?_)
   ·have hil:i<l.length:=by omega
    have ht:=List.getElem?_eq_getElem hil;refine hr.load hM (a:=ah l[i]) (by rw[List.getElem?_map,ht];rfl) ?_;refine An h8 (hl8 _ (List.getElem_mem _)) ?_;rw[aM];by_cases e:s=l[i]
    ·rw[decide_eq_true e,aK];exact hK i ⟨λ_=>by rw[e];exact List.getElem_mem _,λ_=>by omega⟩
    ·rw[decide_eq_false e,aG];simp only[dp,fe];refine w0 (by omega) (by omega) ?_;refine ih (i+1) (by omega) (by omega) λj t hj hjt=>?_;rcases Nat.lt_or_ge j i with g1|g1
     ·exact hno j t g1 hjt
     ·have e1:j=i:=by omega
      subst e1;rw[ht]at hjt;cases hjt;exact λq=>e q.symm
   ·refine hK _ ⟨λh=>absurd h (by decide),λh=>?_⟩;obtain⟨j,hj⟩:=List.mem_iff_getElem?.1 h;have:=(List.getElem?_eq_some_iff.1 hj).1;exact absurd rfl (hno j s (by omega) hj)
 show Gt rV K (wP rV K G.NL) v (ah s) H;unfold Gt;have fV:G.NL=1000000:=rfl;generalize G.NL=fb at fV ⊢;refine hr.len ?_;rw[aQ,List.length_map];exact loop fb 0 (Nat.zero_le _) (by omega) λj t h=>by omega
theorem afm{Q:Nat→Prop}{v:AV}{l:List (List Nat)}{s:List Nat}(hM:Mem H S)(hr:lV S Q v (l.map ah))(hl8:∀t∈l,B8 t)(h8:B8 s)(hl:l.length≤900000)
  (hK:K (.ret (.bool (decide (s∈l)))) H):f23 v (ah s) H K:=by
 show Gu OQ K v (ah s) H;unfold Gu;refine aoa hM hr hl8 h8 hl λz hz=>?_;rw[ai,aQ,cE];have e:(!decide (z<Int.ofNat 0))=decide (s∈l):=by
  by_cases g:s∈l
  ·have:=hz.2 g;rw[decide_eq_true g,decide_eq_false (by show ¬z<0;omega)];rfl
  ·have:¬0≤z:=λq=>g (hz.1 q);rw[decide_eq_false g,decide_eq_true (by show z<0;omega)];rfl
 rw[e];exact hK
theorem afn{Q:Nat→Prop}{v:AV}{l:List (List Nat)}{s:List Nat}(hM:Mem H S)(hr:lV S Q v (l.map ah))(hl8:∀t∈l,B8 t)(h8:B8 s)(hl:l.length≤900000)
  (hK:K (.ret (.bool (decide (s∈l)))) H):f25 v (ah s) H K:=by
 have loop:∀(q i:Nat),i≤l.length→l.length-i<q→(∀j t,j<i→l[j]? = some t→t≠s)→qj kW K q v (ah s) (i:Int) H:=by
  intro q
  induction q with
  |zero=>intro i _ h;omega
  |succ q ih=>
   intro i hi hq hno;show wC kW K (qj kW K q) (zG kW K) v (ah s) (i:Int) H;unfold wC zG;refine hr.len ?_;rw[aQ,cE,List.length_map];refine bH (λg=>?_) (λg=>?_)
   ·have hil:i<l.length:=by omega
    have ht:=List.getElem?_eq_getElem hil;refine hr.load hM (a:=ah l[i]) (by rw[List.getElem?_map,ht];rfl) ?_;refine An (hl8 _ (List.getElem_mem _)) h8 ?_;rw[aM];by_cases e:l[i]=s
    ·rw[decide_eq_true e,aK];rw[decide_eq_true (by rw[←e];exact List.getElem_mem _)]at hK;exact hK
    ·rw[decide_eq_false e,aG];simp only[dp,fe];refine w0 (by omega) (by omega) ?_;refine ih (i+1) (by omega) (by omega) λj t hj hjt=>?_;rcases Nat.lt_or_ge j i with g1|g1
     ·exact hno j t g1 hjt
     ·have e1:j=i:=by omega
      subst e1;rw[ht]at hjt;cases hjt;exact e
   ·rw[decide_eq_false (λh=>by
     obtain⟨j,hj⟩:=List.mem_iff_getElem?.1 h;have:=(List.getElem?_eq_some_iff.1 hj).1;exact absurd rfl (hno j s (by omega) hj))]at hK
    exact hK
 show wD kW K (qj kW K G.NL) v (ah s) H;unfold wD;have fV:G.NL=1000000:=rfl;generalize G.NL=fb at fV ⊢;exact loop fb 0 (Nat.zero_le _) (by omega) λj t h=>by omega
end
end Go.Proofs.YtcedghechlgecaaDoor
namespace Go.X
def Uj(c:Bt AV):Nat→List AV→Prop
 |_,[]=>True
 |i,a::l=>c.ez i λv=>bT (bw v a) (Uj c (Nat.succ i) l)
def PO(z:List AV)(o:me)(H:AH):Prop:=
 match o with
 |.ret (.slice b o' n m sz ex)=>bT (Nat.beq o' 0) (bT (Nat.beq n z.length) (bT (Nat.beq m z.length) (bT (Nat.beq sz 1) (bT ex (H.t.ez b λob=>match ob with|.cells c q md=>bT (Nat.beq q z.length) (bT (Nat.beq md 0) (Uj c 0 z))|_=>False)))))
 |_=>False
theorem JQ{c:Bt AV}(hs:∀a b,bw a b=true→(∃n x,b=.str n x)→a=b):∀{l:List AV}{i:Nat},(∀a∈l,∃n x,a=.str n x)→Uj c i l→∀j,j<l.length→c.get? (i+j)=l[j]?
 |[],i,_,_,j,hj=>by simp at hj
 |a::l,i,hl,h,j,hj=>by
  obtain⟨v,h1,h2⟩:=Bt.cQ _ _ _ h;obtain⟨h3,h4⟩:=an h2;cases j with
  |zero=>rw[Nat.add_zero,h1];exact congrArg some (hs v a h3 (hl a (by simp)))
  |succ j=>
   have:=JQ hs (λx hx=>hl x (by simp[hx])) h4 j (by simpa using hj);rw[show i+(j+1)=Nat.succ i+j by omega];simpa using this
theorem adC{a b:AV}(h:bw a b=true)(hb:∃n x,b=.str n x):a=b:=by
 obtain⟨n,x,rfl⟩:=hb;cases a<;>simp only[bw,Bool.and_eq_true]at h<;>try cases h
 rename_i h1 h2;rw[Nat.eq_of_beq_eq_true h1,Nat.eq_of_beq_eq_true h2]
theorem Uk{z:List AV}{o:me}{H:AH}(hz:∀a∈z,∃n x,a=.str n x)(h:PO z o H):∃b c,o=.ret (.slice b 0 z.length z.length 1 true)∧H.at b=.cells c z.length 0∧∀i:Nat,i<z.length→c.get? i=z[i]?:=by
 unfold PO at h;split at h
 ·rename_i b o' n m sz ex;obtain⟨h1,h⟩:=an h;obtain⟨h2,h⟩:=an h;obtain⟨h3,h⟩:=an h;obtain⟨h4,h⟩:=an h;obtain⟨h5,h⟩:=an h;obtain⟨ob,g1,h⟩:=Bt.cQ _ _ _ h;cases ob with
  |cells c q md=>
   obtain⟨h6,hq⟩:=an h;obtain⟨h7,hC⟩:=an hq;have e1:=Nat.eq_of_beq_eq_true h1;have e2:=Nat.eq_of_beq_eq_true h2;have e3:=Nat.eq_of_beq_eq_true h3;have e4:=Nat.eq_of_beq_eq_true h4;have e6:=Nat.eq_of_beq_eq_true h6;have e7:=Nat.eq_of_beq_eq_true h7;subst e1;subst e2;subst e3;subst e4;subst h5;refine⟨b,c,rfl,?_,λi hi=>?_⟩
   ·unfold AH.at
    rw[g1,e6,e7]
    try rfl
   ·have:=JQ (λ_ _=>adC) hz hC i hi;rw[Nat.zero_add]at this;exact this
  |map=>exact h.elim
  |iter=>exact h.elim
  |dead=>exact h.elim
 ·exact h.elim
theorem of_run{p:Prop}(h:p=True):p:=by rw[h];trivial
theorem aE.weaken{P:Program}{g:Nat}{F F':eM}(h:aE P g F)(hw:∀l H K,F' l H K→F l H K):aE P g F':=λhb l H K hf=>h hb l H K (hw l H K hf)
theorem Bu:∀t∈builtins,B8 t:=by
 intro t ht;simp only[builtins,List.mem_cons,List.not_mem_nil,or_false]at ht;rcases ht with rfl|rfl|rfl|rfl|rfl|rfl|rfl|rfl|rfl|rfl|rfl|rfl|rfl|rfl|rfl|rfl|rfl|rfl|rfl|rfl|rfl|rfl<;>exact bj (by decide)
end Go.X
namespace Go.Proofs.YtcedghechlgecaaDoor
open Go Go.X Go.Proofs.YtcedghechlgecaaDoor.G
section
variable {H:AH}{S:LS}{K:KF}
def spc:List Int:=(List.range 256).map λi=>if Nat.beq i 32||(Nat.ble 9 i&&Nat.ble i 13) then 1 else 0
def tb0:List AV:=spc.map λz=>AV.int 1 z
def gl:List (Option (List AV)):=[some tb0,none,none]
def lS:List AV:=[(.str 4 1701869940),(.str 5 491496043109),(.str 5 465674789744),(.str 6 111550524650083),(.str 6 111520796337522),(.str 5 431315315065),(.str 6 126948300911731),(.str 8 7453010373645660020),(.str 5 500068609908),(.str 3 6452595),(.str 4 1702132066),(.str 4 1918986339),(.str 3 7366002),(.str 5 491328139381),(.str 5 491328597868),(.str 7 28555907813500274),(.str 4 1684957542),(.str 6 128034677157481),(.str 6 111559349986674),(.str 4 1937335659),(.str 4 1852403562),(.str 4 1819042147)]
def wdT:AV:=.str 130 4989745452750927712642869024936041018982183869112399744596646328559347698139019358746423479417311085373974869505494574274628988303325946808601483887101106809989390966068797068531459062952690525578417336589675308608346298249300317674214036809461764501959304432550546839486516338336139505618763273980857346390260084
theorem Ul:Vb gl ⟨.e,0⟩ (λH0=>aD [.a] f24 [wdT] H0 (PO lS))=True:=by kernel_rfl
theorem oa:lS=builtins.map ah:=by kernel_rfl
theorem s5:∀a∈lS,∃n x,a=.str n x:=by
 rw[oa];intro a ha;obtain⟨t,_,rfl⟩:=List.mem_map.1 ha;exact⟨_,_,rfl⟩
theorem PQ:∀z,some z∈gl→∀a∈z,yl a=true:=by
 intro z hz a ha;simp only[gl,List.mem_cons,Option.some.injEq,reduceCtorEq,List.not_mem_nil,or_false]at hz;subst hz;obtain⟨x,_,rfl⟩:=List.mem_map.1 ha;rfl
noncomputable def Um:AV→AH→KF→Prop:=λa H K=>a=wdT∧∃S,Mem H S∧ml gl S∧∀H',Mem H' (S.push (.ce lS 0))→K (.ret (.slice S.n 0 lS.length lS.length 1 true)) H'
theorem aiv:aE Tryd.prog 24 (aD [.a] Um):=by
 have h:=aE.U9 (gl:=gl) (by kernel_rfl) PQ alb (args:=[wdT]) (λa ha=>by simp only[List.mem_singleton]at ha;subst ha;rfl) (z:=lS) (λa ha=>by obtain⟨n,x,rfl⟩:=s5 a ha;rfl)
  (λo H' hk=>Uk s5 hk) (Vc (of_run Ul))
 refine h.weaken λl H K hf=>?_;cases l with
 |nil=>exact hf.elim
 |cons a l=>cases l with
  |nil=>
   have hf':Um a H K:=hf;obtain⟨rfl,hS⟩:=hf';exact⟨rfl,hS⟩
  |cons b l=>exact hf.elim
noncomputable def R10:uW:=(f23,Um)
noncomputable def g10:AV→AH→KF→Prop:=ags R10
theorem alP:aE Tryd.prog 10 (aD [.a] g10):=ahS R10 (ad.cons aaK (ad.cons aiv ad.nil))
theorem aob{s:List Nat}(hM:Mem H S)(hT:ml gl S)(h8:B8 s)(hK:∀H' S',Mem H' S'→Ext S S'→K (.ret (.bool (decide (s∈builtins)))) H'):g10 (ah s) H K:=by
 show Gv R10 K (ah s) H;unfold Gv;have ra:R10.1=f23:=rfl;have rb:R10.2=Um:=rfl;rw[ra,rb];refine⟨rfl,S,hM,hT,λH1 m1=>?_⟩;simp only[ai];have x1:Ext S (S.push (.ce lS 0)):=Ext.push _ _;have r1:lV (S.push (.ce lS 0)) (λ_=>True) (.slice S.n 0 lS.length lS.length 1 true) (builtins.map ah):=.inr ⟨S.n,0,lS.length,true,lS,0,by rw[←oa],by rw[←oa];exact Nat.le_refl _,trivial,LS.ax _ _,by rw[←oa];omega,by rw[←oa,List.drop_zero];exact List.take_of_length_le (Nat.le_refl _)⟩;refine afm m1 r1 Bu h8 (by decide) ?_;rw[ai,aM];exact hK H1 _ m1 x1
theorem aoc{s:List Nat}(hM:Mem H S)(h8:B8 s)(hK:∀H' S',Mem H' S'→Ext S S'→K (.ret (.bool (decide (s∈builtins)))) H'):f11 (ah s) H K:=by
 show GR GS K (ah s) H;unfold GR;have ra:GS=f25:=rfl;rw[ra];have ew:[(.str 4 1701869940),(.str 5 491496043109),(.str 5 465674789744),(.str 6 111550524650083),(.str 6 111520796337522),(.str 5 431315315065),(.str 6 126948300911731),(.str 8 7453010373645660020),(.str 5 500068609908),(.str 3 6452595),(.str 4 1702132066),(.str 4 1918986339),(.str 3 7366002),(.str 5 491328139381),(.str 5 491328597868),(.str 7 28555907813500274),(.str 4 1684957542),(.str 6 128034677157481),(.str 6 111559349986674),(.str 4 1937335659),(.str 4 1852403562),(.str 4 1819042147)]=lS:=rfl;rw[ew];refine eI hM rfl (λa ha=>by obtain⟨n,x,rfl⟩:=s5 a ha;rfl) λH1 m1=>?_;have x1:Ext S (S.push (.ce lS 0)):=Ext.push _ _;have r1:lV (S.push (.ce lS 0)) (λ_=>True) (.slice S.n 0 22 22 1 true) (builtins.map ah):=.inr ⟨S.n,0,22,true,lS,0,by rw[←oa];rfl,by rw[←oa];exact Nat.le_refl _,trivial,LS.ax _ _,by rw[←oa];show 0+lS.length≤lS.length;omega,by rw[←oa,List.drop_zero];exact List.take_of_length_le (Nat.le_refl _)⟩;refine afn m1 r1 Bu h8 (by decide) ?_;rw[ai,aM];exact hK H1 _ m1 x1
noncomputable def RQ:pq:=(g10,f23)
noncomputable def RR:AV→AV→AH→KF→Prop:=agt RQ
theorem alQ:aE Tryd.prog 73 (aD [.a,.a] RR):=ahT RQ (ad.cons alP (ad.cons aaK ad.nil))
def PR(lo b:Nat)(S:LS)(vn vo:AV)(ns out:List (List Nat))(K:KF):Prop:=∀H' S' bV cO,Mem H' S'→fc b S S' vn vo bV cO→iT lo b S' bV cO ns out→K (.ret (.bF [])) H'
theorem aod{lo b:Nat}{vn vo:AV}{ns out:List (List Nat)}{s:List Nat}(hM:Mem H S)(h:iT lo b S vn vo ns out)(hT:ml gl S)(hlo:lo≤S.n)(h8:B8 s)(hn:ns.length≤900000)(ho:out.length≤900000)(hK:PR lo b S vn vo ns (jo ns out s) K):RR (.ptr b 0) (ah s) H K:=by
 show Gx RQ K (Gw RQ K) (.ptr b 0) (ah s) H;unfold Gx Gw;have ra:RQ.1=g10:=rfl;have rb:RQ.2=f23:=rfl;rw[ra,rb];refine h.gy hM ?_;refine afm hM (h.fn.rd hM (Q:=λ_=>True) λ_ _ _=>trivial) h.n8 h8 hn ?_;rw[ai,aM];by_cases g1:s∈ns
 ·rw[decide_eq_true g1];simp only[Bool.not_true,aG];have e:jo ns out s=out:=if_pos g1;rw[e]at hK;exact hK H S vn vo hM fc.refl h
 rw[decide_eq_false g1];simp only[Bool.not_false,aK];refine aob hM hT h8 λH1 S1 m1 x1=>?_;rw[ai,aM];have h1:=h.ext hM x1;by_cases g2:s∈builtins
 ·rw[decide_eq_true g2];simp only[Bool.not_true,aG];have e:jo ns out s=out:=(if_neg g1).trans (if_pos g2);rw[e]at hK;exact hK H1 S1 vn vo m1 x1.ost h1
 rw[decide_eq_false g2];simp only[Bool.not_false,aK];refine h1.ldO m1 ?_;refine afm m1 (h1.fo.rd m1 (Q:=λ_=>True) λ_ _ _=>trivial) h1.o8 h8 ho ?_;rw[ai,aM];by_cases g3:s∈out
 ·rw[decide_eq_true g3];simp only[Bool.not_true,aG];have e:jo ns out s=out:=(if_neg g1).trans ((if_neg g2).trans (if_pos g3));rw[e]at hK;exact hK H1 S1 vn vo m1 x1.ost h1
 rw[decide_eq_false g3];simp only[Bool.not_false,aK];have e:jo ns out s=out++[s]:=(if_neg g1).trans ((if_neg g2).trans (if_neg g3));rw[e]at hK;refine h1.ldO m1 ?_;refine fU rfl ?_;have hlo1:lo≤S1.n:=Nat.le_trans hlo x1.n;refine h1.put m1 hlo1 h8 (by omega) λH2 S2 v2 m2 _ n2 k2 f2 b2=>?_;have hbl:=h1.zZ m1 (.inl rfl);have e2:S2.ob b=.ce [vn,vo] 0:=(k2 b hbl h1.JP).trans h1.ob;have hne:¬au v2 b:=λq=>(b2 b q).elim h1.JP (by omega);have fn2:jf S2 vn (ns.map ah):=h1.fn.keep m1 λx hx hlt=>k2 x hlt (h1.ap x hx);have hap:∀x,au vn x→¬au v2 x:=λx hx q=>(b2 x q).elim (h1.ap x hx) λw=>by have:=h1.fn.lt m1 hx;omega
 simp only[dL,aU,Nat.zero_add];refine cZ m2 e2 (by omega) (by show 1<2;omega) f2.one λH' m=>?_;have k3:∀x,x≠b→(S2.set b (.ce [vn,v2] 0)).ob x=S2.ob x:=λx hx=>LS.av _ _ hx;refine hK H' _ vn v2 m (x1.ost.trans ⟨n2,λx hx hn=>(k3 x λq=>hn (.inl q)).trans (k2 x hx λq=>hn (.inr (.inr q))),λx hx=>?_⟩) ⟨LS.aC _ _ _,fn2.keep m2 λx hx _=>k3 x λq=>h1.PN (q ▸ hx),f2.keep m2 λx hx _=>k3 x λq=>hne (q ▸ hx),h.n8,λt ht=>?_,h1.PN,hne,hap,h1.lob,h1.lon,λx hx=>?_⟩
 ·rcases hx with q|q|q
  ·exact .inl (.inl q)
  ·exact .inl (.inr (.inl q))
  ·exact(b2 x q).elim (λw=>.inl (.inr (.inr w))) .inr
 ·rcases List.mem_append.1 ht with g|g
  ·exact h.o8 t g
  ·simp only[List.mem_singleton]at g;subst g;exact h8
 ·exact(b2 x hx).elim (h1.RP x) λw=>by omega
end
end Go.Proofs.YtcedghechlgecaaDoor
namespace Go.X
theorem Cg(ns out:List (List Nat))(s:List Nat):(jo ns out s).length≤out.length+1:=by
 unfold jo;split
 ·omega
 split
 ·omega
 split
 ·omega
 ·simp
theorem lY{α β:Type}{f:List β→α→List β}{c:α→Nat}:∀(l:List α) (out:List β),(∀a∈l,∀o,(f o a).length≤o.length+c a)→(l.foldl f out).length≤out.length+(l.map c).sum
 |[],out,_=>by simp
 |a::l,out,h=>by
  have h1:=h a (List.mem_cons_self ..) out;have h2:=lY l (f out a) λx hx=>h x (List.mem_cons_of_mem _ hx);simp only[List.foldl_cons,List.map_cons,List.sum_cons];omega
theorem PT:∀l:List ao,(l.map ao.sz).sum=aH l
 |[]=>rfl
 |e::l=>by simp only[List.map_cons,List.sum_cons,aH,PT l]
theorem ye:∀l:List dq,(l.map dq.sz).sum=fJ l
 |[]=>rfl
 |e::l=>by simp only[List.map_cons,List.sum_cons,fJ,ye l]
theorem yf:∀l:List (List aw),(l.map λb=>1+cx b).sum=dR l
 |[]=>rfl
 |e::l=>by simp only[List.map_cons,List.sum_cons,dR,yf l]
structure PU(n:Nat):Prop where
 e:∀ns out x,x.wf→(oE n ns out x).length≤out.length+x.sz
 f:∀ns out x,x.wf→(oF n ns out x).length≤out.length+x.sz
 w:∀ns names b thn out,jA b→iJ thn→(oW n ns names b thn out).length≤out.length+cx b+aH thn
 s:∀r x,x.wf→(oS n r x).2.length≤r.2.length+x.sz∧(oS n r x).1.length≤r.1.length+x.sz
theorem A8{n:Nat}(O:PU n):∀(b:List aw) (r:List (List Nat)×List (List Nat)),jA b→(b.foldl (oS n) r).2.length≤r.2.length+cx b∧(b.foldl (oS n) r).1.length≤r.1.length+cx b
 |[],r,_=>⟨by simp,by simp⟩
 |a::b,r,hw=>by
  have h1:=O.s r a hw.1;have h2:=A8 O b (oS n r a) hw.2;simp only[List.foldl_cons,cx];omega
theorem lT{n:Nat}(O:PU n)(ns:List (List Nat))(l:List ao)(out:List (List Nat))(hw:iJ l):(l.foldl (oE n ns) out).length≤out.length+aH l:=by
 have:=lY (c:=ao.sz) l out λa ha o=>O.e ns o a (ae7 hw a ha)
 rwa [PT]at this
def nr(n:Nat)(ns:List (List Nat))(l:List ao)(bs:List (List aw))(o:List (List Nat))(i:Nat):List (List Nat):=oW n ns [] (bs[i]?.getD []) [] (match l[i]? with|some e=>oE n ns o e|none=>o)
theorem ld:∀(l:List ao) (i:Nat),aH (l.take i)≤aH l
 |[],i=>by simp[aH]
 |a::l,0=>by simp[aH]
 |a::l,i+1=>by have:=ld l i;simp only[List.take_succ_cons,aH];omega
theorem pW:∀(l:List (List aw)) (i:Nat),dR (l.take i)≤dR l
 |[],i=>by simp[dR]
 |a::l,0=>by simp[dR]
 |a::l,i+1=>by have:=pW l i;simp only[List.take_succ_cons,dR];omega
theorem pX:∀(l:List aw) (i:Nat),cx (l.take i)≤cx l
 |[],i=>by simp[cx]
 |a::l,0=>by simp[cx]
 |a::l,i+1=>by have:=pX l i;simp only[List.take_succ_cons,cx];omega
theorem u9:∀(l:List dq) (i:Nat),fJ (l.take i)≤fJ l
 |[],i=>by simp[fJ]
 |a::l,0=>by simp[fJ]
 |a::l,i+1=>by have:=u9 l i;simp only[List.take_succ_cons,fJ];omega
theorem qX{l:List ao}{i:Nat}{e:ao}(h:l[i]? = some e):aH (l.take (i+1))=aH (l.take i)+e.sz:=by
 rw[List.take_add_one,h,mu];simp[aH]
theorem qY{l:List (List aw)}{i:Nat}{e:List aw}(h:l[i]? = some e):dR (l.take (i+1))=dR (l.take i)+(1+cx e):=by
 rw[List.take_add_one,h,uc];simp[dR]
theorem Ch{l:List aw}{i:Nat}{e:aw}(h:l[i]? = some e):cx (l.take (i+1))=cx (l.take i)+e.sz:=by
 rw[List.take_add_one,h,B7];simp[cx]
theorem JR:∀a b:List dq,fJ (a++b)=fJ a+fJ b
 |[],b=>by simp[fJ]
 |e::a,b=>by rw[List.cons_append,fJ,fJ,JR a b];omega
theorem Ci{l:List dq}{i:Nat}{e:dq}(h:l[i]? = some e):fJ (l.take (i+1))=fJ (l.take i)+e.sz:=by
 rw[List.take_add_one,h,JR];simp[fJ]
theorem A9{n:Nat}(O:PU n)(ns:List (List Nat))(l:List ao)(bs:List (List aw))(out:List (List Nat))(hl':iJ l)(hb':qp bs):∀i,i≤bs.length→((List.range i).foldl (nr n ns l bs) out).length≤out.length+aH (l.take i)+dR (bs.take i)
 |0,_=>by simp[aH,dR]
 |i+1,h=>by
  have h1:=A9 O ns l bs out hl' hb' i (by omega);rw[List.range_succ,List.foldl_append,List.foldl_cons,List.foldl_nil];generalize (List.range i).foldl (nr n ns l bs) out=o at h1 ⊢;have hb:=List.getElem?_eq_getElem (show i<bs.length by omega);rw[qY hb];unfold nr;rw[hb,Option.getD_some];cases hl:l[i]? with
  |none=>
   have h2:=O.w ns [] bs[i] [] o (jB hb' hb) trivial;have h3:aH (l.take i)≤aH (l.take (i+1)):=by rw[List.take_add_one,mu];omega
   simp only[aH]at h2;show(oW n ns [] bs[i] [] o).length≤_;omega
  |some e=>
   have h2:=O.w ns [] bs[i] [] (oE n ns o e) (jB hb' hb) trivial;have h4:=O.e ns o e (lk hl' hl);rw[qX hl];simp only[aH]at h2;show(oW n ns [] bs[i] [] (oE n ns o e)).length≤_;omega
theorem vy:∀n,PU n
 |0=>⟨λ_ _ _ _=>by rw[oE];omega,λ_ _ _ _=>by rw[oF];omega,λ_ _ _ _ _ _ _=>by rw[oW];omega,λ_ _ _=>by rw[oS];omega⟩
 |n+1=>by
  have O:=vy n;refine⟨λns out x hw=>?_,λns out x hw=>?_,λns names b thn out hwb hwt=>?_,λr x hw=>?_⟩
  ·obtain⟨k,a,nn,s,op,l,f⟩:=x;rw[oE];have h1:=lY (c:=dq.sz) f (l.foldl (oE n ns) (if k=6 then jo ns out s else out)) λa ha o=>O.f ns o a (Cb hw.2 a ha);have h2:=lT O ns l (if k=6 then jo ns out s else out) hw.1;have h3:(if k=6 then jo ns out s else out).length≤out.length+1:=by
    split
    ·exact Cg _ _ _
    ·omega
   rw[ye]at h1;simp only[ao.sz];omega
  ·obtain⟨ps,b⟩:=x;rw[oF];have:=O.w ns ps b [] out hw trivial;simp only[aH,dq.sz]at this ⊢;omega
  ·rw[oW];have h1:=lT O (b.foldl (oS n) (ns++names,out)).1 thn (b.foldl (oS n) (ns++names,out)).2 hwt;have h2:=(A8 O b (ns++names,out) hwb).1;show _≤out.length+_+_;have h2:(b.foldl (oS n) (ns++names,out)).2.length≤out.length+cx b:=h2;omega
  ·obtain⟨k,a,names,l,bs⟩:=x;obtain⟨w8,w1,wn,wl,wb⟩:=hw;have hw:∀(nm:List (List Nat)),(bs.foldl (λo b=>oW n r.1 nm b [] o) (l.foldl (oE n r.1) r.2)).length≤r.2.length+aH l+dR bs:=λnm=>by
    have h1:=lY (c:=λb:List aw=>1+cx b) bs (l.foldl (oE n r.1) r.2) (f:=λo b=>oW n r.1 nm b [] o) λb hb o=>by
     have:=O.w r.1 nm b [] o (Cc wb b hb) trivial;simp only[aH]at this;show(oW n r.1 nm b [] o).length≤o.length+(1+cx b);omega
    rw[yf]at h1;have h2:=lT O r.1 l r.2 wl;omega
   rw[oS];simp only[aw.sz];split
   ·have:=lT O r.1 l r.2 wl;simp only[List.length_append];omega
   split
   ·have:=lT O (r.1++names) l r.2 wl;simp only[List.length_append];omega
   split
   ·rename_i h8;have h:=w8 h8
    match bs,h,wb with
    |[],_,_=>simp only[List.foldl_nil];omega
    |[b],_,wb=>
     have:=O.w r.1 [] b l r.2 wb.1 wl;simp only[List.foldl_cons,List.foldl_nil,dR];omega
    |_::_::_,h,_=>simp at h
   split
   ·have:=A9 O r.1 l bs r.2 wl wb bs.length (Nat.le_refl _);rw[List.take_length]at this;have ht:=ld l bs.length;refine⟨?_,?_⟩
    ·show((List.range bs.length).foldl (nr n r.1 l bs) r.2).length≤_;omega
    ·show r.1.length≤_;omega
   ·have:=hw names;refine⟨?_,?_⟩
    ·show(bs.foldl (λo b=>oW n r.1 names b [] o) (l.foldl (oE n r.1) r.2)).length≤_;omega
    ·show r.1.length≤_;omega
section
variable {H:AH}{S S':LS}
def eE(lo:Nat):Nat→Prop:=λx=>x<lo
theorem JS{l:List ao}(h:iJ l)(i:Nat):iJ (l.take i):=((B9 _ _).1 (by rw[List.take_append_drop];exact h:iJ (l.take i++l.drop i))).1
theorem JT{l:List aw}(h:jA l)(i:Nat):jA (l.take i):=((Ca _ _).1 (by rw[List.take_append_drop];exact h:jA (l.take i++l.drop i))).1
structure En(gl:List (Option (List AV)))(lo b:Nat)(H:AH)(S:LS)(vn vo:AV)(ns out:List (List Nat)):Prop where
 m:Mem H S
 o:iT lo b S vn vo ns out
 t:ml gl S
 g:gl.length≤lo
 l:lo≤S.n
section
variable {gl:List (Option (List AV))}{lo b:Nat}{vn vo bV cO:AV}{ns out ns' out':List (List Nat)}{H':AH}
theorem aiw(hT:ml gl S)(hg:gl.length≤lo)(hk:∀x,x<lo→S'.ob x=S.ob x):ml gl S':=λx z hz=>(hk x (Nat.lt_of_lt_of_le (List.getElem?_eq_some_iff.1 hz).1 hg)).trans (hT x z hz)
theorem En.low(h:En gl lo b H S vn vo ns out)(g:fc b S S' vn vo bV cO):∀x,x<lo→S'.ob x=S.ob x:=λx hx=>g.low h.o h.l hx
theorem En.step(h:En gl lo b H S vn vo ns out)(m:Mem H' S')(g:fc b S S' vn vo bV cO)(o:iT lo b S' bV cO ns' out'):En gl lo b H' S' bV cO ns' out':=
 ⟨m,o,aiw h.t h.g (h.low g),h.g,Nat.le_trans h.l g.n⟩
theorem En.ext(h:En gl lo b H S vn vo ns out)(m:Mem H' S')(x:Ext S S'):En gl lo b H' S' vn vo ns out:=h.step m x.ost (h.o.ext h.m x)
theorem En.new(h:En gl lo b H S vn vo ns out):¬own b vn vo S.n:=λq=>Nat.lt_irrefl _ (h.o.zZ h.m q)
theorem oc{v:AV}{l:List ao}(h:qx S (eE lo) v l)(hk:∀x,x<lo→S'.ob x=S.ob x):qx S' (eE lo) v l:=by
 obtain⟨cl,g1,g2⟩:=h;exact⟨cl,g1.go hk λ_ h=>h,λi e he=>(g2 i e he).go hk λ_ h=>h⟩
theorem Aa{v:AV}{l:List aw}(h:gp S (eE lo) v l)(hk:∀x,x<lo→S'.ob x=S.ob x):gp S' (eE lo) v l:=by
 obtain⟨cl,g1,g2⟩:=h;exact⟨cl,g1.go hk λ_ h=>h,λi e he=>(g2 i e he).go hk λ_ h=>h⟩
theorem PV{v:AV}{l:List dq}(h:Hu S (eE lo) v l)(hk:∀x,x<lo→S'.ob x=S.ob x):Hu S' (eE lo) v l:=by
 obtain⟨cl,g1,g2⟩:=h;exact⟨cl,g1.go hk λ_ h=>h,λi e he=>(g2 i e he).go hk λ_ h=>h⟩
theorem sU{v:AV}{l:List (List aw)}(h:Bs S (eE lo) v l)(hk:∀x,x<lo→S'.ob x=S.ob x):Bs S' (eE lo) v l:=by
 obtain⟨cl,g1,g2⟩:=h;exact⟨cl,g1.go hk λ_ h=>h,λi e he=>Aa (g2 i e he) hk⟩
theorem PW{v:AV}{l:List (List Nat)}(h:jG S (eE lo) v l)(hk:∀x,x<lo→S'.ob x=S.ob x):jG S' (eE lo) v l:=⟨h.1.go hk λ_ h=>h,h.2⟩
theorem PX:jG S (eE lo) .ab []:=⟨.inl ⟨rfl,rfl⟩,λt h=>by simp at h⟩
theorem Ab:qx S (eE lo) .ab []:=⟨λ_=>[],.inl ⟨rfl,rfl⟩,λi e h=>by simp at h⟩
end
end
end Go.X
namespace Go.Proofs.YtcedghechlgecaaDoor
open Go Go.X Go.Proofs.YtcedghechlgecaaDoor.G
section
variable {H:AH}{S:LS}{K:KF}
structure qz(F:AV→AV→AH→KF→Prop)(n:Nat)(l:List ao):Prop where
 run:∀{K:KF}{H:AH}{S:LS}{lo b:Nat}{vn vo v:AV}{ns out:List (List Nat)},En gl lo b H S vn vo ns out→qx S (eE lo) v l→iJ l→ns.length+aH l≤800000→out.length+aH l≤800000→PR lo b S vn vo ns (l.foldl (oE n ns) out) K→F (.ptr b 0) v H K
structure yu(F:AV→AV→AV→AV→AH→KF→Prop)(n:Nat)(names:List (List Nat))(bd:List aw)(thn:List ao):Prop where
 run:∀{K:KF}{H:AH}{S:LS}{lo b:Nat}{vn vo v1 v2 v3:AV}{ns out:List (List Nat)},En gl lo b H S vn vo ns out→jG S (eE lo) v1 names→gp S (eE lo) v2 bd→qx S (eE lo) v3 thn→jA bd→iJ thn→ns.length+names.length+cx bd+aH thn≤800000→out.length+cx bd+aH thn≤800000→PR lo b S vn vo ns (oW n ns names bd thn out) K→F (.ptr b 0) v1 v2 v3 H K
structure StC(F:AV→AV→AH→KF→Prop)(n:Nat)(s:aw):Prop where
 run:∀{K:KF}{H:AH}{S:LS}{lo b:Nat}{vn vo v:AV}{ns out:List (List Nat)},En gl lo b H S vn vo ns out→rvS S (eE lo) v s→s.wf→ns.length+s.sz≤800000→out.length+s.sz≤800000→PR lo b S vn vo (oS n (ns,out) s).1 (oS n (ns,out) s).2 K→F (.ptr b 0) v H K
theorem Hv{n:Nat}{z c:List AV}{k:AV→AH→Prop}(hM:Mem H S)(hz:∀a∈z,a.one=true)(hzl:z.length=n)(hc:c.length=n)(ho:∀a∈c,a.one=true)
  (hk:∀H' S',Mem H' S'→Ext S S'→S'.ob S.n=.ce c 0→S'.n=S.n+1→k (.ptr S.n 0) H'):fW H (lA (ay H) z λv H4=>ak n v (.agg c) H4 λH5=>k v H5):=by
 refine eZ (eC hM hz λH1 m1=>?_);refine ky m1 (LS.ax _ _) hzl hc ho λH2 m2=>?_;exact hk H2 _ m2 ((Ext.push S _).set (Nat.le_refl _) _) (LS.aC _ _ _) rfl
def z2:List AV:=[.ab,.ab]
theorem PY:∀a∈z2,a.one=true:=by
 intro a ha;simp only[z2,List.mem_cons,List.not_mem_nil,or_false]at ha;rcases ha with rfl|rfl<;>rfl
theorem qz.zero{F:AV→AV→AH→KF→Prop}(h:qz F 1 []):qz F 0 []:=⟨λ{_ _ _ _ _ _ _ _ _ _} e r w b1 b2 k=>h.run e r w b1 b2 k⟩
theorem e53{R:fi}{n:Nat}{l:List ao}(hl:aH l≤800000)(hU:R.2.2=RR)(hE:∀e∈l,∀k a nn s op l' fs,e=.mk k a nn s op l' fs→qz R.2.1 n l')(hW:∀e∈l,∀k a nn s op l' fs,e=.mk k a nn s op l' fs→∀g∈fs,∃n',n=n'+1∧∀ps bd,g=.mk ps bd→yu R.1 n' ps bd []):qz (GP R) (n+1) l:=by
 refine⟨λ{K H S lo b vn vo v ns out} hen hv hw hns hout hK=>?_⟩;have O:=vy (n+1);have On:=vy n;have hll:=pD l;have loop:∀(q i:Nat) (bV cO:AV) (out':List (List Nat)) (H':AH) (S':LS),i≤l.length→l.length-i<q→En gl lo b H' S' bV cO ns out'→fc b S S' vn vo bV cO→out'=(l.take i).foldl (oE (n+1) ns) out→oZ R K q (.ptr b 0) v (l.length:Int) (i:Int) H':=by
  intro q
  induction q with
  |zero=>intro i _ _ _ _ _ _ h;omega
  |succ q ih=>
   intro i bV cO out' H' S' hi hq E1 hst ho;show GN R K (zQ R K (tX R K (oZ R K q) G.NL)) (.ptr b 0) v (l.length:Int) (i:Int) H';unfold GN;simp only[kE];rw[cE];refine bH (λg=>?_) (λg=>?_)
   rotate_left
   ·have e:i=l.length:=by omega
    subst e;rw[List.take_length]at ho;subst ho;exact hK H' S' bV cO E1.m hst E1.o
   have hil:i<l.length:=by omega
   obtain⟨e,he⟩:∃e,l[i]? = some e:=⟨_,List.getElem?_eq_getElem hil⟩
   have hem:=List.mem_of_getElem? he;have hsz:=jC he;have hwe:=lk hw he;have hol:out'.length+e.sz≤800000:=by
    have h1:=lT O ns (l.take i) out (JS hw i);rw[←ho]at h1;have h2:=qX he;have h3:=ld l (i+1);omega
   obtain⟨cl,s1,g1⟩:=oc hv (hen.low hst);have e1:=g1 i e he;refine s1.load E1.m hil ?_;refine Hv E1.m fB rfl e1.len e1.ones λH1 S1 m1 x1 o1 n1=>?_;have E2:=E1.ext m1 x1;have hnew:=E1.new;obtain⟨k,a,nn,s,op,l',fs⟩:=e;have e2:RE S1 (eE lo) (cl i) (.mk k a nn s op l' fs):=e1.go (λx hx=>x1.ob x (Nat.lt_of_lt_of_le hx E1.l)) λ_ h=>h;obtain⟨vl,vf,c1,h8,L1,F1⟩:=e2.out;rw[c1]at o1;simp only[ao.sz]at hsz hol;simp only[ao.wf]at hwe;have rest:∀(H2:AH) (S2:LS) (pY pZ:AV),En gl lo b H2 S2 pY pZ ns (if k=6 then jo ns out' s else out')→fc b S1 S2 bV cO pY pZ→zQ R K (tX R K (oZ R K q) G.NL) (.ptr b 0) (.ptr S'.n 0) v (l.length:Int) (i:Int) H2:=λH2 S2 pY pZ E3 st2=>by
    unfold zQ;simp only[aU,Nat.zero_add];have o2:=(st2.ob _ (by omega) hnew).trans o1;refine aF E3.m o2 (v:=vl) rfl ?_;have hul:(if k=6 then jo ns out' s else out').length≤out'.length+1:=by
     split
     ·exact Cg _ _ _
     ·omega
    refine(hE _ hem k a nn s op l' fs rfl).run E3 (oc L1 (E2.low st2)) hwe.1 (by omega) (by omega) λH3 S3 iU iV m3 gn lU=>?_;rw[ai];have E4:=E3.step m3 gn lU;have Cj:=st2.trans gn;have o3:=(Cj.ob _ (by omega) hnew).trans o1;refine aF m3 o3 (v:=vf) rfl ?_;have F3:=PV F1 (E2.low Cj);refine F3.choose_spec.1.len ?_;rw[aQ];have hfl:=yc fs;have fV:G.NL=1000000:=rfl;generalize G.NL=fb at fV ⊢;have h3l:=lT On ns l' (if k=6 then jo ns out' s else out') hwe.1;have inner:∀(q4 j:Nat) (lp nt:AV) (pE:List (List Nat)) (H4:AH) (S4:LS),j≤fs.length→fs.length-j<q4→En gl lo b H4 S4 lp nt ns pE→fc b S3 S4 iU iV lp nt→pE=(fs.take j).foldl (oF n ns) (l'.foldl (oE n ns) (if k=6 then jo ns out' s else out'))→tX R K (oZ R K q) q4 (.ptr b 0) v (l.length:Int) (i:Int) vf (fs.length:Int) (j:Int) H4:=by
     intro q4
     induction q4 with
     |zero=>intro j _ _ _ _ _ _ h;omega
     |succ q4 ih4=>
      intro j lp nt pE H4 S4 hj hq4 E5 lq Hw;show GM R K (GK R K (oZ R K q)) (GL R K (tX R K (oZ R K q) q4)) (.ptr b 0) v (l.length:Int) (i:Int) vf (fs.length:Int) (j:Int) H4;unfold GM;rw[cE];refine bH (λg4=>?_) (λg4=>?_)
      ·have hjl:j<fs.length:=by omega
       obtain⟨f,hf⟩:∃f,fs[j]? = some f:=⟨_,List.getElem?_eq_getElem hjl⟩
       have hfm:=List.mem_of_getElem? hf;have hfs:=pC hf;have hfw:=ud hwe.2 hf;obtain⟨cf,t1,u1⟩:=PV F3 (E4.low lq);have f1:=u1 j f hf;refine t1.load E5.m hjl ?_;refine Hv E5.m PY rfl f1.len f1.ones λH5 S5 m5 x5 o5 n5=>?_;have E6:=E5.ext m5 x5;obtain⟨n',hn',hwi⟩:=hW _ hem k a nn s op l' fs rfl f hfm;obtain⟨ps,bd⟩:=f;have f2:RF S5 (eE lo) (cf j) (.mk ps bd):=f1.go (λx hx=>x5.ob x (Nat.lt_of_lt_of_le hx E5.l)) λ_ h=>h;obtain⟨vp,vb,c5,N5,B5⟩:=f2.out;rw[c5]at o5;simp only[aU,Nat.zero_add];refine aF m5 o5 (v:=vp) rfl ?_;refine aF m5 o5 (v:=vb) rfl ?_;simp only[dq.sz]at hfs;have hb4:pE.length+cx bd≤800000:=by
        have q1:=lY (c:=dq.sz) (fs.take j) (l'.foldl (oE n ns) (if k=6 then jo ns out' s else out')) (f:=oF n ns) λx hx o=>On.f ns o x (Cb hwe.2 x (List.mem_of_mem_take hx));rw[ye,←Hw]at q1;have q2:=Ci hf;have q3:=u9 fs (j+1);simp only[dq.sz]at q2;omega
       refine(hwi ps bd rfl).run E6 N5 B5 Ab hfw trivial (by simp only[aH];omega) (by simp only[aH];omega) λH6 S6 vn6 vo6 m6 st6 on6=>?_;rw[ai];unfold GL;rw[dp,fe];refine w0 (by omega) (by omega) ?_;refine ih4 (j+1) vn6 vo6 _ H6 S6 (by omega) (by omega) (E6.step m6 st6 on6) (lq.trans (x5.ost.trans st6)) ?_;rw[jN hf,List.foldl_append,←Hw];subst hn';show _=oF (n'+1) ns pE (.mk ps bd);rw[oF]
      ·have e:j=fs.length:=by omega
       subst e;rw[List.take_length]at Hw;unfold GK;rw[dp,fe];refine w0 (by omega) (by omega) ?_;refine ih (i+1) lp nt pE H4 S4 (by omega) (by omega) E5 (hst.trans (x1.ost.trans (Cj.trans lq))) ?_;rw[jN he,List.foldl_append,←ho];show pE=oE (n+1) ns out' (.mk k a nn s op l' fs);rw[oE];exact Hw
    exact inner fb 0 iU iV _ H3 S3 (Nat.zero_le _) (by omega) E4 fc.refl rfl
   simp only[aU,Nat.zero_add];refine aF m1 o1 (v:=.int 0 (k:Int)) rfl ?_;have e6:Int.ofNat 6=((6:Nat):Int):=rfl;rw[aQ,bD,e6];refine bH (λg6=>?_) (λg6=>?_)
   ·have hk:k=6:=by omega
    refine aF m1 o1 (v:=ah s) rfl ?_;rw[hU];refine aod m1 E2.o E2.t E2.l h8 (by omega) (by omega) λH2 S2 pY pZ m2 st2 Hx=>?_;rw[ai];refine rest H2 S2 pY pZ ?_ st2;rw[if_pos hk];exact E2.step m2 st2 Hx
   ·have hk:¬k=6:=by omega
    refine rest H1 S1 bV cO ?_ fc.refl;rw[if_neg hk];exact E2
 show GO R K (oZ R K G.NL) (.ptr b 0) v H;unfold GO;have fV:G.NL=1000000:=rfl;generalize G.NL=fb at fV ⊢;refine hv.choose_spec.1.len ?_;rw[aQ];exact loop fb 0 vn vo out H S (Nat.zero_le _) (by omega) hen fc.refl rfl
end
end Go.Proofs.YtcedghechlgecaaDoor
namespace Go.X
theorem alR(n:Nat)(r:List (List Nat)×List (List Nat))(s:aw):∃X,(oS n r s).1=r.1++X:=by
 cases n with
 |zero=>exact⟨[],by rw[oS,List.append_nil]⟩
 |succ n=>
  obtain⟨k,a,names,l,bs⟩:=s;rw[oS];split
  ·exact⟨names,rfl⟩
  split
  ·exact⟨names,rfl⟩
  split
  ·exact⟨[],(List.append_nil _).symm⟩
  split
  ·exact⟨[],(List.append_nil _).symm⟩
  ·exact⟨[],(List.append_nil _).symm⟩
theorem vz(n:Nat):∀(b:List aw) (r:List (List Nat)×List (List Nat)),∃X,(b.foldl (oS n) r).1=r.1++X
 |[],r=>⟨[],(List.append_nil _).symm⟩
 |s::b,r=>by
  obtain⟨X,h1⟩:=alR n r s;obtain⟨Y,h2⟩:=vz n b (oS n r s);exact⟨X++Y,by rw[List.foldl_cons,h2,h1,List.append_assoc]⟩
end Go.X
namespace Go.Proofs.YtcedghechlgecaaDoor
open Go Go.X Go.Proofs.YtcedghechlgecaaDoor.G
section
variable {H:AH}{S:LS}{K:KF}
theorem w27{R:iM}{n:Nat}{names:List (List Nat)}{bd:List aw}{thn:List ao}(hS:∀s∈bd,StC R.1 n s)(hE:qz R.2 n thn):yu (Ko R) (n+1) names bd thn:=by
 refine⟨λ{K H S lo b vn vo v1 v2 v3 ns out} hen hv1 hv2 hv3 hwb hwt hns hout hK=>?_⟩;have On:=vy n;have hll:=yb bd;show GB R K (GA R K (wQ R K G.NL)) (.ptr b 0) v1 v2 v3 H;unfold GB GA;refine hen.o.gy hen.m ?_;refine(hen.o.fn.rd hen.m (Q:=λ_=>True) λ_ _ _=>trivial).len ?_;rw[aQ,List.length_map];refine hen.o.add hen.m hen.l (A7 hv1) hv1.2 (by omega) λH1 S1 vn1 m1 st1 on1=>?_;have E1:=hen.step m1 st1 on1;have B1:=Aa hv2 (hen.low st1);refine B1.choose_spec.1.len ?_;rw[aQ];have fV:G.NL=1000000:=rfl;generalize G.NL=fb at fV ⊢;have loop:∀(q i:Nat) (bV cO:AV) (H':AH) (S':LS),i≤bd.length→bd.length-i<q→En gl lo b H' S' bV cO ((bd.take i).foldl (oS n) (ns++names,out)).1 ((bd.take i).foldl (oS n) (ns++names,out)).2→fc b S1 S' vn1 vo bV cO→wQ R K q (.ptr b 0) v3 (ns.length:Int) v2 (bd.length:Int) (i:Int) H':=by
  intro q
  induction q with
  |zero=>intro i _ _ _ _ _ h;omega
  |succ q ih=>
   intro i bV cO H' S' hi hq E2 hst;show Gz R K (wQ R K q) (Gy R K) (.ptr b 0) v3 (ns.length:Int) v2 (bd.length:Int) (i:Int) H';unfold Gz;rw[cE];have hlen:=A8 On (bd.take i) (ns++names,out) (JT hwb i);have htk:=pX bd i;have hlen1:((bd.take i).foldl (oS n) (ns++names,out)).1.length≤ns.length+names.length+cx (bd.take i):=by
    have:=hlen.2;have e:(ns++names,out).1.length=ns.length+names.length:=List.length_append;omega
   have hlen2:((bd.take i).foldl (oS n) (ns++names,out)).2.length≤out.length+cx (bd.take i):=hlen.1;refine bH (λg=>?_) (λg=>?_)
   ·have hil:i<bd.length:=by omega
    obtain⟨s,hs⟩:∃s,bd[i]? = some s:=⟨_,List.getElem?_eq_getElem hil⟩
    obtain⟨cl,s1,g1⟩:=Aa B1 (E1.low hst);have e1:=g1 i s hs;have h2:=Ch hs;have h3:=pX bd (i+1);refine s1.load E2.m hil ?_;refine Hv E2.m Px rfl e1.len e1.ones λH2 S2 m2 x2 o2 n2=>?_;have E3:=E2.ext m2 x2;refine gy m2 o2 e1.len ?_;refine(hS s (List.mem_of_getElem? hs)).run E3 ⟨_,rfl,e1.go (λx hx=>x2.ob x (Nat.lt_of_lt_of_le hx E2.l)) λ_ h=>h⟩ (xV hwb hs) (by omega) (by omega) λH3 S3 iU iV m3 gn lU=>?_;rw[ai,dp,fe];refine w0 (by omega) (by omega) ?_;refine ih (i+1) iU iV H3 S3 (by omega) (by omega) ?_ (hst.trans (x2.ost.trans gn));rw[jN hs,List.foldl_append];exact E3.step m3 gn lU
   ·have e:i=bd.length:=by omega
    subst e;rw[List.take_length]at E2 hlen1 hlen2;unfold Gy;refine hE.run E2 (oc (oc hv3 (hen.low st1)) (E1.low hst)) hwt (by omega) (by omega) λH3 S3 iU iV m3 gn lU=>?_;rw[ai];obtain⟨X,hX⟩:=vz n bd (ns++names,out);have hX:(bd.foldl (oS n) (ns++names,out)).1=ns++names++X:=hX;rw[hX,List.append_assoc]at lU;refine lU.cut m3 (by rw[List.length_append];omega) λH4 S4 lp m4 lq sk=>?_;rw[List.take_left' rfl]at sk;refine hK H4 S4 lp iV m4 (st1.trans (hst.trans (gn.trans lq))) ?_;rw[oW,hX,List.append_assoc];exact sk
 refine loop fb 0 vn1 vo H1 S1 (Nat.zero_le _) (by omega) ?_ fc.refl;exact E1
theorem s52{R:di}{n:Nat}{s:aw}(hE:∀k a ns l bs,s=.mk k a ns l bs→(∀l',aH l'≤aH l→qz R.2 n l')∧∀bd∈bs,∀names thn,aH thn≤aH l→yu R.1 n names bd thn):StC (Kp R) (n+1) s:=by
 refine⟨λ{K H S lo b vn vo v ns out} hen hv0 hw hns hout hK=>?_⟩;obtain⟨c,hv,e0⟩:=hv0;subst hv;obtain⟨k,a,names,l,bs⟩:=s;obtain⟨hX,hB⟩:=hE k a names l bs rfl;have On:=vy n;obtain⟨w8,w1,wn,wl,wb⟩:=hw;simp only[aw.sz]at hns hout;have hbl:=yd bs;have hll:=pD l;have fV:G.NL=1000000:=rfl;show GJ R K (wR R K G.NL) (GD R K) (GG R K (tW R K G.NL)) (GI R K (wS R K G.NL)) (.ptr b 0) (.agg c) H;generalize G.NL=fb at fV ⊢;unfold GJ;refine bxA hen.m e0.ones λH1 S1 m1 x1 o1 n1=>?_;have E1:=hen.ext m1 x1;have hnew:=hen.new;have e1:gR S1 (eE lo) c (.mk k a names l bs):=e0.go (λx hx=>x1.ob x (Nat.lt_of_lt_of_le hx hen.l)) λ_ h=>h;obtain⟨wn',uh,pe,c1,N1,L1,B1⟩:=e1.out;rw[c1]at o1;simp only[aU,Nat.zero_add];refine aF m1 o1 (v:=.int 0 (k:Int)) rfl ?_;have i1:Int.ofNat 1=((1:Nat):Int):=rfl;have i12:Int.ofNat 12=((12:Nat):Int):=rfl;have i8:Int.ofNat 8=((8:Nat):Int):=rfl;have i4:Int.ofNat 4=((4:Nat):Int):=rfl;have bx:∀{S2:LS}{pY pZ:AV},fc b S1 S2 vn vo pY pZ→S2.ob S.n=.ce [.int 0 (k:Int),.int 0 (a:Int),wn',uh,pe] 0:=λst=>(st.ob _ (by omega) hnew).trans o1;rw[aQ,bD,i1];refine bH (λg1=>?_) (λg1=>?_)
 ·have hk:k=1:=by omega
  refine aF m1 o1 (v:=uh) rfl ?_;refine(hX l (Nat.le_refl _)).run E1 L1 wl (by omega) (by omega) λH2 S2 pY pZ m2 st2 Hx=>?_;rw[ai];have E2:=E1.step m2 st2 Hx;refine Hx.gy m2 ?_;refine aF m2 (bx st2) (v:=wn') rfl ?_;have N2:=PW N1 (E1.low st2);refine Hx.add0 m2 E2.l (A7 N2) N2.2 (by omega) λH3 S3 iU m3 gn lU=>?_;refine hK H3 S3 iU pZ m3 (x1.ost.trans (st2.trans gn)) ?_;rw[oS,if_pos hk];exact lU
 rw[bD,i12];refine bH (λg12=>?_) (λg12=>?_)
 ·have hk:k=12:=by omega
  refine E1.o.gy m1 ?_;refine aF m1 o1 (v:=wn') rfl ?_;refine E1.o.add0 m1 E1.l (A7 N1) N1.2 (by omega) λH2 S2 pY m2 st2 Hx=>?_;have E2:=E1.step m2 st2 Hx;unfold GD;simp only[aU,Nat.zero_add];refine aF m2 (bx st2) (v:=uh) rfl ?_;refine(hX l (Nat.le_refl _)).run E2 (oc L1 (E1.low st2)) wl (by rw[List.length_append];omega) (by omega) λH3 S3 iU iV m3 gn lU=>?_;rw[ai];refine hK H3 S3 iU iV m3 (x1.ost.trans (st2.trans gn)) ?_;rw[oS,if_neg (by omega),if_pos hk];exact lU
 rw[bD,i8];refine bH (λg8=>?_) (λg8=>?_)
 ·have hk:k=8:=by omega
  refine aF m1 o1 (v:=pe) rfl ?_;refine B1.choose_spec.1.len ?_;rw[aQ];have hKK:PR lo b S vn vo ns (bs.foldl (λo b=>oW n ns [] b l o) out) K:=by
   have:(oS (n+1) (ns,out) (.mk k a names l bs))=(ns,bs.foldl (λo b=>oW n ns [] b l o) out):=by rw[oS,if_neg (by omega),if_neg (by omega),if_pos hk]
   rw[this]at hK;exact hK
  have hb8:=w8 hk;have loop:∀(q i:Nat) (bV cO:AV) (H':AH) (S':LS),i≤bs.length→bs.length-i<q→En gl lo b H' S' bV cO ns ((bs.take i).foldl (λo b=>oW n ns [] b l o) out)→fc b S1 S' vn vo bV cO→wR R K q (.ptr b 0) (.ptr S.n 0) pe (bs.length:Int) (i:Int) H':=by
   intro q
   induction q with
   |zero=>intro i _ _ _ _ _ h;omega
   |succ q ih=>
    intro i bV cO H' S' hi hq E2 hst;show GC R K (wR R K q) (.ptr b 0) (.ptr S.n 0) pe (bs.length:Int) (i:Int) H';unfold GC;rw[cE];refine bH (λg=>?_) (λg=>?_)
    ·have hil:i<bs.length:=by omega
     have i0:i=0:=by omega
     subst i0;obtain⟨bd,hbd⟩:∃bd,bs[0]? = some bd:=⟨_,List.getElem?_eq_getElem hil⟩
     have hsz:=j8 hbd;obtain⟨bv,s1,g1⟩:=sU B1 (E1.low hst);refine s1.rh E2.m hil ?_;simp only[aU,Nat.zero_add];refine aF E2.m (bx hst) (v:=uh) rfl ?_;simp only[List.take_zero,List.foldl_nil]at E2;refine(hB bd (List.mem_of_getElem? hbd) [] l (Nat.le_refl _)).run E2 PX (g1 0 bd hbd) (oc L1 (E1.low hst)) (jB wb hbd) wl (by simp only[List.length_nil];omega) (by omega) λH3 S3 iU iV m3 gn lU=>?_;rw[ai,dp,fe];refine w0 (by omega) (by omega) ?_;refine ih (0+1) iU iV H3 S3 (by omega) (by omega) ?_ (hst.trans gn);rw[jN hbd,List.foldl_append];exact E2.step m3 gn lU
    ·have e:i=bs.length:=by omega
     subst e;rw[List.take_length]at E2;exact hKK H' S' bV cO E2.m (x1.ost.trans hst) E2.o
  exact loop fb 0 vn vo H1 S1 (Nat.zero_le _) (by omega) E1 fc.refl
 rw[bD,i4];refine bH (λg4=>?_) (λg4=>?_)
 ·have hk:k=4:=by omega
  refine aF m1 o1 (v:=pe) rfl ?_;refine B1.choose_spec.1.len ?_;rw[aQ];unfold GG;have hKK:PR lo b S vn vo ns ((List.range bs.length).foldl (nr n ns l bs) out) K:=by
   have:(oS (n+1) (ns,out) (.mk k a names l bs))=(ns,(List.range bs.length).foldl (nr n ns l bs) out):=by rw[oS,if_neg (by omega),if_neg (by omega),if_neg (by omega),if_pos hk];rfl
   rw[this]at hK;exact hK
  have loop:∀(q i:Nat) (bV cO:AV) (H':AH) (S':LS),i≤bs.length→bs.length-i<q→En gl lo b H' S' bV cO ns ((List.range i).foldl (nr n ns l bs) out)→fc b S1 S' vn vo bV cO→tW R K q (.ptr b 0) (.ptr S.n 0) pe (bs.length:Int) (i:Int) H':=by
   intro q
   induction q with
   |zero=>intro i _ _ _ _ _ h;omega
   |succ q ih=>
    intro i bV cO H' S' hi hq E2 hst;show GF R K (zP R K (zO R K (tW R K q))) (.ptr b 0) (.ptr S.n 0) pe (bs.length:Int) (i:Int) H';unfold GF;rw[cE];refine bH (λg=>?_) (λg=>?_)
    ·have hil:i<bs.length:=by omega
     obtain⟨bd,hbd⟩:∃bd,bs[i]? = some bd:=⟨_,List.getElem?_eq_getElem hil⟩
     have hsz:=j8 hbd;obtain⟨bv,s1,g1⟩:=sU B1 (E1.low hst);have hlen:=A9 On ns l bs out wl wb i (by omega);have t1:=ld l i;have t2:=qY hbd;have t3:=pW bs (i+1);refine s1.rh E2.m hil ?_;simp only[aU,Nat.zero_add];have L2:=oc L1 (E1.low hst);refine aF E2.m (bx hst) (v:=uh) rfl ?_;refine L2.choose_spec.1.len ?_;rw[aQ,cE];have blk:∀(H3:AH) (S3:LS) (iU iV:AV) (o3:List (List Nat)),o3.length+cx bd≤800000→o3=(match l[i]? with|some e=>oE n ns ((List.range i).foldl (nr n ns l bs) out) e|none=>(List.range i).foldl (nr n ns l bs) out)→En gl lo b H3 S3 iU iV ns o3→fc b S1 S3 vn vo iU iV→gp S3 (eE lo) (bv i) bd→zP R K (zO R K (tW R K q)) (.ptr b 0) (.ptr S.n 0) (bv i) pe (bs.length:Int) (i:Int) H3:=λH3 S3 iU iV o3 hl3 ho3 E3 gn hb3=>by
      unfold zP;refine(hB bd (List.mem_of_getElem? hbd) [] [] (by simp[aH])).run E3 PX hb3 Ab (jB wb hbd) trivial (by simp only[List.length_nil,aH];omega) (by simp only[aH];omega) λH4 S4 lp nt m4 lq sk=>?_;rw[ai];unfold zO;rw[dp,fe];refine w0 (by omega) (by omega) ?_;refine ih (i+1) lp nt H4 S4 (by omega) (by omega) ?_ (gn.trans lq);rw[List.range_succ,List.foldl_append,List.foldl_cons,List.foldl_nil];have:nr n ns l bs ((List.range i).foldl (nr n ns l bs) out) i=oW n ns [] bd [] o3:=by
       show oW n ns [] (bs[i]?.getD []) [] (match l[i]? with|some e=>oE n ns ((List.range i).foldl (nr n ns l bs) out) e|none=>(List.range i).foldl (nr n ns l bs) out)=_;rw[hbd,Option.getD_some,ho3]
      rw[this];exact E3.step m4 lq sk
     refine bH (λgl'=>?_) (λgl'=>?_)
     ·have Hy:i<l.length:=by omega
      have hle:=List.getElem?_eq_getElem Hy;refine aF E2.m (bx hst) (v:=uh) rfl ?_;rw[dp,fe];refine w0 (by omega) (by omega) ?_;have t4:=qX hle;have t5:=ld l (i+1);obtain⟨cl,r1,r2⟩:=id L2;rcases r1 with⟨_,z0⟩|⟨bk,o,cp,ex,cs,mm,rfl,q1,q2,q3,q4,q5⟩
      ·omega
      have ei:((i:Int)+1)=((i+1:Nat):Int):=by omega
      rw[ei];refine Ui (i:=i) (j:=i+1) (by omega) (by omega) (.inl rfl) (.inl rfl) ?_;have hone:qx S' (eE lo) (.slice bk (o+i*7) (i+1-i) (cp-i) 7 ex) [l[i]]:=by
       refine⟨λ_=>cl i,.inr ⟨bk,o+i*7,cp-i,ex,cs,mm,by rw[show i+1-i=1 by omega];rfl,q1,q2,by simp only[List.length_singleton];omega,by
        have:(i+1)*7≤l.length*7:=Nat.mul_le_mul_right _ (by omega);simp only[List.length_singleton];omega,λj hj=>?_⟩,λj e he=>?_⟩
       ·simp only[List.length_singleton]at hj;have j0:j=0:=by omega
        subst j0;have:=q5 i Hy;rw[Nat.zero_mul,Nat.add_zero];exact this
       ·cases j with
        |zero=>simp at he;subst he;exact r2 i _ hle
        |succ j=>simp at he
      refine(hX [l[i]] (by simp only[aH];have:=jC hle;omega)).run E2 hone ⟨lk wl hle,trivial⟩ (by simp only[aH];omega) (by simp only[aH];omega) λH3 S3 iU iV m3 gn lU=>?_;rw[ai];have E3:=E2.step m3 gn lU;have l3:=On.e ns ((List.range i).foldl (nr n ns l bs) out) l[i] (lk wl hle);refine blk H3 S3 iU iV _ ?_ ?_ E3 (hst.trans gn) (Aa (g1 i bd hbd) (E2.low gn))
      ·simp only[List.foldl_cons,List.foldl_nil];omega
      ·rw[hle];rfl
     ·have Hy:l[i]? = none:=List.getElem?_eq_none (by omega);refine blk H' S' bV cO _ (by omega) ?_ E2 hst (g1 i bd hbd);rw[Hy]
    ·have e:i=bs.length:=by omega
     subst e;exact hKK H' S' bV cO E2.m (x1.ost.trans hst) E2.o
  exact loop fb 0 vn vo H1 S1 (Nat.zero_le _) (by omega) E1 fc.refl
 ·have hKK:PR lo b S vn vo ns (bs.foldl (λo b=>oW n ns names b [] o) (l.foldl (oE n ns) out)) K:=by
   have:(oS (n+1) (ns,out) (.mk k a names l bs))=(ns,bs.foldl (λo b=>oW n ns names b [] o) (l.foldl (oE n ns) out)):=by rw[oS,if_neg (by omega),if_neg (by omega),if_neg (by omega),if_neg (by omega)]
   rw[this]at hK;exact hK
  refine aF m1 o1 (v:=uh) rfl ?_;refine(hX l (Nat.le_refl _)).run E1 L1 wl (by omega) (by omega) λH2 S2 pY pZ m2 st2 Hx=>?_;rw[ai];have E2:=E1.step m2 st2 Hx;have hlo:=lT On ns l out wl;unfold GI;simp only[aU,Nat.zero_add];refine aF m2 (bx st2) (v:=pe) rfl ?_;have B2:=sU B1 (E1.low st2);refine B2.choose_spec.1.len ?_;rw[aQ];have loop:∀(q i:Nat) (bV cO:AV) (H':AH) (S':LS),i≤bs.length→bs.length-i<q→En gl lo b H' S' bV cO ns ((bs.take i).foldl (λo b=>oW n ns names b [] o) (l.foldl (oE n ns) out))→fc b S1 S' vn vo bV cO→wS R K q (.ptr b 0) (.ptr S.n 0) pe (bs.length:Int) (i:Int) H':=by
   intro q
   induction q with
   |zero=>intro i _ _ _ _ _ h;omega
   |succ q ih=>
    intro i bV cO H' S' hi hq E3 hst;show GH R K (wS R K q) (.ptr b 0) (.ptr S.n 0) pe (bs.length:Int) (i:Int) H';unfold GH;rw[cE];refine bH (λg=>?_) (λg=>?_)
    ·have hil:i<bs.length:=by omega
     obtain⟨bd,hbd⟩:∃bd,bs[i]? = some bd:=⟨_,List.getElem?_eq_getElem hil⟩
     have hsz:=j8 hbd;obtain⟨bv,s1,g1⟩:=sU B1 (E1.low hst);have t2:=qY hbd;have t3:=pW bs (i+1);have hln:((bs.take i).foldl (λo b=>oW n ns names b [] o) (l.foldl (oE n ns) out)).length≤(l.foldl (oE n ns) out).length+dR (bs.take i):=by
      have h1:=lY (c:=λb:List aw=>1+cx b) (bs.take i) (l.foldl (oE n ns) out) (f:=λo b=>oW n ns names b [] o) λb hb o=>by
       have:=On.w ns names b [] o (Cc wb b (List.mem_of_mem_take hb)) trivial;simp only[aH]at this;show(oW n ns names b [] o).length≤o.length+(1+cx b);omega
      rw[yf]at h1;exact h1
     refine s1.rh E3.m hil ?_;simp only[aU,Nat.zero_add];refine aF E3.m (bx hst) (v:=wn') rfl ?_;refine(hB bd (List.mem_of_getElem? hbd) names [] (by simp[aH])).run E3 (PW N1 (E1.low hst)) (g1 i bd hbd) Ab (jB wb hbd) trivial (by simp only[aH];omega) (by simp only[aH];omega) λH4 S4 lp nt m4 lq sk=>?_;rw[ai,dp,fe];refine w0 (by omega) (by omega) ?_;refine ih (i+1) lp nt H4 S4 (by omega) (by omega) ?_ (hst.trans lq);rw[jN hbd,List.foldl_append];exact E3.step m4 lq sk
    ·have e:i=bs.length:=by omega
     subst e;rw[List.take_length]at E3;exact hKK H' S' bV cO E3.m (x1.ost.trans hst) E3.o
  exact loop fb 0 pY pZ H2 S2 (Nat.zero_le _) (by omega) E2 st2
end
end Go.Proofs.YtcedghechlgecaaDoor
namespace Go.X
section
variable {H:AH}{S S':LS}
theorem alS{Q:Nat→Prop}{v:AV}{l:List (List Nat)}(h:jf S v (l.map ah))(hQ:∀b,au v b→Q b)(h8:∀t∈l,B8 t):jG S Q v l:=by
 refine⟨?_,h8⟩;rcases h with⟨rfl,e⟩|⟨b,c,ex,cs,rfl,h2,h3,h4,h5,h6⟩
 ·exact .inl ⟨rfl,by simpa using e⟩
 ·rw[List.length_map]at h4 h5 ⊢;refine .inr ⟨b,0,c,ex,cs,0,rfl,hQ b rfl,h2,h4,by omega,λi hi=>?_⟩;have e1:(cs.take l.length)[i]? = some (ah l[i]):=by rw[h5,List.getElem?_map,List.getElem?_eq_getElem hi];rfl
  rw[List.getElem?_take,if_pos hi]at e1;have hic:=(List.getElem?_eq_some_iff.1 e1)
  show(cs.drop (0+i*1)).take 1=[ah (l[i]?.getD [])];rw[List.getElem?_eq_getElem hi,Option.getD_some,Nat.zero_add,Nat.mul_one,List.drop_eq_getElem_cons hic.1,hic.2];rfl
end
end Go.X
namespace Go.Proofs.YtcedghechlgecaaDoor
open Go Go.X Go.Proofs.YtcedghechlgecaaDoor.G
section
variable {H:AH}{S:LS}{K:KF}
abbrev t9R:Type:=(AV→AV→AV→AV→AH→KF→Prop)×(AV→AV→AH→KF→Prop)×(AV→AV→AH→KF→Prop)
noncomputable def t9(n:Nat):t9R:=Nat.rec (motive:=λ_=>t9R) (λ_ _ _ _ _ _=>False,λ_ _ _ _=>False,λ_ _ _ _=>False) (λ_ S=>(Ko (S.2.1,S.2.2),Kp (S.1,S.2.2),GP (S.1,S.2.2,RR))) n
theorem alT(n:Nat):t9 (n+1)=(Ko ((t9 n).2.1,(t9 n).2.2),Kp ((t9 n).1,(t9 n).2.2),GP ((t9 n).1,(t9 n).2.2,RR)):=rfl
theorem amK(n:Nat):aE Tryd.prog 27 (aD [.a,.a,.a,.a] (t9 n).1)∧aE Tryd.prog 52 (aD [.a,.a] (t9 n).2.1)∧aE Tryd.prog 53 (aD [.a,.a] (t9 n).2.2):=by
 induction n with
 |zero=>exact⟨hN [.a,.a,.a,.a],hN [.a,.a],hN [.a,.a]⟩
 |succ n ih=>
  rw[alT];exact⟨ahU _ (ad.cons ih.2.1 (ad.cons ih.2.2 ad.nil)),ahV _ (ad.cons ih.1 (ad.cons ih.2.2 ad.nil)),ahW _ (ad.cons ih.1 (ad.cons ih.2.2 (ad.cons alQ ad.nil)))⟩
structure aoe(m:Nat)(W:AV→AV→AV→AV→AH→KF→Prop)(T:AV→AV→AH→KF→Prop)(X:AV→AV→AH→KF→Prop):Prop where
 ex:∀n l,3*aH l+1<m→2*aH l≤n→qz X n l
 wi:∀n names bd thn,3*cx bd+3*aH thn+2<m→2*cx bd+2*aH thn+1≤n→yu W n names bd thn
 st:∀n s,3*s.sz+1<m→2*s.sz≤n→StC T n s
theorem alU:∀m:Nat,m≤900000→∀M:Nat,m≤M→aoe m (t9 M).1 (t9 M).2.1 (t9 M).2.2
 |0,_,M,_=>⟨λ_ _ h=>by omega,λ_ _ _ _ h=>by omega,λ_ _ h=>by omega⟩
 |m+1,hm,0,h=>by omega
 |m+1,hm,M+1,h=>by
  have A:=alU m (by omega) M (by omega);rw[alT];refine⟨λn l h1 h2=>?_,λn names bd thn h1 h2=>?_,λn s h1 h2=>?_⟩
  ·have key:∀n,2*aH l≤n+1→qz (GP ((t9 M).1,(t9 M).2.2,RR)) (n+1) l:=λn h2=>by
    refine e53 (by omega) rfl (λe he k a nn s op l' fs ee=>?_) λe he k a nn s op l' fs ee g hg=>?_
    ·obtain⟨i,hi⟩:=List.mem_iff_getElem?.1 he;have:=jC hi;subst ee;simp only[ao.sz]at this;exact A.ex n l' (by omega) (by omega)
    ·obtain⟨i,hi⟩:=List.mem_iff_getElem?.1 he;obtain⟨j,hj⟩:=List.mem_iff_getElem?.1 hg;have h3:=jC hi;have h4:=pC hj;have h5:=g.qt;subst ee;simp only[ao.sz]at h3;refine⟨n-1,by omega,λps bd eg=>?_⟩;subst eg;simp only[dq.sz]at h4;exact A.wi (n-1) ps bd [] (by simp only[aH];omega) (by simp only[aH];omega)
   cases n with
   |zero=>
    have hl0:l=[]:=by
     have:=pD l;exact List.length_eq_zero_iff.1 (by omega)
    subst hl0;exact qz.zero (key 0 (by simp[aH]))
   |succ n=>exact key n h2
  ·obtain⟨n,rfl⟩:∃n',n=n'+1:=⟨n-1,by omega⟩
   refine w27 (λs hs=>?_) ?_
   ·obtain⟨i,hi⟩:=List.mem_iff_getElem?.1 hs;have:=qW hi;exact A.st n s (by omega) (by omega)
   ·exact A.ex n thn (by omega) (by omega)
  ·obtain⟨n,rfl⟩:∃n',n=n'+1:=⟨n-1,by have:=s.qt;omega⟩
   refine s52 λk a ns l bs e=>?_;subst e;simp only[aw.sz]at h1 h2;refine⟨λl' hl'=>A.ex n l' (by omega) (by omega),λbd hbd names thn ht=>?_⟩;obtain⟨i,hi⟩:=List.mem_iff_getElem?.1 hbd;have:=j8 hi;exact A.wi n names bd thn (by omega) (by omega)
noncomputable def g14:AV→AH→KF→Prop:=agv (t9 G.NL).1
theorem alV:aE Tryd.prog 14 (aD [.a] g14):=ahX _ (ad.cons (amK G.NL).1 ad.nil)
structure OuC(F:AV→AH→KF→Prop)(n:Nat)(ps:List (List Nat))(bd:List aw):Prop where
 run:∀{K:KF}{H:AH}{S:LS}{c:List AV},Mem H S→ml gl S→gl.length≤S.n→RF S (pd S) c (.mk ps bd)→jA bd→(∀H' S' w,Mem H' S'→Ext S S'→jG S' (iy S.n S'.n) w (oW n [] ps bd [] [])→K (.ret w) H')→F (.agg c) H K
theorem adD{W:AV→AV→AV→AV→AH→KF→Prop}{n:Nat}{ps:List (List Nat)}{bd:List aw}(hW:yu W n ps bd [])(hsz:ps.length+cx bd≤800000){S:LS}{H4:AH}{S4:LS}{c:List AV}{vp vb:AV}{K:KF}(E:En gl S.n (S.n+1) H4 S4 .ab .ab [] [])(x:Ext S S4)(h:RF S (pd S) c (.mk ps bd))(hc:c=[vp,vb])(N:jG S4 (eE S.n) vp ps)(B:gp S4 (eE S.n) vb bd)(hw:jA bd)
  (hK:∀H' S' w,Mem H' S'→Ext S S'→jG S' (iy S.n S'.n) w (oW n [] ps bd [] [])→K (.ret w) H'):W (.ptr (S.n+1) 0) vp vb .ab H4 λo9 dD=>cR K o9 dD λv11=>aI (.ptr (S.n+1) 0) (ag 1 (.ptr (S.n+1) 0) λv12=>af v12 dD λv13=>K (.ret v13) dD):=by
 refine hW.run E N B Ab hw trivial (by simp only[List.length_nil,aH];omega) (by simp only[List.length_nil,aH];omega) λH5 S5 PZ JU m5 xc JV=>?_;rw[ai];refine JV.ldO m5 ?_;have E5:=E.step m5 xc JV;refine hK H5 S5 JU m5 ⟨E5.l,λy hy=>(E.low xc y hy).trans (x.ob y hy)⟩ (alS JV.fo (λy hy=>⟨JV.RP y hy,JV.fo.lt m5 hy⟩) JV.o8)
theorem adE{S:LS}{H4:AH}{S4:LS}(m:Mem H4 S4)(ho:S4.ob (S.n+1)=.ce [.ab,.ab] 0)(hT:ml gl S4)(hg:gl.length≤S.n)(hl:S.n≤S4.n):En gl S.n (S.n+1) H4 S4 .ab .ab [] []:=
 ⟨m,⟨ho,.inl ⟨rfl,rfl⟩,.inl ⟨rfl,rfl⟩,λt h=>by simp at h,λt h=>by simp at h,λh=>h,λh=>h,λ_ h=>h.elim,by omega,λ_ h=>h.elim,λ_ h=>h.elim⟩,hT,hg,hl⟩
theorem aof{n:Nat}{ps:List (List Nat)}{bd:List aw}(hsz:ps.length+cx bd≤200000)(hn:2*cx bd+1≤n):OuC g14 n ps bd:=by
 refine⟨λ{K H S c} hM hT hg hR hw hK=>?_⟩;have fV:G.NL=1000000:=rfl;have hW:yu (t9 G.NL).1 n ps bd []:=(alU (3*cx bd+3) (by omega) G.NL (by omega)).wi n ps bd [] (by simp only[aH];omega) (by simp only[aH];omega);show GQ (t9 G.NL).1 K (.agg c) H;generalize (t9 G.NL).1=W at hW ⊢;unfold GQ;refine bxA hM hR.ones λH1 S1 m1 x1 o1 n1=>?_;refine eC m1 PY λH2 m2=>?_;have m2:Mem H2 (S1.push (.ce z2 0)):=m2;have x2:Ext S1 (S1.push (.ce z2 0)):=Ext.push _ _;have o2:(S1.push (.ce z2 0)).ob S1.n=.ce z2 0:=LS.ax _ _;have n2:(S1.push (.ce z2 0)).n=S1.n+1:=rfl;revert m2 x2 o2 n2;generalize S1.push (.ce z2 0)=S2;intro m2 x2 o2 n2;have x12:=x1.trans x2;rw[n1]at o2 ⊢;have hR2:RF S2 (eE S.n) c (.mk ps bd):=hR.go (λx hx=>x12.ob x hx) λ_ h=>h;obtain⟨vp,vb,c1,N1,B1⟩:=hR2.out;have P0:=(x2.ob _ (by omega)).trans o1;rw[c1]at P0;simp only[aU,Nat.zero_add];refine aF m2 P0 (v:=vp) rfl ?_;refine aF m2 P0 (v:=vb) rfl ?_;have h:=adD (K:=K) hW (by omega) (adE m2 o2 (hT.ext hM x12) hg x12.n) x12 hR c1 N1 B1 hw hK;simp only[aU,Nat.zero_add]at h;exact h
end
section
variable {H:AH}{S:LS}{K:KF}
theorem aog{lo b x:Nat}{vn vo:AV}{ns out:List (List Nat)}{s:List Nat}{cs:List AV}{k:AH→Prop}(h:iT lo b S vn vo ns out)(hM:Mem H S)(hlo:lo≤S.n)(hx:S.ob x=.ce cs 0)(hs:cs[3]? = some (ah s))(h8:B8 s)(hl:out.length≤900000)
  (hk:∀H' S' cO,Mem H' S'→fc b S S' vn vo vn cO→iT lo b S' vn cO ns (out++[s])→k H'):aI (.ptr b 0) (ag 1 (.ptr b 0) λv1=>af v1 H λv2=>ag 3 (.ptr x 0) λv3=>af v3 H λv4=>dx H (one v4 (aX (ay H) 1 1 [v4] λv5 H6=>bT (Nat.beq H6.n (Nat.succ H.n)) (dw 1 16 v2 v5 H6 λv7 H8=>aI (.ptr b 0) (ag 1 (.ptr b 0) λv9=>ak 1 v9 v7 H8 λdD=>k dD))))):=by
 simp only[dL,aU,Nat.zero_add];refine aF hM h.ob (v:=vo) rfl ?_;refine aF hM hx hs ?_;refine hM.dx (fU rfl ?_);refine eI hM rfl (λa ha=>by simp only[List.mem_singleton]at ha;subst ha;rfl) λH1 m1=>?_;rw[m1.n,hM.n];refine cV (by show Nat.beq (S.n+1) (S.n+1)=true;exact Nat.beq_refl _) ?_;have r1:lV (S.push (.ce [ah s] 0)) (λ_=>True) (.slice S.n 0 1 1 1 true) [ah s]:=.inr ⟨S.n,0,1,true,[ah s],0,rfl,by simp,trivial,LS.ax _ _,by simp,rfl⟩;have f1:jf (S.push (.ce [ah s] 0)) vo (out.map ah):=h.fo.keep hM λx _ hx=>LS.bC _ _ hx;refine LA m1 f1 r1 (by simp;omega) (λa ha=>by simp only[List.mem_singleton]at ha;subst ha;rfl) λH2 S2 v2 m2 n2 k2 f2 b2 _ _ _=>?_;have n2:S.n+1≤S2.n:=n2;have hbl:=h.zZ hM (.inl rfl);have k2':∀y,y<S.n→¬au vo y→S2.ob y=S.ob y:=λy hy hn=>(k2 y (by show y<S.n+1;omega) hn).trans (LS.bC _ _ hy);have b2':∀y,au v2 y→au vo y∨S.n≤y:=λy hy=>(b2 y hy).elim .inl λq=>.inr (by have q:S.n+1≤y:=q;omega);have e2:S2.ob b=.ce [vn,vo] 0:=(k2' b hbl h.JP).trans h.ob;have hne:¬au v2 b:=λq=>(b2' b q).elim h.JP (by omega);have fn2:jf S2 vn (ns.map ah):=h.fn.keep hM λy hy hlt=>k2' y hlt (h.ap y hy);have hap:∀y,au vn y→¬au v2 y:=λy hy q=>(b2' y q).elim (h.ap y hy) λw=>by have:=h.fn.lt hM hy;omega
 refine cZ m2 e2 (by omega) (by show 1<2;omega) f2.one λH' m=>?_;have k3:∀y,y≠b→(S2.set b (.ce [vn,v2] 0)).ob y=S2.ob y:=λy hy=>LS.av _ _ hy;have f2':jf S2 v2 ((out++[s]).map ah):=by rw[List.map_append];exact f2
 refine hk H' _ v2 m ⟨by show S.n≤S2.n;omega,λy hy hn=>(k3 y λq=>hn (.inl q)).trans (k2' y hy λq=>hn (.inr (.inr q))),λy hy=>?_⟩ ⟨LS.aC _ _ _,fn2.keep m2 λy hy _=>k3 y λq=>h.PN (q ▸ hy),f2'.keep m2 λy hy _=>k3 y λq=>hne (q ▸ hy),h.n8,λt ht=>?_,h.PN,hne,hap,h.lob,h.lon,λy hy=>?_⟩
 ·rcases hy with q|q|q
  ·exact .inl (.inl q)
  ·exact .inl (.inr (.inl q))
  ·exact(b2' y q).elim (λw=>.inl (.inr (.inr w))) .inr
 ·rcases List.mem_append.1 ht with g|g
  ·exact h.o8 t g
  ·simp only[List.mem_singleton]at g;subst g;exact h8
 ·exact(b2' y hy).elim (h.RP y) λw=>by omega
theorem e54{R:eG}{n:Nat}{l:List ao}(hl:aH l≤800000)(hB:R.1=f11)(hH:R.2.1=f25)(hE:∀e∈l,∀k a nn s op l' fs,e=.mk k a nn s op l' fs→qz R.2.2.2 n l')(hW:∀e∈l,∀k a nn s op l' fs,e=.mk k a nn s op l' fs→∀g∈fs,∃n',n=n'+1∧∀ps bd,g=.mk ps bd→yu (λa x y z=>R.2.2.1 a y x z) n' ps bd []):qz (AO R) (n+1) l:=by
 refine⟨λ{K H S lo b vn vo v ns out} hen hv hw hns hout hK=>?_⟩;have O:=vy (n+1);have On:=vy n;have hll:=pD l;have loop:∀(q i:Nat) (bV cO:AV) (out':List (List Nat)) (H':AH) (S':LS),i≤l.length→l.length-i<q→En gl lo b H' S' bV cO ns out'→fc b S S' vn vo bV cO→out'=(l.take i).foldl (oE (n+1) ns) out→nP R K q (.ptr b 0) v (i:Int) H':=by
  intro q
  induction q with
  |zero=>intro i _ _ _ _ _ _ h;omega
  |succ q ih=>
   intro i bV cO out' H' S' hi hq E1 hst ho;show G8 R K (G7 R K (wU R K (sd R K (nP R K q) G.NL))) (wU R K (sd R K (nP R K q) G.NL)) (.ptr b 0) v (i:Int) H';unfold G8;simp only[kE];have V1:=oc hv (hen.low hst);refine V1.choose_spec.1.len ?_;rw[aQ,cE];refine bH (λg=>?_) (λg=>?_)
   rotate_left
   ·have e:i=l.length:=by omega
    subst e;rw[List.take_length]at ho;subst ho;exact hK H' S' bV cO E1.m hst E1.o
   have hil:i<l.length:=by omega
   obtain⟨e,he⟩:∃e,l[i]? = some e:=⟨_,List.getElem?_eq_getElem hil⟩
   have hem:=List.mem_of_getElem? he;have hsz:=jC he;have hwe:=lk hw he;have hol:out'.length+e.sz≤800000:=by
    have h1:=lT O ns (l.take i) out (JS hw i);rw[←ho]at h1;have h2:=qX he;have h3:=ld l (i+1);omega
   obtain⟨cl,s1,g1⟩:=V1;have e1:=g1 i e he;refine s1.load E1.m hil ?_;refine Hv E1.m fB rfl e1.len e1.ones λH1 S1 m1 x1 o1 n1=>?_;have E2:=E1.ext m1 x1;have hnew:=E1.new;obtain⟨k,a,nn,s,op,l',fs⟩:=e;have V2:qx S1 (eE lo) v l:=oc hv (hen.low (hst.trans x1.ost));have e2:RE S1 (eE lo) (cl i) (.mk k a nn s op l' fs):=e1.go (λx hx=>x1.ob x (Nat.lt_of_lt_of_le hx E1.l)) λ_ h=>h;obtain⟨vl,vf,c1,h8,L1,F1⟩:=e2.out;rw[c1]at o1;simp only[ao.sz]at hsz hol;simp only[ao.wf]at hwe;have fV:G.NL=1000000:=rfl;generalize G.NL=fb at fV ⊢;have sf:∀{S2:LS}{H2:AH}{pY pZ:AV}{j:Nat}{w:AV}{kk:AV→Prop},Mem H2 S2→fc b S1 S2 bV cO pY pZ→j<7→(cl i)[j]? = some w→kk w→cn 7 v (.int 0 (i:Int)) λp=>ag j p λp'=>af p' H2 kk:=λ{S2 H2 pY pZ j w kk} m2 st2 hj hw2 hkk=>by
    have s2:dH S2 (eE lo) 7 v l.length cl:=(s1.go (λx hx=>x1.ob x (Nat.lt_of_lt_of_le hx E1.l)) λ_ h=>h).go (λx hx=>E2.low st2 x hx) λ_ h=>h;exact s2.sf m2 hil hj hw2 hkk
   have rest:∀(H2:AH) (S2:LS) (pY pZ:AV),En gl lo b H2 S2 pY pZ ns (if k=6 then jo ns out' s else out')→fc b S1 S2 bV cO pY pZ→wU R K (sd R K (nP R K q) fb) (.ptr b 0) v (i:Int) H2:=λH2 S2 pY pZ E3 st2=>by
    unfold wU;refine sf E3.m st2 (j:=5) (by omega) (by rw[c1];rfl) ?_;have hul:(if k=6 then jo ns out' s else out').length≤out'.length+1:=by
     split
     ·exact Cg _ _ _
     ·omega
    refine(hE _ hem k a nn s op l' fs rfl).run E3 (oc L1 (E2.low st2)) hwe.1 (by omega) (by omega) λH3 S3 iU iV m3 gn lU=>?_;rw[ai];have E4:=E3.step m3 gn lU;have Cj:=st2.trans gn;have F3:=PV F1 (E2.low Cj);have hfl:=yc fs;have h3l:=lT On ns l' (if k=6 then jo ns out' s else out') hwe.1;have inner:∀(q4 j:Nat) (lp nt:AV) (pE:List (List Nat)) (H4:AH) (S4:LS),j≤fs.length→fs.length-j<q4→En gl lo b H4 S4 lp nt ns pE→fc b S3 S4 iU iV lp nt→pE=(fs.take j).foldl (oF n ns) (l'.foldl (oE n ns) (if k=6 then jo ns out' s else out'))→sd R K (nP R K q) q4 (.ptr b 0) v (i:Int) (j:Int) H4:=by
     intro q4
     induction q4 with
     |zero=>intro j _ _ _ _ _ _ h;omega
     |succ q4 ih4=>
      intro j lp nt pE H4 S4 hj hq4 E5 lq Hw;show G6 R K (G3 R K (nP R K q)) (G5 R K (sd R K (nP R K q) q4)) (.ptr b 0) v (i:Int) (j:Int) H4;unfold G6;have afo:=Cj.trans lq;have F4:=PV F3 (E4.low lq);refine sf E5.m afo (j:=6) (by omega) (by rw[c1];rfl) ?_;refine F4.choose_spec.1.len ?_;rw[aQ,cE];refine bH (λg4=>?_) (λg4=>?_)
      ·have hjl:j<fs.length:=by omega
       obtain⟨f,hf⟩:∃f,fs[j]? = some f:=⟨_,List.getElem?_eq_getElem hjl⟩
       have hfm:=List.mem_of_getElem? hf;have hfs:=pC hf;have hfw:=ud hwe.2 hf;obtain⟨cf,t1,u1⟩:=F4;have f1:=u1 j f hf;obtain⟨n',hn',hwi⟩:=hW _ hem k a nn s op l' fs rfl f hfm;obtain⟨ps,bd⟩:=f;obtain⟨vp,vb,c5,N5,B5⟩:=f1.out;refine sf E5.m afo (j:=6) (by omega) (by rw[c1];rfl) ?_;refine t1.sf E5.m hjl (j:=1) (by omega) (a:=vb) (by rw[c5];rfl) ?_;refine sf E5.m afo (j:=6) (by omega) (by rw[c1];rfl) ?_;refine t1.sf E5.m hjl (j:=0) (by omega) (a:=vp) (by rw[c5];rfl) ?_;simp only[dq.sz]at hfs;have hb4:pE.length+cx bd≤800000:=by
        have q1:=lY (c:=dq.sz) (fs.take j) (l'.foldl (oE n ns) (if k=6 then jo ns out' s else out')) (f:=oF n ns) λx hx o=>On.f ns o x (Cb hwe.2 x (List.mem_of_mem_take hx));rw[ye,←Hw]at q1;have q2:=Ci hf;have q3:=u9 fs (j+1);simp only[dq.sz]at q2;omega
       refine(hwi ps bd rfl).run E5 N5 B5 Ab hfw trivial (by simp only[aH];omega) (by simp only[aH];omega) λH6 S6 vn6 vo6 m6 st6 on6=>?_;rw[ai];unfold G5;rw[dp,fe];refine w0 (by omega) (by omega) ?_;refine ih4 (j+1) vn6 vo6 _ H6 S6 (by omega) (by omega) (E5.step m6 st6 on6) (lq.trans st6) ?_;rw[jN hf,List.foldl_append,←Hw];subst hn';show _=oF (n'+1) ns pE (.mk ps bd);rw[oF]
      ·have e:j=fs.length:=by omega
       subst e;rw[List.take_length]at Hw;unfold G3;rw[dp,fe];refine w0 (by omega) (by omega) ?_;refine ih (i+1) lp nt pE H4 S4 (by omega) (by omega) E5 (hst.trans (x1.ost.trans (Cj.trans lq))) ?_;rw[jN he,List.foldl_append,←ho];show pE=oE (n+1) ns out' (.mk k a nn s op l' fs);rw[oE];exact Hw
    exact inner fb 0 iU iV _ H3 S3 (Nat.zero_le _) (by omega) E4 fc.refl rfl
   simp only[aU,Nat.zero_add];refine aF m1 o1 (v:=.int 0 (k:Int)) rfl ?_;have e6:Int.ofNat 6=((6:Nat):Int):=rfl;rw[aQ,bD,e6];refine bH (λg6=>?_) (λg6=>?_)
   ·have hk:k=6:=by omega
    simp only[dL];refine aF m1 E2.o.ob (v:=bV) rfl ?_;refine aF m1 o1 (v:=ah s) rfl ?_;rw[hH,hB];refine afn m1 (E2.o.fn.rd m1 (Q:=λ_=>True) λ_ _ _=>trivial) E2.o.n8 h8 (by omega) ?_;rw[ai,aM];have same:∀{c:Prop},jo ns out' s=out'→En gl lo b H1 S1 bV cO ns (if k=6 then jo ns out' s else out'):=λ{c} e=>by
     rw[if_pos hk,e];exact E2
    by_cases h1:s∈ns
    ·rw[decide_eq_true h1];simp only[Bool.not_true,aG];exact rest H1 S1 bV cO (same (c:=True) (if_pos h1)) fc.refl
    rw[decide_eq_false h1];simp only[Bool.not_false,aK];refine aF m1 o1 (v:=ah s) rfl ?_;refine aoc m1 h8 λH2 S2 m2 x2=>?_;rw[ai,aM];have E3:=E2.ext m2 x2;by_cases h2:s∈builtins
    ·rw[decide_eq_true h2];simp only[Bool.not_true,aG];refine rest H2 S2 bV cO ?_ x2.ost;rw[if_pos hk,show jo ns out' s=out' from(if_neg h1).trans (if_pos h2)];exact E3
    rw[decide_eq_false h2];simp only[Bool.not_false,aK];have o2:=(x2.ob _ (by omega)).trans o1;refine aF m2 E3.o.ob (v:=cO) rfl ?_;refine aF m2 o2 (v:=ah s) rfl ?_;refine afn m2 (E3.o.fo.rd m2 (Q:=λ_=>True) λ_ _ _=>trivial) E3.o.o8 h8 (by omega) ?_;rw[ai,aM];by_cases h3:s∈out'
    ·rw[decide_eq_true h3];simp only[Bool.not_true,aG];refine rest H2 S2 bV cO ?_ x2.ost;rw[if_pos hk,show jo ns out' s=out' from(if_neg h1).trans ((if_neg h2).trans (if_pos h3))];exact E3
    rw[decide_eq_false h3];simp only[Bool.not_false,aK];unfold G7;refine aog E3.o m2 E3.l o2 rfl h8 (by omega) λH3 S3 iV m3 gn lU=>?_;refine rest H3 S3 bV iV ?_ (x2.ost.trans gn);rw[if_pos hk,show jo ns out' s=out'++[s]from(if_neg h1).trans ((if_neg h2).trans (if_neg h3))];exact E3.step m3 gn lU
   ·have hk:¬k=6:=by omega
    refine rest H1 S1 bV cO ?_ fc.refl;rw[if_neg hk];exact E2
 show G9 R K (nP R K G.NL) (.ptr b 0) v H;unfold G9;have fV:G.NL=1000000:=rfl;generalize G.NL=fb at fV ⊢;exact loop fb 0 vn vo out H S (Nat.zero_le _) (by omega) hen fc.refl rfl
end
end Go.Proofs.YtcedghechlgecaaDoor
namespace Go.X
def RS(n k:Nat)(nm ns:List (List Nat))(l:List ao)(bs:List (List aw))(o:List (List Nat)):List (List Nat):=
 if k=8 then bs.foldl (λo b=>oW n ns [] b l o) o
 else if k=4 then (List.range bs.length).foldl (nr n ns l bs) o
 else bs.foldl (λo b=>oW n ns nm b [] o) o
end Go.X
namespace Go.Proofs.YtcedghechlgecaaDoor
open Go Go.X Go.Proofs.YtcedghechlgecaaDoor.G
section
variable {H:AH}{S:LS}{K:KF}
section
variable {R:cj}{n lo b x k a:Nat}{wn' uh pe v v3 vn vo:AV}{ns nm out:List (List Nat)}{l:List ao}{bs:List (List aw)}{z8:Int}{i3:AV→AV→AV→Int→Int→AH→Prop}{ii:Nat}
theorem pf(hx:S.ob x=.ce [.int 0 (k:Int),.int 0 (a:Int),wn',uh,pe] 0){j:Nat}{w:AV}{kk:AV→Prop}(hM:Mem H S)(hw:[.int 0 (k:Int),.int 0 (a:Int),wn',uh,pe][j]? = some w)(hk:kk w):ag j (.ptr x 0) λp=>af p H kk:=by
 simp only[aU,Nat.zero_add];exact aF hM hx hw hk
theorem aoh(On:PU n)(hX:∀l',aH l'≤aH l→qz R.2 n l')(hB:∀bd∈bs,∀names thn,aH thn≤aH l→yu (λa x y z=>R.1 a y x z) n names bd thn)
  (w8:k=8→bs.length≤1) (w1:(k=1∨k=12)→bs=[]) (wn:k≠1→k≠6→k≠7→k≠12→nm=[]) (wl:iJ l) (wb:qp bs)
  (E0:En gl lo b H S vn vo ns out) (hx:S.ob x=.ce [.int 0 (k:Int),.int 0 (a:Int),wn',uh,pe] 0) (hxl:x<S.n) (hxo:¬own b vn vo x)
  (N0:jG S (eE lo) wn' nm) (L0:qx S (eE lo) uh l) (B0:Bs S (eE lo) pe bs) (hns:ns.length+aH l+dR bs≤800000) (aoi:k≠12→ns.length+nm.length+dR bs≤800000) (hout:out.length+dR bs≤800000) (agJ:k=4∨k=8→out.length+aH l+dR bs≤800000)
  (hend:∀H' S' bV cO,En gl lo b H' S' bV cO ns (RS n k nm ns l bs out)→fc b S S' vn vo bV cO→tY R K i3 (.ptr b 0) v v3 z8 (ii:Int) (.ptr x 0) H') :
  ∀fb,1000000≤fb→fz R K i3 fb (.ptr b 0) v v3 z8 (ii:Int) (.ptr x 0) 0 H:=by
 intro fb fV;have hbl:=yd bs;have bx:∀{S2:LS}{pY pZ:AV},fc b S S2 vn vo pY pZ→S2.ob x=.ce [.int 0 (k:Int),.int 0 (a:Int),wn',uh,pe] 0:=λst=>(st.ob _ hxl hxo).trans hx;have i8:Int.ofNat 8=((8:Nat):Int):=rfl;have i6:Int.ofNat 6=((6:Nat):Int):=rfl;have i7:Int.ofNat 7=((7:Nat):Int):=rfl;have i4:Int.ofNat 4=((4:Nat):Int):=rfl;by_cases k8:k=8
 ·have hout2:=agJ (.inr k8);have eB:RS n k nm ns l bs out=bs.foldl (λo b=>oW n ns [] b l o) out:=if_pos k8;rw[eB]at hend;have loop:∀(q i:Nat) (bV cO:AV) (H':AH) (S':LS),i≤bs.length→bs.length-i<q→En gl lo b H' S' bV cO ns ((bs.take i).foldl (λo b=>oW n ns [] b l o) out)→fc b S S' vn vo bV cO→fz R K i3 q (.ptr b 0) v v3 z8 (ii:Int) (.ptr x 0) (i:Int) H':=by
   intro q
   induction q with
   |zero=>intro i _ _ _ _ _ h;omega
   |succ q ih=>
    intro i bV cO H' S' hi hq E2 hst;show rX R K (gJ R K (fz R K i3 q)) (oB R K (pT R K (gJ R K (fz R K i3 q))) (gJ R K (fz R K i3 q))) (tY R K i3) (.ptr b 0) v v3 z8 (ii:Int) (.ptr x 0) (i:Int) H';unfold rX;have B2:=sU B0 (E0.low hst);refine pf (bx hst) E2.m (j:=4) rfl ?_;refine B2.choose_spec.1.len ?_;rw[aQ,cE];refine bH (λg=>?_) (λg=>?_)
    ·have hil:i<bs.length:=by omega
     have h1:=w8 k8;have i0:i=0:=by omega
     subst i0;obtain⟨bd,hbd⟩:∃bd,bs[0]? = some bd:=⟨_,List.getElem?_eq_getElem hil⟩
     have hsz:=j8 hbd;refine pf (bx hst) E2.m (j:=0) rfl ?_;rw[aQ,bD,i8,decide_eq_true (by omega),aK];refine pf (bx hst) E2.m (j:=4) rfl ?_;obtain⟨bv,s1,g1⟩:=B2;refine s1.rh E2.m hil ?_;refine pf (bx hst) E2.m (j:=3) rfl ?_;simp only[List.take_zero,List.foldl_nil]at E2;refine(hB bd (List.mem_of_getElem? hbd) [] l (Nat.le_refl _)).run E2 PX (g1 0 bd hbd) (oc L0 (E0.low hst)) (jB wb hbd) wl (by simp only[List.length_nil];omega) (by omega) λH3 S3 iU iV m3 gn lU=>?_;rw[ai];unfold gJ;rw[dp,fe];refine w0 (by omega) (by omega) ?_;refine ih (0+1) iU iV H3 S3 (by omega) (by omega) ?_ (hst.trans gn);rw[jN hbd,List.foldl_append];exact E2.step m3 gn lU
    ·have e:i=bs.length:=by omega
     subst e;rw[List.take_length]at E2;exact hend H' S' bV cO E2 hst
  exact loop fb 0 vn vo H S (Nat.zero_le _) (by omega) E0 fc.refl
 by_cases k4:k=4
 ·have hout2:=agJ (.inl k4);have eB:RS n k nm ns l bs out=(List.range bs.length).foldl (nr n ns l bs) out:=(if_neg k8).trans (if_pos k4);rw[eB]at hend;have loop:∀(q i:Nat) (bV cO:AV) (H':AH) (S':LS),i≤bs.length→bs.length-i<q→En gl lo b H' S' bV cO ns ((List.range i).foldl (nr n ns l bs) out)→fc b S S' vn vo bV cO→fz R K i3 q (.ptr b 0) v v3 z8 (ii:Int) (.ptr x 0) (i:Int) H':=by
   intro q
   induction q with
   |zero=>intro i _ _ _ _ _ h;omega
   |succ q ih=>
    intro i bV cO H' S' hi hq E2 hst;show rX R K (gJ R K (fz R K i3 q)) (oB R K (pT R K (gJ R K (fz R K i3 q))) (gJ R K (fz R K i3 q))) (tY R K i3) (.ptr b 0) v v3 z8 (ii:Int) (.ptr x 0) (i:Int) H';unfold rX;have B2:=sU B0 (E0.low hst);refine pf (bx hst) E2.m (j:=4) rfl ?_;refine B2.choose_spec.1.len ?_;rw[aQ,cE];refine bH (λg=>?_) (λg=>?_)
    ·have hil:i<bs.length:=by omega
     obtain⟨bd,hbd⟩:∃bd,bs[i]? = some bd:=⟨_,List.getElem?_eq_getElem hil⟩
     have hsz:=j8 hbd;have hlen:=A9 On ns l bs out wl wb i (by omega);have t1:=ld l i;have t2:=qY hbd;have t3:=pW bs (i+1);have L2:=oc L0 (E0.low hst);refine pf (bx hst) E2.m (j:=0) rfl ?_;rw[aQ,bD,i8,decide_eq_false (by omega),aG,bD,i6,decide_eq_false (by omega),aG];unfold oB;rw[bD,i7,decide_eq_false (by omega),aG,bD,i4,decide_eq_true (by omega),aK];refine pf (bx hst) E2.m (j:=3) rfl ?_;refine L2.choose_spec.1.len ?_;rw[aQ,cE];have blk:∀(H3:AH) (S3:LS) (iU iV:AV) (o3:List (List Nat)),o3.length+cx bd≤800000→o3=(match l[i]? with|some e=>oE n ns ((List.range i).foldl (nr n ns l bs) out) e|none=>(List.range i).foldl (nr n ns l bs) out)→En gl lo b H3 S3 iU iV ns o3→fc b S S3 vn vo iU iV→pT R K (gJ R K (fz R K i3 q)) (.ptr b 0) v v3 z8 (ii:Int) (.ptr x 0) (i:Int) H3:=λH3 S3 iU iV o3 hl3 ho3 E3 gn=>by
      unfold pT;refine pf (bx gn) E3.m (j:=4) rfl ?_;obtain⟨bv,s1,g1⟩:=sU B0 (E0.low gn);refine s1.rh E3.m hil ?_;refine(hB bd (List.mem_of_getElem? hbd) [] [] (by simp[aH])).run E3 PX (g1 i bd hbd) Ab (jB wb hbd) trivial (by simp only[List.length_nil,aH];omega) (by simp only[aH];omega) λH4 S4 lp nt m4 lq sk=>?_;rw[ai];unfold gJ;rw[dp,fe];refine w0 (by omega) (by omega) ?_;refine ih (i+1) lp nt H4 S4 (by omega) (by omega) ?_ (gn.trans lq);rw[List.range_succ,List.foldl_append,List.foldl_cons,List.foldl_nil];have:nr n ns l bs ((List.range i).foldl (nr n ns l bs) out) i=oW n ns [] bd [] o3:=by
       show oW n ns [] (bs[i]?.getD []) [] (match l[i]? with|some e=>oE n ns ((List.range i).foldl (nr n ns l bs) out) e|none=>(List.range i).foldl (nr n ns l bs) out)=_;rw[hbd,Option.getD_some,ho3]
      rw[this];exact E3.step m4 lq sk
     refine bH (λgl'=>?_) (λgl'=>?_)
     ·have Hy:i<l.length:=by omega
      have hle:=List.getElem?_eq_getElem Hy;refine pf (bx hst) E2.m (j:=3) rfl ?_;rw[dp,fe];refine w0 (by omega) (by omega) ?_;have t4:=qX hle;have t5:=ld l (i+1);obtain⟨cl,r1,r2⟩:=id L2;rcases r1 with⟨_,z0⟩|⟨bk,o,cp,ex,cs,mm,rfl,q1,q2,q3,q4,q5⟩
      ·omega
      have ei:((i:Int)+1)=((i+1:Nat):Int):=by omega
      rw[ei];refine Ui (i:=i) (j:=i+1) (by omega) (by omega) (.inl rfl) (.inl rfl) ?_;have hone:qx S' (eE lo) (.slice bk (o+i*7) (i+1-i) (cp-i) 7 ex) [l[i]]:=by
       refine⟨λ_=>cl i,.inr ⟨bk,o+i*7,cp-i,ex,cs,mm,by rw[show i+1-i=1 by omega];rfl,q1,q2,by simp only[List.length_singleton];omega,by
        have:(i+1)*7≤l.length*7:=Nat.mul_le_mul_right _ (by omega);simp only[List.length_singleton];omega,λj hj=>?_⟩,λj e he=>?_⟩
       ·simp only[List.length_singleton]at hj;have j0:j=0:=by omega
        subst j0;have:=q5 i Hy;rw[Nat.zero_mul,Nat.add_zero];exact this
       ·cases j with
        |zero=>simp at he;subst he;exact r2 i _ hle
        |succ j=>simp at he
      refine(hX [l[i]] (by simp only[aH];have:=jC hle;omega)).run E2 hone ⟨lk wl hle,trivial⟩ (by simp only[aH];omega) (by simp only[aH];omega) λH3 S3 iU iV m3 gn lU=>?_;rw[ai];have E3:=E2.step m3 gn lU;have l3:=On.e ns ((List.range i).foldl (nr n ns l bs) out) l[i] (lk wl hle);refine blk H3 S3 iU iV _ ?_ ?_ E3 (hst.trans gn)
      ·simp only[List.foldl_cons,List.foldl_nil];omega
      ·rw[hle];rfl
     ·have Hy:l[i]? = none:=List.getElem?_eq_none (by omega);refine blk H' S' bV cO _ (by omega) ?_ E2 hst;rw[Hy]
    ·have e:i=bs.length:=by omega
     subst e;exact hend H' S' bV cO E2 hst
  exact loop fb 0 vn vo H S (Nat.zero_le _) (by omega) E0 fc.refl
 have eB:RS n k nm ns l bs out=bs.foldl (λo b=>oW n ns nm b [] o) out:=(if_neg k8).trans (if_neg k4);rw[eB]at hend;have loop:∀(q i:Nat) (bV cO:AV) (H':AH) (S':LS),i≤bs.length→bs.length-i<q→En gl lo b H' S' bV cO ns ((bs.take i).foldl (λo b=>oW n ns nm b [] o) out)→fc b S S' vn vo bV cO→fz R K i3 q (.ptr b 0) v v3 z8 (ii:Int) (.ptr x 0) (i:Int) H':=by
  intro q
  induction q with
  |zero=>intro i _ _ _ _ _ h;omega
  |succ q ih=>
   intro i bV cO H' S' hi hq E2 hst;show rX R K (gJ R K (fz R K i3 q)) (oB R K (pT R K (gJ R K (fz R K i3 q))) (gJ R K (fz R K i3 q))) (tY R K i3) (.ptr b 0) v v3 z8 (ii:Int) (.ptr x 0) (i:Int) H';unfold rX;have B2:=sU B0 (E0.low hst);refine pf (bx hst) E2.m (j:=4) rfl ?_;refine B2.choose_spec.1.len ?_;rw[aQ,cE];refine bH (λg=>?_) (λg=>?_)
   ·have hil:i<bs.length:=by omega
    obtain⟨bd,hbd⟩:∃bd,bs[i]? = some bd:=⟨_,List.getElem?_eq_getElem hil⟩
    have hsz:=j8 hbd;have hk1:k≠1∧k≠12:=⟨λe=>by rw[w1 (.inl e)]at hil;simp at hil,λe=>by rw[w1 (.inr e)]at hil;simp at hil⟩
    have aoR:=aoi hk1.2;have t2:=qY hbd;have t3:=pW bs (i+1);have hln:((bs.take i).foldl (λo b=>oW n ns nm b [] o) out).length≤out.length+dR (bs.take i):=by
     have h1:=lY (c:=λb:List aw=>1+cx b) (bs.take i) out (f:=λo b=>oW n ns nm b [] o) λb hb o=>by
      have:=On.w ns nm b [] o (Cc wb b (List.mem_of_mem_take hb)) trivial;simp only[aH]at this;show(oW n ns nm b [] o).length≤o.length+(1+cx b);omega
     rw[yf]at h1;exact h1
    obtain⟨bv,s1,g1⟩:=B2;have Ja:∀H4 S4 lp nt,Mem H4 S4→fc b S' S4 bV cO lp nt→iT lo b S4 lp nt ns (oW n ns nm bd [] ((bs.take i).foldl (λo b=>oW n ns nm b [] o) out))→gJ R K (fz R K i3 q) (.ptr b 0) v v3 z8 (ii:Int) (.ptr x 0) (i:Int) H4:=λH4 S4 lp nt m4 lq sk=>by
     unfold gJ;rw[dp,fe];refine w0 (by omega) (by omega) ?_;refine ih (i+1) lp nt H4 S4 (by omega) (by omega) ?_ (hst.trans lq);rw[jN hbd,List.foldl_append];exact E2.step m4 lq sk
    refine pf (bx hst) E2.m (j:=0) rfl ?_;rw[aQ,bD,i8,decide_eq_false (by omega),aG];have with_:k=6∨k=7→oB R K (pT R K (gJ R K (fz R K i3 q))) (gJ R K (fz R K i3 q)) (.ptr b 0) v v3 z8 (ii:Int) (.ptr x 0) (i:Int) (k:Int) true H':=λ_=>by
     unfold oB;rw[aK];refine pf (bx hst) E2.m (j:=4) rfl ?_;refine s1.rh E2.m hil ?_;refine pf (bx hst) E2.m (j:=2) rfl ?_;refine(hB bd (List.mem_of_getElem? hbd) nm [] (by simp[aH])).run E2 (PW N0 (E0.low hst)) (g1 i bd hbd) Ab (jB wb hbd) trivial (by simp only[aH];omega) (by simp only[aH];omega) λH4 S4 lp nt m4 lq sk=>?_;rw[ai];exact Ja H4 S4 lp nt m4 lq sk
    rw[bD,i6];by_cases k6:k=6
    ·rw[decide_eq_true (by omega),aK];exact with_ (.inl k6)
    rw[decide_eq_false (by omega),aG,bD,i7];by_cases k7:k=7
    ·rw[decide_eq_true (by omega)];exact with_ (.inr k7)
    rw[decide_eq_false (by omega)];have hnm:nm=[]:=wn hk1.1 k6 k7 hk1.2;unfold oB;rw[aG,bD,i4,decide_eq_false (by omega),aG];refine pf (bx hst) E2.m (j:=4) rfl ?_;refine s1.rh E2.m hil ?_;subst hnm;refine(hB bd (List.mem_of_getElem? hbd) [] [] (by simp[aH])).run E2 PX (g1 i bd hbd) Ab (jB wb hbd) trivial (by simp only[List.length_nil,aH];omega) (by simp only[aH];omega) λH4 S4 lp nt m4 lq sk=>?_;rw[ai];exact Ja H4 S4 lp nt m4 lq sk
   ·have e:i=bs.length:=by omega
    subst e;rw[List.take_length]at E2;exact hend H' S' bV cO E2 hst
 exact loop fb 0 vn vo H S (Nat.zero_le _) (by omega) E0 fc.refl
end
end
end Go.Proofs.YtcedghechlgecaaDoor
namespace Go.X
theorem alW{n k a:Nat}{nm:List (List Nat)}{l:List ao}{bs:List (List aw)}{r:List (List Nat)×List (List Nat)}(w1:(k=1∨k=12)→bs=[]) :
  oS (n+1) r (.mk k a nm l bs)=((if k=1 then (if k=12 then r.1++nm else r.1)++nm else if k=12 then r.1++nm else r.1),RS n k nm (if k=12 then r.1++nm else r.1) l bs (if k≠8∧k≠4 then l.foldl (oE n (if k=12 then r.1++nm else r.1)) r.2 else r.2)):=by
 rw[oS];unfold RS;by_cases k1:k=1
 ·have:=w1 (.inl k1);subst this;subst k1;simp
 by_cases k12:k=12
 ·have:=w1 (.inr k12);subst this;subst k12;simp
 by_cases k8:k=8
 ·subst k8;simp
 by_cases k4:k=4
 ·subst k4;simp only[if_neg k1,if_neg k12,if_neg k8,if_true];rfl
 ·simp[k1,k12,k8,k4]
end Go.X
namespace Go.Proofs.YtcedghechlgecaaDoor
open Go Go.X Go.Proofs.YtcedghechlgecaaDoor.G
section
variable {H:AH}{S:LS}{K:KF}
theorem w28{R:cj}{n:Nat}{names:List (List Nat)}{bd:List aw}{thn:List ao}
  (hS:∀s∈bd,∀k a nm l bs,s=.mk k a nm l bs→∃n',n=n'+1∧(∀l',aH l'≤aH l→qz R.2 n' l')∧∀b∈bs,∀names thn,aH thn≤aH l→yu (λa x y z=>R.1 a y x z) n' names b thn)
  (hE:qz R.2 n thn):yu (λa x y z=>Kq R a y x z) (n+1) names bd thn:=by
 refine⟨λ{K H S lo b vn vo v1 v2 v3 ns out} hen hv1 hv2 hv3 hwb hwt hns hout hK=>?_⟩;have On:=vy n;have hll:=yb bd;show G0 R K (GZ R K (pa R K G.NL)) (.ptr b 0) v2 v1 v3 H;unfold G0 GZ;refine hen.o.gy hen.m ?_;refine(hen.o.fn.rd hen.m (Q:=λ_=>True) λ_ _ _=>trivial).len ?_;rw[aQ,List.length_map];refine hen.o.add hen.m hen.l (A7 hv1) hv1.2 (by omega) λH1 S1 vn1 m1 st1 on1=>?_;have E1:=hen.step m1 st1 on1;have B1:=Aa hv2 (hen.low st1);have fV:G.NL=1000000:=rfl;generalize G.NL=fb at fV ⊢;have i12:Int.ofNat 12=((12:Nat):Int):=rfl;have i8:Int.ofNat 8=((8:Nat):Int):=rfl;have i4:Int.ofNat 4=((4:Nat):Int):=rfl;have i1:Int.ofNat 1=((1:Nat):Int):=rfl;have loop:∀(q i:Nat) (bV cO:AV) (H':AH) (S':LS),i≤bd.length→bd.length-i<q→En gl lo b H' S' bV cO ((bd.take i).foldl (oS n) (ns++names,out)).1 ((bd.take i).foldl (oS n) (ns++names,out)).2→fc b S1 S' vn1 vo bV cO→pa R K q (.ptr b 0) v2 v3 (ns.length:Int) (i:Int) H':=by
  intro q
  induction q with
  |zero=>intro i _ _ _ _ _ h;omega
  |succ q ih=>
   intro i bV cO H' S' hi hq E2 hst;show GY R K (zT R K (zR R K (rY R K (fz R K (pa R K q) G.NL))) (rY R K (fz R K (pa R K q) G.NL))) (GX R K) (.ptr b 0) v2 v3 (ns.length:Int) (i:Int) H';have aoj:G.NL=1000000:=rfl;generalize G.NL=NL2 at aoj ⊢;unfold GY;have B2:=Aa B1 (E1.low hst);refine B2.choose_spec.1.len ?_;rw[aQ,cE];have hlen:=A8 On (bd.take i) (ns++names,out) (JT hwb i);have htk:=pX bd i;have hlen1:((bd.take i).foldl (oS n) (ns++names,out)).1.length≤ns.length+names.length+cx (bd.take i):=by
    have:=hlen.2;have e:(ns++names,out).1.length=ns.length+names.length:=List.length_append;omega
   have hlen2:((bd.take i).foldl (oS n) (ns++names,out)).2.length≤out.length+cx (bd.take i):=hlen.1;refine bH (λg=>?_) (λg=>?_)
   ·have hil:i<bd.length:=by omega
    obtain⟨s,hs⟩:∃s,bd[i]? = some s:=⟨_,List.getElem?_eq_getElem hil⟩
    obtain⟨cl,s1,g1⟩:=B2;have e1:=g1 i s hs;have h2:=Ch hs;have h3:=pX bd (i+1);have hws:=xV hwb hs;refine s1.load E2.m hil ?_;refine Hv E2.m Px rfl e1.len e1.ones λH2 S2 m2 x2 o2 n2=>?_;have E3:=E2.ext m2 x2;have hnew:=E2.new;obtain⟨k,a,nm,l,bs⟩:=s;have e2:gR S2 (eE lo) (cl i) (.mk k a nm l bs):=e1.go (λx hx=>x2.ob x (Nat.lt_of_lt_of_le hx E2.l)) λ_ h=>h;obtain⟨wn',uh,pe,c1,N1,L1,B3⟩:=e2.out;rw[c1]at o2;obtain⟨n',hn',hX,hB⟩:=hS _ (List.mem_of_getElem? hs) k a nm l bs rfl;have On':=vy n';obtain⟨w8,w1,wn,wl,wb⟩:=hws;simp only[aw.sz]at h2;have hstep:=alW (n:=n') (a:=a) (nm:=nm) (l:=l) (r:=(bd.take i).foldl (oS n) (ns++names,out)) w1;rw[←hn']at hstep;have htake:(bd.take (i+1)).foldl (oS n) (ns++names,out)=oS n ((bd.take i).foldl (oS n) (ns++names,out)) (.mk k a nm l bs):=by
     rw[jN hs,List.foldl_append];rfl
    rw[←htake]at hstep;generalize (bd.take i).foldl (oS n) (ns++names,out)=r at E2 E3 hlen1 hlen2 hstep;have rest:∀(H3:AH) (S3:LS) (iU iV:AV) (P1:List (List Nat)),P1=(if k=12 then r.1++nm else r.1)→En gl lo b H3 S3 iU iV P1 r.2→fc b S2 S3 bV cO iU iV→zT R K (zR R K (rY R K (fz R K (pa R K q) NL2))) (rY R K (fz R K (pa R K q) NL2)) (.ptr b 0) v2 v3 (ns.length:Int) (i:Int) (.ptr S'.n 0) H3:=λH3 S3 iU iV P1 Un E4 gn=>by
     have o3:=(gn.ob _ (by omega) hnew).trans o2;have hl1:P1.length≤r.1.length+nm.length:=by
      rw[Un];split
      ·rw[List.length_append];omega
      ·omega
     rw[←Un]at hstep;have blocks:∀(H5:AH) (S5:LS) (PZ JU:AV) (o5:List (List Nat)),o5=(if k≠8∧k≠4 then l.foldl (oE n' P1) r.2 else r.2)→En gl lo b H5 S5 PZ JU P1 o5→fc b S2 S5 bV cO PZ JU→rY R K (fz R K (pa R K q) NL2) (.ptr b 0) v2 v3 (ns.length:Int) (i:Int) (.ptr S'.n 0) H5:=λH5 S5 PZ JU o5 ho5 E6 xc=>by
      unfold rY;have hl5:o5.length≤r.2.length+aH l:=by
       rw[ho5];split
       ·exact lT On' P1 l r.2 wl
       ·omega
      have o5':=(xc.ob _ (by omega) hnew).trans o2;have hown5:¬own b PZ JU S'.n:=λq=>(xc.own _ q).elim hnew (by omega);have amL:k=4→o5=r.2:=λh=>by rw[ho5,if_neg (by rintro⟨_,q⟩;exact q h)]
      have amM:k=8→o5=r.2:=λh=>by rw[ho5,if_neg (by rintro⟨q,_⟩;exact q h)]
      refine aoh (n:=n') On' hX hB w8 w1 wn wl wb E6 o5' (by have:=xc.n;omega) hown5 (PW N1 (E3.low xc)) (oc L1 (E3.low xc)) (sU B3 (E3.low xc)) (by omega) (λk12=>by rw[Un,if_neg k12];omega) (by omega) (λh=>by rcases h with h|h;rw[amL h];omega;rw[amM h];omega) (λH7 S7 vn7 vo7 E7 st7=>?_) NL2 (by omega);unfold tY O9;have Uo:=xc.trans st7;have o7:=(Uo.ob _ (by omega) hnew).trans o2;refine pf o7 E7.m (j:=0) rfl ?_;rw[aQ,bD,i1];rw[ho5]at E7;refine bH (λgk=>?_) (λgk=>?_)
      ·have k1:k=1:=by omega
       refine E7.o.gy E7.m ?_;refine pf o7 E7.m (j:=2) rfl ?_;have N7:=PW N1 (E3.low Uo);refine E7.o.add0 E7.m E7.l (A7 N7) N7.2 (by rw[Un,if_neg (by omega)];omega) λH8 S8 vn8 m8 st8 on8=>?_;unfold GW GV;rw[dp,fe];refine w0 (by omega) (by omega) ?_;refine ih (i+1) vn8 vo7 H8 S8 (by omega) (by omega) ?_ (hst.trans (x2.ost.trans (Uo.trans st8)));rw[hstep];rw[if_pos k1];exact E7.step m8 st8 on8
      ·have k1:¬k=1:=by omega
       unfold GW GV;rw[dp,fe];refine w0 (by omega) (by omega) ?_;refine ih (i+1) vn7 vo7 H7 S7 (by omega) (by omega) ?_ (hst.trans (x2.ost.trans Uo));rw[hstep];rw[if_neg k1];exact E7
     unfold zT;refine pf o3 E4.m (j:=0) rfl ?_;rw[aQ,bD,i8];by_cases k8:k=8
     ·rw[decide_eq_true (by omega)];simp only[Bool.not_true,aG];exact blocks H3 S3 iU iV r.2 (by rw[if_neg (by rintro⟨q,_⟩;exact q k8)]) E4 gn
     rw[decide_eq_false (by omega)];simp only[Bool.not_false,aK];refine pf o3 E4.m (j:=0) rfl ?_;rw[aQ,bD,i4];by_cases k4:k=4
     ·rw[decide_eq_true (by omega)];simp only[Bool.not_true,aG];exact blocks H3 S3 iU iV r.2 (by rw[if_neg (by rintro⟨_,q⟩;exact q k4)]) E4 gn
     rw[decide_eq_false (by omega)];simp only[Bool.not_false,aK];unfold zR;refine pf o3 E4.m (j:=3) rfl ?_;refine(hX l (Nat.le_refl _)).run E4 (oc L1 (E3.low gn)) wl (by omega) (by omega) λH5 S5 PZ JU m5 xc JV=>?_;rw[ai];exact blocks H5 S5 PZ JU _ (by rw[if_pos ⟨k8,k4⟩]) (E4.step m5 xc JV) (gn.trans xc)
    refine pf o2 m2 (j:=0) rfl ?_;rw[aQ,bD,i12];refine bH (λgk=>?_) (λgk=>?_)
    ·have k12:k=12:=by omega
     refine E3.o.gy m2 ?_;refine pf o2 m2 (j:=2) rfl ?_;refine E3.o.add0 m2 E3.l (A7 N1) N1.2 (by omega) λH3 S3 iU m3 gn lU=>?_;exact rest H3 S3 iU cO _ (by rw[if_pos k12]) (E3.step m3 gn lU) gn
    ·have k12:¬k=12:=by omega
     exact rest H2 S2 bV cO _ (by rw[if_neg k12]) E3 fc.refl
   ·have e:i=bd.length:=by omega
    subst e;rw[List.take_length]at E2 hlen1 hlen2;unfold GX;refine hE.run E2 (oc (oc hv3 (hen.low st1)) (E1.low hst)) hwt (by omega) (by omega) λH3 S3 iU iV m3 gn lU=>?_;rw[ai];obtain⟨X,hX⟩:=vz n bd (ns++names,out);have hX:(bd.foldl (oS n) (ns++names,out)).1=ns++names++X:=hX;rw[hX,List.append_assoc]at lU;refine lU.cut m3 (by rw[List.length_append];omega) λH4 S4 lp m4 lq sk=>?_;rw[List.take_left' rfl]at sk;refine hK H4 S4 lp iV m4 (st1.trans (hst.trans (gn.trans lq))) ?_;rw[oW,hX,List.append_assoc];exact sk
 refine loop fb 0 vn1 vo H1 S1 (Nat.zero_le _) (by omega) ?_ fc.refl;exact E1
end
section
variable {H:AH}{S:LS}{K:KF}
structure aok(m:Nat)(W:AV→AV→AV→AV→AH→KF→Prop)(X:AV→AV→AH→KF→Prop):Prop where
 ex:∀n l,3*aH l+1<m→2*aH l≤n→qz X n l
 wi:∀n names bd thn,3*cx bd+3*aH thn+2<m→2*cx bd+2*aH thn+1≤n→yu (λa x y z=>W a y x z) n names bd thn
theorem agK:∀m:Nat,m≤900000→∀M:Nat,m≤M→aok m (s13 M).1 (s13 M).2
 |0,_,M,_=>⟨λ_ _ h=>by omega,λ_ _ _ _ h=>by omega⟩
 |m+1,hm,0,h=>by omega
 |m+1,hm,M+1,h=>by
  have A:=agK m (by omega) M (by omega);rw[agy];unfold Hd Hc;refine⟨λn l h1 h2=>?_,λn names bd thn h1 h2=>?_⟩
  ·have key:∀n,2*aH l≤n+1→qz (AO (f11,f25,(s13 M).1,(s13 M).2)) (n+1) l:=λn h2=>by
    refine e54 (by omega) rfl rfl (λe he k a nn s op l' fs ee=>?_) λe he k a nn s op l' fs ee g hg=>?_
    ·obtain⟨i,hi⟩:=List.mem_iff_getElem?.1 he;have:=jC hi;subst ee;simp only[ao.sz]at this;exact A.ex n l' (by omega) (by omega)
    ·obtain⟨i,hi⟩:=List.mem_iff_getElem?.1 he;obtain⟨j,hj⟩:=List.mem_iff_getElem?.1 hg;have h3:=jC hi;have h4:=pC hj;have h5:=g.qt;subst ee;simp only[ao.sz]at h3;refine⟨n-1,by omega,λps bd eg=>?_⟩;subst eg;simp only[dq.sz]at h4;exact A.wi (n-1) ps bd [] (by simp only[aH];omega) (by simp only[aH];omega)
   cases n with
   |zero=>
    have hl0:l=[]:=by
     have:=pD l;exact List.length_eq_zero_iff.1 (by omega)
    subst hl0;exact qz.zero (key 0 (by simp[aH]))
   |succ n=>exact key n h2
  ·obtain⟨n,rfl⟩:∃n',n=n'+1:=⟨n-1,by omega⟩
   refine w28 (R:=((s13 M).1,(s13 M).2)) (λs hs k a nm l bs e=>?_) ?_
   ·obtain⟨i,hi⟩:=List.mem_iff_getElem?.1 hs;have h3:=qW hi;have h4:=s.qt;subst e;simp only[aw.sz]at h3;refine⟨n-1,by omega,λl' hl'=>A.ex (n-1) l' (by omega) (by omega),λb hb names thn ht=>?_⟩;obtain⟨j,hj⟩:=List.mem_iff_getElem?.1 hb;have:=j8 hj;exact A.wi (n-1) names b thn (by omega) (by omega)
   ·exact A.ex n thn (by omega) (by omega)
theorem alX:f28=(s13 G.NL).1:=by unfold f28;rfl
theorem aol{n:Nat}{ps:List (List Nat)}{bd:List aw}(hsz:ps.length+cx bd≤200000)(hn:2*cx bd+1≤n):OuC f15 n ps bd:=by
 refine⟨λ{K H S c} hM hT hg hR hw hK=>?_⟩;have fV:G.NL=1000000:=rfl;have hW:yu (λa x y z=>(s13 G.NL).1 a y x z) n ps bd []:=(agK (3*cx bd+3) (by omega) G.NL (by omega)).wi n ps bd [] (by simp only[aH];omega) (by simp only[aH];omega);show He f28 K (.agg c) H;rw[alX];generalize (s13 G.NL).1=W at hW ⊢;unfold He;refine bxA hM hR.ones λH1 S1 m1 x1 o1 n1=>?_;refine eC m1 PY λH2 m2=>?_;have m2:Mem H2 (S1.push (.ce z2 0)):=m2;have x2:Ext S1 (S1.push (.ce z2 0)):=Ext.push _ _;have o2:(S1.push (.ce z2 0)).ob S1.n=.ce z2 0:=LS.ax _ _;have n2:(S1.push (.ce z2 0)).n=S1.n+1:=rfl;revert m2 x2 o2 n2;generalize S1.push (.ce z2 0)=S2;intro m2 x2 o2 n2;have x12:=x1.trans x2;rw[n1]at o2 ⊢;have hR2:RF S2 (eE S.n) c (.mk ps bd):=hR.go (λx hx=>x12.ob x hx) λ_ h=>h;obtain⟨vp,vb,c1,N1,B1⟩:=hR2.out;have P0:=(x2.ob _ (by omega)).trans o1;rw[c1]at P0;simp only[aU,Nat.zero_add];refine aF m2 P0 (v:=vb) rfl ?_;refine aF m2 P0 (v:=vp) rfl ?_;have h:=adD (K:=K) hW (by omega) (adE m2 o2 (hT.ext hM x12) hg x12.n) x12 hR c1 N1 B1 hw hK;simp only[aU,Nat.zero_add]at h;exact h
end
end Go.Proofs.YtcedghechlgecaaDoor
namespace Go.X
section
variable {H:AH}{S S':LS}
def lZ(lo s0:Nat)(S:LS)(v:AV)(c:Nat):Prop:=∃(n:Nat) (l:List AV),dT S 2 v n l∧n≤c∧(∀b,au v b→s0≤b)∧∀i,i<n→∃f:dq,f.wf∧f.sz≤150000∧RF S (eE lo) ((l.drop (i*2)).take 2) f
section
variable {lo s0 s1 c c':Nat}{v w:AV}
theorem lZ.base(h:lZ lo s1 S v c)(hs:s0≤s1):lZ lo s0 S v c:=by
 obtain⟨n,l,a1,a2,a3,a4⟩:=h;exact⟨n,l,a1,a2,λb hb=>Nat.le_trans hs (a3 b hb),a4⟩
theorem lZ.nil:lZ lo s0 S .ab c:=⟨0,[],dT.nil _ _,Nat.zero_le _,λ_ h=>h.elim,λi h=>by omega⟩
theorem lZ.up(h:lZ lo s0 S v c)(hc:c≤c'):lZ lo s0 S v c':=by
 obtain⟨n,l,h1,h2,h3⟩:=h;exact⟨n,l,h1,Nat.le_trans h2 hc,h3⟩
theorem lZ.keep(h:lZ lo s0 S v c)(hM:Mem H S)(h1:∀b,au v b→b<S.n→S'.ob b=S.ob b)(h2:∀b,b<lo→S'.ob b=S.ob b):lZ lo s0 S' v c:=by
 obtain⟨n,l,g1,g2,g3,g4⟩:=h;exact⟨n,l,g1.keep hM h1,g2,g3,λi hi=>by
  obtain⟨f,f1,f2,f3⟩:=g4 i hi;exact⟨f,f1,f2,f3.go h2 λ_ q=>q⟩⟩
theorem lZ.lt(h:lZ lo s0 S v c)(hM:Mem H S){b:Nat}(hb:au v b):b<S.n:=by
 obtain⟨n,l,g1,_⟩:=h;exact g1.lt hM hb
theorem RT{sz bytes:Nat}{k:AV→AH→Prop}(hsz:0<sz)(hk:k .ab H):py sz bytes 0 .ab [] H k:=by
 refine cV (Nat.ble_eq_true_of_le hsz) ?_;exact hk
theorem afp{l l':List AV}{n n' i:Nat}(h1:l.length=n*2)(h2:l'.length=n'*2)(hi:i<n+n'):(((l++l').drop (i*2)).take 2=(l.drop (i*2)).take 2∧i<n)∨(n≤i∧i-n<n'∧((l++l').drop (i*2)).take 2=(l'.drop ((i-n)*2)).take 2):=by
 rcases Nat.lt_or_ge i n with g|g
 ·left;refine⟨?_,g⟩;rw[List.drop_append_of_le_length (by omega),List.take_append_of_le_length (by rw[List.length_drop];omega)]
 ·right;refine⟨g,by omega,?_⟩;rw[List.drop_append,List.drop_of_length_le (by omega),List.nil_append,h1];have:i*2-n*2=(i-n)*2:=by omega
  rw[this]
theorem dT.length{sz n:Nat}{l:List AV}(h:dT S sz v n l):l.length=n*sz:=by
 rcases h with⟨_,rfl,rfl⟩|⟨b,cc,ex,cs,_,_,_,_,h5,_⟩
 ·simp
 ·exact h5
theorem dT.ones{sz n:Nat}{l:List AV}(h:dT S sz v n l):∀a∈l,a.one=true:=by
 rcases h with⟨_,_,rfl⟩|⟨b,cc,ex,cs,_,_,_,_,h5,h6,h7⟩
 ·intro a ha;simp at ha
 ·intro a ha;rw[←h6]at ha;exact h7 a (List.mem_of_mem_take ha)
theorem fnApp{k:AV→AH→Prop}(hM:Mem H S)(h:lZ lo s0 S v c)(g:lZ lo s1 S w c')(hlo:lo≤s0)(hs:s0≤S.n)(hc:c+c'≤10000000)
  (hk:∀H' S' v',Mem H' S'→S.n≤S'.n→(∀b,b<S.n→¬au v b→S'.ob b=S.ob b)→lZ lo s0 S' v' (c+c')→(∀b,au v' b→au v b∨S.n≤b)→k v' H'):dw 2 48 v w H k:=by
 obtain⟨n,l,a1,a2,a3,a4⟩:=h;obtain⟨n',l',b1,b2,b3,b4⟩:=g;have fin:∀H' S' v',Mem H' S'→qN S v (n+n') 2 (l++l') S' v'→k v' H':=λH' S' v' m he=>by
  obtain⟨e1,e2,e3,e4⟩:=he;have hlow:∀b,b<lo→S'.ob b=S.ob b:=λb hb=>e2 b (by omega) λq=>by have:=a3 b q;omega
  refine hk H' S' v' m e1 e2 ⟨n+n',l++l',e3,by omega,λb hb=>(e4 b hb).elim (a3 b) λq=>by omega,λi hi=>?_⟩ e4;rcases afp a1.length b1.length hi with⟨q1,q2⟩|⟨q1,q2,q3⟩
  ·obtain⟨f,f1,f2,f3⟩:=a4 i q2;rw[q1];exact⟨f,f1,f2,f3.go hlow λ_ q=>q⟩
  ·obtain⟨f,f1,f2,f3⟩:=b4 (i-n) q2;rw[q3];exact⟨f,f1,f2,f3.go hlow λ_ q=>q⟩
 have hb:(n+n')*48≤1099511627776:=by omega
 rcases id b1 with⟨rfl,rfl,rfl⟩|⟨b,cc,ex,cs,rfl,q2,q3,q4,q5,q6,q7⟩
 ·show py 2 48 0 v [] H k;by_cases hv:v=.ab
  ·subst hv;refine RT (by omega) ?_;rcases id a1 with⟨_,rfl,rfl⟩|⟨b,cc,ex,cs,e,_⟩
   ·exact fin H S .ab hM ⟨Nat.le_refl _,λ_ _ _=>rfl,dT.nil _ _,λ_ h=>h.elim⟩
   ·cases e
  ·exact ru hM a1 (by omega) (.inr hv) rfl hb (λa ha=>by simp at ha) λH' S' v' m he=>fin H' S' v' m he
 ·have hcl:n'*2≤cs.length:=by rw[q3];exact Nat.mul_le_mul_right _ q4
  refine nF (sz:=2) (ex:=ex) (cap:=cc) (o:=0) (n:=n') (l:=cs) (m:=0) (b:=b) (k:=λl=>py 2 48 n' v l H k) hM q2 (by omega) ?_;have e:(cs.drop 0).take (n'*2)=l':=by rw[List.drop_zero,←q5];exact q6
  rw[e];by_cases hn:0<n'
  ·exact ru hM a1 (by omega) (.inl hn) q5 hb b1.ones λH' S' v' m he=>fin H' S' v' m he
  ·have n0:n'=0:=by omega
   subst n0;have l0:l'=[]:=List.length_eq_zero_iff.1 (by omega);subst l0;by_cases hv:v=.ab
   ·subst hv;refine RT (by omega) ?_;rcases id a1 with⟨_,rfl,rfl⟩|⟨b,cc,ex,cs,e,_⟩
    ·exact fin H S .ab hM ⟨Nat.le_refl _,λ_ _ _=>rfl,dT.nil _ _,λ_ h=>h.elim⟩
    ·cases e
   ·exact ru hM a1 (by omega) (.inr hv) rfl hb (λa ha=>by simp at ha) λH' S' v' m he=>fin H' S' v' m he
end
end
end Go.X
namespace Go.Proofs.YtcedghechlgecaaDoor
open Go Go.X Go.Proofs.YtcedghechlgecaaDoor.G
section
variable {H:AH}{S:LS}{K:KF}
structure FuC(F:AV→AH→KF→Prop)(l:List aw):Prop where
 run:∀{K:KF}{H:AH}{S:LS}{lo:Nat}{v:AV},Mem H S→lo≤S.n→gp S (eE lo) v l→jA l→cx l≤150000→(∀H' S' w,Mem H' S'→Ext S S'→lZ lo S.n S' w (cx l)→K (.ret w) H')→F v H K
structure FwC(F:AV→AH→KF→Prop)(l:List ao):Prop where
 run:∀{K:KF}{H:AH}{S:LS}{lo:Nat}{v:AV},Mem H S→lo≤S.n→qx S (eE lo) v l→iJ l→aH l≤150000→(∀H' S' w,Mem H' S'→Ext S S'→lZ lo S.n S' w (aH l)→K (.ret w) H')→F v H K
theorem aom{R:eW}{l:List aw}(hE:∀s∈l,∀k a nm l' bs,s=.mk k a nm l' bs→FwC R.2 l')(hB:∀s∈l,∀k a nm l' bs,s=.mk k a nm l' bs→∀b∈bs,FuC R.1 b):FuC (Kk R) l:=by
 refine⟨λ{K H S lo v} hM hlo hv hw hsz hK=>?_⟩;have hll:=yb l;have fV:G.NL=1000000:=rfl;show Gf R K (qm R K G.NL) v H;generalize afq:G.NL=fb at fV;unfold Gf;have loop:∀(q i:Nat) (w:AV) (H':AH) (S':LS),i≤l.length→l.length-i<q→Mem H' S'→Ext S S'→lZ lo S.n S' w (cx (l.take i))→qm R K q v w (i:Int) H':=by
  intro q
  induction q with
  |zero=>intro i _ _ _ _ h;omega
  |succ q ih=>
   intro i w H' S' hi hq hM' hx hf;show Ge R K (wM R K (qm R K q) G.NL) (OJ R K) v w (i:Int) H';rw[afq];unfold Ge;have V:gp S' (eE lo) v l:=Aa hv λx h=>hx.ob x (by omega);refine V.choose_spec.1.len ?_;rw[aQ,cE];refine bH (λg=>?_) (λg=>?_)
   ·have hil:i<l.length:=by omega
    obtain⟨s,hs⟩:∃s,l[i]? = some s:=⟨_,List.getElem?_eq_getElem hil⟩
    have hsm:=List.mem_of_getElem? hs;have hsz1:=qW hs;have h2:=Ch hs;have h3:=pX l (i+1);have hws:=xV hw hs;obtain⟨cl,s1,g1⟩:=id V;have e1:=g1 i s hs;obtain⟨k,a,nm,l',bs⟩:=s;obtain⟨wn',uh,pe,c1,N1,L1,B1⟩:=e1.out;obtain⟨_,_,_,wl,wb⟩:=hws;simp only[aw.sz]at h2 hsz1;have hbl:=yd bs;have sf:∀{S2:LS}{H2:AH}{j:Nat}{u:AV}{kk:AV→Prop},Mem H2 S2→Ext S' S2→j<5→(cl i)[j]? = some u→kk u→cn 5 v (.int 0 (i:Int)) λp=>ag j p λp'=>af p' H2 kk:=λ{S2 H2 j u kk} m2 x2 hj hu hkk=>by
     have s2:dH S2 (eE lo) 5 v l.length cl:=s1.go (λx h=>x2.ob x (by have:=hx.n;have h:x<lo:=h;omega)) λ_ h=>h;exact s2.sf m2 hil hj hu hkk
    refine sf hM' (Ext.refl _) (j:=3) (by omega) (by rw[c1];rfl) ?_;refine(hE _ hsm k a nm l' bs rfl).run hM' (by have:=hx.n;omega) L1 wl (by omega) λH2 S2 w2 m2 x2 f2=>?_;rw[ai];have hf2:=hf.keep (S':=S2) hM' (λb _ h=>x2.ob b h) λb h=>x2.ob b (by have:=hx.n;omega);have aoS:∀b,au w b→b<S'.n:=λb hb=>hf.lt hM' hb;have ln1:=hx.n;have ln2:=x2.n;refine fnApp m2 hf2 (f2.base (s0:=S.n) ln1) hlo (by omega) (by omega) λH3 S3 w3 m3 n3 k3 f3 b3=>?_;have x3:Ext S S3:=⟨by omega,λb hb=>by
     rw[k3 b (by omega) λq=>by
      obtain⟨_,_,_,_,q3,_⟩:=hf;have:=q3 b q;omega]
     exact(hx.trans x2).ob b hb⟩
    have V3:∀{S4:LS},Ext S S4→Bs S4 (eE lo) pe bs:=λ{S4} x4=>by
     have:gR S4 (eE lo) (cl i) (.mk k a nm l' bs):=by
      obtain⟨sG,t1,t2⟩:=hv;exact e1.go (λx h=>by have h:x<lo:=h;rw[x4.ob x (by omega),hx.ob x (by omega)]) λ_ h=>h
     obtain⟨_,_,_,c2,_,_,B2⟩:=this.out;rw[c1]at c2;injection c2 with _ q1;injection q1 with _ q1;injection q1 with _ q1;injection q1 with _ q1;injection q1 with q1 _;subst q1;exact B2
    have alY:∀{S4:LS}{H4:AH}{kk:AV→Prop},Mem H4 S4→Ext S S4→kk pe→cn 5 v (.int 0 (i:Int)) λp=>ag 4 p λp'=>af p' H4 kk:=λ{S4 H4 kk} m4 x4 hkk=>by
     have s2:dH S4 (eE lo) 5 v l.length cl:=s1.go (λx h=>by have h:x<lo:=h;rw[x4.ob x (by omega),hx.ob x (by omega)]) λ_ h=>h;exact s2.sf m4 hil (by omega) (by rw[c1];rfl) hkk
    have inner:∀(q4 j:Nat) (w4:AV) (H4:AH) (S4:LS),j≤bs.length→bs.length-j<q4→Mem H4 S4→Ext S S4→lZ lo S.n S4 w4 (cx (l.take i)+aH l'+dR (bs.take j))→wM R K (qm R K q) q4 v w4 (i:Int) (j:Int) H4:=by
     intro q4
     induction q4 with
     |zero=>intro j _ _ _ _ h;omega
     |succ q4 ih4=>
      intro j w4 H4 S4 hj hq4 m4 x4 f4;show Gd R K (Gb R K (qm R K q)) (Gc R K (wM R K (qm R K q) q4)) v w4 (i:Int) (j:Int) H4;unfold Gd;refine alY m4 x4 ?_;have B4:=V3 x4;refine B4.choose_spec.1.len ?_;rw[aQ,cE];refine bH (λg4=>?_) (λg4=>?_)
      ·have hjl:j<bs.length:=by omega
       obtain⟨bd,hbd⟩:∃bd,bs[j]? = some bd:=⟨_,List.getElem?_eq_getElem hjl⟩
       have hbs:=j8 hbd;have t2:=qY hbd;have t3:=pW bs (j+1);refine alY m4 x4 ?_;obtain⟨bv,u1,u2⟩:=B4;refine u1.rh m4 hjl ?_;refine(hB _ hsm k a nm l' bs rfl bd (List.mem_of_getElem? hbd)).run m4 (by have:=x4.n;omega) (u2 j bd hbd) (jB wb hbd) (by omega) λH5 S5 w5 m5 x5 f5=>?_;rw[ai];have f45:=f4.keep (S':=S5) m4 (λb _ h=>x5.ob b h) λb h=>x5.ob b (by have:=x4.n;omega);have ln4:=x4.n;have ln5:=x5.n;refine fnApp m5 f45 (f5.base (s0:=S.n) ln4) hlo (by omega) (by omega) λH6 S6 w6 m6 n6 k6 f6 b6=>?_;unfold Gc;rw[dp,fe];refine w0 (by omega) (by omega) ?_;refine ih4 (j+1) w6 H6 S6 (by omega) (by omega) m6 ⟨by omega,λb hb=>?_⟩ (f6.up (by rw[t2];omega));rw[k6 b (by omega) λq=>by
        obtain⟨_,_,_,_,q3,_⟩:=f4;have:=q3 b q;omega]
       exact(x4.trans x5).ob b hb
      ·have e:j=bs.length:=by omega
       subst e;rw[List.take_length]at f4;unfold Gb;rw[dp,fe];refine w0 (by omega) (by omega) ?_;refine ih (i+1) w4 H4 S4 (by omega) (by omega) m4 x4 (f4.up (by rw[h2];omega))
    exact inner fb 0 w3 H3 S3 (Nat.zero_le _) (by omega) m3 x3 (f3.up (by omega))
   ·have e:i=l.length:=by omega
    subst e;rw[List.take_length]at hf;exact hK H' S' w hM' hx hf
 exact loop fb 0 .ab H S (Nat.zero_le _) (by omega) hM (Ext.refl S) lZ.nil
end
end Go.Proofs.YtcedghechlgecaaDoor
namespace Go.X
section
variable {H:AH}{S S':LS}
theorem adF{cs c:List AV}{o sz j:Nat}{a:AV}(h:(cs.drop o).take sz=c)(ha:c[j]? = some a)(hj:j<sz):cs[o+j]? = some a:=by
 rw[←h,List.getElem?_take,if_pos hj,List.getElem?_drop]at ha;exact ha
end
end Go.X
namespace Go.Proofs.YtcedghechlgecaaDoor
open Go Go.X Go.Proofs.YtcedghechlgecaaDoor.G
section
variable {H:AH}{S:LS}{K:KF}
theorem T8{l z:List AV}(hl:l.length=2)(hz:z.length=2):spl l z 0=l:=by
 match l,hl,z,hz with
 |[a,b],_,[_,_],_=>rfl
theorem aon{R:eX}{l:List ao}(hE:∀e∈l,∀k a nn s op l' fs,e=.mk k a nn s op l' fs→FwC R.2 l')(hB:∀e∈l,∀k a nn s op l' fs,e=.mk k a nn s op l' fs→∀f∈fs,∀ps bd,f=.mk ps bd→FuC R.1 bd):FwC (Kl R) l:=by
 refine⟨λ{K H S lo v} hM hlo hv hw hsz hK=>?_⟩;have hll:=pD l;have fV:G.NL=1000000:=rfl;show Gk R K (qn R K G.NL) v H;generalize afq:G.NL=fb at fV;unfold Gk;have loop:∀(q i:Nat) (w:AV) (H':AH) (S':LS),i≤l.length→l.length-i<q→Mem H' S'→Ext S S'→lZ lo S.n S' w (aH (l.take i))→qn R K q v w (i:Int) H':=by
  intro q
  induction q with
  |zero=>intro i _ _ _ _ h;omega
  |succ q ih=>
   intro i w H' S' hi hq hM' hx hf;show Gj R K (wN R K (qn R K q) G.NL) (ON R K) v w (i:Int) H';rw[afq];unfold Gj;have V:qx S' (eE lo) v l:=oc hv λx h=>hx.ob x (by omega);refine V.choose_spec.1.len ?_;rw[aQ,cE];refine bH (λg=>?_) (λg=>?_)
   ·have hil:i<l.length:=by omega
    obtain⟨e,he⟩:∃e,l[i]? = some e:=⟨_,List.getElem?_eq_getElem hil⟩
    have hem:=List.mem_of_getElem? he;have hsz1:=jC he;have h2:=qX he;have h3:=ld l (i+1);have hwe:=lk hw he;obtain⟨cl,s1,g1⟩:=id V;have e1:=g1 i e he;obtain⟨k,a,nn,s,op,l',fs⟩:=e;obtain⟨vl,vf,c1,h8,L1,F1⟩:=e1.out;simp only[ao.sz]at h2 hsz1;simp only[ao.wf]at hwe;have hfl:=yc fs;have ln1:=hx.n;have sl:∀{S4:LS},Ext S S4→dH S4 (eE lo) 7 v l.length cl:=λ{S4} x4=>s1.go (λx h=>by have h:x<lo:=h;rw[x4.ob x (by omega),hx.ob x (by omega)]) λ_ h=>h;have F4:∀{S4:LS},Ext S S4→Hu S4 (eE lo) vf fs:=λ{S4} x4=>PV F1 λx h=>by rw[x4.ob x (by omega),hx.ob x (by omega)]
    refine(sl hx).sf hM' hil (j:=5) (by omega) (a:=vl) (by rw[c1];rfl) ?_;refine(hE _ hem k a nn s op l' fs rfl).run hM' (by omega) L1 hwe.1 (by omega) λH2 S2 w2 m2 x2 f2=>?_;rw[ai];have hf2:=hf.keep (S':=S2) hM' (λb _ h=>x2.ob b h) λb h=>x2.ob b (by omega);have ln2:=x2.n;refine fnApp m2 hf2 (f2.base (s0:=S.n) ln1) hlo (by omega) (by omega) λH3 S3 w3 m3 n3 k3 f3 b3=>?_;have frame:∀{S4 S5:LS}{w4:AV}{c4:Nat},lZ lo S.n S4 w4 c4→Ext S S4→S4.n≤S5.n→(∀b,b<S4.n→¬au w4 b→S5.ob b=S4.ob b)→Ext S S5:=λ{S4 S5 w4 c4} f4 x4 n45 k45=>⟨Nat.le_trans x4.n n45,λb hb=>by
     have:=x4.n;rw[k45 b (by omega) λq=>by
      obtain⟨_,_,_,_,q3,_⟩:=f4;have:=q3 b q;omega]
     exact x4.ob b hb⟩
    have x3:Ext S S3:=frame hf2 (hx.trans x2) n3 k3;have inner:∀(q4 j:Nat) (w4:AV) (H4:AH) (S4:LS),j≤fs.length→fs.length-j<q4→Mem H4 S4→Ext S S4→lZ lo S.n S4 w4 (aH (l.take i)+aH l'+fJ (fs.take j))→wN R K (qn R K q) q4 v w4 (i:Int) (j:Int) H4:=by
     intro q4
     induction q4 with
     |zero=>intro j _ _ _ _ h;omega
     |succ q4 ih4=>
      intro j w4 H4 S4 hj hq4 m4 x4 f4;show Gi R K (Gg R K (qn R K q)) (Gh R K (wN R K (qn R K q) q4)) v w4 (i:Int) (j:Int) H4;unfold Gi;refine(sl x4).sf m4 hil (j:=6) (by omega) (a:=vf) (by rw[c1];rfl) ?_;have G4:=F4 x4;refine G4.choose_spec.1.len ?_;rw[aQ,cE];have ln4:=x4.n;refine bH (λg4=>?_) (λg4=>?_)
      ·have hjl:j<fs.length:=by omega
       obtain⟨f,hf'⟩:∃f,fs[j]? = some f:=⟨_,List.getElem?_eq_getElem hjl⟩
       have hfm:=List.mem_of_getElem? hf';have hfs:=pC hf';have t2:=Ci hf';have t3:=u9 fs (j+1);have hfw:=ud hwe.2 hf';obtain⟨cf,u1,u2⟩:=id G4;have f1:=u2 j f hf';obtain⟨ps,bd⟩:=f;obtain⟨vp,vb,c5,N5,B5⟩:=f1.out;simp only[dq.sz]at t2 hfs;refine(sl x4).sf m4 hil (j:=6) (by omega) (a:=vf) (by rw[c1];rfl) ?_;refine u1.load m4 hjl ?_;refine m4.dx ?_;rw[ib];refine fT f1.len ?_;rw[T8 f1.len rfl];refine eI m4 (by rw[f1.len]) f1.ones λH5 m5=>?_;have m5:Mem H5 (S4.push (.ce (cf j) 0)):=m5;rw[m5.n,m4.n];refine cV (by show Nat.beq (S4.n+1) (S4.n+1)=true;exact Nat.beq_refl _) ?_;have x45:Ext S4 (S4.push (.ce (cf j) 0)):=Ext.push _ _;have x5:Ext S (S4.push (.ce (cf j) 0)):=x4.trans x45;have fn5:lZ lo S.n (S4.push (.ce (cf j) 0)) (.slice S4.n 0 1 1 2 true) 1:=⟨1,cf j,.inr ⟨S4.n,1,true,cf j,rfl,LS.ax _ _,by rw[f1.len],Nat.le_refl _,by rw[f1.len],List.take_of_length_le (Nat.le_refl _),f1.ones⟩,Nat.le_refl _,λb hb=>by have hb:b=S4.n:=hb;omega,λi hi=>by
        have i0:i=0:=by omega
        subst i0;refine⟨.mk ps bd,hfw,by simp only[dq.sz];omega,?_⟩;rw[Nat.zero_mul,List.drop_zero,List.take_of_length_le (by rw[f1.len];omega)];exact f1.go (λx h=>LS.bC _ _ (by have h:x<lo:=h;omega)) λ_ h=>h⟩
       have f5:=f4.keep (S':=S4.push (.ce (cf j) 0)) m4 (λb _ h=>LS.bC _ _ h) λb h=>LS.bC _ _ (by omega);have n5:(S4.push (.ce (cf j) 0)).n=S4.n+1:=rfl;revert m5 x45 x5 fn5 f5 n5;generalize S4.push (.ce (cf j) 0)=S5;intro m5 x45 x5 fn5 f5 n5;refine(sl x5).at_ hil λbb o cs mm hbb hob hlen hcl=>?_;have hbb:bb<lo:=hbb;have g6:=adF (j:=6) hcl (by rw[c1];rfl) (by omega);simp only[aU,Nat.zero_add];have e6:o+6=6+o∨True:=.inr trivial;refine aF m5 hob (v:=vf) (by first|exact g6|(rw[Nat.add_comm];exact g6)) ?_;obtain⟨cf5,u5,v5⟩:=F4 x5;have u5':dH S5 (eE lo) 2 vf fs.length cf:=u1.go (λx h=>x45.ob x (by have h:x<lo:=h;omega)) λ_ h=>h;refine u5'.at_ hjl λbb2 o2 cs2 mm2 afr alZ hlen2 aoo=>?_;have afr:bb2<lo:=afr;have g1':=adF (j:=1) aoo (by rw[c5];rfl) (by omega);simp only[aU,Nat.zero_add];refine aF m5 alZ (v:=vb) (by first|exact g1'|(rw[Nat.add_comm];exact g1')) ?_;refine fnApp m5 f5 fn5 hlo (by omega) (by omega) λH6 S6 w6 m6 n6 k6 f6 b6=>?_;have x6:Ext S S6:=frame f5 x5 n6 k6;have al0:∀x,x<lo→S6.ob x=S5.ob x:=λx h=>by rw[x6.ob x (by omega),x5.ob x (by omega)]
       refine aF m6 ((al0 _ afr).trans alZ) (v:=vb) (by first|exact g1'|(rw[Nat.add_comm];exact g1')) ?_;refine cV B5.choose_spec.1.same ?_;refine aF m6 ((al0 _ hbb).trans hob) (v:=vf) (by first|exact g6|(rw[Nat.add_comm];exact g6)) ?_;refine cV u1.same ?_;have ln6:=x6.n;refine(hB _ hem k a nn s op l' fs rfl _ hfm ps bd rfl).run m6 (by omega) (Aa B5 λx h=>by rw[x6.ob x (by omega),x4.ob x (by omega)]) hfw (by omega) λH7 S7 w7 m7 x7 f7=>?_;rw[ai];have ln7:=x7.n;have f67:=f6.keep (S':=S7) m6 (λb _ h=>x7.ob b h) λb h=>x7.ob b (by omega);refine fnApp m7 f67 (f7.base (s0:=S.n) ln6) hlo (by omega) (by omega) λH8 S8 w8 m8 n8 k8 f8 b8=>?_;unfold Gh;rw[dp,fe];refine w0 (by omega) (by omega) ?_;exact ih4 (j+1) w8 H8 S8 (by omega) (by omega) m8 (frame f67 (x6.trans x7) n8 k8) (f8.up (by rw[t2];omega))
      ·have e:j=fs.length:=by omega
       subst e;rw[List.take_length]at f4;unfold Gg;rw[dp,fe];refine w0 (by omega) (by omega) ?_;refine ih (i+1) w4 H4 S4 (by omega) (by omega) m4 x4 (f4.up (by rw[h2];omega))
    exact inner fb 0 w3 H3 S3 (Nat.zero_le _) (by omega) m3 x3 (f3.up (by omega))
   ·have e:i=l.length:=by omega
    subst e;rw[List.take_length]at hf;exact hK H' S' w hM' hx hf
 exact loop fb 0 .ab H S (Nat.zero_le _) (by omega) hM (Ext.refl S) lZ.nil
theorem fu2:∀m:Nat,m≤900000→∀M:Nat,m≤M→(∀l,2*cx l+1<m→FuC (s2 M).1 l)∧(∀l,2*aH l<m→FwC (s2 M).2 l)
 |0,_,M,_=>⟨λ_ h=>by omega,λ_ h=>by omega⟩
 |m+1,hm,0,h=>by omega
 |m+1,hm,M+1,h=>by
  obtain⟨A1,A2⟩:=fu2 m (by omega) M (by omega);rw[akz];refine⟨λl h1=>?_,λl h1=>?_⟩
  ·refine aom (R:=Gl (s2 M)) (λs hs k a nm l' bs e=>?_) λs hs k a nm l' bs e b hb=>?_
   ·obtain⟨i,hi⟩:=List.mem_iff_getElem?.1 hs;have:=qW hi;subst e;simp only[aw.sz]at this;exact A2 l' (by omega)
   ·obtain⟨i,hi⟩:=List.mem_iff_getElem?.1 hs;have h3:=qW hi;obtain⟨j,hj⟩:=List.mem_iff_getElem?.1 hb;have h4:=j8 hj;subst e;simp only[aw.sz]at h3;exact A1 b (by omega)
  ·refine aon (R:=Gm (s2 M)) (λe he k a nn s op l' fs ee=>?_) λe he k a nn s op l' fs ee f hf ps bd ef=>?_
   ·obtain⟨i,hi⟩:=List.mem_iff_getElem?.1 he;have:=jC hi;subst ee;simp only[ao.sz]at this;exact A2 l' (by omega)
   ·obtain⟨i,hi⟩:=List.mem_iff_getElem?.1 he;have h3:=jC hi;obtain⟨j,hj⟩:=List.mem_iff_getElem?.1 hf;have h4:=pC hj;subst ee;subst ef;simp only[ao.sz]at h3;simp only[dq.sz]at h4;exact A1 bd (by omega)
theorem fuA{l:List aw}(h:cx l≤150000):FuC f12 l:=by
 have e:f12=(s2 G.NL).1:=by unfold f12;rfl
 rw[e];have fV:G.NL=1000000:=rfl;exact(fu2 (2*cx l+2) (by omega) G.NL (by omega)).1 l (by omega)
end
end Go.Proofs.YtcedghechlgecaaDoor
namespace Go.X
section
variable {H:AH}{S:LS}
theorem dT.slR{Q:Nat→Prop}{sz n:Nat}{v:AV}{l:List AV}(h:dT S sz v n l)(hQ:∀b,au v b→Q b):dH S Q sz v n (λi=>(l.drop (i*sz)).take sz):=by
 rcases h with⟨rfl,rfl,rfl⟩|⟨b,c,ex,cs,rfl,h2,h3,h4,h5,h6,h7⟩
 ·exact .inl ⟨rfl,rfl⟩
 ·refine .inr ⟨b,0,c,ex,cs,0,rfl,hQ b rfl,h2,h4,by rw[h3,Nat.zero_add];exact Nat.mul_le_mul_right _ h4,λi hi=>?_⟩;have hle:(i+1)*sz≤n*sz:=Nat.mul_le_mul_right _ (by omega);rw[Nat.add_mul,Nat.one_mul]at hle;show(cs.drop (0+i*sz)).take sz=(l.drop (i*sz)).take sz
  conv=>rhs;rw[←h6]
  rw[List.drop_take,List.take_take,Nat.min_eq_left (by omega),Nat.zero_add]
end
end Go.X
namespace Go.Proofs.YtcedghechlgecaaDoor
open Go Go.X Go.Proofs.YtcedghechlgecaaDoor.G
section
variable {H:AH}{S:LS}{K:KF}
noncomputable def Hz:AH→KF→Prop:=λH K=>(∃S,Mem H S∧ml gl S)∧K (.ret (.bool true)) H
theorem t13{Q Q':Nat→Prop}{v w:AV}{l:List (List Nat)}(hl:l.length≤900000)(hM:Mem H S)(h1:jG S Q v l)(h2:jG S Q' w l)(hK:K (.ret (.bool true)) H):f13 v w H K:=by
 have loop:∀(q i:Nat),i≤l.length→l.length-i<q→wO rU K q v w (i:Int) H:=by
  intro q
  induction q with
  |zero=>intro i _ h;omega
  |succ q ih=>
   intro i hi hq;show Gp rU K (wO rU K q) (Gn rU K) v w (i:Int) H;unfold Gp Gn;refine h1.1.len ?_;rw[aQ,cE];refine bH (λg=>?_) (λ_=>hK);have hil:i<l.length:=by omega
   refine h1.1.rh hM hil ?_;refine h2.1.rh hM hil ?_;have h8:B8 (l[i]?.getD []):=by rw[List.getElem?_eq_getElem hil];exact h1.2 _ (List.getElem_mem _)
   refine amb h8 h8 ?_;rw[decide_eq_true rfl,aM];simp only[Bool.not_true,aG,dp,fe];refine w0 (by omega) (by omega) ?_;exact ih (i+1) (by omega) (by omega)
 show Gq rU K (wO rU K G.NL) v w H;unfold Gq;have fV:G.NL=1000000:=rfl;generalize G.NL=fb at fV ⊢;refine h1.1.len ?_;rw[aQ];refine h2.1.len ?_;rw[aQ,bD,decide_eq_true rfl];simp only[Bool.not_true,aG];exact loop fb 0 (Nat.zero_le _) (by omega)
theorem aix{s:List Nat}{r:List Tok ⊕ Nat}{b:List aw}(hr:jg s 0 r)(hs:s.length≤1500)(h:vw r=.inl b):cx b≤50000:=by
 cases r with
 |inr e=>cases h
 |inl ts=>
  have hlen:=hr.few ts rfl;have hsc:vw (.inl ts)=(match jx ts with|.ok b _=>.inl b|.err c i=>.inr (c,aq ts i)|.aO=>.inl []):=rfl;rw[hsc]at h;cases hp:jx ts with
  |aO=>exact absurd hp (Hh hr.AT)
  |err c i=>rw[hp]at h;cases h
  |ok b' j=>
   rw[hp]at h;cases h;unfold jx at hp;obtain⟨a,i,e1,e2⟩:=aS hp;have h1:=(adl (64*ts.length+64)).block e1;have h2:=Hi hr.AT a i e1;split at e2
   ·cases e2;omega
   ·cases e2
theorem amN:aE Tryd.prog 7 (aD [.a] g7):=aj0 R9 (ad.cons aku (ad.cons ajZ (ad.cons rF ad.nil)))
noncomputable def R4:kC:=(Hz,g7,f12,f13,g14,f15)
noncomputable def g4:AV→AH→KF→Prop:=ak7 R4
theorem amO(ht:aE Tryd.prog 6 (aD [] Hz)):aE Tryd.prog 4 (aD [.a] g4):=ak8 R4 (ad.cons ht (ad.cons amN (ad.cons akA (ad.cons akD (ad.cons alV (ad.cons ak6 ad.nil))))))
theorem aop{s:List Nat}(h8:B8 s)(hM:Mem H S)(hT:ml gl S)(hg:gl.length≤S.n)(hK:∀H',K (.ret (.bool true)) H'):g4 (ah s) H K:=by
 have ra:R4.1=Hz:=rfl;have rb:R4.2.1=g7:=rfl;have rc:R4.2.2.1=f12:=rfl;have rd:R4.2.2.2.1=f13:=rfl;have re:R4.2.2.2.2.1=g14:=rfl;have rf:R4.2.2.2.2.2=f15:=rfl;have fin:∀{H':AH}{S':LS},Mem H' S'→Ext S S'→Hz H' λo1 H2=>cR K o1 H2 λv3=>cH v3 λz4=>K (.ret (.bool z4)) H2:=λ{H' S'} m x=>by
  refine⟨⟨S',m,hT.ext hM x⟩,?_⟩;show K (.ret (.bool true)) H';exact hK _
 have fV:G.NL=1000000:=rfl;show Ku R4 K (AP R4 K G.NL) (ah s) H;generalize G.NL=fb at fV ⊢;unfold Ku;rw[ra,rb,rc];have amP:Int.ofNat 1500=1500:=rfl;simp only[iP,aQ,cE,amP];refine bH (λg=>fin hM (Ext.refl S)) (λgs=>?_);obtain⟨r,hr⟩:=Dd (s.length+1) s 0 (by omega);refine an9 h8 (by omega) hr hM ?_;cases hsc:vw r with
 |inr p=>
  obtain⟨c,p⟩:=p;have hc:=ah6 hsc;intro H1 S1 m1 x1;simp only[ai,pO,rq,rr,aQ];rw[bD,decide_eq_false (by show ¬(c:Int)=0;omega)];simp only[Bool.not_false,aK];exact fin m1 x1
 |inl a=>
  intro H1 S1 v1 m1 x1 rv1;simp only[ai,pO,rq,rr,aQ];rw[bD,decide_eq_true (by rfl)];simp only[Bool.not_true,aG];have hsz:=aix hr (by omega) hsc;have hwf:=ah5 hsc;have B1:gp S1 (eE S1.n) v1 a:=rv1.go (λx hx=>rfl) λx hx=>hx.2;refine(fuA (l:=a) (by omega)).run m1 (Nat.le_refl _) B1 hwf (by omega) λH2 S2 w2 m2 x2 f2=>?_;rw[ai];obtain⟨n,l,q1,q2,q3,q4⟩:=f2;have loop:∀(q i:Nat) (H':AH) (S':LS),i≤n→n-i<q→Mem H' S'→Ext S2 S'→AP R4 K q w2 (i:Int) H':=by
   intro q
   induction q with
   |zero=>intro i _ _ _ h;omega
   |succ q ih=>
    intro i H' S' hi hq m x;show Kt R4 K (Kr R4 K (AP R4 K q)) (Ks R4 K) w2 (i:Int) H';unfold Kt;rw[rd,re,rf];have W:=q1.keep (S':=S') m2 λb _ h=>x.ob b h;refine W.len ?_;rw[aQ,cE];refine bH (λg=>?_) (λg=>?_)
    ·have hil:i<n:=by omega
     obtain⟨f,f1,f2,f3⟩:=q4 i hil;have Wl:dH S' (λb=>au w2 b) 2 w2 n (λi=>(l.drop (i*2)).take 2):=W.slR λb hb=>hb;refine Wl.load m hil ?_;refine Wl.at_ hil λbb o cs mm hbb hob hlen hcl=>?_;have hbn:bb<S'.n:=W.lt m hbb;refine qM m hob hlen ?_;rw[hcl];obtain⟨ps,bd⟩:=f;have hR:RF S' (pd S') ((l.drop (i*2)).take 2) (.mk ps bd):=f3.go (λy h=>x.ob y (by have h:y<S1.n:=h;have:=x2.n;omega)) λy h=>by have h:y<S1.n:=h;have:=x2.n;have:=x.n;show y<S'.n;omega
     simp only[dq.sz]at f2;have xx:Ext S S':=x1.trans (x2.trans x);refine(aof (n:=2*cx bd+1) (ps:=ps) (bd:=bd) (by omega) (Nat.le_refl _)).run m (hT.ext hM xx) (by have:=xx.n;omega) hR f1 λH3 S3 w3 m3 x3 N3=>?_;rw[ai];refine qM m3 ((x3.ob _ hbn).trans hob) hlen ?_;rw[hcl];refine cV (by
      obtain⟨vp,vb,c1,N,B⟩:=hR.out;rw[c1];refine BZ λa ha=>?_;simp only[List.mem_cons,List.not_mem_nil,or_false]at ha;rcases ha with rfl|rfl
      ·exact N.1.same
      ·exact B.choose_spec.1.same) ?_
     have hR3:=hR.ext x3;refine(aol (n:=2*cx bd+1) (ps:=ps) (bd:=bd) (by omega) (Nat.le_refl _)).run m3 (hT.ext hM (xx.trans x3)) (by have:=xx.n;have:=x3.n;omega) hR3 f1 λH4 S4 w4 m4 x4 N4=>?_;rw[ai];have N3':jG S4 (iy S'.n S3.n) w3 (oW (2*cx bd+1) [] ps bd [] []):=⟨N3.1.go (λy h=>x4.ob y h.2) λ_ h=>h,N3.2⟩
     have amQ:=(vy (2*cx bd+1)).w [] ps bd [] [] f1 trivial;simp only[aH,List.length_nil]at amQ;refine t13 (by omega) m4 N3' N4 ?_;rw[ai,aM];simp only[Bool.not_true,aG];unfold Kr;rw[dp,fe];have hnb:n≤1000000:=by omega
     refine w0 (by omega) (by omega) ?_;exact ih (i+1) H4 S4 (by omega) (by omega) m4 (x.trans (x3.trans x4))
    ·unfold Ks;rw[ra];exact fin m (x1.trans (x2.trans x))
  exact loop fb 0 H2 S2 (Nat.zero_le _) (by omega) m2 (Ext.refl S2)
end
end Go.Proofs.YtcedghechlgecaaDoor
namespace Go.Proofs.YtcedghechlgecaaDoor
open Go Go.X
theorem hmx:Tryd.prog.follows .mixedOrders=true:=by kernel_rfl
theorem hGm:M.gl.length=Tryd.prog.globals.size:=by kernel_rfl
theorem hgm:Mq 5 M.gl=true:=by kernel_rfl
theorem hb6:fm Tryd.prog 6=true:=by kernel_rfl
theorem hC0:hV Tryd.prog M.C00:=BY hmx (λ_ _ h=>by cases h) 1000
theorem aiy{C:fM 5}{g:Nat}(hC:hV Tryd.prog C)(hb:fm Tryd.prog g=true)(h:runs C g (hs0 5 M.gl) [[]]=True):Dt Tryd.prog M.gl g []:=
 Rk hGm hgm hC hb (l:=[[]]) (λa ha=>by simp only[List.mem_singleton]at ha;subst ha;exact Nat.zero_le _) (of_run h) [] (List.mem_singleton.2 rfl)
theorem Up:Dt Tryd.prog M.gl 6 []:=aiy hC0 hb6 M.ek
theorem al1:spc=Lib.asciiSpaceTab:=by kernel_rfl
theorem amR:gl=M.gl:=by
 show([some tb0,none,none]:List (Option (List AV)))=[some M.spaces,none,none];have e:tb0=M.spaces:=by
  show spc.map (λz=>AV.int 1 z)=Lib.asciiSpaceTab.map λz=>AV.int 1 z;rw[al1]
 rw[e]
theorem adG{gl:List (Option (List AV))}{W:World}(h:tw gl W):Mr gl W:=λb z hz=>by
 have hz':gl[b]? = some (some z):=by
  unfold Jz at hz;cases e:gl[b]? with
  |none=>rw[e]at hz;cases hz
  |some y=>rw[e]at hz;exact congrArg some hz
 obtain⟨cur,ty,lo,hi,h1,h2,h3⟩:=h b z hz';refine⟨cur,ty,lo,hi,h1,by have:0+z.length≤cur.size:=h2;omega,λi a ha=>?_⟩;obtain⟨p,v,g1,g2⟩:=h3 i a ha;have g1':cur[0+i]? = some v:=g1;rw[Nat.zero_add]at g1';exact⟨v,g1',vO p g2⟩
theorem aiz:aE Tryd.prog 6 (aD [] Hz):=by
 have h:=aE.ag8 (P:=Tryd.prog) (g:=6) (gl:=gl) (by kernel_rfl) PQ λW ht=>Up W (by rw[←amR];exact adG ht) #[] .nil;exact h
end Go.Proofs.YtcedghechlgecaaDoor
