/- Check of both gives what the spec says; the law over texts as lists. No condition: definitions and lemmas. -/
import Derived.Test.YtcedghechlgecaaDoorSa
set_option maxRecDepth 100000
set_option maxHeartbeats 0
set_option linter.unusedVariables false
set_option linter.unusedSimpArgs false
namespace Go.X
section
mutual
def au.wg:au→Prop
 |.mk k _ _ _ _ l f=>(k=6→l=[]∧f=[])∧j1 l∧RC f
def j1:List au→Prop
 |[]=>True
 |e::l=>e.wg∧j1 l
def fm.wg:fm→Prop
 |.mk _ b=>kV b
def RC:List fm→Prop
 |[]=>True
 |e::l=>e.wg∧RC l
def az.wg:az→Prop
 |.mk k _ ns l bs=>(k=5∨k=6∨k=7∨k=8→bs.length=1)∧(k=1∨k=12→ns.length=1)∧(k=2→l≠[])∧j1 l∧qa bs
def kV:List az→Prop
 |[]=>True
 |e::l=>e.wg∧kV l
def qa:List (List az)→Prop
 |[]=>True
 |e::l=>kV e∧qa l
end
theorem MM:∀a b:List au,j1 (a++b)↔j1 a∧j1 b
 |[],b=>by simp[j1]
 |e::a,b=>by rw[List.cons_append,j1,j1,MM a b,and_assoc]
theorem MN:∀a b:List az,kV (a++b)↔kV a∧kV b
 |[],b=>by simp[kV]
 |e::a,b=>by rw[List.cons_append,kV,kV,MN a b,and_assoc]
theorem MO:∀a b:List (List az),qa (a++b)↔qa a∧qa b
 |[],b=>by simp[qa]
 |e::a,b=>by rw[List.cons_append,qa,qa,MO a b,and_assoc]
theorem sX:∀{l:List au}{i:Nat}{e:au},j1 l→l[i]? = some e→e.wg
 |[],_,_,_,h=>by simp at h
 |a::l,0,e,h,g=>by simp at g;subst g;exact h.1
 |a::l,i+1,e,h,g=>sX (l:=l) h.2 (by simpa using g)
theorem MP:∀{l:List fm}{i:Nat}{e:fm},RC l→l[i]? = some e→e.wg
 |[],_,_,_,h=>by simp at h
 |a::l,0,e,h,g=>by simp at g;subst g;exact h.1
 |a::l,i+1,e,h,g=>MP (l:=l) h.2 (by simpa using g)
theorem MQ:∀{l:List az}{i:Nat}{e:az},kV l→l[i]? = some e→e.wg
 |[],_,_,_,h=>by simp at h
 |a::l,0,e,h,g=>by simp at g;subst g;exact h.1
 |a::l,i+1,e,h,g=>MQ (l:=l) h.2 (by simpa using g)
theorem wZ:∀{l:List (List az)}{i:Nat}{e:List az},qa l→l[i]? = some e→kV e
 |[],_,_,_,h=>by simp at h
 |a::l,0,e,h,g=>by simp at g;subst g;exact h.1
 |a::l,i+1,e,h,g=>wZ (l:=l) h.2 (by simpa using g)
variable {T:List Tok}
theorem anW{i:Nat}:tP T i≠6:=by
 unfold tP;split
 ·decide
 split
 ·decide
 split<;>decide
structure ZE(e:au):Prop where
 h:e.wg
structure ZEs(l:List au):Prop where
 h:j1 l
structure ZP(p:List au×Nat):Prop where
 h:j1 p.1
structure ZSs(l:List az):Prop where
 h:kV l
structure zO(s:az):Prop where
 h:s.wg
structure Wgn(T:List Tok)(n:Nat):Prop where
 exp:∀i d,cU ZE (bP T n i d)
 either:∀i d,cU ZE (gd T n i d)
 both:∀i d,cU ZE (jw T n i d)
 test:∀i d,cU ZE (jx T n i d)
 join:∀i d,cU ZE (gk T n i d)
 sum:∀i d,cU ZE (lO T n i d)
 term:∀i d,cU ZE (jy T n i d)
 unary:∀i d,cU ZE (fk T n i d)
 post:∀i d,cU ZE (iI T n i d)
 simple:∀i d,cU ZE (dK T n i d)
 bZ:∀e i d,e.wg→cU ZE (fN T n e i d)
 dB:∀e i d,e.wg→cU ZE (iF T n e i d)
 dC:∀e i d,e.wg→cU ZE (iG T n e i d)
 fe:∀e i d,e.wg→cU ZE (jJ T n e i d)
 dD:∀e i d,e.wg→cU ZE (iH T n e i d)
 dj:∀e i d,e.wg→cU ZE (cF T n e i d)
 args:∀b out i d,j1 out→cU ZEs (dH T n b out i d)
 table:∀out c a i d,j1 out→cU ZE (fx T n out c a i d)
 field:∀c i d,cU ZP (ie T n c i d)
 body:∀a i d,cU ZE (gY T n a i d)
 params:∀b out i,cU QU (bQ T n b out i)
 block:∀i d,cU ZSs (cj T n i d)
 cH:∀out i d,kV out→cU ZSs (bA T n out i d)
 stat:∀i d,cU zO (eW T n i d)
 cV:∀a i d,cU zO (gV T n a i d)
 cW:∀a i d,cU zO (iJ T n a i d)
 cn:∀a i d,cU zO (gE T n a i d)
 do_:∀a i d,cU zO (oD T n a i d)
 cq:∀a i d,cU zO (ig T n a i d)
 plain:∀a i d,cU zO (gH T n a i d)
 for_:∀a i d,cU zO (lP T n a i d)
 choice:∀a l bs i d,j1 l→qa bs→cU zO (eS T n a l bs i d)
 cJ:∀k a ns l i d,(k=6∨k=7)→j1 l→cU zO (cD T n k a ns l i d)
theorem aq4:Wgn T 0 where
 exp _ _:=⟨λv j e=>by rw[bP.eq_1]at e;cases e⟩
 either _ _:=⟨λv j e=>by rw[gd.eq_1]at e;cases e⟩
 both _ _:=⟨λv j e=>by rw[jw.eq_1]at e;cases e⟩
 test _ _:=⟨λv j e=>by rw[jx.eq_1]at e;cases e⟩
 join _ _:=⟨λv j e=>by rw[gk.eq_1]at e;cases e⟩
 sum _ _:=⟨λv j e=>by rw[lO.eq_1]at e;cases e⟩
 term _ _:=⟨λv j e=>by rw[jy.eq_1]at e;cases e⟩
 unary _ _:=⟨λv j e=>by rw[fk.eq_1]at e;cases e⟩
 post _ _:=⟨λv j e=>by rw[iI.eq_1]at e;cases e⟩
 simple _ _:=⟨λv j e=>by rw[dK.eq_1]at e;cases e⟩
 bZ _ _ _ _:=⟨λv j e=>by rw[fN.eq_1]at e;cases e⟩
 dB _ _ _ _:=⟨λv j e=>by rw[iF.eq_1]at e;cases e⟩
 dC _ _ _ _:=⟨λv j e=>by rw[iG.eq_1]at e;cases e⟩
 fe _ _ _ _:=⟨λv j e=>by rw[jJ.eq_1]at e;cases e⟩
 dD _ _ _ _:=⟨λv j e=>by rw[iH.eq_1]at e;cases e⟩
 dj _ _ _ _:=⟨λv j e=>by rw[cF.eq_1]at e;cases e⟩
 args _ _ _ _ _:=⟨λv j e=>by rw[dH.eq_1]at e;cases e⟩
 table _ _ _ _ _ _:=⟨λv j e=>by rw[fx.eq_1]at e;cases e⟩
 field _ _ _:=⟨λv j e=>by rw[ie.eq_1]at e;cases e⟩
 body _ _ _:=⟨λv j e=>by rw[gY.eq_1]at e;cases e⟩
 params _ _ _:=⟨λv j e=>by rw[bQ.eq_1]at e;cases e⟩
 block _ _:=⟨λv j e=>by rw[cj.eq_1]at e;cases e⟩
 cH _ _ _ _:=⟨λv j e=>by rw[bA.eq_1]at e;cases e⟩
 stat _ _:=⟨λv j e=>by rw[eW.eq_1]at e;cases e⟩
 cV _ _ _:=⟨λv j e=>by rw[gV.eq_1]at e;cases e⟩
 cW _ _ _:=⟨λv j e=>by rw[iJ.eq_1]at e;cases e⟩
 cn _ _ _:=⟨λv j e=>by rw[gE.eq_1]at e;cases e⟩
 do_ _ _ _:=⟨λv j e=>by rw[oD.eq_1]at e;cases e⟩
 cq _ _ _:=⟨λv j e=>by rw[ig.eq_1]at e;cases e⟩
 plain _ _ _:=⟨λv j e=>by rw[gH.eq_1]at e;cases e⟩
 for_ _ _ _:=⟨λv j e=>by rw[lP.eq_1]at e;cases e⟩
 choice _ _ _ _ _ _ _:=⟨λv j e=>by rw[eS.eq_1]at e;cases e⟩
 cJ _ _ _ _ _ _ _ _:=⟨λv j e=>by rw[cD.eq_1]at e;cases e⟩
theorem aq5{n:Nat}(F:Wgn T n):Wgn T (n+1):=by
 refine⟨?_,?_,?_,?_,?_,?_,?_,?_,?_,?_,?_,?_,?_,?_,?_,?_,?_,?_,?_,?_,?_,?_,?_,?_,?_,?_,?_,?_,?_,?_,?_,?_,?_⟩
 all_goals intros
 all_goals first|rw[bP.eq_2]|rw[gd.eq_2]|rw[jw.eq_2]|rw[jx.eq_2]|rw[gk.eq_2]|rw[lO.eq_2]|rw[jy.eq_2]|rw[fk.eq_2]|rw[iI.eq_2]|rw[dK.eq_2]|rw[fN.eq_2]|rw[iF.eq_2]|rw[iG.eq_2]|rw[jJ.eq_2]|rw[iH.eq_2]|rw[cF.eq_2]|rw[dH.eq_2]|rw[fx.eq_2]|rw[ie.eq_2]|rw[gY.eq_2]|rw[bQ.eq_2]|rw[cj.eq_2]|rw[bA.eq_2]|rw[eW.eq_2]|rw[gV.eq_2]|rw[iJ.eq_2]|rw[gE.eq_2]|rw[oD.eq_2]|rw[ig.eq_2]|rw[gH.eq_2]|rw[lP.eq_2]|rw[eS.eq_2]|rw[cD.eq_2]
 all_goals repeat' first|exact F.exp _ _|exact F.either _ _|exact F.both _ _|exact F.test _ _|exact F.join _ _|exact F.sum _ _|exact F.term _ _|exact F.unary _ _|exact F.post _ _|exact F.simple _ _|refine F.bZ _ _ _ ?_|refine F.dB _ _ _ ?_|refine F.dC _ _ _ ?_|refine F.fe _ _ _ ?_|refine F.dD _ _ _ ?_|refine F.dj _ _ _ ?_|refine F.args _ _ _ _ ?_|refine F.table _ _ _ _ _ ?_|exact F.field _ _ _|exact F.body _ _ _|exact F.params _ _ _|exact F.block _ _|refine F.cH _ _ _ ?_|exact F.stat _ _|exact F.cV _ _ _|exact F.cW _ _ _|exact F.cn _ _ _|exact F.do_ _ _ _|exact F.cq _ _ _|exact F.plain _ _ _|exact F.for_ _ _ _|refine F.choice _ _ _ _ _ ?_ ?_|refine F.cJ _ _ _ _ _ _ ?_ ?_|exact cU.must|exact cU.name|exact cU.err|apply cU.ite|apply cU.bind|(rintro v j ⟨hv⟩)|refine cU.ok ⟨?_⟩|assumption|trivial|(simp only[mV,au.wg,fm.wg,az.wg,j1,RC,kV,qa,MM,MO,MN,and_true,true_and]at *;(first|done|(repeat' apply And.intro)<;>first|assumption|trivial|(intro q;omega)|(intros;rfl)|(intro _;decide)))|(refine⟨λ_=>Nat.le_refl _,λh=>by omega,λ_ _ _ _=>rfl,⟨?_,trivial⟩,⟨?_,trivial⟩⟩<;>assumption)|(refine⟨λh=>absurd h anW,⟨?_,trivial⟩,trivial⟩;assumption)|(refine⟨λh=>(by omega),λh=>(by omega),λ_ h=>(by cases h),⟨?_,?_,trivial⟩,trivial⟩<;>assumption)
theorem OP:∀n,Wgn T n
 |0=>aq4
 |n+1=>aq5 (OP n)
end
abbrev Err:=Option (Nat×Nat)
def eI(a b:Err):Err:=match a with|some e=>some e|none=>b
theorem dP(b:Err):eI none b=b:=rfl
theorem mE(a:Err):eI a none=a:=by cases a<;>rfl
theorem tU(a b c:Err):eI (eI a b) c=eI a (eI b c):=by cases a<;>rfl
theorem qb{e:Nat×Nat}(b:Err):eI (some e) b=some e:=rfl
def cw{α:Type}(f:α→Err):List α→Err
 |[]=>none
 |a::l=>eI (f a) (cw f l)
theorem qc{α:Type}(f:α→Err):∀a b:List α,cw f (a++b)=eI (cw f a) (cw f b)
 |[],b=>rfl
 |x::a,b=>by rw[List.cons_append,cw,cw,qc f a b,tU]
def qN(L:List (List (List Nat)))(ns:List (List Nat))(s:List Nat):Bool:=decide (s∈L.flatten++ns)
def ng(ns names:List (List Nat))(a:Nat):Err:=if 150<ns.length+names.length then some (8,a) else none
def zr(L:List (List (List Nat)))(ns:List (List Nat)):au→Err
 |.mk k a _ s _ _ _=>if k=6∧qN L ns s=false then some (14,a) else none
mutual
def kE:Nat→List (List (List Nat))→List (List Nat)→au→Err
 |0,_,_,_=>none
 |n+1,L,ns,.mk k a _ s _ l f=>eI (if k=6∧qN L ns s=false∧s∉builtins then some (14,a) else none) (eI (cw (kE n L ns) l) (cw (kF n (L++[ns])) f))
def kF:Nat→List (List (List Nat))→fm→Err
 |0,_,_=>none
 |n+1,L,.mk ps b=>kB n L 0 ps b []
def kB:Nat→List (List (List Nat))→Nat→List (List Nat)→List az→List au→Err
 |0,_,_,_,_,_=>none
 |n+1,L,lp,ns,b,thn=>eI (b.foldl (kS n L lp) (ns,none)).2 (cw (kE n L (b.foldl (kS n L lp) (ns,none)).1) thn)
def kS:Nat→List (List (List Nat))→Nat→List (List Nat)×Err→az→List (List Nat)×Err
 |0,_,_,r,_=>r
 |n+1,L,lp,r,.mk k a names l bs=>
  if k=1 then (r.1++names,eI r.2 (eI (ng r.1 names a) (cw (kE n L r.1) l)))
  else if k=12 then (r.1++names,eI r.2 (eI (ng r.1 names a) (cw (kE n L (r.1++names)) l)))
  else if k=2 then (r.1,eI r.2 (eI (cw (zr L r.1) (l.take 1)) (cw (kE n L r.1) l)))
  else if k=8 then (r.1,eI r.2 (cw (λb=>kB n L (lp+1) r.1 b l) bs))
  else if k=5 then (r.1,eI r.2 (eI (cw (kE n L r.1) l) (cw (λb=>kB n L (lp+1) r.1 b []) bs)))
  else if k=6∨k=7 then (r.1,eI r.2 (eI (ng r.1 names a) (eI (cw (kE n L r.1) l) (cw (λb=>kB n L (lp+1) (r.1++names) b []) bs))))
  else if k=4 then (r.1,eI r.2 (cw (λi=>eI (cw (kE n L r.1) (l[i]?.toList)) (kB n L lp r.1 (bs[i]?.getD []) [])) (List.range bs.length)))
  else if k=9 then (r.1,eI r.2 (if lp=0 then some (14,a) else none))
  else (r.1,eI r.2 (eI (cw (kE n L r.1) l) (cw (λb=>kB n L lp r.1 b []) bs)))
end
section
variable {H:AH}{S S':LS}
def aP(n:Nat):AV:=.int 0 (n:Int)
def eC:Err→Nat
 |none=>0
 |some e=>e.1
def eA:Err→Nat
 |none=>0
 |some e=>e.2
structure jg(lo b:Nat)(S:LS)(vn vw vl:AV)(ns:List (List Nat))(ow lp:List Nat)(er:Err):Prop where
 ob:S.ob b=.ce [vn,vw,vl,aP (eC er),aP (eA er)] 0
 fn:fa S vn (ns.map ai)
 fw:fa S vw (ow.map aP)
 fl:fa S vl (lp.map aP)
 n8:∀t∈ns,B8 t
 er0:∀e,er=some e→e.1≠0
 bn:¬aj vn b
 bw:¬aj vw b
 bl:¬aj vl b
 nw:∀x,aj vn x→¬aj vw x
 nl:∀x,aj vn x→¬aj vl x
 wl:∀x,aj vw x→¬aj vl x
 vR:lo≤b
 GL:∀x,aj vn x→lo≤x
 low:∀x,aj vw x→lo≤x
 xm:∀x,aj vl x→lo≤x
def yC(b:Nat)(vn vw vl:AV)(x:Nat):Prop:=x=b∨aj vn x∨aj vw x∨aj vl x
structure nA(b:Nat)(S S':LS)(vn vw vl eU fQ fU:AV):Prop where
 n:S.n≤S'.n
 ob:∀x,x<S.n→¬yC b vn vw vl x→S'.ob x=S.ob x
 own:∀x,yC b eU fQ fU x→yC b vn vw vl x∨S.n≤x
section
variable {lo b:Nat}{vn vw vl eU fQ fU MI anX anY:AV}{ns:List (List Nat)}{ow lp:List Nat}{er:Err}{lD:LS}
theorem nA.refl:nA b S S vn vw vl vn vw vl:=⟨Nat.le_refl _,λ_ _ _=>rfl,λ_ h=>.inl h⟩
theorem nA.trans(h:nA b S S' vn vw vl eU fQ fU)(g:nA b S' lD eU fQ fU MI anX anY):nA b S lD vn vw vl MI anX anY:=
 ⟨Nat.le_trans h.n g.n,λx hx hn=>(g.ob x (Nat.lt_of_lt_of_le hx h.n) λq=>(h.own x q).elim hn (by omega)).trans (h.ob x hx hn),λx hx=>(g.own x hx).elim (h.own x) λq=>.inr (Nat.le_trans h.n q)⟩
theorem Ext.dsp(hx:Ext S S'):nA b S S' vn vw vl vn vw vl:=⟨hx.n,λx h _=>hx.ob x h,λ_ h=>.inl h⟩
theorem jg.yB(h:jg lo b S vn vw vl ns ow lp er){x:Nat}(hx:yC b vn vw vl x):lo≤x:=by
 rcases hx with rfl|q|q|q
 ·exact h.vR
 ·exact h.GL x q
 ·exact h.low x q
 ·exact h.xm x q
theorem jg.iL(h:jg lo b S vn vw vl ns ow lp er)(hM:Mem H S){x:Nat}(hx:yC b vn vw vl x):x<S.n:=by
 rcases hx with rfl|q|q|q
 ·exact hM.lt (by rw[h.ob];simp)
 ·exact h.fn.lt hM q
 ·exact h.fw.lt hM q
 ·exact h.fl.lt hM q
theorem jg.keep(h:jg lo b S vn vw vl ns ow lp er)(hM:Mem H S)(hk:∀x,yC b vn vw vl x→S'.ob x=S.ob x):jg lo b S' vn vw vl ns ow lp er:=
 { h with ob:=(hk b (.inl rfl)).trans h.ob,fn:=h.fn.keep hM λx hx _=>hk x (.inr (.inl hx)),fw:=h.fw.keep hM λx hx _=>hk x (.inr (.inr (.inl hx))),fl:=h.fl.keep hM λx hx _=>hk x (.inr (.inr (.inr hx))) }
theorem jg.ext(h:jg lo b S vn vw vl ns ow lp er)(hM:Mem H S)(hx:Ext S S'):jg lo b S' vn vw vl ns ow lp er:=h.keep hM λx q=>hx.ob x (h.iL hM q)
theorem nA.low(g:nA b S S' vn vw vl eU fQ fU)(h:jg lo b S vn vw vl ns ow lp er)(hlo:lo≤S.n){x:Nat}(hx:x<lo):S'.ob x=S.ob x:=g.ob x (by omega) λq=>by have:=h.yB q;omega
theorem jg.ld{j:Nat}{w:AV}{k:AV→Prop}(h:jg lo b S vn vw vl ns ow lp er)(hM:Mem H S)(hw:[vn,vw,vl,aP (eC er),aP (eA er)][j]? = some w)(hk:k w):ao (.ptr b 0) (af j (.ptr b 0) λv=>ad v H k):=by
 simp only[bY,aQ,Nat.zero_add];exact aD hM h.ob hw hk
theorem MS{p:List Nat}{q r:Nat}:((p++[q]).map aP).set p.length (aP r)=(p++[r]).map aP:=by
 rw[List.map_append,List.map_append,List.set_append_right _ _ (by simp)];simp
theorem jg.setW{p:List Nat}{q r:Nat}{k:AH→Prop}(h:jg lo b S vn vw vl ns (p++[q]) lp er)(hM:Mem H S)
  (hk:∀H' S',Mem H' S'→nA b S S' vn vw vl vn vw vl→jg lo b S' vn vw vl ns (p++[r]) lp er→k H'):bf 1 vw (.int 0 (p.length:Int)) λv13=>ah 1 v13 (.int 0 (r:Int)) H k:=by
 refine h.fw.store hM (i:=p.length) (by simp) rfl λH' S' m n k1 f=>?_;have f:fa S' vw (((p++[q]).map aP).set p.length (aP r)):=f;rw[MS]at f;refine hk H' S' m ⟨by omega,λx _ hx=>k1 x λg=>hx (.inr (.inr (.inl g))),λ_ g=>.inl g⟩ { h with ob:=(k1 b h.bw).trans h.ob,fn:=h.fn.keep hM λx hx _=>k1 x (h.nw x hx),fw:=f,fl:=h.fl.keep hM λx hx _=>k1 x λg=>h.wl x g hx }
theorem jg.kO{p:List Nat}{q r:Nat}{k:AH→Prop}(h:jg lo b S vn vw vl ns ow (p++[q]) er)(hM:Mem H S)
  (hk:∀H' S',Mem H' S'→nA b S S' vn vw vl vn vw vl→jg lo b S' vn vw vl ns ow (p++[r]) er→k H'):bf 1 vl (.int 0 (p.length:Int)) λv13=>ah 1 v13 (.int 0 (r:Int)) H k:=by
 refine h.fl.store hM (i:=p.length) (by simp) rfl λH' S' m n k1 f=>?_;have f:fa S' vl (((p++[q]).map aP).set p.length (aP r)):=f;rw[MS]at f;refine hk H' S' m ⟨by omega,λx _ hx=>k1 x λg=>hx (.inr (.inr (.inr g))),λ_ g=>.inl g⟩ { h with ob:=(k1 b h.bl).trans h.ob,fn:=h.fn.keep hM λx hx _=>k1 x (h.nl x hx),fw:=h.fw.keep hM λx hx _=>k1 x (h.wl x hx),fl:=f }
end
end
end Go.X
namespace Go.Proofs.YtcedghechlgecaaDoor
open Go Go.X Go.Proofs.YtcedghechlgecaaDoor.G
section
variable {H:AH}{S:LS}{K:KF}
section
variable {lo b:Nat}{vn vw vl:AV}{ns:List (List Nat)}{ow lp:List Nat}{er:Err}
def DPo(lo b:Nat)(S:LS)(vn vw vl:AV)(ns:List (List Nat))(ow lp:List Nat)(er:Err)(K:KF):Prop:=∀H' S' eU fQ fU,Mem H' S'→nA b S S' vn vw vl eU fQ fU→jg lo b S' eU fQ fU ns ow lp er→K (.ret (.aL [])) H'
theorem aq6{c a:Nat}(hM:Mem H S)(h:jg lo b S vn vw vl ns ow lp er)(hc:c≠0)(hK:DPo lo b S vn vw vl ns ow lp (eI er (some (c,a))) K):f69 (.ptr b 0) (c:Int) (a:Int) H K:=by
 show Mb acg K (.ptr b 0) (c:Int) (a:Int) H;unfold Mb;refine h.ld hM (j:=3) rfl ?_;show cI 0 (.int 0 (eC er:Int)) _;have e0:Int.ofNat 0=((0:Nat):Int):=rfl;rw[aO,bu,e0];cases er with
 |some e=>
  have:=h.er0 e rfl;rw[decide_eq_false (by show ¬((e.1:Nat):Int)=((0:Nat):Int);omega),aH];exact hK H S vn vw vl hM nA.refl h
 |none=>
  rw[decide_eq_true (by rfl),aG];simp only[bY,aQ,Nat.zero_add];refine bH hM h.ob (by omega) (by show 3<5;omega) rfl λH1 m1=>?_;have m1:Mem H1 (S.set b (.ce [vn,vw,vl,aP c,aP 0] 0)):=m1;refine bH m1 (LS.av _ _ _) (by omega) (by show 4<5;omega) rfl λH2 m2=>?_;have m2:Mem H2 ((S.set b (.ce [vn,vw,vl,aP c,aP 0] 0)).set b (.ce [vn,vw,vl,aP c,aP a] 0)):=m2;have k2:∀x,x≠b→((S.set b (.ce [vn,vw,vl,aP c,aP 0] 0)).set b (.ce [vn,vw,vl,aP c,aP a] 0)).ob x=S.ob x:=λx hx=>(LS.an _ _ hx).trans (LS.an _ _ hx);refine hK H2 _ vn vw vl m2 ⟨Nat.le_refl _,λx _ hx=>k2 x λg=>hx (.inl g),λ_ g=>.inl g⟩ { h with ob:=LS.av _ _ _,fn:=h.fn.keep hM λx hx _=>k2 x λg=>h.bn (g ▸ hx),fw:=h.fw.keep hM λx hx _=>k2 x λg=>h.bw (g ▸ hx),fl:=h.fl.keep hM λx hx _=>k2 x λg=>h.bl (g ▸ hx),er0:=λe he=>by cases he;exact hc }
end
end
end Go.Proofs.YtcedghechlgecaaDoor
namespace Go.X
section
variable {H:AH}{S S':LS}
section
end
end
end Go.X
namespace Go.Proofs.YtcedghechlgecaaDoor
open Go Go.X Go.Proofs.YtcedghechlgecaaDoor.G
section
variable {H:AH}{S:LS}{K:KF}
section
end
end
end Go.Proofs.YtcedghechlgecaaDoor
namespace Go.X
section
variable {H:AH}{S S':LS}
section
variable {lo b:Nat}{vn vw vl:AV}{ns:List (List Nat)}{ow lp:List Nat}{er:Err}
theorem af3{v:AV}{l:List Nat}{bk bytes:Nat}{k:AV→AH→Prop}(hM:Mem H S)(h:fa S v (l.map aP))(hb:S.ob bk=.ce [aP 0] 0)(hl:l.length≤1000000)(hby:bytes≤1000)
  (hk:∀H' S' v',Mem H' S'→S.n≤S'.n→(∀x,x<S.n→¬aj v x→S'.ob x=S.ob x)→fa S' v' ((l++[0]).map aP)→(∀x,aj v' x→aj v x∨S.n≤x)→k v' H'):cQ 1 bytes v (.slice bk 0 1 1 1 true) H k:=by
 have r1:j9 S (λ_=>True) (.slice bk 0 1 1 1 true) [aP 0]:=.inr ⟨bk,0,1,true,[aP 0],0,rfl,by simp,trivial,hb,by simp,rfl⟩;have hbb:((l.map aP).length+[aP 0].length)*bytes≤1099511627776:=by
  rw[List.length_map,List.length_singleton];have:(l.length+1)*bytes≤1000001*1000:=Nat.mul_le_mul (by omega) hby;omega
 refine sg hM h r1 hbb (λa ha=>by simp only[List.mem_singleton]at ha;subst ha;rfl) λH1 S1 v1 m1 n1 k1 f1 b1 _ _ _=>?_;exact hk H1 S1 v1 m1 n1 k1 (by rw[List.map_append];exact f1) b1
theorem jg.set2{fQ fU:AV}{ow' lp':List Nat}{k:AH→Prop}(h:jg lo b S vn vw vl ns ow lp er)(hM:Mem H S)(fw:fa S fQ (ow'.map aP))(fl:fa S fU (lp'.map aP))(bw:¬aj fQ b)(bl:¬aj fU b)(nw:∀x,aj vn x→¬aj fQ x)(nl:∀x,aj vn x→¬aj fU x)(wl:∀x,aj fQ x→¬aj fU x)(low:∀x,aj fQ x→lo≤x)(xm:∀x,aj fU x→lo≤x)
  (hk:∀H' S',Mem H' S'→S'.n=S.n→(∀x,x≠b→S'.ob x=S.ob x)→jg lo b S' vn fQ fU ns ow' lp' er→k H'):ao (.ptr b 0) (af 1 (.ptr b 0) λv17=>ah 1 v17 fQ H λiy=>ao (.ptr b 0) (af 2 (.ptr b 0) λv19=>ah 1 v19 fU iy k)):=by
 simp only[bY,aQ,Nat.zero_add];refine bH hM h.ob (by omega) (by show 1<5;omega) fw.one λH1 m1=>?_;have m1:Mem H1 (S.set b (.ce [vn,fQ,vl,aP (eC er),aP (eA er)] 0)):=m1;refine bH m1 (LS.av _ _ _) (by omega) (by show 2<5;omega) fl.one λH2 m2=>?_;have m2:Mem H2 ((S.set b (.ce [vn,fQ,vl,aP (eC er),aP (eA er)] 0)).set b (.ce [vn,fQ,fU,aP (eC er),aP (eA er)] 0)):=m2;have k2:∀x,x≠b→((S.set b (.ce [vn,fQ,vl,aP (eC er),aP (eA er)] 0)).set b (.ce [vn,fQ,fU,aP (eC er),aP (eA er)] 0)).ob x=S.ob x:=λx hx=>(LS.an _ _ hx).trans (LS.an _ _ hx);exact hk H2 _ m2 rfl k2 ⟨LS.av _ _ _,h.fn.keep hM λx hx _=>k2 x λg=>h.bn (g ▸ hx),fw.keep hM λx hx _=>k2 x λg=>bw (g ▸ hx),fl.keep hM λx hx _=>k2 x λg=>bl (g ▸ hx),h.n8,h.er0,h.bn,bw,bl,nw,nl,wl,h.vR,h.GL,low,xm⟩
theorem jg.push{k:AH→Prop}(h:jg lo b S vn vw vl ns ow lp er)(hM:Mem H S)(hlo:lo≤S.n)(h1:ow.length≤1000000)(h2:lp.length≤1000000)
  (hk:∀H' S' fQ fU,Mem H' S'→nA b S S' vn vw vl vn fQ fU→jg lo b S' vn fQ fU ns (ow++[0]) (lp++[0]) er→k H') :
  ao (.ptr b 0) (af 1 (.ptr b 0) λv5=>ad v5 H λv6=>cL H (aR (aB H) 1 1 [(.int 0 (.ofNat 0))] λv7 H8=>bT (Nat.beq H8.n (Nat.succ H.n)) (ao (.ptr b 0) (af 2 (.ptr b 0) λv9=>ad v9 H8 λv10=>cL H8 (aR (aB H8) 1 1 [(.int 0 (.ofNat 0))] λv11 bO=>bT (Nat.beq bO.n (Nat.succ H8.n)) (cQ 1 8 v6 v7 bO λv13 dh=>ad v9 dh λv15=>bT (bj v15 v10) (cQ 1 8 v10 v11 dh λv16 jO=>ao (.ptr b 0) (af 1 (.ptr b 0) λv18=>ah 1 v18 v13 jO λkc=>ao (.ptr b 0) (af 2 (.ptr b 0) λv20=>ah 1 v20 v16 kc λgZ=>k gZ))))))))):=by
 have ez:AV.int 0 (.ofNat 0)=aP 0:=rfl;rw[ez];refine h.ld hM (j:=1) rfl ?_;refine hM.cL ?_;refine dJ hM rfl (λa ha=>by simp only[List.mem_singleton]at ha;subst ha;rfl) λH1 m1=>?_;have hln:∀x,yC b vn vw vl x→x<S.n:=λx hx=>h.iL hM hx;have x1:Ext S (S.push (.ce [aP 0] 0)):=Ext.push _ _;have o1:(S.push (.ce [aP 0] 0)).ob S.n=.ce [aP 0] 0:=LS.aq _ _;have n1:(S.push (.ce [aP 0] 0)).n=S.n+1:=rfl;have m1:Mem H1 (S.push (.ce [aP 0] 0)):=m1;rw[m1.n,hM.n];refine cC (by show Nat.beq (S.n+1) (S.n+1)=true;exact Nat.beq_refl _) ?_;revert m1 x1 o1 n1;generalize S.push (.ce [aP 0] 0)=S1;intro x1 o1 n1 m1;have d1:=h.ext hM x1;simp only[bY,aQ,Nat.zero_add];refine aD m1 d1.ob (v:=vl) rfl ?_;refine m1.cL ?_;refine dJ m1 rfl (λa ha=>by simp only[List.mem_singleton]at ha;subst ha;rfl) λH2 m2=>?_;have x2:Ext S1 (S1.push (.ce [aP 0] 0)):=Ext.push _ _;have o2:(S1.push (.ce [aP 0] 0)).ob S1.n=.ce [aP 0] 0:=LS.aq _ _;have n2:(S1.push (.ce [aP 0] 0)).n=S1.n+1:=rfl;have m2:Mem H2 (S1.push (.ce [aP 0] 0)):=m2;rw[m2.n];refine cC (by show Nat.beq (S1.n+1) (S1.n+1)=true;exact Nat.beq_refl _) ?_;revert m2 x2 o2 n2;generalize S1.push (.ce [aP 0] 0)=S2;intro x2 o2 n2 m2;have d2:=d1.ext m1 x2;have oY:=(x2.ob _ (by omega)).trans o1;refine af3 m2 d2.fw oY h1 (by omega) λH3 S3 fQ m3 n3 k3 f3 b3=>?_;have hlt:=hln;have e3:S3.ob b=.ce [vn,vw,vl,aP (eC er),aP (eA er)] 0:=(k3 b (by have:=hlt b (.inl rfl);omega) d2.bw).trans d2.ob;refine aD m3 e3 (v:=vl) rfl ?_;refine cC (by
  rcases h.fl with⟨rfl,_⟩|⟨_,_,_,_,rfl,_⟩
  ·rfl
  ·simp[bj]) ?_
 have fl3:fa S3 vl (lp.map aP):=d2.fl.keep m2 λx hx hl=>k3 x hl λq=>h.wl x q hx;have fn3:fa S3 vn (ns.map ai):=d2.fn.keep m2 λx hx hl=>k3 x hl λq=>h.nw x hx q;have lB:S3.ob S1.n=.ce [aP 0] 0:=(k3 S1.n (by omega) λq=>by have:=hlt _ (.inr (.inr (.inl q)));omega).trans o2;refine af3 m3 fl3 lB h2 (by omega) λH4 S4 fU m4 n4 k4 f4 b4=>?_;have hw':∀x,aj fQ x→aj vw x∨S.n<x:=λx hx=>(b3 x hx).elim .inl λq=>.inr (by omega);have hl':∀x,aj fU x→aj vl x∨S.n<x:=λx hx=>(b4 x hx).elim .inl λq=>.inr (by omega);have aq7:∀x,aj fQ x→x<S3.n:=λx hx=>f3.lt m3 hx;have OO:∀x,aj fQ x→¬aj fU x:=λx hx q=>(b4 x q).elim (λw=>(b3 x hx).elim (λu=>h.wl x u w) λu=>by have:=hlt _ (.inr (.inr (.inr w)));omega) λw=>by have:=aq7 x hx;omega
 have e4:S4.ob b=.ce [vn,vw,vl,aP (eC er),aP (eA er)] 0:=(k4 b (by have:=hlt b (.inl rfl);omega) h.bl).trans e3;have fw4:fa S4 fQ ((ow++[0]).map aP):=f3.keep m3 λx hx hl=>k4 x hl λq=>(b3 x hx).elim (λu=>h.wl x u q) λu=>by have:=hlt _ (.inr (.inr (.inr q)));omega
 have fn4:fa S4 vn (ns.map ai):=fn3.keep m3 λx hx hl=>k4 x hl (h.nl x hx);have arU:fa S4 vw (ow.map aP)∨True:=.inr trivial;refine bH m4 e4 (by omega) (by show 1<5;omega) fw4.one λH5 m5=>?_;have m5:Mem H5 (S4.set b (.ce [vn,fQ,vl,aP (eC er),aP (eA er)] 0)):=m5;refine bH m5 (LS.av _ _ _) (by omega) (by show 2<5;omega) f4.one λH6 m6=>?_;have m6:Mem H6 ((S4.set b (.ce [vn,fQ,vl,aP (eC er),aP (eA er)] 0)).set b (.ce [vn,fQ,fU,aP (eC er),aP (eA er)] 0)):=m6;have k6:∀x,x≠b→((S4.set b (.ce [vn,fQ,vl,aP (eC er),aP (eA er)] 0)).set b (.ce [vn,fQ,fU,aP (eC er),aP (eA er)] 0)).ob x=S4.ob x:=λx hx=>(LS.an _ _ hx).trans (LS.an _ _ hx);have hbn:=hlt b (.inl rfl);have bw':¬aj fQ b:=λq=>(hw' b q).elim h.bw (by omega);have bl':¬aj fU b:=λq=>(hl' b q).elim h.bl (by omega);refine hk H6 _ fQ fU m6 ⟨by show S.n≤S4.n;omega,λx hx hn=>?_,λx hx=>?_⟩ ⟨LS.av _ _ _,fn4.keep m4 λx hx _=>k6 x λg=>h.bn (g ▸ hx),fw4.keep m4 λx hx _=>k6 x λg=>bw' (g ▸ hx),f4.keep m4 λx hx _=>k6 x λg=>bl' (g ▸ hx),h.n8,h.er0,h.bn,bw',bl',λx hx q=>(hw' x q).elim (h.nw x hx) λw=>by have:=hlt _ (.inr (.inl hx));omega,λx hx q=>(hl' x q).elim (h.nl x hx) λw=>by have:=hlt _ (.inr (.inl hx));omega,OO,h.vR,h.GL,λx hx=>(hw' x hx).elim (h.low x) λw=>by omega,λx hx=>(hl' x hx).elim (h.xm x) λw=>by omega⟩
 ·rw[k6 x λg=>hn (.inl g),k4 x (by omega) λq=>hn (.inr (.inr (.inr q))),k3 x (by omega) λq=>hn (.inr (.inr (.inl q))),x2.ob x (by omega),x1.ob x hx]
 ·rcases hx with q|q|q|q
  ·exact .inl (.inl q)
  ·exact .inl (.inr (.inl q))
  ·exact(hw' x q).elim (λw=>.inl (.inr (.inr (.inl w)))) λw=>.inr (by omega)
  ·exact(hl' x q).elim (λw=>.inl (.inr (.inr (.inr w)))) λw=>.inr (by omega)
end
end
section
variable {H:AH}{S S':LS}
section
variable {lo b:Nat}{vn vw vl eU fQ fU:AV}{ns:List (List Nat)}{p p':List Nat}{q q':Nat}{er er':Err}
theorem jg.pop{k:AH→Prop}(h:jg lo b S vn vw vl ns (p++[q]) (p'++[q']) er)(hM:Mem H S)(h1:p.length≤1000000)(h2:p'.length≤1000000)
  (hk:∀H' S' fQ fU,Mem H' S'→nA b S S' vn vw vl vn fQ fU→jg lo b S' vn fQ fU ns p p' er→k H') :
  ao (.ptr b 0) (af 1 (.ptr b 0) λv1=>ad v1 H λv2=>ao (.ptr b 0) (af 1 (.ptr b 0) λv3=>ad v3 H λv4=>bN v4 λv5=>cI 0 v5 λz6=>ax 0 (Int.sub z6 (.ofNat 1)) λz7=>fE 1 v2 none (some (.int 0 z7)) none λv8=>ao (.ptr b 0) (af 2 (.ptr b 0) λv9=>ad v9 H λv10=>ao (.ptr b 0) (af 2 (.ptr b 0) λv11=>ad v11 H λv12=>bN v12 λv13=>cI 0 v13 λnM=>ax 0 (Int.sub nM (.ofNat 1)) λmw=>fE 1 v10 none (some (.int 0 mw)) none λv16=>ao (.ptr b 0) (af 1 (.ptr b 0) λv17=>ah 1 v17 v8 H λiy=>ao (.ptr b 0) (af 2 (.ptr b 0) λv19=>ah 1 v19 v16 iy λjs=>k js)))))):=by
 refine h.ld hM (j:=1) rfl ?_;refine h.ld hM (j:=1) rfl ?_;refine h.fw.len ?_;rw[aO,List.length_map,List.length_append,List.length_singleton];simp only[pU,fz];refine w0 (by omega) (by omega) ?_;have ep:((p.length+1:Nat):Int)-1=(p.length:Int):=by omega
 have ep':((p'.length+1:Nat):Int)-1=(p'.length:Int):=by omega
 rw[ep];refine pV h.fw (by simp) λw1 f1 b1 _ _=>?_;refine h.ld hM (j:=2) rfl ?_;refine h.ld hM (j:=2) rfl ?_;refine h.fl.len ?_;rw[aO,List.length_map,List.length_append,List.length_singleton];refine w0 (by omega) (by omega) ?_;rw[ep'];refine pV h.fl (by simp) λw2 f2 b2 _ _=>?_;rw[List.map_append,List.take_left' (by simp)]at f1 f2;refine h.set2 (ow':=p) (lp':=p') hM f1 f2 (λg=>h.bw ((b1 b).1 g)) (λg=>h.bl ((b2 b).1 g)) (λx hx g=>h.nw x hx ((b1 x).1 g)) (λx hx g=>h.nl x hx ((b2 x).1 g)) (λx hx g=>h.wl x ((b1 x).1 hx) ((b2 x).1 g)) (λx hx=>h.low x ((b1 x).1 hx)) (λx hx=>h.xm x ((b2 x).1 hx)) λH' S' m n k1 d=>?_;refine hk H' S' w1 w2 m ⟨by omega,λx _ hx=>k1 x λg=>hx (.inl g),λx hx=>?_⟩ d;rcases hx with g|g|g|g
 ·exact .inl (.inl g)
 ·exact .inl (.inr (.inl g))
 ·exact .inl (.inr (.inr (.inl ((b1 x).1 g))))
 ·exact .inl (.inr (.inr (.inr ((b2 x).1 g))))
structure Dn(lo b:Nat)(H:AH)(S:LS)(vn vw vl:AV)(L:List (List (List Nat)))(ns:List (List Nat))(ql:List Nat)(l0:Nat)(er:Err):Prop where
 m:Mem H S
 d:jg lo b S vn vw vl (L.flatten++ns) (L.map List.length++[ns.length]) (ql++[l0]) er
 l:lo≤S.n
theorem Dn.low{L:List (List (List Nat))}{ql:List Nat}{l0:Nat}(h:Dn lo b H S vn vw vl L ns ql l0 er)(g:nA b S S' vn vw vl eU fQ fU):∀x,x<lo→S'.ob x=S.ob x:=λx hx=>g.low h.d h.l hx
theorem Dn.new{L:List (List (List Nat))}{ql:List Nat}{l0:Nat}(h:Dn lo b H S vn vw vl L ns ql l0 er):¬yC b vn vw vl S.n:=λq=>Nat.lt_irrefl _ (h.d.iL h.m q)
theorem Dn.ext{H':AH}{L:List (List (List Nat))}{ql:List Nat}{l0:Nat}(h:Dn lo b H S vn vw vl L ns ql l0 er)(m:Mem H' S')(x:Ext S S'):Dn lo b H' S' vn vw vl L ns ql l0 er:=⟨m,h.d.ext h.m x,Nat.le_trans h.l x.n⟩
def Rm(L:List (List (List Nat)))(ns:List (List Nat))(ql:List Nat)(l0 z:Nat):Prop:=L.flatten.length+ns.length+z≤800000∧L.length+z≤800000∧ql.length+z≤800000∧l0+z≤800000
theorem Rm.le{L:List (List (List Nat))}{ql:List Nat}{l0 z z':Nat}(h:Rm L ns ql l0 z)(hz:z'≤z):Rm L ns ql l0 z':=⟨by have:=h.1;omega,by have:=h.2.1;omega,by have:=h.2.2.1;omega,by have:=h.2.2.2;omega⟩
end
end
end Go.X
namespace Go.Proofs.YtcedghechlgecaaDoor
open Go Go.X Go.Proofs.YtcedghechlgecaaDoor.G
section
variable {H:AH}{S:LS}{K:KF}
def DPq(lo b:Nat)(S:LS)(vn vw vl:AV)(L:List (List (List Nat)))(ns:List (List Nat))(ql:List Nat)(l0:Nat)(er:Err)(K:KF):Prop:=∀H' S' eU fQ fU,Mem H' S'→nA b S S' vn vw vl eU fQ fU→Dn lo b H' S' eU fQ fU L ns ql l0 er→K (.ret (.aL [])) H'
structure DEx(F:AV→AV→AH→KF→Prop)(n:Nat)(l:List au):Prop where
 run:∀{K:KF}{H:AH}{S:LS}{lo b:Nat}{vn vw vl v:AV}{L:List (List (List Nat))}{ns:List (List Nat)}{ql:List Nat}{l0:Nat}{er:Err},Dn lo b H S vn vw vl L ns ql l0 er→pt S (gy lo) v l→j1 l→Rm L ns ql l0 (fD l)→DPq lo b S vn vw vl L ns ql l0 (eI er (cw (kE n L ns) l)) K→F (.ptr b 0) v H K
structure DPa(F:AV→AV→AH→KF→Prop)(n:Nat)(e:au):Prop where
 run:∀{K:KF}{H:AH}{S:LS}{lo b:Nat}{vn vw vl v:AV}{L:List (List (List Nat))}{ns:List (List Nat)}{ql:List Nat}{l0:Nat}{er:Err}{k a nn op:Nat}{s:List Nat}{l:List au}{f:List fm},e=.mk k a nn s op l f→Dn lo b H S vn vw vl L ns ql l0 er→dV S (gy lo) v e→e.wg→Rm L ns ql l0 e.sz→DPq lo b S vn vw vl L ns ql l0 (eI er (eI (cw (kE n L ns) l) (cw (kF n (L++[ns])) f))) K→F (.ptr b 0) v H K
structure DBl(F:AV→AV→AV→AV→AH→KF→Prop)(n:Nat)(names:List (List Nat))(bd:List az)(thn:List au):Prop where
 run:∀{K:KF}{H:AH}{S:LS}{lo b:Nat}{vn vw vl v1 v2 v3:AV}{L:List (List (List Nat))}{ns:List (List Nat)}{ql:List Nat}{l0:Nat}{er:Err},Dn lo b H S vn vw vl L ns ql l0 er→gw S (gy lo) v1 bd→kK S (gy lo) v2 names→pt S (gy lo) v3 thn→kV bd→j1 thn→(thn≠[]→0<l0)→Rm L ns ql l0 (names.length+dI bd+fD thn)→DPq lo b S vn vw vl L ns ql l0 (eI er (kB n L l0 (ns++names) bd thn)) K→F (.ptr b 0) v1 v2 v3 H K
theorem e48{R:mD}{n:Nat}{l:List au}(hB:R.1=f11)(hH:R.2.1=f25)(hF:R.2.2.1=f69)(hP:∀e∈l,DPa R.2.2.2 n e):DEx (afK R) (n+1) l:=by
 refine⟨λ{K H S lo b vn vw vl v L ns ql l0 er} hD hv hw hR hK=>?_⟩;have hll:=p9 l;obtain⟨r1,r2,r3,r4⟩:=id hR;have loop:∀(q i:Nat) (eU fQ fU:AV) (H':AH) (S':LS),i≤l.length→l.length-i<q→Dn lo b H' S' eU fQ fU L ns ql l0 (eI er (cw (kE (n+1) L ns) (l.take i)))→nA b S S' vn vw vl eU fQ fU→sO R K q (.ptr b 0) v (i:Int) H':=by
  intro q
  induction q with
  |zero=>intro i _ _ _ _ _ _ h;omega
  |succ q ih=>
   intro i eU fQ fU H' S' hi hq D1 hst;show Md R K (Mc R K (vK R K (vJ R K (sO R K q)))) (vK R K (vJ R K (sO R K q))) (.ptr b 0) v (i:Int) H';unfold Md;simp only[jK];have V1:=uj hv (hD.low hst);refine V1.choose_spec.1.len ?_;rw[aO,cK];refine cx (λg=>?_) (λg=>?_)
   rotate_left
   ·have e:i=l.length:=by omega
    subst e;rw[List.take_length]at D1;exact hK H' S' eU fQ fU D1.m hst D1
   have hil:i<l.length:=by omega
   obtain⟨e,he⟩:∃e,l[i]? = some e:=⟨_,List.getElem?_eq_getElem hil⟩
   have hem:=List.mem_of_getElem? he;have hsz:=nd he;have hwe:=sX hw he;obtain⟨cl,s1,g1⟩:=V1;have e1:=g1 i e he;refine s1.load D1.m hil ?_;refine tT D1.m fy rfl e1.len e1.ones λH1 S1 m1 x1 o1 n1=>?_;have D2:=D1.ext m1 x1;have hnew:=D1.new;have hpa:=hP e hem;obtain⟨k,a,nn,s,op,l',fs⟩:=e;have e2:RE S1 (gy lo) (cl i) (.mk k a nn s op l' fs):=e1.go (λx hx=>x1.ob x (Nat.lt_of_lt_of_le hx D1.l)) λ_ h=>h;obtain⟨OO,wf',c1,h8,L1,F1⟩:=e2.out;have hcl:(cl i).length=7:=e1.len;have rest:∀(H2:AH) (S2:LS) (vn2 vw2 vl2:AV) (er2:Err),er2=eI (eI er (cw (kE (n+1) L ns) (l.take i))) (if k=6∧qN L ns s=false∧s∉builtins then some (14,a) else none)→Dn lo b H2 S2 vn2 vw2 vl2 L ns ql l0 er2→nA b S1 S2 eU fQ fU vn2 vw2 vl2→vK R K (vJ R K (sO R K q)) (.ptr b 0) v (i:Int) (.ptr S'.n 0) H2:=λH2 S2 vn2 vw2 vl2 er2 he2 D3 st2=>by
    unfold vK;have o2:=(st2.ob _ (by omega) hnew).trans o1;refine gO D3.m o2 hcl ?_;refine hpa.run rfl D3 ⟨_,rfl,e2.go (λx hx=>D2.low st2 x hx) λ_ h=>h⟩ hwe (hR.le hsz) λH3 S3 vn3 vw3 vl3 m3 eX D4=>?_;rw[al];unfold vJ;rw[dS,fz];refine w0 (by omega) (by omega) ?_;refine ih (i+1) vn3 vw3 vl3 H3 S3 (by omega) (by omega) ?_ (hst.trans (x1.dsp.trans (st2.trans eX)));rw[yA he,qc,←tU];have e3:cw (kE (n+1) L ns) [au.mk k a nn s op l' fs]=eI (if k=6∧qN L ns s=false∧s∉builtins then some (14,a) else none) (eI (cw (kE n L ns) l') (cw (kF n (L++[ns])) fs)):=by
     show eI (kE (n+1) L ns (.mk k a nn s op l' fs)) none=_;rw[mE,kE]
    rw[e3,←tU,←he2];exact D4
   rw[c1]at o1;simp only[aQ,Nat.zero_add];refine aD m1 o1 (v:=.int 0 (k:Int)) rfl ?_;have e6:Int.ofNat 6=((6:Nat):Int):=rfl;rw[aO,bu,e6];have same:¬(k=6∧qN L ns s=false∧s∉builtins)→∀{H2:AH}{S2:LS},Mem H2 S2→Ext S1 S2→vK R K (vJ R K (sO R K q)) (.ptr b 0) v (i:Int) (.ptr S'.n 0) H2:=λhno {H2 S2} m2 x2=>by
    refine rest H2 S2 eU fQ fU _ rfl ?_ x2.dsp;rw[if_neg hno,mE];exact D2.ext m2 x2
   rw[←c1]at o1;refine cx (λg6=>?_) (λg6=>?_)
   rotate_left
   ·exact same (λg=>g6 (by omega)) m1 (Ext.refl _)
   have hk:k=6:=by omega
   have o1':=o1;rw[c1]at o1';simp only[bY];refine aD m1 D2.d.ob (v:=eU) rfl ?_;refine aD m1 o1' (v:=ai s) rfl ?_;rw[hH,hB];refine anR m1 (D2.d.fn.rd m1 (Q:=λ_=>True) λ_ _ _=>trivial) D2.d.n8 h8 (by rw[List.length_append];omega) ?_;rw[al,aM];by_cases h1:s∈L.flatten++ns
   ·rw[decide_eq_true h1];simp only[Bool.not_true,aH];exact same (λg=>by have:=g.2.1;unfold qN at this;rw[decide_eq_true h1]at this;cases this) m1 (Ext.refl _)
   rw[decide_eq_false h1];simp only[Bool.not_false,aG];refine aD m1 o1' (v:=ai s) rfl ?_;refine aq3 m1 h8 λH2 S2 m2 x2=>?_;rw[al,aM];by_cases h2:s∈builtins
   ·rw[decide_eq_true h2];simp only[Bool.not_true,aH];exact same (λg=>g.2.2 h2) m2 x2
   rw[decide_eq_false h2];simp only[Bool.not_false,aG];unfold Mc;rw[hF];have D3:=D2.ext m2 x2;have o2:=(x2.ob _ (by omega)).trans o1';simp only[aQ,Nat.zero_add];refine aD m2 o2 (v:=.int 0 (a:Int)) rfl ?_;rw[aO];refine aq6 (c:=14) (a:=a) m2 D3.d (by omega) λH3 S3 vn3 vw3 vl3 m3 eX d3=>?_;rw[al];refine rest H3 S3 vn3 vw3 vl3 _ rfl ?_ (x2.dsp.trans eX);rw[if_pos ⟨hk,by unfold qN;exact decide_eq_false h1,h2⟩];exact⟨m3,d3,Nat.le_trans D3.l eX.n⟩
 show Me R K (sO R K G.NL) (.ptr b 0) v H;unfold Me;have iR:G.NL=1000000:=rfl;generalize G.NL=iq at iR ⊢;refine loop iq 0 vn vw vl H S (Nat.zero_le _) (by omega) ?_ nA.refl;simp only[List.take_zero,cw,mE];exact hD
end
section
variable {H:AH}{S:LS}{K:KF}
theorem RD{c:List AV}{k:AV→AH→Prop}(hM:Mem H S)(h1:∀a∈c,a.one=true)(hk:∀H' S',Mem H' S'→Ext S S'→S'.ob S.n=.ce c 0→S'.n=S.n+1→k (.ptr S.n 0) H'):mj (aB H) (.agg c) k:=
 IQ hM h1 λH' m=>hk H' _ m (Ext.push _ _) (LS.aq _ _) rfl
end
end Go.Proofs.YtcedghechlgecaaDoor
namespace Go.X
section
variable {H:AH}{S S':LS}
theorem apC(n:Nat)(L:List (List (List Nat)))(lp:Nat)(ns:List (List Nat))(er:Err)(s:az):kS n L lp (ns,er) s=((kS n L lp (ns,none) s).1,eI er (kS n L lp (ns,none) s).2):=by
 cases n with
 |zero=>
  simp only[kS];rw[mE]
 |succ n=>
  obtain⟨k,a,names,l,bs⟩:=s;simp only[kS,dP]
  repeat' split
  all_goals rfl
theorem EJ(n:Nat)(L:List (List (List Nat)))(lp:Nat):∀(b:List az) (ns:List (List Nat)) (er:Err),b.foldl (kS n L lp) (ns,er)=((b.foldl (kS n L lp) (ns,none)).1,eI er (b.foldl (kS n L lp) (ns,none)).2)
 |[],ns,er=>by
  simp only[List.foldl_nil];rw[mE]
 |s::b,ns,er=>by
  simp only[List.foldl_cons];rw[apC n L lp ns er];generalize kS n L lp (ns,none) s=r;obtain⟨m,e⟩:=r;rw[EJ n L lp b m (eI er e),EJ n L lp b m e];simp only[tU]
theorem anZ(n:Nat)(L:List (List (List Nat)))(lp:Nat)(r:List (List Nat)×Err)(s:az):∃x,(kS n L lp r s).1=r.1++x∧x.length≤s.sz:=by
 have nil:∃x:List (List Nat),r.1=r.1++x∧x.length≤s.sz:=⟨[],by simp,Nat.zero_le _⟩
 cases n with
 |zero=>exact nil
 |succ n=>
  obtain⟨k,a,names,l,bs⟩:=s;have one:∃x:List (List Nat),r.1++names=r.1++x∧x.length≤(az.mk k a names l bs).sz:=⟨names,rfl,by simp only[az.sz];omega⟩
  simp only[kS]
  repeat' split
  all_goals first|exact one|exact nil
theorem OQ(n:Nat)(L:List (List (List Nat)))(lp:Nat):∀(b:List az) (r:List (List Nat)×Err),∃x,(b.foldl (kS n L lp) r).1=r.1++x∧x.length≤dI b
 |[],r=>⟨[],by simp,Nat.zero_le _⟩
 |s::b,r=>by
  obtain⟨x,e,h⟩:=anZ n L lp r s;obtain⟨y,e2,h2⟩:=OQ n L lp b (kS n L lp r s);refine⟨x++y,?_,?_⟩
  ·rw[List.foldl_cons,e2,e,List.append_assoc]
  ·rw[List.length_append,dI];omega
section
variable {lo b:Nat}{vn vw vl:AV}{ns e:List (List Nat)}{p ow lp:List Nat}{q q':Nat}{er:Err}
theorem jg.cut{k:AH→Prop}(h:jg lo b S vn vw vl (ns++e) (p++[q]) lp er)(hM:Mem H S)(hp:p.length≤1000000)
  (hk:∀H' S' eU,Mem H' S'→nA b S S' vn vw vl eU vw vl→jg lo b S' eU vw vl ns (p++[q']) lp er→k H'):ao (.ptr b 0) (af 0 (.ptr b 0) λv1=>ad v1 H λv2=>fE 1 v2 none (some (.int 0 (ns.length:Int))) none λv3=>ao (.ptr b 0) (af 0 (.ptr b 0) λv4=>ah 1 v4 v3 H λH5=>ao (.ptr b 0) (af 1 (.ptr b 0) λv6=>ad v6 H5 λv7=>ao (.ptr b 0) (af 1 (.ptr b 0) λv8=>ad v8 H5 λv9=>bN v9 λv10=>cI 0 v10 λz11=>ax 0 (Int.sub z11 (.ofNat 1)) λz12=>bf 1 v7 (.int 0 z12) λv13=>ah 1 v13 (.int 0 (q':Int)) H5 λdh=>k dh)))):=by
 refine h.ld hM (j:=0) rfl ?_;refine pV h.fn (by simp) λw1 f1 b1 _ _=>?_;rw[List.map_append,List.take_left' (by simp)]at f1;simp only[bY,aQ,Nat.zero_add];refine bH hM h.ob (by omega) (by show 0<5;omega) f1.one λH1 m1=>?_;have m1:Mem H1 (S.set b (.ce [w1,vw,vl,aP (eC er),aP (eA er)] 0)):=m1;have k1:∀x,x≠b→(S.set b (.ce [w1,vw,vl,aP (eC er),aP (eA er)] 0)).ob x=S.ob x:=λx hx=>LS.an _ _ hx;have d1:jg lo b (S.set b (.ce [w1,vw,vl,aP (eC er),aP (eA er)] 0)) w1 vw vl ns (p++[q]) lp er:=⟨LS.av _ _ _,f1.keep hM λx hx _=>k1 x λg=>h.bn (g ▸ (b1 x).1 hx),h.fw.keep hM λx hx _=>k1 x λg=>h.bw (g ▸ hx),h.fl.keep hM λx hx _=>k1 x λg=>h.bl (g ▸ hx),λt ht=>h.n8 t (List.mem_append_left _ ht),h.er0,λg=>h.bn ((b1 b).1 g),h.bw,h.bl,λx hx=>h.nw x ((b1 x).1 hx),λx hx=>h.nl x ((b1 x).1 hx),h.wl,h.vR,λx hx=>h.GL x ((b1 x).1 hx),h.low,h.xm⟩
 have s1:nA b S (S.set b (.ce [w1,vw,vl,aP (eC er),aP (eA er)] 0)) vn vw vl w1 vw vl:=⟨Nat.le_refl _,λx _ hx=>k1 x λg=>hx (.inl g),λx hx=>by
  rcases hx with g|g|g|g
  ·exact .inl (.inl g)
  ·exact .inl (.inr (.inl ((b1 x).1 g)))
  ·exact .inl (.inr (.inr (.inl g)))
  ·exact .inl (.inr (.inr (.inr g)))⟩
 refine aD m1 d1.ob (v:=vw) rfl ?_;refine aD m1 d1.ob (v:=vw) rfl ?_;refine d1.fw.len ?_;rw[aO,List.length_map,List.length_append,List.length_singleton];simp only[pU,fz];refine w0 (by omega) (by omega) ?_;have ep:((p.length+1:Nat):Int)-1=(p.length:Int):=by omega
 rw[ep];exact d1.setW m1 λH' S' m st d=>hk H' S' w1 m (s1.trans st) d
end
end
end Go.X
namespace Go.Proofs.YtcedghechlgecaaDoor
open Go Go.X Go.Proofs.YtcedghechlgecaaDoor.G
section
variable {H:AH}{S:LS}{K:KF}
structure DSs(F:AV→AV→AH→KF→Prop)(n:Nat)(s:az):Prop where
 run:∀{K:KF}{H:AH}{S:LS}{lo b:Nat}{vn vw vl v:AV}{L:List (List (List Nat))}{ns:List (List Nat)}{ql:List Nat}{l0:Nat}{er:Err},Dn lo b H S vn vw vl L ns ql l0 er→rvS S (gy lo) v s→s.wg→Rm L ns ql l0 s.sz→DPq lo b S vn vw vl L (kS n L l0 (ns,er) s).1 ql l0 (kS n L l0 (ns,er) s).2 K→F (.ptr b 0) v H K
structure DLp(F:AV→AV→AV→AV→AH→KF→Prop)(n:Nat)(names:List (List Nat))(bd:List az)(thn:List au):Prop where
 run:∀{K:KF}{H:AH}{S:LS}{lo b:Nat}{vn vw vl v1 v2 v3:AV}{L:List (List (List Nat))}{ns:List (List Nat)}{ql:List Nat}{l0:Nat}{er:Err},Dn lo b H S vn vw vl L ns ql l0 er→gw S (gy lo) v1 bd→kK S (gy lo) v2 names→pt S (gy lo) v3 thn→kV bd→j1 thn→Rm L ns ql l0 (names.length+dI bd+fD thn+1)→DPq lo b S vn vw vl L ns ql l0 (eI er (kB n L (l0+1) (ns++names) bd thn)) K→F (.ptr b 0) v1 v2 v3 H K
end
end Go.Proofs.YtcedghechlgecaaDoor
namespace Go.X
section
variable {H:AH}{S S':LS}
theorem pt.part{Q:Nat→Prop}{v:AV}{a b:List au}{lo hi:Option AV}{i j:Nat}{k:AV→Prop}(h:pt S Q v a)(hij:i≤j)(hj:j≤a.length)(hlo:lo=some (.int 0 (i:Int))∨lo=none∧i=0)(hhi:hi=some (.int 0 (j:Int))∨hi=none∧j=a.length)(hb:b=(a.drop i).take (j-i))
  (hk:∀v',pt S Q v' b→k v'):fE 7 v lo hi none k:=by
 obtain⟨cl,g1,g2⟩:=h;have hbl:b.length=j-i:=by rw[hb,List.length_take,List.length_drop];omega
 have hbg:∀n e,b[n]? = some e→a[i+n]? = some e:=λn e he=>by
  have hn:=(List.getElem?_eq_some_iff.1 he).1;rw[hb,List.getElem?_take,if_pos (by omega),List.getElem?_drop]at he;exact he
 rcases g1 with⟨rfl,e0⟩|⟨bk,o,c,ex,cs,m,rfl,q1,q2,q3,q4,q5⟩
 ·have ei:i=0:=by omega
  have ej:j=0:=by omega
  subst ei;subst ej;have:fE 7 .ab lo hi none k↔k .ab:=by
   rcases hlo with rfl|⟨rfl,_⟩<;>rcases hhi with rfl|⟨rfl,_⟩<;>exact Iff.rfl
  rw[this];exact hk _ ⟨λ_=>[],.inl ⟨rfl,by omega⟩,λn e he=>by
   have:=(List.getElem?_eq_some_iff.1 he).1;omega⟩
 ·have hle:i*7+(j-i)*7≤a.length*7:=by rw[←Nat.add_mul];exact Nat.mul_le_mul_right _ (by omega)
  refine af1 hij (by omega) hlo hhi (hk _ ⟨λn=>cl (i+n),.inr ⟨bk,o+i*7,c-i,ex,cs,m,by rw[hbl],q1,q2,by omega,by rw[hbl];omega,λn hn=>?_⟩,λn e he=>g2 _ e (hbg n e he)⟩);have:=q5 (i+n) (by omega);rw[Nat.add_mul,←Nat.add_assoc]at this;exact this
theorem kL{α:Type}(f:α→Err)(l:List α)(i:Nat){e:α}(h:l[i]? = some e):cw f (l.take (i+1))=eI (cw f (l.take i)) (f e):=by
 rw[yA h,qc];show eI _ (eI (f e) none)=_;rw[mE]
theorem ah5{α:Type}(f:α→Err)(e:α):cw f [e]=f e:=mE _
theorem OS(f:Nat→Err)(i:Nat):cw f (List.range (i+1))=eI (cw f (List.range i)) (f i):=by
 rw[List.range_succ,qc,ah5]
theorem Dn.add{lo b:Nat}{vn vw vl:AV}{L:List (List (List Nat))}{ns nm:List (List Nat)}{ql:List Nat}{l0:Nat}{er:Err}(m:Mem H S)(d:jg lo b S vn vw vl (L.flatten++ns++nm) (L.map List.length++[ns.length+nm.length]) (ql++[l0]) er)(l:lo≤S.n):Dn lo b H S vn vw vl L (ns++nm) ql l0 er:=by
 refine⟨m,?_,l⟩;rw[List.length_append,←List.append_assoc];exact d
end
end Go.X
namespace Go.Proofs.YtcedghechlgecaaDoor
open Go Go.X Go.Proofs.YtcedghechlgecaaDoor.G
section
variable {H:AH}{S:LS}{K:KF}
section
end
end
section
variable {H:AH}{S:LS}{K:KF}
end
structure OkC(T:yq)(m:Nat):Prop where
 ex:∀n l,2*n≤m→2*fD l+1<n→DEx T.2.2.1 n l
 pa:∀n (e:au),2*n+1≤m→2*e.sz<n→DPa T.2.2.2.1 n e
 bl:∀n nm bd thn,2*n≤m→2*(dI bd+fD thn)+3<n→DBl T.1 n nm bd thn
 lp:∀n nm bd thn,2*n+1≤m→2*(dI bd+fD thn)+3<n→DLp T.2.2.2.2 n nm bd thn
 st:∀n (s:az),2*n≤m→2*s.sz+2<n→DSs T.2.1 n s
end Go.Proofs.YtcedghechlgecaaDoor
namespace Go.X
def jL:List (List Nat):=[[75,69,89,83],[65,82,71,86]]
theorem aer:∀t∈jL,B8 t:=by
 intro t ht c hc;simp only[jL,List.mem_cons,List.not_mem_nil,or_false]at ht;rcases ht with rfl|rfl<;>simp only[List.mem_cons,List.not_mem_nil,or_false]at hc<;>omega
theorem aes:[AV.str 4 1398359371,AV.str 4 1447514689]=jL.map ai:=by kernel_rfl
def OT(n:Nat)(bd:List az):Err:=kB n [] 0 jL bd []
theorem FN{S:LS}{l:List AV}{b:Nat}(h:S.ob b=.ce l 0)(h1:∀a∈l,a.one=true):fa S (.slice b 0 l.length l.length 1 true) l:=.inr ⟨b,l.length,true,l,rfl,h,rfl,Nat.le_refl _,by simp,h1⟩
end Go.X
namespace Go.Proofs.YtcedghechlgecaaDoor
open Go Go.X Go.Proofs.YtcedghechlgecaaDoor.G
section
variable {H:AH}{S:LS}{K:KF}
end
end Go.Proofs.YtcedghechlgecaaDoor
namespace Go.X
section
variable {H:AH}{S S':LS}
structure bK where
 p:Nat
 v:AV
 ns:List (List Nat)
 l:Nat
def bK.own(d:bK)(x:Nat):Prop:=x=d.p∨aj d.v x
structure gB(lo b:Nat)(S:LS)(vL:AV)(lv:List bK):Prop where
 ob:S.ob b=.ce [vL] 0
 fL:fa S vL (lv.map λd=>AV.ptr d.p 0)
 lb:∀d∈lv,S.ob d.p=.ce [d.v,aP d.l] 0
 ln:∀d∈lv,fa S d.v (d.ns.map ai)
 n8:∀d∈lv,∀t∈d.ns,B8 t
 bL:¬aj vL b
 pv:∀d∈lv,¬aj d.v d.p
 ap:lv.Pairwise λd d'=>∀x,d.own x→¬d'.own x
 ob':∀d∈lv,∀x,d.own x→x≠b∧¬aj vL x
 vR:lo≤b
 loL:∀x,aj vL x→lo≤x
 xm:∀d∈lv,∀x,d.own x→lo≤x
end
end Go.X
namespace Go.Proofs.YtcedghechlgecaaDoor
open Go Go.X Go.Proofs.YtcedghechlgecaaDoor.G
section
variable {H:AH}{S:LS}{K:KF}
theorem hs62{lo b:Nat}{vL:AV}{lv:List bK}{s:List Nat}(hM:Mem H S)(h:gB lo b S vL lv)(h8:B8 s)(hl:lv.length≤900000)(hn:∀d∈lv,d.ns.length≤900000)(hK:K (.ret (.bool (decide (∃d∈lv,s∈d.ns)))) H):f62 (.ptr b 0) (ai s) H K:=by
 have iR:G.NL=1000000:=rfl;have outer:∀(q i:Nat),i≤lv.length→lv.length-i<q→(∀j d,j<i→lv[j]? = some d→s∉d.ns)→pg jE K q (ai s) vL (lv.length:Int) (i:Int) H:=by
  intro q
  induction q with
  |zero=>intro i _ g;omega
  |succ q ih=>
   intro i hi hq hno;show DQ jE K (vy jE K (pg jE K q) G.NL) (DO jE K) (ai s) vL (lv.length:Int) (i:Int) H;unfold DQ;rw[cK];refine cx (λg=>?_) (λg=>?_)
   rotate_left
   ·unfold DO;rw[decide_eq_false (λhx=>by
     obtain⟨d,hd,hs⟩:=hx;obtain⟨j,hj⟩:=List.mem_iff_getElem?.1 hd;have:=(List.getElem?_eq_some_iff.1 hj).1;exact hno j d (by omega) hj hs)]at hK
    exact hK
   have hil:i<lv.length:=by omega
   obtain⟨d,hd⟩:∃d,lv[i]? = some d:=⟨_,List.getElem?_eq_getElem hil⟩
   have hdm:=List.mem_of_getElem? hd;have hnd:=hn d hdm;refine h.fL.load hM (a:=.ptr d.p 0) (by rw[List.getElem?_map,hd];rfl) ?_;simp only[bY,aQ,Nat.zero_add];refine aD hM (h.lb d hdm) (v:=d.v) rfl ?_;refine(h.ln d hdm).len ?_;rw[aO,List.length_map];have inner:∀(q2 j:Nat),j≤d.ns.length→d.ns.length-j<q2→(∀m t,m<j→d.ns[m]? = some t→t≠s)→vy jE K (pg jE K q) q2 (ai s) vL (lv.length:Int) (i:Int) d.v (d.ns.length:Int) (j:Int) H:=by
    intro q2
    induction q2 with
    |zero=>intro j _ g;omega
    |succ q2 ih2=>
     intro j hj hq2 an0;show DN jE K (vy jE K (pg jE K q) q2) (DM jE K (pg jE K q)) (ai s) vL (lv.length:Int) (i:Int) d.v (d.ns.length:Int) (j:Int) H;unfold DN;rw[cK];refine cx (λg2=>?_) (λg2=>?_)
     ·have hjl:j<d.ns.length:=by omega
      obtain⟨t,ht⟩:∃t,d.ns[j]? = some t:=⟨_,List.getElem?_eq_getElem hjl⟩
      have htm:=List.mem_of_getElem? ht;refine(h.ln d hdm).load hM (a:=ai t) (by rw[List.getElem?_map,ht];rfl) ?_;refine wG (h.n8 d hdm t htm) h8 ?_;rw[aM];by_cases e:t=s
      ·rw[decide_eq_true e,aG];rw[decide_eq_true ⟨d,hdm,e ▸ htm⟩]at hK;exact hK
      ·rw[decide_eq_false e,aH];rw[dS,fz];refine w0 (by omega) (by omega) ?_;refine ih2 (j+1) (by omega) (by omega) λm t' hm hmt=>?_;rcases Nat.lt_or_ge m j with g1|g1
       ·exact an0 m t' g1 hmt
       ·have e1:m=j:=by omega
        subst e1;rw[ht]at hmt;cases hmt;exact e
     ·unfold DM;rw[dS,fz];refine w0 (by omega) (by omega) ?_;refine ih (i+1) (by omega) (by omega) λm d' hm hmd hs=>?_;rcases Nat.lt_or_ge m i with g1|g1
      ·exact hno m d' g1 hmd hs
      ·have e1:m=i:=by omega
       subst e1;rw[hd]at hmd;cases hmd;obtain⟨m2,hm2⟩:=List.mem_iff_getElem?.1 hs;have:=(List.getElem?_eq_some_iff.1 hm2).1;exact absurd rfl (an0 m2 s (by omega) hm2)
   exact inner G.NL 0 (Nat.zero_le _) (by omega) λm t g=>by omega
 show DS jE K (pg jE K G.NL) (.ptr b 0) (ai s) H;unfold DS;simp only[bY,aQ,Nat.zero_add];refine aD hM h.ob (v:=vL) rfl ?_;refine h.fL.len ?_;rw[aO,List.length_map];exact outer G.NL 0 (Nat.zero_le _) (by omega) λm t g=>by omega
end
end Go.Proofs.YtcedghechlgecaaDoor
namespace Go.X
section
variable {H:AH}{S S' lD:LS}
def mr(b:Nat)(vL:AV)(lv:List bK)(x:Nat):Prop:=x=b∨aj vL x∨∃d∈lv,d.own x
structure ef(b:Nat)(S S':LS)(vL:AV)(lv:List bK)(dz:AV)(zP:List bK):Prop where
 n:S.n≤S'.n
 ob:∀x,x<S.n→¬mr b vL lv x→S'.ob x=S.ob x
 own:∀x,mr b dz zP x→mr b vL lv x∨S.n≤x
section
variable {lo b:Nat}{vL dz an1:AV}{lv zP an2:List bK}
theorem ef.refl:ef b S S vL lv vL lv:=⟨Nat.le_refl _,λ_ _ _=>rfl,λ_ h=>.inl h⟩
theorem ef.trans(h:ef b S S' vL lv dz zP)(g:ef b S' lD dz zP an1 an2):ef b S lD vL lv an1 an2:=
 ⟨Nat.le_trans h.n g.n,λx hx hn=>(g.ob x (Nat.lt_of_lt_of_le hx h.n) λq=>(h.own x q).elim hn (by omega)).trans (h.ob x hx hn),λx hx=>(g.own x hx).elim (h.own x) λq=>.inr (Nat.le_trans h.n q)⟩
theorem Ext.nV(hx:Ext S S'):ef b S S' vL lv vL lv:=⟨hx.n,λx h _=>hx.ob x h,λ_ h=>.inl h⟩
theorem gB.yB(h:gB lo b S vL lv){x:Nat}(hx:mr b vL lv x):lo≤x:=by
 rcases hx with rfl|q|⟨d,hd,q⟩
 ·exact h.vR
 ·exact h.loL x q
 ·exact h.xm d hd x q
theorem gB.iL(h:gB lo b S vL lv)(hM:Mem H S){x:Nat}(hx:mr b vL lv x):x<S.n:=by
 rcases hx with rfl|q|⟨d,hd,q⟩
 ·exact hM.lt (by rw[h.ob];simp)
 ·exact h.fL.lt hM q
 ·rcases q with rfl|q
  ·exact hM.lt (by rw[h.lb d hd];simp)
  ·exact(h.ln d hd).lt hM q
theorem gB.keep(h:gB lo b S vL lv)(hM:Mem H S)(hk:∀x,mr b vL lv x→S'.ob x=S.ob x):gB lo b S' vL lv:=
 { h with ob:=(hk b (.inl rfl)).trans h.ob,fL:=h.fL.keep hM λx hx _=>hk x (.inr (.inl hx)),lb:=λd hd=>(hk d.p (.inr (.inr ⟨d,hd,.inl rfl⟩))).trans (h.lb d hd),ln:=λd hd=>(h.ln d hd).keep hM λx hx _=>hk x (.inr (.inr ⟨d,hd,.inr hx⟩)) }
theorem gB.ext(h:gB lo b S vL lv)(hM:Mem H S)(hx:Ext S S'):gB lo b S' vL lv:=h.keep hM λx q=>hx.ob x (h.iL hM q)
theorem ef.low(g:ef b S S' vL lv dz zP)(h:gB lo b S vL lv)(hlo:lo≤S.n){x:Nat}(hx:x<lo):S'.ob x=S.ob x:=g.ob x (by omega) λq=>by have:=h.yB q;omega
end
end
end Go.X
namespace Go.Proofs.YtcedghechlgecaaDoor
open Go Go.X Go.Proofs.YtcedghechlgecaaDoor.G
section
variable {H:AH}{S:LS}{K:KF}
theorem aet{lo b:Nat}{vL:AV}{lv:List bK}{d:bK}(hM:Mem H S)(h:gB lo b S vL (lv++[d]))(hl:lv.length≤900000)(hK:K (.ret (.ptr d.p 0)) H):f44 (.ptr b 0) H K:=by
 show DL Ls K (.ptr b 0) H;unfold DL;simp only[bY,aQ,Nat.zero_add];refine aD hM h.ob (v:=vL) rfl ?_;refine aD hM h.ob (v:=vL) rfl ?_;refine h.fL.len ?_;rw[aO,List.length_map,List.length_append,List.length_singleton];simp only[pU,fz];refine w0 (by omega) (by omega) ?_;have ep:((lv.length+1:Nat):Int)-1=(lv.length:Int):=by omega
 rw[ep];refine h.fL.load hM (i:=lv.length) (a:=.ptr d.p 0) ?_ hK;rw[List.getElem?_map,List.getElem?_append_right (Nat.le_refl _)];simp
end
section
variable {H H':AH}{S S':LS}{K:KF}
structure Pn(lo b:Nat)(H:AH)(S:LS)(vL:AV)(lv:List bK):Prop where
 m:Mem H S
 p:gB lo b S vL lv
 l:lo≤S.n
 t:mP gl S
 g:gl.length≤lo
section
variable {lo b:Nat}{vL dz:AV}{lv zP:List bK}
theorem Pn.low(h:Pn lo b H S vL lv)(st:ef b S S' vL lv dz zP):∀x,x<lo→S'.ob x=S.ob x:=λx hx=>st.low h.p h.l hx
theorem Pn.step(h:Pn lo b H S vL lv)(m:Mem H' S')(st:ef b S S' vL lv dz zP)(p:gB lo b S' dz zP):Pn lo b H' S' dz zP:=⟨m,p,Nat.le_trans h.l st.n,ON h.t h.g (h.low st),h.g⟩
theorem Pn.ext(h:Pn lo b H S vL lv)(m:Mem H' S')(x:Ext S S'):Pn lo b H' S' vL lv:=h.step m x.nV (h.p.ext h.m x)
theorem Pn.new(h:Pn lo b H S vL lv):¬mr b vL lv S.n:=λg=>by
 have:=h.p.iL h.m g;omega
end
def At(lo:Nat)(S:LS)(K:KF)(e:Nat×Nat):Prop:=∀H' S',Mem H' S'→S.n≤S'.n→(∀x,x<lo→S'.ob x=S.ob x)→K (.cG (.iface 56 (.agg [aP e.1,aP e.2]))) H'
theorem At.le{lo:Nat}{e:Nat×Nat}(h:At lo S K e)(hn:S.n≤S'.n)(hk:∀x,x<lo→S'.ob x=S.ob x):At lo S' K e:=λH2 S2 m n k=>h H2 S2 m (Nat.le_trans hn n) λx hx=>(k x hx).trans (hk x hx)
def PGo(lo b:Nat)(S:LS)(vL:AV)(lv:List bK)(er:Err)(K:KF):Prop:=(er=none→∀H' S' dz,Pn lo b H' S' dz lv→ef b S S' vL lv dz lv→K (.ret (.aL [])) H')∧∀e,er=some e→At lo S K e
def Rp(lv:List bK)(z:Nat):Prop:=lv.length+z≤800000∧∀d∈lv,d.ns.length+z≤800000∧d.l+z≤800000
theorem Rp.le{lv:List bK}{z z':Nat}(h:Rp lv z)(hz:z'≤z):Rp lv z':=⟨by have:=h.1;omega,λd hd=>by have:=h.2 d hd;omega⟩
structure PE(F:AV→AV→AH→KF→Prop)(n:Nat)(e:au):Prop where
 run:∀{K:KF}{H:AH}{S:LS}{lo b:Nat}{vL v:AV}{lv:List bK}{L:List (List (List Nat))}{ns:List (List Nat)},Pn lo b H S vL lv→lv.map bK.ns=L++[ns]→dV S (gy lo) v e→e.wg→Rp lv e.sz→PGo lo b S vL lv (kE n L ns e) K→F (.ptr b 0) v H K
structure OU(F:AV→AV→AH→KF→Prop)(n:Nat)(l:List au):Prop where
 run:∀{K:KF}{H:AH}{S:LS}{lo b:Nat}{vL v:AV}{lv:List bK}{L:List (List (List Nat))}{ns:List (List Nat)},Pn lo b H S vL lv→lv.map bK.ns=L++[ns]→pt S (gy lo) v l→j1 l→Rp lv (fD l)→PGo lo b S vL lv (cw (kE n L ns) l) K→F (.ptr b 0) v H K
theorem vS{α:Type}(f:α→Err)(l:List α)(i:Nat){e:Nat×Nat}(h:cw f (l.take i)=some e):cw f l=some e:=by
 rw[←List.take_append_drop i l,qc,h];rfl
theorem e61{R:mC}{n:Nat}{l:List au}(hE:∀e∈l,PE R n e):OU (Q4 R) n l:=by
 refine⟨λ{K H S lo b vL v lv L ns} hP hlv hv hw hR hK=>?_⟩;have hll:=p9 l;have hr1:=hR.1;have loop:∀(q i:Nat) (dz:AV) (H':AH) (S':LS),i≤l.length→l.length-i<q→Pn lo b H' S' dz lv→cw (kE n L ns) (l.take i)=none→ef b S S' vL lv dz lv→vG R K q (.ptr b 0) v (l.length:Int) (i:Int) H':=by
  intro q
  induction q with
  |zero=>intro i _ _ _ _ h;omega
  |succ q ih=>
   intro i dz H' S' hi hq P1 he0 st1;show D0 R K (vG R K q) (.ptr b 0) v (l.length:Int) (i:Int) H';unfold D0;simp only[jK];rw[cK];refine cx (λg=>?_) (λg=>?_)
   rotate_left
   ·have e:i=l.length:=by omega
    subst e;rw[List.take_length]at he0;exact hK.1 he0 H' S' dz P1 st1
   have hil:i<l.length:=by omega
   obtain⟨e,he⟩:∃e,l[i]? = some e:=⟨_,List.getElem?_eq_getElem hil⟩
   have hem:=List.mem_of_getElem? he;have hsz:=nd he;have lw:=hP.low st1;obtain⟨cl,s1,g1⟩:=uj hv lw;have e1:=g1 i e he;refine s1.load P1.m hil ?_;refine tT P1.m fy rfl e1.len e1.ones λH2 S2 m2 x2 o2 n2=>?_;refine gO m2 o2 e1.len ?_;have P2:=P1.ext m2 x2;refine(hE e hem).run P2 hlv ⟨_,rfl,e1.go (λx hx=>x2.ob x (Nat.lt_of_lt_of_le hx P1.l)) λ_ h=>h⟩ (sX hw he) (hR.le hsz) ⟨λhn H3 S3 kM P3 eX=>?_,λp hp H3 S3 m3 n3 k3=>?_⟩
   ·show cR K (.ret (.aL [])) H3 _;rw[al,dS,fz];refine w0 (by omega) (by omega) ?_;refine ih (i+1) kM H3 S3 (by omega) (by omega) P3 ?_ (st1.trans (x2.nV.trans eX));rw[kL _ _ _ he,he0,hn];rfl
   ·show cR K (.cG _) H3 _;rw[ij];refine hK.2 p ?_ H3 S3 m3 (by have:=st1.n;omega) λx hx=>?_
    ·refine vS _ _ (i+1) ?_;rw[kL _ _ _ he,he0,hp];rfl
    ·rw[k3 x hx,x2.ob x (Nat.lt_of_lt_of_le hx P1.l),lw x hx]
 show D5 R K (vG R K G.NL) (.ptr b 0) v H;unfold D5;refine hv.choose_spec.1.len ?_;rw[aO];have iR:G.NL=1000000:=rfl;generalize G.NL=iq at iR ⊢;exact loop iq 0 vL H S (Nat.zero_le _) (by omega) hP rfl ef.refl
end
end Go.Proofs.YtcedghechlgecaaDoor
namespace Go.X
section
variable {H:AH}{S S':LS}
section
variable {lo b:Nat}{vL:AV}{lv:List bK}{d d':bK}
theorem gB.upd(h:gB lo b S vL (lv++[d]))(hM:Mem H S)(hp:d'.p=d.p)(hob:S'.ob d.p=.ce [d'.v,aP d'.l] 0)(hfn:fa S' d'.v (d'.ns.map ai))(h8:∀t∈d'.ns,B8 t)(hpv:¬aj d'.v d.p)(hown:∀x,aj d'.v x→aj d.v x∨S.n≤x)(hlo:lo≤S.n)(hk:∀x,x<S.n→x≠d.p→¬aj d.v x→S'.ob x=S.ob x):gB lo b S' vL (lv++[d']):=by
 have hd:d∈lv++[d]:=List.mem_append_right _ (List.mem_singleton_self _);have hl:∀{x},x∈lv→x∈lv++[d]:=λg=>List.mem_append_left _ g;have lt:∀{x},mr b vL (lv++[d]) x→x<S.n:=λg=>h.iL hM g;have ap2:∀a∈lv,∀x,a.own x→¬d.own x:=λa ha=>(List.pairwise_append.1 h.ap).2.2 a ha d (List.mem_singleton_self _);have kd:∀a∈lv,∀x,a.own x→S'.ob x=S.ob x:=λa ha x hx=>hk x (lt (.inr (.inr ⟨a,hl ha,hx⟩))) (λg=>ap2 a ha x hx (.inl g)) λg=>ap2 a ha x hx (.inr g);have sp:∀{a},a∈lv++[d']→a∈lv∨a=d':=λg=>(List.mem_append.1 g).imp id List.mem_singleton.1;have od:∀x,d'.own x→d.own x∨S.n≤x:=λx hx=>hx.elim (λg=>.inl (.inl (g.trans hp))) λg=>(hown x g).imp .inr id;refine⟨(hk b (lt (.inl rfl)) (λg=>(h.ob' d hd d.p (.inl rfl)).1 g.symm) λg=>(h.ob' d hd b (.inr g)).1 rfl).trans h.ob,?_,?_,?_,?_,h.bL,?_,?_,?_,h.vR,h.loL,?_⟩
 ·have:=h.fL.keep (S':=S') hM λx hx hlt=>hk x hlt (λg=>(h.ob' d hd d.p (.inl rfl)).2 (g ▸ hx)) λg=>(h.ob' d hd x (.inr g)).2 hx;have e:(lv++[d']).map (λd=>AV.ptr d.p 0)=(lv++[d]).map (λd=>AV.ptr d.p 0):=by simp[hp]
  rw[e];exact this
 ·intro a ha;rcases sp ha with g|rfl
  ·exact(kd a g a.p (.inl rfl)).trans (h.lb a (hl g))
  ·rw[hp];exact hob
 ·intro a ha;rcases sp ha with g|rfl
  ·exact(h.ln a (hl g)).keep hM λx hx _=>kd a g x (.inr hx)
  ·exact hfn
 ·intro a ha;rcases sp ha with g|rfl
  ·exact h.n8 a (hl g)
  ·exact h8
 ·intro a ha;rcases sp ha with g|rfl
  ·exact h.pv a (hl g)
  ·rw[hp];exact hpv
 ·refine List.pairwise_append.2 ⟨(List.pairwise_append.1 h.ap).1,List.pairwise_singleton _ _,λa ha c hc x hx hy=>?_⟩;rw[List.mem_singleton]at hc;subst hc;rcases od x hy with g|g
  ·exact ap2 a ha x hx g
  ·have:=lt (.inr (.inr ⟨a,hl ha,hx⟩));omega
 ·intro a ha x hx;rcases sp ha with g|rfl
  ·exact h.ob' a (hl g) x hx
  ·rcases od x hx with g|g
   ·exact h.ob' d hd x g
   ·refine⟨λe=>?_,λe=>?_⟩
    ·have:=lt (x:=b) (.inl rfl);omega
    ·have:=lt (x:=x) (.inr (.inl e));omega
 ·intro a ha x hx;rcases sp ha with g|rfl
  ·exact h.xm a (hl g) x hx
  ·rcases od x hx with g|g
   ·exact h.xm d hd x g
   ·omega
theorem gB.kO{r:Nat}{k:AH→Prop}(h:gB lo b S vL (lv++[d]))(hM:Mem H S)(hlo:lo≤S.n)
  (hk:∀H' S',Mem H' S'→ef b S S' vL (lv++[d]) vL (lv++[{ d with l:=r }])→gB lo b S' vL (lv++[{ d with l:=r }])→k H'):ao (.ptr d.p 0) (af 1 (.ptr d.p 0) λv9=>ah 1 v9 (.int 0 (r:Int)) H k):=by
 have hd:d∈lv++[d]:=List.mem_append_right _ (List.mem_singleton_self _);simp only[bY,aQ,Nat.zero_add];refine bH hM (h.lb d hd) (by omega) (by show 1<2;omega) rfl λH1 m1=>?_;have m1:Mem H1 (S.set d.p (.ce [d.v,aP r] 0)):=m1;have k1:∀x,x≠d.p→(S.set d.p (.ce [d.v,aP r] 0)).ob x=S.ob x:=λx hx=>LS.an _ _ hx;refine hk H1 _ m1 ⟨Nat.le_refl _,λx _ hx=>k1 x λg=>hx (.inr (.inr ⟨d,hd,.inl g⟩)),λx hx=>?_⟩ (h.upd hM rfl (LS.av _ _ _) ((h.ln d hd).keep hM λx hx _=>k1 x λg=>h.pv d hd (g ▸ hx)) (h.n8 d hd) (h.pv d hd) (λ_ g=>.inl g) hlo λx _ hx _=>k1 x hx);rcases hx with g|g|⟨a,ha,g⟩
 ·exact .inl (.inl g)
 ·exact .inl (.inr (.inl g))
 ·rcases List.mem_append.1 ha with q|q
  ·exact .inl (.inr (.inr ⟨a,List.mem_append_left _ q,g⟩))
  ·rw[List.mem_singleton]at q;subst q;exact .inl (.inr (.inr ⟨d,hd,g⟩))
end
end
section
variable {H:AH}{S S':LS}
section
variable {lo b:Nat}{vL:AV}{lv:List bK}{d:bK}
theorem gB.nV{d':bK}(h:gB lo b S vL (lv++[d]))(hp:d'.p=d.p)(hown:∀x,aj d'.v x→aj d.v x∨S.n≤x)(hn:S.n≤S'.n)(hk:∀x,x<S.n→x≠d.p→¬aj d.v x→S'.ob x=S.ob x):ef b S S' vL (lv++[d]) vL (lv++[d']):=by
 have hd:d∈lv++[d]:=List.mem_append_right _ (List.mem_singleton_self _);refine⟨hn,λx hx hno=>hk x hx (λg=>hno (.inr (.inr ⟨d,hd,.inl g⟩))) λg=>hno (.inr (.inr ⟨d,hd,.inr g⟩)),λx hx=>?_⟩;rcases hx with g|g|⟨a,ha,g⟩
 ·exact .inl (.inl g)
 ·exact .inl (.inr (.inl g))
 ·rcases List.mem_append.1 ha with q|q
  ·exact .inl (.inr (.inr ⟨a,List.mem_append_left _ q,g⟩))
  ·rw[List.mem_singleton]at q;subst q;rcases g with g|g
   ·exact .inl (.inr (.inr ⟨d,hd,.inl (g.trans hp)⟩))
   ·exact(hown x g).imp (λw=>.inr (.inr ⟨d,hd,.inr w⟩)) id
theorem gB.app{Q:Nat→Prop}{a1:AV}{l:List (List Nat)}{k:AH→Prop}(h:gB lo b S vL (lv++[d]))(hM:Mem H S)(hlo:lo≤S.n)(hr:j9 S Q a1 (l.map ai))(h8:∀t∈l,B8 t)(hl:d.ns.length+l.length≤1000000)
  (hk:∀H' S' v',Mem H' S'→ef b S S' vL (lv++[d]) vL (lv++[{ d with v:=v',ns:=d.ns++l }])→gB lo b S' vL (lv++[{ d with v:=v',ns:=d.ns++l }])→k H'):cQ 1 16 d.v a1 H λv14 eM=>ao (.ptr d.p 0) (af 0 (.ptr d.p 0) λv16=>ah 1 v16 v14 eM k):=by
 have hd:d∈lv++[d]:=List.mem_append_right _ (List.mem_singleton_self _);have hdp:d.p<S.n:=h.iL hM (.inr (.inr ⟨d,hd,.inl rfl⟩));have hbb:((d.ns.map ai).length+(l.map ai).length)*16≤1099511627776:=by
  rw[List.length_map,List.length_map];omega
 refine sg hM (h.ln d hd) hr hbb (λa ha=>by obtain⟨t,_,rfl⟩:=List.mem_map.1 ha;rfl) λH1 S1 v1 m1 n1 k1 f1 b1 _ _ _=>?_;have e1:S1.ob d.p=.ce [d.v,aP d.l] 0:=(k1 _ hdp (h.pv d hd)).trans (h.lb d hd);simp only[bY,aQ,Nat.zero_add];refine bH m1 e1 (by omega) (by show 0<2;omega) f1.one λH2 m2=>?_;have m2:Mem H2 (S1.set d.p (.ce [v1,aP d.l] 0)):=m2;have k2:∀x,x≠d.p→(S1.set d.p (.ce [v1,aP d.l] 0)).ob x=S1.ob x:=λx hx=>LS.an _ _ hx;have hpv:¬aj v1 d.p:=λg=>(b1 _ g).elim (h.pv d hd) (by omega);have hk3:∀x,x<S.n→x≠d.p→¬aj d.v x→(S1.set d.p (.ce [v1,aP d.l] 0)).ob x=S.ob x:=λx hx hne hb=>(k2 x hne).trans (k1 x hx hb);refine hk H2 _ v1 m2 (h.nV rfl b1 n1 hk3) (h.upd hM rfl (LS.av _ _ _) ?_ ?_ hpv b1 hlo hk3)
 ·show fa _ v1 ((d.ns++l).map ai);rw[List.map_append];exact f1.keep m1 λx hx _=>k2 x λg=>hpv (g ▸ hx)
 ·intro t ht;exact(List.mem_append.1 ht).elim (h.n8 d hd t) (h8 t)
theorem gB.cut{ns e:List (List Nat)}{k:AH→Prop}(h:gB lo b S vL (lv++[d]))(hM:Mem H S)(hlo:lo≤S.n)(he:d.ns=ns++e)
  (hk:∀H' S' v',Mem H' S'→ef b S S' vL (lv++[d]) vL (lv++[{ d with v:=v',ns:=ns }])→gB lo b S' vL (lv++[{ d with v:=v',ns:=ns }])→k H'):fE 1 d.v none (some (.int 0 (ns.length:Int))) none λv9=>ao (.ptr d.p 0) (af 0 (.ptr d.p 0) λv10=>ah 1 v10 v9 H k):=by
 have hd:d∈lv++[d]:=List.mem_append_right _ (List.mem_singleton_self _);refine pV (h.ln d hd) (by rw[he];simp) λw1 f1 b1 _ _=>?_;rw[he,List.map_append,List.take_left' (by simp)]at f1;simp only[bY,aQ,Nat.zero_add];refine bH hM (h.lb d hd) (by omega) (by show 0<2;omega) f1.one λH2 m2=>?_;have m2:Mem H2 (S.set d.p (.ce [w1,aP d.l] 0)):=m2;have k2:∀x,x≠d.p→(S.set d.p (.ce [w1,aP d.l] 0)).ob x=S.ob x:=λx hx=>LS.an _ _ hx;have hpv:¬aj w1 d.p:=λg=>h.pv d hd ((b1 _).1 g);refine hk H2 _ w1 m2 (h.nV rfl (λx g=>.inl ((b1 x).1 g)) (Nat.le_refl _) λx _ hx _=>k2 x hx) (h.upd hM rfl (LS.av _ _ _) (f1.keep hM λx hx _=>k2 x λg=>hpv (g ▸ hx)) (λt ht=>h.n8 d hd t (by rw[he];exact List.mem_append_left _ ht)) hpv (λx g=>.inl ((b1 x).1 g)) hlo λx _ hx _=>k2 x hx)
end
end
end Go.X
namespace Go.Proofs.YtcedghechlgecaaDoor
open Go Go.X Go.Proofs.YtcedghechlgecaaDoor.G
section
variable {H:AH}{S:LS}{K:KF}
theorem apD{k:AV→Prop}(h:k (.bool true)):wc true .ab k:=h
theorem apE{b o n c z:Nat}{ex:Bool}{k:AV→Prop}(h:k (.bool false)):wc true (.slice b o n c z ex) k:=h
theorem aq8{Q:Nat→Prop}{v:AV}{l:List (List Nat)}(hM:Mem H S)(hn:kK S Q v l)(hQ:∀x,Q x→x<S.n)(hl:l.length≤900000)(hK:∀H' S' v',Mem H' S'→Ext S S'→fa S' v' (l.map ai)→(∀x,aj v' x→S.n≤x)→K (.ret v') H'):f83 v H K:=by
 have hr:=EI hn;show DU Ly K v H;unfold DU;have go:aR (aB H) 0 1 [] λv3 H4=>cQ 1 16 v3 v H4 λv5 H6=>K (.ret v5) H6:=by
  refine dJ hM rfl (λa ha=>by simp at ha) λH1 m1=>?_;have m1:Mem H1 (S.push (.ce [] 0)):=m1;have x1:Ext S (S.push (.ce [] 0)):=Ext.push _ _;have o1:(S.push (.ce [] 0)).ob S.n=.ce [] 0:=LS.aq _ _;have n1:(S.push (.ce [] 0)).n=S.n+1:=rfl;have hr1:j9 (S.push (.ce [] 0)) Q v (l.map ai):=EI (kK.go hn (λb hb=>x1.ob b (hQ b hb)) λ_ g=>g);generalize S.push (.ce [] 0)=S1 at m1 x1 o1 n1 hr1;have f0:fa S1 (.slice S.n 0 0 0 1 true) []:=FN (l:=[]) o1 (λa ha=>by simp at ha);have hbb:(([]:List AV).length+(l.map ai).length)*16≤1099511627776:=by
   rw[List.length_map,List.length_nil];omega
  refine sg m1 f0 hr1 hbb (λa ha=>by obtain⟨t,_,rfl⟩:=List.mem_map.1 ha;rfl) λH2 S2 v2 m2 n2 k2 f2 b2 _ _ _=>?_;refine hK H2 S2 v2 m2 ⟨by have:=x1.n;omega,λx hx=>(k2 x (by omega) λg=>by
   have g:x=S.n:=g;omega).trans (x1.ob x hx)⟩ (by simpa using f2) λx hx=>?_
  rcases b2 x hx with g|g
  ·have g:x=S.n:=g;omega
  ·omega
 rcases hr with⟨rfl,e⟩|⟨bk,o,c,ex,cs,m,rfl,q1,q2,q3,q4,q5⟩
 ·refine apD ?_;rw[aM,aG];exact hK H S .ab hM (Ext.refl _) (.inl ⟨rfl,e⟩) λx hx=>hx.elim
 ·refine apE ?_;rw[aM,aH];exact go
end
end Go.Proofs.YtcedghechlgecaaDoor
namespace Go.X
section
variable {H:AH}{S S':LS}
section
variable {lo b:Nat}{vL:AV}{lv:List bK}{d:bK}
theorem gB.push{dz v':AV}{p:Nat}{ps:List (List Nat)}(h:gB lo b S vL lv)(hM:Mem H S)(hlo:lo≤S.n)(hb:S'.ob b=.ce [dz] 0)(fL:fa S' dz ((lv++[bK.mk p v' ps 0]).map λd=>AV.ptr d.p 0))(hp:S'.ob p=.ce [v',aP 0] 0)(fv:fa S' v' (ps.map ai))(h8:∀t∈ps,B8 t)(pn:S.n≤p)(vn:∀x,aj v' x→S.n≤x)(pv:¬aj v' p)(hL:∀x,aj dz x→aj vL x∨S.n≤x)(Lp:¬aj dz p)(Lv:∀x,aj dz x→¬aj v' x)(hn:S.n≤S'.n)(hk:∀x,x<S.n→x≠b→¬aj vL x→S'.ob x=S.ob x):gB lo b S' dz (lv++[bK.mk p v' ps 0])∧ef b S S' vL lv dz (lv++[bK.mk p v' ps 0]):=by
 have lt:∀{x},mr b vL lv x→x<S.n:=λg=>h.iL hM g;have la:∀a∈lv,∀x,a.own x→x<S.n:=λa ha x hx=>lt (.inr (.inr ⟨a,ha,hx⟩));have hbl:b<S.n:=lt (.inl rfl);have kd:∀a∈lv,∀x,a.own x→S'.ob x=S.ob x:=λa ha x hx=>hk x (la a ha x hx) (h.ob' a ha x hx).1 (h.ob' a ha x hx).2;have sp:∀{a},a∈lv++[bK.mk p v' ps 0]→a∈lv∨a=bK.mk p v' ps 0:=λg=>(List.mem_append.1 g).imp id List.mem_singleton.1;have nw:∀x,(bK.mk p v' ps 0).own x→S.n≤x:=λx hx=>hx.elim (λg=>by have g:x=p:=g;omega) (vn x);refine⟨⟨hb,fL,?_,?_,?_,?_,?_,?_,?_,h.vR,?_,?_⟩,hn,λx hx hno=>hk x hx (λg=>hno (.inl g)) λg=>hno (.inr (.inl g)),?_⟩
 ·intro a ha;rcases sp ha with g|rfl
  ·exact(kd a g a.p (.inl rfl)).trans (h.lb a g)
  ·exact hp
 ·intro a ha;rcases sp ha with g|rfl
  ·exact(h.ln a g).keep hM λx hx _=>kd a g x (.inr hx)
  ·exact fv
 ·intro a ha;rcases sp ha with g|rfl
  ·exact h.n8 a g
  ·exact h8
 ·intro g;exact(hL b g).elim h.bL (by omega)
 ·intro a ha;rcases sp ha with g|rfl
  ·exact h.pv a g
  ·exact pv
 ·refine List.pairwise_append.2 ⟨h.ap,List.pairwise_singleton _ _,λa ha c hc x hx hy=>?_⟩;rw[List.mem_singleton]at hc;subst hc;have:=la a ha x hx;have:=nw x hy;omega
 ·intro a ha x hx;rcases sp ha with g|rfl
  ·refine⟨(h.ob' a g x hx).1,λq=>(hL x q).elim (h.ob' a g x hx).2 λw=>?_⟩;have:=la a g x hx;omega
  ·refine⟨λq=>by have:=nw x hx;omega,λq=>?_⟩;rcases hx with w|w
   ·have w:x=p:=w;exact Lp (w ▸ q)
   ·exact Lv x q w
 ·intro x hx;exact(hL x hx).elim (h.loL x) λw=>by omega
 ·intro a ha x hx;rcases sp ha with g|rfl
  ·exact h.xm a g x hx
  ·have:=nw x hx;omega
 ·intro x hx;rcases hx with g|g|⟨a,ha,g⟩
  ·exact .inl (.inl g)
  ·exact(hL x g).imp (λw=>.inr (.inl w)) id
  ·rcases sp ha with q|rfl
   ·exact .inl (.inr (.inr ⟨a,q,g⟩))
   ·exact .inr (nw x g)
theorem gB.pop{w:AV}(h:gB lo b S vL (lv++[d]))(hM:Mem H S)(hb:S'.ob b=.ce [w] 0)(fL:fa S' w (lv.map λd=>AV.ptr d.p 0))(hw:∀x,aj w x→aj vL x)(hn:S.n≤S'.n)(hk:∀x,x≠b→S'.ob x=S.ob x):gB lo b S' w lv∧ef b S S' vL (lv++[d]) w lv:=by
 have hl:∀{x},x∈lv→x∈lv++[d]:=λg=>List.mem_append_left _ g;have kd:∀a∈lv,∀x,a.own x→S'.ob x=S.ob x:=λa ha x hx=>hk x (h.ob' a (hl ha) x hx).1;refine⟨⟨hb,fL,λa ha=>(kd a ha a.p (.inl rfl)).trans (h.lb a (hl ha)),λa ha=>(h.ln a (hl ha)).keep hM λx hx _=>kd a ha x (.inr hx),λa ha=>h.n8 a (hl ha),λg=>h.bL (hw b g),λa ha=>h.pv a (hl ha),(List.pairwise_append.1 h.ap).1,λa ha x hx=>⟨(h.ob' a (hl ha) x hx).1,λg=>(h.ob' a (hl ha) x hx).2 (hw x g)⟩,h.vR,λx hx=>h.loL x (hw x hx),λa ha=>h.xm a (hl ha)⟩,hn,λx hx hno=>hk x λg=>hno (.inl g),λx hx=>.inl ?_⟩;rcases hx with g|g|⟨a,ha,g⟩
 ·exact .inl g
 ·exact .inr (.inl (hw x g))
 ·exact .inr (.inr ⟨a,hl ha,g⟩)
end
end
end Go.X
namespace Go.Proofs.YtcedghechlgecaaDoor
open Go Go.X Go.Proofs.YtcedghechlgecaaDoor.G
section
variable {H H':AH}{S S':LS}{K:KF}
def PGs(lo b:Nat)(S:LS)(vL:AV)(lv:List bK)(d:bK)(r:List (List Nat)×Err)(K:KF):Prop:=(r.2=none→∀H' S' dz v',Pn lo b H' S' dz (lv++[bK.mk d.p v' r.1 d.l])→ef b S S' vL (lv++[d]) dz (lv++[bK.mk d.p v' r.1 d.l])→K (.ret (.aL [])) H')∧∀e,r.2=some e→At lo S K e
structure GO(F:AV→AV→AV→AH→KF→Prop)(t:AV)(n:Nat)(bd:List az):Prop where
 run:∀{K:KF}{H:AH}{S:LS}{lo b:Nat}{vL v:AV}{lv:List bK}{d:bK}{L:List (List (List Nat))},Pn lo b H S vL (lv++[d])→lv.map bK.ns=L→gw S (gy lo) v bd→kV bd→Rp (lv++[d]) (dI bd+1)→PGs lo b S vL lv d (d.ns,kB n L d.l d.ns bd []) K→F (.ptr b 0) v t H K
theorem OV{lv:List bK}{L:List (List (List Nat))}{ns:List (List Nat)}(h:lv.map bK.ns=L++[ns])(s:List Nat):decide (∃d∈lv,s∈d.ns)=qN L ns s:=by
 unfold qN;have e:L.flatten++ns=(lv.map bK.ns).flatten:=by rw[h];simp
 rw[e];congr 1;simp only[List.mem_flatten,List.mem_map,eq_iff_iff];constructor
 ·rintro⟨d,hd,hs⟩;exact⟨d.ns,⟨d,hd,rfl⟩,hs⟩
 ·rintro⟨_,⟨d,hd,rfl⟩,hs⟩;exact⟨d,hd,hs⟩
theorem e77{R:dQ}{n:Nat}{e:au}(h10:R.1=g10)(h62:R.2.2.1=f62)(h83:R.2.2.2.2=f83)(hE:∀k a nn s op l fs,e=.mk k a nn s op l fs→∀x∈l,PE R.2.2.2.1 n x)(hB:∀k a nn s op l fs,e=.mk k a nn s op l fs→∀f∈fs,∃n',n=n'+1∧∀ps bd,f=.mk ps bd→GO R.2.1 (.func 84 [] []) n' bd):PE (Q6 R) (n+1) e:=by
 refine⟨λ{K H S lo b vL v lv L ns} hP hlv hv hw hR hK=>?_⟩;obtain⟨c,rfl,e1⟩:=hv;obtain⟨k,a,nn,s,op,l,fs⟩:=e;have hE:=hE k a nn s op l fs rfl;have hB:=hB k a nn s op l fs rfl;simp only[au.sz]at hR;simp only[au.wg]at hw;obtain⟨w6,EK,wgf⟩:=hw;have hll:=p9 l;have hfl:=MH fs;have hr1:=hR.1;have i6:Int.ofNat 6=((6:Nat):Int):=rfl;have iR:G.NL=1000000:=rfl;show Ek R K (Eg R K) (yo R K (sN R K G.NL)) (.ptr b 0) (.agg c) H;unfold Ek;refine RD hP.m e1.ones λH1 S1 m1 x1 o1 n1=>?_;have P1:=hP.ext m1 x1;have hnew:=hP.new;have hxl:S.n<S1.n:=by omega
 obtain⟨vl,vf,rfl,h8,L0,F0⟩:=e1.out;have FO:∀x,x<lo→S1.ob x=S.ob x:=λx hx=>x1.ob x (Nat.lt_of_lt_of_le hx hP.l);have L1:=uj L0 FO;have F1:=aeq F0 FO;have bx:∀{S2:LS}{xn:AV}{Ez:List bK},ef b S1 S2 vL lv xn Ez→S2.ob S.n=.ce [.int 0 (k:Int),.int 0 (a:Int),.int 0 (nn:Int),ai s,.int 0 (op:Int),vl,vf] 0:=λst=>(st.ob _ hxl hnew).trans o1;have pend:∀{e:Nat×Nat}{S2:LS}{xn:AV}{Ez:List bK},kE (n+1) L ns (.mk k a nn s op l fs)=some e→ef b S1 S2 vL lv xn Ez→At lo S2 K e:=λhe st=>(hK.2 _ he).le (by have:=st.n;omega) λx hx=>(P1.low st x hx).trans (FO x hx);have aq9:∀(q i:Nat) (dz:AV) (H':AH) (S':LS),i≤fs.length→fs.length-i<q→Pn lo b H' S' dz lv→(k=6∧qN L ns s=false∧s∉builtins→False)→cw (kE n L ns) l=none→cw (kF n (L++[ns])) (fs.take i)=none→ef b S1 S' vL lv dz lv→qI R K q (.ptr b 0) vf (fs.length:Int) (i:Int) H':=by
  intro q
  induction q with
  |zero=>intro i _ _ _ _ h;omega
  |succ q ih=>
   intro i dz H' S' hi hq P2 hno hel he0 st2;have hpre:∀{e:Nat×Nat},cw (kF n (L++[ns])) fs=some e→kE (n+1) L ns (.mk k a nn s op l fs)=some e:=λhe=>by
    rw[kE,if_neg (λg=>hno g),dP,hel,dP,he]
   show Eh R K (yn R K (vI R K (qI R K q))) (.ptr b 0) vf (fs.length:Int) (i:Int) H';unfold Eh;rw[cK];refine cx (λg=>?_) (λg=>?_)
   rotate_left
   ·have e:i=fs.length:=by omega
    subst e;rw[List.take_length]at he0;refine hK.1 ?_ H' S' dz P2 (x1.nV.trans st2);rw[kE,if_neg (λg=>hno g),dP,hel,dP,he0]
   have hil:i<fs.length:=by omega
   obtain⟨f,hf⟩:∃f,fs[i]? = some f:=⟨_,List.getElem?_eq_getElem hil⟩
   have hfm:=List.mem_of_getElem? hf;have hfs:=As hf;have hfw:=MP wgf hf;obtain⟨cf,t1,u1⟩:=aeq F1 (P1.low st2);have f1:=u1 i f hf;refine t1.load P2.m hil ?_;refine tT P2.m anU rfl f1.len f1.ones λH3 S3 m3 x3 o3 n3=>?_;have P3:=P2.ext m3 x3;obtain⟨n',hn',hwi⟩:=hB f hfm;obtain⟨ps,bd⟩:=f;have hwi:=hwi ps bd rfl;simp only[fm.sz]at hfs;have hfw:kV bd:=hfw;have f2:RF S3 (gy lo) (cf i) (.mk ps bd):=f1.go (λx hx=>x3.ob x (Nat.lt_of_lt_of_le hx P2.l)) λ_ h=>h;obtain⟨vp,vb,c5,N5,B5⟩:=f2.out;rw[c5]at o3;simp only[bY,aQ,Nat.zero_add];refine aD m3 P3.p.ob (v:=dz) rfl ?_;refine aD m3 o3 (v:=vp) rfl ?_;rw[h83];refine aq8 m3 N5 (λx hx=>Nat.lt_of_lt_of_le hx P3.l) (by omega) λH4 S4 v4 m4 x4 fr4 b4=>?_;have P4:=P3.ext m4 x4;rw[al];refine aD m4 P4.p.ob (v:=dz) rfl ?_;refine cC (adF P4.p.fL) ?_;refine fC fr4.one ?_;refine m4.cL ?_;refine dt m4 (l:=[v4,aP 0]) (λa ha=>by
    simp only[List.mem_cons,List.not_mem_nil,or_false]at ha;rcases ha with rfl|rfl
    ·exact fr4.one
    ·rfl) λH5 m5=>?_
   have m5:Mem H5 (S4.push (.ce [v4,aP 0] 0)):=m5;have x5:Ext S4 (S4.push (.ce [v4,aP 0] 0)):=Ext.push _ _;have o5:(S4.push (.ce [v4,aP 0] 0)).ob S4.n=.ce [v4,aP 0] 0:=LS.aq _ _;have n5:(S4.push (.ce [v4,aP 0] 0)).n=S4.n+1:=rfl;rw[m5.n,m4.n];refine cC (by show Nat.beq (S4.n+1) (S4.n+1)=true;exact Nat.beq_refl _) ?_;revert m5 x5 o5 n5;generalize S4.push (.ce [v4,aP 0] 0)=S5;intro m5 x5 o5 n5;refine m5.cL ?_;refine fC rfl ?_;refine dJ m5 rfl (λa ha=>by simp only[List.mem_singleton]at ha;subst ha;rfl) λH6 m6=>?_;have m6:Mem H6 (S5.push (.ce [.ptr S4.n 0] 0)):=m6;have x6:Ext S5 (S5.push (.ce [.ptr S4.n 0] 0)):=Ext.push _ _;have o6:(S5.push (.ce [.ptr S4.n 0] 0)).ob S5.n=.ce [.ptr S4.n 0] 0:=LS.aq _ _;have n6:(S5.push (.ce [.ptr S4.n 0] 0)).n=S5.n+1:=rfl;rw[m6.n];refine cC (by show Nat.beq (S5.n+1) (S5.n+1)=true;exact Nat.beq_refl _) ?_;revert m6 x6 o6 n6;generalize S5.push (.ce [.ptr S4.n 0] 0)=S6;intro m6 x6 o6 n6;have x46:=x5.trans x6;have P6:=P4.ext m6 x46;have lt4:∀{x},mr b dz lv x→x<S4.n:=λg=>P4.p.iL m4 g;have hr6:j9 S6 (λ_=>True) (.slice S5.n 0 1 1 1 true) [.ptr S4.n 0]:=.inr ⟨S5.n,0,1,true,[.ptr S4.n 0],0,rfl,by simp,trivial,o6,by simp,rfl⟩;have hbb:((lv.map λd=>AV.ptr d.p 0).length+[AV.ptr S4.n 0].length)*8≤1099511627776:=by
    rw[List.length_map,List.length_singleton];omega
   refine sg m6 P6.p.fL hr6 hbb (λa ha=>by simp only[List.mem_singleton]at ha;subst ha;rfl) λH7 S7 rh m7 n7 k7 f7 b7 _ _ _=>?_;have hbv:¬aj dz b:=P4.p.bL;have hbl:b<S4.n:=lt4 (.inl rfl);have e7:S7.ob b=.ce [dz] 0:=(k7 b (by omega) hbv).trans P6.p.ob;have hvL:∀x,aj dz x→x<S4.n:=λx hx=>lt4 (.inr (.inl hx));have b7':∀x,aj rh x→aj dz x∨S6.n≤x:=b7;refine bH m7 e7 (by omega) (by show 0<1;omega) f7.one λH8 m8=>?_;have m8:Mem H8 (S7.set b (.ce [rh] 0)):=m8;have k8:∀x,x≠b→(S7.set b (.ce [rh] 0)).ob x=S7.ob x:=λx hx=>LS.an _ _ hx;have o8:(S7.set b (.ce [rh] 0)).ob b=.ce [rh] 0:=LS.av _ _ _;have n8:(S7.set b (.ce [rh] 0)).n=S7.n:=rfl;revert m8 k8 o8 n8;generalize S7.set b (.ce [rh] 0)=S8;intro m8 k8 o8 n8;have q4:S8.ob S4.n=.ce [v4,aP 0] 0:=by
    rw[k8 _ (by omega),k7 _ (by omega) λg=>by have:=hvL _ g;omega,x6.ob _ (by omega)];exact o5
   have kb:∀x,x<S4.n→x≠b→¬aj dz x→S8.ob x=S4.ob x:=λx hx hne hb=>by
    rw[k8 x hne,k7 x (by omega) hb,x46.ob x hx]
   have an3:∀x,aj v4 x→x<S4.n:=λx hx=>fr4.lt m4 hx;have aeu:∀x,aj v4 x→x≠b∧¬aj dz x:=λx hx=>by
    have h1:=b4 x hx;have h2:=P3.p.iL m3 (x:=b) (.inl rfl);refine⟨by omega,λg=>?_⟩;have:=P3.p.iL m3 (x:=x) (.inr (.inl g));omega
   have fr8:fa S8 v4 (ps.map ai):=fr4.keep m4 λx hx hlt=>kb x hlt (aeu x hx).1 (aeu x hx).2;have f8:fa S8 rh ((lv++[bK.mk S4.n v4 ps 0]).map λd=>AV.ptr d.p 0):=by
    rw[List.map_append];exact f7.keep m7 λx hx _=>k8 x λg=>by
     rcases b7' x hx with w|w
     ·exact hbv (g ▸ w)
     ·omega
   obtain⟨p8,zQ⟩:=P3.p.push (S':=S8) m3 P3.l o8 f8 q4 fr8 N5.2 x4.n b4 (λg=>by have:=an3 _ g;omega) (λx hx=>(b7' x hx).imp id λw=>by have:=x4.n;omega) (λg=>by
    rcases b7' _ g with w|w
    ·have:=hvL _ w;omega
    ·omega) (λx hx g=>by
    have h1:=an3 x g;rcases b7' x hx with w|w
    ·exact(aeu x g).2 w
    ·omega) (by have:=x4.n;omega) (λx hx hne hb=>(kb x (by have:=x4.n;omega) hne hb).trans (x4.ob x hx))
   have P8:=P3.step m8 zQ p8;have an4:=st2.trans (x3.nV.trans zQ);have o38:=((x3.nV (b:=b) (vL:=dz) (lv:=lv)).trans zQ).ob;show yn R K (vI R K (qI R K q)) (.ptr b 0) (.ptr S'.n 0) vf (fs.length:Int) (i:Int) H8;unfold yn;have q3:S8.ob S'.n=.ce [vp,vb] 0:=(zQ.ob _ (by omega) P2.new).trans o3;simp only[bY,aQ,Nat.zero_add];refine aD m8 q3 (v:=vb) rfl ?_;have eKF:cw (kF n (L++[ns])) (fs.take (i+1))=kB n' (L++[ns]) 0 ps bd []:=by
    rw[kL _ _ _ hf,he0,dP];subst hn';rw[kF]
   refine hwi.run P8 hlv (ML B5 (P3.low zQ)) hfw ⟨?_,?_⟩ ⟨λhnn H9 S9 vL9 v9 P9 st9=>?_,λe he=>?_⟩
   ·rw[List.length_append,List.length_singleton];omega
   ·intro d hd;rcases List.mem_append.1 hd with g|g
    ·have:=hR.2 d g;omega
    ·rw[List.mem_singleton]at g;subst g;show ps.length+_≤_∧0+_≤_;omega
   ·show cR K (.ret (.aL [])) H9 _;rw[al];refine aD P9.m P9.p.ob (v:=vL9) rfl ?_;refine aD P9.m P9.p.ob (v:=vL9) rfl ?_;refine P9.p.fL.len ?_;rw[aO,List.length_map,List.length_append,List.length_singleton];simp only[pU,fz];refine w0 (by omega) (by omega) ?_;have ep:((lv.length+1:Nat):Int)-1=(lv.length:Int):=by omega
    rw[ep];refine pV P9.p.fL (by rw[List.length_map,List.length_append,List.length_singleton];omega) λw1 fw bw _ _=>?_;rw[List.map_append,List.take_left' (by simp)]at fw;refine bH P9.m P9.p.ob (by omega) (by show 0<1;omega) fw.one λHa ma=>?_;have ma:Mem Ha (S9.set b (.ce [w1] 0)):=ma;have ka:∀x,x≠b→(S9.set b (.ce [w1] 0)).ob x=S9.ob x:=λx hx=>LS.an _ _ hx;obtain⟨pa,sta⟩:=P9.p.pop (S':=S9.set b (.ce [w1] 0)) P9.m (LS.av _ _ _) (fw.keep P9.m λx hx _=>ka x λg=>P9.p.bL (g ▸ (bw x).1 hx)) (λx hx=>(bw x).1 hx) (Nat.le_refl _) ka;have Pa:=P9.step ma sta pa;show vI R K (qI R K q) (.ptr b 0) vf (fs.length:Int) (i:Int) Ha;unfold vI;rw[dS,fz];refine w0 (by omega) (by omega) ?_;exact ih (i+1) w1 Ha _ (by omega) (by omega) Pa hno hel (eKF.trans hnn) (an4.trans (st9.trans sta))
   ·intro H9 S9 m9 n9 k9;show cR K (.cG _) H9 _;rw[ij];refine(pend (hpre (vS _ _ (i+1) (eKF.trans he))) an4) H9 S9 m9 n9 k9
 have ara:∀(q i:Nat) (dz:AV) (H':AH) (S':LS),i≤l.length→l.length-i<q→Pn lo b H' S' dz lv→(k=6∧qN L ns s=false∧s∉builtins→False)→cw (kE n L ns) (l.take i)=none→ef b S1 S' vL lv dz lv→sN R K q (.ptr b 0) (.ptr S.n 0) vl (l.length:Int) (i:Int) H':=by
  intro q
  induction q with
  |zero=>intro i _ _ _ _ h;omega
  |succ q ih=>
   intro i dz H' S' hi hq P2 hno he0 st2;show Ej R K (sN R K q) (Ei R K (qI R K G.NL)) (.ptr b 0) (.ptr S.n 0) vl (l.length:Int) (i:Int) H';unfold Ej;simp only[jK];rw[cK];refine cx (λg=>?_) (λg=>?_)
   rotate_left
   ·have e:i=l.length:=by omega
    subst e;rw[List.take_length]at he0;unfold Ei;simp only[aQ,Nat.zero_add];refine aD P2.m (bx st2) (v:=vf) rfl ?_;refine(aeq F1 (P1.low st2)).choose_spec.1.len ?_;rw[aO];exact aq9 G.NL 0 dz H' S' (Nat.zero_le _) (by omega) P2 hno he0 rfl st2
   have hil:i<l.length:=by omega
   obtain⟨e,he⟩:∃e,l[i]? = some e:=⟨_,List.getElem?_eq_getElem hil⟩
   have hem:=List.mem_of_getElem? he;have hsz:=nd he;obtain⟨cl,s1,g1⟩:=uj L1 (P1.low st2);have e1:=g1 i e he;refine s1.load P2.m hil ?_;refine tT P2.m fy rfl e1.len e1.ones λH3 S3 m3 x3 o3 n3=>?_;refine gO m3 o3 e1.len ?_;have P3:=P2.ext m3 x3;refine(hE e hem).run P3 hlv ⟨_,rfl,e1.go (λx hx=>x3.ob x (Nat.lt_of_lt_of_le hx P2.l)) λ_ h=>h⟩ (sX EK he) (hR.le (by omega)) ⟨λhn H4 S4 EL P4 kX=>?_,λp hp H4 S4 m4 n4 k4=>?_⟩
   ·show cR K (.ret (.aL [])) H4 _;rw[al,dS,fz];refine w0 (by omega) (by omega) ?_;refine ih (i+1) EL H4 S4 (by omega) (by omega) P4 hno ?_ (st2.trans (x3.nV.trans kX));rw[kL _ _ _ he,he0,hn];rfl
   ·show cR K (.cG _) H4 _;rw[ij];refine(pend (e:=p) ?_ (st2.trans x3.nV)) H4 S4 m4 n4 k4;rw[kE,if_neg (λg=>hno g),dP,vS _ _ (i+1) (by rw[kL _ _ _ he,he0,hp];rfl)];rfl
 have rest:∀(H2:AH) (S2:LS),Mem H2 S2→Ext S1 S2→(k=6∧qN L ns s=false∧s∉builtins→False)→yo R K (sN R K G.NL) (.ptr b 0) (.ptr S.n 0) H2:=λH2 S2 m2 x2 hno=>by
  have P2:=P1.ext m2 x2;unfold yo;simp only[aQ,Nat.zero_add];refine aD m2 (bx x2.nV) (v:=vl) rfl ?_;refine(uj L1 (P1.low (x2.nV (b:=b) (vL:=vL) (lv:=lv)))).choose_spec.1.len ?_;rw[aO];exact ara G.NL 0 vL H2 S2 (Nat.zero_le _) (by omega) P2 hno rfl x2.nV
 simp only[aQ,Nat.zero_add];refine aD m1 o1 (v:=.int 0 (k:Int)) rfl ?_;rw[aO,bu,i6];by_cases k6:k=6
 ·rw[decide_eq_true (by omega),aG];refine aD m1 o1 (v:=ai s) rfl ?_;rw[h62];refine hs62 m1 P1.p h8 (by omega) (λd hd=>by have:=(hR.2 d hd).1;omega) ?_;rw[al,aM,OV hlv];cases ha:qN L ns s with
  |true=>
   simp only[Bool.not_true,aH];exact rest H1 S1 m1 (Ext.refl _) λg=>by rw[ha]at g;cases g.2.1
  |false=>
   simp only[Bool.not_false,aG];refine aD m1 o1 (v:=ai s) rfl ?_;rw[h10];refine aq2 m1 P1.t h8 λH2 S2 m2 x2=>?_;rw[al,aM];by_cases hb:s∈builtins
   ·rw[decide_eq_true hb];simp only[Bool.not_true,aH];exact rest H2 S2 m2 x2 λg=>g.2.2 hb
   ·rw[decide_eq_false hb];simp only[Bool.not_false,aG];unfold Eg;simp only[aQ,Nat.zero_add];refine aD m2 (bx x2.nV) (v:=.int 0 (a:Int)) rfl ?_;rw[aO];refine(pend (e:=(14,a)) ?_ x2.nV) H2 S2 m2 (Nat.le_refl _) λ_ _=>rfl;rw[kE,if_pos ⟨k6,ha,hb⟩,qb]
 ·rw[decide_eq_false (by omega),aH];exact rest H1 S1 m1 (Ext.refl _) λg=>k6 g.1
end
end Go.Proofs.YtcedghechlgecaaDoor
namespace Go.X
section
variable {H:AH}{S S':LS}
section
variable {lo b:Nat}{vL:AV}{lv:List bK}{d:bK}
theorem gB.GP{k:AV→Prop}(h:gB lo b S vL (lv++[d]))(hM:Mem H S)(hk:k d.v):ao (.ptr d.p 0) (af 0 (.ptr d.p 0) λv=>ad v H k):=by
 simp only[bY,aQ,Nat.zero_add];exact aD hM (h.lb d (List.mem_append_right _ (List.mem_singleton_self _))) (v:=d.v) rfl hk
theorem gB.ldl{k:Int→Prop}(h:gB lo b S vL (lv++[d]))(hM:Mem H S)(hk:k (d.l:Int)):ao (.ptr d.p 0) (af 1 (.ptr d.p 0) λv=>ad v H λv3=>cI 0 v3 k):=by
 simp only[bY,aQ,Nat.zero_add];refine aD hM (h.lb d (List.mem_append_right _ (List.mem_singleton_self _))) (v:=aP d.l) rfl ?_;show cI 0 (.int 0 _) _;rw[aO];exact hk
end
theorem ah6{n:Nat}{L:List (List (List Nat))}{lp:Nat}{r:List (List Nat)×Err}{b:List az}(i:Nat){e:Nat×Nat}(h:((b.take i).foldl (kS n L lp) r).2=some e):(b.foldl (kS n L lp) r).2=some e:=by
 have h2:b.foldl (kS n L lp) r=(b.drop i).foldl (kS n L lp) ((b.take i).foldl (kS n L lp) r):=by
  rw[←List.foldl_append,List.take_append_drop]
 rw[h2];generalize (b.take i).foldl (kS n L lp) r=q at h;obtain⟨m,er⟩:=q;rw[EJ];have h:er=some e:=h;subst h;rfl
end
end Go.X
namespace Go.Proofs.YtcedghechlgecaaDoor
open Go Go.X Go.Proofs.YtcedghechlgecaaDoor.G
section
variable {H H':AH}{S S':LS}{K:KF}
theorem Rp.last{lv:List bK}{d:bK}{z z' p l':Nat}{v:AV}{ns':List (List Nat)}(h:Rp (lv++[d]) z)(h1:z'≤z)(h2:ns'.length+z'≤d.ns.length+z)(h3:l'+z'≤d.l+z):Rp (lv++[bK.mk p v ns' l']) z':=by
 refine⟨?_,λa ha=>?_⟩
 ·have:=h.1;rw[List.length_append,List.length_singleton]at this ⊢;omega
 ·rcases List.mem_append.1 ha with g|g
  ·have:=h.2 a (List.mem_append_left _ g);omega
  ·rw[List.mem_singleton]at g;subst g;have:=h.2 d (List.mem_append_right _ (List.mem_singleton_self _));show ns'.length+z'≤_∧l'+z'≤_;omega
structure OW(C:AH→KF→Prop)(n lo b:Nat)(S0:LS)(vU:AV)(lv:List bK)(d0:bK)(L:List (List (List Nat)))(thn:List au):Prop where
 run:∀{K:KF}{H:AH}{S:LS}{vL:AV}{d:bK},Pn lo b H S vL (lv++[d])→ef b S0 S vU (lv++[d0]) vL (lv++[d])→d.p=d0.p→d.l=d0.l→lv.map bK.ns=L→Rp (lv++[d]) (fD thn+1)→PGo lo b S vL (lv++[d]) (cw (kE n L d.ns) thn) K→C H K
noncomputable def clo(ct:List (Nat×dq))(t:AV):AH→KF→Prop:=λH K=>uE t λg x y=>bT (gb Tryd.prog g) (jI ct g (x++([]++y)) H K)
structure PB(F:AV→AV→AV→AH→KF→Prop)(C:AV→AH→KF→Prop)(n:Nat)(bd:List az)(thn:List au):Prop where
 run:∀{K:KF}{H:AH}{S:LS}{lo b:Nat}{vL v t:AV}{lv:List bK}{d:bK}{L:List (List (List Nat))},Pn lo b H S vL (lv++[d])→lv.map bK.ns=L→gw S (gy lo) v bd→kV bd→OW (C t) n lo b S vL lv d L thn→Rp (lv++[d]) (dI bd+fD thn+1)→PGs lo b S vL lv d (d.ns,kB (n+1) L d.l d.ns bd thn) K→F (.ptr b 0) v t H K
structure lG(F:AV→AV→AH→KF→Prop)(n:Nat)(s:az):Prop where
 run:∀{K:KF}{H:AH}{S:LS}{lo b:Nat}{vL v:AV}{lv:List bK}{d:bK}{L:List (List (List Nat))},Pn lo b H S vL (lv++[d])→lv.map bK.ns=L→rvS S (gy lo) v s→s.wg→Rp (lv++[d]) s.sz→PGs lo b S vL lv d (kS n L d.l (d.ns,none) s) K→F (.ptr b 0) v H K
theorem b20{R:iY}{n:Nat}{bd:List az}{thn:List au}(h44:R.2.2.1=f44)(hS:∀s∈bd,lG R.2.2.2.1 n s):PB (QY R) (clo (jF R)) n bd thn:=by
 refine⟨λ{K H S lo b vL v t lv d L} hP hL hb hwb hC hR hK=>?_⟩;have hbl:=MG bd;have hr1:=hR.1;have hd:d∈lv++[d]:=List.mem_append_right _ (List.mem_singleton_self _);have hrd:=hR.2 d hd;rw[List.length_append,List.length_singleton]at hr1;show DX R K (vz R K G.NL) (.ptr b 0) v t H;unfold DX;rw[h44];refine aet hP.m hP.p (by omega) ?_;rw[al];refine hP.p.GP hP.m ?_;refine(hP.p.ln d hd).len ?_;rw[aO,List.length_map];refine hb.choose_spec.1.len ?_;rw[aO];have kbE:∀{e:Nat×Nat},(bd.foldl (kS n L d.l) (d.ns,none)).2=some e→kB (n+1) L d.l d.ns bd thn=some e:=λh=>by
  rw[kB,h,qb]
 have loop:∀(q i:Nat) (dz v':AV) (H':AH) (S':LS),i≤bd.length→bd.length-i<q→Pn lo b H' S' dz (lv++[bK.mk d.p v' ((bd.take i).foldl (kS n L d.l) (d.ns,none)).1 d.l])→((bd.take i).foldl (kS n L d.l) (d.ns,none)).2=none→ef b S S' vL (lv++[d]) dz (lv++[bK.mk d.p v' ((bd.take i).foldl (kS n L d.l) (d.ns,none)).1 d.l])→vz R K q (.ptr b 0) t (.ptr d.p 0) (d.ns.length:Int) v (bd.length:Int) (i:Int) H':=by
  intro q
  induction q with
  |zero=>intro i _ _ _ _ _ h;omega
  |succ q ih=>
   intro i dz v' H' S' hi hq P1 he0 st1;show DW R K (vz R K q) (DV R K) (.ptr b 0) t (.ptr d.p 0) (d.ns.length:Int) v (bd.length:Int) (i:Int) H';unfold DW;rw[cK];have lw:=hP.low st1;obtain⟨x,ex,hx⟩:=OQ n L d.l (bd.take i) (d.ns,none);have ex:((bd.take i).foldl (kS n L d.l) (d.ns,none)).1=d.ns++x:=ex;have hxl:((bd.take i).foldl (kS n L d.l) (d.ns,none)).1.length≤d.ns.length+dI (bd.take i):=by
    rw[ex,List.length_append];omega
   refine cx (λg=>?_) (λg=>?_)
   ·have hil:i<bd.length:=by omega
    obtain⟨s,hs⟩:∃s,bd[i]? = some s:=⟨_,List.getElem?_eq_getElem hil⟩
    have hsm:=List.mem_of_getElem? hs;have t1:=aep hs;have t2:=GN bd (i+1);obtain⟨cl,s1,g1⟩:=ML hb lw;have e1:=g1 i s hs;refine s1.load P1.m hil ?_;refine tT P1.m (z:=[.int 0 (.ofNat 0),.int 0 (.ofNat 0),.ab,.ab,.ab]) (λa ha=>by
     simp only[List.mem_cons,List.not_mem_nil,or_false]at ha;rcases ha with rfl|rfl|rfl|rfl|rfl<;>rfl) rfl e1.len e1.ones λH2 S2 m2 x2 o2 n2=>?_
    refine gO m2 o2 e1.len ?_;have P2:=P1.ext m2 x2;have er:(bd.take i).foldl (kS n L d.l) (d.ns,none)=(((bd.take i).foldl (kS n L d.l) (d.ns,none)).1,none):=Prod.ext rfl he0;have enx:(bd.take (i+1)).foldl (kS n L d.l) (d.ns,none)=kS n L d.l (((bd.take i).foldl (kS n L d.l) (d.ns,none)).1,none) s:=by
     rw[yA hs,List.foldl_append,←er];rfl
    refine(hS s hsm).run P2 hL ⟨_,rfl,e1.go (λx hx=>x2.ob x (Nat.lt_of_lt_of_le hx P1.l)) λ_ h=>h⟩ (MQ hwb hs) (hR.last (by omega) (by omega) (by omega)) ⟨λhn H3 S3 kM v3 P3 eX=>?_,λe he=>?_⟩
    ·show cR K (.ret (.aL [])) H3 _;rw[al,dS,fz];refine w0 (by omega) (by omega) ?_;have P3:Pn lo b H3 S3 kM (lv++[bK.mk d.p v3 (kS n L d.l (((bd.take i).foldl (kS n L d.l) (d.ns,none)).1,none) s).1 d.l]):=P3;have eX:ef b S2 S3 dz (lv++[bK.mk d.p v' ((bd.take i).foldl (kS n L d.l) (d.ns,none)).1 d.l]) kM (lv++[bK.mk d.p v3 (kS n L d.l (((bd.take i).foldl (kS n L d.l) (d.ns,none)).1,none) s).1 d.l]):=eX;have hn:(kS n L d.l (((bd.take i).foldl (kS n L d.l) (d.ns,none)).1,none) s).2=none:=hn;rw[←enx]at P3 eX hn;exact ih (i+1) kM v3 H3 S3 (by omega) (by omega) P3 hn (st1.trans (x2.nV.trans eX))
    ·intro H3 S3 m3 n3 k3;show cR K (.cG _) H3 _;rw[ij];have he:(kS n L d.l (((bd.take i).foldl (kS n L d.l) (d.ns,none)).1,none) s).2=some e:=he;rw[←enx]at he;refine hK.2 e (kbE (ah6 (i+1) he)) H3 S3 m3 (by have:=st1.n;have:=x2.n;omega) λx hx=>?_;rw[k3 x hx,x2.ob x (Nat.lt_of_lt_of_le hx P1.l),lw x hx]
   ·have e:i=bd.length:=by omega
    subst e;rw[List.take_length]at P1 he0 st1 ex hxl;unfold DV;refine hC.run (K:=λo1 H2=>cR K o1 H2 _) P1 st1 rfl rfl hL (hR.last (by omega) (by omega) (by omega)) ⟨λhn H3 S3 kM P3 eX=>?_,λe he=>?_⟩
    ·show cR K (.ret (.aL [])) H3 _;rw[al];refine P3.p.GP P3.m ?_;refine P3.p.cut P3.m P3.l (ns:=d.ns) (e:=x) ex λH4 S4 v4 m4 kX p4=>?_;refine hK.1 ?_ H4 S4 kM v4 (P3.step m4 kX p4) (st1.trans (eX.trans kX));show kB (n+1) L d.l d.ns bd thn=none;rw[kB,he0,dP];exact hn
    ·intro H3 S3 m3 n3 k3;show cR K (.cG _) H3 _;rw[ij];refine hK.2 e ?_ H3 S3 m3 (by have:=st1.n;omega) λx hx=>?_
     ·show kB (n+1) L d.l d.ns bd thn=some e;rw[kB,he0,dP];exact he
     ·rw[k3 x hx,lw x hx]
 have iR:G.NL=1000000:=rfl;generalize G.NL=iq at iR ⊢;exact loop iq 0 vL d.v H S (Nat.zero_le _) (by omega) hP rfl ef.refl
theorem af4{C:AH→KF→Prop}{n lo b:Nat}{S0:LS}{vU:AV}{lv:List bK}{d0:bK}{L:List (List (List Nat))}(h:∀H K,K (.ret (.aL [])) H→C H K):OW C n lo b S0 vU lv d0 L []:=
 ⟨λ{K H S vL d} hP _ _ _ _ _ hK=>h H K (hK.1 rfl H S vL hP ef.refl)⟩
theorem PB.zero{F:AV→AV→AV→AH→KF→Prop}{C:AV→AH→KF→Prop}{n:Nat}{bd:List az}{t:AV}(h:PB F C n bd [])(ht:∀H K,K (.ret (.aL [])) H→C t H K):GO F t (n+1) bd:=
 ⟨λhP hL hb hw hR hK=>h.run hP hL hb hw (af4 ht) (hR.le (by simp only[fD];omega)) hK⟩
section
variable {R:iY}
theorem an5(h:R.2.1=f21):∀H K,K (.ret (.aL [])) H→clo (jF R) (.func 21 [] []) H K:=λH K hk=>by
 show bT (gb Tryd.prog 21) (jI (jF R) 21 [] H K);refine cC (by kernel_rfl) ?_;show R.2.1 H K;rw[h];exact hk
theorem an6(h:R.2.2.2.2.2.2.1=f67):∀H K,K (.ret (.aL [])) H→clo (jF R) (.func 67 [] []) H K:=λH K hk=>by
 show bT (gb Tryd.prog 67) (jI (jF R) 67 [] H K);refine cC (by kernel_rfl) ?_;show R.2.2.2.2.2.2.1 H K;rw[h];exact hk
theorem an7(h:R.2.2.2.2.2.2.2.2.1=f79):∀H K,K (.ret (.aL [])) H→clo (jF R) (.func 79 [] []) H K:=λH K hk=>by
 show bT (gb Tryd.prog 79) (jI (jF R) 79 [] H K);refine cC (by kernel_rfl) ?_;show R.2.2.2.2.2.2.2.2.1 H K;rw[h];exact hk
theorem an8(h:R.2.2.2.2.2.2.2.2.2=f84):∀H K,K (.ret (.aL [])) H→clo (jF R) (.func 84 [] []) H K:=λH K hk=>by
 show bT (gb Tryd.prog 84) (jI (jF R) 84 [] H K);refine cC (by kernel_rfl) ?_;show R.2.2.2.2.2.2.2.2.2 H K;rw[h];exact hk
theorem an9{R:kJ}(h:R.2.2.2.1=f65):∀H K,K (.ret (.aL [])) H→clo (mU R) (.func 65 [] []) H K:=λH K hk=>by
 show bT (gb Tryd.prog 65) (jI (mU R) 65 [] H K);refine cC (by kernel_rfl) ?_;show R.2.2.2.1 H K;rw[h];exact hk
end
end
end Go.Proofs.YtcedghechlgecaaDoor
namespace Go.X
section
variable {H:AH}{S S':LS}
section
variable {lo b:Nat}{vL:AV}{lv:List bK}{d:bK}
theorem gB.app'{Q:Nat→Prop}{z:Nat}{a1:AV}{l:List (List Nat)}{k:AH→Prop}(h:gB lo b S vL (lv++[d]))(hM:Mem H S)(hlo:lo≤S.n)(hz:S.ob z=.ce [.ptr d.p 0] 0)(hzl:z<S.n)(hzo:¬mr b vL (lv++[d]) z)(hr:j9 S Q a1 (l.map ai))(h8:∀t∈l,B8 t)(hl:d.ns.length+l.length≤1000000)
  (hk:∀H' S' v',Mem H' S'→ef b S S' vL (lv++[d]) vL (lv++[{ d with v:=v',ns:=d.ns++l }])→gB lo b S' vL (lv++[{ d with v:=v',ns:=d.ns++l }])→k H'):cQ 1 16 d.v a1 H λv14 eM=>ad (.ptr z 0) eM λv9=>bT (bj v9 (.ptr d.p 0)) (ao (.ptr d.p 0) (af 0 (.ptr d.p 0) λv16=>ah 1 v16 v14 eM k)):=by
 have hd:d∈lv++[d]:=List.mem_append_right _ (List.mem_singleton_self _);have hdp:d.p<S.n:=h.iL hM (.inr (.inr ⟨d,hd,.inl rfl⟩));have hbb:((d.ns.map ai).length+(l.map ai).length)*16≤1099511627776:=by
  rw[List.length_map,List.length_map];omega
 refine sg hM (h.ln d hd) hr hbb (λa ha=>by obtain⟨t,_,rfl⟩:=List.mem_map.1 ha;rfl) λH1 S1 v1 m1 n1 k1 f1 b1 _ _ _=>?_;have e1:S1.ob d.p=.ce [d.v,aP d.l] 0:=(k1 _ hdp (h.pv d hd)).trans (h.lb d hd);refine aD m1 ((k1 z hzl λg=>hzo (.inr (.inr ⟨d,hd,.inr g⟩))).trans hz) (v:=.ptr d.p 0) rfl ?_;refine cC (by simp[bj]) ?_;simp only[bY,aQ,Nat.zero_add];refine bH m1 e1 (by omega) (by show 0<2;omega) f1.one λH2 m2=>?_;have m2:Mem H2 (S1.set d.p (.ce [v1,aP d.l] 0)):=m2;have k2:∀x,x≠d.p→(S1.set d.p (.ce [v1,aP d.l] 0)).ob x=S1.ob x:=λx hx=>LS.an _ _ hx;have hpv:¬aj v1 d.p:=λg=>(b1 _ g).elim (h.pv d hd) (by omega);have hk3:∀x,x<S.n→x≠d.p→¬aj d.v x→(S1.set d.p (.ce [v1,aP d.l] 0)).ob x=S.ob x:=λx hx hne hb=>(k2 x hne).trans (k1 x hx hb);refine hk H2 _ v1 m2 (h.nV rfl b1 n1 hk3) (h.upd hM rfl (LS.av _ _ _) ?_ ?_ hpv b1 hlo hk3)
 ·show fa _ v1 ((d.ns++l).map ai);rw[List.map_append];exact f1.keep m1 λx hx _=>k2 x λg=>hpv (g ▸ hx)
 ·intro t ht;exact(List.mem_append.1 ht).elim (h.n8 d hd t) (h8 t)
theorem arb{g:Nat}{x y:List AV}{k:AV→AH→Prop}(hM:Mem H S)(hk:∀H' S',Mem H' S'→Ext S S'→S'.ob S.n=.ce [.func g x y] 0→S'.n=S.n+1→k (.ptr S.n 0) H'):mj (aB H) (.func g x y) k:=by
 show hN (aB H) [.func g x y] k;exact dt hM (λa ha=>by simp only[List.mem_singleton]at ha;subst ha;rfl) λH1 m1=>hk H1 _ m1 (Ext.push _ _) (LS.aq _ _) rfl
theorem arc{p o:Nat}{k:AV→AH→Prop}(hM:Mem H S)(hk:∀H' S',Mem H' S'→Ext S S'→S'.ob S.n=.ce [.ptr p o] 0→S'.n=S.n+1→k (.ptr S.n 0) H'):mj (aB H) (.ptr p o) k:=by
 show hN (aB H) [.ptr p o] k;exact dt hM (λa ha=>by simp only[List.mem_singleton]at ha;subst ha;rfl) λH1 m1=>hk H1 _ m1 (Ext.push _ _) (LS.aq _ _) rfl
theorem box1{v z:AV}{k:AV→AH→Prop}(hM:Mem H S)(hz:z.one=true)(h1:v.one=true)(hk:∀H' S',Mem H' S'→Ext S S'→S'.ob S.n=.ce [v] 0→S'.n=S.n+1→k (.ptr S.n 0) H'):eJ H (hN (aB H) [z] λv8 H9=>ah 1 v8 v H9 λcm=>k v8 cm):=by
 refine e8 (dt hM (λa ha=>by simp only[List.mem_singleton]at ha;subst ha;exact hz) λH1 m1=>?_);refine bH m1 (LS.aq _ _) (by omega) (by show 0<1;omega) h1 λH2 m2=>?_;exact hk H2 _ m2 ((Ext.push S _).set (Nat.le_refl _) _) (LS.av _ _ _) rfl
end
end
end Go.X
namespace Go.Proofs.YtcedghechlgecaaDoor
open Go Go.X Go.Proofs.YtcedghechlgecaaDoor.G
section
variable {H H':AH}{S S':LS}{K:KF}
theorem ard{MT:iY}{pJ:kJ}{a6 a5 n lo b l1:Nat}{t vLb vU:AV}{Sb S0:LS}{lv:List bK}{db d0:bK}{L:List (List (List Nat))}{thn:List au}(h:MT.2.2.2.2.2.2.2.1=Em pJ)(o6:S0.ob a6=.ce [.ptr d0.p 0] 0)(o5:S0.ob a5=.ce [t] 0)(l6:a6<S0.n)(l5:a5<S0.n)(w6:¬mr b vU (lv++[d0]) a6)(w5:¬mr b vU (lv++[d0]) a5)(hl:d0.l=l1+1)(hb:ef b Sb S0 vLb (lv++[db]) vU (lv++[d0]))(hp:db.p=d0.p)(hdl:db.l=l1)(hT:OW (clo (mU pJ) t) n lo b Sb vLb lv db L thn):OW (clo (jF MT) (.func 78 [] [.ptr a6 0,.ptr a5 0])) n lo b S0 vU lv d0 L thn:=by
 refine⟨λ{K H S vL d} hP st OX hld hL hR hK=>?_⟩;obtain⟨p,v,ns,l⟩:=d;have OX:p=d0.p:=OX;have hld:l=d0.l:=hld;have hrl:l+(fD thn+1)≤800000:=(hR.2 (bK.mk p v ns l) (List.mem_append_right _ (List.mem_singleton_self _))).2;show bT (gb Tryd.prog 78) (jI (jF MT) 78 [.ptr a6 0,.ptr a5 0] H K);refine cC (by kernel_rfl) ?_;show MT.2.2.2.2.2.2.2.1 (.ptr a6 0) (.ptr a5 0) H K;rw[h];show El pJ K (yp pJ K) (.ptr a6 0) (.ptr a5 0) H;unfold El;have o6':=(st.ob _ l6 w6).trans o6;rw[←OX]at o6';refine aD hP.m o6' (v:=.ptr p 0) rfl ?_;refine hP.p.ldl hP.m ?_;show ax 0 (Int.sub (l:Int) (.ofNat 1)) _;simp only[pU,fz];refine w0 (by omega) (by omega) ?_;have el:(l:Int)-1=((l1:Nat):Int):=by omega
 rw[el];refine hP.p.kO (r:=l1) hP.m hP.l λH1 S1 m1 st1 p1=>?_;have st1:ef b S S1 vL (lv++[bK.mk p v ns l]) vL (lv++[bK.mk p v ns l1]):=st1;have p1:gB lo b S1 vL (lv++[bK.mk p v ns l1]):=p1;have P1:=hP.step m1 st1 p1;have o5':S1.ob a5=.ce [t] 0:=((st.trans st1).ob _ l5 w5).trans o5;refine aD m1 o5' (v:=t) rfl ?_;refine hT.run (K:=λo9 cm=>cR K o9 cm λv11=>yp pJ K (.ptr a6 0) cm) P1 (hb.trans (st.trans st1)) (OX.trans hp.symm) hdl.symm hL (hR.last (Nat.le_refl _) (Nat.le_refl _) (by show l1+_≤l+_;omega)) ⟨λhn H2 S2 xn P2 st2=>?_,λe he H2 S2 m2 n2 k2=>?_⟩
 ·show cR K (.ret (.aL [])) H2 _;rw[al];unfold yp;have are:S2.ob a6=.ce [.ptr p 0] 0:=by
   rw[OX];exact((st.trans (st1.trans st2)).ob _ l6 w6).trans o6
  refine aD P2.m are (v:=.ptr p 0) rfl ?_;refine P2.p.ldl P2.m ?_;show ax 0 (Int.add (l1:Int) (.ofNat 1)) _;simp only[dS,fz];refine w0 (by omega) (by omega) ?_;have el:(l1:Int)+1=((l:Nat):Int):=by omega
  rw[el];refine P2.p.kO (r:=l) P2.m P2.l λH3 S3 m3 eX p3=>?_;have eX:ef b S2 S3 xn (lv++[bK.mk p v ns l1]) xn (lv++[bK.mk p v ns l]):=eX;have p3:gB lo b S3 xn (lv++[bK.mk p v ns l]):=p3;exact hK.1 hn H3 S3 xn (P2.step m3 eX p3) (st1.trans (st2.trans eX))
 ·show cR K (.cG _) H2 _;rw[ij];exact hK.2 e he H2 S2 m2 (by have:=st1.n;omega) λx hx=>(k2 x hx).trans (hP.low st1 x hx)
theorem arf{pJ:kJ}{OY:ry}{a2 a3 n lo b k a:Nat}{vU wn wl wb:AV}{H0:AH}{S0:LS}{lv:List bK}{d0:bK}{L:List (List (List Nat))}{l:List au}(h:pJ.2.2.1=Ed OY)(hX:OU OY n l)(hP0:Pn lo b H0 S0 vU (lv++[d0]))(o2:S0.ob a2=.ce [.ptr b 0] 0)(o3:S0.ob a3=.ce [.int 0 (k:Int),.int 0 (a:Int),wn,wl,wb] 0)(l2:a2<S0.n)(l3:a3<S0.n)(w2:¬mr b vU (lv++[d0]) a2)(w3:¬mr b vU (lv++[d0]) a3)(hv:pt S0 (gy lo) wl l)(hw:j1 l):OW (clo (mU pJ) (.func 64 [] [.ptr a2 0,.ptr a3 0])) n lo b S0 vU lv d0 L l:=by
 refine⟨λ{K H S vL d} hP st OX hld hL hR hK=>?_⟩;show bT (gb Tryd.prog 64) (jI (mU pJ) 64 [.ptr a2 0,.ptr a3 0] H K);refine cC (by kernel_rfl) ?_;show pJ.2.2.1 (.ptr a2 0) (.ptr a3 0) H K;rw[h];show Ec OY K (.ptr a2 0) (.ptr a3 0) H;unfold Ec;refine aD hP.m ((st.ob _ l2 w2).trans o2) (v:=.ptr b 0) rfl ?_;refine nf ((st.ob _ l3 w3).trans o3) hP.m (j:=3) rfl ?_;refine hX.run hP (L:=L) (ns:=d.ns) (by rw[List.map_append,hL];rfl) (uj hv (hP0.low st)) hw (hR.le (by omega)) ⟨λhn H2 S2 xn P2 st2=>?_,λe he H2 S2 m2 n2 k2=>?_⟩
 ·show cR K (.ret (.aL [])) H2 _;rw[al];exact hK.1 hn H2 S2 xn P2 st2
 ·show cR K (.cG _) H2 _;rw[ij];exact hK.2 e he H2 S2 m2 n2 k2
structure PLp(F:AV→AV→AV→AH→KF→Prop)(C2:AV→AH→KF→Prop)(n k a:Nat)(nm:List (List Nat))(l:List au)(bs:List (List az))(thn:List au):Prop where
 run:∀{K:KF}{H:AH}{S:LS}{lo b g:Nat}{vL v:AV}{ys:List AV}{lv:List bK}{d:bK}{L:List (List (List Nat))},Pn lo b H S vL (lv++[d])→lv.map bK.ns=L→rvS S (gy lo) v (.mk k a nm l bs)→qa bs→OW (C2 (.func g [] ys)) n lo b S vL lv d L thn→Rp (lv++[d]) (nm.length+pw bs+fD thn+1)→PGs lo b S vL lv d (d.ns,cw (λbd=>kB (n+1) L (d.l+1) (if k=5∨k=8 then d.ns else d.ns++nm) bd thn) bs) K→F (.ptr b 0) v (.func g [] ys) H K
theorem l63{R:eO}{MT:iY}{pJ:kJ}{n k a:Nat}{nm:List (List Nat)}{l:List au}{bs:List (List az)}{thn:List au}(h44:R.2=f44)(h78:MT.2.2.2.2.2.2.2.1=Em pJ)(hB:∀bd∈bs,PB R.1 (clo (jF MT)) n bd thn):PLp (Hj R) (clo (mU pJ)) n k a nm l bs thn:=by
 refine⟨λ{K H S lo b g vL v ys lv d L} hP hL hv hwb hC hR hK=>?_⟩;obtain⟨c,rfl,e1⟩:=hv;have hbl:=wX bs;have hr1:=hR.1;have hd:∀d':bK,d'∈lv++[d']:=λd'=>List.mem_append_right _ (List.mem_singleton_self _);have hrd:=hR.2 d (hd d);rw[List.length_append,List.length_singleton]at hr1;have i5:Int.ofNat 5=((5:Nat):Int):=rfl;have i8:Int.ofNat 8=((8:Nat):Int):=rfl;show Eb R K (Ea R K (D9 R K (vH R K (po R K G.NL))) (vH R K (po R K G.NL))) (.ptr b 0) (.agg c) (.func g [] ys) H;unfold Eb;have iR:G.NL=1000000:=rfl;generalize G.NL=iq at iR ⊢;refine RD hP.m e1.ones λH1 S1 m1 x1 o1 n1=>?_;obtain⟨wn,wl,wb,rfl,N0,L0,B0⟩:=e1.out;refine arb m1 λH2 S2 m2 x2 o2 n2=>?_;have P2:=hP.ext m2 (x1.trans x2);rw[h44];refine aet m2 P2.p (by omega) ?_;rw[al];refine box1 m2 rfl rfl λH3 S3 m3 x3 o3 n3=>?_;have P3:=P2.ext m3 x3;have Gv:=x1.trans (x2.trans x3);have uo:∀x,S.n≤x→¬mr b vL (lv++[d]) x:=λx hx g=>by have:=hP.p.iL hP.m g;omega
 have q1:S3.ob S.n=.ce [.int 0 (k:Int),.int 0 (a:Int),wn,wl,wb] 0:=(x3.ob _ (by omega)).trans ((x2.ob _ (by omega)).trans o1);have q2:S3.ob S1.n=.ce [.func g [] ys] 0:=(x3.ob _ (by omega)).trans o2;have RG:ef b S S3 vL (lv++[d]) vL (lv++[d]):=Gv.nV;have aew:=hP.low RG;refine aD m3 o3 (v:=.ptr d.p 0) rfl ?_;refine P3.p.GP m3 ?_;refine(P3.p.ln d (hd d)).len ?_;rw[aO,List.length_map];have tail:∀(x pK:List (List Nat)) (H4:AH) (S4:LS) (v4:AV),pK=d.ns++x→x.length≤nm.length→pK=(if k=5∨k=8 then d.ns else d.ns++nm)→Pn lo b H4 S4 vL (lv++[bK.mk d.p v4 pK d.l])→ef b S3 S4 vL (lv++[d]) vL (lv++[bK.mk d.p v4 pK d.l])→vH R K (po R K iq) (.ptr b 0) (.ptr S.n 0) (.ptr S1.n 0) (.ptr S2.n 0) (d.ns.length:Int) H4:=λx pK H4 S4 v4 hx hxl hns P4 kX=>by
  rw[←hns]at hK;have hnl:pK.length≤d.ns.length+nm.length:=by
   rw[hx,List.length_append];omega
  unfold vH;refine nf ((kX.ob _ (by omega) (uo _ (Nat.le_refl _))).trans q1) P4.m (j:=4) rfl ?_;have B3:=wY B0 aew;refine(wY B3 (P3.low kX)).choose_spec.1.len ?_;rw[aO];have loop:∀(q i:Nat) (dz v':AV) (H':AH) (S':LS),i≤bs.length→bs.length-i<q→Pn lo b H' S' dz (lv++[bK.mk d.p v' pK d.l])→cw (λbd=>kB (n+1) L (d.l+1) pK bd thn) (bs.take i)=none→ef b S3 S' vL (lv++[d]) dz (lv++[bK.mk d.p v' pK d.l])→po R K q (.ptr b 0) (.ptr S1.n 0) (.ptr S2.n 0) (d.ns.length:Int) wb (bs.length:Int) (i:Int) H':=by
   intro q
   induction q with
   |zero=>intro i _ _ _ _ _ h;omega
   |succ q ih=>
    intro i dz v' H' S' hi hq P5 he0 GQ;show D8 R K (yk R K (yj R K (po R K q))) (D7 R K) (.ptr b 0) (.ptr S1.n 0) (.ptr S2.n 0) (d.ns.length:Int) wb (bs.length:Int) (i:Int) H';unfold D8;rw[cK];have bx:∀{S6:LS}{OZ:AV}{zL:List bK},ef b S3 S6 vL (lv++[d]) OZ zL→S6.ob S2.n=.ce [.ptr d.p 0] 0:=λst=>(st.ob _ (by omega) (uo _ (by omega))).trans o3;have by':∀{S6:LS}{OZ:AV}{zL:List bK},ef b S3 S6 vL (lv++[d]) OZ zL→S6.ob S1.n=.ce [.func g [] ys] 0:=λst=>(st.ob _ (by omega) (uo _ (by omega))).trans q2;have no6:∀{S6:LS}{OZ:AV}{zL:List bK}(x:Nat),ef b S3 S6 vL (lv++[d]) OZ zL→S.n≤x→x<S3.n→¬mr b OZ zL x:=λx st h1 h2 w=>(st.own _ w).elim (uo _ h1) (by omega);refine cx (λhg=>?_) (λhg=>?_)
    ·have hil:i<bs.length:=by omega
     obtain⟨bd,hbd⟩:∃bd,bs[i]? = some bd:=⟨_,List.getElem?_eq_getElem hil⟩
     have hbm:=List.mem_of_getElem? hbd;have hsz:=sV hbd;obtain⟨bv,s1,g1⟩:=wY B3 (P3.low GQ);have b1:=g1 i bd hbd;refine s1.Rx P5.m hil ?_;refine aD P5.m (bx GQ) (v:=.ptr d.p 0) rfl ?_;refine P5.p.ldl P5.m ?_;show ax 0 (Int.add (d.l:Int) (.ofNat 1)) _;simp only[dS,fz];refine w0 (by omega) (by omega) ?_;have el:(d.l:Int)+1=((d.l+1:Nat):Int):=by omega
     rw[el];refine P5.p.kO (r:=d.l+1) P5.m P5.l λH6 S6 m6 GR p6=>?_;have GR:ef b S' S6 dz (lv++[bK.mk d.p v' pK d.l]) dz (lv++[bK.mk d.p v' pK (d.l+1)]):=GR;have p6:gB lo b S6 dz (lv++[bK.mk d.p v' pK (d.l+1)]):=p6;have P6:=P5.step m6 GR p6;have w7:=GQ.trans GR;show yk R K (yj R K (po R K q)) (.ptr b 0) (.ptr S1.n 0) (.ptr S2.n 0) (d.ns.length:Int) (bv i) wb (bs.length:Int) (i:Int) H6;unfold yk;have n36:=w7.n;refine(hB bd hbm).run P6 hL (ML b1 (P5.low GR)) (wZ hwb hbd) (ard h78 (bx w7) (by' w7) (by omega) (by omega) (no6 _ w7 (by omega) (by omega)) (no6 _ w7 (by omega) (by omega)) rfl (RG.trans w7) rfl rfl hC) (hR.last (by omega) (by omega) (by omega)) ⟨λhn H7 S7 rh v7 P7 GS=>?_,λe he H7 S7 m7 n7 k7=>?_⟩
     ·show cR K (.ret (.aL [])) H7 _;rw[al];have P7:Pn lo b H7 S7 rh (lv++[bK.mk d.p v7 pK (d.l+1)]):=P7;have GS:ef b S6 S7 dz (lv++[bK.mk d.p v' pK (d.l+1)]) rh (lv++[bK.mk d.p v7 pK (d.l+1)]):=GS;refine aD P7.m (bx (w7.trans GS)) (v:=.ptr d.p 0) rfl ?_;refine P7.p.ldl P7.m ?_;show ax 0 (Int.sub ((d.l+1:Nat):Int) (.ofNat 1)) _;simp only[pU,fz];refine w0 (by omega) (by omega) ?_;have el:((d.l+1:Nat):Int)-1=(d.l:Int):=by omega
      rw[el];refine P7.p.kO (r:=d.l) P7.m P7.l λH8 S8 m8 zQ p8=>?_;have zQ:ef b S7 S8 rh (lv++[bK.mk d.p v7 pK (d.l+1)]) rh (lv++[bK.mk d.p v7 pK d.l]):=zQ;have p8:gB lo b S8 rh (lv++[bK.mk d.p v7 pK d.l]):=p8;unfold yj;rw[dS,fz];refine w0 (by omega) (by omega) ?_;refine ih (i+1) rh v7 H8 S8 (by omega) (by omega) (P7.step m8 zQ p8) ?_ (w7.trans (GS.trans zQ));rw[kL _ _ _ hbd,he0,dP];exact hn
     ·show cR K (.cG _) H7 _;rw[ij];refine hK.2 e ?_ H7 S7 m7 (by have:=RG.n;omega) λx hx=>?_
      ·refine vS _ _ (i+1) ?_;rw[kL _ _ _ hbd,he0,dP];exact he
      ·rw[k7 x hx,P3.low w7 x hx,aew x hx]
    ·have e:i=bs.length:=by omega
     subst e;rw[List.take_length]at he0;unfold D7;refine aD P5.m (bx GQ) (v:=.ptr d.p 0) rfl ?_;refine aD P5.m (bx GQ) (v:=.ptr d.p 0) rfl ?_;refine P5.p.GP P5.m ?_;refine P5.p.cut P5.m P5.l (ns:=d.ns) (e:=x) hx λH6 S6 v6 m6 GR p6=>?_;exact hK.1 he0 H6 S6 dz v6 (P5.step m6 GR p6) (RG.trans (GQ.trans GR))
  exact loop iq 0 vL v4 H4 S4 (Nat.zero_le _) (by omega) P4 rfl kX
 unfold Ea;refine nf q1 m3 (j:=0) rfl ?_;rw[aO,bu,i5];by_cases k5:k=5
 ·rw[decide_eq_true (by omega)];simp only[Bool.not_true,aH];exact tail [] d.ns H3 S3 d.v (by simp) (by simp) (by rw[if_pos (.inl k5)]) P3 ef.refl
 rw[decide_eq_false (by omega)];simp only[Bool.not_false,aG];refine nf q1 m3 (j:=0) rfl ?_;rw[aO,bu,i8];by_cases k8:k=8
 ·rw[decide_eq_true (by omega)];simp only[Bool.not_true,aH];exact tail [] d.ns H3 S3 d.v (by simp) (by simp) (by rw[if_pos (.inr k8)]) P3 ef.refl
 rw[decide_eq_false (by omega)];simp only[Bool.not_false,aG];unfold D9;refine aD m3 o3 (v:=.ptr d.p 0) rfl ?_;refine aD m3 o3 (v:=.ptr d.p 0) rfl ?_;refine P3.p.GP m3 ?_;refine nf q1 m3 (j:=2) rfl ?_;refine P3.p.app' m3 P3.l o3 (by omega) (uo _ (by omega)) (EI (anT N0 aew)) N0.2 (by omega) λH4 S4 v4 m4 kX p4=>?_;exact tail nm (d.ns++nm) H4 S4 v4 rfl (Nat.le_refl _) (by rw[if_neg (by omega)]) (P3.step m4 kX p4) kX
end
end Go.Proofs.YtcedghechlgecaaDoor
namespace Go.X
theorem apF{m:Nat}{k:AV→Prop}(hm:1≤m)(h:k (.int 0 ((1:Nat):Int))):s7 yI [.int 0 (m:Int)] (.int 0 (.ofNat 1)) k:=by
 have e1:Int.ofNat 1=((1:Nat):Int):=rfl;show bI (cg (m:Int) (.ofNat 1)) (s7 yI [] (.int 0 (m:Int)) k) (s7 yI [] (.int 0 (.ofNat 1)) k);rw[e1,cK,decide_eq_false (by omega),aH];exact h
theorem MU(f:Nat→Err){i m:Nat}(h:i≤m){e:Nat×Nat}(he:cw f (List.range i)=some e):cw f (List.range m)=some e:=by
 obtain⟨j,rfl⟩:∃j,m=i+j:=⟨m-i,by omega⟩
 rw[List.range_add,qc,he];rfl
end Go.X
namespace Go.Proofs.YtcedghechlgecaaDoor
open Go Go.X Go.Proofs.YtcedghechlgecaaDoor.G
section
variable {H H':AH}{S S':LS}{K:KF}
structure PCh(F:AV→AV→AH→KF→Prop)(n k a:Nat)(nm:List (List Nat))(l:List au)(bs:List (List az)):Prop where
 run:∀{K:KF}{H:AH}{S:LS}{lo b:Nat}{vL v:AV}{lv:List bK}{d:bK}{L:List (List (List Nat))},Pn lo b H S vL (lv++[d])→lv.map bK.ns=L→rvS S (gy lo) v (.mk k a nm l bs)→j1 l→qa bs→Rp (lv++[d]) (fD l+pw bs)→PGs lo b S vL lv d (d.ns,cw (λi=>eI (cw (kE n L d.ns) (l[i]?.toList)) (kB n L d.l d.ns (bs[i]?.getD []) [])) (List.range bs.length)) K→F (.ptr b 0) v H K
theorem arh{R:iZ}{n k a:Nat}{nm:List (List Nat)}{l:List au}{bs:List (List az)}(hX:∀e∈l,PE R.2 n e)(hB:∀bd∈bs,GO R.1 (.func 79 [] []) n bd):PCh (Q5 R) n k a nm l bs:=by
 refine⟨λ{K H S lo b vL v lv d L} hP hL hv hwl hwb hR hK=>?_⟩;obtain⟨c,rfl,e1⟩:=hv;have hbl:=wX bs;have hll:=p9 l;have hr1:=hR.1;have hd:∀d':bK,d'∈lv++[d']:=λd'=>List.mem_append_right _ (List.mem_singleton_self _);have hrd:=hR.2 d (hd d);rw[List.length_append,List.length_singleton]at hr1;show Ef R K (sL R K G.NL) (.ptr b 0) (.agg c) H;unfold Ef;have iR:G.NL=1000000:=rfl;generalize G.NL=iq at iR ⊢;refine RD hP.m e1.ones λH1 S1 m1 x1 o1 n1=>?_;obtain⟨wn,wl,wb,rfl,N0,L0,B0⟩:=e1.out;have P1:=hP.ext m1 x1;have st01:ef b S S1 vL (lv++[d]) vL (lv++[d]):=x1.nV;have FO:=hP.low st01;have bx:∀{S2:LS}{xn:AV}{Ez:List bK},ef b S1 S2 vL (lv++[d]) xn Ez→S2.ob S.n=.ce [.int 0 (k:Int),.int 0 (a:Int),wn,wl,wb] 0:=λst=>(st.ob _ (by omega) hP.new).trans o1;refine nf o1 m1 (j:=4) rfl ?_;have B1:=wY B0 FO;have L1:=uj L0 FO;refine B1.choose_spec.1.len ?_;rw[aO];have hlv:∀v',(lv++[bK.mk d.p v' d.ns d.l]).map bK.ns=L++[d.ns]:=λv'=>by rw[List.map_append,hL];rfl
 have loop:∀(q i:Nat) (dz v':AV) (H':AH) (S':LS),i≤bs.length→bs.length-i<q→Pn lo b H' S' dz (lv++[bK.mk d.p v' d.ns d.l])→cw (λi=>eI (cw (kE n L d.ns) (l[i]?.toList)) (kB n L d.l d.ns (bs[i]?.getD []) [])) (List.range i)=none→ef b S1 S' vL (lv++[d]) dz (lv++[bK.mk d.p v' d.ns d.l])→sL R K q (.ptr b 0) (.ptr S.n 0) wb (bs.length:Int) (i:Int) H':=by
  intro q
  induction q with
  |zero=>intro i _ _ _ _ _ h;omega
  |succ q ih=>
   intro i dz v' H' S' hi hq P2 he0 st2;show Ee R K (ym R K (yl R K (sL R K q))) (.ptr b 0) (.ptr S.n 0) wb (bs.length:Int) (i:Int) H';unfold Ee;rw[cK];refine cx (λhg=>?_) (λhg=>?_)
   rotate_left
   ·have e:i=bs.length:=by omega
    subst e;exact hK.1 he0 H' S' dz v' P2 (st01.trans st2)
   have hil:i<bs.length:=by omega
   obtain⟨bd,hbd⟩:∃bd,bs[i]? = some bd:=⟨_,List.getElem?_eq_getElem hil⟩
   have hsz:=sV hbd;obtain⟨bv,s1,g1⟩:=wY B1 (P1.low st2);have b1:=g1 i bd hbd;refine s1.Rx P2.m hil ?_;have blk:∀(H3:AH) (S3:LS) (kM:AV),cw (kE n L d.ns) (l[i]?.toList)=none→Pn lo b H3 S3 kM (lv++[bK.mk d.p v' d.ns d.l])→ef b S' S3 dz (lv++[bK.mk d.p v' d.ns d.l]) kM (lv++[bK.mk d.p v' d.ns d.l])→ym R K (yl R K (sL R K q)) (.ptr b 0) (.ptr S.n 0) (bv i) wb (bs.length:Int) (i:Int) H3:=λH3 S3 kM hen P3 eX=>by
    unfold ym;have esp:cw (λi=>eI (cw (kE n L d.ns) (l[i]?.toList)) (kB n L d.l d.ns (bs[i]?.getD []) [])) (List.range (i+1))=kB n L d.l d.ns bd []:=by
     rw[OS,he0,dP,hen,dP,hbd];rfl
    refine(hB bd (List.mem_of_getElem? hbd)).run P3 hL (ML b1 (P2.low eX)) (wZ hwb hbd) (hR.last (by omega) (Nat.add_le_add_left (by omega) _) (Nat.add_le_add_left (by omega) _)) ⟨λhn H4 S4 EL v4 P4 kX=>?_,λe he H4 S4 m4 n4 k4=>?_⟩
    ·show cR K (.ret (.aL [])) H4 _;rw[al];unfold yl;rw[dS,fz];refine w0 (by omega) (by omega) ?_;exact ih (i+1) EL v4 H4 S4 (by omega) (by omega) P4 (esp.trans hn) (st2.trans (eX.trans kX))
    ·show cR K (.cG _) H4 _;rw[ij];refine((hK.2 e ?_).le (st01.trans (st2.trans eX)).n (hP.low (st01.trans (st2.trans eX)))) H4 S4 m4 n4 k4;exact MU _ (i:=i+1) (by omega) (esp.trans he)
   refine nf (bx st2) P2.m (j:=3) rfl ?_;have L2:=uj L1 (P1.low st2);refine L2.choose_spec.1.len ?_;rw[aO,cK];refine cx (λh2=>?_) (λh2=>?_)
   ·have MD:i<l.length:=by omega
    obtain⟨e,he⟩:∃e,l[i]? = some e:=⟨_,List.getElem?_eq_getElem MD⟩
    have hes:=nd he;refine nf (bx st2) P2.m (j:=3) rfl ?_;obtain⟨cl,s2,g2⟩:=L2;refine s2.load P2.m MD ?_;have ee:cw (kE n L d.ns) (l[i]?.toList)=kE n L d.ns e:=by
     rw[he];exact mE _
    refine(hX e (List.mem_of_getElem? he)).run P2 (hlv v') ⟨_,rfl,g2 i e he⟩ (sX hwl he) (hR.last (by omega) (Nat.add_le_add_left (by omega) _) (Nat.add_le_add_left (by omega) _)) ⟨λhn H3 S3 kM P3 eX=>?_,λp hp H3 S3 m3 n3 k3=>?_⟩
    ·show cR K (.ret (.aL [])) H3 _;rw[al];exact blk H3 S3 kM (ee.trans hn) P3 eX
    ·show cR K (.cG _) H3 _;rw[ij];refine((hK.2 p ?_).le (st01.trans st2).n (hP.low (st01.trans st2))) H3 S3 m3 n3 k3;refine MU _ (i:=i+1) (by omega) ?_;rw[OS,he0,dP,ee,hp];rfl
   ·have he:l[i]? = none:=List.getElem?_eq_none (by omega);exact blk H' S' dz (by rw[he];rfl) P2 ef.refl
 exact loop iq 0 vL d.v H1 S1 (Nat.zero_le _) (by omega) P1 rfl ef.refl
theorem ari{R:cP}{pJ:kJ}{OY:ry}{n k a:Nat}{nm:List (List Nat)}{l:List au}{bs:List (List az)}(h44:R.2.1=f44)(h62:R.2.2.2.1=f62)(hX:OU R.2.2.1 (n+1) l)(hB:∀bd∈bs,GO R.1 (.func 67 [] []) (n+1) bd)(hL0:PLp R.2.2.2.2.1 (clo (mU pJ)) n k a nm l bs [])(hL1:PLp R.2.2.2.2.1 (clo (mU pJ)) n k a nm l bs l)(h64:pJ.2.2.1=Ed OY)(arj:OU OY n l)(h65:pJ.2.2.2.1=f65)(hC:PCh R.2.2.2.2.2 (n+1) k a nm l bs):lG (Q3 R) (n+2) (.mk k a nm l bs):=by
 refine⟨λ{K H S lo b vL v lv d L} hP hL hv hw hR hK=>?_⟩;obtain⟨c,rfl,e1⟩:=hv;simp only[az.sz]at hR;simp only[az.wg]at hw;obtain⟨w5,w1,w2,EK,wgb⟩:=hw;have hbl:=wX bs;have hll:=p9 l;have hr1:=hR.1;have hd:∀d':bK,d'∈lv++[d']:=λd'=>List.mem_append_right _ (List.mem_singleton_self _);have hrd:=hR.2 d (hd d);rw[List.length_append,List.length_singleton]at hr1;have iR:G.NL=1000000:=rfl;show DY R K (vF R K (vE R K (vC R K (ph R K G.NL)) (vD R K) (qH R K (nx R K G.NL)))) (.ptr b 0) (.agg c) H;generalize G.NL=iq at iR ⊢;unfold DY;refine arc hP.m λH1 S1 m1 x1 o1 n1=>?_;refine RD m1 e1.ones λH2 S2 m2 x2 o2 n2=>?_;have e2:iz S2 (gy lo) c (.mk k a nm l bs):=e1.go (λx hx=>(x1.trans x2).ob x (Nat.lt_of_lt_of_le hx hP.l)) λ_ h=>h;obtain⟨wn,wl,wb,rfl,N2,L2,B2⟩:=e2.out;have P2:=hP.ext m2 (x1.trans x2);have uq:ef b S S2 vL (lv++[d]) vL (lv++[d]):=(x1.trans x2).nV;have uo:∀x,S.n≤x→¬mr b vL (lv++[d]) x:=λx hx g=>by have:=hP.p.iL hP.m g;omega
 have q1:S2.ob S.n=.ce [.ptr b 0] 0:=(x2.ob _ (by omega)).trans o1;have ba:∀{S3:LS}{kM:AV}{EA:List bK},ef b S2 S3 vL (lv++[d]) kM EA→S3.ob S.n=.ce [.ptr b 0] 0:=λst=>(st.ob _ (by omega) (uo _ (Nat.le_refl _))).trans q1;have bx:∀{S3:LS}{kM:AV}{EA:List bK},ef b S2 S3 vL (lv++[d]) kM EA→S3.ob S1.n=.ce [.int 0 (k:Int),.int 0 (a:Int),wn,wl,wb] 0:=λst=>(st.ob _ (by omega) (uo _ (by omega))).trans o2;have pend:∀{e:Nat×Nat}{S3:LS}{kM:AV}{EA:List bK},(kS (n+2) L d.l (d.ns,none) (.mk k a nm l bs)).2=some e→ef b S2 S3 vL (lv++[d]) kM EA→At lo S3 K e:=λhe st=>(hK.2 _ he).le (uq.trans st).n (hP.low (uq.trans st));have hlv:(lv++[d]).map bK.ns=L++[d.ns]:=by rw[List.map_append,hL];rfl
 refine aD m2 q1 (v:=.ptr b 0) rfl ?_;rw[h44];refine aet m2 P2.p (by omega) ?_;rw[al];refine nf o2 m2 (j:=0) rfl ?_;rw[aO];have i1:Int.ofNat 1=((1:Nat):Int):=rfl;have i12:Int.ofNat 12=((12:Nat):Int):=rfl;have i2:Int.ofNat 2=((2:Nat):Int):=rfl;have i4:Int.ofNat 4=((4:Nat):Int):=rfl;have i5:Int.ofNat 5=((5:Nat):Int):=rfl;have i6:Int.ofNat 6=((6:Nat):Int):=rfl;have i7:Int.ofNat 7=((7:Nat):Int):=rfl;have i8:Int.ofNat 8=((8:Nat):Int):=rfl;have i9:Int.ofNat 9=((9:Nat):Int):=rfl;have i0:Int.ofNat 0=((0:Nat):Int):=rfl;have ark:Int.ofNat 150=((150:Nat):Int):=rfl;have main:(k=1∨k=12∨k=6∨k=7→ng d.ns nm a=none)→vE R K (vC R K (ph R K iq)) (vD R K) (qH R K (nx R K iq)) (.ptr S.n 0) (.ptr S1.n 0) (.ptr d.p 0) H2:=λhlim=>by
  unfold vE;refine nf o2 m2 (j:=0) rfl ?_;rw[aO,bu,i1];by_cases k1:k=1
  ·have rk:kS (n+2) L d.l (d.ns,none) (.mk k a nm l bs)=(d.ns++nm,cw (kE (n+1) L d.ns) l):=by
    simp only[kS];rw[if_pos k1,hlim (.inl k1)];rfl
   rw[rk]at hK pend;rw[decide_eq_true (by omega),aG];refine aD m2 q1 (v:=.ptr b 0) rfl ?_;refine nf o2 m2 (j:=3) rfl ?_;refine hX.run P2 hlv L2 EK (hR.le (by omega)) ⟨λhn H3 S3 kM P3 eX=>?_,λe he H3 S3 m3 n3 k3=>?_⟩
   ·show cR K (.ret (.aL [])) H3 _;rw[al];refine P3.p.GP P3.m ?_;refine nf (bx eX) P3.m (j:=2) rfl ?_;refine P3.p.app P3.m P3.l (EI (anT N2 (P2.low eX))) N2.2 (by omega) λH4 S4 v4 m4 kX p4=>?_;exact hK.1 hn H4 S4 kM v4 (P3.step m4 kX p4) (uq.trans (eX.trans kX))
   ·show cR K (.cG _) H3 _;rw[ij];exact pend he ef.refl H3 S3 m3 n3 k3
  rw[decide_eq_false (by omega),aH,bu,i12];by_cases k12:k=12
  ·have rk:kS (n+2) L d.l (d.ns,none) (.mk k a nm l bs)=(d.ns++nm,cw (kE (n+1) L (d.ns++nm)) l):=by
    simp only[kS];rw[if_neg k1,if_pos k12,hlim (.inr (.inl k12))];rfl
   rw[rk]at hK pend;rw[decide_eq_true (by omega),aG];refine P2.p.GP m2 ?_;refine nf o2 m2 (j:=2) rfl ?_;refine P2.p.app m2 P2.l (EI N2) N2.2 (by omega) λH3 S3 v3 m3 eX p3=>?_;have P3:Pn lo b H3 S3 vL (lv++[bK.mk d.p v3 (d.ns++nm) d.l]):=P2.step m3 eX p3;have eX:ef b S2 S3 vL (lv++[d]) vL (lv++[bK.mk d.p v3 (d.ns++nm) d.l]):=eX;unfold vD;refine aD m3 (ba eX) (v:=.ptr b 0) rfl ?_;refine nf (bx eX) m3 (j:=3) rfl ?_;refine hX.run P3 (L:=L) (ns:=d.ns++nm) (by rw[List.map_append,hL];rfl) (uj L2 (P2.low eX)) EK (hR.last (by omega) (by rw[List.length_append];omega) (by omega)) ⟨λhn H4 S4 EL P4 kX=>?_,λe he H4 S4 m4 n4 k4=>?_⟩
   ·show cR K (.ret (.aL [])) H4 _;rw[al];exact hK.1 hn H4 S4 EL v3 P4 (uq.trans (eX.trans kX))
   ·show cR K (.cG _) H4 _;rw[ij];exact pend he eX H4 S4 m4 n4 k4
  rw[decide_eq_false (by omega),aH,bu,i2];by_cases k2:k=2
  ·have rk:kS (n+2) L d.l (d.ns,none) (.mk k a nm l bs)=(d.ns,eI (cw (zr L d.ns) (l.take 1)) (cw (kE (n+1) L d.ns) l)):=by
    simp only[kS];rw[if_neg k1,if_neg k12,if_pos k2];rfl
   rw[rk]at hK pend;rw[decide_eq_true (by omega),aG];obtain⟨e,t,rfl⟩:∃e t,l=e::t:=by
    cases l with
    |nil=>exact absurd rfl (w2 k2)
    |cons e t=>exact⟨e,t,rfl⟩
   refine nf o2 m2 (j:=3) rfl ?_;refine nf o2 m2 (j:=3) rfl ?_;refine L2.choose_spec.1.len ?_;rw[aO];refine apF (by simp) ?_;rw[aO];refine L2.part (i:=0) (j:=1) (b:=[e]) (by omega) (by simp) (.inr ⟨rfl,rfl⟩) (.inl rfl) (by simp) λv' L3=>?_;refine L3.choose_spec.1.len ?_;rw[aO];unfold vC;have nE:cw (zr L d.ns) ((e::t).take 1)=zr L d.ns e:=by
    show cw (zr L d.ns) [e]=_;exact mE _
   rw[nE]at hK pend;obtain⟨q,rfl⟩:∃q,iq=q+1+1:=⟨iq-2,by omega⟩
   show vB R K (yh R K) (yi R K) (vA R K (ph R K (q+1))) (.ptr S.n 0) (.ptr S1.n 0) v' ((1:Nat):Int) ((0:Nat):Int) H2;unfold vB;simp only[jK];rw[cK,decide_eq_true (by omega),aG];obtain⟨cl,s1,g1⟩:=L3;have f1:=g1 0 e rfl;refine s1.load m2 (by simp) ?_;refine tT m2 fy rfl f1.len f1.ones λH3 S3 m3 x3 o3 n3=>?_;have P3:=P2.ext m3 x3;have eX:ef b S2 S3 vL (lv++[d]) vL (lv++[d]):=x3.nV;obtain⟨ke,ae,nn,s,op,l',fs⟩:=e;obtain⟨OO,wf',c1,h8,L2',F2'⟩:=f1.out;rw[c1]at o3;have rest:zr L d.ns (.mk ke ae nn s op l' fs)=none→vA R K (ph R K (q+1)) (.ptr S.n 0) (.ptr S1.n 0) v' ((1:Nat):Int) ((0:Nat):Int) H3:=λhno=>by
    rw[hno,dP]at hK pend;unfold vA;rw[dS,fz];refine w0 (by omega) (by omega) ?_;show vB R K (yh R K) (yi R K) (vA R K (ph R K q)) (.ptr S.n 0) (.ptr S1.n 0) v' ((1:Nat):Int) (((0:Nat):Int)+1) H3;unfold vB;have e01:(((0:Nat):Int)+1)=((1:Nat):Int):=rfl;rw[e01,cK,decide_eq_false (by omega),aH];unfold yi;refine aD m3 (ba eX) (v:=.ptr b 0) rfl ?_;refine nf (bx eX) m3 (j:=3) rfl ?_;refine hX.run P3 hlv (uj L2 (P2.low eX)) EK (hR.le (by omega)) ⟨λhn H4 S4 EL P4 kX=>?_,λe he H4 S4 m4 n4 k4=>?_⟩
    ·show cR K (.ret (.aL [])) H4 _;rw[al];exact hK.1 hn H4 S4 EL d.v P4 (uq.trans (eX.trans kX))
    ·show cR K (.cG _) H4 _;rw[ij];exact pend he eX H4 S4 m4 n4 k4
   simp only[aQ,Nat.zero_add];refine aD m3 o3 (v:=.int 0 (ke:Int)) rfl ?_;rw[aO,bu,i6];by_cases k6:ke=6
   ·rw[decide_eq_true (by omega),aG];refine aD m3 (ba eX) (v:=.ptr b 0) rfl ?_;refine aD m3 o3 (v:=ai s) rfl ?_;rw[h62];refine hs62 m3 P3.p h8 (by rw[List.length_append,List.length_singleton];omega) (λd' hd'=>by have:=(hR.2 d' hd').1;omega) ?_;rw[al,aM,OV hlv];cases ha:qN L d.ns s with
    |true=>
     simp only[Bool.not_true,aH];refine rest ?_;show(if ke=6∧qN L d.ns s=false then some (14,ae) else none)=none;rw[if_neg (λg=>by rw[ha]at g;cases g.2)]
    |false=>
     simp only[Bool.not_false,aG];unfold yh;simp only[aQ,Nat.zero_add];refine aD m3 o3 (v:=.int 0 (ae:Int)) rfl ?_;rw[aO];refine(pend (e:=(14,ae)) ?_ eX) H3 S3 m3 (Nat.le_refl _) λ_ _=>rfl;show eI (if ke=6∧qN L d.ns s=false then some (14,ae) else none) _=_;rw[if_pos ⟨k6,ha⟩,qb]
   ·rw[decide_eq_false (by omega),aH];refine rest ?_;show(if ke=6∧qN L d.ns s=false then some (14,ae) else none)=none;rw[if_neg (λg=>k6 g.1)]
  rw[decide_eq_false (by omega),aH,bu,i8];by_cases k8:k=8
  ·have rk:kS (n+2) L d.l (d.ns,none) (.mk k a nm l bs)=(d.ns,cw (λb=>kB (n+1) L (d.l+1) d.ns b l) bs):=by
    simp only[kS];rw[if_neg k1,if_neg k12,if_neg k2,if_pos k8];rfl
   rw[rk]at hK pend;rw[decide_eq_true (by omega),aG];refine aD m2 q1 (v:=.ptr b 0) rfl ?_;refine gO m2 o2 rfl ?_;refine hL1.run P2 hL ⟨_,rfl,e2⟩ wgb (arf h64 arj P2 q1 o2 (by omega) (by omega) (uo _ (Nat.le_refl _)) (uo _ (by omega)) L2 EK) (hR.le (by omega)) ?_;rw[if_pos (.inr k8)];refine⟨λhn H3 S3 kM v3 P3 eX=>?_,λe he H3 S3 m3 n3 k3=>?_⟩
   ·show cR K (.ret (.aL [])) H3 _;rw[al];exact hK.1 hn H3 S3 kM v3 P3 (uq.trans eX)
   ·show cR K (.cG _) H3 _;rw[ij];exact pend he ef.refl H3 S3 m3 n3 k3
  rw[decide_eq_false (by omega),aH];by_cases arV:k=5∨k=6∨k=7
  ·have rk:kS (n+2) L d.l (d.ns,none) (.mk k a nm l bs)=(d.ns,eI (cw (kE (n+1) L d.ns) l) (cw (λb=>kB (n+1) L (d.l+1) (if k=5∨k=8 then d.ns else d.ns++nm) b []) bs)):=by
    simp only[kS];rw[if_neg k1,if_neg k12,if_neg k2,if_neg k8];by_cases k5:k=5
    ·rw[if_pos k5,if_pos (.inl k5)];rfl
    ·rw[if_neg k5,if_pos (by omega),if_neg (by omega),hlim (by omega)];rfl
   rw[rk]at hK pend;have go:qH R K (nx R K iq) (.ptr S.n 0) (.ptr S1.n 0) (.ptr d.p 0) (k:Int) true H2:=by
    unfold qH;rw[aG];refine aD m2 q1 (v:=.ptr b 0) rfl ?_;refine nf o2 m2 (j:=3) rfl ?_;refine hX.run P2 hlv L2 EK (hR.le (by omega)) ⟨λhn H3 S3 kM P3 eX=>?_,λe he H3 S3 m3 n3 k3=>?_⟩
    ·show cR K (.ret (.aL [])) H3 _;rw[al];refine aD P3.m (ba eX) (v:=.ptr b 0) rfl ?_;refine gO P3.m (bx eX) rfl ?_;refine hL0.run P3 hL ⟨_,rfl,e2.go (λx hx=>P2.low eX x hx) λ_ h=>h⟩ wgb (af4 (an9 h65)) (hR.le (by simp only[fD];omega)) ⟨λhn2 H4 S4 EL v4 P4 kX=>?_,λe he H4 S4 m4 n4 k4=>?_⟩
     ·show cR K (.ret (.aL [])) H4 _;rw[al];refine hK.1 ?_ H4 S4 EL v4 P4 (uq.trans (eX.trans kX));show eI _ _=none;rw[hn,dP];exact hn2
     ·show cR K (.cG _) H4 _;rw[ij];refine pend (e:=e) ?_ eX H4 S4 m4 n4 k4;show eI _ _=_;rw[hn,dP];exact he
    ·show cR K (.cG _) H3 _;rw[ij];refine pend (e:=e) ?_ ef.refl H3 S3 m3 n3 k3;show eI _ _=_;rw[he,qb]
   rw[bu,i5];by_cases k5:k=5
   ·rw[decide_eq_true (by omega),aG];exact go
   rw[decide_eq_false (by omega),aH,bu,i6];by_cases k6:k=6
   ·rw[decide_eq_true (by omega),aG];exact go
   rw[decide_eq_false (by omega),aH,bu,i7,decide_eq_true (by omega)];exact go
  rw[bu,i5,decide_eq_false (by omega),aH,bu,i6,decide_eq_false (by omega),aH,bu,i7,decide_eq_false (by omega)];unfold qH;rw[aH,bu,i4];by_cases k4:k=4
  ·have rk:kS (n+2) L d.l (d.ns,none) (.mk k a nm l bs)=(d.ns,cw (λi=>eI (cw (kE (n+1) L d.ns) (l[i]?.toList)) (kB (n+1) L d.l d.ns (bs[i]?.getD []) [])) (List.range bs.length)):=by
    simp only[kS];rw[if_neg k1,if_neg k12,if_neg k2,if_neg k8,if_neg (by omega),if_neg (by omega),if_pos k4];rfl
   rw[rk]at hK pend;rw[decide_eq_true (by omega),aG];refine aD m2 q1 (v:=.ptr b 0) rfl ?_;refine gO m2 o2 rfl ?_;refine hC.run P2 hL ⟨_,rfl,e2⟩ EK wgb (hR.le (by omega)) ⟨λhn H3 S3 kM v3 P3 eX=>?_,λe he H3 S3 m3 n3 k3=>?_⟩
   ·show cR K (.ret (.aL [])) H3 _;rw[al];exact hK.1 hn H3 S3 kM v3 P3 (uq.trans eX)
   ·show cR K (.cG _) H3 _;rw[ij];exact pend he ef.refl H3 S3 m3 n3 k3
  rw[decide_eq_false (by omega),aH,bu,i9];by_cases k9:k=9
  ·have rk:kS (n+2) L d.l (d.ns,none) (.mk k a nm l bs)=(d.ns,if d.l=0 then some (14,a) else none):=by
    simp only[kS];rw[if_neg k1,if_neg k12,if_neg k2,if_neg k8,if_neg (by omega),if_neg (by omega),if_neg k4,if_pos k9];rfl
   rw[rk]at hK pend;rw[decide_eq_true (by omega),aG];refine P2.p.ldl m2 ?_;rw[bu,i0];refine cx (λg=>?_) (λg=>?_)
   ·refine nf o2 m2 (j:=1) rfl ?_;rw[aO];refine(pend (e:=(14,a)) ?_ ef.refl) H2 S2 m2 (Nat.le_refl _) λ_ _=>rfl;show(if d.l=0 then some (14,a) else none)=_;rw[if_pos (by omega)]
   ·refine hK.1 ?_ H2 S2 vL d.v P2 uq;show(if d.l=0 then some (14,a) else none)=_;rw[if_neg (by omega)]
  rw[decide_eq_false (by omega),aH];have rk:kS (n+2) L d.l (d.ns,none) (.mk k a nm l bs)=(d.ns,eI (cw (kE (n+1) L d.ns) l) (cw (λb=>kB (n+1) L d.l d.ns b []) bs)):=by
   simp only[kS];rw[if_neg k1,if_neg k12,if_neg k2,if_neg k8,if_neg (by omega),if_neg (by omega),if_neg k4,if_neg k9];rfl
  rw[rk]at hK pend;refine aD m2 q1 (v:=.ptr b 0) rfl ?_;refine nf o2 m2 (j:=3) rfl ?_;refine hX.run P2 hlv L2 EK (hR.le (by omega)) ⟨λhn H3 S3 kM P3 eX=>?_,λe he H3 S3 m3 n3 k3=>?_⟩
  ·show cR K (.ret (.aL [])) H3 _;rw[al];refine nf (bx eX) P3.m (j:=4) rfl ?_;have B3:=wY B2 (P2.low eX);refine B3.choose_spec.1.len ?_;rw[aO];have loop:∀(q i:Nat) (dz v':AV) (H':AH) (S':LS),i≤bs.length→bs.length-i<q→Pn lo b H' S' dz (lv++[bK.mk d.p v' d.ns d.l])→cw (λb=>kB (n+1) L d.l d.ns b []) (bs.take i)=none→ef b S3 S' kM (lv++[d]) dz (lv++[bK.mk d.p v' d.ns d.l])→nx R K q (.ptr S.n 0) wb (bs.length:Int) (i:Int) H':=by
    intro q
    induction q with
    |zero=>intro i _ _ _ _ _ h;omega
    |succ q ih=>
     intro i dz v' H' S' hi hq P4 he0 kX;show zd R K (nx R K q) (.ptr S.n 0) wb (bs.length:Int) (i:Int) H';unfold zd;rw[cK];refine cx (λhg=>?_) (λhg=>?_)
     rotate_left
     ·have e:i=bs.length:=by omega
      subst e;rw[List.take_length]at he0;refine hK.1 ?_ H' S' dz v' P4 (uq.trans (eX.trans kX));show eI _ _=none;rw[hn,dP];exact he0
     have hil:i<bs.length:=by omega
     obtain⟨bd,hbd⟩:∃bd,bs[i]? = some bd:=⟨_,List.getElem?_eq_getElem hil⟩
     have hsz:=sV hbd;obtain⟨bv,s1,g1⟩:=wY B3 (P3.low kX);refine s1.Rx P4.m hil ?_;refine aD P4.m (ba (eX.trans kX)) (v:=.ptr b 0) rfl ?_;refine(hB bd (List.mem_of_getElem? hbd)).run P4 hL (g1 i bd hbd) (wZ wgb hbd) (hR.last (by omega) (by omega) (by omega)) ⟨λhn2 H5 S5 vL5 v5 P5 GQ=>?_,λe he H5 S5 m5 n5 k5=>?_⟩
     ·show cR K (.ret (.aL [])) H5 _;rw[al,dS,fz];refine w0 (by omega) (by omega) ?_;refine ih (i+1) vL5 v5 H5 S5 (by omega) (by omega) P5 ?_ (kX.trans GQ);rw[kL _ _ _ hbd,he0,dP];exact hn2
     ·show cR K (.cG _) H5 _;rw[ij];refine pend (e:=e) ?_ (eX.trans kX) H5 S5 m5 n5 k5;show eI _ _=_;rw[hn,dP];refine vS _ _ (i+1) ?_;rw[kL _ _ _ hbd,he0,dP];exact he
   exact loop iq 0 kM d.v H3 S3 (Nat.zero_le _) (by omega) P3 rfl ef.refl
  ·show cR K (.cG _) H3 _;rw[ij];refine pend (e:=e) ?_ ef.refl H3 S3 m3 n3 k3;show eI _ _=_;rw[he,qb]
 have lim:(k=1∨k=12∨k=6∨k=7)→vF R K (vE R K (vC R K (ph R K iq)) (vD R K) (qH R K (nx R K iq))) (.ptr S.n 0) (.ptr S1.n 0) (.ptr d.p 0) true H2:=λhk=>by
  unfold vF;rw[aG];refine P2.p.GP m2 ?_;refine(P2.p.ln d (hd d)).len ?_;rw[aO,List.length_map];refine nf o2 m2 (j:=2) rfl ?_;refine N2.1.len ?_;rw[aO,dS];refine w0 (by omega) (by omega) ?_;have ea:(d.ns.length:Int)+(nm.length:Int)=((d.ns.length+nm.length:Nat):Int):=by omega
  rw[ea,ark,cK];refine cx (λg=>?_) (λg=>?_)
  ·refine nf o2 m2 (j:=1) rfl ?_;rw[aO];have hl:ng d.ns nm a=some (8,a):=by
    unfold ng;rw[if_pos (by omega)]
   refine(pend (e:=(8,a)) ?_ ef.refl) H2 S2 m2 (Nat.le_refl _) λ_ _=>rfl;rcases hk with rfl|rfl|rfl|rfl<;>simp only[kS]<;>simp[hl,eI]
  ·refine main λ_=>?_;unfold ng;rw[if_neg (by omega)]
 rw[bu,i1];by_cases k1:k=1
 ·rw[decide_eq_true (by omega),aG];exact lim (.inl k1)
 rw[decide_eq_false (by omega),aH,bu,i12];by_cases k12:k=12
 ·rw[decide_eq_true (by omega),aG];exact lim (.inr (.inl k12))
 rw[decide_eq_false (by omega),aH,bu,i6];by_cases k6:k=6
 ·rw[decide_eq_true (by omega),aG];exact lim (.inr (.inr (.inl k6)))
 rw[decide_eq_false (by omega),aH,bu,i7];by_cases k7:k=7
 ·rw[decide_eq_true (by omega)];exact lim (.inr (.inr (.inr k7)))
 rw[decide_eq_false (by omega)];unfold vF;rw[aH];exact main λh=>by omega
end
section
variable {H H':AH}{S S':LS}{K:KF}
structure CB where
 c20:AV→AV→AV→AH→KF→Prop
 c45:AV→AV→AH→KF→Prop
 MV:AV→AV→AH→KF→Prop
 c63:AV→AV→AV→AH→KF→Prop
 c64:AV→AV→AH→KF→Prop
 c66:AV→AV→AH→KF→Prop
 zR:AV→AV→AH→KF→Prop
 c78:AV→AV→AH→KF→Prop
def aex:AV→AV→AH→KF→Prop:=λ_ _ _ _=>False
theorem O0:aC Tryd.prog 19 (aw [.a,.a] aex):=λhb args H K h=>by
 cases args with
 |nil=>exact h.elim
 |cons a l=>cases l with
  |nil=>exact h.elim
  |cons b l=>cases l with
   |nil=>exact h.elim
   |cons c l=>exact h.elim
noncomputable def O1(S:CB):iY:=(aex,f21,f44,S.c45,S.c64,f65,f67,S.c78,f79,f84)
noncomputable def r45(S:CB):cP:=(S.c20,f44,S.MV,f62,S.c63,S.c66)
noncomputable def aey(B:AV→AH→KF→Prop)(S:CB):dQ:=(B,S.c20,f62,S.zR,f83)
noncomputable abbrev r77 (S:CB):dQ:=aey g10 S
noncomputable def r78(S:CB):kJ:=(aex,f21,S.c64,f65,f67,S.c78,f79,f84)
noncomputable def cSx(B:AV→AH→KF→Prop)(S:CB):CB:=⟨QY (O1 S),Q3 (r45 S),Q4 S.zR,Hj (S.c20,f44),Ed S.MV,Q5 (S.c20,S.zR),Q6 (aey B S),Em (r78 S)⟩
noncomputable abbrev cS (S:CB):CB:=cSx g10 S
noncomputable def cBx(B:AV→AH→KF→Prop)(n:Nat):CB:=Nat.rec (motive:=λ_=>CB) ⟨λ_ _ _ _ _=>False,λ_ _ _ _=>False,λ_ _ _ _=>False,λ_ _ _ _ _=>False,λ_ _ _ _=>False,λ_ _ _ _=>False,λ_ _ _ _=>False,λ_ _ _ _=>False⟩ (λ_ S=>cSx B S) n
noncomputable abbrev cB (n:Nat):CB:=cBx g10 n
theorem ur(n:Nat):cB (n+1)=cS (cB n):=rfl
structure aez(S:CB):Prop where
 k20:aC Tryd.prog 20 (aw [.a,.a,.a] S.c20)
 k45:aC Tryd.prog 45 (aw [.a,.a] S.c45)
 k61:aC Tryd.prog 61 (aw [.a,.a] S.MV)
 k63:aC Tryd.prog 63 (aw [.a,.a,.a] S.c63)
 k64:aC Tryd.prog 64 (aw [.a,.a] S.c64)
 k66:aC Tryd.prog 66 (aw [.a,.a] S.c66)
 k77:aC Tryd.prog 77 (aw [.a,.a] S.zR)
 k78:aC Tryd.prog 78 (aw [.a,.a] S.c78)
theorem aoa{B:AV→AH→KF→Prop}(hB:aC Tryd.prog 10 (aw [.a] B)){S:CB}(h:aez S):aez (cSx B S) where
 k20:=aht (O1 S) (ag.cons O0 (ag.cons Z0 (ag.cons Lt (ag.cons h.k45 (ag.cons h.k64 (ag.cons aam (ag.cons aaq (ag.cons h.k78 (ag.cons aau (ag.cons aay ag.nil))))))))))
 k45:=ahu (r45 S) (ag.cons h.k20 (ag.cons Lt (ag.cons h.k61 (ag.cons aah (ag.cons h.k63 (ag.cons h.k66 ag.nil))))))
 k61:=ahv S.zR (ag.cons h.k77 ag.nil)
 k63:=ahw (S.c20,f44) (ag.cons h.k20 (ag.cons Lt ag.nil))
 k64:=ahx S.MV (ag.cons h.k61 ag.nil)
 k66:=ahy (S.c20,S.zR) (ag.cons h.k20 (ag.cons h.k77 ag.nil))
 k77:=ahz (aey B S) (ag.cons hB (ag.cons h.k20 (ag.cons aah (ag.cons h.k77 (ag.cons alK ag.nil)))))
 k78:=ahA (r78 S) (ag.cons O0 (ag.cons Z0 (ag.cons h.k64 (ag.cons aam (ag.cons aaq (ag.cons h.k78 (ag.cons aau (ag.cons aay ag.nil))))))))
theorem Mr{g:Nat}:aC Tryd.prog g (aw [.a,.a,.a] λ_ _ _ _ _=>False):=λhb args H K h=>by
 cases args with
 |nil=>exact h.elim
 |cons a l=>cases l with
  |nil=>exact h.elim
  |cons b l=>cases l with
   |nil=>exact h.elim
   |cons c l=>cases l with
    |nil=>exact h.elim
    |cons c l=>exact h.elim
theorem O2{g:Nat}:aC Tryd.prog g (aw [.a,.a] λ_ _ _ _=>False):=λhb args H K h=>by
 cases args with
 |nil=>exact h.elim
 |cons a l=>cases l with
  |nil=>exact h.elim
  |cons b l=>cases l with
   |nil=>exact h.elim
   |cons c l=>exact h.elim
theorem acH{B:AV→AH→KF→Prop}(hB:aC Tryd.prog 10 (aw [.a] B)):∀n,aez (cBx B n)
 |0=>⟨Mr,O2,O2,Mr,O2,O2,O2,O2⟩
 |n+1=>aoa hB (acH hB n)
structure xo(S:CB)(m:Nat):Prop where
 ex:∀n (e:au),4*n≤m→3*e.sz≤n→PE S.zR n e
 st:∀n (s:az),4*n≤m→3*s.sz≤n→lG S.c45 n s
theorem xo.bl{S:CB}{m n:Nat}{bd:List az}{thn:List au}(h:xo S m)(h1:4*n≤m)(h2:3*dI bd≤n):PB (cS S).c20 (clo (jF (O1 S))) n bd thn:=
 b20 (R:=O1 S) rfl λs hs=>by
  obtain⟨i,hi⟩:=List.mem_iff_getElem?.1 hs;have:=MF hi;exact h.st n s h1 (by omega)
theorem xo.exs{S:CB}{m n:Nat}{l:List au}(h:xo S m)(h1:4*n≤m)(h2:3*fD l≤n):OU (cS S).MV n l:=
 e61 (R:=S.zR) λe he=>by
  obtain⟨i,hi⟩:=List.mem_iff_getElem?.1 he;have:=nd hi;exact h.ex n e h1 (by omega)
theorem xo.b0{S:CB}{m n:Nat}{bd:List az}{t:AV}(h:xo S m)(h1:4*n≤m+4)(h2:3*dI bd+1≤n)(ht:∀(H:AH) (K:KF),K (.ret (.aL [])) H→clo (jF (O1 S)) t H K):GO (cS S).c20 t n bd:=by
 obtain⟨q,rfl⟩:∃q,n=q+1:=⟨n-1,by omega⟩
 exact(h.bl (by omega) (by omega)).zero λH K=>ht H K
theorem aob{S2:CB}{m:Nat}(h1:xo (cS S2) (m+1))(h2:xo S2 m)(n:Nat)(e:au)(g1:4*n≤m+2)(g2:3*e.sz≤n):PE (cS (cS S2)).zR n e:=by
 have:=e.pz;obtain⟨n',rfl⟩:∃n',n=n'+1:=⟨n-1,by omega⟩
 refine e77 (R:=r77 (cS S2)) rfl rfl rfl (λk a nn s op l fs he x hx=>?_) λk a nn s op l fs he f hf=>?_
 ·subst he;obtain⟨i,hi⟩:=List.mem_iff_getElem?.1 hx;have:=nd hi;simp only[au.sz]at g2;exact h1.ex n' x (by omega) (by omega)
 ·subst he;obtain⟨i,hi⟩:=List.mem_iff_getElem?.1 hf;have:=As hi;simp only[au.sz]at g2;obtain⟨n'',rfl⟩:∃n'',n'=n''+1:=⟨n'-1,by omega⟩
  refine⟨n'',rfl,λps bd hf'=>?_⟩;subst hf';simp only[fm.sz]at this;exact h2.b0 (by omega) (by omega) λH K=>an8 rfl H K
theorem aoc{S2 S3 S4 S5 S6:CB}(e2:S2=cS S3)(e3:S3=cS S4)(e4:S4=cS S5)(e5:S5=cS S6){m:Nat}(h2:xo S2 (m+4))(h3:xo S3 (m+3))(h6:xo S6 m)(n:Nat)(s:az)(g1:4*n≤m+6)(g2:3*s.sz≤n):lG (cS (cS S2)).c45 n s:=by
 have:=s.pz;obtain⟨n',rfl⟩:∃n',n=n'+2:=⟨n-2,by omega⟩
 obtain⟨k,a,nm,l,bs⟩:=s;simp only[az.sz]at g2;have hb:∀bd∈bs,1+dI bd≤pw bs:=λbd hbd=>by
  obtain⟨i,hi⟩:=List.mem_iff_getElem?.1 hbd;exact sV hi
 have hl:∀e∈l,e.sz≤fD l:=λe he=>by
  obtain⟨i,hi⟩:=List.mem_iff_getElem?.1 he;exact nd hi
 have h78:(O1 S3).2.2.2.2.2.2.2.1=Em (r78 S4):=by
  rw[e3];rfl
 have h64:(r78 S4).2.2.1=Ed S5.MV:=by
  rw[e4];rfl
 have arl:OU S5.MV n' l:=by
  rw[e5];exact h6.exs (by omega) (by omega)
 have hlp:∀thn,PLp (Hj (S2.c20,f44)) (clo (mU (r78 S4))) n' k a nm l bs thn:=λthn=>l63 rfl h78 λbd hbd=>by
  have:=hb bd hbd;show PB S2.c20 _ _ _ _;rw[e2];exact h3.bl (by omega) (by omega)
 refine ari (R:=r45 (cS S2)) rfl rfl (h2.exs (by omega) (by omega)) (λbd hbd=>?_) (hlp []) (hlp l) h64 arl rfl (arh (R:=(S2.c20,S2.zR)) (λe he=>?_) λbd hbd=>?_)
 ·have:=hb bd hbd;exact h2.b0 (by omega) (by omega) λH K=>an6 rfl H K
 ·have:=hl e he;exact h2.ex (n'+1) e (by omega) (by omega)
 ·have:=hb bd hbd;show GO S2.c20 _ _ _;rw[e2];exact h3.b0 (by omega) (by omega) λH K=>an7 rfl H K
theorem okQ(m:Nat):xo (cB m) m:=by
 induction m using Nat.strongRecOn with
 |_ m ih=>
  refine⟨λn e g1 g2=>?_,λn s g1 g2=>?_⟩
  ·have:=e.pz;obtain⟨q,rfl⟩:∃q,m=q+1+1:=⟨m-2,by omega⟩
   rw[ur,ur];refine aob (m:=q) ?_ (ih q (by omega)) n e (by omega) g2;rw[←ur];exact ih (q+1) (by omega)
  ·have:=s.pz;obtain⟨q,rfl⟩:∃q,m=q+1+1+1+1+1+1:=⟨m-6,by omega⟩
   have h2:=ih (q+1+1+1+1) (by omega);have h3:=ih (q+1+1+1) (by omega);have h6:=ih q (by omega);rw[ur (q+1+1+1+1+1),ur (q+1+1+1+1)];exact aoc (ur _) (ur _) (ur _) (ur _) (m:=q) h2 h3 h6 n s (by omega) g2
end
end Go.Proofs.YtcedghechlgecaaDoor
namespace Go.Proofs.YtcedghechlgecaaDoor.G
open Go Go.X
noncomputable def af5(R:AV→AV→AV→AH→KF→Prop):List (Nat×dq):=[(20,aw [.a,.a,.a] R)]
noncomputable def RH(v a0 a1:AV)(X:AH→Prop)(H:AH):Prop:=uB 56 (.agg [(.int 0 (.ofNat 0)),(.int 0 (.ofNat 0))]) true v λv1=>dU v1 λl2=>eQ l2 0 λv3=>dU v1 λl4=>eQ l4 1 λv5=>bS v5 λz6=>eJ H (hN (aB H) [(.int 0 (.ofNat 0)),(.int 0 (.ofNat 0))] λv7 H8=>ah 2 v7 v3 H8 λH9=>bI z6 (af 0 v7 λv10=>ad v10 H9 λv11=>cI 0 v11 λz12=>af 1 v7 λv13=>ad v13 H9 λv14=>cI 0 v14 λmw=>ah 1 a0 (.int 0 z12) H9 λeE=>ad v13 eE λv17=>cI 0 v17 λxX=>bT (bj (.int 0 xX) (.int 0 mw)) (ah 1 a1 (.int 0 mw) eE λkc=>X kc)) (X H9))
noncomputable def MW(K:KF)(a2 a3:AV)(H:AH):Prop:=ad a2 H λv5=>ad a3 H λv6=>K (.ret (.aL [v5,v6])) H
noncomputable def Au(K:KF)(a2 a3:AV)(v:AV)(H:AH):Prop:=RH v a2 a3 (MW K a2 a3) H
noncomputable def aeA(K:KF)(a2 a3:AV):KF:=λo H=>match o with|.cG v=>Au K a2 a3 v H|.ret v=>False
noncomputable def MX(R:AV→AV→AV→AH→KF→Prop)(K:KF)(a0:AV)(H:AH):Prop:=eJ H (hN (aB H) [(.int 0 (.ofNat 0))] λv1 H2=>eJ H2 (hN (aB H2) [(.int 0 (.ofNat 0))] λv3 H4=>aR (aB H4) 2 1 [(.str 4 1398359371),(.str 4 1447514689)] λv5 H6=>one v5 (hN (aB H6) [v5,(.int 0 (.ofNat 0))] λv7 H8=>one v7 (aR (aB H8) 1 1 [v7] λv9 cm=>one v9 (hN (aB cm) [v9] λv11 bO=>R v11 a0 (.func 21 [] []) bO λlB dh=>cR (aeA K v1 v3) lB dh λv15=>ah 1 v1 (.int 0 (.ofNat 0)) dh λeE=>ah 1 v3 (.int 0 (.ofNat 0)) eE λjO=>Au K v1 v3 .jj jO)))))
theorem arn(R:AV→AV→AV→AH→KF→Prop)(K:KF)(a0:AV)(H:AH):MX R K a0 H=PN (jI (af5 R)) (G8 Tryd.prog (jI (af5 R))) Tryd.prog Tryd.prog.globals.size 400 400 8 [a0] H K:=by kernel_rfl
end Go.Proofs.YtcedghechlgecaaDoor.G
namespace Go.Proofs.YtcedghechlgecaaDoor
open Go Go.X Go.Proofs.YtcedghechlgecaaDoor.G
section
variable {H H':AH}{S S':LS}{K:KF}
noncomputable def g8x(B:AV→AH→KF→Prop):AV→AH→KF→Prop:=λa H K=>MX (cBx B G.NL).c20 K a H
theorem acI{B:AV→AH→KF→Prop}(hB:aC Tryd.prog 10 (aw [.a] B)):aC Tryd.prog 8 (aw [.a] (g8x B)):=λhb l H K hf=>by
 match l,hf with
 |[a],hf=>
  have hf:MX (cBx B G.NL).c20 K a H:=hf;rw[arn]at hf;exact aC.adB (ag.cons (acH hB G.NL).k20 ag.nil) mix 400 400 hb [a] H K hf
noncomputable abbrev g8:AV→AH→KF→Prop:=g8x g10
theorem apG:aC Tryd.prog 8 (aw [.a] g8):=acI anS
theorem MY{o t:Nat}{x y:AV}(hM:Mem H S)(ho:S.ob o=.ce [x] 0)(ht:S.ob t=.ce [y] 0)(hK:K (.ret (.aL [x,y])) H):MW K (.ptr o 0) (.ptr t 0) H:=by
 unfold MW;refine aD hM ho (v:=x) rfl ?_;exact aD hM ht (v:=y) rfl hK
theorem aod{o t:Nat}{x y:AV}{e:Nat×Nat}(hM:Mem H S)(ho:S.ob o=.ce [x] 0)(ht:S.ob t=.ce [y] 0)(h1:o≠t)(hK:∀H' S',Mem H' S'→S.n≤S'.n→(∀b,b<S.n→b≠o→b≠t→S'.ob b=S.ob b)→K (.ret (.aL [aP e.1,aP e.2])) H'):Au K (.ptr o 0) (.ptr t 0) (.iface 56 (.agg [aP e.1,aP e.2])) H:=by
 unfold Au RH;refine acm ?_;simp only[mh,nJ,nK,aM];have lo1:o<S.n:=hM.lt (by rw[ho];simp);have GG:t<S.n:=hM.lt (by rw[ht];simp);refine tT hM (λa ha=>by
  simp only[List.mem_cons,List.not_mem_nil,or_false]at ha;rcases ha with rfl|rfl<;>rfl) rfl rfl (λa ha=>by
  simp only[List.mem_cons,List.not_mem_nil,or_false]at ha;rcases ha with rfl|rfl<;>rfl) λH1 S1 m1 x1 o1 n1=>?_
 rw[aG];simp only[aQ,Nat.zero_add];refine aD m1 o1 (v:=aP e.1) rfl ?_;show cI 0 (.int 0 _) _;rw[aO];refine aD m1 o1 (v:=aP e.2) rfl ?_;show cI 0 (.int 0 _) _;rw[aO];refine bH (v:=.int 0 (e.1:Int)) m1 ((x1.ob _ lo1).trans ho) (by omega) (by show 0<1;omega) rfl λH2 m2=>?_;have m2:Mem H2 (S1.set o (.ce [.int 0 (e.1:Int)] 0)):=m2;refine aD m2 ((LS.an _ _ (by omega)).trans o1) (v:=aP e.2) rfl ?_;show cI 0 (.int 0 _) _;rw[aO];refine cC (wE _ _) ?_;refine bH (v:=.int 0 (e.2:Int)) m2 ((LS.an _ _ (Ne.symm h1)).trans ((x1.ob _ GG).trans ht)) (by omega) (by show 0<1;omega) rfl λH3 m3=>?_;have m3:Mem H3 ((S1.set o (.ce [.int 0 (e.1:Int)] 0)).set t (.ce [.int 0 (e.2:Int)] 0)):=m3;refine MY m3 ((LS.an _ _ h1).trans (LS.av _ _ _)) (LS.av _ _ _) ?_;refine hK H3 _ m3 (by show S.n≤S1.n;exact x1.n) λb hb n1 n2=>?_;exact(LS.an _ _ n2).trans ((LS.an _ _ n1).trans (x1.ob b hb))
theorem aoe{o t:Nat}{x y:AV}(hM:Mem H S)(ho:S.ob o=.ce [x] 0)(ht:S.ob t=.ce [y] 0)(hK:∀H' S',Mem H' S'→Ext S S'→K (.ret (.aL [x,y])) H'):Au K (.ptr o 0) (.ptr t 0) .jj H:=by
 unfold Au RH;refine acn ?_;simp only[mh,nJ,nK,aM];have lo1:o<S.n:=hM.lt (by rw[ho];simp);have GG:t<S.n:=hM.lt (by rw[ht];simp);refine tT hM (λa ha=>by
  simp only[List.mem_cons,List.not_mem_nil,or_false]at ha;rcases ha with rfl|rfl<;>rfl) rfl rfl (λa ha=>by
  simp only[List.mem_cons,List.not_mem_nil,or_false]at ha;rcases ha with rfl|rfl<;>rfl) λH1 S1 m1 x1 o1 n1=>?_
 rw[aH];exact MY m1 ((x1.ob _ lo1).trans ho) ((x1.ob _ GG).trans ht) (hK H1 S1 m1 x1)
theorem ckW{q n:Nat}{bd:List az}(h:4*n≤q)(h2:3*dI bd+1≤n):GO (cB (q+1)).c20 (.func 21 [] []) n bd:=by
 rw[ur];exact(okQ q).b0 (by omega) h2 λH K=>an5 rfl H K
theorem ck8{n:Nat}{v:AV}{bd:List az}(hM:Mem H S)(hT:mP gl S)(hg:gl.length≤S.n)(hb:gw S (nU S) v bd)(hw:kV bd)(hsz:dI bd≤200000)(hn:3*dI bd+1≤n)(hn2:n≤200000)(hK:∀H' S',Mem H' S'→Ext S S'→K (.ret (.aL [aP (eC (OT n bd)),aP (eA (OT n bd))])) H'):g8 v H K:=by
 have hW:GO (cB G.NL).c20 (.func 21 [] []) n bd:=by
  have e:∃q,G.NL=q+1∧4*n≤q:=⟨999999,rfl,by omega⟩
  obtain⟨q,e,h⟩:=e;rw[e];exact ckW h hn
 show MX (cB G.NL).c20 K v H;generalize (cB G.NL).c20=W at hW ⊢;unfold MX;rw[aes];have ez:AV.int 0 (.ofNat 0)=aP 0:=rfl;rw[ez];have h1z:∀a∈[aP 0],a.one=true:=λa ha=>by
  simp only[List.mem_singleton]at ha;subst ha;rfl
 have h1k:∀a∈jL.map ai,a.one=true:=by
  intro a ha;obtain⟨t,_,rfl⟩:=List.mem_map.1 ha;rfl
 refine e8 (dt hM h1z λH1 m1=>?_);have m1:Mem H1 (S.push (.ce [aP 0] 0)):=m1;have x1:Ext S (S.push (.ce [aP 0] 0)):=Ext.push _ _;have o1:(S.push (.ce [aP 0] 0)).ob S.n=.ce [aP 0] 0:=LS.aq _ _;have n1:(S.push (.ce [aP 0] 0)).n=S.n+1:=rfl;generalize S.push (.ce [aP 0] 0)=S1 at m1 x1 o1 n1;refine e8 (dt m1 h1z λH2 m2=>?_);have m2:Mem H2 (S1.push (.ce [aP 0] 0)):=m2;have x2:Ext S1 (S1.push (.ce [aP 0] 0)):=Ext.push _ _;have o2:(S1.push (.ce [aP 0] 0)).ob S1.n=.ce [aP 0] 0:=LS.aq _ _;have n2:(S1.push (.ce [aP 0] 0)).n=S1.n+1:=rfl;generalize S1.push (.ce [aP 0] 0)=S2 at m2 x2 o2 n2;refine dJ m2 rfl h1k λH3 m3=>?_;have m3:Mem H3 (S2.push (.ce (jL.map ai) 0)):=m3;have x3:Ext S2 (S2.push (.ce (jL.map ai) 0)):=Ext.push _ _;have o3:(S2.push (.ce (jL.map ai) 0)).ob S2.n=.ce (jL.map ai) 0:=LS.aq _ _;have n3:(S2.push (.ce (jL.map ai) 0)).n=S2.n+1:=rfl;generalize S2.push (.ce (jL.map ai) 0)=S3 at m3 x3 o3 n3;refine fC rfl ?_;refine dt m3 (l:=[.slice S2.n 0 2 2 1 true,aP 0]) (λa ha=>by
  simp only[List.mem_cons,List.not_mem_nil,or_false]at ha;rcases ha with rfl|rfl<;>rfl) λH4 m4=>?_
 have m4:Mem H4 (S3.push (.ce [.slice S2.n 0 2 2 1 true,aP 0] 0)):=m4;have x4:Ext S3 (S3.push (.ce [.slice S2.n 0 2 2 1 true,aP 0] 0)):=Ext.push _ _;have o4:(S3.push (.ce [.slice S2.n 0 2 2 1 true,aP 0] 0)).ob S3.n=.ce [.slice S2.n 0 2 2 1 true,aP 0] 0:=LS.aq _ _;have n4:(S3.push (.ce [.slice S2.n 0 2 2 1 true,aP 0] 0)).n=S3.n+1:=rfl;generalize S3.push (.ce [.slice S2.n 0 2 2 1 true,aP 0] 0)=S4 at m4 x4 o4 n4;refine fC rfl ?_;have h1p:∀a∈[AV.ptr S3.n 0],a.one=true:=λa ha=>by
  simp only[List.mem_singleton]at ha;subst ha;rfl
 refine dJ m4 (l:=[.ptr S3.n 0]) rfl h1p λH5 m5=>?_;have m5:Mem H5 (S4.push (.ce [.ptr S3.n 0] 0)):=m5;have x5:Ext S4 (S4.push (.ce [.ptr S3.n 0] 0)):=Ext.push _ _;have o5:(S4.push (.ce [.ptr S3.n 0] 0)).ob S4.n=.ce [.ptr S3.n 0] 0:=LS.aq _ _;have n5:(S4.push (.ce [.ptr S3.n 0] 0)).n=S4.n+1:=rfl;generalize S4.push (.ce [.ptr S3.n 0] 0)=S5 at m5 x5 o5 n5;refine fC rfl ?_;refine dt m5 (l:=[.slice S4.n 0 1 1 1 true]) (λa ha=>by
  simp only[List.mem_singleton]at ha;subst ha;rfl) λH6 m6=>?_
 have m6:Mem H6 (S5.push (.ce [.slice S4.n 0 1 1 1 true] 0)):=m6;have x6:Ext S5 (S5.push (.ce [.slice S4.n 0 1 1 1 true] 0)):=Ext.push _ _;have o6:(S5.push (.ce [.slice S4.n 0 1 1 1 true] 0)).ob S5.n=.ce [.slice S4.n 0 1 1 1 true] 0:=LS.aq _ _;have n6:(S5.push (.ce [.slice S4.n 0 1 1 1 true] 0)).n=S5.n+1:=rfl;generalize S5.push (.ce [.slice S4.n 0 1 1 1 true] 0)=S6 at m6 x6 o6 n6;have x26:=x3.trans (x4.trans (x5.trans x6));have hx:=x1.trans (x2.trans x26);have fr3:fa S3 (.slice S2.n 0 2 2 1 true) (jL.map ai):=FN o3 h1k;have fr5:fa S5 (.slice S4.n 0 1 1 1 true) [.ptr S3.n 0]:=FN (l:=[.ptr S3.n 0]) o5 h1p;have hP:Pn S2.n S5.n H6 S6 (.slice S4.n 0 1 1 1 true) ([]++[bK.mk S3.n (.slice S2.n 0 2 2 1 true) jL 0]):=by
  refine⟨m6,⟨o6,fr5.keep m5 λx _ h=>x6.ob x h,?_,?_,?_,?_,?_,?_,?_,by omega,?_,?_⟩,by have:=x26.n;omega,hT.ext hM hx,by omega⟩
  all_goals try simp only[List.nil_append,List.mem_singleton,forall_eq]
  ·exact(x6.ob _ (by omega)).trans ((x5.ob _ (by omega)).trans o4)
  ·exact fr3.keep m3 λx _ h=>(x4.trans (x5.trans x6)).ob x h
  ·exact aer
  ·intro g;have g:S5.n=S4.n:=g;omega
  ·intro g;have g:S3.n=S2.n:=g;omega
  ·exact List.pairwise_singleton _ _
  ·intro x h;have h:x=S3.n∨x=S2.n:=h;refine⟨by omega,λg=>?_⟩;have g:x=S4.n:=g;omega
  ·intro x g;have g:x=S4.n:=g;omega
  ·intro x h;have h:x=S3.n∨x=S2.n:=h;omega
 have hbox:∀{S7:LS},(∀x,x<S2.n→S7.ob x=S6.ob x)→S7.ob S.n=.ce [aP 0] 0∧S7.ob S1.n=.ce [aP 0] 0:=λh=>by
  refine⟨?_,?_⟩
  ·rw[h _ (by omega),x26.ob _ (by omega),x2.ob _ (by omega)];exact o1
  ·rw[h _ (by omega),x26.ob _ (by omega)];exact o2
 have hend:∀{S7 S8:LS},S6.n≤S7.n→(∀x,x<S2.n→S7.ob x=S6.ob x)→S7.n≤S8.n→(∀b,b<S7.n→b≠S.n→b≠S1.n→S8.ob b=S7.ob b)→Ext S S8:=λh1 h2 h3 h4=>⟨by have:=hx.n;omega,λx hxl=>by
  have:=hx.n;rw[h4 x (by omega) (by omega) (by omega),h2 x (by omega)];exact hx.ob x hxl⟩
 refine hW.run hP rfl (hb.go (λx h=>hx.ob x h) λx h=>by have h:x<S.n:=h;show x<S2.n;omega) hw ⟨?_,?_⟩ ⟨λhnn H7 S7 rh v7 P7 GS=>?_,λe he H7 S7 m7 n7 k7=>?_⟩
 ·show 1+_≤_;omega
 ·intro d hd;simp only[List.nil_append,List.mem_singleton]at hd;subst hd;show 2+_≤_∧0+_≤_;omega
 ·show cR (aeA K _ _) (.ret (.aL [])) H7 _;rw[al];obtain⟨b1,b2⟩:=hbox (hP.low GS);refine bH (v:=aP 0) P7.m b1 (by omega) (by show 0<1;omega) rfl λH8 m8=>?_;have m8:Mem H8 (S7.set S.n (.ce [aP 0] 0)):=m8;refine bH (v:=aP 0) m8 ((LS.an _ _ (by omega)).trans b2) (by omega) (by show 0<1;omega) rfl λH9 m9=>?_;have m9:Mem H9 ((S7.set S.n (.ce [aP 0] 0)).set S1.n (.ce [aP 0] 0)):=m9;refine aoe m9 ((LS.an _ _ (by omega)).trans (LS.av _ _ _)) (LS.av _ _ _) λHa Sa ma xa=>?_;have hnn:OT n bd=none:=hnn;rw[hnn]at hK;refine hK Ha Sa ma (hend (S7:=S7) GS.n (hP.low GS) (by have:=xa.n;exact this) λx h h1 h2=>?_);rw[xa.ob x h];exact(LS.an _ _ h2).trans (LS.an _ _ h1)
 ·show cR (aeA K _ _) (.cG _) H7 _;rw[ij];show Au K (.ptr S.n 0) (.ptr S1.n 0) _ H7;obtain⟨b1,b2⟩:=hbox k7;refine aod m7 b1 b2 (by omega) λHa Sa ma na ka=>?_;have he:OT n bd=some e:=he;rw[he]at hK;exact hK Ha Sa ma (hend n7 k7 na ka)
end
end Go.Proofs.YtcedghechlgecaaDoor
namespace Go.X
theorem ah7{r:List Tok ⊕ Nat}{b:List az}(h:yr r=.inl b):kV b:=by
 cases r with
 |inr e=>cases h
 |inl ts=>
  have hsc:yr (.inl ts)=(match kr ts with|.ok b _=>.inl b|.err c i=>.inr (c,ay ts i)|.bb=>.inl []):=rfl;rw[hsc]at h;cases e:kr ts with
  |bb=>rw[e]at h;cases h;trivial
  |err c i=>rw[e]at h;cases h
  |ok b' j=>
   rw[e]at h;cases h;unfold kr at e;obtain⟨a,i,e1,e2⟩:=Ml e;have:=(((OP _).block _ _).h a i e1).h;split at e2
   ·cases e2;exact this
   ·cases e2
end Go.X
namespace Go.Proofs.YtcedghechlgecaaDoor
open Go Go.X Go.Proofs.YtcedghechlgecaaDoor.G
section
variable {H:AH}{S:LS}{K:KF}
noncomputable def R3:FG:=(rD,g7,g8,f9,g10,f11)
noncomputable def g3:AV→AV→AH→KF→Prop:=aqi R3
end
end Go.Proofs.YtcedghechlgecaaDoor
namespace Go.X
theorem FP:∀(w:List Nat) (d:Nat) (l:List Nat),(∀c∈w,LP c∨DP c)→¬(LP d∨DP d)→fI (w++d::l)=w.length
 |[],d,l,_,h=>by rw[List.nil_append,fI,if_neg h];rfl
 |c::w,d,l,hw,h=>by rw[List.cons_append,fI,if_pos (hw c (List.mem_cons_self ..)),FP w d l (λx hx=>hw x (List.mem_cons_of_mem _ hx)) h];rfl
theorem MZ:∀(w:List Nat),(∀c∈w,LP c∨DP c)→fI w=w.length
 |[],_=>rfl
 |c::w,hw=>by rw[fI,if_pos (hw c (List.mem_cons_self ..)),MZ w (λx hx=>hw x (List.mem_cons_of_mem _ hx))];rfl
structure WdP(c:Nat)(w:List Nat):Prop where
 f:LP c
 a:∀x∈c::w,LP x∨DP x
 n:(c::w).length≤32
theorem WdP.nb{c:Nat}{w:List Nat}(h:WdP c w):¬si c∧c≠45:=by
 have:=h.f;unfold LP at this;unfold si;omega
theorem qd{c d p:Nat}{w l:List Nat}{ts:List Tok}(h:WdP c w)(hd:¬(LP d∨DP d))(hw:c::w∈jV)(hr:dT (d::l) (p+(c::w).length) (.inl ts)):dT ((c::w)++d::l) p (.inl (⟨1,c::w,0,p⟩::ts)):=by
 have hr1:fI (c::(w++d::l))=(c::w).length:=FP (c::w) d l h.a hd;have ht:(c::(w++d::l)).take (c::w).length=c::w:=List.take_left' (l₁:=c::w) rfl;have hk:=kR.word c (w++d::l) h.f (by rw[hr1];exact h.n) (by rw[hr1,ht];exact hw);rw[hr1,ht]at hk;refine dT.tok c (w++d::l) p 1 (c::w) 0 _ ts h.nb.1 (λg=>h.nb.2 g.1) hk ?_;have hdr:(c::(w++d::l)).drop (c::w).length=d::l:=List.drop_left' (l₁:=c::w) rfl;rw[hdr];exact hr
theorem zt{c d p:Nat}{w l:List Nat}{ts:List Tok}(h:WdP c w)(hd:¬(LP d∨DP d))(hw:c::w∉jV)(hr:dT (d::l) (p+(c::w).length) (.inl ts)):dT ((c::w)++d::l) p (.inl (⟨2,c::w,0,p⟩::ts)):=by
 have hr1:fI (c::(w++d::l))=(c::w).length:=FP (c::w) d l h.a hd;have ht:(c::(w++d::l)).take (c::w).length=c::w:=List.take_left' (l₁:=c::w) rfl;have hk:=kR.name c (w++d::l) h.f (by rw[hr1];exact h.n) (by rw[hr1,ht];exact hw);rw[hr1,ht]at hk;refine dT.tok c (w++d::l) p 2 (c::w) 0 _ ts h.nb.1 (λg=>h.nb.2 g.1) hk ?_;have hdr:(c::(w++d::l)).drop (c::w).length=d::l:=List.drop_left' (l₁:=c::w) rfl;rw[hdr];exact hr
theorem ah8{c p:Nat}{w:List Nat}(h:WdP c w)(hw:c::w∈jV):dT (c::w) p (.inl [⟨1,c::w,0,p⟩,⟨0,[],0,p+(c::w).length⟩]):=by
 have hr1:fI (c::w)=(c::w).length:=MZ (c::w) h.a;have ht:(c::w).take (c::w).length=c::w:=List.take_length;have hk:=kR.word c w h.f (by rw[hr1];exact h.n) (by rw[hr1,ht];exact hw);rw[hr1,ht]at hk;refine dT.tok c w p 1 (c::w) 0 _ _ h.nb.1 (λg=>h.nb.2 g.1) hk ?_;rw[List.drop_length];exact dT.nil _
theorem jA{p:Nat}{l:List Nat}{r:List Tok ⊕ Nat}(h:dT l (p+1) r):dT (32::l) p r:=.blank 32 l p r (.inl rfl) h
theorem FQ{c d p:Nat}{l:List Nat}{ts:List Tok}(h1:¬si c)(h2:c≠45)(h3:¬DP c)(h4:¬LP c)(h5:c≠34)(h6:c≠39)(h7:[c,d]∉kQ)(h8:c∈ones)(hr:dT (d::l) (p+1) (.inl ts)):dT (c::d::l) p (.inl (⟨5,[c],0,p⟩::ts)):=by
 have hs:ki (c::d::l)=1:=by
  rw[ki,if_neg h7,if_pos h8]
 have hk:=kR.sign c (d::l) h3 h4 h5 h6 (by rw[hs];decide);rw[hs]at hk;exact dT.tok c (d::l) p 5 [c] 0 1 ts h1 (λg=>h2 g.1) hk hr
def qZ(p:Nat):List Tok:=[⟨1,[108,111,99,97,108],0,p⟩,⟨2,[99],0,p+6⟩]
def qe(p:Nat):List Tok:=[⟨1,[100,111],0,p⟩,⟨1,[108,111,99,97,108],0,p+3⟩,⟨2,[97],0,p+9⟩,⟨1,[108,111,99,97,108],0,p+11⟩,⟨2,[98],0,p+17⟩,⟨1,[101,110,100],0,p+19⟩]
def RI(p:Nat):List Tok:=[⟨1,[108,111,99,97,108],0,p⟩,⟨2,[102],0,p+6⟩,⟨5,[61],0,p+8⟩,⟨1,[102,117,110,99,116,105,111,110],0,p+10⟩,⟨5,[40],0,p+18⟩,⟨5,[41],0,p+19⟩]
def qf:List Nat:=[108,111,99,97,108,32,99,32]
def nD:List Nat:=[100,111,32,108,111,99,97,108,32,97,32,108,111,99,97,108,32,98,32,101,110,100,32]
def og:List Nat:=[108,111,99,97,108,32,102,32,61,32,102,117,110,99,116,105,111,110,40,41,32]
def FR:List Nat:=[101,110,100]
theorem uu:¬(LP 32∨DP 32):=by decide
theorem aof{l:List Nat}{p:Nat}{ts:List Tok}(h:dT l (p+8) (.inl ts)):dT (qf++l) p (.inl (qZ p++ts)):=
 qd (c:=108) (w:=[111,99,97,108]) ⟨by decide,by decide,by decide⟩ uu (by decide) (jA (zt (c:=99) (w:=[]) ⟨by decide,by decide,by decide⟩ uu (by decide) (jA h)))
theorem aog{l:List Nat}{p:Nat}{ts:List Tok}(h:dT l (p+23) (.inl ts)):dT (nD++l) p (.inl (qe p++ts)):=
 qd (c:=100) (w:=[111]) ⟨by decide,by decide,by decide⟩ uu (by decide) (jA
  (qd (c:=108) (w:=[111,99,97,108]) ⟨by decide,by decide,by decide⟩ uu (by decide) (jA (zt (c:=97) (w:=[]) ⟨by decide,by decide,by decide⟩ uu (by decide) (jA
  (qd (c:=108) (w:=[111,99,97,108]) ⟨by decide,by decide,by decide⟩ uu (by decide) (jA (zt (c:=98) (w:=[]) ⟨by decide,by decide,by decide⟩ uu (by decide) (jA
  (qd (c:=101) (w:=[110,100]) ⟨by decide,by decide,by decide⟩ uu (by decide) (jA h)))))))))))
theorem aoh{l:List Nat}{p:Nat}{ts:List Tok}(h:dT l (p+21) (.inl ts)):dT (og++l) p (.inl (RI p++ts)):=
 qd (c:=108) (w:=[111,99,97,108]) ⟨by decide,by decide,by decide⟩ uu (by decide) (jA (zt (c:=102) (w:=[]) ⟨by decide,by decide,by decide⟩ uu (by decide) (jA
  (FQ (c:=61) (d:=32) (by decide) (by decide) (by decide) (by decide) (by decide) (by decide) (by decide) (by decide) (jA
  (qd (c:=102) (w:=[117,110,99,116,105,111,110]) (d:=40) ⟨by decide,by decide,by decide⟩ (by decide) (by decide)
  (FQ (c:=40) (d:=41) (by decide) (by decide) (by decide) (by decide) (by decide) (by decide) (by decide) (by decide)
  (FQ (c:=41) (d:=32) (by decide) (by decide) (by decide) (by decide) (by decide) (by decide) (by decide) (by decide) (jA h)))))))))
def jz(s:List Nat):Nat→List Nat
 |0=>[]
 |n+1=>s++jz s n
def mF(t:Nat→List Tok)(w:Nat):Nat→Nat→List Tok
 |0,_=>[]
 |n+1,p=>t p++mF t w n (p+w)
theorem M0{s:List Nat}{t:Nat→List Tok}{w:Nat}(h:∀{l:List Nat}{p:Nat}{ts:List Tok},dT l (p+w) (.inl ts)→dT (s++l) p (.inl (t p++ts))):∀(n:Nat){l:List Nat}{p:Nat}{ts:List Tok},dT l (p+n*w) (.inl ts)→dT (jz s n++l) p (.inl (mF t w n p++ts))
 |0,l,p,ts,g=>by
  rw[Nat.zero_mul,Nat.add_zero]at g;exact g
 |n+1,l,p,ts,g=>by
  rw[jz,mF,List.append_assoc,List.append_assoc];refine h (M0 h n ?_);have e:p+w+n*w=p+(n+1)*w:=by rw[Nat.add_mul,Nat.one_mul];omega
  rw[e];exact g
theorem rN(s:List Nat):∀n,(jz s n).length=n*s.length
 |0=>by simp[jz]
 |n+1=>by rw[jz,List.length_append,rN s n,Nat.add_mul,Nat.one_mul];omega
theorem Av(s:List Nat):∀n,jz s (n+1)=jz s n++s
 |0=>by simp[jz]
 |n+1=>by
  have h:s++jz s (n+1)=(s++jz s n)++s:=by rw[Av s n,List.append_assoc]
  exact h
def pA(b k:Nat)(w:Bool):List Nat:=(if w then og else [])++(jz nD b++(jz qf k++(if w then FR else [])))
def FT(p:Nat)(w:Bool):List Tok:=if w then [⟨1,[101,110,100],0,p⟩,⟨0,[],0,p+3⟩] else [⟨0,[],0,p⟩]
def lk(b k:Nat)(w:Bool):List Tok:=(if w then RI 0 else [])++(mF qe 23 b (if w then 21 else 0)++(mF qZ 8 k ((if w then 21 else 0)+b*23)++FT ((if w then 21 else 0)+b*23+k*8) w))
theorem O3(b k:Nat)(w:Bool):dT (pA b k w) 0 (.inl (lk b k w)):=by
 have he:∀p,dT (if w then FR else []) p (.inl (FT p w)):=λp=>by
  cases w with
  |true=>exact ah8 (c:=101) (w:=[110,100]) ⟨by decide,by decide,by decide⟩ (by decide)
  |false=>exact dT.nil p
 have h1:∀p,dT (jz nD b++(jz qf k++(if w then FR else []))) p (.inl (mF qe 23 b p++(mF qZ 8 k (p+b*23)++FT (p+b*23+k*8) w))):=λp=>
  M0 aog b (M0 aof k (he _))
 unfold pA lk;cases w with
 |true=>exact aoh (h1 21)
 |false=>exact h1 0
def pB(y:Tok)(s:List Nat):Bool:=(decide (y.kind=1)||decide (y.kind=5))&&decide (y.text=s)
def enA(y:Tok):Bool:=pB y [101,110,100]||(pB y [101,108,115,101]||(pB y [101,108,115,101,105,102]||(pB y [117,110,116,105,108]||decide (y.kind=0))))
section
variable {T R:List Tok}{i d p q m n:Nat}{x y:Tok}{nm:List Nat}
theorem zu{b:Bool}(h:b=false):¬b=true:=by rw[h];decide
theorem gz(h:T.drop i=x::R):T[i]? = some x:=by
 have:=congrArg (λl=>l[0]?) h;simpa[List.getElem?_drop]using this
theorem fi(h:T.drop i=x::R):T.drop (i+1)=R:=by
 have:=congrArg (List.drop 1) h;simpa[List.drop_drop]using this
theorem dX(g:T[i]? = some x)(s:List Nat):isA T s i=pB x s:=by
 unfold isA bW fM;rw[g];rfl
theorem oI(g:T[i]? = some x):eP T i=enA x:=by
 unfold eP;rw[dX g,dX g,dX g,dX g];unfold bW;rw[g];rfl
theorem zw(g:T[i]? = some x):ay T i=x.pos:=by
 unfold ay;rw[g]
theorem w8(g:T[i]? = some x):bW T i=x.kind:=by
 unfold bW;rw[g]
theorem M3(g:T[i]? = some ⟨2,nm,0,q⟩):ey T i=.ok nm (i+1):=by
 unfold ey bW fM;rw[g];rfl
theorem w9{s:List Nat}(g:T[i]? = some x)(h:pB x s=true):aS T s i=.ok () (i+1):=by
 unfold aS;rw[dX g,if_pos h]
theorem op0:∀(l:List (List Nat)) (f:Nat),(∀s,isA T s i=false)→lY T i f l=0
 |[],_,_=>rfl
 |s::l,f,h=>by rw[lY,h s,if_neg (by decide),op0 l (f+1) h]
theorem vV{out:List az}{s:az}{j:Nat}(hs:eW T n i d=.ok s j)(he:eP T i=false)(hk:s.kind≠10)(ho:isA T [59] j=false):bA T (n+1) out i d=bA T n (out++[s]) j d:=by
 rw[bA.eq_2,if_neg (by rw[he];decide),hs];simp only[ak.bind];rw[if_neg (λg=>hk g.1)];unfold dw;rw[ho];rfl
theorem M4{out:List az}(he:eP T i=true):bA T (n+1) out i d=.ok out i:=by
 rw[bA.eq_2,if_pos he]
theorem Aw(h:T.drop i=⟨1,[108,111,99,97,108],0,p⟩::⟨2,nm,0,q⟩::y::R)(hy:pB y [61]=false):eW T (m+2) i d=.ok (.mk 1 p [nm] [] []) (i+2):=by
 have g0:=gz h;have h1:=fi h;have g1:=gz h1;have g2:=gz (fi h1);rw[eW.eq_2,dX g0,if_pos (by exact rfl),gV.eq_2,dX g1,if_neg (by simp[pB]),M3 g1];simp only[ak.bind];rw[dX g2,hy,if_neg (by decide),zw g0]
def NY(y:Tok):Prop:=pB y [61]=false∧pB y [59]=false
def M5(L:List Tok):Prop:=∃y R,L=y::R∧NY y
def rE:Nat→Nat→List az
 |_,0=>[]
 |p,k+1=>.mk 1 p [[99]] [] []::rE (p+8) k
theorem O4{L:List Tok}(h:M5 L):∀k p,M5 (mF qZ 8 k p++L)
 |0,_=>h
 |k+1,p=>⟨⟨1,[108,111,99,97,108],0,p⟩,⟨2,[99],0,p+6⟩::(mF qZ 8 k (p+8)++L),rfl,rfl,rfl⟩
theorem O5:∀(k:Nat){out:List az}{i p:Nat}{L:List Tok},T.drop i=mF qZ 8 k p++L→M5 L→bA T (m+2+k) out i d=bA T (m+2) (out++rE p k) (i+2*k) d∧T.drop (i+2*k)=L
 |0,out,i,p,L,h,_=>by
  refine⟨?_,h⟩;simp only[rE,List.append_nil,Nat.mul_zero,Nat.add_zero]
 |k+1,out,i,p,L,h,hL=>by
  obtain⟨y,R,e,hy⟩:=O4 hL k (p+8);have h0:T.drop i=⟨1,[108,111,99,97,108],0,p⟩::⟨2,[99],0,p+6⟩::(mF qZ 8 k (p+8)++L):=h;have h2:T.drop (i+2)=mF qZ 8 k (p+8)++L:=fi (fi h0);rw[e]at h0;have hs:=Aw (m:=m+k) (d:=d) h0 hy.1;have g2:=gz (fi (fi h0));obtain⟨e1,e2⟩:=O5 k (out:=out++[.mk 1 p [[99]] [] []]) h2 hL;have em:m+k+2=m+2+k:=by omega
  rw[em]at hs;refine⟨?_,?_⟩
  ·rw[←Nat.add_assoc,vV hs (by rw[oI (gz h0)];rfl) (by simp[az.kind]) (by rw[dX g2];exact hy.2),e1,List.append_assoc];have:i+2+2*k=i+2*(k+1):=by omega
   rw[this];rfl
  ·rw[←e2];congr 1;omega
def xb(p:Nat):az:=.mk 11 p [] [] [[.mk 1 (p+3) [[97]] [] [],.mk 1 (p+11) [[98]] [] []]]
def rF:Nat→Nat→List az
 |_,0=>[]
 |p,k+1=>xb p::rF (p+23) k
theorem aoi(h:T.drop i=qe p++R)(hd:d≤50):eW T (m+7) i d=.ok (xb p) (i+6):=by
 have h:T.drop i=⟨1,[100,111],0,p⟩::⟨1,[108,111,99,97,108],0,p+3⟩::⟨2,[97],0,p+9⟩::⟨1,[108,111,99,97,108],0,p+11⟩::⟨2,[98],0,p+17⟩::⟨1,[101,110,100],0,p+19⟩::R:=h;have g0:=gz h;have h1:=fi h;have h3:=fi (fi h1);have g3:=gz h3;have h5:=fi (fi h3);have g5:=gz h5;rw[eW.eq_2,dX g0,if_neg (by exact zu rfl),dX g0,if_neg (by exact zu rfl),dX g0,if_neg (by exact zu rfl),dX g0,if_neg (by exact zu rfl),dX g0,if_neg (by exact zu rfl),dX g0,if_neg (by exact zu rfl),dX g0,if_pos (by exact rfl),oD.eq_2,cj.eq_2,if_neg (by omega),
  vV (Aw h1 rfl) (by rw[oI (gz h1)];rfl) (by simp[az.kind,xb]) (by rw[dX g3];rfl),
  vV (Aw h3 rfl) (by rw[oI g3];rfl) (by simp[az.kind,xb]) (by rw[dX g5];rfl),
  M4 (by rw[oI g5];rfl)]
 simp only[ak.bind];rw[w9 g5 rfl,zw g0];rfl
theorem ah9{L:List Tok}(h:M5 L):∀k p,M5 (mF qe 23 k p++L)
 |0,_=>h
 |k+1,p=>⟨⟨1,[100,111],0,p⟩,_,rfl,rfl,rfl⟩
theorem O6(hd:d≤50):∀(k:Nat){out:List az}{i p:Nat}{L:List Tok},T.drop i=mF qe 23 k p++L→M5 L→bA T (m+7+k) out i d=bA T (m+7) (out++rF p k) (i+6*k) d∧T.drop (i+6*k)=L
 |0,out,i,p,L,h,_=>by
  refine⟨?_,h⟩;simp only[rF,List.append_nil,Nat.mul_zero,Nat.add_zero]
 |k+1,out,i,p,L,h,hL=>by
  obtain⟨y,R,e,hy⟩:=ah9 hL k (p+23);have h0:T.drop i=qe p++(mF qe 23 k (p+23)++L):=by
   rw[←List.append_assoc];exact h
  have h6:T.drop (i+6)=mF qe 23 k (p+23)++L:=fi (fi (fi (fi (fi (fi h0)))));have hs:=aoi (m:=m+k) h0 hd;rw[e]at h6;have g6:=gz h6;rw[←e]at h6;obtain⟨e1,e2⟩:=O6 hd k (out:=out++[xb p]) h6 hL;have em:m+k+7=m+7+k:=by omega
  rw[em]at hs;refine⟨?_,?_⟩
  ·rw[←Nat.add_assoc,vV hs (by rw[oI (gz h0)];rfl) (by simp[az.kind,xb]) (by rw[dX g6];exact hy.2),e1,List.append_assoc];have:i+6+6*k=i+6*(k+1):=by omega
   rw[this];rfl
  ·rw[←e2];congr 1;omega
theorem aoj{j:Nat}{body:List az}(h:T.drop i=RI p++R)(hd:d≤50)(hb:bA T m [] (i+6) (d+2)=.ok body j)(hj:T.drop j=[⟨1,[101,110,100],0,q⟩,⟨0,[],0,q+3⟩]):eW T (m+14) i d=.ok (.mk 1 p [[102]] [.mk 7 (p+10) 0 [] 0 [] [.mk [] body]] []) (j+1):=by
 have h:T.drop i=⟨1,[108,111,99,97,108],0,p⟩::⟨2,[102],0,p+6⟩::⟨5,[61],0,p+8⟩::⟨1,[102,117,110,99,116,105,111,110],0,p+10⟩::⟨5,[40],0,p+18⟩::⟨5,[41],0,p+19⟩::R:=h;have g0:=gz h;have h1:=fi h;have g1:=gz h1;have h2:=fi h1;have g2:=gz h2;have h3:=fi h2;have g3:=gz h3;have h4:=fi h3;have g4:=gz h4;have g5:=gz (fi h4);have q0:=gz hj;have q1:=gz (fi hj);have no:∀s,isA T s (j+1)=false:=λs=>by
  rw[dX q1];rfl
 have e3:i+1+1+1=i+3:=rfl;have apH:∀a,gY T (m+2) a (i+4) (d+1)=.ok (.mk 7 a 0 [] 0 [] [.mk [] body]) (j+1):=λa=>by
  have hp:bQ T (m+1) true [] (i+5)=.ok [] (i+6):=by
   rw[bQ.eq_2,if_neg (by rw[dX g5];simp[pB]),w9 g5 rfl];rfl
  rw[gY.eq_2,w9 g4 rfl];simp only[ak.bind];rw[hp];simp only[];rw[cj.eq_2,if_neg (by omega),hb];simp only[];rw[w9 q0 rfl]
 have aia:dK T (m+3) (i+3) (d+1)=.ok (.mk 7 (p+10) 0 [] 0 [] [.mk [] body]) (j+1):=by
  have hl:lj T (i+3)=0:=by
   unfold lj;rw[dX g3,if_neg (by simp[pB]),dX g3,if_neg (by simp[pB]),dX g3,if_neg (by simp[pB])]
  rw[dK.eq_2,w8 g3,if_neg (by simp),if_neg (by simp),if_neg (by simp),if_neg (by rw[hl];decide),dX g3,if_pos (by exact rfl),zw g3];exact apH _
 have aok:fk T (m+5) (i+3) (d+1)=.ok (.mk 7 (p+10) 0 [] 0 [] [.mk [] body]) (j+1):=by
  have hu:tP T (i+3)=0:=by
   unfold tP;rw[dX g3,if_neg (by simp[pB]),dX g3,if_neg (by simp[pB]),dX g3,if_neg (by simp[pB])]
  rw[fk.eq_2,hu,if_pos rfl,iI.eq_2,w8 g3,dX g3,if_neg (by simp[pB])];exact aia
 have aro:bP T (m+12) (i+3) d=.ok (.mk 7 (p+10) 0 [] 0 [] [.mk [] body]) (j+1):=by
  rw[bP.eq_2,if_neg (by omega),gd.eq_2,jw.eq_2,jx.eq_2,gk.eq_2,lO.eq_2,jy.eq_2,aok];simp only[ak.bind];rw[iH.eq_2,op0 _ _ no,if_pos rfl];simp only[];rw[jJ.eq_2,op0 _ _ no,if_pos rfl];simp only[];rw[no,if_neg (by decide)];simp only[];rw[iG.eq_2,op0 _ _ no,if_pos rfl];simp only[];rw[iF.eq_2,no,if_neg (by decide)];simp only[];rw[fN.eq_2,no,if_neg (by decide)]
 rw[eW.eq_2,dX g0,if_pos (by exact rfl),gV.eq_2,dX g1,if_neg (by simp[pB]),M3 g1];simp only[ak.bind];rw[dX g2,if_pos (by exact rfl),zw g0,aro]
end
def lR(p b k:Nat):List az:=rF p b++rE (p+b*23) k
def HE(b k:Nat)(w:Bool):List az:=if w then [.mk 1 0 [[102]] [.mk 7 10 0 [] 0 [] [.mk [] (lR 21 b k)]] []] else lR 0 b k
theorem O7{T:List Tok}{i p d m b k:Nat}{L:List Tok}(hd:d≤50)(h:T.drop i=mF qe 23 b p++(mF qZ 8 k (p+b*23)++L))(hL:M5 L){y:Tok}{R:List Tok}(hy:L=y::R)(he:enA y=true):bA T (m+k+7+b) [] i d=.ok (lR p b k) (i+6*b+2*k)∧T.drop (i+6*b+2*k)=L:=by
 obtain⟨e1,e2⟩:=O6 (m:=m+k) hd b (out:=[]) h (O4 hL k _);obtain⟨e3,e4⟩:=O5 (m:=m+5) (d:=d) k (out:=[]++rF p b) e2 hL;have em:m+k+7=m+5+2+k:=by omega
 rw[em]at e1;rw[em,e1,e3];rw[hy]at e4;exact⟨M4 (by rw[oI (gz e4)];exact he),by rw[hy];exact e4⟩
theorem M6(b k:Nat)(w:Bool):yr (.inl (lk b k w))=.inl (HE b k w):=by
 have hT:=(O3 b k w).Eu;have fin:∀a j,kr (lk b k w)=.ok a j→yr (.inl (lk b k w))=.inl a:=λa j h=>by
  have hsc:yr (.inl (lk b k w))=(match kr (lk b k w)with|.ok b _=>.inl b|.err c i=>.inr (c,ay (lk b k w) i)|.bb=>.inl []):=rfl;rw[hsc,h]
 cases w with
 |false=>
  have hd:(lk b k false).drop 0=mF qe 23 b 0++(mF qZ 8 k (0+b*23)++FT (0+b*23+k*8) false):=rfl;obtain⟨e1,e2⟩:=O7 (d:=1) (m:=64*(lk b k false).length+63) (by omega) hd ⟨_,_,rfl,rfl,rfl⟩ rfl rfl;exact fin _ _ (Ew hT e1 (by omega) (by rw[w8 (gz e2)]))
 |true=>
  have hd:(lk b k true).drop 0=RI 0++(mF qe 23 b 21++(mF qZ 8 k (21+b*23)++FT (21+b*23+k*8) true)):=rfl;have h6:(lk b k true).drop (0+6)=mF qe 23 b 21++(mF qZ 8 k (21+b*23)++FT (21+b*23+k*8) true):=rfl;obtain⟨e1,e2⟩:=O7 (d:=1+2) (m:=64*(lk b k true).length+63) (by omega) h6 ⟨_,_,rfl,rfl,rfl⟩ rfl rfl;have hs:=aoj hd (d:=1) (by omega) e1 e2;have q1:=gz (fi e2);have hb:=vV (out:=[]) hs (by rw[oI (gz hd)];rfl) (by simp[az.kind]) (by rw[dX q1];rfl);have hz:bA (lk b k true) (64*(lk b k true).length+63+k+7+b+14) ([]++[.mk 1 0 [[102]] [.mk 7 (0+10) 0 [] 0 [] [.mk [] (lR 21 b k)]] []]) (0+6+6*b+2*k+1) 1=.ok ([]++[.mk 1 0 [[102]] [.mk 7 (0+10) 0 [] 0 [] [.mk [] (lR 21 b k)]] []]) (0+6+6*b+2*k+1):=M4 (n:=64*(lk b k true).length+63+k+7+b+13) (by rw[oI q1];rfl);exact fin _ _ (Ew hT (hb.trans hz) (by omega) (by rw[w8 q1]))
theorem M7{n lp p:Nat}{L:List (List (List Nat))}{ns:List (List Nat)}{nm:List Nat}:kS (n+1) L lp (ns,none) (.mk 1 p [nm] [] [])=(ns++[nm],ng ns [nm] p):=by
 rw[kS.eq_2,if_pos rfl];simp only[cw,dP,mE]
theorem aol{n lp p:Nat}{L:List (List (List Nat))}{ns:List (List Nat)}(h:ns.length≤100):kS (n+3) L lp (ns,none) (xb p)=(ns,none):=by
 unfold xb;rw[kS.eq_2,if_neg (by decide),if_neg (by decide),if_neg (by decide),if_neg (by decide),if_neg (by decide),if_neg (by decide),if_neg (by decide),if_neg (by decide)];have e:kB (n+2) L lp ns [.mk 1 (p+3) [[97]] [] [],.mk 1 (p+11) [[98]] [] []] []=none:=by
  rw[kB,List.foldl_cons,List.foldl_cons,List.foldl_nil,M7];have l1:ng ns [[97]] (p+3)=none:=by
   unfold ng;rw[if_neg (by simp;omega)]
  have l2:ng (ns++[[97]]) [[98]] (p+11)=none:=by
   unfold ng;rw[if_neg (by simp;omega)]
  rw[l1,M7,l2];rfl
 simp only[cw,dP,e]
theorem O8{n lp:Nat}{L:List (List (List Nat))}{ns:List (List Nat)}(h:ns.length≤100):∀k p,(rF p k).foldl (kS (n+3) L lp) (ns,none)=(ns,none)
 |0,_=>rfl
 |k+1,p=>by
  rw[rF,List.foldl_cons,aol h];exact O8 h k (p+23)
theorem O9{n lp:Nat}{L:List (List (List Nat))}:∀(k p:Nat) (ns:List (List Nat)),ns.length≤150→((rE p k).foldl (kS (n+1) L lp) (ns,none)).2=if 150<ns.length+k then some (8,p+8*(150-ns.length)) else none
 |0,p,ns,h=>by
  rw[if_neg (by omega)];rfl
 |k+1,p,ns,h=>by
  rw[rE,List.foldl_cons,M7,EJ];by_cases g:ns.length=150
  ·have l1:ng ns [[99]] p=some (8,p):=by
    unfold ng;rw[if_pos (by simp;omega)]
   rw[l1,if_pos (by omega)];rw[qb,g];rfl
  ·have l1:ng ns [[99]] p=none:=by
    unfold ng;rw[if_neg (by simp;omega)]
   rw[l1];show eI none (List.foldl (kS (n+1) L lp) (ns++[[99]],none) (rE (p+8) k)).2=_;rw[dP,O9 k (p+8) (ns++[[99]]) (by simp;omega)];rw[List.length_append,List.length_singleton];by_cases g2:150<ns.length+(k+1)
   ·rw[if_pos (by omega),if_pos g2];congr 2;omega
   ·rw[if_neg (by omega),if_neg g2]
theorem Pb{n lp:Nat}{L:List (List (List Nat))}{ns:List (List Nat)}(h:ns.length≤100)(p b k:Nat):kB (n+4) L lp ns (lR p b k) []=if 150<ns.length+k then some (8,p+b*23+8*(150-ns.length)) else none:=by
 rw[kB];unfold lR;rw[List.foldl_append,O8 h,O9 k _ ns (by omega)];exact mE _
def iM(w:Bool):Nat:=if w then 150 else 148
theorem aib{n:Nat}(hn:20≤n)(b k:Nat)(w:Bool):OT n (HE b k w)=if iM w<k then some (8,(if w then 21 else 0)+b*23+8*iM w) else none:=by
 obtain⟨m,rfl⟩:∃m,n=m+20:=⟨n-20,by omega⟩
 unfold OT;cases w with
 |false=>
  show kB (m+16+4) [] 0 jL (lR 0 b k) []=if 148<k then some (8,0+b*23+8*148) else none
  rw[Pb (by decide)];show(if 150<2+k then some (8,0+b*23+8*(150-2)) else none)=_;by_cases g:148<k
  ·rw[if_pos g,if_pos (by omega)]
  ·rw[if_neg g,if_neg (by omega)]
 |true=>
  show kB (m+20) [] 0 jL [.mk 1 0 [[102]] [.mk 7 10 0 [] 0 [] [.mk [] (lR 21 b k)]] []] []=if 150<k then some (8,21+b*23+8*150) else none
  rw[kB,List.foldl_cons,List.foldl_nil];have e:kS (m+19) [] 0 (jL,none) (.mk 1 0 [[102]] [.mk 7 10 0 [] 0 [] [.mk [] (lR 21 b k)]] [])=(jL++[[102]],kB (m+12+4) ([]++[jL]) 0 [] (lR 21 b k) []):=by
   have l1:ng jL [[102]] 0=none:=by decide
   rw[kS.eq_2,if_pos rfl,l1];simp only[cw,dP,mE];rw[kE,if_neg (λg=>by cases g.1)];simp only[cw,dP,mE];rw[kF]
  rw[e,Pb (by decide)];show eI (if 150<0+k then some (8,21+b*23+8*(150-0)) else none) none=_;rw[mE];show(if 150<0+k then some (8,21+b*23+8*(150-0)) else none)=_;rw[Nat.zero_add]
theorem Pc:∀k p,dI (rE p k)=2*k
 |0,_=>rfl
 |k+1,p=>by
  rw[rE,dI,Pc k (p+8)];simp only[az.sz,fD,pw,List.length_singleton];omega
theorem Pd:∀k p,dI (rF p k)=6*k
 |0,_=>rfl
 |k+1,p=>by
  rw[rF,dI,Pd k (p+23)];simp only[xb,az.sz,dI,fD,pw,List.length_singleton,List.length_nil];omega
theorem aic(b k:Nat)(w:Bool):dI (HE b k w)≤6*b+2*k+10:=by
 have h:∀p,dI (lR p b k)=6*b+2*k:=λp=>by
  unfold lR;rw[Ao,Pd,Pc]
 cases w with
 |false=>
  show dI (lR 0 b k)≤_;rw[h];omega
 |true=>
  show dI [.mk 1 0 [[102]] [.mk 7 10 0 [] 0 [] [.mk [] (lR 21 b k)]] []]≤_;simp only[dI,az.sz,fD,au.sz,yt,fm.sz,pw,List.length_singleton,List.length_nil,h];omega
theorem RJ{s:List Nat}(h:B8 s):∀n,B8 (jz s n)
 |0=>λc hc=>by simp[jz]at hc
 |n+1=>λc hc=>(List.mem_append.1 hc).elim (h c) (RJ h n c)
theorem aid(b k:Nat)(w:Bool):B8 (pA b k w):=by
 intro c hc;unfold pA at hc;rcases List.mem_append.1 hc with h|h
 ·cases w with
  |true=>exact aX (l:=og) (by decide) c h
  |false=>simp at h
 rcases List.mem_append.1 h with h|h
 ·exact RJ (aX (l:=nD) (by decide)) b c h
 rcases List.mem_append.1 h with h|h
 ·exact RJ (aX (l:=qf) (by decide)) k c h
 ·cases w with
  |true=>exact aX (l:=FR) (by decide) c h
  |false=>simp at h
theorem aeB(b k:Nat)(w:Bool):(pA b k w).length≤21+b*23+k*8+3:=by
 unfold pA;rw[List.length_append,List.length_append,List.length_append,rN,rN];have h1:nD.length=23:=rfl;have h2:qf.length=8:=rfl;rw[h1,h2];cases w with
 |true=>
  show 21+(b*23+(k*8+3))≤_;omega
 |false=>
  show 0+(b*23+(k*8+0))≤_;omega
theorem aom:(AV.str 23 3102566866157794967423829780017747123011582099009335140)=ai nD:=wH (by decide) (by decide)
theorem aon:(AV.str 8 2333744681770512236)=ai qf:=wH (by decide) (by decide)
theorem aoo:(AV.str 21 47003022666263580512491423601275476348955544219500)=ai og:=wH (by decide) (by decide)
theorem aop:(AV.str 3 6581861)=ai FR:=wH (by decide) (by decide)
theorem acJ(z:Int):∃r:Nat,r<20∧Int.tmod (z%18446744073709551616) (Int.ofNat 20)=(r:Int):=by
 obtain⟨u,hu⟩:=Int.eq_ofNat_of_zero_le (Int.emod_nonneg z (show(18446744073709551616:Int)≠0 by omega));rw[hu];exact⟨u%20,Nat.mod_lt u (by omega),rfl⟩
end Go.X
namespace Go.Proofs.YtcedghechlgecaaDoor
open Go Go.X Go.Proofs.YtcedghechlgecaaDoor.G
section
variable {H:AH}{S:LS}{K:KF}
noncomputable def R5:eL:=(rD,g7,g8)
noncomputable def g5:Int→Bool→Int→AH→KF→Prop:=ana R5
theorem apI(ht:aC Tryd.prog 6 (aw [] rD)):aC Tryd.prog 5 (aw [.i 0,.b,.i 0] g5):=anb R5 (ag.cons ht (ag.cons af2 (ag.cons apG ag.nil)))
theorem arp{n bl:Int}{w:Bool}(hM:Mem H S)(hT:mP gl S)(hg:gl.length≤S.n)(hK:∀H',K (.ret (.bool true)) H'):g5 n w bl H K:=by
 have ra:R5.1=rD:=rfl;have rb:R5.2.1=g7:=rfl;have rc:R5.2.2=g8:=rfl;obtain⟨r,hr,er⟩:=acJ n;obtain⟨B,hB,eB⟩:=acJ bl;have e20:(Int.ofNat 20 == 0)=false:=rfl;have iR:G.NL=1000000:=rfl;have fin:∀(k:Nat),k≤159→Er R5 K (k:Int) (ai (pA B k w)) ((if iM w<k then (if w then 21 else 0)+B*23+8*iM w else 0:Nat):Int) (iM w:Int) H:=λk hk=>by
  unfold Er;rw[ra,rb,rc];have hl:=aeB B k w;refine aqZ (aid B k w) (by omega) (O3 B k w) hM ?_;rw[M6];intro H1 S1 v1 m1 x1 rv1;simp only[al,mh,nJ,nK,aO];have B1:gw S1 (nU S1) v1 (HE B k w):=rv1.go (λx hx=>rfl) λx hx=>hx.2;have hs:=aic B k w;refine ck8 (n:=4000) m1 (hT.ext hM x1) (by have:=x1.n;omega) B1 (ah7 (M6 B k w)) (by omega) (by omega) (by omega) λH2 S2 m2 x2=>?_;simp only[al,mh,nJ,nK];unfold aP;simp only[aO];rw[aib (by omega)];have x12:=x1.trans x2;have tl:∀(k':Bool→AH→Prop),k' true H2→rD H2 λsj gU=>cR K sj gU λv23=>bS v23 λz24=>k' z24 gU:=λk' h=>by
   refine⟨⟨S2,m2,hT.ext hM x12⟩,?_⟩;show k' true H2;exact h
  by_cases g:iM w<k
  ·rw[if_pos g,if_pos g,cK,decide_eq_true (by omega)];simp only[Bool.not_true,aH];refine tl (λz H'=>bI z _ _) ?_;rw[aG,bu,decide_eq_true (by rfl),aG,bu,decide_eq_true (by rfl),aG,bu,decide_eq_true (by rfl)];exact hK _
  ·rw[if_neg g,if_neg g,cK,decide_eq_false (by omega)];simp only[Bool.not_false,aG];refine tl (λz H'=>bI z _ _) ?_;rw[aG,bu,decide_eq_true (by rfl),aG,bu,decide_eq_true (by rfl),aG,bu,decide_eq_true (by rfl)];exact hK _
 have hm:iM w≤150:=by
  unfold iM;split<;>omega
 have aie:((if w then og else [])++jz nD B).length=(if w then 21 else 0)+B*23:=by
  rw[List.length_append,rN];cases w<;>rfl
 have names:∀(k:Nat),k≤159→∀(q i:Nat),i≤k→k-i<q→wR R5 K q w (k:Int) (ai (((if w then og else [])++jz nD B)++jz qf i)) ((if iM w<i then (if w then 21 else 0)+B*23+8*iM w else 0:Nat):Int) (iM w:Int) (i:Int) H:=by
  intro k hk q
  induction q with
  |zero=>intro i _ h;omega
  |succ q ih=>
   intro i hi hq;show Hr R5 K (Ep R5 K (Eo R5 K (wR R5 K q))) (Hq R5 K (Er R5 K)) w (k:Int) (ai (((if w then og else [])++jz nD B)++jz qf i)) ((if iM w<i then (if w then 21 else 0)+B*23+8*iM w else 0:Nat):Int) (iM w:Int) (i:Int) H;unfold Hr;have hsl:(((if w then og else [])++jz nD B)++jz qf i).length=(if w then 21 else 0)+B*23+8*i:=by
    rw[List.length_append,aie,rN];show _+i*8=_;omega
   rw[cK];refine cx (λg=>?_) (λg=>?_)
   ·have go:∀(at_:Nat),at_=(if iM w<i+1 then (if w then 21 else 0)+B*23+8*iM w else 0)→Ep R5 K (Eo R5 K (wR R5 K q)) w (k:Int) (ai (((if w then og else [])++jz nD B)++jz qf i)) (at_:Int) (iM w:Int) (i:Int) H:=λat_ ha=>by
     unfold Ep;rw[aon];refine IT (by rw[hsl];show _+8≤_;split<;>omega) ?_;unfold Eo;rw[dS,fz];refine w0 (by omega) (by omega) ?_;rw[List.append_assoc,←Av,ha];exact ih (i+1) (by omega) (by omega)
    rw[bu];refine cx (λg2=>?_) (λg2=>?_)
    ·rw[jc,aO,hsl];refine go _ ?_;rw[if_pos (show iM w<i+1 by omega)];have:i=iM w:=by omega
     rw[this]
    ·refine go _ ?_;by_cases g3:iM w<i
     ·rw[if_pos g3,if_pos (show iM w<i+1 by omega)]
     ·rw[if_neg g3,if_neg (show ¬iM w<i+1 by omega)]
   ·have e:i=k:=by omega
    subst e;unfold Hq;have hf:=fin i hk;cases w with
    |true=>
     rw[aG,aop];refine IT (by rw[hsl];show 21+_+_+3≤_;omega) ?_;have e:(if true=true then og else [])++jz nD B++jz qf i++FR=pA B i true:=by
      unfold pA;simp only[List.append_assoc,if_true]
     rw[e];exact hf
    |false=>
     rw[aH];have e:(if false=true then og else [])++jz nD B++jz qf i=pA B i false:=by
      unfold pA;simp
     rw[e];exact hf
 have blocks:∀(k:Nat),k≤159→∀(q i:Nat),i≤B→B-i<q→zf R5 K q w bl (k:Int) (ai ((if w then og else [])++jz nD i)) (i:Int) H:=by
  intro k hk q
  induction q with
  |zero=>intro i _ h;omega
  |succ q ih=>
   intro i hi hq;show Hu R5 K (zf R5 K q) (Ht R5 K (Hs R5 K (wR R5 K G.NL))) w bl (k:Int) (ai ((if w then og else [])++jz nD i)) (i:Int) H;unfold Hu;refine w3 ?_;rw[bu,show decide (Int.ofNat 20=0)=false from rfl,aH,jM,eB];refine w0 (by omega) (by omega) ?_;rw[cK];refine cx (λg=>?_) (λg=>?_)
   ·rw[aom];refine IT (by
     rw[List.length_append,rN];show(if w then og else []).length+i*23+23≤_;have:(if w then og else []).length≤21:=by cases w<;>decide
     omega) ?_
    rw[dS,fz];refine w0 (by omega) (by omega) ?_;rw[List.append_assoc,←Av];exact ih (i+1) (by omega) (by omega)
   ·have e:i=B:=by omega
    subst e;have hn:=names k hk G.NL 0 (Nat.zero_le _) (by omega);rw[if_neg (show ¬iM w<0 by omega)]at hn;have e0:jz qf 0=[]:=rfl;rw[e0,List.append_nil]at hn;unfold Ht Hs;cases w with
    |true=>
     rw[aG];exact hn
    |false=>
     rw[aH];exact hn
 show Hw R5 K (Hv R5 K (zf R5 K G.NL)) n w bl H;unfold Hw;refine w3 ?_;rw[bu,show decide (Int.ofNat 20=0)=false from rfl,aH,jM,er];refine w0 (by omega) (by omega) ?_;have arq:Int.add (.ofNat 140) (r:Int)=((140+r:Nat):Int):=rfl;rw[arq];refine w0 (by omega) (by omega) ?_;have hb:=blocks (140+r) (by omega) G.NL 0 (Nat.zero_le _) (by omega);have e0:jz nD 0=[]:=rfl;rw[e0,List.append_nil]at hb;unfold Hv;cases w with
 |true=>
  rw[aG,aoo];exact hb
 |false=>
  rw[aH];exact hb
end
end Go.Proofs.YtcedghechlgecaaDoor
namespace Go.X
def EM:KF:=λo _=>match o with
 |.ret (.bool true)=>True
 |_=>False
theorem acK{o:lJ}{H:AH}(h:EM o H):o=.ret (.bool true):=by
 unfold EM at h;split at h
 ·rfl
 ·exact h.elim
theorem aC.onK{P:Program}{g:Nat}{F:dq}(hF:aC P g F)(Kc:KF):aC P g λl H K=>F l H Kc∧∀o H',Kc o H'→K o H':=λhb l H K ⟨h,hk⟩=>by
 obtain⟨o,H',h1,h2⟩:=hF hb l H _ h;exact⟨o,H',hk o H' h1,h2⟩
end Go.X
namespace Go.Proofs.YtcedghechlgecaaDoor
open Go Go.X Go.Proofs.YtcedghechlgecaaDoor.G
noncomputable def bX:AV→AH→KF→Prop:=QK (f23,f24)
theorem RK:aC Tryd.prog 10 (aw [.a] bX):=On (f23,f24) (ag.cons KY (ag.cons ZW ag.nil))
noncomputable def uX:AV→AV→AH→KF→Prop:=QL (bX,f23)
theorem apJ:aC Tryd.prog 73 (aw [.a,.a] uX):=aha (bX,f23) (ag.cons RK (ag.cons KY ag.nil))
noncomputable def oX:AV→AH→KF→Prop:=QQ (xl uX G.NL).1
theorem apK:aC Tryd.prog 14 (aw [.a] oX):=ahe _ (ag.cons (anV apJ G.NL).1 ag.nil)
noncomputable def R6:qV:=(g7,g8x bX,bX,f13,oX)
noncomputable def af6:AH→KF→Prop:=anc R6
theorem aeC:aC Tryd.prog 6 (aw [] af6):=ane R6 (ag.cons af2 (ag.cons (acI RK) (ag.cons RK (ag.cons akA (ag.cons apK ag.nil)))))
theorem aeD:IW gl ⟨.e,0⟩ (λH0=>af6 H0 EM)=True:=by kernel_rfl
theorem aif{F:AH→KF→Prop}(hF:aC Tryd.prog 6 (aw [] F))(hr:IW gl ⟨.e,0⟩ (λH0=>F H0 EM)=True):aC Tryd.prog 6 (aw [] rD):=by
 obtain⟨H0,hM0,h0⟩:=Gt (of_run hr);have h:=aC.frame (gl:=gl) (by kernel_rfl) MK (hF.onK EM) (args:=[]) (λa ha=>by simp at ha) (v:=.bool true) rfl ⟨H0,hM0,h0,λo H' h=>acK h⟩;refine h.weaken λl H K hf=>?_;cases l with
 |nil=>
  have hf':rD H K:=hf;exact⟨rfl,hf'.1,hf'.2⟩
 |cons a l=>exact hf.elim
theorem aih:aC Tryd.prog 6 (aw [] rD):=aif aeC aeD
end Go.Proofs.YtcedghechlgecaaDoor
