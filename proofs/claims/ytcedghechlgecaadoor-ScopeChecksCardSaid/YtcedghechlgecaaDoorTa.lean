/- Check of both gives what the spec says; the law over texts as lists. No condition: definitions and lemmas. -/
import Derived.Test.YtcedghechlgecaaDoorSa
set_option maxRecDepth 100000
set_option maxHeartbeats 0
set_option linter.unusedVariables false
set_option linter.unusedSimpArgs false
namespace Go.X
section
mutual
def al.wg:al→Prop
 |.mk k _ _ _ _ l f=>(k=6→l=[]∧f=[])∧jK l∧SJ f
def jK:List al→Prop
 |[]=>True
 |e::l=>e.wg∧jK l
def eV.wg:eV→Prop
 |.mk _ b=>kv b
def SJ:List eV→Prop
 |[]=>True
 |e::l=>e.wg∧SJ l
def aA.wg:aA→Prop
 |.mk k _ ns l bs=>(k=5∨k=6∨k=7∨k=8→bs.length=1)∧(k=1∨k=12→ns.length=1)∧(k=2→l≠[])∧jK l∧oI bs
def kv:List aA→Prop
 |[]=>True
 |e::l=>e.wg∧kv l
def oI:List (List aA)→Prop
 |[]=>True
 |e::l=>kv e∧oI l
end
theorem N7:∀a b:List al,jK (a++b)↔jK a∧jK b
 |[],b=>by simp[jK]
 |e::a,b=>by rw[List.cons_append,jK,jK,N7 a b,and_assoc]
theorem N8:∀a b:List aA,kv (a++b)↔kv a∧kv b
 |[],b=>by simp[kv]
 |e::a,b=>by rw[List.cons_append,kv,kv,N8 a b,and_assoc]
theorem N9:∀a b:List (List aA),oI (a++b)↔oI a∧oI b
 |[],b=>by simp[oI]
 |e::a,b=>by rw[List.cons_append,oI,oI,N9 a b,and_assoc]
theorem qx:∀{l:List al}{i:Nat}{e:al},jK l→l[i]? = some e→e.wg
 |[],_,_,_,h=>by simp at h
 |a::l,0,e,h,g=>by simp at g;subst g;exact h.1
 |a::l,i+1,e,h,g=>qx (l:=l) h.2 (by simpa using g)
theorem Ba:∀{l:List eV}{i:Nat}{e:eV},SJ l→l[i]? = some e→e.wg
 |[],_,_,_,h=>by simp at h
 |a::l,0,e,h,g=>by simp at g;subst g;exact h.1
 |a::l,i+1,e,h,g=>Ba (l:=l) h.2 (by simpa using g)
theorem Bb:∀{l:List aA}{i:Nat}{e:aA},kv l→l[i]? = some e→e.wg
 |[],_,_,_,h=>by simp at h
 |a::l,0,e,h,g=>by simp at g;subst g;exact h.1
 |a::l,i+1,e,h,g=>Bb (l:=l) h.2 (by simpa using g)
theorem qy:∀{l:List (List aA)}{i:Nat}{e:List aA},oI l→l[i]? = some e→kv e
 |[],_,_,_,h=>by simp at h
 |a::l,0,e,h,g=>by simp at g;subst g;exact h.1
 |a::l,i+1,e,h,g=>qy (l:=l) h.2 (by simpa using g)
variable {T:List Tok}
theorem ao1{i:Nat}:xN T i≠6:=by
 unfold xN;split
 ·decide
 split
 ·decide
 split<;>decide
structure ZE(e:al):Prop where
 h:e.wg
structure ZEs(l:List al):Prop where
 h:jK l
structure ZP(p:List al×Nat):Prop where
 h:jK p.1
structure ZSs(l:List aA):Prop where
 h:kv l
structure Aw(s:aA):Prop where
 h:s.wg
structure Wgn(T:List Tok)(n:Nat):Prop where
 exp:∀i d,cX ZE (bW T n i d)
 either:∀i d,cX ZE (gB T n i d)
 both:∀i d,cX ZE (jH T n i d)
 test:∀i d,cX ZE (jI T n i d)
 join:∀i d,cX ZE (gC T n i d)
 sum:∀i d,cX ZE (mF T n i d)
 term:∀i d,cX ZE (jJ T n i d)
 unary:∀i d,cX ZE (fz T n i d)
 post:∀i d,cX ZE (iW T n i d)
 simple:∀i d,cX ZE (dW T n i d)
 jw:∀e i d,e.wg→cX ZE (fQ T n e i d)
 mS:∀e i d,e.wg→cX ZE (ja T n e i d)
 mT:∀e i d,e.wg→cX ZE (jb T n e i d)
 pS:∀e i d,e.wg→cX ZE (kh T n e i d)
 mU:∀e i d,e.wg→cX ZE (jc T n e i d)
 ki:∀e i d,e.wg→cX ZE (cK T n e i d)
 args:∀b out i d,jK out→cX ZEs (dJ T n b out i d)
 table:∀out c a i d,jK out→cX ZE (fq T n out c a i d)
 field:∀c i d,cX ZP (ig T n c i d)
 body:∀a i d,cX ZE (iH T n a i d)
 params:∀b out i,cX QU (cg T n b out i)
 block:∀i d,cX ZSs (cD T n i d)
 kU:∀out i d,kv out→cX ZSs (cE T n out i d)
 stat:∀i d,cX Aw (fK T n i d)
 mo:∀a i d,cX Aw (iI T n a i d)
 mq:∀a i d,cX Aw (iJ T n a i d)
 kz:∀a i d,cX Aw (gD T n a i d)
 do_:∀a i d,cX Aw (pR T n a i d)
 kA:∀a i d,cX Aw (ij T n a i d)
 plain:∀a i d,cX Aw (gF T n a i d)
 for_:∀a i d,cX Aw (lX T n a i d)
 choice:∀a l bs i d,jK l→oI bs→cX Aw (eN T n a l bs i d)
 jD:∀k a ns l i d,(k=6∨k=7)→jK l→cX Aw (cF T n k a ns l i d)
theorem arP:Wgn T 0 where
 exp _ _:=⟨λv j e=>by rw[bW.eq_1]at e;cases e⟩
 either _ _:=⟨λv j e=>by rw[gB.eq_1]at e;cases e⟩
 both _ _:=⟨λv j e=>by rw[jH.eq_1]at e;cases e⟩
 test _ _:=⟨λv j e=>by rw[jI.eq_1]at e;cases e⟩
 join _ _:=⟨λv j e=>by rw[gC.eq_1]at e;cases e⟩
 sum _ _:=⟨λv j e=>by rw[mF.eq_1]at e;cases e⟩
 term _ _:=⟨λv j e=>by rw[jJ.eq_1]at e;cases e⟩
 unary _ _:=⟨λv j e=>by rw[fz.eq_1]at e;cases e⟩
 post _ _:=⟨λv j e=>by rw[iW.eq_1]at e;cases e⟩
 simple _ _:=⟨λv j e=>by rw[dW.eq_1]at e;cases e⟩
 jw _ _ _ _:=⟨λv j e=>by rw[fQ.eq_1]at e;cases e⟩
 mS _ _ _ _:=⟨λv j e=>by rw[ja.eq_1]at e;cases e⟩
 mT _ _ _ _:=⟨λv j e=>by rw[jb.eq_1]at e;cases e⟩
 pS _ _ _ _:=⟨λv j e=>by rw[kh.eq_1]at e;cases e⟩
 mU _ _ _ _:=⟨λv j e=>by rw[jc.eq_1]at e;cases e⟩
 ki _ _ _ _:=⟨λv j e=>by rw[cK.eq_1]at e;cases e⟩
 args _ _ _ _ _:=⟨λv j e=>by rw[dJ.eq_1]at e;cases e⟩
 table _ _ _ _ _ _:=⟨λv j e=>by rw[fq.eq_1]at e;cases e⟩
 field _ _ _:=⟨λv j e=>by rw[ig.eq_1]at e;cases e⟩
 body _ _ _:=⟨λv j e=>by rw[iH.eq_1]at e;cases e⟩
 params _ _ _:=⟨λv j e=>by rw[cg.eq_1]at e;cases e⟩
 block _ _:=⟨λv j e=>by rw[cD.eq_1]at e;cases e⟩
 kU _ _ _ _:=⟨λv j e=>by rw[cE.eq_1]at e;cases e⟩
 stat _ _:=⟨λv j e=>by rw[fK.eq_1]at e;cases e⟩
 mo _ _ _:=⟨λv j e=>by rw[iI.eq_1]at e;cases e⟩
 mq _ _ _:=⟨λv j e=>by rw[iJ.eq_1]at e;cases e⟩
 kz _ _ _:=⟨λv j e=>by rw[gD.eq_1]at e;cases e⟩
 do_ _ _ _:=⟨λv j e=>by rw[pR.eq_1]at e;cases e⟩
 kA _ _ _:=⟨λv j e=>by rw[ij.eq_1]at e;cases e⟩
 plain _ _ _:=⟨λv j e=>by rw[gF.eq_1]at e;cases e⟩
 for_ _ _ _:=⟨λv j e=>by rw[lX.eq_1]at e;cases e⟩
 choice _ _ _ _ _ _ _:=⟨λv j e=>by rw[eN.eq_1]at e;cases e⟩
 jD _ _ _ _ _ _ _ _:=⟨λv j e=>by rw[cF.eq_1]at e;cases e⟩
theorem arQ{n:Nat}(F:Wgn T n):Wgn T (n+1):=by
 refine⟨?_,?_,?_,?_,?_,?_,?_,?_,?_,?_,?_,?_,?_,?_,?_,?_,?_,?_,?_,?_,?_,?_,?_,?_,?_,?_,?_,?_,?_,?_,?_,?_,?_⟩
 all_goals intros
 all_goals first|rw[bW.eq_2]|rw[gB.eq_2]|rw[jH.eq_2]|rw[jI.eq_2]|rw[gC.eq_2]|rw[mF.eq_2]|rw[jJ.eq_2]|rw[fz.eq_2]|rw[iW.eq_2]|rw[dW.eq_2]|rw[fQ.eq_2]|rw[ja.eq_2]|rw[jb.eq_2]|rw[kh.eq_2]|rw[jc.eq_2]|rw[cK.eq_2]|rw[dJ.eq_2]|rw[fq.eq_2]|rw[ig.eq_2]|rw[iH.eq_2]|rw[cg.eq_2]|rw[cD.eq_2]|rw[cE.eq_2]|rw[fK.eq_2]|rw[iI.eq_2]|rw[iJ.eq_2]|rw[gD.eq_2]|rw[pR.eq_2]|rw[ij.eq_2]|rw[gF.eq_2]|rw[lX.eq_2]|rw[eN.eq_2]|rw[cF.eq_2]
 all_goals repeat' first|exact F.exp _ _|exact F.either _ _|exact F.both _ _|exact F.test _ _|exact F.join _ _|exact F.sum _ _|exact F.term _ _|exact F.unary _ _|exact F.post _ _|exact F.simple _ _|refine F.jw _ _ _ ?_|refine F.mS _ _ _ ?_|refine F.mT _ _ _ ?_|refine F.pS _ _ _ ?_|refine F.mU _ _ _ ?_|refine F.ki _ _ _ ?_|refine F.args _ _ _ _ ?_|refine F.table _ _ _ _ _ ?_|exact F.field _ _ _|exact F.body _ _ _|exact F.params _ _ _|exact F.block _ _|refine F.kU _ _ _ ?_|exact F.stat _ _|exact F.mo _ _ _|exact F.mq _ _ _|exact F.kz _ _ _|exact F.do_ _ _ _|exact F.kA _ _ _|exact F.plain _ _ _|exact F.for_ _ _ _|refine F.choice _ _ _ _ _ ?_ ?_|refine F.jD _ _ _ _ _ _ ?_ ?_|exact cX.must|exact cX.name|exact cX.err|apply cX.ite|apply cX.bind|(rintro v j ⟨hv⟩)|refine cX.ok ⟨?_⟩|assumption|trivial|(simp only[lK,al.wg,eV.wg,aA.wg,jK,SJ,kv,oI,N7,N9,N8,and_true,true_and]at *;(first|done|(repeat' apply And.intro)<;>first|assumption|trivial|(intro q;omega)|(intros;rfl)|(intro _;decide)))|(refine⟨λ_=>Nat.le_refl _,λh=>by omega,λ_ _ _ _=>rfl,⟨?_,trivial⟩,⟨?_,trivial⟩⟩<;>assumption)|(refine⟨λh=>absurd h ao1,⟨?_,trivial⟩,trivial⟩;assumption)|(refine⟨λh=>(by omega),λh=>(by omega),λ_ h=>(by cases h),⟨?_,?_,trivial⟩,trivial⟩<;>assumption)
theorem Qa:∀n,Wgn T n
 |0=>arP
 |n+1=>arQ (Qa n)
end
abbrev Err:=Option (Nat×Nat)
def cH(a b:Err):Err:=match a with|some e=>some e|none=>b
theorem eP(b:Err):cH none b=b:=rfl
theorem jL(a:Err):cH a none=a:=by cases a<;>rfl
theorem fm(a b c:Err):cH (cH a b) c=cH a (cH b c):=by cases a<;>rfl
theorem qz{e:Nat×Nat}(b:Err):cH (some e) b=some e:=rfl
def bG{α:Type}(f:α→Err):List α→Err
 |[]=>none
 |a::l=>cH (f a) (bG f l)
theorem oJ{α:Type}(f:α→Err):∀a b:List α,bG f (a++b)=cH (bG f a) (bG f b)
 |[],b=>rfl
 |x::a,b=>by rw[List.cons_append,bG,bG,oJ f a b,fm]
def mu(L:List (List (List Nat)))(ns:List (List Nat))(s:List Nat):Bool:=decide (s∈L.flatten++ns)
def qA(ns names:List (List Nat))(a:Nat):Err:=if 150<ns.length+names.length then some (8,a) else none
def nP(L:List (List (List Nat)))(ns:List (List Nat)):al→Err
 |.mk k a _ s _ _ _=>if k=6∧mu L ns s=false then some (14,a) else none
mutual
def kE:Nat→List (List (List Nat))→List (List Nat)→al→Err
 |0,_,_,_=>none
 |n+1,L,ns,.mk k a _ s _ l f=>cH (if k=6∧mu L ns s=false∧s∉builtins then some (14,a) else none) (cH (bG (kE n L ns) l) (bG (kF n (L++[ns])) f))
def kF:Nat→List (List (List Nat))→eV→Err
 |0,_,_=>none
 |n+1,L,.mk ps b=>kB n L 0 ps b []
def kB:Nat→List (List (List Nat))→Nat→List (List Nat)→List aA→List al→Err
 |0,_,_,_,_,_=>none
 |n+1,L,lp,ns,b,thn=>cH (b.foldl (kS n L lp) (ns,none)).2 (bG (kE n L (b.foldl (kS n L lp) (ns,none)).1) thn)
def kS:Nat→List (List (List Nat))→Nat→List (List Nat)×Err→aA→List (List Nat)×Err
 |0,_,_,r,_=>r
 |n+1,L,lp,r,.mk k a names l bs=>
  if k=1 then (r.1++names,cH r.2 (cH (qA r.1 names a) (bG (kE n L r.1) l)))
  else if k=12 then (r.1++names,cH r.2 (cH (qA r.1 names a) (bG (kE n L (r.1++names)) l)))
  else if k=2 then (r.1,cH r.2 (cH (bG (nP L r.1) (l.take 1)) (bG (kE n L r.1) l)))
  else if k=8 then (r.1,cH r.2 (bG (λb=>kB n L (lp+1) r.1 b l) bs))
  else if k=5 then (r.1,cH r.2 (cH (bG (kE n L r.1) l) (bG (λb=>kB n L (lp+1) r.1 b []) bs)))
  else if k=6∨k=7 then (r.1,cH r.2 (cH (qA r.1 names a) (cH (bG (kE n L r.1) l) (bG (λb=>kB n L (lp+1) (r.1++names) b []) bs))))
  else if k=4 then (r.1,cH r.2 (bG (λi=>cH (bG (kE n L r.1) (l[i]?.toList)) (kB n L lp r.1 (bs[i]?.getD []) [])) (List.range bs.length)))
  else if k=9 then (r.1,cH r.2 (if lp=0 then some (14,a) else none))
  else (r.1,cH r.2 (cH (bG (kE n L r.1) l) (bG (λb=>kB n L lp r.1 b []) bs)))
end
section
variable {H:AH}{S S':LS}
def aG(n:Nat):AV:=.int 0 (n:Int)
def eC:Err→Nat
 |none=>0
 |some e=>e.1
def eA:Err→Nat
 |none=>0
 |some e=>e.2
structure gQ(lo b:Nat)(S:LS)(vn vw vl:AV)(ns:List (List Nat))(ow lp:List Nat)(er:Err):Prop where
 ob:S.ob b=.ce [vn,vw,vl,aG (eC er),aG (eA er)] 0
 fn:dY S vn (ns.map ai)
 fw:dY S vw (ow.map aG)
 fl:dY S vl (lp.map aG)
 n8:∀t∈ns,B8 t
 er0:∀e,er=some e→e.1≠0
 bn:¬ak vn b
 bw:¬ak vw b
 bl:¬ak vl b
 nw:∀x,ak vn x→¬ak vw x
 nl:∀x,ak vn x→¬ak vl x
 wl:∀x,ak vw x→¬ak vl x
 wN:lo≤b
 Au:∀x,ak vn x→lo≤x
 low:∀x,ak vw x→lo≤x
 xT:∀x,ak vl x→lo≤x
def tq(b:Nat)(vn vw vl:AV)(x:Nat):Prop:=x=b∨ak vn x∨ak vw x∨ak vl x
structure iB(b:Nat)(S S':LS)(vn vw vl cL dm dv:AV):Prop where
 n:S.n≤S'.n
 ob:∀x,x<S.n→¬tq b vn vw vl x→S'.ob x=S.ob x
 own:∀x,tq b cL dm dv x→tq b vn vw vl x∨S.n≤x
section
variable {lo b:Nat}{vn vw vl cL dm dv NU ao2 ao3:AV}{ns:List (List Nat)}{ow lp:List Nat}{er:Err}{lL:LS}
theorem iB.refl:iB b S S vn vw vl vn vw vl:=⟨Nat.le_refl _,λ_ _ _=>rfl,λ_ h=>.inl h⟩
theorem iB.trans(h:iB b S S' vn vw vl cL dm dv)(g:iB b S' lL cL dm dv NU ao2 ao3):iB b S lL vn vw vl NU ao2 ao3:=
 ⟨Nat.le_trans h.n g.n,λx hx hn=>(g.ob x (Nat.lt_of_lt_of_le hx h.n) λq=>(h.own x q).elim hn (by omega)).trans (h.ob x hx hn),λx hx=>(g.own x hx).elim (h.own x) λq=>.inr (Nat.le_trans h.n q)⟩
theorem Ext.tt(hx:Ext S S'):iB b S S' vn vw vl vn vw vl:=⟨hx.n,λx h _=>hx.ob x h,λ_ h=>.inl h⟩
theorem gQ.zb(h:gQ lo b S vn vw vl ns ow lp er){x:Nat}(hx:tq b vn vw vl x):lo≤x:=by
 rcases hx with rfl|q|q|q
 ·exact h.wN
 ·exact h.Au x q
 ·exact h.low x q
 ·exact h.xT x q
theorem gQ.iv(h:gQ lo b S vn vw vl ns ow lp er)(hM:Mem H S){x:Nat}(hx:tq b vn vw vl x):x<S.n:=by
 rcases hx with rfl|q|q|q
 ·exact hM.lt (by rw[h.ob];simp)
 ·exact h.fn.lt hM q
 ·exact h.fw.lt hM q
 ·exact h.fl.lt hM q
theorem gQ.keep(h:gQ lo b S vn vw vl ns ow lp er)(hM:Mem H S)(hk:∀x,tq b vn vw vl x→S'.ob x=S.ob x):gQ lo b S' vn vw vl ns ow lp er:=
 { h with ob:=(hk b (.inl rfl)).trans h.ob,fn:=h.fn.keep hM λx hx _=>hk x (.inr (.inl hx)),fw:=h.fw.keep hM λx hx _=>hk x (.inr (.inr (.inl hx))),fl:=h.fl.keep hM λx hx _=>hk x (.inr (.inr (.inr hx))) }
theorem gQ.ext(h:gQ lo b S vn vw vl ns ow lp er)(hM:Mem H S)(hx:Ext S S'):gQ lo b S' vn vw vl ns ow lp er:=h.keep hM λx q=>hx.ob x (h.iv hM q)
theorem iB.low(g:iB b S S' vn vw vl cL dm dv)(h:gQ lo b S vn vw vl ns ow lp er)(hlo:lo≤S.n){x:Nat}(hx:x<lo):S'.ob x=S.ob x:=g.ob x (by omega) λq=>by have:=h.zb q;omega
theorem gQ.ld{j:Nat}{w:AV}{k:AV→Prop}(h:gQ lo b S vn vw vl ns ow lp er)(hM:Mem H S)(hw:[vn,vw,vl,aG (eC er),aG (eA er)][j]? = some w)(hk:k w):au (.ptr b 0) (ag j (.ptr b 0) λv=>ad v H k):=by
 simp only[bV,aM,Nat.zero_add];exact az hM h.ob hw hk
theorem ze{v:AV}{p:List Nat}{q:Nat}{k:Nat→Prop}(hM:Mem H S)(h:dY S v ((p++[q]).map aG))(hl:p.length≤1000000)(hk:k q){kk:Int→Prop}(hkk:kk (q:Int)):bb 1 v (.int 0 (p.length:Int)) λv8=>ad v8 H λv9=>cI 0 v9 kk:=by
 refine h.load hM (i:=p.length) (a:=aG q) ?_ ?_
 ·rw[List.map_append,List.getElem?_append_right (by simp)];simp
 ·show cI 0 (.int 0 (q:Int)) kk;rw[aK];exact hkk
theorem Oa{p:List Nat}{q r:Nat}:((p++[q]).map aG).set p.length (aG r)=(p++[r]).map aG:=by
 rw[List.map_append,List.map_append,List.set_append_right _ _ (by simp)];simp
theorem gQ.setW{p:List Nat}{q r:Nat}{k:AH→Prop}(h:gQ lo b S vn vw vl ns (p++[q]) lp er)(hM:Mem H S)
  (hk:∀H' S',Mem H' S'→iB b S S' vn vw vl vn vw vl→gQ lo b S' vn vw vl ns (p++[r]) lp er→k H'):bb 1 vw (.int 0 (p.length:Int)) λv13=>ah 1 v13 (.int 0 (r:Int)) H k:=by
 refine h.fw.store hM (i:=p.length) (by simp) rfl λH' S' m n k1 f=>?_;have f:dY S' vw (((p++[q]).map aG).set p.length (aG r)):=f;rw[Oa]at f;refine hk H' S' m ⟨by omega,λx _ hx=>k1 x λg=>hx (.inr (.inr (.inl g))),λ_ g=>.inl g⟩ { h with ob:=(k1 b h.bw).trans h.ob,fn:=h.fn.keep hM λx hx _=>k1 x (h.nw x hx),fw:=f,fl:=h.fl.keep hM λx hx _=>k1 x λg=>h.wl x g hx }
theorem gQ.ko{p:List Nat}{q r:Nat}{k:AH→Prop}(h:gQ lo b S vn vw vl ns ow (p++[q]) er)(hM:Mem H S)
  (hk:∀H' S',Mem H' S'→iB b S S' vn vw vl vn vw vl→gQ lo b S' vn vw vl ns ow (p++[r]) er→k H'):bb 1 vl (.int 0 (p.length:Int)) λv13=>ah 1 v13 (.int 0 (r:Int)) H k:=by
 refine h.fl.store hM (i:=p.length) (by simp) rfl λH' S' m n k1 f=>?_;have f:dY S' vl (((p++[q]).map aG).set p.length (aG r)):=f;rw[Oa]at f;refine hk H' S' m ⟨by omega,λx _ hx=>k1 x λg=>hx (.inr (.inr (.inr g))),λ_ g=>.inl g⟩ { h with ob:=(k1 b h.bl).trans h.ob,fn:=h.fn.keep hM λx hx _=>k1 x (h.nl x hx),fw:=h.fw.keep hM λx hx _=>k1 x (h.wl x hx),fl:=f }
end
end
end Go.X
namespace Go.Proofs.YtcedghechlgecaaDoor
open Go Go.X Go.Proofs.YtcedghechlgecaaDoor.G
section
variable {H:AH}{S:LS}{K:KF}
section
variable {lo b:Nat}{vn vw vl:AV}{ns:List (List Nat)}{ow lp:List Nat}{er:Err}
def DPo(lo b:Nat)(S:LS)(vn vw vl:AV)(ns:List (List Nat))(ow lp:List Nat)(er:Err)(K:KF):Prop:=∀H' S' cL dm dv,Mem H' S'→iB b S S' vn vw vl cL dm dv→gQ lo b S' cL dm dv ns ow lp er→K (.ret (.aP [])) H'
theorem SK{c a:Nat}(hM:Mem H S)(h:gQ lo b S vn vw vl ns ow lp er)(hc:c≠0)(hK:DPo lo b S vn vw vl ns ow lp (cH er (some (c,a))) K):f69 (.ptr b 0) (c:Int) (a:Int) H K:=by
 show Ff M9 K (.ptr b 0) (c:Int) (a:Int) H;unfold Ff;refine h.ld hM (j:=3) rfl ?_;show cI 0 (.int 0 (eC er:Int)) _;have e0:Int.ofNat 0=((0:Nat):Int):=rfl;rw[aK,aZ,e0];cases er with
 |some e=>
  have:=h.er0 e rfl;rw[decide_eq_false (by show ¬((e.1:Nat):Int)=((0:Nat):Int);omega),aI];exact hK H S vn vw vl hM iB.refl h
 |none=>
  rw[decide_eq_true (by rfl),aH];simp only[bV,aM,Nat.zero_add];refine bJ hM h.ob (by omega) (by show 3<5;omega) rfl λH1 m1=>?_;have m1:Mem H1 (S.set b (.ce [vn,vw,vl,aG c,aG 0] 0)):=m1;refine bJ m1 (LS.ay _ _ _) (by omega) (by show 4<5;omega) rfl λH2 m2=>?_;have m2:Mem H2 ((S.set b (.ce [vn,vw,vl,aG c,aG 0] 0)).set b (.ce [vn,vw,vl,aG c,aG a] 0)):=m2;have k2:∀x,x≠b→((S.set b (.ce [vn,vw,vl,aG c,aG 0] 0)).set b (.ce [vn,vw,vl,aG c,aG a] 0)).ob x=S.ob x:=λx hx=>(LS.aq _ _ hx).trans (LS.aq _ _ hx);refine hK H2 _ vn vw vl m2 ⟨Nat.le_refl _,λx _ hx=>k2 x λg=>hx (.inl g),λ_ g=>.inl g⟩ { h with ob:=LS.ay _ _ _,fn:=h.fn.keep hM λx hx _=>k2 x λg=>h.bn (g ▸ hx),fw:=h.fw.keep hM λx hx _=>k2 x λg=>h.bw (g ▸ hx),fl:=h.fl.keep hM λx hx _=>k2 x λg=>h.bl (g ▸ hx),er0:=λe he=>by cases he;exact hc }
end
end
end Go.Proofs.YtcedghechlgecaaDoor
namespace Go.X
section
variable {H:AH}{S S':LS}
section
variable {lo b:Nat}{vn vw vl:AV}{ns:List (List Nat)}{ow lp:List Nat}{er:Err}
theorem gQ.addN{Q:Nat→Prop}{a1:AV}{l:List (List Nat)}{k:AH→Prop}(h:gQ lo b S vn vw vl ns ow lp er)(hM:Mem H S)(hlo:lo≤S.n)(hr:jN S Q a1 (l.map ai))(h8:∀t∈l,B8 t)(hl:ns.length+l.length≤1000000)
  (hk:∀H' S' cL,Mem H' S'→iB b S S' vn vw vl cL vw vl→gQ lo b S' cL vw vl (ns++l) ow lp er→k H'):cO 1 16 vn a1 H λv7 H8=>au (.ptr b 0) (ag 0 (.ptr b 0) λv9=>ah 1 v9 v7 H8 k):=by
 refine qJ hM h.fn hr (by simp;omega) (PZ _) λH1 S1 v1 m1 n1 k1 f1 b1 _ _ _=>?_;have hbl:=h.iv hM (.inl rfl);have e1:S1.ob b=.ce [vn,vw,vl,aG (eC er),aG (eA er)] 0:=(k1 b hbl h.bn).trans h.ob;have fw1:dY S1 vw (ow.map aG):=h.fw.keep hM λx hx hlt=>k1 x hlt λq=>h.nw x q hx;have fl1:dY S1 vl (lp.map aG):=h.fl.keep hM λx hx hlt=>k1 x hlt λq=>h.nl x q hx;have hne:¬ak v1 b:=λq=>(b1 b q).elim h.bn (by omega);have hnw:∀x,ak v1 x→¬ak vw x:=λx hx q=>(b1 x hx).elim (λw=>h.nw x w q) λw=>by have:=h.fw.lt hM q;omega
 have hnl:∀x,ak v1 x→¬ak vl x:=λx hx q=>(b1 x hx).elim (λw=>h.nl x w q) λw=>by have:=h.fl.lt hM q;omega
 simp only[bV,aM,Nat.zero_add];refine bJ m1 e1 (by omega) (by show 0<5;omega) f1.one λH' m=>?_;have m:Mem H' (S1.set b (.ce [v1,vw,vl,aG (eC er),aG (eA er)] 0)):=m;have k2:∀x,x≠b→(S1.set b (.ce [v1,vw,vl,aG (eC er),aG (eA er)] 0)).ob x=S1.ob x:=λx hx=>LS.aq _ _ hx;refine hk H' _ v1 m ⟨n1,λx hx hn=>(k2 x λq=>hn (.inl q)).trans (k1 x hx λq=>hn (.inr (.inl q))),λx hx=>?_⟩ { h with ob:=LS.ay _ _ _,fn:=?_,fw:=fw1.keep m1 λx hx _=>k2 x λq=>h.bw (q ▸ hx),fl:=fl1.keep m1 λx hx _=>k2 x λq=>h.bl (q ▸ hx),n8:=λt ht=>?_,bn:=hne,nw:=hnw,nl:=hnl,Au:=λx hx=>?_ }
 ·rcases hx with q|q|q|q
  ·exact .inl (.inl q)
  ·exact(b1 x q).elim (λw=>.inl (.inr (.inl w))) .inr
  ·exact .inl (.inr (.inr (.inl q)))
  ·exact .inl (.inr (.inr (.inr q)))
 ·rw[List.map_append];exact f1.keep m1 λx hx _=>k2 x λq=>hne (q ▸ hx)
 ·rcases List.mem_append.1 ht with g|g
  ·exact h.n8 t g
  ·exact h8 t g
 ·exact(b1 x hx).elim (h.Au x) λw=>by omega
end
end
end Go.X
namespace Go.Proofs.YtcedghechlgecaaDoor
open Go Go.X Go.Proofs.YtcedghechlgecaaDoor.G
section
variable {H:AH}{S:LS}{K:KF}
section
variable {lo b:Nat}{vn vw vl:AV}{ns:List (List Nat)}{p lp:List Nat}{q:Nat}{er:Err}
theorem agb{Q:Nat→Prop}{a1:AV}{l:List (List Nat)}(hM:Mem H S)(h:gQ lo b S vn vw vl ns (p++[q]) lp er)(hlo:lo≤S.n)(hr:jN S Q a1 (l.map ai))(h8:∀t∈l,B8 t)(hl:ns.length+l.length≤1000000)(hp:p.length≤1000000)(hq:q≤1000000)(hK:DPo lo b S vn vw vl (ns++l) (p++[q+l.length]) lp er K):f46 (.ptr b 0) a1 H K:=by
 show Fe M8 K (.ptr b 0) a1 H;unfold Fe;refine h.ld hM (j:=0) rfl ?_;refine h.addN hM hlo hr h8 hl λH1 S1 Qb m1 st1 d1=>?_;refine d1.ld m1 (j:=1) rfl ?_;refine d1.ld m1 (j:=1) rfl ?_;refine d1.fw.len ?_;rw[aK,List.length_map,List.length_append,List.length_singleton,kW,dX];refine w0 (by omega) (by omega) ?_;have ep:((p.length+1:Nat):Int)-1=(p.length:Int):=by omega
 rw[ep];refine d1.ld m1 (j:=1) rfl ?_;refine d1.ld m1 (j:=1) rfl ?_;refine d1.fw.len ?_;rw[aK,List.length_map,List.length_append,List.length_singleton,kW];refine w0 (by omega) (by omega) ?_;rw[ep];refine ze (k:=λ_=>True) m1 d1.fw hp trivial ?_;refine hr.len ?_;rw[aK,List.length_map,dh];refine w0 (by omega) (by omega) ?_;have eq2:((q:Int)+(l.length:Int))=((q+l.length:Nat):Int):=by omega
 rw[eq2];refine d1.setW (r:=q+l.length) m1 λH2 S2 m2 st2 d2=>?_;exact hK H2 S2 Qb vw vl m2 (st1.trans st2) d2
theorem agc{n a:Nat}(hM:Mem H S)(h:gQ lo b S vn vw vl ns (p++[q]) lp er)(hp:p.length≤1000000)(hq:q+n≤1000000)(hK:DPo lo b S vn vw vl ns (p++[q]) lp (cH er (if 150<q+n then some (8,a) else none)) K):f68 (.ptr b 0) (n:Int) (a:Int) H K:=by
 show Fg Fh K (.ptr b 0) (n:Int) (a:Int) H;unfold Fg;have r:Fh=f69:=rfl;rw[r];refine h.ld hM (j:=1) rfl ?_;refine h.ld hM (j:=1) rfl ?_;refine h.fw.len ?_;rw[aK,List.length_map,List.length_append,List.length_singleton,kW,dX];refine w0 (by omega) (by omega) ?_;have ep:((p.length+1:Nat):Int)-1=(p.length:Int):=by omega
 rw[ep];refine ze (k:=λ_=>True) hM h.fw hp trivial ?_;rw[dh];refine w0 (by omega) (by omega) ?_;have agd:Int.ofNat 150=((150:Nat):Int):=rfl;rw[cz,agd];refine bR (λg=>?_) (λg=>?_)
 ·rw[if_pos (by omega)]at hK;refine SK (c:=8) hM h (by omega) λH1 S1 Qb vw1 vl1 m1 st1 d1=>?_;rw[aj];exact hK H1 S1 Qb vw1 vl1 m1 st1 d1
 ·rw[if_neg (by omega),jL]at hK;exact hK H S vn vw vl hM iB.refl h
end
end
end Go.Proofs.YtcedghechlgecaaDoor
namespace Go.X
section
variable {H:AH}{S S':LS}
section
variable {lo b:Nat}{vn vw vl:AV}{ns:List (List Nat)}{ow lp:List Nat}{er:Err}
theorem ahO{v:AV}{l:List Nat}{bk bytes:Nat}{k:AV→AH→Prop}(hM:Mem H S)(h:dY S v (l.map aG))(hb:S.ob bk=.ce [aG 0] 0)(hl:l.length≤1000000)(hby:bytes≤1000)
  (hk:∀H' S' v',Mem H' S'→S.n≤S'.n→(∀x,x<S.n→¬ak v x→S'.ob x=S.ob x)→dY S' v' ((l++[0]).map aG)→(∀x,ak v' x→ak v x∨S.n≤x)→k v' H'):cO 1 bytes v (.slice bk 0 1 1 1 true) H k:=by
 have r1:jN S (λ_=>True) (.slice bk 0 1 1 1 true) [aG 0]:=.inr ⟨bk,0,1,true,[aG 0],0,rfl,by simp,trivial,hb,by simp,rfl⟩;have hbb:((l.map aG).length+[aG 0].length)*bytes≤1099511627776:=by
  rw[List.length_map,List.length_singleton];have:(l.length+1)*bytes≤1000001*1000:=Nat.mul_le_mul (by omega) hby;omega
 refine qJ hM h r1 hbb (λa ha=>by simp only[List.mem_singleton]at ha;subst ha;rfl) λH1 S1 v1 m1 n1 k1 f1 b1 _ _ _=>?_;exact hk H1 S1 v1 m1 n1 k1 (by rw[List.map_append];exact f1) b1
theorem gQ.set2{dm dv:AV}{ow' lp':List Nat}{k:AH→Prop}(h:gQ lo b S vn vw vl ns ow lp er)(hM:Mem H S)(fw:dY S dm (ow'.map aG))(fl:dY S dv (lp'.map aG))(bw:¬ak dm b)(bl:¬ak dv b)(nw:∀x,ak vn x→¬ak dm x)(nl:∀x,ak vn x→¬ak dv x)(wl:∀x,ak dm x→¬ak dv x)(low:∀x,ak dm x→lo≤x)(xT:∀x,ak dv x→lo≤x)
  (hk:∀H' S',Mem H' S'→S'.n=S.n→(∀x,x≠b→S'.ob x=S.ob x)→gQ lo b S' vn dm dv ns ow' lp' er→k H'):au (.ptr b 0) (ag 1 (.ptr b 0) λv17=>ah 1 v17 dm H λiz=>au (.ptr b 0) (ag 2 (.ptr b 0) λv19=>ah 1 v19 dv iz k)):=by
 simp only[bV,aM,Nat.zero_add];refine bJ hM h.ob (by omega) (by show 1<5;omega) fw.one λH1 m1=>?_;have m1:Mem H1 (S.set b (.ce [vn,dm,vl,aG (eC er),aG (eA er)] 0)):=m1;refine bJ m1 (LS.ay _ _ _) (by omega) (by show 2<5;omega) fl.one λH2 m2=>?_;have m2:Mem H2 ((S.set b (.ce [vn,dm,vl,aG (eC er),aG (eA er)] 0)).set b (.ce [vn,dm,dv,aG (eC er),aG (eA er)] 0)):=m2;have k2:∀x,x≠b→((S.set b (.ce [vn,dm,vl,aG (eC er),aG (eA er)] 0)).set b (.ce [vn,dm,dv,aG (eC er),aG (eA er)] 0)).ob x=S.ob x:=λx hx=>(LS.aq _ _ hx).trans (LS.aq _ _ hx);exact hk H2 _ m2 rfl k2 ⟨LS.ay _ _ _,h.fn.keep hM λx hx _=>k2 x λg=>h.bn (g ▸ hx),fw.keep hM λx hx _=>k2 x λg=>bw (g ▸ hx),fl.keep hM λx hx _=>k2 x λg=>bl (g ▸ hx),h.n8,h.er0,h.bn,bw,bl,nw,nl,wl,h.wN,h.Au,low,xT⟩
theorem gQ.push{k:AH→Prop}(h:gQ lo b S vn vw vl ns ow lp er)(hM:Mem H S)(hlo:lo≤S.n)(h1:ow.length≤1000000)(h2:lp.length≤1000000)
  (hk:∀H' S' dm dv,Mem H' S'→iB b S S' vn vw vl vn dm dv→gQ lo b S' vn dm dv ns (ow++[0]) (lp++[0]) er→k H') :
  au (.ptr b 0) (ag 1 (.ptr b 0) λv5=>ad v5 H λv6=>cP H (aT (aE H) 1 1 [(.int 0 (.ofNat 0))] λv7 H8=>bT (Nat.beq H8.n (Nat.succ H.n)) (au (.ptr b 0) (ag 2 (.ptr b 0) λv9=>ad v9 H8 λv10=>cP H8 (aT (aE H8) 1 1 [(.int 0 (.ofNat 0))] λv11 bQ=>bT (Nat.beq bQ.n (Nat.succ H8.n)) (cO 1 8 v6 v7 bQ λv13 dk=>ad v9 dk λv15=>bT (bu v15 v10) (cO 1 8 v10 v11 dk λv16 jO=>au (.ptr b 0) (ag 1 (.ptr b 0) λv18=>ah 1 v18 v13 jO λkj=>au (.ptr b 0) (ag 2 (.ptr b 0) λv20=>ah 1 v20 v16 kj λgZ=>k gZ))))))))):=by
 have ez:AV.int 0 (.ofNat 0)=aG 0:=rfl;rw[ez];refine h.ld hM (j:=1) rfl ?_;refine hM.cP ?_;refine dj hM rfl (λa ha=>by simp only[List.mem_singleton]at ha;subst ha;rfl) λH1 m1=>?_;have hln:∀x,tq b vn vw vl x→x<S.n:=λx hx=>h.iv hM hx;have x1:Ext S (S.push (.ce [aG 0] 0)):=Ext.push _ _;have o1:(S.push (.ce [aG 0] 0)).ob S.n=.ce [aG 0] 0:=LS.av _ _;have n1:(S.push (.ce [aG 0] 0)).n=S.n+1:=rfl;have m1:Mem H1 (S.push (.ce [aG 0] 0)):=m1;rw[m1.n,hM.n];refine cG (by show Nat.beq (S.n+1) (S.n+1)=true;exact Nat.beq_refl _) ?_;revert m1 x1 o1 n1;generalize S.push (.ce [aG 0] 0)=S1;intro x1 o1 n1 m1;have d1:=h.ext hM x1;simp only[bV,aM,Nat.zero_add];refine az m1 d1.ob (v:=vl) rfl ?_;refine m1.cP ?_;refine dj m1 rfl (λa ha=>by simp only[List.mem_singleton]at ha;subst ha;rfl) λH2 m2=>?_;have x2:Ext S1 (S1.push (.ce [aG 0] 0)):=Ext.push _ _;have o2:(S1.push (.ce [aG 0] 0)).ob S1.n=.ce [aG 0] 0:=LS.av _ _;have n2:(S1.push (.ce [aG 0] 0)).n=S1.n+1:=rfl;have m2:Mem H2 (S1.push (.ce [aG 0] 0)):=m2;rw[m2.n];refine cG (by show Nat.beq (S1.n+1) (S1.n+1)=true;exact Nat.beq_refl _) ?_;revert m2 x2 o2 n2;generalize S1.push (.ce [aG 0] 0)=S2;intro x2 o2 n2 m2;have d2:=d1.ext m1 x2;have qS:=(x2.ob _ (by omega)).trans o1;refine ahO m2 d2.fw qS h1 (by omega) λH3 S3 dm m3 n3 k3 f3 b3=>?_;have hlt:=hln;have e3:S3.ob b=.ce [vn,vw,vl,aG (eC er),aG (eA er)] 0:=(k3 b (by have:=hlt b (.inl rfl);omega) d2.bw).trans d2.ob;refine az m3 e3 (v:=vl) rfl ?_;refine cG (by
  rcases h.fl with⟨rfl,_⟩|⟨_,_,_,_,rfl,_⟩
  ·rfl
  ·simp[bu]) ?_
 have fl3:dY S3 vl (lp.map aG):=d2.fl.keep m2 λx hx hl=>k3 x hl λq=>h.wl x q hx;have fn3:dY S3 vn (ns.map ai):=d2.fn.keep m2 λx hx hl=>k3 x hl λq=>h.nw x hx q;have lI:S3.ob S1.n=.ce [aG 0] 0:=(k3 S1.n (by omega) λq=>by have:=hlt _ (.inr (.inr (.inl q)));omega).trans o2;refine ahO m3 fl3 lI h2 (by omega) λH4 S4 dv m4 n4 k4 f4 b4=>?_;have hw':∀x,ak dm x→ak vw x∨S.n<x:=λx hx=>(b3 x hx).elim .inl λq=>.inr (by omega);have hl':∀x,ak dv x→ak vl x∨S.n<x:=λx hx=>(b4 x hx).elim .inl λq=>.inr (by omega);have arR:∀x,ak dm x→x<S3.n:=λx hx=>f3.lt m3 hx;have N4:∀x,ak dm x→¬ak dv x:=λx hx q=>(b4 x q).elim (λw=>(b3 x hx).elim (λu=>h.wl x u w) λu=>by have:=hlt _ (.inr (.inr (.inr w)));omega) λw=>by have:=arR x hx;omega
 have e4:S4.ob b=.ce [vn,vw,vl,aG (eC er),aG (eA er)] 0:=(k4 b (by have:=hlt b (.inl rfl);omega) h.bl).trans e3;have fw4:dY S4 dm ((ow++[0]).map aG):=f3.keep m3 λx hx hl=>k4 x hl λq=>(b3 x hx).elim (λu=>h.wl x u q) λu=>by have:=hlt _ (.inr (.inr (.inr q)));omega
 have fn4:dY S4 vn (ns.map ai):=fn3.keep m3 λx hx hl=>k4 x hl (h.nl x hx);have asD:dY S4 vw (ow.map aG)∨True:=.inr trivial;refine bJ m4 e4 (by omega) (by show 1<5;omega) fw4.one λH5 m5=>?_;have m5:Mem H5 (S4.set b (.ce [vn,dm,vl,aG (eC er),aG (eA er)] 0)):=m5;refine bJ m5 (LS.ay _ _ _) (by omega) (by show 2<5;omega) f4.one λH6 m6=>?_;have m6:Mem H6 ((S4.set b (.ce [vn,dm,vl,aG (eC er),aG (eA er)] 0)).set b (.ce [vn,dm,dv,aG (eC er),aG (eA er)] 0)):=m6;have k6:∀x,x≠b→((S4.set b (.ce [vn,dm,vl,aG (eC er),aG (eA er)] 0)).set b (.ce [vn,dm,dv,aG (eC er),aG (eA er)] 0)).ob x=S4.ob x:=λx hx=>(LS.aq _ _ hx).trans (LS.aq _ _ hx);have hbn:=hlt b (.inl rfl);have bw':¬ak dm b:=λq=>(hw' b q).elim h.bw (by omega);have bl':¬ak dv b:=λq=>(hl' b q).elim h.bl (by omega);refine hk H6 _ dm dv m6 ⟨by show S.n≤S4.n;omega,λx hx hn=>?_,λx hx=>?_⟩ ⟨LS.ay _ _ _,fn4.keep m4 λx hx _=>k6 x λg=>h.bn (g ▸ hx),fw4.keep m4 λx hx _=>k6 x λg=>bw' (g ▸ hx),f4.keep m4 λx hx _=>k6 x λg=>bl' (g ▸ hx),h.n8,h.er0,h.bn,bw',bl',λx hx q=>(hw' x q).elim (h.nw x hx) λw=>by have:=hlt _ (.inr (.inl hx));omega,λx hx q=>(hl' x q).elim (h.nl x hx) λw=>by have:=hlt _ (.inr (.inl hx));omega,N4,h.wN,h.Au,λx hx=>(hw' x hx).elim (h.low x) λw=>by omega,λx hx=>(hl' x hx).elim (h.xT x) λw=>by omega⟩
 ·rw[k6 x λg=>hn (.inl g),k4 x (by omega) λq=>hn (.inr (.inr (.inr q))),k3 x (by omega) λq=>hn (.inr (.inr (.inl q))),x2.ob x (by omega),x1.ob x hx]
 ·rcases hx with q|q|q|q
  ·exact .inl (.inl q)
  ·exact .inl (.inr (.inl q))
  ·exact(hw' x q).elim (λw=>.inl (.inr (.inr (.inl w)))) λw=>.inr (by omega)
  ·exact(hl' x q).elim (λw=>.inl (.inr (.inr (.inr w)))) λw=>.inr (by omega)
end
end
section
variable {H:AH}{S S':LS}
section
variable {lo b:Nat}{vn vw vl cL dm dv:AV}{ns:List (List Nat)}{p p':List Nat}{q q':Nat}{er er':Err}
theorem gQ.pop{k:AH→Prop}(h:gQ lo b S vn vw vl ns (p++[q]) (p'++[q']) er)(hM:Mem H S)(h1:p.length≤1000000)(h2:p'.length≤1000000)
  (hk:∀H' S' dm dv,Mem H' S'→iB b S S' vn vw vl vn dm dv→gQ lo b S' vn dm dv ns p p' er→k H') :
  au (.ptr b 0) (ag 1 (.ptr b 0) λv1=>ad v1 H λv2=>au (.ptr b 0) (ag 1 (.ptr b 0) λv3=>ad v3 H λv4=>bO v4 λv5=>cI 0 v5 λz6=>aC 0 (Int.sub z6 (.ofNat 1)) λz7=>fx 1 v2 none (some (.int 0 z7)) none λv8=>au (.ptr b 0) (ag 2 (.ptr b 0) λv9=>ad v9 H λv10=>au (.ptr b 0) (ag 2 (.ptr b 0) λv11=>ad v11 H λv12=>bO v12 λv13=>cI 0 v13 λoe=>aC 0 (Int.sub oe (.ofNat 1)) λmK=>fx 1 v10 none (some (.int 0 mK)) none λv16=>au (.ptr b 0) (ag 1 (.ptr b 0) λv17=>ah 1 v17 v8 H λiz=>au (.ptr b 0) (ag 2 (.ptr b 0) λv19=>ah 1 v19 v16 iz λjt=>k jt)))))):=by
 refine h.ld hM (j:=1) rfl ?_;refine h.ld hM (j:=1) rfl ?_;refine h.fw.len ?_;rw[aK,List.length_map,List.length_append,List.length_singleton];simp only[kW,dX];refine w0 (by omega) (by omega) ?_;have ep:((p.length+1:Nat):Int)-1=(p.length:Int):=by omega
 have ep':((p'.length+1:Nat):Int)-1=(p'.length:Int):=by omega
 rw[ep];refine qp h.fw (by simp) λw1 f1 b1 _ _=>?_;refine h.ld hM (j:=2) rfl ?_;refine h.ld hM (j:=2) rfl ?_;refine h.fl.len ?_;rw[aK,List.length_map,List.length_append,List.length_singleton];refine w0 (by omega) (by omega) ?_;rw[ep'];refine qp h.fl (by simp) λw2 f2 b2 _ _=>?_;rw[List.map_append,List.take_left' (by simp)]at f1 f2;refine h.set2 (ow':=p) (lp':=p') hM f1 f2 (λg=>h.bw ((b1 b).1 g)) (λg=>h.bl ((b2 b).1 g)) (λx hx g=>h.nw x hx ((b1 x).1 g)) (λx hx g=>h.nl x hx ((b2 x).1 g)) (λx hx g=>h.wl x ((b1 x).1 hx) ((b2 x).1 g)) (λx hx=>h.low x ((b1 x).1 hx)) (λx hx=>h.xT x ((b2 x).1 hx)) λH' S' m n k1 d=>?_;refine hk H' S' w1 w2 m ⟨by omega,λx _ hx=>k1 x λg=>hx (.inl g),λx hx=>?_⟩ d;rcases hx with g|g|g|g
 ·exact .inl (.inl g)
 ·exact .inl (.inr (.inl g))
 ·exact .inl (.inr (.inr (.inl ((b1 x).1 g))))
 ·exact .inl (.inr (.inr (.inr ((b2 x).1 g))))
structure Dn(lo b:Nat)(H:AH)(S:LS)(vn vw vl:AV)(L:List (List (List Nat)))(ns:List (List Nat))(ql:List Nat)(l0:Nat)(er:Err):Prop where
 m:Mem H S
 d:gQ lo b S vn vw vl (L.flatten++ns) (L.map List.length++[ns.length]) (ql++[l0]) er
 l:lo≤S.n
theorem Dn.low{L:List (List (List Nat))}{ql:List Nat}{l0:Nat}(h:Dn lo b H S vn vw vl L ns ql l0 er)(g:iB b S S' vn vw vl cL dm dv):∀x,x<lo→S'.ob x=S.ob x:=λx hx=>g.low h.d h.l hx
theorem Dn.new{L:List (List (List Nat))}{ql:List Nat}{l0:Nat}(h:Dn lo b H S vn vw vl L ns ql l0 er):¬tq b vn vw vl S.n:=λq=>Nat.lt_irrefl _ (h.d.iv h.m q)
theorem Dn.ext{H':AH}{L:List (List (List Nat))}{ql:List Nat}{l0:Nat}(h:Dn lo b H S vn vw vl L ns ql l0 er)(m:Mem H' S')(x:Ext S S'):Dn lo b H' S' vn vw vl L ns ql l0 er:=⟨m,h.d.ext h.m x,Nat.le_trans h.l x.n⟩
def Rm(L:List (List (List Nat)))(ns:List (List Nat))(ql:List Nat)(l0 z:Nat):Prop:=L.flatten.length+ns.length+z≤800000∧L.length+z≤800000∧ql.length+z≤800000∧l0+z≤800000
theorem Rm.le{L:List (List (List Nat))}{ql:List Nat}{l0 z z':Nat}(h:Rm L ns ql l0 z)(hz:z'≤z):Rm L ns ql l0 z':=⟨by have:=h.1;omega,by have:=h.2.1;omega,by have:=h.2.2.1;omega,by have:=h.2.2.2;omega⟩
end
end
end Go.X
namespace Go.Proofs.YtcedghechlgecaaDoor
open Go Go.X Go.Proofs.YtcedghechlgecaaDoor.G
section
variable {H:AH}{S:LS}{K:KF}
def Ob(lo b:Nat)(S:LS)(vn vw vl:AV)(L:List (List (List Nat)))(ns:List (List Nat))(ql:List Nat)(l0:Nat)(er:Err)(K:KF):Prop:=∀H' S' cL dm dv,Mem H' S'→iB b S S' vn vw vl cL dm dv→Dn lo b H' S' cL dm dv L ns ql l0 er→K (.ret (.aP [])) H'
structure Qc(F:AV→AV→AH→KF→Prop)(n:Nat)(l:List al):Prop where
 run:∀{K:KF}{H:AH}{S:LS}{lo b:Nat}{vn vw vl v:AV}{L:List (List (List Nat))}{ns:List (List Nat)}{ql:List Nat}{l0:Nat}{er:Err},Dn lo b H S vn vw vl L ns ql l0 er→oq S (fi lo) v l→jK l→Rm L ns ql l0 (bB l)→Ob lo b S vn vw vl L ns ql l0 (cH er (bG (kE n L ns) l)) K→F (.ptr b 0) v H K
structure DPa(F:AV→AV→AH→KF→Prop)(n:Nat)(e:al):Prop where
 run:∀{K:KF}{H:AH}{S:LS}{lo b:Nat}{vn vw vl v:AV}{L:List (List (List Nat))}{ns:List (List Nat)}{ql:List Nat}{l0:Nat}{er:Err}{k a nn op:Nat}{s:List Nat}{l:List al}{f:List eV},e=.mk k a nn s op l f→Dn lo b H S vn vw vl L ns ql l0 er→dS S (fi lo) v e→e.wg→Rm L ns ql l0 e.sz→Ob lo b S vn vw vl L ns ql l0 (cH er (cH (bG (kE n L ns) l) (bG (kF n (L++[ns])) f))) K→F (.ptr b 0) v H K
structure Oc(F:AV→AV→AV→AV→AH→KF→Prop)(n:Nat)(names:List (List Nat))(bd:List aA)(thn:List al):Prop where
 run:∀{K:KF}{H:AH}{S:LS}{lo b:Nat}{vn vw vl v1 v2 v3:AV}{L:List (List (List Nat))}{ns:List (List Nat)}{ql:List Nat}{l0:Nat}{er:Err},Dn lo b H S vn vw vl L ns ql l0 er→fY S (fi lo) v1 bd→kl S (fi lo) v2 names→oq S (fi lo) v3 thn→kv bd→jK thn→(thn≠[]→0<l0)→Rm L ns ql l0 (names.length+dO bd+bB thn)→Ob lo b S vn vw vl L ns ql l0 (cH er (kB n L l0 (ns++names) bd thn)) K→F (.ptr b 0) v1 v2 v3 H K
theorem e48{R:gz}{n:Nat}{l:List al}(hB:R.1=f11)(hH:R.2.1=f25)(hF:R.2.2.1=f69)(hP:∀e∈l,DPa R.2.2.2 n e):Qc (zR R) (n+1) l:=by
 refine⟨λ{K H S lo b vn vw vl v L ns ql l0 er} hD hv hw hR hK=>?_⟩;have hll:=nB l;obtain⟨r1,r2,r3,r4⟩:=id hR;have loop:∀(q i:Nat) (cL dm dv:AV) (H':AH) (S':LS),i≤l.length→l.length-i<q→Dn lo b H' S' cL dm dv L ns ql l0 (cH er (bG (kE (n+1) L ns) (l.take i)))→iB b S S' vn vw vl cL dm dv→pO R K q (.ptr b 0) v (i:Int) H':=by
  intro q
  induction q with
  |zero=>intro i _ _ _ _ _ _ h;omega
  |succ q ih=>
   intro i cL dm dv H' S' hi hq D1 hst;show FD R K (FC R K (td R K (ta R K (pO R K q)))) (td R K (ta R K (pO R K q))) (.ptr b 0) v (i:Int) H';unfold FD;simp only[jy];have V1:=lZ hv (hD.low hst);refine V1.choose_spec.1.len ?_;rw[aK,cz];refine bR (λg=>?_) (λg=>?_)
   rotate_left
   ·have e:i=l.length:=by omega
    subst e;rw[List.take_length]at D1;exact hK H' S' cL dm dv D1.m hst D1
   have hil:i<l.length:=by omega
   obtain⟨e,he⟩:∃e,l[i]? = some e:=⟨_,List.getElem?_eq_getElem hil⟩
   have hem:=List.mem_of_getElem? he;have hsz:=j2 he;have hwe:=qx hw he;obtain⟨cl,s1,g1⟩:=V1;have e1:=g1 i e he;refine s1.load D1.m hil ?_;refine rY D1.m fg rfl e1.len e1.ones λH1 S1 m1 x1 o1 n1=>?_;have D2:=D1.ext m1 x1;have hnew:=D1.new;have hpa:=hP e hem;obtain⟨k,a,nn,s,op,l',fs⟩:=e;have e2:RE S1 (fi lo) (cl i) (.mk k a nn s op l' fs):=e1.go (λx hx=>x1.ob x (Nat.lt_of_lt_of_le hx D1.l)) λ_ h=>h;obtain⟨N4,wf',c1,h8,L1,F1⟩:=e2.out;have hcl:(cl i).length=7:=e1.len;have rest:∀(H2:AH) (S2:LS) (pW pX pY:AV) (er2:Err),er2=cH (cH er (bG (kE (n+1) L ns) (l.take i))) (if k=6∧mu L ns s=false∧s∉builtins then some (14,a) else none)→Dn lo b H2 S2 pW pX pY L ns ql l0 er2→iB b S1 S2 cL dm dv pW pX pY→td R K (ta R K (pO R K q)) (.ptr b 0) v (i:Int) (.ptr S'.n 0) H2:=λH2 S2 pW pX pY er2 he2 D3 st2=>by
    unfold td;have o2:=(st2.ob _ (by omega) hnew).trans o1;refine gH D3.m o2 hcl ?_;refine hpa.run rfl D3 ⟨_,rfl,e2.go (λx hx=>D2.low st2 x hx) λ_ h=>h⟩ hwe (hR.le hsz) λH3 S3 jP jQ jR m3 bP D4=>?_;rw[aj];unfold ta;rw[dh,dX];refine w0 (by omega) (by omega) ?_;refine ih (i+1) jP jQ jR H3 S3 (by omega) (by omega) ?_ (hst.trans (x1.tt.trans (st2.trans bP)));rw[rn he,oJ,←fm];have e3:bG (kE (n+1) L ns) [al.mk k a nn s op l' fs]=cH (if k=6∧mu L ns s=false∧s∉builtins then some (14,a) else none) (cH (bG (kE n L ns) l') (bG (kF n (L++[ns])) fs)):=by
     show cH (kE (n+1) L ns (.mk k a nn s op l' fs)) none=_;rw[jL,kE]
    rw[e3,←fm,←he2];exact D4
   rw[c1]at o1;simp only[aM,Nat.zero_add];refine az m1 o1 (v:=.int 0 (k:Int)) rfl ?_;have e6:Int.ofNat 6=((6:Nat):Int):=rfl;rw[aK,aZ,e6];have same:¬(k=6∧mu L ns s=false∧s∉builtins)→∀{H2:AH}{S2:LS},Mem H2 S2→Ext S1 S2→td R K (ta R K (pO R K q)) (.ptr b 0) v (i:Int) (.ptr S'.n 0) H2:=λhno {H2 S2} m2 x2=>by
    refine rest H2 S2 cL dm dv _ rfl ?_ x2.tt;rw[if_neg hno,jL];exact D2.ext m2 x2
   rw[←c1]at o1;refine bR (λg6=>?_) (λg6=>?_)
   rotate_left
   ·exact same (λg=>g6 (by omega)) m1 (Ext.refl _)
   have hk:k=6:=by omega
   have o1':=o1;rw[c1]at o1';simp only[bV];refine az m1 D2.d.ob (v:=cL) rfl ?_;refine az m1 o1' (v:=ai s) rfl ?_;rw[hH,hB];refine aga m1 (D2.d.fn.rd m1 (Q:=λ_=>True) λ_ _ _=>trivial) D2.d.n8 h8 (by rw[List.length_append];omega) ?_;rw[aj,aN];by_cases h1:s∈L.flatten++ns
   ·rw[decide_eq_true h1];simp only[Bool.not_true,aI];exact same (λg=>by have:=g.2.1;unfold mu at this;rw[decide_eq_true h1]at this;cases this) m1 (Ext.refl _)
   rw[decide_eq_false h1];simp only[Bool.not_false,aH];refine az m1 o1' (v:=ai s) rfl ?_;refine aoY m1 h8 λH2 S2 m2 x2=>?_;rw[aj,aN];by_cases h2:s∈builtins
   ·rw[decide_eq_true h2];simp only[Bool.not_true,aI];exact same (λg=>g.2.2 h2) m2 x2
   rw[decide_eq_false h2];simp only[Bool.not_false,aH];unfold FC;rw[hF];have D3:=D2.ext m2 x2;have o2:=(x2.ob _ (by omega)).trans o1';simp only[aM,Nat.zero_add];refine az m2 o2 (v:=.int 0 (a:Int)) rfl ?_;rw[aK];refine SK (c:=14) (a:=a) m2 D3.d (by omega) λH3 S3 jP jQ jR m3 bP d3=>?_;rw[aj];refine rest H3 S3 jP jQ jR _ rfl ?_ (x2.tt.trans bP);rw[if_pos ⟨hk,by unfold mu;exact decide_eq_false h1,h2⟩];exact⟨m3,d3,Nat.le_trans D3.l bP.n⟩
 show FE R K (pO R K G.NL) (.ptr b 0) v H;unfold FE;have gu:G.NL=1000000:=rfl;generalize G.NL=eW at gu ⊢;refine loop eW 0 vn vw vl H S (Nat.zero_le _) (by omega) ?_ iB.refl;simp only[List.take_zero,bG,jL];exact hD
end
section
variable {H:AH}{S:LS}{K:KF}
theorem Hf{c:List AV}{k:AV→AH→Prop}(hM:Mem H S)(h1:∀a∈c,a.one=true)(hk:∀H' S',Mem H' S'→Ext S S'→S'.ob S.n=.ce c 0→S'.n=S.n+1→k (.ptr S.n 0) H'):mB (aE H) (.agg c) k:=
 JR hM h1 λH' m=>hk H' _ m (Ext.push _ _) (LS.av _ _) rfl
theorem p70{R:gA}{n:Nat}{e:al}(hE:∀k a nn s op l fs,e=.mk k a nn s op l fs→Qc R.2 n l)(hB:∀k a nn s op l fs,e=.mk k a nn s op l fs→∀f∈fs,∃n',n=n'+1∧∀ps bd,f=.mk ps bd→Oc R.1 n' ps bd []):DPa (FK R) n e:=by
 refine⟨λ{K H S lo b vn vw vl v L ns ql l0 er k a nn op s l fs} he hD hv hw hR hK=>?_⟩;have hE1:=hE k a nn s op l fs he;have hB1:=hB k a nn s op l fs he;subst he;obtain⟨c,rfl,e1⟩:=hv;simp only[al.sz]at hR;simp only[al.wg]at hw;show FJ R K (wF R K G.NL) (.ptr b 0) (.agg c) H;unfold FJ;have hcl:c.length=7:=e1.len;refine Hf hD.m e1.ones λH1 S1 m1 x1 o1 n1=>?_;have D1:=hD.ext m1 x1;have hnew:=hD.new;have e2:RE S1 (fi lo) c (.mk k a nn s op l fs):=e1.go (λx hx=>x1.ob x (Nat.lt_of_lt_of_le hx hD.l)) λ_ h=>h;obtain⟨wl,wf,c1,h8,L1,F1⟩:=e2.out;subst c1;simp only[aM,Nat.zero_add];refine az m1 o1 (v:=wl) rfl ?_;refine hE1.run D1 L1 hw.2.1 (hR.le (by omega)) λH2 S2 pW pX pY m2 st2 D2=>?_;rw[aj];have hfl:=A8 fs;obtain⟨r1,r2,r3,r4⟩:=id hR;have loop:∀(q j:Nat) (cL dm dv:AV) (H':AH) (S':LS),j≤fs.length→fs.length-j<q→Dn lo b H' S' cL dm dv L ns ql l0 (cH er (cH (bG (kE n L ns) l) (bG (kF n (L++[ns])) (fs.take j))))→iB b S1 S' vn vw vl cL dm dv→wF R K q (.ptr b 0) (.ptr S.n 0) (j:Int) H':=by
  intro q
  induction q with
  |zero=>intro j _ _ _ _ _ _ h;omega
  |succ q ih=>
   intro j cL dm dv H' S' hj hq D3 bP;show FI R K (FH R K (FG R K (FF R K (wF R K q)))) (.ptr b 0) (.ptr S.n 0) (j:Int) H';unfold FI;have o3:=(bP.ob _ (by omega) hnew).trans o1;simp only[aM,Nat.zero_add];refine az D3.m o3 (v:=wf) rfl ?_;have F3:=NY F1 (D1.low bP);refine F3.choose_spec.1.len ?_;rw[aK,cz];refine bR (λg4=>?_) (λg4=>?_)
   rotate_left
   ·have e:j=fs.length:=by omega
    subst e;rw[List.take_length]at D3;exact hK H' S' cL dm dv D3.m (x1.tt.trans bP) D3
   have hjl:j<fs.length:=by omega
   obtain⟨f,hf⟩:∃f,fs[j]? = some f:=⟨_,List.getElem?_eq_getElem hjl⟩
   have hfs:=tm hf;have hfw:=Ba hw.2.2 hf;obtain⟨n',hn',hwi⟩:=hB1 f (List.mem_of_getElem? hf);obtain⟨ps,bd⟩:=f;simp only[eV.sz]at hfs;have Qd:(L.map List.length++[ns.length]).length≤1000000:=by
    rw[List.length_append,List.length_map,List.length_singleton];omega
   have hlq:(ql++[l0]).length≤1000000:=by
    rw[List.length_append,List.length_singleton];omega
   have pu:=λk=>D3.d.push (k:=k) D3.m D3.l Qd hlq;simp only[aM,Nat.zero_add]at pu;refine pu _ λH4 S4 lh lj m4 eZ d4=>?_;unfold FH;have age:=bP.trans eZ;have o4:=(age.ob _ (by omega) hnew).trans o1;have F4:=NY F1 (D1.low age);obtain⟨cf,t1,u1⟩:=F4;have f1:=u1 j _ hf;obtain⟨vp,vb,c5,N5,B5⟩:=f1.out;simp only[aM,Nat.zero_add];refine az m4 o4 (v:=wf) rfl ?_;refine t1.fld m4 hjl (j:=1) (by omega) (a:=vb) (by rw[c5];rfl) ?_;refine az m4 o4 (v:=wf) rfl ?_;refine t1.fld m4 hjl (j:=0) (by omega) (a:=vp) (by rw[c5];rfl) ?_;have D4:Dn lo b H4 S4 cL lh lj (L++[ns]) [] (ql++[l0]) 0 (cH er (cH (bG (kE n L ns) l) (bG (kF n (L++[ns])) (fs.take j)))):=by
    refine⟨m4,?_,Nat.le_trans D3.l eZ.n⟩;have ef:(L++[ns]).flatten++[]=L.flatten++ns:=by simp
    have el:(L++[ns]).map List.length++[List.length ([]:List (List Nat))]=L.map List.length++[ns.length]++[0]:=by simp
    rw[ef,el];exact d4
   refine(hwi ps bd rfl).run D4 B5 N5 He hfw trivial (λh=>absurd rfl h) ?_ λH5 S5 vn5 vw5 vl5 m5 rp D5=>?_
   ·refine⟨?_,?_,?_,?_⟩
    ·simp only[List.flatten_append,List.flatten_cons,List.flatten_nil,List.append_nil,List.length_append,List.length_nil,bB];omega
    ·simp only[List.length_append,List.length_singleton,bB];omega
    ·simp only[List.length_append,List.length_singleton,bB];omega
    ·simp only[bB];omega
   rw[aj];unfold FG;have d5:=D5.d;have ef:(L++[ns]).flatten++[]=L.flatten++ns:=by simp
   have el:(L++[ns]).map List.length++[List.length ([]:List (List Nat))]=L.map List.length++[ns.length]++[0]:=by simp
   rw[ef,el]at d5;refine d5.pop m5 Qd hlq λH6 S6 vw6 vl6 m6 zf d6=>?_;unfold FF;rw[dh,dX];refine w0 (by omega) (by omega) ?_;refine ih (j+1) vn5 vw6 vl6 H6 S6 (by omega) (by omega) ?_ (age.trans (rp.trans zf));refine⟨m6,?_,Nat.le_trans (Nat.le_trans D3.l eZ.n) (Nat.le_trans rp.n zf.n)⟩;have e3:bG (kF n (L++[ns])) [eV.mk ps bd]=kB n' (L++[ns]) 0 ps bd []:=by
    subst hn';show cH (kF (n'+1) (L++[ns]) (.mk ps bd)) none=_;rw[jL,kF]
   rw[rn hf,oJ,e3];rw[List.nil_append,fm,fm]at d6;exact d6
 have gu:G.NL=1000000:=rfl;generalize G.NL=eW at gu ⊢;refine loop eW 0 pW pX pY H2 S2 (Nat.zero_le _) (by omega) ?_ st2;simp only[List.take_zero,bG,jL];exact D2
end
end Go.Proofs.YtcedghechlgecaaDoor
namespace Go.X
section
variable {H:AH}{S S':LS}
theorem aqn(n:Nat)(L:List (List (List Nat)))(lp:Nat)(ns:List (List Nat))(er:Err)(s:aA):kS n L lp (ns,er) s=((kS n L lp (ns,none) s).1,cH er (kS n L lp (ns,none) s).2):=by
 cases n with
 |zero=>
  simp only[kS];rw[jL]
 |succ n=>
  obtain⟨k,a,names,l,bs⟩:=s;simp only[kS,eP]
  repeat' split
  all_goals rfl
theorem Gj(n:Nat)(L:List (List (List Nat)))(lp:Nat):∀(b:List aA) (ns:List (List Nat)) (er:Err),b.foldl (kS n L lp) (ns,er)=((b.foldl (kS n L lp) (ns,none)).1,cH er (b.foldl (kS n L lp) (ns,none)).2)
 |[],ns,er=>by
  simp only[List.foldl_nil];rw[jL]
 |s::b,ns,er=>by
  simp only[List.foldl_cons];rw[aqn n L lp ns er];generalize kS n L lp (ns,none) s=r;obtain⟨m,e⟩:=r;rw[Gj n L lp b m (cH er e),Gj n L lp b m e];simp only[fm]
theorem ao4(n:Nat)(L:List (List (List Nat)))(lp:Nat)(r:List (List Nat)×Err)(s:aA):∃x,(kS n L lp r s).1=r.1++x∧x.length≤s.sz:=by
 have nil:∃x:List (List Nat),r.1=r.1++x∧x.length≤s.sz:=⟨[],by simp,Nat.zero_le _⟩
 cases n with
 |zero=>exact nil
 |succ n=>
  obtain⟨k,a,names,l,bs⟩:=s;have one:∃x:List (List Nat),r.1++names=r.1++x∧x.length≤(aA.mk k a names l bs).sz:=⟨names,rfl,by simp only[aA.sz];omega⟩
  simp only[kS]
  repeat' split
  all_goals first|exact one|exact nil
theorem wO(n:Nat)(L:List (List (List Nat)))(lp:Nat):∀(b:List aA) (r:List (List Nat)×Err),∃x,(b.foldl (kS n L lp) r).1=r.1++x∧x.length≤dO b
 |[],r=>⟨[],by simp,Nat.zero_le _⟩
 |s::b,r=>by
  obtain⟨x,e,h⟩:=ao4 n L lp r s;obtain⟨y,e2,h2⟩:=wO n L lp b (kS n L lp r s);refine⟨x++y,?_,?_⟩
  ·rw[List.foldl_cons,e2,e,List.append_assoc]
  ·rw[List.length_append,dO];omega
section
variable {lo b:Nat}{vn vw vl:AV}{ns e:List (List Nat)}{p ow lp:List Nat}{q q':Nat}{er:Err}
theorem gQ.cut{k:AH→Prop}(h:gQ lo b S vn vw vl (ns++e) (p++[q]) lp er)(hM:Mem H S)(hp:p.length≤1000000)
  (hk:∀H' S' cL,Mem H' S'→iB b S S' vn vw vl cL vw vl→gQ lo b S' cL vw vl ns (p++[q']) lp er→k H'):au (.ptr b 0) (ag 0 (.ptr b 0) λv1=>ad v1 H λv2=>fx 1 v2 none (some (.int 0 (ns.length:Int))) none λv3=>au (.ptr b 0) (ag 0 (.ptr b 0) λv4=>ah 1 v4 v3 H λH5=>au (.ptr b 0) (ag 1 (.ptr b 0) λv6=>ad v6 H5 λv7=>au (.ptr b 0) (ag 1 (.ptr b 0) λv8=>ad v8 H5 λv9=>bO v9 λv10=>cI 0 v10 λz11=>aC 0 (Int.sub z11 (.ofNat 1)) λz12=>bb 1 v7 (.int 0 z12) λv13=>ah 1 v13 (.int 0 (q':Int)) H5 λdk=>k dk)))):=by
 refine h.ld hM (j:=0) rfl ?_;refine qp h.fn (by simp) λw1 f1 b1 _ _=>?_;rw[List.map_append,List.take_left' (by simp)]at f1;simp only[bV,aM,Nat.zero_add];refine bJ hM h.ob (by omega) (by show 0<5;omega) f1.one λH1 m1=>?_;have m1:Mem H1 (S.set b (.ce [w1,vw,vl,aG (eC er),aG (eA er)] 0)):=m1;have k1:∀x,x≠b→(S.set b (.ce [w1,vw,vl,aG (eC er),aG (eA er)] 0)).ob x=S.ob x:=λx hx=>LS.aq _ _ hx;have d1:gQ lo b (S.set b (.ce [w1,vw,vl,aG (eC er),aG (eA er)] 0)) w1 vw vl ns (p++[q]) lp er:=⟨LS.ay _ _ _,f1.keep hM λx hx _=>k1 x λg=>h.bn (g ▸ (b1 x).1 hx),h.fw.keep hM λx hx _=>k1 x λg=>h.bw (g ▸ hx),h.fl.keep hM λx hx _=>k1 x λg=>h.bl (g ▸ hx),λt ht=>h.n8 t (List.mem_append_left _ ht),h.er0,λg=>h.bn ((b1 b).1 g),h.bw,h.bl,λx hx=>h.nw x ((b1 x).1 hx),λx hx=>h.nl x ((b1 x).1 hx),h.wl,h.wN,λx hx=>h.Au x ((b1 x).1 hx),h.low,h.xT⟩
 have s1:iB b S (S.set b (.ce [w1,vw,vl,aG (eC er),aG (eA er)] 0)) vn vw vl w1 vw vl:=⟨Nat.le_refl _,λx _ hx=>k1 x λg=>hx (.inl g),λx hx=>by
  rcases hx with g|g|g|g
  ·exact .inl (.inl g)
  ·exact .inl (.inr (.inl ((b1 x).1 g)))
  ·exact .inl (.inr (.inr (.inl g)))
  ·exact .inl (.inr (.inr (.inr g)))⟩
 refine az m1 d1.ob (v:=vw) rfl ?_;refine az m1 d1.ob (v:=vw) rfl ?_;refine d1.fw.len ?_;rw[aK,List.length_map,List.length_append,List.length_singleton];simp only[kW,dX];refine w0 (by omega) (by omega) ?_;have ep:((p.length+1:Nat):Int)-1=(p.length:Int):=by omega
 rw[ep];exact d1.setW m1 λH' S' m st d=>hk H' S' w1 m (s1.trans st) d
theorem gQ.SL{f:Int→Int}{k:AH→Prop}(h:gQ lo b S vn vw vl ns ow (p++[q]) er)(hM:Mem H S)(hp:p.length≤1000000)(hf:f (q:Int)=(q':Int))(hq:q'≤1000000)
  (hk:∀H' S',Mem H' S'→iB b S S' vn vw vl vn vw vl→gQ lo b S' vn vw vl ns ow (p++[q']) er→k H'):au (.ptr b 0) (ag 2 (.ptr b 0) λv3=>ad v3 H λv4=>au (.ptr b 0) (ag 2 (.ptr b 0) λv5=>ad v5 H λv6=>bO v6 λv7=>cI 0 v7 λz8=>aC 0 (Int.sub z8 (.ofNat 1)) λz9=>bb 1 v4 (.int 0 z9) λv10=>ad v10 H λv11=>cI 0 v11 λz12=>aC 0 (f z12) λz13=>bb 1 v4 (.int 0 z9) λv14=>ah 1 v14 (.int 0 z13) H λdZ=>k dZ)):=by
 refine h.ld hM (j:=2) rfl ?_;refine h.ld hM (j:=2) rfl ?_;refine h.fl.len ?_;rw[aK,List.length_map,List.length_append,List.length_singleton];simp only[kW,dX];refine w0 (by omega) (by omega) ?_;have ep:((p.length+1:Nat):Int)-1=(p.length:Int):=by omega
 rw[ep];refine ze (k:=λ_=>True) hM h.fl hp trivial ?_;rw[hf];refine w0 (by omega) (by omega) ?_;exact h.ko hM hk
end
end
end Go.X
namespace Go.Proofs.YtcedghechlgecaaDoor
open Go Go.X Go.Proofs.YtcedghechlgecaaDoor.G
section
variable {H:AH}{S:LS}{K:KF}
structure DSs(F:AV→AV→AH→KF→Prop)(n:Nat)(s:aA):Prop where
 run:∀{K:KF}{H:AH}{S:LS}{lo b:Nat}{vn vw vl v:AV}{L:List (List (List Nat))}{ns:List (List Nat)}{ql:List Nat}{l0:Nat}{er:Err},Dn lo b H S vn vw vl L ns ql l0 er→rvS S (fi lo) v s→s.wg→Rm L ns ql l0 s.sz→Ob lo b S vn vw vl L (kS n L l0 (ns,er) s).1 ql l0 (kS n L l0 (ns,er) s).2 K→F (.ptr b 0) v H K
theorem b22{R:fE}{n:Nat}{names:List (List Nat)}{bd:List aA}{thn:List al}(hA:R.1=f46)(hS:∀s∈bd,DSs R.2.1 n s)(hX:Qc R.2.2 n thn):Oc (Fp R) (n+1) names bd thn:=by
 refine⟨λ{K H S lo b vn vw vl v1 v2 v3 L ns ql l0 er} hD hb hn ht hwb hwt hl hR hK=>?_⟩;obtain⟨r1,r2,r3,r4⟩:=id hR;have hbl:=A7 bd;have hLm:(L.map List.length).length=L.length:=List.length_map _;show Fo R K (Ng R K) (.ptr b 0) v1 v2 v3 H;unfold Fo;refine hD.d.ld hD.m (j:=0) rfl ?_;refine hD.d.fn.len ?_;rw[aK,List.length_map];refine hD.d.ld hD.m (j:=1) rfl ?_;refine hD.d.ld hD.m (j:=1) rfl ?_;refine hD.d.fw.len ?_;have Qd:((L.map List.length)++[ns.length]).length=(L.map List.length).length+1:=by rw[List.length_append,List.length_singleton]
 rw[aK,List.length_map,Qd];simp only[kW,dX];refine w0 (by omega) (by omega) ?_;have ep:(((L.map List.length).length+1:Nat):Int)-1=((L.map List.length).length:Int):=by omega
 rw[ep];refine ze (k:=λ_=>True) hD.m hD.d.fw (by omega) trivial ?_;show Fm R K (wA R K G.NL) (.ptr b 0) v1 v2 v3 ((L.flatten++ns).length:Int) (ns.length:Int) H;unfold Fm;rw[hA];refine agb hD.m hD.d hD.l (uC hn) hn.2 (by rw[List.length_append];omega) (by omega) (by omega) λH1 S1 Qb vw1 vl1 m1 st1 d1=>?_;rw[aj];have D1:Dn lo b H1 S1 Qb vw1 vl1 L (ns++names) ql l0 er:=by
  refine⟨m1,?_,Nat.le_trans hD.l st1.n⟩;rw[List.length_append,←List.append_assoc];exact d1
 have fin:∀(H':AH) (S':LS) (cL dm dv:AV) (er':Err),er'=cH er (kB (n+1) L l0 (ns++names) bd thn)→Dn lo b H' S' cL dm dv L (bd.foldl (kS n L l0) (ns++names,er)).1 ql l0 er'→iB b S S' vn vw vl cL dm dv→wz R K (.ptr b 0) ((L.flatten++ns).length:Int) (ns.length:Int) H':=λH' S' cL dm dv er' he D3 bP=>by
  unfold wz;obtain⟨x,ex,hx⟩:=wO n L l0 bd (ns++names,er);have d3:=D3.d;have e3:L.flatten++(bd.foldl (kS n L l0) (ns++names,er)).1=(L.flatten++ns)++(names++x):=by
   rw[ex];simp only[List.append_assoc]
  rw[e3]at d3;refine d3.cut (q':=ns.length) D3.m (by omega) λH4 S4 lk m4 eZ d4=>?_;subst he;exact hK H4 S4 lk dm dv m4 (bP.trans eZ) ⟨m4,d4,Nat.le_trans D3.l eZ.n⟩
 have loop:∀(q i:Nat) (cL dm dv:AV) (H':AH) (S':LS),i≤bd.length→bd.length-i<q→Dn lo b H' S' cL dm dv L ((bd.take i).foldl (kS n L l0) (ns++names,er)).1 ql l0 ((bd.take i).foldl (kS n L l0) (ns++names,er)).2→iB b S S' vn vw vl cL dm dv→wA R K q (.ptr b 0) v1 v3 ((L.flatten++ns).length:Int) (ns.length:Int) (i:Int) H':=by
  intro q
  induction q with
  |zero=>intro i _ _ _ _ _ _ h;omega
  |succ q ih=>
   intro i cL dm dv H' S' hi hq D2 hst;show Fl R K (wA R K q) (Fk R K (Fj R K (wz R K)) (wz R K)) (.ptr b 0) v1 v3 ((L.flatten++ns).length:Int) (ns.length:Int) (i:Int) H';unfold Fl;have B2:=zd hb (hD.low hst);refine B2.choose_spec.1.len ?_;rw[aK,cz];refine bR (λg=>?_) (λg=>?_)
   ·have hil:i<bd.length:=by omega
    obtain⟨s,hs⟩:∃s,bd[i]? = some s:=⟨_,List.getElem?_eq_getElem hil⟩
    have hsm:=List.mem_of_getElem? hs;obtain⟨cl,s1,g1⟩:=B2;refine s1.load D2.m hil ?_;obtain⟨x,ex,hx⟩:=wO n L l0 (bd.take i) (ns++names,er);have t1:=NX hs;have t2:=zc bd (i+1);have hnl:((bd.take i).foldl (kS n L l0) (ns++names,er)).1.length+s.sz≤ns.length+names.length+dO bd:=by
     rw[ex,List.length_append,List.length_append];omega
    refine(hS s hsm).run D2 ⟨_,rfl,g1 i s hs⟩ (Bb hwb hs) ⟨by omega,by omega,by omega,by omega⟩ λH3 S3 jP jQ jR m3 bP D3=>?_;rw[aj,dh,dX];refine w0 (by omega) (by omega) ?_;refine ih (i+1) jP jQ jR H3 S3 (by omega) (by omega) ?_ (hst.trans bP);rw[rn hs,List.foldl_append];exact D3
   ·have e:i=bd.length:=by omega
    subst e;rw[List.take_length]at D2;unfold Fk;have T2:=lZ ht (hD.low hst);refine T2.choose_spec.1.len ?_;have e0:Int.ofNat 0=((0:Nat):Int):=rfl;rw[aK,cz,e0];have ao5:=Gj n L l0 bd (ns++names) er;refine bR (λg=>?_) (λg=>?_)
    ·have hne:thn≠[]:=λq=>by subst q;simp at g
     have hl0:=hl hne;obtain⟨l1,rfl⟩:∃l1,l0=l1+1:=⟨l0-1,by omega⟩
     refine D2.d.SL (f:=λz=>Int.sub z (.ofNat 1)) (q':=l1) D2.m (by omega) (by rw[kW,dX];omega) (by omega) λH3 S3 m3 bP d3=>?_;have D3:Dn lo b H3 S3 cL dm dv L (bd.foldl (kS n L (l1+1)) (ns++names,er)).1 ql l1 (bd.foldl (kS n L (l1+1)) (ns++names,er)).2:=⟨m3,d3,Nat.le_trans D2.l bP.n⟩
     unfold Fj;obtain⟨x,ex,hx⟩:=wO n L (l1+1) bd (ns++names,er);have hnl:(bd.foldl (kS n L (l1+1)) (ns++names,er)).1.length≤ns.length+names.length+dO bd:=by
      rw[ex,List.length_append,List.length_append];omega
     refine hX.run D3 (lZ ht (hD.low (hst.trans bP))) hwt ⟨by omega,by omega,by omega,by omega⟩ λH4 S4 lk lh lj m4 eZ D4=>?_;rw[aj];refine D4.d.SL (f:=λz=>Int.add z (.ofNat 1)) (q':=l1+1) D4.m (by omega) (by rw[dh,dX];omega) (by omega) λH5 S5 m5 rp d5=>?_;refine fin H5 S5 lk lh lj _ ?_ ⟨m5,d5,Nat.le_trans D4.l rp.n⟩ (hst.trans (bP.trans (eZ.trans rp)));rw[ao5,kB,fm]
    ·have hno:thn=[]:=by
      cases thn with
      |nil=>rfl
      |cons a t=>exact absurd (by simp only[List.length_cons];omega) g
     subst hno;refine fin H' S' cL dm dv _ ?_ D2 hst;rw[ao5,kB,bG,jL]
 have gu:G.NL=1000000:=rfl;generalize G.NL=eW at gu ⊢;exact loop eW 0 Qb vw1 vl1 H1 S1 (Nat.zero_le _) (by omega) D1 st1
structure DLp(F:AV→AV→AV→AV→AH→KF→Prop)(n:Nat)(names:List (List Nat))(bd:List aA)(thn:List al):Prop where
 run:∀{K:KF}{H:AH}{S:LS}{lo b:Nat}{vn vw vl v1 v2 v3:AV}{L:List (List (List Nat))}{ns:List (List Nat)}{ql:List Nat}{l0:Nat}{er:Err},Dn lo b H S vn vw vl L ns ql l0 er→fY S (fi lo) v1 bd→kl S (fi lo) v2 names→oq S (fi lo) v3 thn→kv bd→jK thn→Rm L ns ql l0 (names.length+dO bd+bB thn+1)→Ob lo b S vn vw vl L ns ql l0 (cH er (kB n L (l0+1) (ns++names) bd thn)) K→F (.ptr b 0) v1 v2 v3 H K
theorem arS{R:nO}{n:Nat}{names:List (List Nat)}{bd:List aA}{thn:List al}(hB:Oc R n names bd thn):DLp (FN R) n names bd thn:=by
 refine⟨λ{K H S lo b vn vw vl v1 v2 v3 L ns ql l0 er} hD hb hn ht hwb hwt hR hK=>?_⟩;obtain⟨r1,r2,r3,r4⟩:=id hR;show FM R K (FL R K) (.ptr b 0) v1 v2 v3 H;unfold FM;refine hD.d.SL (f:=λz=>Int.add z (.ofNat 1)) (q':=l0+1) hD.m (by omega) (by rw[dh,dX];omega) (by omega) λH1 S1 m1 st1 d1=>?_;have D1:Dn lo b H1 S1 vn vw vl L ns ql (l0+1) er:=⟨m1,d1,Nat.le_trans hD.l st1.n⟩
 unfold FL;refine hB.run D1 (zd hb (hD.low st1)) (A9 hn (hD.low st1)) (lZ ht (hD.low st1)) hwb hwt (λ_=>by omega) ⟨by omega,by omega,by omega,by omega⟩ λH2 S2 pW pX pY m2 st2 D2=>?_;rw[aj];refine D2.d.SL (f:=λz=>Int.sub z (.ofNat 1)) (q':=l0) D2.m (by omega) (by rw[kW,dX];omega) (by omega) λH3 S3 m3 bP d3=>?_;exact hK H3 S3 pW pX pY m3 (st1.trans (st2.trans bP)) ⟨m3,d3,Nat.le_trans D2.l bP.n⟩
end
end Go.Proofs.YtcedghechlgecaaDoor
namespace Go.X
section
variable {H:AH}{S S':LS}
theorem oq.part{Q:Nat→Prop}{v:AV}{a b:List al}{lo hi:Option AV}{i j:Nat}{k:AV→Prop}(h:oq S Q v a)(hij:i≤j)(hj:j≤a.length)(hlo:lo=some (.int 0 (i:Int))∨lo=none∧i=0)(hhi:hi=some (.int 0 (j:Int))∨hi=none∧j=a.length)(hb:b=(a.drop i).take (j-i))
  (hk:∀v',oq S Q v' b→k v'):fx 7 v lo hi none k:=by
 obtain⟨cl,g1,g2⟩:=h;have hbl:b.length=j-i:=by rw[hb,List.length_take,List.length_drop];omega
 have hbg:∀n e,b[n]? = some e→a[i+n]? = some e:=λn e he=>by
  have hn:=(List.getElem?_eq_some_iff.1 he).1;rw[hb,List.getElem?_take,if_pos (by omega),List.getElem?_drop]at he;exact he
 rcases g1 with⟨rfl,e0⟩|⟨bk,o,c,ex,cs,m,rfl,q1,q2,q3,q4,q5⟩
 ·have ei:i=0:=by omega
  have ej:j=0:=by omega
  subst ei;subst ej;have:fx 7 .ab lo hi none k↔k .ab:=by
   rcases hlo with rfl|⟨rfl,_⟩<;>rcases hhi with rfl|⟨rfl,_⟩<;>exact Iff.rfl
  rw[this];exact hk _ ⟨λ_=>[],.inl ⟨rfl,by omega⟩,λn e he=>by
   have:=(List.getElem?_eq_some_iff.1 he).1;omega⟩
 ·have hle:i*7+(j-i)*7≤a.length*7:=by rw[←Nat.add_mul];exact Nat.mul_le_mul_right _ (by omega)
  refine ahM hij (by omega) hlo hhi (hk _ ⟨λn=>cl (i+n),.inr ⟨bk,o+i*7,c-i,ex,cs,m,by rw[hbl],q1,q2,by omega,by rw[hbl];omega,λn hn=>?_⟩,λn e he=>g2 _ e (hbg n e he)⟩);have:=q5 (i+n) (by omega);rw[Nat.add_mul,←Nat.add_assoc]at this;exact this
theorem jS{α:Type}(f:α→Err)(l:List α)(i:Nat){e:α}(h:l[i]? = some e):bG f (l.take (i+1))=cH (bG f (l.take i)) (f e):=by
 rw[rn h,oJ];show cH _ (cH (f e) none)=_;rw[jL]
theorem wP{α:Type}(f:α→Err)(e:α):bG f [e]=f e:=jL _
theorem Hg(f:Nat→Err)(i:Nat):bG f (List.range (i+1))=cH (bG f (List.range i)) (f i):=by
 rw[List.range_succ,oJ,wP]
theorem Dn.add{lo b:Nat}{vn vw vl:AV}{L:List (List (List Nat))}{ns nm:List (List Nat)}{ql:List Nat}{l0:Nat}{er:Err}(m:Mem H S)(d:gQ lo b S vn vw vl (L.flatten++ns++nm) (L.map List.length++[ns.length+nm.length]) (ql++[l0]) er)(l:lo≤S.n):Dn lo b H S vn vw vl L (ns++nm) ql l0 er:=by
 refine⟨m,?_,l⟩;rw[List.length_append,←List.append_assoc];exact d
end
end Go.X
namespace Go.Proofs.YtcedghechlgecaaDoor
open Go Go.X Go.Proofs.YtcedghechlgecaaDoor.G
section
variable {H:AH}{S:LS}{K:KF}
section
variable {lo b x n k a:Nat}{vn vw vl wn wl wb:AV}{L:List (List (List Nat))}{ns nm:List (List Nat)}{ql:List Nat}{l0:Nat}{er:Err}{l:List al}{bs:List (List aA)}{R:cA}
theorem arT(hB:∀bd∈bs,Oc R.1 n [] bd [])(hD:Dn lo b H S vn vw vl L ns ql l0 er)(hx:S.ob x=.ce [.int 0 (k:Int),.int 0 (a:Int),wn,wl,wb] 0)(hxl:x<S.n)(hxo:¬tq b vn vw vl x)(B0:At S (fi lo) wb bs)(uE:oI bs)(hR:Rm L ns ql l0 (fI bs))(hK:Ob lo b S vn vw vl L ns ql l0 (cH er (bG (λb=>kB n L l0 ns b []) bs)) K):∀eW,1000000≤eW→ri R K eW (.ptr b 0) (.ptr x 0) 0 H:=by
 intro eW gu;have hbl:=oH bs;obtain⟨r1,r2,r3,r4⟩:=id hR;have bx:∀{S2:LS}{pW pX pY:AV},iB b S S2 vn vw vl pW pX pY→S2.ob x=.ce [.int 0 (k:Int),.int 0 (a:Int),wn,wl,wb] 0:=λst=>(st.ob _ hxl hxo).trans hx;have loop:∀(q i:Nat) (cL dm dv:AV) (H':AH) (S':LS),i≤bs.length→bs.length-i<q→Dn lo b H' S' cL dm dv L ns ql l0 (cH er (bG (λb=>kB n L l0 ns b []) (bs.take i)))→iB b S S' vn vw vl cL dm dv→ri R K q (.ptr b 0) (.ptr x 0) (i:Int) H':=by
  intro q
  induction q with
  |zero=>intro i _ _ _ _ _ _ h;omega
  |succ q ih=>
   intro i cL dm dv H' S' hi hq D2 hst;show Fy R K (ri R K q) (.ptr b 0) (.ptr x 0) (i:Int) H';unfold Fy;have B2:=mV B0 (hD.low hst);refine fW (bx hst) D2.m (j:=4) rfl ?_;refine B2.choose_spec.1.len ?_;rw[aK,cz];refine bR (λg=>?_) (λg=>?_)
   ·have hil:i<bs.length:=by omega
    obtain⟨bd,hbd⟩:∃bd,bs[i]? = some bd:=⟨_,List.getElem?_eq_getElem hil⟩
    have hsz:=lY hbd;refine fW (bx hst) D2.m (j:=4) rfl ?_;obtain⟨bv,s1,g1⟩:=B2;refine s1.uB D2.m hil ?_;refine(hB bd (List.mem_of_getElem? hbd)).run D2 (g1 i bd hbd) NZ He (qy uE hbd) trivial (λh=>absurd rfl h) (hR.le (by simp only[List.length_nil,bB];omega)) λH3 S3 jP jQ jR m3 bP D3=>?_;rw[aj,dh,dX];refine w0 (by omega) (by omega) ?_;refine ih (i+1) jP jQ jR H3 S3 (by omega) (by omega) ?_ (hst.trans bP);rw[jS _ _ _ hbd,←fm];rw[List.append_nil]at D3;exact D3
   ·have e:i=bs.length:=by omega
    subst e;rw[List.take_length]at D2;exact hK H' S' cL dm dv D2.m hst D2
 refine loop eW 0 vn vw vl H S (Nat.zero_le _) (by omega) ?_ iB.refl;simp only[List.take_zero,bG,jL];exact hD
theorem arU(hX:∀l',bB l'≤bB l→Qc R.2.2.2.1 n l')(hB:∀bd∈bs,Oc R.1 n [] bd [])(hD:Dn lo b H S vn vw vl L ns ql l0 er)(hx:S.ob x=.ce [.int 0 (k:Int),.int 0 (a:Int),wn,wl,wb] 0)(hxl:x<S.n)(hxo:¬tq b vn vw vl x)(L0:oq S (fi lo) wl l)(B0:At S (fi lo) wb bs)(ou:jK l)(uE:oI bs)(hR:Rm L ns ql l0 (bB l+fI bs))(hK:Ob lo b S vn vw vl L ns ql l0 (cH er (bG (λi=>cH (bG (kE n L ns) (l[i]?.toList)) (kB n L l0 ns (bs[i]?.getD []) [])) (List.range bs.length))) K):∀eW,1000000≤eW→pM R K eW (.ptr b 0) (.ptr x 0) 0 H:=by
 intro eW gu;have hbl:=oH bs;have hll:=nB l;obtain⟨r1,r2,r3,r4⟩:=id hR;have bx:∀{S2:LS}{pW pX pY:AV},iB b S S2 vn vw vl pW pX pY→S2.ob x=.ce [.int 0 (k:Int),.int 0 (a:Int),wn,wl,wb] 0:=λst=>(st.ob _ hxl hxo).trans hx;have loop:∀(q i:Nat) (cL dm dv:AV) (H':AH) (S':LS),i≤bs.length→bs.length-i<q→Dn lo b H' S' cL dm dv L ns ql l0 (cH er (bG (λi=>cH (bG (kE n L ns) (l[i]?.toList)) (kB n L l0 ns (bs[i]?.getD []) [])) (List.range i)))→iB b S S' vn vw vl cL dm dv→pM R K q (.ptr b 0) (.ptr x 0) (i:Int) H':=by
  intro q
  induction q with
  |zero=>intro i _ _ _ _ _ _ h;omega
  |succ q ih=>
   intro i cL dm dv H' S' hi hq D2 hst;show Fx R K (wD R K (wC R K (pM R K q))) (.ptr b 0) (.ptr x 0) (i:Int) H';unfold Fx;have B2:=mV B0 (hD.low hst);refine fW (bx hst) D2.m (j:=4) rfl ?_;refine B2.choose_spec.1.len ?_;rw[aK,cz];refine bR (λg=>?_) (λg=>?_)
   rotate_left
   ·have e:i=bs.length:=by omega
    subst e;exact hK H' S' cL dm dv D2.m hst D2
   have hil:i<bs.length:=by omega
   obtain⟨bd,hbd⟩:∃bd,bs[i]? = some bd:=⟨_,List.getElem?_eq_getElem hil⟩
   have hsz:=lY hbd;have blk:∀(H3:AH) (S3:LS) (jP jQ jR:AV) (zg:Err),zg=cH (cH er (bG (λi=>cH (bG (kE n L ns) (l[i]?.toList)) (kB n L l0 ns (bs[i]?.getD []) [])) (List.range i))) (bG (kE n L ns) (l[i]?.toList))→Dn lo b H3 S3 jP jQ jR L ns ql l0 zg→iB b S S3 vn vw vl jP jQ jR→wD R K (wC R K (pM R K q)) (.ptr b 0) (.ptr x 0) (i:Int) H3:=λH3 S3 jP jQ jR zg he3 D3 bP=>by
    unfold wD;refine fW (bx bP) D3.m (j:=4) rfl ?_;obtain⟨bv,s1,g1⟩:=mV B0 (hD.low bP);refine s1.uB D3.m hil ?_;refine(hB bd (List.mem_of_getElem? hbd)).run D3 (g1 i bd hbd) NZ He (qy uE hbd) trivial (λh=>absurd rfl h) (hR.le (by simp only[List.length_nil,bB];omega)) λH4 S4 lk lh lj m4 eZ D4=>?_;rw[aj];unfold wC;rw[dh,dX];refine w0 (by omega) (by omega) ?_;refine ih (i+1) lk lh lj H4 S4 (by omega) (by omega) ?_ (bP.trans eZ);rw[Hg,hbd,Option.getD_some,←fm,←fm,←he3];rw[List.append_nil]at D4;exact D4
   have L2:=lZ L0 (hD.low hst);refine fW (bx hst) D2.m (j:=3) rfl ?_;refine L2.choose_spec.1.len ?_;rw[aK,cz];refine bR (λg2=>?_) (λg2=>?_)
   ·have A5:i<l.length:=by omega
    obtain⟨e,he⟩:∃e,l[i]? = some e:=⟨_,List.getElem?_eq_getElem A5⟩
    have hsz2:=j2 he;refine fW (bx hst) D2.m (j:=3) rfl ?_;rw[dh,dX];refine w0 (by omega) (by omega) ?_;have hpart:[e]=(l.drop i).take (i+1-i):=by
     rw[Nat.add_sub_cancel_left,List.take_one,List.head?_drop,he];rfl
    refine L2.part (j:=i+1) (b:=[e]) (by omega) (by omega) (.inl rfl) (.inl (by simp)) hpart λv' L3=>?_;refine(hX [e] (by simp only[bB];omega)).run D2 L3 ⟨qx ou he,trivial⟩ (hR.le (by simp only[bB];omega)) λH3 S3 jP jQ jR m3 bP D3=>?_;rw[aj];refine blk H3 S3 jP jQ jR _ ?_ D3 (hst.trans bP);rw[he];rfl
   ·have hno:l[i]? = none:=List.getElem?_eq_none (by omega);refine blk H' S' cL dm dv _ ?_ D2 hst;rw[hno];show _=cH _ none;rw[jL]
 refine loop eW 0 vn vw vl H S (Nat.zero_le _) (by omega) ?_ iB.refl;simp only[List.range_zero,bG,jL];exact hD
end
end
section
variable {H:AH}{S:LS}{K:KF}
theorem arV{R:cA}{n k a:Nat}{nm:List (List Nat)}{l:List al}{bs:List (List aA)}(hC:R.2.1=f25)(hA:R.2.2.1=f46)(h68:R.2.2.2.2.1=f68)(h69:R.2.2.2.2.2.1=f69)(hX:∀l',bB l'≤bB l→Qc R.2.2.2.1 n l')(hP:∀e∈l,∃n',n=n'+1∧DPa R.2.2.2.2.2.2.1 n' e)(hB:∀bd∈bs,Oc R.1 n [] bd [])(hL:∀bd∈bs,∀thn,bB thn≤bB l→∀nm',nm'.length≤nm.length→DLp R.2.2.2.2.2.2.2 n nm' bd thn):DSs (FA R) (n+1) (.mk k a nm l bs):=by
 refine⟨λ{K H S lo b vn vw vl v L ns ql l0 er} hD hv hw hR hK=>?_⟩;obtain⟨c,rfl,e1⟩:=hv;simp only[aA.sz]at hR;simp only[aA.wg]at hw;obtain⟨w5,w1,w2,ou,uE⟩:=hw;obtain⟨r1,r2,r3,r4⟩:=id hR;have hbl:=oH bs;have hll:=nB l;have hLm:(L.map List.length).length=L.length:=List.length_map _;show Fz R K (Ft R K (Fs R K (wB R K (s9 R K))) (wB R K (s9 R K))) (Fv R K) (Fw R K) (wE R K (pM R K G.NL) (ri R K G.NL)) (.ptr b 0) (.agg c) H;unfold Fz;have gu:G.NL=1000000:=rfl;generalize G.NL=eW at gu ⊢;refine Hf hD.m e1.ones λH1 S1 m1 x1 o1 n1=>?_;have D1:=hD.ext m1 x1;have hnew:=hD.new;obtain⟨wn,wl,wb,rfl,N0,L0,B0⟩:=e1.out;have uT:∀x,x<lo→S1.ob x=S.ob x:=λx hx=>x1.ob x (Nat.lt_of_lt_of_le hx hD.l);have N1:=A9 N0 uT;have L1:=lZ L0 uT;have B1:=mV B0 uT;have hxl:S.n<S1.n:=by omega
 have bx:∀{S2:LS}{pW pX pY:AV},iB b S1 S2 vn vw vl pW pX pY→S2.ob S.n=.ce [.int 0 (k:Int),.int 0 (a:Int),wn,wl,wb] 0:=λst=>(st.ob _ hxl hnew).trans o1;have i1:Int.ofNat 1=((1:Nat):Int):=rfl;have i12:Int.ofNat 12=((12:Nat):Int):=rfl;have i2:Int.ofNat 2=((2:Nat):Int):=rfl;have i4:Int.ofNat 4=((4:Nat):Int):=rfl;have i5:Int.ofNat 5=((5:Nat):Int):=rfl;have i6:Int.ofNat 6=((6:Nat):Int):=rfl;have i7:Int.ofNat 7=((7:Nat):Int):=rfl;have i8:Int.ofNat 8=((8:Nat):Int):=rfl;have i9:Int.ofNat 9=((9:Nat):Int):=rfl;simp only[kS]at hK;refine fW o1 m1 (j:=0) rfl ?_;rw[aK,aZ,i1];by_cases k1:k=1
 ·rw[decide_eq_true (by omega),aH];refine fW o1 m1 (j:=1) rfl ?_;rw[aK,h68];have hnm:=w1 (.inl k1);refine agc (n:=1) (a:=a) m1 D1.d (by omega) (by omega) λH2 S2 pW pX pY m2 st2 d2=>?_;rw[aj];have D2:Dn lo b H2 S2 pW pX pY L ns ql l0 (cH er (qA ns nm a)):=⟨m2,by unfold qA;rw[hnm];exact d2,Nat.le_trans D1.l st2.n⟩
  refine fW (bx st2) m2 (j:=3) rfl ?_;refine(hX l (Nat.le_refl _)).run D2 (lZ L1 (D1.low st2)) ou (hR.le (by omega)) λH3 S3 jP jQ jR m3 bP D3=>?_;rw[aj];unfold Fv;have nW:=st2.trans bP;refine fW (bx nW) m3 (j:=2) rfl ?_;rw[hA];refine agb m3 D3.d D3.l (uC (A9 N1 (D1.low nW))) N0.2 (by rw[List.length_append];omega) (by omega) (by omega) λH4 S4 lk lh lj m4 eZ d4=>?_;rw[if_pos k1]at hK;refine hK H4 S4 lk lh lj m4 (x1.tt.trans (nW.trans eZ)) (Dn.add m4 ?_ (Nat.le_trans D3.l eZ.n));rw[←fm];exact d4
 rw[decide_eq_false (by omega),aI,aZ,i12];by_cases k12:k=12
 ·rw[decide_eq_true (by omega),aH];refine fW o1 m1 (j:=1) rfl ?_;rw[aK,h68];have hnm:=w1 (.inr k12);refine agc (n:=1) (a:=a) m1 D1.d (by omega) (by omega) λH2 S2 pW pX pY m2 st2 d2=>?_;rw[aj];have D2:Dn lo b H2 S2 pW pX pY L ns ql l0 (cH er (qA ns nm a)):=⟨m2,by unfold qA;rw[hnm];exact d2,Nat.le_trans D1.l st2.n⟩
  refine fW (bx st2) m2 (j:=2) rfl ?_;rw[hA];refine agb m2 D2.d D2.l (uC (A9 N1 (D1.low st2))) N0.2 (by rw[List.length_append];omega) (by omega) (by omega) λH3 S3 jP jQ jR m3 bP d3=>?_;rw[aj];unfold Fw;have nW:=st2.trans bP;have D3:Dn lo b H3 S3 jP jQ jR L (ns++nm) ql l0 (cH er (qA ns nm a)):=Dn.add m3 d3 (Nat.le_trans D2.l bP.n);refine fW (bx nW) m3 (j:=3) rfl ?_;refine(hX l (Nat.le_refl _)).run D3 (lZ L1 (D1.low nW)) ou ⟨by rw[List.length_append];omega,by omega,by omega,by omega⟩ λH4 S4 lk lh lj m4 eZ D4=>?_;rw[aj];rw[if_neg k1,if_pos k12]at hK;refine hK H4 S4 lk lh lj m4 (x1.tt.trans (nW.trans eZ)) ?_;rw[←fm];exact D4
 rw[decide_eq_false (by omega),aI,aZ,i2];by_cases k2:k=2
 ·rw[decide_eq_true (by omega),aH];rw[if_neg k1,if_neg k12,if_pos k2]at hK;obtain⟨e,t,rfl⟩:∃e t,l=e::t:=by
   cases l with
   |nil=>exact absurd rfl (w2 k2)
   |cons e t=>exact⟨e,t,rfl⟩
  obtain⟨n',rfl,hPa⟩:=hP e (List.mem_cons_self ..);refine fW o1 m1 (j:=3) rfl ?_;simp only[jy];have V1:=L1;obtain⟨cl,s1,g1⟩:=V1;have f1:=g1 0 e rfl;refine s1.load (i:=0) m1 (by simp) ?_;refine rY m1 fg rfl f1.len f1.ones λH2 S2 m2 x2 o2 n2=>?_;have D2:=D1.ext m2 x2;have hnew2:¬tq b vn vw vl S1.n:=D1.new;obtain⟨ke,ae,nn,s,op,l',fs⟩:=e;have f2:RE S2 (fi lo) (cl 0) (.mk ke ae nn s op l' fs):=f1.go (λx hx=>x2.ob x (Nat.lt_of_lt_of_le hx D1.l)) λ_ h=>h;obtain⟨N4,wf',c1,h8,L2',F2'⟩:=f2.out;have hcl:(cl 0).length=7:=f1.len;have wge:=ou.1;have nE:nP L ns (.mk ke ae nn s op l' fs)=if ke=6∧mu L ns s=false then some (14,ae) else none:=rfl
  simp only[bB,al.sz]at hR r1 r2 r3 r4;have rest:∀(H3:AH) (S3:LS) (jP jQ jR:AV) (zg:Err),zg=cH er (cH (nP L ns (.mk ke ae nn s op l' fs)) (kE (n'+1) L ns (.mk ke ae nn s op l' fs)))→Dn lo b H3 S3 jP jQ jR L ns ql l0 zg→iB b S1 S3 vn vw vl jP jQ jR→s9 R K (.ptr b 0) (.ptr S.n 0) H3:=λH3 S3 jP jQ jR zg he3 D3 bP=>by
   unfold s9;refine fW (bx bP) D3.m (j:=3) rfl ?_;refine(lZ L1 (D1.low bP)).part (i:=1) (j:=t.length+1) (b:=t) (by omega) (by simp) (.inl rfl) (.inr ⟨rfl,by simp⟩) (by simp) λv' L3=>?_;refine(hX t (by simp only[bB];omega)).run D3 L3 ou.2 (hR.le (by omega)) λH4 S4 lk lh lj m4 eZ D4=>?_;rw[aj];refine hK H4 S4 lk lh lj m4 (x1.tt.trans (bP.trans eZ)) ?_;rw[he3]at D4;have e4:cH er (cH (bG (nP L ns) ((al.mk ke ae nn s op l' fs::t).take 1)) (bG (kE (n'+1) L ns) (al.mk ke ae nn s op l' fs::t)))=cH (cH er (cH (nP L ns (.mk ke ae nn s op l' fs)) (kE (n'+1) L ns (.mk ke ae nn s op l' fs)))) (bG (kE (n'+1) L ns) t):=by
    show cH er (cH (bG (nP L ns) [al.mk ke ae nn s op l' fs]) (cH (kE (n'+1) L ns (.mk ke ae nn s op l' fs)) (bG (kE (n'+1) L ns) t)))=_;rw[wP];simp only[fm]
   show Dn lo b H4 S4 lk lh lj L ns ql l0 _;rw[e4];exact D4
  have parts:∀(H3:AH) (S3:LS) (jP jQ jR:AV) (zg:Err),zg=cH er (nP L ns (.mk ke ae nn s op l' fs))→Dn lo b H3 S3 jP jQ jR L ns ql l0 zg→iB b S2 S3 vn vw vl jP jQ jR→wB R K (s9 R K) (.ptr b 0) (.ptr S.n 0) (.ptr S1.n 0) H3:=λH3 S3 jP jQ jR zg he3 D3 bP=>by
   unfold wB;have o3:=(bP.ob _ (by omega) hnew2).trans o2;have nW:=x2.tt.trans bP;have o3':=o3;rw[c1]at o3';simp only[aM,Nat.zero_add];refine az D3.m o3' (v:=.int 0 (ke:Int)) rfl ?_;rw[aK,aZ,i6];by_cases k6:ke=6
   ·rw[decide_eq_true (by omega)];simp only[Bool.not_true,aI];refine rest H3 S3 jP jQ jR _ ?_ D3 nW;rw[he3];obtain⟨q1,q2⟩:=wge.1 k6;subst q1 q2;have ek:kE (n'+1) L ns (.mk ke ae nn s op [] [])=if ke=6∧mu L ns s=false∧s∉builtins then some (14,ae) else none:=by
     rw[kE];simp only[bG,jL]
    rw[ek,nE];by_cases ha:mu L ns s=false
    ·rw[if_pos (show ke=6∧mu L ns s=false from⟨k6,ha⟩),qz]
    ·rw[if_neg (show ¬(ke=6∧mu L ns s=false)from λg=>ha g.2),if_neg (λg=>ha g.2.1),eP]
   ·rw[decide_eq_false (by omega)];simp only[Bool.not_false,aH];refine gH D3.m o3 hcl ?_;refine hPa.run rfl D3 ⟨_,rfl,f2.go (λx hx=>D2.low bP x hx) λ_ h=>h⟩ wge (hR.le (by simp only[al.sz];omega)) λH4 S4 lk lh lj m4 eZ D4=>?_;rw[aj];refine rest H4 S4 lk lh lj _ ?_ D4 (nW.trans eZ);rw[he3,kE,if_neg (λg=>k6 g.1),eP,fm]
  unfold Ft;have o2':=o2;rw[c1]at o2';have e0':∀{z:Prop},¬(ke=6∧mu L ns s=false)→er=cH er (nP L ns (.mk ke ae nn s op l' fs)):=λhno=>by
   rw[nE,if_neg hno,jL]
  simp only[aM,bV,Nat.zero_add];refine az m2 o2' (v:=.int 0 (ke:Int)) rfl ?_;rw[aK,aZ,i6];by_cases k6:ke=6
  ·rw[decide_eq_true (by omega),aH];refine az m2 D2.d.ob (v:=vn) rfl ?_;refine az m2 o2' (v:=ai s) rfl ?_;rw[hC];refine aga m2 (D2.d.fn.rd m2 (Q:=λ_=>True) λ_ _ _=>trivial) D2.d.n8 h8 (by rw[List.length_append];omega) ?_;rw[aj,aN];by_cases h1:s∈L.flatten++ns
   ·rw[decide_eq_true h1];simp only[Bool.not_true,aI];exact parts H2 S2 vn vw vl er (e0' (z:=True) λg=>by have:=g.2;unfold mu at this;rw[decide_eq_true h1]at this;cases this) D2 iB.refl
   rw[decide_eq_false h1];simp only[Bool.not_false,aH];unfold Fs;simp only[aM,Nat.zero_add];refine az m2 o2' (v:=.int 0 (ae:Int)) rfl ?_;rw[aK,h69];refine SK (c:=14) (a:=ae) m2 D2.d (by omega) λH3 S3 jP jQ jR m3 bP d3=>?_;rw[aj];refine parts H3 S3 jP jQ jR _ ?_ ⟨m3,d3,Nat.le_trans D2.l bP.n⟩ bP;rw[nE,if_pos ⟨k6,by unfold mu;exact decide_eq_false h1⟩]
  ·rw[decide_eq_false (by omega),aI];exact parts H2 S2 vn vw vl er (e0' (z:=True) λg=>k6 g.1) D2 iB.refl
 rw[decide_eq_false (by omega),aI];rw[if_neg k1,if_neg k12,if_neg k2]at hK;by_cases k67:k=6∨k=7
 ·rw[if_neg (by omega),if_neg (by omega),if_pos k67]at hK;have hone:=w5 (by omega);obtain⟨bd,rfl⟩:∃bd,bs=[bd]:=List.length_eq_one_iff.1 hone;have go:wE R K (pM R K eW) (ri R K eW) (.ptr b 0) (.ptr S.n 0) (k:Int) true H1:=by
   unfold wE;rw[aH];refine fW o1 m1 (j:=2) rfl ?_;refine N1.1.len ?_;rw[aK];refine fW o1 m1 (j:=1) rfl ?_;rw[aK,h68];simp only[fI]at hR r1 r2 r3 r4;refine agc (n:=nm.length) (a:=a) m1 D1.d (by omega) (by omega) λH2 S2 pW pX pY m2 st2 d2=>?_;rw[aj];have D2:Dn lo b H2 S2 pW pX pY L ns ql l0 (cH er (qA ns nm a)):=⟨m2,d2,Nat.le_trans D1.l st2.n⟩
   refine fW (bx st2) m2 (j:=3) rfl ?_;refine(hX l (Nat.le_refl _)).run D2 (lZ L1 (D1.low st2)) ou (hR.le (by omega)) λH3 S3 jP jQ jR m3 bP D3=>?_;rw[aj];have nW:=st2.trans bP;refine fW (bx nW) m3 (j:=4) rfl ?_;obtain⟨bv,s1,g1⟩:=mV B1 (D1.low nW);refine s1.uB (i:=0) m3 (by simp) ?_;refine fW (bx nW) m3 (j:=2) rfl ?_;refine(hL bd (List.mem_singleton_self _) [] (Nat.zero_le _) nm (Nat.le_refl _)).run D3 (g1 0 bd rfl) (A9 N1 (D1.low nW)) He uE.1 trivial (hR.le (by simp only[bB];omega)) λH4 S4 lk lh lj m4 eZ D4=>?_;rw[aj];refine hK H4 S4 lk lh lj m4 (x1.tt.trans (nW.trans eZ)) ?_;show Dn lo b H4 S4 lk lh lj L ns ql l0 _;rw[wP,←fm,←fm];exact D4
  by_cases k6:k=6
  ·rw[aZ,i6,decide_eq_true (by omega),aH];exact go
  ·rw[aZ,i6,decide_eq_false (by omega),aI,aZ,i7,decide_eq_true (by omega)];exact go
 rw[aZ,i6,decide_eq_false (by omega),aI,aZ,i7,decide_eq_false (by omega)];unfold wE;rw[aI,aZ,i5];by_cases k5:k=5
 ·rw[decide_eq_true (by omega),aH];rw[if_neg (by omega),if_pos k5]at hK;have hone:=w5 (by omega);obtain⟨bd,rfl⟩:∃bd,bs=[bd]:=List.length_eq_one_iff.1 hone;simp only[fI]at hR r1 r2 r3 r4;refine fW o1 m1 (j:=3) rfl ?_;refine(hX l (Nat.le_refl _)).run D1 L1 ou (hR.le (by omega)) λH3 S3 jP jQ jR m3 bP D3=>?_;rw[aj];refine fW (bx bP) m3 (j:=4) rfl ?_;obtain⟨bv,s1,g1⟩:=mV B1 (D1.low bP);refine s1.uB (i:=0) m3 (by simp) ?_;refine(hL bd (List.mem_singleton_self _) [] (Nat.zero_le _) [] (Nat.zero_le _)).run D3 (g1 0 bd rfl) NZ He uE.1 trivial (hR.le (by simp only[bB,List.length_nil];omega)) λH4 S4 lk lh lj m4 eZ D4=>?_;rw[aj];refine hK H4 S4 lk lh lj m4 (x1.tt.trans (bP.trans eZ)) ?_;show Dn lo b H4 S4 lk lh lj L ns ql l0 _;rw[List.append_nil]at D4;rw[wP,←fm];exact D4
 rw[decide_eq_false (by omega),aI,aZ,i8];by_cases k8:k=8
 ·rw[decide_eq_true (by omega),aH];rw[if_pos k8]at hK;have hone:=w5 (by omega);obtain⟨bd,rfl⟩:∃bd,bs=[bd]:=List.length_eq_one_iff.1 hone;simp only[fI]at hR r1 r2 r3 r4;refine fW o1 m1 (j:=4) rfl ?_;obtain⟨bv,s1,g1⟩:=B1;refine s1.uB (i:=0) m1 (by simp) ?_;refine fW o1 m1 (j:=3) rfl ?_;refine(hL bd (List.mem_singleton_self _) l (Nat.le_refl _) [] (Nat.zero_le _)).run D1 (g1 0 bd rfl) NZ L1 uE.1 ou (hR.le (by simp only[List.length_nil];omega)) λH4 S4 lk lh lj m4 eZ D4=>?_;rw[aj];refine hK H4 S4 lk lh lj m4 (x1.tt.trans eZ) ?_;show Dn lo b H4 S4 lk lh lj L ns ql l0 _;rw[List.append_nil]at D4;rw[wP];exact D4
 rw[decide_eq_false (by omega),aI,aZ,i9];rw[if_neg k8,if_neg k5,if_neg k67]at hK;by_cases k9:k=9
 ·rw[decide_eq_true (by omega),aH];rw[if_neg (by omega),if_pos k9]at hK;refine D1.d.ld m1 (j:=2) rfl ?_;refine D1.d.ld m1 (j:=2) rfl ?_;refine D1.d.fl.len ?_;have Qd:(ql++[l0]).length=ql.length+1:=by rw[List.length_append,List.length_singleton]
  rw[aK,List.length_map,Qd];simp only[kW,dX];refine w0 (by omega) (by omega) ?_;have ep:((ql.length+1:Nat):Int)-1=(ql.length:Int):=by omega
  rw[ep];refine ze (k:=λ_=>True) m1 D1.d.fl (by omega) trivial ?_;have i0:Int.ofNat 0=((0:Nat):Int):=rfl;rw[aZ,i0];refine bR (λg=>?_) (λg=>?_)
  ·refine fW o1 m1 (j:=1) rfl ?_;rw[aK,h69];refine SK (c:=14) (a:=a) m1 D1.d (by omega) λH3 S3 jP jQ jR m3 bP d3=>?_;rw[aj];rw[if_pos (by omega)]at hK;exact hK H3 S3 jP jQ jR m3 (x1.tt.trans bP) ⟨m3,d3,Nat.le_trans D1.l bP.n⟩
  ·rw[if_neg (by omega),jL]at hK;exact hK H1 S1 vn vw vl m1 x1.tt D1
 rw[decide_eq_false (by omega),aI,aZ,i4];by_cases k4:k=4
 ·rw[decide_eq_true (by omega),aH];rw[if_pos k4]at hK;refine arU hX hB D1 o1 hxl hnew L1 B1 ou uE (hR.le (by omega)) (λH4 S4 lk lh lj m4 eZ D4=>hK H4 S4 lk lh lj m4 (x1.tt.trans eZ) D4) eW (by omega)
 rw[decide_eq_false (by omega),aI];rw[if_neg k4,if_neg k9]at hK;refine fW o1 m1 (j:=3) rfl ?_;refine(hX l (Nat.le_refl _)).run D1 L1 ou (hR.le (by omega)) λH3 S3 jP jQ jR m3 bP D3=>?_;rw[aj];refine arT hB D3 (bx bP) (by have:=bP.n;omega) (λg=>(bP.own _ g).elim hnew (by omega)) (mV B1 (D1.low bP)) uE (hR.le (by omega)) (λH4 S4 lk lh lj m4 eZ D4=>hK H4 S4 lk lh lj m4 (x1.tt.trans (bP.trans eZ)) ?_) eW (by omega);show Dn lo b H4 S4 lk lh lj L ns ql l0 _;rw[←fm];exact D4
end
structure OkC(T:xA)(m:Nat):Prop where
 ex:∀n l,2*n≤m→2*bB l+1<n→Qc T.2.2.1 n l
 pa:∀n (e:al),2*n+1≤m→2*e.sz<n→DPa T.2.2.2.1 n e
 bl:∀n nm bd thn,2*n≤m→2*(dO bd+bB thn)+3<n→Oc T.1 n nm bd thn
 lp:∀n nm bd thn,2*n+1≤m→2*(dO bd+bB thn)+3<n→DLp T.2.2.2.2 n nm bd thn
 st:∀n (s:aA),2*n≤m→2*s.sz+2<n→DSs T.2.1 n s
theorem okS{T:xA}{m:Nat}(O:OkC T m):OkC (Fp (FO T),FA (FP T),zR (FQ T),FK (FR T),FN (FT T)) (m+1) where
 ex n l h1 h2:=by
  obtain⟨n',rfl⟩:∃n',n=n'+1:=⟨n-1,by omega⟩
  exact e48 rfl rfl rfl λe he=>by
   obtain⟨i,hi⟩:=List.mem_iff_getElem?.1 he;have:=j2 hi;exact O.pa n' e (by omega) (by omega)
 pa n e h1 h2:=by
  refine p70 (λk a nn s op l fs he=>?_) λk a nn s op l fs he f hf=>?_
  ·subst he;simp only[al.sz]at h2;exact O.ex n l (by omega) (by omega)
  ·subst he;simp only[al.sz]at h2;obtain⟨n',rfl⟩:∃n',n=n'+1:=⟨n-1,by omega⟩
   refine⟨n',rfl,λps bd hf'=>?_⟩;subst hf';obtain⟨i,hi⟩:=List.mem_iff_getElem?.1 hf;have:=tm hi;simp only[eV.sz]at this;exact O.bl n' ps bd [] (by omega) (by simp only[bB];omega)
 bl n nm bd thn h1 h2:=by
  obtain⟨n',rfl⟩:∃n',n=n'+1:=⟨n-1,by omega⟩
  refine b22 rfl (λs hs=>?_) (O.ex n' thn (by omega) (by omega));obtain⟨i,hi⟩:=List.mem_iff_getElem?.1 hs;have:=A6 hi;exact O.st n' s (by omega) (by omega)
 lp n nm bd thn h1 h2:=arS (O.bl n nm bd thn (by omega) (by omega))
 st n s h1 h2:=by
  obtain⟨n',rfl⟩:∃n',n=n'+1:=⟨n-1,by omega⟩
  obtain⟨k,a,nm,l,bs⟩:=s;simp only[aA.sz]at h2;refine arV rfl rfl rfl rfl (λl' hl'=>O.ex n' l' (by omega) (by omega)) (λe he=>?_) (λbd hbd=>?_) λbd hbd thn ht nm' _=>?_
  ·obtain⟨i,hi⟩:=List.mem_iff_getElem?.1 he;have:=j2 hi;obtain⟨n'',rfl⟩:∃n'',n'=n''+1:=⟨n'-1,by omega⟩
   exact⟨n'',rfl,O.pa n'' e (by omega) (by omega)⟩
  ·obtain⟨i,hi⟩:=List.mem_iff_getElem?.1 hbd;have:=lY hi;exact O.bl n' [] bd [] (by omega) (by simp only[bB];omega)
  ·obtain⟨i,hi⟩:=List.mem_iff_getElem?.1 hbd;have:=lY hi;exact O.lp n' nm' bd thn (by omega) (by omega)
theorem okC:∀m,OkC (pQ m) m
 |0=>⟨λn l h1 h2=>by omega,λn e h1 h2=>by omega,λn nm bd thn h1 h2=>by omega,λn nm bd thn h1 h2=>by omega,λn s h1 h2=>by omega⟩
 |m+1=>by
  rw[ahC];exact okS (okC m)
end Go.Proofs.YtcedghechlgecaaDoor
namespace Go.X
def iL:List (List Nat):=[[75,69,89,83],[65,82,71,86]]
theorem Od:∀t∈iL,B8 t:=by
 intro t ht c hc;simp only[iL,List.mem_cons,List.not_mem_nil,or_false]at ht;rcases ht with rfl|rfl<;>simp only[List.mem_cons,List.not_mem_nil,or_false]at hc<;>omega
theorem Oe:[AV.str 4 1398359371,AV.str 4 1447514689]=iL.map ai:=by kernel_rfl
def Qe(n:Nat)(bd:List aA):Err:=kB n [] 0 iL bd []
theorem sk{S:LS}{l:List AV}{b:Nat}(h:S.ob b=.ce l 0)(h1:∀a∈l,a.one=true):dY S (.slice b 0 l.length l.length 1 true) l:=.inr ⟨b,l.length,true,l,rfl,h,rfl,Nat.le_refl _,by simp,h1⟩
end Go.X
namespace Go.Proofs.YtcedghechlgecaaDoor
open Go Go.X Go.Proofs.YtcedghechlgecaaDoor.G
section
variable {H:AH}{S:LS}{K:KF}
theorem ao6:f22=(pQ G.NL).1:=by unfold f22;rfl
theorem ck9{n:Nat}{v:AV}{bd:List aA}(hM:Mem H S)(hb:fY S (nR S) v bd)(hw:kv bd)(hsz:dO bd≤200000)(hn:2*dO bd+3<n)(hn2:n≤500000)(hK:∀H' S',Mem H' S'→Ext S S'→K (.ret (.aP [aG (eC (Qe n bd)),aG (eA (Qe n bd))])) H'):f9 v H K:=by
 have gu:G.NL=1000000:=rfl;have hW:=(okC G.NL).bl n [] bd [] (by omega) (by simp only[bB];omega);show IH f22 K v H;rw[ao6];generalize (pQ G.NL).1=W at hW ⊢;unfold IH;rw[Oe];have h1k:∀a∈iL.map ai,a.one=true:=by
  intro a ha;obtain⟨t,_,rfl⟩:=List.mem_map.1 ha;rfl
 refine dj hM rfl h1k λH1 m1=>?_;have m1:Mem H1 (S.push (.ce (iL.map ai) 0)):=m1;have x1:Ext S (S.push (.ce (iL.map ai) 0)):=Ext.push _ _;have o1:(S.push (.ce (iL.map ai) 0)).ob S.n=.ce (iL.map ai) 0:=LS.av _ _;have n1:(S.push (.ce (iL.map ai) 0)).n=S.n+1:=rfl;generalize S.push (.ce (iL.map ai) 0)=S1 at m1 x1 o1 n1;refine dj m1 rfl (λa ha=>by simp only[List.mem_singleton]at ha;subst ha;rfl) λH2 m2=>?_;have m2:Mem H2 (S1.push (.ce [aG 2] 0)):=m2;have x2:Ext S1 (S1.push (.ce [aG 2] 0)):=Ext.push _ _;have o2:(S1.push (.ce [aG 2] 0)).ob S1.n=.ce [aG 2] 0:=LS.av _ _;have n2:(S1.push (.ce [aG 2] 0)).n=S1.n+1:=rfl;generalize S1.push (.ce [aG 2] 0)=S2 at m2 x2 o2 n2;refine dj m2 rfl (λa ha=>by simp only[List.mem_singleton]at ha;subst ha;rfl) λH3 m3=>?_;have m3:Mem H3 (S2.push (.ce [aG 0] 0)):=m3;have x3:Ext S2 (S2.push (.ce [aG 0] 0)):=Ext.push _ _;have o3:(S2.push (.ce [aG 0] 0)).ob S2.n=.ce [aG 0] 0:=LS.av _ _;have n3:(S2.push (.ce [aG 0] 0)).n=S2.n+1:=rfl;generalize S2.push (.ce [aG 0] 0)=S3 at m3 x3 o3 n3;refine eY rfl (eY rfl (eY rfl ?_));refine dp m3 (λa ha=>by
  simp only[List.mem_cons,List.not_mem_nil,or_false]at ha;rcases ha with rfl|rfl|rfl|rfl|rfl<;>rfl) λH4 m4=>?_
 have fr1:dY S1 (.slice S.n 0 2 2 1 true) (iL.map ai):=sk o1 h1k;have fr2:dY S2 (.slice S1.n 0 1 1 1 true) ([2].map aG):=sk (l:=[aG 2]) o2 (λa ha=>by simp only[List.mem_singleton]at ha;subst ha;rfl);have fr3:dY S3 (.slice S2.n 0 1 1 1 true) ([0].map aG):=sk (l:=[aG 0]) o3 (λa ha=>by simp only[List.mem_singleton]at ha;subst ha;rfl);have m4:Mem H4 (S3.push (.ce [.slice S.n 0 2 2 1 true,.slice S1.n 0 1 1 1 true,.slice S2.n 0 1 1 1 true,aG 0,aG 0] 0)):=m4;have x4:Ext S3 (S3.push (.ce [.slice S.n 0 2 2 1 true,.slice S1.n 0 1 1 1 true,.slice S2.n 0 1 1 1 true,aG 0,aG 0] 0)):=Ext.push _ _;have o4:(S3.push (.ce [.slice S.n 0 2 2 1 true,.slice S1.n 0 1 1 1 true,.slice S2.n 0 1 1 1 true,aG 0,aG 0] 0)).ob S3.n=.ce [.slice S.n 0 2 2 1 true,.slice S1.n 0 1 1 1 true,.slice S2.n 0 1 1 1 true,aG 0,aG 0] 0:=LS.av _ _;have n4:(S3.push (.ce [.slice S.n 0 2 2 1 true,.slice S1.n 0 1 1 1 true,.slice S2.n 0 1 1 1 true,aG 0,aG 0] 0)).n=S3.n+1:=rfl;generalize S3.push (.ce [.slice S.n 0 2 2 1 true,.slice S1.n 0 1 1 1 true,.slice S2.n 0 1 1 1 true,aG 0,aG 0] 0)=S4 at m4 x4 o4 n4;have hx:=x1.trans (x2.trans (x3.trans x4));have D:Dn S.n S3.n H4 S4 (.slice S.n 0 2 2 1 true) (.slice S1.n 0 1 1 1 true) (.slice S2.n 0 1 1 1 true) [] iL [] 0 none:=by
  refine⟨m4,⟨o4,fr1.keep m1 λx _ h=>(x2.trans (x3.trans x4)).ob x h,fr2.keep m2 λx _ h=>(x3.trans x4).ob x h,fr3.keep m3 λx _ h=>x4.ob x h,Od,(λe he=>by cases he),?_,?_,?_,?_,?_,?_,?_,?_,?_,?_⟩,by omega⟩
  all_goals try simp only[ak]
  all_goals intros
  all_goals omega
 refine hW.run D (zd hb (λx h=>hx.ob x h)) NZ He hw trivial (λh=>absurd rfl h) ⟨by simp[iL,bB];omega,by simp[bB];omega,by simp[bB];omega,by simp[bB];omega⟩ λH5 S5 vn5 vw5 vl5 m5 rp D5=>?_;rw[aj];refine D5.d.ld m5 (j:=3) rfl ?_;show cI 0 (.int 0 _) _;rw[aK];refine D5.d.ld m5 (j:=4) rfl ?_;show cI 0 (.int 0 _) _;rw[aK];refine hK H5 S5 m5 ⟨by have:=rp.n;have:=hx.n;omega,λx h=>?_⟩;rw[D.low rp x h];exact hx.ob x h
end
end Go.Proofs.YtcedghechlgecaaDoor
namespace Go.X
section
variable {H:AH}{S S':LS}
structure bM where
 p:Nat
 v:AV
 ns:List (List Nat)
 l:Nat
def bM.own(d:bM)(x:Nat):Prop:=x=d.p∨ak d.v x
structure gv(lo b:Nat)(S:LS)(vL:AV)(lv:List bM):Prop where
 ob:S.ob b=.ce [vL] 0
 fL:dY S vL (lv.map λd=>AV.ptr d.p 0)
 lb:∀d∈lv,S.ob d.p=.ce [d.v,aG d.l] 0
 ln:∀d∈lv,dY S d.v (d.ns.map ai)
 n8:∀d∈lv,∀t∈d.ns,B8 t
 bL:¬ak vL b
 pv:∀d∈lv,¬ak d.v d.p
 ap:lv.Pairwise λd d'=>∀x,d.own x→¬d'.own x
 ob':∀d∈lv,∀x,d.own x→x≠b∧¬ak vL x
 wN:lo≤b
 loL:∀x,ak vL x→lo≤x
 xT:∀d∈lv,∀x,d.own x→lo≤x
end
end Go.X
namespace Go.Proofs.YtcedghechlgecaaDoor
open Go Go.X Go.Proofs.YtcedghechlgecaaDoor.G
section
variable {H:AH}{S:LS}{K:KF}
theorem hs62{lo b:Nat}{vL:AV}{lv:List bM}{s:List Nat}(hM:Mem H S)(h:gv lo b S vL lv)(h8:B8 s)(hl:lv.length≤900000)(hn:∀d∈lv,d.ns.length≤900000)(hK:K (.ret (.bool (decide (∃d∈lv,s∈d.ns)))) H):f62 (.ptr b 0) (ai s) H K:=by
 have gu:G.NL=1000000:=rfl;have outer:∀(q i:Nat),i≤lv.length→lv.length-i<q→(∀j d,j<i→lv[j]? = some d→s∉d.ns)→pF jB K q (ai s) vL (lv.length:Int) (i:Int) H:=by
  intro q
  induction q with
  |zero=>intro i _ g;omega
  |succ q ih=>
   intro i hi hq hno;show EC jB K (we jB K (pF jB K q) G.NL) (EB jB K) (ai s) vL (lv.length:Int) (i:Int) H;unfold EC;rw[cz];refine bR (λg=>?_) (λg=>?_)
   rotate_left
   ·unfold EB;rw[decide_eq_false (λhx=>by
     obtain⟨d,hd,hs⟩:=hx;obtain⟨j,hj⟩:=List.mem_iff_getElem?.1 hd;have:=(List.getElem?_eq_some_iff.1 hj).1;exact hno j d (by omega) hj hs)]at hK
    exact hK
   have hil:i<lv.length:=by omega
   obtain⟨d,hd⟩:∃d,lv[i]? = some d:=⟨_,List.getElem?_eq_getElem hil⟩
   have hdm:=List.mem_of_getElem? hd;have hnd:=hn d hdm;refine h.fL.load hM (a:=.ptr d.p 0) (by rw[List.getElem?_map,hd];rfl) ?_;simp only[bV,aM,Nat.zero_add];refine az hM (h.lb d hdm) (v:=d.v) rfl ?_;refine(h.ln d hdm).len ?_;rw[aK,List.length_map];have inner:∀(q2 j:Nat),j≤d.ns.length→d.ns.length-j<q2→(∀m t,m<j→d.ns[m]? = some t→t≠s)→we jB K (pF jB K q) q2 (ai s) vL (lv.length:Int) (i:Int) d.v (d.ns.length:Int) (j:Int) H:=by
    intro q2
    induction q2 with
    |zero=>intro j _ g;omega
    |succ q2 ih2=>
     intro j hj hq2 ao7;show EA jB K (we jB K (pF jB K q) q2) (Ez jB K (pF jB K q)) (ai s) vL (lv.length:Int) (i:Int) d.v (d.ns.length:Int) (j:Int) H;unfold EA;rw[cz];refine bR (λg2=>?_) (λg2=>?_)
     ·have hjl:j<d.ns.length:=by omega
      obtain⟨t,ht⟩:∃t,d.ns[j]? = some t:=⟨_,List.getElem?_eq_getElem hjl⟩
      have htm:=List.mem_of_getElem? ht;refine(h.ln d hdm).load hM (a:=ai t) (by rw[List.getElem?_map,ht];rfl) ?_;refine xo (h.n8 d hdm t htm) h8 ?_;rw[aN];by_cases e:t=s
      ·rw[decide_eq_true e,aH];rw[decide_eq_true ⟨d,hdm,e ▸ htm⟩]at hK;exact hK
      ·rw[decide_eq_false e,aI];rw[dh,dX];refine w0 (by omega) (by omega) ?_;refine ih2 (j+1) (by omega) (by omega) λm t' hm hmt=>?_;rcases Nat.lt_or_ge m j with g1|g1
       ·exact ao7 m t' g1 hmt
       ·have e1:m=j:=by omega
        subst e1;rw[ht]at hmt;cases hmt;exact e
     ·unfold Ez;rw[dh,dX];refine w0 (by omega) (by omega) ?_;refine ih (i+1) (by omega) (by omega) λm d' hm hmd hs=>?_;rcases Nat.lt_or_ge m i with g1|g1
      ·exact hno m d' g1 hmd hs
      ·have e1:m=i:=by omega
       subst e1;rw[hd]at hmd;cases hmd;obtain⟨m2,hm2⟩:=List.mem_iff_getElem?.1 hs;have:=(List.getElem?_eq_some_iff.1 hm2).1;exact absurd rfl (ao7 m2 s (by omega) hm2)
   exact inner G.NL 0 (Nat.zero_le _) (by omega) λm t g=>by omega
 show ED jB K (pF jB K G.NL) (.ptr b 0) (ai s) H;unfold ED;simp only[bV,aM,Nat.zero_add];refine az hM h.ob (v:=vL) rfl ?_;refine h.fL.len ?_;rw[aK,List.length_map];exact outer G.NL 0 (Nat.zero_le _) (by omega) λm t g=>by omega
end
end Go.Proofs.YtcedghechlgecaaDoor
namespace Go.X
section
variable {H:AH}{S S' lL:LS}
def mI(b:Nat)(vL:AV)(lv:List bM)(x:Nat):Prop:=x=b∨ak vL x∨∃d∈lv,d.own x
structure ey(b:Nat)(S S':LS)(vL:AV)(lv:List bM)(dE:AV)(Ax:List bM):Prop where
 n:S.n≤S'.n
 ob:∀x,x<S.n→¬mI b vL lv x→S'.ob x=S.ob x
 own:∀x,mI b dE Ax x→mI b vL lv x∨S.n≤x
section
variable {lo b:Nat}{vL dE ao8:AV}{lv Ax ao9:List bM}
theorem ey.refl:ey b S S vL lv vL lv:=⟨Nat.le_refl _,λ_ _ _=>rfl,λ_ h=>.inl h⟩
theorem ey.trans(h:ey b S S' vL lv dE Ax)(g:ey b S' lL dE Ax ao8 ao9):ey b S lL vL lv ao8 ao9:=
 ⟨Nat.le_trans h.n g.n,λx hx hn=>(g.ob x (Nat.lt_of_lt_of_le hx h.n) λq=>(h.own x q).elim hn (by omega)).trans (h.ob x hx hn),λx hx=>(g.own x hx).elim (h.own x) λq=>.inr (Nat.le_trans h.n q)⟩
theorem Ext.ov(hx:Ext S S'):ey b S S' vL lv vL lv:=⟨hx.n,λx h _=>hx.ob x h,λ_ h=>.inl h⟩
theorem gv.zb(h:gv lo b S vL lv){x:Nat}(hx:mI b vL lv x):lo≤x:=by
 rcases hx with rfl|q|⟨d,hd,q⟩
 ·exact h.wN
 ·exact h.loL x q
 ·exact h.xT d hd x q
theorem gv.iv(h:gv lo b S vL lv)(hM:Mem H S){x:Nat}(hx:mI b vL lv x):x<S.n:=by
 rcases hx with rfl|q|⟨d,hd,q⟩
 ·exact hM.lt (by rw[h.ob];simp)
 ·exact h.fL.lt hM q
 ·rcases q with rfl|q
  ·exact hM.lt (by rw[h.lb d hd];simp)
  ·exact(h.ln d hd).lt hM q
theorem gv.keep(h:gv lo b S vL lv)(hM:Mem H S)(hk:∀x,mI b vL lv x→S'.ob x=S.ob x):gv lo b S' vL lv:=
 { h with ob:=(hk b (.inl rfl)).trans h.ob,fL:=h.fL.keep hM λx hx _=>hk x (.inr (.inl hx)),lb:=λd hd=>(hk d.p (.inr (.inr ⟨d,hd,.inl rfl⟩))).trans (h.lb d hd),ln:=λd hd=>(h.ln d hd).keep hM λx hx _=>hk x (.inr (.inr ⟨d,hd,.inr hx⟩)) }
theorem gv.ext(h:gv lo b S vL lv)(hM:Mem H S)(hx:Ext S S'):gv lo b S' vL lv:=h.keep hM λx q=>hx.ob x (h.iv hM q)
theorem ey.low(g:ey b S S' vL lv dE Ax)(h:gv lo b S vL lv)(hlo:lo≤S.n){x:Nat}(hx:x<lo):S'.ob x=S.ob x:=g.ob x (by omega) λq=>by have:=h.zb q;omega
end
end
end Go.X
namespace Go.Proofs.YtcedghechlgecaaDoor
open Go Go.X Go.Proofs.YtcedghechlgecaaDoor.G
section
variable {H:AH}{S:LS}{K:KF}
theorem agf{lo b:Nat}{vL:AV}{lv:List bM}{d:bM}(hM:Mem H S)(h:gv lo b S vL (lv++[d]))(hl:lv.length≤900000)(hK:K (.ret (.ptr d.p 0)) H):f44 (.ptr b 0) H K:=by
 show Ey MD K (.ptr b 0) H;unfold Ey;simp only[bV,aM,Nat.zero_add];refine az hM h.ob (v:=vL) rfl ?_;refine az hM h.ob (v:=vL) rfl ?_;refine h.fL.len ?_;rw[aK,List.length_map,List.length_append,List.length_singleton];simp only[kW,dX];refine w0 (by omega) (by omega) ?_;have ep:((lv.length+1:Nat):Int)-1=(lv.length:Int):=by omega
 rw[ep];refine h.fL.load hM (i:=lv.length) (a:=.ptr d.p 0) ?_ hK;rw[List.getElem?_map,List.getElem?_append_right (Nat.le_refl _)];simp
end
section
variable {H H':AH}{S S':LS}{K:KF}
structure Pn(lo b:Nat)(H:AH)(S:LS)(vL:AV)(lv:List bM):Prop where
 m:Mem H S
 p:gv lo b S vL lv
 l:lo≤S.n
 t:ni gl S
 g:gl.length≤lo
section
variable {lo b:Nat}{vL dE:AV}{lv Ax:List bM}
theorem Pn.low(h:Pn lo b H S vL lv)(st:ey b S S' vL lv dE Ax):∀x,x<lo→S'.ob x=S.ob x:=λx hx=>st.low h.p h.l hx
theorem Pn.step(h:Pn lo b H S vL lv)(m:Mem H' S')(st:ey b S S' vL lv dE Ax)(p:gv lo b S' dE Ax):Pn lo b H' S' dE Ax:=⟨m,p,Nat.le_trans h.l st.n,P0 h.t h.g (h.low st),h.g⟩
theorem Pn.ext(h:Pn lo b H S vL lv)(m:Mem H' S')(x:Ext S S'):Pn lo b H' S' vL lv:=h.step m x.ov (h.p.ext h.m x)
theorem Pn.new(h:Pn lo b H S vL lv):¬mI b vL lv S.n:=λg=>by
 have:=h.p.iv h.m g;omega
end
def Bc(lo:Nat)(S:LS)(K:KF)(e:Nat×Nat):Prop:=∀H' S',Mem H' S'→S.n≤S'.n→(∀x,x<lo→S'.ob x=S.ob x)→K (.cM (.iface 56 (.agg [aG e.1,aG e.2]))) H'
theorem Bc.le{lo:Nat}{e:Nat×Nat}(h:Bc lo S K e)(hn:S.n≤S'.n)(hk:∀x,x<lo→S'.ob x=S.ob x):Bc lo S' K e:=λH2 S2 m n k=>h H2 S2 m (Nat.le_trans hn n) λx hx=>(k x hx).trans (hk x hx)
def PGo(lo b:Nat)(S:LS)(vL:AV)(lv:List bM)(er:Err)(K:KF):Prop:=(er=none→∀H' S' dE,Pn lo b H' S' dE lv→ey b S S' vL lv dE lv→K (.ret (.aP [])) H')∧∀e,er=some e→Bc lo S K e
def Rp(lv:List bM)(z:Nat):Prop:=lv.length+z≤800000∧∀d∈lv,d.ns.length+z≤800000∧d.l+z≤800000
theorem Rp.le{lv:List bM}{z z':Nat}(h:Rp lv z)(hz:z'≤z):Rp lv z':=⟨by have:=h.1;omega,λd hd=>by have:=h.2 d hd;omega⟩
structure PE(F:AV→AV→AH→KF→Prop)(n:Nat)(e:al):Prop where
 run:∀{K:KF}{H:AH}{S:LS}{lo b:Nat}{vL v:AV}{lv:List bM}{L:List (List (List Nat))}{ns:List (List Nat)},Pn lo b H S vL lv→lv.map bM.ns=L++[ns]→dS S (fi lo) v e→e.wg→Rp lv e.sz→PGo lo b S vL lv (kE n L ns e) K→F (.ptr b 0) v H K
structure Qf(F:AV→AV→AH→KF→Prop)(n:Nat)(l:List al):Prop where
 run:∀{K:KF}{H:AH}{S:LS}{lo b:Nat}{vL v:AV}{lv:List bM}{L:List (List (List Nat))}{ns:List (List Nat)},Pn lo b H S vL lv→lv.map bM.ns=L++[ns]→oq S (fi lo) v l→jK l→Rp lv (bB l)→PGo lo b S vL lv (bG (kE n L ns) l) K→F (.ptr b 0) v H K
theorem wQ{α:Type}(f:α→Err)(l:List α)(i:Nat){e:Nat×Nat}(h:bG f (l.take i)=some e):bG f l=some e:=by
 rw[←List.take_append_drop i l,oJ,h];rfl
theorem e61{R:mP}{n:Nat}{l:List al}(hE:∀e∈l,PE R n e):Qf (Sh R) n l:=by
 refine⟨λ{K H S lo b vL v lv L ns} hP hlv hv hw hR hK=>?_⟩;have hll:=nB l;have hr1:=hR.1;have loop:∀(q i:Nat) (dE:AV) (H':AH) (S':LS),i≤l.length→l.length-i<q→Pn lo b H' S' dE lv→bG (kE n L ns) (l.take i)=none→ey b S S' vL lv dE lv→wv R K q (.ptr b 0) v (l.length:Int) (i:Int) H':=by
  intro q
  induction q with
  |zero=>intro i _ _ _ _ h;omega
  |succ q ih=>
   intro i dE H' S' hi hq P1 he0 st1;show EK R K (wv R K q) (.ptr b 0) v (l.length:Int) (i:Int) H';unfold EK;simp only[jy];rw[cz];refine bR (λg=>?_) (λg=>?_)
   rotate_left
   ·have e:i=l.length:=by omega
    subst e;rw[List.take_length]at he0;exact hK.1 he0 H' S' dE P1 st1
   have hil:i<l.length:=by omega
   obtain⟨e,he⟩:∃e,l[i]? = some e:=⟨_,List.getElem?_eq_getElem hil⟩
   have hem:=List.mem_of_getElem? he;have hsz:=j2 he;have lw:=hP.low st1;obtain⟨cl,s1,g1⟩:=lZ hv lw;have e1:=g1 i e he;refine s1.load P1.m hil ?_;refine rY P1.m fg rfl e1.len e1.ones λH2 S2 m2 x2 o2 n2=>?_;refine gH m2 o2 e1.len ?_;have P2:=P1.ext m2 x2;refine(hE e hem).run P2 hlv ⟨_,rfl,e1.go (λx hx=>x2.ob x (Nat.lt_of_lt_of_le hx P1.l)) λ_ h=>h⟩ (qx hw he) (hR.le hsz) ⟨λhn H3 S3 kV P3 bP=>?_,λp hp H3 S3 m3 n3 k3=>?_⟩
   ·show cR K (.ret (.aP [])) H3 _;rw[aj,dh,dX];refine w0 (by omega) (by omega) ?_;refine ih (i+1) kV H3 S3 (by omega) (by omega) P3 ?_ (st1.trans (x2.ov.trans bP));rw[jS _ _ _ he,he0,hn];rfl
   ·show cR K (.cM _) H3 _;rw[ik];refine hK.2 p ?_ H3 S3 m3 (by have:=st1.n;omega) λx hx=>?_
    ·refine wQ _ _ (i+1) ?_;rw[jS _ _ _ he,he0,hp];rfl
    ·rw[k3 x hx,x2.ob x (Nat.lt_of_lt_of_le hx P1.l),lw x hx]
 show EL R K (wv R K G.NL) (.ptr b 0) v H;unfold EL;refine hv.choose_spec.1.len ?_;rw[aK];have gu:G.NL=1000000:=rfl;generalize G.NL=eW at gu ⊢;exact loop eW 0 vL H S (Nat.zero_le _) (by omega) hP rfl ey.refl
end
end Go.Proofs.YtcedghechlgecaaDoor
namespace Go.X
section
variable {H:AH}{S S':LS}
section
variable {lo b:Nat}{vL:AV}{lv:List bM}{d d':bM}
theorem gv.upd(h:gv lo b S vL (lv++[d]))(hM:Mem H S)(hp:d'.p=d.p)(hob:S'.ob d.p=.ce [d'.v,aG d'.l] 0)(hfn:dY S' d'.v (d'.ns.map ai))(h8:∀t∈d'.ns,B8 t)(hpv:¬ak d'.v d.p)(hown:∀x,ak d'.v x→ak d.v x∨S.n≤x)(hlo:lo≤S.n)(hk:∀x,x<S.n→x≠d.p→¬ak d.v x→S'.ob x=S.ob x):gv lo b S' vL (lv++[d']):=by
 have hd:d∈lv++[d]:=List.mem_append_right _ (List.mem_singleton_self _);have hl:∀{x},x∈lv→x∈lv++[d]:=λg=>List.mem_append_left _ g;have lt:∀{x},mI b vL (lv++[d]) x→x<S.n:=λg=>h.iv hM g;have ap2:∀a∈lv,∀x,a.own x→¬d.own x:=λa ha=>(List.pairwise_append.1 h.ap).2.2 a ha d (List.mem_singleton_self _);have kd:∀a∈lv,∀x,a.own x→S'.ob x=S.ob x:=λa ha x hx=>hk x (lt (.inr (.inr ⟨a,hl ha,hx⟩))) (λg=>ap2 a ha x hx (.inl g)) λg=>ap2 a ha x hx (.inr g);have sp:∀{a},a∈lv++[d']→a∈lv∨a=d':=λg=>(List.mem_append.1 g).imp id List.mem_singleton.1;have od:∀x,d'.own x→d.own x∨S.n≤x:=λx hx=>hx.elim (λg=>.inl (.inl (g.trans hp))) λg=>(hown x g).imp .inr id;refine⟨(hk b (lt (.inl rfl)) (λg=>(h.ob' d hd d.p (.inl rfl)).1 g.symm) λg=>(h.ob' d hd b (.inr g)).1 rfl).trans h.ob,?_,?_,?_,?_,h.bL,?_,?_,?_,h.wN,h.loL,?_⟩
 ·have:=h.fL.keep (S':=S') hM λx hx hlt=>hk x hlt (λg=>(h.ob' d hd d.p (.inl rfl)).2 (g ▸ hx)) λg=>(h.ob' d hd x (.inr g)).2 hx;have e:(lv++[d']).map (λd=>AV.ptr d.p 0)=(lv++[d]).map (λd=>AV.ptr d.p 0):=by simp[hp]
  rw[e];exact this
 ·intro a ha;rcases sp ha with g|rfl
  ·exact(kd a g a.p (.inl rfl)).trans (h.lb a (hl g))
  ·rw[hp];exact hob
 ·intro a ha;rcases sp ha with g|rfl
  ·exact(h.ln a (hl g)).keep hM λx hx _=>kd a g x (.inr hx)
  ·exact hfn
 ·intro a ha;rcases sp ha with g|rfl
  ·exact h.n8 a (hl g)
  ·exact h8
 ·intro a ha;rcases sp ha with g|rfl
  ·exact h.pv a (hl g)
  ·rw[hp];exact hpv
 ·refine List.pairwise_append.2 ⟨(List.pairwise_append.1 h.ap).1,List.pairwise_singleton _ _,λa ha c hc x hx hy=>?_⟩;rw[List.mem_singleton]at hc;subst hc;rcases od x hy with g|g
  ·exact ap2 a ha x hx g
  ·have:=lt (.inr (.inr ⟨a,hl ha,hx⟩));omega
 ·intro a ha x hx;rcases sp ha with g|rfl
  ·exact h.ob' a (hl g) x hx
  ·rcases od x hx with g|g
   ·exact h.ob' d hd x g
   ·refine⟨λe=>?_,λe=>?_⟩
    ·have:=lt (x:=b) (.inl rfl);omega
    ·have:=lt (x:=x) (.inr (.inl e));omega
 ·intro a ha x hx;rcases sp ha with g|rfl
  ·exact h.xT a (hl g) x hx
  ·rcases od x hx with g|g
   ·exact h.xT d hd x g
   ·omega
theorem gv.ko{r:Nat}{k:AH→Prop}(h:gv lo b S vL (lv++[d]))(hM:Mem H S)(hlo:lo≤S.n)
  (hk:∀H' S',Mem H' S'→ey b S S' vL (lv++[d]) vL (lv++[{ d with l:=r }])→gv lo b S' vL (lv++[{ d with l:=r }])→k H'):au (.ptr d.p 0) (ag 1 (.ptr d.p 0) λv9=>ah 1 v9 (.int 0 (r:Int)) H k):=by
 have hd:d∈lv++[d]:=List.mem_append_right _ (List.mem_singleton_self _);simp only[bV,aM,Nat.zero_add];refine bJ hM (h.lb d hd) (by omega) (by show 1<2;omega) rfl λH1 m1=>?_;have m1:Mem H1 (S.set d.p (.ce [d.v,aG r] 0)):=m1;have k1:∀x,x≠d.p→(S.set d.p (.ce [d.v,aG r] 0)).ob x=S.ob x:=λx hx=>LS.aq _ _ hx;refine hk H1 _ m1 ⟨Nat.le_refl _,λx _ hx=>k1 x λg=>hx (.inr (.inr ⟨d,hd,.inl g⟩)),λx hx=>?_⟩ (h.upd hM rfl (LS.ay _ _ _) ((h.ln d hd).keep hM λx hx _=>k1 x λg=>h.pv d hd (g ▸ hx)) (h.n8 d hd) (h.pv d hd) (λ_ g=>.inl g) hlo λx _ hx _=>k1 x hx);rcases hx with g|g|⟨a,ha,g⟩
 ·exact .inl (.inl g)
 ·exact .inl (.inr (.inl g))
 ·rcases List.mem_append.1 ha with q|q
  ·exact .inl (.inr (.inr ⟨a,List.mem_append_left _ q,g⟩))
  ·rw[List.mem_singleton]at q;subst q;exact .inl (.inr (.inr ⟨d,hd,g⟩))
end
end
section
variable {H:AH}{S S':LS}
section
variable {lo b:Nat}{vL:AV}{lv:List bM}{d:bM}
theorem gv.ov{d':bM}(h:gv lo b S vL (lv++[d]))(hp:d'.p=d.p)(hown:∀x,ak d'.v x→ak d.v x∨S.n≤x)(hn:S.n≤S'.n)(hk:∀x,x<S.n→x≠d.p→¬ak d.v x→S'.ob x=S.ob x):ey b S S' vL (lv++[d]) vL (lv++[d']):=by
 have hd:d∈lv++[d]:=List.mem_append_right _ (List.mem_singleton_self _);refine⟨hn,λx hx hno=>hk x hx (λg=>hno (.inr (.inr ⟨d,hd,.inl g⟩))) λg=>hno (.inr (.inr ⟨d,hd,.inr g⟩)),λx hx=>?_⟩;rcases hx with g|g|⟨a,ha,g⟩
 ·exact .inl (.inl g)
 ·exact .inl (.inr (.inl g))
 ·rcases List.mem_append.1 ha with q|q
  ·exact .inl (.inr (.inr ⟨a,List.mem_append_left _ q,g⟩))
  ·rw[List.mem_singleton]at q;subst q;rcases g with g|g
   ·exact .inl (.inr (.inr ⟨d,hd,.inl (g.trans hp)⟩))
   ·exact(hown x g).imp (λw=>.inr (.inr ⟨d,hd,.inr w⟩)) id
theorem gv.app{Q:Nat→Prop}{a1:AV}{l:List (List Nat)}{k:AH→Prop}(h:gv lo b S vL (lv++[d]))(hM:Mem H S)(hlo:lo≤S.n)(hr:jN S Q a1 (l.map ai))(h8:∀t∈l,B8 t)(hl:d.ns.length+l.length≤1000000)
  (hk:∀H' S' v',Mem H' S'→ey b S S' vL (lv++[d]) vL (lv++[{ d with v:=v',ns:=d.ns++l }])→gv lo b S' vL (lv++[{ d with v:=v',ns:=d.ns++l }])→k H'):cO 1 16 d.v a1 H λv14 dZ=>au (.ptr d.p 0) (ag 0 (.ptr d.p 0) λv16=>ah 1 v16 v14 dZ k):=by
 have hd:d∈lv++[d]:=List.mem_append_right _ (List.mem_singleton_self _);have hdp:d.p<S.n:=h.iv hM (.inr (.inr ⟨d,hd,.inl rfl⟩));have hbb:((d.ns.map ai).length+(l.map ai).length)*16≤1099511627776:=by
  rw[List.length_map,List.length_map];omega
 refine qJ hM (h.ln d hd) hr hbb (λa ha=>by obtain⟨t,_,rfl⟩:=List.mem_map.1 ha;rfl) λH1 S1 v1 m1 n1 k1 f1 b1 _ _ _=>?_;have e1:S1.ob d.p=.ce [d.v,aG d.l] 0:=(k1 _ hdp (h.pv d hd)).trans (h.lb d hd);simp only[bV,aM,Nat.zero_add];refine bJ m1 e1 (by omega) (by show 0<2;omega) f1.one λH2 m2=>?_;have m2:Mem H2 (S1.set d.p (.ce [v1,aG d.l] 0)):=m2;have k2:∀x,x≠d.p→(S1.set d.p (.ce [v1,aG d.l] 0)).ob x=S1.ob x:=λx hx=>LS.aq _ _ hx;have hpv:¬ak v1 d.p:=λg=>(b1 _ g).elim (h.pv d hd) (by omega);have hk3:∀x,x<S.n→x≠d.p→¬ak d.v x→(S1.set d.p (.ce [v1,aG d.l] 0)).ob x=S.ob x:=λx hx hne hb=>(k2 x hne).trans (k1 x hx hb);refine hk H2 _ v1 m2 (h.ov rfl b1 n1 hk3) (h.upd hM rfl (LS.ay _ _ _) ?_ ?_ hpv b1 hlo hk3)
 ·show dY _ v1 ((d.ns++l).map ai);rw[List.map_append];exact f1.keep m1 λx hx _=>k2 x λg=>hpv (g ▸ hx)
 ·intro t ht;exact(List.mem_append.1 ht).elim (h.n8 d hd t) (h8 t)
theorem gv.cut{ns e:List (List Nat)}{k:AH→Prop}(h:gv lo b S vL (lv++[d]))(hM:Mem H S)(hlo:lo≤S.n)(he:d.ns=ns++e)
  (hk:∀H' S' v',Mem H' S'→ey b S S' vL (lv++[d]) vL (lv++[{ d with v:=v',ns:=ns }])→gv lo b S' vL (lv++[{ d with v:=v',ns:=ns }])→k H'):fx 1 d.v none (some (.int 0 (ns.length:Int))) none λv9=>au (.ptr d.p 0) (ag 0 (.ptr d.p 0) λv10=>ah 1 v10 v9 H k):=by
 have hd:d∈lv++[d]:=List.mem_append_right _ (List.mem_singleton_self _);refine qp (h.ln d hd) (by rw[he];simp) λw1 f1 b1 _ _=>?_;rw[he,List.map_append,List.take_left' (by simp)]at f1;simp only[bV,aM,Nat.zero_add];refine bJ hM (h.lb d hd) (by omega) (by show 0<2;omega) f1.one λH2 m2=>?_;have m2:Mem H2 (S.set d.p (.ce [w1,aG d.l] 0)):=m2;have k2:∀x,x≠d.p→(S.set d.p (.ce [w1,aG d.l] 0)).ob x=S.ob x:=λx hx=>LS.aq _ _ hx;have hpv:¬ak w1 d.p:=λg=>h.pv d hd ((b1 _).1 g);refine hk H2 _ w1 m2 (h.ov rfl (λx g=>.inl ((b1 x).1 g)) (Nat.le_refl _) λx _ hx _=>k2 x hx) (h.upd hM rfl (LS.ay _ _ _) (f1.keep hM λx hx _=>k2 x λg=>hpv (g ▸ hx)) (λt ht=>h.n8 d hd t (by rw[he];exact List.mem_append_left _ ht)) hpv (λx g=>.inl ((b1 x).1 g)) hlo λx _ hx _=>k2 x hx)
end
end
end Go.X
namespace Go.Proofs.YtcedghechlgecaaDoor
open Go Go.X Go.Proofs.YtcedghechlgecaaDoor.G
section
variable {H:AH}{S:LS}{K:KF}
theorem aqo{k:AV→Prop}(h:k (.bool true)):wX true .ab k:=h
theorem aqp{b o n c z:Nat}{ex:Bool}{k:AV→Prop}(h:k (.bool false)):wX true (.slice b o n c z ex) k:=h
theorem arW{Q:Nat→Prop}{v:AV}{l:List (List Nat)}(hM:Mem H S)(hn:kl S Q v l)(hQ:∀x,Q x→x<S.n)(hl:l.length≤900000)(hK:∀H' S' v',Mem H' S'→Ext S S'→dY S' v' (l.map ai)→(∀x,ak v' x→S.n≤x)→K (.ret v') H'):f83 v H K:=by
 have hr:=uC hn;show EE MH K v H;unfold EE;have go:aT (aE H) 0 1 [] λv3 H4=>cO 1 16 v3 v H4 λv5 H6=>K (.ret v5) H6:=by
  refine dj hM rfl (λa ha=>by simp at ha) λH1 m1=>?_;have m1:Mem H1 (S.push (.ce [] 0)):=m1;have x1:Ext S (S.push (.ce [] 0)):=Ext.push _ _;have o1:(S.push (.ce [] 0)).ob S.n=.ce [] 0:=LS.av _ _;have n1:(S.push (.ce [] 0)).n=S.n+1:=rfl;have hr1:jN (S.push (.ce [] 0)) Q v (l.map ai):=uC (kl.go hn (λb hb=>x1.ob b (hQ b hb)) λ_ g=>g);generalize S.push (.ce [] 0)=S1 at m1 x1 o1 n1 hr1;have f0:dY S1 (.slice S.n 0 0 0 1 true) []:=sk (l:=[]) o1 (λa ha=>by simp at ha);have hbb:(([]:List AV).length+(l.map ai).length)*16≤1099511627776:=by
   rw[List.length_map,List.length_nil];omega
  refine qJ m1 f0 hr1 hbb (λa ha=>by obtain⟨t,_,rfl⟩:=List.mem_map.1 ha;rfl) λH2 S2 v2 m2 n2 k2 f2 b2 _ _ _=>?_;refine hK H2 S2 v2 m2 ⟨by have:=x1.n;omega,λx hx=>(k2 x (by omega) λg=>by
   have g:x=S.n:=g;omega).trans (x1.ob x hx)⟩ (by simpa using f2) λx hx=>?_
  rcases b2 x hx with g|g
  ·have g:x=S.n:=g;omega
  ·omega
 rcases hr with⟨rfl,e⟩|⟨bk,o,c,ex,cs,m,rfl,q1,q2,q3,q4,q5⟩
 ·refine aqo ?_;rw[aN,aH];exact hK H S .ab hM (Ext.refl _) (.inl ⟨rfl,e⟩) λx hx=>hx.elim
 ·refine aqp ?_;rw[aN,aI];exact go
end
end Go.Proofs.YtcedghechlgecaaDoor
namespace Go.X
section
variable {H:AH}{S S':LS}
section
variable {lo b:Nat}{vL:AV}{lv:List bM}{d:bM}
theorem gv.push{dE v':AV}{p:Nat}{ps:List (List Nat)}(h:gv lo b S vL lv)(hM:Mem H S)(hlo:lo≤S.n)(hb:S'.ob b=.ce [dE] 0)(fL:dY S' dE ((lv++[bM.mk p v' ps 0]).map λd=>AV.ptr d.p 0))(hp:S'.ob p=.ce [v',aG 0] 0)(fv:dY S' v' (ps.map ai))(h8:∀t∈ps,B8 t)(pn:S.n≤p)(vn:∀x,ak v' x→S.n≤x)(pv:¬ak v' p)(hL:∀x,ak dE x→ak vL x∨S.n≤x)(Lp:¬ak dE p)(Lv:∀x,ak dE x→¬ak v' x)(hn:S.n≤S'.n)(hk:∀x,x<S.n→x≠b→¬ak vL x→S'.ob x=S.ob x):gv lo b S' dE (lv++[bM.mk p v' ps 0])∧ey b S S' vL lv dE (lv++[bM.mk p v' ps 0]):=by
 have lt:∀{x},mI b vL lv x→x<S.n:=λg=>h.iv hM g;have la:∀a∈lv,∀x,a.own x→x<S.n:=λa ha x hx=>lt (.inr (.inr ⟨a,ha,hx⟩));have hbl:b<S.n:=lt (.inl rfl);have kd:∀a∈lv,∀x,a.own x→S'.ob x=S.ob x:=λa ha x hx=>hk x (la a ha x hx) (h.ob' a ha x hx).1 (h.ob' a ha x hx).2;have sp:∀{a},a∈lv++[bM.mk p v' ps 0]→a∈lv∨a=bM.mk p v' ps 0:=λg=>(List.mem_append.1 g).imp id List.mem_singleton.1;have nw:∀x,(bM.mk p v' ps 0).own x→S.n≤x:=λx hx=>hx.elim (λg=>by have g:x=p:=g;omega) (vn x);refine⟨⟨hb,fL,?_,?_,?_,?_,?_,?_,?_,h.wN,?_,?_⟩,hn,λx hx hno=>hk x hx (λg=>hno (.inl g)) λg=>hno (.inr (.inl g)),?_⟩
 ·intro a ha;rcases sp ha with g|rfl
  ·exact(kd a g a.p (.inl rfl)).trans (h.lb a g)
  ·exact hp
 ·intro a ha;rcases sp ha with g|rfl
  ·exact(h.ln a g).keep hM λx hx _=>kd a g x (.inr hx)
  ·exact fv
 ·intro a ha;rcases sp ha with g|rfl
  ·exact h.n8 a g
  ·exact h8
 ·intro g;exact(hL b g).elim h.bL (by omega)
 ·intro a ha;rcases sp ha with g|rfl
  ·exact h.pv a g
  ·exact pv
 ·refine List.pairwise_append.2 ⟨h.ap,List.pairwise_singleton _ _,λa ha c hc x hx hy=>?_⟩;rw[List.mem_singleton]at hc;subst hc;have:=la a ha x hx;have:=nw x hy;omega
 ·intro a ha x hx;rcases sp ha with g|rfl
  ·refine⟨(h.ob' a g x hx).1,λq=>(hL x q).elim (h.ob' a g x hx).2 λw=>?_⟩;have:=la a g x hx;omega
  ·refine⟨λq=>by have:=nw x hx;omega,λq=>?_⟩;rcases hx with w|w
   ·have w:x=p:=w;exact Lp (w ▸ q)
   ·exact Lv x q w
 ·intro x hx;exact(hL x hx).elim (h.loL x) λw=>by omega
 ·intro a ha x hx;rcases sp ha with g|rfl
  ·exact h.xT a g x hx
  ·have:=nw x hx;omega
 ·intro x hx;rcases hx with g|g|⟨a,ha,g⟩
  ·exact .inl (.inl g)
  ·exact(hL x g).imp (λw=>.inr (.inl w)) id
  ·rcases sp ha with q|rfl
   ·exact .inl (.inr (.inr ⟨a,q,g⟩))
   ·exact .inr (nw x g)
theorem gv.pop{w:AV}(h:gv lo b S vL (lv++[d]))(hM:Mem H S)(hb:S'.ob b=.ce [w] 0)(fL:dY S' w (lv.map λd=>AV.ptr d.p 0))(hw:∀x,ak w x→ak vL x)(hn:S.n≤S'.n)(hk:∀x,x≠b→S'.ob x=S.ob x):gv lo b S' w lv∧ey b S S' vL (lv++[d]) w lv:=by
 have hl:∀{x},x∈lv→x∈lv++[d]:=λg=>List.mem_append_left _ g;have kd:∀a∈lv,∀x,a.own x→S'.ob x=S.ob x:=λa ha x hx=>hk x (h.ob' a (hl ha) x hx).1;refine⟨⟨hb,fL,λa ha=>(kd a ha a.p (.inl rfl)).trans (h.lb a (hl ha)),λa ha=>(h.ln a (hl ha)).keep hM λx hx _=>kd a ha x (.inr hx),λa ha=>h.n8 a (hl ha),λg=>h.bL (hw b g),λa ha=>h.pv a (hl ha),(List.pairwise_append.1 h.ap).1,λa ha x hx=>⟨(h.ob' a (hl ha) x hx).1,λg=>(h.ob' a (hl ha) x hx).2 (hw x g)⟩,h.wN,λx hx=>h.loL x (hw x hx),λa ha=>h.xT a (hl ha)⟩,hn,λx hx hno=>hk x λg=>hno (.inl g),λx hx=>.inl ?_⟩;rcases hx with g|g|⟨a,ha,g⟩
 ·exact .inl g
 ·exact .inr (.inl (hw x g))
 ·exact .inr (.inr ⟨a,hl ha,g⟩)
end
end
end Go.X
namespace Go.Proofs.YtcedghechlgecaaDoor
open Go Go.X Go.Proofs.YtcedghechlgecaaDoor.G
section
variable {H H':AH}{S S':LS}{K:KF}
def PGs(lo b:Nat)(S:LS)(vL:AV)(lv:List bM)(d:bM)(r:List (List Nat)×Err)(K:KF):Prop:=(r.2=none→∀H' S' dE v',Pn lo b H' S' dE (lv++[bM.mk d.p v' r.1 d.l])→ey b S S' vL (lv++[d]) dE (lv++[bM.mk d.p v' r.1 d.l])→K (.ret (.aP [])) H')∧∀e,r.2=some e→Bc lo S K e
structure Ib(F:AV→AV→AV→AH→KF→Prop)(t:AV)(n:Nat)(bd:List aA):Prop where
 run:∀{K:KF}{H:AH}{S:LS}{lo b:Nat}{vL v:AV}{lv:List bM}{d:bM}{L:List (List (List Nat))},Pn lo b H S vL (lv++[d])→lv.map bM.ns=L→fY S (fi lo) v bd→kv bd→Rp (lv++[d]) (dO bd+1)→PGs lo b S vL lv d (d.ns,kB n L d.l d.ns bd []) K→F (.ptr b 0) v t H K
theorem Qg{lv:List bM}{L:List (List (List Nat))}{ns:List (List Nat)}(h:lv.map bM.ns=L++[ns])(s:List Nat):decide (∃d∈lv,s∈d.ns)=mu L ns s:=by
 unfold mu;have e:L.flatten++ns=(lv.map bM.ns).flatten:=by rw[h];simp
 rw[e];congr 1;simp only[List.mem_flatten,List.mem_map,eq_iff_iff];constructor
 ·rintro⟨d,hd,hs⟩;exact⟨d.ns,⟨d,hd,rfl⟩,hs⟩
 ·rintro⟨_,⟨d,hd,rfl⟩,hs⟩;exact⟨d,hd,hs⟩
theorem e77{R:dP}{n:Nat}{e:al}(h10:R.1=g10)(h62:R.2.2.1=f62)(h83:R.2.2.2.2=f83)(hE:∀k a nn s op l fs,e=.mk k a nn s op l fs→∀x∈l,PE R.2.2.2.1 n x)(hB:∀k a nn s op l fs,e=.mk k a nn s op l fs→∀f∈fs,∃n',n=n'+1∧∀ps bd,f=.mk ps bd→Ib R.2.1 (.func 84 [] []) n' bd):PE (Sj R) (n+1) e:=by
 refine⟨λ{K H S lo b vL v lv L ns} hP hlv hv hw hR hK=>?_⟩;obtain⟨c,rfl,e1⟩:=hv;obtain⟨k,a,nn,s,op,l,fs⟩:=e;have hE:=hE k a nn s op l fs rfl;have hB:=hB k a nn s op l fs rfl;simp only[al.sz]at hR;simp only[al.wg]at hw;obtain⟨w6,ou,wgf⟩:=hw;have hll:=nB l;have hfl:=A8 fs;have hr1:=hR.1;have i6:Int.ofNat 6=((6:Nat):Int):=rfl;have gu:G.NL=1000000:=rfl;show Fa R K (E0 R K) (yW R K (s6 R K G.NL)) (.ptr b 0) (.agg c) H;unfold Fa;refine Hf hP.m e1.ones λH1 S1 m1 x1 o1 n1=>?_;have P1:=hP.ext m1 x1;have hnew:=hP.new;have hxl:S.n<S1.n:=by omega
 obtain⟨vl,vf,rfl,h8,L0,F0⟩:=e1.out;have uT:∀x,x<lo→S1.ob x=S.ob x:=λx hx=>x1.ob x (Nat.lt_of_lt_of_le hx hP.l);have L1:=lZ L0 uT;have F1:=NY F0 uT;have bx:∀{S2:LS}{xU:AV}{Ga:List bM},ey b S1 S2 vL lv xU Ga→S2.ob S.n=.ce [.int 0 (k:Int),.int 0 (a:Int),.int 0 (nn:Int),ai s,.int 0 (op:Int),vl,vf] 0:=λst=>(st.ob _ hxl hnew).trans o1;have pend:∀{e:Nat×Nat}{S2:LS}{xU:AV}{Ga:List bM},kE (n+1) L ns (.mk k a nn s op l fs)=some e→ey b S1 S2 vL lv xU Ga→Bc lo S2 K e:=λhe st=>(hK.2 _ he).le (by have:=st.n;omega) λx hx=>(P1.low st x hx).trans (uT x hx);have arX:∀(q i:Nat) (dE:AV) (H':AH) (S':LS),i≤fs.length→fs.length-i<q→Pn lo b H' S' dE lv→(k=6∧mu L ns s=false∧s∉builtins→False)→bG (kE n L ns) l=none→bG (kF n (L++[ns])) (fs.take i)=none→ey b S1 S' vL lv dE lv→rh R K q (.ptr b 0) vf (fs.length:Int) (i:Int) H':=by
  intro q
  induction q with
  |zero=>intro i _ _ _ _ h;omega
  |succ q ih=>
   intro i dE H' S' hi hq P2 hno hel he0 st2;have hpre:∀{e:Nat×Nat},bG (kF n (L++[ns])) fs=some e→kE (n+1) L ns (.mk k a nn s op l fs)=some e:=λhe=>by
    rw[kE,if_neg (λg=>hno g),eP,hel,eP,he]
   show E5 R K (yV R K (wy R K (rh R K q))) (.ptr b 0) vf (fs.length:Int) (i:Int) H';unfold E5;rw[cz];refine bR (λg=>?_) (λg=>?_)
   rotate_left
   ·have e:i=fs.length:=by omega
    subst e;rw[List.take_length]at he0;refine hK.1 ?_ H' S' dE P2 (x1.ov.trans st2);rw[kE,if_neg (λg=>hno g),eP,hel,eP,he0]
   have hil:i<fs.length:=by omega
   obtain⟨f,hf⟩:∃f,fs[i]? = some f:=⟨_,List.getElem?_eq_getElem hil⟩
   have hfm:=List.mem_of_getElem? hf;have hfs:=tm hf;have hfw:=Ba wgf hf;obtain⟨cf,t1,u1⟩:=NY F1 (P1.low st2);have f1:=u1 i f hf;refine t1.load P2.m hil ?_;refine rY P2.m aoZ rfl f1.len f1.ones λH3 S3 m3 x3 o3 n3=>?_;have P3:=P2.ext m3 x3;obtain⟨n',hn',hwi⟩:=hB f hfm;obtain⟨ps,bd⟩:=f;have hwi:=hwi ps bd rfl;simp only[eV.sz]at hfs;have hfw:kv bd:=hfw;have f2:RF S3 (fi lo) (cf i) (.mk ps bd):=f1.go (λx hx=>x3.ob x (Nat.lt_of_lt_of_le hx P2.l)) λ_ h=>h;obtain⟨vp,vb,c5,N5,B5⟩:=f2.out;rw[c5]at o3;simp only[bV,aM,Nat.zero_add];refine az m3 P3.p.ob (v:=dE) rfl ?_;refine az m3 o3 (v:=vp) rfl ?_;rw[h83];refine arW m3 N5 (λx hx=>Nat.lt_of_lt_of_le hx P3.l) (by omega) λH4 S4 v4 m4 x4 fr4 b4=>?_;have P4:=P3.ext m4 x4;rw[aj];refine az m4 P4.p.ob (v:=dE) rfl ?_;refine cG (afH P4.p.fL) ?_;refine eY fr4.one ?_;refine m4.cP ?_;refine dp m4 (l:=[v4,aG 0]) (λa ha=>by
    simp only[List.mem_cons,List.not_mem_nil,or_false]at ha;rcases ha with rfl|rfl
    ·exact fr4.one
    ·rfl) λH5 m5=>?_
   have m5:Mem H5 (S4.push (.ce [v4,aG 0] 0)):=m5;have x5:Ext S4 (S4.push (.ce [v4,aG 0] 0)):=Ext.push _ _;have o5:(S4.push (.ce [v4,aG 0] 0)).ob S4.n=.ce [v4,aG 0] 0:=LS.av _ _;have n5:(S4.push (.ce [v4,aG 0] 0)).n=S4.n+1:=rfl;rw[m5.n,m4.n];refine cG (by show Nat.beq (S4.n+1) (S4.n+1)=true;exact Nat.beq_refl _) ?_;revert m5 x5 o5 n5;generalize S4.push (.ce [v4,aG 0] 0)=S5;intro m5 x5 o5 n5;refine m5.cP ?_;refine eY rfl ?_;refine dj m5 rfl (λa ha=>by simp only[List.mem_singleton]at ha;subst ha;rfl) λH6 m6=>?_;have m6:Mem H6 (S5.push (.ce [.ptr S4.n 0] 0)):=m6;have x6:Ext S5 (S5.push (.ce [.ptr S4.n 0] 0)):=Ext.push _ _;have o6:(S5.push (.ce [.ptr S4.n 0] 0)).ob S5.n=.ce [.ptr S4.n 0] 0:=LS.av _ _;have n6:(S5.push (.ce [.ptr S4.n 0] 0)).n=S5.n+1:=rfl;rw[m6.n];refine cG (by show Nat.beq (S5.n+1) (S5.n+1)=true;exact Nat.beq_refl _) ?_;revert m6 x6 o6 n6;generalize S5.push (.ce [.ptr S4.n 0] 0)=S6;intro m6 x6 o6 n6;have x46:=x5.trans x6;have P6:=P4.ext m6 x46;have lt4:∀{x},mI b dE lv x→x<S4.n:=λg=>P4.p.iv m4 g;have hr6:jN S6 (λ_=>True) (.slice S5.n 0 1 1 1 true) [.ptr S4.n 0]:=.inr ⟨S5.n,0,1,true,[.ptr S4.n 0],0,rfl,by simp,trivial,o6,by simp,rfl⟩;have hbb:((lv.map λd=>AV.ptr d.p 0).length+[AV.ptr S4.n 0].length)*8≤1099511627776:=by
    rw[List.length_map,List.length_singleton];omega
   refine qJ m6 P6.p.fL hr6 hbb (λa ha=>by simp only[List.mem_singleton]at ha;subst ha;rfl) λH7 S7 rJ m7 n7 k7 f7 b7 _ _ _=>?_;have hbv:¬ak dE b:=P4.p.bL;have hbl:b<S4.n:=lt4 (.inl rfl);have e7:S7.ob b=.ce [dE] 0:=(k7 b (by omega) hbv).trans P6.p.ob;have hvL:∀x,ak dE x→x<S4.n:=λx hx=>lt4 (.inr (.inl hx));have b7':∀x,ak rJ x→ak dE x∨S6.n≤x:=b7;refine bJ m7 e7 (by omega) (by show 0<1;omega) f7.one λH8 m8=>?_;have m8:Mem H8 (S7.set b (.ce [rJ] 0)):=m8;have k8:∀x,x≠b→(S7.set b (.ce [rJ] 0)).ob x=S7.ob x:=λx hx=>LS.aq _ _ hx;have o8:(S7.set b (.ce [rJ] 0)).ob b=.ce [rJ] 0:=LS.ay _ _ _;have n8:(S7.set b (.ce [rJ] 0)).n=S7.n:=rfl;revert m8 k8 o8 n8;generalize S7.set b (.ce [rJ] 0)=S8;intro m8 k8 o8 n8;have q4:S8.ob S4.n=.ce [v4,aG 0] 0:=by
    rw[k8 _ (by omega),k7 _ (by omega) λg=>by have:=hvL _ g;omega,x6.ob _ (by omega)];exact o5
   have kb:∀x,x<S4.n→x≠b→¬ak dE x→S8.ob x=S4.ob x:=λx hx hne hb=>by
    rw[k8 x hne,k7 x (by omega) hb,x46.ob x hx]
   have apa:∀x,ak v4 x→x<S4.n:=λx hx=>fr4.lt m4 hx;have agh:∀x,ak v4 x→x≠b∧¬ak dE x:=λx hx=>by
    have h1:=b4 x hx;have h2:=P3.p.iv m3 (x:=b) (.inl rfl);refine⟨by omega,λg=>?_⟩;have:=P3.p.iv m3 (x:=x) (.inr (.inl g));omega
   have fr8:dY S8 v4 (ps.map ai):=fr4.keep m4 λx hx hlt=>kb x hlt (agh x hx).1 (agh x hx).2;have f8:dY S8 rJ ((lv++[bM.mk S4.n v4 ps 0]).map λd=>AV.ptr d.p 0):=by
    rw[List.map_append];exact f7.keep m7 λx hx _=>k8 x λg=>by
     rcases b7' x hx with w|w
     ·exact hbv (g ▸ w)
     ·omega
   obtain⟨p8,Ay⟩:=P3.p.push (S':=S8) m3 P3.l o8 f8 q4 fr8 N5.2 x4.n b4 (λg=>by have:=apa _ g;omega) (λx hx=>(b7' x hx).imp id λw=>by have:=x4.n;omega) (λg=>by
    rcases b7' _ g with w|w
    ·have:=hvL _ w;omega
    ·omega) (λx hx g=>by
    have h1:=apa x g;rcases b7' x hx with w|w
    ·exact(agh x g).2 w
    ·omega) (by have:=x4.n;omega) (λx hx hne hb=>(kb x (by have:=x4.n;omega) hne hb).trans (x4.ob x hx))
   have P8:=P3.step m8 Ay p8;have apb:=st2.trans (x3.ov.trans Ay);have o38:=((x3.ov (b:=b) (vL:=dE) (lv:=lv)).trans Ay).ob;show yV R K (wy R K (rh R K q)) (.ptr b 0) (.ptr S'.n 0) vf (fs.length:Int) (i:Int) H8;unfold yV;have q3:S8.ob S'.n=.ce [vp,vb] 0:=(Ay.ob _ (by omega) P2.new).trans o3;simp only[bV,aM,Nat.zero_add];refine az m8 q3 (v:=vb) rfl ?_;have eKF:bG (kF n (L++[ns])) (fs.take (i+1))=kB n' (L++[ns]) 0 ps bd []:=by
    rw[jS _ _ _ hf,he0,eP];subst hn';rw[kF]
   refine hwi.run P8 hlv (zd B5 (P3.low Ay)) hfw ⟨?_,?_⟩ ⟨λhnn H9 S9 vL9 v9 P9 st9=>?_,λe he=>?_⟩
   ·rw[List.length_append,List.length_singleton];omega
   ·intro d hd;rcases List.mem_append.1 hd with g|g
    ·have:=hR.2 d g;omega
    ·rw[List.mem_singleton]at g;subst g;show ps.length+_≤_∧0+_≤_;omega
   ·show cR K (.ret (.aP [])) H9 _;rw[aj];refine az P9.m P9.p.ob (v:=vL9) rfl ?_;refine az P9.m P9.p.ob (v:=vL9) rfl ?_;refine P9.p.fL.len ?_;rw[aK,List.length_map,List.length_append,List.length_singleton];simp only[kW,dX];refine w0 (by omega) (by omega) ?_;have ep:((lv.length+1:Nat):Int)-1=(lv.length:Int):=by omega
    rw[ep];refine qp P9.p.fL (by rw[List.length_map,List.length_append,List.length_singleton];omega) λw1 fw bw _ _=>?_;rw[List.map_append,List.take_left' (by simp)]at fw;refine bJ P9.m P9.p.ob (by omega) (by show 0<1;omega) fw.one λHa ma=>?_;have ma:Mem Ha (S9.set b (.ce [w1] 0)):=ma;have ka:∀x,x≠b→(S9.set b (.ce [w1] 0)).ob x=S9.ob x:=λx hx=>LS.aq _ _ hx;obtain⟨pa,sta⟩:=P9.p.pop (S':=S9.set b (.ce [w1] 0)) P9.m (LS.ay _ _ _) (fw.keep P9.m λx hx _=>ka x λg=>P9.p.bL (g ▸ (bw x).1 hx)) (λx hx=>(bw x).1 hx) (Nat.le_refl _) ka;have Pa:=P9.step ma sta pa;show wy R K (rh R K q) (.ptr b 0) vf (fs.length:Int) (i:Int) Ha;unfold wy;rw[dh,dX];refine w0 (by omega) (by omega) ?_;exact ih (i+1) w1 Ha _ (by omega) (by omega) Pa hno hel (eKF.trans hnn) (apb.trans (st9.trans sta))
   ·intro H9 S9 m9 n9 k9;show cR K (.cM _) H9 _;rw[ik];refine(pend (hpre (wQ _ _ (i+1) (eKF.trans he))) apb) H9 S9 m9 n9 k9
 have arY:∀(q i:Nat) (dE:AV) (H':AH) (S':LS),i≤l.length→l.length-i<q→Pn lo b H' S' dE lv→(k=6∧mu L ns s=false∧s∉builtins→False)→bG (kE n L ns) (l.take i)=none→ey b S1 S' vL lv dE lv→s6 R K q (.ptr b 0) (.ptr S.n 0) vl (l.length:Int) (i:Int) H':=by
  intro q
  induction q with
  |zero=>intro i _ _ _ _ h;omega
  |succ q ih=>
   intro i dE H' S' hi hq P2 hno he0 st2;show E9 R K (s6 R K q) (E8 R K (rh R K G.NL)) (.ptr b 0) (.ptr S.n 0) vl (l.length:Int) (i:Int) H';unfold E9;simp only[jy];rw[cz];refine bR (λg=>?_) (λg=>?_)
   rotate_left
   ·have e:i=l.length:=by omega
    subst e;rw[List.take_length]at he0;unfold E8;simp only[aM,Nat.zero_add];refine az P2.m (bx st2) (v:=vf) rfl ?_;refine(NY F1 (P1.low st2)).choose_spec.1.len ?_;rw[aK];exact arX G.NL 0 dE H' S' (Nat.zero_le _) (by omega) P2 hno he0 rfl st2
   have hil:i<l.length:=by omega
   obtain⟨e,he⟩:∃e,l[i]? = some e:=⟨_,List.getElem?_eq_getElem hil⟩
   have hem:=List.mem_of_getElem? he;have hsz:=j2 he;obtain⟨cl,s1,g1⟩:=lZ L1 (P1.low st2);have e1:=g1 i e he;refine s1.load P2.m hil ?_;refine rY P2.m fg rfl e1.len e1.ones λH3 S3 m3 x3 o3 n3=>?_;refine gH m3 o3 e1.len ?_;have P3:=P2.ext m3 x3;refine(hE e hem).run P3 hlv ⟨_,rfl,e1.go (λx hx=>x3.ob x (Nat.lt_of_lt_of_le hx P2.l)) λ_ h=>h⟩ (qx ou he) (hR.le (by omega)) ⟨λhn H4 S4 Gk P4 eZ=>?_,λp hp H4 S4 m4 n4 k4=>?_⟩
   ·show cR K (.ret (.aP [])) H4 _;rw[aj,dh,dX];refine w0 (by omega) (by omega) ?_;refine ih (i+1) Gk H4 S4 (by omega) (by omega) P4 hno ?_ (st2.trans (x3.ov.trans eZ));rw[jS _ _ _ he,he0,hn];rfl
   ·show cR K (.cM _) H4 _;rw[ik];refine(pend (e:=p) ?_ (st2.trans x3.ov)) H4 S4 m4 n4 k4;rw[kE,if_neg (λg=>hno g),eP,wQ _ _ (i+1) (by rw[jS _ _ _ he,he0,hp];rfl)];rfl
 have rest:∀(H2:AH) (S2:LS),Mem H2 S2→Ext S1 S2→(k=6∧mu L ns s=false∧s∉builtins→False)→yW R K (s6 R K G.NL) (.ptr b 0) (.ptr S.n 0) H2:=λH2 S2 m2 x2 hno=>by
  have P2:=P1.ext m2 x2;unfold yW;simp only[aM,Nat.zero_add];refine az m2 (bx x2.ov) (v:=vl) rfl ?_;refine(lZ L1 (P1.low (x2.ov (b:=b) (vL:=vL) (lv:=lv)))).choose_spec.1.len ?_;rw[aK];exact arY G.NL 0 vL H2 S2 (Nat.zero_le _) (by omega) P2 hno rfl x2.ov
 simp only[aM,Nat.zero_add];refine az m1 o1 (v:=.int 0 (k:Int)) rfl ?_;rw[aK,aZ,i6];by_cases k6:k=6
 ·rw[decide_eq_true (by omega),aH];refine az m1 o1 (v:=ai s) rfl ?_;rw[h62];refine hs62 m1 P1.p h8 (by omega) (λd hd=>by have:=(hR.2 d hd).1;omega) ?_;rw[aj,aN,Qg hlv];cases ha:mu L ns s with
  |true=>
   simp only[Bool.not_true,aI];exact rest H1 S1 m1 (Ext.refl _) λg=>by rw[ha]at g;cases g.2.1
  |false=>
   simp only[Bool.not_false,aH];refine az m1 o1 (v:=ai s) rfl ?_;rw[h10];refine aoX m1 P1.t h8 λH2 S2 m2 x2=>?_;rw[aj,aN];by_cases hb:s∈builtins
   ·rw[decide_eq_true hb];simp only[Bool.not_true,aI];exact rest H2 S2 m2 x2 λg=>g.2.2 hb
   ·rw[decide_eq_false hb];simp only[Bool.not_false,aH];unfold E0;simp only[aM,Nat.zero_add];refine az m2 (bx x2.ov) (v:=.int 0 (a:Int)) rfl ?_;rw[aK];refine(pend (e:=(14,a)) ?_ x2.ov) H2 S2 m2 (Nat.le_refl _) λ_ _=>rfl;rw[kE,if_pos ⟨k6,ha,hb⟩,qz]
 ·rw[decide_eq_false (by omega),aI];exact rest H1 S1 m1 (Ext.refl _) λg=>k6 g.1
end
end Go.Proofs.YtcedghechlgecaaDoor
namespace Go.X
section
variable {H:AH}{S S':LS}
section
variable {lo b:Nat}{vL:AV}{lv:List bM}{d:bM}
theorem gv.Ic{k:AV→Prop}(h:gv lo b S vL (lv++[d]))(hM:Mem H S)(hk:k d.v):au (.ptr d.p 0) (ag 0 (.ptr d.p 0) λv=>ad v H k):=by
 simp only[bV,aM,Nat.zero_add];exact az hM (h.lb d (List.mem_append_right _ (List.mem_singleton_self _))) (v:=d.v) rfl hk
theorem gv.ldl{k:Int→Prop}(h:gv lo b S vL (lv++[d]))(hM:Mem H S)(hk:k (d.l:Int)):au (.ptr d.p 0) (ag 1 (.ptr d.p 0) λv=>ad v H λv3=>cI 0 v3 k):=by
 simp only[bV,aM,Nat.zero_add];refine az hM (h.lb d (List.mem_append_right _ (List.mem_singleton_self _))) (v:=aG d.l) rfl ?_;show cI 0 (.int 0 _) _;rw[aK];exact hk
end
theorem ajW{n:Nat}{L:List (List (List Nat))}{lp:Nat}{r:List (List Nat)×Err}{b:List aA}(i:Nat){e:Nat×Nat}(h:((b.take i).foldl (kS n L lp) r).2=some e):(b.foldl (kS n L lp) r).2=some e:=by
 have h2:b.foldl (kS n L lp) r=(b.drop i).foldl (kS n L lp) ((b.take i).foldl (kS n L lp) r):=by
  rw[←List.foldl_append,List.take_append_drop]
 rw[h2];generalize (b.take i).foldl (kS n L lp) r=q at h;obtain⟨m,er⟩:=q;rw[Gj];have h:er=some e:=h;subst h;rfl
end
end Go.X
namespace Go.Proofs.YtcedghechlgecaaDoor
open Go Go.X Go.Proofs.YtcedghechlgecaaDoor.G
section
variable {H H':AH}{S S':LS}{K:KF}
theorem Rp.last{lv:List bM}{d:bM}{z z' p l':Nat}{v:AV}{ns':List (List Nat)}(h:Rp (lv++[d]) z)(h1:z'≤z)(h2:ns'.length+z'≤d.ns.length+z)(h3:l'+z'≤d.l+z):Rp (lv++[bM.mk p v ns' l']) z':=by
 refine⟨?_,λa ha=>?_⟩
 ·have:=h.1;rw[List.length_append,List.length_singleton]at this ⊢;omega
 ·rcases List.mem_append.1 ha with g|g
  ·have:=h.2 a (List.mem_append_left _ g);omega
  ·rw[List.mem_singleton]at g;subst g;have:=h.2 d (List.mem_append_right _ (List.mem_singleton_self _));show ns'.length+z'≤_∧l'+z'≤_;omega
structure Qh(C:AH→KF→Prop)(n lo b:Nat)(S0:LS)(wR:AV)(lv:List bM)(d0:bM)(L:List (List (List Nat)))(thn:List al):Prop where
 run:∀{K:KF}{H:AH}{S:LS}{vL:AV}{d:bM},Pn lo b H S vL (lv++[d])→ey b S0 S wR (lv++[d0]) vL (lv++[d])→d.p=d0.p→d.l=d0.l→lv.map bM.ns=L→Rp (lv++[d]) (bB thn+1)→PGo lo b S vL (lv++[d]) (bG (kE n L d.ns) thn) K→C H K
noncomputable def clo(ct:List (Nat×cY))(t:AV):AH→KF→Prop:=λH K=>ve t λg x y=>bT (fX Tryd.prog g) (jG ct g (x++([]++y)) H K)
structure PB(F:AV→AV→AV→AH→KF→Prop)(C:AV→AH→KF→Prop)(n:Nat)(bd:List aA)(thn:List al):Prop where
 run:∀{K:KF}{H:AH}{S:LS}{lo b:Nat}{vL v t:AV}{lv:List bM}{d:bM}{L:List (List (List Nat))},Pn lo b H S vL (lv++[d])→lv.map bM.ns=L→fY S (fi lo) v bd→kv bd→Qh (C t) n lo b S vL lv d L thn→Rp (lv++[d]) (dO bd+bB thn+1)→PGs lo b S vL lv d (d.ns,kB (n+1) L d.l d.ns bd thn) K→F (.ptr b 0) v t H K
structure lQ(F:AV→AV→AH→KF→Prop)(n:Nat)(s:aA):Prop where
 run:∀{K:KF}{H:AH}{S:LS}{lo b:Nat}{vL v:AV}{lv:List bM}{d:bM}{L:List (List (List Nat))},Pn lo b H S vL (lv++[d])→lv.map bM.ns=L→rvS S (fi lo) v s→s.wg→Rp (lv++[d]) s.sz→PGs lo b S vL lv d (kS n L d.l (d.ns,none) s) K→F (.ptr b 0) v H K
theorem b20{R:iU}{n:Nat}{bd:List aA}{thn:List al}(h44:R.2.2.1=f44)(hS:∀s∈bd,lQ R.2.2.2.1 n s):PB (Sc R) (clo (jC R)) n bd thn:=by
 refine⟨λ{K H S lo b vL v t lv d L} hP hL hb hwb hC hR hK=>?_⟩;have hbl:=A7 bd;have hr1:=hR.1;have hd:d∈lv++[d]:=List.mem_append_right _ (List.mem_singleton_self _);have hrd:=hR.2 d hd;rw[List.length_append,List.length_singleton]at hr1;show EH R K (wh R K G.NL) (.ptr b 0) v t H;unfold EH;rw[h44];refine agf hP.m hP.p (by omega) ?_;rw[aj];refine hP.p.Ic hP.m ?_;refine(hP.p.ln d hd).len ?_;rw[aK,List.length_map];refine hb.choose_spec.1.len ?_;rw[aK];have kbE:∀{e:Nat×Nat},(bd.foldl (kS n L d.l) (d.ns,none)).2=some e→kB (n+1) L d.l d.ns bd thn=some e:=λh=>by
  rw[kB,h,qz]
 have loop:∀(q i:Nat) (dE v':AV) (H':AH) (S':LS),i≤bd.length→bd.length-i<q→Pn lo b H' S' dE (lv++[bM.mk d.p v' ((bd.take i).foldl (kS n L d.l) (d.ns,none)).1 d.l])→((bd.take i).foldl (kS n L d.l) (d.ns,none)).2=none→ey b S S' vL (lv++[d]) dE (lv++[bM.mk d.p v' ((bd.take i).foldl (kS n L d.l) (d.ns,none)).1 d.l])→wh R K q (.ptr b 0) t (.ptr d.p 0) (d.ns.length:Int) v (bd.length:Int) (i:Int) H':=by
  intro q
  induction q with
  |zero=>intro i _ _ _ _ _ h;omega
  |succ q ih=>
   intro i dE v' H' S' hi hq P1 he0 st1;show EG R K (wh R K q) (EF R K) (.ptr b 0) t (.ptr d.p 0) (d.ns.length:Int) v (bd.length:Int) (i:Int) H';unfold EG;rw[cz];have lw:=hP.low st1;obtain⟨x,ex,hx⟩:=wO n L d.l (bd.take i) (d.ns,none);have ex:((bd.take i).foldl (kS n L d.l) (d.ns,none)).1=d.ns++x:=ex;have hxl:((bd.take i).foldl (kS n L d.l) (d.ns,none)).1.length≤d.ns.length+dO (bd.take i):=by
    rw[ex,List.length_append];omega
   refine bR (λg=>?_) (λg=>?_)
   ·have hil:i<bd.length:=by omega
    obtain⟨s,hs⟩:∃s,bd[i]? = some s:=⟨_,List.getElem?_eq_getElem hil⟩
    have hsm:=List.mem_of_getElem? hs;have t1:=NX hs;have t2:=zc bd (i+1);obtain⟨cl,s1,g1⟩:=zd hb lw;have e1:=g1 i s hs;refine s1.load P1.m hil ?_;refine rY P1.m (z:=[.int 0 (.ofNat 0),.int 0 (.ofNat 0),.ab,.ab,.ab]) (λa ha=>by
     simp only[List.mem_cons,List.not_mem_nil,or_false]at ha;rcases ha with rfl|rfl|rfl|rfl|rfl<;>rfl) rfl e1.len e1.ones λH2 S2 m2 x2 o2 n2=>?_
    refine gH m2 o2 e1.len ?_;have P2:=P1.ext m2 x2;have er:(bd.take i).foldl (kS n L d.l) (d.ns,none)=(((bd.take i).foldl (kS n L d.l) (d.ns,none)).1,none):=Prod.ext rfl he0;have enx:(bd.take (i+1)).foldl (kS n L d.l) (d.ns,none)=kS n L d.l (((bd.take i).foldl (kS n L d.l) (d.ns,none)).1,none) s:=by
     rw[rn hs,List.foldl_append,←er];rfl
    refine(hS s hsm).run P2 hL ⟨_,rfl,e1.go (λx hx=>x2.ob x (Nat.lt_of_lt_of_le hx P1.l)) λ_ h=>h⟩ (Bb hwb hs) (hR.last (by omega) (by omega) (by omega)) ⟨λhn H3 S3 kV v3 P3 bP=>?_,λe he=>?_⟩
    ·show cR K (.ret (.aP [])) H3 _;rw[aj,dh,dX];refine w0 (by omega) (by omega) ?_;have P3:Pn lo b H3 S3 kV (lv++[bM.mk d.p v3 (kS n L d.l (((bd.take i).foldl (kS n L d.l) (d.ns,none)).1,none) s).1 d.l]):=P3;have bP:ey b S2 S3 dE (lv++[bM.mk d.p v' ((bd.take i).foldl (kS n L d.l) (d.ns,none)).1 d.l]) kV (lv++[bM.mk d.p v3 (kS n L d.l (((bd.take i).foldl (kS n L d.l) (d.ns,none)).1,none) s).1 d.l]):=bP;have hn:(kS n L d.l (((bd.take i).foldl (kS n L d.l) (d.ns,none)).1,none) s).2=none:=hn;rw[←enx]at P3 bP hn;exact ih (i+1) kV v3 H3 S3 (by omega) (by omega) P3 hn (st1.trans (x2.ov.trans bP))
    ·intro H3 S3 m3 n3 k3;show cR K (.cM _) H3 _;rw[ik];have he:(kS n L d.l (((bd.take i).foldl (kS n L d.l) (d.ns,none)).1,none) s).2=some e:=he;rw[←enx]at he;refine hK.2 e (kbE (ajW (i+1) he)) H3 S3 m3 (by have:=st1.n;have:=x2.n;omega) λx hx=>?_;rw[k3 x hx,x2.ob x (Nat.lt_of_lt_of_le hx P1.l),lw x hx]
   ·have e:i=bd.length:=by omega
    subst e;rw[List.take_length]at P1 he0 st1 ex hxl;unfold EF;refine hC.run (K:=λo1 H2=>cR K o1 H2 _) P1 st1 rfl rfl hL (hR.last (by omega) (by omega) (by omega)) ⟨λhn H3 S3 kV P3 bP=>?_,λe he=>?_⟩
    ·show cR K (.ret (.aP [])) H3 _;rw[aj];refine P3.p.Ic P3.m ?_;refine P3.p.cut P3.m P3.l (ns:=d.ns) (e:=x) ex λH4 S4 v4 m4 eZ p4=>?_;refine hK.1 ?_ H4 S4 kV v4 (P3.step m4 eZ p4) (st1.trans (bP.trans eZ));show kB (n+1) L d.l d.ns bd thn=none;rw[kB,he0,eP];exact hn
    ·intro H3 S3 m3 n3 k3;show cR K (.cM _) H3 _;rw[ik];refine hK.2 e ?_ H3 S3 m3 (by have:=st1.n;omega) λx hx=>?_
     ·show kB (n+1) L d.l d.ns bd thn=some e;rw[kB,he0,eP];exact he
     ·rw[k3 x hx,lw x hx]
 have gu:G.NL=1000000:=rfl;generalize G.NL=eW at gu ⊢;exact loop eW 0 vL d.v H S (Nat.zero_le _) (by omega) hP rfl ey.refl
theorem ahP{C:AH→KF→Prop}{n lo b:Nat}{S0:LS}{wR:AV}{lv:List bM}{d0:bM}{L:List (List (List Nat))}(h:∀H K,K (.ret (.aP [])) H→C H K):Qh C n lo b S0 wR lv d0 L []:=
 ⟨λ{K H S vL d} hP _ _ _ _ _ hK=>h H K (hK.1 rfl H S vL hP ey.refl)⟩
theorem PB.zero{F:AV→AV→AV→AH→KF→Prop}{C:AV→AH→KF→Prop}{n:Nat}{bd:List aA}{t:AV}(h:PB F C n bd [])(ht:∀H K,K (.ret (.aP [])) H→C t H K):Ib F t (n+1) bd:=
 ⟨λhP hL hb hw hR hK=>h.run hP hL hb hw (ahP ht) (hR.le (by simp only[bB];omega)) hK⟩
section
variable {R:iU}
theorem apc(h:R.2.1=f21):∀H K,K (.ret (.aP [])) H→clo (jC R) (.func 21 [] []) H K:=λH K hk=>by
 show bT (fX Tryd.prog 21) (jG (jC R) 21 [] H K);refine cG (by kernel_rfl) ?_;show R.2.1 H K;rw[h];exact hk
theorem apd(h:R.2.2.2.2.2.2.1=f67):∀H K,K (.ret (.aP [])) H→clo (jC R) (.func 67 [] []) H K:=λH K hk=>by
 show bT (fX Tryd.prog 67) (jG (jC R) 67 [] H K);refine cG (by kernel_rfl) ?_;show R.2.2.2.2.2.2.1 H K;rw[h];exact hk
theorem ape(h:R.2.2.2.2.2.2.2.2.1=f79):∀H K,K (.ret (.aP [])) H→clo (jC R) (.func 79 [] []) H K:=λH K hk=>by
 show bT (fX Tryd.prog 79) (jG (jC R) 79 [] H K);refine cG (by kernel_rfl) ?_;show R.2.2.2.2.2.2.2.2.1 H K;rw[h];exact hk
theorem apf(h:R.2.2.2.2.2.2.2.2.2=f84):∀H K,K (.ret (.aP [])) H→clo (jC R) (.func 84 [] []) H K:=λH K hk=>by
 show bT (fX Tryd.prog 84) (jG (jC R) 84 [] H K);refine cG (by kernel_rfl) ?_;show R.2.2.2.2.2.2.2.2.2 H K;rw[h];exact hk
theorem apg{R:kT}(h:R.2.2.2.1=f65):∀H K,K (.ret (.aP [])) H→clo (nr R) (.func 65 [] []) H K:=λH K hk=>by
 show bT (fX Tryd.prog 65) (jG (nr R) 65 [] H K);refine cG (by kernel_rfl) ?_;show R.2.2.2.1 H K;rw[h];exact hk
end
end
end Go.Proofs.YtcedghechlgecaaDoor
namespace Go.X
section
variable {H:AH}{S S':LS}
section
variable {lo b:Nat}{vL:AV}{lv:List bM}{d:bM}
theorem gv.app'{Q:Nat→Prop}{z:Nat}{a1:AV}{l:List (List Nat)}{k:AH→Prop}(h:gv lo b S vL (lv++[d]))(hM:Mem H S)(hlo:lo≤S.n)(hz:S.ob z=.ce [.ptr d.p 0] 0)(hzl:z<S.n)(hzo:¬mI b vL (lv++[d]) z)(hr:jN S Q a1 (l.map ai))(h8:∀t∈l,B8 t)(hl:d.ns.length+l.length≤1000000)
  (hk:∀H' S' v',Mem H' S'→ey b S S' vL (lv++[d]) vL (lv++[{ d with v:=v',ns:=d.ns++l }])→gv lo b S' vL (lv++[{ d with v:=v',ns:=d.ns++l }])→k H'):cO 1 16 d.v a1 H λv14 dZ=>ad (.ptr z 0) dZ λv9=>bT (bu v9 (.ptr d.p 0)) (au (.ptr d.p 0) (ag 0 (.ptr d.p 0) λv16=>ah 1 v16 v14 dZ k)):=by
 have hd:d∈lv++[d]:=List.mem_append_right _ (List.mem_singleton_self _);have hdp:d.p<S.n:=h.iv hM (.inr (.inr ⟨d,hd,.inl rfl⟩));have hbb:((d.ns.map ai).length+(l.map ai).length)*16≤1099511627776:=by
  rw[List.length_map,List.length_map];omega
 refine qJ hM (h.ln d hd) hr hbb (λa ha=>by obtain⟨t,_,rfl⟩:=List.mem_map.1 ha;rfl) λH1 S1 v1 m1 n1 k1 f1 b1 _ _ _=>?_;have e1:S1.ob d.p=.ce [d.v,aG d.l] 0:=(k1 _ hdp (h.pv d hd)).trans (h.lb d hd);refine az m1 ((k1 z hzl λg=>hzo (.inr (.inr ⟨d,hd,.inr g⟩))).trans hz) (v:=.ptr d.p 0) rfl ?_;refine cG (by simp[bu]) ?_;simp only[bV,aM,Nat.zero_add];refine bJ m1 e1 (by omega) (by show 0<2;omega) f1.one λH2 m2=>?_;have m2:Mem H2 (S1.set d.p (.ce [v1,aG d.l] 0)):=m2;have k2:∀x,x≠d.p→(S1.set d.p (.ce [v1,aG d.l] 0)).ob x=S1.ob x:=λx hx=>LS.aq _ _ hx;have hpv:¬ak v1 d.p:=λg=>(b1 _ g).elim (h.pv d hd) (by omega);have hk3:∀x,x<S.n→x≠d.p→¬ak d.v x→(S1.set d.p (.ce [v1,aG d.l] 0)).ob x=S.ob x:=λx hx hne hb=>(k2 x hne).trans (k1 x hx hb);refine hk H2 _ v1 m2 (h.ov rfl b1 n1 hk3) (h.upd hM rfl (LS.ay _ _ _) ?_ ?_ hpv b1 hlo hk3)
 ·show dY _ v1 ((d.ns++l).map ai);rw[List.map_append];exact f1.keep m1 λx hx _=>k2 x λg=>hpv (g ▸ hx)
 ·intro t ht;exact(List.mem_append.1 ht).elim (h.n8 d hd t) (h8 t)
theorem arZ{g:Nat}{x y:List AV}{k:AV→AH→Prop}(hM:Mem H S)(hk:∀H' S',Mem H' S'→Ext S S'→S'.ob S.n=.ce [.func g x y] 0→S'.n=S.n+1→k (.ptr S.n 0) H'):mB (aE H) (.func g x y) k:=by
 show hN (aE H) [.func g x y] k;exact dp hM (λa ha=>by simp only[List.mem_singleton]at ha;subst ha;rfl) λH1 m1=>hk H1 _ m1 (Ext.push _ _) (LS.av _ _) rfl
theorem ar0{p o:Nat}{k:AV→AH→Prop}(hM:Mem H S)(hk:∀H' S',Mem H' S'→Ext S S'→S'.ob S.n=.ce [.ptr p o] 0→S'.n=S.n+1→k (.ptr S.n 0) H'):mB (aE H) (.ptr p o) k:=by
 show hN (aE H) [.ptr p o] k;exact dp hM (λa ha=>by simp only[List.mem_singleton]at ha;subst ha;rfl) λH1 m1=>hk H1 _ m1 (Ext.push _ _) (LS.av _ _) rfl
theorem box1{v z:AV}{k:AV→AH→Prop}(hM:Mem H S)(hz:z.one=true)(h1:v.one=true)(hk:∀H' S',Mem H' S'→Ext S S'→S'.ob S.n=.ce [v] 0→S'.n=S.n+1→k (.ptr S.n 0) H'):eI H (hN (aE H) [z] λv8 H9=>ah 1 v8 v H9 λcn=>k v8 cn):=by
 refine eT (dp hM (λa ha=>by simp only[List.mem_singleton]at ha;subst ha;exact hz) λH1 m1=>?_);refine bJ m1 (LS.av _ _) (by omega) (by show 0<1;omega) h1 λH2 m2=>?_;exact hk H2 _ m2 ((Ext.push S _).set (Nat.le_refl _) _) (LS.ay _ _ _) rfl
end
end
end Go.X
namespace Go.Proofs.YtcedghechlgecaaDoor
open Go Go.X Go.Proofs.YtcedghechlgecaaDoor.G
section
variable {H H':AH}{S S':LS}{K:KF}
theorem ar1{Of:iU}{qd:kT}{a6 a5 n lo b l1:Nat}{t vLb wR:AV}{Sb S0:LS}{lv:List bM}{db d0:bM}{L:List (List (List Nat))}{thn:List al}(h:Of.2.2.2.2.2.2.2.1=Fc qd)(o6:S0.ob a6=.ce [.ptr d0.p 0] 0)(o5:S0.ob a5=.ce [t] 0)(l6:a6<S0.n)(l5:a5<S0.n)(w6:¬mI b wR (lv++[d0]) a6)(w5:¬mI b wR (lv++[d0]) a5)(hl:d0.l=l1+1)(hb:ey b Sb S0 vLb (lv++[db]) wR (lv++[d0]))(hp:db.p=d0.p)(hdl:db.l=l1)(hT:Qh (clo (nr qd) t) n lo b Sb vLb lv db L thn):Qh (clo (jC Of) (.func 78 [] [.ptr a6 0,.ptr a5 0])) n lo b S0 wR lv d0 L thn:=by
 refine⟨λ{K H S vL d} hP st Qi hld hL hR hK=>?_⟩;obtain⟨p,v,ns,l⟩:=d;have Qi:p=d0.p:=Qi;have hld:l=d0.l:=hld;have hrl:l+(bB thn+1)≤800000:=(hR.2 (bM.mk p v ns l) (List.mem_append_right _ (List.mem_singleton_self _))).2;show bT (fX Tryd.prog 78) (jG (jC Of) 78 [.ptr a6 0,.ptr a5 0] H K);refine cG (by kernel_rfl) ?_;show Of.2.2.2.2.2.2.2.1 (.ptr a6 0) (.ptr a5 0) H K;rw[h];show Fb qd K (yX qd K) (.ptr a6 0) (.ptr a5 0) H;unfold Fb;have o6':=(st.ob _ l6 w6).trans o6;rw[←Qi]at o6';refine az hP.m o6' (v:=.ptr p 0) rfl ?_;refine hP.p.ldl hP.m ?_;show aC 0 (Int.sub (l:Int) (.ofNat 1)) _;simp only[kW,dX];refine w0 (by omega) (by omega) ?_;have el:(l:Int)-1=((l1:Nat):Int):=by omega
 rw[el];refine hP.p.ko (r:=l1) hP.m hP.l λH1 S1 m1 st1 p1=>?_;have st1:ey b S S1 vL (lv++[bM.mk p v ns l]) vL (lv++[bM.mk p v ns l1]):=st1;have p1:gv lo b S1 vL (lv++[bM.mk p v ns l1]):=p1;have P1:=hP.step m1 st1 p1;have o5':S1.ob a5=.ce [t] 0:=((st.trans st1).ob _ l5 w5).trans o5;refine az m1 o5' (v:=t) rfl ?_;refine hT.run (K:=λo9 cn=>cR K o9 cn λv11=>yX qd K (.ptr a6 0) cn) P1 (hb.trans (st.trans st1)) (Qi.trans hp.symm) hdl.symm hL (hR.last (Nat.le_refl _) (Nat.le_refl _) (by show l1+_≤l+_;omega)) ⟨λhn H2 S2 xU P2 st2=>?_,λe he H2 S2 m2 n2 k2=>?_⟩
 ·show cR K (.ret (.aP [])) H2 _;rw[aj];unfold yX;have ar2:S2.ob a6=.ce [.ptr p 0] 0:=by
   rw[Qi];exact((st.trans (st1.trans st2)).ob _ l6 w6).trans o6
  refine az P2.m ar2 (v:=.ptr p 0) rfl ?_;refine P2.p.ldl P2.m ?_;show aC 0 (Int.add (l1:Int) (.ofNat 1)) _;simp only[dh,dX];refine w0 (by omega) (by omega) ?_;have el:(l1:Int)+1=((l:Nat):Int):=by omega
  rw[el];refine P2.p.ko (r:=l) P2.m P2.l λH3 S3 m3 bP p3=>?_;have bP:ey b S2 S3 xU (lv++[bM.mk p v ns l1]) xU (lv++[bM.mk p v ns l]):=bP;have p3:gv lo b S3 xU (lv++[bM.mk p v ns l]):=p3;exact hK.1 hn H3 S3 xU (P2.step m3 bP p3) (st1.trans (st2.trans bP))
 ·show cR K (.cM _) H2 _;rw[ik];exact hK.2 e he H2 S2 m2 (by have:=st1.n;omega) λx hx=>(k2 x hx).trans (hP.low st1 x hx)
theorem ar3{qd:kT}{Qj:rU}{a2 a3 n lo b k a:Nat}{wR wn wl wb:AV}{H0:AH}{S0:LS}{lv:List bM}{d0:bM}{L:List (List (List Nat))}{l:List al}(h:qd.2.2.1=EX Qj)(hX:Qf Qj n l)(hP0:Pn lo b H0 S0 wR (lv++[d0]))(o2:S0.ob a2=.ce [.ptr b 0] 0)(o3:S0.ob a3=.ce [.int 0 (k:Int),.int 0 (a:Int),wn,wl,wb] 0)(l2:a2<S0.n)(l3:a3<S0.n)(w2:¬mI b wR (lv++[d0]) a2)(w3:¬mI b wR (lv++[d0]) a3)(hv:oq S0 (fi lo) wl l)(hw:jK l):Qh (clo (nr qd) (.func 64 [] [.ptr a2 0,.ptr a3 0])) n lo b S0 wR lv d0 L l:=by
 refine⟨λ{K H S vL d} hP st Qi hld hL hR hK=>?_⟩;show bT (fX Tryd.prog 64) (jG (nr qd) 64 [.ptr a2 0,.ptr a3 0] H K);refine cG (by kernel_rfl) ?_;show qd.2.2.1 (.ptr a2 0) (.ptr a3 0) H K;rw[h];show EW Qj K (.ptr a2 0) (.ptr a3 0) H;unfold EW;refine az hP.m ((st.ob _ l2 w2).trans o2) (v:=.ptr b 0) rfl ?_;refine fW ((st.ob _ l3 w3).trans o3) hP.m (j:=3) rfl ?_;refine hX.run hP (L:=L) (ns:=d.ns) (by rw[List.map_append,hL];rfl) (lZ hv (hP0.low st)) hw (hR.le (by omega)) ⟨λhn H2 S2 xU P2 st2=>?_,λe he H2 S2 m2 n2 k2=>?_⟩
 ·show cR K (.ret (.aP [])) H2 _;rw[aj];exact hK.1 hn H2 S2 xU P2 st2
 ·show cR K (.cM _) H2 _;rw[ik];exact hK.2 e he H2 S2 m2 n2 k2
structure PLp(F:AV→AV→AV→AH→KF→Prop)(C2:AV→AH→KF→Prop)(n k a:Nat)(nm:List (List Nat))(l:List al)(bs:List (List aA))(thn:List al):Prop where
 run:∀{K:KF}{H:AH}{S:LS}{lo b g:Nat}{vL v:AV}{ys:List AV}{lv:List bM}{d:bM}{L:List (List (List Nat))},Pn lo b H S vL (lv++[d])→lv.map bM.ns=L→rvS S (fi lo) v (.mk k a nm l bs)→oI bs→Qh (C2 (.func g [] ys)) n lo b S vL lv d L thn→Rp (lv++[d]) (nm.length+fI bs+bB thn+1)→PGs lo b S vL lv d (d.ns,bG (λbd=>kB (n+1) L (d.l+1) (if k=5∨k=8 then d.ns else d.ns++nm) bd thn) bs) K→F (.ptr b 0) v (.func g [] ys) H K
theorem l63{R:eL}{Of:iU}{qd:kT}{n k a:Nat}{nm:List (List Nat)}{l:List al}{bs:List (List aA)}{thn:List al}(h44:R.2=f44)(h78:Of.2.2.2.2.2.2.2.1=Fc qd)(hB:∀bd∈bs,PB R.1 (clo (jC Of)) n bd thn):PLp (IE R) (clo (nr qd)) n k a nm l bs thn:=by
 refine⟨λ{K H S lo b g vL v ys lv d L} hP hL hv hwb hC hR hK=>?_⟩;obtain⟨c,rfl,e1⟩:=hv;have hbl:=oH bs;have hr1:=hR.1;have hd:∀d':bM,d'∈lv++[d']:=λd'=>List.mem_append_right _ (List.mem_singleton_self _);have hrd:=hR.2 d (hd d);rw[List.length_append,List.length_singleton]at hr1;have i5:Int.ofNat 5=((5:Nat):Int):=rfl;have i8:Int.ofNat 8=((8:Nat):Int):=rfl;show EV R K (EU R K (ES R K (wx R K (pI R K G.NL))) (wx R K (pI R K G.NL))) (.ptr b 0) (.agg c) (.func g [] ys) H;unfold EV;have gu:G.NL=1000000:=rfl;generalize G.NL=eW at gu ⊢;refine Hf hP.m e1.ones λH1 S1 m1 x1 o1 n1=>?_;obtain⟨wn,wl,wb,rfl,N0,L0,B0⟩:=e1.out;refine arZ m1 λH2 S2 m2 x2 o2 n2=>?_;have P2:=hP.ext m2 (x1.trans x2);rw[h44];refine agf m2 P2.p (by omega) ?_;rw[aj];refine box1 m2 rfl rfl λH3 S3 m3 x3 o3 n3=>?_;have P3:=P2.ext m3 x3;have yx:=x1.trans (x2.trans x3);have uU:∀x,S.n≤x→¬mI b vL (lv++[d]) x:=λx hx g=>by have:=hP.p.iv hP.m g;omega
 have q1:S3.ob S.n=.ce [.int 0 (k:Int),.int 0 (a:Int),wn,wl,wb] 0:=(x3.ob _ (by omega)).trans ((x2.ob _ (by omega)).trans o1);have q2:S3.ob S1.n=.ce [.func g [] ys] 0:=(x3.ob _ (by omega)).trans o2;have SM:ey b S S3 vL (lv++[d]) vL (lv++[d]):=yx.ov;have agi:=hP.low SM;refine az m3 o3 (v:=.ptr d.p 0) rfl ?_;refine P3.p.Ic m3 ?_;refine(P3.p.ln d (hd d)).len ?_;rw[aK,List.length_map];have tail:∀(x qe:List (List Nat)) (H4:AH) (S4:LS) (v4:AV),qe=d.ns++x→x.length≤nm.length→qe=(if k=5∨k=8 then d.ns else d.ns++nm)→Pn lo b H4 S4 vL (lv++[bM.mk d.p v4 qe d.l])→ey b S3 S4 vL (lv++[d]) vL (lv++[bM.mk d.p v4 qe d.l])→wx R K (pI R K eW) (.ptr b 0) (.ptr S.n 0) (.ptr S1.n 0) (.ptr S2.n 0) (d.ns.length:Int) H4:=λx qe H4 S4 v4 hx hxl hns P4 eZ=>by
  rw[←hns]at hK;have hnl:qe.length≤d.ns.length+nm.length:=by
   rw[hx,List.length_append];omega
  unfold wx;refine fW ((eZ.ob _ (by omega) (uU _ (Nat.le_refl _))).trans q1) P4.m (j:=4) rfl ?_;have B3:=mV B0 agi;refine(mV B3 (P3.low eZ)).choose_spec.1.len ?_;rw[aK];have loop:∀(q i:Nat) (dE v':AV) (H':AH) (S':LS),i≤bs.length→bs.length-i<q→Pn lo b H' S' dE (lv++[bM.mk d.p v' qe d.l])→bG (λbd=>kB (n+1) L (d.l+1) qe bd thn) (bs.take i)=none→ey b S3 S' vL (lv++[d]) dE (lv++[bM.mk d.p v' qe d.l])→pI R K q (.ptr b 0) (.ptr S1.n 0) (.ptr S2.n 0) (d.ns.length:Int) wb (bs.length:Int) (i:Int) H':=by
   intro q
   induction q with
   |zero=>intro i _ _ _ _ _ h;omega
   |succ q ih=>
    intro i dE v' H' S' hi hq P5 he0 rp;show EP R K (yS R K (yR R K (pI R K q))) (EN R K) (.ptr b 0) (.ptr S1.n 0) (.ptr S2.n 0) (d.ns.length:Int) wb (bs.length:Int) (i:Int) H';unfold EP;rw[cz];have bx:∀{S6:LS}{Qk:AV}{Ar:List bM},ey b S3 S6 vL (lv++[d]) Qk Ar→S6.ob S2.n=.ce [.ptr d.p 0] 0:=λst=>(st.ob _ (by omega) (uU _ (by omega))).trans o3;have by':∀{S6:LS}{Qk:AV}{Ar:List bM},ey b S3 S6 vL (lv++[d]) Qk Ar→S6.ob S1.n=.ce [.func g [] ys] 0:=λst=>(st.ob _ (by omega) (uU _ (by omega))).trans q2;have no6:∀{S6:LS}{Qk:AV}{Ar:List bM}(x:Nat),ey b S3 S6 vL (lv++[d]) Qk Ar→S.n≤x→x<S3.n→¬mI b Qk Ar x:=λx st h1 h2 w=>(st.own _ w).elim (uU _ h1) (by omega);refine bR (λhg=>?_) (λhg=>?_)
    ·have hil:i<bs.length:=by omega
     obtain⟨bd,hbd⟩:∃bd,bs[i]? = some bd:=⟨_,List.getElem?_eq_getElem hil⟩
     have hbm:=List.mem_of_getElem? hbd;have hsz:=lY hbd;obtain⟨bv,s1,g1⟩:=mV B3 (P3.low rp);have b1:=g1 i bd hbd;refine s1.uB P5.m hil ?_;refine az P5.m (bx rp) (v:=.ptr d.p 0) rfl ?_;refine P5.p.ldl P5.m ?_;show aC 0 (Int.add (d.l:Int) (.ofNat 1)) _;simp only[dh,dX];refine w0 (by omega) (by omega) ?_;have el:(d.l:Int)+1=((d.l+1:Nat):Int):=by omega
     rw[el];refine P5.p.ko (r:=d.l+1) P5.m P5.l λH6 S6 m6 zf p6=>?_;have zf:ey b S' S6 dE (lv++[bM.mk d.p v' qe d.l]) dE (lv++[bM.mk d.p v' qe (d.l+1)]):=zf;have p6:gv lo b S6 dE (lv++[bM.mk d.p v' qe (d.l+1)]):=p6;have P6:=P5.step m6 zf p6;have xH:=rp.trans zf;show yS R K (yR R K (pI R K q)) (.ptr b 0) (.ptr S1.n 0) (.ptr S2.n 0) (d.ns.length:Int) (bv i) wb (bs.length:Int) (i:Int) H6;unfold yS;have n36:=xH.n;refine(hB bd hbm).run P6 hL (zd b1 (P5.low zf)) (qy hwb hbd) (ar1 h78 (bx xH) (by' xH) (by omega) (by omega) (no6 _ xH (by omega) (by omega)) (no6 _ xH (by omega) (by omega)) rfl (SM.trans xH) rfl rfl hC) (hR.last (by omega) (by omega) (by omega)) ⟨λhn H7 S7 rJ v7 P7 Ie=>?_,λe he H7 S7 m7 n7 k7=>?_⟩
     ·show cR K (.ret (.aP [])) H7 _;rw[aj];have P7:Pn lo b H7 S7 rJ (lv++[bM.mk d.p v7 qe (d.l+1)]):=P7;have Ie:ey b S6 S7 dE (lv++[bM.mk d.p v' qe (d.l+1)]) rJ (lv++[bM.mk d.p v7 qe (d.l+1)]):=Ie;refine az P7.m (bx (xH.trans Ie)) (v:=.ptr d.p 0) rfl ?_;refine P7.p.ldl P7.m ?_;show aC 0 (Int.sub ((d.l+1:Nat):Int) (.ofNat 1)) _;simp only[kW,dX];refine w0 (by omega) (by omega) ?_;have el:((d.l+1:Nat):Int)-1=(d.l:Int):=by omega
      rw[el];refine P7.p.ko (r:=d.l) P7.m P7.l λH8 S8 m8 Ay p8=>?_;have Ay:ey b S7 S8 rJ (lv++[bM.mk d.p v7 qe (d.l+1)]) rJ (lv++[bM.mk d.p v7 qe d.l]):=Ay;have p8:gv lo b S8 rJ (lv++[bM.mk d.p v7 qe d.l]):=p8;unfold yR;rw[dh,dX];refine w0 (by omega) (by omega) ?_;refine ih (i+1) rJ v7 H8 S8 (by omega) (by omega) (P7.step m8 Ay p8) ?_ (xH.trans (Ie.trans Ay));rw[jS _ _ _ hbd,he0,eP];exact hn
     ·show cR K (.cM _) H7 _;rw[ik];refine hK.2 e ?_ H7 S7 m7 (by have:=SM.n;omega) λx hx=>?_
      ·refine wQ _ _ (i+1) ?_;rw[jS _ _ _ hbd,he0,eP];exact he
      ·rw[k7 x hx,P3.low xH x hx,agi x hx]
    ·have e:i=bs.length:=by omega
     subst e;rw[List.take_length]at he0;unfold EN;refine az P5.m (bx rp) (v:=.ptr d.p 0) rfl ?_;refine az P5.m (bx rp) (v:=.ptr d.p 0) rfl ?_;refine P5.p.Ic P5.m ?_;refine P5.p.cut P5.m P5.l (ns:=d.ns) (e:=x) hx λH6 S6 v6 m6 zf p6=>?_;exact hK.1 he0 H6 S6 dE v6 (P5.step m6 zf p6) (SM.trans (rp.trans zf))
  exact loop eW 0 vL v4 H4 S4 (Nat.zero_le _) (by omega) P4 rfl eZ
 unfold EU;refine fW q1 m3 (j:=0) rfl ?_;rw[aK,aZ,i5];by_cases k5:k=5
 ·rw[decide_eq_true (by omega)];simp only[Bool.not_true,aI];exact tail [] d.ns H3 S3 d.v (by simp) (by simp) (by rw[if_pos (.inl k5)]) P3 ey.refl
 rw[decide_eq_false (by omega)];simp only[Bool.not_false,aH];refine fW q1 m3 (j:=0) rfl ?_;rw[aK,aZ,i8];by_cases k8:k=8
 ·rw[decide_eq_true (by omega)];simp only[Bool.not_true,aI];exact tail [] d.ns H3 S3 d.v (by simp) (by simp) (by rw[if_pos (.inr k8)]) P3 ey.refl
 rw[decide_eq_false (by omega)];simp only[Bool.not_false,aH];unfold ES;refine az m3 o3 (v:=.ptr d.p 0) rfl ?_;refine az m3 o3 (v:=.ptr d.p 0) rfl ?_;refine P3.p.Ic m3 ?_;refine fW q1 m3 (j:=2) rfl ?_;refine P3.p.app' m3 P3.l o3 (by omega) (uU _ (by omega)) (uC (A9 N0 agi)) N0.2 (by omega) λH4 S4 v4 m4 eZ p4=>?_;exact tail nm (d.ns++nm) H4 S4 v4 rfl (Nat.le_refl _) (by rw[if_neg (by omega)]) (P3.step m4 eZ p4) eZ
end
end Go.Proofs.YtcedghechlgecaaDoor
namespace Go.X
theorem aqq{m:Nat}{k:AV→Prop}(hm:1≤m)(h:k (.int 0 ((1:Nat):Int))):tD zn [.int 0 (m:Int)] (.int 0 (.ofNat 1)) k:=by
 have e1:Int.ofNat 1=((1:Nat):Int):=rfl;show bI (cx (m:Int) (.ofNat 1)) (tD zn [] (.int 0 (m:Int)) k) (tD zn [] (.int 0 (.ofNat 1)) k);rw[e1,cz,decide_eq_false (by omega),aI];exact h
theorem Og(f:Nat→Err){i m:Nat}(h:i≤m){e:Nat×Nat}(he:bG f (List.range i)=some e):bG f (List.range m)=some e:=by
 obtain⟨j,rfl⟩:∃j,m=i+j:=⟨m-i,by omega⟩
 rw[List.range_add,oJ,he];rfl
end Go.X
namespace Go.Proofs.YtcedghechlgecaaDoor
open Go Go.X Go.Proofs.YtcedghechlgecaaDoor.G
section
variable {H H':AH}{S S':LS}{K:KF}
structure PCh(F:AV→AV→AH→KF→Prop)(n k a:Nat)(nm:List (List Nat))(l:List al)(bs:List (List aA)):Prop where
 run:∀{K:KF}{H:AH}{S:LS}{lo b:Nat}{vL v:AV}{lv:List bM}{d:bM}{L:List (List (List Nat))},Pn lo b H S vL (lv++[d])→lv.map bM.ns=L→rvS S (fi lo) v (.mk k a nm l bs)→jK l→oI bs→Rp (lv++[d]) (bB l+fI bs)→PGs lo b S vL lv d (d.ns,bG (λi=>cH (bG (kE n L d.ns) (l[i]?.toList)) (kB n L d.l d.ns (bs[i]?.getD []) [])) (List.range bs.length)) K→F (.ptr b 0) v H K
theorem ar4{R:iV}{n k a:Nat}{nm:List (List Nat)}{l:List al}{bs:List (List aA)}(hX:∀e∈l,PE R.2 n e)(hB:∀bd∈bs,Ib R.1 (.func 79 [] []) n bd):PCh (Si R) n k a nm l bs:=by
 refine⟨λ{K H S lo b vL v lv d L} hP hL hv hwl hwb hR hK=>?_⟩;obtain⟨c,rfl,e1⟩:=hv;have hbl:=oH bs;have hll:=nB l;have hr1:=hR.1;have hd:∀d':bM,d'∈lv++[d']:=λd'=>List.mem_append_right _ (List.mem_singleton_self _);have hrd:=hR.2 d (hd d);rw[List.length_append,List.length_singleton]at hr1;show EZ R K (s4 R K G.NL) (.ptr b 0) (.agg c) H;unfold EZ;have gu:G.NL=1000000:=rfl;generalize G.NL=eW at gu ⊢;refine Hf hP.m e1.ones λH1 S1 m1 x1 o1 n1=>?_;obtain⟨wn,wl,wb,rfl,N0,L0,B0⟩:=e1.out;have P1:=hP.ext m1 x1;have st01:ey b S S1 vL (lv++[d]) vL (lv++[d]):=x1.ov;have uT:=hP.low st01;have bx:∀{S2:LS}{xU:AV}{Ga:List bM},ey b S1 S2 vL (lv++[d]) xU Ga→S2.ob S.n=.ce [.int 0 (k:Int),.int 0 (a:Int),wn,wl,wb] 0:=λst=>(st.ob _ (by omega) hP.new).trans o1;refine fW o1 m1 (j:=4) rfl ?_;have B1:=mV B0 uT;have L1:=lZ L0 uT;refine B1.choose_spec.1.len ?_;rw[aK];have hlv:∀v',(lv++[bM.mk d.p v' d.ns d.l]).map bM.ns=L++[d.ns]:=λv'=>by rw[List.map_append,hL];rfl
 have loop:∀(q i:Nat) (dE v':AV) (H':AH) (S':LS),i≤bs.length→bs.length-i<q→Pn lo b H' S' dE (lv++[bM.mk d.p v' d.ns d.l])→bG (λi=>cH (bG (kE n L d.ns) (l[i]?.toList)) (kB n L d.l d.ns (bs[i]?.getD []) [])) (List.range i)=none→ey b S1 S' vL (lv++[d]) dE (lv++[bM.mk d.p v' d.ns d.l])→s4 R K q (.ptr b 0) (.ptr S.n 0) wb (bs.length:Int) (i:Int) H':=by
  intro q
  induction q with
  |zero=>intro i _ _ _ _ _ h;omega
  |succ q ih=>
   intro i dE v' H' S' hi hq P2 he0 st2;show EY R K (yU R K (yT R K (s4 R K q))) (.ptr b 0) (.ptr S.n 0) wb (bs.length:Int) (i:Int) H';unfold EY;rw[cz];refine bR (λhg=>?_) (λhg=>?_)
   rotate_left
   ·have e:i=bs.length:=by omega
    subst e;exact hK.1 he0 H' S' dE v' P2 (st01.trans st2)
   have hil:i<bs.length:=by omega
   obtain⟨bd,hbd⟩:∃bd,bs[i]? = some bd:=⟨_,List.getElem?_eq_getElem hil⟩
   have hsz:=lY hbd;obtain⟨bv,s1,g1⟩:=mV B1 (P1.low st2);have b1:=g1 i bd hbd;refine s1.uB P2.m hil ?_;have blk:∀(H3:AH) (S3:LS) (kV:AV),bG (kE n L d.ns) (l[i]?.toList)=none→Pn lo b H3 S3 kV (lv++[bM.mk d.p v' d.ns d.l])→ey b S' S3 dE (lv++[bM.mk d.p v' d.ns d.l]) kV (lv++[bM.mk d.p v' d.ns d.l])→yU R K (yT R K (s4 R K q)) (.ptr b 0) (.ptr S.n 0) (bv i) wb (bs.length:Int) (i:Int) H3:=λH3 S3 kV hen P3 bP=>by
    unfold yU;have esp:bG (λi=>cH (bG (kE n L d.ns) (l[i]?.toList)) (kB n L d.l d.ns (bs[i]?.getD []) [])) (List.range (i+1))=kB n L d.l d.ns bd []:=by
     rw[Hg,he0,eP,hen,eP,hbd];rfl
    refine(hB bd (List.mem_of_getElem? hbd)).run P3 hL (zd b1 (P2.low bP)) (qy hwb hbd) (hR.last (by omega) (Nat.add_le_add_left (by omega) _) (Nat.add_le_add_left (by omega) _)) ⟨λhn H4 S4 Gk v4 P4 eZ=>?_,λe he H4 S4 m4 n4 k4=>?_⟩
    ·show cR K (.ret (.aP [])) H4 _;rw[aj];unfold yT;rw[dh,dX];refine w0 (by omega) (by omega) ?_;exact ih (i+1) Gk v4 H4 S4 (by omega) (by omega) P4 (esp.trans hn) (st2.trans (bP.trans eZ))
    ·show cR K (.cM _) H4 _;rw[ik];refine((hK.2 e ?_).le (st01.trans (st2.trans bP)).n (hP.low (st01.trans (st2.trans bP)))) H4 S4 m4 n4 k4;exact Og _ (i:=i+1) (by omega) (esp.trans he)
   refine fW (bx st2) P2.m (j:=3) rfl ?_;have L2:=lZ L1 (P1.low st2);refine L2.choose_spec.1.len ?_;rw[aK,cz];refine bR (λh2=>?_) (λh2=>?_)
   ·have A5:i<l.length:=by omega
    obtain⟨e,he⟩:∃e,l[i]? = some e:=⟨_,List.getElem?_eq_getElem A5⟩
    have hes:=j2 he;refine fW (bx st2) P2.m (j:=3) rfl ?_;obtain⟨cl,s2,g2⟩:=L2;refine s2.load P2.m A5 ?_;have ee:bG (kE n L d.ns) (l[i]?.toList)=kE n L d.ns e:=by
     rw[he];exact jL _
    refine(hX e (List.mem_of_getElem? he)).run P2 (hlv v') ⟨_,rfl,g2 i e he⟩ (qx hwl he) (hR.last (by omega) (Nat.add_le_add_left (by omega) _) (Nat.add_le_add_left (by omega) _)) ⟨λhn H3 S3 kV P3 bP=>?_,λp hp H3 S3 m3 n3 k3=>?_⟩
    ·show cR K (.ret (.aP [])) H3 _;rw[aj];exact blk H3 S3 kV (ee.trans hn) P3 bP
    ·show cR K (.cM _) H3 _;rw[ik];refine((hK.2 p ?_).le (st01.trans st2).n (hP.low (st01.trans st2))) H3 S3 m3 n3 k3;refine Og _ (i:=i+1) (by omega) ?_;rw[Hg,he0,eP,ee,hp];rfl
   ·have he:l[i]? = none:=List.getElem?_eq_none (by omega);exact blk H' S' dE (by rw[he];rfl) P2 ey.refl
 exact loop eW 0 vL d.v H1 S1 (Nat.zero_le _) (by omega) P1 rfl ey.refl
theorem ar5{R:cW}{qd:kT}{Qj:rU}{n k a:Nat}{nm:List (List Nat)}{l:List al}{bs:List (List aA)}(h44:R.2.1=f44)(h62:R.2.2.2.1=f62)(hX:Qf R.2.2.1 (n+1) l)(hB:∀bd∈bs,Ib R.1 (.func 67 [] []) (n+1) bd)(hL0:PLp R.2.2.2.2.1 (clo (nr qd)) n k a nm l bs [])(hL1:PLp R.2.2.2.2.1 (clo (nr qd)) n k a nm l bs l)(h64:qd.2.2.1=EX Qj)(ar6:Qf Qj n l)(h65:qd.2.2.2.1=f65)(hC:PCh R.2.2.2.2.2 (n+1) k a nm l bs):lQ (Sg R) (n+2) (.mk k a nm l bs):=by
 refine⟨λ{K H S lo b vL v lv d L} hP hL hv hw hR hK=>?_⟩;obtain⟨c,rfl,e1⟩:=hv;simp only[aA.sz]at hR;simp only[aA.wg]at hw;obtain⟨w5,w1,w2,ou,uE⟩:=hw;have hbl:=oH bs;have hll:=nB l;have hr1:=hR.1;have hd:∀d':bM,d'∈lv++[d']:=λd'=>List.mem_append_right _ (List.mem_singleton_self _);have hrd:=hR.2 d (hd d);rw[List.length_append,List.length_singleton]at hr1;have gu:G.NL=1000000:=rfl;show EI R K (wu R K (wq R K (wm R K (pG R K G.NL)) (wo R K) (q9 R K (nM R K G.NL)))) (.ptr b 0) (.agg c) H;generalize G.NL=eW at gu ⊢;unfold EI;refine ar0 hP.m λH1 S1 m1 x1 o1 n1=>?_;refine Hf m1 e1.ones λH2 S2 m2 x2 o2 n2=>?_;have e2:iA S2 (fi lo) c (.mk k a nm l bs):=e1.go (λx hx=>(x1.trans x2).ob x (Nat.lt_of_lt_of_le hx hP.l)) λ_ h=>h;obtain⟨wn,wl,wb,rfl,N2,L2,B2⟩:=e2.out;have P2:=hP.ext m2 (x1.trans x2);have uV:ey b S S2 vL (lv++[d]) vL (lv++[d]):=(x1.trans x2).ov;have uU:∀x,S.n≤x→¬mI b vL (lv++[d]) x:=λx hx g=>by have:=hP.p.iv hP.m g;omega
 have q1:S2.ob S.n=.ce [.ptr b 0] 0:=(x2.ob _ (by omega)).trans o1;have ba:∀{S3:LS}{kV:AV}{Gb:List bM},ey b S2 S3 vL (lv++[d]) kV Gb→S3.ob S.n=.ce [.ptr b 0] 0:=λst=>(st.ob _ (by omega) (uU _ (Nat.le_refl _))).trans q1;have bx:∀{S3:LS}{kV:AV}{Gb:List bM},ey b S2 S3 vL (lv++[d]) kV Gb→S3.ob S1.n=.ce [.int 0 (k:Int),.int 0 (a:Int),wn,wl,wb] 0:=λst=>(st.ob _ (by omega) (uU _ (by omega))).trans o2;have pend:∀{e:Nat×Nat}{S3:LS}{kV:AV}{Gb:List bM},(kS (n+2) L d.l (d.ns,none) (.mk k a nm l bs)).2=some e→ey b S2 S3 vL (lv++[d]) kV Gb→Bc lo S3 K e:=λhe st=>(hK.2 _ he).le (uV.trans st).n (hP.low (uV.trans st));have hlv:(lv++[d]).map bM.ns=L++[d.ns]:=by rw[List.map_append,hL];rfl
 refine az m2 q1 (v:=.ptr b 0) rfl ?_;rw[h44];refine agf m2 P2.p (by omega) ?_;rw[aj];refine fW o2 m2 (j:=0) rfl ?_;rw[aK];have i1:Int.ofNat 1=((1:Nat):Int):=rfl;have i12:Int.ofNat 12=((12:Nat):Int):=rfl;have i2:Int.ofNat 2=((2:Nat):Int):=rfl;have i4:Int.ofNat 4=((4:Nat):Int):=rfl;have i5:Int.ofNat 5=((5:Nat):Int):=rfl;have i6:Int.ofNat 6=((6:Nat):Int):=rfl;have i7:Int.ofNat 7=((7:Nat):Int):=rfl;have i8:Int.ofNat 8=((8:Nat):Int):=rfl;have i9:Int.ofNat 9=((9:Nat):Int):=rfl;have i0:Int.ofNat 0=((0:Nat):Int):=rfl;have agd:Int.ofNat 150=((150:Nat):Int):=rfl;have main:(k=1∨k=12∨k=6∨k=7→qA d.ns nm a=none)→wq R K (wm R K (pG R K eW)) (wo R K) (q9 R K (nM R K eW)) (.ptr S.n 0) (.ptr S1.n 0) (.ptr d.p 0) H2:=λhlim=>by
  unfold wq;refine fW o2 m2 (j:=0) rfl ?_;rw[aK,aZ,i1];by_cases k1:k=1
  ·have rk:kS (n+2) L d.l (d.ns,none) (.mk k a nm l bs)=(d.ns++nm,bG (kE (n+1) L d.ns) l):=by
    simp only[kS];rw[if_pos k1,hlim (.inl k1)];rfl
   rw[rk]at hK pend;rw[decide_eq_true (by omega),aH];refine az m2 q1 (v:=.ptr b 0) rfl ?_;refine fW o2 m2 (j:=3) rfl ?_;refine hX.run P2 hlv L2 ou (hR.le (by omega)) ⟨λhn H3 S3 kV P3 bP=>?_,λe he H3 S3 m3 n3 k3=>?_⟩
   ·show cR K (.ret (.aP [])) H3 _;rw[aj];refine P3.p.Ic P3.m ?_;refine fW (bx bP) P3.m (j:=2) rfl ?_;refine P3.p.app P3.m P3.l (uC (A9 N2 (P2.low bP))) N2.2 (by omega) λH4 S4 v4 m4 eZ p4=>?_;exact hK.1 hn H4 S4 kV v4 (P3.step m4 eZ p4) (uV.trans (bP.trans eZ))
   ·show cR K (.cM _) H3 _;rw[ik];exact pend he ey.refl H3 S3 m3 n3 k3
  rw[decide_eq_false (by omega),aI,aZ,i12];by_cases k12:k=12
  ·have rk:kS (n+2) L d.l (d.ns,none) (.mk k a nm l bs)=(d.ns++nm,bG (kE (n+1) L (d.ns++nm)) l):=by
    simp only[kS];rw[if_neg k1,if_pos k12,hlim (.inr (.inl k12))];rfl
   rw[rk]at hK pend;rw[decide_eq_true (by omega),aH];refine P2.p.Ic m2 ?_;refine fW o2 m2 (j:=2) rfl ?_;refine P2.p.app m2 P2.l (uC N2) N2.2 (by omega) λH3 S3 v3 m3 bP p3=>?_;have P3:Pn lo b H3 S3 vL (lv++[bM.mk d.p v3 (d.ns++nm) d.l]):=P2.step m3 bP p3;have bP:ey b S2 S3 vL (lv++[d]) vL (lv++[bM.mk d.p v3 (d.ns++nm) d.l]):=bP;unfold wo;refine az m3 (ba bP) (v:=.ptr b 0) rfl ?_;refine fW (bx bP) m3 (j:=3) rfl ?_;refine hX.run P3 (L:=L) (ns:=d.ns++nm) (by rw[List.map_append,hL];rfl) (lZ L2 (P2.low bP)) ou (hR.last (by omega) (by rw[List.length_append];omega) (by omega)) ⟨λhn H4 S4 Gk P4 eZ=>?_,λe he H4 S4 m4 n4 k4=>?_⟩
   ·show cR K (.ret (.aP [])) H4 _;rw[aj];exact hK.1 hn H4 S4 Gk v3 P4 (uV.trans (bP.trans eZ))
   ·show cR K (.cM _) H4 _;rw[ik];exact pend he bP H4 S4 m4 n4 k4
  rw[decide_eq_false (by omega),aI,aZ,i2];by_cases k2:k=2
  ·have rk:kS (n+2) L d.l (d.ns,none) (.mk k a nm l bs)=(d.ns,cH (bG (nP L d.ns) (l.take 1)) (bG (kE (n+1) L d.ns) l)):=by
    simp only[kS];rw[if_neg k1,if_neg k12,if_pos k2];rfl
   rw[rk]at hK pend;rw[decide_eq_true (by omega),aH];obtain⟨e,t,rfl⟩:∃e t,l=e::t:=by
    cases l with
    |nil=>exact absurd rfl (w2 k2)
    |cons e t=>exact⟨e,t,rfl⟩
   refine fW o2 m2 (j:=3) rfl ?_;refine fW o2 m2 (j:=3) rfl ?_;refine L2.choose_spec.1.len ?_;rw[aK];refine aqq (by simp) ?_;rw[aK];refine L2.part (i:=0) (j:=1) (b:=[e]) (by omega) (by simp) (.inr ⟨rfl,rfl⟩) (.inl rfl) (by simp) λv' L3=>?_;refine L3.choose_spec.1.len ?_;rw[aK];unfold wm;have nE:bG (nP L d.ns) ((e::t).take 1)=nP L d.ns e:=by
    show bG (nP L d.ns) [e]=_;exact jL _
   rw[nE]at hK pend;obtain⟨q,rfl⟩:∃q,eW=q+1+1:=⟨eW-2,by omega⟩
   show wj R K (yP R K) (yQ R K) (wi R K (pG R K (q+1))) (.ptr S.n 0) (.ptr S1.n 0) v' ((1:Nat):Int) ((0:Nat):Int) H2;unfold wj;simp only[jy];rw[cz,decide_eq_true (by omega),aH];obtain⟨cl,s1,g1⟩:=L3;have f1:=g1 0 e rfl;refine s1.load m2 (by simp) ?_;refine rY m2 fg rfl f1.len f1.ones λH3 S3 m3 x3 o3 n3=>?_;have P3:=P2.ext m3 x3;have bP:ey b S2 S3 vL (lv++[d]) vL (lv++[d]):=x3.ov;obtain⟨ke,ae,nn,s,op,l',fs⟩:=e;obtain⟨N4,wf',c1,h8,L2',F2'⟩:=f1.out;rw[c1]at o3;have rest:nP L d.ns (.mk ke ae nn s op l' fs)=none→wi R K (pG R K (q+1)) (.ptr S.n 0) (.ptr S1.n 0) v' ((1:Nat):Int) ((0:Nat):Int) H3:=λhno=>by
    rw[hno,eP]at hK pend;unfold wi;rw[dh,dX];refine w0 (by omega) (by omega) ?_;show wj R K (yP R K) (yQ R K) (wi R K (pG R K q)) (.ptr S.n 0) (.ptr S1.n 0) v' ((1:Nat):Int) (((0:Nat):Int)+1) H3;unfold wj;have e01:(((0:Nat):Int)+1)=((1:Nat):Int):=rfl;rw[e01,cz,decide_eq_false (by omega),aI];unfold yQ;refine az m3 (ba bP) (v:=.ptr b 0) rfl ?_;refine fW (bx bP) m3 (j:=3) rfl ?_;refine hX.run P3 hlv (lZ L2 (P2.low bP)) ou (hR.le (by omega)) ⟨λhn H4 S4 Gk P4 eZ=>?_,λe he H4 S4 m4 n4 k4=>?_⟩
    ·show cR K (.ret (.aP [])) H4 _;rw[aj];exact hK.1 hn H4 S4 Gk d.v P4 (uV.trans (bP.trans eZ))
    ·show cR K (.cM _) H4 _;rw[ik];exact pend he bP H4 S4 m4 n4 k4
   simp only[aM,Nat.zero_add];refine az m3 o3 (v:=.int 0 (ke:Int)) rfl ?_;rw[aK,aZ,i6];by_cases k6:ke=6
   ·rw[decide_eq_true (by omega),aH];refine az m3 (ba bP) (v:=.ptr b 0) rfl ?_;refine az m3 o3 (v:=ai s) rfl ?_;rw[h62];refine hs62 m3 P3.p h8 (by rw[List.length_append,List.length_singleton];omega) (λd' hd'=>by have:=(hR.2 d' hd').1;omega) ?_;rw[aj,aN,Qg hlv];cases ha:mu L d.ns s with
    |true=>
     simp only[Bool.not_true,aI];refine rest ?_;show(if ke=6∧mu L d.ns s=false then some (14,ae) else none)=none;rw[if_neg (λg=>by rw[ha]at g;cases g.2)]
    |false=>
     simp only[Bool.not_false,aH];unfold yP;simp only[aM,Nat.zero_add];refine az m3 o3 (v:=.int 0 (ae:Int)) rfl ?_;rw[aK];refine(pend (e:=(14,ae)) ?_ bP) H3 S3 m3 (Nat.le_refl _) λ_ _=>rfl;show cH (if ke=6∧mu L d.ns s=false then some (14,ae) else none) _=_;rw[if_pos ⟨k6,ha⟩,qz]
   ·rw[decide_eq_false (by omega),aI];refine rest ?_;show(if ke=6∧mu L d.ns s=false then some (14,ae) else none)=none;rw[if_neg (λg=>k6 g.1)]
  rw[decide_eq_false (by omega),aI,aZ,i8];by_cases k8:k=8
  ·have rk:kS (n+2) L d.l (d.ns,none) (.mk k a nm l bs)=(d.ns,bG (λb=>kB (n+1) L (d.l+1) d.ns b l) bs):=by
    simp only[kS];rw[if_neg k1,if_neg k12,if_neg k2,if_pos k8];rfl
   rw[rk]at hK pend;rw[decide_eq_true (by omega),aH];refine az m2 q1 (v:=.ptr b 0) rfl ?_;refine gH m2 o2 rfl ?_;refine hL1.run P2 hL ⟨_,rfl,e2⟩ uE (ar3 h64 ar6 P2 q1 o2 (by omega) (by omega) (uU _ (Nat.le_refl _)) (uU _ (by omega)) L2 ou) (hR.le (by omega)) ?_;rw[if_pos (.inr k8)];refine⟨λhn H3 S3 kV v3 P3 bP=>?_,λe he H3 S3 m3 n3 k3=>?_⟩
   ·show cR K (.ret (.aP [])) H3 _;rw[aj];exact hK.1 hn H3 S3 kV v3 P3 (uV.trans bP)
   ·show cR K (.cM _) H3 _;rw[ik];exact pend he ey.refl H3 S3 m3 n3 k3
  rw[decide_eq_false (by omega),aI];by_cases asE:k=5∨k=6∨k=7
  ·have rk:kS (n+2) L d.l (d.ns,none) (.mk k a nm l bs)=(d.ns,cH (bG (kE (n+1) L d.ns) l) (bG (λb=>kB (n+1) L (d.l+1) (if k=5∨k=8 then d.ns else d.ns++nm) b []) bs)):=by
    simp only[kS];rw[if_neg k1,if_neg k12,if_neg k2,if_neg k8];by_cases k5:k=5
    ·rw[if_pos k5,if_pos (.inl k5)];rfl
    ·rw[if_neg k5,if_pos (by omega),if_neg (by omega),hlim (by omega)];rfl
   rw[rk]at hK pend;have go:q9 R K (nM R K eW) (.ptr S.n 0) (.ptr S1.n 0) (.ptr d.p 0) (k:Int) true H2:=by
    unfold q9;rw[aH];refine az m2 q1 (v:=.ptr b 0) rfl ?_;refine fW o2 m2 (j:=3) rfl ?_;refine hX.run P2 hlv L2 ou (hR.le (by omega)) ⟨λhn H3 S3 kV P3 bP=>?_,λe he H3 S3 m3 n3 k3=>?_⟩
    ·show cR K (.ret (.aP [])) H3 _;rw[aj];refine az P3.m (ba bP) (v:=.ptr b 0) rfl ?_;refine gH P3.m (bx bP) rfl ?_;refine hL0.run P3 hL ⟨_,rfl,e2.go (λx hx=>P2.low bP x hx) λ_ h=>h⟩ uE (ahP (apg h65)) (hR.le (by simp only[bB];omega)) ⟨λhn2 H4 S4 Gk v4 P4 eZ=>?_,λe he H4 S4 m4 n4 k4=>?_⟩
     ·show cR K (.ret (.aP [])) H4 _;rw[aj];refine hK.1 ?_ H4 S4 Gk v4 P4 (uV.trans (bP.trans eZ));show cH _ _=none;rw[hn,eP];exact hn2
     ·show cR K (.cM _) H4 _;rw[ik];refine pend (e:=e) ?_ bP H4 S4 m4 n4 k4;show cH _ _=_;rw[hn,eP];exact he
    ·show cR K (.cM _) H3 _;rw[ik];refine pend (e:=e) ?_ ey.refl H3 S3 m3 n3 k3;show cH _ _=_;rw[he,qz]
   rw[aZ,i5];by_cases k5:k=5
   ·rw[decide_eq_true (by omega),aH];exact go
   rw[decide_eq_false (by omega),aI,aZ,i6];by_cases k6:k=6
   ·rw[decide_eq_true (by omega),aH];exact go
   rw[decide_eq_false (by omega),aI,aZ,i7,decide_eq_true (by omega)];exact go
  rw[aZ,i5,decide_eq_false (by omega),aI,aZ,i6,decide_eq_false (by omega),aI,aZ,i7,decide_eq_false (by omega)];unfold q9;rw[aI,aZ,i4];by_cases k4:k=4
  ·have rk:kS (n+2) L d.l (d.ns,none) (.mk k a nm l bs)=(d.ns,bG (λi=>cH (bG (kE (n+1) L d.ns) (l[i]?.toList)) (kB (n+1) L d.l d.ns (bs[i]?.getD []) [])) (List.range bs.length)):=by
    simp only[kS];rw[if_neg k1,if_neg k12,if_neg k2,if_neg k8,if_neg (by omega),if_neg (by omega),if_pos k4];rfl
   rw[rk]at hK pend;rw[decide_eq_true (by omega),aH];refine az m2 q1 (v:=.ptr b 0) rfl ?_;refine gH m2 o2 rfl ?_;refine hC.run P2 hL ⟨_,rfl,e2⟩ ou uE (hR.le (by omega)) ⟨λhn H3 S3 kV v3 P3 bP=>?_,λe he H3 S3 m3 n3 k3=>?_⟩
   ·show cR K (.ret (.aP [])) H3 _;rw[aj];exact hK.1 hn H3 S3 kV v3 P3 (uV.trans bP)
   ·show cR K (.cM _) H3 _;rw[ik];exact pend he ey.refl H3 S3 m3 n3 k3
  rw[decide_eq_false (by omega),aI,aZ,i9];by_cases k9:k=9
  ·have rk:kS (n+2) L d.l (d.ns,none) (.mk k a nm l bs)=(d.ns,if d.l=0 then some (14,a) else none):=by
    simp only[kS];rw[if_neg k1,if_neg k12,if_neg k2,if_neg k8,if_neg (by omega),if_neg (by omega),if_neg k4,if_pos k9];rfl
   rw[rk]at hK pend;rw[decide_eq_true (by omega),aH];refine P2.p.ldl m2 ?_;rw[aZ,i0];refine bR (λg=>?_) (λg=>?_)
   ·refine fW o2 m2 (j:=1) rfl ?_;rw[aK];refine(pend (e:=(14,a)) ?_ ey.refl) H2 S2 m2 (Nat.le_refl _) λ_ _=>rfl;show(if d.l=0 then some (14,a) else none)=_;rw[if_pos (by omega)]
   ·refine hK.1 ?_ H2 S2 vL d.v P2 uV;show(if d.l=0 then some (14,a) else none)=_;rw[if_neg (by omega)]
  rw[decide_eq_false (by omega),aI];have rk:kS (n+2) L d.l (d.ns,none) (.mk k a nm l bs)=(d.ns,cH (bG (kE (n+1) L d.ns) l) (bG (λb=>kB (n+1) L d.l d.ns b []) bs)):=by
   simp only[kS];rw[if_neg k1,if_neg k12,if_neg k2,if_neg k8,if_neg (by omega),if_neg (by omega),if_neg k4,if_neg k9];rfl
  rw[rk]at hK pend;refine az m2 q1 (v:=.ptr b 0) rfl ?_;refine fW o2 m2 (j:=3) rfl ?_;refine hX.run P2 hlv L2 ou (hR.le (by omega)) ⟨λhn H3 S3 kV P3 bP=>?_,λe he H3 S3 m3 n3 k3=>?_⟩
  ·show cR K (.ret (.aP [])) H3 _;rw[aj];refine fW (bx bP) P3.m (j:=4) rfl ?_;have B3:=mV B2 (P2.low bP);refine B3.choose_spec.1.len ?_;rw[aK];have loop:∀(q i:Nat) (dE v':AV) (H':AH) (S':LS),i≤bs.length→bs.length-i<q→Pn lo b H' S' dE (lv++[bM.mk d.p v' d.ns d.l])→bG (λb=>kB (n+1) L d.l d.ns b []) (bs.take i)=none→ey b S3 S' kV (lv++[d]) dE (lv++[bM.mk d.p v' d.ns d.l])→nM R K q (.ptr S.n 0) wb (bs.length:Int) (i:Int) H':=by
    intro q
    induction q with
    |zero=>intro i _ _ _ _ _ h;omega
    |succ q ih=>
     intro i dE v' H' S' hi hq P4 he0 eZ;show zQ R K (nM R K q) (.ptr S.n 0) wb (bs.length:Int) (i:Int) H';unfold zQ;rw[cz];refine bR (λhg=>?_) (λhg=>?_)
     rotate_left
     ·have e:i=bs.length:=by omega
      subst e;rw[List.take_length]at he0;refine hK.1 ?_ H' S' dE v' P4 (uV.trans (bP.trans eZ));show cH _ _=none;rw[hn,eP];exact he0
     have hil:i<bs.length:=by omega
     obtain⟨bd,hbd⟩:∃bd,bs[i]? = some bd:=⟨_,List.getElem?_eq_getElem hil⟩
     have hsz:=lY hbd;obtain⟨bv,s1,g1⟩:=mV B3 (P3.low eZ);refine s1.uB P4.m hil ?_;refine az P4.m (ba (bP.trans eZ)) (v:=.ptr b 0) rfl ?_;refine(hB bd (List.mem_of_getElem? hbd)).run P4 hL (g1 i bd hbd) (qy uE hbd) (hR.last (by omega) (by omega) (by omega)) ⟨λhn2 H5 S5 vL5 v5 P5 rp=>?_,λe he H5 S5 m5 n5 k5=>?_⟩
     ·show cR K (.ret (.aP [])) H5 _;rw[aj,dh,dX];refine w0 (by omega) (by omega) ?_;refine ih (i+1) vL5 v5 H5 S5 (by omega) (by omega) P5 ?_ (eZ.trans rp);rw[jS _ _ _ hbd,he0,eP];exact hn2
     ·show cR K (.cM _) H5 _;rw[ik];refine pend (e:=e) ?_ (bP.trans eZ) H5 S5 m5 n5 k5;show cH _ _=_;rw[hn,eP];refine wQ _ _ (i+1) ?_;rw[jS _ _ _ hbd,he0,eP];exact he
   exact loop eW 0 kV d.v H3 S3 (Nat.zero_le _) (by omega) P3 rfl ey.refl
  ·show cR K (.cM _) H3 _;rw[ik];refine pend (e:=e) ?_ ey.refl H3 S3 m3 n3 k3;show cH _ _=_;rw[he,qz]
 have lim:(k=1∨k=12∨k=6∨k=7)→wu R K (wq R K (wm R K (pG R K eW)) (wo R K) (q9 R K (nM R K eW))) (.ptr S.n 0) (.ptr S1.n 0) (.ptr d.p 0) true H2:=λhk=>by
  unfold wu;rw[aH];refine P2.p.Ic m2 ?_;refine(P2.p.ln d (hd d)).len ?_;rw[aK,List.length_map];refine fW o2 m2 (j:=2) rfl ?_;refine N2.1.len ?_;rw[aK,dh];refine w0 (by omega) (by omega) ?_;have ea:(d.ns.length:Int)+(nm.length:Int)=((d.ns.length+nm.length:Nat):Int):=by omega
  rw[ea,agd,cz];refine bR (λg=>?_) (λg=>?_)
  ·refine fW o2 m2 (j:=1) rfl ?_;rw[aK];have hl:qA d.ns nm a=some (8,a):=by
    unfold qA;rw[if_pos (by omega)]
   refine(pend (e:=(8,a)) ?_ ey.refl) H2 S2 m2 (Nat.le_refl _) λ_ _=>rfl;rcases hk with rfl|rfl|rfl|rfl<;>simp only[kS]<;>simp[hl,cH]
  ·refine main λ_=>?_;unfold qA;rw[if_neg (by omega)]
 rw[aZ,i1];by_cases k1:k=1
 ·rw[decide_eq_true (by omega),aH];exact lim (.inl k1)
 rw[decide_eq_false (by omega),aI,aZ,i12];by_cases k12:k=12
 ·rw[decide_eq_true (by omega),aH];exact lim (.inr (.inl k12))
 rw[decide_eq_false (by omega),aI,aZ,i6];by_cases k6:k=6
 ·rw[decide_eq_true (by omega),aH];exact lim (.inr (.inr (.inl k6)))
 rw[decide_eq_false (by omega),aI,aZ,i7];by_cases k7:k=7
 ·rw[decide_eq_true (by omega)];exact lim (.inr (.inr (.inr k7)))
 rw[decide_eq_false (by omega)];unfold wu;rw[aI];exact main λh=>by omega
end
section
variable {H H':AH}{S S':LS}{K:KF}
structure CB where
 c20:AV→AV→AV→AH→KF→Prop
 c45:AV→AV→AH→KF→Prop
 Oh:AV→AV→AH→KF→Prop
 c63:AV→AV→AV→AH→KF→Prop
 c64:AV→AV→AH→KF→Prop
 c66:AV→AV→AH→KF→Prop
 Az:AV→AV→AH→KF→Prop
 c78:AV→AV→AH→KF→Prop
def agj:AV→AV→AH→KF→Prop:=λ_ _ _ _=>False
theorem Ql:aw Tryd.prog 19 (ao [.a,.a] agj):=λhb args H K h=>by
 cases args with
 |nil=>exact h.elim
 |cons a l=>cases l with
  |nil=>exact h.elim
  |cons b l=>cases l with
   |nil=>exact h.elim
   |cons c l=>exact h.elim
noncomputable def Qm(S:CB):iU:=(agj,f21,f44,S.c45,S.c64,f65,f67,S.c78,f79,f84)
noncomputable def r45(S:CB):cW:=(S.c20,f44,S.Oh,f62,S.c63,S.c66)
noncomputable def agk(B:AV→AH→KF→Prop)(S:CB):dP:=(B,S.c20,f62,S.Az,f83)
noncomputable abbrev r77 (S:CB):dP:=agk g10 S
noncomputable def r78(S:CB):kT:=(agj,f21,S.c64,f65,f67,S.c78,f79,f84)
noncomputable def cSx(B:AV→AH→KF→Prop)(S:CB):CB:=⟨Sc (Qm S),Sg (r45 S),Sh S.Az,IE (S.c20,f44),EX S.Oh,Si (S.c20,S.Az),Sj (agk B S),Fc (r78 S)⟩
noncomputable abbrev cS (S:CB):CB:=cSx g10 S
noncomputable def cBx(B:AV→AH→KF→Prop)(n:Nat):CB:=Nat.rec (motive:=λ_=>CB) ⟨λ_ _ _ _ _=>False,λ_ _ _ _=>False,λ_ _ _ _=>False,λ_ _ _ _ _=>False,λ_ _ _ _=>False,λ_ _ _ _=>False,λ_ _ _ _=>False,λ_ _ _ _=>False⟩ (λ_ S=>cSx B S) n
noncomputable abbrev cB (n:Nat):CB:=cBx g10 n
theorem uW(n:Nat):cB (n+1)=cS (cB n):=rfl
structure agl(S:CB):Prop where
 k20:aw Tryd.prog 20 (ao [.a,.a,.a] S.c20)
 k45:aw Tryd.prog 45 (ao [.a,.a] S.c45)
 k61:aw Tryd.prog 61 (ao [.a,.a] S.Oh)
 k63:aw Tryd.prog 63 (ao [.a,.a,.a] S.c63)
 k64:aw Tryd.prog 64 (ao [.a,.a] S.c64)
 k66:aw Tryd.prog 66 (ao [.a,.a] S.c66)
 k77:aw Tryd.prog 77 (ao [.a,.a] S.Az)
 k78:aw Tryd.prog 78 (ao [.a,.a] S.c78)
theorem aph{B:AV→AH→KF→Prop}(hB:aw Tryd.prog 10 (ao [.a] B)){S:CB}(h:agl S):agl (cSx B S) where
 k20:=ajf (Qm S) (af.cons Ql (af.cons aaS (af.cons ME (af.cons h.k45 (af.cons h.k64 (af.cons abe (af.cons abi (af.cons h.k78 (af.cons abm (af.cons abq af.nil))))))))))
 k45:=ajg (r45 S) (af.cons h.k20 (af.cons ME (af.cons h.k61 (af.cons aa9 (af.cons h.k63 (af.cons h.k66 af.nil))))))
 k61:=ajh S.Az (af.cons h.k77 af.nil)
 k63:=aji (S.c20,f44) (af.cons h.k20 (af.cons ME af.nil))
 k64:=ajj S.Oh (af.cons h.k61 af.nil)
 k66:=ajk (S.c20,S.Az) (af.cons h.k20 (af.cons h.k77 af.nil))
 k77:=ajl (agk B S) (af.cons hB (af.cons h.k20 (af.cons aa9 (af.cons h.k77 (af.cons anx af.nil)))))
 k78:=ajm (r78 S) (af.cons Ql (af.cons aaS (af.cons h.k64 (af.cons abe (af.cons abi (af.cons h.k78 (af.cons abm (af.cons abq af.nil))))))))
theorem NG{g:Nat}:aw Tryd.prog g (ao [.a,.a,.a] λ_ _ _ _ _=>False):=λhb args H K h=>by
 cases args with
 |nil=>exact h.elim
 |cons a l=>cases l with
  |nil=>exact h.elim
  |cons b l=>cases l with
   |nil=>exact h.elim
   |cons c l=>cases l with
    |nil=>exact h.elim
    |cons c l=>exact h.elim
theorem Qn{g:Nat}:aw Tryd.prog g (ao [.a,.a] λ_ _ _ _=>False):=λhb args H K h=>by
 cases args with
 |nil=>exact h.elim
 |cons a l=>cases l with
  |nil=>exact h.elim
  |cons b l=>cases l with
   |nil=>exact h.elim
   |cons c l=>exact h.elim
theorem aeN{B:AV→AH→KF→Prop}(hB:aw Tryd.prog 10 (ao [.a] B)):∀n,agl (cBx B n)
 |0=>⟨NG,Qn,Qn,NG,Qn,Qn,Qn,Qn⟩
 |n+1=>aph hB (aeN hB n)
structure xV(S:CB)(m:Nat):Prop where
 ex:∀n (e:al),4*n≤m→3*e.sz≤n→PE S.Az n e
 st:∀n (s:aA),4*n≤m→3*s.sz≤n→lQ S.c45 n s
theorem xV.bl{S:CB}{m n:Nat}{bd:List aA}{thn:List al}(h:xV S m)(h1:4*n≤m)(h2:3*dO bd≤n):PB (cS S).c20 (clo (jC (Qm S))) n bd thn:=
 b20 (R:=Qm S) rfl λs hs=>by
  obtain⟨i,hi⟩:=List.mem_iff_getElem?.1 hs;have:=A6 hi;exact h.st n s h1 (by omega)
theorem xV.exs{S:CB}{m n:Nat}{l:List al}(h:xV S m)(h1:4*n≤m)(h2:3*bB l≤n):Qf (cS S).Oh n l:=
 e61 (R:=S.Az) λe he=>by
  obtain⟨i,hi⟩:=List.mem_iff_getElem?.1 he;have:=j2 hi;exact h.ex n e h1 (by omega)
theorem xV.b0{S:CB}{m n:Nat}{bd:List aA}{t:AV}(h:xV S m)(h1:4*n≤m+4)(h2:3*dO bd+1≤n)(ht:∀(H:AH) (K:KF),K (.ret (.aP [])) H→clo (jC (Qm S)) t H K):Ib (cS S).c20 t n bd:=by
 obtain⟨q,rfl⟩:∃q,n=q+1:=⟨n-1,by omega⟩
 exact(h.bl (by omega) (by omega)).zero λH K=>ht H K
theorem api{S2:CB}{m:Nat}(h1:xV (cS S2) (m+1))(h2:xV S2 m)(n:Nat)(e:al)(g1:4*n≤m+2)(g2:3*e.sz≤n):PE (cS (cS S2)).Az n e:=by
 have:=e.pV;obtain⟨n',rfl⟩:∃n',n=n'+1:=⟨n-1,by omega⟩
 refine e77 (R:=r77 (cS S2)) rfl rfl rfl (λk a nn s op l fs he x hx=>?_) λk a nn s op l fs he f hf=>?_
 ·subst he;obtain⟨i,hi⟩:=List.mem_iff_getElem?.1 hx;have:=j2 hi;simp only[al.sz]at g2;exact h1.ex n' x (by omega) (by omega)
 ·subst he;obtain⟨i,hi⟩:=List.mem_iff_getElem?.1 hf;have:=tm hi;simp only[al.sz]at g2;obtain⟨n'',rfl⟩:∃n'',n'=n''+1:=⟨n'-1,by omega⟩
  refine⟨n'',rfl,λps bd hf'=>?_⟩;subst hf';simp only[eV.sz]at this;exact h2.b0 (by omega) (by omega) λH K=>apf rfl H K
theorem apj{S2 S3 S4 S5 S6:CB}(e2:S2=cS S3)(e3:S3=cS S4)(e4:S4=cS S5)(e5:S5=cS S6){m:Nat}(h2:xV S2 (m+4))(h3:xV S3 (m+3))(h6:xV S6 m)(n:Nat)(s:aA)(g1:4*n≤m+6)(g2:3*s.sz≤n):lQ (cS (cS S2)).c45 n s:=by
 have:=s.pV;obtain⟨n',rfl⟩:∃n',n=n'+2:=⟨n-2,by omega⟩
 obtain⟨k,a,nm,l,bs⟩:=s;simp only[aA.sz]at g2;have hb:∀bd∈bs,1+dO bd≤fI bs:=λbd hbd=>by
  obtain⟨i,hi⟩:=List.mem_iff_getElem?.1 hbd;exact lY hi
 have hl:∀e∈l,e.sz≤bB l:=λe he=>by
  obtain⟨i,hi⟩:=List.mem_iff_getElem?.1 he;exact j2 hi
 have h78:(Qm S3).2.2.2.2.2.2.2.1=Fc (r78 S4):=by
  rw[e3];rfl
 have h64:(r78 S4).2.2.1=EX S5.Oh:=by
  rw[e4];rfl
 have ar7:Qf S5.Oh n' l:=by
  rw[e5];exact h6.exs (by omega) (by omega)
 have hlp:∀thn,PLp (IE (S2.c20,f44)) (clo (nr (r78 S4))) n' k a nm l bs thn:=λthn=>l63 rfl h78 λbd hbd=>by
  have:=hb bd hbd;show PB S2.c20 _ _ _ _;rw[e2];exact h3.bl (by omega) (by omega)
 refine ar5 (R:=r45 (cS S2)) rfl rfl (h2.exs (by omega) (by omega)) (λbd hbd=>?_) (hlp []) (hlp l) h64 ar7 rfl (ar4 (R:=(S2.c20,S2.Az)) (λe he=>?_) λbd hbd=>?_)
 ·have:=hb bd hbd;exact h2.b0 (by omega) (by omega) λH K=>apd rfl H K
 ·have:=hl e he;exact h2.ex (n'+1) e (by omega) (by omega)
 ·have:=hb bd hbd;show Ib S2.c20 _ _ _;rw[e2];exact h3.b0 (by omega) (by omega) λH K=>ape rfl H K
theorem okQ(m:Nat):xV (cB m) m:=by
 induction m using Nat.strongRecOn with
 |_ m ih=>
  refine⟨λn e g1 g2=>?_,λn s g1 g2=>?_⟩
  ·have:=e.pV;obtain⟨q,rfl⟩:∃q,m=q+1+1:=⟨m-2,by omega⟩
   rw[uW,uW];refine api (m:=q) ?_ (ih q (by omega)) n e (by omega) g2;rw[←uW];exact ih (q+1) (by omega)
  ·have:=s.pV;obtain⟨q,rfl⟩:∃q,m=q+1+1+1+1+1+1:=⟨m-6,by omega⟩
   have h2:=ih (q+1+1+1+1) (by omega);have h3:=ih (q+1+1+1) (by omega);have h6:=ih q (by omega);rw[uW (q+1+1+1+1+1),uW (q+1+1+1+1)];exact apj (uW _) (uW _) (uW _) (uW _) (m:=q) h2 h3 h6 n s (by omega) g2
end
end Go.Proofs.YtcedghechlgecaaDoor
namespace Go.Proofs.YtcedghechlgecaaDoor.G
open Go Go.X
noncomputable def ahQ(R:AV→AV→AV→AH→KF→Prop):List (Nat×cY):=[(20,ao [.a,.a,.a] R)]
noncomputable def SN(v a0 a1:AV)(X:AH→Prop)(H:AH):Prop:=va 56 (.agg [(.int 0 (.ofNat 0)),(.int 0 (.ofNat 0))]) true v λv1=>eU v1 λl2=>fh l2 0 λv3=>eU v1 λl4=>fh l4 1 λv5=>bY v5 λz6=>eI H (hN (aE H) [(.int 0 (.ofNat 0)),(.int 0 (.ofNat 0))] λv7 H8=>ah 2 v7 v3 H8 λH9=>bI z6 (ag 0 v7 λv10=>ad v10 H9 λv11=>cI 0 v11 λz12=>ag 1 v7 λv13=>ad v13 H9 λv14=>cI 0 v14 λmK=>ah 1 a0 (.int 0 z12) H9 λeE=>ad v13 eE λv17=>cI 0 v17 λyE=>bT (bu (.int 0 yE) (.int 0 mK)) (ah 1 a1 (.int 0 mK) eE λkj=>X kj)) (X H9))
noncomputable def Oi(K:KF)(a2 a3:AV)(H:AH):Prop:=ad a2 H λv5=>ad a3 H λv6=>K (.ret (.aP [v5,v6])) H
noncomputable def Bd(K:KF)(a2 a3:AV)(v:AV)(H:AH):Prop:=SN v a2 a3 (Oi K a2 a3) H
noncomputable def agm(K:KF)(a2 a3:AV):KF:=λo H=>match o with|.cM v=>Bd K a2 a3 v H|.ret v=>False
noncomputable def Oj(R:AV→AV→AV→AH→KF→Prop)(K:KF)(a0:AV)(H:AH):Prop:=eI H (hN (aE H) [(.int 0 (.ofNat 0))] λv1 H2=>eI H2 (hN (aE H2) [(.int 0 (.ofNat 0))] λv3 H4=>aT (aE H4) 2 1 [(.str 4 1398359371),(.str 4 1447514689)] λv5 H6=>one v5 (hN (aE H6) [v5,(.int 0 (.ofNat 0))] λv7 H8=>one v7 (aT (aE H8) 1 1 [v7] λv9 cn=>one v9 (hN (aE cn) [v9] λv11 bQ=>R v11 a0 (.func 21 [] []) bQ λlI dk=>cR (agm K v1 v3) lI dk λv15=>ah 1 v1 (.int 0 (.ofNat 0)) dk λeE=>ah 1 v3 (.int 0 (.ofNat 0)) eE λjO=>Bd K v1 v3 .ji jO)))))
theorem ar8(R:AV→AV→AV→AH→KF→Prop)(K:KF)(a0:AV)(H:AH):Oj R K a0 H=QX (jG (ahQ R)) (Iv Tryd.prog (jG (ahQ R))) Tryd.prog Tryd.prog.globals.size 400 400 8 [a0] H K:=by kernel_rfl
end Go.Proofs.YtcedghechlgecaaDoor.G
namespace Go.Proofs.YtcedghechlgecaaDoor
open Go Go.X Go.Proofs.YtcedghechlgecaaDoor.G
section
variable {H H':AH}{S S':LS}{K:KF}
noncomputable def g8x(B:AV→AH→KF→Prop):AV→AH→KF→Prop:=λa H K=>Oj (cBx B G.NL).c20 K a H
theorem aeO{B:AV→AH→KF→Prop}(hB:aw Tryd.prog 10 (ao [.a] B)):aw Tryd.prog 8 (ao [.a] (g8x B)):=λhb l H K hf=>by
 match l,hf with
 |[a],hf=>
  have hf:Oj (cBx B G.NL).c20 K a H:=hf;rw[ar8]at hf;exact aw.afD (af.cons (aeN hB G.NL).k20 af.nil) mix 400 400 hb [a] H K hf
noncomputable abbrev g8:AV→AH→KF→Prop:=g8x g10
theorem aqr:aw Tryd.prog 8 (ao [.a] g8):=aeO aeM
theorem Ok{o t:Nat}{x y:AV}(hM:Mem H S)(ho:S.ob o=.ce [x] 0)(ht:S.ob t=.ce [y] 0)(hK:K (.ret (.aP [x,y])) H):Oi K (.ptr o 0) (.ptr t 0) H:=by
 unfold Oi;refine az hM ho (v:=x) rfl ?_;exact az hM ht (v:=y) rfl hK
theorem apk{o t:Nat}{x y:AV}{e:Nat×Nat}(hM:Mem H S)(ho:S.ob o=.ce [x] 0)(ht:S.ob t=.ce [y] 0)(h1:o≠t)(hK:∀H' S',Mem H' S'→S.n≤S'.n→(∀b,b<S.n→b≠o→b≠t→S'.ob b=S.ob b)→K (.ret (.aP [aG e.1,aG e.2])) H'):Bd K (.ptr o 0) (.ptr t 0) (.iface 56 (.agg [aG e.1,aG e.2])) H:=by
 unfold Bd SN;refine aer ?_;simp only[ky,me,mf,aN];have lo1:o<S.n:=hM.lt (by rw[ho];simp);have HW:t<S.n:=hM.lt (by rw[ht];simp);refine rY hM (λa ha=>by
  simp only[List.mem_cons,List.not_mem_nil,or_false]at ha;rcases ha with rfl|rfl<;>rfl) rfl rfl (λa ha=>by
  simp only[List.mem_cons,List.not_mem_nil,or_false]at ha;rcases ha with rfl|rfl<;>rfl) λH1 S1 m1 x1 o1 n1=>?_
 rw[aH];simp only[aM,Nat.zero_add];refine az m1 o1 (v:=aG e.1) rfl ?_;show cI 0 (.int 0 _) _;rw[aK];refine az m1 o1 (v:=aG e.2) rfl ?_;show cI 0 (.int 0 _) _;rw[aK];refine bJ (v:=.int 0 (e.1:Int)) m1 ((x1.ob _ lo1).trans ho) (by omega) (by show 0<1;omega) rfl λH2 m2=>?_;have m2:Mem H2 (S1.set o (.ce [.int 0 (e.1:Int)] 0)):=m2;refine az m2 ((LS.aq _ _ (by omega)).trans o1) (v:=aG e.2) rfl ?_;show cI 0 (.int 0 _) _;rw[aK];refine cG (xm _ _) ?_;refine bJ (v:=.int 0 (e.2:Int)) m2 ((LS.aq _ _ (Ne.symm h1)).trans ((x1.ob _ HW).trans ht)) (by omega) (by show 0<1;omega) rfl λH3 m3=>?_;have m3:Mem H3 ((S1.set o (.ce [.int 0 (e.1:Int)] 0)).set t (.ce [.int 0 (e.2:Int)] 0)):=m3;refine Ok m3 ((LS.aq _ _ h1).trans (LS.ay _ _ _)) (LS.ay _ _ _) ?_;refine hK H3 _ m3 (by show S.n≤S1.n;exact x1.n) λb hb n1 n2=>?_;exact(LS.aq _ _ n2).trans ((LS.aq _ _ n1).trans (x1.ob b hb))
theorem apl{o t:Nat}{x y:AV}(hM:Mem H S)(ho:S.ob o=.ce [x] 0)(ht:S.ob t=.ce [y] 0)(hK:∀H' S',Mem H' S'→Ext S S'→K (.ret (.aP [x,y])) H'):Bd K (.ptr o 0) (.ptr t 0) .ji H:=by
 unfold Bd SN;refine aes ?_;simp only[ky,me,mf,aN];have lo1:o<S.n:=hM.lt (by rw[ho];simp);have HW:t<S.n:=hM.lt (by rw[ht];simp);refine rY hM (λa ha=>by
  simp only[List.mem_cons,List.not_mem_nil,or_false]at ha;rcases ha with rfl|rfl<;>rfl) rfl rfl (λa ha=>by
  simp only[List.mem_cons,List.not_mem_nil,or_false]at ha;rcases ha with rfl|rfl<;>rfl) λH1 S1 m1 x1 o1 n1=>?_
 rw[aI];exact Ok m1 ((x1.ob _ lo1).trans ho) ((x1.ob _ HW).trans ht) (hK H1 S1 m1 x1)
theorem ckW{q n:Nat}{bd:List aA}(h:4*n≤q)(h2:3*dO bd+1≤n):Ib (cB (q+1)).c20 (.func 21 [] []) n bd:=by
 rw[uW];exact(okQ q).b0 (by omega) h2 λH K=>apc rfl H K
theorem ck8{n:Nat}{v:AV}{bd:List aA}(hM:Mem H S)(hT:ni gl S)(hg:gl.length≤S.n)(hb:fY S (nR S) v bd)(hw:kv bd)(hsz:dO bd≤200000)(hn:3*dO bd+1≤n)(hn2:n≤200000)(hK:∀H' S',Mem H' S'→Ext S S'→K (.ret (.aP [aG (eC (Qe n bd)),aG (eA (Qe n bd))])) H'):g8 v H K:=by
 have hW:Ib (cB G.NL).c20 (.func 21 [] []) n bd:=by
  have e:∃q,G.NL=q+1∧4*n≤q:=⟨999999,rfl,by omega⟩
  obtain⟨q,e,h⟩:=e;rw[e];exact ckW h hn
 show Oj (cB G.NL).c20 K v H;generalize (cB G.NL).c20=W at hW ⊢;unfold Oj;rw[Oe];have ez:AV.int 0 (.ofNat 0)=aG 0:=rfl;rw[ez];have h1z:∀a∈[aG 0],a.one=true:=λa ha=>by
  simp only[List.mem_singleton]at ha;subst ha;rfl
 have h1k:∀a∈iL.map ai,a.one=true:=by
  intro a ha;obtain⟨t,_,rfl⟩:=List.mem_map.1 ha;rfl
 refine eT (dp hM h1z λH1 m1=>?_);have m1:Mem H1 (S.push (.ce [aG 0] 0)):=m1;have x1:Ext S (S.push (.ce [aG 0] 0)):=Ext.push _ _;have o1:(S.push (.ce [aG 0] 0)).ob S.n=.ce [aG 0] 0:=LS.av _ _;have n1:(S.push (.ce [aG 0] 0)).n=S.n+1:=rfl;generalize S.push (.ce [aG 0] 0)=S1 at m1 x1 o1 n1;refine eT (dp m1 h1z λH2 m2=>?_);have m2:Mem H2 (S1.push (.ce [aG 0] 0)):=m2;have x2:Ext S1 (S1.push (.ce [aG 0] 0)):=Ext.push _ _;have o2:(S1.push (.ce [aG 0] 0)).ob S1.n=.ce [aG 0] 0:=LS.av _ _;have n2:(S1.push (.ce [aG 0] 0)).n=S1.n+1:=rfl;generalize S1.push (.ce [aG 0] 0)=S2 at m2 x2 o2 n2;refine dj m2 rfl h1k λH3 m3=>?_;have m3:Mem H3 (S2.push (.ce (iL.map ai) 0)):=m3;have x3:Ext S2 (S2.push (.ce (iL.map ai) 0)):=Ext.push _ _;have o3:(S2.push (.ce (iL.map ai) 0)).ob S2.n=.ce (iL.map ai) 0:=LS.av _ _;have n3:(S2.push (.ce (iL.map ai) 0)).n=S2.n+1:=rfl;generalize S2.push (.ce (iL.map ai) 0)=S3 at m3 x3 o3 n3;refine eY rfl ?_;refine dp m3 (l:=[.slice S2.n 0 2 2 1 true,aG 0]) (λa ha=>by
  simp only[List.mem_cons,List.not_mem_nil,or_false]at ha;rcases ha with rfl|rfl<;>rfl) λH4 m4=>?_
 have m4:Mem H4 (S3.push (.ce [.slice S2.n 0 2 2 1 true,aG 0] 0)):=m4;have x4:Ext S3 (S3.push (.ce [.slice S2.n 0 2 2 1 true,aG 0] 0)):=Ext.push _ _;have o4:(S3.push (.ce [.slice S2.n 0 2 2 1 true,aG 0] 0)).ob S3.n=.ce [.slice S2.n 0 2 2 1 true,aG 0] 0:=LS.av _ _;have n4:(S3.push (.ce [.slice S2.n 0 2 2 1 true,aG 0] 0)).n=S3.n+1:=rfl;generalize S3.push (.ce [.slice S2.n 0 2 2 1 true,aG 0] 0)=S4 at m4 x4 o4 n4;refine eY rfl ?_;have h1p:∀a∈[AV.ptr S3.n 0],a.one=true:=λa ha=>by
  simp only[List.mem_singleton]at ha;subst ha;rfl
 refine dj m4 (l:=[.ptr S3.n 0]) rfl h1p λH5 m5=>?_;have m5:Mem H5 (S4.push (.ce [.ptr S3.n 0] 0)):=m5;have x5:Ext S4 (S4.push (.ce [.ptr S3.n 0] 0)):=Ext.push _ _;have o5:(S4.push (.ce [.ptr S3.n 0] 0)).ob S4.n=.ce [.ptr S3.n 0] 0:=LS.av _ _;have n5:(S4.push (.ce [.ptr S3.n 0] 0)).n=S4.n+1:=rfl;generalize S4.push (.ce [.ptr S3.n 0] 0)=S5 at m5 x5 o5 n5;refine eY rfl ?_;refine dp m5 (l:=[.slice S4.n 0 1 1 1 true]) (λa ha=>by
  simp only[List.mem_singleton]at ha;subst ha;rfl) λH6 m6=>?_
 have m6:Mem H6 (S5.push (.ce [.slice S4.n 0 1 1 1 true] 0)):=m6;have x6:Ext S5 (S5.push (.ce [.slice S4.n 0 1 1 1 true] 0)):=Ext.push _ _;have o6:(S5.push (.ce [.slice S4.n 0 1 1 1 true] 0)).ob S5.n=.ce [.slice S4.n 0 1 1 1 true] 0:=LS.av _ _;have n6:(S5.push (.ce [.slice S4.n 0 1 1 1 true] 0)).n=S5.n+1:=rfl;generalize S5.push (.ce [.slice S4.n 0 1 1 1 true] 0)=S6 at m6 x6 o6 n6;have x26:=x3.trans (x4.trans (x5.trans x6));have hx:=x1.trans (x2.trans x26);have fr3:dY S3 (.slice S2.n 0 2 2 1 true) (iL.map ai):=sk o3 h1k;have fr5:dY S5 (.slice S4.n 0 1 1 1 true) [.ptr S3.n 0]:=sk (l:=[.ptr S3.n 0]) o5 h1p;have hP:Pn S2.n S5.n H6 S6 (.slice S4.n 0 1 1 1 true) ([]++[bM.mk S3.n (.slice S2.n 0 2 2 1 true) iL 0]):=by
  refine⟨m6,⟨o6,fr5.keep m5 λx _ h=>x6.ob x h,?_,?_,?_,?_,?_,?_,?_,by omega,?_,?_⟩,by have:=x26.n;omega,hT.ext hM hx,by omega⟩
  all_goals try simp only[List.nil_append,List.mem_singleton,forall_eq]
  ·exact(x6.ob _ (by omega)).trans ((x5.ob _ (by omega)).trans o4)
  ·exact fr3.keep m3 λx _ h=>(x4.trans (x5.trans x6)).ob x h
  ·exact Od
  ·intro g;have g:S5.n=S4.n:=g;omega
  ·intro g;have g:S3.n=S2.n:=g;omega
  ·exact List.pairwise_singleton _ _
  ·intro x h;have h:x=S3.n∨x=S2.n:=h;refine⟨by omega,λg=>?_⟩;have g:x=S4.n:=g;omega
  ·intro x g;have g:x=S4.n:=g;omega
  ·intro x h;have h:x=S3.n∨x=S2.n:=h;omega
 have hbox:∀{S7:LS},(∀x,x<S2.n→S7.ob x=S6.ob x)→S7.ob S.n=.ce [aG 0] 0∧S7.ob S1.n=.ce [aG 0] 0:=λh=>by
  refine⟨?_,?_⟩
  ·rw[h _ (by omega),x26.ob _ (by omega),x2.ob _ (by omega)];exact o1
  ·rw[h _ (by omega),x26.ob _ (by omega)];exact o2
 have hend:∀{S7 S8:LS},S6.n≤S7.n→(∀x,x<S2.n→S7.ob x=S6.ob x)→S7.n≤S8.n→(∀b,b<S7.n→b≠S.n→b≠S1.n→S8.ob b=S7.ob b)→Ext S S8:=λh1 h2 h3 h4=>⟨by have:=hx.n;omega,λx hxl=>by
  have:=hx.n;rw[h4 x (by omega) (by omega) (by omega),h2 x (by omega)];exact hx.ob x hxl⟩
 refine hW.run hP rfl (hb.go (λx h=>hx.ob x h) λx h=>by have h:x<S.n:=h;show x<S2.n;omega) hw ⟨?_,?_⟩ ⟨λhnn H7 S7 rJ v7 P7 Ie=>?_,λe he H7 S7 m7 n7 k7=>?_⟩
 ·show 1+_≤_;omega
 ·intro d hd;simp only[List.nil_append,List.mem_singleton]at hd;subst hd;show 2+_≤_∧0+_≤_;omega
 ·show cR (agm K _ _) (.ret (.aP [])) H7 _;rw[aj];obtain⟨b1,b2⟩:=hbox (hP.low Ie);refine bJ (v:=aG 0) P7.m b1 (by omega) (by show 0<1;omega) rfl λH8 m8=>?_;have m8:Mem H8 (S7.set S.n (.ce [aG 0] 0)):=m8;refine bJ (v:=aG 0) m8 ((LS.aq _ _ (by omega)).trans b2) (by omega) (by show 0<1;omega) rfl λH9 m9=>?_;have m9:Mem H9 ((S7.set S.n (.ce [aG 0] 0)).set S1.n (.ce [aG 0] 0)):=m9;refine apl m9 ((LS.aq _ _ (by omega)).trans (LS.ay _ _ _)) (LS.ay _ _ _) λHa Sa ma xa=>?_;have hnn:Qe n bd=none:=hnn;rw[hnn]at hK;refine hK Ha Sa ma (hend (S7:=S7) Ie.n (hP.low Ie) (by have:=xa.n;exact this) λx h h1 h2=>?_);rw[xa.ob x h];exact(LS.aq _ _ h2).trans (LS.aq _ _ h1)
 ·show cR (agm K _ _) (.cM _) H7 _;rw[ik];show Bd K (.ptr S.n 0) (.ptr S1.n 0) _ H7;obtain⟨b1,b2⟩:=hbox k7;refine apk m7 b1 b2 (by omega) λHa Sa ma na ka=>?_;have he:Qe n bd=some e:=he;rw[he]at hK;exact hK Ha Sa ma (hend n7 k7 na ka)
end
end Go.Proofs.YtcedghechlgecaaDoor
namespace Go.X
def Gl:KF:=λo _=>match o with
 |.ret (.bool true)=>True
 |_=>False
theorem aeP{o:lT}{H:AH}(h:Gl o H):o=.ret (.bool true):=by
 unfold Gl at h;split at h
 ·rfl
 ·exact h.elim
theorem aw.onK{P:Program}{g:Nat}{F:cY}(hF:aw P g F)(Kc:KF):aw P g λl H K=>F l H Kc∧∀o H',Kc o H'→K o H':=λhb l H K ⟨h,hk⟩=>by
 obtain⟨o,H',h1,h2⟩:=hF hb l H _ h;exact⟨o,H',hk o H' h1,h2⟩
end Go.X
namespace Go.Proofs.YtcedghechlgecaaDoor
open Go Go.X Go.Proofs.YtcedghechlgecaaDoor.G
noncomputable def bX:AV→AH→KF→Prop:=RO (f23,f24)
theorem SO:aw Tryd.prog 10 (ao [.a] bX):=Pu (f23,f24) (af.cons Mc (af.cons aaO af.nil))
noncomputable def uX:AV→AV→AH→KF→Prop:=RP (bX,f23)
theorem aqs:aw Tryd.prog 73 (ao [.a,.a] uX):=aiV (bX,f23) (af.cons SO (af.cons Mc af.nil))
noncomputable def oX:AV→AH→KF→Prop:=RU (xS uX G.NL).1
theorem aqt:aw Tryd.prog 14 (ao [.a] oX):=aiZ _ (af.cons (ao0 aqs G.NL).1 af.nil)
noncomputable def R6:rC:=(g7,g8x bX,bX,f13,oX)
noncomputable def ahR:AH→KF→Prop:=aok R6
theorem agn:aw Tryd.prog 6 (ao [] ahR):=aol R6 (af.cons ahN (af.cons (aeO SO) (af.cons SO (af.cons amn (af.cons aqt af.nil)))))
theorem ago:JV gl ⟨.e,0⟩ (λH0=>ahR H0 Gl)=True:=by kernel_rfl
theorem ajX{F:AH→KF→Prop}(hF:aw Tryd.prog 6 (ao [] F))(hr:JV gl ⟨.e,0⟩ (λH0=>F H0 Gl)=True):aw Tryd.prog 6 (ao [] uD):=by
 obtain⟨H0,hM0,h0⟩:=HH (of_run hr);have h:=aw.frame (gl:=gl) (by kernel_rfl) NW (hF.onK Gl) (args:=[]) (λa ha=>by simp at ha) (v:=.bool true) rfl ⟨H0,hM0,h0,λo H' h=>aeP h⟩;refine h.weaken λl H K hf=>?_;cases l with
 |nil=>
  have hf':uD H K:=hf;exact⟨rfl,hf'.1,hf'.2⟩
 |cons a l=>exact hf.elim
theorem ajY:aw Tryd.prog 6 (ao [] uD):=ajX agn ago
end Go.Proofs.YtcedghechlgecaaDoor
namespace Go.X
theorem ajZ(b:Bool)(q:AV→Prop)(h:q (.bool true)):Qv (.bool b) (.bool b) q:=by cases b<;>exact h
theorem aj0{r:List Tok ⊕ Nat}{b:List aA}(h:uR r=.inl b):kv b:=by
 cases r with
 |inr e=>cases h
 |inl ts=>
  have hsc:uR (.inl ts)=(match jx ts with|.ok b _=>.inl b|.err c i=>.inr (c,aB ts i)|.aS=>.inl []):=rfl;rw[hsc]at h;cases e:jx ts with
  |aS=>rw[e]at h;cases h;trivial
  |err c i=>rw[e]at h;cases h
  |ok b' j=>
   rw[e]at h;cases h;unfold jx at e;obtain⟨a,i,e1,e2⟩:=aV e;have:=(((Qa _).block _ _).h a i e1).h;split at e2
   ·cases e2;exact this
   ·cases e2
end Go.X
namespace Go.Proofs.YtcedghechlgecaaDoor
open Go Go.X Go.Proofs.YtcedghechlgecaaDoor.G
section
variable {H:AH}{S:LS}{K:KF}
noncomputable def R3:rB:=(uD,g7,g8,f9,g10,f11)
noncomputable def g3:AV→AV→AH→KF→Prop:=aoi R3
theorem aqu(ht:aw Tryd.prog 6 (ao [] uD)):aw Tryd.prog 3 (ao [.a,.a] g3):=aoj R3 (af.cons ht (af.cons ahN (af.cons aqr (af.cons apP (af.cons aeM (af.cons Z5 af.nil))))))
theorem ar9{s nm:List Nat}(h8:B8 s)(h8n:B8 nm)(hM:Mem H S)(hT:ni gl S)(hg:gl.length≤S.n)(hK:∀H',K (.ret (.bool true)) H'):g3 (ai s) (ai nm) H K:=by
 have ra:R3.1=uD:=rfl;have rb:R3.2.1=g7:=rfl;have rc:R3.2.2.1=g8:=rfl;have rd:R3.2.2.2.1=f9:=rfl;have re:R3.2.2.2.2.1=g10:=rfl;have rf:R3.2.2.2.2.2=f11:=rfl;have fin:∀{H':AH}{S':LS},Mem H' S'→Ext S S'→uD H' λo1 H2=>cR K o1 H2 λv3=>bY v3 λz4=>K (.ret (.bool z4)) H2:=λ{H' S'} m x=>by
  refine⟨⟨S',m,hT.ext hM x⟩,?_⟩;show K (.ret (.bool true)) H';exact hK _
 show IJ R3 K (II R3 K) (ai s) (ai nm) H;unfold IJ;rw[ra,rb];have aqv:Int.ofNat 1500=1500:=rfl;have e100:Int.ofNat 100=100:=rfl;simp only[iZ,aK,cz,aqv,e100];refine bR (λg=>fin hM (Ext.refl S)) (λgs=>?_);refine bR (λg=>fin hM (Ext.refl S)) (λgn=>?_);obtain⟨r,hr⟩:=BM (s.length+1) s 0 (by omega);refine arM h8 (by omega) hr hM ?_;cases hsc:uR r with
 |inr p=>
  obtain⟨c,p⟩:=p;have hc:=ajx hsc;intro H1 S1 m1 x1;simp only[aj,ky,me,mf,aK];rw[aZ,decide_eq_false (by show ¬(c:Int)=0;omega)];simp only[Bool.not_false,aH];exact fin m1 x1
 |inl a=>
  intro H1 S1 v1 m1 x1 rv1;simp only[aj,ky,me,mf,aK];rw[aZ,decide_eq_true (by rfl)];simp only[Bool.not_true,aI];unfold II;rw[ra,rc,rd,re,rf];have hsz:=ajV hr (by omega) hsc;have hwg:=aj0 hsc;have B1:fY S1 (nR S1) v1 a:=rv1.go (λx hx=>rfl) λx hx=>hx.2;refine ck8 (n:=3*dO a+4) m1 (hT.ext hM x1) (by have:=x1.n;omega) B1 hwg (by omega) (by omega) (by omega) λH2 S2 m2 x2=>?_;simp only[aj,ky,me,mf];unfold aG;simp only[aK];have B2:=B1.ext x2;refine ck9 (n:=3*dO a+4) m2 B2 hwg (by omega) (by omega) (by omega) λH3 S3 m3 x3=>?_;simp only[aj,ky,me,mf];unfold aG;simp only[aK];have yx:=x1.trans (x2.trans x3);refine⟨⟨S3,m3,hT.ext hM yx⟩,?_⟩;show cR K (.ret (.bool true)) H3 _;rw[aj,aN,aH,aZ,decide_eq_true rfl,aH,aZ,decide_eq_true rfl,aH];refine aoX m3 (hT.ext hM yx) h8n λH4 S4 m4 x4=>?_;rw[aj,aN];refine aoY m4 h8n λH5 S5 m5 x5=>?_;rw[aj,aN];refine ajZ _ _ ?_;rw[aN];exact hK _
end
end Go.Proofs.YtcedghechlgecaaDoor
