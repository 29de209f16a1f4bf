/- A machine over values and memory of its own, and that what it does the model does: a tool of this claim (names and blanks are shortened by a program, since a claim may hold 1,500,000 bytes). No condition: definitions and lemmas. -/
import Derived.Test.YtcedghechlgecaaGreatDoorXa
import Derived.Lib.Overlaps
import Derived.Laws.Externs
import Derived.Lib.Bytealg
import Derived.Laws.StandIn
import Derived.Laws.IdiomStrings
import Derived.ScopeJumps
import Derived.Recover
import Derived.Orders
set_option maxRecDepth 100000
set_option maxHeartbeats 0
set_option linter.unusedVariables false
set_option linter.unusedSimpArgs false
namespace Go.X
def dW:AV:=.bD []
def kK(P:Program)(t:TypeId)(v:AV)(k:AV→Prop):Prop:=
 match P.underlying t with
 |some (.int q)=>jK v λc z=>bT (Nat.beq c (kn q)) (k (.int (kn q) z))
 |some .bool=>bO v λz=>k (.bool z)
 |_=>k v
theorem fE{P:Program}{t:TypeId}{v:AV}{k:AV→Prop}(h:kK P t v k):k v:=by
 unfold kK at h;split at h
 ·obtain⟨c,z,rfl,h⟩:=eL h;obtain⟨e,h⟩:=aF h;rw[Nat.eq_of_beq_eq_true e];exact h
 ·unfold bO at h;split at h
  ·exact h
  ·exact h.elim
 ·exact h
noncomputable section
def Tm(m:AV)(H:AH)(k:List eS→Prop):Prop:=(match m with
 |.oG=>λk=>k []
 |.map b=>λk=>H.t.fU b λo=>(match o with|.map es _=>k es|_=>False)
 |_=>λ_=>False:(List eS→Prop)→Prop) k
def HE(m:AV)(H:AH)(k:Nat→List eS→Nat→Prop):Prop:=(match m with
 |.map b=>λk=>H.t.fU b λo=>(match o with|.map es cl=>k b es cl|_=>False)
 |_=>λ_=>False:(Nat→List eS→Nat→Prop)→Prop) k
def foundAt(P:Program)(kt:TypeId)(key:AV)(es:List eS)(k:Option Nat→Prop):Prop:=match qF P kt key es with|some r=>k r|none=>False
def ahv(P:Program)(kt:TypeId)(ok:Bool)(z m key:AV)(H:AH)(k:AV→Prop):Prop:=Tm m H λes=>foundAt P kt key es λr=>k (Oo ok z es r)
def ae1(P:Program)(kt:TypeId)(m key v:AV)(H:AH)(k:AH→Prop):Prop:=HE m H λb es cl=>foundAt P kt key es λr=>iZ H b (.map (HB es cl key v r) (Ot cl r)) k
def ae2(P:Program)(kt:TypeId)(m key:AV)(H:AH)(k:AH→Prop):Prop:=HE m H λb es cl=>foundAt P kt key es λr=>iZ H b (.map (Zz es r) cl) k
def aim(nw:Lay)(k:AV→AH→Prop):Prop:=nw (.map [] 0) λb H'=>k (.map b) H'
def Mb(P:Program)(t:TypeId)(m key:AV)(ok:Bool)(H:AH)(k:AV→Prop):Prop:=match P.underlying t with
 |some (.map kt et)=>(match P.info? et with
  |some inf=>(match inf.zero with
   |some z=>bT (rS P kt) (ahv P kt ok (gZ z) m key H k)
   |none=>False)
  |none=>False)
 |_=>False
def Mc(P:Program)(t:TypeId)(m key v:AV)(H:AH)(k:AH→Prop):Prop:=match P.underlying t with
 |some (.map kt _)=>bT (rS P kt) (ae1 P kt m key v H k)
 |_=>False
def ae3(P:Program)(t:TypeId)(m key:AV)(H:AH)(k:AH→Prop):Prop:=match P.underlying t with
 |some (.map kt _)=>bT (rS P kt) (ae2 P kt m key H k)
 |_=>False
def zP(P:Program)(b:Builtin)(ty:TypeId)(ts:Array TypeId)(args:List AV)(H:AH)(k:AV→AH→Prop):Prop:=
 match b,ts.toList,args with
 |.len,t::_,[a]=>Zs P t a H λv=>kK P ty v λv=>k v H
 |.append,[t,u],[s,x]=>Zr P t u s x H k
 |.copy,[t,_],[d,s]=>Oj P t d s H λv H=>kK P ty v λv=>k v H
 |.max,_,a::l=>yg abf l a λv=>kK P ty v λv=>k v H
 |.min,_,a::l=>yg Gq l a λv=>kK P ty v λv=>k v H
 |.delete,t::_,[m,x]=>ae3 P t m x H λH=>k dW H
 |.cap,t::_,[a]=>ZD P t a λv=>kK P ty v λv=>k v H
 |.clear,[t],[a]=>HD P t a H λH=>k dW H
 |_,_,_=>False
def cD(H:AH)(x:Prop):Prop:=@Bt.rec dE (λ_=>Prop→Prop) (λx=>x) (λ_ _ _ _ _ x=>x) H.t x
theorem Dx(H:AH)(x:Prop):cD H x=x:=by
 unfold cD;cases H.t<;>rfl
def qA(P:Program)(o:Oper)(ρ:Operand→AV)(nw:Lay)(H:AH)(k:AV→AH→Prop):Prop:=
 match o.op with
 |.move x=>k (ρ x) H
 |.assign x=>k (ρ x) H
 |.pick c a b=>kh (ρ c) (kK P o.type (ρ a) λv=>k v H) (kK P o.type (ρ b) λv=>k v H)
 |.alloc e=>cD H (dd P nw e k)
 |.box _ x=>ng nw (ρ x) k
 |.build t ps=>(match P.underlying t with|some (.struct fs)=>bT (Hv P fs) (Hm P t (ps.toList.map λx=>(x.1,ρ x.2)) λv=>k v H)|_=>False)
 |.buildSlice t n ps=>Du P nw t n (ps.toList.map λx=>(x.1,ρ x.2)) k
 |.load t a=>Gn P t (ρ a) H λv=>kK P o.type v λv=>k v H
 |.store t a x=>pP P t (ρ a) (ρ x) H λH'=>k dW H'
 |.nilCheck x=>cK (ρ x) (k (ρ x) H)
 |.binOp op t x y _=>Ov P op t x y (ρ x) (ρ y) H λv=>kK P o.type v λv=>k v H
 |.unOp op t x=>xUn P op t (ρ x) λv=>kK P o.type v λv=>k v H
 |.convert s d x=>Ok P s d (ρ x) H λv H=>kK P o.type v λv=>k v H
 |.makeInterface t x=>SY P t (ρ x) λv=>k v H
 |.makeFunc fn a b=>(match fn with|.func g=>k (.func g (a.toList.map ρ) (b.toList.map ρ)) H|_=>False)
 |.makeSlice t l c=>cD H (Hz P nw t (ρ l) (ρ c) k)
 |.slice t x lo hi mx=>Hq P t (ρ x) (lo.map ρ) (hi.map ρ) (mx.map ρ) λv=>k v H
 |.fieldAddr t x i=>Zl P t (ρ x) i λv=>k v H
 |.field t x i=>Ho P t (ρ x) i λv=>kK P o.type v λv=>k v H
 |.indexAddr t x i=>zK P t (ρ x) (ρ i) λv=>k v H
 |.index t x i=>Hp P t (ρ x) (ρ i) λv=>kK P o.type v λv=>k v H
 |.extract x i=>Hn (ρ x) i λv=>kK P o.type v λv=>k v H
 |.range t x=>Hy P t (ρ x) H k
 |.next it s=>bT s (abe (ρ it) H k)
 |.typeAssert x _ u ok=>LZ P u ok (ρ x) λv=>kK P o.type v λv=>k v H
 |.makeMap _ r=>(match r with|none=>aim nw k|some _=>False)
 |.lookup t m key ok=>Mb P t (ρ m) (ρ key) ok H λv=>kK P o.type v λv=>k v H
 |.mapUpdate t m key x=>Mc P t (ρ m) (ρ key) (ρ x) H λH'=>k dW H'
 |.call c=>(match c.callee with|.builtin b=>zP P b o.type c.argTypes (c.args.toList.map ρ) H k|_=>False)
 |_=>False
end
def tm(o:Oper):Bool:=
 match o.op with
 |.alloc _=>true
 |.box ..=>true
 |.buildSlice ..=>true
 |.makeSlice ..=>true
 |.makeMap ..=>true
 |_=>false
def turns(o:Oper):Bool:=
 match o.op with
 |.store ..=>true
 |.range ..=>true
 |.next ..=>true
 |.mapUpdate ..=>true
 |.panic _=>true
 |.defer _=>true
 |.go _=>true
 |.call c=>(match c.callee with|.builtin .append=>true|.builtin .copy=>true|.builtin .delete=>true|.builtin .clear=>true|.builtin _=>false|_=>true)
 |_=>false
section
variable {P:Program}
def Did(P:Program)(o:Oper)(a:Act)(w:World)(u:Value)(w':World):Prop:=
 (execOp a.eval o).run P w=.ok (.value u) w'∨((execOp a.eval o).run P w=.ok .skip w'∧u=undef)
def Stand(f:aN)(o:Oper)(ρ:Operand→AV)(a:Act):Prop:=∀x∈o.op.operands,VR f (ρ x) (a.eval x)
theorem fq{o:Oper}{a:Act}{w:World}{s:Sem Value}(he:execOp a.eval o=(do pure (.value (←s)))){u:Value}{w':World}(hs:s.run P w=.ok u w'):Did P o a w u w':=by
 left;rw[he];simp[hs]
theorem VR.undef(f:aN):VR f dW undef:=.bD [] [] .nil
theorem ZE{a:AV}{k:Prop}(h:cK a k):k∧((∃b o,a=.ptr b o)∨(∃g x y,a=.func g x y)∨(∃t v,a=.iface t v)):=by
 cases a<;>first|exact h.elim|exact⟨h,by simp⟩
inductive ZF(P:Program)(o:Oper)(ρ:Operand→AV)(nw:Lay)(H:AH)(k:AV→AH→Prop):Prop where
 |same (v:AV) (h:k v H) (g:∀f w a,HRQ f H.sem w→Stand f o ρ a→∃u,Did P o a w u w∧VR f v u)
 |new (ob:dE) (vf:Nat→AV) (hl:tm o=true) (h:nw ob λb H'=>k (vf b) H') (ho:ob.sem.own=true) (g:∀f w a,Stand f o ρ a→∃u obj,Did P o a w u (w.alloc obj)∧lG f w ob vf u obj)
 |turn (v:AV) (H':AH) (h:k v H') (ht:turns o=true) (g:∀f w a,HR f H w→Stand f o ρ a→∃u w' f',Did P o a w u w'∧Step f H w f' H' w'∧VR f' v u)
theorem ZG{f:aN}{ρ:Operand→AV}{a:Act}{x:Option Operand}(h:∀y,x=some y→VR f (ρ y) (a.eval y)):BR f (x.map ρ) (x.map a.eval):=by
 cases x with
 |none=>exact .none
 |some y=>exact .some _ _ (h y rfl)
theorem VL.mo{f:aN}{ρ:Operand→AV}{a:Act}{l:List Operand}(h:∀x∈l,VR f (ρ x) (a.eval x)):VL f (l.map ρ) (l.map a.eval):=VL.map h
theorem Ow{m:AV}{H:AH}{k:List eS→Prop}(h:Tm m H k):∃es,MapAt H m es∧k es:=by
 cases m<;>try exact h.elim
 ·exact⟨[],.inl ⟨rfl,rfl⟩,h⟩
 ·rename_i b;obtain⟨o,ho,h⟩:=Bt.dp _ _ _ h;cases o<;>try exact h.elim
  rename_i es cl;exact⟨es,.inr ⟨b,cl,rfl,AH.pO ho⟩,h⟩
theorem AS{m:AV}{H:AH}{k:Nat→List eS→Nat→Prop}(h:HE m H k):∃b es cl,m=.map b∧H.at b=.map es cl∧k b es cl:=by
 cases m<;>try exact h.elim
 rename_i b;obtain⟨o,ho,h⟩:=Bt.dp _ _ _ h;cases o<;>try exact h.elim
 rename_i es cl;exact⟨b,es,cl,rfl,AH.pO ho,h⟩
theorem ua{P:Program}{kt:TypeId}{key:AV}{es:List eS}{k:Option Nat→Prop}(h:foundAt P kt key es k):∃r,qF P kt key es=some r∧k r:=by
 unfold foundAt at h;split at h
 ·exact⟨_,by assumption,h⟩
 ·exact h.elim
theorem ZH{P:Program}{kt:TypeId}{m key v:AV}{H:AH}{k:AH→Prop}(h:ae1 P kt m key v H k):∃b es cl r H',m=.map b∧H.at b=.map es cl∧qF P kt key es=some r∧H'.n=H.n∧H'.at b=.map (HB es cl key v r) (Ot cl r)∧(∀c,c≠b→H'.at c=H.at c)∧k H':=by
 obtain⟨b,es,cl,rfl,hb,h⟩:=AS h;obtain⟨r,hf,h⟩:=ua h;obtain⟨H',h,g1,g2,g3⟩:=gr h;exact⟨b,es,cl,r,H',rfl,hb,hf,g1,g2,g3,h⟩
theorem ZI{P:Program}{kt:TypeId}{m key:AV}{H:AH}{k:AH→Prop}(h:ae2 P kt m key H k):∃b es cl r H',m=.map b∧H.at b=.map es cl∧qF P kt key es=some r∧H'.n=H.n∧H'.at b=.map (Zz es r) cl∧(∀c,c≠b→H'.at c=H.at c)∧k H':=by
 obtain⟨b,es,cl,rfl,hb,h⟩:=AS h;obtain⟨r,hf,h⟩:=ua h;obtain⟨H',h,g1,g2,g3⟩:=gr h;exact⟨b,es,cl,r,H',rfl,hb,hf,g1,g2,g3,h⟩
theorem K5{o:Oper}{c:Call}{b:Builtin}{ρ:Operand→AV}{nw:Lay}{H:AH}{k:AV→AH→Prop}(ho:o.op=.call c)(hb:c.callee=.builtin b)(h:zP P b o.type c.argTypes (c.args.toList.map ρ) H k):ZF P o ρ nw H k:=by
 have hops:∀{f:aN}{a:Act},Stand f o ρ a→VL f (c.args.toList.map ρ) (c.args.toList.map a.eval):=λ{f a} hs=>
  VL.mo λx hx=>hs x (by rw[ho];simp[Op.operands,Call.operands,hb];simpa using hx)
 have nV:∀a:Act,execOp a.eval o=builtin b c.argTypes o.type (c.args.map fun|.const _=>true|_=>false) (c.args.map a.eval):=λa=>by
  simp[execOp,ho,resolve,hb,invoke];rfl
 unfold zP at h;split at h
 ·rename_i t ts0 x hts hx;obtain⟨v,h1,h2⟩:=acw (P:=P) (t:=t) (u:=t) (ty:=o.type) (ts:=c.argTypes) (by rw[←Array.getElem?_toList,hts];rfl) h;refine .same v (fE h1) λf w a hr hs=>?_;have hv:=hops hs;rw[hx]at hv;generalize hgs:c.args.toList.map a.eval=us at hv;cases hv with
  |cons _ u _ us hu hl=>
   cases hl;obtain⟨r,g1,g2⟩:=h2 f w u hr hu;refine⟨r,fq (s:=Builtin.len_ c.argTypes o.type #[u]) ?_ g1,g2⟩;rw[nV];have:c.args.map a.eval = #[u]:=by
    apply Array.ext';rw[Array.toList_map,hgs]
   rw[this];rfl
 ·rename_i t u0 s x hts hx;obtain⟨v,H',h1,h2⟩:=acs (P:=P) (ty:=o.type) h;refine .turn v H' h1 (by simp only[turns,ho,hb]) λf w a hr hs=>?_;have hv:=hops hs;rw[hx]at hv;generalize hgs:c.args.toList.map a.eval=us at hv;cases hv with
  |cons _ u _ us hu hl=>
   cases hl with
   |cons _ u2 _ us hu2 hl=>
    cases hl;obtain⟨r,w',f',g1,g2,g3⟩:=h2 f w u u2 hr hu hu2;refine⟨r,w',f',fq (s:=Builtin.append_ #[t,u0] o.type #[u,u2]) ?_ g1,g2,g3⟩;rw[nV];have e1:c.args.map a.eval = #[u,u2]:=by
     apply Array.ext';rw[Array.toList_map,hgs]
    have e2:c.argTypes = #[t,u0]:=by
     apply Array.ext';rw[hts]
    rw[e1,e2];rfl
 ·rename_i t u0 s x hts hx;obtain⟨v,H',h1,h2⟩:=Zt (P:=P) (u:=u0) (ty:=o.type) h;refine .turn v H' (fE (P:=P) (t:=o.type) (k:=λv=>k v H') h1) (by simp only[turns,ho,hb]) λf w a hr hs=>?_;have hv:=hops hs;rw[hx]at hv;generalize hgs:c.args.toList.map a.eval=us at hv;cases hv with
  |cons _ u _ us hu hl=>
   cases hl with
   |cons _ u2 _ us hu2 hl=>
    cases hl;obtain⟨r,w',f',g1,g2,g3⟩:=h2 f w u u2 hr hu hu2;refine⟨r,w',f',fq (s:=Builtin.copy_ #[t,u0] o.type #[u,u2]) ?_ g1,g2,g3⟩;rw[nV];have e1:c.args.map a.eval = #[u,u2]:=by
     apply Array.ext';rw[Array.toList_map,hgs]
    have e2:c.argTypes = #[t,u0]:=by
     apply Array.ext';rw[hts]
    rw[e1,e2];rfl
 ·rename_i x l hx;obtain⟨v,h1,h2⟩:=zN (P:=P) (λa b k=>acu) l x _ h;refine .same v (fE h1) λf w a hr hs=>?_;have hv:=hops hs;rw[hx]at hv;generalize hgs:c.args.toList.map a.eval=us at hv;cases hv with
  |cons _ u _ us hu hl=>
   obtain⟨r,g1,g2⟩:=h2 f u us hu hl;refine⟨r,fq (s:=us.foldlM Builtin.max2 u) ?_ (g1 w),g2⟩;rw[nV];have:(c.args.map a.eval).toList=u::us:=by rw[Array.toList_map,hgs]
   simp only[builtin,Builtin.max_,this]
 ·rename_i x l hx;obtain⟨v,h1,h2⟩:=zN (P:=P) (λa b k=>acv) l x _ h;refine .same v (fE h1) λf w a hr hs=>?_;have hv:=hops hs;rw[hx]at hv;generalize hgs:c.args.toList.map a.eval=us at hv;cases hv with
  |cons _ u _ us hu hl=>
   obtain⟨r,g1,g2⟩:=h2 f u us hu hl;refine⟨r,fq (s:=us.foldlM Builtin.min2 u) ?_ (g1 w),g2⟩;rw[nV];have:(c.args.map a.eval).toList=u::us:=by rw[Array.toList_map,hgs]
   simp only[builtin,Builtin.min_,this]
 ·rename_i t ts0 x y hts hx;unfold ae3 at h;split at h
  ·rename_i kt et hu;obtain⟨hl,h⟩:=aF h;obtain⟨b',es,cl,r,H',em,hm,hf,hn,hnew,hold,h⟩:=ZI h;refine .turn dW H' h (by simp only[turns,ho,hb]) λf w a hr hs=>?_;have hv:=hops hs;rw[hx]at hv;generalize hgs:c.args.toList.map a.eval=us at hv;cases hv with
   |cons _ u _ us hu1 hl1=>
    cases hl1 with
    |cons _ u2 _ us hu2 hl1=>
     cases hl1;obtain⟨w',g1,g2⟩:=Ou (ts:=c.argTypes) (ty:=o.type) (by rw[←Array.getElem?_toList,hts];rfl) hu hl hm hf hn hnew hold hr (em ▸ hu1) hu2;refine⟨_,w',f,fq (s:=Builtin.delete_ c.argTypes o.type #[u,u2]) ?_ g1,g2,VR.undef f⟩;rw[nV];have e1:c.args.map a.eval = #[u,u2]:=by
      apply Array.ext';rw[Array.toList_map,hgs]
     rw[e1];rfl
  ·exact h.elim
 ·rename_i t ts0 x hts hx;obtain⟨v,h1,h2⟩:=acy (P:=P) (t:=t) (ty:=o.type) (ts:=c.argTypes) (by rw[←Array.getElem?_toList,hts];rfl) h;refine .same v (fE h1) λf w a hr hs=>?_;have hv:=hops hs;rw[hx]at hv;generalize hgs:c.args.toList.map a.eval=us at hv;cases hv with
  |cons _ u _ us hu hl=>
   cases hl;obtain⟨r,g1,g2⟩:=h2 f w u hu;refine⟨r,fq (s:=Builtin.cap_ c.argTypes o.type #[u]) ?_ g1,g2⟩;rw[nV];have:c.args.map a.eval = #[u]:=by
    apply Array.ext';rw[Array.toList_map,hgs]
   rw[this];rfl
 ·rename_i t x hts hx;obtain⟨H',h1,h2⟩:=Tl (P:=P) (ty:=o.type) h;refine .turn _ H' h1 (by simp only[turns,ho,hb]) λf w a hr hs=>?_;have hv:=hops hs;rw[hx]at hv;generalize hgs:c.args.toList.map a.eval=us at hv;cases hv with
  |cons _ u _ us hu hl=>
   cases hl;obtain⟨w',g1,g2⟩:=h2 f w u hr hu;refine⟨_,w',f,fq (s:=Builtin.clear_ #[t] o.type #[u]) ?_ g1,g2,VR.undef f⟩;rw[nV];have e1:c.args.map a.eval = #[u]:=by
    apply Array.ext';rw[Array.toList_map,hgs]
   have e2:c.argTypes = #[t]:=by
    apply Array.ext';rw[hts]
   rw[e1,e2];rfl
 ·exact h.elim
theorem HF{o:Oper}{ρ:Operand→AV}{nw:Lay}{H:AH}{k:AV→AH→Prop}(h:qA P o ρ nw H k):ZF P o ρ nw H k:=by
 unfold qA at h;split at h
 ·rename_i x ho;exact .same _ h λf w a hr hs=>⟨_,.inl (by simp[execOp,ho]),hs x (by simp[ho,Op.operands])⟩
 ·rename_i x ho;exact .same _ h λf w a hr hs=>⟨_,.inl (by simp[execOp,ho]),hs x (by simp[ho,Op.operands])⟩
 ·rename_i c x y ho;rcases nS h with⟨e,h⟩|⟨e,h⟩
  ·refine .same _ (fE h) λf w a hr hs=>⟨_,.inl ?_,hs x (by simp[ho,Op.operands])⟩
   have:=hs c (by simp[ho,Op.operands]);rw[e]at this;simp[execOp,ho,this.nf,asBool]
  ·refine .same _ (fE h) λf w a hr hs=>⟨_,.inl ?_,hs y (by simp[ho,Op.operands])⟩
   have:=hs c (by simp[ho,Op.operands]);rw[e]at this;simp[execOp,ho,this.nf,asBool]
 ·rename_i e ho;rw[Dx]at h;obtain⟨ob,vf,h1,h2,h3⟩:=SR h;refine .new ob vf (by simp[tm,ho]) h1 h2 λf w a hs=>?_;obtain⟨r,obj,g1,g2⟩:=h3 f w;exact⟨r,obj,fq (by simp only[execOp,ho]) g1,g2⟩
 ·rename_i e x ho;obtain⟨ob,vf,h1,h2,h3⟩:=acp (P:=P) (t:=e) h;refine .new ob vf (by simp[tm,ho]) h1 h2 λf w a hs=>?_;obtain⟨r,obj,g1,g2⟩:=h3 f w _ (hs x (by simp[ho,Op.operands]));exact⟨r,obj,fq (by simp only[execOp,ho]) g1,g2⟩
 ·rename_i t ps ho;split at h
  ·rename_i fs ht;obtain⟨h0,h⟩:=aF h;obtain⟨v,h1,h2⟩:=SX ht h0 h;refine .same v h1 λf w a hr hs=>?_;obtain⟨r,g1,g2⟩:=h2 f a.eval (λx hx=>hs x.2 (by simp only[ho,Op.operands];simp;exact⟨x.1,by simpa using hx⟩));refine⟨r,fq ?_ (g1 w),g2⟩;simp only[execOp,ho];congr 2;apply Array.ext';simp
  ·exact h.elim
 ·rename_i t n ps ho;obtain⟨ob,vf,h1,h2,h3⟩:=Oh h;refine .new ob vf (by simp[tm,ho]) h1 h2 λf w a hs=>?_;obtain⟨r,obj,g1,g2⟩:=h3 f w a.eval (λx hx=>hs x.2 (by simp only[ho,Op.operands];simp;exact⟨x.1,by simpa using hx⟩));refine⟨r,obj,fq ?_ g1,g2⟩;simp only[execOp,ho];congr 2;apply Array.ext';simp
 ·rename_i t x ho;obtain⟨v,h1,h2⟩:=Ht h;refine .same v (fE h1) λf w a hr hs=>?_;obtain⟨r,g1,g2⟩:=h2 f w _ hr (hs x (by simp[ho,Op.operands]));exact⟨r,fq (by simp only[execOp,ho]) g1,g2⟩
 ·rename_i t x y ho;obtain⟨H',h1,_,h2⟩:=Fv h;refine .turn _ H' h1 (by simp[turns,ho]) λf w a hr hs=>?_;obtain⟨w',g1,g2⟩:=h2 f w _ _ hr (hs x (by simp[ho,Op.operands])) (hs y (by simp[ho,Op.operands]));exact⟨undef,w',f,.inr ⟨by simp[execOp,ho,g1],rfl⟩,g2,VR.undef f⟩
 ·rename_i x ho;obtain⟨h1,h2⟩:=ZE h;refine .same _ h1 λf w a hr hs=>?_;have hx:=hs x (by simp[ho,Op.operands]);refine⟨_,.inl ?_,hx⟩;generalize hz:a.eval x=z at hx;rcases h2 with⟨b,o',e⟩|⟨g,p,q,e⟩|⟨t,v,e⟩<;>rw[e]at hx
  ·rw[hx.eC.1]at hz ⊢;simp only[execOp,ho,hz];rfl
  ·cases hx;simp only[execOp,ho,hz];rfl
  ·cases hx;simp only[execOp,ho,hz];rfl
 ·rename_i op t x y ty ho;obtain⟨v,h1,h2⟩:=ZC h;refine .same v (fE h1) λf w a hr hs=>?_;obtain⟨r,g1,g2⟩:=h2 f w _ _ hr (hs x (by simp[ho,Op.operands])) (hs y (by simp[ho,Op.operands])) (λv e=>by rw[e];rfl) (λv e=>by rw[e];rfl);exact⟨r,fq (by simp only[execOp,ho]) g1,g2⟩
 ·rename_i op t x ho;obtain⟨v,h1,h2⟩:=aeW h;refine .same v (fE h1) λf w a hr hs=>?_;obtain⟨r,g1,g2⟩:=h2 f _ (hs x (by simp[ho,Op.operands]));exact⟨r,fq (by simp only[execOp,ho]) (g1 w),g2⟩
 ·rename_i s d x ho;obtain⟨v,h1,h2⟩:=Zu h;refine .same v (fE h1) λf w a hr hs=>?_;obtain⟨r,g1,g2⟩:=h2 f w _ hr (hs x (by simp[ho,Op.operands]));exact⟨r,fq (by simp only[execOp,ho]) g1,g2⟩
 ·rename_i t x ho;obtain⟨v,h1,h2⟩:=Te h;refine .same v h1 λf w a hr hs=>?_;obtain⟨r,g1,g2⟩:=h2 f _ (hs x (by simp[ho,Op.operands]));exact⟨r,fq (by simp only[execOp,ho]) (g1 w),g2⟩
 ·rename_i fn x y ho;split at h
  ·rename_i g;refine .same _ h λf w a hr hs=>?_;have h1:VL f (x.toList.map ρ) (x.toList.map a.eval):=VL.mo λz hz=>hs z (by simp[ho,Op.operands];left;simpa using hz);have h2:VL f (y.toList.map ρ) (y.toList.map a.eval):=VL.mo λz hz=>hs z (by simp[ho,Op.operands];right;simpa using hz);refine⟨.func (.func g) (x.map a.eval) (y.map a.eval),fq (s:=Instr.makeFunc (.func g) (x.map a.eval) (y.map a.eval)) (by simp only[execOp,ho]) rfl,?_⟩;have e1:x.map a.eval=(x.toList.map a.eval).toArray:=by apply Array.ext';simp
   have e2:y.map a.eval=(y.toList.map a.eval).toArray:=by apply Array.ext';simp
   rw[e1,e2];exact .func g _ _ _ _ h1 h2
  ·exact h.elim
 ·rename_i t x y ho;rw[Dx]at h;obtain⟨ob,vf,h1,h2,h3⟩:=Tg h;refine .new ob vf (by simp[tm,ho]) h1 h2 λf w a hs=>?_;obtain⟨r,obj,g1,g2⟩:=h3 f w _ _ (hs x (by simp[ho,Op.operands])) (hs y (by simp[ho,Op.operands]));exact⟨r,obj,fq (by simp only[execOp,ho]) g1,g2⟩
 ·rename_i t x lo hi mx ho;obtain⟨v,h1,h2⟩:=SW h;refine .same v h1 λf w a hr hs=>?_;obtain⟨r,g1,g2⟩:=h2 f _ _ _ _ (hs x (by simp[ho,Op.operands])) (ZG (a:=a) λy e=>hs y (by subst e;simp[ho,Op.operands])) (ZG (a:=a) λy e=>hs y (by subst e;simp[ho,Op.operands])) (ZG (a:=a) λy e=>hs y (by subst e;simp[ho,Op.operands]));exact⟨r,fq (by simp only[execOp,ho]) (g1 w),g2⟩
 ·rename_i t x i ho;obtain⟨v,h1,h2⟩:=acq h;refine .same v h1 λf w a hr hs=>?_;obtain⟨r,g1,g2⟩:=h2 f _ (hs x (by simp[ho,Op.operands]));exact⟨r,fq (by simp only[execOp,ho]) (g1 w),g2⟩
 ·rename_i t x i ho;obtain⟨v,h1,h2⟩:=SS h;refine .same v (fE h1) λf w a hr hs=>?_;obtain⟨r,g1,g2⟩:=h2 f _ (hs x (by simp[ho,Op.operands]));exact⟨r,fq (by simp only[execOp,ho]) (g1 w),g2⟩
 ·rename_i t x i ho;obtain⟨v,h1,h2⟩:=K0 h;refine .same v h1 λf w a hr hs=>?_;obtain⟨r,g1,g2⟩:=h2 f _ _ (hs x (by simp[ho,Op.operands])) (hs i (by simp[ho,Op.operands]));exact⟨r,fq (by simp only[execOp,ho]) (g1 w),g2⟩
 ·rename_i t x i ho;obtain⟨v,h1,h2⟩:=SU h;refine .same v (fE h1) λf w a hr hs=>?_;obtain⟨r,g1,g2⟩:=h2 f _ _ (hs x (by simp[ho,Op.operands])) (hs i (by simp[ho,Op.operands]));exact⟨r,fq (by simp only[execOp,ho]) (g1 w),g2⟩
 ·rename_i x i ho;obtain⟨v,h1,h2⟩:=KZ (P:=P) h;refine .same v (fE h1) λf w a hr hs=>?_;obtain⟨r,g1,g2⟩:=h2 f _ (hs x (by simp[ho,Op.operands]));exact⟨r,fq (by simp only[execOp,ho]) (g1 w),g2⟩
 ·rename_i t x ho;obtain⟨v,H',h1,h2⟩:=Tf h;refine .turn v H' h1 (by simp[turns,ho]) λf w a hr hs=>?_;obtain⟨r,w',f',g1,g2,g3⟩:=h2 f w _ hr (hs x (by simp[ho,Op.operands]));exact⟨r,w',f',fq (by simp only[execOp,ho]) g1,g2,g3⟩
 ·rename_i x s ho;obtain⟨hs0,h⟩:=aF h;obtain⟨v,H',h1,h2⟩:=Zv (P:=P) (ty:=o.type) h;refine .turn v H' h1 (by simp[turns,ho]) λf w a hr hs=>?_;obtain⟨r,w',f',g1,g2,g3⟩:=h2 f w _ hr (hs x (by simp[ho,Op.operands]));exact⟨r,w',f',fq (by simp only[execOp,ho,hs0]) g1,g2,g3⟩
 ·rename_i x t u ok ho;obtain⟨v,h1,h2⟩:=Om (t:=t) h;refine .same v (fE h1) λf w a hr hs=>?_;obtain⟨r,g1,g2⟩:=h2 f _ (hs x (by simp[ho,Op.operands]));exact⟨r,fq (by simp only[execOp,ho]) (g1 w),g2⟩
 ·rename_i t r ho;split at h
  ·obtain h:nw (.map [] 0) λb H'=>k (.map b) H':=h;refine .new (.map [] 0) (λb=>.map b) (by simp[tm,ho]) h rfl λf w a hs=>?_;exact⟨_,_,fq (by simp only[execOp,ho];rfl) (K4 w),allocMap f w⟩
  ·exact h.elim
 ·rename_i t m key ok ho;unfold Mb at h;split at h
  ·rename_i kt et hu;split at h
   ·rename_i inf hi;split at h
    ·rename_i z hz;obtain⟨hl,h⟩:=aF h;obtain⟨es,hm,h⟩:=Ow h;obtain⟨r,hf,h⟩:=ua h;refine .same _ (fE h) λf w a hr hs=>?_;obtain⟨v,g1,g2⟩:=Oq hu hi hz hl hm hf ok hr (hs m (by simp[ho,Op.operands])) (hs key (by simp[ho,Op.operands]));exact⟨v,fq (by simp only[execOp,ho]) g1,g2⟩
    ·exact h.elim
   ·exact h.elim
  ·exact h.elim
 ·rename_i t m key x ho;unfold Mc at h;split at h
  ·rename_i kt et hu;obtain⟨hl,h⟩:=aF h;obtain⟨b,es,cl,r,H',em,hb,hf,hn,hnew,hold,h⟩:=ZH h;refine .turn _ H' h (by simp[turns,ho]) λf w a hr hs=>?_;obtain⟨w',g1,g2⟩:=Gk hu hl hb hf hn hnew hold hr (em ▸ hs m (by simp[ho,Op.operands])) (hs key (by simp[ho,Op.operands])) (hs x (by simp[ho,Op.operands]));exact⟨undef,w',f,.inr ⟨by simp[execOp,ho,g1],rfl⟩,g2,VR.undef f⟩
  ·exact h.elim
 ·rename_i c ho;split at h
  ·rename_i b hb;exact K5 ho hb h
  ·exact h.elim
 ·exact h.elim
end
noncomputable section
def wV(n x m y:Nat):Int:=match sX n x m y with|true=>.negSucc 0|false=>(match Nat.beq n m&&Nat.beq x y with|true=>.ofNat 0|false=>.ofNat 1)
def ain(a b:AV)(k:AV→Prop):Prop:=fP a λn x=>fP b λm y=>k (.int 0 (wV n x m y))
def Ox(P:Program)(g:Nat):Bool:=match P.funcs[g]? with|some fn=>fn.body.isNone&&(fn.name == "internal/bytealg.abigen_runtime_cmpstring" && fn.origin == "")|none=>false
def noRow(n:String):Bool:=(Extern.allGenericRows.lookup n).isNone&&((Extern.allTypedRows.lookup n).isNone&&((Extern.allRows.lookup n).isNone&&(Extern.allNextRows.lookup n).isNone))
def ZJ(P:Program)(g:Nat):Bool:=match P.funcs[g]? with
 |some fn=>fn.body.isNone&&(fn.origin == "slices.overlaps" && (noRow fn.name&&(!(fn.name == "runtime.NumGoroutine")&&(match fn.params[0]? with|some t=>(match P.underlying t with|some (.slice e)=>(P.info? e).isSome|_=>false)|none=>false))))
 |none=>false
def ZK(P:Program)(g:Nat)(args:List AV)(H:AH)(k:AV→Prop):Prop:=match Ox P g with
 |true=>(match args with|[a,b]=>ain a b k|_=>False)
 |false=>bT (ZJ P g) (match args with|[a,b]=>Gt a b H k|_=>False)
def Oy(P:Program)(f:Operand):Option Nat:=match f with|.func g=>(match Ox P g||ZJ P g with|true=>some g|false=>none)|_=>none
end
theorem Tn{P:Program}{f:Operand}{g:Nat}(h:Oy P f=some g):f=.func g:=by
 unfold Oy at h;split at h
 ·split at h
  ·cases h;rfl
  ·cases h
 ·cases h
theorem Md:∀(n x m y:Nat),x<256^n→y<256^m→wV n x m y=Lib.compareBytes (iy n x) (iy m y)
 |0,x,0,y,hx,hy=>by
  have:x=0:=by simp at hx;exact hx
  have:y=0:=by simp at hy;exact hy
  subst x;subst y;rfl
 |0,x,m+1,y,hx,hy=>by simp[wV,sX,iy,Lib.compareBytes]
 |n+1,x,0,y,hx,hy=>by
  have e:Nat.beq (n+1) 0=false:=rfl;simp[wV,sX,iy,Lib.compareBytes,e]
 |n+1,x,m+1,y,hx,hy=>by
  have h1:=Nat.mod_lt x (show 256>0 by omega);have h2:=Nat.mod_lt y (show 256>0 by omega);have ih:=Md n (x/256) m (y/256) (by rw[Nat.pow_succ]at hx;omega) (by rw[Nat.pow_succ]at hy;omega);have hlt:∀a b:Nat,a<256→b<256→(UInt8.ofNat a<UInt8.ofNat b↔a<b):=λa b ha hb=>by
   simp[UInt8.lt_iff_toNat_lt];omega
  simp only[iy,Lib.compareBytes];have hs:sX (n+1) x (m+1) y=(Nat.ble (Nat.succ (x%256)) (y%256)||(Nat.beq (x%256) (y%256)&&sX n (x/256) m (y/256))):=rfl;rcases Nat.lt_trichotomy (x%256) (y%256)with h|h|h
  ·rw[if_pos ((hlt _ _ h1 h2).2 h)];unfold wV;rw[hs,Nat.ble_eq_true_of_le h];rfl
  ·rw[if_neg (by rw[hlt _ _ h1 h2];omega),if_neg (by rw[hlt _ _ h2 h1];omega),←ih];unfold wV;have e1:Nat.ble (Nat.succ (x%256)) (y%256)=false:=by
    cases e:Nat.ble (Nat.succ (x%256)) (y%256)with
    |false=>rfl
    |true=>have:=Nat.le_of_ble_eq_true e;omega
   have e3:(Nat.beq (n+1) (m+1)&&Nat.beq x y)=(Nat.beq n m&&Nat.beq (x/256) (y/256)):=by
    rw[Bool.eq_iff_iff];simp only[Bool.and_eq_true];have hb:∀a b:Nat,Nat.beq a b=true↔a=b:=λa b=>⟨Nat.eq_of_beq_eq_true,λh=>by subst h;exact Nat.beq_refl a⟩
    rw[hb,hb,hb,hb];omega
   rw[hs,e1,h,Nat.beq_refl,e3];rfl
  ·rw[if_neg (by rw[hlt _ _ h1 h2];omega),if_pos ((hlt _ _ h2 h1).2 h)];unfold wV;have e1:Nat.ble (Nat.succ (x%256)) (y%256)=false:=by
    cases e:Nat.ble (Nat.succ (x%256)) (y%256)with
    |false=>rfl
    |true=>have:=Nat.le_of_ble_eq_true e;omega
   have e2:Nat.beq (x%256) (y%256)=false:=by
    cases e:Nat.beq (x%256) (y%256)with
    |false=>rfl
    |true=>have:=Nat.eq_of_beq_eq_true e;omega
   have e3:Nat.beq x y=false:=by
    cases e:Nat.beq x y with
    |false=>rfl
    |true=>have:=Nat.eq_of_beq_eq_true e;omega
   rw[hs,e1,e2,e3,Bool.and_false];rfl
theorem acz(fn:Func)(h:fn.name = "internal/bytealg.abigen_runtime_cmpstring"):Extern.find fn=some Extern.BytealgCompare.compare:=by
 unfold Extern.find;rw[h]
 kernel_rfl
theorem K6(fn:Func)(h:fn.name = "internal/bytealg.abigen_runtime_cmpstring") (h2:fn.origin = ""):Extern.findNext fn=none:=by
 unfold Extern.findNext;rw[h,h2]
 kernel_rfl
theorem ZL{P:Program}{g:Nat}(h:Ox P g=true)(args:Array Value)(w:World):(callFunc g args).run P w=((Extern.BytealgCompare.compare args).run P w).andThen λv w'=>.ok (.value v) w':=by
 unfold Ox at h;split at h
 ·rename_i fn hf;rw[Bool.and_eq_true,Bool.and_eq_true]at h;have h1:fn.name = "internal/bytealg.abigen_runtime_cmpstring" := by simpa using h.2.1
  have h2:fn.origin = "" := by simpa using h.2.2
  refine run_callFunc_extern hf ?_ h.1 (K6 fn h1 h2) (acz fn h1) args w;rw[h1];decide
 ·cases h
theorem acA(fn:Func)(h:fn.origin = "slices.overlaps") (hn:noRow fn.name=true):Extern.find fn=some (Extern.SlicesOverlaps.overlaps fn.params fn.resultTypes):=by
 unfold noRow at hn;simp only[Bool.and_eq_true,Option.isNone_iff_eq_none]at hn;obtain⟨h1,h2,h3,_⟩:=hn;have g1:Extern.allGenericRows.lookup "slices.overlaps" = none:=by kernel_rfl
 have g2:Extern.allTypedRows.lookup "slices.overlaps" = some Extern.SlicesOverlaps.overlaps:=by kernel_rfl
 unfold Extern.find;rw[h];simp only[h1,h2,h3,g1,g2];rfl
theorem K7(fn:Func)(h:fn.origin = "slices.overlaps") (hn:noRow fn.name=true):Extern.findNext fn=none:=by
 unfold noRow at hn;simp only[Bool.and_eq_true,Option.isNone_iff_eq_none]at hn;obtain⟨_,_,_,h4⟩:=hn;have g1:Extern.allNextRows.lookup "slices.overlaps" = none:=by kernel_rfl
 unfold Extern.findNext;rw[h];simp only[h4,g1];rfl
theorem zn{w:World}{b x:Nat}{cur:Array Value}{e:TypeId}(h:w.heap[b]? = some (.cells cur e (0,0))):w.frozen? ⟨b,x,none⟩=false:=by
 unfold World.frozen?;rw[h];simp
theorem pL(ps rs:Array TypeId)(p q:Option Addr)(la ca lb cb:Nat):Extern.SlicesOverlaps.overlaps ps rs #[.slice p la ca,.slice q lb cb]=(do
  let some t:=ps[0]?|stuck "slices.overlaps: no parameter types"
  let .slice elem ←underlying t|stuck "slices.overlaps: slice type expected"
  let size ←sizeOf elem
  match p,q with
  |some a,some b=>
   if la=0∨lb=0∨size=0 then pure (Value.bool false)
   else if a.block != b.block&&(←frozen a)&&(←frozen b) then unsupported .addressObserved
   else do
    if a.block != b.block then do
     noView a;noView b
     if ←mayBeOne a b then return Value.bool ((←choose (.extern "sameAddr.stringBytes" 2)) == 1)
    pure (Value.bool (a.block == b.block&&a.off<b.off+lb*size&&b.off<a.off+la*size))
  |_,_=>pure (Value.bool false)):=rfl
theorem AT{ps rs rs':Array TypeId}{t:TypeId}(h:ps[0]? = some t)(p q:Option Addr)(la ca lb cb:Nat):Extern.SlicesOverlaps.overlaps ps rs #[.slice p la ca,.slice q lb cb]=Extern.SlicesOverlaps.overlaps #[t,t] rs' #[.slice p la ca,.slice q lb cb]:=by
 rw[pL,pL,h];rfl
theorem To{P:Program}{f:aN}{H:AH}{w:World}{tS e:TypeId}{i:TypeInfo}(ht:P.underlying tS=some (.slice e))(hi:P.info? e=some i){ps rs:Array TypeId}(hps:ps[0]? = some tS){a b:AV}{u v:Value}{k:AV→Prop}(hr:HRQ f H.sem w)(ha:VR f a u)(hb:VR f b v)(h:Gt a b H k) :
  (Extern.SlicesOverlaps.overlaps ps rs #[u,v]).run P w=.ok (.bool false) w:=by
 have hz:∀w,(sizeOf e).run P w=.ok i.size w:=λw=>by simp[sizeOf,typeInfo,hi]
 have Me:∀(p q:Option Addr) (la ca lb cb:Nat),p=none∨q=none→(Extern.SlicesOverlaps.overlaps ps rs #[.slice p la ca,.slice q lb cb]).run P w=.ok (.bool false) w:=λp q la ca lb cb h=>by
  rcases h with rfl|rfl
  ·rw[pL,hps];simp[run_underlying ht,hz]
  ·rw[pL,hps];cases p<;>simp[run_underlying ht,hz]
 unfold Gt at h;rcases gA h with⟨rfl,g⟩|⟨b1,o1,l1,c1,s1,x1,rfl,g⟩
 ·cases ha;have hv:∃q lb cb,v=.slice q lb cb:=by
   rcases gA g with⟨rfl,g2⟩|⟨b2,o2,l2,c2,s2,x2,rfl,g2⟩
   ·cases hb;exact⟨_,_,_,rfl⟩
   ·cases hb;exact⟨_,_,_,rfl⟩
  obtain⟨q,lb,cb,rfl⟩:=hv;exact Me _ _ _ _ _ _ (.inl rfl)
 ·rcases gA g with⟨rfl,g2⟩|⟨b2,o2,l2,c2,s2,x2,rfl,g2⟩
  ·cases ha;cases hb;exact Me _ _ _ _ _ _ (.inr rfl)
  ·obtain⟨hne,g3⟩:=aF g2;obtain⟨d1,n1,m1,hb1,g4⟩:=dp g3;obtain⟨hm1,g5⟩:=aF g4;obtain⟨d2,n2,m2,hb2,g6⟩:=dp g5;obtain⟨hn2,_⟩:=aF g6;have hm1:m1=0:=Nat.eq_of_beq_eq_true hm1;subst hm1;have hn2:1≤n2:=Nat.le_of_ble_eq_true hn2;have hne':b1≠b2:=λe=>by subst e;simp at hne
   cases ha with
   |slice _ _ _ _ _ _ cap1 y1 hd1 _ _ _ _=>
    cases hb with
    |slice _ _ _ _ _ _ cap2 y2 hd2 _ _ _ _=>
     have hblk:f.blk b1≠f.blk b2:=λe=>hne' (hr.inj b1 b2 hd1 hd2 (by rw[AH.bQ,hb1];rfl) (by rw[AH.bQ,hb2];rfl) e);obtain⟨aio,e1,lo1,hi1,q1,q2,q3,_,_,q6⟩:=hr.cells hd1 hb1;obtain⟨aip,e2,lo2,hi2,r1,r2,r3,_⟩:=hr.cells hd2 hb2;obtain⟨rfl,rfl⟩:=q6 rfl;have:=Lib.run_overlaps_apart (P:=P) w tS tS e ht i.size hz ⟨f.blk b1,y1,none⟩ ⟨f.blk b2,y2,none⟩ l1 cap1 l2 cap2 hblk e1 e2 aio.size aip.size (by simp[World.shape?,q1]) (by simp[World.shape?,r1]) (by omega) (zn q1) (zn q1);rw[AT hps];exact this
theorem acB{P:Program}{g:Nat}{args:List AV}{H:AH}{k:AV→Prop}(h:ZK P g args H k):∃v,k v∧∀f w (vs:Array Value),HR f H w→VL f args vs.toList→∃u,(callFunc g vs).run P w=.ok (.value u) w∧VR f v u:=by
 unfold ZK at h;split at h
 ·rename_i hc;split at h
  ·rename_i a b;obtain⟨n,x,rfl,h1⟩:=gu h;obtain⟨m,y,rfl,h2⟩:=gu h1;refine⟨_,h2,λf w vs _ hv=>?_⟩;have e:vs=vs.toList.toArray:=by simp
   rw[e];generalize vs.toList=l at hv;cases hv with
   |cons _ u _ us hu hl=>
    cases hl with
    |cons _ u2 _ us hu2 hl=>
     cases hl;obtain⟨rfl,hx⟩:=hu.iN;obtain⟨rfl,hy⟩:=hu2.iN;refine⟨.int .i64 (wV n x m y),?_,.int 0 _⟩;rw[ZL hc,Lib.run_compareString];simp only[Result.andThen_ok];rw[Md n x m y hx hy];rfl
  ·exact h.elim
 ·obtain⟨hc,h⟩:=aF h;split at h
  ·rename_i a b;unfold ZJ at hc;split at hc
   ·rename_i fn hf;simp only[Bool.and_eq_true,Bool.not_eq_true',beq_iff_eq]at hc;obtain⟨h1,h2,h3,h4,h5⟩:=hc;split at h5
    ·rename_i tS hps;split at h5
     ·rename_i e ht;obtain⟨i,hi⟩:=Option.isSome_iff_exists.1 h5;refine⟨.bool false,?_,λf w vs hr hv=>?_⟩
      ·unfold Gt at h;rcases gA h with⟨_,h⟩|⟨_,_,_,_,_,_,_,h⟩
       ·rcases gA h with⟨_,h⟩|⟨_,_,_,_,_,_,_,h⟩<;>exact h
       ·rcases gA h with⟨_,h⟩|⟨_,_,_,_,_,_,_,h⟩
        ·exact h
        ·obtain⟨_,h⟩:=aF h;obtain⟨_,_,_,_,h⟩:=dp h;obtain⟨_,h⟩:=aF h;obtain⟨_,_,_,_,h⟩:=dp h;exact(aF h).2
      ·have e:vs=vs.toList.toArray:=by simp
       rw[e];generalize vs.toList=l at hv;cases hv with
       |cons _ u _ us hu hl=>
        cases hl with
        |cons _ u2 _ us hu2 hl=>
         cases hl;refine⟨.bool false,?_,.bool false⟩;rw[run_callFunc_extern hf h4 h1 (K7 fn h2 h3) (acA fn h2 h3)];have:=To ht hi hps (rs:=fn.resultTypes) hr.toHRQ hu hu2 h;simp only[this,Result.andThen_ok]
     ·cases h5
    ·cases h5
   ·cases hc
  ·exact h.elim
structure dF where
 g:Nat
 args:List AV
inductive Out where
 |normal
 |exit (id:Nat)
 |goto (l:Nat)
 |ret
 |cZ (v:AV)
inductive gN where
 |ret (v:AV)
 |cZ (v:AV)
abbrev eD:=Nat→List AV→AH→(gN→AH→Prop)→Prop
noncomputable section
def fa(G:Nat)(env:List AV):Operand→AV
 |.tmp t=>env.getD t dW
 |.const v=>gZ v
 |.global g=>if Nat.ble (Nat.succ g) G then .ptr g 0 else .cM
 |.func f=>.func f [] []
def cA(env:List AV)(dst:Option Tmp)(v:AV):List AV:=match dst with|some d=>env.set d v|none=>env
def hY(a:AV)(k:Nat→List AV→List AV→Prop):Prop:=match a with|.func g x y=>k g x y|_=>False
def Dy(a:AV)(k:Prop):Prop:=match a with|.iface _ _=>k|_=>False
def cY(P:Program)(g:Nat):Bool:=match P.funcs[g]? with|some fn=>fn.body.isSome && !(fn.name == "runtime.NumGoroutine")|none=>false
def cOut(o:gN)(k:AV→Prop)(kp:AV→Prop):Prop:=match o with|.ret v=>k v|.cZ v=>kp v
def Gu(P:Program)(s t:TypeId):Bool:=match P.underlying s,P.underlying t with
 |some .string,some (.slice e)=>(match P.underlying e with|some (.int .u8)=>true|_=>false)
 |_,_=>false
def rV(C:eD)(P:Program)(G:Nat)(o:Oper)(ρ:Operand→AV)(nw:Lay)(H:AH)(k:AV→AH→Prop)(kp:AV→AH→Prop):Prop:=
 match o.op with
 |.call c=>(match c.callee with
  |.value f=>(match Oy P f with
   |some g=>ZK P g (c.args.toList.map ρ) H λv=>kK P o.type v λv=>k v H
   |none=>hY (ρ f) λg x y=>bT (cY P g) (C g (x++(c.args.toList.map ρ++y)) H λo' H'=>cOut o' (λv=>kK P o.type v λv=>k v H') (λv=>kp v H')))
  |_=>qA P o ρ nw H k)
 |.panic x=>Dy (ρ x) (kp (ρ x) H)
 |.convert s t x=>bI (Gu P s t) (zM nw (ρ x) k) (qA P o ρ nw H k)
 |_=>qA P o ρ nw H k
def abg(C:eD)(P:Program)(G:Nat)(o:Oper)(env:List AV)(ds:List dF)(H:AH)(k:List AV→List dF→AH→Prop)(kp:AV→AH→Prop):Prop:=
 match o.op with
 |.defer c=>(match c.callee with
  |.value f=>hY (fa G env f) λg x y=>bT (cY P g) (k (cA env o.dst dW) (⟨g,x++(c.args.toList.map (fa G env)++y)⟩::ds) H)
  |_=>False)
 |_=>rV C P G o (fa G env) (aP H) H (λv H'=>k (cA env o.dst v) ds H') kp
def yh(o:Oper):Bool:=match o.op with|.defer _=>true|_=>false
def AU(v:AV)(want:Bool)(x y:Prop):Prop:=match v with|.bool b=>(match want with|true=>bI b x y|false=>bI b y x)|.bD _=>y|_=>False
theorem zo{b want:Bool}{x y:Prop}(h:AU (.bool b) want x y):bI (b == want) x y:=by cases b<;>cases want<;>exact h
def mG(ops:Array Oper)(env:List AV)(j:Nat):AV:=match (ops[j]?).bind (·.dst)with|some t=>env.getD t .cM|none=>.cM
def AW(ops:Array Oper)(env:List AV)(j:Nat)(want:Bool)(x y:List AV→Prop):Prop:=match mG ops env j with
 |.bool b=>bI b (bI want (x (cA env ((ops[j]?).bind (·.dst)) (.bool true))) (y (cA env ((ops[j]?).bind (·.dst)) (.bool true)))) (bI want (y (cA env ((ops[j]?).bind (·.dst)) (.bool false))) (x (cA env ((ops[j]?).bind (·.dst)) (.bool false))))
 |.bD _=>y env
 |_=>False
def rW(C:eD)(P:Program)(G:Nat)(ops:Array Oper):List Oper→List AV→List dF→AH→(Out→List AV→List dF→AH→Prop)→Prop
 |[],env,ds,H,K=>K .normal env ds H
 |o::rest,env,ds,H,K=>
  match o.guard with
  |none=>abg C P G o env ds H (λenv ds H=>rW C P G ops rest env ds H K) (λv H=>K (.cZ v) env ds H)
  |some (j,want)=>bT (!(yh o)) (AW ops env j want (λenv=>rV C P G o (fa G env) (aP H) H (λv H=>rW C P G ops rest (cA env o.dst v) ds H K) (λv H=>K (.cZ v) env ds H)) (λenv=>rW C P G ops rest (cA env o.dst dW) ds H K))
end
structure AR(P:Program)(f:aN)(env:List AV)(a:Act):Prop where
 tmps:VL f env a.tmps.toList
 glob:∀g,g<P.globals.size→f.dom g∧f.blk g=g∧f.off g=0
inductive DR(f:aN):List dF→List Deferred→Prop
 |nil:DR f [] []
 |cons (g:Nat) (args:List AV) (cap vs:Array Value) (ds:List dF) (es:List Deferred):VL f args (vs++cap).toList→DR f ds es→DR f (⟨g,args⟩::ds) (⟨.fn (.func g) cap,vs⟩::es)
theorem DR.up{f f':aN}(h:f.le f'):∀{ds:List dF}{es:List Deferred},DR f ds es→DR f' ds es
 |_,_,.nil=>.nil
 |_,_,.cons g args cap vs ds es h1 h2=>.cons g args cap vs ds es (h1.up h) (DR.up h h2)
theorem AR.up{P:Program}{f f':aN}(h:f.le f'){env:List AV}{a:Act}(r:AR P f env a):AR P f' env a:=
 ⟨r.tmps.up h,λg hg=>⟨h.dom g (r.glob g hg).1,(h.blk g (r.glob g hg).1).trans (r.glob g hg).2.1,(h.off g (r.glob g hg).1).trans (r.glob g hg).2.2⟩⟩
section
variable {P:Program}
theorem ux{f:aN}{env:List AV}{a:Act}(h:AR P f env a)(x:Operand):VR f (fa P.globals.size env x) (a.eval x):=by
 cases x with
 |tmp t=>
  simp only[fa,Act.eval];rcases Nat.lt_or_ge t env.length with hl|hl
  ·obtain⟨v,h1,h2⟩:=h.tmps.get t env[t] (List.getElem?_eq_getElem hl);have e1:env.getD t dW=env[t]:=by simp[List.getD,List.getElem?_eq_getElem hl]
   have e2:a.tmps.getD t undef=v:=by
    rw[Array.getElem?_toList]at h1;simp[Array.getD_eq_getD_getElem?,h1]
   rw[e1,e2];exact h2
  ·have e1:env.getD t dW=dW:=by simp[List.getD,List.getElem?_eq_none hl]
   have hlen:=h.tmps.length;have e2:a.tmps.getD t undef=undef:=by
    have e:a.tmps.toList.length=a.tmps.size:=Array.length_toList;simp[Array.getD_eq_getD_getElem?,Array.getElem?_eq_none (show a.tmps.size≤t by omega)]
   rw[e1,e2];exact VR.undef f
 |const v=>exact ny f v
 |global g=>
  simp only[fa,Act.eval];split
  ·rename_i hg;obtain⟨h1,h2,h3⟩:=h.glob g (Nat.le_of_ble_eq_true hg);have:=VR.ptr (f:=f) g 0 h1;rw[h2,h3]at this;exact this
  ·exact .cM _
 |func g=>exact .func g [] [] [] [] .nil .nil
theorem AR.put{f:aN}{env:List AV}{a:Act}(h:AR P f env a)(dst:Option Tmp){v:AV}{u:Value}(hv:VR f v u):AR P f (cA env dst v) (a.put dst u):=by
 cases dst with
 |none=>exact h
 |some d=>exact⟨by simp only[cA,Act.put,Array.toList_setIfInBounds];exact h.tmps.set d v u hv,h.glob⟩
theorem AR.defers{f:aN}{env:List AV}{a:Act}(h:AR P f env a)(ds:List Deferred):AR P f env { a with defers:=ds }:=⟨h.tmps,h.glob⟩
def vL(f:aN)(v:AV)(ch:List PanicEntry):Prop:=∃u older,ch={ v:=u,recovered:=false }::older∧VR f v u∧∀x∈older,x.goexit=false
def qG(f:aN)(H:AH)(w:World)(o:gN)(H':AH):Ending→World→Prop:=λe w'=>
 ∃f',Step f H w f' H' w'∧match o with
  |.ret v=>∃u,e=.returned u∧VR f' v u
  |.cZ v=>∃ch,e=.panicked ch∧vL f' v ch
def gQ(P:Program)(C:eD):Prop:=∀g args H K,cY P g=true→C g args H K→∃o H',K o H'∧∀f w (vs:Array Value),HR f H w→(∀g,g<P.globals.size→f.dom g∧f.blk g=g∧f.off g=0)→VL f args vs.toList→Calls P g vs w (qG f H w o H')
def lB(P:Program)(f:aN)(H:AH)(w:World)(o:Out)(env:List AV)(ds:List dF)(H':AH):Exit→Act→World→Prop:=λe a w'=>
 ∃f',Step f H w f' H' w'∧AR P f' env a∧DR f' ds a.defers∧match o with
  |.normal=>e=.normal
  |.exit id=>e=.exit id
  |.goto l=>e=.goto l
  |.ret=>e=.ret
  |.cZ v=>∃ch,e=.panic ch∧vL f' v ch
theorem K8{g:Nat}(h:cY P g=true):∃fn c,P.funcs[g]? = some fn∧fn.body=some c∧(fn.name == "runtime.NumGoroutine")=false:=by
 unfold cY at h;split at h
 ·rename_i fn hf;rw[Bool.and_eq_true]at h;obtain⟨c,hc⟩:=Option.isSome_iff_exists.1 h.1;exact⟨fn,c,hf,hc,by simpa using h.2⟩
 ·cases h
theorem wW{g:Nat}(h:cY P g=true)(args:Array Value)(w:World):(callFunc g args).run P w=.ok (.enter g args) w:=by
 obtain⟨fn,c,h1,h2,h3⟩:=K8 h;have h3':¬fn.name = "runtime.NumGoroutine" := by simpa using h3
 simp[callFunc,h1,h2,h3']
theorem AX{a:AV}{k:Nat→List AV→List AV→Prop}(h:hY a k):∃g x y,a=.func g x y∧k g x y:=by
 cases a<;>first|exact h.elim|exact⟨_,_,_,rfl,h⟩
inductive HG(P:Program)(o:Oper)(ρ:Operand→AV)(H:AH)(k:AV→AH→Prop)(kp:AV→AH→Prop):Prop where
 |val (v:AV) (H':AH) (h:k v H') (g:∀f w a,HR f H w→(∀g,g<P.globals.size→f.dom g∧f.blk g=g∧f.off g=0)→Stand f o ρ a→∀(next:Act→World→Prop) Q,(∀f' w' u,Step f H w f' H' w'→VR f' v u→next (a.put o.dst u) w')→o.wp P a w next Q)
 |cZ (v:AV) (H':AH) (h:kp v H') (g:∀f w a,HR f H w→(∀g,g<P.globals.size→f.dom g∧f.blk g=g∧f.off g=0)→Stand f o ρ a→∀(next:Act→World→Prop) (Q:Exit→Act→World→Prop),(∀f' w' ch,Step f H w f' H' w'→vL f' v ch→Q (.panic ch) a w')→o.wp P a w next Q)
theorem jM{o:Oper}{a:Act}{w w':World}{u:Value}(h:Did P o a w u w'){next:Act→World→Prop}{Q:Exit→Act→World→Prop}(hn:next (a.put o.dst u) w'):o.wp P a w next Q:=by
 unfold Oper.wp;rcases h with h|⟨h,rfl⟩<;>rw[h]<;>exact hn
theorem HH{o:Oper}{ρ:Operand→AV}{H:AH}{k kp:AV→AH→Prop}(h:ZF P o ρ (aP H) H k):HG P o ρ H k kp:=by
 cases h with
 |same v h g=>
  refine .val v H h λf w a hr _ hs next Q hn=>?_;obtain⟨u,g1,g2⟩:=g f w a hr.toHRQ hs;exact jM g1 (hn f w u (Step.refl hr) g2)
 |new ob vf _ h ho g=>
  obtain⟨H',g1,g2,g3,g4⟩:=kZ h;refine .val _ H' g1 λf w a hr _ hs next Q hn=>?_;obtain⟨u,obj,g5,g6⟩:=g f w a hs;obtain⟨f',s1,s2⟩:=vD hr g2 g3 g4 ho g6;exact jM g5 (hn f' _ u s1 s2)
 |turn v H' h _ g=>
  refine .val v H' h λf w a hr _ hs next Q hn=>?_;obtain⟨u,w',f',g1,g2,g3⟩:=g f w a hr hs;exact jM g1 (hn f' w' u g2 g3)
theorem ub{o:Oper}{ρ:Operand→AV}{H:AH}{k kp:AV→AH→Prop}(h:qA P o ρ (aP H) H k):HG P o ρ H k kp:=HH (HF h)
theorem Tp{s t:TypeId}(h:Gu P s t=true):∃e,P.underlying s=some .string∧P.underlying t=some (.slice e)∧P.underlying e=some (.int .u8):=by
 unfold Gu at h;split at h
 ·rename_i e hs ht;split at h
  ·rename_i he;exact⟨e,hs,ht,he⟩
  ·cases h
 ·cases h
theorem K9{f:aN}{H:AH}{w:World}(hr:HR f H w){n:Nat}{vs:List Value}(hlen:vs.length=n){c:Bt AV}(hc:∀j a,c.get? j=some a→j<n∧∃v,vs[j]? = some v∧VR f a v)
  {H':AH}(hn:H'.n=H.n+1) (hnew:H'.at H.n=.cells c n 1) (hold:∀b,b≠H.n→H'.at b=H.at b){cap':Nat}(hcap:n≤cap'){rest:List Value}(hrest:rest.length=cap'-n) (e:TypeId) :
  ∃f',Step f H w f' H' (w.alloc (.cells (vs++rest).toArray e ((vs++rest).length,(vs++rest).length+1)))∧VR f' (.slice H.n 0 n n 1 false) (.slice (some ⟨w.heap.size,0,none⟩) n cap'):=by
 refine vD hr hn hnew hold (by simp[dE.sem,gz.own]) (vf:=λb=>.slice b 0 n n 1 false) ⟨(vs++rest).length,λi hi=>⟨?_,?_⟩⟩
 ·have hle:=f.nQ hi w.heap.size 0 (vs++rest).length;refine⟨_,e,_,_,rfl,by simp,by simp[hlen],λj a hj=>?_,λ_ j hj=>by rw[aN.oH]at hj;rw[aN.iM];omega,λh=>absurd h (by omega)⟩;obtain⟨h1,v,h2,h3⟩:=hc j a hj;refine⟨h1,v,?_,h3.up hle⟩;rw[aN.iM,Nat.zero_add];simp only[List.getElem?_toArray];rw[List.getElem?_append_left (by omega),h2]
 ·have:=VR.slice (f:=f.ext i w.heap.size 0 (vs++rest).length) i 0 n n 1 false cap' 0 (aN.nq _ _ _ _ _) (Nat.le_refl _) hcap (λ_=>by rw[aN.iM]) (λ_=>⟨rfl,by
   rw[aN.oH,List.length_append,hlen,hrest];omega⟩)
  rw[aN.gP]at this;exact this
theorem Tq{H:AH}{o:Oper}{s t:TypeId}{x:Operand}(ho:o.op=.convert s t x)(ht:Gu P s t=true){ρ:Operand→AV}{k kp:AV→AH→Prop}
  (g:zM (aP H) (ρ x) k):HG P o ρ H k kp:=by
 obtain⟨e,hs1,ht1,he1⟩:=Tp ht;obtain⟨n,y,e1,g⟩:=gu g;obtain⟨c,g,_,h2,h3⟩:=fg _ _ _ _ g;obtain⟨hm,g⟩:=aF g;have hlen:=AO n y;rw[hlen,Nat.zero_add]at g h3;obtain⟨H',g,n1,n2,n3⟩:=kZ g;refine .val _ H' g λf w a hr hg hst next Q hn=>?_;have hx:=hst x (by simp[ho,Op.operands]);rw[e1]at hx;obtain⟨ex,hlt⟩:=hx.iN;have hrun:=run_bytes_of_string (P:=P) w s t e (eB n y) hs1 ht1 he1;rw[Fm]at hrun;have hvl:=Fx f n y
 let vs:List Value:=(iy n y).map λ(b:UInt8)=>Value.int .u8 (b.toNat:Int)
 let rest:List Value:=List.replicate (grownCap w n 0 e-n) (Value.int .u8 0)
 have hrow:bytesRow (eB n y) (grownCap w n 0 e)=(vs++rest).toArray:=by
  apply Array.ext';simp[bytesRow,vs,rest]
 have hl1:vs.length=n:=by simp[vs,gF]
 obtain⟨f',s1,s2⟩:=K9 (fG.drew hr (w.drawn+1)) (vs:=vs) hl1 (c:=c) (λj a hj=>by
  rcases Nat.lt_or_ge j n with hj'|hj'
  ·have:=h2 j (by rw[hlen];exact hj');rw[Nat.zero_add]at this;rw[this]at hj;obtain⟨v,y1,y2⟩:=hvl.get j a hj;exact⟨hj',v,y1,y2⟩
  ·rw[h3 j (by omega)]at hj;cases hj) n1 n2 n3 (grownCap_ge w n 0 e) (rest:=rest) (by simp[rest]) e
 have aiq:Did P o a w (.slice (some ⟨w.heap.size,0,none⟩) n (grownCap w n 0 e)) (({ w with drawn:=w.drawn+1 }:World).alloc (.cells (vs++rest).toArray e ((vs++rest).length,(vs++rest).length+1))):=by
  left;have e2:execOp a.eval o=(do pure (.value (←convert s t (a.eval x)))):=by simp only[execOp,ho]
  rw[e2,ex];simp only[Sem.run_bind,hrun,Result.andThen_ok,Sem.run_pure,hrow];simp only[List.size_toArray];rfl
 exact jM aiq (hn f' _ _ (Step.trans hr (Step.drew hr (w.drawn+1)) s1) s2)
theorem tq{C:eD}(hC:gQ P C){o:Oper}{ρ:Operand→AV}{G:Nat}{H:AH}{k kp:AV→AH→Prop}(h:rV C P G o ρ (aP H) H k kp):HG P o ρ H k kp:=by
 unfold rV at h;split at h
 ·rename_i c ho;split at h
  ·rename_i fo hc;split at h
   ·rename_i g hx;obtain rfl:=Tn hx;obtain⟨v,h1,h2⟩:=acB h;refine .val v H (fE (P:=P) (t:=o.type) (k:=λv=>k v H) h1) λf w a hr hg hs next Q hn=>?_;have hv:VL f (c.args.toList.map ρ) (c.args.map a.eval).toList:=by
     rw[Array.toList_map];exact VL.mo λz hz=>hs z (by simp[ho,Op.operands,Call.operands,hc];right;simpa using hz)
    obtain⟨u,g3,g4⟩:=h2 f w _ hr hv;refine jM (.inl ?_) (hn f w u (Step.refl hr) g4);have:execOp a.eval o=callFunc g (c.args.map a.eval):=by simp[execOp,ho,resolve,hc,Act.eval,Deferred.ofValue,invoke]
    rw[this,g3]
   obtain⟨g,x,y,e,h⟩:=AX h;obtain⟨hb,h⟩:=aF h;obtain⟨co,H',h1,h2⟩:=hC g _ H _ hb h;have nV:∀{f:aN}{a:Act}(w:World),Stand f o ρ a→∃vs:Array Value,VL f (x++(c.args.toList.map ρ++y)) vs.toList∧(execOp a.eval o).run P w=.ok (.enter g vs) w:=λ{f a} w hs=>by
    have hf:=hs fo (by simp[ho,Op.operands,Call.operands,hc]);rw[e]at hf;have hv:VL f (c.args.toList.map ρ) (c.args.toList.map a.eval):=VL.mo λz hz=>hs z (by simp[ho,Op.operands,Call.operands,hc];right;simpa using hz);generalize hz:a.eval fo=z at hf;cases hf with
    |func _ _ _ us ws h1 h2=>
     refine⟨us.toArray++c.args.map a.eval++ws.toArray,by simp only[Array.toList_append,Array.toList_map];rw[List.append_assoc];exact h1.append (hv.append h2),?_⟩;simp[execOp,ho,resolve,hc,hz,Deferred.ofValue,invoke,wW hb]
   cases co with
   |ret v=>
    refine .val v H' (fE (P:=P) (t:=o.type) (k:=λv=>k v H') h1) λf w a hr hg hs next Q hn=>?_;obtain⟨vs,g1,g2⟩:=nV w hs;unfold Oper.wp;rw[g2,Oper.upon_enter];refine(h2 f w vs hr hg g1).mono λe w' hp=>?_;obtain⟨f',s,u,rfl,hu⟩:=hp;exact hn f' w' u s hu
   |cZ v=>
    refine .cZ v H' h1 λf w a hr hg hs next Q hn=>?_;obtain⟨vs,g1,g2⟩:=nV w hs;unfold Oper.wp;rw[g2,Oper.upon_enter];refine(h2 f w vs hr hg g1).mono λe w' hp=>?_;obtain⟨f',s,ch,rfl,hu⟩:=hp;exact hn f' w' ch s hu
  ·exact ub h
 ·rename_i x ho;unfold Dy at h;split at h
  ·rename_i t v e;refine .cZ _ H h λf w a hr _ hs next Q hn=>?_;have hx:=hs x (by simp[ho,Op.operands]);rw[e]at hx;generalize hz:a.eval x=z at hx;have hx':=hx;cases hx with
   |iface _ _ y hy=>
    have hrun:(execOp a.eval o).run P w=.halt (.panic (.iface t y)) w:=by simp[execOp,ho,hz,Instr.panic]
    unfold Oper.wp;rw[hrun,Oper.upon_panic];refine hn f w _ (Step.refl hr) ⟨.iface t y,[],rfl,?_,by simp⟩;rw[e];exact hx'
  ·exact h.elim
 ·rename_i s t x ho;rcases dk h with⟨ht,h⟩|⟨_,h⟩
  ·exact Tq ho ht h
  ·exact ub h
 ·exact ub h
end
section
def ia(P:Program)(env:List AV)(ds:List dF)(H:AH)(K:Out→List AV→List dF→AH→Prop)(W:Act→World→(Exit→Act→World→Prop)→Prop):Prop:=
 ∃o env' ds' H',K o env' ds' H'∧∀f w a,HR f H w→AR P f env a→DR f ds a.defers→∀Q:Exit→Act→World→Prop,(∀e a' w',lB P f H w o env' ds' H' e a' w'→Q e a' w')→W a w Q
variable {P:Program}
theorem lB.after{f f1:aN}{H H1:AH}{w w1:World}(s:Step f H w f1 H1 w1){o:Out}{env:List AV}{ds:List dF}{H':AH}{e:Exit}{a:Act}{w':World}(h:lB P f1 H1 w1 o env ds H' e a w'):lB P f H w o env ds H' e a w':=by
 obtain⟨f',s',h⟩:=h;exact⟨f',gh.trans s s',h⟩
theorem put_defers(a:Act)(d:Option Tmp)(v:Value):(a.put d v).defers=a.defers:=by cases d<;>rfl
theorem HI{ops:Array Oper}{env:List AV}{j:Nat}{v:AV}(hv:mG ops env j=v)(hp:v≠.cM) :
  ∃t,(ops[j]?).bind (·.dst)=some t∧env[t]? = some v:=by
 unfold mG at hv;split at hv
 ·rename_i t ht;refine⟨t,ht,?_⟩;rw[List.getD_eq_getElem?_getD]at hv;cases he:env[t]? with
  |none=>rw[he]at hv;exact absurd hv.symm hp
  |some x=>rw[he]at hv;exact congrArg some hv
 ·exact absurd hv.symm hp
theorem qH{f:aN}{ops:Array Oper}{env:List AV}{a:Act}(h:AR P f env a){j:Nat}{v:AV}(hv:mG ops env j=v)(hp:v≠.cM) :
  ∃u,VR f v u∧yielded ops a.tmps j=(match u with|.bool b=>some b|_=>none):=by
 obtain⟨t,h1,h2⟩:=HI hv hp;obtain⟨u,h3,h4⟩:=h.tmps.get t v h2;rw[Array.getElem?_toList]at h3;refine⟨u,h4,?_⟩;unfold yielded;rw[h1,Option.bind_some,h3];cases u<;>rfl
theorem acC{ops:Array Oper}{env:List AV}{o:Oper}{j:Nat}{want:Bool}(hg:o.guard=some (j,want)){x y:Prop}(hk:AU (mG ops env j) want x y) :
  (x∧∀f a,AR P f env a→Region.wanted o (yielded ops a.tmps)=true)∨(y∧∀f a,AR P f env a→Region.wanted o (yielded ops a.tmps)=false):=by
 generalize hv:mG ops env j=v at hk;cases v<;>try exact hk.elim
 case bool b=>
  have key:∀f a,AR P f env a→Region.wanted o (yielded ops a.tmps)=(b == want):=λf a h=>by
   obtain⟨u,h1,h2⟩:=qH h hv (by simp);cases h1;simp only[Region.wanted,hg,h2];cases b<;>cases want<;>rfl
  rcases dk (zo hk)with⟨h1,h2⟩|⟨h1,h2⟩
  ·exact .inl ⟨h2,λf a h=>(key f a h).trans h1⟩
  ·exact .inr ⟨h2,λf a h=>(key f a h).trans h1⟩
 case bD l=>
  refine .inr ⟨hk,λf a h=>?_⟩;obtain⟨u,h1,h2⟩:=qH h hv (by simp);cases h1;simp only[Region.wanted,hg,h2];rfl
theorem AY{ops:Array Oper}{env:List AV}{j:Nat}{want:Bool}{x y:List AV→Prop}(h:AW ops env j want x y):AU (mG ops env j) want (x env) (y env):=by
 have key:∀b,mG ops env j=.bool b→cA env ((ops[j]?).bind (·.dst)) (.bool b)=env:=λb hb=>by
  obtain⟨t,h1,h2⟩:=HI hb (by simp);rw[h1];simp only[cA];apply List.ext_getElem?;intro i;rw[List.getElem?_set];split
  ·rename_i e;subst e;split
   ·exact h2.symm
   ·rename_i hl;rw[List.getElem?_eq_none (by omega)]
  ·rfl
 unfold AW at h;split at h
 ·rename_i b hb;rw[hb];cases b<;>cases want<;>simp only[bI,key _ hb]at h<;>exact h
 ·rename_i l hl;rw[hl];exact h
 ·exact h.elim
theorem AR.stand{f:aN}{env:List AV}{a:Act}(h:AR P f env a)(o:Oper):Stand f o (fa P.globals.size env) a:=λx _=>ux h x
theorem ia.opV{o:Oper}{env:List AV}{ds:List dF}{H:AH}{K:Out→List AV→List dF→AH→Prop}{k:AV→AH→Prop}{W:Act→World→(Exit→Act→World→Prop)→Prop}
  {N:(Exit→Act→World→Prop)→Act→World→Prop}(h:HG P o (fa P.globals.size env) H k (λv H=>K (.cZ v) env ds H))
  (hk:∀v H',k v H'→ia P (cA env o.dst v) ds H' K λa w Q=>N Q a w)
  (hW:∀f a w Q,AR P f env a→o.wp P a w (N Q) Q→W a w Q):ia P env ds H K W:=by
 cases h with
 |val v H' h g=>
  obtain⟨ot,env',ds',H2,h1,h2⟩:=hk v H' h;refine⟨ot,env',ds',H2,h1,λf w a hr ha hd Q hQ=>hW f a w Q ha (g f w a hr ha.glob (ha.stand o) _ _ λf' w' u s hu=>?_)⟩;exact h2 f' w' _ s.rel ((ha.up s.le).put o.dst hu) (by rw[put_defers];exact hd.up s.le) Q λe a' w'' hx=>hQ e a' w'' (hx.after s)
 |cZ v H' h g=>
  refine⟨.cZ v,env,ds,H',h,λf w a hr ha hd Q hQ=>hW f a w Q ha (g f w a hr ha.glob (ha.stand o) _ _ λf' w' ch s hp=>?_)⟩;exact hQ _ _ _ ⟨f',s,ha.up s.le,hd.up s.le,ch,rfl,hp⟩
theorem ZM{o:Oper}{c:Call}(ho:o.op=.defer c){fo:Operand}(hc:c.callee=.value fo){f:aN}{env:List AV}{a:Act}(ha:AR P f env a){g:Nat}{x y:List AV}(e:fa P.globals.size env fo=.func g x y)(w:World) :
  ∃d,(execOp a.eval o).run P w=.ok (.defer d) w∧∀ds,DR f ds a.defers→DR f (⟨g,x++(c.args.toList.map (fa P.globals.size env)++y)⟩::ds) (d::a.defers):=by
 have hs:=ha.stand o;have hf:=hs fo (by simp[ho,Op.operands,Call.operands,hc]);rw[e]at hf;have hv:VL f (c.args.toList.map (fa P.globals.size env)) (c.args.toList.map a.eval):=VL.mo λz hz=>hs z (by simp[ho,Op.operands,Call.operands,hc];right;simpa using hz);generalize hz:a.eval fo=z at hf;cases hf with
 |func _ _ _ us ws h1 h2=>
  refine⟨⟨.fn (.func g) ws.toArray,us.toArray++c.args.map a.eval⟩,by simp[execOp,ho,resolve,hc,hz,Deferred.ofValue],λds hd=>.cons g _ _ _ ds _ ?_ hd⟩;simp only[Array.toList_append,Array.toList_map];rw[List.append_assoc];exact h1.append (hv.append h2)
theorem uc{ops:Array Oper}{rest:List Oper}{o:Oper}{a:Act}{w:World}{Q:Exit→Act→World→Prop}(hw:Region.wanted o (yielded ops a.tmps)=true)(h:o.wp P a w (wpList P ops Q rest) Q):wpList P ops Q (o::rest) a w:=by
 unfold wpList;rw[if_pos hw];exact .inl h
theorem La{ops:Array Oper}{rest:List Oper}{o:Oper}{a:Act}{w:World}{Q:Exit→Act→World→Prop}(hw:Region.wanted o (yielded ops a.tmps)=false)(h:wpList P ops Q rest (a.put o.dst undef) w):wpList P ops Q (o::rest) a w:=by
 unfold wpList;rw[if_neg (by rw[hw];simp)];exact h
theorem nz{C:eD}(hC:gQ P C){ops:Array Oper}{K:Out→List AV→List dF→AH→Prop}:∀(rest:List Oper) (env:List AV) (ds:List dF) (H:AH),
  rW C P P.globals.size ops rest env ds H K→ia P env ds H K λa w Q=>wpList P ops Q rest a w
 |[],env,ds,H,h=>⟨.normal,env,ds,H,h,λf w a hr ha hd Q hQ=>wpList_nil (hQ _ _ _ ⟨f,Step.refl hr,ha,hd,rfl⟩)⟩
 |o::rest,env,ds,H,h=>by
  unfold rW at h;split at h
  ·rename_i hg;have hw:∀t,Region.wanted o t=true:=λt=>by simp[Region.wanted,hg]
   unfold abg at h;split at h
   ·rename_i c ho;split at h
    ·rename_i fo hc;obtain⟨g,x,y,e,hh⟩:=AX h;obtain⟨hb,hh⟩:=aF hh;obtain⟨ot,env',ds',H2,h1,h2⟩:=nz hC rest _ _ _ hh;refine⟨ot,env',ds',H2,h1,λf w a hr ha hd Q hQ=>uc (hw _) ?_⟩;obtain⟨d,g1,g2⟩:=ZM ho hc ha e w;unfold Oper.wp;rw[g1,Oper.upon_defer];have ha':AR P f env { a with defers:=d::a.defers }:=ha.defers _;refine h2 f w _ hr (ha'.put o.dst (VR.undef f)) ?_ Q hQ;rw[put_defers];exact g2 ds hd
    ·exact h.elim
   ·refine ia.opV (tq hC h) (λv H' hk=>nz hC rest _ _ _ hk) (λf a w Q ha hh=>uc (hw _) hh)
  ·rename_i j want hg;obtain⟨_,h⟩:=aF h;rcases acC (P:=P) hg (AY h)with⟨h,hw⟩|⟨h,hw⟩
   ·exact ia.opV (tq hC h) (λv H' hk=>nz hC rest _ _ _ hk) (λf a w Q ha hh=>uc (hw f a ha) hh)
   ·obtain⟨ot,env',ds',H2,h1,h2⟩:=nz hC rest _ _ _ h;refine⟨ot,env',ds',H2,h1,λf w a hr ha hd Q hQ=>La (hw f a ha) ?_⟩;exact h2 f w _ hr (ha.put o.dst (VR.undef f)) (by rw[put_defers];exact hd) Q hQ
end
section
abbrev KT:=Out→List AV→List dF→AH→Prop
abbrev ET:=Code→List AV→List dF→AH→KT→Prop
abbrev DT:=Array Oper→List AV→List dF→AH→KT→Prop
def pR(P:Program)(D:DT):Prop:=∀id ops env ds H K,D ops env ds H K→ia P env ds H K λa w Q=>(Code.region id ops true).wp P Q a w
section
def Oz(k:List AV→List dF→AH→Prop)(K:KT):KT:=λo env ds H=>match o with|.normal=>k env ds H|o=>K o env ds H
def ae4(id:Nat)(K:KT):KT:=λo env ds H=>match o with|.exit i=>bI (Nat.beq i id) (K .normal env ds H) (K (.exit i) env ds H)|o=>K o env ds H
def abh(x:ET)(c:Code)(n:Nat):List AV→List dF→AH→KT→Prop:=
 Nat.rec (motive:=λ_=>List AV→List dF→AH→KT→Prop) (λ_ _ _ _=>False) (λ_ ih env ds H K=>x c env ds H (Oz (λenv ds H=>ih env ds H K) K)) n
def HJ(o:Option Code)(k:Code→Prop)(x:Prop):Prop:=match o with|some r=>k r|none=>x
def Ts(x:ET)(c:Code)(n:Nat):ET:=
 Nat.rec (motive:=λ_=>ET) (λ_ _ _ _ _=>False) (λ_ ih r env ds H K=>x r env ds H λo env ds H=>match o with|.goto l=>HJ (findLabel c l) (λr=>ih r env ds H K) (K (.goto l) env ds H)|o=>K o env ds H) n
def OA(C:eD)(D:DT)(P:Program)(G N:Nat)(ih:ET):ET:=λc env ds H K=>
 match c with
 |.skip=>K .normal env ds H
 |.region _ ops draw=>bI draw (D ops env ds H K) (rW C P G ops ops.toList env ds H K)
 |.seq a b=>ih a env ds H (Oz (λenv ds H=>ih b env ds H K) K)
 |.cond c a b=>kh (fa G env c) (ih a env ds H K) (ih b env ds H K)
 |.block id c=>ih c env ds H (ae4 id K)
 |.loop c=>abh ih c N env ds H K
 |.exit id=>K (.exit id) env ds H
 |.goto l=>K (.goto l) env ds H
 |.label _=>K .normal env ds H
 |.scope c=>Ts ih c N c env ds H K
 |.ret=>K .ret env ds H
 |_=>False
def exec(C:eD)(D:DT)(P:Program)(G N:Nat)(d:Nat):ET:=Nat.rec (motive:=λ_=>ET) (λ_ _ _ _ _=>False) (λ_ ih=>OA C D P G N ih) d
end
variable {P:Program}
def LI(P:Program)(c:Code)(Q:Exit→Act→World→Prop):Nat→Act→World→Prop
 |0,_,_=>False
 |n+1,a,w=>c.wp P (Exit.then (LI P c Q n) Q) a w
theorem least{p:Nat→Prop}(h:∃n,p n):∃n,p n∧∀m,p m→n≤m:=by
 obtain⟨n,hn⟩:=h
 induction n using Nat.strongRecOn with
 |_ n ih=>
  by_cases h:∃m,m<n∧p m
  ·obtain⟨m,h1,h2⟩:=h;exact ih m h1 h2
  ·exact⟨n,hn,λm hm=>Nat.le_of_not_lt λhl=>h ⟨m,hl,hm⟩⟩
open Classical in
noncomputable def wX(p:Nat→Prop):Nat:=if h:∃n,p n then (least h).choose else 0
theorem zp{p:Nat→Prop}(h:∃n,p n):p (wX p)∧∀m,p m→wX p≤m:=by
 unfold wX;rw[dif_pos h];exact(least h).choose_spec
theorem wp_loop_rounds{c:Code}{Q:Exit→Act→World→Prop}{n:Nat}{a:Act}{w:World}(h:LI P c Q n a w):(Code.loop c).wp P Q a w:=by
 refine wp_loop (λa w=>∃n,LI P c Q n a w) (λa w=>wX λn=>LI P c Q n a w) ⟨n,h⟩ λa w hI=>?_;obtain⟨h1,h2⟩:=zp hI;generalize wX (λn=>LI P c Q n a w)=m at h1 h2;cases m with
 |zero=>exact h1.elim
 |succ m=>
  refine Code.wp_mono (λe a' w' q=>?_) h1;cases e<;>try exact q
  have q:LI P c Q m a' w':=q;exact⟨⟨m,q⟩,Nat.lt_succ_of_le ((zp ⟨m,q⟩).2 m q)⟩
def wI(P:Program)(c:Code)(Q:Exit→Act→World→Prop):Nat→Code→Act→World→Prop
 |0,_,_,_=>False
 |n+1,r,a,w=>r.wp P (λe a w=>match e with|.goto l=>(match findLabel c l with|some r'=>wI P c Q n r' a w|none=>Q (.goto l) a w)|e=>Q e a w) a w
theorem tt{c:Code}{Q:Exit→Act→World→Prop}{n:Nat}{a:Act}{w:World}(h:wI P c Q n c a w):(Code.scope c).wp P Q a w:=by
 intro b k cs;have key:∀n r a w,wI P c Q n r a w→∃e a' w',Q e a' w'∧Arrives P (lone (b.at a (.code r :: .inScope c::k)) cs w) b k cs e a' w':=by
  intro n
  induction n with
  |zero=>exact λr a w h=>h.elim
  |succ n ih=>
   intro r a w h;obtain⟨e,a₁,w₁,hq,harr⟩:=h b (.inScope c::k) cs;cases e with
   |normal=>exact⟨.normal,a₁,w₁,hq,Steps.trans harr (.one step_inScope)⟩
   |exit id=>exact⟨.exit id,a₁,w₁,hq,λk' hk=>harr k' (by simp[exitTo,hk])⟩
   |goto l=>
    simp only at hq;split at hq
    ·rename_i r' hf;obtain⟨e₂,a₂,w₂,hq₂,harr₂⟩:=ih r' a₁ w₁ hq;exact⟨e₂,a₂,w₂,hq₂,.of_steps (harr _ (by simp[gotoIn,hf])) harr₂⟩
    ·rename_i hf;exact⟨.goto l,a₁,w₁,hq,λk' hk=>harr k' (by simp[gotoIn,hf,hk])⟩
   |ret=>exact⟨_,a₁,w₁,hq,harr⟩
   |panic ch=>exact⟨_,a₁,w₁,hq,harr⟩
   |outgrown=>exact⟨_,a₁,w₁,hq,harr⟩
 obtain⟨e,a',w',q,harr⟩:=key n c a w h;exact⟨e,a',w',q,.of_steps (.one step_scope) harr⟩
variable {env:List AV}{ds:List dF}{H:AH}{K:KT}
def Mf:Out→Exit→Prop
 |.normal,e=>e=.normal
 |.exit id,e=>e=.exit id
 |.goto l,e=>e=.goto l
 |.ret,e=>e=.ret
 |.cZ _,e=>∃ch,e=.panic ch
theorem lB.Mf{f:aN}{w:World}{o:Out}{H':AH}{e:Exit}{a:Act}{w':World}(h:lB P f H w o env ds H' e a w'):Mf o e:=by
 obtain⟨f',s,h1,h2,h3⟩:=h;cases o<;>first|exact h3|(obtain⟨ch,h3,_⟩:=h3;exact⟨ch,h3⟩)
theorem ia.done{o:Out}{W:Act→World→(Exit→Act→World→Prop)→Prop}(h:K o env ds H)(e:Exit)(he:o=.normal∧e=.normal∨(∃i,o=.exit i∧e=.exit i)∨(∃l,o=.goto l∧e=.goto l)∨o=.ret∧e=.ret)
  (hW:∀a w Q,Q e a w→W a w Q):ia P env ds H K W:=
 ⟨o,env,ds,H,h,λf w a hr ha hd Q hQ=>hW a w Q (hQ _ _ _ ⟨f,Step.refl hr,ha,hd,by rcases he with⟨rfl,rfl⟩|⟨i,rfl,rfl⟩|⟨l,rfl,rfl⟩|⟨rfl,rfl⟩<;>rfl⟩)⟩
theorem ia.mono{K':KT}{W W':Act→World→(Exit→Act→World→Prop)→Prop}(h:ia P env ds H K W)(hW:∀f a w Q,AR P f env a→W a w Q→W' a w Q)(hK:∀o env ds H,K o env ds H→K' o env ds H):ia P env ds H K' W':=by
 obtain⟨o,env',ds',H',h1,h2⟩:=h;exact⟨o,env',ds',H',hK _ _ _ _ h1,λf w a hr ha hd Q hQ=>hW f a w Q ha (h2 f w a hr ha hd Q hQ)⟩
theorem ia.bind{K':KT}{V W:Act→World→(Exit→Act→World→Prop)→Prop}(h:ia P env ds H K' V)(U:Exit→Act→World→(Exit→Act→World→Prop)→Prop)
  (hk:∀o dq ds1 H1,K' o dq ds1 H1→(K o dq ds1 H1∧∀e a w Q,Go.X.Mf o e→Q e a w→U e a w Q)∨(∃e,(∀e',Go.X.Mf o e'→e'=e)∧ia P dq ds1 H1 K (U e)))
  (hW:∀a w Q,V a w (λe a' w'=>U e a' w' Q)→W a w Q):ia P env ds H K W:=by
 obtain⟨o,dq,ds1,H1,h1,h2⟩:=h;rcases hk _ _ _ _ h1 with⟨g1,g2⟩|⟨e,he,o2,cQ,ds2,H2,g1,g2⟩
 ·exact⟨o,dq,ds1,H1,g1,λf w a hr ha hd Q hQ=>hW a w Q (h2 f w a hr ha hd _ λe a' w' hx=>g2 e a' w' Q hx.Mf (hQ _ _ _ hx))⟩
 ·refine⟨o2,cQ,ds2,H2,g1,λf w a hr ha hd Q hQ=>hW a w Q (h2 f w a hr ha hd _ λe' a' w' hx=>?_)⟩;rw[he e' hx.Mf];obtain⟨f',s,ha',hd',_⟩:=hx;exact g2 f' w' a' s.rel ha' hd' Q λe a'' w'' hx=>hQ _ _ _ (hx.after s)
theorem HK{k:List AV→List dF→AH→Prop}{V W U:Act→World→(Exit→Act→World→Prop)→Prop}(h:ia P env ds H (Oz k K) V)
  (hk:∀env ds H,k env ds H→ia P env ds H K U)
  (hW:∀a w Q,V a w (Exit.then (λa w=>U a w Q) Q)→W a w Q):ia P env ds H K W:=by
 refine ia.bind h (λe a w Q=>Exit.then (λa w=>U a w Q) Q e a w) (λo dq ds1 H1 hh=>?_) (λa w Q hh=>hW a w Q hh);cases o with
 |normal=>exact .inr ⟨.normal,λe' h=>h,hk _ _ _ hh⟩
 |exit id=>exact .inl ⟨hh,λe a w Q he hq=>by cases he;exact hq⟩
 |goto l=>exact .inl ⟨hh,λe a w Q he hq=>by cases he;exact hq⟩
 |ret=>exact .inl ⟨hh,λe a w Q he hq=>by cases he;exact hq⟩
 |cZ v=>exact .inl ⟨hh,λe a w Q he hq=>by obtain⟨ch,rfl⟩:=he;exact hq⟩
def wY(P:Program)(x:ET):Prop:=∀c env ds H K,x c env ds H K→ia P env ds H K λa w Q=>c.wp P Q a w
theorem HL{x:ET}(hx:wY P x)(c:Code):∀n env ds H,abh x c n env ds H K→ia P env ds H K λa w Q=>LI P c Q n a w
 |0,_,_,_,h=>h.elim
 |n+1,env,ds,H,h=>HK (hx c env ds H _ h) (λenv ds H h=>HL hx c n env ds H h) (λ_ _ _ h=>h)
theorem FB{x:ET}(hx:wY P x)(c:Code):∀n r env ds H,Ts x c n r env ds H K→ia P env ds H K λa w Q=>wI P c Q n r a w
 |0,_,_,_,_,h=>h.elim
 |n+1,r,env,ds,H,h=>by
  refine ia.bind (hx r env ds H _ h) (λe a w Q=>match e with|.goto l=>(match findLabel c l with|some r'=>wI P c Q n r' a w|none=>Q (.goto l) a w)|e=>Q e a w) (λo dq ds1 H1 hh=>?_) (λa w Q hh=>hh);cases o with
  |normal=>exact .inl ⟨hh,λe a w Q he hq=>by cases he;exact hq⟩
  |exit id=>exact .inl ⟨hh,λe a w Q he hq=>by cases he;exact hq⟩
  |ret=>exact .inl ⟨hh,λe a w Q he hq=>by cases he;exact hq⟩
  |cZ v=>exact .inl ⟨hh,λe a w Q he hq=>by obtain⟨ch,rfl⟩:=he;exact hq⟩
  |goto l=>
   simp only at hh;cases hf:findLabel c l with
   |none=>
    rw[hf]at hh;exact .inl ⟨hh,λe a w Q he hq=>by cases he;simp only[hf];exact hq⟩
   |some r'=>
    rw[hf]at hh;refine .inr ⟨.goto l,λe' h=>h,?_⟩;simp only[hf];exact FB hx c n r' dq ds1 H1 hh
theorem ZN{C:eD}(hC:gQ P C){D:DT}(hD:pR P D){N:Nat}{x:ET}(hx:wY P x):wY P (OA C D P P.globals.size N x):=by
 intro c env ds H K h;unfold OA at h;cases c with
 |skip=>exact ia.done h .normal (.inl ⟨rfl,rfl⟩) λa w Q h=>wp_skip h
 |region id ops draw=>
  rcases dk h with⟨rfl,h⟩|⟨rfl,h⟩
  ·exact hD id ops env ds H K h
  ·exact(nz hC _ _ _ _ h).mono (λf a w Q _ h=>wp_region_list h) λ_ _ _ _ h=>h
 |seq a b=>exact HK (hx a env ds H _ h) (λenv ds H h=>hx b env ds H K h) λa w Q h=>wp_seq h
 |cond c a b=>
  have h:kh (fa P.globals.size env c) (x a env ds H K) (x b env ds H K):=h;generalize hv:fa P.globals.size env c=v at h;cases v<;>try exact h.elim
  case bool t=>
   have hc:∀{f:aN}{a:Act},AR P f env a→a.eval c=.bool t:=λ{f act} ha=>by
    have:=ux ha c;rw[hv]at this;generalize act.eval c=u at this;cases this;rfl
   cases t
   ·exact(hx b env ds H K h).mono (λf a w Q ha h=>wp_cond (hc ha) h) λ_ _ _ _ h=>h
   ·exact(hx a env ds H K h).mono (λf a w Q ha h=>wp_cond (hc ha) h) λ_ _ _ _ h=>h
 |block id c=>
  refine ia.bind (hx c env ds H _ h) (λe a w Q=>Exit.inBlock id Q e a w) (λo dq ds1 H1 hh=>?_) (λa w Q hh=>wp_block hh);cases o with
  |normal=>exact .inl ⟨hh,λe a w Q he hq=>by cases he;exact hq⟩
  |exit i=>
   rcases dk hh with⟨hi,hh⟩|⟨hi,hh⟩
   ·refine .inr ⟨.exit i,λe' h=>h,ia.done hh .normal (.inl ⟨rfl,rfl⟩) λa w Q hq=>?_⟩;simp only[Exit.inBlock];rw[if_pos (Nat.eq_of_beq_eq_true hi)];exact hq
   ·refine .inl ⟨hh,λe a w Q he hq=>?_⟩;cases he;simp only[Exit.inBlock];rw[if_neg (λe=>by subst e;simp at hi)];exact hq
  |goto l=>exact .inl ⟨hh,λe a w Q he hq=>by cases he;exact hq⟩
  |ret=>exact .inl ⟨hh,λe a w Q he hq=>by cases he;exact hq⟩
  |cZ v=>exact .inl ⟨hh,λe a w Q he hq=>by obtain⟨ch,rfl⟩:=he;exact hq⟩
 |loop c=>exact(HL hx c N env ds H h).mono (λf a w Q _ h=>wp_loop_rounds h) λ_ _ _ _ h=>h
 |exit id=>exact ia.done h (.exit id) (.inr (.inl ⟨id,rfl,rfl⟩)) λa w Q h=>wp_exit h
 |goto l=>exact ia.done h (.goto l) (.inr (.inr (.inl ⟨l,rfl,rfl⟩))) λa w Q h=>wp_goto h
 |label l=>exact ia.done h .normal (.inl ⟨rfl,rfl⟩) λa w Q h=>wp_label h
 |scope c=>exact(FB hx c N c env ds H h).mono (λf a w Q _ h=>tt h) λ_ _ _ _ h=>h
 |ret=>exact ia.done h .ret (.inr (.inr (.inr ⟨rfl,rfl⟩))) λa w Q h=>wp_ret h
 |rangeFunc=>exact h.elim
 |refuse=>exact h.elim
theorem Mg{C:eD}(hC:gQ P C){D:DT}(hD:pR P D){N:Nat}:∀d,wY P (exec C D P P.globals.size N d)
 |0=>λ_ _ _ _ _ h=>h.elim
 |d+1=>ZN hC hD (Mg hC hD d)
end
section
inductive fR where
 |ret
 |cZ (v:AV)
 |caught (v:AV)
abbrev KD:=gN→fR→AH→Prop
abbrev uy:=Nat→List AV→fR→AH→KD→Prop
abbrev KR:=Out→fR→List AV→List dF→AH→Prop
def Tt(P:Program)(env:List AV)(H:AH)(r:ResultVar)(k:AV→Prop):Prop:=match r with|.tmp t=>k (env.getD t dW)|.cell a t=>Gn P t (env.getD a dW) H k
def ZO(P:Program)(env:List AV)(H:AH):List ResultVar→(List AV→Prop)→Prop
 |[],k=>k []
 |r::rs,k=>Tt P env H r λv=>ZO P env H rs λl=>k (v::l)
def OB(P:Program)(fn:Func)(env:List AV)(H:AH)(k:AV→Prop):Prop:=ZO P env H fn.results.toList λl=>match l with|[v]=>k v|l=>k (.bD l)
def acD:fR→fR
 |.caught _=>.ret
 |u=>u
def AZ(o:gN)(u:fR):fR:=match o with|.ret _=>acD u|.cZ v=>.cZ v
def nA(P:Program)(CD:uy)(fn:Func)(env:List AV):List dF→fR→AH→(gN→AH→Prop)→Prop
 |[],.ret,H,K=>OB P fn env H λv=>K (.ret v) H
 |[],.cZ v,H,K=>K (.cZ v) H
 |[],.caught _,_,_=>False
 |d::ds,u,H,K=>bT (cY P d.g) (CD d.g d.args u H λo u' H'=>nA P CD fn env ds (AZ o u') H' K)
def OC(P:Program)(CD:uy)(fn:Func)(K:gN→AH→Prop):KT:=λo env ds H=>match o with|.normal=>nA P CD fn env ds .ret H K|.ret=>nA P CD fn env ds .ret H K|.cZ v=>nA P CD fn env ds (.cZ v) H K|_=>False
def ae5(P:Program)(fn:Func)(K:KD):KR:=λo M env ds H=>match ds with|[]=>(match o with|.normal=>OB P fn env H λv=>K (.ret v) M H|.ret=>OB P fn env H λv=>K (.ret v) M H|.cZ v=>K (.cZ v) M H|_=>False)|_=>False
def isRecover(o:Oper):Bool:=match o.op with|.call c=>(match c.callee with|.builtin .recover=>true|_=>false)|_=>false
def ae6(M:fR)(k:AV→fR→Prop):Prop:=match M with|.cZ v=>k v (.caught v)|M=>k .dZ M
def uz(C:eD)(P:Program)(G:Nat)(ops:Array Oper):List Oper→fR→List AV→List dF→AH→KR→Prop
 |[],M,env,ds,H,K=>K .normal M env ds H
 |o::rest,M,env,ds,H,K=>bT (o.guard.isNone && !(yh o)) (bI (isRecover o) (ae6 M λv M'=>uz C P G ops rest M' (cA env o.dst v) ds H K)
   (rV C P G o (fa G env) (aP H) H (λv H'=>uz C P G ops rest M (cA env o.dst v) ds H' K) (λv H=>K (.cZ v) M env ds H)))
def ahw(k:fR→List AV→List dF→AH→Prop)(K:KR):KR:=λo M env ds H=>match o with|.normal=>k M env ds H|o=>K o M env ds H
abbrev RT:=Code→fR→List AV→List dF→AH→KR→Prop
def HM(C:eD)(x:ET)(P:Program)(G:Nat)(ih:RT):RT:=λc M env ds H K=>
 match c with
 |.seq a b=>ih a M env ds H (ahw (λM env ds H=>ih b M env ds H K) K)
 |.cond c a b=>kh (fa G env c) (ih a M env ds H K) (ih b M env ds H K)
 |.region _ ops false=>uz C P G ops ops.toList M env ds H K
 |c=>x c env ds H λo env ds H=>K o M env ds H
def abi(C:eD)(x:ET)(P:Program)(G d:Nat):RT:=Nat.rec (motive:=λ_=>RT) (λ_ _ _ _ _ _=>False) (λ_ ih=>HM C x P G ih) d
def OD(P:Program)(g:Nat)(k:Func→Code→Prop):Prop:=match P.funcs[g]? with|some fn=>(match fn.body with|some c=>k fn c|none=>False)|none=>False
def bz(fn:Func)(args:List AV):List AV:=args++List.replicate (fn.ntmps-args.length) dW
def OE(C:eD)(x:ET)(P:Program)(G d:Nat):uy:=λg args M H K=>OD P g λfn c=>abi C x P G d c M (bz fn args) [] H (ae5 P fn K)
def OF(C:eD)(D:DT)(P:Program)(G N d:Nat):eD:=λg args H K=>
 OD P g λfn c=>exec C D P G N d c (bz fn args) [] H (OC P (OE C (exec C D P G N d) P G d) fn K)
variable {P:Program}
def MR(f:aN):fR→FrameMode→Prop
 |.ret,u=>u=.returning
 |.cZ v,u=>∃ch,u=.panicking ch∧vL f v ch
 |.caught v,u=>∃x older,u=.panicking ({ v:=x,recovered:=true }::older)∧VR f v x∧∀y∈older,y.goexit=false
theorem MR.up{f f':aN}(h:f.le f'){M:fR}{u:FrameMode}(m:MR f M u):MR f' M u:=by
 cases M with
 |ret=>exact m
 |cZ v=>obtain⟨ch,h1,x,older,h2,h3,h4⟩:=m;exact⟨ch,h1,x,older,h2,h3.up h,h4⟩
 |caught v=>obtain⟨x,older,h1,h2,h3⟩:=m;exact⟨x,older,h1,h2.up h,h3⟩
theorem MR.ne{f:aN}{M:fR}{u:FrameMode}(m:MR f M u):u≠.run:=by
 cases M with
 |ret=>cases m;simp
 |cZ v=>obtain⟨ch,rfl,_⟩:=m;simp
 |caught v=>obtain⟨x,older,rfl,_⟩:=m;simp
def HN(f:aN)(H:AH)(w:World)(o:gN)(M:fR)(H':AH):Ending→FrameMode→World→Prop:=λe u' w'=>
 ∃f',Step f H w f' H' w'∧MR f' M u'∧match o with
  |.ret v=>∃u,e=.returned u∧VR f' v u
  |.cZ v=>∃ch,e=.panicked ch∧vL f' v ch
def Dz(P:Program)(CD:uy):Prop:=∀g args M H K,cY P g=true→CD g args M H K→∃o M' H',K o M' H'∧∀f w (vs:Array Value) u,HR f H w→(∀g,g<P.globals.size→f.dom g∧f.blk g=g∧f.off g=0)→VL f args vs.toList→MR f M u→CallsD P g vs u w (HN f H w o M' H')
theorem Mh{f:aN}{env:List AV}{a:Act}(h:AR P f env a)(t:Tmp):VR f (env.getD t dW) (a.tmps.getD t undef):=ux h (.tmp t)
def wZ(tmps:Array Value):ResultVar→Sem Value
 |.tmp t=>pure (tmps.getD t undef)
 |.cell x t=>do loadVar t (←asAddr (tmps.getD x undef))
theorem OG(fn:Func)(tmps:Array Value):results fn tmps=(do let vs ←fn.results.mapM (wZ tmps);pure (if h:vs.size=1 then vs[0] else .tuple vs)):=by
 have:wZ tmps=(fun|.tmp t=>pure (tmps.getD t undef)|.cell a t=>do loadVar t (←asAddr (tmps.getD a undef)):ResultVar→Sem Value):=by
  funext r;cases r<;>rfl
 rw[this];rfl
theorem Tu{env:List AV}{H:AH}{r:ResultVar}{k:AV→Prop}(h:Tt P env H r k) :
  ∃v,k v∧∀f w a,HR f H w→AR P f env a→∃u,(wZ a.tmps r).run P w=.ok u w∧VR f v u:=by
 cases r with
 |tmp t=>exact⟨_,h,λf w a _ ha=>⟨_,rfl,Mh ha t⟩⟩
 |cell x t=>
  obtain⟨v,h1,h2⟩:=Ht h;refine⟨v,h1,λf w a hr ha=>?_⟩;obtain⟨u,g1,g2⟩:=h2 f w _ hr.toHRQ (Mh ha x);refine⟨u,?_,g2⟩;simp only[wZ];generalize a.tmps.getD x undef=z at g1;simp only[Instr.loadAt]at g1;cases z with
  |pointer p=>
   cases p with
   |none=>simp[Instr.sureAddr]at g1
   |some p=>simpa[Instr.sureAddr,asAddr]using g1
  |_=>simp[Instr.sureAddr]at g1
theorem Mi{env:List AV}{H:AH}:∀{rs:List ResultVar}{k:List AV→Prop},ZO P env H rs k→
  ∃l,k l∧∀f w a,HR f H w→AR P f env a→∃us,(rs.mapM (wZ a.tmps)).run P w=.ok us w∧VL f l us
 |[],k,h=>⟨[],h,λf w a _ _=>⟨[],by simp,.nil⟩⟩
 |r::rs,k,h=>by
  obtain⟨v,h1,h2⟩:=Tu h;obtain⟨l,g1,g2⟩:=Mi h1;refine⟨v::l,g1,λf w a hr ha=>?_⟩;obtain⟨u,x1,x2⟩:=h2 f w a hr ha;obtain⟨us,y1,y2⟩:=g2 f w a hr ha;exact⟨u::us,by simp only[List.mapM_cons,Sem.run_bind,x1,y1,Result.andThen_ok,Sem.run_pure],.cons _ _ _ _ x2 y2⟩
def one1(l:List AV):AV:=match l with|[v]=>v|l=>.bD l
theorem DA{fn:Func}{env:List AV}{H:AH}{k:AV→Prop}(h:OB P fn env H k) :
  ∃v,k v∧∀f w a,HR f H w→AR P f env a→∃u,(results fn a.tmps).run P w=.ok u w∧VR f v u:=by
 obtain⟨l,h1,h2⟩:=Mi h;have hk:k (one1 l):=by
  match l,h1 with
  |[],h1=>exact h1
  |[v],h1=>exact h1
  |v::v2::l,h1=>exact h1
 refine⟨_,hk,λf w a hr ha=>?_⟩;obtain⟨us,g1,g2⟩:=h2 f w a hr ha;refine⟨if h:us.toArray.size=1 then us.toArray[0] else .tuple us.toArray,?_,?_⟩
 ·rw[OG,Array.mapM_eq_mapM_toList];simp only[Sem.run_bind,map_eq_pure_bind,bind_assoc,pure_bind];rw[g1];rfl
 ·cases g2 with
  |nil=>exact .bD [] [] .nil
  |cons v u l us y1 y2=>
   cases y2 with
   |nil=>exact y1
   |cons v2 u2 l us y3 y4=>exact .bD (v::v2::l) (u::u2::us) (.cons _ _ _ _ y1 (.cons _ _ _ _ y3 y4))
def w7(P:Program)(f:aN)(H:AH)(w:World)(o:Out)(M:fR)(env:List AV)(ds:List dF)(H':AH):Exit→Act→FrameMode→World→Prop:=λe a u w'=>
 ∃f',Step f H w f' H' w'∧AR P f' env a∧DR f' ds a.defers∧MR f' M u∧match o with
  |.normal=>e=.normal
  |.exit id=>e=.exit id
  |.goto l=>e=.goto l
  |.ret=>e=.ret
  |.cZ v=>∃ch,e=.panic ch∧vL f' v ch
theorem w7.after{f f1:aN}{H H1:AH}{w w1:World}(s:Step f H w f1 H1 w1){o:Out}{M:fR}{env:List AV}{ds:List dF}{H':AH}{e:Exit}{a:Act}{u:FrameMode}{w':World}(h:w7 P f1 H1 w1 o M env ds H' e a u w'):w7 P f H w o M env ds H' e a u w':=by
 obtain⟨f',s',h⟩:=h;exact⟨f',gh.trans s s',h⟩
abbrev PS:=Exit→Act→List Frame→World→Prop
def DB(P:Program)(M:fR)(env:List AV)(ds:List dF)(H:AH)(K:KR)(W:Act→List Frame→World→PS→Prop):Prop:=
 ∃o M' env' ds' H',K o M' env' ds' H'∧∀f w a c₀ cs u,HR f H w→AR P f env a→DR f ds a.defers→MR f M u→c₀.mode=u→∀Q:PS,(∀e a' u' w',w7 P f H w o M' env' ds' H' e a' u' w'→Q e a' ({ c₀ with mode:=u' }::cs) w')→W a (c₀::cs) w Q
theorem pS{c₀:Frame}{u:FrameMode}(h:c₀.mode=u):({ c₀ with mode:=u }:Frame)=c₀:=by subst h;rfl
def gR(P:Program)(ops:Array Oper)(Q:PS):List Oper→Act→List Frame→World→Prop
 |[],a,cs,w=>Q .normal a cs w
 |o::rest,a,cs,w=>
  if Region.wanted o (yielded ops a.tmps) then
   match (execOp a.eval o).run P w with
   |.ok .recover w'=>
    match recoverD cs with
    |some (v,cs')=>gR P ops Q rest (a.put o.dst v) cs' w'
    |none=>gR P ops Q rest (a.put o.dst .nilIface) cs w'
   |r=>o.upon P a (λa' w'=>gR P ops Q rest a' cs w') (λe a' w'=>Q e a' cs w') r
  else gR P ops Q rest (a.put o.dst undef) cs w
theorem Tv{ops:Array Oper}{Q:PS}(l:List Oper):∀k,(∀j,l[j]? = ops[k+j]?)→wpOpsS P ops Q (List.range' k l.length)=gR P ops Q l:=by
 induction l with
 |nil=>intro k _;funext a cs w;simp[wpOpsS,gR]
 |cons o l ih=>
  intro k h;have h0:ops[k]? = some o:=by simpa using(h 0).symm
  have ih':=ih (k+1) (λj=>by have:=h (j+1);simpa[Nat.add_assoc,Nat.add_comm 1 j]using this);funext a cs w;simp only[List.length_cons,List.range'_succ,wpOpsS,h0,gR,ih'];rfl
theorem A0{id:Nat}{ops:Array Oper}{Q:PS}{a:Act}{cs:List Frame}{w:World}(h:gR P ops Q ops.toList a cs w):(Code.region id ops false).wpS P Q a cs w:=
 wpS_region (by rw[List.range_eq_range',←Array.length_toList,Tv ops.toList 0 (by simp)];exact h)
theorem w8{ops:Array Oper}{Q:PS}{rest:List Oper}{o:Oper}{a:Act}{cs:List Frame}{w:World}(hw:Region.wanted o (yielded ops a.tmps)=true)
  (h:o.wp P a w (λa' w'=>gR P ops Q rest a' cs w') (λe a' w'=>Q e a' cs w')):gR P ops Q (o::rest) a cs w:=by
 unfold gR;rw[if_pos hw];unfold Oper.wp at h;split
 ·rename_i hr;rw[hr]at h;exact h.elim
 ·exact h
theorem Lb{ops:Array Oper}{Q:PS}{rest:List Oper}{o:Oper}{a:Act}{cs:List Frame}{w:World}(hw:Region.wanted o (yielded ops a.tmps)=true)(hr:(execOp a.eval o).run P w=.ok .recover w)
  (h:match recoverD cs with|some (v,cs')=>gR P ops Q rest (a.put o.dst v) cs' w|none=>gR P ops Q rest (a.put o.dst .nilIface) cs w):gR P ops Q (o::rest) a cs w:=by
 unfold gR;rw[if_pos hw,hr];exact h
theorem Lc{o:Oper}(h:isRecover o=true)(ρ:Operand→Value)(w:World):(execOp ρ o).run P w=.ok .recover w:=by
 unfold isRecover at h;split at h
 ·rename_i c ho;split at h
  ·rename_i hc;simp[execOp,ho,resolve,hc,invoke,builtin]
  ·cases h
 ·cases h
theorem acE{M:fR}{k:AV→fR→Prop}(h:ae6 M k):∃v M',k v M'∧∀f u c₀ cs,MR f M u→c₀.mode=u→∃x u',VR f v x∧MR f M' u'∧
  ∀(R:Value→List Frame→Prop),(R x ({ c₀ with mode:=u' }::cs))→(match recoverD (c₀::cs)with|some (y,cs')=>R y cs'|none=>R .nilIface (c₀::cs)):=by
 cases M with
 |ret=>
  refine⟨_,_,h,λf u c₀ cs hm hc=>⟨.nilIface,u,.dZ,hm,λR hR=>?_⟩⟩;rw[pS hc]at hR;cases hm;simp only[recoverD,hc];exact hR
 |cZ v=>
  refine⟨_,_,h,λf u c₀ cs hm hc=>?_⟩;obtain⟨ch,rfl,x,older,rfl,h3,h4⟩:=hm;refine⟨x,_,h3,⟨x,older,rfl,h3,h4⟩,λR hR=>?_⟩;simp only[recoverD,hc];exact hR
 |caught v=>
  refine⟨_,_,h,λf u c₀ cs hm hc=>⟨.nilIface,u,.dZ,hm,λR hR=>?_⟩⟩;rw[pS hc]at hR;obtain⟨x,older,rfl,h3,h4⟩:=hm;simp only[recoverD,hc];exact hR
theorem vM{C:eD}(hC:gQ P C){ops:Array Oper}{K:KR}:∀(rest:List Oper) (M:fR) (env:List AV) (ds:List dF) (H:AH),
  uz C P P.globals.size ops rest M env ds H K→DB P M env ds H K λa cs w Q=>gR P ops Q rest a cs w
 |[],M,env,ds,H,h=>⟨.normal,M,env,ds,H,h,λf w a c₀ cs u hr ha hd hm hc Q hQ=>by
  have:=hQ .normal a u w ⟨f,Step.refl hr,ha,hd,hm,rfl⟩;rw[pS hc]at this;exact this⟩
 |o::rest,M,env,ds,H,h=>by
  unfold uz at h;obtain⟨hg,h⟩:=aF h;rw[Bool.and_eq_true]at hg;have hg1:o.guard=none:=by simpa using hg.1
  have hw:∀t,Region.wanted o t=true:=λt=>by simp[Region.wanted,hg1]
  rcases dk h with⟨hrec,h⟩|⟨hrec,h⟩
  ·obtain⟨v,M',h1,h2⟩:=acE h;obtain⟨ot,M2,env',ds',H2,g1,g2⟩:=vM hC rest _ _ _ _ h1;refine⟨ot,M2,env',ds',H2,g1,λf w a c₀ cs u hr ha hd hm hc Q hQ=>?_⟩;obtain⟨x,u',h3,h4,h5⟩:=h2 f u c₀ cs hm hc;refine Lb (hw _) (Lc hrec _ w) ?_;exact h5 (λy cs'=>gR P ops Q rest (a.put o.dst y) cs' w) (g2 f w _ { c₀ with mode:=u' } cs u' hr (ha.put o.dst h3) (by rw[put_defers];exact hd) h4 rfl Q hQ)
  ·cases tq hC h with
   |val v H' h g=>
    obtain⟨ot,M2,env',ds',H2,g1,g2⟩:=vM hC rest _ _ _ _ h;refine⟨ot,M2,env',ds',H2,g1,λf w a c₀ cs u hr ha hd hm hc Q hQ=>w8 (hw _) ?_⟩;refine g f w a hr ha.glob (ha.stand o) _ _ λf' w' x s hx=>?_;exact g2 f' w' _ c₀ cs u s.rel ((ha.up s.le).put o.dst hx) (by rw[put_defers];exact hd.up s.le) (hm.up s.le) hc Q λe a' u' w'' hp=>hQ e a' u' w'' (hp.after s)
   |cZ v H' h g=>
    refine⟨.cZ v,M,env,ds,H',h,λf w a c₀ cs u hr ha hd hm hc Q hQ=>w8 (hw _) ?_⟩;refine g f w a hr ha.glob (ha.stand o) _ _ λf' w' ch s hp=>?_;have:=hQ (.panic ch) a u w' ⟨f',s,ha.up s.le,hd.up s.le,hm.up s.le,ch,rfl,hp⟩;rw[pS hc]at this;exact this
def ZP(P:Program)(x:RT):Prop:=∀c M env ds H K,x c M env ds H K→DB P M env ds H K λa cs w Q=>c.wpS P Q a cs w
theorem DB.ae7{M:fR}{env:List AV}{ds:List dF}{H:AH}{K:KR}{c:Code}(h:ia P env ds H (λo env ds H=>K o M env ds H) λa w Q=>c.wp P Q a w):DB P M env ds H K λa cs w Q=>c.wpS P Q a cs w:=by
 obtain⟨o,env',ds',H',h1,h2⟩:=h;refine⟨o,M,env',ds',H',h1,λf w a c₀ cs u hr ha hd hm hc Q hQ=>wpS_of_wp (h2 f w a hr ha hd _ λe a' w' hx=>?_)⟩;obtain⟨f',s,g1,g2,g3⟩:=hx;have:=hQ e a' u w' ⟨f',s,g1,g2,hm.up s.le,g3⟩;rw[pS hc]at this;exact this
theorem Tw{C:eD}(hC:gQ P C){x:ET}(hx:wY P x){ih:RT}(hi:ZP P ih):ZP P (HM C x P P.globals.size ih):=by
 intro c M env ds H K h;unfold HM at h;split at h
 ·rename_i a b;obtain⟨o,M1,dq,ds1,H1,h1,h2⟩:=hi a _ _ _ _ _ h;have pass:o≠.normal→K o M1 dq ds1 H1→DB P M env ds H K λac cs w Q=>(Code.seq a b).wpS P Q ac cs w:=λhne hk=>by
   refine⟨o,M1,dq,ds1,H1,hk,λf w ac c₀ cs u hr ha hd hm hc Q hQ=>wpS_seq (h2 f w ac c₀ cs u hr ha hd hm hc _ λe a' u' w' hp=>?_)⟩;have hp':=hp;obtain⟨f',s,g1,g2,g3,g4⟩:=hp;cases o with
   |normal=>exact absurd rfl hne
   |exit id=>subst g4;exact hQ _ _ _ _ hp'
   |goto l=>subst g4;exact hQ _ _ _ _ hp'
   |ret=>subst g4;exact hQ _ _ _ _ hp'
   |cZ v=>obtain⟨ch,rfl,_⟩:=g4;exact hQ _ _ _ _ hp'
  cases o with
  |normal=>
   obtain⟨o2,M2,cQ,ds2,H2,g1,g2⟩:=hi b _ _ _ _ _ h1;refine⟨o2,M2,cQ,ds2,H2,g1,λf w ac c₀ cs u hr ha hd hm hc Q hQ=>wpS_seq (h2 f w ac c₀ cs u hr ha hd hm hc _ λe a' u' w' hp=>?_)⟩;obtain⟨f',s,y1,y2,y3,rfl⟩:=hp;exact g2 f' w' a' { c₀ with mode:=u' } cs u' s.rel y1 y2 y3 rfl Q λe a'' u'' w'' hp=>hQ _ _ _ _ (hp.after s)
  |exit id=>exact pass (by simp) h1
  |goto l=>exact pass (by simp) h1
  |ret=>exact pass (by simp) h1
  |cZ v=>exact pass (by simp) h1
 ·rename_i c a b;generalize hv:fa P.globals.size env c=v at h;cases v<;>try exact h.elim
  case bool t=>
   have hc:∀{f:aN}{act:Act},AR P f env act→act.eval c=.bool t:=λ{f act} ha=>by
    have:=ux ha c;rw[hv]at this;generalize act.eval c=u at this;cases this;rfl
   cases t
   ·obtain⟨o,M1,dq,ds1,H1,h1,h2⟩:=hi b _ _ _ _ _ h;exact⟨o,M1,dq,ds1,H1,h1,λf w ac c₀ cs u hr ha hd hm hc' Q hQ=>wpS_cond (hc ha) (h2 f w ac c₀ cs u hr ha hd hm hc' Q hQ)⟩
   ·obtain⟨o,M1,dq,ds1,H1,h1,h2⟩:=hi a _ _ _ _ _ h;exact⟨o,M1,dq,ds1,H1,h1,λf w ac c₀ cs u hr ha hd hm hc' Q hQ=>wpS_cond (hc ha) (h2 f w ac c₀ cs u hr ha hd hm hc' Q hQ)⟩
 ·rename_i id ops;obtain⟨o,M1,dq,ds1,H1,h1,h2⟩:=vM hC _ _ _ _ _ h;exact⟨o,M1,dq,ds1,H1,h1,λf w ac c₀ cs u hr ha hd hm hc Q hQ=>A0 (h2 f w ac c₀ cs u hr ha hd hm hc Q hQ)⟩
 ·exact DB.ae7 (hx _ _ _ _ _ h)
theorem HO{C:eD}(hC:gQ P C){x:ET}(hx:wY P x):∀d,ZP P (abi C x P P.globals.size d)
 |0=>λ_ _ _ _ _ _ h=>h.elim
 |d+1=>Tw hC hx (HO hC hx d)
theorem DR.oN{f:aN}{es:List Deferred}(h:DR f [] es):es=[]:=by cases h;rfl
theorem HP{g:Nat}{k:Func→Code→Prop}(h:OD P g k):∃fn c,P.funcs[g]? = some fn∧fn.body=some c∧k fn c:=by
 unfold OD at h;split at h
 ·rename_i fn hf;split at h
  ·rename_i c hc;exact⟨fn,c,hf,hc,h⟩
  ·exact h.elim
 ·exact h.elim
theorem w9{f:aN}{fn:Func}{args:List AV}{vs:Array Value}(hv:VL f args vs.toList)(hg:∀g,g<P.globals.size→f.dom g∧f.blk g=g∧f.off g=0) :
  AR P f (bz fn args) { tmps:=vs++Array.replicate (fn.ntmps-vs.size) undef,defers:=[] }:=by
 refine⟨?_,hg⟩;have hl:=hv.length;have e:vs.toList.length=vs.size:=Array.length_toList;simp only[bz,Array.toList_append,Array.toList_replicate];rw[hl,e];exact hv.append (VL.replicate (VR.undef f) _)
theorem ZQ{C:eD}(hC:gQ P C){x:ET}(hx:wY P x)(d:Nat):Dz P (OE C x P P.globals.size d):=by
 intro g args M H K hb h;obtain⟨fn,c,hf,hc,h⟩:=HP h;obtain⟨o,M',env',ds',H',h1,h2⟩:=HO hC hx d _ _ _ _ _ _ h;unfold ae5 at h1;split at h1
 ·have key:∀(co:gN),(∀(f:aN) (H0:AH) w e a u' w',w7 P f H0 w o M' env' [] H' e a u' w'→∀c₀ cs,bodyPostS P fn c₀ cs (HN f H0 w co M' H') e a ({ c₀ with mode:=u' }::cs) w')→K co M' H'→
    ∃o M' H',K o M' H'∧∀f w (vs:Array Value) u,HR f H w→(∀g,g<P.globals.size→f.dom g∧f.blk g=g∧f.off g=0)→VL f args vs.toList→MR f M u→CallsD P g vs u w (HN f H w o M' H'):=λco h3 h4=>
   ⟨co,M',H',h4,λf w vs u hr hg hv hm=>callsD_of_wpS hf hc λc₀ cs hu=>h2 f w _ c₀ cs u hr (w9 hv hg) .nil hm hu _ λe a' u' w' hp=>h3 f H w e a' u' w' hp c₀ cs⟩
  split at h1
  ·obtain⟨v,g1,g2⟩:=DA h1;refine key (.ret v) (λf H0 w e a u' w' hp c₀ cs=>?_) g1;obtain⟨f',s,y1,y2,y3,rfl⟩:=hp;obtain⟨u,z1,z2⟩:=g2 f' w' a s.rel y1;have hd:a.defers=[]:=y2.oN;exact⟨hd,u',rfl,u,z1,f',s,y3,u,rfl,z2⟩
  ·obtain⟨v,g1,g2⟩:=DA h1;refine key (.ret v) (λf H0 w e a u' w' hp c₀ cs=>?_) g1;obtain⟨f',s,y1,y2,y3,rfl⟩:=hp;obtain⟨u,z1,z2⟩:=g2 f' w' a s.rel y1;have hd:a.defers=[]:=y2.oN;exact⟨hd,u',rfl,u,z1,f',s,y3,u,rfl,z2⟩
  ·rename_i v;refine key (.cZ v) (λf H0 w e a u' w' hp c₀ cs=>?_) h1;obtain⟨f',s,y1,y2,y3,ch,rfl,hp⟩:=hp;have hd:a.defers=[]:=y2.oN;exact⟨hd,u',rfl,f',s,y3,ch,rfl,hp⟩
  ·exact h1.elim
 ·exact h1.elim
theorem qG.after{f f1:aN}{H H1:AH}{w w1:World}(s:Step f H w f1 H1 w1){o:gN}{H':AH}{e:Ending}{w':World}(h:qG f1 H1 w1 o H' e w'):qG f H w o H' e w':=by
 obtain⟨f',s',h⟩:=h;exact⟨f',gh.trans s s',h⟩
theorem Leaves.mono{fn:Func}{tmps:Array Value}{R R':Ending→World→Prop}(hR:∀e w,R e w→R' e w):∀(ds:List Deferred) (u:FrameMode) (w:World),Leaves P fn tmps R ds u w→Leaves P fn tmps R' ds u w
 |[],.returning,w,h=>let ⟨v,h1,h2⟩:=h;⟨v,h1,hR _ _ h2⟩
 |[],.panicking chain,w,h=>hR _ _ h
 |[],.run,_,h=>h.elim
 |d::ds,u,w,h=>by
  obtain⟨h1,fv,cap,f,args,h2,h3,h4⟩:=h;refine⟨h1,fv,cap,f,args,h2,h3,h4.mono λe u' w' h5=>?_⟩;cases e with
  |returned v=>exact Leaves.mono hR ds _ _ h5
  |panicked ch=>exact Leaves.mono hR ds _ _ h5
  |outgrown=>exact hR _ _ h5
theorem Tx{f:aN}{o:gN}{M:fR}{u:FrameMode}(hm:MR f M u){e:Ending}
  (he:match o with|.ret v=>∃x,e=.returned x∧VR f v x|.cZ v=>∃ch,e=.panicked ch∧vL f v ch) :
  match e with|.returned _=>MR f (AZ o M) (settle u)|.panicked ch=>MR f (AZ o M) (raised u ch)|.outgrown=>False:=by
 cases o with
 |ret v=>
  obtain⟨x,rfl,_⟩:=he;cases M with
  |ret=>cases hm;rfl
  |cZ v=>
   obtain⟨ch,rfl,y,older,rfl,h3,h4⟩:=hm;exact⟨_,rfl,y,older,rfl,h3,h4⟩
  |caught v=>
   obtain⟨y,older,rfl,h3,h4⟩:=hm;have:older.dropWhile (λx=>!x.goexit)=[]:=by
    clear h3
    induction older with
    |nil=>rfl
    |cons y l ih=>rw[List.dropWhile_cons,if_pos (by rw[h4 y (by simp)];rfl)];exact ih λz hz=>h4 z (by simp[hz])
   show MR f .ret _;simp only[settle,this];rfl
 |cZ v=>
  obtain⟨ch,rfl,x,older,rfl,h3,h4⟩:=he;show MR f (.cZ v) _;cases M with
  |ret=>cases hm;exact⟨_,rfl,x,older,rfl,h3,h4⟩
  |cZ v=>
   obtain⟨ch',rfl,y,ae8,rfl,h5,h6⟩:=hm;refine⟨_,rfl,x,older++_,rfl,h3,λz hz=>?_⟩;simp only[List.mem_append,List.mem_cons]at hz;rcases hz with hz|rfl|hz
   ·exact h4 z hz
   ·rfl
   ·exact h6 z hz
  |caught v=>
   obtain⟨y,ae8,rfl,h5,h6⟩:=hm;refine⟨_,rfl,x,older++_,rfl,h3,λz hz=>?_⟩;simp only[List.mem_append,List.mem_cons]at hz;rcases hz with hz|rfl|hz
   ·exact h4 z hz
   ·rfl
   ·exact h6 z hz
theorem vN{CD:uy}(hCD:Dz P CD){fn:Func}{env:List AV}{K:gN→AH→Prop}:∀(ds:List dF) (M:fR) (H:AH),nA P CD fn env ds M H K→
  ∃co H',K co H'∧∀f w a es u,HR f H w→AR P f env a→DR f ds es→MR f M u→Leaves P fn a.tmps (qG f H w co H') es u w
 |[],.ret,H,h=>by
  obtain⟨v,h1,h2⟩:=DA h;refine⟨_,_,h1,λf w a es u hr ha hd hm=>?_⟩;cases hd;cases hm;obtain⟨x,g1,g2⟩:=h2 f w a hr ha;exact⟨x,g1,f,Step.refl hr,x,rfl,g2⟩
 |[],.cZ v,H,h=>by
  refine⟨_,_,h,λf w a es u hr ha hd hm=>?_⟩;cases hd;obtain⟨ch,rfl,hp⟩:=hm;exact⟨f,Step.refl hr,ch,rfl,hp⟩
 |[],.caught _,_,h=>h.elim
 |d::ds,M,H,h=>by
  unfold nA at h;obtain⟨hb,h⟩:=aF h;obtain⟨o,M',H1,h1,h2⟩:=hCD d.g d.args M H _ hb h;obtain⟨co,H2,g1,g2⟩:=vN hCD ds _ _ h1;refine⟨co,H2,g1,λf w a es u hr ha hd hm=>?_⟩;cases hd with
  |cons g args cap vs _ es hv hd=>
   refine leaves_cons hm.ne (f:=g) (args:=vs++cap) (by simp[invoke,wW hb]) ?_;refine(h2 f w _ u hr ha.glob hv hm).mono λe u' w' hp=>?_;obtain⟨f',s,hm',he⟩:=hp;have hA:=Tx hm' he;have key:∀v,MR f' (AZ o M') v→Leaves P fn a.tmps (qG f H w co H2) es v w':=λv hv=>
    Leaves.mono (λe w h=>h.after s) _ _ _ (g2 f' w' a es v s.rel (ha.up s.le) (hd.up s.le) hv)
   cases e with
   |returned x=>exact key _ hA
   |panicked ch=>exact key _ hA
   |outgrown=>exact hA.elim
theorem ZR{C:eD}(hC:gQ P C){D:DT}(hD:pR P D)(N d:Nat):gQ P (OF C D P P.globals.size N d):=by
 intro g args H K hb h;obtain⟨fn,c,hf,hc,h⟩:=HP h;have hx:=Mg hC hD (N:=N) d;obtain⟨o,env',ds',H',h1,h2⟩:=hx _ _ _ _ _ h;have hCD:=ZQ hC hx d;have key:∀(M:fR),nA P (OE C (exec C D P P.globals.size N d) P P.globals.size d) fn env' ds' M H' K→
   (∀(f:aN) (H0:AH) w (R:Ending→World→Prop) e a w',lB P f H0 w o env' ds' H' e a w'→(∀f' u,Step f H0 w f' H' w'→AR P f' env' a→DR f' ds' a.defers→MR f' M u→Leaves P fn a.tmps R a.defers u w')→bodyPostD P fn R e a w')→
   ∃o H',K o H'∧∀f w (vs:Array Value),HR f H w→(∀g,g<P.globals.size→f.dom g∧f.blk g=g∧f.off g=0)→VL f args vs.toList→Calls P g vs w (qG f H w o H'):=λM hl hb=>by
  obtain⟨co,H2,g1,g2⟩:=vN hCD _ _ _ hl;refine⟨co,H2,g1,λf w vs hr hg hv=>calls_of_wp_defers hf hc (h2 f w _ hr (w9 hv hg) .nil _ λe a' w' hp=>hb f H w _ e a' w' hp λf' u s ha hd hm=>?_)⟩;exact Leaves.mono (λe w h=>h.after s) _ _ _ (g2 f' w' a' a'.defers u s.rel ha hd hm)
 cases o with
 |normal=>exact key .ret h1 λf H0 w R e a w' hp hl=>by obtain⟨f',s,y1,y2,rfl⟩:=hp;exact hl f' _ s y1 y2 rfl
 |ret=>exact key .ret h1 λf H0 w R e a w' hp hl=>by obtain⟨f',s,y1,y2,rfl⟩:=hp;exact hl f' _ s y1 y2 rfl
 |cZ v=>exact key (.cZ v) h1 λf H0 w R e a w' hp hl=>by obtain⟨f',s,y1,y2,ch,rfl,hp⟩:=hp;exact hl f' _ s y1 y2 ⟨ch,rfl,hp⟩
 |exit=>exact h1.elim
 |goto=>exact h1.elim
end
def fA(ops:Array Oper)(i:Nat):List Nat:=match ops[i]? with|some o=>(o.after.toList.filter (Region.binds .any)).map (·.on)|none=>[]
inductive nB(ops:Array Oper):Nat→Nat→Prop
 |edge {i j:Nat}:j∈fA ops i→nB ops i j
 |step {i j k:Nat}:j∈fA ops i→nB ops j k→nB ops i k
def uni(a b:List Nat):List Nat:=a++b.filter λx=>!(a.contains x)
theorem Mj{a b:List Nat}{x:Nat}(h:x∈uni a b):x∈a∨x∈b:=by
 unfold uni at h;rw[List.mem_append,List.mem_filter]at h;exact h.imp id And.left
def qI:List (Nat×List Nat)→Nat→List Nat
 |[],_=>[]
 |(j,m)::r,i=>bif Nat.beq i j then m else qI r i
def A5(ms:List (Nat×List Nat)):List Nat→List Nat
 |[]=>[]
 |j::r=>uni (uni [j] (qI ms j)) (A5 ms r)
def masks(ops:Array Oper):List Nat→List (Nat×List Nat)→List (Nat×List Nat)
 |[],ms=>ms
 |i::r,ms=>masks ops r ((i,A5 ms (fA ops i))::ms)
def lz(ops:Array Oper)(ms:List (Nat×List Nat)):Prop:=∀i j,j∈qI ms i→nB ops i j
theorem FC{ops:Array Oper}{ms:List (Nat×List Nat)}(h:lz ops ms):∀{es:List Nat}{x:Nat},x∈A5 ms es→∃j∈es,x=j∨nB ops j x
 |[],x,hx=>by simp[A5]at hx
 |j::r,x,hx=>by
  rcases Mj hx with hx|hx
  ·rcases Mj hx with hx|hx
   ·exact⟨j,by simp,.inl (by simpa using hx)⟩
   ·exact⟨j,by simp,.inr (h _ _ hx)⟩
  ·obtain⟨k,hk,hx⟩:=FC h hx;exact⟨k,by simp[hk],hx⟩
theorem rX{ops:Array Oper}:∀(l:List Nat){ms:List (Nat×List Nat)},lz ops ms→lz ops (masks ops l ms)
 |[],_,h=>h
 |i::r,ms,h=>rX r λk j hj=>by
  simp only[qI]at hj;cases hb:Nat.beq k i with
  |false=>rw[hb]at hj;exact h k j hj
  |true=>
   rw[hb]at hj;have e:=Nat.eq_of_beq_eq_true hb;subst e;obtain⟨m,h1,h2⟩:=FC h hj;rcases h2 with rfl|h2
   ·exact .edge h1
   ·exact .step h1 h2
def jq(ops:Array Oper)(i:Nat):Option Tmp:=(ops[i]?).bind (·.dst)
def fW(ops:Array Oper)(i:Nat):List Tmp:=match ops[i]? with|some o=>o.looksAt ops|none=>[]
def fX(ops:Array Oper)(i:Nat):Bool:=match ops[i]? with
 |some o=>(match o.op,o.guard,o.dst with
  |.assign _,none,some t=>(List.range ops.size).any λk=>!(Nat.beq k i)&&((fW ops k).contains t||jq ops k == some t)
  |_,_,_=>false)
 |none=>false
def gw(ops:Array Oper)(i:Nat):Bool:=(match ops[i]? with|some o=>turns o|none=>false)||fX ops i
theorem mq{ops:Array Oper}{i:Nat}{o:Oper}(ho:ops[i]? = some o)(h:turns o=true):gw ops i=true:=by simp[gw,ho,h]
theorem HQ{ops:Array Oper}{i:Nat}(h:fX ops i=true):gw ops i=true:=by simp[gw,h]
theorem HS{ops:Array Oper}{i:Nat}{o:Oper}(ho:ops[i]? = some o){g:Nat×Bool}(h:o.guard=some g):fX ops i=false:=by
 unfold fX;rw[ho];simp only[h];split<;>first|rfl|(rename_i h2 _;cases h2)
def Lin(ops:Array Oper):List Nat→Prop
 |[]=>True
 |i::r=>(gw ops i=true→∀j∈r,nB ops j i)∧Lin ops r
def HT(ops:Array Oper):List Nat→Prop
 |[]=>True
 |i::r=>(∀j∈r,∀t,jq ops j=some t→(t∉fW ops i∧jq ops i≠some t)∨(fX ops j=true∧nB ops j i))∧(∀j∈r,∀t,jq ops i=some t→t∈fW ops j→nB ops j i)∧(∀t,jq ops i=some t→t∉fW ops i)∧HT ops r
def OH(ops:Array Oper):List Nat→List Nat→Prop
 |_,[]=>True
 |seen,i::r=>(∀j∈fA ops i,j∈seen)∧OH ops (i::seen) r
def OI(ops:Array Oper)(ms:List (Nat×List Nat)):List Nat→Bool
 |[]=>true
 |i::r=>(!(gw ops i)||r.all λj=>(qI ms j).contains i)&&OI ops ms r
def OJ(ops:Array Oper)(ms:List (Nat×List Nat)):List Nat→Bool
 |[]=>true
 |i::r=>(match jq ops i with|none=>true|some t=>!((fW ops i).contains t)&&r.all λj=>!((fW ops j).contains t)||(qI ms j).contains i) &&
  (r.all λj=>match jq ops j with|none=>true|some t=>(!((fW ops i).contains t) && !(jq ops i == some t))||(fX ops j&&(qI ms j).contains i))&&OJ ops ms r
def Gv(ops:Array Oper):List Nat→List Nat→Bool
 |_,[]=>true
 |seen,i::r=>(fA ops i).all (λj=>seen.contains j)&&Gv ops (i::seen) r
def nodupB:List Nat→Bool
 |[]=>true
 |i::r=>!(r.contains i)&&nodupB r
theorem Mk{ops:Array Oper}{ms:List (Nat×List Nat)}(hm:lz ops ms):∀{l:List Nat},OI ops ms l=true→Lin ops l
 |[],_=>trivial
 |i::r,h=>by
  simp only[OI,Bool.and_eq_true,Bool.or_eq_true,Bool.not_eq_true',List.all_eq_true,List.contains_iff_mem]at h;refine⟨λht j hj=>?_,Mk hm h.2⟩;rcases h.1 with h1|h1
  ·rw[ht]at h1;cases h1
  ·exact hm _ _ (h1 j hj)
theorem Ml{ops:Array Oper}{ms:List (Nat×List Nat)}(hm:lz ops ms):∀{l:List Nat},OJ ops ms l=true→HT ops l
 |[],_=>trivial
 |i::r,h=>by
  simp only[OJ,Bool.and_eq_true]at h;obtain⟨⟨h1,h2⟩,h3⟩:=h;refine⟨λj hj t ht=>?_,λj hj t ht hl=>?_,λt ht=>?_,Ml hm h3⟩
  ·rw[List.all_eq_true]at h2;have:=h2 j hj;rw[ht]at this;simp only[Bool.or_eq_true,Bool.and_eq_true]at this;rcases this with h4|⟨h4,h5⟩
   ·exact .inl (by simpa using h4)
   ·exact .inr ⟨h4,hm _ _ (by simpa using h5)⟩
  ·rw[ht]at h1;simp only[Bool.and_eq_true,List.all_eq_true,Bool.or_eq_true,Bool.not_eq_true']at h1;rcases h1.2 j hj with h4|h4
   ·simp[hl]at h4
   ·exact hm _ _ (by simpa using h4)
  ·rw[ht]at h1;simp only[Bool.and_eq_true]at h1;simpa using h1.1
theorem HU{ops:Array Oper}:∀{l seen:List Nat},Gv ops seen l=true→OH ops seen l
 |[],_,_=>trivial
 |i::r,seen,h=>by
  simp only[Gv,Bool.and_eq_true,List.all_eq_true]at h;exact⟨λj hj=>by simpa using h.1 j hj,HU h.2⟩
theorem FD:∀{l:List Nat},nodupB l=true→l.Nodup
 |[],_=>.nil
 |i::r,h=>by
  simp only[nodupB,Bool.and_eq_true]at h;exact List.nodup_cons.2 ⟨by simpa using h.1,FD h.2⟩
section
variable {P:Program}
def Same(ops:Array Oper)(o:Oper)(env cQ:List AV):Prop:=∀t∈o.looksAt ops,cQ[t]? = env[t]?
theorem Same.refl{ops:Array Oper}{o:Oper}(env:List AV):Same ops o env env:=λ_ _=>rfl
theorem Same.trans{ops:Array Oper}{o:Oper}{a b c:List AV}(h:Same ops o a b)(g:Same ops o b c):Same ops o a c:=λt ht=>(g t ht).trans (h t ht)
theorem Same.fa{ops:Array Oper}{o:Oper}{env cQ:List AV}(h:Same ops o env cQ){x:Operand}(hx:x∈o.op.operands)(G:Nat):Go.X.fa G cQ x=Go.X.fa G env x:=by
 cases x with
 |tmp t=>
  have:=h t (by unfold Oper.looksAt;rw[List.mem_append];left;rw[List.mem_filterMap];exact⟨.tmp t,by simpa using hx,rfl⟩);simp only[Go.X.fa,List.getD_eq_getElem?_getD,this]
 |const v=>rfl
 |global g=>rfl
 |func g=>rfl
theorem Same.stand{ops:Array Oper}{o:Oper}{env cQ:List AV}(h:Same ops o env cQ){f:aN}{a:Act}(ha:AR P f cQ a):Stand f o (Go.X.fa P.globals.size env) a:=λx hx=>by
 rw[←h.fa hx];exact ux ha x
theorem Same.mG{ops:Array Oper}{o:Oper}{env cQ:List AV}(h:Same ops o env cQ){j:Nat}{want:Bool}(hg:o.guard=some (j,want)):Go.X.mG ops cQ j=Go.X.mG ops env j:=by
 unfold Go.X.mG;cases hd:(ops[j]?).bind (·.dst)with
 |none=>rfl
 |some t=>
  have:=h t (by unfold Oper.looksAt;rw[List.mem_append];right;simp[hg,hd]);simp only[List.getD_eq_getElem?_getD,this]
def fm(P:Program)(ops:Array Oper)(o:Oper)(env:List AV)(b:Bool):Prop:=∀f a cQ,AR P f cQ a→Same ops o env cQ→Region.wanted o (yielded ops a.tmps)=b
def iA(P:Program)(ops:Array Oper)(o:Oper)(env:List AV)(v:AV)(H:AH):Prop:=∀f w a cQ,HRQ f H.sem w→AR P f cQ a→Same ops o env cQ→∃u,Did P o a w u w∧VR f v u
def vO(P:Program)(ops:Array Oper)(o:Oper)(env:List AV)(ob:dE)(vf:Nat→AV):Prop:=∀f w a cQ,AR P f cQ a→Same ops o env cQ→∃u obj,Did P o a w u (w.alloc obj)∧lG f w ob vf u obj
def xe(P:Program)(ops:Array Oper)(o:Oper)(env:List AV)(H:AH)(v:AV)(H':AH):Prop:=∀f w a cQ,HR f H w→AR P f cQ a→Same ops o env cQ→∀(next:Act→World→Prop) Q,(∀f' w' u,Step f H w f' H' w'→VR f' v u→next (a.put o.dst u) w')→o.wp P a w next Q
def Gw(P:Program)(ops:Array Oper)(o:Oper)(env:List AV)(H:AH)(v:AV)(H':AH):Prop:=∀f w a cQ,HR f H w→AR P f cQ a→Same ops o env cQ→∀(next:Act→World→Prop) (Q:Exit→Act→World→Prop),(∀f' w' ch,Step f H w f' H' w'→vL f' v ch→Q (.panic ch) a w')→o.wp P a w next Q
abbrev kB:=Nat×Oper×List AV×AV
inductive Tr(P:Program)(ops:Array Oper):List Nat→List kB→List AV→AH→Option AV→List AV→AH→Prop
 |nil (chk:List kB) (env:List AV) (H:AH):Tr P ops [] chk env H none env H
 |skip {i:Nat}{o:Oper}{rest:List Nat}{chk:List kB}{env:List AV}{H:AH}{r:Option AV}{env':List AV}{H':AH}(ho:ops[i]? = some o) (hla:fX ops i=false) (hw:fm P ops o env false)
   (hr:Tr P ops rest chk (cA env o.dst dW) H r env' H'):Tr P ops (i::rest) chk env H r env' H'
 |look {i:Nat}{o:Oper}{rest:List Nat}{chk:List kB}{env:List AV}{H:AH}{r:Option AV}{env':List AV}{H':AH}(v:AV) (ho:ops[i]? = some o) (hla:fX ops i=false) (hw:fm P ops o env true) (hl:iA P ops o env v H)
   (hr:Tr P ops rest ((i,o,env,v)::chk) (cA env o.dst v) H r env' H'):Tr P ops (i::rest) chk env H r env' H'
 |still {i:Nat}{o:Oper}{rest:List Nat}{chk:List kB}{env:List AV}{H:AH}{r:Option AV}{env':List AV}{H':AH}(v:AV) (ho:ops[i]? = some o) (hla:fX ops i=false) (hw:fm P ops o env true) (hl:∀H,iA P ops o env v H)
   (hr:Tr P ops rest chk (cA env o.dst v) H r env' H'):Tr P ops (i::rest) chk env H r env' H'
 |lay {i:Nat}{o:Oper}{rest:List Nat}{chk:List kB}{env:List AV}{H:AH}{r:Option AV}{env':List AV}{H':AH}(ob:dE) (vf:Nat→AV) (H1:AH) (ho:ops[i]? = some o) (hla:fX ops i=false) (hw:fm P ops o env true) (hn:H1.n=H.n+1) (hnew:H1.at H.n=ob)
   (hold:∀b,b≠H.n→H1.at b=H.at b) (yb:H.at H.n=.dead) (hown:ob.sem.own=true) (hl:vO P ops o env ob vf)
   (hr:Tr P ops rest chk (cA env o.dst (vf H.n)) H1 r env' H'):Tr P ops (i::rest) chk env H r env' H'
 |turn {i:Nat}{o:Oper}{rest:List Nat}{chk:List kB}{env:List AV}{H:AH}{r:Option AV}{env':List AV}{H':AH}(v:AV) (H1:AH) (ho:ops[i]? = some o) (ht:gw ops i=true) (hw:fm P ops o env true) (hl:xe P ops o env H v H1)
   (hc:H1=H∨∀x∈chk,nB ops i x.1∨iA P ops x.2.1 x.2.2.1 x.2.2.2 H1)
   (hr:Tr P ops rest chk (cA env o.dst v) H1 r env' H'):Tr P ops (i::rest) chk env H r env' H'
 |cZ {i:Nat}{o:Oper}{rest:List Nat}{chk:List kB}{env:List AV}{H:AH}(v:AV) (H1:AH) (ho:ops[i]? = some o) (ht:gw ops i=true) (hw:fm P ops o env true) (hl:Gw P ops o env H v H1) :
   Tr P ops (i::rest) chk env H (some v) env H1
def tu:Lay:=λ_ _=>False
def Tz(P:Program)(o:Oper):Bool:=
 match o.op with
 |.load ..=>false
 |.lookup ..=>false
 |.convert s ..=>(match P.underlying s with|some (.int _)=>true|_=>false)
 |.binOp _ t ..=>(match P.underlying t with|some (.pointer _)=>false|_=>true)
 |.call c=>(match c.callee,c.argTypes.toList with
  |.builtin .max,_=>true
  |.builtin .min,_=>true
  |.builtin .len,t::_=>(match P.underlying t with|some (.map ..)=>false|_=>true)
  |_,_=>false)
 |_=>true
def rY:AH:=⟨.e,0⟩
section
variable (C:eD)(P:Program)(G:Nat)(ops:Array Oper)(ms:List (Nat×List Nat))
def mN(i:Nat)(H:AH):List kB→Prop→Prop
 |[],x=>x
 |(j,o,env,v)::r,x=>bI ((qI ms i).contains j) (mN i H r x) (qA P o (fa G env) tu H λv' _=>bT (aT v' v) (mN i H r x))
def cS(H:AH)(x:Prop):Prop:=match H.at H.n with|.dead=>x|_=>False
def jS:List Nat→List kB→List AV→AH→(List kB→List AV→AH→Prop)→(AV→List AV→AH→Prop)→Prop
 |[],chk,env,H,K,_=>K chk env H
 |i::rest,chk,env,H,K,KP=>match ops[i]? with
  |none=>False
  |some o=>
   let go:List AV→Prop:=λenv=>bI (fX ops i) (qA P o (fa G env) tu rY λv _=>jS rest chk (cA env o.dst v) H K KP) <| bI (turns o) (bT (!(yh o)) (rV C P G o (fa G env) (aP H) H (λv H1=>mN P G ms i H1 chk (jS rest chk (cA env o.dst v) H1 K KP)) (λv H1=>KP v env H1)))
    (bI (tm o) (cS H (qA P o (fa G env) (aP H) H λv H1=>bT (Nat.beq H1.n (Nat.succ H.n)) (jS rest chk (cA env o.dst v) H1 K KP)))
    (bI (Tz P o) (qA P o (fa G env) tu rY λv _=>jS rest chk (cA env o.dst v) H K KP)
     (qA P o (fa G env) tu H λv _=>jS rest ((i,o,env,v)::chk) (cA env o.dst v) H K KP)))
   match o.guard with
   |none=>go env
   |some (j,want)=>AW ops env j want go (λenv=>jS rest chk (cA env o.dst dW) H K KP)
end
theorem fm.of_none{ops:Array Oper}{o:Oper}{env:List AV}(h:o.guard=none):fm P ops o env true:=λf a cQ _ _=>by simp[Region.wanted,h]
theorem fm.ZS{ops:Array Oper}{o:Oper}{env:List AV}{j:Nat}{want:Bool}(hg:o.guard=some (j,want)){x y:Prop}(hk:AU (mG ops env j) want x y) :
  (x∧fm P ops o env true)∨(y∧fm P ops o env false):=by
 generalize hv:mG ops env j=v at hk;cases v<;>try exact hk.elim
 case bool b=>
  have key:fm P ops o env (b == want):=λf a cQ h hs=>by
   obtain⟨u,h1,h2⟩:=qH h ((hs.mG hg).trans hv) (by simp);cases h1;simp only[Region.wanted,hg,h2];cases b<;>cases want<;>rfl
  rcases dk (zo hk)with⟨h1,h2⟩|⟨h1,h2⟩
  ·exact .inl ⟨h2,h1 ▸ key⟩
  ·exact .inr ⟨h2,h1 ▸ key⟩
 case bD l=>
  refine .inr ⟨hk,λf a cQ h hs=>?_⟩;obtain⟨u,h1,h2⟩:=qH h ((hs.mG hg).trans hv) (by simp);cases h1;simp only[Region.wanted,hg,h2];rfl
theorem yi{ops:Array Oper}{o:Oper}{env:List AV}{H:AH}{k:AV→AH→Prop}(ht:turns o=false)(h:qA P o (fa P.globals.size env) tu H k):∃v,k v H∧iA P ops o env v H:=by
 cases HF h with
 |same v h g=>exact⟨v,h,λf w a cQ hr ha hs=>g f w a hr (hs.stand ha)⟩
 |new ob vf _ h=>exact h.elim
 |turn v H' h ht'=>rw[ht]at ht';cases ht'
theorem HRQ.empty(f:aN)(w:World):HRQ f rY.sem w:=⟨λb _ ha=>by simp[rY,AH.sem,AH.at,Bt.get?,dE.sem,gz.alive]at ha,λb c _ _ ho _ _=>by simp[rY,AH.sem,AH.at,Bt.get?,dE.sem,gz.own]at ho⟩
theorem nC{ops:Array Oper}{ms:List (Nat×List Nat)}(hm:lz ops ms){i:Nat}{H:AH}{x:Prop}:∀{chk:List kB},(∀c∈chk,turns c.2.1=false)→mN P P.globals.size ms i H chk x→x∧∀c∈chk,nB ops i c.1∨iA P ops c.2.1 c.2.2.1 c.2.2.2 H
 |[],_,h=>⟨h,by simp⟩
 |(j,o,env,v)::r,ht,h=>by
  have ih:=λ(h:mN P P.globals.size ms i H r x)=>nC hm (chk:=r) (x:=x) (λc hc=>ht c (by simp[hc])) h;rcases dk h with⟨h1,h2⟩|⟨h1,h2⟩
  ·obtain⟨g1,g2⟩:=ih h2;refine⟨g1,λc hc=>?_⟩;rcases List.mem_cons.1 hc with rfl|hc
   ·exact .inl (hm _ _ (by simpa using h1))
   ·exact g2 c hc
  ·obtain⟨v',h3,h4⟩:=yi (ops:=ops) (ht (j,o,env,v) (by simp)) h2;obtain⟨h5,h6⟩:=aF h3;obtain⟨g1,g2⟩:=ih h6;refine⟨g1,λc hc=>?_⟩;rcases List.mem_cons.1 hc with rfl|hc
   ·rw[s9 h5]at h4;exact .inr h4
   ·exact g2 c hc
structure Like(ops ops':Array Oper):Prop where
 dst:∀j:Nat,(ops'[j]?).bind Oper.dst=(ops[j]?).bind Oper.dst
 dep:∀{i j},nB ops i j→nB ops' i j
 late:∀i,fX ops' i=fX ops i
theorem Like.refl(ops:Array Oper):Like ops ops:=⟨λ_=>rfl,λh=>h,λ_=>rfl⟩
section
variable {ops ops':Array Oper}
theorem Like.yielded(L:Like ops ops')(t:Array Value):Go.yielded ops' t=Go.yielded ops t:=by
 funext j;unfold Go.yielded;rw[L.dst]
theorem Like.looks(L:Like ops ops')(o:Oper):o.looksAt ops'=o.looksAt ops:=by
 unfold Oper.looksAt;cases o.guard with
 |none=>rfl
 |some g=>simp only[L.dst]
theorem Like.same(L:Like ops ops'){o:Oper}{env cQ:List AV}(h:Same ops' o env cQ):Same ops o env cQ:=λt ht=>h t (by rw[L.looks];exact ht)
theorem Like.want(L:Like ops ops'){o:Oper}{env:List AV}{b:Bool}(h:fm P ops o env b):fm P ops' o env b:=λf a cQ ha hs=>by rw[L.yielded];exact h f a cQ ha (L.same hs)
theorem Like.look(L:Like ops ops'){o:Oper}{env:List AV}{v:AV}{H:AH}(h:iA P ops o env v H):iA P ops' o env v H:=λf w a cQ hr ha hs=>h f w a cQ hr ha (L.same hs)
theorem Like.lay(L:Like ops ops'){o:Oper}{env:List AV}{ob:dE}{vf:Nat→AV}(h:vO P ops o env ob vf):vO P ops' o env ob vf:=λf w a cQ ha hs=>h f w a cQ ha (L.same hs)
theorem Like.turn(L:Like ops ops'){o:Oper}{env:List AV}{H:AH}{v:AV}{H1:AH}(h:xe P ops o env H v H1):xe P ops' o env H v H1:=λf w a cQ hr ha hs=>h f w a cQ hr ha (L.same hs)
theorem Like.cZ(L:Like ops ops'){o:Oper}{env:List AV}{H:AH}{v:AV}{H1:AH}(h:Gw P ops o env H v H1):Gw P ops' o env H v H1:=λf w a cQ hr ha hs=>h f w a cQ hr ha (L.same hs)
theorem Like.gw(L:Like ops ops'){i:Nat}(h:ops'[i]? = ops[i]?):Go.X.gw ops' i=Go.X.gw ops i:=by unfold Go.X.gw;rw[h,L.late]
end
def Came(P:Program)(ops:Array Oper)(l:List Nat)(chk:List kB)(env:List AV)(H:AH)(K:List kB→List AV→AH→Prop)(KP:AV→List AV→AH→Prop):Prop:=
 (∃OK env' H',K OK env' H'∧(∀c∈OK,turns c.2.1=false)∧∀ops',Like ops ops'→(∀i∈l,ops'[i]? = ops[i]?)→∀tail r e h,Tr P ops' tail OK env' H' r e h→Tr P ops' (l++tail) chk env H r e h)∨
 (∃v env' H',KP v env' H'∧∀ops',Like ops ops'→(∀i∈l,ops'[i]? = ops[i]?)→∀tail,Tr P ops' (l++tail) chk env H (some v) env' H')
theorem Came.cons{ops:Array Oper}{i:Nat}{rest:List Nat}{chk mH:List kB}{env dq:List AV}{H H1:AH}{K:List kB→List AV→AH→Prop}{KP:AV→List AV→AH→Prop}(h:Came P ops rest mH dq H1 K KP)
  (g:∀ops',Like ops ops'→ops'[i]? = ops[i]?→∀l r e h,Tr P ops' l mH dq H1 r e h→Tr P ops' (i::l) chk env H r e h):Came P ops (i::rest) chk env H K KP:=by
 rcases h with⟨c,e,h,h1,h2,h3⟩|⟨v,e,h,h1,h2⟩
 ·exact .inl ⟨c,e,h,h1,h2,λops' L hl tail r e h ht=>g ops' L (hl i (by simp)) _ r e h (h3 ops' L (λj hj=>hl j (by simp[hj])) tail r e h ht)⟩
 ·exact .inr ⟨v,e,h,h1,λops' L hl tail=>g ops' L (hl i (by simp)) _ _ _ _ (h2 ops' L (λj hj=>hl j (by simp[hj])) tail)⟩
theorem kk{C:eD}(hC:gQ P C){ops:Array Oper}{ms:List (Nat×List Nat)}(hm:lz ops ms){K:List kB→List AV→AH→Prop}{KP:AV→List AV→AH→Prop}:∀(l:List Nat) (chk:List kB) (env:List AV) (H:AH),(∀c∈chk,turns c.2.1=false)→
  jS C P P.globals.size ops ms l chk env H K KP→Came P ops l chk env H K KP
 |[],chk,env,H,ht,h=>.inl ⟨chk,env,H,h,ht,λ_ _ _ _ _ _ _ h=>h⟩
 |i::rest,chk,env,H,ht,h=>by
  unfold jS at h;split at h
  ·exact h.elim
  ·rename_i o ho;have key:fm P ops o env true→(bI (fX ops i) (qA P o (fa P.globals.size env) tu rY λv _=>jS C P P.globals.size ops ms rest chk (cA env o.dst v) H K KP) <| bI (turns o) (bT (!(yh o)) (rV C P P.globals.size o (fa P.globals.size env) (aP H) H (λv H1=>mN P P.globals.size ms i H1 chk (jS C P P.globals.size ops ms rest chk (cA env o.dst v) H1 K KP)) (λv H1=>KP v env H1)))
    (bI (tm o) (cS H (qA P o (fa P.globals.size env) (aP H) H λv H1=>bT (Nat.beq H1.n (Nat.succ H.n)) (jS C P P.globals.size ops ms rest chk (cA env o.dst v) H1 K KP)))
    (bI (Tz P o) (qA P o (fa P.globals.size env) tu rY λv _=>jS C P P.globals.size ops ms rest chk (cA env o.dst v) H K KP)
     (qA P o (fa P.globals.size env) tu H λv _=>jS C P P.globals.size ops ms rest ((i,o,env,v)::chk) (cA env o.dst v) H K KP))))→
     Came P ops (i::rest) chk env H K KP:=λhw h=>by
    rcases dk h with⟨hla,h⟩|⟨hla,h⟩
    ·have hturn:turns o=false:=by
      unfold fX at hla;rw[ho]at hla;simp only at hla;split at hla
      ·rename_i x e1 e2 e3 hop _ _;simp[turns,hop]
      ·cases hla
     obtain⟨v,h1,h2⟩:=yi (ops:=ops) hturn h;refine(kk hC hm rest chk _ _ ht h1).cons λops' L e l r en hh x=>.turn v H (e.trans ho) (by rw[L.gw e];exact HQ hla) (L.want hw) (L.turn λf w a cQ hr ha hs next Q hn=>?_) (.inl rfl) x;obtain⟨u,g1,g2⟩:=h2 f w a cQ (HRQ.empty f w) ha hs;exact jM g1 (hn f w u (Step.refl hr) g2)
    rcases dk h with⟨htn,h⟩|⟨htn,h⟩
    ·obtain⟨_,h⟩:=aF h;cases tq hC h with
     |val v H1 h g=>
      obtain⟨h,hc⟩:=nC hm ht h;exact(kk hC hm rest chk _ _ ht h).cons λops' L e l r en hh x=>.turn v H1 (e.trans ho) (by rw[L.gw e];exact mq ho htn) (L.want hw) (L.turn λf w a cQ hr ha hs next Q hn=>g f w a hr ha.glob (hs.stand ha) next Q hn) (.inr λc hcm=>(hc c hcm).imp L.dep L.look) x
     |cZ v H1 h g=>exact .inr ⟨v,env,H1,h,λops' L hl tail=>.cZ v H1 ((hl i (by simp)).trans ho) (by rw[L.gw (hl i (by simp))];exact mq ho htn) (L.want hw) (L.cZ λf w a cQ hr ha hs next Q hn=>g f w a hr ha.glob (hs.stand ha) next Q hn)⟩
    ·rcases dk h with⟨hl,h⟩|⟨hl,h⟩
     ·unfold cS at h;split at h
      ·rename_i hd;cases HF h with
       |same v h g=>
        have:=Nat.eq_of_beq_eq_true (aF h).1;exact absurd this (by simp)
       |new ob vf _ h hown g=>
        obtain⟨H1,g1,g2,g3,g4⟩:=kZ h;exact(kk hC hm rest chk _ _ ht (aF g1).2).cons λops' L e l r en hh x=>.lay ob vf H1 (e.trans ho) (by rw[L.late];exact hla) (L.want hw) g2 g3 g4 hd hown (L.lay λf w a cQ ha hs=>g f w a (hs.stand ha)) x
       |turn v H' h ht'=>rw[htn]at ht';cases ht'
      ·exact h.elim
     ·rcases dk h with⟨hs,h⟩|⟨hs,h⟩
      ·obtain⟨v,h1,h2⟩:=yi (ops:=ops) htn h;exact(kk hC hm rest chk _ _ ht h1).cons λops' L e l r en hh x=>.still v (e.trans ho) (by rw[L.late];exact hla) (L.want hw) (λH=>L.look λf w a cQ _ ha hs=>h2 f w a cQ (HRQ.empty f w) ha hs) x
      ·obtain⟨v,h1,h2⟩:=yi (ops:=ops) htn h;exact(kk hC hm rest _ _ _ (λc hc=>by rcases List.mem_cons.1 hc with rfl|hc;exact htn;exact ht c hc) h1).cons λops' L e l r en hh x=>.look v (e.trans ho) (by rw[L.late];exact hla) (L.want hw) (L.look h2) x
   simp only at h;split at h
   ·rename_i hg;exact key (.of_none hg) h
   ·rename_i j want hg;rcases fm.ZS hg (AY h)with⟨h,hw⟩|⟨h,hw⟩
    ·exact key hw h
    ·exact(kk hC hm rest chk _ _ ht h).cons λops' L e l r en hh x=>.skip (e.trans ho) (by rw[L.late];exact HS ho hg) (L.want hw) x
end
section
variable {P:Program}
theorem fB(env:List AV)(d:Option Tmp)(v:AV):(cA env d v).length=env.length:=by cases d<;>simp[cA]
theorem lH{env:List AV}{d:Option Tmp}{v:AV}{t:Tmp}(h:d≠some t):(cA env d v)[t]? = env[t]?:=by
 cases d with
 |none=>rfl
 |some x=>exact List.getElem?_set_ne (λe=>h (by rw[e]))
theorem nD{env:List AV}{v:AV}{t:Tmp}(h:t<env.length):(cA env (some t) v)[t]? = some v:=by simp[cA,h]
theorem Same.put{ops:Array Oper}{o:Oper}{env:List AV}{d:Option Tmp}{v:AV}(h:∀t,d=some t→t∉o.looksAt ops):Same ops o env (cA env d v):=λt ht=>lH (λe=>h t e ht)
def jL(o:Oper)(env:List AV)(v:AV):Prop:=∀t,o.dst=some t→t<env.length→env[t]? = some v
theorem jL.self(o:Oper)(env:List AV)(v:AV):jL o (cA env o.dst v) v:=λt ht hl=>by rw[ht];exact nD (by rw[fB]at hl;exact hl)
theorem jL.put{o:Oper}{env:List AV}{v u:AV}{d:Option Tmp}(h:jL o env v)(hd:∀t,o.dst=some t→d≠some t):jL o (cA env d u) v:=λt ht hl=>by
 rw[lH (hd t ht)];exact h t ht (by rw[fB]at hl;exact hl)
inductive PF(P:Program)(ops:Array Oper)(f:aN)(n0:Nat)(ib:Nat→Option Nat)(chk:List kB)(env:List AV)(H:AH)(i:Nat)(o:Oper):Prop
 |skip (hw:fm P ops o env false) (hv:jL o env dW)
 |look (dq:List AV) (v:AV) (hc:(i,o,dq,v)∈chk) (hw:fm P ops o env true) (hl:iA P ops o env v H) (hs:Same ops o dq env) (hv:jL o env v)
 |still (v:AV) (hw:fm P ops o env true) (hl:∀H,iA P ops o env v H) (hv:jL o env v)
 |lay (id:Nat) (ob:dE) (vf:Nat→AV) (hid:ib i=some id) (hw:fm P ops o env true) (hl:vO P ops o env ob vf) (hat:(H.at id).sem=ob.sem) (hown:ob.sem.own=true) (h0:n0≤id) (hn:id<H.n) (hd:¬f.dom id) (hv:jL o env (vf id))
theorem fm.same{ops:Array Oper}{o:Oper}{env dq:List AV}{b:Bool}(h:fm P ops o env b)(hs:Same ops o env dq):fm P ops o dq b:=λf a cQ ha hs2=>h f a cQ ha (hs.trans hs2)
theorem iA.same{ops:Array Oper}{o:Oper}{env dq:List AV}{v:AV}{H:AH}(h:iA P ops o env v H)(hs:Same ops o env dq):iA P ops o dq v H:=λf w a cQ hr ha hs2=>h f w a cQ hr ha (hs.trans hs2)
theorem vO.same{ops:Array Oper}{o:Oper}{env dq:List AV}{ob:dE}{vf:Nat→AV}(h:vO P ops o env ob vf)(hs:Same ops o env dq):vO P ops o dq ob vf:=λf w a cQ ha hs2=>h f w a cQ ha (hs.trans hs2)
theorem iA.more{ops:Array Oper}{o:Oper}{env:List AV}{v:AV}{H H1:AH}(h:iA P ops o env v H)(hd:H.at H.n=.dead)(hold:∀b,b≠H.n→H1.at b=H.at b):iA P ops o env v H1:=λf w a cQ hr ha hs=>
 h f w a cQ (hr.forget H.sem λb=>by
  by_cases e:b=H.n
  ·subst e;left;rw[AH.bQ,hd];rfl
  ·right;rw[AH.bQ,AH.bQ,hold b e]) ha hs
theorem gh.ahead{f0 f:aN}{S0 S S1:SH}{w0 w:World}(s:gh f0 S0 w0 f S w)(hn:S.n≤S1.n)(hold:∀b,b<S.n→S1.ob b=S.ob b)(hro:∀b,(S1.ob b).alive=true→(S1.ob b).own=false→S.ob b=S1.ob b):gh f0 S0 w0 f S1 w where
 rel:=fG.mk' (λb hb=>Nat.lt_of_lt_of_le (s.rel.dom b hb) hn) (λb hb ha=>by rw[hold b (s.rel.dom b hb)]at ha ⊢;exact s.rel.obj b hb ha)
  (λb c hb hc ho ha e=>by rw[hold b (s.rel.dom b hb)]at ho;rw[hold c (s.rel.dom c hc)]at ha;exact s.rel.inj b c hb hc ho ha e)
 le:=s.le
 n:=Nat.le_trans s.n hn
 size:=s.size
 keep:=s.keep
 src:=λb hb ho=>by rw[hold b (s.rel.dom b hb)]at ho;exact s.src b hb ho
 ro:=λb ha ho=>by
  have e:=hro b ha ho;rw[←e]at ha ho ⊢;exact s.ro b ha ho
 dead:=λb hb h=>by rw[hold b (Nat.lt_of_lt_of_le hb s.n)];exact s.dead b hb h
 new:=s.new
 rest:=λb hb h=>by rw[hold b (Nat.lt_of_lt_of_le hb s.n)];exact s.rest b hb h
 os:=s.os
 tape:=s.tape
 output:=s.output
theorem gh.catch{f0 f:aN}{S0 S:SH}{w0 w:World}(s:gh f0 S0 w0 f S w){i:Nat}(h0:S0.n≤i)(hi:¬f.dom i)(hn:i<S.n){obj:Obj}{off lim:Nat}(hob:OR (f.ext i w.heap.size off lim) i (S.ob i) (some obj)) :
  gh f0 S0 w0 (f.ext i w.heap.size off lim) S (w.alloc obj):=by
 obtain⟨h1,h2⟩:=s.rel.push S i _ obj off lim hi hn (Nat.le_refl _) rfl (λ_ _=>rfl) hob;have hle:=f.nQ hi w.heap.size off lim;refine⟨h1,s.le.trans hle,s.n,Nat.le_trans s.size (by simp),λk hk hn'=>?_,λb hb ho=>?_,s.ro,s.dead,λb hb hd=>?_,s.rest,s.os,s.tape,s.output⟩
 ·rw[h2 k (Nat.lt_of_lt_of_le hk s.size)];exact s.keep k hk hn'
 ·by_cases e:b=i
  ·subst e;right;rw[aN.gP];exact s.size
  ·have hb':=hb.resolve_left e;rw[hle.blk b hb'];exact s.src b hb' ho
 ·rintro(e|hd')
  ·omega
  ·exact s.new b hb hd hd'
def nh(suf:List Nat)(listed:Array Bool)(i:Nat):Prop:=listed.getD i true=false∧i∉suf
structure Inv(P:Program)(ops:Array Oper)(f0:aN)(H0:AH)(w0:World)(ds:List dF)(r:Option AV)(env':List AV)(H':AH)(suf:List Nat)(chk:List kB)(env:List AV)(H:AH)(ib:Nat→Option Nat)(listed:Array Bool)(f:aN)(dM:List AV)(a:Act)(w:World):Prop where
 tr:Tr P ops suf chk env H r env' H'
 step:Step f0 H0 w0 f H w
 ar:AR P f dM a
 dr:DR f ds a.defers
 agree:∀t,(∃i,nh suf listed i∧jq ops i=some t)∨dM[t]? = env[t]?
 len:dM.length=env.length
 pend:∀i,nh suf listed i→∃o,ops[i]? = some o∧PF P ops f H0.n ib chk env H i o
 TA:∀i,nh suf listed i→∀j∈suf,∀t,jq ops j=some t→(t∉fW ops i∧jq ops i≠some t)∨(fX ops j=true∧nB ops j i)
 late:∀i,nh suf listed i→fX ops i=false
 zQ:∀i∈suf,listed.getD i true=false
 Mm:suf.Nodup
 lin:Lin ops suf
 ssa:HT ops suf
 inj:∀i j x,ib i=some x→ib j=some x→i=j
 FE:∀i x,ib i=some x→x<H.n
theorem jT{ops:Array Oper}{i:Nat}{o:Oper}(h:ops[i]? = some o):jq ops i=o.dst:=by simp[jq,h]
theorem k8{ops:Array Oper}{i:Nat}{o:Oper}(h:ops[i]? = some o):fW ops i=o.looksAt ops:=by simp[fW,h]
section
variable {ops:Array Oper}{f0:aN}{H0:AH}{w0:World}{ds:List dF}{r:Option AV}{env':List AV}{H':AH}
theorem Inv.yj{i:Nat}{rest:List Nat}{chk:List kB}{env:List AV}{H:AH}{ib:Nat→Option Nat}{listed:Array Bool}{f:aN}{dM:List AV}{a:Act}{w:World}
  (I:Inv P ops f0 H0 w0 ds r env' H' (i::rest) chk env H ib listed f dM a w){o:Oper}(ho:ops[i]? = some o) (hla:fX ops i=false){v:AV}{mH:List kB}{H1:AH}{rZ:Nat→Option Nat}
  (tr:Tr P ops rest mH (cA env o.dst v) H1 r env' H') (hpf:PF P ops f H0.n rZ mH (cA env o.dst v) H1 i o) (hst:Step f0 H0 w0 f H1 w)
  (hold:∀p op,p≠i→PF P ops f H0.n ib chk (cA env o.dst v) H p op→PF P ops f H0.n rZ mH (cA env o.dst v) H1 p op)
  (hinj:∀i j x,rZ i=some x→rZ j=some x→i=j) (air:∀i x,rZ i=some x→x<H1.n) :
  Inv P ops f0 H0 w0 ds r env' H' rest mH (cA env o.dst v) H1 rZ listed f dM a w:=by
 have nW:=List.nodup_cons.1 I.Mm;have hpc:∀p,nh rest listed p→p=i∨(p≠i∧nh (i::rest) listed p):=λp hp=>by
  by_cases e:p=i
  ·exact .inl e
  ·exact .inr ⟨e,hp.1,λhm=>by rcases List.mem_cons.1 hm with h|h;exact e h;exact hp.2 h⟩
 refine⟨tr,hst,I.ar,I.dr,λt=>?_,by rw[fB];exact I.len,λp hp=>?_,λp hp j hj t ht=>?_,λp hp=>?_,λp hp=>I.zQ p (by simp[hp]),nW.2,I.lin.2,I.ssa.2.2.2,hinj,air⟩
 ·by_cases e:o.dst=some t
  ·exact .inl ⟨i,⟨I.zQ i (by simp),nW.1⟩,by rw[jT ho];exact e⟩
  ·rcases I.agree t with⟨p,hp,hd⟩|h
   ·exact .inl ⟨p,⟨hp.1,λh=>hp.2 (by simp[h])⟩,hd⟩
   ·exact .inr (by rw[lH e];exact h)
 ·rcases hpc p hp with rfl|⟨hne,hp⟩
  ·exact⟨o,ho,hpf⟩
  ·obtain⟨op,h1,h2⟩:=I.pend p hp;refine⟨op,h1,hold p op hne ?_⟩;have hn:=λt ht=>(I.TA p hp i (by simp) t ht).resolve_right (λe=>by rw[hla]at e;cases e.1);rw[jT ho,jT h1,k8 h1]at hn;have hs:Same ops op env (cA env o.dst v):=Same.put λt ht=>(hn t ht).1;have hv:∀{u:AV},jL op env u→jL op (cA env o.dst v) u:=λh=>h.put λt ht e=>(hn t e).2 ht;cases h2 with
   |skip hw h=>exact .skip (hw.same hs) (hv h)
   |look dq u hc hw hl hs1 h=>exact .look dq u hc (hw.same hs) (hl.same hs) (hs1.trans hs) (hv h)
   |still u hw hl h=>exact .still u (hw.same hs) (λH=>(hl H).same hs) (hv h)
   |lay id ob vf hid hw hl hat hown h0 hn hd h=>exact .lay id ob vf hid (hw.same hs) (hl.same hs) hat hown h0 hn hd (hv h)
 ·rcases hpc p hp with rfl|⟨_,hp⟩
  ·exact I.ssa.1 j hj t ht
  ·exact I.TA p hp j (by simp[hj]) t ht
 ·rcases hpc p hp with rfl|⟨_,hp⟩
  ·exact hla
  ·exact I.late p hp
def ae9(P:Program)(ops:Array Oper)(suf:List Nat)(chk:List kB)(env:List AV)(H:AH)(r:Option AV)(env':List AV)(H':AH):Prop:=
 (suf=[]∧r=none∧env=env'∧H=H')∨
 (∃i o rest v H1,suf=i::rest∧ops[i]? = some o∧gw ops i=true∧fm P ops o env true∧xe P ops o env H v H1∧(H1=H∨∀x∈chk,nB ops i x.1∨iA P ops x.2.1 x.2.2.1 x.2.2.2 H1)∧Tr P ops rest chk (cA env o.dst v) H1 r env' H')∨
 (∃i o rest v H1,suf=i::rest∧ops[i]? = some o∧gw ops i=true∧fm P ops o env true∧Gw P ops o env H v H1∧r=some v∧env=env'∧H1=H')
theorem Inv.TB:∀{suf:List Nat}{chk:List kB}{env:List AV}{H:AH}{ib:Nat→Option Nat}{listed:Array Bool}{f:aN}{dM:List AV}{a:Act}{w:World},
  Inv P ops f0 H0 w0 ds r env' H' suf chk env H ib listed f dM a w→∃zR mH dq H1 rZ,Inv P ops f0 H0 w0 ds r env' H' zR mH dq H1 rZ listed f dM a w∧ae9 P ops zR mH dq H1 r env' H':=by
 intro suf
 induction suf with
 |nil=>
  intro chk env H ib listed f dM a w I;have h:=I.tr;refine⟨[],chk,env,H,ib,I,.inl ?_⟩;cases h;exact⟨rfl,rfl,rfl,rfl⟩
 |cons i rest ih=>
  intro chk env H ib listed f dM a w I;have h:=I.tr;cases h with
  |skip ho hla hw hr=>
   rename_i o;have hs:Same ops o env (cA env o.dst dW):=Same.put λt ht=>by
    have:=I.ssa.2.2.1 t (by rw[jT ho];exact ht);rw[k8 ho]at this;exact this
   exact ih (I.yj ho hla hr (.skip (hw.same hs) (jL.self o env dW)) I.step (λ_ _ _ h=>h) I.inj I.FE)
  |look v ho hla hw hl hr=>
   rename_i o;have hs:Same ops o env (cA env o.dst v):=Same.put λt ht=>by
    have:=I.ssa.2.2.1 t (by rw[jT ho];exact ht);rw[k8 ho]at this;exact this
   refine ih (I.yj ho hla hr (.look env v (by simp) (hw.same hs) (hl.same hs) hs (jL.self o env v)) I.step (λp op _ h=>?_) I.inj I.FE);cases h with
   |skip hw h=>exact .skip hw h
   |look dq u hc hw hl hs1 h=>exact .look dq u (by simp[hc]) hw hl hs1 h
   |still u hw hl h=>exact .still u hw hl h
   |lay id ob vf hid hw hl hat hown h0 hn hd h=>exact .lay id ob vf hid hw hl hat hown h0 hn hd h
  |still v ho hla hw hl hr=>
   rename_i o;have hs:Same ops o env (cA env o.dst v):=Same.put λt ht=>by
    have:=I.ssa.2.2.1 t (by rw[jT ho];exact ht);rw[k8 ho]at this;exact this
   exact ih (I.yj ho hla hr (.still v (hw.same hs) (λH=>(hl H).same hs) (jL.self o env v)) I.step (λ_ _ _ h=>h) I.inj I.FE)
  |lay ob vf H1 ho hla hw hn hnew hold yb hown hl hr=>
   rename_i o;have hs:Same ops o env (cA env o.dst (vf H.n)):=Same.put λt ht=>by
    have:=I.ssa.2.2.1 t (by rw[jT ho];exact ht);rw[k8 ho]at this;exact this
   have hst:Step f0 H0 w0 f H1 w:=I.step.ahead (by simp[hn]) (λb hb=>by rw[AH.bQ,AH.bQ,hold b (by simp at hb;omega)]) (λb ha hb=>by
    by_cases e:b=H.n
    ·subst e;rw[AH.bQ,hnew,hown]at hb;cases hb
    ·rw[AH.bQ,AH.bQ,hold b e])
   have hd:¬f.dom H.n:=fG.fresh I.step.rel;refine ih (I.yj (rZ:=λk=>if k=i then some H.n else ib k) ho hla hr (.lay H.n ob vf (by simp) (hw.same hs) (hl.same hs) (by rw[hnew]) hown (by have:=I.step.n;simpa using this) (by omega) hd (jL.self o env _)) hst (λp op hne h=>?_) (λx y z hx hy=>?_) (λx z hx=>?_))
   ·cases h with
    |skip hw h=>exact .skip hw h
    |look dq u hc hw hl hs1 h=>exact .look dq u hc hw (hl.more yb hold) hs1 h
    |still u hw hl h=>exact .still u hw hl h
    |lay id ob vf hid hw hl hat hown h0 hn' hd h=>exact .lay id ob vf (by simp[hne,hid]) hw hl (by rw[hold id (by omega)];exact hat) hown h0 (by omega) hd h
   ·by_cases e1:x=i<;>by_cases e2:y=i
    ·rw[e1,e2]
    ·simp only[e1,e2,if_true,if_false,Option.some.injEq]at hx hy;have:=I.FE y z hy;omega
    ·simp only[e1,e2,if_true,if_false,Option.some.injEq]at hx hy;have:=I.FE x z hx;omega
    ·simp only[e1,e2,if_false]at hx hy;exact I.inj x y z hx hy
   ·by_cases e1:x=i
    ·simp only[e1,if_true,Option.some.injEq]at hx;omega
    ·simp only[e1,if_false]at hx;have:=I.FE x z hx;omega
  |turn v H1 ho ht hw hl hc hr=>exact⟨_,_,_,_,ib,I,.inr (.inl ⟨i,_,rest,v,H1,rfl,ho,ht,hw,hl,hc,hr⟩)⟩
  |cZ v H1 ho ht hw hl=>exact⟨_,_,_,_,ib,I,.inr (.inr ⟨i,_,rest,v,_,rfl,ho,ht,hw,hl,rfl,rfl,rfl⟩)⟩
end
end
section
variable {P:Program}
theorem sa{l:Array Bool}{i:Nat}(h:l.getD i false=true):l.getD i true=true:=by
 rcases Nat.lt_or_ge i l.size with hl|hl
 ·simpa[Array.getD_eq_getD_getElem?,Array.getElem?_eq_getElem hl]using h
 ·simp[Array.getD_eq_getD_getElem?,Array.getElem?_eq_none hl]at h
theorem getD_in{l:Array Bool}{i:Nat}(hl:i<l.size)(h:l.getD i true≠false):l.getD i false=true:=by
 simpa[Array.getD_eq_getD_getElem?,Array.getElem?_eq_getElem hl]using h
theorem wJ(l:Array Bool)(i:Nat):(l.setIfInBounds i true).getD i true=true:=by
 rcases Nat.lt_or_ge i l.size with hl|hl
 ·simp[Array.getD_eq_getD_getElem?,Array.getElem?_setIfInBounds_self_of_lt hl]
 ·simp[Array.getD_eq_getD_getElem?,Array.getElem?_eq_none (show(l.setIfInBounds i true).size≤i by simpa using hl)]
theorem nh.back{suf:List Nat}{l:Array Bool}{i p:Nat}(h:nh suf (l.setIfInBounds i true) p):p≠i∧l.getD p true=false:=by
 have hne:p≠i:=λe=>by subst e;have:=h.1;rw[wJ]at this;cases this
 exact⟨hne,by have:=h.1;rwa [getD_set_ne true (Ne.symm hne)]at this⟩
def lr(ops:Array Oper)(env:List AV):List AV:=ops.toList.foldl (λe o=>cA e o.dst .cM) env
theorem abj:∀(l:List Oper) (e1 e2:List AV),e1.length=e2.length→(∀t,(∃o∈l,o.dst=some t)∨e1[t]? = e2[t]?)→l.foldl (λe o=>cA e o.dst .cM) e1=l.foldl (λe o=>cA e o.dst .cM) e2
 |[],e1,e2,_,h=>List.ext_getElem? λt=>(h t).resolve_left (by simp)
 |o::l,e1,e2,hl,h=>by
  refine abj l _ _ (by rw[fB,fB,hl]) λt=>?_;show _∨(cA e1 o.dst .cM)[t]? = (cA e2 o.dst .cM)[t]?;by_cases e:o.dst=some t
  ·right;rw[e];rcases Nat.lt_or_ge t e1.length with ht|ht
   ·rw[nD ht,nD (by rw[←hl];exact ht)]
   ·rw[List.getElem?_eq_none (by rw[fB];exact ht),List.getElem?_eq_none (by rw[fB,←hl];exact ht)]
  ·rcases h t with⟨o',ho',hd⟩|h
   ·rcases List.mem_cons.1 ho' with rfl|ho'
    ·exact absurd hd e
    ·exact .inl ⟨o',ho',hd⟩
   ·right;rw[lH e,lH e,h]
theorem VL.cM{f:aN}:∀{as:List AV}{vs:List Value},VL f as vs→∀t,VL f (as.set t .cM) vs
 |_,_,.nil,t=>.nil
 |_,_,.cons a v as vs h1 h2,0=>.cons _ _ _ _ (.cM _) h2
 |_,_,.cons a v as vs h1 h2,t+1=>.cons _ _ _ _ h1 (VL.cM h2 t)
theorem AR.cM{f:aN}{env:List AV}{a:Act}(h:AR P f env a)(ops:Array Oper):AR P f (lr ops env) a:=by
 refine⟨?_,h.glob⟩;unfold lr;generalize ops.toList=l;have:=h.tmps;clear h
 induction l generalizing env with
 |nil=>exact this
 |cons o l ih=>
  refine ih ?_;show VL f (cA env o.dst .cM) _;cases o.dst with
  |none=>exact this
  |some t=>exact this.cM t
section
variable {ops:Array Oper}{f0:aN}{H0:AH}{w0:World}{ds:List dF}{r:Option AV}{env':List AV}{H':AH}
theorem nX{listed:Array Bool}(down:∀i j,listed.getD i false=true→j∈fA ops i→listed.getD j false=true){i j:Nat}(hd:nB ops i j):(∀k∈fA ops i,listed.getD k false=true)→listed.getD j false=true:=by
 induction hd with
 |edge h=>exact λhr=>hr _ h
 |step h _ ih=>exact λhr=>ih λk hk=>down _ k (hr _ h) hk
variable {suf:List Nat}{chk:List kB}{env:List AV}{H:AH}{ib:Nat→Option Nat}{listed:Array Bool}{f:aN}{dM:List AV}{a:Act}{w:World}
theorem Inv.same(I:Inv P ops f0 H0 w0 ds r env' H' suf chk env H ib listed f dM a w)(ud:∀i j t,i<ops.size→jq ops j=some t→t∈fW ops i→nB ops i j∨fX ops j=true)
  (down:∀i j,listed.getD i false=true→j∈fA ops i→listed.getD j false=true){i:Nat}{o:Oper}(ho:ops[i]? = some o) (hr:∀k∈fA ops i,listed.getD k false=true):Same ops o env dM:=λt ht=>by
 rcases I.agree t with⟨p,hp,hd⟩|h
 ·have:=nX down ((ud i p t (Array.getElem?_eq_some_iff.1 ho).1 hd (by rw[k8 ho];exact ht)).resolve_right (by rw[I.late p hp];simp)) hr;have:=sa this;rw[hp.1]at this;cases this
 ·exact h
theorem TC{o:Oper}{v:AV}{t:Tmp}(hl:dM.length=env.length)(h:o.dst=some t)(hv:jL o env v):(cA dM o.dst v)[t]? = env[t]?:=by
 rw[h];rcases Nat.lt_or_ge t env.length with ht|ht
 ·rw[nD (by rw[hl];exact ht),hv t h ht]
 ·rw[List.getElem?_eq_none (by rw[fB,hl];exact ht),List.getElem?_eq_none ht]
theorem Inv.Gx(I:Inv P ops f0 H0 w0 ds r env' H' suf chk env H ib listed f dM a w){i:Nat}(hi:nh suf listed i){o:Oper}(ho:ops[i]? = some o){f':aN}{w':World}(hle:f.le f')(hst:Step f0 H0 w0 f' H w'){v:AV}{u:Value}(hu:VR f' v u)(hv:jL o env v)
  (hdom:∀p id,p≠i→ib p=some id→¬f.dom id→¬f'.dom id):Inv P ops f0 H0 w0 ds r env' H' suf chk env H ib (listed.setIfInBounds i true) f' (cA dM o.dst v) (a.put o.dst u) w':=by
 have hb:∀p,nh suf (listed.setIfInBounds i true) p→p≠i∧nh suf listed p:=λp hp=>⟨hp.back.1,hp.back.2,hp.2⟩
 refine⟨I.tr,hst,(I.ar.up hle).put o.dst hu,by rw[put_defers];exact I.dr.up hle,λt=>?_,by rw[fB];exact I.len,λp hp=>?_,λp hp=>I.TA p (hb p hp).2,λp hp=>I.late p (hb p hp).2,λp hp=>?_,I.Mm,I.lin,I.ssa,I.inj,I.FE⟩
 ·by_cases e:o.dst=some t
  ·exact .inr (TC I.len e hv)
  ·rw[lH e];rcases I.agree t with⟨p,hp,hd⟩|h
   ·have hne:p≠i:=λe'=>by subst e';rw[jT ho]at hd;exact e hd
    exact .inl ⟨p,⟨by rw[getD_set_ne true (Ne.symm hne)];exact hp.1,hp.2⟩,hd⟩
   ·exact .inr h
 ·obtain⟨hne,hp⟩:=hb p hp;obtain⟨op,h1,h2⟩:=I.pend p hp;refine⟨op,h1,?_⟩;cases h2 with
  |skip hw h=>exact .skip hw h
  |look dq u hc hw hl hs1 h=>exact .look dq u hc hw hl hs1 h
  |still u hw hl h=>exact .still u hw hl h
  |lay id ob vf hid hw hl hat hown h0 hn hd h=>exact .lay id ob vf hid hw hl hat hown h0 hn (hdom p id hne hid hd) h
 ·have hne:i≠p:=λe=>hi.2 (e ▸ hp);rw[getD_set_ne true hne];exact I.zQ p hp
theorem Inv.ahx{i:Nat}{rest:List Nat}(I:Inv P ops f0 H0 w0 ds r env' H' (i::rest) chk env H ib listed f dM a w){o:Oper}(ho:ops[i]? = some o)
  (down:∀i j,listed.getD i false=true→j∈fA ops i→listed.getD j false=true) (hrd:∀k∈fA ops i,listed.getD k false=true)
  {v:AV}{H1:AH}(hc:H1=H∨∀x∈chk,nB ops i x.1∨iA P ops x.2.1 x.2.2.1 x.2.2.2 H1) (tr:Tr P ops rest chk (cA env o.dst v) H1 r env' H'){f':aN}{w':World}(s:Step f H w f' H1 w'){u:Value}(hu:VR f' v u) :
  Inv P ops f0 H0 w0 ds r env' H' rest chk (cA env o.dst v) H1 ib (listed.setIfInBounds i true) f' (cA dM o.dst v) (a.put o.dst u) w':=by
 have nW:=List.nodup_cons.1 I.Mm;have hb:∀p,nh rest (listed.setIfInBounds i true) p→p≠i∧nh (i::rest) listed p:=λp hp=>
  ⟨hp.back.1,hp.back.2,λhm=>by rcases List.mem_cons.1 hm with h|h;exact hp.back.1 h;exact hp.2 h⟩
 refine⟨tr,gh.trans I.step s,(I.ar.up s.le).put o.dst hu,by rw[put_defers];exact I.dr.up s.le,λt=>?_,by rw[fB,fB];exact I.len,λp hp=>?_,λp hp j hj=>I.TA p (hb p hp).2 j (by simp[hj]),λp hp=>I.late p (hb p hp).2,λp hp=>?_,nW.2,I.lin.2,I.ssa.2.2.2,I.inj,λx y h=>Nat.lt_of_lt_of_le (I.FE x y h) s.n⟩
 ·by_cases e:o.dst=some t
  ·right;rw[e];rcases Nat.lt_or_ge t env.length with ht|ht
   ·rw[nD ht,nD (by rw[I.len];exact ht)]
   ·rw[List.getElem?_eq_none (by rw[fB,I.len];exact ht),List.getElem?_eq_none (by rw[fB];exact ht)]
  ·rw[lH e,lH e];rcases I.agree t with⟨p,hp,hd⟩|h
   ·have hne:p≠i:=λe'=>hp.2 (by simp[e']);exact .inl ⟨p,⟨by rw[getD_set_ne true (Ne.symm hne)];exact hp.1,λh=>hp.2 (by simp[h])⟩,hd⟩
   ·exact .inr h
 ·obtain⟨hne,hp⟩:=hb p hp;obtain⟨op,h1,h2⟩:=I.pend p hp;refine⟨op,h1,?_⟩;have hn:=λt ht=>(I.TA p hp i (by simp) t ht).resolve_right (λe=>by
   have:=sa (nX down e.2 hrd);rw[hp.1]at this;cases this)
  rw[jT ho,jT h1,k8 h1]at hn;have hs:Same ops op env (cA env o.dst v):=Same.put λt ht=>(hn t ht).1;have hv:∀{u:AV},jL op env u→jL op (cA env o.dst v) u:=λh=>h.put λt ht e=>(hn t e).2 ht;cases h2 with
  |skip hw h=>exact .skip (hw.same hs) (hv h)
  |look dq u hcm hw hl hs1 h=>
   rcases hc with e|hc
   ·subst e;exact .look dq u hcm (hw.same hs) (hl.same hs) (hs1.trans hs) (hv h)
   rcases hc _ hcm with hd|hl'
   ·have:=sa (nX down hd hrd);have hp1:=hp.1;simp only at this;rw[hp1]at this;cases this
   ·exact .look dq u hcm (hw.same hs) ((iA.same hl' hs1).same hs) (hs1.trans hs) (hv h)
  |still u hw hl h=>exact .still u (hw.same hs) (λH=>(hl H).same hs) (hv h)
  |lay id ob vf hid hw hl hat hown h0 hn hd h=>
   refine .lay id ob vf hid (hw.same hs) (hl.same hs) ?_ hown h0 (Nat.lt_of_lt_of_le hn s.n) (s.new id hn hd) (hv h);have:=s.rest id hn hd;rw[AH.bQ,AH.bQ]at this;rw[this];exact hat
 ·have hne:i≠p:=λe=>nW.1 (e ▸ hp);rw[getD_set_ne true hne];exact I.zQ p (by simp[hp])
theorem TD(I:Inv P ops f0 H0 w0 ds r env' H' suf chk env H ib listed f dM a w)(ud:∀i j t,i<ops.size→jq ops j=some t→t∈fW ops i→nB ops i j∨fX ops j=true)
  (down:∀i j,listed.getD i false=true→j∈fA ops i→listed.getD j false=true){i:Nat}(hi:nh suf listed i) (hr:∀k∈fA ops i,listed.getD k false=true){Q:Exit→Act→World→Prop}{K:Act→World→Prop}
  (hK:∀f' abk a' w',Inv P ops f0 H0 w0 ds r env' H' suf chk env H ib (listed.setIfInBounds i true) f' abk a' w'→K a' w'):wpOp P ops Q i K a w:=by
 obtain⟨o,ho,hpf⟩:=I.pend i hi;have hS:=I.same ud down ho hr;unfold wpOp;simp only[ho];cases hpf with
 |skip hw h=>
  rw[if_neg (by rw[hw f a dM I.ar hS];simp)];exact hK f _ _ w (I.Gx hi ho (.refl f) I.step (VR.undef f) h λ_ _ _ _ h=>h)
 |look dq v hc hw hl hs1 h=>
  rw[if_pos (hw f a dM I.ar hS)];obtain⟨u,h1,h2⟩:=hl f w a dM I.step.rel.toHRQ I.ar hS;exact .inl (jM h1 (hK f _ _ w (I.Gx hi ho (.refl f) I.step h2 h λ_ _ _ _ h=>h)))
 |still v hw hl h=>
  rw[if_pos (hw f a dM I.ar hS)];obtain⟨u,h1,h2⟩:=hl H f w a dM I.step.rel.toHRQ I.ar hS;exact .inl (jM h1 (hK f _ _ w (I.Gx hi ho (.refl f) I.step h2 h λ_ _ _ _ h=>h)))
 |lay id ob vf hid hw hl hat hown h0 hn hd h=>
  rw[if_pos (hw f a dM I.ar hS)];obtain⟨u,obj,h1,lim,h2⟩:=hl f w a dM I.ar hS;obtain⟨h3,h4⟩:=h2 id hd;refine .inl (jM h1 (hK _ _ _ _ (I.Gx hi ho (f.nQ hd w.heap.size 0 lim) (I.step.catch h0 hd hn (by rw[AH.bQ,hat];exact h3)) h4 h λp id' hne ais hnd hd'=>?_)));rcases hd' with e|hd'
  ·subst e;exact hne (I.inj _ _ _ ais hid)
  ·exact hnd hd'
theorem mO{i:Nat}{o:Oper}(ho:ops[i]? = some o){j:Nat}:j∈fA ops i↔∃e∈o.after,Region.binds .any e=true∧e.on=j:=by
 simp only[fA,ho,List.mem_map,List.mem_filter,Array.mem_toList_iff,and_assoc]
theorem zq{i:Nat}{listed:Array Bool}(h:i∈Region.ready .any ops listed):listed.getD i true=false∧i<ops.size∧∀k∈fA ops i,listed.getD k false=true:=by
 obtain⟨h1,o,h2,h3⟩:=mem_ready.1 h;refine⟨h1,(Array.getElem?_eq_some_iff.1 h2).1,λk hk=>?_⟩;obtain⟨e,g1,g2,rfl⟩:=(mO h2).1 hk;exact h3 e g1 g2
theorem A6{listed:Array Bool}(hs:listed.size=ops.size):∀(l seen:List Nat),(∀i∈l,i<ops.size)→OH ops seen l→(∀j∈seen,listed.getD j false=true)→(∃i∈l,listed.getD i true=false)→∃i,i∈Region.ready .any ops listed
 |[],_,_,_,_,h=>by obtain⟨i,h,_⟩:=h;simp at h
 |i::l,seen,hl,ht,hse,h=>by
  by_cases e:listed.getD i true=false
  ·refine⟨i,mem_ready.2 ⟨e,?_⟩⟩;have hi:=hl i (by simp);refine⟨ops[i],Array.getElem?_eq_getElem hi,λx hx hb=>hse _ (ht.1 _ ((mO (Array.getElem?_eq_getElem hi)).2 ⟨x,hx,hb,rfl⟩))⟩
  ·refine A6 hs l (i::seen) (λj hj=>hl j (by simp[hj])) ht.2 (λj hj=>?_) ?_
   ·rcases List.mem_cons.1 hj with rfl|hj
    ·exact getD_in (by rw[hs];exact hl j (by simp)) e
    ·exact hse j hj
   ·obtain⟨j,hj,hu⟩:=h;rcases List.mem_cons.1 hj with rfl|hj
    ·exact absurd hu e
    ·exact⟨j,hj,hu⟩
structure Stat(ops:Array Oper)(order:List Nat):Prop where
 lt:∀i∈order,i<ops.size
 all:∀i,i<ops.size→i∈order
 ait:OH ops [] order
 Mm:order.Nodup
 lin:Lin ops order
 ssa:HT ops order
theorem HT.ud:∀{l:List Nat},HT ops l→∀i∈l,∀j∈l,∀t,jq ops j=some t→t∈fW ops i→nB ops i j∨fX ops j=true
 |[],_,i,hi,_,_,_,_,_=>by simp at hi
 |k::l,h,i,hi,j,hj,t,hd,hl=>by
  rcases List.mem_cons.1 hi with e1|h1<;>rcases List.mem_cons.1 hj with e2|h2
  ·subst e1;subst e2;exact absurd hl (h.2.2.1 t hd)
  ·subst e1;rcases h.1 j h2 t hd with g|g
   ·exact absurd hl g.1
   ·exact .inr g.1
  ·subst e2;exact .inl (h.2.1 i h1 t hd hl)
  ·exact HT.ud h.2.2.2 i h1 j h2 t hd hl
def QOk(P:Program)(ops:Array Oper)(f0:aN)(H0:AH)(w0:World)(ds:List dF)(r:Option AV)(env':List AV)(H':AH)(Q:Exit→Act→World→Prop):Prop:=
 match r with|none=>∀a' w',lB P f0 H0 w0 .normal env' ds H' .normal a' w'→Q .normal a' w'|some v=>∀ch a' w',lB P f0 H0 w0 (.cZ v) (lr ops env') ds H' (.panic ch) a' w'→Q (.panic ch) a' w'
theorem any_ok{order:List Nat}(S:Stat ops order){Q:Exit→Act→World→Prop}
  (hQ:QOk P ops f0 H0 w0 ds r env' H' Q) :
  ∀(fuel:Nat) (U:List Nat) (suf:List Nat) (chk:List kB) (env:List AV) (H:AH) (ib:Nat→Option Nat) (listed:Array Bool) (f:aN) (dM:List AV) (a:Act) (w:World),U.length=fuel→U.Nodup→(∀i,i∈U↔listed.getD i true=false)→listed.size=ops.size→
   (∀i j,listed.getD i false=true→j∈fA ops i→listed.getD j false=true)→Inv P ops f0 H0 w0 ds r env' H' suf chk env H ib listed f dM a w→wpAny P .any ops Q fuel listed a w:=by
 have ud:∀i j t,i<ops.size→jq ops j=some t→t∈fW ops i→nB ops i j∨fX ops j=true:=λi j t hi hd hl=>by
  have hj:j<ops.size:=by
   rcases Nat.lt_or_ge j ops.size with h|h
   ·exact h
   ·simp[jq,Array.getElem?_eq_none h]at hd
  exact S.ssa.ud i (S.all i hi) j (S.all j hj) t hd hl
 have done:∀(suf:List Nat) (chk:List kB) (env:List AV) (H:AH) (ib:Nat→Option Nat) (listed:Array Bool) (f:aN) (dM:List AV) (a:Act) (w:World),listed.size=ops.size→Region.ready .any ops listed=[]→Inv P ops f0 H0 w0 ds r env' H' suf chk env H ib listed f dM a w→Q .normal a w:=by
  intro suf chk env H ib listed f dM a w hs hr I;have hno:∀i,i<ops.size→listed.getD i true≠false:=λi hi e=>by
   obtain⟨k,hk⟩:=A6 hs order [] S.lt S.ait (by simp) ⟨i,S.all i hi,e⟩;rw[hr]at hk;simp at hk
  have hin:∀i,listed.getD i true=false→i<ops.size:=λi h=>by
   rcases Nat.lt_or_ge i listed.size with hl|hl
   ·omega
   ·simp[Array.getD_eq_getD_getElem?,Array.getElem?_eq_none hl]at h
  obtain⟨zR,mH,dq,H1,rZ,I1,hd⟩:=I.TB;have hs1:zR=[]:=by
   cases zR with
   |nil=>rfl
   |cons x l=>have:=I1.zQ x (by simp);exact absurd this (hno x (hin x this))
  subst hs1;rcases hd with⟨_,rfl,rfl,rfl⟩|⟨i,o,rest,v,H2,h,_⟩|⟨i,o,rest,v,H2,h,_⟩
  ·have e:dM=dq:=List.ext_getElem? λt=>(I1.agree t).resolve_left λ⟨p,hp,_⟩=>hno p (hin p hp.1) hp.1;subst e;exact hQ a w ⟨f,I1.step,I1.ar,I1.dr,rfl⟩
  ·cases h
  ·cases h
 intro fuel
 induction fuel with
 |zero=>
  intro U suf chk env H ib listed f dM a w hU _ hm hs down I;have hU':U=[]:=List.eq_nil_of_length_eq_zero hU;have hr:Region.ready .any ops listed=[]:=by
   cases h:Region.ready .any ops listed with
   |nil=>rfl
   |cons x l=>
    have:=(hm x).2 (zq (h ▸ List.mem_cons_self:x∈Region.ready .any ops listed)).1;rw[hU']at this;simp at this
  exact⟨hr,done suf chk env H ib listed f dM a w hs hr I⟩
 |succ fuel ih=>
  intro U suf chk env H ib listed f dM a w hU hUn hm hs down I;refine⟨λhr=>done suf chk env H ib listed f dM a w hs hr I,λi hi=>?_⟩;obtain⟨h1,h2,h3⟩:=zq hi;have hgo:∀suf chk env H ib f dM a w,Inv P ops f0 H0 w0 ds r env' H' suf chk env H ib (listed.setIfInBounds i true) f dM a w→wpAny P .any ops Q fuel (listed.setIfInBounds i true) a w:=λsuf chk env H ib f dM a w I=>by
   refine ih (U.erase i) suf chk env H ib _ f dM a w ?_ (hUn.erase i) (λk=>?_) (by simpa using hs) (λx y hx hy=>?_) I
   ·rw[List.length_erase_of_mem ((hm i).2 h1),hU];rfl
   ·rw[hUn.mem_erase_iff,hm k];constructor
    ·rintro⟨g1,g2⟩;rw[getD_set_ne true (Ne.symm g1)];exact g2
    ·intro h;have hne:k≠i:=λe=>by subst e;rw[wJ]at h;cases h
     exact⟨hne,by rwa [getD_set_ne true (Ne.symm hne)]at h⟩
   ·by_cases e:x=i
    ·subst e;exact getD_set_true (h3 y hy)
    ·rw[getD_set_ne false (Ne.symm e)]at hx;exact getD_set_true (down x y hx hy)
  obtain⟨zR,mH,dq,H1,rZ,I1,hd⟩:=I.TB;by_cases hin:i∈zR
  ·rcases hd with⟨rfl,_⟩|⟨k,o,rest,v,H2,rfl,ho,ht,hw,hl,hc,tr⟩|⟨k,o,rest,v,H2,rfl,ho,ht,hw,hl,rfl,rfl,rfl⟩
   ·simp at hin
   ·have e:i=k:=by
     rcases List.mem_cons.1 hin with e|e
     ·exact e
     ·have:=sa (nX down (I1.lin.1 ht i e) h3);rw[I1.zQ k (by simp)]at this;cases this
    subst e;have hS:=I1.same ud down ho h3;unfold wpOp;simp only[ho];rw[if_pos (hw f a dM I1.ar hS)];exact .inl (hl f w a dM I1.step.rel I1.ar hS _ _ λf' w' u s hu=>hgo _ _ _ _ _ _ _ _ _ (I1.ahx ho down h3 hc tr s hu))
   ·have e:i=k:=by
     rcases List.mem_cons.1 hin with e|e
     ·exact e
     ·have:=sa (nX down (I1.lin.1 ht i e) h3);rw[I1.zQ k (by simp)]at this;cases this
    subst e;have hS:=I1.same ud down ho h3;unfold wpOp;simp only[ho];rw[if_pos (hw f a dM I1.ar hS)];refine .inl (hl f w a dM I1.step.rel I1.ar hS _ _ λf' w' ch s hp=>hQ ch a w' ⟨f',gh.trans I1.step s,?_,I1.dr.up s.le,ch,rfl,hp⟩);have hpo:lr ops dM=lr ops dq:=abj _ _ _ I1.len λt=>by
     rcases I1.agree t with⟨p,hp,hd⟩|h
     ·obtain⟨op,g1,_⟩:=I1.pend p hp;rw[jT g1]at hd;exact .inl ⟨op,by rw[Array.mem_toList_iff];exact Array.mem_of_getElem? g1,hd⟩
     ·exact .inr h
    rw[←hpo];exact(I1.ar.up s.le).cM ops
  ·exact TD I1 ud down ⟨h1,hin⟩ h3 λf' abk a' w' I2=>hgo _ _ _ _ _ _ _ _ _ I2
end
end
section
variable {P:Program}
def TE(ops:Array Oper)(seen:List Nat)(i:Nat):Bool:=(fA ops i).all λj=>seen.contains j
def DC(ops:Array Oper):Nat→List Nat→List Nat→List Nat
 |0,_,_=>[]
 |n+1,rem,seen=>
  match rem.find? λi=>TE ops seen i && !(gw ops i)with
  |some i=>i::DC ops n (rem.erase i) (i::seen)
  |none=>match rem.find? λi=>TE ops seen i with
   |some i=>i::DC ops n (rem.erase i) (i::seen)
   |none=>[]
def canon(ops:Array Oper):List Nat:=DC ops ops.size (List.range ops.size) []
def uA(ops:Array Oper)(order:List Nat)(ms:List (Nat×List Nat)):Bool:=
 (order.all λi=>Nat.blt i ops.size)&&((List.range ops.size).all λi=>order.contains i)&&Gv ops [] order&&nodupB order&&OI ops ms order&&OJ ops ms order
theorem vP{ops:Array Oper}{order:List Nat}{ms:List (Nat×List Nat)}(hm:lz ops ms)(h:uA ops order ms=true):Stat ops order:=by
 simp only[uA,Bool.and_eq_true,List.all_eq_true]at h;obtain⟨⟨⟨⟨⟨h1,h2⟩,h3⟩,h4⟩,h5⟩,h6⟩:=h;exact⟨λi hi=>Nat.le_of_ble_eq_true (h1 i hi),λi hi=>by simpa using h2 i (List.mem_range.2 hi),HU h3,FD h4,Mk hm h5,Ml hm h6⟩
theorem lz.nil(ops:Array Oper):lz ops []:=λi j h=>by simp[qI]at h
def HV(ops:Array Oper):List (Nat×List Nat):=masks ops (canon ops) []
theorem qZ{ops:Array Oper}{order:List Nat}(S:Stat ops order){env:List AV}{ds:List dF}{H:AH}{r:Option AV}{env':List AV}{H':AH}(tr:Tr P ops order [] env H r env' H')
  {f:aN}{w:World}{a:Act}(hr:HR f H w) (ha:AR P f env a) (hd:DR f ds a.defers){Q:Exit→Act→World→Prop}
  (hQ:QOk P ops f H w ds r env' H' Q) :
  wpAny P .any ops Q ops.size (Array.replicate ops.size false) a { w with drawn:=w.drawn+1 }:=by
 have hsz:(Array.replicate ops.size false).size=ops.size:=by simp
 have hget:∀i,(Array.replicate ops.size false).getD i true=false↔i<ops.size:=λi=>by
  rcases Nat.lt_or_ge i ops.size with hl|hl
  ·simp[Array.getD_eq_getD_getElem?,hl]
  ·simp[Array.getD_eq_getD_getElem?,hl]
 have hno:∀i,(Array.replicate ops.size false).getD i false=false:=λi=>by
  simp only[Array.getD_eq_getD_getElem?,Array.getElem?_replicate];split<;>rfl
 have hp:∀i,¬nh order (Array.replicate ops.size false) i:=λi h=>h.2 (S.all i ((hget i).1 h.1));refine any_ok S hQ ops.size (List.range ops.size) order [] env H (λ_=>none) _ f env a _ (by simp) List.nodup_range (λi=>by rw[hget,List.mem_range]) hsz (λi j h=>by rw[hno]at h;cases h) ?_;exact⟨tr,Step.drew hr (w.drawn+1),ha,hd,λt=>.inr rfl,rfl,λi h=>absurd h (hp i),λi h=>absurd h (hp i),λi h=>absurd h (hp i),λi hi=>(hget i).2 (S.lt i hi),S.Mm,S.lin,S.ssa,λ_ _ _ h=>(by cases h),λ_ _ h=>(by cases h)⟩
def dK(ops:Array Oper)(j i:Nat):Array Oper:=ops.modify j λo=>{ o with after:=o.after.push ⟨i,.data⟩ }
section
variable (ops:Array Oper)(j i:Nat)
theorem fY(k:Nat):(dK ops j i)[k]? = if j=k then (ops[k]?).map (λo=>{ o with after:=o.after.push ⟨i,.data⟩ }) else ops[k]?:=by
 unfold dK;rw[Array.getElem?_modify]
theorem lI:(dK ops j i).size=ops.size:=by simp[dK]
theorem zS(k:Nat):((dK ops j i)[k]?).bind Oper.dst=(ops[k]?).bind Oper.dst:=by
 rw[fY];split
 ·cases ops[k]?<;>rfl
 ·rfl
theorem A8(o:Oper):o.looksAt (dK ops j i)=o.looksAt ops:=by
 unfold Oper.looksAt;cases o.guard with
 |none=>rfl
 |some g=>simp only[zS]
theorem Ld(k:Nat):fW (dK ops j i) k=fW ops k:=by
 unfold fW;rw[fY];by_cases e:j=k
 ·rw[if_pos e];cases ops[k]? with
  |none=>rfl
  |some o=>exact A8 ops j i o
 ·rw[if_neg e];cases ops[k]? with
  |none=>rfl
  |some o=>exact A8 ops j i o
theorem OL(k:Nat):jq (dK ops j i) k=jq ops k:=zS ops j i k
theorem A9{a b:Nat}(h:b∈fA ops a):b∈fA (dK ops j i) a:=by
 cases ha:ops[a]? with
 |none=>simp[fA,ha]at h
 |some o=>
  obtain⟨e,h1,h2,h3⟩:=(mO ha).1 h;by_cases hj:j=a
  ·have:=fY ops j i a;rw[if_pos hj,ha]at this;exact(mO this).2 ⟨e,by simp[h1],h2,h3⟩
  ·have:=fY ops j i a;rw[if_neg hj,ha]at this;exact(mO this).2 ⟨e,h1,h2,h3⟩
theorem pT:Like ops (dK ops j i) where
 dst:=zS ops j i
 dep:=λh=>by
  induction h with
  |edge h=>exact .edge (A9 ops j i h)
  |step h _ ih=>exact .step (A9 ops j i h) ih
 late:=λk=>by
  unfold fX;rw[fY,lI];simp only[Ld,OL];by_cases e:j=k
  ·rw[if_pos e];cases ops[k]? with
   |none=>rfl
   |some o=>rfl
  ·rw[if_neg e]
theorem TF{k:Nat}{K:Act→World→Prop}{Q:Exit→Act→World→Prop}{a:Act}{w:World}(h:wpOp P (dK ops j i) Q k K a w):wpOp P ops Q k K a w:=by
 unfold wpOp at h ⊢;rw[fY,(pT ops j i).yielded]at h;by_cases e:j=k
 ·rw[if_pos e]at h;cases hk:ops[k]? with
  |none=>rw[hk]at h;exact h
  |some o=>rw[hk]at h;exact h
 ·rw[if_neg e]at h;exact h
theorem OM{k:Nat}{listed:Array Bool}(h:k∈Region.ready .any ops listed)(hj:k=j→listed.getD i false=true):k∈Region.ready .any (dK ops j i) listed:=by
 obtain⟨h1,o,h2,h3⟩:=mem_ready.1 h;refine mem_ready.2 ⟨h1,?_⟩;have:=fY ops j i k;by_cases e:j=k
 ·rw[if_pos e,h2]at this;refine⟨_,this,λe' he hb=>?_⟩;rcases Array.mem_push.1 he with he|rfl
  ·exact h3 e' he hb
  ·exact hj e.symm
 ·rw[if_neg e,h2]at this;exact⟨_,this,h3⟩
theorem DD{listed:Array Bool}(h:Region.ready .any ops listed=[]):Region.ready .any (dK ops j i) listed=[]:=by
 cases hr:Region.ready .any (dK ops j i) listed with
 |nil=>rfl
 |cons k l=>
  obtain⟨h1,o,h2,h3⟩:=mem_ready.1 (hr ▸ List.mem_cons_self:k∈Region.ready .any (dK ops j i) listed);have:=fY ops j i k;rw[h2]at this;have hk:k∈Region.ready .any ops listed:=by
   refine mem_ready.2 ⟨h1,?_⟩;split at this
   ·cases ho:ops[k]? with
    |none=>rw[ho]at this;cases this
    |some o'=>
     rw[ho]at this;cases this;exact⟨o',rfl,λe he hb=>h3 e (by simp[he]) hb⟩
   ·exact⟨o,this.symm,h3⟩
  rw[h]at hk;simp at hk
end
inductive lJ(ops:Array Oper):Nat→Array Bool→List Nat→Prop
 |zero (l:Array Bool):lJ ops 0 l []
 |nil (n:Nat) (l:Array Bool):Region.ready .any ops l=[]→lJ ops (n+1) l []
 |cons (n:Nat) (l:Array Bool) (k:Nat) (L:List Nat):k∈Region.ready .any ops l→lJ ops n (l.setIfInBounds k true) L→lJ ops (n+1) l (k::L)
theorem lJ.wp{ops:Array Oper}{Q:Exit→Act→World→Prop}{n:Nat}{l:Array Bool}{L:List Nat}(h:lJ ops n l L):∀a w,wpAny P .any ops Q n l a w→wpOps P ops Q L a w:=by
 induction h with
 |zero l=>intro a w h;simpa[wpOps]using h.2
 |nil n l hr=>intro a w h;simpa[wpOps]using h.1 hr
 |cons n l k L hk _ ih=>intro a w h;rw[wpOps_cons];exact wpOp_mono (λa w=>ih a w) (h.2 k hk)
theorem FF{ops:Array Oper}:∀(n t:Nat) (l:Array Bool),lJ ops n l (Region.linearise.go .any ops n t l []):=by
 intro n
 induction n with
 |zero=>intro t l;simp only[Region.linearise.go,List.reverse_nil];exact .zero l
 |succ n ih=>
  intro t l;simp only[Region.linearise.go]
  change lJ ops (n+1) l (match (Region.ready .any ops l)[t%(Region.ready .any ops l).length]? with
   |some i=>Region.linearise.go .any ops n (t/(Region.ready .any ops l).length) (l.setIfInBounds i true) [i]
   |none=>[].reverse)
  cases hi:(Region.ready .any ops l)[t%(Region.ready .any ops l).length]? with
  |none=>
   refine .nil n l ?_;cases hr:Region.ready .any ops l with
   |nil=>rfl
   |cons x xs=>
    rw[hr]at hi;have hlt:t%(x::xs).length<(x::xs).length:=Nat.mod_lt _ (by simp);simp at hi;simp at hlt;omega
  |some i=>
   simp only[];rw[linearise_go_acc,List.reverse_singleton,List.singleton_append];exact .cons n l i _ (List.mem_of_getElem? hi) (ih _ _)
theorem lJ.dK{ops:Array Oper}{j i:Nat}(hi:i<ops.size){n:Nat}{l:Array Bool}{L:List Nat}(h:lJ ops n l L):l.size=ops.size→(∀L1 L2,L=L1++j::L2→l.getD i false=true∨i∈L1)→lJ (Go.X.dK ops j i) n l L:=by
 induction h with
 |zero l=>intro _ _;exact .zero l
 |nil n l hr=>intro _ _;exact .nil n l (DD ops j i hr)
 |cons n l k L hk _ ih=>
  intro hs hb;refine .cons n l k L (OM ops j i hk λe=>?_) (ih (by simpa using hs) λL1 L2 e=>?_)
  ·exact(hb [] L (by rw[e];rfl)).resolve_right (by simp)
  ·rcases hb (k::L1) L2 (by rw[e];rfl)with g|g
   ·exact .inl (getD_set_true g)
   ·rcases List.mem_cons.1 g with rfl|g
    ·left;simp[Array.getD_eq_getD_getElem?,show i<l.size by omega]
    ·exact .inr g
theorem bef{i j:Nat}(hij:i≠j)(L:List Nat):(∀L1 L2,L=L1++j::L2→i∈L1)∨(∀L1 L2,L=L1++i::L2→j∈L1):=by
 induction L with
 |nil=>exact .inl λL1 L2 h=>by simp at h
 |cons k L ih=>
  by_cases e1:k=i
  ·subst e1;refine .inl λL1 L2 h=>?_;cases L1 with
   |nil=>simp at h;exact absurd h.1 hij
   |cons x L1=>simp at h;simp[h.1]
  ·by_cases e2:k=j
   ·subst e2;refine .inr λL1 L2 h=>?_;cases L1 with
    |nil=>simp at h;exact absurd h.1.symm hij
    |cons x L1=>simp at h;simp[h.1]
   ·refine ih.imp (λg L1 L2 h=>?_) (λg L1 L2 h=>?_)
    ·cases L1 with
     |nil=>simp at h;exact absurd h.1 e2
     |cons x L1=>simp at h;exact List.mem_cons_of_mem _ (g L1 L2 h.2)
    ·cases L1 with
     |nil=>simp at h;exact absurd h.1 e1
     |cons x L1=>simp at h;exact List.mem_cons_of_mem _ (g L1 L2 h.2)
theorem nY{ops:Array Oper}{j i:Nat}{Q:Exit→Act→World→Prop}:∀{L:List Nat}{a:Act}{w:World},wpOps P (dK ops j i) Q L a w→wpOps P ops Q L a w
 |[],a,w,h=>by simpa[wpOps]using h
 |k::L,a,w,h=>by
  rw[wpOps_cons]at h ⊢;exact TF ops j i (wpOp_mono (λa w h=>nY h) h)
def HW(P:Program)(t1 t2:TypeId)(p q:AV)(x:Prop):Prop:=
 match P.info? t1,P.info? t2 with
 |some i1,some i2=>lZ p λb o=>lZ q λb' o'=>bT (!(Nat.beq b b')||(Nat.ble (Nat.add o i1.size) o'||Nat.ble (Nat.add o' i2.size) o)) x
 |_,_=>False
theorem Le{t1 t2:TypeId}{p v q u:AV}{H H1 dA H2 kC:AH}{x:Prop}(hx:HW P t1 t2 p q x)(a:uj P t1 p v H H1)(b:uj P t2 q u H1 dA)(c:uj P t2 q u H H2)(d:uj P t1 p v H2 kC):x∧dA.sem=kC.sem:=by
 obtain⟨n1,b1,o1,i1,c1,m1,q1,c1',rfl,hi1,a1,a2,a3,a4,a5,a6⟩:=a;obtain⟨n2,b2,o2,i2,c2,m2,q2,c2',rfl,hi2,d1,d2,d3,d4,d5,d6⟩:=b;obtain⟨n3,b3,o3,i3,c3,m3,q3,c3',e,hi3,e1,e2,e3,e4,e5,e6⟩:=c;cases e;obtain⟨n4,b4,o4,i4,c4,m4,q4,c4',e,hi4,f1,f2,f3,f4,f5,f6⟩:=d;cases e;rw[hi2]at hi3;cases hi3;rw[hi1]at hi4;cases hi4;unfold HW at hx;rw[hi1,hi2]at hx;obtain⟨hx,hx'⟩:=aF (show bT (!(Nat.beq b1 b2)||(Nat.ble (Nat.add o1 i1.size) o2||Nat.ble (Nat.add o2 i2.size) o1)) x from hx);refine⟨hx',?_⟩;have hn:dA.n=kC.n:=by omega
 have hob:∀b,(dA.at b).sem=(kC.at b).sem:=λb=>by
  by_cases hb:b1=b2
  ·subst hb;rw[Nat.beq_refl]at hx;have hd:o1+i1.size≤o2∨o2+i2.size≤o1:=by
    simp only[Bool.not_true,Bool.false_or,Bool.or_eq_true]at hx;exact hx.imp Nat.le_of_ble_eq_true Nat.le_of_ble_eq_true
   by_cases hbb:b=b1
   ·subst hbb;rw[a2]at d1;cases d1;rw[a1]at e1;cases e1;rw[e2]at f1;cases f1;rw[d2,f2];simp only[dE.sem,gz.cells.injEq,and_true];funext k;by_cases k1:o1≤k∧k<o1+i1.size
    ·have hk:=f4 (k-o1) (by omega);have hk':=a4 (k-o1) (by omega);rw[show o1+(k-o1)=k by omega]at hk hk';rw[hk,d5 k (by omega),hk']
    ·by_cases k2:o2≤k∧k<o2+i2.size
     ·have hk:=d4 (k-o2) (by omega);have hk':=e4 (k-o2) (by omega);rw[show o2+(k-o2)=k by omega]at hk hk';rw[hk,f5 k (by omega),hk']
     ·rw[d5 k (by omega),a5 k (by omega),f5 k (by omega),e5 k (by omega)]
   ·rw[d6 b hbb,a6 b hbb,f6 b hbb,e6 b hbb]
  ·by_cases h1:b=b1
   ·subst h1;rw[d6 b hb,a2];rw[e6 b hb,a1]at f1;cases f1;rw[f2];simp only[dE.sem,gz.cells.injEq,and_true];funext k;by_cases k1:o1≤k∧k<o1+i1.size
    ·have hk:=f4 (k-o1) (by omega);have hk':=a4 (k-o1) (by omega);rw[show o1+(k-o1)=k by omega]at hk hk';rw[hk,hk']
    ·rw[a5 k (by omega),f5 k (by omega)]
   ·by_cases h2:b=b2
    ·subst h2;rw[f6 b (Ne.symm hb),e2];rw[a6 b (Ne.symm hb),e1]at d1;cases d1;rw[d2];simp only[dE.sem,gz.cells.injEq,and_true];funext k;by_cases k2:o2≤k∧k<o2+i2.size
     ·have hk:=d4 (k-o2) (by omega);have hk':=e4 (k-o2) (by omega);rw[show o2+(k-o2)=k by omega]at hk hk';rw[hk,hk']
     ·rw[d5 k (by omega),e5 k (by omega)]
    ·rw[d6 b h2,a6 b h1,f6 b h1,e6 b h2]
 unfold AH.sem;rw[hn];congr 1;funext b;exact hob b
def abl(o1 o2:Oper):Bool:=o1.dst.isNone&&o2.dst.isNone&&o1.guard.isNone&&o2.guard.isNone
def yk(o:Oper)(k:TypeId→Operand→Operand→Prop):Prop:=match o.op with|.store t a x=>k t a x|_=>False
theorem zr{o:Oper}{k:TypeId→Operand→Operand→Prop}(h:yk o k):∃t a x,o.op=.store t a x∧k t a x:=by
 unfold yk at h;split at h
 ·exact⟨_,_,_,by assumption,h⟩
 ·exact h.elim
def ZT(o:Option Oper)(k:Oper→Prop):Prop:=match o with|some o=>k o|none=>False
theorem HX{o:Option Oper}{k:Oper→Prop}(h:ZT o k):∃x,o=some x∧k x:=by
 cases o with
 |none=>exact h.elim
 |some x=>exact⟨x,rfl,h⟩
def pairT(P:Program)(ops aj8 ops2:Array Oper)(ms1 ms2:List (Nat×List Nat))(s1 s2:Nat)(chk:List kB)(env:List AV)(H:AH)(k:AH→Prop):Prop:=
 ZT ops[s1]? λo1=>ZT ops[s2]? λo2=>bT (abl o1 o2) <| yk o1 λt1 a1 v1=>yk o2 λt2 a2 v2=>
  pP P t1 (fa P.globals.size env a1) (fa P.globals.size env v1) H λH1=>mN P P.globals.size ms1 s1 H1 chk <|
  pP P t2 (fa P.globals.size env a2) (fa P.globals.size env v2) H1 λdA=>mN P P.globals.size ms1 s2 dA chk <|
  pP P t2 (fa P.globals.size env a2) (fa P.globals.size env v2) H λH2=>mN P P.globals.size ms2 s2 H2 chk <|
  pP P t1 (fa P.globals.size env a1) (fa P.globals.size env v1) H2 λkC=>mN P P.globals.size ms2 s1 kC chk <|
  HW P t1 t2 (fa P.globals.size env a1) (fa P.globals.size env a2) (k dA)
def uB:List Nat→(List Nat→Nat→Nat→Prop)→Prop
 |[a,b],k=>k [] a b
 |x::l,k=>uB l λp a b=>k (x::p) a b
 |[],_=>False
theorem zt:∀{l:List Nat}{k:List Nat→Nat→Nat→Prop},uB l k→∃p a b,l=p++[a,b]∧k p a b
 |[],_,h=>h.elim
 |[a,b],_,h=>⟨[],a,b,rfl,h⟩
 |[x],k,h=>by unfold uB at h;exact h.elim
 |x::y::z::l,k,h=>by
  unfold uB at h;obtain⟨p,a,b,e,h⟩:=zt h;exact⟨x::p,a,b,by rw[e];rfl,h⟩
def abm(P:Program)(C:eD):DT:=λops env ds H K=>
 uB (canon ops) λpre s1 s2=>
  bT (uA (dK ops s2 s1) (pre++[s1,s2]) (masks (dK ops s2 s1) (pre++[s1,s2]) [])) <|
  bT (uA (dK ops s1 s2) (pre++[s2,s1]) (masks (dK ops s1 s2) (pre++[s2,s1]) [])) <|
  jS C P P.globals.size ops (HV ops) pre [] env H (λchk env H=>pairT P ops (dK ops s2 s1) (dK ops s1 s2) (masks (dK ops s2 s1) (pre++[s1,s2]) []) (masks (dK ops s1 s2) (pre++[s2,s1]) []) s1 s2 chk env H λH=>K .normal env ds H) (λv env H=>K (.cZ v) (lr ops env) ds H)
theorem qJ{ops:Array Oper}{o:Oper}{t:TypeId}{a x:Operand}(ho:o.op=.store t a x){env:List AV}{H:AH}{k:AH→Prop}(h:pP P t (fa P.globals.size env a) (fa P.globals.size env x) H k) :
  ∃H',k H'∧uj P t (fa P.globals.size env a) (fa P.globals.size env x) H H'∧xe P ops o env H dW H':=by
 obtain⟨H',h1,hS,h2⟩:=Fv (P:=P) h;refine⟨H',h1,hS,λf w ac cQ hr ha hs next Q hn=>?_⟩;have hst:=hs.stand ha;obtain⟨w',g1,g2⟩:=h2 f w _ _ hr (hst a (by simp[ho,Op.operands])) (hst x (by simp[ho,Op.operands]));exact jM (.inr ⟨by simp[execOp,ho,g1],rfl⟩) (hn f w' undef g2 (VR.undef f))
theorem FG(ops:Array Oper)(j i:Nat)(env:List AV):lr (dK ops j i) env=lr ops env:=by
 have e:(dK ops j i).toList.map Oper.dst=ops.toList.map Oper.dst:=by
  refine List.ext_getElem? λk=>?_;rw[List.getElem?_map,List.getElem?_map,Array.getElem?_toList,Array.getElem?_toList,fY];split
  ·cases ops[k]?<;>rfl
  ·rfl
 have f:∀l:List Oper,l.foldl (λe o=>cA e o.dst .cM) env=(l.map Oper.dst).foldl (λe d=>cA e d .cM) env:=λl=>by rw[List.foldl_map]
 unfold lr;rw[f,f,e]
theorem ZU(hm:P.follows .mixedOrders=true)(C:eD)(hC:gQ P C):pR P (abm P C):=by
 intro id ops env ds H K h;obtain⟨pre,s1,s2,_,h⟩:=zt h;obtain⟨ok1,h⟩:=aF h;obtain⟨ok2,h⟩:=aF h;have hms:lz ops (HV ops):=rX _ (lz.nil ops);have ZV:lz (dK ops s2 s1) (masks (dK ops s2 s1) (pre++[s1,s2]) []):=rX _ (lz.nil _);have ZW:lz (dK ops s1 s2) (masks (dK ops s1 s2) (pre++[s2,s1]) []):=rX _ (lz.nil _);have S1:=vP ZV ok1;have S2:=vP ZW ok2;have nW:s1≠s2∧s1∉pre∧s2∉pre:=by
  have:=S1.Mm;rw[List.nodup_append]at this;obtain⟨_,h2,h3⟩:=this;refine⟨by simpa using h2,λhp=>h3 s1 hp s1 (by simp) rfl,λhp=>h3 s2 hp s2 (by simp) rfl⟩
 have hl1:s1<ops.size:=by have:=S1.lt s1 (by simp);rwa [lI]at this
 have hl2:s2<ops.size:=by have:=S1.lt s2 (by simp);rwa [lI]at this
 rcases kk hC hms _ _ _ _ (by simp) h with⟨chk,env',H0,hk,hct,g⟩|⟨v,env',H',hk,g⟩
 ·obtain⟨o1,ho1,hk⟩:=HX hk;obtain⟨o2,ho2,hk⟩:=HX hk;obtain⟨hp,hk⟩:=aF hk;simp only[abl,Bool.and_eq_true,Option.isNone_iff_eq_none]at hp;obtain⟨⟨⟨hd1,hd2⟩,hg1⟩,hg2⟩:=hp;obtain⟨t1,a1,v1,e1,hk⟩:=zr hk;obtain⟨t2,a2,v2,e2,hk⟩:=zr hk;have ht1:turns o1=true:=by simp[turns,e1]
  have ht2:turns o2=true:=by simp[turns,e2]
  have q11:(dK ops s2 s1)[s1]? = some o1:=by rw[fY,if_neg (Ne.symm nW.1),ho1]
  have q12:(dK ops s2 s1)[s2]? = some { o2 with after:=o2.after.push ⟨s1,.data⟩ }:=by rw[fY,if_pos rfl,ho2];rfl
  have q22:(dK ops s1 s2)[s2]? = some o2:=by rw[fY,if_neg nW.1,ho2]
  have q21:(dK ops s1 s2)[s1]? = some { o1 with after:=o1.after.push ⟨s2,.data⟩ }:=by rw[fY,if_pos rfl,ho1];rfl
  obtain⟨H1,hk,A1,T1⟩:=qJ (ops:=dK ops s2 s1) e1 hk;obtain⟨hk,C1⟩:=nC ZV hct hk;obtain⟨dA,hk,A2,T2⟩:=qJ (ops:=dK ops s2 s1) (o:={ o2 with after:=o2.after.push ⟨s1,.data⟩ }) e2 hk;obtain⟨hk,C2⟩:=nC ZV hct hk;obtain⟨H2,hk,A3,T3⟩:=qJ (ops:=dK ops s1 s2) e2 hk;obtain⟨hk,C3⟩:=nC ZW hct hk;obtain⟨kC,hk,A4,T4⟩:=qJ (ops:=dK ops s1 s2) (o:={ o1 with after:=o1.after.push ⟨s2,.data⟩ }) e1 hk;obtain⟨hk,C4⟩:=nC ZW hct hk;obtain⟨hk,aiu⟩:=Le hk A1 A2 A3 A4;have ON:∀i∈pre,(dK ops s2 s1)[i]? = ops[i]?:=λi hi=>by rw[fY,if_neg (λe:s2=i=>nW.2.2 (by rw[e];exact hi))]
  have OO:∀i∈pre,(dK ops s1 s2)[i]? = ops[i]?:=λi hi=>by rw[fY,if_neg (λe:s1=i=>nW.2.1 (by rw[e];exact hi))]
  have afa:cA env' o1.dst dW=env':=by rw[hd1];rfl
  have afb:cA env' o2.dst dW=env':=by rw[hd2];rfl
  have tr1:=g _ (pT ops s2 s1) ON [s1,s2] none env' dA (.turn dW H1 q11 (mq q11 ht1) (.of_none hg1) T1 (.inr C1)
   (by rw[afa];exact .turn dW dA q12 (mq q12 ht2) (.of_none hg2) T2 (.inr C2) (by show Tr P _ [] chk (cA env' o2.dst dW) dA none env' dA;rw[afb];exact .nil _ _ _)))
  have tr2:=g _ (pT ops s1 s2) OO [s2,s1] none env' kC (.turn dW H2 q22 (mq q22 ht2) (.of_none hg2) T3 (.inr C3)
   (by rw[afb];exact .turn dW kC q21 (mq q21 ht1) (.of_none hg1) T4 (.inr C4) (by show Tr P _ [] chk (cA env' o1.dst dW) kC none env' kC;rw[afa];exact .nil _ _ _)))
  refine⟨.normal,env',ds,dA,hk,λf w a hr ha hd Q hq=>wp_region_draw λt=>?_⟩;simp only[Region.schedule,hm,Bool.true_or,if_true];have hv:=FF (ops:=ops) ops.size t (Array.replicate ops.size false);generalize hL:Region.linearise.go .any ops ops.size t (Array.replicate ops.size false) []=L at hv;show wpOps P ops Q (Region.linearise.go .any ops ops.size t (Array.replicate ops.size false) []) a _;rw[hL];rcases bef nW.1 L with hb|hb
  ·have w1:=qZ S1 tr1 hr ha hd (Q:=Q) λa' w' hx=>hq _ _ _ hx;rw[lI]at w1;exact nY ((hv.dK (j:=s2) (i:=s1) hl1 (by simp) λL1 L2 e=>.inr (hb L1 L2 e)).wp _ _ w1)
  ·have w2:=qZ S2 tr2 hr ha hd (Q:=Q) λa' w' hx=>hq _ _ _ (by
    unfold lB at hx ⊢;obtain⟨f',s,hx⟩:=hx;refine⟨f',?_,hx⟩;unfold Step at s ⊢;rw[aiu];exact s)
   rw[lI]at w2;exact nY ((hv.dK (j:=s1) (i:=s2) hl2 (by simp) λL1 L2 e=>.inr (hb L1 L2 e)).wp _ _ w2)
 ·have ON:∀i∈pre,(dK ops s2 s1)[i]? = ops[i]?:=λi hi=>by rw[fY,if_neg (λe:s2=i=>nW.2.2 (by rw[e];exact hi))]
  have OO:∀i∈pre,(dK ops s1 s2)[i]? = ops[i]?:=λi hi=>by rw[fY,if_neg (λe:s1=i=>nW.2.1 (by rw[e];exact hi))]
  have tr1:=g _ (pT ops s2 s1) ON [s1,s2];have tr2:=g _ (pT ops s1 s2) OO [s2,s1];refine⟨.cZ v,_,ds,H',hk,λf w a hr ha hd Q hq=>wp_region_draw λt=>?_⟩;simp only[Region.schedule,hm,Bool.true_or,if_true];have hv:=FF (ops:=ops) ops.size t (Array.replicate ops.size false);generalize hL:Region.linearise.go .any ops ops.size t (Array.replicate ops.size false) []=L at hv;show wpOps P ops Q (Region.linearise.go .any ops ops.size t (Array.replicate ops.size false) []) a _;rw[hL];rcases bef nW.1 L with hb|hb
  ·have w1:=qZ S1 tr1 hr ha hd (Q:=Q) λch a' w' hx=>hq _ _ _ (by rw[FG]at hx;exact hx);rw[lI]at w1;exact nY ((hv.dK (j:=s2) (i:=s1) hl1 (by simp) λL1 L2 e=>.inr (hb L1 L2 e)).wp _ _ w1)
  ·have w2:=qZ S2 tr2 hr ha hd (Q:=Q) λch a' w' hx=>hq _ _ _ (by rw[FG]at hx;exact hx);rw[lI]at w2;exact nY ((hv.dK (j:=s1) (i:=s2) hl2 (by simp) λL1 L2 e=>.inr (hb L1 L2 e)).wp _ _ w2)
def Gy(P:Program)(C:eD):DT:=λops env ds H K=>
 bI (uA ops (canon ops) (HV ops)) (jS C P P.globals.size ops (HV ops) (canon ops) [] env H (λ_ env H=>K .normal env ds H) (λv env H=>K (.cZ v) (lr ops env) ds H)) (abm P C ops env ds H K)
theorem HY(hm:P.follows .mixedOrders=true)(C:eD)(hC:gQ P C):pR P (Gy P C):=by
 intro id ops env ds H K h;rcases dk h with⟨hok,h⟩|⟨_,h⟩
 case inr=>exact ZU hm C hC id ops env ds H K h
 have hms:lz ops (HV ops):=rX _ (lz.nil ops);have S:=vP hms hok;rcases kk hC hms _ _ _ _ (by simp) h with⟨OK,env',H',hk,_,g⟩|⟨v,env',H',hk,g⟩
 ·have tr:=g ops (.refl ops) (λ_ _=>rfl) [] _ _ _ (.nil _ _ _);rw[List.append_nil]at tr;exact⟨.normal,env',ds,H',hk,λf w a hr ha hd Q hq=>wp_region_any hm (qZ S tr hr ha hd λa' w' hx=>hq _ _ _ hx)⟩
 ·have tr:=g ops (.refl ops) (λ_ _=>rfl) [];rw[List.append_nil]at tr;exact⟨.cZ v,_,ds,H',hk,λf w a hr ha hd Q hq=>wp_region_any hm (qZ S tr hr ha hd λch a' w' hx=>hq _ _ _ hx)⟩
end
section
inductive Fr where
 |seq (p:List Nat) (c:Code)
 |blk (id:Nat)
 |loop (p:List Nat) (c:Code)
 |scope (p:List Nat) (c:Code)
def kl(p:List Nat):Code→List Fr→Nat→Option (Code×List Fr)
 |.seq a b,st,0=>some (a,.seq (1::p) b::st)
 |.seq _ b,st,1=>some (b,st)
 |.cond _ a _,st,0=>some (a,st)
 |.cond _ _ b,st,1=>some (b,st)
 |.block id c,st,0=>some (c,.blk id::st)
 |.loop c,st,0=>some (c,.loop p c::st)
 |.scope c,st,0=>some (c,.scope p c::st)
 |.scope c,st,l+2=>(match findLabel c l with|some r=>some (r,.scope p c::st)|none=>none)
 |_,_,_=>none
def vQ(body:Code):List Nat→Option (Code×List Fr)
 |[]=>some (body,[])
 |b::p=>match vQ body p with
  |some (c,st)=>kl p c st b
  |none=>none
def HZ:List Nat→List Nat→Bool
 |[],[]=>true
 |a::p,b::q=>Nat.beq a b&&HZ p q
 |_,_=>false
theorem TG:∀{p q:List Nat},HZ p q=true→p=q
 |[],[],_=>rfl
 |[],_::_,h=>by simp[HZ]at h
 |_::_,[],h=>by simp[HZ]at h
 |a::p,b::q,h=>by
  simp only[HZ,Bool.and_eq_true]at h;rw[Nat.eq_of_beq_eq_true h.1,TG h.2]
abbrev xf:=List AV→List dF→AH→Prop
abbrev GT:=List Nat→Code→List Fr→xf
section
def mI(g:GT)(K:KT):List Fr→Out→xf
 |[],o,env,ds,H=>K o env ds H
 |.seq p c::st,o,env,ds,H=>match o with|.normal=>g p c st env ds H|o=>mI g K st o env ds H
 |.blk id::st,o,env,ds,H=>match o with|.exit i=>bI (Nat.beq i id) (mI g K st .normal env ds H) (mI g K st (.exit i) env ds H)|o=>mI g K st o env ds H
 |.loop p c::st,o,env,ds,H=>match o with|.normal=>g p (.loop c) st env ds H|o=>mI g K st o env ds H
 |.scope p c::st,o,env,ds,H=>match o with|.goto l=>HJ (findLabel c l) (λr=>g ((l+2)::p) r (.scope p c::st) env ds H) (mI g K st (.goto l) env ds H)|o=>mI g K st o env ds H
def Ba(C:eD)(D:DT)(P:Program)(G:Nat)(g:GT)(K:KT):GT:=λp c st env ds H=>
 match c with
 |.skip=>mI g K st .normal env ds H
 |.region _ ops draw=>bI draw (D ops env ds H (λo env ds H=>mI g K st o env ds H)) (rW C P G ops ops.toList env ds H (λo env ds H=>mI g K st o env ds H))
 |.seq a b=>g (0::p) a (.seq (1::p) b::st) env ds H
 |.cond c a b=>kh (fa G env c) (g (0::p) a st env ds H) (g (1::p) b st env ds H)
 |.block id b=>g (0::p) b (.blk id::st) env ds H
 |.loop b=>g (0::p) b (.loop p b::st) env ds H
 |.scope b=>g (0::p) b (.scope p b::st) env ds H
 |.goto l=>mI g K st (.goto l) env ds H
 |.exit id=>mI g K st (.exit id) env ds H
 |.label _=>mI g K st .normal env ds H
 |.ret=>mI g K st .ret env ds H
 |_=>False
abbrev Tbl:=List (List Nat×xf)
def Bb:Tbl→List Nat→Option xf
 |[],_=>none
 |(m,F)::r,n=>bif HZ m n then some F else Bb r n
def goX(C:eD)(D:DT)(P:Program)(G:Nat)(t:Tbl)(K:KT)(n:Nat):GT:=Nat.rec (motive:=λ_=>GT) (λ_ _ _ _ _ _=>False)
 (λ_ ih p c st env ds H=>match Bb t p with|some F=>F env ds H|none=>Ba C D P G ih K p c st env ds H) n
def abn(o:Option (Code×List Fr))(k:Code→List Fr→Prop):Prop:=match o with|some (c,st)=>k c st|none=>False
def Ia(C:eD)(D:DT)(P:Program)(G:Nat)(body:Code)(t:Tbl)(K:KT)(n:Nat)(p:List Nat):xf:=λenv ds H=>
 abn (vQ body p) λc st=>Ba C D P G (goX C D P G t K n) K p c st env ds H
end
variable {P:Program}
def Bc(P:Program)(n:Nat)(c:Code)(Q:Exit→Act→World→Prop)(a:Act)(w:World):Prop:=match c with|.loop b=>LI P b Q n a w|c=>c.wp P Q a w
def kc(P:Program)(n:Nat):List Fr→(Exit→Act→World→Prop)→(Exit→Act→World→Prop)
 |[],Q=>Q
 |.seq _ c::st,Q=>λe a w=>match e with|.normal=>Bc P n c (kc P n st Q) a w|e=>kc P n st Q e a w
 |.blk id::st,Q=>Exit.inBlock id (kc P n st Q)
 |.loop _ c::st,Q=>λe a w=>match e with|.normal=>LI P c (kc P n st Q) n a w|e=>kc P n st Q e a w
 |.scope _ c::st,Q=>λe a w=>match e with|.goto l=>(match findLabel c l with|some r=>wI P c (kc P n st Q) n r a w|none=>kc P n st Q (.goto l) a w)|e=>kc P n st Q e a w
theorem yl{c:Code}{Q Q':Exit→Act→World→Prop}(hq:∀e a w,Q e a w→Q' e a w):∀{n m:Nat},n≤m→∀{a w},LI P c Q n a w→LI P c Q' m a w
 |0,_,_,_,_,h=>h.elim
 |n+1,0,hl,_,_,_=>absurd hl (by omega)
 |n+1,m+1,hl,a,w,h=>by
  unfold LI at h ⊢;refine Code.wp_mono (λe a w h=>?_) h;cases e<;>first|exact yl hq (Nat.le_of_succ_le_succ hl) h|exact hq _ _ _ h
theorem zT{c:Code}{Q Q':Exit→Act→World→Prop}(hq:∀e a w,Q e a w→Q' e a w):∀{n m:Nat},n≤m→∀{r a w},wI P c Q n r a w→wI P c Q' m r a w
 |0,_,_,_,_,_,h=>h.elim
 |n+1,0,hl,_,_,_,_=>absurd hl (by omega)
 |n+1,m+1,hl,r,a,w,h=>by
  unfold wI at h ⊢;refine Code.wp_mono (λe a w h=>?_) h;cases e with
  |goto l=>
   simp only at h ⊢;cases hf:findLabel c l with
   |none=>rw[hf]at h;exact hq _ _ _ h
   |some r'=>rw[hf]at h;exact zT hq (Nat.le_of_succ_le_succ hl) h
  |_=>exact hq _ _ _ h
theorem ZX{c:Code}{Q Q':Exit→Act→World→Prop}(hq:∀e a w,Q e a w→Q' e a w){n m:Nat}(hl:n≤m){a:Act}{w:World}(h:Bc P n c Q a w):Bc P m c Q' a w:=by
 unfold Bc at h ⊢;split at h
 ·exact yl hq hl h
 ·exact Code.wp_mono hq h
theorem fZ{n m:Nat}(hl:n≤m):∀{st:List Fr}{Q:Exit→Act→World→Prop}{e:Exit}{a:Act}{w:World},kc P n st Q e a w→kc P m st Q e a w
 |[],_,_,_,_,h=>h
 |.seq _ c::st,Q,e,a,w,h=>by
  cases e<;>first|exact ZX (λe a w h=>fZ hl h) hl h|exact fZ hl (st:=st) h
 |.blk id::st,Q,e,a,w,h=>by
  unfold kc Exit.inBlock at h ⊢;cases e<;>try exact fZ hl h
  rename_i i;simp only at h ⊢;split at h<;>rename_i hi
  ·rw[if_pos hi];exact fZ hl h
  ·rw[if_neg hi];exact fZ hl h
 |.loop _ c::st,Q,e,a,w,h=>by
  cases e<;>first|exact yl (λe a w h=>fZ hl h) hl h|exact fZ hl (st:=st) h
 |.scope _ c::st,Q,e,a,w,h=>by
  cases e with
  |goto l=>
   simp only[kc]at h ⊢;cases hf:findLabel c l with
   |none=>rw[hf]at h;exact fZ hl h
   |some r'=>rw[hf]at h;exact zT (λe a w h=>fZ hl h) hl h
  |_=>exact fZ hl (st:=st) h
theorem uC{n:Nat}{c:Code}{Q:Exit→Act→World→Prop}{a:Act}{w:World}(h:Bc P n c Q a w):c.wp P Q a w:=by
 unfold Bc at h;split at h
 ·exact wp_loop_rounds h
 ·exact h
theorem Ib{n:Nat}{c:Code}(hn:∀b,c≠.loop b){Q:Exit→Act→World→Prop}{a:Act}{w:World}(h:c.wp P Q a w):Bc P n c Q a w:=by
 unfold Bc;split
 ·exact absurd rfl (hn _)
 ·exact h
def EO(f:aN)(o:Out)(e:Exit):Prop:=match o with|.normal=>e=.normal|.exit id=>e=.exit id|.goto l=>e=.goto l|.ret=>e=.ret|.cZ v=>∃ch,e=.panic ch∧vL f v ch
def uD(P:Program)(c:Code)(st:List Fr)(K:KT)(env:List AV)(ds:List dF)(H:AH):Prop:=∃n,ia P env ds H K λa w Q=>Bc P n c (kc P n st Q) a w
def afc(P:Program)(st:List Fr)(K:KT)(o:Out)(env:List AV)(ds:List dF)(H:AH):Prop:=∃n o' env' ds' H',K o' env' ds' H'∧∀f w a e,HR f H w→AR P f env a→DR f ds a.defers→EO f o e→∀Q:Exit→Act→World→Prop,(∀e a' w',lB P f H w o' env' ds' H' e a' w'→Q e a' w')→kc P n st Q e a w
theorem lB.outOf{f:aN}{H:AH}{w:World}{o:Out}{env:List AV}{ds:List dF}{H':AH}{e:Exit}{a:Act}{w':World}(h:lB P f H w o env ds H' e a w') :
  ∃f',Step f H w f' H' w'∧AR P f' env a∧DR f' ds a.defers∧EO f' o e:=by
 obtain⟨f',h1,h2,h3,h4⟩:=h;exact⟨f',h1,h2,h3,by cases o<;>exact h4⟩
theorem uD.oO{c:Code}{st:List Fr}{K:KT}{env:List AV}{ds:List dF}{H:AH}(hn:∀b,c≠.loop b)
  (h:ia P env ds H (λo env ds H=>afc P st K o env ds H) λa w Q=>c.wp P Q a w):uD P c st K env ds H:=by
 obtain⟨o,dq,ds1,H1,⟨n,o',env',ds',H',g1,g2⟩,h2⟩:=h;refine⟨n,o',env',ds',H',g1,λf w a hr ha hd Q hQ=>Ib hn (h2 f w a hr ha hd _ λe a' w' hx=>?_)⟩;obtain⟨f',s,y1,y2,y3⟩:=hx.outOf;exact g2 f' w' a' e s.rel y1 y2 y3 Q λe a2 w2 hx=>hQ _ _ _ (hx.after s)
inductive Pos(body:Code):List Nat→Code→List Fr→Prop where
 |root:Pos body [] body []
 |step {p c st b c' st'}:Pos body p c st→kl p c st b=some (c',st')→Pos body (b::p) c' st'
theorem Pos.sub{body:Code}{p:List Nat}{c:Code}{st:List Fr}(h:Pos body p c st):vQ body p=some (c,st):=by
 induction h with
 |root=>rfl
 |step h1 h2 ih=>simp only[vQ,ih,h2]
theorem Pos.of_sub{body:Code}:∀{p:List Nat}{c:Code}{st:List Fr},vQ body p=some (c,st)→Pos body p c st
 |[],c,st,h=>by simp only[vQ,Option.some.injEq,Prod.mk.injEq]at h;obtain⟨rfl,rfl⟩:=h;exact .root
 |b::p,c,st,h=>by
  simp only[vQ]at h;split at h
  ·rename_i c0 st0 h0;exact .step (Pos.of_sub h0) h
  ·cases h
inductive nZ(body:Code):List Fr→Prop where
 |nil:nZ body []
 |seq {p c st}:Pos body p c st→nZ body st→nZ body (.seq p c::st)
 |blk {id st}:nZ body st→nZ body (.blk id::st)
 |loop {p c st}:Pos body p (.loop c) st→nZ body st→nZ body (.loop p c::st)
 |scope {p c st}:Pos body p (.scope c) st→nZ body st→nZ body (.scope p c::st)
theorem OP{p:List Nat}{a b:Code}{st:List Fr}{k:Nat}{c':Code}{st':List Fr}(h:kl p (.seq a b) st k=some (c',st')):(st'=.seq (1::p) b::st)∨st'=st:=by
 rcases k with _|_|k
 ·simp only[kl,Option.some.injEq,Prod.mk.injEq]at h;exact .inl h.2.symm
 ·simp only[kl,Option.some.injEq,Prod.mk.injEq]at h;exact .inr h.2.symm
 ·simp[kl]at h
theorem Pos.stack{body:Code}{p:List Nat}{c:Code}{st:List Fr}(h:Pos body p c st):nZ body st:=by
 induction h with
 |root=>exact .nil
 |@step p c st b c' st' h1 h2 ih=>
  have g:=λx y z=>@Pos.step body p c st x y z h1;cases c with
  |seq a b'=>
   rcases OP h2 with rfl|rfl
   ·exact .seq (g 1 _ _ rfl) ih
   ·exact ih
  |cond x a b'=>
   rcases b with _|_|b<;>simp only[kl,Option.some.injEq,Prod.mk.injEq,reduceCtorEq]at h2
   ·obtain⟨_,rfl⟩:=h2;exact ih
   ·obtain⟨_,rfl⟩:=h2;exact ih
  |block id a=>
   rcases b with _|b<;>simp only[kl,Option.some.injEq,Prod.mk.injEq,reduceCtorEq]at h2
   obtain⟨_,rfl⟩:=h2;exact .blk ih
  |loop a=>
   rcases b with _|b<;>simp only[kl,Option.some.injEq,Prod.mk.injEq,reduceCtorEq]at h2
   obtain⟨_,rfl⟩:=h2;exact .loop h1 ih
  |scope a=>
   rcases b with _|_|b
   ·simp only[kl,Option.some.injEq,Prod.mk.injEq]at h2;obtain⟨_,rfl⟩:=h2;exact .scope h1 ih
   ·simp[kl]at h2
   ·simp only[kl]at h2;split at h2
    ·simp only[Option.some.injEq,Prod.mk.injEq]at h2;obtain⟨_,rfl⟩:=h2;exact .scope h1 ih
    ·cases h2
  |_=>rcases b with _|_|b<;>simp[kl]at h2
abbrev GOk(P:Program)(body:Code)(K:KT)(g:GT):Prop:=∀p c st env ds H,Pos body p c st→g p c st env ds H→uD P c st K env ds H
theorem jr{body:Code}{K:KT}{g:GT}(hg:GOk P body K g):∀{st:List Fr}{o:Out}{env:List AV}{ds:List dF}{H:AH},nZ body st→mI g K st o env ds H→afc P st K o env ds H
 |[],o,env,ds,H,_,h=>⟨0,o,env,ds,H,h,λf w a e hr ha hd he Q hQ=>hQ _ _ _ ⟨f,Step.refl hr,ha,hd,by cases o<;>exact he⟩⟩
 |.seq p c::st,o,env,ds,H,hs,h=>by
  cases hs with
  |seq h1 h2=>
   cases o with
   |normal=>
    obtain⟨n,o',env',ds',H',g1,g2⟩:=hg p c st env ds H h1 h;exact⟨n,o',env',ds',H',g1,λf w a e hr ha hd he Q hQ=>by cases he;exact g2 f w a hr ha hd Q hQ⟩
   |_=>
    obtain⟨n,o',env',ds',H',g1,g2⟩:=jr hg h2 h;refine⟨n,o',env',ds',H',g1,λf w a e hr ha hd he Q hQ=>?_⟩;have:=g2 f w a e hr ha hd he Q hQ
    first|(cases he;exact this)|(obtain⟨ch,rfl,_⟩:=he;exact this)
 |.loop p c::st,o,env,ds,H,hs,h=>by
  cases hs with
  |loop h1 h2=>
   cases o with
   |normal=>
    obtain⟨n,o',env',ds',H',g1,g2⟩:=hg p (.loop c) st env ds H h1 h;exact⟨n,o',env',ds',H',g1,λf w a e hr ha hd he Q hQ=>by cases he;exact g2 f w a hr ha hd Q hQ⟩
   |_=>
    obtain⟨n,o',env',ds',H',g1,g2⟩:=jr hg h2 h;refine⟨n,o',env',ds',H',g1,λf w a e hr ha hd he Q hQ=>?_⟩;have:=g2 f w a e hr ha hd he Q hQ
    first|(cases he;exact this)|(obtain⟨ch,rfl,_⟩:=he;exact this)
 |.blk id::st,o,env,ds,H,hs,h=>by
  cases hs with
  |blk h2=>
   cases o with
   |exit i=>
    rcases dk h with⟨hi,h⟩|⟨hi,h⟩
    ·obtain⟨n,o',env',ds',H',g1,g2⟩:=jr hg h2 h;refine⟨n,o',env',ds',H',g1,λf w a e hr ha hd he Q hQ=>?_⟩;cases he;have:=g2 f w a .normal hr ha hd rfl Q hQ;simp only[kc,Exit.inBlock];rw[if_pos (Nat.eq_of_beq_eq_true hi)];exact this
    ·obtain⟨n,o',env',ds',H',g1,g2⟩:=jr hg h2 h;refine⟨n,o',env',ds',H',g1,λf w a e hr ha hd he Q hQ=>?_⟩;cases he;have:=g2 f w a (.exit i) hr ha hd rfl Q hQ;simp only[kc,Exit.inBlock];rw[if_neg (λe=>by subst e;simp at hi)];exact this
   |_=>
    obtain⟨n,o',env',ds',H',g1,g2⟩:=jr hg h2 h;refine⟨n,o',env',ds',H',g1,λf w a e hr ha hd he Q hQ=>?_⟩;have:=g2 f w a e hr ha hd he Q hQ
    first|(cases he;exact this)|(obtain⟨ch,rfl,_⟩:=he;exact this)
 |.scope p c::st,o,env,ds,H,hs,h=>by
  cases hs with
  |scope h1 h2=>
   cases o with
   |goto l=>
    have h:HJ (findLabel c l) (λr=>g ((l+2)::p) r (.scope p c::st) env ds H) (mI g K st (.goto l) env ds H):=h;cases hf:findLabel c l with
    |none=>
     rw[hf]at h;obtain⟨n,o',env',ds',H',g1,g2⟩:=jr hg h2 h;refine⟨n,o',env',ds',H',g1,λf w a e hr ha hd he Q hQ=>?_⟩;have:=g2 f w a e hr ha hd he Q hQ;cases he;simp only[kc,hf];exact this
    |some r=>
     rw[hf]at h;obtain⟨n,o',env',ds',H',g1,g2⟩:=hg ((l+2)::p) r (.scope p c::st) env ds H (h1.step (by simp[kl,hf])) h;refine⟨n+1,o',env',ds',H',g1,λf w a e hr ha hd he Q hQ=>?_⟩;have:=uC (g2 f w a hr ha hd Q hQ);cases he;simp only[kc,hf];show wI P c _ (n+1) r a w;unfold wI;refine Code.wp_mono (λe a w h=>?_) this;cases e with
     |goto l'=>
      simp only[kc]at h ⊢;cases hf':findLabel c l' with
      |none=>rw[hf']at h;exact fZ (Nat.le_succ n) h
      |some r'=>rw[hf']at h;exact zT (λe a w h=>fZ (Nat.le_succ n) h) (Nat.le_refl n) h
     |_=>exact fZ (st:=st) (Nat.le_succ n) h
   |_=>
    obtain⟨n,o',env',ds',H',g1,g2⟩:=jr hg h2 h;refine⟨n,o',env',ds',H',g1,λf w a e hr ha hd he Q hQ=>?_⟩;have:=g2 f w a e hr ha hd he Q hQ
    first|(cases he;exact this)|(obtain⟨ch,rfl,_⟩:=he;exact this)
theorem uD.wp{c:Code}{st:List Fr}{K:KT}{env:List AV}{ds:List dF}{H:AH}(h:uD P c st K env ds H){c':Code}{st':List Fr}(hn:∀b,c'≠.loop b)
  (hW:∀n f a w Q,AR P f env a→c.wp P (kc P n st Q) a w→c'.wp P (kc P n st' Q) a w):uD P c' st' K env ds H:=by
 obtain⟨n,h⟩:=h;exact⟨n,h.mono (λf a w Q ha hh=>Ib hn (hW n f a w Q ha (uC hh))) λ_ _ _ _ h=>h⟩
theorem Ic{C:eD}(hC:gQ P C){D:DT}(hD:pR P D){body:Code}{K:KT}{g:GT}(hg:GOk P body K g):GOk P body K (Ba C D P P.globals.size g K):=by
 intro p c st env ds H hp h;have hs:=hp.stack;unfold Ba at h;cases c with
 |skip=>exact uD.oO (by simp) (ia.done (jr hg hs h) .normal (.inl ⟨rfl,rfl⟩) λa w Q h=>wp_skip h)
 |region id ops draw=>
  refine uD.oO (by simp) ?_;rcases dk h with⟨rfl,h⟩|⟨rfl,h⟩
  ·exact(hD id ops env ds H _ h).mono (λ_ _ _ _ _ h=>h) λ_ _ _ _ h=>jr hg hs h
  ·exact(nz hC _ _ _ _ h).mono (λf a w Q _ h=>wp_region_list h) λ_ _ _ _ h=>jr hg hs h
 |seq a b=>exact(hg _ _ _ env ds H (hp.step rfl) h).wp (by simp) λn f x w Q _ h=>wp_seq (Code.wp_mono (λe a w h=>by cases e<;>first|exact uC h|exact h) h)
 |cond c a b=>
  have h:kh (fa P.globals.size env c) (g (0::p) a st env ds H) (g (1::p) b st env ds H):=h;generalize hv:fa P.globals.size env c=v at h;cases v<;>try exact h.elim
  case bool t=>
   have hc:∀{f:aN}{a:Act},AR P f env a→a.eval c=.bool t:=λ{f act} ha=>by
    have:=ux ha c;rw[hv]at this;generalize act.eval c=u at this;cases this;rfl
   cases t
   ·exact(hg _ _ _ env ds H (hp.step rfl) h).wp (by simp) λn f x w Q ha h=>wp_cond (hc ha) h
   ·exact(hg _ _ _ env ds H (hp.step rfl) h).wp (by simp) λn f x w Q ha h=>wp_cond (hc ha) h
 |block id c=>exact(hg _ _ _ env ds H (hp.step rfl) h).wp (by simp) λn f x w Q _ h=>wp_block h
 |loop c=>
  obtain⟨n,h⟩:=hg _ _ _ env ds H (hp.step rfl) h;refine⟨n+1,h.mono (λf a w Q _ hh=>?_) λ_ _ _ _ h=>h⟩;show LI P c _ (n+1) a w;unfold LI;refine Code.wp_mono (λe a w h=>?_) (uC hh);cases e<;>first|exact yl (λe a w h=>fZ (Nat.le_succ n) h) (Nat.le_refl n) h|exact fZ (st:=st) (Nat.le_succ n) h
 |scope c=>
  obtain⟨n,h⟩:=hg _ _ _ env ds H (hp.step rfl) h;refine⟨n,h.mono (λf a w Q _ hh=>Ib (by simp) (tt (n:=n+1) ?_)) λ_ _ _ _ h=>h⟩;unfold wI;refine Code.wp_mono (λe a w h=>?_) (uC hh);cases e with
  |goto l=>
   simp only[kc]at h ⊢;exact h
  |_=>exact h
 |exit id=>exact uD.oO (by simp) (ia.done (jr hg hs h) (.exit id) (.inr (.inl ⟨id,rfl,rfl⟩)) λa w Q h=>wp_exit h)
 |label l=>exact uD.oO (by simp) (ia.done (jr hg hs h) .normal (.inl ⟨rfl,rfl⟩) λa w Q h=>wp_label h)
 |ret=>exact uD.oO (by simp) (ia.done (jr hg hs h) .ret (.inr (.inr (.inr ⟨rfl,rfl⟩))) λa w Q h=>wp_ret h)
 |goto l=>exact uD.oO (by simp) (ia.done (jr hg hs h) (.goto l) (.inr (.inr (.inl ⟨l,rfl,rfl⟩))) λa w Q h=>wp_goto h)
 |rangeFunc=>exact h.elim
 |refuse=>exact h.elim
def xg(P:Program)(body:Code)(K:KT)(p:List Nat):xf:=λenv ds H=>∃c st,vQ body p=some (c,st)∧uD P c st K env ds H
abbrev xi:=List (List Nat×xf)
def zU(t:xi):Tbl:=t
def lK(P:Program)(body:Code)(K:KT)(t:xi):Prop:=∀e∈t,∀env ds H,e.2 env ds H→xg P body K e.1 env ds H
theorem lK.nil{body:Code}{K:KT}:lK P body K []:=λe h=>by simp at h
theorem lK.cons{body:Code}{K:KT}{p:List Nat}{F:xf}{t:xi}(h:∀env ds H,F env ds H→xg P body K p env ds H)(ht:lK P body K t):lK P body K ((p,F)::t):=λe he=>by
 rcases List.mem_cons.1 he with rfl|he
 ·exact h
 ·exact ht e he
theorem Ie:∀{t:xi}{p:List Nat}{F:xf},Bb (zU t) p=some F→(p,F)∈t
 |[],_,_,h=>by cases h
 |(q,G)::t,p,F,h=>by
  simp only[zU,Bb]at h;cases hb:HZ q p with
  |true=>
   rw[hb]at h;have h:G=F:=by simpa using h
   have:=TG hb;subst h;subst this;simp
  |false=>
   rw[hb]at h;exact List.mem_cons_of_mem _ (Ie h)
theorem TH{C:eD}(hC:gQ P C){D:DT}(hD:pR P D){body:Code}{K:KT}{t:xi}(ht:lK P body K t):∀n,GOk P body K (goX C D P P.globals.size (zU t) K n)
 |0=>λ_ _ _ _ _ _ _ h=>h.elim
 |n+1=>λp c st env ds H hp h=>by
  change (match Bb (zU t) p with|some F=>F env ds H|none=>Ba C D P P.globals.size (goX C D P P.globals.size (zU t) K n) K p c st env ds H)at h
  split at h
  ·rename_i F hF;obtain⟨c',st',h1,h2⟩:=ht _ (Ie hF) env ds H h;rw[hp.sub]at h1;cases h1;exact h2
  ·exact Ic hC hD (TH hC hD ht n) p c st env ds H hp h
theorem TI{C:eD}(hC:gQ P C){D:DT}(hD:pR P D){body:Code}{K:KT}{t:xi}(ht:lK P body K t){n:Nat}{p:List Nat}{env:List AV}{ds:List dF}{H:AH}
  (h:Ia C D P P.globals.size body (zU t) K n p env ds H):xg P body K p env ds H:=by
 unfold Ia abn at h;split at h
 ·rename_i c st hs;exact⟨c,st,hs,Ic hC hD (TH hC hD ht n) p c st env ds H (Pos.of_sub hs) h⟩
 ·exact h.elim
end
section
abbrev KF:=gN→AH→Prop
abbrev cW:=List AV→AH→KF→Prop
inductive Ty where
 |i (k:Nat)
 |b
 |a
abbrev qB(R:Type):List Ty→Type
 |[]=>R
 |.i _::τ=>Int→qB R τ
 |.b::τ=>Bool→qB R τ
 |.a::τ=>AV→qB R τ
section
def ue{R:Type}:(τ:List Ty)→qB R τ→List AV→(R→Prop)→Prop
 |[],f,l,k=>match l with|[]=>k f|_=>False
 |.i q::τ,f,l,k=>match l with|v::r=>jK v λc z=>bT (Nat.beq c q) (ue τ (f z) r k)|[]=>False
 |.b::τ,f,l,k=>match l with|v::r=>bO v λz=>ue τ (f z) r k|[]=>False
 |.a::τ,f,l,k=>match l with|v::r=>ue τ (f v) r k|[]=>False
def oc{R:Type}:(τ:List Ty)→qB R τ→(R→List AV→Prop)→Prop
 |[],f,p=>p f []
 |.i q::τ,f,p=>∀z:Int,oc τ (f z) λr l=>p r (.int q z::l)
 |.b::τ,f,p=>∀z:Bool,oc τ (f z) λr l=>p r (.bool z::l)
 |.a::τ,f,p=>∀v:AV,oc τ (f v) λr l=>p r (v::l)
def vR:List Nat→List AV→Nat→AV
 |s::r,v::l,i=>bif Nat.beq s i then v else vR r l i
 |_,_,_=>.cM
def vS(slots:List Nat)(l:List AV):Nat→Nat→List AV
 |0,_=>[]
 |n+1,i=>vR slots l i::vS slots l n (Nat.succ i)
def OQ(n:Nat)(slots:List Nat)(l:List AV):List AV:=vS slots l n 0
def afd(ds:List dF)(x:Prop):Prop:=match ds with|[]=>x|_=>False
def afe(n:Nat)(slots:List Nat)(τ:List Ty)(f:qB (AH→Prop) τ):xf:=λenv ds H=>
 bT (Nat.beq env.length n) (afd ds (ue τ f (slots.map λs=>env.getD s .cM) λr=>r H))
def eO:List (Nat×cW)→eD
 |[],_,_,_,_=>False
 |(m,F)::r,g,args,H,K=>bif Nat.beq m g then F args H K else eO r g args H K
def Ig:uy:=λ_ _ _ _ _=>False
def ao(τ:List Ty)(sh:qB (AH→KF→Prop) τ):cW:=λargs H K=>ue τ sh args λr=>r H K
end
theorem acF{v:AV}{k:Bool→Prop}(h:bO v k):∃z,v=.bool z∧k z:=by
 cases v<;>first|exact h.elim|exact⟨_,rfl,h⟩
theorem oP{R:Type}:∀{τ:List Ty}{f:qB R τ}{l:List AV}{k:R→Prop}{p:R→List AV→Prop},ue τ f l k→oc τ f p→∃r,k r∧p r l
 |[],f,l,k,p,h,g=>by
  unfold ue at h;split at h
  ·exact⟨f,h,g⟩
  ·exact h.elim
 |.i q::τ,f,l,k,p,h,g=>by
  unfold ue at h;split at h
  ·obtain⟨c,z,rfl,h⟩:=eL h;obtain⟨e,h⟩:=aF h;rw[Nat.eq_of_beq_eq_true e];exact oP (p:=λr l=>p r (.int q z::l)) h (g z)
  ·exact h.elim
 |.b::τ,f,l,k,p,h,g=>by
  unfold ue at h;split at h
  ·obtain⟨z,rfl,h⟩:=acF h;exact oP (p:=λr l=>p r (.bool z::l)) h (g z)
  ·exact h.elim
 |.a::τ,f,l,k,p,h,g=>by
  unfold ue at h;split at h
  ·rename_i v l;exact oP (p:=λr l=>p r (v::l)) h (g v)
  ·exact h.elim
theorem oc.imp{R:Type}:∀{τ:List Ty}{f:qB R τ}{p q:R→List AV→Prop},(∀r l,p r l→q r l)→oc τ f p→oc τ f q
 |[],_,_,_,h,g=>h _ _ g
 |.i _::_,_,_,_,h,g=>λz=>oc.imp (λr l=>h r _) (g z)
 |.b::_,_,_,_,h,g=>λz=>oc.imp (λr l=>h r _) (g z)
 |.a::_,_,_,_,h,g=>λz=>oc.imp (λr l=>h r _) (g z)
theorem FH(s:List Nat)(l:List AV):∀n i,(vS s l n i).length=n
 |0,_=>rfl
 |n+1,i=>by simp[vS,FH s l n]
theorem FI(s:List Nat)(l:List AV):∀n i j,j<n→(vS s l n i)[j]? = some (vR s l (i+j))
 |0,_,_,h=>absurd h (by omega)
 |n+1,i,0,_=>by simp[vS]
 |n+1,i,j+1,h=>by
  simp only[vS,List.getElem?_cons_succ];rw[FI s l n (Nat.succ i) j (by omega),Nat.succ_eq_add_one,Nat.add_assoc,Nat.add_comm 1 j]
theorem FJ(env:List AV):∀(s:List Nat) (i:Nat),vR s (s.map λt=>env.getD t .cM) i=env.getD i .cM∨vR s (s.map λt=>env.getD t .cM) i=.cM
 |[],i=>.inr (by simp[vR])
 |t::s,i=>by
  simp only[List.map_cons,vR];cases h:Nat.beq t i with
  |true=>rw[Nat.eq_of_beq_eq_true h];exact .inl rfl
  |false=>exact FJ env s i
variable {P:Program}
theorem VL.weak{f:aN}:∀{env env':List AV}{vs:List Value},VL f env vs→env'.length=env.length→(∀i,i<env.length→env'[i]? = env[i]?∨env'[i]? = some .cM)→VL f env' vs
 |_,[],_,.nil,_,_=>.nil
 |_,_::_,_,.nil,h,_=>by simp at h
 |_,[],_,.cons _ _ _ _ _ _,h,_=>by simp at h
 |_,b::env',_,.cons a v as vs h1 h2,h,hi=>by
  have h0:=hi 0 (by simp);refine .cons b v _ _ ?_ (VL.weak h2 (by simpa using h) λi hl=>by have:=hi (i+1) (by simpa using hl);simpa using this);simp at h0;rcases h0 with rfl|rfl
  ·exact h1
  ·exact .cM v
theorem xg.weak{body:Code}{K:KT}{p:List Nat}{env env':List AV}{ds:List dF}{H:AH}(h:xg P body K p env' ds H)(hl:env'.length=env.length)(hi:∀i,i<env.length→env'[i]? = env[i]?∨env'[i]? = some .cM) :
  xg P body K p env ds H:=by
 obtain⟨c,st,h1,n,o,e2,d2,H2,h3,h4⟩:=h;exact⟨c,st,h1,n,o,e2,d2,H2,h3,λf w a hr ha hd Q hQ=>h4 f w a hr ⟨ha.tmps.weak hl hi,ha.glob⟩ hd Q hQ⟩
def ZY(P:Program)(body:Code)(K:KT)(p:List Nat)(n:Nat)(slots:List Nat)(τ:List Ty)(f:qB (AH→Prop) τ):Prop:=oc τ f λr l=>∀H,r H→xg P body K p (OQ n slots l) [] H
theorem aff{body:Code}{K:KT}{p:List Nat}{n:Nat}{slots:List Nat}{τ:List Ty}{f:qB (AH→Prop) τ}(h:ZY P body K p n slots τ f):∀env ds H,afe n slots τ f env ds H→xg P body K p env ds H:=by
 intro env ds H hh;obtain⟨hl,hh⟩:=aF hh;unfold afd at hh;split at hh
 ·obtain⟨r,h1,h2⟩:=oP hh h;have hl:=Nat.eq_of_beq_eq_true hl;refine(h2 H h1).weak (by rw[OQ,FH,hl]) λi hi=>?_;rw[OQ,FI _ _ _ _ _ (by omega),Nat.zero_add];rcases FJ env slots i with e|e
  ·rw[e];left;simp[List.getD_eq_getElem?_getD,hi]
  ·rw[e];exact .inr rfl
 ·exact hh.elim
def Ih(P:Program)(f:aN):Prop:=∀g,g<P.globals.size→f.dom g∧f.blk g=g∧f.off g=0
def az(P:Program)(g:Nat)(F:cW):Prop:=cY P g=true→∀args H K,F args H K→∃o H',K o H'∧∀f w (vs:Array Value),HR f H w→Ih P f→VL f args vs.toList→Calls P g vs w (qG f H w o H')
def ad(P:Program)(t:List (Nat×cW)):Prop:=∀e∈t,az P e.1 e.2
theorem ad.nil:ad P []:=λe h=>by simp at h
theorem ad.cons{g:Nat}{F:cW}{t:List (Nat×cW)}(h:az P g F)(ht:ad P t):ad P ((g,F)::t):=λe he=>by
 rcases List.mem_cons.1 he with rfl|he
 ·exact h
 ·exact ht e he
theorem sb:∀{t:List (Nat×cW)},ad P t→gQ P (eO t)
 |[],_=>λ_ _ _ _ _ h=>h.elim
 |(m,F)::r,ht=>λg args H K hb h=>by
  unfold eO at h;cases e:Nat.beq m g with
  |true=>
   rw[e]at h;have:=Nat.eq_of_beq_eq_true e;subst this;exact ht (m,F) (by simp) hb args H K h
  |false=>
   rw[e]at h;exact sb (λe he=>ht e (List.mem_cons_of_mem _ he)) g args H K hb h
theorem acG:Dz P Ig:=λ_ _ _ _ _ _ h=>h.elim
theorem az.acH{g:Nat}{fn:Func}{body:Code}(hf:P.funcs[g]? = some fn)(hc:fn.body=some body){τ:List Ty}{sh:qB (AH→KF→Prop) τ}
  (h:∀K,oc τ sh λr l=>∀H,r H K→xg P body (OC P Ig fn K) [] (bz fn l) [] H):az P g (ao τ sh):=by
 intro _ args H K hh;obtain⟨r,h1,h2⟩:=oP hh (h K);obtain⟨c,st,h3,n,o,env',ds',H',h4,h5⟩:=h2 H h1;simp only[vQ,Option.some.injEq,Prod.mk.injEq]at h3;obtain⟨rfl,rfl⟩:=h3;have key:∀(M:fR),nA P Ig fn env' ds' M H' K→
   (∀(f:aN) (H0:AH) w (R:Ending→World→Prop) e a w',lB P f H0 w o env' ds' H' e a w'→(∀f' u,Step f H0 w f' H' w'→AR P f' env' a→DR f' ds' a.defers→MR f' M u→Leaves P fn a.tmps R a.defers u w')→bodyPostD P fn R e a w')→
   ∃o H',K o H'∧∀f w (vs:Array Value),HR f H w→Ih P f→VL f args vs.toList→Calls P g vs w (qG f H w o H'):=λM hl hb=>by
  obtain⟨co,H2,g1,g2⟩:=vN acG _ _ _ hl;refine⟨co,H2,g1,λf w vs hr hg hv=>calls_of_wp_defers hf hc (uC (h5 f w _ hr (w9 hv hg) .nil _ λe a' w' hp=>hb f H w _ e a' w' hp λf' u s ha hd hm=>?_))⟩;exact Leaves.mono (λe w h=>h.after s) _ _ _ (g2 f' w' a' a'.defers u s.rel ha hd hm)
 cases o with
 |normal=>exact key .ret h4 λf H0 w R e a w' hp hl=>by obtain⟨f',s,y1,y2,rfl⟩:=hp;exact hl f' _ s y1 y2 rfl
 |ret=>exact key .ret h4 λf H0 w R e a w' hp hl=>by obtain⟨f',s,y1,y2,rfl⟩:=hp;exact hl f' _ s y1 y2 rfl
 |cZ v=>exact key (.cZ v) h4 λf H0 w R e a w' hp hl=>by obtain⟨f',s,y1,y2,ch,rfl,hp⟩:=hp;exact hl f' _ s y1 y2 ⟨ch,rfl,hp⟩
 |exit=>exact h4.elim
 |goto=>exact h4.elim
theorem az.ZZ{g:Nat}{t:List (Nat×cW)}(ht:ad P t)(hm:P.follows .mixedOrders=true)(N d:Nat):az P g (OF (eO t) (Gy P (eO t)) P P.globals.size N d g):=
 λhb args H K h=>ZR (sb ht) (HY hm _ (sb ht)) N d g args H K hb h
end
section
section
def cR(K:KF)(o:gN)(H:AH)(k:AV→Prop):Prop:=cOut o k λv=>K (.cZ v) H
def lg(m n:Nat)(p q:AV)(x:Prop):Prop:=lZ p λb o=>lZ q λb' o'=>bT (!(Nat.beq b b')||(Nat.ble (Nat.add o m) o'||Nat.ble (Nat.add o' n) o)) x
def cI(q:Nat)(v:AV)(k:Int→Prop):Prop:=jK v λc z=>bT (Nat.beq c q) (k z)
def Ii:(τ:List Ty)→qB (AH→KF→Prop) τ
 |[]=>λ_ _=>False
 |.i _::τ=>λ_=>Ii τ
 |.b::τ=>λ_=>Ii τ
 |.a::τ=>λ_=>Ii τ
end
variable {P:Program}
theorem vU:∀(τ:List Ty),oc τ (Ii τ) λr _=>∀H K,¬r H K
 |[]=>λ_ _ h=>h
 |.i _::τ=>λ_=>(vU τ).imp λ_ _ h=>h
 |.b::τ=>λ_=>(vU τ).imp λ_ _ h=>h
 |.a::τ=>λ_=>(vU τ).imp λ_ _ h=>h
theorem cF{g:Nat}(τ:List Ty):az P g (ao τ (Ii τ)):=λ_ args H K h=>by
 obtain⟨r,h1,h2⟩:=oP h (vU τ);exact(h2 H K h1).elim
end
theorem Lf{c:Nat}{z:Int}{k:Int→Prop}(h:k ((kd c).wrap z)):bg c z k:=by
 unfold bg;cases z with
 |ofNat n=>
  show bI (oC c) (bI (Nat.ble (half c) n) (ki (nU c (.ofNat n)) k) (bw n λm=>k (.ofNat m))) (bw (Nat.mod n (full c)) λm=>k (.ofNat m));simp only[kS,aX,rM];cases hs:oC c with
  |true=>
   show bI (Nat.ble (half c) n) _ _;cases hb:Nat.ble (half c) n with
   |true=>exact h
   |false=>
    have hb':¬half c≤n:=λhle=>by rw[Nat.ble_eq_true_of_le hle]at hb;cases hb
    rw[wrap_small hs (by have:(Int.ofNat n:Int)=(n:Int):=rfl;omega) (by have:(Int.ofNat n:Int)=(n:Int):=rfl;omega)]at h;exact h
  |false=>
   rw[wG hs]at h;exact h
 |negSucc n=>
  show bI (oC c) (bI (Nat.ble (half c) n) (ki (nU c (.negSucc n)) k) (bw n λm=>k (.negSucc m))) (ki (nU c (.negSucc n)) k);simp only[kS,aX,rM];cases hs:oC c with
  |true=>
   show bI (Nat.ble (half c) n) _ _;cases hb:Nat.ble (half c) n with
   |true=>exact h
   |false=>
    have hb':¬half c≤n:=λhle=>by rw[Nat.ble_eq_true_of_le hle]at hb;cases hb
    rw[wrap_small hs (by omega) (by omega)]at h;exact h
  |false=>exact h
end Go.X
