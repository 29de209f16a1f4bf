/- A machine over values, and that what it does the model does (shortened by a program). No condition: lemmas. -/
import Derived.Test.YtcedghechlgecaaGreatDoorXa
import Derived.Lib.Overlaps
import Derived.Laws.Externs
import Derived.Lib.Bytealg
import Derived.Laws.StandIn
import Derived.Laws.IdiomStrings
import Derived.ScopeJumps
import Derived.Recover
import Derived.Orders
set_option maxRecDepth 100000
set_option maxHeartbeats 0
set_option linter.unusedVariables false
set_option linter.unusedSimpArgs false
namespace Go.X
def fj:AV:=.aY []
def l0(P:Program)(t:TypeId)(v:AV)(k:AV→Prop):Prop:=
 match P.underlying t with
 |some (.int q)=>ky v λc z=>bT (Nat.beq c (kn q)) (k (.int (kn q) z))
 |some .bool=>bf v λz=>k (.bool z)
 |_=>k v
theorem gn{P:Program}{t:TypeId}{v:AV}{k:AV→Prop}(h:l0 P t v k):k v:=by
 unfold l0 at h;split at h
 ·obtain⟨c,z,rfl,h⟩:=fC h;obtain⟨e,h⟩:=aI h;rw[Nat.eq_of_beq_eq_true e];exact h
 ·unfold bf at h;split at h
  ·exact h
  ·exact h.elim
 ·exact h
noncomputable section
def adp(m:AV)(H:AH)(k:List fE→Prop):Prop:=(match m with
 |.qN=>λk=>k []
 |.map b=>λk=>H.t.gD b λo=>(match o with|.map es _=>k es|_=>False)
 |_=>λ_=>False:(List fE→Prop)→Prop) k
def OW(m:AV)(H:AH)(k:Nat→List fE→Nat→Prop):Prop:=(match m with
 |.map b=>λk=>H.t.gD b λo=>(match o with|.map es cl=>k b es cl|_=>False)
 |_=>λ_=>False:(Nat→List fE→Nat→Prop)→Prop) k
def foundAt(P:Program)(kt:TypeId)(key:AV)(es:List fE)(k:Option Nat→Prop):Prop:=match tm P kt key es with|some r=>k r|none=>False
def aui(P:Program)(kt:TypeId)(ok:Bool)(z m key:AV)(H:AH)(k:AV→Prop):Prop:=adp m H λes=>foundAt P kt key es λr=>k (W5 ok z es r)
def aqZ(P:Program)(kt:TypeId)(m key v:AV)(H:AH)(k:AH→Prop):Prop:=OW m H λb es cl=>foundAt P kt key es λr=>ij H b (.map (OT es cl key v r) (W7 cl r)) k
def aq0(P:Program)(kt:TypeId)(m key:AV)(H:AH)(k:AH→Prop):Prop:=OW m H λb es cl=>foundAt P kt key es λr=>ij H b (.map (akC es r) cl) k
def avj(nw:Lay)(k:AV→AH→Prop):Prop:=nw (.map [] 0) λb H'=>k (.map b) H'
def UF(P:Program)(t:TypeId)(m key:AV)(ok:Bool)(H:AH)(k:AV→Prop):Prop:=match P.underlying t with
 |some (.map kt et)=>(match P.info? et with
  |some inf=>(match inf.zero with
   |some z=>bT (uI P kt) (aui P kt ok (iO z) m key H k)
   |none=>False)
  |none=>False)
 |_=>False
def UG(P:Program)(t:TypeId)(m key v:AV)(H:AH)(k:AH→Prop):Prop:=match P.underlying t with
 |some (.map kt _)=>bT (uI P kt) (aqZ P kt m key v H k)
 |_=>False
def aq1(P:Program)(t:TypeId)(m key:AV)(H:AH)(k:AH→Prop):Prop:=match P.underlying t with
 |some (.map kt _)=>bT (uI P kt) (aq0 P kt m key H k)
 |_=>False
def EC(P:Program)(b:Builtin)(ty:TypeId)(ts:Array TypeId)(args:List AV)(H:AH)(k:AV→AH→Prop):Prop:=
 match b,ts.toList,args with
 |.len,t::_,[a]=>akv P t a H λv=>l0 P ty v λv=>k v H
 |.append,[t,u],[s,x]=>aku P t u s x H k
 |.copy,[t,_],[d,s]=>W0 P t d s H λv H=>l0 P ty v λv=>k v H
 |.max,_,a::l=>BM amw l a λv=>l0 P ty v λv=>k v H
 |.min,_,a::l=>BM NT l a λv=>l0 P ty v λv=>k v H
 |.delete,t::_,[m,x]=>aq1 P t m x H λH=>k fj H
 |.cap,t::_,[a]=>akG P t a λv=>l0 P ty v λv=>k v H
 |.clear,[t],[a]=>OV P t a H λH=>k fj H
 |_,_,_=>False
def cw(H:AH)(x:Prop):Prop:=@Bt.rec eS (λ_=>Prop→Prop) (λx=>x) (λ_ _ _ _ _ x=>x) H.t x
theorem JK(H:AH)(x:Prop):cw H x=x:=by
 unfold cw;cases H.t<;>rfl
def s3(P:Program)(o:Oper)(ρ:Operand→AV)(nw:Lay)(H:AH)(k:AV→AH→Prop):Prop:=
 match o.op with
 |.move x=>k (ρ x) H
 |.assign x=>k (ρ x) H
 |.pick c a b=>lp (ρ c) (l0 P o.type (ρ a) λv=>k v H) (l0 P o.type (ρ b) λv=>k v H)
 |.alloc e=>cw H (cx P nw e k)
 |.box _ x=>JG nw (ρ x) k
 |.build t ps=>(match P.underlying t with|some (.struct fs)=>bT (OM P fs) (OD P t (ps.toList.map λx=>(x.1,ρ x.2)) λv=>k v H)|_=>False)
 |.buildSlice t n ps=>JH P nw t n (ps.toList.map λx=>(x.1,ρ x.2)) k
 |.load t a=>NR P t (ρ a) H λv=>l0 P o.type v λv=>k v H
 |.store t a x=>rU P t (ρ a) (ρ x) H λH'=>k fj H'
 |.nilCheck x=>aP (ρ x) (k (ρ x) H)
 |.binOp op t x y _=>W9 P op t x y (ρ x) (ρ y) H λv=>l0 P o.type v λv=>k v H
 |.unOp op t x=>xUn P op t (ρ x) λv=>l0 P o.type v λv=>k v H
 |.convert s d x=>W1 P s d (ρ x) H λv H=>l0 P o.type v λv=>k v H
 |.makeInterface t x=>ade P t (ρ x) λv=>k v H
 |.makeFunc fn a b=>(match fn with|.func g=>k (.func g (a.toList.map ρ) (b.toList.map ρ)) H|_=>False)
 |.makeSlice t l c=>cw H (OQ P nw t (ρ l) (ρ c) k)
 |.slice t x lo hi mx=>OH P t (ρ x) (lo.map ρ) (hi.map ρ) (mx.map ρ) λv=>k v H
 |.fieldAddr t x i=>ako P t (ρ x) i λv=>k v H
 |.field t x i=>OF P t (ρ x) i λv=>l0 P o.type v λv=>k v H
 |.indexAddr t x i=>Ex P t (ρ x) (ρ i) λv=>k v H
 |.index t x i=>OG P t (ρ x) (ρ i) λv=>l0 P o.type v λv=>k v H
 |.extract x i=>OE (ρ x) i λv=>l0 P o.type v λv=>k v H
 |.range t x=>OP P t (ρ x) H k
 |.next it s=>bT s (amv (ρ it) H k)
 |.typeAssert x _ u ok=>UB P u ok (ρ x) λv=>l0 P o.type v λv=>k v H
 |.makeMap _ r=>(match r with|none=>avj nw k|some _=>False)
 |.lookup t m key ok=>UF P t (ρ m) (ρ key) ok H λv=>l0 P o.type v λv=>k v H
 |.mapUpdate t m key x=>UG P t (ρ m) (ρ key) (ρ x) H λH'=>k fj H'
 |.call c=>(match c.callee with|.builtin b=>EC P b o.type c.argTypes (c.args.toList.map ρ) H k|_=>False)
 |_=>False
end
def vX(o:Oper):Bool:=
 match o.op with
 |.alloc _=>true
 |.box ..=>true
 |.buildSlice ..=>true
 |.makeSlice ..=>true
 |.makeMap ..=>true
 |_=>false
def turns(o:Oper):Bool:=
 match o.op with
 |.store ..=>true
 |.range ..=>true
 |.next ..=>true
 |.mapUpdate ..=>true
 |.panic _=>true
 |.defer _=>true
 |.go _=>true
 |.call c=>(match c.callee with|.builtin .append=>true|.builtin .copy=>true|.builtin .delete=>true|.builtin .clear=>true|.builtin _=>false|_=>true)
 |_=>false
section
variable {P:Program}
def Did(P:Program)(o:Oper)(a:Act)(w:World)(u:Value)(w':World):Prop:=
 (execOp a.eval o).run P w=.ok (.value u) w'∨((execOp a.eval o).run P w=.ok .skip w'∧u=undef)
def Stand(f:aO)(o:Oper)(ρ:Operand→AV)(a:Act):Prop:=∀x∈o.op.operands,VR f (ρ x) (a.eval x)
theorem gg{o:Oper}{a:Act}{w:World}{s:Sem Value}(he:execOp a.eval o=(do pure (.value (←s)))){u:Value}{w':World}(hs:s.run P w=.ok u w'):Did P o a w u w':=by
 left;rw[he];simp[hs]
theorem VR.undef(f:aO):VR f fj undef:=.aY [] [] .nil
theorem akH{a:AV}{k:Prop}(h:aP a k):k∧((∃b o,a=.ptr b o)∨(∃g x y,a=.func g x y)∨(∃t v,a=.iface t v)):=by
 cases a<;>first|exact h.elim|exact⟨h,by simp⟩
inductive akI(P:Program)(o:Oper)(ρ:Operand→AV)(nw:Lay)(H:AH)(k:AV→AH→Prop):Prop where
 |same (v:AV) (h:k v H) (g:∀f w a,HRQ f H.sem w→Stand f o ρ a→∃u,Did P o a w u w∧VR f v u)
 |new (ob:eS) (vf:Nat→AV) (hl:vX o=true) (h:nw ob λb H'=>k (vf b) H') (ho:ob.sem.own=true) (g:∀f w a,Stand f o ρ a→∃u obj,Did P o a w u (w.alloc obj)∧nG f w ob vf u obj)
 |turn (v:AV) (H':AH) (h:k v H') (ht:turns o=true) (g:∀f w a,HR f H w→Stand f o ρ a→∃u w' f',Did P o a w u w'∧Step f H w f' H' w'∧VR f' v u)
theorem akJ{f:aO}{ρ:Operand→AV}{a:Act}{x:Option Operand}(h:∀y,x=some y→VR f (ρ y) (a.eval y)):BR f (x.map ρ) (x.map a.eval):=by
 cases x with
 |none=>exact .none
 |some y=>exact .some _ _ (h y rfl)
theorem VL.oh{f:aO}{ρ:Operand→AV}{a:Act}{l:List Operand}(h:∀x∈l,VR f (ρ x) (a.eval x)):VL f (l.map ρ) (l.map a.eval):=VL.map h
theorem Xa{m:AV}{H:AH}{k:List fE→Prop}(h:adp m H k):∃es,MapAt H m es∧k es:=by
 cases m<;>try exact h.elim
 ·exact⟨[],.inl ⟨rfl,rfl⟩,h⟩
 ·rename_i b;obtain⟨o,ho,h⟩:=Bt.ef _ _ _ h;cases o<;>try exact h.elim
  rename_i es cl;exact⟨es,.inr ⟨b,cl,rfl,AH.rT ho⟩,h⟩
theorem FD{m:AV}{H:AH}{k:Nat→List fE→Nat→Prop}(h:OW m H k):∃b es cl,m=.map b∧H.at b=.map es cl∧k b es cl:=by
 cases m<;>try exact h.elim
 rename_i b;obtain⟨o,ho,h⟩:=Bt.ef _ _ _ h;cases o<;>try exact h.elim
 rename_i es cl;exact⟨b,es,cl,rfl,AH.rT ho,h⟩
theorem w7{P:Program}{kt:TypeId}{key:AV}{es:List fE}{k:Option Nat→Prop}(h:foundAt P kt key es k):∃r,tm P kt key es=some r∧k r:=by
 unfold foundAt at h;split at h
 ·exact⟨_,by assumption,h⟩
 ·exact h.elim
theorem akK{P:Program}{kt:TypeId}{m key v:AV}{H:AH}{k:AH→Prop}(h:aqZ P kt m key v H k):∃b es cl r H',m=.map b∧H.at b=.map es cl∧tm P kt key es=some r∧H'.n=H.n∧H'.at b=.map (OT es cl key v r) (W7 cl r)∧(∀c,c≠b→H'.at c=H.at c)∧k H':=by
 obtain⟨b,es,cl,rfl,hb,h⟩:=FD h;obtain⟨r,hf,h⟩:=w7 h;obtain⟨H',h,g1,g2,g3⟩:=hH h;exact⟨b,es,cl,r,H',rfl,hb,hf,g1,g2,g3,h⟩
theorem akL{P:Program}{kt:TypeId}{m key:AV}{H:AH}{k:AH→Prop}(h:aq0 P kt m key H k):∃b es cl r H',m=.map b∧H.at b=.map es cl∧tm P kt key es=some r∧H'.n=H.n∧H'.at b=.map (akC es r) cl∧(∀c,c≠b→H'.at c=H.at c)∧k H':=by
 obtain⟨b,es,cl,rfl,hb,h⟩:=FD h;obtain⟨r,hf,h⟩:=w7 h;obtain⟨H',h,g1,g2,g3⟩:=hH h;exact⟨b,es,cl,r,H',rfl,hb,hf,g1,g2,g3,h⟩
theorem TJ{o:Oper}{c:Call}{b:Builtin}{ρ:Operand→AV}{nw:Lay}{H:AH}{k:AV→AH→Prop}(ho:o.op=.call c)(hb:c.callee=.builtin b)(h:EC P b o.type c.argTypes (c.args.toList.map ρ) H k):akI P o ρ nw H k:=by
 have hops:∀{f:aO}{a:Act},Stand f o ρ a→VL f (c.args.toList.map ρ) (c.args.toList.map a.eval):=λ{f a} hs=>
  VL.oh λx hx=>hs x (by rw[ho];simp[Op.operands,Call.operands,hb];simpa using hx)
 have qe:∀a:Act,execOp a.eval o=builtin b c.argTypes o.type (c.args.map fun|.const _=>true|_=>false) (c.args.map a.eval):=λa=>by
  simp[execOp,ho,resolve,hb,invoke];rfl
 unfold EC at h;split at h
 ·rename_i t ts0 x hts hx;obtain⟨v,h1,h2⟩:=an2 (P:=P) (t:=t) (u:=t) (ty:=o.type) (ts:=c.argTypes) (by rw[←Array.getElem?_toList,hts];rfl) h;refine .same v (gn h1) λf w a hr hs=>?_;have hv:=hops hs;rw[hx]at hv;generalize hgs:c.args.toList.map a.eval=us at hv;cases hv with
  |cons _ u _ us hu hl=>
   cases hl;obtain⟨r,g1,g2⟩:=h2 f w u hr hu;refine⟨r,gg (s:=Builtin.len_ c.argTypes o.type #[u]) ?_ g1,g2⟩;rw[qe];have:c.args.map a.eval = #[u]:=by
    apply Array.ext';rw[Array.toList_map,hgs]
   rw[this];rfl
 ·rename_i t u0 s x hts hx;obtain⟨v,H',h1,h2⟩:=anZ (P:=P) (ty:=o.type) h;refine .turn v H' h1 (by simp only[turns,ho,hb]) λf w a hr hs=>?_;have hv:=hops hs;rw[hx]at hv;generalize hgs:c.args.toList.map a.eval=us at hv;cases hv with
  |cons _ u _ us hu hl=>
   cases hl with
   |cons _ u2 _ us hu2 hl=>
    cases hl;obtain⟨r,w',f',g1,g2,g3⟩:=h2 f w u u2 hr hu hu2;refine⟨r,w',f',gg (s:=Builtin.append_ #[t,u0] o.type #[u,u2]) ?_ g1,g2,g3⟩;rw[qe];have e1:c.args.map a.eval = #[u,u2]:=by
     apply Array.ext';rw[Array.toList_map,hgs]
    have e2:c.argTypes = #[t,u0]:=by
     apply Array.ext';rw[hts]
    rw[e1,e2];rfl
 ·rename_i t u0 s x hts hx;obtain⟨v,H',h1,h2⟩:=akw (P:=P) (u:=u0) (ty:=o.type) h;refine .turn v H' (gn (P:=P) (t:=o.type) (k:=λv=>k v H') h1) (by simp only[turns,ho,hb]) λf w a hr hs=>?_;have hv:=hops hs;rw[hx]at hv;generalize hgs:c.args.toList.map a.eval=us at hv;cases hv with
  |cons _ u _ us hu hl=>
   cases hl with
   |cons _ u2 _ us hu2 hl=>
    cases hl;obtain⟨r,w',f',g1,g2,g3⟩:=h2 f w u u2 hr hu hu2;refine⟨r,w',f',gg (s:=Builtin.copy_ #[t,u0] o.type #[u,u2]) ?_ g1,g2,g3⟩;rw[qe];have e1:c.args.map a.eval = #[u,u2]:=by
     apply Array.ext';rw[Array.toList_map,hgs]
    have e2:c.argTypes = #[t,u0]:=by
     apply Array.ext';rw[hts]
    rw[e1,e2];rfl
 ·rename_i x l hx;obtain⟨v,h1,h2⟩:=EA (P:=P) (λa b k=>an0) l x _ h;refine .same v (gn h1) λf w a hr hs=>?_;have hv:=hops hs;rw[hx]at hv;generalize hgs:c.args.toList.map a.eval=us at hv;cases hv with
  |cons _ u _ us hu hl=>
   obtain⟨r,g1,g2⟩:=h2 f u us hu hl;refine⟨r,gg (s:=us.foldlM Builtin.max2 u) ?_ (g1 w),g2⟩;rw[qe];have:(c.args.map a.eval).toList=u::us:=by rw[Array.toList_map,hgs]
   simp only[builtin,Builtin.max_,this]
 ·rename_i x l hx;obtain⟨v,h1,h2⟩:=EA (P:=P) (λa b k=>an1) l x _ h;refine .same v (gn h1) λf w a hr hs=>?_;have hv:=hops hs;rw[hx]at hv;generalize hgs:c.args.toList.map a.eval=us at hv;cases hv with
  |cons _ u _ us hu hl=>
   obtain⟨r,g1,g2⟩:=h2 f u us hu hl;refine⟨r,gg (s:=us.foldlM Builtin.min2 u) ?_ (g1 w),g2⟩;rw[qe];have:(c.args.map a.eval).toList=u::us:=by rw[Array.toList_map,hgs]
   simp only[builtin,Builtin.min_,this]
 ·rename_i t ts0 x y hts hx;unfold aq1 at h;split at h
  ·rename_i kt et hu;obtain⟨hl,h⟩:=aI h;obtain⟨b',es,cl,r,H',em,hm,hf,hn,hnew,hold,h⟩:=akL h;refine .turn fj H' h (by simp only[turns,ho,hb]) λf w a hr hs=>?_;have hv:=hops hs;rw[hx]at hv;generalize hgs:c.args.toList.map a.eval=us at hv;cases hv with
   |cons _ u _ us hu1 hl1=>
    cases hl1 with
    |cons _ u2 _ us hu2 hl1=>
     cases hl1;obtain⟨w',g1,g2⟩:=W8 (ts:=c.argTypes) (ty:=o.type) (by rw[←Array.getElem?_toList,hts];rfl) hu hl hm hf hn hnew hold hr (em ▸ hu1) hu2;refine⟨_,w',f,gg (s:=Builtin.delete_ c.argTypes o.type #[u,u2]) ?_ g1,g2,VR.undef f⟩;rw[qe];have e1:c.args.map a.eval = #[u,u2]:=by
      apply Array.ext';rw[Array.toList_map,hgs]
     rw[e1];rfl
  ·exact h.elim
 ·rename_i t ts0 x hts hx;obtain⟨v,h1,h2⟩:=an4 (P:=P) (t:=t) (ty:=o.type) (ts:=c.argTypes) (by rw[←Array.getElem?_toList,hts];rfl) h;refine .same v (gn h1) λf w a hr hs=>?_;have hv:=hops hs;rw[hx]at hv;generalize hgs:c.args.toList.map a.eval=us at hv;cases hv with
  |cons _ u _ us hu hl=>
   cases hl;obtain⟨r,g1,g2⟩:=h2 f w u hu;refine⟨r,gg (s:=Builtin.cap_ c.argTypes o.type #[u]) ?_ g1,g2⟩;rw[qe];have:c.args.map a.eval = #[u]:=by
    apply Array.ext';rw[Array.toList_map,hgs]
   rw[this];rfl
 ·rename_i t x hts hx;obtain⟨H',h1,h2⟩:=ado (P:=P) (ty:=o.type) h;refine .turn _ H' h1 (by simp only[turns,ho,hb]) λf w a hr hs=>?_;have hv:=hops hs;rw[hx]at hv;generalize hgs:c.args.toList.map a.eval=us at hv;cases hv with
  |cons _ u _ us hu hl=>
   cases hl;obtain⟨w',g1,g2⟩:=h2 f w u hr hu;refine⟨_,w',f,gg (s:=Builtin.clear_ #[t] o.type #[u]) ?_ g1,g2,VR.undef f⟩;rw[qe];have e1:c.args.map a.eval = #[u]:=by
    apply Array.ext';rw[Array.toList_map,hgs]
   have e2:c.argTypes = #[t]:=by
    apply Array.ext';rw[hts]
   rw[e1,e2];rfl
 ·exact h.elim
theorem OX{o:Oper}{ρ:Operand→AV}{nw:Lay}{H:AH}{k:AV→AH→Prop}(h:s3 P o ρ nw H k):akI P o ρ nw H k:=by
 unfold s3 at h;split at h
 ·rename_i x ho;exact .same _ h λf w a hr hs=>⟨_,.inl (by simp[execOp,ho]),hs x (by simp[ho,Op.operands])⟩
 ·rename_i x ho;exact .same _ h λf w a hr hs=>⟨_,.inl (by simp[execOp,ho]),hs x (by simp[ho,Op.operands])⟩
 ·rename_i c x y ho;rcases qc h with⟨e,h⟩|⟨e,h⟩
  ·refine .same _ (gn h) λf w a hr hs=>⟨_,.inl ?_,hs x (by simp[ho,Op.operands])⟩
   have:=hs c (by simp[ho,Op.operands]);rw[e]at this;simp[execOp,ho,this.pw,asBool]
  ·refine .same _ (gn h) λf w a hr hs=>⟨_,.inl ?_,hs y (by simp[ho,Op.operands])⟩
   have:=hs c (by simp[ho,Op.operands]);rw[e]at this;simp[execOp,ho,this.pw,asBool]
 ·rename_i e ho;rw[JK]at h;obtain⟨ob,vf,h1,h2,h3⟩:=ac6 h;refine .new ob vf (by simp[vX,ho]) h1 h2 λf w a hs=>?_;obtain⟨r,obj,g1,g2⟩:=h3 f w;exact⟨r,obj,gg (by simp only[execOp,ho]) g1,g2⟩
 ·rename_i e x ho;obtain⟨ob,vf,h1,h2,h3⟩:=anW (P:=P) (t:=e) h;refine .new ob vf (by simp[vX,ho]) h1 h2 λf w a hs=>?_;obtain⟨r,obj,g1,g2⟩:=h3 f w _ (hs x (by simp[ho,Op.operands]));exact⟨r,obj,gg (by simp only[execOp,ho]) g1,g2⟩
 ·rename_i t ps ho;split at h
  ·rename_i fs ht;obtain⟨h0,h⟩:=aI h;obtain⟨v,h1,h2⟩:=adb ht h0 h;refine .same v h1 λf w a hr hs=>?_;obtain⟨r,g1,g2⟩:=h2 f a.eval (λx hx=>hs x.2 (by simp only[ho,Op.operands];simp;exact⟨x.1,by simpa using hx⟩));refine⟨r,gg ?_ (g1 w),g2⟩;simp only[execOp,ho];congr 2;apply Array.ext';simp
  ·exact h.elim
 ·rename_i t n ps ho;obtain⟨ob,vf,h1,h2,h3⟩:=WY h;refine .new ob vf (by simp[vX,ho]) h1 h2 λf w a hs=>?_;obtain⟨r,obj,g1,g2⟩:=h3 f w a.eval (λx hx=>hs x.2 (by simp only[ho,Op.operands];simp;exact⟨x.1,by simpa using hx⟩));refine⟨r,obj,gg ?_ g1,g2⟩;simp only[execOp,ho];congr 2;apply Array.ext';simp
 ·rename_i t x ho;obtain⟨v,h1,h2⟩:=OK h;refine .same v (gn h1) λf w a hr hs=>?_;obtain⟨r,g1,g2⟩:=h2 f w _ hr (hs x (by simp[ho,Op.operands]));exact⟨r,gg (by simp only[execOp,ho]) g1,g2⟩
 ·rename_i t x y ho;obtain⟨H',h1,_,h2⟩:=MT h;refine .turn _ H' h1 (by simp[turns,ho]) λf w a hr hs=>?_;obtain⟨w',g1,g2⟩:=h2 f w _ _ hr (hs x (by simp[ho,Op.operands])) (hs y (by simp[ho,Op.operands]));exact⟨undef,w',f,.inr ⟨by simp[execOp,ho,g1],rfl⟩,g2,VR.undef f⟩
 ·rename_i x ho;obtain⟨h1,h2⟩:=akH h;refine .same _ h1 λf w a hr hs=>?_;have hx:=hs x (by simp[ho,Op.operands]);refine⟨_,.inl ?_,hx⟩;generalize hz:a.eval x=z at hx;rcases h2 with⟨b,o',e⟩|⟨g,p,q,e⟩|⟨t,v,e⟩<;>rw[e]at hx
  ·rw[hx.fw.1]at hz ⊢;simp only[execOp,ho,hz];rfl
  ·cases hx;simp only[execOp,ho,hz];rfl
  ·cases hx;simp only[execOp,ho,hz];rfl
 ·rename_i op t x y ty ho;obtain⟨v,h1,h2⟩:=akF h;refine .same v (gn h1) λf w a hr hs=>?_;obtain⟨r,g1,g2⟩:=h2 f w _ _ hr (hs x (by simp[ho,Op.operands])) (hs y (by simp[ho,Op.operands])) (λv e=>by rw[e];rfl) (λv e=>by rw[e];rfl);exact⟨r,gg (by simp only[execOp,ho]) g1,g2⟩
 ·rename_i op t x ho;obtain⟨v,h1,h2⟩:=aqU h;refine .same v (gn h1) λf w a hr hs=>?_;obtain⟨r,g1,g2⟩:=h2 f _ (hs x (by simp[ho,Op.operands]));exact⟨r,gg (by simp only[execOp,ho]) (g1 w),g2⟩
 ·rename_i s d x ho;obtain⟨v,h1,h2⟩:=akx h;refine .same v (gn h1) λf w a hr hs=>?_;obtain⟨r,g1,g2⟩:=h2 f w _ hr (hs x (by simp[ho,Op.operands]));exact⟨r,gg (by simp only[execOp,ho]) g1,g2⟩
 ·rename_i t x ho;obtain⟨v,h1,h2⟩:=adj h;refine .same v h1 λf w a hr hs=>?_;obtain⟨r,g1,g2⟩:=h2 f _ (hs x (by simp[ho,Op.operands]));exact⟨r,gg (by simp only[execOp,ho]) (g1 w),g2⟩
 ·rename_i fn x y ho;split at h
  ·rename_i g;refine .same _ h λf w a hr hs=>?_;have h1:VL f (x.toList.map ρ) (x.toList.map a.eval):=VL.oh λz hz=>hs z (by simp[ho,Op.operands];left;simpa using hz);have h2:VL f (y.toList.map ρ) (y.toList.map a.eval):=VL.oh λz hz=>hs z (by simp[ho,Op.operands];right;simpa using hz);refine⟨.func (.func g) (x.map a.eval) (y.map a.eval),gg (s:=Instr.makeFunc (.func g) (x.map a.eval) (y.map a.eval)) (by simp only[execOp,ho]) rfl,?_⟩;have e1:x.map a.eval=(x.toList.map a.eval).toArray:=by apply Array.ext';simp
   have e2:y.map a.eval=(y.toList.map a.eval).toArray:=by apply Array.ext';simp
   rw[e1,e2];exact .func g _ _ _ _ h1 h2
  ·exact h.elim
 ·rename_i t x y ho;rw[JK]at h;obtain⟨ob,vf,h1,h2,h3⟩:=adl h;refine .new ob vf (by simp[vX,ho]) h1 h2 λf w a hs=>?_;obtain⟨r,obj,g1,g2⟩:=h3 f w _ _ (hs x (by simp[ho,Op.operands])) (hs y (by simp[ho,Op.operands]));exact⟨r,obj,gg (by simp only[execOp,ho]) g1,g2⟩
 ·rename_i t x lo hi mx ho;obtain⟨v,h1,h2⟩:=ada h;refine .same v h1 λf w a hr hs=>?_;obtain⟨r,g1,g2⟩:=h2 f _ _ _ _ (hs x (by simp[ho,Op.operands])) (akJ (a:=a) λy e=>hs y (by subst e;simp[ho,Op.operands])) (akJ (a:=a) λy e=>hs y (by subst e;simp[ho,Op.operands])) (akJ (a:=a) λy e=>hs y (by subst e;simp[ho,Op.operands]));exact⟨r,gg (by simp only[execOp,ho]) (g1 w),g2⟩
 ·rename_i t x i ho;obtain⟨v,h1,h2⟩:=anX h;refine .same v h1 λf w a hr hs=>?_;obtain⟨r,g1,g2⟩:=h2 f _ (hs x (by simp[ho,Op.operands]));exact⟨r,gg (by simp only[execOp,ho]) (g1 w),g2⟩
 ·rename_i t x i ho;obtain⟨v,h1,h2⟩:=ac7 h;refine .same v (gn h1) λf w a hr hs=>?_;obtain⟨r,g1,g2⟩:=h2 f _ (hs x (by simp[ho,Op.operands]));exact⟨r,gg (by simp only[execOp,ho]) (g1 w),g2⟩
 ·rename_i t x i ho;obtain⟨v,h1,h2⟩:=TF h;refine .same v h1 λf w a hr hs=>?_;obtain⟨r,g1,g2⟩:=h2 f _ _ (hs x (by simp[ho,Op.operands])) (hs i (by simp[ho,Op.operands]));exact⟨r,gg (by simp only[execOp,ho]) (g1 w),g2⟩
 ·rename_i t x i ho;obtain⟨v,h1,h2⟩:=ac8 h;refine .same v (gn h1) λf w a hr hs=>?_;obtain⟨r,g1,g2⟩:=h2 f _ _ (hs x (by simp[ho,Op.operands])) (hs i (by simp[ho,Op.operands]));exact⟨r,gg (by simp only[execOp,ho]) (g1 w),g2⟩
 ·rename_i x i ho;obtain⟨v,h1,h2⟩:=TE (P:=P) h;refine .same v (gn h1) λf w a hr hs=>?_;obtain⟨r,g1,g2⟩:=h2 f _ (hs x (by simp[ho,Op.operands]));exact⟨r,gg (by simp only[execOp,ho]) (g1 w),g2⟩
 ·rename_i t x ho;obtain⟨v,H',h1,h2⟩:=adk h;refine .turn v H' h1 (by simp[turns,ho]) λf w a hr hs=>?_;obtain⟨r,w',f',g1,g2,g3⟩:=h2 f w _ hr (hs x (by simp[ho,Op.operands]));exact⟨r,w',f',gg (by simp only[execOp,ho]) g1,g2,g3⟩
 ·rename_i x s ho;obtain⟨hs0,h⟩:=aI h;obtain⟨v,H',h1,h2⟩:=aky (P:=P) (ty:=o.type) h;refine .turn v H' h1 (by simp[turns,ho]) λf w a hr hs=>?_;obtain⟨r,w',f',g1,g2,g3⟩:=h2 f w _ hr (hs x (by simp[ho,Op.operands]));exact⟨r,w',f',gg (by simp only[execOp,ho,hs0]) g1,g2,g3⟩
 ·rename_i x t u ok ho;obtain⟨v,h1,h2⟩:=W3 (t:=t) h;refine .same v (gn h1) λf w a hr hs=>?_;obtain⟨r,g1,g2⟩:=h2 f _ (hs x (by simp[ho,Op.operands]));exact⟨r,gg (by simp only[execOp,ho]) (g1 w),g2⟩
 ·rename_i t r ho;split at h
  ·obtain h:nw (.map [] 0) λb H'=>k (.map b) H':=h;refine .new (.map [] 0) (λb=>.map b) (by simp[vX,ho]) h rfl λf w a hs=>?_;exact⟨_,_,gg (by simp only[execOp,ho];rfl) (TI w),allocMap f w⟩
  ·exact h.elim
 ·rename_i t m key ok ho;unfold UF at h;split at h
  ·rename_i kt et hu;split at h
   ·rename_i inf hi;split at h
    ·rename_i z hz;obtain⟨hl,h⟩:=aI h;obtain⟨es,hm,h⟩:=Xa h;obtain⟨r,hf,h⟩:=w7 h;refine .same _ (gn h) λf w a hr hs=>?_;obtain⟨v,g1,g2⟩:=W6 hu hi hz hl hm hf ok hr (hs m (by simp[ho,Op.operands])) (hs key (by simp[ho,Op.operands]));exact⟨v,gg (by simp only[execOp,ho]) g1,g2⟩
    ·exact h.elim
   ·exact h.elim
  ·exact h.elim
 ·rename_i t m key x ho;unfold UG at h;split at h
  ·rename_i kt et hu;obtain⟨hl,h⟩:=aI h;obtain⟨b,es,cl,r,H',em,hb,hf,hn,hnew,hold,h⟩:=akK h;refine .turn _ H' h (by simp[turns,ho]) λf w a hr hs=>?_;obtain⟨w',g1,g2⟩:=NN hu hl hb hf hn hnew hold hr (em ▸ hs m (by simp[ho,Op.operands])) (hs key (by simp[ho,Op.operands])) (hs x (by simp[ho,Op.operands]));exact⟨undef,w',f,.inr ⟨by simp[execOp,ho,g1],rfl⟩,g2,VR.undef f⟩
  ·exact h.elim
 ·rename_i c ho;split at h
  ·rename_i b hb;exact TJ ho hb h
  ·exact h.elim
 ·exact h.elim
end
noncomputable section
def Ay(n x m y:Nat):Int:=match vM n x m y with|true=>.negSucc 0|false=>(match Nat.beq n m&&Nat.beq x y with|true=>.ofNat 0|false=>.ofNat 1)
def avk(a b:AV)(k:AV→Prop):Prop:=gy a λn x=>gy b λm y=>k (.int 0 (Ay n x m y))
def Xb(P:Program)(g:Nat):Bool:=match P.funcs[g]? with|some fn=>fn.body.isNone&&(fn.name == "internal/bytealg.abigen_runtime_cmpstring" && fn.origin == "")|none=>false
def noRow(n:String):Bool:=(Extern.allGenericRows.lookup n).isNone&&((Extern.allTypedRows.lookup n).isNone&&((Extern.allRows.lookup n).isNone&&(Extern.allNextRows.lookup n).isNone))
def akM(P:Program)(g:Nat):Bool:=match P.funcs[g]? with
 |some fn=>fn.body.isNone&&(fn.origin == "slices.overlaps" && (noRow fn.name&&(!(fn.name == "runtime.NumGoroutine")&&(match fn.params[0]? with|some t=>(match P.underlying t with|some (.slice e)=>(P.info? e).isSome|_=>false)|none=>false))))
 |none=>false
def akN(P:Program)(g:Nat)(args:List AV)(H:AH)(k:AV→Prop):Prop:=match Xb P g with
 |true=>(match args with|[a,b]=>avk a b k|_=>False)
 |false=>bT (akM P g) (match args with|[a,b]=>NW a b H k|_=>False)
def Xc(P:Program)(f:Operand):Option Nat:=match f with|.func g=>(match Xb P g||akM P g with|true=>some g|false=>none)|_=>none
end
theorem adq{P:Program}{f:Operand}{g:Nat}(h:Xc P f=some g):f=.func g:=by
 unfold Xc at h;split at h
 ·split at h
  ·cases h;rfl
  ·cases h
 ·cases h
theorem UH:∀(n x m y:Nat),x<256^n→y<256^m→Ay n x m y=Lib.compareBytes (jl n x) (jl m y)
 |0,x,0,y,hx,hy=>by
  have:x=0:=by simp at hx;exact hx
  have:y=0:=by simp at hy;exact hy
  subst x;subst y;rfl
 |0,x,m+1,y,hx,hy=>by simp[Ay,vM,jl,Lib.compareBytes]
 |n+1,x,0,y,hx,hy=>by
  have e:Nat.beq (n+1) 0=false:=rfl;simp[Ay,vM,jl,Lib.compareBytes,e]
 |n+1,x,m+1,y,hx,hy=>by
  have h1:=Nat.mod_lt x (show 256>0 by omega);have h2:=Nat.mod_lt y (show 256>0 by omega);have ih:=UH n (x/256) m (y/256) (by rw[Nat.pow_succ]at hx;omega) (by rw[Nat.pow_succ]at hy;omega);have hlt:∀a b:Nat,a<256→b<256→(UInt8.ofNat a<UInt8.ofNat b↔a<b):=λa b ha hb=>by
   simp[UInt8.lt_iff_toNat_lt];omega
  simp only[jl,Lib.compareBytes];have hs:vM (n+1) x (m+1) y=(Nat.ble (Nat.succ (x%256)) (y%256)||(Nat.beq (x%256) (y%256)&&vM n (x/256) m (y/256))):=rfl;rcases Nat.lt_trichotomy (x%256) (y%256)with h|h|h
  ·rw[if_pos ((hlt _ _ h1 h2).2 h)];unfold Ay;rw[hs,Nat.ble_eq_true_of_le h];rfl
  ·rw[if_neg (by rw[hlt _ _ h1 h2];omega),if_neg (by rw[hlt _ _ h2 h1];omega),←ih];unfold Ay;have e1:Nat.ble (Nat.succ (x%256)) (y%256)=false:=by
    cases e:Nat.ble (Nat.succ (x%256)) (y%256)with
    |false=>rfl
    |true=>have:=Nat.le_of_ble_eq_true e;omega
   have e3:(Nat.beq (n+1) (m+1)&&Nat.beq x y)=(Nat.beq n m&&Nat.beq (x/256) (y/256)):=by
    rw[Bool.eq_iff_iff];simp only[Bool.and_eq_true];have hb:∀a b:Nat,Nat.beq a b=true↔a=b:=λa b=>⟨Nat.eq_of_beq_eq_true,λh=>by subst h;exact Nat.beq_refl a⟩
    rw[hb,hb,hb,hb];omega
   rw[hs,e1,h,Nat.beq_refl,e3];rfl
  ·rw[if_neg (by rw[hlt _ _ h1 h2];omega),if_pos ((hlt _ _ h2 h1).2 h)];unfold Ay;have e1:Nat.ble (Nat.succ (x%256)) (y%256)=false:=by
    cases e:Nat.ble (Nat.succ (x%256)) (y%256)with
    |false=>rfl
    |true=>have:=Nat.le_of_ble_eq_true e;omega
   have e2:Nat.beq (x%256) (y%256)=false:=by
    cases e:Nat.beq (x%256) (y%256)with
    |false=>rfl
    |true=>have:=Nat.eq_of_beq_eq_true e;omega
   have e3:Nat.beq x y=false:=by
    cases e:Nat.beq x y with
    |false=>rfl
    |true=>have:=Nat.eq_of_beq_eq_true e;omega
   rw[hs,e1,e2,e3,Bool.and_false];rfl
theorem an5(fn:Func)(h:fn.name = "internal/bytealg.abigen_runtime_cmpstring"):Extern.find fn=some Extern.BytealgCompare.compare:=by
 unfold Extern.find;rw[h]
 kernel_rfl
theorem TK(fn:Func)(h:fn.name = "internal/bytealg.abigen_runtime_cmpstring") (h2:fn.origin = ""):Extern.findNext fn=none:=by
 unfold Extern.findNext;rw[h,h2]
 kernel_rfl
theorem akO{P:Program}{g:Nat}(h:Xb P g=true)(args:Array Value)(w:World):(callFunc g args).run P w=((Extern.BytealgCompare.compare args).run P w).andThen λv w'=>.ok (.value v) w':=by
 unfold Xb at h;split at h
 ·rename_i fn hf;rw[Bool.and_eq_true,Bool.and_eq_true]at h;have h1:fn.name = "internal/bytealg.abigen_runtime_cmpstring" := by simpa using h.2.1
  have h2:fn.origin = "" := by simpa using h.2.2
  refine run_callFunc_extern hf ?_ h.1 (TK fn h1 h2) (an5 fn h1) args w;rw[h1];decide
 ·cases h
theorem an6(fn:Func)(h:fn.origin = "slices.overlaps") (hn:noRow fn.name=true):Extern.find fn=some (Extern.SlicesOverlaps.overlaps fn.params fn.resultTypes):=by
 unfold noRow at hn;simp only[Bool.and_eq_true,Option.isNone_iff_eq_none]at hn;obtain⟨h1,h2,h3,_⟩:=hn;have g1:Extern.allGenericRows.lookup "slices.overlaps" = none:=by kernel_rfl
 have g2:Extern.allTypedRows.lookup "slices.overlaps" = some Extern.SlicesOverlaps.overlaps:=by kernel_rfl
 unfold Extern.find;rw[h];simp only[h1,h2,h3,g1,g2];rfl
theorem TL(fn:Func)(h:fn.origin = "slices.overlaps") (hn:noRow fn.name=true):Extern.findNext fn=none:=by
 unfold noRow at hn;simp only[Bool.and_eq_true,Option.isNone_iff_eq_none]at hn;obtain⟨_,_,_,h4⟩:=hn;have g1:Extern.allNextRows.lookup "slices.overlaps" = none:=by kernel_rfl
 unfold Extern.findNext;rw[h];simp only[h4,g1];rfl
theorem Ed{w:World}{b x:Nat}{cur:Array Value}{e:TypeId}(h:w.heap[b]? = some (.cells cur e (0,0))):w.frozen? ⟨b,x,none⟩=false:=by
 unfold World.frozen?;rw[h];simp
theorem rR(ps rs:Array TypeId)(p q:Option Addr)(la ca lb cb:Nat):Extern.SlicesOverlaps.overlaps ps rs #[.slice p la ca,.slice q lb cb]=(do
  let some t:=ps[0]?|stuck "slices.overlaps: no parameter types"
  let .slice elem ←underlying t|stuck "slices.overlaps: slice type expected"
  let size ←sizeOf elem
  match p,q with
  |some a,some b=>
   if la=0∨lb=0∨size=0 then pure (Value.bool false)
   else if a.block != b.block&&(←frozen a)&&(←frozen b) then unsupported .addressObserved
   else do
    if a.block != b.block then do
     noView a;noView b
     if ←mayBeOne a b then return Value.bool ((←choose (.extern "sameAddr.stringBytes" 2)) == 1)
    pure (Value.bool (a.block == b.block&&a.off<b.off+lb*size&&b.off<a.off+la*size))
  |_,_=>pure (Value.bool false)):=rfl
theorem FE{ps rs rs':Array TypeId}{t:TypeId}(h:ps[0]? = some t)(p q:Option Addr)(la ca lb cb:Nat):Extern.SlicesOverlaps.overlaps ps rs #[.slice p la ca,.slice q lb cb]=Extern.SlicesOverlaps.overlaps #[t,t] rs' #[.slice p la ca,.slice q lb cb]:=by
 rw[rR,rR,h];rfl
theorem adr{P:Program}{f:aO}{H:AH}{w:World}{tS e:TypeId}{i:TypeInfo}(ht:P.underlying tS=some (.slice e))(hi:P.info? e=some i){ps rs:Array TypeId}(hps:ps[0]? = some tS){a b:AV}{u v:Value}{k:AV→Prop}(hr:HRQ f H.sem w)(ha:VR f a u)(hb:VR f b v)(h:NW a b H k) :
  (Extern.SlicesOverlaps.overlaps ps rs #[u,v]).run P w=.ok (.bool false) w:=by
 have hz:∀w,(sizeOf e).run P w=.ok i.size w:=λw=>by simp[sizeOf,typeInfo,hi]
 have UI:∀(p q:Option Addr) (la ca lb cb:Nat),p=none∨q=none→(Extern.SlicesOverlaps.overlaps ps rs #[.slice p la ca,.slice q lb cb]).run P w=.ok (.bool false) w:=λp q la ca lb cb h=>by
  rcases h with rfl|rfl
  ·rw[rR,hps];simp[run_underlying ht,hz]
  ·rw[rR,hps];cases p<;>simp[run_underlying ht,hz]
 unfold NW at h;rcases im h with⟨rfl,g⟩|⟨b1,o1,l1,c1,s1,x1,rfl,g⟩
 ·cases ha;have hv:∃q lb cb,v=.slice q lb cb:=by
   rcases im g with⟨rfl,g2⟩|⟨b2,o2,l2,c2,s2,x2,rfl,g2⟩
   ·cases hb;exact⟨_,_,_,rfl⟩
   ·cases hb;exact⟨_,_,_,rfl⟩
  obtain⟨q,lb,cb,rfl⟩:=hv;exact UI _ _ _ _ _ _ (.inl rfl)
 ·rcases im g with⟨rfl,g2⟩|⟨b2,o2,l2,c2,s2,x2,rfl,g2⟩
  ·cases ha;cases hb;exact UI _ _ _ _ _ _ (.inr rfl)
  ·obtain⟨hne,g3⟩:=aI g2;obtain⟨d1,n1,m1,hb1,g4⟩:=ef g3;obtain⟨hm1,g5⟩:=aI g4;obtain⟨d2,n2,m2,hb2,g6⟩:=ef g5;obtain⟨hn2,_⟩:=aI g6;have hm1:m1=0:=Nat.eq_of_beq_eq_true hm1;subst hm1;have hn2:1≤n2:=Nat.le_of_ble_eq_true hn2;have hne':b1≠b2:=λe=>by subst e;simp at hne
   cases ha with
   |slice _ _ _ _ _ _ cap1 y1 hd1 _ _ _ _=>
    cases hb with
    |slice _ _ _ _ _ _ cap2 y2 hd2 _ _ _ _=>
     have hblk:f.blk b1≠f.blk b2:=λe=>hne' (hr.inj b1 b2 hd1 hd2 (by rw[AH.bX,hb1];rfl) (by rw[AH.bX,hb2];rfl) e);obtain⟨avl,e1,lo1,hi1,q1,q2,q3,_,_,q6⟩:=hr.cells hd1 hb1;obtain⟨avm,e2,lo2,hi2,r1,r2,r3,_⟩:=hr.cells hd2 hb2;obtain⟨rfl,rfl⟩:=q6 rfl;have:=Lib.run_overlaps_apart (P:=P) w tS tS e ht i.size hz ⟨f.blk b1,y1,none⟩ ⟨f.blk b2,y2,none⟩ l1 cap1 l2 cap2 hblk e1 e2 avl.size avm.size (by simp[World.shape?,q1]) (by simp[World.shape?,r1]) (by omega) (Ed q1) (Ed q1);rw[FE hps];exact this
theorem an7{P:Program}{g:Nat}{args:List AV}{H:AH}{k:AV→Prop}(h:akN P g args H k):∃v,k v∧∀f w (vs:Array Value),HR f H w→VL f args vs.toList→∃u,(callFunc g vs).run P w=.ok (.value u) w∧VR f v u:=by
 unfold akN at h;split at h
 ·rename_i hc;split at h
  ·rename_i a b;obtain⟨n,x,rfl,h1⟩:=hV h;obtain⟨m,y,rfl,h2⟩:=hV h1;refine⟨_,h2,λf w vs _ hv=>?_⟩;have e:vs=vs.toList.toArray:=by simp
   rw[e];generalize vs.toList=l at hv;cases hv with
   |cons _ u _ us hu hl=>
    cases hl with
    |cons _ u2 _ us hu2 hl=>
     cases hl;obtain⟨rfl,hx⟩:=hu.jC;obtain⟨rfl,hy⟩:=hu2.jC;refine⟨.int .i64 (Ay n x m y),?_,.int 0 _⟩;rw[akO hc,Lib.run_compareString];simp only[Result.andThen_ok];rw[UH n x m y hx hy];rfl
  ·exact h.elim
 ·obtain⟨hc,h⟩:=aI h;split at h
  ·rename_i a b;unfold akM at hc;split at hc
   ·rename_i fn hf;simp only[Bool.and_eq_true,Bool.not_eq_true',beq_iff_eq]at hc;obtain⟨h1,h2,h3,h4,h5⟩:=hc;split at h5
    ·rename_i tS hps;split at h5
     ·rename_i e ht;obtain⟨i,hi⟩:=Option.isSome_iff_exists.1 h5;refine⟨.bool false,?_,λf w vs hr hv=>?_⟩
      ·unfold NW at h;rcases im h with⟨_,h⟩|⟨_,_,_,_,_,_,_,h⟩
       ·rcases im h with⟨_,h⟩|⟨_,_,_,_,_,_,_,h⟩<;>exact h
       ·rcases im h with⟨_,h⟩|⟨_,_,_,_,_,_,_,h⟩
        ·exact h
        ·obtain⟨_,h⟩:=aI h;obtain⟨_,_,_,_,h⟩:=ef h;obtain⟨_,h⟩:=aI h;obtain⟨_,_,_,_,h⟩:=ef h;exact(aI h).2
      ·have e:vs=vs.toList.toArray:=by simp
       rw[e];generalize vs.toList=l at hv;cases hv with
       |cons _ u _ us hu hl=>
        cases hl with
        |cons _ u2 _ us hu2 hl=>
         cases hl;refine⟨.bool false,?_,.bool false⟩;rw[run_callFunc_extern hf h4 h1 (TL fn h2 h3) (an6 fn h2 h3)];have:=adr ht hi hps (rs:=fn.resultTypes) hr.toHRQ hu hu2 h;simp only[this,Result.andThen_ok]
     ·cases h5
    ·cases h5
   ·cases hc
  ·exact h.elim
structure eT where
 g:Nat
 args:List AV
inductive Out where
 |normal
 |exit (id:Nat)
 |goto (l:Nat)
 |ret
 |dB (v:AV)
inductive kI where
 |ret (v:AV)
 |dB (v:AV)
abbrev fx:=Nat→List AV→AH→(kI→AH→Prop)→Prop
noncomputable section
def fQ(G:Nat)(env:List AV):Operand→AV
 |.tmp t=>env.getD t fj
 |.const v=>iO v
 |.global g=>if Nat.ble (Nat.succ g) G then .ptr g 0 else .df
 |.func f=>.func f [] []
def cU(env:List AV)(dst:Option Tmp)(v:AV):List AV:=match dst with|some d=>env.set d v|none=>env
def OY(a:AV)(k:Nat→List AV→List AV→Prop):Prop:=match a with|.func g x y=>k g x y|_=>False
def JL(a:AV)(k:Prop):Prop:=match a with|.iface _ _=>k|_=>False
def nf(P:Program)(g:Nat):Bool:=match P.funcs[g]? with|some fn=>fn.body.isSome && !(fn.name == "runtime.NumGoroutine")|none=>false
def cOut(o:kI)(k:AV→Prop)(kp:AV→Prop):Prop:=match o with|.ret v=>k v|.dB v=>kp v
def NX(P:Program)(s t:TypeId):Bool:=match P.underlying s,P.underlying t with
 |some .string,some (.slice e)=>(match P.underlying e with|some (.int .u8)=>true|_=>false)
 |_,_=>false
def uJ(C:fx)(P:Program)(G:Nat)(o:Oper)(ρ:Operand→AV)(nw:Lay)(H:AH)(k:AV→AH→Prop)(kp:AV→AH→Prop):Prop:=
 match o.op with
 |.call c=>(match c.callee with
  |.value f=>(match Xc P f with
   |some g=>akN P g (c.args.toList.map ρ) H λv=>l0 P o.type v λv=>k v H
   |none=>OY (ρ f) λg x y=>bT (nf P g) (C g (x++(c.args.toList.map ρ++y)) H λo' H'=>cOut o' (λv=>l0 P o.type v λv=>k v H') (λv=>kp v H')))
  |_=>s3 P o ρ nw H k)
 |.panic x=>JL (ρ x) (kp (ρ x) H)
 |.convert s t x=>bI (NX P s t) (Ez nw (ρ x) k) (s3 P o ρ nw H k)
 |_=>s3 P o ρ nw H k
def amx(C:fx)(P:Program)(G:Nat)(o:Oper)(env:List AV)(ds:List eT)(H:AH)(k:List AV→List eT→AH→Prop)(kp:AV→AH→Prop):Prop:=
 match o.op with
 |.defer c=>(match c.callee with
  |.value f=>OY (fQ G env f) λg x y=>bT (nf P g) (k (cU env o.dst fj) (⟨g,x++(c.args.toList.map (fQ G env)++y)⟩::ds) H)
  |_=>False)
 |_=>uJ C P G o (fQ G env) (aA H) H (λv H'=>k (cU env o.dst v) ds H') kp
def BN(o:Oper):Bool:=match o.op with|.defer _=>true|_=>false
def FF(v:AV)(want:Bool)(x y:Prop):Prop:=match v with|.bool b=>(match want with|true=>bI b x y|false=>bI b y x)|.aY _=>y|_=>False
theorem Ee{b want:Bool}{x y:Prop}(h:FF (.bool b) want x y):bI (b == want) x y:=by cases b<;>cases want<;>exact h
def oE(ops:Array Oper)(env:List AV)(j:Nat):AV:=match (ops[j]?).bind (·.dst)with|some t=>env.getD t .df|none=>.df
def FG(ops:Array Oper)(env:List AV)(j:Nat)(want:Bool)(x y:List AV→Prop):Prop:=match oE ops env j with
 |.bool b=>bI b (bI want (x (cU env ((ops[j]?).bind (·.dst)) (.bool true))) (y (cU env ((ops[j]?).bind (·.dst)) (.bool true)))) (bI want (y (cU env ((ops[j]?).bind (·.dst)) (.bool false))) (x (cU env ((ops[j]?).bind (·.dst)) (.bool false))))
 |.aY _=>y env
 |_=>False
def uK(C:fx)(P:Program)(G:Nat)(ops:Array Oper):List Oper→List AV→List eT→AH→(Out→List AV→List eT→AH→Prop)→Prop
 |[],env,ds,H,K=>K .normal env ds H
 |o::rest,env,ds,H,K=>
  match o.guard with
  |none=>amx C P G o env ds H (λenv ds H=>uK C P G ops rest env ds H K) (λv H=>K (.dB v) env ds H)
  |some (j,want)=>bT (!(BN o)) (FG ops env j want (λenv=>uJ C P G o (fQ G env) (aA H) H (λv H=>uK C P G ops rest (cU env o.dst v) ds H K) (λv H=>K (.dB v) env ds H)) (λenv=>uK C P G ops rest (cU env o.dst fj) ds H K))
end
structure AR(P:Program)(f:aO)(env:List AV)(a:Act):Prop where
 tmps:VL f env a.tmps.toList
 glob:∀g,g<P.globals.size→f.dom g∧f.blk g=g∧f.off g=0
inductive DR(f:aO):List eT→List Deferred→Prop
 |nil:DR f [] []
 |cons (g:Nat) (args:List AV) (cap vs:Array Value) (ds:List eT) (es:List Deferred):VL f args (vs++cap).toList→DR f ds es→DR f (⟨g,args⟩::ds) (⟨.fn (.func g) cap,vs⟩::es)
theorem DR.up{f f':aO}(h:f.le f'):∀{ds:List eT}{es:List Deferred},DR f ds es→DR f' ds es
 |_,_,.nil=>.nil
 |_,_,.cons g args cap vs ds es h1 h2=>.cons g args cap vs ds es (h1.up h) (DR.up h h2)
theorem AR.up{P:Program}{f f':aO}(h:f.le f'){env:List AV}{a:Act}(r:AR P f env a):AR P f' env a:=
 ⟨r.tmps.up h,λg hg=>⟨h.dom g (r.glob g hg).1,(h.blk g (r.glob g hg).1).trans (r.glob g hg).2.1,(h.off g (r.glob g hg).1).trans (r.glob g hg).2.2⟩⟩
section
variable {P:Program}
theorem xx{f:aO}{env:List AV}{a:Act}(h:AR P f env a)(x:Operand):VR f (fQ P.globals.size env x) (a.eval x):=by
 cases x with
 |tmp t=>
  simp only[fQ,Act.eval];rcases Nat.lt_or_ge t env.length with hl|hl
  ·obtain⟨v,h1,h2⟩:=h.tmps.get t env[t] (List.getElem?_eq_getElem hl);have e1:env.getD t fj=env[t]:=by simp[List.getD,List.getElem?_eq_getElem hl]
   have e2:a.tmps.getD t undef=v:=by
    rw[Array.getElem?_toList]at h1;simp[Array.getD_eq_getD_getElem?,h1]
   rw[e1,e2];exact h2
  ·have e1:env.getD t fj=fj:=by simp[List.getD,List.getElem?_eq_none hl]
   have hlen:=h.tmps.length;have e2:a.tmps.getD t undef=undef:=by
    have e:a.tmps.toList.length=a.tmps.size:=Array.length_toList;simp[Array.getD_eq_getD_getElem?,Array.getElem?_eq_none (show a.tmps.size≤t by omega)]
   rw[e1,e2];exact VR.undef f
 |const v=>exact pH f v
 |global g=>
  simp only[fQ,Act.eval];split
  ·rename_i hg;obtain⟨h1,h2,h3⟩:=h.glob g (Nat.le_of_ble_eq_true hg);have:=VR.ptr (f:=f) g 0 h1;rw[h2,h3]at this;exact this
  ·exact .df _
 |func g=>exact .func g [] [] [] [] .nil .nil
theorem AR.put{f:aO}{env:List AV}{a:Act}(h:AR P f env a)(dst:Option Tmp){v:AV}{u:Value}(hv:VR f v u):AR P f (cU env dst v) (a.put dst u):=by
 cases dst with
 |none=>exact h
 |some d=>exact⟨by simp only[cU,Act.put,Array.toList_setIfInBounds];exact h.tmps.set d v u hv,h.glob⟩
theorem AR.defers{f:aO}{env:List AV}{a:Act}(h:AR P f env a)(ds:List Deferred):AR P f env { a with defers:=ds }:=⟨h.tmps,h.glob⟩
def zo(f:aO)(v:AV)(ch:List PanicEntry):Prop:=∃u older,ch={ v:=u,recovered:=false }::older∧VR f v u∧∀x∈older,x.goexit=false
def tq(f:aO)(H:AH)(w:World)(o:kI)(H':AH):Ending→World→Prop:=λe w'=>
 ∃f',Step f H w f' H' w'∧match o with
  |.ret v=>∃u,e=.returned u∧VR f' v u
  |.dB v=>∃ch,e=.panicked ch∧zo f' v ch
def iD(P:Program)(C:fx):Prop:=∀g args H K,nf P g=true→C g args H K→∃o H',K o H'∧∀f w (vs:Array Value),HR f H w→(∀g,g<P.globals.size→f.dom g∧f.blk g=g∧f.off g=0)→VL f args vs.toList→Calls P g vs w (tq f H w o H')
def nt(P:Program)(f:aO)(H:AH)(w:World)(o:Out)(env:List AV)(ds:List eT)(H':AH):Exit→Act→World→Prop:=λe a w'=>
 ∃f',Step f H w f' H' w'∧AR P f' env a∧DR f' ds a.defers∧match o with
  |.normal=>e=.normal
  |.exit id=>e=.exit id
  |.goto l=>e=.goto l
  |.ret=>e=.ret
  |.dB v=>∃ch,e=.panic ch∧zo f' v ch
theorem TM{g:Nat}(h:nf P g=true):∃fn c,P.funcs[g]? = some fn∧fn.body=some c∧(fn.name == "runtime.NumGoroutine")=false:=by
 unfold nf at h;split at h
 ·rename_i fn hf;rw[Bool.and_eq_true]at h;obtain⟨c,hc⟩:=Option.isSome_iff_exists.1 h.1;exact⟨fn,c,hf,hc,by simpa using h.2⟩
 ·cases h
theorem Az{g:Nat}(h:nf P g=true)(args:Array Value)(w:World):(callFunc g args).run P w=.ok (.enter g args) w:=by
 obtain⟨fn,c,h1,h2,h3⟩:=TM h;have h3':¬fn.name = "runtime.NumGoroutine" := by simpa using h3
 simp[callFunc,h1,h2,h3']
theorem FH{a:AV}{k:Nat→List AV→List AV→Prop}(h:OY a k):∃g x y,a=.func g x y∧k g x y:=by
 cases a<;>first|exact h.elim|exact⟨_,_,_,rfl,h⟩
inductive OZ(P:Program)(o:Oper)(ρ:Operand→AV)(H:AH)(k:AV→AH→Prop)(kp:AV→AH→Prop):Prop where
 |val (v:AV) (H':AH) (h:k v H') (g:∀f w a,HR f H w→(∀g,g<P.globals.size→f.dom g∧f.blk g=g∧f.off g=0)→Stand f o ρ a→∀(next:Act→World→Prop) Q,(∀f' w' u,Step f H w f' H' w'→VR f' v u→next (a.put o.dst u) w')→o.wp P a w next Q)
 |dB (v:AV) (H':AH) (h:kp v H') (g:∀f w a,HR f H w→(∀g,g<P.globals.size→f.dom g∧f.blk g=g∧f.off g=0)→Stand f o ρ a→∀(next:Act→World→Prop) (Q:Exit→Act→World→Prop),(∀f' w' ch,Step f H w f' H' w'→zo f' v ch→Q (.panic ch) a w')→o.wp P a w next Q)
theorem kA{o:Oper}{a:Act}{w w':World}{u:Value}(h:Did P o a w u w'){next:Act→World→Prop}{Q:Exit→Act→World→Prop}(hn:next (a.put o.dst u) w'):o.wp P a w next Q:=by
 unfold Oper.wp;rcases h with h|⟨h,rfl⟩<;>rw[h]<;>exact hn
theorem O0{o:Oper}{ρ:Operand→AV}{H:AH}{k kp:AV→AH→Prop}(h:akI P o ρ (aA H) H k):OZ P o ρ H k kp:=by
 cases h with
 |same v h g=>
  refine .val v H h λf w a hr _ hs next Q hn=>?_;obtain⟨u,g1,g2⟩:=g f w a hr.toHRQ hs;exact kA g1 (hn f w u (Step.refl hr) g2)
 |new ob vf _ h ho g=>
  obtain⟨H',g1,g2,g3,g4⟩:=mH h;refine .val _ H' g1 λf w a hr _ hs next Q hn=>?_;obtain⟨u,obj,g5,g6⟩:=g f w a hs;obtain⟨f',s1,s2⟩:=zf hr g2 g3 g4 ho g6;exact kA g5 (hn f' _ u s1 s2)
 |turn v H' h _ g=>
  refine .val v H' h λf w a hr _ hs next Q hn=>?_;obtain⟨u,w',f',g1,g2,g3⟩:=g f w a hr hs;exact kA g1 (hn f' w' u g2 g3)
theorem w8{o:Oper}{ρ:Operand→AV}{H:AH}{k kp:AV→AH→Prop}(h:s3 P o ρ (aA H) H k):OZ P o ρ H k kp:=O0 (OX h)
theorem ads{s t:TypeId}(h:NX P s t=true):∃e,P.underlying s=some .string∧P.underlying t=some (.slice e)∧P.underlying e=some (.int .u8):=by
 unfold NX at h;split at h
 ·rename_i e hs ht;split at h
  ·rename_i he;exact⟨e,hs,ht,he⟩
  ·cases h
 ·cases h
theorem TN{f:aO}{H:AH}{w:World}(hr:HR f H w){n:Nat}{vs:List Value}(hlen:vs.length=n){c:Bt AV}(hc:∀j a,c.get? j=some a→j<n∧∃v,vs[j]? = some v∧VR f a v)
  {H':AH}(hn:H'.n=H.n+1) (hnew:H'.at H.n=.cells c n 1) (hold:∀b,b≠H.n→H'.at b=H.at b){cap':Nat}(hcap:n≤cap'){rest:List Value}(hrest:rest.length=cap'-n) (e:TypeId) :
  ∃f',Step f H w f' H' (w.alloc (.cells (vs++rest).toArray e ((vs++rest).length,(vs++rest).length+1)))∧VR f' (.slice H.n 0 n n 1 false) (.slice (some ⟨w.heap.size,0,none⟩) n cap'):=by
 refine zf hr hn hnew hold (by simp[eS.sem,ik.own]) (vf:=λb=>.slice b 0 n n 1 false) ⟨(vs++rest).length,λi hi=>⟨?_,?_⟩⟩
 ·have hle:=f.pZ hi w.heap.size 0 (vs++rest).length;refine⟨_,e,_,_,rfl,by simp,by simp[hlen],λj a hj=>?_,λ_ j hj=>by rw[aO.qO]at hj;rw[aO.jB];omega,λh=>absurd h (by omega)⟩;obtain⟨h1,v,h2,h3⟩:=hc j a hj;refine⟨h1,v,?_,h3.up hle⟩;rw[aO.jB,Nat.zero_add];simp only[List.getElem?_toArray];rw[List.getElem?_append_left (by omega),h2]
 ·have:=VR.slice (f:=f.ext i w.heap.size 0 (vs++rest).length) i 0 n n 1 false cap' 0 (aO.pC _ _ _ _ _) (Nat.le_refl _) hcap (λ_=>by rw[aO.jB]) (λ_=>⟨rfl,by
   rw[aO.qO,List.length_append,hlen,hrest];omega⟩)
  rw[aO.iC]at this;exact this
theorem adt{H:AH}{o:Oper}{s t:TypeId}{x:Operand}(ho:o.op=.convert s t x)(ht:NX P s t=true){ρ:Operand→AV}{k kp:AV→AH→Prop}
  (g:Ez (aA H) (ρ x) k):OZ P o ρ H k kp:=by
 obtain⟨e,hs1,ht1,he1⟩:=ads ht;obtain⟨n,y,e1,g⟩:=hV g;obtain⟨c,g,_,h2,h3⟩:=fX _ _ _ _ g;obtain⟨hm,g⟩:=aI g;have hlen:=FA n y;rw[hlen,Nat.zero_add]at g h3;obtain⟨H',g,n1,n2,n3⟩:=mH g;refine .val _ H' g λf w a hr hg hst next Q hn=>?_;have hx:=hst x (by simp[ho,Op.operands]);rw[e1]at hx;obtain⟨ex,hlt⟩:=hx.jC;have hrun:=run_bytes_of_string (P:=P) w s t e (fu n y) hs1 ht1 he1;rw[MM]at hrun;have hvl:=MV f n y
 let vs:List Value:=(jl n y).map λ(b:UInt8)=>Value.int .u8 (b.toNat:Int)
 let rest:List Value:=List.replicate (grownCap w n 0 e-n) (Value.int .u8 0)
 have hrow:bytesRow (fu n y) (grownCap w n 0 e)=(vs++rest).toArray:=by
  apply Array.ext';simp[bytesRow,vs,rest]
 have hl1:vs.length=n:=by simp[vs,iv]
 obtain⟨f',s1,s2⟩:=TN (gp.drew hr (w.drawn+1)) (vs:=vs) hl1 (c:=c) (λj a hj=>by
  rcases Nat.lt_or_ge j n with hj'|hj'
  ·have:=h2 j (by rw[hlen];exact hj');rw[Nat.zero_add]at this;rw[this]at hj;obtain⟨v,y1,y2⟩:=hvl.get j a hj;exact⟨hj',v,y1,y2⟩
  ·rw[h3 j (by omega)]at hj;cases hj) n1 n2 n3 (grownCap_ge w n 0 e) (rest:=rest) (by simp[rest]) e
 have avn:Did P o a w (.slice (some ⟨w.heap.size,0,none⟩) n (grownCap w n 0 e)) (({ w with drawn:=w.drawn+1 }:World).alloc (.cells (vs++rest).toArray e ((vs++rest).length,(vs++rest).length+1))):=by
  left;have e2:execOp a.eval o=(do pure (.value (←convert s t (a.eval x)))):=by simp only[execOp,ho]
  rw[e2,ex];simp only[Sem.run_bind,hrun,Result.andThen_ok,Sem.run_pure,hrow];simp only[List.size_toArray];rfl
 exact kA avn (hn f' _ _ (Step.trans hr (Step.drew hr (w.drawn+1)) s1) s2)
theorem vY{C:fx}(hC:iD P C){o:Oper}{ρ:Operand→AV}{G:Nat}{H:AH}{k kp:AV→AH→Prop}(h:uJ C P G o ρ (aA H) H k kp):OZ P o ρ H k kp:=by
 unfold uJ at h;split at h
 ·rename_i c ho;split at h
  ·rename_i fo hc;split at h
   ·rename_i g hx;obtain rfl:=adq hx;obtain⟨v,h1,h2⟩:=an7 h;refine .val v H (gn (P:=P) (t:=o.type) (k:=λv=>k v H) h1) λf w a hr hg hs next Q hn=>?_;have hv:VL f (c.args.toList.map ρ) (c.args.map a.eval).toList:=by
     rw[Array.toList_map];exact VL.oh λz hz=>hs z (by simp[ho,Op.operands,Call.operands,hc];right;simpa using hz)
    obtain⟨u,g3,g4⟩:=h2 f w _ hr hv;refine kA (.inl ?_) (hn f w u (Step.refl hr) g4);have:execOp a.eval o=callFunc g (c.args.map a.eval):=by simp[execOp,ho,resolve,hc,Act.eval,Deferred.ofValue,invoke]
    rw[this,g3]
   obtain⟨g,x,y,e,h⟩:=FH h;obtain⟨hb,h⟩:=aI h;obtain⟨co,H',h1,h2⟩:=hC g _ H _ hb h;have qe:∀{f:aO}{a:Act}(w:World),Stand f o ρ a→∃vs:Array Value,VL f (x++(c.args.toList.map ρ++y)) vs.toList∧(execOp a.eval o).run P w=.ok (.enter g vs) w:=λ{f a} w hs=>by
    have hf:=hs fo (by simp[ho,Op.operands,Call.operands,hc]);rw[e]at hf;have hv:VL f (c.args.toList.map ρ) (c.args.toList.map a.eval):=VL.oh λz hz=>hs z (by simp[ho,Op.operands,Call.operands,hc];right;simpa using hz);generalize hz:a.eval fo=z at hf;cases hf with
    |func _ _ _ us ws h1 h2=>
     refine⟨us.toArray++c.args.map a.eval++ws.toArray,by simp only[Array.toList_append,Array.toList_map];rw[List.append_assoc];exact h1.append (hv.append h2),?_⟩;simp[execOp,ho,resolve,hc,hz,Deferred.ofValue,invoke,Az hb]
   cases co with
   |ret v=>
    refine .val v H' (gn (P:=P) (t:=o.type) (k:=λv=>k v H') h1) λf w a hr hg hs next Q hn=>?_;obtain⟨vs,g1,g2⟩:=qe w hs;unfold Oper.wp;rw[g2,Oper.upon_enter];refine(h2 f w vs hr hg g1).mono λe w' hp=>?_;obtain⟨f',s,u,rfl,hu⟩:=hp;exact hn f' w' u s hu
   |dB v=>
    refine .dB v H' h1 λf w a hr hg hs next Q hn=>?_;obtain⟨vs,g1,g2⟩:=qe w hs;unfold Oper.wp;rw[g2,Oper.upon_enter];refine(h2 f w vs hr hg g1).mono λe w' hp=>?_;obtain⟨f',s,ch,rfl,hu⟩:=hp;exact hn f' w' ch s hu
  ·exact w8 h
 ·rename_i x ho;unfold JL at h;split at h
  ·rename_i t v e;refine .dB _ H h λf w a hr _ hs next Q hn=>?_;have hx:=hs x (by simp[ho,Op.operands]);rw[e]at hx;generalize hz:a.eval x=z at hx;have hx':=hx;cases hx with
   |iface _ _ y hy=>
    have hrun:(execOp a.eval o).run P w=.halt (.panic (.iface t y)) w:=by simp[execOp,ho,hz,Instr.panic]
    unfold Oper.wp;rw[hrun,Oper.upon_panic];refine hn f w _ (Step.refl hr) ⟨.iface t y,[],rfl,?_,by simp⟩;rw[e];exact hx'
  ·exact h.elim
 ·rename_i s t x ho;rcases dW h with⟨ht,h⟩|⟨_,h⟩
  ·exact adt ho ht h
  ·exact w8 h
 ·exact w8 h
end
section
def iS(P:Program)(env:List AV)(ds:List eT)(H:AH)(K:Out→List AV→List eT→AH→Prop)(W:Act→World→(Exit→Act→World→Prop)→Prop):Prop:=
 ∃o env' ds' H',K o env' ds' H'∧∀f w a,HR f H w→AR P f env a→DR f ds a.defers→∀Q:Exit→Act→World→Prop,(∀e a' w',nt P f H w o env' ds' H' e a' w'→Q e a' w')→W a w Q
variable {P:Program}
theorem nt.after{f f1:aO}{H H1:AH}{w w1:World}(s:Step f H w f1 H1 w1){o:Out}{env:List AV}{ds:List eT}{H':AH}{e:Exit}{a:Act}{w':World}(h:nt P f1 H1 w1 o env ds H' e a w'):nt P f H w o env ds H' e a w':=by
 obtain⟨f',s',h⟩:=h;exact⟨f',gP.trans s s',h⟩
theorem put_defers(a:Act)(d:Option Tmp)(v:Value):(a.put d v).defers=a.defers:=by cases d<;>rfl
theorem O1{ops:Array Oper}{env:List AV}{j:Nat}{v:AV}(hv:oE ops env j=v)(hp:v≠.df) :
  ∃t,(ops[j]?).bind (·.dst)=some t∧env[t]? = some v:=by
 unfold oE at hv;split at hv
 ·rename_i t ht;refine⟨t,ht,?_⟩;rw[List.getD_eq_getElem?_getD]at hv;cases he:env[t]? with
  |none=>rw[he]at hv;exact absurd hv.symm hp
  |some x=>rw[he]at hv;exact congrArg some hv
 ·exact absurd hv.symm hp
theorem tt{f:aO}{ops:Array Oper}{env:List AV}{a:Act}(h:AR P f env a){j:Nat}{v:AV}(hv:oE ops env j=v)(hp:v≠.df) :
  ∃u,VR f v u∧yielded ops a.tmps j=(match u with|.bool b=>some b|_=>none):=by
 obtain⟨t,h1,h2⟩:=O1 hv hp;obtain⟨u,h3,h4⟩:=h.tmps.get t v h2;rw[Array.getElem?_toList]at h3;refine⟨u,h4,?_⟩;unfold yielded;rw[h1,Option.bind_some,h3];cases u<;>rfl
theorem an8{ops:Array Oper}{env:List AV}{o:Oper}{j:Nat}{want:Bool}(hg:o.guard=some (j,want)){x y:Prop}(hk:FF (oE ops env j) want x y) :
  (x∧∀f a,AR P f env a→Region.wanted o (yielded ops a.tmps)=true)∨(y∧∀f a,AR P f env a→Region.wanted o (yielded ops a.tmps)=false):=by
 generalize hv:oE ops env j=v at hk;cases v<;>try exact hk.elim
 case bool b=>
  have key:∀f a,AR P f env a→Region.wanted o (yielded ops a.tmps)=(b == want):=λf a h=>by
   obtain⟨u,h1,h2⟩:=tt h hv (by simp);cases h1;simp only[Region.wanted,hg,h2];cases b<;>cases want<;>rfl
  rcases dW (Ee hk)with⟨h1,h2⟩|⟨h1,h2⟩
  ·exact .inl ⟨h2,λf a h=>(key f a h).trans h1⟩
  ·exact .inr ⟨h2,λf a h=>(key f a h).trans h1⟩
 case aY l=>
  refine .inr ⟨hk,λf a h=>?_⟩;obtain⟨u,h1,h2⟩:=tt h hv (by simp);cases h1;simp only[Region.wanted,hg,h2];rfl
theorem FI{ops:Array Oper}{env:List AV}{j:Nat}{want:Bool}{x y:List AV→Prop}(h:FG ops env j want x y):FF (oE ops env j) want (x env) (y env):=by
 have key:∀b,oE ops env j=.bool b→cU env ((ops[j]?).bind (·.dst)) (.bool b)=env:=λb hb=>by
  obtain⟨t,h1,h2⟩:=O1 hb (by simp);rw[h1];simp only[cU];apply List.ext_getElem?;intro i;rw[List.getElem?_set];split
  ·rename_i e;subst e;split
   ·exact h2.symm
   ·rename_i hl;rw[List.getElem?_eq_none (by omega)]
  ·rfl
 unfold FG at h;split at h
 ·rename_i b hb;rw[hb];cases b<;>cases want<;>simp only[bI,key _ hb]at h<;>exact h
 ·rename_i l hl;rw[hl];exact h
 ·exact h.elim
theorem AR.stand{f:aO}{env:List AV}{a:Act}(h:AR P f env a)(o:Oper):Stand f o (fQ P.globals.size env) a:=λx _=>xx h x
theorem iS.opV{o:Oper}{env:List AV}{ds:List eT}{H:AH}{K:Out→List AV→List eT→AH→Prop}{k:AV→AH→Prop}{W:Act→World→(Exit→Act→World→Prop)→Prop}
  {N:(Exit→Act→World→Prop)→Act→World→Prop}(h:OZ P o (fQ P.globals.size env) H k (λv H=>K (.dB v) env ds H))
  (hk:∀v H',k v H'→iS P (cU env o.dst v) ds H' K λa w Q=>N Q a w)
  (hW:∀f a w Q,AR P f env a→o.wp P a w (N Q) Q→W a w Q):iS P env ds H K W:=by
 cases h with
 |val v H' h g=>
  obtain⟨ot,env',ds',H2,h1,h2⟩:=hk v H' h;refine⟨ot,env',ds',H2,h1,λf w a hr ha hd Q hQ=>hW f a w Q ha (g f w a hr ha.glob (ha.stand o) _ _ λf' w' u s hu=>?_)⟩;exact h2 f' w' _ s.rel ((ha.up s.le).put o.dst hu) (by rw[put_defers];exact hd.up s.le) Q λe a' w'' hx=>hQ e a' w'' (hx.after s)
 |dB v H' h g=>
  refine⟨.dB v,env,ds,H',h,λf w a hr ha hd Q hQ=>hW f a w Q ha (g f w a hr ha.glob (ha.stand o) _ _ λf' w' ch s hp=>?_)⟩;exact hQ _ _ _ ⟨f',s,ha.up s.le,hd.up s.le,ch,rfl,hp⟩
theorem akP{o:Oper}{c:Call}(ho:o.op=.defer c){fo:Operand}(hc:c.callee=.value fo){f:aO}{env:List AV}{a:Act}(ha:AR P f env a){g:Nat}{x y:List AV}(e:fQ P.globals.size env fo=.func g x y)(w:World) :
  ∃d,(execOp a.eval o).run P w=.ok (.defer d) w∧∀ds,DR f ds a.defers→DR f (⟨g,x++(c.args.toList.map (fQ P.globals.size env)++y)⟩::ds) (d::a.defers):=by
 have hs:=ha.stand o;have hf:=hs fo (by simp[ho,Op.operands,Call.operands,hc]);rw[e]at hf;have hv:VL f (c.args.toList.map (fQ P.globals.size env)) (c.args.toList.map a.eval):=VL.oh λz hz=>hs z (by simp[ho,Op.operands,Call.operands,hc];right;simpa using hz);generalize hz:a.eval fo=z at hf;cases hf with
 |func _ _ _ us ws h1 h2=>
  refine⟨⟨.fn (.func g) ws.toArray,us.toArray++c.args.map a.eval⟩,by simp[execOp,ho,resolve,hc,hz,Deferred.ofValue],λds hd=>.cons g _ _ _ ds _ ?_ hd⟩;simp only[Array.toList_append,Array.toList_map];rw[List.append_assoc];exact h1.append (hv.append h2)
theorem w9{ops:Array Oper}{rest:List Oper}{o:Oper}{a:Act}{w:World}{Q:Exit→Act→World→Prop}(hw:Region.wanted o (yielded ops a.tmps)=true)(h:o.wp P a w (wpList P ops Q rest) Q):wpList P ops Q (o::rest) a w:=by
 unfold wpList;rw[if_pos hw];exact .inl h
theorem TO{ops:Array Oper}{rest:List Oper}{o:Oper}{a:Act}{w:World}{Q:Exit→Act→World→Prop}(hw:Region.wanted o (yielded ops a.tmps)=false)(h:wpList P ops Q rest (a.put o.dst undef) w):wpList P ops Q (o::rest) a w:=by
 unfold wpList;rw[if_neg (by rw[hw];simp)];exact h
theorem pI{C:fx}(hC:iD P C){ops:Array Oper}{K:Out→List AV→List eT→AH→Prop}:∀(rest:List Oper) (env:List AV) (ds:List eT) (H:AH),
  uK C P P.globals.size ops rest env ds H K→iS P env ds H K λa w Q=>wpList P ops Q rest a w
 |[],env,ds,H,h=>⟨.normal,env,ds,H,h,λf w a hr ha hd Q hQ=>wpList_nil (hQ _ _ _ ⟨f,Step.refl hr,ha,hd,rfl⟩)⟩
 |o::rest,env,ds,H,h=>by
  unfold uK at h;split at h
  ·rename_i hg;have hw:∀t,Region.wanted o t=true:=λt=>by simp[Region.wanted,hg]
   unfold amx at h;split at h
   ·rename_i c ho;split at h
    ·rename_i fo hc;obtain⟨g,x,y,e,hh⟩:=FH h;obtain⟨hb,hh⟩:=aI hh;obtain⟨ot,env',ds',H2,h1,h2⟩:=pI hC rest _ _ _ hh;refine⟨ot,env',ds',H2,h1,λf w a hr ha hd Q hQ=>w9 (hw _) ?_⟩;obtain⟨d,g1,g2⟩:=akP ho hc ha e w;unfold Oper.wp;rw[g1,Oper.upon_defer];have ha':AR P f env { a with defers:=d::a.defers }:=ha.defers _;refine h2 f w _ hr (ha'.put o.dst (VR.undef f)) ?_ Q hQ;rw[put_defers];exact g2 ds hd
    ·exact h.elim
   ·refine iS.opV (vY hC h) (λv H' hk=>pI hC rest _ _ _ hk) (λf a w Q ha hh=>w9 (hw _) hh)
  ·rename_i j want hg;obtain⟨_,h⟩:=aI h;rcases an8 (P:=P) hg (FI h)with⟨h,hw⟩|⟨h,hw⟩
   ·exact iS.opV (vY hC h) (λv H' hk=>pI hC rest _ _ _ hk) (λf a w Q ha hh=>w9 (hw f a ha) hh)
   ·obtain⟨ot,env',ds',H2,h1,h2⟩:=pI hC rest _ _ _ h;refine⟨ot,env',ds',H2,h1,λf w a hr ha hd Q hQ=>TO (hw f a ha) ?_⟩;exact h2 f w _ hr (ha.put o.dst (VR.undef f)) (by rw[put_defers];exact hd) Q hQ
end
section
abbrev KT:=Out→List AV→List eT→AH→Prop
abbrev ET:=Code→List AV→List eT→AH→KT→Prop
abbrev DT:=Array Oper→List AV→List eT→AH→KT→Prop
def rV(P:Program)(D:DT):Prop:=∀id ops env ds H K,D ops env ds H K→iS P env ds H K λa w Q=>(Code.region id ops true).wp P Q a w
section
def Xd(k:List AV→List eT→AH→Prop)(K:KT):KT:=λo env ds H=>match o with|.normal=>k env ds H|o=>K o env ds H
def aq2(id:Nat)(K:KT):KT:=λo env ds H=>match o with|.exit i=>bI (Nat.beq i id) (K .normal env ds H) (K (.exit i) env ds H)|o=>K o env ds H
def amy(x:ET)(c:Code)(n:Nat):List AV→List eT→AH→KT→Prop:=
 Nat.rec (motive:=λ_=>List AV→List eT→AH→KT→Prop) (λ_ _ _ _=>False) (λ_ ih env ds H K=>x c env ds H (Xd (λenv ds H=>ih env ds H K) K)) n
def O2(o:Option Code)(k:Code→Prop)(x:Prop):Prop:=match o with|some r=>k r|none=>x
def adu(x:ET)(c:Code)(n:Nat):ET:=
 Nat.rec (motive:=λ_=>ET) (λ_ _ _ _ _=>False) (λ_ ih r env ds H K=>x r env ds H λo env ds H=>match o with|.goto l=>O2 (findLabel c l) (λr=>ih r env ds H K) (K (.goto l) env ds H)|o=>K o env ds H) n
def Xe(C:fx)(D:DT)(P:Program)(G N:Nat)(ih:ET):ET:=λc env ds H K=>
 match c with
 |.skip=>K .normal env ds H
 |.region _ ops draw=>bI draw (D ops env ds H K) (uK C P G ops ops.toList env ds H K)
 |.seq a b=>ih a env ds H (Xd (λenv ds H=>ih b env ds H K) K)
 |.cond c a b=>lp (fQ G env c) (ih a env ds H K) (ih b env ds H K)
 |.block id c=>ih c env ds H (aq2 id K)
 |.loop c=>amy ih c N env ds H K
 |.exit id=>K (.exit id) env ds H
 |.goto l=>K (.goto l) env ds H
 |.label _=>K .normal env ds H
 |.scope c=>adu ih c N c env ds H K
 |.ret=>K .ret env ds H
 |_=>False
def exec(C:fx)(D:DT)(P:Program)(G N:Nat)(d:Nat):ET:=Nat.rec (motive:=λ_=>ET) (λ_ _ _ _ _=>False) (λ_ ih=>Xe C D P G N ih) d
end
variable {P:Program}
def LI(P:Program)(c:Code)(Q:Exit→Act→World→Prop):Nat→Act→World→Prop
 |0,_,_=>False
 |n+1,a,w=>c.wp P (Exit.then (LI P c Q n) Q) a w
theorem least{p:Nat→Prop}(h:∃n,p n):∃n,p n∧∀m,p m→n≤m:=by
 obtain⟨n,hn⟩:=h
 induction n using Nat.strongRecOn with
 |_ n ih=>
  by_cases h:∃m,m<n∧p m
  ·obtain⟨m,h1,h2⟩:=h;exact ih m h1 h2
  ·exact⟨n,hn,λm hm=>Nat.le_of_not_lt λhl=>h ⟨m,hl,hm⟩⟩
open Classical in
noncomputable def AA(p:Nat→Prop):Nat:=if h:∃n,p n then (least h).choose else 0
theorem Ef{p:Nat→Prop}(h:∃n,p n):p (AA p)∧∀m,p m→AA p≤m:=by
 unfold AA;rw[dif_pos h];exact(least h).choose_spec
theorem wp_loop_rounds{c:Code}{Q:Exit→Act→World→Prop}{n:Nat}{a:Act}{w:World}(h:LI P c Q n a w):(Code.loop c).wp P Q a w:=by
 refine wp_loop (λa w=>∃n,LI P c Q n a w) (λa w=>AA λn=>LI P c Q n a w) ⟨n,h⟩ λa w hI=>?_;obtain⟨h1,h2⟩:=Ef hI;generalize AA (λn=>LI P c Q n a w)=m at h1 h2;cases m with
 |zero=>exact h1.elim
 |succ m=>
  refine Code.wp_mono (λe a' w' q=>?_) h1;cases e<;>try exact q
  have q:LI P c Q m a' w':=q;exact⟨⟨m,q⟩,Nat.lt_succ_of_le ((Ef ⟨m,q⟩).2 m q)⟩
def Aj(P:Program)(c:Code)(Q:Exit→Act→World→Prop):Nat→Code→Act→World→Prop
 |0,_,_,_=>False
 |n+1,r,a,w=>r.wp P (λe a w=>match e with|.goto l=>(match findLabel c l with|some r'=>Aj P c Q n r' a w|none=>Q (.goto l) a w)|e=>Q e a w) a w
theorem vZ{c:Code}{Q:Exit→Act→World→Prop}{n:Nat}{a:Act}{w:World}(h:Aj P c Q n c a w):(Code.scope c).wp P Q a w:=by
 intro b k cs;have key:∀n r a w,Aj P c Q n r a w→∃e a' w',Q e a' w'∧Arrives P (lone (b.at a (.code r :: .inScope c::k)) cs w) b k cs e a' w':=by
  intro n
  induction n with
  |zero=>exact λr a w h=>h.elim
  |succ n ih=>
   intro r a w h;obtain⟨e,a₁,w₁,hq,harr⟩:=h b (.inScope c::k) cs;cases e with
   |normal=>exact⟨.normal,a₁,w₁,hq,Steps.trans harr (.one step_inScope)⟩
   |exit id=>exact⟨.exit id,a₁,w₁,hq,λk' hk=>harr k' (by simp[exitTo,hk])⟩
   |goto l=>
    simp only at hq;split at hq
    ·rename_i r' hf;obtain⟨e₂,a₂,w₂,hq₂,harr₂⟩:=ih r' a₁ w₁ hq;exact⟨e₂,a₂,w₂,hq₂,.of_steps (harr _ (by simp[gotoIn,hf])) harr₂⟩
    ·rename_i hf;exact⟨.goto l,a₁,w₁,hq,λk' hk=>harr k' (by simp[gotoIn,hf,hk])⟩
   |ret=>exact⟨_,a₁,w₁,hq,harr⟩
   |panic ch=>exact⟨_,a₁,w₁,hq,harr⟩
   |outgrown=>exact⟨_,a₁,w₁,hq,harr⟩
 obtain⟨e,a',w',q,harr⟩:=key n c a w h;exact⟨e,a',w',q,.of_steps (.one step_scope) harr⟩
variable {env:List AV}{ds:List eT}{H:AH}{K:KT}
def UJ:Out→Exit→Prop
 |.normal,e=>e=.normal
 |.exit id,e=>e=.exit id
 |.goto l,e=>e=.goto l
 |.ret,e=>e=.ret
 |.dB _,e=>∃ch,e=.panic ch
theorem nt.UJ{f:aO}{w:World}{o:Out}{H':AH}{e:Exit}{a:Act}{w':World}(h:nt P f H w o env ds H' e a w'):UJ o e:=by
 obtain⟨f',s,h1,h2,h3⟩:=h;cases o<;>first|exact h3|(obtain⟨ch,h3,_⟩:=h3;exact⟨ch,h3⟩)
theorem iS.done{o:Out}{W:Act→World→(Exit→Act→World→Prop)→Prop}(h:K o env ds H)(e:Exit)(he:o=.normal∧e=.normal∨(∃i,o=.exit i∧e=.exit i)∨(∃l,o=.goto l∧e=.goto l)∨o=.ret∧e=.ret)
  (hW:∀a w Q,Q e a w→W a w Q):iS P env ds H K W:=
 ⟨o,env,ds,H,h,λf w a hr ha hd Q hQ=>hW a w Q (hQ _ _ _ ⟨f,Step.refl hr,ha,hd,by rcases he with⟨rfl,rfl⟩|⟨i,rfl,rfl⟩|⟨l,rfl,rfl⟩|⟨rfl,rfl⟩<;>rfl⟩)⟩
theorem iS.mono{K':KT}{W W':Act→World→(Exit→Act→World→Prop)→Prop}(h:iS P env ds H K W)(hW:∀f a w Q,AR P f env a→W a w Q→W' a w Q)(hK:∀o env ds H,K o env ds H→K' o env ds H):iS P env ds H K' W':=by
 obtain⟨o,env',ds',H',h1,h2⟩:=h;exact⟨o,env',ds',H',hK _ _ _ _ h1,λf w a hr ha hd Q hQ=>hW f a w Q ha (h2 f w a hr ha hd Q hQ)⟩
theorem iS.bind{K':KT}{V W:Act→World→(Exit→Act→World→Prop)→Prop}(h:iS P env ds H K' V)(U:Exit→Act→World→(Exit→Act→World→Prop)→Prop)
  (hk:∀o ek ds1 H1,K' o ek ds1 H1→(K o ek ds1 H1∧∀e a w Q,Go.X.UJ o e→Q e a w→U e a w Q)∨(∃e,(∀e',Go.X.UJ o e'→e'=e)∧iS P ek ds1 H1 K (U e)))
  (hW:∀a w Q,V a w (λe a' w'=>U e a' w' Q)→W a w Q):iS P env ds H K W:=by
 obtain⟨o,ek,ds1,H1,h1,h2⟩:=h;rcases hk _ _ _ _ h1 with⟨g1,g2⟩|⟨e,he,o2,dq,ds2,H2,g1,g2⟩
 ·exact⟨o,ek,ds1,H1,g1,λf w a hr ha hd Q hQ=>hW a w Q (h2 f w a hr ha hd _ λe a' w' hx=>g2 e a' w' Q hx.UJ (hQ _ _ _ hx))⟩
 ·refine⟨o2,dq,ds2,H2,g1,λf w a hr ha hd Q hQ=>hW a w Q (h2 f w a hr ha hd _ λe' a' w' hx=>?_)⟩;rw[he e' hx.UJ];obtain⟨f',s,ha',hd',_⟩:=hx;exact g2 f' w' a' s.rel ha' hd' Q λe a'' w'' hx=>hQ _ _ _ (hx.after s)
theorem O3{k:List AV→List eT→AH→Prop}{V W U:Act→World→(Exit→Act→World→Prop)→Prop}(h:iS P env ds H (Xd k K) V)
  (hk:∀env ds H,k env ds H→iS P env ds H K U)
  (hW:∀a w Q,V a w (Exit.then (λa w=>U a w Q) Q)→W a w Q):iS P env ds H K W:=by
 refine iS.bind h (λe a w Q=>Exit.then (λa w=>U a w Q) Q e a w) (λo ek ds1 H1 hh=>?_) (λa w Q hh=>hW a w Q hh);cases o with
 |normal=>exact .inr ⟨.normal,λe' h=>h,hk _ _ _ hh⟩
 |exit id=>exact .inl ⟨hh,λe a w Q he hq=>by cases he;exact hq⟩
 |goto l=>exact .inl ⟨hh,λe a w Q he hq=>by cases he;exact hq⟩
 |ret=>exact .inl ⟨hh,λe a w Q he hq=>by cases he;exact hq⟩
 |dB v=>exact .inl ⟨hh,λe a w Q he hq=>by obtain⟨ch,rfl⟩:=he;exact hq⟩
def AB(P:Program)(x:ET):Prop:=∀c env ds H K,x c env ds H K→iS P env ds H K λa w Q=>c.wp P Q a w
theorem O4{x:ET}(hx:AB P x)(c:Code):∀n env ds H,amy x c n env ds H K→iS P env ds H K λa w Q=>LI P c Q n a w
 |0,_,_,_,h=>h.elim
 |n+1,env,ds,H,h=>O3 (hx c env ds H _ h) (λenv ds H h=>O4 hx c n env ds H h) (λ_ _ _ h=>h)
theorem MZ{x:ET}(hx:AB P x)(c:Code):∀n r env ds H,adu x c n r env ds H K→iS P env ds H K λa w Q=>Aj P c Q n r a w
 |0,_,_,_,_,h=>h.elim
 |n+1,r,env,ds,H,h=>by
  refine iS.bind (hx r env ds H _ h) (λe a w Q=>match e with|.goto l=>(match findLabel c l with|some r'=>Aj P c Q n r' a w|none=>Q (.goto l) a w)|e=>Q e a w) (λo ek ds1 H1 hh=>?_) (λa w Q hh=>hh);cases o with
  |normal=>exact .inl ⟨hh,λe a w Q he hq=>by cases he;exact hq⟩
  |exit id=>exact .inl ⟨hh,λe a w Q he hq=>by cases he;exact hq⟩
  |ret=>exact .inl ⟨hh,λe a w Q he hq=>by cases he;exact hq⟩
  |dB v=>exact .inl ⟨hh,λe a w Q he hq=>by obtain⟨ch,rfl⟩:=he;exact hq⟩
  |goto l=>
   simp only at hh;cases hf:findLabel c l with
   |none=>
    rw[hf]at hh;exact .inl ⟨hh,λe a w Q he hq=>by cases he;simp only[hf];exact hq⟩
   |some r'=>
    rw[hf]at hh;refine .inr ⟨.goto l,λe' h=>h,?_⟩;simp only[hf];exact MZ hx c n r' ek ds1 H1 hh
theorem akQ{C:fx}(hC:iD P C){D:DT}(hD:rV P D){N:Nat}{x:ET}(hx:AB P x):AB P (Xe C D P P.globals.size N x):=by
 intro c env ds H K h;unfold Xe at h;cases c with
 |skip=>exact iS.done h .normal (.inl ⟨rfl,rfl⟩) λa w Q h=>wp_skip h
 |region id ops draw=>
  rcases dW h with⟨rfl,h⟩|⟨rfl,h⟩
  ·exact hD id ops env ds H K h
  ·exact(pI hC _ _ _ _ h).mono (λf a w Q _ h=>wp_region_list h) λ_ _ _ _ h=>h
 |seq a b=>exact O3 (hx a env ds H _ h) (λenv ds H h=>hx b env ds H K h) λa w Q h=>wp_seq h
 |cond c a b=>
  have h:lp (fQ P.globals.size env c) (x a env ds H K) (x b env ds H K):=h;generalize hv:fQ P.globals.size env c=v at h;cases v<;>try exact h.elim
  case bool t=>
   have hc:∀{f:aO}{a:Act},AR P f env a→a.eval c=.bool t:=λ{f act} ha=>by
    have:=xx ha c;rw[hv]at this;generalize act.eval c=u at this;cases this;rfl
   cases t
   ·exact(hx b env ds H K h).mono (λf a w Q ha h=>wp_cond (hc ha) h) λ_ _ _ _ h=>h
   ·exact(hx a env ds H K h).mono (λf a w Q ha h=>wp_cond (hc ha) h) λ_ _ _ _ h=>h
 |block id c=>
  refine iS.bind (hx c env ds H _ h) (λe a w Q=>Exit.inBlock id Q e a w) (λo ek ds1 H1 hh=>?_) (λa w Q hh=>wp_block hh);cases o with
  |normal=>exact .inl ⟨hh,λe a w Q he hq=>by cases he;exact hq⟩
  |exit i=>
   rcases dW hh with⟨hi,hh⟩|⟨hi,hh⟩
   ·refine .inr ⟨.exit i,λe' h=>h,iS.done hh .normal (.inl ⟨rfl,rfl⟩) λa w Q hq=>?_⟩;simp only[Exit.inBlock];rw[if_pos (Nat.eq_of_beq_eq_true hi)];exact hq
   ·refine .inl ⟨hh,λe a w Q he hq=>?_⟩;cases he;simp only[Exit.inBlock];rw[if_neg (λe=>by subst e;simp at hi)];exact hq
  |goto l=>exact .inl ⟨hh,λe a w Q he hq=>by cases he;exact hq⟩
  |ret=>exact .inl ⟨hh,λe a w Q he hq=>by cases he;exact hq⟩
  |dB v=>exact .inl ⟨hh,λe a w Q he hq=>by obtain⟨ch,rfl⟩:=he;exact hq⟩
 |loop c=>exact(O4 hx c N env ds H h).mono (λf a w Q _ h=>wp_loop_rounds h) λ_ _ _ _ h=>h
 |exit id=>exact iS.done h (.exit id) (.inr (.inl ⟨id,rfl,rfl⟩)) λa w Q h=>wp_exit h
 |goto l=>exact iS.done h (.goto l) (.inr (.inr (.inl ⟨l,rfl,rfl⟩))) λa w Q h=>wp_goto h
 |label l=>exact iS.done h .normal (.inl ⟨rfl,rfl⟩) λa w Q h=>wp_label h
 |scope c=>exact(MZ hx c N c env ds H h).mono (λf a w Q _ h=>vZ h) λ_ _ _ _ h=>h
 |ret=>exact iS.done h .ret (.inr (.inr (.inr ⟨rfl,rfl⟩))) λa w Q h=>wp_ret h
 |rangeFunc=>exact h.elim
 |refuse=>exact h.elim
theorem UK{C:fx}(hC:iD P C){D:DT}(hD:rV P D){N:Nat}:∀d,AB P (exec C D P P.globals.size N d)
 |0=>λ_ _ _ _ _ h=>h.elim
 |d+1=>akQ hC hD (UK hC hD d)
end
section
inductive gA where
 |ret
 |dB (v:AV)
 |caught (v:AV)
abbrev KD:=kI→gA→AH→Prop
abbrev xy:=Nat→List AV→gA→AH→KD→Prop
abbrev KR:=Out→gA→List AV→List eT→AH→Prop
def adw(P:Program)(env:List AV)(H:AH)(r:ResultVar)(k:AV→Prop):Prop:=match r with|.tmp t=>k (env.getD t fj)|.cell a t=>NR P t (env.getD a fj) H k
def akR(P:Program)(env:List AV)(H:AH):List ResultVar→(List AV→Prop)→Prop
 |[],k=>k []
 |r::rs,k=>adw P env H r λv=>akR P env H rs λl=>k (v::l)
def Xf(P:Program)(fn:Func)(env:List AV)(H:AH)(k:AV→Prop):Prop:=akR P env H fn.results.toList λl=>match l with|[v]=>k v|l=>k (.aY l)
def an9:gA→gA
 |.caught _=>.ret
 |u=>u
def FJ(o:kI)(u:gA):gA:=match o with|.ret _=>an9 u|.dB v=>.dB v
def pJ(P:Program)(CD:xy)(fn:Func)(env:List AV):List eT→gA→AH→(kI→AH→Prop)→Prop
 |[],.ret,H,K=>Xf P fn env H λv=>K (.ret v) H
 |[],.dB v,H,K=>K (.dB v) H
 |[],.caught _,_,_=>False
 |d::ds,u,H,K=>bT (nf P d.g) (CD d.g d.args u H λo u' H'=>pJ P CD fn env ds (FJ o u') H' K)
def Xg(P:Program)(CD:xy)(fn:Func)(K:kI→AH→Prop):KT:=λo env ds H=>match o with|.normal=>pJ P CD fn env ds .ret H K|.ret=>pJ P CD fn env ds .ret H K|.dB v=>pJ P CD fn env ds (.dB v) H K|_=>False
def JM(P:Program)(fn:Func)(K:KD):KR:=λo M env ds H=>match ds with|[]=>(match o with|.normal=>Xf P fn env H λv=>K (.ret v) M H|.ret=>Xf P fn env H λv=>K (.ret v) M H|.dB v=>K (.dB v) M H|_=>False)|_=>False
def isRecover(o:Oper):Bool:=match o.op with|.call c=>(match c.callee with|.builtin .recover=>true|_=>false)|_=>false
def aq3(M:gA)(k:AV→gA→Prop):Prop:=match M with|.dB v=>k v (.caught v)|M=>k .fl M
def xz(C:fx)(P:Program)(G:Nat)(ops:Array Oper):List Oper→gA→List AV→List eT→AH→KR→Prop
 |[],M,env,ds,H,K=>K .normal M env ds H
 |o::rest,M,env,ds,H,K=>bT (o.guard.isNone && !(BN o)) (bI (isRecover o) (aq3 M λv M'=>xz C P G ops rest M' (cU env o.dst v) ds H K)
   (uJ C P G o (fQ G env) (aA H) H (λv H'=>xz C P G ops rest M (cU env o.dst v) ds H' K) (λv H=>K (.dB v) M env ds H)))
def auj(k:gA→List AV→List eT→AH→Prop)(K:KR):KR:=λo M env ds H=>match o with|.normal=>k M env ds H|o=>K o M env ds H
abbrev RT:=Code→gA→List AV→List eT→AH→KR→Prop
def O5(C:fx)(x:ET)(P:Program)(G:Nat)(ih:RT):RT:=λc M env ds H K=>
 match c with
 |.seq a b=>ih a M env ds H (auj (λM env ds H=>ih b M env ds H K) K)
 |.cond c a b=>lp (fQ G env c) (ih a M env ds H K) (ih b M env ds H K)
 |.region _ ops false=>xz C P G ops ops.toList M env ds H K
 |c=>x c env ds H λo env ds H=>K o M env ds H
def amz(C:fx)(x:ET)(P:Program)(G d:Nat):RT:=Nat.rec (motive:=λ_=>RT) (λ_ _ _ _ _ _=>False) (λ_ ih=>O5 C x P G ih) d
def Xh(P:Program)(g:Nat)(k:Func→Code→Prop):Prop:=match P.funcs[g]? with|some fn=>(match fn.body with|some c=>k fn c|none=>False)|none=>False
def ba(fn:Func)(args:List AV):List AV:=args++List.replicate (fn.ntmps-args.length) fj
def Xi(C:fx)(x:ET)(P:Program)(G d:Nat):xy:=λg args M H K=>Xh P g λfn c=>amz C x P G d c M (ba fn args) [] H (JM P fn K)
def Xj(C:fx)(D:DT)(P:Program)(G N d:Nat):fx:=λg args H K=>
 Xh P g λfn c=>exec C D P G N d c (ba fn args) [] H (Xg P (Xi C (exec C D P G N d) P G d) fn K)
variable {P:Program}
def MR(f:aO):gA→FrameMode→Prop
 |.ret,u=>u=.returning
 |.dB v,u=>∃ch,u=.panicking ch∧zo f v ch
 |.caught v,u=>∃x older,u=.panicking ({ v:=x,recovered:=true }::older)∧VR f v x∧∀y∈older,y.goexit=false
theorem MR.up{f f':aO}(h:f.le f'){M:gA}{u:FrameMode}(m:MR f M u):MR f' M u:=by
 cases M with
 |ret=>exact m
 |dB v=>obtain⟨ch,h1,x,older,h2,h3,h4⟩:=m;exact⟨ch,h1,x,older,h2,h3.up h,h4⟩
 |caught v=>obtain⟨x,older,h1,h2,h3⟩:=m;exact⟨x,older,h1,h2.up h,h3⟩
theorem MR.ne{f:aO}{M:gA}{u:FrameMode}(m:MR f M u):u≠.run:=by
 cases M with
 |ret=>cases m;simp
 |dB v=>obtain⟨ch,rfl,_⟩:=m;simp
 |caught v=>obtain⟨x,older,rfl,_⟩:=m;simp
def O6(f:aO)(H:AH)(w:World)(o:kI)(M:gA)(H':AH):Ending→FrameMode→World→Prop:=λe u' w'=>
 ∃f',Step f H w f' H' w'∧MR f' M u'∧match o with
  |.ret v=>∃u,e=.returned u∧VR f' v u
  |.dB v=>∃ch,e=.panicked ch∧zo f' v ch
def JN(P:Program)(CD:xy):Prop:=∀g args M H K,nf P g=true→CD g args M H K→∃o M' H',K o M' H'∧∀f w (vs:Array Value) u,HR f H w→(∀g,g<P.globals.size→f.dom g∧f.blk g=g∧f.off g=0)→VL f args vs.toList→MR f M u→CallsD P g vs u w (O6 f H w o M' H')
theorem UL{f:aO}{env:List AV}{a:Act}(h:AR P f env a)(t:Tmp):VR f (env.getD t fj) (a.tmps.getD t undef):=xx h (.tmp t)
def AD(tmps:Array Value):ResultVar→Sem Value
 |.tmp t=>pure (tmps.getD t undef)
 |.cell x t=>do loadVar t (←asAddr (tmps.getD x undef))
theorem Xk(fn:Func)(tmps:Array Value):results fn tmps=(do let vs ←fn.results.mapM (AD tmps);pure (if h:vs.size=1 then vs[0] else .tuple vs)):=by
 have:AD tmps=(fun|.tmp t=>pure (tmps.getD t undef)|.cell a t=>do loadVar t (←asAddr (tmps.getD a undef)):ResultVar→Sem Value):=by
  funext r;cases r<;>rfl
 rw[this];rfl
theorem adx{env:List AV}{H:AH}{r:ResultVar}{k:AV→Prop}(h:adw P env H r k) :
  ∃v,k v∧∀f w a,HR f H w→AR P f env a→∃u,(AD a.tmps r).run P w=.ok u w∧VR f v u:=by
 cases r with
 |tmp t=>exact⟨_,h,λf w a _ ha=>⟨_,rfl,UL ha t⟩⟩
 |cell x t=>
  obtain⟨v,h1,h2⟩:=OK h;refine⟨v,h1,λf w a hr ha=>?_⟩;obtain⟨u,g1,g2⟩:=h2 f w _ hr.toHRQ (UL ha x);refine⟨u,?_,g2⟩;simp only[AD];generalize a.tmps.getD x undef=z at g1;simp only[Instr.loadAt]at g1;cases z with
  |pointer p=>
   cases p with
   |none=>simp[Instr.sureAddr]at g1
   |some p=>simpa[Instr.sureAddr,asAddr]using g1
  |_=>simp[Instr.sureAddr]at g1
theorem UM{env:List AV}{H:AH}:∀{rs:List ResultVar}{k:List AV→Prop},akR P env H rs k→
  ∃l,k l∧∀f w a,HR f H w→AR P f env a→∃us,(rs.mapM (AD a.tmps)).run P w=.ok us w∧VL f l us
 |[],k,h=>⟨[],h,λf w a _ _=>⟨[],by simp,.nil⟩⟩
 |r::rs,k,h=>by
  obtain⟨v,h1,h2⟩:=adx h;obtain⟨l,g1,g2⟩:=UM h1;refine⟨v::l,g1,λf w a hr ha=>?_⟩;obtain⟨u,x1,x2⟩:=h2 f w a hr ha;obtain⟨us,y1,y2⟩:=g2 f w a hr ha;exact⟨u::us,by simp only[List.mapM_cons,Sem.run_bind,x1,y1,Result.andThen_ok,Sem.run_pure],.cons _ _ _ _ x2 y2⟩
def one1(l:List AV):AV:=match l with|[v]=>v|l=>.aY l
theorem JO{fn:Func}{env:List AV}{H:AH}{k:AV→Prop}(h:Xf P fn env H k) :
  ∃v,k v∧∀f w a,HR f H w→AR P f env a→∃u,(results fn a.tmps).run P w=.ok u w∧VR f v u:=by
 obtain⟨l,h1,h2⟩:=UM h;have hk:k (one1 l):=by
  match l,h1 with
  |[],h1=>exact h1
  |[v],h1=>exact h1
  |v::v2::l,h1=>exact h1
 refine⟨_,hk,λf w a hr ha=>?_⟩;obtain⟨us,g1,g2⟩:=h2 f w a hr ha;refine⟨if h:us.toArray.size=1 then us.toArray[0] else .tuple us.toArray,?_,?_⟩
 ·rw[Xk,Array.mapM_eq_mapM_toList];simp only[Sem.run_bind,map_eq_pure_bind,bind_assoc,pure_bind];rw[g1];rfl
 ·cases g2 with
  |nil=>exact .aY [] [] .nil
  |cons v u l us y1 y2=>
   cases y2 with
   |nil=>exact y1
   |cons v2 u2 l us y3 y4=>exact .aY (v::v2::l) (u::u2::us) (.cons _ _ _ _ y1 (.cons _ _ _ _ y3 y4))
def AE(P:Program)(f:aO)(H:AH)(w:World)(o:Out)(M:gA)(env:List AV)(ds:List eT)(H':AH):Exit→Act→FrameMode→World→Prop:=λe a u w'=>
 ∃f',Step f H w f' H' w'∧AR P f' env a∧DR f' ds a.defers∧MR f' M u∧match o with
  |.normal=>e=.normal
  |.exit id=>e=.exit id
  |.goto l=>e=.goto l
  |.ret=>e=.ret
  |.dB v=>∃ch,e=.panic ch∧zo f' v ch
theorem AE.after{f f1:aO}{H H1:AH}{w w1:World}(s:Step f H w f1 H1 w1){o:Out}{M:gA}{env:List AV}{ds:List eT}{H':AH}{e:Exit}{a:Act}{u:FrameMode}{w':World}(h:AE P f1 H1 w1 o M env ds H' e a u w'):AE P f H w o M env ds H' e a u w':=by
 obtain⟨f',s',h⟩:=h;exact⟨f',gP.trans s s',h⟩
abbrev PS:=Exit→Act→List Frame→World→Prop
def JP(P:Program)(M:gA)(env:List AV)(ds:List eT)(H:AH)(K:KR)(W:Act→List Frame→World→PS→Prop):Prop:=
 ∃o M' env' ds' H',K o M' env' ds' H'∧∀f w a c₀ cs u,HR f H w→AR P f env a→DR f ds a.defers→MR f M u→c₀.mode=u→∀Q:PS,(∀e a' u' w',AE P f H w o M' env' ds' H' e a' u' w'→Q e a' ({ c₀ with mode:=u' }::cs) w')→W a (c₀::cs) w Q
theorem rW{c₀:Frame}{u:FrameMode}(h:c₀.mode=u):({ c₀ with mode:=u }:Frame)=c₀:=by subst h;rfl
def iE(P:Program)(ops:Array Oper)(Q:PS):List Oper→Act→List Frame→World→Prop
 |[],a,cs,w=>Q .normal a cs w
 |o::rest,a,cs,w=>
  if Region.wanted o (yielded ops a.tmps) then
   match (execOp a.eval o).run P w with
   |.ok .recover w'=>
    match recoverD cs with
    |some (v,cs')=>iE P ops Q rest (a.put o.dst v) cs' w'
    |none=>iE P ops Q rest (a.put o.dst .nilIface) cs w'
   |r=>o.upon P a (λa' w'=>iE P ops Q rest a' cs w') (λe a' w'=>Q e a' cs w') r
  else iE P ops Q rest (a.put o.dst undef) cs w
theorem ady{ops:Array Oper}{Q:PS}(l:List Oper):∀k,(∀j,l[j]? = ops[k+j]?)→wpOpsS P ops Q (List.range' k l.length)=iE P ops Q l:=by
 induction l with
 |nil=>intro k _;funext a cs w;simp[wpOpsS,iE]
 |cons o l ih=>
  intro k h;have h0:ops[k]? = some o:=by simpa using(h 0).symm
  have ih':=ih (k+1) (λj=>by have:=h (j+1);simpa[Nat.add_assoc,Nat.add_comm 1 j]using this);funext a cs w;simp only[List.length_cons,List.range'_succ,wpOpsS,h0,iE,ih'];rfl
theorem FK{id:Nat}{ops:Array Oper}{Q:PS}{a:Act}{cs:List Frame}{w:World}(h:iE P ops Q ops.toList a cs w):(Code.region id ops false).wpS P Q a cs w:=
 wpS_region (by rw[List.range_eq_range',←Array.length_toList,ady ops.toList 0 (by simp)];exact h)
theorem AF{ops:Array Oper}{Q:PS}{rest:List Oper}{o:Oper}{a:Act}{cs:List Frame}{w:World}(hw:Region.wanted o (yielded ops a.tmps)=true)
  (h:o.wp P a w (λa' w'=>iE P ops Q rest a' cs w') (λe a' w'=>Q e a' cs w')):iE P ops Q (o::rest) a cs w:=by
 unfold iE;rw[if_pos hw];unfold Oper.wp at h;split
 ·rename_i hr;rw[hr]at h;exact h.elim
 ·exact h
theorem TP{ops:Array Oper}{Q:PS}{rest:List Oper}{o:Oper}{a:Act}{cs:List Frame}{w:World}(hw:Region.wanted o (yielded ops a.tmps)=true)(hr:(execOp a.eval o).run P w=.ok .recover w)
  (h:match recoverD cs with|some (v,cs')=>iE P ops Q rest (a.put o.dst v) cs' w|none=>iE P ops Q rest (a.put o.dst .nilIface) cs w):iE P ops Q (o::rest) a cs w:=by
 unfold iE;rw[if_pos hw,hr];exact h
theorem TQ{o:Oper}(h:isRecover o=true)(ρ:Operand→Value)(w:World):(execOp ρ o).run P w=.ok .recover w:=by
 unfold isRecover at h;split at h
 ·rename_i c ho;split at h
  ·rename_i hc;simp[execOp,ho,resolve,hc,invoke,builtin]
  ·cases h
 ·cases h
theorem aoa{M:gA}{k:AV→gA→Prop}(h:aq3 M k):∃v M',k v M'∧∀f u c₀ cs,MR f M u→c₀.mode=u→∃x u',VR f v x∧MR f M' u'∧
  ∀(R:Value→List Frame→Prop),(R x ({ c₀ with mode:=u' }::cs))→(match recoverD (c₀::cs)with|some (y,cs')=>R y cs'|none=>R .nilIface (c₀::cs)):=by
 cases M with
 |ret=>
  refine⟨_,_,h,λf u c₀ cs hm hc=>⟨.nilIface,u,.fl,hm,λR hR=>?_⟩⟩;rw[rW hc]at hR;cases hm;simp only[recoverD,hc];exact hR
 |dB v=>
  refine⟨_,_,h,λf u c₀ cs hm hc=>?_⟩;obtain⟨ch,rfl,x,older,rfl,h3,h4⟩:=hm;refine⟨x,_,h3,⟨x,older,rfl,h3,h4⟩,λR hR=>?_⟩;simp only[recoverD,hc];exact hR
 |caught v=>
  refine⟨_,_,h,λf u c₀ cs hm hc=>⟨.nilIface,u,.fl,hm,λR hR=>?_⟩⟩;rw[rW hc]at hR;obtain⟨x,older,rfl,h3,h4⟩:=hm;simp only[recoverD,hc];exact hR
theorem zp{C:fx}(hC:iD P C){ops:Array Oper}{K:KR}:∀(rest:List Oper) (M:gA) (env:List AV) (ds:List eT) (H:AH),
  xz C P P.globals.size ops rest M env ds H K→JP P M env ds H K λa cs w Q=>iE P ops Q rest a cs w
 |[],M,env,ds,H,h=>⟨.normal,M,env,ds,H,h,λf w a c₀ cs u hr ha hd hm hc Q hQ=>by
  have:=hQ .normal a u w ⟨f,Step.refl hr,ha,hd,hm,rfl⟩;rw[rW hc]at this;exact this⟩
 |o::rest,M,env,ds,H,h=>by
  unfold xz at h;obtain⟨hg,h⟩:=aI h;rw[Bool.and_eq_true]at hg;have hg1:o.guard=none:=by simpa using hg.1
  have hw:∀t,Region.wanted o t=true:=λt=>by simp[Region.wanted,hg1]
  rcases dW h with⟨hrec,h⟩|⟨hrec,h⟩
  ·obtain⟨v,M',h1,h2⟩:=aoa h;obtain⟨ot,M2,env',ds',H2,g1,g2⟩:=zp hC rest _ _ _ _ h1;refine⟨ot,M2,env',ds',H2,g1,λf w a c₀ cs u hr ha hd hm hc Q hQ=>?_⟩;obtain⟨x,u',h3,h4,h5⟩:=h2 f u c₀ cs hm hc;refine TP (hw _) (TQ hrec _ w) ?_;exact h5 (λy cs'=>iE P ops Q rest (a.put o.dst y) cs' w) (g2 f w _ { c₀ with mode:=u' } cs u' hr (ha.put o.dst h3) (by rw[put_defers];exact hd) h4 rfl Q hQ)
  ·cases vY hC h with
   |val v H' h g=>
    obtain⟨ot,M2,env',ds',H2,g1,g2⟩:=zp hC rest _ _ _ _ h;refine⟨ot,M2,env',ds',H2,g1,λf w a c₀ cs u hr ha hd hm hc Q hQ=>AF (hw _) ?_⟩;refine g f w a hr ha.glob (ha.stand o) _ _ λf' w' x s hx=>?_;exact g2 f' w' _ c₀ cs u s.rel ((ha.up s.le).put o.dst hx) (by rw[put_defers];exact hd.up s.le) (hm.up s.le) hc Q λe a' u' w'' hp=>hQ e a' u' w'' (hp.after s)
   |dB v H' h g=>
    refine⟨.dB v,M,env,ds,H',h,λf w a c₀ cs u hr ha hd hm hc Q hQ=>AF (hw _) ?_⟩;refine g f w a hr ha.glob (ha.stand o) _ _ λf' w' ch s hp=>?_;have:=hQ (.panic ch) a u w' ⟨f',s,ha.up s.le,hd.up s.le,hm.up s.le,ch,rfl,hp⟩;rw[rW hc]at this;exact this
def akS(P:Program)(x:RT):Prop:=∀c M env ds H K,x c M env ds H K→JP P M env ds H K λa cs w Q=>c.wpS P Q a cs w
theorem JP.aq4{M:gA}{env:List AV}{ds:List eT}{H:AH}{K:KR}{c:Code}(h:iS P env ds H (λo env ds H=>K o M env ds H) λa w Q=>c.wp P Q a w):JP P M env ds H K λa cs w Q=>c.wpS P Q a cs w:=by
 obtain⟨o,env',ds',H',h1,h2⟩:=h;refine⟨o,M,env',ds',H',h1,λf w a c₀ cs u hr ha hd hm hc Q hQ=>wpS_of_wp (h2 f w a hr ha hd _ λe a' w' hx=>?_)⟩;obtain⟨f',s,g1,g2,g3⟩:=hx;have:=hQ e a' u w' ⟨f',s,g1,g2,hm.up s.le,g3⟩;rw[rW hc]at this;exact this
theorem adz{C:fx}(hC:iD P C){x:ET}(hx:AB P x){ih:RT}(hi:akS P ih):akS P (O5 C x P P.globals.size ih):=by
 intro c M env ds H K h;unfold O5 at h;split at h
 ·rename_i a b;obtain⟨o,M1,ek,ds1,H1,h1,h2⟩:=hi a _ _ _ _ _ h;have pass:o≠.normal→K o M1 ek ds1 H1→JP P M env ds H K λac cs w Q=>(Code.seq a b).wpS P Q ac cs w:=λhne hk=>by
   refine⟨o,M1,ek,ds1,H1,hk,λf w ac c₀ cs u hr ha hd hm hc Q hQ=>wpS_seq (h2 f w ac c₀ cs u hr ha hd hm hc _ λe a' u' w' hp=>?_)⟩;have hp':=hp;obtain⟨f',s,g1,g2,g3,g4⟩:=hp;cases o with
   |normal=>exact absurd rfl hne
   |exit id=>subst g4;exact hQ _ _ _ _ hp'
   |goto l=>subst g4;exact hQ _ _ _ _ hp'
   |ret=>subst g4;exact hQ _ _ _ _ hp'
   |dB v=>obtain⟨ch,rfl,_⟩:=g4;exact hQ _ _ _ _ hp'
  cases o with
  |normal=>
   obtain⟨o2,M2,dq,ds2,H2,g1,g2⟩:=hi b _ _ _ _ _ h1;refine⟨o2,M2,dq,ds2,H2,g1,λf w ac c₀ cs u hr ha hd hm hc Q hQ=>wpS_seq (h2 f w ac c₀ cs u hr ha hd hm hc _ λe a' u' w' hp=>?_)⟩;obtain⟨f',s,y1,y2,y3,rfl⟩:=hp;exact g2 f' w' a' { c₀ with mode:=u' } cs u' s.rel y1 y2 y3 rfl Q λe a'' u'' w'' hp=>hQ _ _ _ _ (hp.after s)
  |exit id=>exact pass (by simp) h1
  |goto l=>exact pass (by simp) h1
  |ret=>exact pass (by simp) h1
  |dB v=>exact pass (by simp) h1
 ·rename_i c a b;generalize hv:fQ P.globals.size env c=v at h;cases v<;>try exact h.elim
  case bool t=>
   have hc:∀{f:aO}{act:Act},AR P f env act→act.eval c=.bool t:=λ{f act} ha=>by
    have:=xx ha c;rw[hv]at this;generalize act.eval c=u at this;cases this;rfl
   cases t
   ·obtain⟨o,M1,ek,ds1,H1,h1,h2⟩:=hi b _ _ _ _ _ h;exact⟨o,M1,ek,ds1,H1,h1,λf w ac c₀ cs u hr ha hd hm hc' Q hQ=>wpS_cond (hc ha) (h2 f w ac c₀ cs u hr ha hd hm hc' Q hQ)⟩
   ·obtain⟨o,M1,ek,ds1,H1,h1,h2⟩:=hi a _ _ _ _ _ h;exact⟨o,M1,ek,ds1,H1,h1,λf w ac c₀ cs u hr ha hd hm hc' Q hQ=>wpS_cond (hc ha) (h2 f w ac c₀ cs u hr ha hd hm hc' Q hQ)⟩
 ·rename_i id ops;obtain⟨o,M1,ek,ds1,H1,h1,h2⟩:=zp hC _ _ _ _ _ h;exact⟨o,M1,ek,ds1,H1,h1,λf w ac c₀ cs u hr ha hd hm hc Q hQ=>FK (h2 f w ac c₀ cs u hr ha hd hm hc Q hQ)⟩
 ·exact JP.aq4 (hx _ _ _ _ _ h)
theorem O7{C:fx}(hC:iD P C){x:ET}(hx:AB P x):∀d,akS P (amz C x P P.globals.size d)
 |0=>λ_ _ _ _ _ _ h=>h.elim
 |d+1=>adz hC hx (O7 hC hx d)
theorem DR.qU{f:aO}{es:List Deferred}(h:DR f [] es):es=[]:=by cases h;rfl
theorem O8{g:Nat}{k:Func→Code→Prop}(h:Xh P g k):∃fn c,P.funcs[g]? = some fn∧fn.body=some c∧k fn c:=by
 unfold Xh at h;split at h
 ·rename_i fn hf;split at h
  ·rename_i c hc;exact⟨fn,c,hf,hc,h⟩
  ·exact h.elim
 ·exact h.elim
theorem AG{f:aO}{fn:Func}{args:List AV}{vs:Array Value}(hv:VL f args vs.toList)(hg:∀g,g<P.globals.size→f.dom g∧f.blk g=g∧f.off g=0) :
  AR P f (ba fn args) { tmps:=vs++Array.replicate (fn.ntmps-vs.size) undef,defers:=[] }:=by
 refine⟨?_,hg⟩;have hl:=hv.length;have e:vs.toList.length=vs.size:=Array.length_toList;simp only[ba,Array.toList_append,Array.toList_replicate];rw[hl,e];exact hv.append (VL.replicate (VR.undef f) _)
theorem akT{C:fx}(hC:iD P C){x:ET}(hx:AB P x)(d:Nat):JN P (Xi C x P P.globals.size d):=by
 intro g args M H K hb h;obtain⟨fn,c,hf,hc,h⟩:=O8 h;obtain⟨o,M',env',ds',H',h1,h2⟩:=O7 hC hx d _ _ _ _ _ _ h;unfold JM at h1;split at h1
 ·have key:∀(co:kI),(∀(f:aO) (H0:AH) w e a u' w',AE P f H0 w o M' env' [] H' e a u' w'→∀c₀ cs,bodyPostS P fn c₀ cs (O6 f H0 w co M' H') e a ({ c₀ with mode:=u' }::cs) w')→K co M' H'→
    ∃o M' H',K o M' H'∧∀f w (vs:Array Value) u,HR f H w→(∀g,g<P.globals.size→f.dom g∧f.blk g=g∧f.off g=0)→VL f args vs.toList→MR f M u→CallsD P g vs u w (O6 f H w o M' H'):=λco h3 h4=>
   ⟨co,M',H',h4,λf w vs u hr hg hv hm=>callsD_of_wpS hf hc λc₀ cs hu=>h2 f w _ c₀ cs u hr (AG hv hg) .nil hm hu _ λe a' u' w' hp=>h3 f H w e a' u' w' hp c₀ cs⟩
  split at h1
  ·obtain⟨v,g1,g2⟩:=JO h1;refine key (.ret v) (λf H0 w e a u' w' hp c₀ cs=>?_) g1;obtain⟨f',s,y1,y2,y3,rfl⟩:=hp;obtain⟨u,z1,z2⟩:=g2 f' w' a s.rel y1;have hd:a.defers=[]:=y2.qU;exact⟨hd,u',rfl,u,z1,f',s,y3,u,rfl,z2⟩
  ·obtain⟨v,g1,g2⟩:=JO h1;refine key (.ret v) (λf H0 w e a u' w' hp c₀ cs=>?_) g1;obtain⟨f',s,y1,y2,y3,rfl⟩:=hp;obtain⟨u,z1,z2⟩:=g2 f' w' a s.rel y1;have hd:a.defers=[]:=y2.qU;exact⟨hd,u',rfl,u,z1,f',s,y3,u,rfl,z2⟩
  ·rename_i v;refine key (.dB v) (λf H0 w e a u' w' hp c₀ cs=>?_) h1;obtain⟨f',s,y1,y2,y3,ch,rfl,hp⟩:=hp;have hd:a.defers=[]:=y2.qU;exact⟨hd,u',rfl,f',s,y3,ch,rfl,hp⟩
  ·exact h1.elim
 ·exact h1.elim
theorem tq.after{f f1:aO}{H H1:AH}{w w1:World}(s:Step f H w f1 H1 w1){o:kI}{H':AH}{e:Ending}{w':World}(h:tq f1 H1 w1 o H' e w'):tq f H w o H' e w':=by
 obtain⟨f',s',h⟩:=h;exact⟨f',gP.trans s s',h⟩
theorem Leaves.mono{fn:Func}{tmps:Array Value}{R R':Ending→World→Prop}(hR:∀e w,R e w→R' e w):∀(ds:List Deferred) (u:FrameMode) (w:World),Leaves P fn tmps R ds u w→Leaves P fn tmps R' ds u w
 |[],.returning,w,h=>let ⟨v,h1,h2⟩:=h;⟨v,h1,hR _ _ h2⟩
 |[],.panicking chain,w,h=>hR _ _ h
 |[],.run,_,h=>h.elim
 |d::ds,u,w,h=>by
  obtain⟨h1,fv,cap,f,args,h2,h3,h4⟩:=h;refine⟨h1,fv,cap,f,args,h2,h3,h4.mono λe u' w' h5=>?_⟩;cases e with
  |returned v=>exact Leaves.mono hR ds _ _ h5
  |panicked ch=>exact Leaves.mono hR ds _ _ h5
  |outgrown=>exact hR _ _ h5
theorem adA{f:aO}{o:kI}{M:gA}{u:FrameMode}(hm:MR f M u){e:Ending}
  (he:match o with|.ret v=>∃x,e=.returned x∧VR f v x|.dB v=>∃ch,e=.panicked ch∧zo f v ch) :
  match e with|.returned _=>MR f (FJ o M) (settle u)|.panicked ch=>MR f (FJ o M) (raised u ch)|.outgrown=>False:=by
 cases o with
 |ret v=>
  obtain⟨x,rfl,_⟩:=he;cases M with
  |ret=>cases hm;rfl
  |dB v=>
   obtain⟨ch,rfl,y,older,rfl,h3,h4⟩:=hm;exact⟨_,rfl,y,older,rfl,h3,h4⟩
  |caught v=>
   obtain⟨y,older,rfl,h3,h4⟩:=hm;have:older.dropWhile (λx=>!x.goexit)=[]:=by
    clear h3
    induction older with
    |nil=>rfl
    |cons y l ih=>rw[List.dropWhile_cons,if_pos (by rw[h4 y (by simp)];rfl)];exact ih λz hz=>h4 z (by simp[hz])
   show MR f .ret _;simp only[settle,this];rfl
 |dB v=>
  obtain⟨ch,rfl,x,older,rfl,h3,h4⟩:=he;show MR f (.dB v) _;cases M with
  |ret=>cases hm;exact⟨_,rfl,x,older,rfl,h3,h4⟩
  |dB v=>
   obtain⟨ch',rfl,y,aq5,rfl,h5,h6⟩:=hm;refine⟨_,rfl,x,older++_,rfl,h3,λz hz=>?_⟩;simp only[List.mem_append,List.mem_cons]at hz;rcases hz with hz|rfl|hz
   ·exact h4 z hz
   ·rfl
   ·exact h6 z hz
  |caught v=>
   obtain⟨y,aq5,rfl,h5,h6⟩:=hm;refine⟨_,rfl,x,older++_,rfl,h3,λz hz=>?_⟩;simp only[List.mem_append,List.mem_cons]at hz;rcases hz with hz|rfl|hz
   ·exact h4 z hz
   ·rfl
   ·exact h6 z hz
theorem zq{CD:xy}(hCD:JN P CD){fn:Func}{env:List AV}{K:kI→AH→Prop}:∀(ds:List eT) (M:gA) (H:AH),pJ P CD fn env ds M H K→
  ∃co H',K co H'∧∀f w a es u,HR f H w→AR P f env a→DR f ds es→MR f M u→Leaves P fn a.tmps (tq f H w co H') es u w
 |[],.ret,H,h=>by
  obtain⟨v,h1,h2⟩:=JO h;refine⟨_,_,h1,λf w a es u hr ha hd hm=>?_⟩;cases hd;cases hm;obtain⟨x,g1,g2⟩:=h2 f w a hr ha;exact⟨x,g1,f,Step.refl hr,x,rfl,g2⟩
 |[],.dB v,H,h=>by
  refine⟨_,_,h,λf w a es u hr ha hd hm=>?_⟩;cases hd;obtain⟨ch,rfl,hp⟩:=hm;exact⟨f,Step.refl hr,ch,rfl,hp⟩
 |[],.caught _,_,h=>h.elim
 |d::ds,M,H,h=>by
  unfold pJ at h;obtain⟨hb,h⟩:=aI h;obtain⟨o,M',H1,h1,h2⟩:=hCD d.g d.args M H _ hb h;obtain⟨co,H2,g1,g2⟩:=zq hCD ds _ _ h1;refine⟨co,H2,g1,λf w a es u hr ha hd hm=>?_⟩;cases hd with
  |cons g args cap vs _ es hv hd=>
   refine leaves_cons hm.ne (f:=g) (args:=vs++cap) (by simp[invoke,Az hb]) ?_;refine(h2 f w _ u hr ha.glob hv hm).mono λe u' w' hp=>?_;obtain⟨f',s,hm',he⟩:=hp;have hA:=adA hm' he;have key:∀v,MR f' (FJ o M') v→Leaves P fn a.tmps (tq f H w co H2) es v w':=λv hv=>
    Leaves.mono (λe w h=>h.after s) _ _ _ (g2 f' w' a es v s.rel (ha.up s.le) (hd.up s.le) hv)
   cases e with
   |returned x=>exact key _ hA
   |panicked ch=>exact key _ hA
   |outgrown=>exact hA.elim
theorem akU{C:fx}(hC:iD P C){D:DT}(hD:rV P D)(N d:Nat):iD P (Xj C D P P.globals.size N d):=by
 intro g args H K hb h;obtain⟨fn,c,hf,hc,h⟩:=O8 h;have hx:=UK hC hD (N:=N) d;obtain⟨o,env',ds',H',h1,h2⟩:=hx _ _ _ _ _ h;have hCD:=akT hC hx d;have key:∀(M:gA),pJ P (Xi C (exec C D P P.globals.size N d) P P.globals.size d) fn env' ds' M H' K→
   (∀(f:aO) (H0:AH) w (R:Ending→World→Prop) e a w',nt P f H0 w o env' ds' H' e a w'→(∀f' u,Step f H0 w f' H' w'→AR P f' env' a→DR f' ds' a.defers→MR f' M u→Leaves P fn a.tmps R a.defers u w')→bodyPostD P fn R e a w')→
   ∃o H',K o H'∧∀f w (vs:Array Value),HR f H w→(∀g,g<P.globals.size→f.dom g∧f.blk g=g∧f.off g=0)→VL f args vs.toList→Calls P g vs w (tq f H w o H'):=λM hl hb=>by
  obtain⟨co,H2,g1,g2⟩:=zq hCD _ _ _ hl;refine⟨co,H2,g1,λf w vs hr hg hv=>calls_of_wp_defers hf hc (h2 f w _ hr (AG hv hg) .nil _ λe a' w' hp=>hb f H w _ e a' w' hp λf' u s ha hd hm=>?_)⟩;exact Leaves.mono (λe w h=>h.after s) _ _ _ (g2 f' w' a' a'.defers u s.rel ha hd hm)
 cases o with
 |normal=>exact key .ret h1 λf H0 w R e a w' hp hl=>by obtain⟨f',s,y1,y2,rfl⟩:=hp;exact hl f' _ s y1 y2 rfl
 |ret=>exact key .ret h1 λf H0 w R e a w' hp hl=>by obtain⟨f',s,y1,y2,rfl⟩:=hp;exact hl f' _ s y1 y2 rfl
 |dB v=>exact key (.dB v) h1 λf H0 w R e a w' hp hl=>by obtain⟨f',s,y1,y2,ch,rfl,hp⟩:=hp;exact hl f' _ s y1 y2 ⟨ch,rfl,hp⟩
 |exit=>exact h1.elim
 |goto=>exact h1.elim
end
def gk(ops:Array Oper)(i:Nat):List Nat:=match ops[i]? with|some o=>(o.after.toList.filter (Region.binds .any)).map (·.on)|none=>[]
inductive pK(ops:Array Oper):Nat→Nat→Prop
 |edge {i j:Nat}:j∈gk ops i→pK ops i j
 |step {i j k:Nat}:j∈gk ops i→pK ops j k→pK ops i k
def uni(a b:List Nat):List Nat:=a++b.filter λx=>!(a.contains x)
theorem UN{a b:List Nat}{x:Nat}(h:x∈uni a b):x∈a∨x∈b:=by
 unfold uni at h;rw[List.mem_append,List.mem_filter]at h;exact h.imp id And.left
def tu:List (Nat×List Nat)→Nat→List Nat
 |[],_=>[]
 |(j,m)::r,i=>bif Nat.beq i j then m else tu r i
def FL(ms:List (Nat×List Nat)):List Nat→List Nat
 |[]=>[]
 |j::r=>uni (uni [j] (tu ms j)) (FL ms r)
def masks(ops:Array Oper):List Nat→List (Nat×List Nat)→List (Nat×List Nat)
 |[],ms=>ms
 |i::r,ms=>masks ops r ((i,FL ms (gk ops i))::ms)
def np(ops:Array Oper)(ms:List (Nat×List Nat)):Prop:=∀i j,j∈tu ms i→pK ops i j
theorem M0{ops:Array Oper}{ms:List (Nat×List Nat)}(h:np ops ms):∀{es:List Nat}{x:Nat},x∈FL ms es→∃j∈es,x=j∨pK ops j x
 |[],x,hx=>by simp[FL]at hx
 |j::r,x,hx=>by
  rcases UN hx with hx|hx
  ·rcases UN hx with hx|hx
   ·exact⟨j,by simp,.inl (by simpa using hx)⟩
   ·exact⟨j,by simp,.inr (h _ _ hx)⟩
  ·obtain⟨k,hk,hx⟩:=M0 h hx;exact⟨k,by simp[hk],hx⟩
theorem uL{ops:Array Oper}:∀(l:List Nat){ms:List (Nat×List Nat)},np ops ms→np ops (masks ops l ms)
 |[],_,h=>h
 |i::r,ms,h=>uL r λk j hj=>by
  simp only[tu]at hj;cases hb:Nat.beq k i with
  |false=>rw[hb]at hj;exact h k j hj
  |true=>
   rw[hb]at hj;have e:=Nat.eq_of_beq_eq_true hb;subst e;obtain⟨m,h1,h2⟩:=M0 h hj;rcases h2 with rfl|h2
   ·exact .edge h1
   ·exact .step h1 h2
def jU(ops:Array Oper)(i:Nat):Option Tmp:=(ops[i]?).bind (·.dst)
def gF(ops:Array Oper)(i:Nat):List Tmp:=match ops[i]? with|some o=>o.looksAt ops|none=>[]
def gH(ops:Array Oper)(i:Nat):Bool:=match ops[i]? with
 |some o=>(match o.op,o.guard,o.dst with
  |.assign _,none,some t=>(List.range ops.size).any λk=>!(Nat.beq k i)&&((gF ops k).contains t||jU ops k == some t)
  |_,_,_=>false)
 |none=>false
def ic(ops:Array Oper)(i:Nat):Bool:=(match ops[i]? with|some o=>turns o|none=>false)||gH ops i
theorem oi{ops:Array Oper}{i:Nat}{o:Oper}(ho:ops[i]? = some o)(h:turns o=true):ic ops i=true:=by simp[ic,ho,h]
theorem O9{ops:Array Oper}{i:Nat}(h:gH ops i=true):ic ops i=true:=by simp[ic,h]
theorem Pa{ops:Array Oper}{i:Nat}{o:Oper}(ho:ops[i]? = some o){g:Nat×Bool}(h:o.guard=some g):gH ops i=false:=by
 unfold gH;rw[ho];simp only[h];split<;>first|rfl|(rename_i h2 _;cases h2)
def Lin(ops:Array Oper):List Nat→Prop
 |[]=>True
 |i::r=>(ic ops i=true→∀j∈r,pK ops j i)∧Lin ops r
def Pb(ops:Array Oper):List Nat→Prop
 |[]=>True
 |i::r=>(∀j∈r,∀t,jU ops j=some t→(t∉gF ops i∧jU ops i≠some t)∨(gH ops j=true∧pK ops j i))∧(∀j∈r,∀t,jU ops i=some t→t∈gF ops j→pK ops j i)∧(∀t,jU ops i=some t→t∉gF ops i)∧Pb ops r
def Xl(ops:Array Oper):List Nat→List Nat→Prop
 |_,[]=>True
 |seen,i::r=>(∀j∈gk ops i,j∈seen)∧Xl ops (i::seen) r
def Xm(ops:Array Oper)(ms:List (Nat×List Nat)):List Nat→Bool
 |[]=>true
 |i::r=>(!(ic ops i)||r.all λj=>(tu ms j).contains i)&&Xm ops ms r
def Xn(ops:Array Oper)(ms:List (Nat×List Nat)):List Nat→Bool
 |[]=>true
 |i::r=>(match jU ops i with|none=>true|some t=>!((gF ops i).contains t)&&r.all λj=>!((gF ops j).contains t)||(tu ms j).contains i) &&
  (r.all λj=>match jU ops j with|none=>true|some t=>(!((gF ops i).contains t) && !(jU ops i == some t))||(gH ops j&&(tu ms j).contains i))&&Xn ops ms r
def NY(ops:Array Oper):List Nat→List Nat→Bool
 |_,[]=>true
 |seen,i::r=>(gk ops i).all (λj=>seen.contains j)&&NY ops (i::seen) r
def nodupB:List Nat→Bool
 |[]=>true
 |i::r=>!(r.contains i)&&nodupB r
theorem UO{ops:Array Oper}{ms:List (Nat×List Nat)}(hm:np ops ms):∀{l:List Nat},Xm ops ms l=true→Lin ops l
 |[],_=>trivial
 |i::r,h=>by
  simp only[Xm,Bool.and_eq_true,Bool.or_eq_true,Bool.not_eq_true',List.all_eq_true,List.contains_iff_mem]at h;refine⟨λht j hj=>?_,UO hm h.2⟩;rcases h.1 with h1|h1
  ·rw[ht]at h1;cases h1
  ·exact hm _ _ (h1 j hj)
theorem UP{ops:Array Oper}{ms:List (Nat×List Nat)}(hm:np ops ms):∀{l:List Nat},Xn ops ms l=true→Pb ops l
 |[],_=>trivial
 |i::r,h=>by
  simp only[Xn,Bool.and_eq_true]at h;obtain⟨⟨h1,h2⟩,h3⟩:=h;refine⟨λj hj t ht=>?_,λj hj t ht hl=>?_,λt ht=>?_,UP hm h3⟩
  ·rw[List.all_eq_true]at h2;have:=h2 j hj;rw[ht]at this;simp only[Bool.or_eq_true,Bool.and_eq_true]at this;rcases this with h4|⟨h4,h5⟩
   ·exact .inl (by simpa using h4)
   ·exact .inr ⟨h4,hm _ _ (by simpa using h5)⟩
  ·rw[ht]at h1;simp only[Bool.and_eq_true,List.all_eq_true,Bool.or_eq_true,Bool.not_eq_true']at h1;rcases h1.2 j hj with h4|h4
   ·simp[hl]at h4
   ·exact hm _ _ (by simpa using h4)
  ·rw[ht]at h1;simp only[Bool.and_eq_true]at h1;simpa using h1.1
theorem Pc{ops:Array Oper}:∀{l seen:List Nat},NY ops seen l=true→Xl ops seen l
 |[],_,_=>trivial
 |i::r,seen,h=>by
  simp only[NY,Bool.and_eq_true,List.all_eq_true]at h;exact⟨λj hj=>by simpa using h.1 j hj,Pc h.2⟩
theorem M3:∀{l:List Nat},nodupB l=true→l.Nodup
 |[],_=>.nil
 |i::r,h=>by
  simp only[nodupB,Bool.and_eq_true]at h;exact List.nodup_cons.2 ⟨by simpa using h.1,M3 h.2⟩
section
variable {P:Program}
def Same(ops:Array Oper)(o:Oper)(env dq:List AV):Prop:=∀t∈o.looksAt ops,dq[t]? = env[t]?
theorem Same.refl{ops:Array Oper}{o:Oper}(env:List AV):Same ops o env env:=λ_ _=>rfl
theorem Same.trans{ops:Array Oper}{o:Oper}{a b c:List AV}(h:Same ops o a b)(g:Same ops o b c):Same ops o a c:=λt ht=>(g t ht).trans (h t ht)
theorem Same.fQ{ops:Array Oper}{o:Oper}{env dq:List AV}(h:Same ops o env dq){x:Operand}(hx:x∈o.op.operands)(G:Nat):Go.X.fQ G dq x=Go.X.fQ G env x:=by
 cases x with
 |tmp t=>
  have:=h t (by unfold Oper.looksAt;rw[List.mem_append];left;rw[List.mem_filterMap];exact⟨.tmp t,by simpa using hx,rfl⟩);simp only[Go.X.fQ,List.getD_eq_getElem?_getD,this]
 |const v=>rfl
 |global g=>rfl
 |func g=>rfl
theorem Same.stand{ops:Array Oper}{o:Oper}{env dq:List AV}(h:Same ops o env dq){f:aO}{a:Act}(ha:AR P f dq a):Stand f o (Go.X.fQ P.globals.size env) a:=λx hx=>by
 rw[←h.fQ hx];exact xx ha x
theorem Same.oE{ops:Array Oper}{o:Oper}{env dq:List AV}(h:Same ops o env dq){j:Nat}{want:Bool}(hg:o.guard=some (j,want)):Go.X.oE ops dq j=Go.X.oE ops env j:=by
 unfold Go.X.oE;cases hd:(ops[j]?).bind (·.dst)with
 |none=>rfl
 |some t=>
  have:=h t (by unfold Oper.looksAt;rw[List.mem_append];right;simp[hg,hd]);simp only[List.getD_eq_getElem?_getD,this]
def gb(P:Program)(ops:Array Oper)(o:Oper)(env:List AV)(b:Bool):Prop:=∀f a dq,AR P f dq a→Same ops o env dq→Region.wanted o (yielded ops a.tmps)=b
def jn(P:Program)(ops:Array Oper)(o:Oper)(env:List AV)(v:AV)(H:AH):Prop:=∀f w a dq,HRQ f H.sem w→AR P f dq a→Same ops o env dq→∃u,Did P o a w u w∧VR f v u
def zr(P:Program)(ops:Array Oper)(o:Oper)(env:List AV)(ob:eS)(vf:Nat→AV):Prop:=∀f w a dq,AR P f dq a→Same ops o env dq→∃u obj,Did P o a w u (w.alloc obj)∧nG f w ob vf u obj
def AI(P:Program)(ops:Array Oper)(o:Oper)(env:List AV)(H:AH)(v:AV)(H':AH):Prop:=∀f w a dq,HR f H w→AR P f dq a→Same ops o env dq→∀(next:Act→World→Prop) Q,(∀f' w' u,Step f H w f' H' w'→VR f' v u→next (a.put o.dst u) w')→o.wp P a w next Q
def NZ(P:Program)(ops:Array Oper)(o:Oper)(env:List AV)(H:AH)(v:AV)(H':AH):Prop:=∀f w a dq,HR f H w→AR P f dq a→Same ops o env dq→∀(next:Act→World→Prop) (Q:Exit→Act→World→Prop),(∀f' w' ch,Step f H w f' H' w'→zo f' v ch→Q (.panic ch) a w')→o.wp P a w next Q
abbrev lV:=Nat×Oper×List AV×AV
inductive Tr(P:Program)(ops:Array Oper):List Nat→List lV→List AV→AH→Option AV→List AV→AH→Prop
 |nil (chk:List lV) (env:List AV) (H:AH):Tr P ops [] chk env H none env H
 |skip {i:Nat}{o:Oper}{rest:List Nat}{chk:List lV}{env:List AV}{H:AH}{r:Option AV}{env':List AV}{H':AH}(ho:ops[i]? = some o) (hla:gH ops i=false) (hw:gb P ops o env false)
   (hr:Tr P ops rest chk (cU env o.dst fj) H r env' H'):Tr P ops (i::rest) chk env H r env' H'
 |look {i:Nat}{o:Oper}{rest:List Nat}{chk:List lV}{env:List AV}{H:AH}{r:Option AV}{env':List AV}{H':AH}(v:AV) (ho:ops[i]? = some o) (hla:gH ops i=false) (hw:gb P ops o env true) (hl:jn P ops o env v H)
   (hr:Tr P ops rest ((i,o,env,v)::chk) (cU env o.dst v) H r env' H'):Tr P ops (i::rest) chk env H r env' H'
 |still {i:Nat}{o:Oper}{rest:List Nat}{chk:List lV}{env:List AV}{H:AH}{r:Option AV}{env':List AV}{H':AH}(v:AV) (ho:ops[i]? = some o) (hla:gH ops i=false) (hw:gb P ops o env true) (hl:∀H,jn P ops o env v H)
   (hr:Tr P ops rest chk (cU env o.dst v) H r env' H'):Tr P ops (i::rest) chk env H r env' H'
 |lay {i:Nat}{o:Oper}{rest:List Nat}{chk:List lV}{env:List AV}{H:AH}{r:Option AV}{env':List AV}{H':AH}(ob:eS) (vf:Nat→AV) (H1:AH) (ho:ops[i]? = some o) (hla:gH ops i=false) (hw:gb P ops o env true) (hn:H1.n=H.n+1) (hnew:H1.at H.n=ob)
   (hold:∀b,b≠H.n→H1.at b=H.at b) (BJ:H.at H.n=.dead) (hown:ob.sem.own=true) (hl:zr P ops o env ob vf)
   (hr:Tr P ops rest chk (cU env o.dst (vf H.n)) H1 r env' H'):Tr P ops (i::rest) chk env H r env' H'
 |turn {i:Nat}{o:Oper}{rest:List Nat}{chk:List lV}{env:List AV}{H:AH}{r:Option AV}{env':List AV}{H':AH}(v:AV) (H1:AH) (ho:ops[i]? = some o) (ht:ic ops i=true) (hw:gb P ops o env true) (hl:AI P ops o env H v H1)
   (hc:H1=H∨∀x∈chk,pK ops i x.1∨jn P ops x.2.1 x.2.2.1 x.2.2.2 H1)
   (hr:Tr P ops rest chk (cU env o.dst v) H1 r env' H'):Tr P ops (i::rest) chk env H r env' H'
 |dB {i:Nat}{o:Oper}{rest:List Nat}{chk:List lV}{env:List AV}{H:AH}(v:AV) (H1:AH) (ho:ops[i]? = some o) (ht:ic ops i=true) (hw:gb P ops o env true) (hl:NZ P ops o env H v H1) :
   Tr P ops (i::rest) chk env H (some v) env H1
def wa:Lay:=λ_ _=>False
def adB(P:Program)(o:Oper):Bool:=
 match o.op with
 |.load ..=>false
 |.lookup ..=>false
 |.convert s ..=>(match P.underlying s with|some (.int _)=>true|_=>false)
 |.binOp _ t ..=>(match P.underlying t with|some (.pointer _)=>false|_=>true)
 |.call c=>(match c.callee,c.argTypes.toList with
  |.builtin .max,_=>true
  |.builtin .min,_=>true
  |.builtin .len,t::_=>(match P.underlying t with|some (.map ..)=>false|_=>true)
  |_,_=>false)
 |_=>true
def uM:AH:=⟨.e,0⟩
section
variable (C:fx)(P:Program)(G:Nat)(ops:Array Oper)(ms:List (Nat×List Nat))
def oN(i:Nat)(H:AH):List lV→Prop→Prop
 |[],x=>x
 |(j,o,env,v)::r,x=>bI ((tu ms i).contains j) (oN i H r x) (s3 P o (fQ G env) wa H λv' _=>bT (aU v' v) (oN i H r x))
def bG(H:AH)(x:Prop):Prop:=match H.at H.n with|.dead=>x|_=>False
def kJ:List Nat→List lV→List AV→AH→(List lV→List AV→AH→Prop)→(AV→List AV→AH→Prop)→Prop
 |[],chk,env,H,K,_=>K chk env H
 |i::rest,chk,env,H,K,KP=>match ops[i]? with
  |none=>False
  |some o=>
   let go:List AV→Prop:=λenv=>bI (gH ops i) (s3 P o (fQ G env) wa uM λv _=>kJ rest chk (cU env o.dst v) H K KP) <| bI (turns o) (bT (!(BN o)) (uJ C P G o (fQ G env) (aA H) H (λv H1=>oN P G ms i H1 chk (kJ rest chk (cU env o.dst v) H1 K KP)) (λv H1=>KP v env H1)))
    (bI (vX o) (bG H (s3 P o (fQ G env) (aA H) H λv H1=>bT (Nat.beq H1.n (Nat.succ H.n)) (kJ rest chk (cU env o.dst v) H1 K KP)))
    (bI (adB P o) (s3 P o (fQ G env) wa uM λv _=>kJ rest chk (cU env o.dst v) H K KP)
     (s3 P o (fQ G env) wa H λv _=>kJ rest ((i,o,env,v)::chk) (cU env o.dst v) H K KP)))
   match o.guard with
   |none=>go env
   |some (j,want)=>FG ops env j want go (λenv=>kJ rest chk (cU env o.dst fj) H K KP)
end
theorem gb.of_none{ops:Array Oper}{o:Oper}{env:List AV}(h:o.guard=none):gb P ops o env true:=λf a dq _ _=>by simp[Region.wanted,h]
theorem gb.akV{ops:Array Oper}{o:Oper}{env:List AV}{j:Nat}{want:Bool}(hg:o.guard=some (j,want)){x y:Prop}(hk:FF (oE ops env j) want x y) :
  (x∧gb P ops o env true)∨(y∧gb P ops o env false):=by
 generalize hv:oE ops env j=v at hk;cases v<;>try exact hk.elim
 case bool b=>
  have key:gb P ops o env (b == want):=λf a dq h hs=>by
   obtain⟨u,h1,h2⟩:=tt h ((hs.oE hg).trans hv) (by simp);cases h1;simp only[Region.wanted,hg,h2];cases b<;>cases want<;>rfl
  rcases dW (Ee hk)with⟨h1,h2⟩|⟨h1,h2⟩
  ·exact .inl ⟨h2,h1 ▸ key⟩
  ·exact .inr ⟨h2,h1 ▸ key⟩
 case aY l=>
  refine .inr ⟨hk,λf a dq h hs=>?_⟩;obtain⟨u,h1,h2⟩:=tt h ((hs.oE hg).trans hv) (by simp);cases h1;simp only[Region.wanted,hg,h2];rfl
theorem BO{ops:Array Oper}{o:Oper}{env:List AV}{H:AH}{k:AV→AH→Prop}(ht:turns o=false)(h:s3 P o (fQ P.globals.size env) wa H k):∃v,k v H∧jn P ops o env v H:=by
 cases OX h with
 |same v h g=>exact⟨v,h,λf w a dq hr ha hs=>g f w a hr (hs.stand ha)⟩
 |new ob vf _ h=>exact h.elim
 |turn v H' h ht'=>rw[ht]at ht';cases ht'
theorem HRQ.empty(f:aO)(w:World):HRQ f uM.sem w:=⟨λb _ ha=>by simp[uM,AH.sem,AH.at,Bt.get?,eS.sem,ik.alive]at ha,λb c _ _ ho _ _=>by simp[uM,AH.sem,AH.at,Bt.get?,eS.sem,ik.own]at ho⟩
theorem pL{ops:Array Oper}{ms:List (Nat×List Nat)}(hm:np ops ms){i:Nat}{H:AH}{x:Prop}:∀{chk:List lV},(∀c∈chk,turns c.2.1=false)→oN P P.globals.size ms i H chk x→x∧∀c∈chk,pK ops i c.1∨jn P ops c.2.1 c.2.2.1 c.2.2.2 H
 |[],_,h=>⟨h,by simp⟩
 |(j,o,env,v)::r,ht,h=>by
  have ih:=λ(h:oN P P.globals.size ms i H r x)=>pL hm (chk:=r) (x:=x) (λc hc=>ht c (by simp[hc])) h;rcases dW h with⟨h1,h2⟩|⟨h1,h2⟩
  ·obtain⟨g1,g2⟩:=ih h2;refine⟨g1,λc hc=>?_⟩;rcases List.mem_cons.1 hc with rfl|hc
   ·exact .inl (hm _ _ (by simpa using h1))
   ·exact g2 c hc
  ·obtain⟨v',h3,h4⟩:=BO (ops:=ops) (ht (j,o,env,v) (by simp)) h2;obtain⟨h5,h6⟩:=aI h3;obtain⟨g1,g2⟩:=ih h6;refine⟨g1,λc hc=>?_⟩;rcases List.mem_cons.1 hc with rfl|hc
   ·rw[vV h5]at h4;exact .inr h4
   ·exact g2 c hc
structure Like(ops ops':Array Oper):Prop where
 dst:∀j:Nat,(ops'[j]?).bind Oper.dst=(ops[j]?).bind Oper.dst
 dep:∀{i j},pK ops i j→pK ops' i j
 late:∀i,gH ops' i=gH ops i
theorem Like.refl(ops:Array Oper):Like ops ops:=⟨λ_=>rfl,λh=>h,λ_=>rfl⟩
section
variable {ops ops':Array Oper}
theorem Like.yielded(L:Like ops ops')(t:Array Value):Go.yielded ops' t=Go.yielded ops t:=by
 funext j;unfold Go.yielded;rw[L.dst]
theorem Like.looks(L:Like ops ops')(o:Oper):o.looksAt ops'=o.looksAt ops:=by
 unfold Oper.looksAt;cases o.guard with
 |none=>rfl
 |some g=>simp only[L.dst]
theorem Like.same(L:Like ops ops'){o:Oper}{env dq:List AV}(h:Same ops' o env dq):Same ops o env dq:=λt ht=>h t (by rw[L.looks];exact ht)
theorem Like.want(L:Like ops ops'){o:Oper}{env:List AV}{b:Bool}(h:gb P ops o env b):gb P ops' o env b:=λf a dq ha hs=>by rw[L.yielded];exact h f a dq ha (L.same hs)
theorem Like.look(L:Like ops ops'){o:Oper}{env:List AV}{v:AV}{H:AH}(h:jn P ops o env v H):jn P ops' o env v H:=λf w a dq hr ha hs=>h f w a dq hr ha (L.same hs)
theorem Like.lay(L:Like ops ops'){o:Oper}{env:List AV}{ob:eS}{vf:Nat→AV}(h:zr P ops o env ob vf):zr P ops' o env ob vf:=λf w a dq ha hs=>h f w a dq ha (L.same hs)
theorem Like.turn(L:Like ops ops'){o:Oper}{env:List AV}{H:AH}{v:AV}{H1:AH}(h:AI P ops o env H v H1):AI P ops' o env H v H1:=λf w a dq hr ha hs=>h f w a dq hr ha (L.same hs)
theorem Like.dB(L:Like ops ops'){o:Oper}{env:List AV}{H:AH}{v:AV}{H1:AH}(h:NZ P ops o env H v H1):NZ P ops' o env H v H1:=λf w a dq hr ha hs=>h f w a dq hr ha (L.same hs)
theorem Like.ic(L:Like ops ops'){i:Nat}(h:ops'[i]? = ops[i]?):Go.X.ic ops' i=Go.X.ic ops i:=by unfold Go.X.ic;rw[h,L.late]
end
def Came(P:Program)(ops:Array Oper)(l:List Nat)(chk:List lV)(env:List AV)(H:AH)(K:List lV→List AV→AH→Prop)(KP:AV→List AV→AH→Prop):Prop:=
 (∃Xo env' H',K Xo env' H'∧(∀c∈Xo,turns c.2.1=false)∧∀ops',Like ops ops'→(∀i∈l,ops'[i]? = ops[i]?)→∀tail r e h,Tr P ops' tail Xo env' H' r e h→Tr P ops' (l++tail) chk env H r e h)∨
 (∃v env' H',KP v env' H'∧∀ops',Like ops ops'→(∀i∈l,ops'[i]? = ops[i]?)→∀tail,Tr P ops' (l++tail) chk env H (some v) env' H')
theorem Came.cons{ops:Array Oper}{i:Nat}{rest:List Nat}{chk oG:List lV}{env ek:List AV}{H H1:AH}{K:List lV→List AV→AH→Prop}{KP:AV→List AV→AH→Prop}(h:Came P ops rest oG ek H1 K KP)
  (g:∀ops',Like ops ops'→ops'[i]? = ops[i]?→∀l r e h,Tr P ops' l oG ek H1 r e h→Tr P ops' (i::l) chk env H r e h):Came P ops (i::rest) chk env H K KP:=by
 rcases h with⟨c,e,h,h1,h2,h3⟩|⟨v,e,h,h1,h2⟩
 ·exact .inl ⟨c,e,h,h1,h2,λops' L hl tail r e h ht=>g ops' L (hl i (by simp)) _ r e h (h3 ops' L (λj hj=>hl j (by simp[hj])) tail r e h ht)⟩
 ·exact .inr ⟨v,e,h,h1,λops' L hl tail=>g ops' L (hl i (by simp)) _ _ _ _ (h2 ops' L (λj hj=>hl j (by simp[hj])) tail)⟩
theorem lv{C:fx}(hC:iD P C){ops:Array Oper}{ms:List (Nat×List Nat)}(hm:np ops ms){K:List lV→List AV→AH→Prop}{KP:AV→List AV→AH→Prop}:∀(l:List Nat) (chk:List lV) (env:List AV) (H:AH),(∀c∈chk,turns c.2.1=false)→
  kJ C P P.globals.size ops ms l chk env H K KP→Came P ops l chk env H K KP
 |[],chk,env,H,ht,h=>.inl ⟨chk,env,H,h,ht,λ_ _ _ _ _ _ _ h=>h⟩
 |i::rest,chk,env,H,ht,h=>by
  unfold kJ at h;split at h
  ·exact h.elim
  ·rename_i o ho;have key:gb P ops o env true→(bI (gH ops i) (s3 P o (fQ P.globals.size env) wa uM λv _=>kJ C P P.globals.size ops ms rest chk (cU env o.dst v) H K KP) <| bI (turns o) (bT (!(BN o)) (uJ C P P.globals.size o (fQ P.globals.size env) (aA H) H (λv H1=>oN P P.globals.size ms i H1 chk (kJ C P P.globals.size ops ms rest chk (cU env o.dst v) H1 K KP)) (λv H1=>KP v env H1)))
    (bI (vX o) (bG H (s3 P o (fQ P.globals.size env) (aA H) H λv H1=>bT (Nat.beq H1.n (Nat.succ H.n)) (kJ C P P.globals.size ops ms rest chk (cU env o.dst v) H1 K KP)))
    (bI (adB P o) (s3 P o (fQ P.globals.size env) wa uM λv _=>kJ C P P.globals.size ops ms rest chk (cU env o.dst v) H K KP)
     (s3 P o (fQ P.globals.size env) wa H λv _=>kJ C P P.globals.size ops ms rest ((i,o,env,v)::chk) (cU env o.dst v) H K KP))))→
     Came P ops (i::rest) chk env H K KP:=λhw h=>by
    rcases dW h with⟨hla,h⟩|⟨hla,h⟩
    ·have hturn:turns o=false:=by
      unfold gH at hla;rw[ho]at hla;simp only at hla;split at hla
      ·rename_i x e1 e2 e3 hop _ _;simp[turns,hop]
      ·cases hla
     obtain⟨v,h1,h2⟩:=BO (ops:=ops) hturn h;refine(lv hC hm rest chk _ _ ht h1).cons λops' L e l r en hh x=>.turn v H (e.trans ho) (by rw[L.ic e];exact O9 hla) (L.want hw) (L.turn λf w a dq hr ha hs next Q hn=>?_) (.inl rfl) x;obtain⟨u,g1,g2⟩:=h2 f w a dq (HRQ.empty f w) ha hs;exact kA g1 (hn f w u (Step.refl hr) g2)
    rcases dW h with⟨htn,h⟩|⟨htn,h⟩
    ·obtain⟨_,h⟩:=aI h;cases vY hC h with
     |val v H1 h g=>
      obtain⟨h,hc⟩:=pL hm ht h;exact(lv hC hm rest chk _ _ ht h).cons λops' L e l r en hh x=>.turn v H1 (e.trans ho) (by rw[L.ic e];exact oi ho htn) (L.want hw) (L.turn λf w a dq hr ha hs next Q hn=>g f w a hr ha.glob (hs.stand ha) next Q hn) (.inr λc hcm=>(hc c hcm).imp L.dep L.look) x
     |dB v H1 h g=>exact .inr ⟨v,env,H1,h,λops' L hl tail=>.dB v H1 ((hl i (by simp)).trans ho) (by rw[L.ic (hl i (by simp))];exact oi ho htn) (L.want hw) (L.dB λf w a dq hr ha hs next Q hn=>g f w a hr ha.glob (hs.stand ha) next Q hn)⟩
    ·rcases dW h with⟨hl,h⟩|⟨hl,h⟩
     ·unfold bG at h;split at h
      ·rename_i hd;cases OX h with
       |same v h g=>
        have:=Nat.eq_of_beq_eq_true (aI h).1;exact absurd this (by simp)
       |new ob vf _ h hown g=>
        obtain⟨H1,g1,g2,g3,g4⟩:=mH h;exact(lv hC hm rest chk _ _ ht (aI g1).2).cons λops' L e l r en hh x=>.lay ob vf H1 (e.trans ho) (by rw[L.late];exact hla) (L.want hw) g2 g3 g4 hd hown (L.lay λf w a dq ha hs=>g f w a (hs.stand ha)) x
       |turn v H' h ht'=>rw[htn]at ht';cases ht'
      ·exact h.elim
     ·rcases dW h with⟨hs,h⟩|⟨hs,h⟩
      ·obtain⟨v,h1,h2⟩:=BO (ops:=ops) htn h;exact(lv hC hm rest chk _ _ ht h1).cons λops' L e l r en hh x=>.still v (e.trans ho) (by rw[L.late];exact hla) (L.want hw) (λH=>L.look λf w a dq _ ha hs=>h2 f w a dq (HRQ.empty f w) ha hs) x
      ·obtain⟨v,h1,h2⟩:=BO (ops:=ops) htn h;exact(lv hC hm rest _ _ _ (λc hc=>by rcases List.mem_cons.1 hc with rfl|hc;exact htn;exact ht c hc) h1).cons λops' L e l r en hh x=>.look v (e.trans ho) (by rw[L.late];exact hla) (L.want hw) (L.look h2) x
   simp only at h;split at h
   ·rename_i hg;exact key (.of_none hg) h
   ·rename_i j want hg;rcases gb.akV hg (FI h)with⟨h,hw⟩|⟨h,hw⟩
    ·exact key hw h
    ·exact(lv hC hm rest chk _ _ ht h).cons λops' L e l r en hh x=>.skip (e.trans ho) (by rw[L.late];exact Pa ho hg) (L.want hw) x
end
section
variable {P:Program}
theorem gm(env:List AV)(d:Option Tmp)(v:AV):(cU env d v).length=env.length:=by cases d<;>simp[cU]
theorem nH{env:List AV}{d:Option Tmp}{v:AV}{t:Tmp}(h:d≠some t):(cU env d v)[t]? = env[t]?:=by
 cases d with
 |none=>rfl
 |some x=>exact List.getElem?_set_ne (λe=>h (by rw[e]))
theorem pM{env:List AV}{v:AV}{t:Tmp}(h:t<env.length):(cU env (some t) v)[t]? = some v:=by simp[cU,h]
theorem Same.put{ops:Array Oper}{o:Oper}{env:List AV}{d:Option Tmp}{v:AV}(h:∀t,d=some t→t∉o.looksAt ops):Same ops o env (cU env d v):=λt ht=>nH (λe=>h t e ht)
def kz(o:Oper)(env:List AV)(v:AV):Prop:=∀t,o.dst=some t→t<env.length→env[t]? = some v
theorem kz.self(o:Oper)(env:List AV)(v:AV):kz o (cU env o.dst v) v:=λt ht hl=>by rw[ht];exact pM (by rw[gm]at hl;exact hl)
theorem kz.put{o:Oper}{env:List AV}{v u:AV}{d:Option Tmp}(h:kz o env v)(hd:∀t,o.dst=some t→d≠some t):kz o (cU env d u) v:=λt ht hl=>by
 rw[nH (hd t ht)];exact h t ht (by rw[gm]at hl;exact hl)
inductive PF(P:Program)(ops:Array Oper)(f:aO)(n0:Nat)(iT:Nat→Option Nat)(chk:List lV)(env:List AV)(H:AH)(i:Nat)(o:Oper):Prop
 |skip (hw:gb P ops o env false) (hv:kz o env fj)
 |look (ek:List AV) (v:AV) (hc:(i,o,ek,v)∈chk) (hw:gb P ops o env true) (hl:jn P ops o env v H) (hs:Same ops o ek env) (hv:kz o env v)
 |still (v:AV) (hw:gb P ops o env true) (hl:∀H,jn P ops o env v H) (hv:kz o env v)
 |lay (id:Nat) (ob:eS) (vf:Nat→AV) (hid:iT i=some id) (hw:gb P ops o env true) (hl:zr P ops o env ob vf) (hat:(H.at id).sem=ob.sem) (hown:ob.sem.own=true) (h0:n0≤id) (hn:id<H.n) (hd:¬f.dom id) (hv:kz o env (vf id))
theorem gb.same{ops:Array Oper}{o:Oper}{env ek:List AV}{b:Bool}(h:gb P ops o env b)(hs:Same ops o env ek):gb P ops o ek b:=λf a dq ha hs2=>h f a dq ha (hs.trans hs2)
theorem jn.same{ops:Array Oper}{o:Oper}{env ek:List AV}{v:AV}{H:AH}(h:jn P ops o env v H)(hs:Same ops o env ek):jn P ops o ek v H:=λf w a dq hr ha hs2=>h f w a dq hr ha (hs.trans hs2)
theorem zr.same{ops:Array Oper}{o:Oper}{env ek:List AV}{ob:eS}{vf:Nat→AV}(h:zr P ops o env ob vf)(hs:Same ops o env ek):zr P ops o ek ob vf:=λf w a dq ha hs2=>h f w a dq ha (hs.trans hs2)
theorem jn.more{ops:Array Oper}{o:Oper}{env:List AV}{v:AV}{H H1:AH}(h:jn P ops o env v H)(hd:H.at H.n=.dead)(hold:∀b,b≠H.n→H1.at b=H.at b):jn P ops o env v H1:=λf w a dq hr ha hs=>
 h f w a dq (hr.forget H.sem λb=>by
  by_cases e:b=H.n
  ·subst e;left;rw[AH.bX,hd];rfl
  ·right;rw[AH.bX,AH.bX,hold b e]) ha hs
theorem gP.ahead{f0 f:aO}{S0 S S1:SH}{w0 w:World}(s:gP f0 S0 w0 f S w)(hn:S.n≤S1.n)(hold:∀b,b<S.n→S1.ob b=S.ob b)(hro:∀b,(S1.ob b).alive=true→(S1.ob b).own=false→S.ob b=S1.ob b):gP f0 S0 w0 f S1 w where
 rel:=gp.mk' (λb hb=>Nat.lt_of_lt_of_le (s.rel.dom b hb) hn) (λb hb ha=>by rw[hold b (s.rel.dom b hb)]at ha ⊢;exact s.rel.obj b hb ha)
  (λb c hb hc ho ha e=>by rw[hold b (s.rel.dom b hb)]at ho;rw[hold c (s.rel.dom c hc)]at ha;exact s.rel.inj b c hb hc ho ha e)
 le:=s.le
 n:=Nat.le_trans s.n hn
 size:=s.size
 keep:=s.keep
 src:=λb hb ho=>by rw[hold b (s.rel.dom b hb)]at ho;exact s.src b hb ho
 ro:=λb ha ho=>by
  have e:=hro b ha ho;rw[←e]at ha ho ⊢;exact s.ro b ha ho
 dead:=λb hb h=>by rw[hold b (Nat.lt_of_lt_of_le hb s.n)];exact s.dead b hb h
 new:=s.new
 rest:=λb hb h=>by rw[hold b (Nat.lt_of_lt_of_le hb s.n)];exact s.rest b hb h
 os:=s.os
 tape:=s.tape
 output:=s.output
theorem gP.catch{f0 f:aO}{S0 S:SH}{w0 w:World}(s:gP f0 S0 w0 f S w){i:Nat}(h0:S0.n≤i)(hi:¬f.dom i)(hn:i<S.n){obj:Obj}{off lim:Nat}(hob:OR (f.ext i w.heap.size off lim) i (S.ob i) (some obj)) :
  gP f0 S0 w0 (f.ext i w.heap.size off lim) S (w.alloc obj):=by
 obtain⟨h1,h2⟩:=s.rel.push S i _ obj off lim hi hn (Nat.le_refl _) rfl (λ_ _=>rfl) hob;have hle:=f.pZ hi w.heap.size off lim;refine⟨h1,s.le.trans hle,s.n,Nat.le_trans s.size (by simp),λk hk hn'=>?_,λb hb ho=>?_,s.ro,s.dead,λb hb hd=>?_,s.rest,s.os,s.tape,s.output⟩
 ·rw[h2 k (Nat.lt_of_lt_of_le hk s.size)];exact s.keep k hk hn'
 ·by_cases e:b=i
  ·subst e;right;rw[aO.iC];exact s.size
  ·have hb':=hb.resolve_left e;rw[hle.blk b hb'];exact s.src b hb' ho
 ·rintro(e|hd')
  ·omega
  ·exact s.new b hb hd hd'
def px(suf:List Nat)(listed:Array Bool)(i:Nat):Prop:=listed.getD i true=false∧i∉suf
structure Inv(P:Program)(ops:Array Oper)(f0:aO)(H0:AH)(w0:World)(ds:List eT)(r:Option AV)(env':List AV)(H':AH)(suf:List Nat)(chk:List lV)(env:List AV)(H:AH)(iT:Nat→Option Nat)(listed:Array Bool)(f:aO)(fc:List AV)(a:Act)(w:World):Prop where
 tr:Tr P ops suf chk env H r env' H'
 step:Step f0 H0 w0 f H w
 ar:AR P f fc a
 dr:DR f ds a.defers
 agree:∀t,(∃i,px suf listed i∧jU ops i=some t)∨fc[t]? = env[t]?
 len:fc.length=env.length
 pend:∀i,px suf listed i→∃o,ops[i]? = some o∧PF P ops f H0.n iT chk env H i o
 nxt:∀i,px suf listed i→∀j∈suf,∀t,jU ops j=some t→(t∉gF ops i∧jU ops i≠some t)∨(gH ops j=true∧pK ops j i)
 late:∀i,px suf listed i→gH ops i=false
 ED:∀i∈suf,listed.getD i true=false
 UQ:suf.Nodup
 lin:Lin ops suf
 ssa:Pb ops suf
 inj:∀i j x,iT i=some x→iT j=some x→i=j
 M4:∀i x,iT i=some x→x<H.n
theorem kK{ops:Array Oper}{i:Nat}{o:Oper}(h:ops[i]? = some o):jU ops i=o.dst:=by simp[jU,h]
theorem mI{ops:Array Oper}{i:Nat}{o:Oper}(h:ops[i]? = some o):gF ops i=o.looksAt ops:=by simp[gF,h]
section
variable {ops:Array Oper}{f0:aO}{H0:AH}{w0:World}{ds:List eT}{r:Option AV}{env':List AV}{H':AH}
theorem Inv.BP{i:Nat}{rest:List Nat}{chk:List lV}{env:List AV}{H:AH}{iT:Nat→Option Nat}{listed:Array Bool}{f:aO}{fc:List AV}{a:Act}{w:World}
  (I:Inv P ops f0 H0 w0 ds r env' H' (i::rest) chk env H iT listed f fc a w){o:Oper}(ho:ops[i]? = some o) (hla:gH ops i=false){v:AV}{oG:List lV}{H1:AH}{uN:Nat→Option Nat}
  (tr:Tr P ops rest oG (cU env o.dst v) H1 r env' H') (hpf:PF P ops f H0.n uN oG (cU env o.dst v) H1 i o) (hst:Step f0 H0 w0 f H1 w)
  (hold:∀p op,p≠i→PF P ops f H0.n iT chk (cU env o.dst v) H p op→PF P ops f H0.n uN oG (cU env o.dst v) H1 p op)
  (hinj:∀i j x,uN i=some x→uN j=some x→i=j) (avo:∀i x,uN i=some x→x<H1.n) :
  Inv P ops f0 H0 w0 ds r env' H' rest oG (cU env o.dst v) H1 uN listed f fc a w:=by
 have qf:=List.nodup_cons.1 I.UQ;have hpc:∀p,px rest listed p→p=i∨(p≠i∧px (i::rest) listed p):=λp hp=>by
  by_cases e:p=i
  ·exact .inl e
  ·exact .inr ⟨e,hp.1,λhm=>by rcases List.mem_cons.1 hm with h|h;exact e h;exact hp.2 h⟩
 refine⟨tr,hst,I.ar,I.dr,λt=>?_,by rw[gm];exact I.len,λp hp=>?_,λp hp j hj t ht=>?_,λp hp=>?_,λp hp=>I.ED p (by simp[hp]),qf.2,I.lin.2,I.ssa.2.2.2,hinj,avo⟩
 ·by_cases e:o.dst=some t
  ·exact .inl ⟨i,⟨I.ED i (by simp),qf.1⟩,by rw[kK ho];exact e⟩
  ·rcases I.agree t with⟨p,hp,hd⟩|h
   ·exact .inl ⟨p,⟨hp.1,λh=>hp.2 (by simp[h])⟩,hd⟩
   ·exact .inr (by rw[nH e];exact h)
 ·rcases hpc p hp with rfl|⟨hne,hp⟩
  ·exact⟨o,ho,hpf⟩
  ·obtain⟨op,h1,h2⟩:=I.pend p hp;refine⟨op,h1,hold p op hne ?_⟩;have hn:=λt ht=>(I.nxt p hp i (by simp) t ht).resolve_right (λe=>by rw[hla]at e;cases e.1);rw[kK ho,kK h1,mI h1]at hn;have hs:Same ops op env (cU env o.dst v):=Same.put λt ht=>(hn t ht).1;have hv:∀{u:AV},kz op env u→kz op (cU env o.dst v) u:=λh=>h.put λt ht e=>(hn t e).2 ht;cases h2 with
   |skip hw h=>exact .skip (hw.same hs) (hv h)
   |look ek u hc hw hl hs1 h=>exact .look ek u hc (hw.same hs) (hl.same hs) (hs1.trans hs) (hv h)
   |still u hw hl h=>exact .still u (hw.same hs) (λH=>(hl H).same hs) (hv h)
   |lay id ob vf hid hw hl hat hown h0 hn hd h=>exact .lay id ob vf hid (hw.same hs) (hl.same hs) hat hown h0 hn hd (hv h)
 ·rcases hpc p hp with rfl|⟨_,hp⟩
  ·exact I.ssa.1 j hj t ht
  ·exact I.nxt p hp j (by simp[hj]) t ht
 ·rcases hpc p hp with rfl|⟨_,hp⟩
  ·exact hla
  ·exact I.late p hp
def aq6(P:Program)(ops:Array Oper)(suf:List Nat)(chk:List lV)(env:List AV)(H:AH)(r:Option AV)(env':List AV)(H':AH):Prop:=
 (suf=[]∧r=none∧env=env'∧H=H')∨
 (∃i o rest v H1,suf=i::rest∧ops[i]? = some o∧ic ops i=true∧gb P ops o env true∧AI P ops o env H v H1∧(H1=H∨∀x∈chk,pK ops i x.1∨jn P ops x.2.1 x.2.2.1 x.2.2.2 H1)∧Tr P ops rest chk (cU env o.dst v) H1 r env' H')∨
 (∃i o rest v H1,suf=i::rest∧ops[i]? = some o∧ic ops i=true∧gb P ops o env true∧NZ P ops o env H v H1∧r=some v∧env=env'∧H1=H')
theorem Inv.adC:∀{suf:List Nat}{chk:List lV}{env:List AV}{H:AH}{iT:Nat→Option Nat}{listed:Array Bool}{f:aO}{fc:List AV}{a:Act}{w:World},
  Inv P ops f0 H0 w0 ds r env' H' suf chk env H iT listed f fc a w→∃EF oG ek H1 uN,Inv P ops f0 H0 w0 ds r env' H' EF oG ek H1 uN listed f fc a w∧aq6 P ops EF oG ek H1 r env' H':=by
 intro suf
 induction suf with
 |nil=>
  intro chk env H iT listed f fc a w I;have h:=I.tr;refine⟨[],chk,env,H,iT,I,.inl ?_⟩;cases h;exact⟨rfl,rfl,rfl,rfl⟩
 |cons i rest ih=>
  intro chk env H iT listed f fc a w I;have h:=I.tr;cases h with
  |skip ho hla hw hr=>
   rename_i o;have hs:Same ops o env (cU env o.dst fj):=Same.put λt ht=>by
    have:=I.ssa.2.2.1 t (by rw[kK ho];exact ht);rw[mI ho]at this;exact this
   exact ih (I.BP ho hla hr (.skip (hw.same hs) (kz.self o env fj)) I.step (λ_ _ _ h=>h) I.inj I.M4)
  |look v ho hla hw hl hr=>
   rename_i o;have hs:Same ops o env (cU env o.dst v):=Same.put λt ht=>by
    have:=I.ssa.2.2.1 t (by rw[kK ho];exact ht);rw[mI ho]at this;exact this
   refine ih (I.BP ho hla hr (.look env v (by simp) (hw.same hs) (hl.same hs) hs (kz.self o env v)) I.step (λp op _ h=>?_) I.inj I.M4);cases h with
   |skip hw h=>exact .skip hw h
   |look ek u hc hw hl hs1 h=>exact .look ek u (by simp[hc]) hw hl hs1 h
   |still u hw hl h=>exact .still u hw hl h
   |lay id ob vf hid hw hl hat hown h0 hn hd h=>exact .lay id ob vf hid hw hl hat hown h0 hn hd h
  |still v ho hla hw hl hr=>
   rename_i o;have hs:Same ops o env (cU env o.dst v):=Same.put λt ht=>by
    have:=I.ssa.2.2.1 t (by rw[kK ho];exact ht);rw[mI ho]at this;exact this
   exact ih (I.BP ho hla hr (.still v (hw.same hs) (λH=>(hl H).same hs) (kz.self o env v)) I.step (λ_ _ _ h=>h) I.inj I.M4)
  |lay ob vf H1 ho hla hw hn hnew hold BJ hown hl hr=>
   rename_i o;have hs:Same ops o env (cU env o.dst (vf H.n)):=Same.put λt ht=>by
    have:=I.ssa.2.2.1 t (by rw[kK ho];exact ht);rw[mI ho]at this;exact this
   have hst:Step f0 H0 w0 f H1 w:=I.step.ahead (by simp[hn]) (λb hb=>by rw[AH.bX,AH.bX,hold b (by simp at hb;omega)]) (λb ha hb=>by
    by_cases e:b=H.n
    ·subst e;rw[AH.bX,hnew,hown]at hb;cases hb
    ·rw[AH.bX,AH.bX,hold b e])
   have hd:¬f.dom H.n:=gp.fresh I.step.rel;refine ih (I.BP (uN:=λk=>if k=i then some H.n else iT k) ho hla hr (.lay H.n ob vf (by simp) (hw.same hs) (hl.same hs) (by rw[hnew]) hown (by have:=I.step.n;simpa using this) (by omega) hd (kz.self o env _)) hst (λp op hne h=>?_) (λx y z hx hy=>?_) (λx z hx=>?_))
   ·cases h with
    |skip hw h=>exact .skip hw h
    |look ek u hc hw hl hs1 h=>exact .look ek u hc hw (hl.more BJ hold) hs1 h
    |still u hw hl h=>exact .still u hw hl h
    |lay id ob vf hid hw hl hat hown h0 hn' hd h=>exact .lay id ob vf (by simp[hne,hid]) hw hl (by rw[hold id (by omega)];exact hat) hown h0 (by omega) hd h
   ·by_cases e1:x=i<;>by_cases e2:y=i
    ·rw[e1,e2]
    ·simp only[e1,e2,if_true,if_false,Option.some.injEq]at hx hy;have:=I.M4 y z hy;omega
    ·simp only[e1,e2,if_true,if_false,Option.some.injEq]at hx hy;have:=I.M4 x z hx;omega
    ·simp only[e1,e2,if_false]at hx hy;exact I.inj x y z hx hy
   ·by_cases e1:x=i
    ·simp only[e1,if_true,Option.some.injEq]at hx;omega
    ·simp only[e1,if_false]at hx;have:=I.M4 x z hx;omega
  |turn v H1 ho ht hw hl hc hr=>exact⟨_,_,_,_,iT,I,.inr (.inl ⟨i,_,rest,v,H1,rfl,ho,ht,hw,hl,hc,hr⟩)⟩
  |dB v H1 ho ht hw hl=>exact⟨_,_,_,_,iT,I,.inr (.inr ⟨i,_,rest,v,_,rfl,ho,ht,hw,hl,rfl,rfl,rfl⟩)⟩
end
end
section
variable {P:Program}
theorem uO{l:Array Bool}{i:Nat}(h:l.getD i false=true):l.getD i true=true:=by
 rcases Nat.lt_or_ge i l.size with hl|hl
 ·simpa[Array.getD_eq_getD_getElem?,Array.getElem?_eq_getElem hl]using h
 ·simp[Array.getD_eq_getD_getElem?,Array.getElem?_eq_none hl]at h
theorem getD_in{l:Array Bool}{i:Nat}(hl:i<l.size)(h:l.getD i true≠false):l.getD i false=true:=by
 simpa[Array.getD_eq_getD_getElem?,Array.getElem?_eq_getElem hl]using h
theorem Ak(l:Array Bool)(i:Nat):(l.setIfInBounds i true).getD i true=true:=by
 rcases Nat.lt_or_ge i l.size with hl|hl
 ·simp[Array.getD_eq_getD_getElem?,Array.getElem?_setIfInBounds_self_of_lt hl]
 ·simp[Array.getD_eq_getD_getElem?,Array.getElem?_eq_none (show(l.setIfInBounds i true).size≤i by simpa using hl)]
theorem px.back{suf:List Nat}{l:Array Bool}{i p:Nat}(h:px suf (l.setIfInBounds i true) p):p≠i∧l.getD p true=false:=by
 have hne:p≠i:=λe=>by subst e;have:=h.1;rw[Ak]at this;cases this
 exact⟨hne,by have:=h.1;rwa [getD_set_ne true (Ne.symm hne)]at this⟩
def ng(ops:Array Oper)(env:List AV):List AV:=ops.toList.foldl (λe o=>cU e o.dst .df) env
theorem amA:∀(l:List Oper) (e1 e2:List AV),e1.length=e2.length→(∀t,(∃o∈l,o.dst=some t)∨e1[t]? = e2[t]?)→l.foldl (λe o=>cU e o.dst .df) e1=l.foldl (λe o=>cU e o.dst .df) e2
 |[],e1,e2,_,h=>List.ext_getElem? λt=>(h t).resolve_left (by simp)
 |o::l,e1,e2,hl,h=>by
  refine amA l _ _ (by rw[gm,gm,hl]) λt=>?_;show _∨(cU e1 o.dst .df)[t]? = (cU e2 o.dst .df)[t]?;by_cases e:o.dst=some t
  ·right;rw[e];rcases Nat.lt_or_ge t e1.length with ht|ht
   ·rw[pM ht,pM (by rw[←hl];exact ht)]
   ·rw[List.getElem?_eq_none (by rw[gm];exact ht),List.getElem?_eq_none (by rw[gm,←hl];exact ht)]
  ·rcases h t with⟨o',ho',hd⟩|h
   ·rcases List.mem_cons.1 ho' with rfl|ho'
    ·exact absurd hd e
    ·exact .inl ⟨o',ho',hd⟩
   ·right;rw[nH e,nH e,h]
theorem VL.df{f:aO}:∀{as:List AV}{vs:List Value},VL f as vs→∀t,VL f (as.set t .df) vs
 |_,_,.nil,t=>.nil
 |_,_,.cons a v as vs h1 h2,0=>.cons _ _ _ _ (.df _) h2
 |_,_,.cons a v as vs h1 h2,t+1=>.cons _ _ _ _ h1 (VL.df h2 t)
theorem AR.df{f:aO}{env:List AV}{a:Act}(h:AR P f env a)(ops:Array Oper):AR P f (ng ops env) a:=by
 refine⟨?_,h.glob⟩;unfold ng;generalize ops.toList=l;have:=h.tmps;clear h
 induction l generalizing env with
 |nil=>exact this
 |cons o l ih=>
  refine ih ?_;show VL f (cU env o.dst .df) _;cases o.dst with
  |none=>exact this
  |some t=>exact this.df t
section
variable {ops:Array Oper}{f0:aO}{H0:AH}{w0:World}{ds:List eT}{r:Option AV}{env':List AV}{H':AH}
theorem qg{listed:Array Bool}(down:∀i j,listed.getD i false=true→j∈gk ops i→listed.getD j false=true){i j:Nat}(hd:pK ops i j):(∀k∈gk ops i,listed.getD k false=true)→listed.getD j false=true:=by
 induction hd with
 |edge h=>exact λhr=>hr _ h
 |step h _ ih=>exact λhr=>ih λk hk=>down _ k (hr _ h) hk
variable {suf:List Nat}{chk:List lV}{env:List AV}{H:AH}{iT:Nat→Option Nat}{listed:Array Bool}{f:aO}{fc:List AV}{a:Act}{w:World}
theorem Inv.same(I:Inv P ops f0 H0 w0 ds r env' H' suf chk env H iT listed f fc a w)(xe:∀i j t,i<ops.size→jU ops j=some t→t∈gF ops i→pK ops i j∨gH ops j=true)
  (down:∀i j,listed.getD i false=true→j∈gk ops i→listed.getD j false=true){i:Nat}{o:Oper}(ho:ops[i]? = some o) (hr:∀k∈gk ops i,listed.getD k false=true):Same ops o env fc:=λt ht=>by
 rcases I.agree t with⟨p,hp,hd⟩|h
 ·have:=qg down ((xe i p t (Array.getElem?_eq_some_iff.1 ho).1 hd (by rw[mI ho];exact ht)).resolve_right (by rw[I.late p hp];simp)) hr;have:=uO this;rw[hp.1]at this;cases this
 ·exact h
theorem adD{o:Oper}{v:AV}{t:Tmp}(hl:fc.length=env.length)(h:o.dst=some t)(hv:kz o env v):(cU fc o.dst v)[t]? = env[t]?:=by
 rw[h];rcases Nat.lt_or_ge t env.length with ht|ht
 ·rw[pM (by rw[hl];exact ht),hv t h ht]
 ·rw[List.getElem?_eq_none (by rw[gm,hl];exact ht),List.getElem?_eq_none ht]
theorem Inv.N0(I:Inv P ops f0 H0 w0 ds r env' H' suf chk env H iT listed f fc a w){i:Nat}(hi:px suf listed i){o:Oper}(ho:ops[i]? = some o){f':aO}{w':World}(hle:f.le f')(hst:Step f0 H0 w0 f' H w'){v:AV}{u:Value}(hu:VR f' v u)(hv:kz o env v)
  (hdom:∀p id,p≠i→iT p=some id→¬f.dom id→¬f'.dom id):Inv P ops f0 H0 w0 ds r env' H' suf chk env H iT (listed.setIfInBounds i true) f' (cU fc o.dst v) (a.put o.dst u) w':=by
 have hb:∀p,px suf (listed.setIfInBounds i true) p→p≠i∧px suf listed p:=λp hp=>⟨hp.back.1,hp.back.2,hp.2⟩
 refine⟨I.tr,hst,(I.ar.up hle).put o.dst hu,by rw[put_defers];exact I.dr.up hle,λt=>?_,by rw[gm];exact I.len,λp hp=>?_,λp hp=>I.nxt p (hb p hp).2,λp hp=>I.late p (hb p hp).2,λp hp=>?_,I.UQ,I.lin,I.ssa,I.inj,I.M4⟩
 ·by_cases e:o.dst=some t
  ·exact .inr (adD I.len e hv)
  ·rw[nH e];rcases I.agree t with⟨p,hp,hd⟩|h
   ·have hne:p≠i:=λe'=>by subst e';rw[kK ho]at hd;exact e hd
    exact .inl ⟨p,⟨by rw[getD_set_ne true (Ne.symm hne)];exact hp.1,hp.2⟩,hd⟩
   ·exact .inr h
 ·obtain⟨hne,hp⟩:=hb p hp;obtain⟨op,h1,h2⟩:=I.pend p hp;refine⟨op,h1,?_⟩;cases h2 with
  |skip hw h=>exact .skip hw h
  |look ek u hc hw hl hs1 h=>exact .look ek u hc hw hl hs1 h
  |still u hw hl h=>exact .still u hw hl h
  |lay id ob vf hid hw hl hat hown h0 hn hd h=>exact .lay id ob vf hid hw hl hat hown h0 hn (hdom p id hne hid hd) h
 ·have hne:i≠p:=λe=>hi.2 (e ▸ hp);rw[getD_set_ne true hne];exact I.ED p hp
theorem Inv.auk{i:Nat}{rest:List Nat}(I:Inv P ops f0 H0 w0 ds r env' H' (i::rest) chk env H iT listed f fc a w){o:Oper}(ho:ops[i]? = some o)
  (down:∀i j,listed.getD i false=true→j∈gk ops i→listed.getD j false=true) (hrd:∀k∈gk ops i,listed.getD k false=true)
  {v:AV}{H1:AH}(hc:H1=H∨∀x∈chk,pK ops i x.1∨jn P ops x.2.1 x.2.2.1 x.2.2.2 H1) (tr:Tr P ops rest chk (cU env o.dst v) H1 r env' H'){f':aO}{w':World}(s:Step f H w f' H1 w'){u:Value}(hu:VR f' v u) :
  Inv P ops f0 H0 w0 ds r env' H' rest chk (cU env o.dst v) H1 iT (listed.setIfInBounds i true) f' (cU fc o.dst v) (a.put o.dst u) w':=by
 have qf:=List.nodup_cons.1 I.UQ;have hb:∀p,px rest (listed.setIfInBounds i true) p→p≠i∧px (i::rest) listed p:=λp hp=>
  ⟨hp.back.1,hp.back.2,λhm=>by rcases List.mem_cons.1 hm with h|h;exact hp.back.1 h;exact hp.2 h⟩
 refine⟨tr,gP.trans I.step s,(I.ar.up s.le).put o.dst hu,by rw[put_defers];exact I.dr.up s.le,λt=>?_,by rw[gm,gm];exact I.len,λp hp=>?_,λp hp j hj=>I.nxt p (hb p hp).2 j (by simp[hj]),λp hp=>I.late p (hb p hp).2,λp hp=>?_,qf.2,I.lin.2,I.ssa.2.2.2,I.inj,λx y h=>Nat.lt_of_lt_of_le (I.M4 x y h) s.n⟩
 ·by_cases e:o.dst=some t
  ·right;rw[e];rcases Nat.lt_or_ge t env.length with ht|ht
   ·rw[pM ht,pM (by rw[I.len];exact ht)]
   ·rw[List.getElem?_eq_none (by rw[gm,I.len];exact ht),List.getElem?_eq_none (by rw[gm];exact ht)]
  ·rw[nH e,nH e];rcases I.agree t with⟨p,hp,hd⟩|h
   ·have hne:p≠i:=λe'=>hp.2 (by simp[e']);exact .inl ⟨p,⟨by rw[getD_set_ne true (Ne.symm hne)];exact hp.1,λh=>hp.2 (by simp[h])⟩,hd⟩
   ·exact .inr h
 ·obtain⟨hne,hp⟩:=hb p hp;obtain⟨op,h1,h2⟩:=I.pend p hp;refine⟨op,h1,?_⟩;have hn:=λt ht=>(I.nxt p hp i (by simp) t ht).resolve_right (λe=>by
   have:=uO (qg down e.2 hrd);rw[hp.1]at this;cases this)
  rw[kK ho,kK h1,mI h1]at hn;have hs:Same ops op env (cU env o.dst v):=Same.put λt ht=>(hn t ht).1;have hv:∀{u:AV},kz op env u→kz op (cU env o.dst v) u:=λh=>h.put λt ht e=>(hn t e).2 ht;cases h2 with
  |skip hw h=>exact .skip (hw.same hs) (hv h)
  |look ek u hcm hw hl hs1 h=>
   rcases hc with e|hc
   ·subst e;exact .look ek u hcm (hw.same hs) (hl.same hs) (hs1.trans hs) (hv h)
   rcases hc _ hcm with hd|hl'
   ·have:=uO (qg down hd hrd);have hp1:=hp.1;simp only at this;rw[hp1]at this;cases this
   ·exact .look ek u hcm (hw.same hs) ((jn.same hl' hs1).same hs) (hs1.trans hs) (hv h)
  |still u hw hl h=>exact .still u (hw.same hs) (λH=>(hl H).same hs) (hv h)
  |lay id ob vf hid hw hl hat hown h0 hn hd h=>
   refine .lay id ob vf hid (hw.same hs) (hl.same hs) ?_ hown h0 (Nat.lt_of_lt_of_le hn s.n) (s.new id hn hd) (hv h);have:=s.rest id hn hd;rw[AH.bX,AH.bX]at this;rw[this];exact hat
 ·have hne:i≠p:=λe=>qf.1 (e ▸ hp);rw[getD_set_ne true hne];exact I.ED p (by simp[hp])
theorem adE(I:Inv P ops f0 H0 w0 ds r env' H' suf chk env H iT listed f fc a w)(xe:∀i j t,i<ops.size→jU ops j=some t→t∈gF ops i→pK ops i j∨gH ops j=true)
  (down:∀i j,listed.getD i false=true→j∈gk ops i→listed.getD j false=true){i:Nat}(hi:px suf listed i) (hr:∀k∈gk ops i,listed.getD k false=true){Q:Exit→Act→World→Prop}{K:Act→World→Prop}
  (hK:∀f' amB a' w',Inv P ops f0 H0 w0 ds r env' H' suf chk env H iT (listed.setIfInBounds i true) f' amB a' w'→K a' w'):wpOp P ops Q i K a w:=by
 obtain⟨o,ho,hpf⟩:=I.pend i hi;have hS:=I.same xe down ho hr;unfold wpOp;simp only[ho];cases hpf with
 |skip hw h=>
  rw[if_neg (by rw[hw f a fc I.ar hS];simp)];exact hK f _ _ w (I.N0 hi ho (.refl f) I.step (VR.undef f) h λ_ _ _ _ h=>h)
 |look ek v hc hw hl hs1 h=>
  rw[if_pos (hw f a fc I.ar hS)];obtain⟨u,h1,h2⟩:=hl f w a fc I.step.rel.toHRQ I.ar hS;exact .inl (kA h1 (hK f _ _ w (I.N0 hi ho (.refl f) I.step h2 h λ_ _ _ _ h=>h)))
 |still v hw hl h=>
  rw[if_pos (hw f a fc I.ar hS)];obtain⟨u,h1,h2⟩:=hl H f w a fc I.step.rel.toHRQ I.ar hS;exact .inl (kA h1 (hK f _ _ w (I.N0 hi ho (.refl f) I.step h2 h λ_ _ _ _ h=>h)))
 |lay id ob vf hid hw hl hat hown h0 hn hd h=>
  rw[if_pos (hw f a fc I.ar hS)];obtain⟨u,obj,h1,lim,h2⟩:=hl f w a fc I.ar hS;obtain⟨h3,h4⟩:=h2 id hd;refine .inl (kA h1 (hK _ _ _ _ (I.N0 hi ho (f.pZ hd w.heap.size 0 lim) (I.step.catch h0 hd hn (by rw[AH.bX,hat];exact h3)) h4 h λp id' hne avp hnd hd'=>?_)));rcases hd' with e|hd'
  ·subst e;exact hne (I.inj _ _ _ avp hid)
  ·exact hnd hd'
theorem oO{i:Nat}{o:Oper}(ho:ops[i]? = some o){j:Nat}:j∈gk ops i↔∃e∈o.after,Region.binds .any e=true∧e.on=j:=by
 simp only[gk,ho,List.mem_map,List.mem_filter,Array.mem_toList_iff,and_assoc]
theorem Eg{i:Nat}{listed:Array Bool}(h:i∈Region.ready .any ops listed):listed.getD i true=false∧i<ops.size∧∀k∈gk ops i,listed.getD k false=true:=by
 obtain⟨h1,o,h2,h3⟩:=mem_ready.1 h;refine⟨h1,(Array.getElem?_eq_some_iff.1 h2).1,λk hk=>?_⟩;obtain⟨e,g1,g2,rfl⟩:=(oO h2).1 hk;exact h3 e g1 g2
theorem FM{listed:Array Bool}(hs:listed.size=ops.size):∀(l seen:List Nat),(∀i∈l,i<ops.size)→Xl ops seen l→(∀j∈seen,listed.getD j false=true)→(∃i∈l,listed.getD i true=false)→∃i,i∈Region.ready .any ops listed
 |[],_,_,_,_,h=>by obtain⟨i,h,_⟩:=h;simp at h
 |i::l,seen,hl,ht,hse,h=>by
  by_cases e:listed.getD i true=false
  ·refine⟨i,mem_ready.2 ⟨e,?_⟩⟩;have hi:=hl i (by simp);refine⟨ops[i],Array.getElem?_eq_getElem hi,λx hx hb=>hse _ (ht.1 _ ((oO (Array.getElem?_eq_getElem hi)).2 ⟨x,hx,hb,rfl⟩))⟩
  ·refine FM hs l (i::seen) (λj hj=>hl j (by simp[hj])) ht.2 (λj hj=>?_) ?_
   ·rcases List.mem_cons.1 hj with rfl|hj
    ·exact getD_in (by rw[hs];exact hl j (by simp)) e
    ·exact hse j hj
   ·obtain⟨j,hj,hu⟩:=h;rcases List.mem_cons.1 hj with rfl|hj
    ·exact absurd hu e
    ·exact⟨j,hj,hu⟩
structure Stat(ops:Array Oper)(order:List Nat):Prop where
 lt:∀i∈order,i<ops.size
 all:∀i,i<ops.size→i∈order
 avq:Xl ops [] order
 UQ:order.Nodup
 lin:Lin ops order
 ssa:Pb ops order
theorem Pb.xe:∀{l:List Nat},Pb ops l→∀i∈l,∀j∈l,∀t,jU ops j=some t→t∈gF ops i→pK ops i j∨gH ops j=true
 |[],_,i,hi,_,_,_,_,_=>by simp at hi
 |k::l,h,i,hi,j,hj,t,hd,hl=>by
  rcases List.mem_cons.1 hi with e1|h1<;>rcases List.mem_cons.1 hj with e2|h2
  ·subst e1;subst e2;exact absurd hl (h.2.2.1 t hd)
  ·subst e1;rcases h.1 j h2 t hd with g|g
   ·exact absurd hl g.1
   ·exact .inr g.1
  ·subst e2;exact .inl (h.2.1 i h1 t hd hl)
  ·exact Pb.xe h.2.2.2 i h1 j h2 t hd hl
def QOk(P:Program)(ops:Array Oper)(f0:aO)(H0:AH)(w0:World)(ds:List eT)(r:Option AV)(env':List AV)(H':AH)(Q:Exit→Act→World→Prop):Prop:=
 match r with|none=>∀a' w',nt P f0 H0 w0 .normal env' ds H' .normal a' w'→Q .normal a' w'|some v=>∀ch a' w',nt P f0 H0 w0 (.dB v) (ng ops env') ds H' (.panic ch) a' w'→Q (.panic ch) a' w'
theorem any_ok{order:List Nat}(S:Stat ops order){Q:Exit→Act→World→Prop}
  (hQ:QOk P ops f0 H0 w0 ds r env' H' Q) :
  ∀(fuel:Nat) (U:List Nat) (suf:List Nat) (chk:List lV) (env:List AV) (H:AH) (iT:Nat→Option Nat) (listed:Array Bool) (f:aO) (fc:List AV) (a:Act) (w:World),U.length=fuel→U.Nodup→(∀i,i∈U↔listed.getD i true=false)→listed.size=ops.size→
   (∀i j,listed.getD i false=true→j∈gk ops i→listed.getD j false=true)→Inv P ops f0 H0 w0 ds r env' H' suf chk env H iT listed f fc a w→wpAny P .any ops Q fuel listed a w:=by
 have xe:∀i j t,i<ops.size→jU ops j=some t→t∈gF ops i→pK ops i j∨gH ops j=true:=λi j t hi hd hl=>by
  have hj:j<ops.size:=by
   rcases Nat.lt_or_ge j ops.size with h|h
   ·exact h
   ·simp[jU,Array.getElem?_eq_none h]at hd
  exact S.ssa.xe i (S.all i hi) j (S.all j hj) t hd hl
 have done:∀(suf:List Nat) (chk:List lV) (env:List AV) (H:AH) (iT:Nat→Option Nat) (listed:Array Bool) (f:aO) (fc:List AV) (a:Act) (w:World),listed.size=ops.size→Region.ready .any ops listed=[]→Inv P ops f0 H0 w0 ds r env' H' suf chk env H iT listed f fc a w→Q .normal a w:=by
  intro suf chk env H iT listed f fc a w hs hr I;have hno:∀i,i<ops.size→listed.getD i true≠false:=λi hi e=>by
   obtain⟨k,hk⟩:=FM hs order [] S.lt S.avq (by simp) ⟨i,S.all i hi,e⟩;rw[hr]at hk;simp at hk
  have hin:∀i,listed.getD i true=false→i<ops.size:=λi h=>by
   rcases Nat.lt_or_ge i listed.size with hl|hl
   ·omega
   ·simp[Array.getD_eq_getD_getElem?,Array.getElem?_eq_none hl]at h
  obtain⟨EF,oG,ek,H1,uN,I1,hd⟩:=I.adC;have hs1:EF=[]:=by
   cases EF with
   |nil=>rfl
   |cons x l=>have:=I1.ED x (by simp);exact absurd this (hno x (hin x this))
  subst hs1;rcases hd with⟨_,rfl,rfl,rfl⟩|⟨i,o,rest,v,H2,h,_⟩|⟨i,o,rest,v,H2,h,_⟩
  ·have e:fc=ek:=List.ext_getElem? λt=>(I1.agree t).resolve_left λ⟨p,hp,_⟩=>hno p (hin p hp.1) hp.1;subst e;exact hQ a w ⟨f,I1.step,I1.ar,I1.dr,rfl⟩
  ·cases h
  ·cases h
 intro fuel
 induction fuel with
 |zero=>
  intro U suf chk env H iT listed f fc a w hU _ hm hs down I;have hU':U=[]:=List.eq_nil_of_length_eq_zero hU;have hr:Region.ready .any ops listed=[]:=by
   cases h:Region.ready .any ops listed with
   |nil=>rfl
   |cons x l=>
    have:=(hm x).2 (Eg (h ▸ List.mem_cons_self:x∈Region.ready .any ops listed)).1;rw[hU']at this;simp at this
  exact⟨hr,done suf chk env H iT listed f fc a w hs hr I⟩
 |succ fuel ih=>
  intro U suf chk env H iT listed f fc a w hU hUn hm hs down I;refine⟨λhr=>done suf chk env H iT listed f fc a w hs hr I,λi hi=>?_⟩;obtain⟨h1,h2,h3⟩:=Eg hi;have hgo:∀suf chk env H iT f fc a w,Inv P ops f0 H0 w0 ds r env' H' suf chk env H iT (listed.setIfInBounds i true) f fc a w→wpAny P .any ops Q fuel (listed.setIfInBounds i true) a w:=λsuf chk env H iT f fc a w I=>by
   refine ih (U.erase i) suf chk env H iT _ f fc a w ?_ (hUn.erase i) (λk=>?_) (by simpa using hs) (λx y hx hy=>?_) I
   ·rw[List.length_erase_of_mem ((hm i).2 h1),hU];rfl
   ·rw[hUn.mem_erase_iff,hm k];constructor
    ·rintro⟨g1,g2⟩;rw[getD_set_ne true (Ne.symm g1)];exact g2
    ·intro h;have hne:k≠i:=λe=>by subst e;rw[Ak]at h;cases h
     exact⟨hne,by rwa [getD_set_ne true (Ne.symm hne)]at h⟩
   ·by_cases e:x=i
    ·subst e;exact getD_set_true (h3 y hy)
    ·rw[getD_set_ne false (Ne.symm e)]at hx;exact getD_set_true (down x y hx hy)
  obtain⟨EF,oG,ek,H1,uN,I1,hd⟩:=I.adC;by_cases hin:i∈EF
  ·rcases hd with⟨rfl,_⟩|⟨k,o,rest,v,H2,rfl,ho,ht,hw,hl,hc,tr⟩|⟨k,o,rest,v,H2,rfl,ho,ht,hw,hl,rfl,rfl,rfl⟩
   ·simp at hin
   ·have e:i=k:=by
     rcases List.mem_cons.1 hin with e|e
     ·exact e
     ·have:=uO (qg down (I1.lin.1 ht i e) h3);rw[I1.ED k (by simp)]at this;cases this
    subst e;have hS:=I1.same xe down ho h3;unfold wpOp;simp only[ho];rw[if_pos (hw f a fc I1.ar hS)];exact .inl (hl f w a fc I1.step.rel I1.ar hS _ _ λf' w' u s hu=>hgo _ _ _ _ _ _ _ _ _ (I1.auk ho down h3 hc tr s hu))
   ·have e:i=k:=by
     rcases List.mem_cons.1 hin with e|e
     ·exact e
     ·have:=uO (qg down (I1.lin.1 ht i e) h3);rw[I1.ED k (by simp)]at this;cases this
    subst e;have hS:=I1.same xe down ho h3;unfold wpOp;simp only[ho];rw[if_pos (hw f a fc I1.ar hS)];refine .inl (hl f w a fc I1.step.rel I1.ar hS _ _ λf' w' ch s hp=>hQ ch a w' ⟨f',gP.trans I1.step s,?_,I1.dr.up s.le,ch,rfl,hp⟩);have hpo:ng ops fc=ng ops ek:=amA _ _ _ I1.len λt=>by
     rcases I1.agree t with⟨p,hp,hd⟩|h
     ·obtain⟨op,g1,_⟩:=I1.pend p hp;rw[kK g1]at hd;exact .inl ⟨op,by rw[Array.mem_toList_iff];exact Array.mem_of_getElem? g1,hd⟩
     ·exact .inr h
    rw[←hpo];exact(I1.ar.up s.le).df ops
  ·exact adE I1 xe down ⟨h1,hin⟩ h3 λf' amB a' w' I2=>hgo _ _ _ _ _ _ _ _ _ I2
end
end
section
variable {P:Program}
def adF(ops:Array Oper)(seen:List Nat)(i:Nat):Bool:=(gk ops i).all λj=>seen.contains j
def JQ(ops:Array Oper):Nat→List Nat→List Nat→List Nat
 |0,_,_=>[]
 |n+1,rem,seen=>
  match rem.find? λi=>adF ops seen i && !(ic ops i)with
  |some i=>i::JQ ops n (rem.erase i) (i::seen)
  |none=>match rem.find? λi=>adF ops seen i with
   |some i=>i::JQ ops n (rem.erase i) (i::seen)
   |none=>[]
def canon(ops:Array Oper):List Nat:=JQ ops ops.size (List.range ops.size) []
def xA(ops:Array Oper)(order:List Nat)(ms:List (Nat×List Nat)):Bool:=
 (order.all λi=>Nat.blt i ops.size)&&((List.range ops.size).all λi=>order.contains i)&&NY ops [] order&&nodupB order&&Xm ops ms order&&Xn ops ms order
theorem zt{ops:Array Oper}{order:List Nat}{ms:List (Nat×List Nat)}(hm:np ops ms)(h:xA ops order ms=true):Stat ops order:=by
 simp only[xA,Bool.and_eq_true,List.all_eq_true]at h;obtain⟨⟨⟨⟨⟨h1,h2⟩,h3⟩,h4⟩,h5⟩,h6⟩:=h;exact⟨λi hi=>Nat.le_of_ble_eq_true (h1 i hi),λi hi=>by simpa using h2 i (List.mem_range.2 hi),Pc h3,M3 h4,UO hm h5,UP hm h6⟩
theorem np.nil(ops:Array Oper):np ops []:=λi j h=>by simp[tu]at h
def Pd(ops:Array Oper):List (Nat×List Nat):=masks ops (canon ops) []
theorem tJ{ops:Array Oper}{order:List Nat}(S:Stat ops order){env:List AV}{ds:List eT}{H:AH}{r:Option AV}{env':List AV}{H':AH}(tr:Tr P ops order [] env H r env' H')
  {f:aO}{w:World}{a:Act}(hr:HR f H w) (ha:AR P f env a) (hd:DR f ds a.defers){Q:Exit→Act→World→Prop}
  (hQ:QOk P ops f H w ds r env' H' Q) :
  wpAny P .any ops Q ops.size (Array.replicate ops.size false) a { w with drawn:=w.drawn+1 }:=by
 have hsz:(Array.replicate ops.size false).size=ops.size:=by simp
 have hget:∀i,(Array.replicate ops.size false).getD i true=false↔i<ops.size:=λi=>by
  rcases Nat.lt_or_ge i ops.size with hl|hl
  ·simp[Array.getD_eq_getD_getElem?,hl]
  ·simp[Array.getD_eq_getD_getElem?,hl]
 have hno:∀i,(Array.replicate ops.size false).getD i false=false:=λi=>by
  simp only[Array.getD_eq_getD_getElem?,Array.getElem?_replicate];split<;>rfl
 have hp:∀i,¬px order (Array.replicate ops.size false) i:=λi h=>h.2 (S.all i ((hget i).1 h.1));refine any_ok S hQ ops.size (List.range ops.size) order [] env H (λ_=>none) _ f env a _ (by simp) List.nodup_range (λi=>by rw[hget,List.mem_range]) hsz (λi j h=>by rw[hno]at h;cases h) ?_;exact⟨tr,Step.drew hr (w.drawn+1),ha,hd,λt=>.inr rfl,rfl,λi h=>absurd h (hp i),λi h=>absurd h (hp i),λi h=>absurd h (hp i),λi hi=>(hget i).2 (S.lt i hi),S.UQ,S.lin,S.ssa,λ_ _ _ h=>(by cases h),λ_ _ h=>(by cases h)⟩
def eY(ops:Array Oper)(j i:Nat):Array Oper:=ops.modify j λo=>{ o with after:=o.after.push ⟨i,.data⟩ }
section
variable (ops:Array Oper)(j i:Nat)
theorem gI(k:Nat):(eY ops j i)[k]? = if j=k then (ops[k]?).map (λo=>{ o with after:=o.after.push ⟨i,.data⟩ }) else ops[k]?:=by
 unfold eY;rw[Array.getElem?_modify]
theorem nI:(eY ops j i).size=ops.size:=by simp[eY]
theorem EG(k:Nat):((eY ops j i)[k]?).bind Oper.dst=(ops[k]?).bind Oper.dst:=by
 rw[gI];split
 ·cases ops[k]?<;>rfl
 ·rfl
theorem FN(o:Oper):o.looksAt (eY ops j i)=o.looksAt ops:=by
 unfold Oper.looksAt;cases o.guard with
 |none=>rfl
 |some g=>simp only[EG]
theorem TR(k:Nat):gF (eY ops j i) k=gF ops k:=by
 unfold gF;rw[gI];by_cases e:j=k
 ·rw[if_pos e];cases ops[k]? with
  |none=>rfl
  |some o=>exact FN ops j i o
 ·rw[if_neg e];cases ops[k]? with
  |none=>rfl
  |some o=>exact FN ops j i o
theorem Xp(k:Nat):jU (eY ops j i) k=jU ops k:=EG ops j i k
theorem FO{a b:Nat}(h:b∈gk ops a):b∈gk (eY ops j i) a:=by
 cases ha:ops[a]? with
 |none=>simp[gk,ha]at h
 |some o=>
  obtain⟨e,h1,h2,h3⟩:=(oO ha).1 h;by_cases hj:j=a
  ·have:=gI ops j i a;rw[if_pos hj,ha]at this;exact(oO this).2 ⟨e,by simp[h1],h2,h3⟩
  ·have:=gI ops j i a;rw[if_neg hj,ha]at this;exact(oO this).2 ⟨e,h1,h2,h3⟩
theorem rX:Like ops (eY ops j i) where
 dst:=EG ops j i
 dep:=λh=>by
  induction h with
  |edge h=>exact .edge (FO ops j i h)
  |step h _ ih=>exact .step (FO ops j i h) ih
 late:=λk=>by
  unfold gH;rw[gI,nI];simp only[TR,Xp];by_cases e:j=k
  ·rw[if_pos e];cases ops[k]? with
   |none=>rfl
   |some o=>rfl
  ·rw[if_neg e]
theorem adG{k:Nat}{K:Act→World→Prop}{Q:Exit→Act→World→Prop}{a:Act}{w:World}(h:wpOp P (eY ops j i) Q k K a w):wpOp P ops Q k K a w:=by
 unfold wpOp at h ⊢;rw[gI,(rX ops j i).yielded]at h;by_cases e:j=k
 ·rw[if_pos e]at h;cases hk:ops[k]? with
  |none=>rw[hk]at h;exact h
  |some o=>rw[hk]at h;exact h
 ·rw[if_neg e]at h;exact h
theorem Xq{k:Nat}{listed:Array Bool}(h:k∈Region.ready .any ops listed)(hj:k=j→listed.getD i false=true):k∈Region.ready .any (eY ops j i) listed:=by
 obtain⟨h1,o,h2,h3⟩:=mem_ready.1 h;refine mem_ready.2 ⟨h1,?_⟩;have:=gI ops j i k;by_cases e:j=k
 ·rw[if_pos e,h2]at this;refine⟨_,this,λe' he hb=>?_⟩;rcases Array.mem_push.1 he with he|rfl
  ·exact h3 e' he hb
  ·exact hj e.symm
 ·rw[if_neg e,h2]at this;exact⟨_,this,h3⟩
theorem JR{listed:Array Bool}(h:Region.ready .any ops listed=[]):Region.ready .any (eY ops j i) listed=[]:=by
 cases hr:Region.ready .any (eY ops j i) listed with
 |nil=>rfl
 |cons k l=>
  obtain⟨h1,o,h2,h3⟩:=mem_ready.1 (hr ▸ List.mem_cons_self:k∈Region.ready .any (eY ops j i) listed);have:=gI ops j i k;rw[h2]at this;have hk:k∈Region.ready .any ops listed:=by
   refine mem_ready.2 ⟨h1,?_⟩;split at this
   ·cases ho:ops[k]? with
    |none=>rw[ho]at this;cases this
    |some o'=>
     rw[ho]at this;cases this;exact⟨o',rfl,λe he hb=>h3 e (by simp[he]) hb⟩
   ·exact⟨o,this.symm,h3⟩
  rw[h]at hk;simp at hk
end
inductive nJ(ops:Array Oper):Nat→Array Bool→List Nat→Prop
 |zero (l:Array Bool):nJ ops 0 l []
 |nil (n:Nat) (l:Array Bool):Region.ready .any ops l=[]→nJ ops (n+1) l []
 |cons (n:Nat) (l:Array Bool) (k:Nat) (L:List Nat):k∈Region.ready .any ops l→nJ ops n (l.setIfInBounds k true) L→nJ ops (n+1) l (k::L)
theorem nJ.wp{ops:Array Oper}{Q:Exit→Act→World→Prop}{n:Nat}{l:Array Bool}{L:List Nat}(h:nJ ops n l L):∀a w,wpAny P .any ops Q n l a w→wpOps P ops Q L a w:=by
 induction h with
 |zero l=>intro a w h;simpa[wpOps]using h.2
 |nil n l hr=>intro a w h;simpa[wpOps]using h.1 hr
 |cons n l k L hk _ ih=>intro a w h;rw[wpOps_cons];exact wpOp_mono (λa w=>ih a w) (h.2 k hk)
theorem M5{ops:Array Oper}:∀(n t:Nat) (l:Array Bool),nJ ops n l (Region.linearise.go .any ops n t l []):=by
 intro n
 induction n with
 |zero=>intro t l;simp only[Region.linearise.go,List.reverse_nil];exact .zero l
 |succ n ih=>
  intro t l;simp only[Region.linearise.go]
  change nJ ops (n+1) l (match (Region.ready .any ops l)[t%(Region.ready .any ops l).length]? with
   |some i=>Region.linearise.go .any ops n (t/(Region.ready .any ops l).length) (l.setIfInBounds i true) [i]
   |none=>[].reverse)
  cases hi:(Region.ready .any ops l)[t%(Region.ready .any ops l).length]? with
  |none=>
   refine .nil n l ?_;cases hr:Region.ready .any ops l with
   |nil=>rfl
   |cons x xs=>
    rw[hr]at hi;have hlt:t%(x::xs).length<(x::xs).length:=Nat.mod_lt _ (by simp);simp at hi;simp at hlt;omega
  |some i=>
   simp only[];rw[linearise_go_acc,List.reverse_singleton,List.singleton_append];exact .cons n l i _ (List.mem_of_getElem? hi) (ih _ _)
theorem nJ.eY{ops:Array Oper}{j i:Nat}(hi:i<ops.size){n:Nat}{l:Array Bool}{L:List Nat}(h:nJ ops n l L):l.size=ops.size→(∀L1 L2,L=L1++j::L2→l.getD i false=true∨i∈L1)→nJ (Go.X.eY ops j i) n l L:=by
 induction h with
 |zero l=>intro _ _;exact .zero l
 |nil n l hr=>intro _ _;exact .nil n l (JR ops j i hr)
 |cons n l k L hk _ ih=>
  intro hs hb;refine .cons n l k L (Xq ops j i hk λe=>?_) (ih (by simpa using hs) λL1 L2 e=>?_)
  ·exact(hb [] L (by rw[e];rfl)).resolve_right (by simp)
  ·rcases hb (k::L1) L2 (by rw[e];rfl)with g|g
   ·exact .inl (getD_set_true g)
   ·rcases List.mem_cons.1 g with rfl|g
    ·left;simp[Array.getD_eq_getD_getElem?,show i<l.size by omega]
    ·exact .inr g
theorem bef{i j:Nat}(hij:i≠j)(L:List Nat):(∀L1 L2,L=L1++j::L2→i∈L1)∨(∀L1 L2,L=L1++i::L2→j∈L1):=by
 induction L with
 |nil=>exact .inl λL1 L2 h=>by simp at h
 |cons k L ih=>
  by_cases e1:k=i
  ·subst e1;refine .inl λL1 L2 h=>?_;cases L1 with
   |nil=>simp at h;exact absurd h.1 hij
   |cons x L1=>simp at h;simp[h.1]
  ·by_cases e2:k=j
   ·subst e2;refine .inr λL1 L2 h=>?_;cases L1 with
    |nil=>simp at h;exact absurd h.1.symm hij
    |cons x L1=>simp at h;simp[h.1]
   ·refine ih.imp (λg L1 L2 h=>?_) (λg L1 L2 h=>?_)
    ·cases L1 with
     |nil=>simp at h;exact absurd h.1 e2
     |cons x L1=>simp at h;exact List.mem_cons_of_mem _ (g L1 L2 h.2)
    ·cases L1 with
     |nil=>simp at h;exact absurd h.1 e1
     |cons x L1=>simp at h;exact List.mem_cons_of_mem _ (g L1 L2 h.2)
theorem qh{ops:Array Oper}{j i:Nat}{Q:Exit→Act→World→Prop}:∀{L:List Nat}{a:Act}{w:World},wpOps P (eY ops j i) Q L a w→wpOps P ops Q L a w
 |[],a,w,h=>by simpa[wpOps]using h
 |k::L,a,w,h=>by
  rw[wpOps_cons]at h ⊢;exact adG ops j i (wpOp_mono (λa w h=>qh h) h)
def Pe(P:Program)(t1 t2:TypeId)(p q:AV)(x:Prop):Prop:=
 match P.info? t1,P.info? t2 with
 |some i1,some i2=>oc p λb o=>oc q λb' o'=>bT (!(Nat.beq b b')||(Nat.ble (Nat.add o i1.size) o'||Nat.ble (Nat.add o' i2.size) o)) x
 |_,_=>False
theorem TS{t1 t2:TypeId}{p v q u:AV}{H H1 bL H2 ia:AH}{x:Prop}(hx:Pe P t1 t2 p q x)(a:xo P t1 p v H H1)(b:xo P t2 q u H1 bL)(c:xo P t2 q u H H2)(d:xo P t1 p v H2 ia):x∧bL.sem=ia.sem:=by
 obtain⟨n1,b1,o1,i1,c1,m1,q1,c1',rfl,hi1,a1,a2,a3,a4,a5,a6⟩:=a;obtain⟨n2,b2,o2,i2,c2,m2,q2,c2',rfl,hi2,d1,d2,d3,d4,d5,d6⟩:=b;obtain⟨n3,b3,o3,i3,c3,m3,q3,c3',e,hi3,e1,e2,e3,e4,e5,e6⟩:=c;cases e;obtain⟨n4,b4,o4,i4,c4,m4,q4,c4',e,hi4,f1,f2,f3,f4,f5,f6⟩:=d;cases e;rw[hi2]at hi3;cases hi3;rw[hi1]at hi4;cases hi4;unfold Pe at hx;rw[hi1,hi2]at hx;obtain⟨hx,hx'⟩:=aI (show bT (!(Nat.beq b1 b2)||(Nat.ble (Nat.add o1 i1.size) o2||Nat.ble (Nat.add o2 i2.size) o1)) x from hx);refine⟨hx',?_⟩;have hn:bL.n=ia.n:=by omega
 have hob:∀b,(bL.at b).sem=(ia.at b).sem:=λb=>by
  by_cases hb:b1=b2
  ·subst hb;rw[Nat.beq_refl]at hx;have hd:o1+i1.size≤o2∨o2+i2.size≤o1:=by
    simp only[Bool.not_true,Bool.false_or,Bool.or_eq_true]at hx;exact hx.imp Nat.le_of_ble_eq_true Nat.le_of_ble_eq_true
   by_cases hbb:b=b1
   ·subst hbb;rw[a2]at d1;cases d1;rw[a1]at e1;cases e1;rw[e2]at f1;cases f1;rw[d2,f2];simp only[eS.sem,ik.cells.injEq,and_true];funext k;by_cases k1:o1≤k∧k<o1+i1.size
    ·have hk:=f4 (k-o1) (by omega);have hk':=a4 (k-o1) (by omega);rw[show o1+(k-o1)=k by omega]at hk hk';rw[hk,d5 k (by omega),hk']
    ·by_cases k2:o2≤k∧k<o2+i2.size
     ·have hk:=d4 (k-o2) (by omega);have hk':=e4 (k-o2) (by omega);rw[show o2+(k-o2)=k by omega]at hk hk';rw[hk,f5 k (by omega),hk']
     ·rw[d5 k (by omega),a5 k (by omega),f5 k (by omega),e5 k (by omega)]
   ·rw[d6 b hbb,a6 b hbb,f6 b hbb,e6 b hbb]
  ·by_cases h1:b=b1
   ·subst h1;rw[d6 b hb,a2];rw[e6 b hb,a1]at f1;cases f1;rw[f2];simp only[eS.sem,ik.cells.injEq,and_true];funext k;by_cases k1:o1≤k∧k<o1+i1.size
    ·have hk:=f4 (k-o1) (by omega);have hk':=a4 (k-o1) (by omega);rw[show o1+(k-o1)=k by omega]at hk hk';rw[hk,hk']
    ·rw[a5 k (by omega),f5 k (by omega)]
   ·by_cases h2:b=b2
    ·subst h2;rw[f6 b (Ne.symm hb),e2];rw[a6 b (Ne.symm hb),e1]at d1;cases d1;rw[d2];simp only[eS.sem,ik.cells.injEq,and_true];funext k;by_cases k2:o2≤k∧k<o2+i2.size
     ·have hk:=d4 (k-o2) (by omega);have hk':=e4 (k-o2) (by omega);rw[show o2+(k-o2)=k by omega]at hk hk';rw[hk,hk']
     ·rw[d5 k (by omega),e5 k (by omega)]
    ·rw[d6 b h2,a6 b h1,f6 b h1,e6 b h2]
 unfold AH.sem;rw[hn];congr 1;funext b;exact hob b
def amC(o1 o2:Oper):Bool:=o1.dst.isNone&&o2.dst.isNone&&o1.guard.isNone&&o2.guard.isNone
def BQ(o:Oper)(k:TypeId→Operand→Operand→Prop):Prop:=match o.op with|.store t a x=>k t a x|_=>False
theorem Eh{o:Oper}{k:TypeId→Operand→Operand→Prop}(h:BQ o k):∃t a x,o.op=.store t a x∧k t a x:=by
 unfold BQ at h;split at h
 ·exact⟨_,_,_,by assumption,h⟩
 ·exact h.elim
def akW(o:Option Oper)(k:Oper→Prop):Prop:=match o with|some o=>k o|none=>False
theorem Pf{o:Option Oper}{k:Oper→Prop}(h:akW o k):∃x,o=some x∧k x:=by
 cases o with
 |none=>exact h.elim
 |some x=>exact⟨x,rfl,h⟩
def pairT(P:Program)(ops axr ops2:Array Oper)(ms1 ms2:List (Nat×List Nat))(s1 s2:Nat)(chk:List lV)(env:List AV)(H:AH)(k:AH→Prop):Prop:=
 akW ops[s1]? λo1=>akW ops[s2]? λo2=>bT (amC o1 o2) <| BQ o1 λt1 a1 v1=>BQ o2 λt2 a2 v2=>
  rU P t1 (fQ P.globals.size env a1) (fQ P.globals.size env v1) H λH1=>oN P P.globals.size ms1 s1 H1 chk <|
  rU P t2 (fQ P.globals.size env a2) (fQ P.globals.size env v2) H1 λbL=>oN P P.globals.size ms1 s2 bL chk <|
  rU P t2 (fQ P.globals.size env a2) (fQ P.globals.size env v2) H λH2=>oN P P.globals.size ms2 s2 H2 chk <|
  rU P t1 (fQ P.globals.size env a1) (fQ P.globals.size env v1) H2 λia=>oN P P.globals.size ms2 s1 ia chk <|
  Pe P t1 t2 (fQ P.globals.size env a1) (fQ P.globals.size env a2) (k bL)
def xB:List Nat→(List Nat→Nat→Nat→Prop)→Prop
 |[a,b],k=>k [] a b
 |x::l,k=>xB l λp a b=>k (x::p) a b
 |[],_=>False
theorem Ei:∀{l:List Nat}{k:List Nat→Nat→Nat→Prop},xB l k→∃p a b,l=p++[a,b]∧k p a b
 |[],_,h=>h.elim
 |[a,b],_,h=>⟨[],a,b,rfl,h⟩
 |[x],k,h=>by unfold xB at h;exact h.elim
 |x::y::z::l,k,h=>by
  unfold xB at h;obtain⟨p,a,b,e,h⟩:=Ei h;exact⟨x::p,a,b,by rw[e];rfl,h⟩
def amD(P:Program)(C:fx):DT:=λops env ds H K=>
 xB (canon ops) λpre s1 s2=>
  bT (xA (eY ops s2 s1) (pre++[s1,s2]) (masks (eY ops s2 s1) (pre++[s1,s2]) [])) <|
  bT (xA (eY ops s1 s2) (pre++[s2,s1]) (masks (eY ops s1 s2) (pre++[s2,s1]) [])) <|
  kJ C P P.globals.size ops (Pd ops) pre [] env H (λchk env H=>pairT P ops (eY ops s2 s1) (eY ops s1 s2) (masks (eY ops s2 s1) (pre++[s1,s2]) []) (masks (eY ops s1 s2) (pre++[s2,s1]) []) s1 s2 chk env H λH=>K .normal env ds H) (λv env H=>K (.dB v) (ng ops env) ds H)
theorem tv{ops:Array Oper}{o:Oper}{t:TypeId}{a x:Operand}(ho:o.op=.store t a x){env:List AV}{H:AH}{k:AH→Prop}(h:rU P t (fQ P.globals.size env a) (fQ P.globals.size env x) H k) :
  ∃H',k H'∧xo P t (fQ P.globals.size env a) (fQ P.globals.size env x) H H'∧AI P ops o env H fj H':=by
 obtain⟨H',h1,hS,h2⟩:=MT (P:=P) h;refine⟨H',h1,hS,λf w ac dq hr ha hs next Q hn=>?_⟩;have hst:=hs.stand ha;obtain⟨w',g1,g2⟩:=h2 f w _ _ hr (hst a (by simp[ho,Op.operands])) (hst x (by simp[ho,Op.operands]));exact kA (.inr ⟨by simp[execOp,ho,g1],rfl⟩) (hn f w' undef g2 (VR.undef f))
theorem M6(ops:Array Oper)(j i:Nat)(env:List AV):ng (eY ops j i) env=ng ops env:=by
 have e:(eY ops j i).toList.map Oper.dst=ops.toList.map Oper.dst:=by
  refine List.ext_getElem? λk=>?_;rw[List.getElem?_map,List.getElem?_map,Array.getElem?_toList,Array.getElem?_toList,gI];split
  ·cases ops[k]?<;>rfl
  ·rfl
 have f:∀l:List Oper,l.foldl (λe o=>cU e o.dst .df) env=(l.map Oper.dst).foldl (λe d=>cU e d .df) env:=λl=>by rw[List.foldl_map]
 unfold ng;rw[f,f,e]
theorem akX(hm:P.follows .mixedOrders=true)(C:fx)(hC:iD P C):rV P (amD P C):=by
 intro id ops env ds H K h;obtain⟨pre,s1,s2,_,h⟩:=Ei h;obtain⟨ok1,h⟩:=aI h;obtain⟨ok2,h⟩:=aI h;have hms:np ops (Pd ops):=uL _ (np.nil ops);have akY:np (eY ops s2 s1) (masks (eY ops s2 s1) (pre++[s1,s2]) []):=uL _ (np.nil _);have akZ:np (eY ops s1 s2) (masks (eY ops s1 s2) (pre++[s2,s1]) []):=uL _ (np.nil _);have S1:=zt akY ok1;have S2:=zt akZ ok2;have qf:s1≠s2∧s1∉pre∧s2∉pre:=by
  have:=S1.UQ;rw[List.nodup_append]at this;obtain⟨_,h2,h3⟩:=this;refine⟨by simpa using h2,λhp=>h3 s1 hp s1 (by simp) rfl,λhp=>h3 s2 hp s2 (by simp) rfl⟩
 have hl1:s1<ops.size:=by have:=S1.lt s1 (by simp);rwa [nI]at this
 have hl2:s2<ops.size:=by have:=S1.lt s2 (by simp);rwa [nI]at this
 rcases lv hC hms _ _ _ _ (by simp) h with⟨chk,env',H0,hk,hct,g⟩|⟨v,env',H',hk,g⟩
 ·obtain⟨o1,ho1,hk⟩:=Pf hk;obtain⟨o2,ho2,hk⟩:=Pf hk;obtain⟨hp,hk⟩:=aI hk;simp only[amC,Bool.and_eq_true,Option.isNone_iff_eq_none]at hp;obtain⟨⟨⟨hd1,hd2⟩,hg1⟩,hg2⟩:=hp;obtain⟨t1,a1,v1,e1,hk⟩:=Eh hk;obtain⟨t2,a2,v2,e2,hk⟩:=Eh hk;have ht1:turns o1=true:=by simp[turns,e1]
  have ht2:turns o2=true:=by simp[turns,e2]
  have q11:(eY ops s2 s1)[s1]? = some o1:=by rw[gI,if_neg (Ne.symm qf.1),ho1]
  have q12:(eY ops s2 s1)[s2]? = some { o2 with after:=o2.after.push ⟨s1,.data⟩ }:=by rw[gI,if_pos rfl,ho2];rfl
  have q22:(eY ops s1 s2)[s2]? = some o2:=by rw[gI,if_neg qf.1,ho2]
  have q21:(eY ops s1 s2)[s1]? = some { o1 with after:=o1.after.push ⟨s2,.data⟩ }:=by rw[gI,if_pos rfl,ho1];rfl
  obtain⟨H1,hk,A1,T1⟩:=tv (ops:=eY ops s2 s1) e1 hk;obtain⟨hk,C1⟩:=pL akY hct hk;obtain⟨bL,hk,A2,T2⟩:=tv (ops:=eY ops s2 s1) (o:={ o2 with after:=o2.after.push ⟨s1,.data⟩ }) e2 hk;obtain⟨hk,C2⟩:=pL akY hct hk;obtain⟨H2,hk,A3,T3⟩:=tv (ops:=eY ops s1 s2) e2 hk;obtain⟨hk,C3⟩:=pL akZ hct hk;obtain⟨ia,hk,A4,T4⟩:=tv (ops:=eY ops s1 s2) (o:={ o1 with after:=o1.after.push ⟨s2,.data⟩ }) e1 hk;obtain⟨hk,C4⟩:=pL akZ hct hk;obtain⟨hk,avr⟩:=TS hk A1 A2 A3 A4;have Xr:∀i∈pre,(eY ops s2 s1)[i]? = ops[i]?:=λi hi=>by rw[gI,if_neg (λe:s2=i=>qf.2.2 (by rw[e];exact hi))]
  have Xs:∀i∈pre,(eY ops s1 s2)[i]? = ops[i]?:=λi hi=>by rw[gI,if_neg (λe:s1=i=>qf.2.1 (by rw[e];exact hi))]
  have aq7:cU env' o1.dst fj=env':=by rw[hd1];rfl
  have aq8:cU env' o2.dst fj=env':=by rw[hd2];rfl
  have tr1:=g _ (rX ops s2 s1) Xr [s1,s2] none env' bL (.turn fj H1 q11 (oi q11 ht1) (.of_none hg1) T1 (.inr C1)
   (by rw[aq7];exact .turn fj bL q12 (oi q12 ht2) (.of_none hg2) T2 (.inr C2) (by show Tr P _ [] chk (cU env' o2.dst fj) bL none env' bL;rw[aq8];exact .nil _ _ _)))
  have tr2:=g _ (rX ops s1 s2) Xs [s2,s1] none env' ia (.turn fj H2 q22 (oi q22 ht2) (.of_none hg2) T3 (.inr C3)
   (by rw[aq8];exact .turn fj ia q21 (oi q21 ht1) (.of_none hg1) T4 (.inr C4) (by show Tr P _ [] chk (cU env' o1.dst fj) ia none env' ia;rw[aq7];exact .nil _ _ _)))
  refine⟨.normal,env',ds,bL,hk,λf w a hr ha hd Q hq=>wp_region_draw λt=>?_⟩;simp only[Region.schedule,hm,Bool.true_or,if_true];have hv:=M5 (ops:=ops) ops.size t (Array.replicate ops.size false);generalize hL:Region.linearise.go .any ops ops.size t (Array.replicate ops.size false) []=L at hv;show wpOps P ops Q (Region.linearise.go .any ops ops.size t (Array.replicate ops.size false) []) a _;rw[hL];rcases bef qf.1 L with hb|hb
  ·have w1:=tJ S1 tr1 hr ha hd (Q:=Q) λa' w' hx=>hq _ _ _ hx;rw[nI]at w1;exact qh ((hv.eY (j:=s2) (i:=s1) hl1 (by simp) λL1 L2 e=>.inr (hb L1 L2 e)).wp _ _ w1)
  ·have w2:=tJ S2 tr2 hr ha hd (Q:=Q) λa' w' hx=>hq _ _ _ (by
    unfold nt at hx ⊢;obtain⟨f',s,hx⟩:=hx;refine⟨f',?_,hx⟩;unfold Step at s ⊢;rw[avr];exact s)
   rw[nI]at w2;exact qh ((hv.eY (j:=s1) (i:=s2) hl2 (by simp) λL1 L2 e=>.inr (hb L1 L2 e)).wp _ _ w2)
 ·have Xr:∀i∈pre,(eY ops s2 s1)[i]? = ops[i]?:=λi hi=>by rw[gI,if_neg (λe:s2=i=>qf.2.2 (by rw[e];exact hi))]
  have Xs:∀i∈pre,(eY ops s1 s2)[i]? = ops[i]?:=λi hi=>by rw[gI,if_neg (λe:s1=i=>qf.2.1 (by rw[e];exact hi))]
  have tr1:=g _ (rX ops s2 s1) Xr [s1,s2];have tr2:=g _ (rX ops s1 s2) Xs [s2,s1];refine⟨.dB v,_,ds,H',hk,λf w a hr ha hd Q hq=>wp_region_draw λt=>?_⟩;simp only[Region.schedule,hm,Bool.true_or,if_true];have hv:=M5 (ops:=ops) ops.size t (Array.replicate ops.size false);generalize hL:Region.linearise.go .any ops ops.size t (Array.replicate ops.size false) []=L at hv;show wpOps P ops Q (Region.linearise.go .any ops ops.size t (Array.replicate ops.size false) []) a _;rw[hL];rcases bef qf.1 L with hb|hb
  ·have w1:=tJ S1 tr1 hr ha hd (Q:=Q) λch a' w' hx=>hq _ _ _ (by rw[M6]at hx;exact hx);rw[nI]at w1;exact qh ((hv.eY (j:=s2) (i:=s1) hl1 (by simp) λL1 L2 e=>.inr (hb L1 L2 e)).wp _ _ w1)
  ·have w2:=tJ S2 tr2 hr ha hd (Q:=Q) λch a' w' hx=>hq _ _ _ (by rw[M6]at hx;exact hx);rw[nI]at w2;exact qh ((hv.eY (j:=s1) (i:=s2) hl2 (by simp) λL1 L2 e=>.inr (hb L1 L2 e)).wp _ _ w2)
def N4(P:Program)(C:fx):DT:=λops env ds H K=>
 bI (xA ops (canon ops) (Pd ops)) (kJ C P P.globals.size ops (Pd ops) (canon ops) [] env H (λ_ env H=>K .normal env ds H) (λv env H=>K (.dB v) (ng ops env) ds H)) (amD P C ops env ds H K)
theorem Pg(hm:P.follows .mixedOrders=true)(C:fx)(hC:iD P C):rV P (N4 P C):=by
 intro id ops env ds H K h;rcases dW h with⟨hok,h⟩|⟨_,h⟩
 case inr=>exact akX hm C hC id ops env ds H K h
 have hms:np ops (Pd ops):=uL _ (np.nil ops);have S:=zt hms hok;rcases lv hC hms _ _ _ _ (by simp) h with⟨Xo,env',H',hk,_,g⟩|⟨v,env',H',hk,g⟩
 ·have tr:=g ops (.refl ops) (λ_ _=>rfl) [] _ _ _ (.nil _ _ _);rw[List.append_nil]at tr;exact⟨.normal,env',ds,H',hk,λf w a hr ha hd Q hq=>wp_region_any hm (tJ S tr hr ha hd λa' w' hx=>hq _ _ _ hx)⟩
 ·have tr:=g ops (.refl ops) (λ_ _=>rfl) [];rw[List.append_nil]at tr;exact⟨.dB v,_,ds,H',hk,λf w a hr ha hd Q hq=>wp_region_any hm (tJ S tr hr ha hd λch a' w' hx=>hq _ _ _ hx)⟩
end
section
inductive Fr where
 |seq (p:List Nat) (c:Code)
 |blk (id:Nat)
 |loop (p:List Nat) (c:Code)
 |scope (p:List Nat) (c:Code)
def ly(p:List Nat):Code→List Fr→Nat→Option (Code×List Fr)
 |.seq a b,st,0=>some (a,.seq (1::p) b::st)
 |.seq _ b,st,1=>some (b,st)
 |.cond _ a _,st,0=>some (a,st)
 |.cond _ _ b,st,1=>some (b,st)
 |.block id c,st,0=>some (c,.blk id::st)
 |.loop c,st,0=>some (c,.loop p c::st)
 |.scope c,st,0=>some (c,.scope p c::st)
 |.scope c,st,l+2=>(match findLabel c l with|some r=>some (r,.scope p c::st)|none=>none)
 |_,_,_=>none
def zu(body:Code):List Nat→Option (Code×List Fr)
 |[]=>some (body,[])
 |b::p=>match zu body p with
  |some (c,st)=>ly p c st b
  |none=>none
def Ph:List Nat→List Nat→Bool
 |[],[]=>true
 |a::p,b::q=>Nat.beq a b&&Ph p q
 |_,_=>false
theorem adH:∀{p q:List Nat},Ph p q=true→p=q
 |[],[],_=>rfl
 |[],_::_,h=>by simp[Ph]at h
 |_::_,[],h=>by simp[Ph]at h
 |a::p,b::q,h=>by
  simp only[Ph,Bool.and_eq_true]at h;rw[Nat.eq_of_beq_eq_true h.1,adH h.2]
abbrev AJ:=List AV→List eT→AH→Prop
abbrev GT:=List Nat→Code→List Fr→AJ
section
def oH(g:GT)(K:KT):List Fr→Out→AJ
 |[],o,env,ds,H=>K o env ds H
 |.seq p c::st,o,env,ds,H=>match o with|.normal=>g p c st env ds H|o=>oH g K st o env ds H
 |.blk id::st,o,env,ds,H=>match o with|.exit i=>bI (Nat.beq i id) (oH g K st .normal env ds H) (oH g K st (.exit i) env ds H)|o=>oH g K st o env ds H
 |.loop p c::st,o,env,ds,H=>match o with|.normal=>g p (.loop c) st env ds H|o=>oH g K st o env ds H
 |.scope p c::st,o,env,ds,H=>match o with|.goto l=>O2 (findLabel c l) (λr=>g ((l+2)::p) r (.scope p c::st) env ds H) (oH g K st (.goto l) env ds H)|o=>oH g K st o env ds H
def FP(C:fx)(D:DT)(P:Program)(G:Nat)(g:GT)(K:KT):GT:=λp c st env ds H=>
 match c with
 |.skip=>oH g K st .normal env ds H
 |.region _ ops draw=>bI draw (D ops env ds H (λo env ds H=>oH g K st o env ds H)) (uK C P G ops ops.toList env ds H (λo env ds H=>oH g K st o env ds H))
 |.seq a b=>g (0::p) a (.seq (1::p) b::st) env ds H
 |.cond c a b=>lp (fQ G env c) (g (0::p) a st env ds H) (g (1::p) b st env ds H)
 |.block id b=>g (0::p) b (.blk id::st) env ds H
 |.loop b=>g (0::p) b (.loop p b::st) env ds H
 |.scope b=>g (0::p) b (.scope p b::st) env ds H
 |.goto l=>oH g K st (.goto l) env ds H
 |.exit id=>oH g K st (.exit id) env ds H
 |.label _=>oH g K st .normal env ds H
 |.ret=>oH g K st .ret env ds H
 |_=>False
abbrev Tbl:=List (List Nat×AJ)
def FQ:Tbl→List Nat→Option AJ
 |[],_=>none
 |(m,F)::r,n=>bif Ph m n then some F else FQ r n
def goX(C:fx)(D:DT)(P:Program)(G:Nat)(t:Tbl)(K:KT)(n:Nat):GT:=Nat.rec (motive:=λ_=>GT) (λ_ _ _ _ _ _=>False)
 (λ_ ih p c st env ds H=>match FQ t p with|some F=>F env ds H|none=>FP C D P G ih K p c st env ds H) n
def amE(o:Option (Code×List Fr))(k:Code→List Fr→Prop):Prop:=match o with|some (c,st)=>k c st|none=>False
def Pj(C:fx)(D:DT)(P:Program)(G:Nat)(body:Code)(t:Tbl)(K:KT)(n:Nat)(p:List Nat):AJ:=λenv ds H=>
 amE (zu body p) λc st=>FP C D P G (goX C D P G t K n) K p c st env ds H
end
variable {P:Program}
def FR(P:Program)(n:Nat)(c:Code)(Q:Exit→Act→World→Prop)(a:Act)(w:World):Prop:=match c with|.loop b=>LI P b Q n a w|c=>c.wp P Q a w
def ld(P:Program)(n:Nat):List Fr→(Exit→Act→World→Prop)→(Exit→Act→World→Prop)
 |[],Q=>Q
 |.seq _ c::st,Q=>λe a w=>match e with|.normal=>FR P n c (ld P n st Q) a w|e=>ld P n st Q e a w
 |.blk id::st,Q=>Exit.inBlock id (ld P n st Q)
 |.loop _ c::st,Q=>λe a w=>match e with|.normal=>LI P c (ld P n st Q) n a w|e=>ld P n st Q e a w
 |.scope _ c::st,Q=>λe a w=>match e with|.goto l=>(match findLabel c l with|some r=>Aj P c (ld P n st Q) n r a w|none=>ld P n st Q (.goto l) a w)|e=>ld P n st Q e a w
theorem BS{c:Code}{Q Q':Exit→Act→World→Prop}(hq:∀e a w,Q e a w→Q' e a w):∀{n m:Nat},n≤m→∀{a w},LI P c Q n a w→LI P c Q' m a w
 |0,_,_,_,_,h=>h.elim
 |n+1,0,hl,_,_,_=>absurd hl (by omega)
 |n+1,m+1,hl,a,w,h=>by
  unfold LI at h ⊢;refine Code.wp_mono (λe a w h=>?_) h;cases e<;>first|exact BS hq (Nat.le_of_succ_le_succ hl) h|exact hq _ _ _ h
theorem EH{c:Code}{Q Q':Exit→Act→World→Prop}(hq:∀e a w,Q e a w→Q' e a w):∀{n m:Nat},n≤m→∀{r a w},Aj P c Q n r a w→Aj P c Q' m r a w
 |0,_,_,_,_,_,h=>h.elim
 |n+1,0,hl,_,_,_,_=>absurd hl (by omega)
 |n+1,m+1,hl,r,a,w,h=>by
  unfold Aj at h ⊢;refine Code.wp_mono (λe a w h=>?_) h;cases e with
  |goto l=>
   simp only at h ⊢;cases hf:findLabel c l with
   |none=>rw[hf]at h;exact hq _ _ _ h
   |some r'=>rw[hf]at h;exact EH hq (Nat.le_of_succ_le_succ hl) h
  |_=>exact hq _ _ _ h
theorem ak0{c:Code}{Q Q':Exit→Act→World→Prop}(hq:∀e a w,Q e a w→Q' e a w){n m:Nat}(hl:n≤m){a:Act}{w:World}(h:FR P n c Q a w):FR P m c Q' a w:=by
 unfold FR at h ⊢;split at h
 ·exact BS hq hl h
 ·exact Code.wp_mono hq h
theorem gJ{n m:Nat}(hl:n≤m):∀{st:List Fr}{Q:Exit→Act→World→Prop}{e:Exit}{a:Act}{w:World},ld P n st Q e a w→ld P m st Q e a w
 |[],_,_,_,_,h=>h
 |.seq _ c::st,Q,e,a,w,h=>by
  cases e<;>first|exact ak0 (λe a w h=>gJ hl h) hl h|exact gJ hl (st:=st) h
 |.blk id::st,Q,e,a,w,h=>by
  unfold ld Exit.inBlock at h ⊢;cases e<;>try exact gJ hl h
  rename_i i;simp only at h ⊢;split at h<;>rename_i hi
  ·rw[if_pos hi];exact gJ hl h
  ·rw[if_neg hi];exact gJ hl h
 |.loop _ c::st,Q,e,a,w,h=>by
  cases e<;>first|exact BS (λe a w h=>gJ hl h) hl h|exact gJ hl (st:=st) h
 |.scope _ c::st,Q,e,a,w,h=>by
  cases e with
  |goto l=>
   simp only[ld]at h ⊢;cases hf:findLabel c l with
   |none=>rw[hf]at h;exact gJ hl h
   |some r'=>rw[hf]at h;exact EH (λe a w h=>gJ hl h) hl h
  |_=>exact gJ hl (st:=st) h
theorem xC{n:Nat}{c:Code}{Q:Exit→Act→World→Prop}{a:Act}{w:World}(h:FR P n c Q a w):c.wp P Q a w:=by
 unfold FR at h;split at h
 ·exact wp_loop_rounds h
 ·exact h
theorem Pk{n:Nat}{c:Code}(hn:∀b,c≠.loop b){Q:Exit→Act→World→Prop}{a:Act}{w:World}(h:c.wp P Q a w):FR P n c Q a w:=by
 unfold FR;split
 ·exact absurd rfl (hn _)
 ·exact h
def EO(f:aO)(o:Out)(e:Exit):Prop:=match o with|.normal=>e=.normal|.exit id=>e=.exit id|.goto l=>e=.goto l|.ret=>e=.ret|.dB v=>∃ch,e=.panic ch∧zo f v ch
def xD(P:Program)(c:Code)(st:List Fr)(K:KT)(env:List AV)(ds:List eT)(H:AH):Prop:=∃n,iS P env ds H K λa w Q=>FR P n c (ld P n st Q) a w
def aq9(P:Program)(st:List Fr)(K:KT)(o:Out)(env:List AV)(ds:List eT)(H:AH):Prop:=∃n o' env' ds' H',K o' env' ds' H'∧∀f w a e,HR f H w→AR P f env a→DR f ds a.defers→EO f o e→∀Q:Exit→Act→World→Prop,(∀e a' w',nt P f H w o' env' ds' H' e a' w'→Q e a' w')→ld P n st Q e a w
theorem nt.outOf{f:aO}{H:AH}{w:World}{o:Out}{env:List AV}{ds:List eT}{H':AH}{e:Exit}{a:Act}{w':World}(h:nt P f H w o env ds H' e a w') :
  ∃f',Step f H w f' H' w'∧AR P f' env a∧DR f' ds a.defers∧EO f' o e:=by
 obtain⟨f',h1,h2,h3,h4⟩:=h;exact⟨f',h1,h2,h3,by cases o<;>exact h4⟩
theorem xD.qV{c:Code}{st:List Fr}{K:KT}{env:List AV}{ds:List eT}{H:AH}(hn:∀b,c≠.loop b)
  (h:iS P env ds H (λo env ds H=>aq9 P st K o env ds H) λa w Q=>c.wp P Q a w):xD P c st K env ds H:=by
 obtain⟨o,ek,ds1,H1,⟨n,o',env',ds',H',g1,g2⟩,h2⟩:=h;refine⟨n,o',env',ds',H',g1,λf w a hr ha hd Q hQ=>Pk hn (h2 f w a hr ha hd _ λe a' w' hx=>?_)⟩;obtain⟨f',s,y1,y2,y3⟩:=hx.outOf;exact g2 f' w' a' e s.rel y1 y2 y3 Q λe a2 w2 hx=>hQ _ _ _ (hx.after s)
inductive Pos(body:Code):List Nat→Code→List Fr→Prop where
 |root:Pos body [] body []
 |step {p c st b c' st'}:Pos body p c st→ly p c st b=some (c',st')→Pos body (b::p) c' st'
theorem Pos.sub{body:Code}{p:List Nat}{c:Code}{st:List Fr}(h:Pos body p c st):zu body p=some (c,st):=by
 induction h with
 |root=>rfl
 |step h1 h2 ih=>simp only[zu,ih,h2]
theorem Pos.of_sub{body:Code}:∀{p:List Nat}{c:Code}{st:List Fr},zu body p=some (c,st)→Pos body p c st
 |[],c,st,h=>by simp only[zu,Option.some.injEq,Prod.mk.injEq]at h;obtain⟨rfl,rfl⟩:=h;exact .root
 |b::p,c,st,h=>by
  simp only[zu]at h;split at h
  ·rename_i c0 st0 h0;exact .step (Pos.of_sub h0) h
  ·cases h
inductive qi(body:Code):List Fr→Prop where
 |nil:qi body []
 |seq {p c st}:Pos body p c st→qi body st→qi body (.seq p c::st)
 |blk {id st}:qi body st→qi body (.blk id::st)
 |loop {p c st}:Pos body p (.loop c) st→qi body st→qi body (.loop p c::st)
 |scope {p c st}:Pos body p (.scope c) st→qi body st→qi body (.scope p c::st)
theorem Xt{p:List Nat}{a b:Code}{st:List Fr}{k:Nat}{c':Code}{st':List Fr}(h:ly p (.seq a b) st k=some (c',st')):(st'=.seq (1::p) b::st)∨st'=st:=by
 rcases k with _|_|k
 ·simp only[ly,Option.some.injEq,Prod.mk.injEq]at h;exact .inl h.2.symm
 ·simp only[ly,Option.some.injEq,Prod.mk.injEq]at h;exact .inr h.2.symm
 ·simp[ly]at h
theorem Pos.stack{body:Code}{p:List Nat}{c:Code}{st:List Fr}(h:Pos body p c st):qi body st:=by
 induction h with
 |root=>exact .nil
 |@step p c st b c' st' h1 h2 ih=>
  have g:=λx y z=>@Pos.step body p c st x y z h1;cases c with
  |seq a b'=>
   rcases Xt h2 with rfl|rfl
   ·exact .seq (g 1 _ _ rfl) ih
   ·exact ih
  |cond x a b'=>
   rcases b with _|_|b<;>simp only[ly,Option.some.injEq,Prod.mk.injEq,reduceCtorEq]at h2
   ·obtain⟨_,rfl⟩:=h2;exact ih
   ·obtain⟨_,rfl⟩:=h2;exact ih
  |block id a=>
   rcases b with _|b<;>simp only[ly,Option.some.injEq,Prod.mk.injEq,reduceCtorEq]at h2
   obtain⟨_,rfl⟩:=h2;exact .blk ih
  |loop a=>
   rcases b with _|b<;>simp only[ly,Option.some.injEq,Prod.mk.injEq,reduceCtorEq]at h2
   obtain⟨_,rfl⟩:=h2;exact .loop h1 ih
  |scope a=>
   rcases b with _|_|b
   ·simp only[ly,Option.some.injEq,Prod.mk.injEq]at h2;obtain⟨_,rfl⟩:=h2;exact .scope h1 ih
   ·simp[ly]at h2
   ·simp only[ly]at h2;split at h2
    ·simp only[Option.some.injEq,Prod.mk.injEq]at h2;obtain⟨_,rfl⟩:=h2;exact .scope h1 ih
    ·cases h2
  |_=>rcases b with _|_|b<;>simp[ly]at h2
abbrev GOk(P:Program)(body:Code)(K:KT)(g:GT):Prop:=∀p c st env ds H,Pos body p c st→g p c st env ds H→xD P c st K env ds H
theorem jV{body:Code}{K:KT}{g:GT}(hg:GOk P body K g):∀{st:List Fr}{o:Out}{env:List AV}{ds:List eT}{H:AH},qi body st→oH g K st o env ds H→aq9 P st K o env ds H
 |[],o,env,ds,H,_,h=>⟨0,o,env,ds,H,h,λf w a e hr ha hd he Q hQ=>hQ _ _ _ ⟨f,Step.refl hr,ha,hd,by cases o<;>exact he⟩⟩
 |.seq p c::st,o,env,ds,H,hs,h=>by
  cases hs with
  |seq h1 h2=>
   cases o with
   |normal=>
    obtain⟨n,o',env',ds',H',g1,g2⟩:=hg p c st env ds H h1 h;exact⟨n,o',env',ds',H',g1,λf w a e hr ha hd he Q hQ=>by cases he;exact g2 f w a hr ha hd Q hQ⟩
   |_=>
    obtain⟨n,o',env',ds',H',g1,g2⟩:=jV hg h2 h;refine⟨n,o',env',ds',H',g1,λf w a e hr ha hd he Q hQ=>?_⟩;have:=g2 f w a e hr ha hd he Q hQ
    first|(cases he;exact this)|(obtain⟨ch,rfl,_⟩:=he;exact this)
 |.loop p c::st,o,env,ds,H,hs,h=>by
  cases hs with
  |loop h1 h2=>
   cases o with
   |normal=>
    obtain⟨n,o',env',ds',H',g1,g2⟩:=hg p (.loop c) st env ds H h1 h;exact⟨n,o',env',ds',H',g1,λf w a e hr ha hd he Q hQ=>by cases he;exact g2 f w a hr ha hd Q hQ⟩
   |_=>
    obtain⟨n,o',env',ds',H',g1,g2⟩:=jV hg h2 h;refine⟨n,o',env',ds',H',g1,λf w a e hr ha hd he Q hQ=>?_⟩;have:=g2 f w a e hr ha hd he Q hQ
    first|(cases he;exact this)|(obtain⟨ch,rfl,_⟩:=he;exact this)
 |.blk id::st,o,env,ds,H,hs,h=>by
  cases hs with
  |blk h2=>
   cases o with
   |exit i=>
    rcases dW h with⟨hi,h⟩|⟨hi,h⟩
    ·obtain⟨n,o',env',ds',H',g1,g2⟩:=jV hg h2 h;refine⟨n,o',env',ds',H',g1,λf w a e hr ha hd he Q hQ=>?_⟩;cases he;have:=g2 f w a .normal hr ha hd rfl Q hQ;simp only[ld,Exit.inBlock];rw[if_pos (Nat.eq_of_beq_eq_true hi)];exact this
    ·obtain⟨n,o',env',ds',H',g1,g2⟩:=jV hg h2 h;refine⟨n,o',env',ds',H',g1,λf w a e hr ha hd he Q hQ=>?_⟩;cases he;have:=g2 f w a (.exit i) hr ha hd rfl Q hQ;simp only[ld,Exit.inBlock];rw[if_neg (λe=>by subst e;simp at hi)];exact this
   |_=>
    obtain⟨n,o',env',ds',H',g1,g2⟩:=jV hg h2 h;refine⟨n,o',env',ds',H',g1,λf w a e hr ha hd he Q hQ=>?_⟩;have:=g2 f w a e hr ha hd he Q hQ
    first|(cases he;exact this)|(obtain⟨ch,rfl,_⟩:=he;exact this)
 |.scope p c::st,o,env,ds,H,hs,h=>by
  cases hs with
  |scope h1 h2=>
   cases o with
   |goto l=>
    have h:O2 (findLabel c l) (λr=>g ((l+2)::p) r (.scope p c::st) env ds H) (oH g K st (.goto l) env ds H):=h;cases hf:findLabel c l with
    |none=>
     rw[hf]at h;obtain⟨n,o',env',ds',H',g1,g2⟩:=jV hg h2 h;refine⟨n,o',env',ds',H',g1,λf w a e hr ha hd he Q hQ=>?_⟩;have:=g2 f w a e hr ha hd he Q hQ;cases he;simp only[ld,hf];exact this
    |some r=>
     rw[hf]at h;obtain⟨n,o',env',ds',H',g1,g2⟩:=hg ((l+2)::p) r (.scope p c::st) env ds H (h1.step (by simp[ly,hf])) h;refine⟨n+1,o',env',ds',H',g1,λf w a e hr ha hd he Q hQ=>?_⟩;have:=xC (g2 f w a hr ha hd Q hQ);cases he;simp only[ld,hf];show Aj P c _ (n+1) r a w;unfold Aj;refine Code.wp_mono (λe a w h=>?_) this;cases e with
     |goto l'=>
      simp only[ld]at h ⊢;cases hf':findLabel c l' with
      |none=>rw[hf']at h;exact gJ (Nat.le_succ n) h
      |some r'=>rw[hf']at h;exact EH (λe a w h=>gJ (Nat.le_succ n) h) (Nat.le_refl n) h
     |_=>exact gJ (st:=st) (Nat.le_succ n) h
   |_=>
    obtain⟨n,o',env',ds',H',g1,g2⟩:=jV hg h2 h;refine⟨n,o',env',ds',H',g1,λf w a e hr ha hd he Q hQ=>?_⟩;have:=g2 f w a e hr ha hd he Q hQ
    first|(cases he;exact this)|(obtain⟨ch,rfl,_⟩:=he;exact this)
theorem xD.wp{c:Code}{st:List Fr}{K:KT}{env:List AV}{ds:List eT}{H:AH}(h:xD P c st K env ds H){c':Code}{st':List Fr}(hn:∀b,c'≠.loop b)
  (hW:∀n f a w Q,AR P f env a→c.wp P (ld P n st Q) a w→c'.wp P (ld P n st' Q) a w):xD P c' st' K env ds H:=by
 obtain⟨n,h⟩:=h;exact⟨n,h.mono (λf a w Q ha hh=>Pk hn (hW n f a w Q ha (xC hh))) λ_ _ _ _ h=>h⟩
theorem Pl{C:fx}(hC:iD P C){D:DT}(hD:rV P D){body:Code}{K:KT}{g:GT}(hg:GOk P body K g):GOk P body K (FP C D P P.globals.size g K):=by
 intro p c st env ds H hp h;have hs:=hp.stack;unfold FP at h;cases c with
 |skip=>exact xD.qV (by simp) (iS.done (jV hg hs h) .normal (.inl ⟨rfl,rfl⟩) λa w Q h=>wp_skip h)
 |region id ops draw=>
  refine xD.qV (by simp) ?_;rcases dW h with⟨rfl,h⟩|⟨rfl,h⟩
  ·exact(hD id ops env ds H _ h).mono (λ_ _ _ _ _ h=>h) λ_ _ _ _ h=>jV hg hs h
  ·exact(pI hC _ _ _ _ h).mono (λf a w Q _ h=>wp_region_list h) λ_ _ _ _ h=>jV hg hs h
 |seq a b=>exact(hg _ _ _ env ds H (hp.step rfl) h).wp (by simp) λn f x w Q _ h=>wp_seq (Code.wp_mono (λe a w h=>by cases e<;>first|exact xC h|exact h) h)
 |cond c a b=>
  have h:lp (fQ P.globals.size env c) (g (0::p) a st env ds H) (g (1::p) b st env ds H):=h;generalize hv:fQ P.globals.size env c=v at h;cases v<;>try exact h.elim
  case bool t=>
   have hc:∀{f:aO}{a:Act},AR P f env a→a.eval c=.bool t:=λ{f act} ha=>by
    have:=xx ha c;rw[hv]at this;generalize act.eval c=u at this;cases this;rfl
   cases t
   ·exact(hg _ _ _ env ds H (hp.step rfl) h).wp (by simp) λn f x w Q ha h=>wp_cond (hc ha) h
   ·exact(hg _ _ _ env ds H (hp.step rfl) h).wp (by simp) λn f x w Q ha h=>wp_cond (hc ha) h
 |block id c=>exact(hg _ _ _ env ds H (hp.step rfl) h).wp (by simp) λn f x w Q _ h=>wp_block h
 |loop c=>
  obtain⟨n,h⟩:=hg _ _ _ env ds H (hp.step rfl) h;refine⟨n+1,h.mono (λf a w Q _ hh=>?_) λ_ _ _ _ h=>h⟩;show LI P c _ (n+1) a w;unfold LI;refine Code.wp_mono (λe a w h=>?_) (xC hh);cases e<;>first|exact BS (λe a w h=>gJ (Nat.le_succ n) h) (Nat.le_refl n) h|exact gJ (st:=st) (Nat.le_succ n) h
 |scope c=>
  obtain⟨n,h⟩:=hg _ _ _ env ds H (hp.step rfl) h;refine⟨n,h.mono (λf a w Q _ hh=>Pk (by simp) (vZ (n:=n+1) ?_)) λ_ _ _ _ h=>h⟩;unfold Aj;refine Code.wp_mono (λe a w h=>?_) (xC hh);cases e with
  |goto l=>
   simp only[ld]at h ⊢;exact h
  |_=>exact h
 |exit id=>exact xD.qV (by simp) (iS.done (jV hg hs h) (.exit id) (.inr (.inl ⟨id,rfl,rfl⟩)) λa w Q h=>wp_exit h)
 |label l=>exact xD.qV (by simp) (iS.done (jV hg hs h) .normal (.inl ⟨rfl,rfl⟩) λa w Q h=>wp_label h)
 |ret=>exact xD.qV (by simp) (iS.done (jV hg hs h) .ret (.inr (.inr (.inr ⟨rfl,rfl⟩))) λa w Q h=>wp_ret h)
 |goto l=>exact xD.qV (by simp) (iS.done (jV hg hs h) (.goto l) (.inr (.inr (.inl ⟨l,rfl,rfl⟩))) λa w Q h=>wp_goto h)
 |rangeFunc=>exact h.elim
 |refuse=>exact h.elim
def AK(P:Program)(body:Code)(K:KT)(p:List Nat):AJ:=λenv ds H=>∃c st,zu body p=some (c,st)∧xD P c st K env ds H
abbrev AL:=List (List Nat×AJ)
def EI(t:AL):Tbl:=t
def nK(P:Program)(body:Code)(K:KT)(t:AL):Prop:=∀e∈t,∀env ds H,e.2 env ds H→AK P body K e.1 env ds H
theorem nK.nil{body:Code}{K:KT}:nK P body K []:=λe h=>by simp at h
theorem nK.cons{body:Code}{K:KT}{p:List Nat}{F:AJ}{t:AL}(h:∀env ds H,F env ds H→AK P body K p env ds H)(ht:nK P body K t):nK P body K ((p,F)::t):=λe he=>by
 rcases List.mem_cons.1 he with rfl|he
 ·exact h
 ·exact ht e he
theorem Pm:∀{t:AL}{p:List Nat}{F:AJ},FQ (EI t) p=some F→(p,F)∈t
 |[],_,_,h=>by cases h
 |(q,G)::t,p,F,h=>by
  simp only[EI,FQ]at h;cases hb:Ph q p with
  |true=>
   rw[hb]at h;have h:G=F:=by simpa using h
   have:=adH hb;subst h;subst this;simp
  |false=>
   rw[hb]at h;exact List.mem_cons_of_mem _ (Pm h)
theorem adI{C:fx}(hC:iD P C){D:DT}(hD:rV P D){body:Code}{K:KT}{t:AL}(ht:nK P body K t):∀n,GOk P body K (goX C D P P.globals.size (EI t) K n)
 |0=>λ_ _ _ _ _ _ _ h=>h.elim
 |n+1=>λp c st env ds H hp h=>by
  change (match FQ (EI t) p with|some F=>F env ds H|none=>FP C D P P.globals.size (goX C D P P.globals.size (EI t) K n) K p c st env ds H)at h
  split at h
  ·rename_i F hF;obtain⟨c',st',h1,h2⟩:=ht _ (Pm hF) env ds H h;rw[hp.sub]at h1;cases h1;exact h2
  ·exact Pl hC hD (adI hC hD ht n) p c st env ds H hp h
theorem adJ{C:fx}(hC:iD P C){D:DT}(hD:rV P D){body:Code}{K:KT}{t:AL}(ht:nK P body K t){n:Nat}{p:List Nat}{env:List AV}{ds:List eT}{H:AH}
  (h:Pj C D P P.globals.size body (EI t) K n p env ds H):AK P body K p env ds H:=by
 unfold Pj amE at h;split at h
 ·rename_i c st hs;exact⟨c,st,hs,Pl hC hD (adI hC hD ht n) p c st env ds H (Pos.of_sub hs) h⟩
 ·exact h.elim
end
section
abbrev KF:=kI→AH→Prop
abbrev cP:=List AV→AH→KF→Prop
inductive Ty where
 |i (k:Nat)
 |b
 |a
abbrev s4(R:Type):List Ty→Type
 |[]=>R
 |.i _::τ=>Int→s4 R τ
 |.b::τ=>Bool→s4 R τ
 |.a::τ=>AV→s4 R τ
section
def xf{R:Type}:(τ:List Ty)→s4 R τ→List AV→(R→Prop)→Prop
 |[],f,l,k=>match l with|[]=>k f|_=>False
 |.i q::τ,f,l,k=>match l with|v::r=>ky v λc z=>bT (Nat.beq c q) (xf τ (f z) r k)|[]=>False
 |.b::τ,f,l,k=>match l with|v::r=>bf v λz=>xf τ (f z) r k|[]=>False
 |.a::τ,f,l,k=>match l with|v::r=>xf τ (f v) r k|[]=>False
def qj{R:Type}:(τ:List Ty)→s4 R τ→(R→List AV→Prop)→Prop
 |[],f,p=>p f []
 |.i q::τ,f,p=>∀z:Int,qj τ (f z) λr l=>p r (.int q z::l)
 |.b::τ,f,p=>∀z:Bool,qj τ (f z) λr l=>p r (.bool z::l)
 |.a::τ,f,p=>∀v:AV,qj τ (f v) λr l=>p r (v::l)
def zw:List Nat→List AV→Nat→AV
 |s::r,v::l,i=>bif Nat.beq s i then v else zw r l i
 |_,_,_=>.df
def zx(slots:List Nat)(l:List AV):Nat→Nat→List AV
 |0,_=>[]
 |n+1,i=>zw slots l i::zx slots l n (Nat.succ i)
def Xu(n:Nat)(slots:List Nat)(l:List AV):List AV:=zx slots l n 0
def ara(ds:List eT)(x:Prop):Prop:=match ds with|[]=>x|_=>False
def arb(n:Nat)(slots:List Nat)(τ:List Ty)(f:s4 (AH→Prop) τ):AJ:=λenv ds H=>
 bT (Nat.beq env.length n) (ara ds (xf τ f (slots.map λs=>env.getD s .df) λr=>r H))
def tw:List (Nat×cP)→fx
 |[],_,_,_,_=>False
 |(m,F)::r,g,args,H,K=>bif Nat.beq m g then F args H K else tw r g args H K
def Pn:xy:=λ_ _ _ _ _=>False
def ao(τ:List Ty)(sh:s4 (AH→KF→Prop) τ):cP:=λargs H K=>xf τ sh args λr=>r H K
end
theorem aob{v:AV}{k:Bool→Prop}(h:bf v k):∃z,v=.bool z∧k z:=by
 cases v<;>first|exact h.elim|exact⟨_,rfl,h⟩
theorem qW{R:Type}:∀{τ:List Ty}{f:s4 R τ}{l:List AV}{k:R→Prop}{p:R→List AV→Prop},xf τ f l k→qj τ f p→∃r,k r∧p r l
 |[],f,l,k,p,h,g=>by
  unfold xf at h;split at h
  ·exact⟨f,h,g⟩
  ·exact h.elim
 |.i q::τ,f,l,k,p,h,g=>by
  unfold xf at h;split at h
  ·obtain⟨c,z,rfl,h⟩:=fC h;obtain⟨e,h⟩:=aI h;rw[Nat.eq_of_beq_eq_true e];exact qW (p:=λr l=>p r (.int q z::l)) h (g z)
  ·exact h.elim
 |.b::τ,f,l,k,p,h,g=>by
  unfold xf at h;split at h
  ·obtain⟨z,rfl,h⟩:=aob h;exact qW (p:=λr l=>p r (.bool z::l)) h (g z)
  ·exact h.elim
 |.a::τ,f,l,k,p,h,g=>by
  unfold xf at h;split at h
  ·rename_i v l;exact qW (p:=λr l=>p r (v::l)) h (g v)
  ·exact h.elim
theorem qj.imp{R:Type}:∀{τ:List Ty}{f:s4 R τ}{p q:R→List AV→Prop},(∀r l,p r l→q r l)→qj τ f p→qj τ f q
 |[],_,_,_,h,g=>h _ _ g
 |.i _::_,_,_,_,h,g=>λz=>qj.imp (λr l=>h r _) (g z)
 |.b::_,_,_,_,h,g=>λz=>qj.imp (λr l=>h r _) (g z)
 |.a::_,_,_,_,h,g=>λz=>qj.imp (λr l=>h r _) (g z)
theorem M7(s:List Nat)(l:List AV):∀n i,(zx s l n i).length=n
 |0,_=>rfl
 |n+1,i=>by simp[zx,M7 s l n]
theorem M8(s:List Nat)(l:List AV):∀n i j,j<n→(zx s l n i)[j]? = some (zw s l (i+j))
 |0,_,_,h=>absurd h (by omega)
 |n+1,i,0,_=>by simp[zx]
 |n+1,i,j+1,h=>by
  simp only[zx,List.getElem?_cons_succ];rw[M8 s l n (Nat.succ i) j (by omega),Nat.succ_eq_add_one,Nat.add_assoc,Nat.add_comm 1 j]
theorem M9(env:List AV):∀(s:List Nat) (i:Nat),zw s (s.map λt=>env.getD t .df) i=env.getD i .df∨zw s (s.map λt=>env.getD t .df) i=.df
 |[],i=>.inr (by simp[zw])
 |t::s,i=>by
  simp only[List.map_cons,zw];cases h:Nat.beq t i with
  |true=>rw[Nat.eq_of_beq_eq_true h];exact .inl rfl
  |false=>exact M9 env s i
variable {P:Program}
theorem VL.weak{f:aO}:∀{env env':List AV}{vs:List Value},VL f env vs→env'.length=env.length→(∀i,i<env.length→env'[i]? = env[i]?∨env'[i]? = some .df)→VL f env' vs
 |_,[],_,.nil,_,_=>.nil
 |_,_::_,_,.nil,h,_=>by simp at h
 |_,[],_,.cons _ _ _ _ _ _,h,_=>by simp at h
 |_,b::env',_,.cons a v as vs h1 h2,h,hi=>by
  have h0:=hi 0 (by simp);refine .cons b v _ _ ?_ (VL.weak h2 (by simpa using h) λi hl=>by have:=hi (i+1) (by simpa using hl);simpa using this);simp at h0;rcases h0 with rfl|rfl
  ·exact h1
  ·exact .df v
theorem AK.weak{body:Code}{K:KT}{p:List Nat}{env env':List AV}{ds:List eT}{H:AH}(h:AK P body K p env' ds H)(hl:env'.length=env.length)(hi:∀i,i<env.length→env'[i]? = env[i]?∨env'[i]? = some .df) :
  AK P body K p env ds H:=by
 obtain⟨c,st,h1,n,o,e2,d2,H2,h3,h4⟩:=h;exact⟨c,st,h1,n,o,e2,d2,H2,h3,λf w a hr ha hd Q hQ=>h4 f w a hr ⟨ha.tmps.weak hl hi,ha.glob⟩ hd Q hQ⟩
def ak1(P:Program)(body:Code)(K:KT)(p:List Nat)(n:Nat)(slots:List Nat)(τ:List Ty)(f:s4 (AH→Prop) τ):Prop:=qj τ f λr l=>∀H,r H→AK P body K p (Xu n slots l) [] H
theorem arc{body:Code}{K:KT}{p:List Nat}{n:Nat}{slots:List Nat}{τ:List Ty}{f:s4 (AH→Prop) τ}(h:ak1 P body K p n slots τ f):∀env ds H,arb n slots τ f env ds H→AK P body K p env ds H:=by
 intro env ds H hh;obtain⟨hl,hh⟩:=aI hh;unfold ara at hh;split at hh
 ·obtain⟨r,h1,h2⟩:=qW hh h;have hl:=Nat.eq_of_beq_eq_true hl;refine(h2 H h1).weak (by rw[Xu,M7,hl]) λi hi=>?_;rw[Xu,M8 _ _ _ _ _ (by omega),Nat.zero_add];rcases M9 env slots i with e|e
  ·rw[e];left;simp[List.getD_eq_getElem?_getD,hi]
  ·rw[e];exact .inr rfl
 ·exact hh.elim
def Po(P:Program)(f:aO):Prop:=∀g,g<P.globals.size→f.dom g∧f.blk g=g∧f.off g=0
def av(P:Program)(g:Nat)(F:cP):Prop:=nf P g=true→∀args H K,F args H K→∃o H',K o H'∧∀f w (vs:Array Value),HR f H w→Po P f→VL f args vs.toList→Calls P g vs w (tq f H w o H')
def ad(P:Program)(t:List (Nat×cP)):Prop:=∀e∈t,av P e.1 e.2
theorem ad.nil:ad P []:=λe h=>by simp at h
theorem ad.cons{g:Nat}{F:cP}{t:List (Nat×cP)}(h:av P g F)(ht:ad P t):ad P ((g,F)::t):=λe he=>by
 rcases List.mem_cons.1 he with rfl|he
 ·exact h
 ·exact ht e he
theorem uP:∀{t:List (Nat×cP)},ad P t→iD P (tw t)
 |[],_=>λ_ _ _ _ _ h=>h.elim
 |(m,F)::r,ht=>λg args H K hb h=>by
  unfold tw at h;cases e:Nat.beq m g with
  |true=>
   rw[e]at h;have:=Nat.eq_of_beq_eq_true e;subst this;exact ht (m,F) (by simp) hb args H K h
  |false=>
   rw[e]at h;exact uP (λe he=>ht e (List.mem_cons_of_mem _ he)) g args H K hb h
theorem aoc:JN P Pn:=λ_ _ _ _ _ _ h=>h.elim
theorem av.aod{g:Nat}{fn:Func}{body:Code}(hf:P.funcs[g]? = some fn)(hc:fn.body=some body){τ:List Ty}{sh:s4 (AH→KF→Prop) τ}
  (h:∀K,qj τ sh λr l=>∀H,r H K→AK P body (Xg P Pn fn K) [] (ba fn l) [] H):av P g (ao τ sh):=by
 intro _ args H K hh;obtain⟨r,h1,h2⟩:=qW hh (h K);obtain⟨c,st,h3,n,o,env',ds',H',h4,h5⟩:=h2 H h1;simp only[zu,Option.some.injEq,Prod.mk.injEq]at h3;obtain⟨rfl,rfl⟩:=h3;have key:∀(M:gA),pJ P Pn fn env' ds' M H' K→
   (∀(f:aO) (H0:AH) w (R:Ending→World→Prop) e a w',nt P f H0 w o env' ds' H' e a w'→(∀f' u,Step f H0 w f' H' w'→AR P f' env' a→DR f' ds' a.defers→MR f' M u→Leaves P fn a.tmps R a.defers u w')→bodyPostD P fn R e a w')→
   ∃o H',K o H'∧∀f w (vs:Array Value),HR f H w→Po P f→VL f args vs.toList→Calls P g vs w (tq f H w o H'):=λM hl hb=>by
  obtain⟨co,H2,g1,g2⟩:=zq aoc _ _ _ hl;refine⟨co,H2,g1,λf w vs hr hg hv=>calls_of_wp_defers hf hc (xC (h5 f w _ hr (AG hv hg) .nil _ λe a' w' hp=>hb f H w _ e a' w' hp λf' u s ha hd hm=>?_))⟩;exact Leaves.mono (λe w h=>h.after s) _ _ _ (g2 f' w' a' a'.defers u s.rel ha hd hm)
 cases o with
 |normal=>exact key .ret h4 λf H0 w R e a w' hp hl=>by obtain⟨f',s,y1,y2,rfl⟩:=hp;exact hl f' _ s y1 y2 rfl
 |ret=>exact key .ret h4 λf H0 w R e a w' hp hl=>by obtain⟨f',s,y1,y2,rfl⟩:=hp;exact hl f' _ s y1 y2 rfl
 |dB v=>exact key (.dB v) h4 λf H0 w R e a w' hp hl=>by obtain⟨f',s,y1,y2,ch,rfl,hp⟩:=hp;exact hl f' _ s y1 y2 ⟨ch,rfl,hp⟩
 |exit=>exact h4.elim
 |goto=>exact h4.elim
theorem av.ak2{g:Nat}{t:List (Nat×cP)}(ht:ad P t)(hm:P.follows .mixedOrders=true)(N d:Nat):av P g (Xj (tw t) (N4 P (tw t)) P P.globals.size N d g):=
 λhb args H K h=>akU (uP ht) (Pg hm _ (uP ht)) N d g args H K hb h
end
section
section
def cR(K:KF)(o:kI)(H:AH)(k:AV→Prop):Prop:=cOut o k λv=>K (.dB v) H
def ke(m n:Nat)(p q:AV)(x:Prop):Prop:=oc p λb o=>oc q λb' o'=>bT (!(Nat.beq b b')||(Nat.ble (Nat.add o m) o'||Nat.ble (Nat.add o' n) o)) x
def cI(q:Nat)(v:AV)(k:Int→Prop):Prop:=ky v λc z=>bT (Nat.beq c q) (k z)
def Pp:(τ:List Ty)→s4 (AH→KF→Prop) τ
 |[]=>λ_ _=>False
 |.i _::τ=>λ_=>Pp τ
 |.b::τ=>λ_=>Pp τ
 |.a::τ=>λ_=>Pp τ
end
variable {P:Program}
theorem zy:∀(τ:List Ty),qj τ (Pp τ) λr _=>∀H K,¬r H K
 |[]=>λ_ _ h=>h
 |.i _::τ=>λ_=>(zy τ).imp λ_ _ h=>h
 |.b::τ=>λ_=>(zy τ).imp λ_ _ h=>h
 |.a::τ=>λ_=>(zy τ).imp λ_ _ h=>h
theorem dz{g:Nat}(τ:List Ty):av P g (ao τ (Pp τ)):=λ_ args H K h=>by
 obtain⟨r,h1,h2⟩:=qW h (zy τ);exact(h2 H K h1).elim
end
theorem TT{c:Nat}{z:Int}{k:Int→Prop}(h:k ((kd c).wrap z)):aJ c z k:=by
 unfold aJ;cases z with
 |ofNat n=>
  show bI (qI c) (bI (Nat.ble (half c) n) (lq (qd c (.ofNat n)) k) (bM n λm=>k (.ofNat m))) (bM (Nat.mod n (full c)) λm=>k (.ofNat m));simp only[mC,bw,uD];cases hs:qI c with
  |true=>
   show bI (Nat.ble (half c) n) _ _;cases hb:Nat.ble (half c) n with
   |true=>exact h
   |false=>
    have hb':¬half c≤n:=λhle=>by rw[Nat.ble_eq_true_of_le hle]at hb;cases hb
    rw[wrap_small hs (by have:(Int.ofNat n:Int)=(n:Int):=rfl;omega) (by have:(Int.ofNat n:Int)=(n:Int):=rfl;omega)]at h;exact h
  |false=>
   rw[Ah hs]at h;exact h
 |negSucc n=>
  show bI (qI c) (bI (Nat.ble (half c) n) (lq (qd c (.negSucc n)) k) (bM n λm=>k (.negSucc m))) (lq (qd c (.negSucc n)) k);simp only[mC,bw,uD];cases hs:qI c with
  |true=>
   show bI (Nat.ble (half c) n) _ _;cases hb:Nat.ble (half c) n with
   |true=>exact h
   |false=>
    have hb':¬half c≤n:=λhle=>by rw[Nat.ble_eq_true_of_le hle]at hb;cases hb
    rw[wrap_small hs (by omega) (by omega)]at h;exact h
  |false=>exact h
end Go.X
