/- The machine: operations, control, calls. No condition: definitions and lemmas. -/
import Derived.Test.YtcedghechlgecaaDoorXa
import Derived.Lib.Overlaps
import Derived.Laws.Externs
import Derived.Lib.Bytealg
import Derived.Laws.StandIn
import Derived.Laws.IdiomStrings
import Derived.ScopeJumps
import Derived.Recover
import Derived.Orders
set_option maxRecDepth 100000
set_option maxHeartbeats 0
set_option linter.unusedVariables false
set_option linter.unusedSimpArgs false
namespace Go.X
def bN:AV:=.bF []
def lD(P:Program)(t:TypeId)(v:AV)(k:AV→Prop):Prop:=
 match P.underlying t with
 |some (.int q)=>jH v λc z=>bT (Nat.beq c (kn q)) (k (.int (kn q) z))
 |some .bool=>cH v λz=>k (.bool z)
 |_=>k v
theorem fI{P:Program}{t:TypeId}{v:AV}{k:AV→Prop}(h:lD P t v k):k v:=by
 unfold lD at h;split at h
 ·obtain⟨c,z,rfl,h⟩:=eH h;obtain⟨e,h⟩:=an h;rw[Nat.eq_of_beq_eq_true e];exact h
 ·unfold cH at h;split at h
  ·exact h
  ·exact h.elim
 ·exact h
noncomputable section
def UH(m:AV)(H:AH)(k:List dI→Prop):Prop:=(match m with
 |.pr=>λk=>k []
 |.map b=>λk=>H.t.ez b λo=>(match o with|.map es _=>k es|_=>False)
 |_=>λ_=>False:(List dI→Prop)→Prop) k
def Lc(m:AV)(H:AH)(k:Nat→List dI→Nat→Prop):Prop:=(match m with
 |.map b=>λk=>H.t.ez b λo=>(match o with|.map es cl=>k b es cl|_=>False)
 |_=>λ_=>False:(Nat→List dI→Nat→Prop)→Prop) k
def foundAt(P:Program)(kt:TypeId)(key:AV)(es:List dI)(k:Option Nat→Prop):Prop:=match oo P kt key es with|some r=>k r|none=>False
def al8(P:Program)(kt:TypeId)(ok:Bool)(z m key:AV)(H:AH)(k:AV→Prop):Prop:=UH m H λes=>foundAt P kt key es λr=>k (CF ok z es r)
def aiR(P:Program)(kt:TypeId)(m key v:AV)(H:AH)(k:AH→Prop):Prop:=Lc m H λb es cl=>foundAt P kt key es λr=>cP H b (.map (BC es cl key v r) (CH cl r)) k
def aiS(P:Program)(kt:TypeId)(m key:AV)(H:AH)(k:AH→Prop):Prop:=Lc m H λb es cl=>foundAt P kt key es λr=>cP H b (.map (K9 es r) cl) k
def am1(nw:Lay)(k:AV→AH→Prop):Prop:=nw (.map [] 0) λb H'=>k (.map b) H'
def QS(P:Program)(t:TypeId)(m key:AV)(ok:Bool)(H:AH)(k:AV→Prop):Prop:=match P.underlying t with
 |some (.map kt et)=>(match P.info? et with
  |some inf=>(match inf.zero with
   |some z=>bT (p8 P kt) (al8 P kt ok (fj z) m key H k)
   |none=>False)
  |none=>False)
 |_=>False
def QT(P:Program)(t:TypeId)(m key v:AV)(H:AH)(k:AH→Prop):Prop:=match P.underlying t with
 |some (.map kt _)=>bT (p8 P kt) (aiR P kt m key v H k)
 |_=>False
def aiT(P:Program)(t:TypeId)(m key:AV)(H:AH)(k:AH→Prop):Prop:=match P.underlying t with
 |some (.map kt _)=>bT (p8 P kt) (aiS P kt m key H k)
 |_=>False
def BD(P:Program)(b:Builtin)(ty:TypeId)(ts:Array TypeId)(args:List AV)(H:AH)(k:AV→AH→Prop):Prop:=
 match b,ts.toList,args with
 |.len,t::_,[a]=>HN P t a H λv=>lD P ty v λv=>k v H
 |.append,[t,u],[s,x]=>HL P t u s x H k
 |.copy,[t,_],[d,s]=>Af P t d s H λv H=>lD P ty v λv=>k v H
 |.max,_,a::l=>q8 Cz l a λv=>lD P ty v λv=>k v H
 |.min,_,a::l=>q8 CA l a λv=>lD P ty v λv=>k v H
 |.delete,t::_,[m,x]=>aiT P t m x H λH=>k bN H
 |.cap,t::_,[a]=>adW P t a λv=>lD P ty v λv=>k v H
 |.clear,[t],[a]=>Lb P t a H λH=>k bN H
 |_,_,_=>False
def fW(H:AH)(x:Prop):Prop:=@Bt.rec cF (λ_=>Prop→Prop) (λx=>x) (λ_ _ _ _ _ x=>x) H.t x
theorem HO(H:AH)(x:Prop):fW H x=x:=by
 unfold fW;cases H.t<;>rfl
def sD(P:Program)(o:Oper)(ρ:Operand→AV)(nw:Lay)(H:AH)(k:AV→AH→Prop):Prop:=
 match o.op with
 |.move x=>k (ρ x) H
 |.assign x=>k (ρ x) H
 |.pick c a b=>nx (ρ c) (lD P o.type (ρ a) λv=>k v H) (lD P o.type (ρ b) λv=>k v H)
 |.alloc e=>fW H (fl P nw e k)
 |.box _ x=>vd nw (ρ x) k
 |.build t ps=>(match P.underlying t with|some (.struct fs)=>bT (xj P fs) (yB P t (ps.toList.map λx=>(x.1,ρ x.2)) λv=>k v H)|_=>False)
 |.buildSlice t n ps=>vB P nw t n (ps.toList.map λx=>(x.1,ρ x.2)) k
 |.load t a=>oi P t (ρ a) H λv=>lD P o.type v λv=>k v H
 |.store t a x=>oM P t (ρ a) (ρ x) H λH'=>k bN H'
 |.nilCheck x=>aI (ρ x) (k (ρ x) H)
 |.binOp op t x y _=>sJ P op t x y (ρ x) (ρ y) H λv=>lD P o.type v λv=>k v H
 |.unOp op t x=>QI P op t (ρ x) λv=>lD P o.type v λv=>k v H
 |.convert s d x=>Cx P s d (ρ x) H λv H=>lD P o.type v λv=>k v H
 |.makeInterface t x=>Uz P t (ρ x) λv=>k v H
 |.makeFunc fn a b=>(match fn with|.func g=>k (.func g (a.toList.map ρ) (b.toList.map ρ)) H|_=>False)
 |.makeSlice t l c=>fW H (yG P nw t (ρ l) (ρ c) k)
 |.slice t x lo hi mx=>yD P t (ρ x) (lo.map ρ) (hi.map ρ) (mx.map ρ) λv=>k v H
 |.fieldAddr t x i=>KX P t (ρ x) i λv=>k v H
 |.field t x i=>yC P t (ρ x) i λv=>lD P o.type v λv=>k v H
 |.indexAddr t x i=>td P t (ρ x) (ρ i) λv=>k v H
 |.index t x i=>te P t (ρ x) (ρ i) λv=>lD P o.type v λv=>k v H
 |.extract x i=>KY (ρ x) i λv=>lD P o.type v λv=>k v H
 |.range t x=>Cy P t (ρ x) H k
 |.next it s=>bT s (Sd (ρ it) H k)
 |.typeAssert x _ u ok=>HM P u ok (ρ x) λv=>lD P o.type v λv=>k v H
 |.makeMap _ r=>(match r with|none=>am1 nw k|some _=>False)
 |.lookup t m key ok=>QS P t (ρ m) (ρ key) ok H λv=>lD P o.type v λv=>k v H
 |.mapUpdate t m key x=>QT P t (ρ m) (ρ key) (ρ x) H λH'=>k bN H'
 |.call c=>(match c.callee with|.builtin b=>BD P b o.type c.argTypes (c.args.toList.map ρ) H k|_=>False)
 |_=>False
end
def iW(o:Oper):Bool:=
 match o.op with
 |.alloc _=>true
 |.box ..=>true
 |.buildSlice ..=>true
 |.makeSlice ..=>true
 |.makeMap ..=>true
 |_=>false
def turns(o:Oper):Bool:=
 match o.op with
 |.store ..=>true
 |.range ..=>true
 |.next ..=>true
 |.mapUpdate ..=>true
 |.panic _=>true
 |.defer _=>true
 |.go _=>true
 |.call c=>(match c.callee with|.builtin .append=>true|.builtin .copy=>true|.builtin .delete=>true|.builtin .clear=>true|.builtin _=>false|_=>true)
 |_=>false
section
variable {P:Program}
def Did(P:Program)(o:Oper)(a:Act)(w:World)(u:Value)(w':World):Prop:=
 (execOp a.eval o).run P w=.ok (.value u) w'∨((execOp a.eval o).run P w=.ok .skip w'∧u=undef)
def Stand(f:az)(o:Oper)(ρ:Operand→AV)(a:Act):Prop:=∀x∈o.op.operands,VR f (ρ x) (a.eval x)
theorem bW{o:Oper}{a:Act}{w:World}{s:Sem Value}(he:execOp a.eval o=(do pure (.value (←s)))){u:Value}{w':World}(hs:s.run P w=.ok u w'):Did P o a w u w':=by
 left;rw[he];simp[hs]
theorem VR.undef(f:az):VR f bN undef:=.bF [] [] .nil
theorem Ld{a:AV}{k:Prop}(h:aI a k):k∧((∃b o,a=.ptr b o)∨(∃g x y,a=.func g x y)∨(∃t v,a=.iface t v)):=by
 cases a<;>first|exact h.elim|exact⟨h,by simp⟩
inductive Le(P:Program)(o:Oper)(ρ:Operand→AV)(nw:Lay)(H:AH)(k:AV→AH→Prop):Prop where
 |same (v:AV) (h:k v H) (g:∀f w a,HRQ f H.sem w→Stand f o ρ a→∃u,Did P o a w u w∧VR f v u)
 |new (ob:cF) (vf:Nat→AV) (hl:iW o=true) (h:nw ob λb H'=>k (vf b) H') (ho:ob.sem.own=true) (g:∀f w a,Stand f o ρ a→∃u obj,Did P o a w u (w.alloc obj)∧mA f w ob vf u obj)
 |turn (v:AV) (H':AH) (h:k v H') (ht:turns o=true) (g:∀f w a,HR f H w→Stand f o ρ a→∃u w' f',Did P o a w u w'∧Step f H w f' H' w'∧VR f' v u)
theorem HP{f:az}{ρ:Operand→AV}{a:Act}{x:Option Operand}(h:∀y,x=some y→VR f (ρ y) (a.eval y)):BR f (x.map ρ) (x.map a.eval):=by
 cases x with
 |none=>exact .none
 |some y=>exact .some _ _ (h y rfl)
theorem VL.iX{f:az}{ρ:Operand→AV}{a:Act}{l:List Operand}(h:∀x∈l,VR f (ρ x) (a.eval x)):VL f (l.map ρ) (l.map a.eval):=VL.map h
theorem Sg{m:AV}{H:AH}{k:List dI→Prop}(h:UH m H k):∃es,MapAt H m es∧k es:=by
 cases m<;>try exact h.elim
 ·exact⟨[],.inl ⟨rfl,rfl⟩,h⟩
 ·rename_i b;obtain⟨o,ho,h⟩:=Bt.cQ _ _ _ h;cases o<;>try exact h.elim
  rename_i es cl;exact⟨es,.inr ⟨b,cl,rfl,AH.ri ho⟩,h⟩
theorem CK{m:AV}{H:AH}{k:Nat→List dI→Nat→Prop}(h:Lc m H k):∃b es cl,m=.map b∧H.at b=.map es cl∧k b es cl:=by
 cases m<;>try exact h.elim
 rename_i b;obtain⟨o,ho,h⟩:=Bt.cQ _ _ _ h;cases o<;>try exact h.elim
 rename_i es cl;exact⟨b,es,cl,rfl,AH.ri ho,h⟩
theorem vh{P:Program}{kt:TypeId}{key:AV}{es:List dI}{k:Option Nat→Prop}(h:foundAt P kt key es k):∃r,oo P kt key es=some r∧k r:=by
 unfold foundAt at h;split at h
 ·exact⟨_,by assumption,h⟩
 ·exact h.elim
theorem adX{P:Program}{kt:TypeId}{m key v:AV}{H:AH}{k:AH→Prop}(h:aiR P kt m key v H k):∃b es cl r H',m=.map b∧H.at b=.map es cl∧oo P kt key es=some r∧H'.n=H.n∧H'.at b=.map (BC es cl key v r) (CH cl r)∧(∀c,c≠b→H'.at c=H.at c)∧k H':=by
 obtain⟨b,es,cl,rfl,hb,h⟩:=CK h;obtain⟨r,hf,h⟩:=vh h;obtain⟨H',h,g1,g2,g3⟩:=gz h;exact⟨b,es,cl,r,H',rfl,hb,hf,g1,g2,g3,h⟩
theorem adY{P:Program}{kt:TypeId}{m key:AV}{H:AH}{k:AH→Prop}(h:aiS P kt m key H k):∃b es cl r H',m=.map b∧H.at b=.map es cl∧oo P kt key es=some r∧H'.n=H.n∧H'.at b=.map (K9 es r) cl∧(∀c,c≠b→H'.at c=H.at c)∧k H':=by
 obtain⟨b,es,cl,rfl,hb,h⟩:=CK h;obtain⟨r,hf,h⟩:=vh h;obtain⟨H',h,g1,g2,g3⟩:=gz h;exact⟨b,es,cl,r,H',rfl,hb,hf,g1,g2,g3,h⟩
theorem Qc{o:Oper}{c:Call}{b:Builtin}{ρ:Operand→AV}{nw:Lay}{H:AH}{k:AV→AH→Prop}(ho:o.op=.call c)(hb:c.callee=.builtin b)(h:BD P b o.type c.argTypes (c.args.toList.map ρ) H k):Le P o ρ nw H k:=by
 have hops:∀{f:az}{a:Act},Stand f o ρ a→VL f (c.args.toList.map ρ) (c.args.toList.map a.eval):=λ{f a} hs=>
  VL.iX λx hx=>hs x (by rw[ho];simp[Op.operands,Call.operands,hb];simpa using hx)
 have nc:∀a:Act,execOp a.eval o=builtin b c.argTypes o.type (c.args.map fun|.const _=>true|_=>false) (c.args.map a.eval):=λa=>by
  simp[execOp,ho,resolve,hb,invoke];rfl
 unfold BD at h;split at h
 ·rename_i t ts0 x hts hx;obtain⟨v,h1,h2⟩:=QN (P:=P) (t:=t) (u:=t) (ty:=o.type) (ts:=c.argTypes) (by rw[←Array.getElem?_toList,hts];rfl) h;refine .same v (fI h1) λf w a hr hs=>?_;have hv:=hops hs;rw[hx]at hv;generalize hgs:c.args.toList.map a.eval=us at hv;cases hv with
  |cons _ u _ us hu hl=>
   cases hl;obtain⟨r,g1,g2⟩:=h2 f w u hr hu;refine⟨r,bW (s:=Builtin.len_ c.argTypes o.type #[u]) ?_ g1,g2⟩;rw[nc];have:c.args.map a.eval = #[u]:=by
    apply Array.ext';rw[Array.toList_map,hgs]
   rw[this];rfl
 ·rename_i t u0 s x hts hx;obtain⟨v,H',h1,h2⟩:=QK (P:=P) (ty:=o.type) h;refine .turn v H' h1 (by simp only[turns,ho,hb]) λf w a hr hs=>?_;have hv:=hops hs;rw[hx]at hv;generalize hgs:c.args.toList.map a.eval=us at hv;cases hv with
  |cons _ u _ us hu hl=>
   cases hl with
   |cons _ u2 _ us hu2 hl=>
    cases hl;obtain⟨r,w',f',g1,g2,g3⟩:=h2 f w u u2 hr hu hu2;refine⟨r,w',f',bW (s:=Builtin.append_ #[t,u0] o.type #[u,u2]) ?_ g1,g2,g3⟩;rw[nc];have e1:c.args.map a.eval = #[u,u2]:=by
     apply Array.ext';rw[Array.toList_map,hgs]
    have e2:c.argTypes = #[t,u0]:=by
     apply Array.ext';rw[hts]
    rw[e1,e2];rfl
 ·rename_i t u0 s x hts hx;obtain⟨v,H',h1,h2⟩:=K4 (P:=P) (u:=u0) (ty:=o.type) h;refine .turn v H' (fI (P:=P) (t:=o.type) (k:=λv=>k v H') h1) (by simp only[turns,ho,hb]) λf w a hr hs=>?_;have hv:=hops hs;rw[hx]at hv;generalize hgs:c.args.toList.map a.eval=us at hv;cases hv with
  |cons _ u _ us hu hl=>
   cases hl with
   |cons _ u2 _ us hu2 hl=>
    cases hl;obtain⟨r,w',f',g1,g2,g3⟩:=h2 f w u u2 hr hu hu2;refine⟨r,w',f',bW (s:=Builtin.copy_ #[t,u0] o.type #[u,u2]) ?_ g1,g2,g3⟩;rw[nc];have e1:c.args.map a.eval = #[u,u2]:=by
     apply Array.ext';rw[Array.toList_map,hgs]
    have e2:c.argTypes = #[t,u0]:=by
     apply Array.ext';rw[hts]
    rw[e1,e2];rfl
 ·rename_i x l hx;obtain⟨v,h1,h2⟩:=th (P:=P) (λa b k=>QL) l x _ h;refine .same v (fI h1) λf w a hr hs=>?_;have hv:=hops hs;rw[hx]at hv;generalize hgs:c.args.toList.map a.eval=us at hv;cases hv with
  |cons _ u _ us hu hl=>
   obtain⟨r,g1,g2⟩:=h2 f u us hu hl;refine⟨r,bW (s:=us.foldlM Builtin.max2 u) ?_ (g1 w),g2⟩;rw[nc];have:(c.args.map a.eval).toList=u::us:=by rw[Array.toList_map,hgs]
   simp only[builtin,Builtin.max_,this]
 ·rename_i x l hx;obtain⟨v,h1,h2⟩:=th (P:=P) (λa b k=>QM) l x _ h;refine .same v (fI h1) λf w a hr hs=>?_;have hv:=hops hs;rw[hx]at hv;generalize hgs:c.args.toList.map a.eval=us at hv;cases hv with
  |cons _ u _ us hu hl=>
   obtain⟨r,g1,g2⟩:=h2 f u us hu hl;refine⟨r,bW (s:=us.foldlM Builtin.min2 u) ?_ (g1 w),g2⟩;rw[nc];have:(c.args.map a.eval).toList=u::us:=by rw[Array.toList_map,hgs]
   simp only[builtin,Builtin.min_,this]
 ·rename_i t ts0 x y hts hx;unfold aiT at h;split at h
  ·rename_i kt et hu;obtain⟨hl,h⟩:=an h;obtain⟨b',es,cl,r,H',em,hm,hf,hn,hnew,hold,h⟩:=adY h;refine .turn bN H' h (by simp only[turns,ho,hb]) λf w a hr hs=>?_;have hv:=hops hs;rw[hx]at hv;generalize hgs:c.args.toList.map a.eval=us at hv;cases hv with
   |cons _ u _ us hu1 hl1=>
    cases hl1 with
    |cons _ u2 _ us hu2 hl1=>
     cases hl1;obtain⟨w',g1,g2⟩:=CI (ts:=c.argTypes) (ty:=o.type) (by rw[←Array.getElem?_toList,hts];rfl) hu hl hm hf hn hnew hold hr (em ▸ hu1) hu2;refine⟨_,w',f,bW (s:=Builtin.delete_ c.argTypes o.type #[u,u2]) ?_ g1,g2,VR.undef f⟩;rw[nc];have e1:c.args.map a.eval = #[u,u2]:=by
      apply Array.ext';rw[Array.toList_map,hgs]
     rw[e1];rfl
  ·exact h.elim
 ·rename_i t ts0 x hts hx;obtain⟨v,h1,h2⟩:=agW (P:=P) (t:=t) (ty:=o.type) (ts:=c.argTypes) (by rw[←Array.getElem?_toList,hts];rfl) h;refine .same v (fI h1) λf w a hr hs=>?_;have hv:=hops hs;rw[hx]at hv;generalize hgs:c.args.toList.map a.eval=us at hv;cases hv with
  |cons _ u _ us hu hl=>
   cases hl;obtain⟨r,g1,g2⟩:=h2 f w u hu;refine⟨r,bW (s:=Builtin.cap_ c.argTypes o.type #[u]) ?_ g1,g2⟩;rw[nc];have:c.args.map a.eval = #[u]:=by
    apply Array.ext';rw[Array.toList_map,hgs]
   rw[this];rfl
 ·rename_i t x hts hx;obtain⟨H',h1,h2⟩:=UG (P:=P) (ty:=o.type) h;refine .turn _ H' h1 (by simp only[turns,ho,hb]) λf w a hr hs=>?_;have hv:=hops hs;rw[hx]at hv;generalize hgs:c.args.toList.map a.eval=us at hv;cases hv with
  |cons _ u _ us hu hl=>
   cases hl;obtain⟨w',g1,g2⟩:=h2 f w u hr hu;refine⟨_,w',f,bW (s:=Builtin.clear_ #[t] o.type #[u]) ?_ g1,g2,VR.undef f⟩;rw[nc];have e1:c.args.map a.eval = #[u]:=by
    apply Array.ext';rw[Array.toList_map,hgs]
   have e2:c.argTypes = #[t]:=by
    apply Array.ext';rw[hts]
   rw[e1,e2];rfl
 ·exact h.elim
theorem Lf{o:Oper}{ρ:Operand→AV}{nw:Lay}{H:AH}{k:AV→AH→Prop}(h:sD P o ρ nw H k):Le P o ρ nw H k:=by
 unfold sD at h;split at h
 ·rename_i x ho;exact .same _ h λf w a hr hs=>⟨_,.inl (by simp[execOp,ho]),hs x (by simp[ho,Op.operands])⟩
 ·rename_i x ho;exact .same _ h λf w a hr hs=>⟨_,.inl (by simp[execOp,ho]),hs x (by simp[ho,Op.operands])⟩
 ·rename_i c x y ho;rcases p6 h with⟨e,h⟩|⟨e,h⟩
  ·refine .same _ (fI h) λf w a hr hs=>⟨_,.inl ?_,hs x (by simp[ho,Op.operands])⟩
   have:=hs c (by simp[ho,Op.operands]);rw[e]at this;simp[execOp,ho,this.mc,asBool]
  ·refine .same _ (fI h) λf w a hr hs=>⟨_,.inl ?_,hs y (by simp[ho,Op.operands])⟩
   have:=hs c (by simp[ho,Op.operands]);rw[e]at this;simp[execOp,ho,this.mc,asBool]
 ·rename_i e ho;rw[HO]at h;obtain⟨ob,vf,h1,h2,h3⟩:=yF h;refine .new ob vf (by simp[iW,ho]) h1 h2 λf w a hs=>?_;obtain⟨r,obj,g1,g2⟩:=h3 f w;exact⟨r,obj,bW (by simp only[execOp,ho]) g1,g2⟩
 ·rename_i e x ho;obtain⟨ob,vf,h1,h2,h3⟩:=HJ (P:=P) (t:=e) h;refine .new ob vf (by simp[iW,ho]) h1 h2 λf w a hs=>?_;obtain⟨r,obj,g1,g2⟩:=h3 f w _ (hs x (by simp[ho,Op.operands]));exact⟨r,obj,bW (by simp only[execOp,ho]) g1,g2⟩
 ·rename_i t ps ho;split at h
  ·rename_i fs ht;obtain⟨h0,h⟩:=an h;obtain⟨v,h1,h2⟩:=I3 ht h0 h;refine .same v h1 λf w a hr hs=>?_;obtain⟨r,g1,g2⟩:=h2 f a.eval (λx hx=>hs x.2 (by simp only[ho,Op.operands];simp;exact⟨x.1,by simpa using hx⟩));refine⟨r,bW ?_ (g1 w),g2⟩;simp only[execOp,ho];congr 2;apply Array.ext';simp
  ·exact h.elim
 ·rename_i t n ps ho;obtain⟨ob,vf,h1,h2,h3⟩:=xk h;refine .new ob vf (by simp[iW,ho]) h1 h2 λf w a hs=>?_;obtain⟨r,obj,g1,g2⟩:=h3 f w a.eval (λx hx=>hs x.2 (by simp only[ho,Op.operands];simp;exact⟨x.1,by simpa using hx⟩));refine⟨r,obj,bW ?_ g1,g2⟩;simp only[execOp,ho];congr 2;apply Array.ext';simp
 ·rename_i t x ho;obtain⟨v,h1,h2⟩:=By h;refine .same v (fI h1) λf w a hr hs=>?_;obtain⟨r,g1,g2⟩:=h2 f w _ hr (hs x (by simp[ho,Op.operands]));exact⟨r,bW (by simp only[execOp,ho]) g1,g2⟩
 ·rename_i t x y ho;obtain⟨H',h1,_,h2⟩:=yE h;refine .turn _ H' h1 (by simp[turns,ho]) λf w a hr hs=>?_;obtain⟨w',g1,g2⟩:=h2 f w _ _ hr (hs x (by simp[ho,Op.operands])) (hs y (by simp[ho,Op.operands]));exact⟨undef,w',f,.inr ⟨by simp[execOp,ho,g1],rfl⟩,g2,VR.undef f⟩
 ·rename_i x ho;obtain⟨h1,h2⟩:=Ld h;refine .same _ h1 λf w a hr hs=>?_;have hx:=hs x (by simp[ho,Op.operands]);refine⟨_,.inl ?_,hx⟩;generalize hz:a.eval x=z at hx;rcases h2 with⟨b,o',e⟩|⟨g,p,q,e⟩|⟨t,v,e⟩<;>rw[e]at hx
  ·rw[hx.eO.1]at hz ⊢;simp only[execOp,ho,hz];rfl
  ·cases hx;simp only[execOp,ho,hz];rfl
  ·cases hx;simp only[execOp,ho,hz];rfl
 ·rename_i op t x y ty ho;obtain⟨v,h1,h2⟩:=La h;refine .same v (fI h1) λf w a hr hs=>?_;obtain⟨r,g1,g2⟩:=h2 f w _ _ hr (hs x (by simp[ho,Op.operands])) (hs y (by simp[ho,Op.operands])) (λv e=>by rw[e];rfl) (λv e=>by rw[e];rfl);exact⟨r,bW (by simp only[execOp,ho]) g1,g2⟩
 ·rename_i op t x ho;obtain⟨v,h1,h2⟩:=UD h;refine .same v (fI h1) λf w a hr hs=>?_;obtain⟨r,g1,g2⟩:=h2 f _ (hs x (by simp[ho,Op.operands]));exact⟨r,bW (by simp only[execOp,ho]) (g1 w),g2⟩
 ·rename_i s d x ho;obtain⟨v,h1,h2⟩:=K6 h;refine .same v (fI h1) λf w a hr hs=>?_;obtain⟨r,g1,g2⟩:=h2 f w _ hr (hs x (by simp[ho,Op.operands]));exact⟨r,bW (by simp only[execOp,ho]) g1,g2⟩
 ·rename_i t x ho;obtain⟨v,h1,h2⟩:=I5 h;refine .same v h1 λf w a hr hs=>?_;obtain⟨r,g1,g2⟩:=h2 f _ (hs x (by simp[ho,Op.operands]));exact⟨r,bW (by simp only[execOp,ho]) (g1 w),g2⟩
 ·rename_i fn x y ho;split at h
  ·rename_i g;refine .same _ h λf w a hr hs=>?_;have h1:VL f (x.toList.map ρ) (x.toList.map a.eval):=VL.iX λz hz=>hs z (by simp[ho,Op.operands];left;simpa using hz);have h2:VL f (y.toList.map ρ) (y.toList.map a.eval):=VL.iX λz hz=>hs z (by simp[ho,Op.operands];right;simpa using hz);refine⟨.func (.func g) (x.map a.eval) (y.map a.eval),bW (s:=Instr.makeFunc (.func g) (x.map a.eval) (y.map a.eval)) (by simp only[execOp,ho]) rfl,?_⟩;have e1:x.map a.eval=(x.toList.map a.eval).toArray:=by apply Array.ext';simp
   have e2:y.map a.eval=(y.toList.map a.eval).toArray:=by apply Array.ext';simp
   rw[e1,e2];exact .func g _ _ _ _ h1 h2
  ·exact h.elim
 ·rename_i t x y ho;rw[HO]at h;obtain⟨ob,vf,h1,h2,h3⟩:=yJ h;refine .new ob vf (by simp[iW,ho]) h1 h2 λf w a hs=>?_;obtain⟨r,obj,g1,g2⟩:=h3 f w _ _ (hs x (by simp[ho,Op.operands])) (hs y (by simp[ho,Op.operands]));exact⟨r,obj,bW (by simp only[execOp,ho]) g1,g2⟩
 ·rename_i t x lo hi mx ho;obtain⟨v,h1,h2⟩:=I0 h;refine .same v h1 λf w a hr hs=>?_;obtain⟨r,g1,g2⟩:=h2 f _ _ _ _ (hs x (by simp[ho,Op.operands])) (HP (a:=a) λy e=>hs y (by subst e;simp[ho,Op.operands])) (HP (a:=a) λy e=>hs y (by subst e;simp[ho,Op.operands])) (HP (a:=a) λy e=>hs y (by subst e;simp[ho,Op.operands]));exact⟨r,bW (by simp only[execOp,ho]) (g1 w),g2⟩
 ·rename_i t x i ho;obtain⟨v,h1,h2⟩:=QF h;refine .same v h1 λf w a hr hs=>?_;obtain⟨r,g1,g2⟩:=h2 f _ (hs x (by simp[ho,Op.operands]));exact⟨r,bW (by simp only[execOp,ho]) (g1 w),g2⟩
 ·rename_i t x i ho;obtain⟨v,h1,h2⟩:=IY h;refine .same v (fI h1) λf w a hr hs=>?_;obtain⟨r,g1,g2⟩:=h2 f _ (hs x (by simp[ho,Op.operands]));exact⟨r,bW (by simp only[execOp,ho]) (g1 w),g2⟩
 ·rename_i t x i ho;obtain⟨v,h1,h2⟩:=Bb h;refine .same v h1 λf w a hr hs=>?_;obtain⟨r,g1,g2⟩:=h2 f _ _ (hs x (by simp[ho,Op.operands])) (hs i (by simp[ho,Op.operands]));exact⟨r,bW (by simp only[execOp,ho]) (g1 w),g2⟩
 ·rename_i t x i ho;obtain⟨v,h1,h2⟩:=IZ h;refine .same v (fI h1) λf w a hr hs=>?_;obtain⟨r,g1,g2⟩:=h2 f _ _ (hs x (by simp[ho,Op.operands])) (hs i (by simp[ho,Op.operands]));exact⟨r,bW (by simp only[execOp,ho]) (g1 w),g2⟩
 ·rename_i x i ho;obtain⟨v,h1,h2⟩:=Ba (P:=P) h;refine .same v (fI h1) λf w a hr hs=>?_;obtain⟨r,g1,g2⟩:=h2 f _ (hs x (by simp[ho,Op.operands]));exact⟨r,bW (by simp only[execOp,ho]) (g1 w),g2⟩
 ·rename_i t x ho;obtain⟨v,H',h1,h2⟩:=I6 h;refine .turn v H' h1 (by simp[turns,ho]) λf w a hr hs=>?_;obtain⟨r,w',f',g1,g2,g3⟩:=h2 f w _ hr (hs x (by simp[ho,Op.operands]));exact⟨r,w',f',bW (by simp only[execOp,ho]) g1,g2,g3⟩
 ·rename_i x s ho;obtain⟨hs0,h⟩:=an h;obtain⟨v,H',h1,h2⟩:=K7 (P:=P) (ty:=o.type) h;refine .turn v H' h1 (by simp[turns,ho]) λf w a hr hs=>?_;obtain⟨r,w',f',g1,g2,g3⟩:=h2 f w _ hr (hs x (by simp[ho,Op.operands]));exact⟨r,w',f',bW (by simp only[execOp,ho,hs0]) g1,g2,g3⟩
 ·rename_i x t u ok ho;obtain⟨v,h1,h2⟩:=CB (t:=t) h;refine .same v (fI h1) λf w a hr hs=>?_;obtain⟨r,g1,g2⟩:=h2 f _ (hs x (by simp[ho,Op.operands]));exact⟨r,bW (by simp only[execOp,ho]) (g1 w),g2⟩
 ·rename_i t r ho;split at h
  ·obtain h:nw (.map [] 0) λb H'=>k (.map b) H':=h;refine .new (.map [] 0) (λb=>.map b) (by simp[iW,ho]) h rfl λf w a hs=>?_;exact⟨_,_,bW (by simp only[execOp,ho];rfl) (vg w),allocMap f w⟩
  ·exact h.elim
 ·rename_i t m key ok ho;unfold QS at h;split at h
  ·rename_i kt et hu;split at h
   ·rename_i inf hi;split at h
    ·rename_i z hz;obtain⟨hl,h⟩:=an h;obtain⟨es,hm,h⟩:=Sg h;obtain⟨r,hf,h⟩:=vh h;refine .same _ (fI h) λf w a hr hs=>?_;obtain⟨v,g1,g2⟩:=CG hu hi hz hl hm hf ok hr (hs m (by simp[ho,Op.operands])) (hs key (by simp[ho,Op.operands]));exact⟨v,bW (by simp only[execOp,ho]) g1,g2⟩
    ·exact h.elim
   ·exact h.elim
  ·exact h.elim
 ·rename_i t m key x ho;unfold QT at h;split at h
  ·rename_i kt et hu;obtain⟨hl,h⟩:=an h;obtain⟨b,es,cl,r,H',em,hb,hf,hn,hnew,hold,h⟩:=adX h;refine .turn _ H' h (by simp[turns,ho]) λf w a hr hs=>?_;obtain⟨w',g1,g2⟩:=yi hu hl hb hf hn hnew hold hr (em ▸ hs m (by simp[ho,Op.operands])) (hs key (by simp[ho,Op.operands])) (hs x (by simp[ho,Op.operands]));exact⟨undef,w',f,.inr ⟨by simp[execOp,ho,g1],rfl⟩,g2,VR.undef f⟩
  ·exact h.elim
 ·rename_i c ho;split at h
  ·rename_i b hb;exact Qc ho hb h
  ·exact h.elim
 ·exact h.elim
end
noncomputable section
def yL(n x m y:Nat):Int:=match uj n x m y with|true=>.negSucc 0|false=>(match Nat.beq n m&&Nat.beq x y with|true=>.ofNat 0|false=>.ofNat 1)
def am2(a b:AV)(k:AV→Prop):Prop:=fY a λn x=>fY b λm y=>k (.int 0 (yL n x m y))
def Sh(P:Program)(g:Nat):Bool:=match P.funcs[g]? with|some fn=>fn.body.isNone&&(fn.name == "internal/bytealg.abigen_runtime_cmpstring" && fn.origin == "")|none=>false
def noRow(n:String):Bool:=(Extern.allGenericRows.lookup n).isNone&&((Extern.allTypedRows.lookup n).isNone&&((Extern.allRows.lookup n).isNone&&(Extern.allNextRows.lookup n).isNone))
def adZ(P:Program)(g:Nat):Bool:=match P.funcs[g]? with
 |some fn=>fn.body.isNone&&(fn.origin == "slices.overlaps" && (noRow fn.name&&(!(fn.name == "runtime.NumGoroutine")&&(match fn.params[0]? with|some t=>(match P.underlying t with|some (.slice e)=>(P.info? e).isSome|_=>false)|none=>false))))
 |none=>false
def ad0(P:Program)(g:Nat)(args:List AV)(H:AH)(k:AV→Prop):Prop:=match Sh P g with
 |true=>(match args with|[a,b]=>am2 a b k|_=>False)
 |false=>bT (adZ P g) (match args with|[a,b]=>J3 a b H k|_=>False)
def Si(P:Program)(f:Operand):Option Nat:=match f with|.func g=>(match Sh P g||adZ P g with|true=>some g|false=>none)|_=>none
end
theorem UI{P:Program}{f:Operand}{g:Nat}(h:Si P f=some g):f=.func g:=by
 unfold Si at h;split at h
 ·split at h
  ·cases h;rfl
  ·cases h
 ·cases h
theorem QV:∀(n x m y:Nat),x<256^n→y<256^m→yL n x m y=Lib.compareBytes (jb n x) (jb m y)
 |0,x,0,y,hx,hy=>by
  have:x=0:=by simp at hx;exact hx
  have:y=0:=by simp at hy;exact hy
  subst x;subst y;rfl
 |0,x,m+1,y,hx,hy=>by simp[yL,uj,jb,Lib.compareBytes]
 |n+1,x,0,y,hx,hy=>by
  have e:Nat.beq (n+1) 0=false:=rfl;simp[yL,uj,jb,Lib.compareBytes,e]
 |n+1,x,m+1,y,hx,hy=>by
  have h1:=Nat.mod_lt x (show 256>0 by omega);have h2:=Nat.mod_lt y (show 256>0 by omega);have ih:=QV n (x/256) m (y/256) (by rw[Nat.pow_succ]at hx;omega) (by rw[Nat.pow_succ]at hy;omega);have hlt:∀a b:Nat,a<256→b<256→(UInt8.ofNat a<UInt8.ofNat b↔a<b):=λa b ha hb=>by
   simp[UInt8.lt_iff_toNat_lt];omega
  simp only[jb,Lib.compareBytes];have hs:uj (n+1) x (m+1) y=(Nat.ble (Nat.succ (x%256)) (y%256)||(Nat.beq (x%256) (y%256)&&uj n (x/256) m (y/256))):=rfl;rcases Nat.lt_trichotomy (x%256) (y%256)with h|h|h
  ·rw[if_pos ((hlt _ _ h1 h2).2 h)];unfold yL;rw[hs,Nat.ble_eq_true_of_le h];rfl
  ·rw[if_neg (by rw[hlt _ _ h1 h2];omega),if_neg (by rw[hlt _ _ h2 h1];omega),←ih];unfold yL;have e1:Nat.ble (Nat.succ (x%256)) (y%256)=false:=by
    cases e:Nat.ble (Nat.succ (x%256)) (y%256)with
    |false=>rfl
    |true=>have:=Nat.le_of_ble_eq_true e;omega
   have e3:(Nat.beq (n+1) (m+1)&&Nat.beq x y)=(Nat.beq n m&&Nat.beq (x/256) (y/256)):=by
    rw[Bool.eq_iff_iff];simp only[Bool.and_eq_true];have hb:∀a b:Nat,Nat.beq a b=true↔a=b:=λa b=>⟨Nat.eq_of_beq_eq_true,λh=>by subst h;exact Nat.beq_refl a⟩
    rw[hb,hb,hb,hb];omega
   rw[hs,e1,h,Nat.beq_refl,e3];rfl
  ·rw[if_neg (by rw[hlt _ _ h1 h2];omega),if_pos ((hlt _ _ h2 h1).2 h)];unfold yL;have e1:Nat.ble (Nat.succ (x%256)) (y%256)=false:=by
    cases e:Nat.ble (Nat.succ (x%256)) (y%256)with
    |false=>rfl
    |true=>have:=Nat.le_of_ble_eq_true e;omega
   have e2:Nat.beq (x%256) (y%256)=false:=by
    cases e:Nat.beq (x%256) (y%256)with
    |false=>rfl
    |true=>have:=Nat.eq_of_beq_eq_true e;omega
   have e3:Nat.beq x y=false:=by
    cases e:Nat.beq x y with
    |false=>rfl
    |true=>have:=Nat.eq_of_beq_eq_true e;omega
   rw[hs,e1,e2,e3,Bool.and_false];rfl
theorem agX(fn:Func)(h:fn.name = "internal/bytealg.abigen_runtime_cmpstring"):Extern.find fn=some Extern.BytealgCompare.compare:=by
 unfold Extern.find;rw[h]
 kernel_rfl
theorem Qd(fn:Func)(h:fn.name = "internal/bytealg.abigen_runtime_cmpstring") (h2:fn.origin = ""):Extern.findNext fn=none:=by
 unfold Extern.findNext;rw[h,h2]
 kernel_rfl
theorem ad1{P:Program}{g:Nat}(h:Sh P g=true)(args:Array Value)(w:World):(callFunc g args).run P w=((Extern.BytealgCompare.compare args).run P w).andThen λv w'=>.ok (.value v) w':=by
 unfold Sh at h;split at h
 ·rename_i fn hf;rw[Bool.and_eq_true,Bool.and_eq_true]at h;have h1:fn.name = "internal/bytealg.abigen_runtime_cmpstring" := by simpa using h.2.1
  have h2:fn.origin = "" := by simpa using h.2.2
  refine run_callFunc_extern hf ?_ h.1 (Qd fn h1 h2) (agX fn h1) args w;rw[h1];decide
 ·cases h
theorem agY(fn:Func)(h:fn.origin = "slices.overlaps") (hn:noRow fn.name=true):Extern.find fn=some (Extern.SlicesOverlaps.overlaps fn.params fn.resultTypes):=by
 unfold noRow at hn;simp only[Bool.and_eq_true,Option.isNone_iff_eq_none]at hn;obtain⟨h1,h2,h3,_⟩:=hn;have g1:Extern.allGenericRows.lookup "slices.overlaps" = none:=by kernel_rfl
 have g2:Extern.allTypedRows.lookup "slices.overlaps" = some Extern.SlicesOverlaps.overlaps:=by kernel_rfl
 unfold Extern.find;rw[h];simp only[h1,h2,h3,g1,g2];rfl
theorem Qe(fn:Func)(h:fn.origin = "slices.overlaps") (hn:noRow fn.name=true):Extern.findNext fn=none:=by
 unfold noRow at hn;simp only[Bool.and_eq_true,Option.isNone_iff_eq_none]at hn;obtain⟨_,_,_,h4⟩:=hn;have g1:Extern.allNextRows.lookup "slices.overlaps" = none:=by kernel_rfl
 unfold Extern.findNext;rw[h];simp only[h4,g1];rfl
theorem Be{w:World}{b x:Nat}{cur:Array Value}{e:TypeId}(h:w.heap[b]? = some (.cells cur e (0,0))):w.frozen? ⟨b,x,none⟩=false:=by
 unfold World.frozen?;rw[h];simp
theorem q9(ps rs:Array TypeId)(p q:Option Addr)(la ca lb cb:Nat):Extern.SlicesOverlaps.overlaps ps rs #[.slice p la ca,.slice q lb cb]=(do
  let some t:=ps[0]?|stuck "slices.overlaps: no parameter types"
  let .slice elem ←underlying t|stuck "slices.overlaps: slice type expected"
  let size ←sizeOf elem
  match p,q with
  |some a,some b=>
   if la=0∨lb=0∨size=0 then pure (Value.bool false)
   else if a.block != b.block&&(←frozen a)&&(←frozen b) then unsupported .addressObserved
   else do
    if a.block != b.block then do
     noView a;noView b
     if ←mayBeOne a b then return Value.bool ((←choose (.extern "sameAddr.stringBytes" 2)) == 1)
    pure (Value.bool (a.block == b.block&&a.off<b.off+lb*size&&b.off<a.off+la*size))
  |_,_=>pure (Value.bool false)):=rfl
theorem CL{ps rs rs':Array TypeId}{t:TypeId}(h:ps[0]? = some t)(p q:Option Addr)(la ca lb cb:Nat):Extern.SlicesOverlaps.overlaps ps rs #[.slice p la ca,.slice q lb cb]=Extern.SlicesOverlaps.overlaps #[t,t] rs' #[.slice p la ca,.slice q lb cb]:=by
 rw[q9,q9,h];rfl
theorem UJ{P:Program}{f:az}{H:AH}{w:World}{tS e:TypeId}{i:TypeInfo}(ht:P.underlying tS=some (.slice e))(hi:P.info? e=some i){ps rs:Array TypeId}(hps:ps[0]? = some tS){a b:AV}{u v:Value}{k:AV→Prop}(hr:HRQ f H.sem w)(ha:VR f a u)(hb:VR f b v)(h:J3 a b H k) :
  (Extern.SlicesOverlaps.overlaps ps rs #[u,v]).run P w=.ok (.bool false) w:=by
 have hz:∀w,(sizeOf e).run P w=.ok i.size w:=λw=>by simp[sizeOf,typeInfo,hi]
 have QW:∀(p q:Option Addr) (la ca lb cb:Nat),p=none∨q=none→(Extern.SlicesOverlaps.overlaps ps rs #[.slice p la ca,.slice q lb cb]).run P w=.ok (.bool false) w:=λp q la ca lb cb h=>by
  rcases h with rfl|rfl
  ·rw[q9,hps];simp[run_underlying ht,hz]
  ·rw[q9,hps];cases p<;>simp[run_underlying ht,hz]
 unfold J3 at h;rcases gN h with⟨rfl,g⟩|⟨b1,o1,l1,c1,s1,x1,rfl,g⟩
 ·cases ha;have hv:∃q lb cb,v=.slice q lb cb:=by
   rcases gN g with⟨rfl,g2⟩|⟨b2,o2,l2,c2,s2,x2,rfl,g2⟩
   ·cases hb;exact⟨_,_,_,rfl⟩
   ·cases hb;exact⟨_,_,_,rfl⟩
  obtain⟨q,lb,cb,rfl⟩:=hv;exact QW _ _ _ _ _ _ (.inl rfl)
 ·rcases gN g with⟨rfl,g2⟩|⟨b2,o2,l2,c2,s2,x2,rfl,g2⟩
  ·cases ha;cases hb;exact QW _ _ _ _ _ _ (.inr rfl)
  ·obtain⟨hne,g3⟩:=an g2;obtain⟨d1,n1,m1,hb1,g4⟩:=cQ g3;obtain⟨hm1,g5⟩:=an g4;obtain⟨d2,n2,m2,hb2,g6⟩:=cQ g5;obtain⟨hn2,_⟩:=an g6;have hm1:m1=0:=Nat.eq_of_beq_eq_true hm1;subst hm1;have hn2:1≤n2:=Nat.le_of_ble_eq_true hn2;have hne':b1≠b2:=λe=>by subst e;simp at hne
   cases ha with
   |slice _ _ _ _ _ _ cap1 y1 hd1 _ _ _ _=>
    cases hb with
    |slice _ _ _ _ _ _ cap2 y2 hd2 _ _ _ _=>
     have hblk:f.blk b1≠f.blk b2:=λe=>hne' (hr.inj b1 b2 hd1 hd2 (by rw[AH.bG,hb1];rfl) (by rw[AH.bG,hb2];rfl) e);obtain⟨am3,e1,lo1,hi1,q1,q2,q3,_,_,q6⟩:=hr.cells hd1 hb1;obtain⟨am4,e2,lo2,hi2,r1,r2,r3,_⟩:=hr.cells hd2 hb2;obtain⟨rfl,rfl⟩:=q6 rfl;have:=Lib.run_overlaps_apart (P:=P) w tS tS e ht i.size hz ⟨f.blk b1,y1,none⟩ ⟨f.blk b2,y2,none⟩ l1 cap1 l2 cap2 hblk e1 e2 am3.size am4.size (by simp[World.shape?,q1]) (by simp[World.shape?,r1]) (by omega) (Be q1) (Be q1);rw[CL hps];exact this
theorem agZ{P:Program}{g:Nat}{args:List AV}{H:AH}{k:AV→Prop}(h:ad0 P g args H k):∃v,k v∧∀f w (vs:Array Value),HR f H w→VL f args vs.toList→∃u,(callFunc g vs).run P w=.ok (.value u) w∧VR f v u:=by
 unfold ad0 at h;split at h
 ·rename_i hc;split at h
  ·rename_i a b;obtain⟨n,x,rfl,h1⟩:=fk h;obtain⟨m,y,rfl,h2⟩:=fk h1;refine⟨_,h2,λf w vs _ hv=>?_⟩;have e:vs=vs.toList.toArray:=by simp
   rw[e];generalize vs.toList=l at hv;cases hv with
   |cons _ u _ us hu hl=>
    cases hl with
    |cons _ u2 _ us hu2 hl=>
     cases hl;obtain⟨rfl,hx⟩:=hu.iA;obtain⟨rfl,hy⟩:=hu2.iA;refine⟨.int .i64 (yL n x m y),?_,.int 0 _⟩;rw[ad1 hc,Lib.run_compareString];simp only[Result.andThen_ok];rw[QV n x m y hx hy];rfl
  ·exact h.elim
 ·obtain⟨hc,h⟩:=an h;split at h
  ·rename_i a b;unfold adZ at hc;split at hc
   ·rename_i fn hf;simp only[Bool.and_eq_true,Bool.not_eq_true',beq_iff_eq]at hc;obtain⟨h1,h2,h3,h4,h5⟩:=hc;split at h5
    ·rename_i tS hps;split at h5
     ·rename_i e ht;obtain⟨i,hi⟩:=Option.isSome_iff_exists.1 h5;refine⟨.bool false,?_,λf w vs hr hv=>?_⟩
      ·unfold J3 at h;rcases gN h with⟨_,h⟩|⟨_,_,_,_,_,_,_,h⟩
       ·rcases gN h with⟨_,h⟩|⟨_,_,_,_,_,_,_,h⟩<;>exact h
       ·rcases gN h with⟨_,h⟩|⟨_,_,_,_,_,_,_,h⟩
        ·exact h
        ·obtain⟨_,h⟩:=an h;obtain⟨_,_,_,_,h⟩:=cQ h;obtain⟨_,h⟩:=an h;obtain⟨_,_,_,_,h⟩:=cQ h;exact(an h).2
      ·have e:vs=vs.toList.toArray:=by simp
       rw[e];generalize vs.toList=l at hv;cases hv with
       |cons _ u _ us hu hl=>
        cases hl with
        |cons _ u2 _ us hu2 hl=>
         cases hl;refine⟨.bool false,?_,.bool false⟩;rw[run_callFunc_extern hf h4 h1 (Qe fn h2 h3) (agY fn h2 h3)];have:=UJ ht hi hps (rs:=fn.resultTypes) hr.toHRQ hu hu2 h;simp only[this,Result.andThen_ok]
     ·cases h5
    ·cases h5
   ·cases hc
  ·exact h.elim
structure bO where
 g:Nat
 args:List AV
inductive Out where
 |normal
 |exit (id:Nat)
 |goto (l:Nat)
 |ret
 |cJ (v:AV)
inductive me where
 |ret (v:AV)
 |cJ (v:AV)
abbrev jJ:=Nat→List AV→AH→(me→AH→Prop)→Prop
noncomputable section
def bu(G:Nat)(env:List AV):Operand→AV
 |.tmp t=>env.getD t bN
 |.const v=>fj v
 |.global g=>if Nat.ble (Nat.succ g) G then .ptr g 0 else .cU
 |.func f=>.func f [] []
def bU(env:List AV)(dst:Option Tmp)(v:AV):List AV:=match dst with|some d=>env.set d v|none=>env
def yM(a:AV)(k:Nat→List AV→List AV→Prop):Prop:=match a with|.func g x y=>k g x y|_=>False
def HQ(a:AV)(k:Prop):Prop:=match a with|.iface _ _=>k|_=>False
def fm(P:Program)(g:Nat):Bool:=match P.funcs[g]? with|some fn=>fn.body.isSome && !(fn.name == "runtime.NumGoroutine")|none=>false
def cOut(o:me)(k:AV→Prop)(kp:AV→Prop):Prop:=match o with|.ret v=>k v|.cJ v=>kp v
def J4(P:Program)(s t:TypeId):Bool:=match P.underlying s,P.underlying t with
 |some .string,some (.slice e)=>(match P.underlying e with|some (.int .u8)=>true|_=>false)
 |_,_=>false
def tj(C:jJ)(P:Program)(G:Nat)(o:Oper)(ρ:Operand→AV)(nw:Lay)(H:AH)(k:AV→AH→Prop)(kp:AV→AH→Prop):Prop:=
 match o.op with
 |.call c=>(match c.callee with
  |.value f=>(match Si P f with
   |some g=>ad0 P g (c.args.toList.map ρ) H λv=>lD P o.type v λv=>k v H
   |none=>yM (ρ f) λg x y=>bT (fm P g) (C g (x++(c.args.toList.map ρ++y)) H λo' H'=>cOut o' (λv=>lD P o.type v λv=>k v H') (λv=>kp v H')))
  |_=>sD P o ρ nw H k)
 |.panic x=>HQ (ρ x) (kp (ρ x) H)
 |.convert s t x=>bI (J4 P s t) (BA nw (ρ x) k) (sD P o ρ nw H k)
 |_=>sD P o ρ nw H k
def afu(C:jJ)(P:Program)(G:Nat)(o:Oper)(env:List AV)(ds:List bO)(H:AH)(k:List AV→List bO→AH→Prop)(kp:AV→AH→Prop):Prop:=
 match o.op with
 |.defer c=>(match c.callee with
  |.value f=>yM (bu G env f) λg x y=>bT (fm P g) (k (bU env o.dst bN) (⟨g,x++(c.args.toList.map (bu G env)++y)⟩::ds) H)
  |_=>False)
 |_=>tj C P G o (bu G env) (ay H) H (λv H'=>k (bU env o.dst v) ds H') kp
def lE(o:Oper):Bool:=match o.op with|.defer _=>true|_=>false
def yN(v:AV)(want:Bool)(x y:Prop):Prop:=match v with|.bool b=>(match want with|true=>bI b x y|false=>bI b y x)|.bF _=>y|_=>False
theorem Bf{b want:Bool}{x y:Prop}(h:yN (.bool b) want x y):bI (b == want) x y:=by cases b<;>cases want<;>exact h
def mf(ops:Array Oper)(env:List AV)(j:Nat):AV:=match (ops[j]?).bind (·.dst)with|some t=>env.getD t .cU|none=>.cU
def CM(ops:Array Oper)(env:List AV)(j:Nat)(want:Bool)(x y:List AV→Prop):Prop:=match mf ops env j with
 |.bool b=>bI b (bI want (x (bU env ((ops[j]?).bind (·.dst)) (.bool true))) (y (bU env ((ops[j]?).bind (·.dst)) (.bool true)))) (bI want (y (bU env ((ops[j]?).bind (·.dst)) (.bool false))) (x (bU env ((ops[j]?).bind (·.dst)) (.bool false))))
 |.bF _=>y env
 |_=>False
def vH(C:jJ)(P:Program)(G:Nat)(ops:Array Oper):List Oper→List AV→List bO→AH→(Out→List AV→List bO→AH→Prop)→Prop
 |[],env,ds,H,K=>K .normal env ds H
 |o::rest,env,ds,H,K=>
  match o.guard with
  |none=>afu C P G o env ds H (λenv ds H=>vH C P G ops rest env ds H K) (λv H=>K (.cJ v) env ds H)
  |some (j,want)=>bT (!(lE o)) (CM ops env j want (λenv=>tj C P G o (bu G env) (ay H) H (λv H=>vH C P G ops rest (bU env o.dst v) ds H K) (λv H=>K (.cJ v) env ds H)) (λenv=>vH C P G ops rest (bU env o.dst bN) ds H K))
end
structure AR(P:Program)(f:az)(env:List AV)(a:Act):Prop where
 tmps:VL f env a.tmps.toList
 glob:∀g,g<P.globals.size→f.dom g∧f.blk g=g∧f.off g=0
inductive DR(f:az):List bO→List Deferred→Prop
 |nil:DR f [] []
 |cons (g:Nat) (args:List AV) (cap vs:Array Value) (ds:List bO) (es:List Deferred):VL f args (vs++cap).toList→DR f ds es→DR f (⟨g,args⟩::ds) (⟨.fn (.func g) cap,vs⟩::es)
theorem DR.up{f f':az}(h:f.le f'):∀{ds:List bO}{es:List Deferred},DR f ds es→DR f' ds es
 |_,_,.nil=>.nil
 |_,_,.cons g args cap vs ds es h1 h2=>.cons g args cap vs ds es (h1.up h) (DR.up h h2)
theorem AR.up{P:Program}{f f':az}(h:f.le f'){env:List AV}{a:Act}(r:AR P f env a):AR P f' env a:=
 ⟨r.tmps.up h,λg hg=>⟨h.dom g (r.glob g hg).1,(h.blk g (r.glob g hg).1).trans (r.glob g hg).2.1,(h.off g (r.glob g hg).1).trans (r.glob g hg).2.2⟩⟩
section
variable {P:Program}
theorem vI{f:az}{env:List AV}{a:Act}(h:AR P f env a)(x:Operand):VR f (bu P.globals.size env x) (a.eval x):=by
 cases x with
 |tmp t=>
  simp only[bu,Act.eval];rcases Nat.lt_or_ge t env.length with hl|hl
  ·obtain⟨v,h1,h2⟩:=h.tmps.get t env[t] (List.getElem?_eq_getElem hl);have e1:env.getD t bN=env[t]:=by simp[List.getD,List.getElem?_eq_getElem hl]
   have e2:a.tmps.getD t undef=v:=by
    rw[Array.getElem?_toList]at h1;simp[Array.getD_eq_getD_getElem?,h1]
   rw[e1,e2];exact h2
  ·have e1:env.getD t bN=bN:=by simp[List.getD,List.getElem?_eq_none hl]
   have hlen:=h.tmps.length;have e2:a.tmps.getD t undef=undef:=by
    have e:a.tmps.toList.length=a.tmps.size:=Array.length_toList;simp[Array.getD_eq_getD_getElem?,Array.getElem?_eq_none (show a.tmps.size≤t by omega)]
   rw[e1,e2];exact VR.undef f
 |const v=>exact pK f v
 |global g=>
  simp only[bu,Act.eval];split
  ·rename_i hg;obtain⟨h1,h2,h3⟩:=h.glob g (Nat.le_of_ble_eq_true hg);have:=VR.ptr (f:=f) g 0 h1;rw[h2,h3]at this;exact this
  ·exact .cU _
 |func g=>exact .func g [] [] [] [] .nil .nil
theorem AR.put{f:az}{env:List AV}{a:Act}(h:AR P f env a)(dst:Option Tmp){v:AV}{u:Value}(hv:VR f v u):AR P f (bU env dst v) (a.put dst u):=by
 cases dst with
 |none=>exact h
 |some d=>exact⟨by simp only[bU,Act.put,Array.toList_setIfInBounds];exact h.tmps.set d v u hv,h.glob⟩
theorem AR.defers{f:az}{env:List AV}{a:Act}(h:AR P f env a)(ds:List Deferred):AR P f env { a with defers:=ds }:=⟨h.tmps,h.glob⟩
def xp(f:az)(v:AV)(ch:List PanicEntry):Prop:=∃u older,ch={ v:=u,recovered:=false }::older∧VR f v u∧∀x∈older,x.goexit=false
def pg(f:az)(H:AH)(w:World)(o:me)(H':AH):Ending→World→Prop:=λe w'=>
 ∃f',Step f H w f' H' w'∧match o with
  |.ret v=>∃u,e=.returned u∧VR f' v u
  |.cJ v=>∃ch,e=.panicked ch∧xp f' v ch
def oq(P:Program)(C:jJ):Prop:=∀g args H K,fm P g=true→C g args H K→∃o H',K o H'∧∀f w (vs:Array Value),HR f H w→(∀g,g<P.globals.size→f.dom g∧f.blk g=g∧f.off g=0)→VL f args vs.toList→Calls P g vs w (pg f H w o H')
def mg(P:Program)(f:az)(H:AH)(w:World)(o:Out)(env:List AV)(ds:List bO)(H':AH):Exit→Act→World→Prop:=λe a w'=>
 ∃f',Step f H w f' H' w'∧AR P f' env a∧DR f' ds a.defers∧match o with
  |.normal=>e=.normal
  |.exit id=>e=.exit id
  |.goto l=>e=.goto l
  |.ret=>e=.ret
  |.cJ v=>∃ch,e=.panic ch∧xp f' v ch
theorem Qf{g:Nat}(h:fm P g=true):∃fn c,P.funcs[g]? = some fn∧fn.body=some c∧(fn.name == "runtime.NumGoroutine")=false:=by
 unfold fm at h;split at h
 ·rename_i fn hf;rw[Bool.and_eq_true]at h;obtain⟨c,hc⟩:=Option.isSome_iff_exists.1 h.1;exact⟨fn,c,hf,hc,by simpa using h.2⟩
 ·cases h
theorem tm{g:Nat}(h:fm P g=true)(args:Array Value)(w:World):(callFunc g args).run P w=.ok (.enter g args) w:=by
 obtain⟨fn,c,h1,h2,h3⟩:=Qf h;have h3':¬fn.name = "runtime.NumGoroutine" := by simpa using h3
 simp[callFunc,h1,h2,h3']
theorem sK{a:AV}{k:Nat→List AV→List AV→Prop}(h:yM a k):∃g x y,a=.func g x y∧k g x y:=by
 cases a<;>first|exact h.elim|exact⟨_,_,_,rfl,h⟩
inductive vi(P:Program)(o:Oper)(ρ:Operand→AV)(H:AH)(k:AV→AH→Prop)(kp:AV→AH→Prop):Prop where
 |val (v:AV) (H':AH) (h:k v H') (g:∀f w a,HR f H w→(∀g,g<P.globals.size→f.dom g∧f.blk g=g∧f.off g=0)→Stand f o ρ a→∀(next:Act→World→Prop) Q,(∀f' w' u,Step f H w f' H' w'→VR f' v u→next (a.put o.dst u) w')→o.wp P a w next Q)
 |cJ (v:AV) (H':AH) (h:kp v H') (g:∀f w a,HR f H w→(∀g,g<P.globals.size→f.dom g∧f.blk g=g∧f.off g=0)→Stand f o ρ a→∀(next:Act→World→Prop) (Q:Exit→Act→World→Prop),(∀f' w' ch,Step f H w f' H' w'→xp f' v ch→Q (.panic ch) a w')→o.wp P a w next Q)
theorem gV{o:Oper}{a:Act}{w w':World}{u:Value}(h:Did P o a w u w'){next:Act→World→Prop}{Q:Exit→Act→World→Prop}(hn:next (a.put o.dst u) w'):o.wp P a w next Q:=by
 unfold Oper.wp;rcases h with h|⟨h,rfl⟩<;>rw[h]<;>exact hn
theorem nA{o:Oper}{ρ:Operand→AV}{H:AH}{k kp:AV→AH→Prop}(h:Le P o ρ (ay H) H k):vi P o ρ H k kp:=by
 cases h with
 |same v h g=>
  refine .val v H h λf w a hr _ hs next Q hn=>?_;obtain⟨u,g1,g2⟩:=g f w a hr.toHRQ hs;exact gV g1 (hn f w u (Step.refl hr) g2)
 |new ob vf _ h ho g=>
  obtain⟨H',g1,g2,g3,g4⟩:=jy h;refine .val _ H' g1 λf w a hr _ hs next Q hn=>?_;obtain⟨u,obj,g5,g6⟩:=g f w a hs;obtain⟨f',s1,s2⟩:=sH hr g2 g3 g4 ho g6;exact gV g5 (hn f' _ u s1 s2)
 |turn v H' h _ g=>
  refine .val v H' h λf w a hr _ hs next Q hn=>?_;obtain⟨u,w',f',g1,g2,g3⟩:=g f w a hr hs;exact gV g1 (hn f' w' u g2 g3)
theorem vj{o:Oper}{ρ:Operand→AV}{H:AH}{k kp:AV→AH→Prop}(h:sD P o ρ (ay H) H k):vi P o ρ H k kp:=nA (Lf h)
theorem UK{s t:TypeId}(h:J4 P s t=true):∃e,P.underlying s=some .string∧P.underlying t=some (.slice e)∧P.underlying e=some (.int .u8):=by
 unfold J4 at h;split at h
 ·rename_i e hs ht;split at h
  ·rename_i he;exact⟨e,hs,ht,he⟩
  ·cases h
 ·cases h
theorem Qg{f:az}{H:AH}{w:World}(hr:HR f H w){n:Nat}{vs:List Value}(hlen:vs.length=n){c:Bt AV}(hc:∀j a,c.get? j=some a→j<n∧∃v,vs[j]? = some v∧VR f a v)
  {H':AH}(hn:H'.n=H.n+1) (hnew:H'.at H.n=.cells c n 1) (hold:∀b,b≠H.n→H'.at b=H.at b){cap':Nat}(hcap:n≤cap'){rest:List Value}(hrest:rest.length=cap'-n) (e:TypeId) :
  ∃f',Step f H w f' H' (w.alloc (.cells (vs++rest).toArray e ((vs++rest).length,(vs++rest).length+1)))∧VR f' (.slice H.n 0 n n 1 false) (.slice (some ⟨w.heap.size,0,none⟩) n cap'):=by
 refine sH hr hn hnew hold (by simp[cF.sem,gB.own]) (vf:=λb=>.slice b 0 n n 1 false) ⟨(vs++rest).length,λi hi=>⟨?_,?_⟩⟩
 ·have hle:=f.oL hi w.heap.size 0 (vs++rest).length;refine⟨_,e,_,_,rfl,by simp,by simp[hlen],λj a hj=>?_,λ_ j hj=>by rw[az.oe]at hj;rw[az.gI];omega,λh=>absurd h (by omega)⟩;obtain⟨h1,v,h2,h3⟩:=hc j a hj;refine⟨h1,v,?_,h3.up hle⟩;rw[az.gI,Nat.zero_add];simp only[List.getElem?_toArray];rw[List.getElem?_append_left (by omega),h2]
 ·have:=VR.slice (f:=f.ext i w.heap.size 0 (vs++rest).length) i 0 n n 1 false cap' 0 (az.od _ _ _ _ _) (Nat.le_refl _) hcap (λ_=>by rw[az.gI]) (λ_=>⟨rfl,by
   rw[az.oe,List.length_append,hlen,hrest];omega⟩)
  rw[az.gH]at this;exact this
theorem UL{H:AH}{o:Oper}{s t:TypeId}{x:Operand}(ho:o.op=.convert s t x)(ht:J4 P s t=true){ρ:Operand→AV}{k kp:AV→AH→Prop}
  (g:BA (ay H) (ρ x) k):vi P o ρ H k kp:=by
 obtain⟨e,hs1,ht1,he1⟩:=UK ht;obtain⟨n,y,e1,g⟩:=fk g;obtain⟨c,g,_,h2,h3⟩:=eV _ _ _ _ g;obtain⟨hm,g⟩:=an g;have hlen:=xl n y;rw[hlen,Nat.zero_add]at g h3;obtain⟨H',g,n1,n2,n3⟩:=jy g;refine .val _ H' g λf w a hr hg hst next Q hn=>?_;have hx:=hst x (by simp[ho,Op.operands]);rw[e1]at hx;obtain⟨ex,hlt⟩:=hx.iA;have hrun:=run_bytes_of_string (P:=P) w s t e (eT n y) hs1 ht1 he1;rw[yy]at hrun;have hvl:=yH f n y
 let vs:List Value:=(jb n y).map λ(b:UInt8)=>Value.int .u8 (b.toNat:Int)
 let rest:List Value:=List.replicate (grownCap w n 0 e-n) (Value.int .u8 0)
 have hrow:bytesRow (eT n y) (grownCap w n 0 e)=(vs++rest).toArray:=by
  apply Array.ext';simp[bytesRow,vs,rest]
 have hl1:vs.length=n:=by simp[vs,gu]
 obtain⟨f',s1,s2⟩:=Qg (fG.drew hr (w.drawn+1)) (vs:=vs) hl1 (c:=c) (λj a hj=>by
  rcases Nat.lt_or_ge j n with hj'|hj'
  ·have:=h2 j (by rw[hlen];exact hj');rw[Nat.zero_add]at this;rw[this]at hj;obtain⟨v,y1,y2⟩:=hvl.get j a hj;exact⟨hj',v,y1,y2⟩
  ·rw[h3 j (by omega)]at hj;cases hj) n1 n2 n3 (grownCap_ge w n 0 e) (rest:=rest) (by simp[rest]) e
 have ad2:Did P o a w (.slice (some ⟨w.heap.size,0,none⟩) n (grownCap w n 0 e)) (({ w with drawn:=w.drawn+1 }:World).alloc (.cells (vs++rest).toArray e ((vs++rest).length,(vs++rest).length+1))):=by
  left;have e2:execOp a.eval o=(do pure (.value (←convert s t (a.eval x)))):=by simp only[execOp,ho]
  rw[e2,ex];simp only[Sem.run_bind,hrun,Result.andThen_ok,Sem.run_pure,hrow];simp only[List.size_toArray];rfl
 exact gV ad2 (hn f' _ _ (Step.trans hr (Step.drew hr (w.drawn+1)) s1) s2)
theorem uy{C:jJ}(hC:oq P C){o:Oper}{ρ:Operand→AV}{G:Nat}{H:AH}{k kp:AV→AH→Prop}(h:tj C P G o ρ (ay H) H k kp):vi P o ρ H k kp:=by
 unfold tj at h;split at h
 ·rename_i c ho;split at h
  ·rename_i fo hc;split at h
   ·rename_i g hx;obtain rfl:=UI hx;obtain⟨v,h1,h2⟩:=agZ h;refine .val v H (fI (P:=P) (t:=o.type) (k:=λv=>k v H) h1) λf w a hr hg hs next Q hn=>?_;have hv:VL f (c.args.toList.map ρ) (c.args.map a.eval).toList:=by
     rw[Array.toList_map];exact VL.iX λz hz=>hs z (by simp[ho,Op.operands,Call.operands,hc];right;simpa using hz)
    obtain⟨u,g3,g4⟩:=h2 f w _ hr hv;refine gV (.inl ?_) (hn f w u (Step.refl hr) g4);have:execOp a.eval o=callFunc g (c.args.map a.eval):=by simp[execOp,ho,resolve,hc,Act.eval,Deferred.ofValue,invoke]
    rw[this,g3]
   obtain⟨g,x,y,e,h⟩:=sK h;obtain⟨hb,h⟩:=an h;obtain⟨co,H',h1,h2⟩:=hC g _ H _ hb h;have nc:∀{f:az}{a:Act}(w:World),Stand f o ρ a→∃vs:Array Value,VL f (x++(c.args.toList.map ρ++y)) vs.toList∧(execOp a.eval o).run P w=.ok (.enter g vs) w:=λ{f a} w hs=>by
    have hf:=hs fo (by simp[ho,Op.operands,Call.operands,hc]);rw[e]at hf;have hv:VL f (c.args.toList.map ρ) (c.args.toList.map a.eval):=VL.iX λz hz=>hs z (by simp[ho,Op.operands,Call.operands,hc];right;simpa using hz);generalize hz:a.eval fo=z at hf;cases hf with
    |func _ _ _ us ws h1 h2=>
     refine⟨us.toArray++c.args.map a.eval++ws.toArray,by simp only[Array.toList_append,Array.toList_map];rw[List.append_assoc];exact h1.append (hv.append h2),?_⟩;simp[execOp,ho,resolve,hc,hz,Deferred.ofValue,invoke,tm hb]
   cases co with
   |ret v=>
    refine .val v H' (fI (P:=P) (t:=o.type) (k:=λv=>k v H') h1) λf w a hr hg hs next Q hn=>?_;obtain⟨vs,g1,g2⟩:=nc w hs;unfold Oper.wp;rw[g2,Oper.upon_enter];refine(h2 f w vs hr hg g1).mono λe w' hp=>?_;obtain⟨f',s,u,rfl,hu⟩:=hp;exact hn f' w' u s hu
   |cJ v=>
    refine .cJ v H' h1 λf w a hr hg hs next Q hn=>?_;obtain⟨vs,g1,g2⟩:=nc w hs;unfold Oper.wp;rw[g2,Oper.upon_enter];refine(h2 f w vs hr hg g1).mono λe w' hp=>?_;obtain⟨f',s,ch,rfl,hu⟩:=hp;exact hn f' w' ch s hu
  ·exact vj h
 ·rename_i x ho;unfold HQ at h;split at h
  ·rename_i t v e;refine .cJ _ H h λf w a hr _ hs next Q hn=>?_;have hx:=hs x (by simp[ho,Op.operands]);rw[e]at hx;generalize hz:a.eval x=z at hx;have hx':=hx;cases hx with
   |iface _ _ y hy=>
    have hrun:(execOp a.eval o).run P w=.halt (.panic (.iface t y)) w:=by simp[execOp,ho,hz,Instr.panic]
    unfold Oper.wp;rw[hrun,Oper.upon_panic];refine hn f w _ (Step.refl hr) ⟨.iface t y,[],rfl,?_,by simp⟩;rw[e];exact hx'
  ·exact h.elim
 ·rename_i s t x ho;rcases bZ h with⟨ht,h⟩|⟨_,h⟩
  ·exact UL ho ht h
  ·exact vj h
 ·exact vj h
end
section
def fX(P:Program)(env:List AV)(ds:List bO)(H:AH)(K:Out→List AV→List bO→AH→Prop)(W:Act→World→(Exit→Act→World→Prop)→Prop):Prop:=
 ∃o env' ds' H',K o env' ds' H'∧∀f w a,HR f H w→AR P f env a→DR f ds a.defers→∀Q:Exit→Act→World→Prop,(∀e a' w',mg P f H w o env' ds' H' e a' w'→Q e a' w')→W a w Q
variable {P:Program}
theorem mg.after{f f1:az}{H H1:AH}{w w1:World}(s:Step f H w f1 H1 w1){o:Out}{env:List AV}{ds:List bO}{H':AH}{e:Exit}{a:Act}{w':World}(h:mg P f1 H1 w1 o env ds H' e a w'):mg P f H w o env ds H' e a w':=by
 obtain⟨f',s',h⟩:=h;exact⟨f',gr.trans s s',h⟩
theorem put_defers(a:Act)(d:Option Tmp)(v:Value):(a.put d v).defers=a.defers:=by cases d<;>rfl
theorem Lg{ops:Array Oper}{env:List AV}{j:Nat}{v:AV}(hv:mf ops env j=v)(hp:v≠.cU) :
  ∃t,(ops[j]?).bind (·.dst)=some t∧env[t]? = some v:=by
 unfold mf at hv;split at hv
 ·rename_i t ht;refine⟨t,ht,?_⟩;rw[List.getD_eq_getElem?_getD]at hv;cases he:env[t]? with
  |none=>rw[he]at hv;exact absurd hv.symm hp
  |some x=>rw[he]at hv;exact congrArg some hv
 ·exact absurd hv.symm hp
theorem sL{f:az}{ops:Array Oper}{env:List AV}{a:Act}(h:AR P f env a){j:Nat}{v:AV}(hv:mf ops env j=v)(hp:v≠.cU) :
  ∃u,VR f v u∧yielded ops a.tmps j=(match u with|.bool b=>some b|_=>none):=by
 obtain⟨t,h1,h2⟩:=Lg hv hp;obtain⟨u,h3,h4⟩:=h.tmps.get t v h2;rw[Array.getElem?_toList]at h3;refine⟨u,h4,?_⟩;unfold yielded;rw[h1,Option.bind_some,h3];cases u<;>rfl
theorem HS{ops:Array Oper}{env:List AV}{o:Oper}{j:Nat}{want:Bool}(hg:o.guard=some (j,want)){x y:Prop}(hk:yN (mf ops env j) want x y) :
  (x∧∀f a,AR P f env a→Region.wanted o (yielded ops a.tmps)=true)∨(y∧∀f a,AR P f env a→Region.wanted o (yielded ops a.tmps)=false):=by
 generalize hv:mf ops env j=v at hk;cases v<;>try exact hk.elim
 case bool b=>
  have key:∀f a,AR P f env a→Region.wanted o (yielded ops a.tmps)=(b == want):=λf a h=>by
   obtain⟨u,h1,h2⟩:=sL h hv (by simp);cases h1;simp only[Region.wanted,hg,h2];cases b<;>cases want<;>rfl
  rcases bZ (Bf hk)with⟨h1,h2⟩|⟨h1,h2⟩
  ·exact .inl ⟨h2,λf a h=>(key f a h).trans h1⟩
  ·exact .inr ⟨h2,λf a h=>(key f a h).trans h1⟩
 case bF l=>
  refine .inr ⟨hk,λf a h=>?_⟩;obtain⟨u,h1,h2⟩:=sL h hv (by simp);cases h1;simp only[Region.wanted,hg,h2];rfl
theorem CN{ops:Array Oper}{env:List AV}{j:Nat}{want:Bool}{x y:List AV→Prop}(h:CM ops env j want x y):yN (mf ops env j) want (x env) (y env):=by
 have key:∀b,mf ops env j=.bool b→bU env ((ops[j]?).bind (·.dst)) (.bool b)=env:=λb hb=>by
  obtain⟨t,h1,h2⟩:=Lg hb (by simp);rw[h1];simp only[bU];apply List.ext_getElem?;intro i;rw[List.getElem?_set];split
  ·rename_i e;subst e;split
   ·exact h2.symm
   ·rename_i hl;rw[List.getElem?_eq_none (by omega)]
  ·rfl
 unfold CM at h;split at h
 ·rename_i b hb;rw[hb];cases b<;>cases want<;>simp only[bI,key _ hb]at h<;>exact h
 ·rename_i l hl;rw[hl];exact h
 ·exact h.elim
theorem AR.stand{f:az}{env:List AV}{a:Act}(h:AR P f env a)(o:Oper):Stand f o (bu P.globals.size env) a:=λx _=>vI h x
theorem fX.opV{o:Oper}{env:List AV}{ds:List bO}{H:AH}{K:Out→List AV→List bO→AH→Prop}{k:AV→AH→Prop}{W:Act→World→(Exit→Act→World→Prop)→Prop}
  {N:(Exit→Act→World→Prop)→Act→World→Prop}(h:vi P o (bu P.globals.size env) H k (λv H=>K (.cJ v) env ds H))
  (hk:∀v H',k v H'→fX P (bU env o.dst v) ds H' K λa w Q=>N Q a w)
  (hW:∀f a w Q,AR P f env a→o.wp P a w (N Q) Q→W a w Q):fX P env ds H K W:=by
 cases h with
 |val v H' h g=>
  obtain⟨ot,env',ds',H2,h1,h2⟩:=hk v H' h;refine⟨ot,env',ds',H2,h1,λf w a hr ha hd Q hQ=>hW f a w Q ha (g f w a hr ha.glob (ha.stand o) _ _ λf' w' u s hu=>?_)⟩;exact h2 f' w' _ s.rel ((ha.up s.le).put o.dst hu) (by rw[put_defers];exact hd.up s.le) Q λe a' w'' hx=>hQ e a' w'' (hx.after s)
 |cJ v H' h g=>
  refine⟨.cJ v,env,ds,H',h,λf w a hr ha hd Q hQ=>hW f a w Q ha (g f w a hr ha.glob (ha.stand o) _ _ λf' w' ch s hp=>?_)⟩;exact hQ _ _ _ ⟨f',s,ha.up s.le,hd.up s.le,ch,rfl,hp⟩
theorem Lh{o:Oper}{c:Call}(ho:o.op=.defer c){fo:Operand}(hc:c.callee=.value fo){f:az}{env:List AV}{a:Act}(ha:AR P f env a){g:Nat}{x y:List AV}(e:bu P.globals.size env fo=.func g x y)(w:World) :
  ∃d,(execOp a.eval o).run P w=.ok (.defer d) w∧∀ds,DR f ds a.defers→DR f (⟨g,x++(c.args.toList.map (bu P.globals.size env)++y)⟩::ds) (d::a.defers):=by
 have hs:=ha.stand o;have hf:=hs fo (by simp[ho,Op.operands,Call.operands,hc]);rw[e]at hf;have hv:VL f (c.args.toList.map (bu P.globals.size env)) (c.args.toList.map a.eval):=VL.iX λz hz=>hs z (by simp[ho,Op.operands,Call.operands,hc];right;simpa using hz);generalize hz:a.eval fo=z at hf;cases hf with
 |func _ _ _ us ws h1 h2=>
  refine⟨⟨.fn (.func g) ws.toArray,us.toArray++c.args.map a.eval⟩,by simp[execOp,ho,resolve,hc,hz,Deferred.ofValue],λds hd=>.cons g _ _ _ ds _ ?_ hd⟩;simp only[Array.toList_append,Array.toList_map];rw[List.append_assoc];exact h1.append (hv.append h2)
theorem mP{ops:Array Oper}{rest:List Oper}{o:Oper}{a:Act}{w:World}{Q:Exit→Act→World→Prop}(hw:Region.wanted o (yielded ops a.tmps)=true)(h:o.wp P a w (wpList P ops Q rest) Q):wpList P ops Q (o::rest) a w:=by
 unfold wpList;rw[if_pos hw];exact .inl h
theorem Bg{ops:Array Oper}{rest:List Oper}{o:Oper}{a:Act}{w:World}{Q:Exit→Act→World→Prop}(hw:Region.wanted o (yielded ops a.tmps)=false)(h:wpList P ops Q rest (a.put o.dst undef) w):wpList P ops Q (o::rest) a w:=by
 unfold wpList;rw[if_neg (by rw[hw];simp)];exact h
theorem rm{C:jJ}(hC:oq P C){ops:Array Oper}{K:Out→List AV→List bO→AH→Prop}:∀(rest:List Oper) (env:List AV) (ds:List bO) (H:AH),
  vH C P P.globals.size ops rest env ds H K→fX P env ds H K λa w Q=>wpList P ops Q rest a w
 |[],env,ds,H,h=>⟨.normal,env,ds,H,h,λf w a hr ha hd Q hQ=>wpList_nil (hQ _ _ _ ⟨f,Step.refl hr,ha,hd,rfl⟩)⟩
 |o::rest,env,ds,H,h=>by
  unfold vH at h;split at h
  ·rename_i hg;have hw:∀t,Region.wanted o t=true:=λt=>by simp[Region.wanted,hg]
   unfold afu at h;split at h
   ·rename_i c ho;split at h
    ·rename_i fo hc;obtain⟨g,x,y,e,hh⟩:=sK h;obtain⟨hb,hh⟩:=an hh;obtain⟨ot,env',ds',H2,h1,h2⟩:=rm hC rest _ _ _ hh;refine⟨ot,env',ds',H2,h1,λf w a hr ha hd Q hQ=>mP (hw _) ?_⟩;obtain⟨d,g1,g2⟩:=Lh ho hc ha e w;unfold Oper.wp;rw[g1,Oper.upon_defer];have ha':AR P f env { a with defers:=d::a.defers }:=ha.defers _;refine h2 f w _ hr (ha'.put o.dst (VR.undef f)) ?_ Q hQ;rw[put_defers];exact g2 ds hd
    ·exact h.elim
   ·refine fX.opV (uy hC h) (λv H' hk=>rm hC rest _ _ _ hk) (λf a w Q ha hh=>mP (hw _) hh)
  ·rename_i j want hg;obtain⟨_,h⟩:=an h;rcases HS (P:=P) hg (CN h)with⟨h,hw⟩|⟨h,hw⟩
   ·exact fX.opV (uy hC h) (λv H' hk=>rm hC rest _ _ _ hk) (λf a w Q ha hh=>mP (hw f a ha) hh)
   ·obtain⟨ot,env',ds',H2,h1,h2⟩:=rm hC rest _ _ _ h;refine⟨ot,env',ds',H2,h1,λf w a hr ha hd Q hQ=>Bg (hw f a ha) ?_⟩;exact h2 f w _ hr (ha.put o.dst (VR.undef f)) (by rw[put_defers];exact hd) Q hQ
end
section
abbrev KT:=Out→List AV→List bO→AH→Prop
abbrev DT:=Array Oper→List AV→List bO→AH→KT→Prop
def yO(P:Program)(D:DT):Prop:=∀id ops env ds H K,D ops env ds H K→fX P env ds H K λa w Q=>(Code.region id ops true).wp P Q a w
section
def afv(k:List AV→List bO→AH→Prop)(K:KT):KT:=λo env ds H=>match o with|.normal=>k env ds H|o=>K o env ds H
def UM(o:Option Code)(k:Code→Prop)(x:Prop):Prop:=match o with|some r=>k r|none=>x
end
variable {P:Program}
def LI(P:Program)(c:Code)(Q:Exit→Act→World→Prop):Nat→Act→World→Prop
 |0,_,_=>False
 |n+1,a,w=>c.wp P (Exit.then (LI P c Q n) Q) a w
theorem least{p:Nat→Prop}(h:∃n,p n):∃n,p n∧∀m,p m→n≤m:=by
 obtain⟨n,hn⟩:=h
 induction n using Nat.strongRecOn with
 |_ n ih=>
  by_cases h:∃m,m<n∧p m
  ·obtain⟨m,h1,h2⟩:=h;exact ih m h1 h2
  ·exact⟨n,hn,λm hm=>Nat.le_of_not_lt λhl=>h ⟨m,hl,hm⟩⟩
open Classical in
noncomputable def yP(p:Nat→Prop):Nat:=if h:∃n,p n then (least h).choose else 0
theorem Bh{p:Nat→Prop}(h:∃n,p n):p (yP p)∧∀m,p m→yP p≤m:=by
 unfold yP;rw[dif_pos h];exact(least h).choose_spec
theorem wp_loop_rounds{c:Code}{Q:Exit→Act→World→Prop}{n:Nat}{a:Act}{w:World}(h:LI P c Q n a w):(Code.loop c).wp P Q a w:=by
 refine wp_loop (λa w=>∃n,LI P c Q n a w) (λa w=>yP λn=>LI P c Q n a w) ⟨n,h⟩ λa w hI=>?_;obtain⟨h1,h2⟩:=Bh hI;generalize yP (λn=>LI P c Q n a w)=m at h1 h2;cases m with
 |zero=>exact h1.elim
 |succ m=>
  refine Code.wp_mono (λe a' w' q=>?_) h1;cases e<;>try exact q
  have q:LI P c Q m a' w':=q;exact⟨⟨m,q⟩,Nat.lt_succ_of_le ((Bh ⟨m,q⟩).2 m q)⟩
def yj(P:Program)(c:Code)(Q:Exit→Act→World→Prop):Nat→Code→Act→World→Prop
 |0,_,_,_=>False
 |n+1,r,a,w=>r.wp P (λe a w=>match e with|.goto l=>(match findLabel c l with|some r'=>yj P c Q n r' a w|none=>Q (.goto l) a w)|e=>Q e a w) a w
theorem uz{c:Code}{Q:Exit→Act→World→Prop}{n:Nat}{a:Act}{w:World}(h:yj P c Q n c a w):(Code.scope c).wp P Q a w:=by
 intro b k cs;have key:∀n r a w,yj P c Q n r a w→∃e a' w',Q e a' w'∧Arrives P (lone (b.at a (.code r :: .inScope c::k)) cs w) b k cs e a' w':=by
  intro n
  induction n with
  |zero=>exact λr a w h=>h.elim
  |succ n ih=>
   intro r a w h;obtain⟨e,a₁,w₁,hq,harr⟩:=h b (.inScope c::k) cs;cases e with
   |normal=>exact⟨.normal,a₁,w₁,hq,Steps.trans harr (.one step_inScope)⟩
   |exit id=>exact⟨.exit id,a₁,w₁,hq,λk' hk=>harr k' (by simp[exitTo,hk])⟩
   |goto l=>
    simp only at hq;split at hq
    ·rename_i r' hf;obtain⟨e₂,a₂,w₂,hq₂,harr₂⟩:=ih r' a₁ w₁ hq;exact⟨e₂,a₂,w₂,hq₂,.of_steps (harr _ (by simp[gotoIn,hf])) harr₂⟩
    ·rename_i hf;exact⟨.goto l,a₁,w₁,hq,λk' hk=>harr k' (by simp[gotoIn,hf,hk])⟩
   |ret=>exact⟨_,a₁,w₁,hq,harr⟩
   |panic ch=>exact⟨_,a₁,w₁,hq,harr⟩
   |outgrown=>exact⟨_,a₁,w₁,hq,harr⟩
 obtain⟨e,a',w',q,harr⟩:=key n c a w h;exact⟨e,a',w',q,.of_steps (.one step_scope) harr⟩
variable {env:List AV}{ds:List bO}{H:AH}{K:KT}
def QX:Out→Exit→Prop
 |.normal,e=>e=.normal
 |.exit id,e=>e=.exit id
 |.goto l,e=>e=.goto l
 |.ret,e=>e=.ret
 |.cJ _,e=>∃ch,e=.panic ch
theorem mg.QX{f:az}{w:World}{o:Out}{H':AH}{e:Exit}{a:Act}{w':World}(h:mg P f H w o env ds H' e a w'):QX o e:=by
 obtain⟨f',s,h1,h2,h3⟩:=h;cases o<;>first|exact h3|(obtain⟨ch,h3,_⟩:=h3;exact⟨ch,h3⟩)
theorem fX.done{o:Out}{W:Act→World→(Exit→Act→World→Prop)→Prop}(h:K o env ds H)(e:Exit)(he:o=.normal∧e=.normal∨(∃i,o=.exit i∧e=.exit i)∨(∃l,o=.goto l∧e=.goto l)∨o=.ret∧e=.ret)
  (hW:∀a w Q,Q e a w→W a w Q):fX P env ds H K W:=
 ⟨o,env,ds,H,h,λf w a hr ha hd Q hQ=>hW a w Q (hQ _ _ _ ⟨f,Step.refl hr,ha,hd,by rcases he with⟨rfl,rfl⟩|⟨i,rfl,rfl⟩|⟨l,rfl,rfl⟩|⟨rfl,rfl⟩<;>rfl⟩)⟩
theorem fX.mono{K':KT}{W W':Act→World→(Exit→Act→World→Prop)→Prop}(h:fX P env ds H K W)(hW:∀f a w Q,AR P f env a→W a w Q→W' a w Q)(hK:∀o env ds H,K o env ds H→K' o env ds H):fX P env ds H K' W':=by
 obtain⟨o,env',ds',H',h1,h2⟩:=h;exact⟨o,env',ds',H',hK _ _ _ _ h1,λf w a hr ha hd Q hQ=>hW f a w Q ha (h2 f w a hr ha hd Q hQ)⟩
theorem fX.bind{K':KT}{V W:Act→World→(Exit→Act→World→Prop)→Prop}(h:fX P env ds H K' V)(U:Exit→Act→World→(Exit→Act→World→Prop)→Prop)
  (hk:∀o dJ ds1 H1,K' o dJ ds1 H1→(K o dJ ds1 H1∧∀e a w Q,Go.X.QX o e→Q e a w→U e a w Q)∨(∃e,(∀e',Go.X.QX o e'→e'=e)∧fX P dJ ds1 H1 K (U e)))
  (hW:∀a w Q,V a w (λe a' w'=>U e a' w' Q)→W a w Q):fX P env ds H K W:=by
 obtain⟨o,dJ,ds1,H1,h1,h2⟩:=h;rcases hk _ _ _ _ h1 with⟨g1,g2⟩|⟨e,he,o2,cG,ds2,H2,g1,g2⟩
 ·exact⟨o,dJ,ds1,H1,g1,λf w a hr ha hd Q hQ=>hW a w Q (h2 f w a hr ha hd _ λe a' w' hx=>g2 e a' w' Q hx.QX (hQ _ _ _ hx))⟩
 ·refine⟨o2,cG,ds2,H2,g1,λf w a hr ha hd Q hQ=>hW a w Q (h2 f w a hr ha hd _ λe' a' w' hx=>?_)⟩;rw[he e' hx.QX];obtain⟨f',s,ha',hd',_⟩:=hx;exact g2 f' w' a' s.rel ha' hd' Q λe a'' w'' hx=>hQ _ _ _ (hx.after s)
theorem Li{k:List AV→List bO→AH→Prop}{V W U:Act→World→(Exit→Act→World→Prop)→Prop}(h:fX P env ds H (afv k K) V)
  (hk:∀env ds H,k env ds H→fX P env ds H K U)
  (hW:∀a w Q,V a w (Exit.then (λa w=>U a w Q) Q)→W a w Q):fX P env ds H K W:=by
 refine fX.bind h (λe a w Q=>Exit.then (λa w=>U a w Q) Q e a w) (λo dJ ds1 H1 hh=>?_) (λa w Q hh=>hW a w Q hh);cases o with
 |normal=>exact .inr ⟨.normal,λe' h=>h,hk _ _ _ hh⟩
 |exit id=>exact .inl ⟨hh,λe a w Q he hq=>by cases he;exact hq⟩
 |goto l=>exact .inl ⟨hh,λe a w Q he hq=>by cases he;exact hq⟩
 |ret=>exact .inl ⟨hh,λe a w Q he hq=>by cases he;exact hq⟩
 |cJ v=>exact .inl ⟨hh,λe a w Q he hq=>by obtain⟨ch,rfl⟩:=he;exact hq⟩
end
section
inductive dt where
 |ret
 |cJ (v:AV)
 |caught (v:AV)
abbrev KD:=me→dt→AH→Prop
abbrev tp:=Nat→List AV→dt→AH→KD→Prop
abbrev KR:=Out→dt→List AV→List bO→AH→Prop
def UN(P:Program)(env:List AV)(H:AH)(r:ResultVar)(k:AV→Prop):Prop:=match r with|.tmp t=>k (env.getD t bN)|.cell a t=>oi P t (env.getD a bN) H k
def HT(P:Program)(env:List AV)(H:AH):List ResultVar→(List AV→Prop)→Prop
 |[],k=>k []
 |r::rs,k=>UN P env H r λv=>HT P env H rs λl=>k (v::l)
def xq(P:Program)(fn:Func)(env:List AV)(H:AH)(k:AV→Prop):Prop:=HT P env H fn.results.toList λl=>match l with|[v]=>k v|l=>k (.bF l)
def HU:dt→dt
 |.caught _=>.ret
 |u=>u
def CO(o:me)(u:dt):dt:=match o with|.ret _=>HU u|.cJ v=>.cJ v
def mQ(P:Program)(CD:tp)(fn:Func)(env:List AV):List bO→dt→AH→(me→AH→Prop)→Prop
 |[],.ret,H,K=>xq P fn env H λv=>K (.ret v) H
 |[],.cJ v,H,K=>K (.cJ v) H
 |[],.caught _,_,_=>False
 |d::ds,u,H,K=>bT (fm P d.g) (CD d.g d.args u H λo u' H'=>mQ P CD fn env ds (CO o u') H' K)
def Sj(P:Program)(CD:tp)(fn:Func)(K:me→AH→Prop):KT:=λo env ds H=>match o with|.normal=>mQ P CD fn env ds .ret H K|.ret=>mQ P CD fn env ds .ret H K|.cJ v=>mQ P CD fn env ds (.cJ v) H K|_=>False
def BE(P:Program)(fn:Func)(K:KD):KR:=λo M env ds H=>match ds with|[]=>(match o with|.normal=>xq P fn env H λv=>K (.ret v) M H|.ret=>xq P fn env H λv=>K (.ret v) M H|.cJ v=>K (.cJ v) M H|_=>False)|_=>False
def isRecover(o:Oper):Bool:=match o.op with|.call c=>(match c.callee with|.builtin .recover=>true|_=>false)|_=>false
def aiU(M:dt)(k:AV→dt→Prop):Prop:=match M with|.cJ v=>k v (.caught v)|M=>k .jD M
def bL(fn:Func)(args:List AV):List AV:=args++List.replicate (fn.ntmps-args.length) bN
variable {P:Program}
def MR(f:az):dt→FrameMode→Prop
 |.ret,u=>u=.returning
 |.cJ v,u=>∃ch,u=.panicking ch∧xp f v ch
 |.caught v,u=>∃x older,u=.panicking ({ v:=x,recovered:=true }::older)∧VR f v x∧∀y∈older,y.goexit=false
theorem MR.up{f f':az}(h:f.le f'){M:dt}{u:FrameMode}(m:MR f M u):MR f' M u:=by
 cases M with
 |ret=>exact m
 |cJ v=>obtain⟨ch,h1,x,older,h2,h3,h4⟩:=m;exact⟨ch,h1,x,older,h2,h3.up h,h4⟩
 |caught v=>obtain⟨x,older,h1,h2,h3⟩:=m;exact⟨x,older,h1,h2.up h,h3⟩
theorem MR.ne{f:az}{M:dt}{u:FrameMode}(m:MR f M u):u≠.run:=by
 cases M with
 |ret=>cases m;simp
 |cJ v=>obtain⟨ch,rfl,_⟩:=m;simp
 |caught v=>obtain⟨x,older,rfl,_⟩:=m;simp
def CP(f:az)(H:AH)(w:World)(o:me)(M:dt)(H':AH):Ending→FrameMode→World→Prop:=λe u' w'=>
 ∃f',Step f H w f' H' w'∧MR f' M u'∧match o with
  |.ret v=>∃u,e=.returned u∧VR f' v u
  |.cJ v=>∃ch,e=.panicked ch∧xp f' v ch
def Ah(P:Program)(CD:tp):Prop:=∀g args M H K,fm P g=true→CD g args M H K→∃o M' H',K o M' H'∧∀f w (vs:Array Value) u,HR f H w→(∀g,g<P.globals.size→f.dom g∧f.blk g=g∧f.off g=0)→VL f args vs.toList→MR f M u→CallsD P g vs u w (CP f H w o M' H')
theorem QY{f:az}{env:List AV}{a:Act}(h:AR P f env a)(t:Tmp):VR f (env.getD t bN) (a.tmps.getD t undef):=vI h (.tmp t)
def yQ(tmps:Array Value):ResultVar→Sem Value
 |.tmp t=>pure (tmps.getD t undef)
 |.cell x t=>do loadVar t (←asAddr (tmps.getD x undef))
theorem Sk(fn:Func)(tmps:Array Value):results fn tmps=(do let vs ←fn.results.mapM (yQ tmps);pure (if h:vs.size=1 then vs[0] else .tuple vs)):=by
 have:yQ tmps=(fun|.tmp t=>pure (tmps.getD t undef)|.cell a t=>do loadVar t (←asAddr (tmps.getD a undef)):ResultVar→Sem Value):=by
  funext r;cases r<;>rfl
 rw[this];rfl
theorem UO{env:List AV}{H:AH}{r:ResultVar}{k:AV→Prop}(h:UN P env H r k) :
  ∃v,k v∧∀f w a,HR f H w→AR P f env a→∃u,(yQ a.tmps r).run P w=.ok u w∧VR f v u:=by
 cases r with
 |tmp t=>exact⟨_,h,λf w a _ ha=>⟨_,rfl,QY ha t⟩⟩
 |cell x t=>
  obtain⟨v,h1,h2⟩:=By h;refine⟨v,h1,λf w a hr ha=>?_⟩;obtain⟨u,g1,g2⟩:=h2 f w _ hr.toHRQ (QY ha x);refine⟨u,?_,g2⟩;simp only[yQ];generalize a.tmps.getD x undef=z at g1;simp only[Instr.loadAt]at g1;cases z with
  |pointer p=>
   cases p with
   |none=>simp[Instr.sureAddr]at g1
   |some p=>simpa[Instr.sureAddr,asAddr]using g1
  |_=>simp[Instr.sureAddr]at g1
theorem QZ{env:List AV}{H:AH}:∀{rs:List ResultVar}{k:List AV→Prop},HT P env H rs k→
  ∃l,k l∧∀f w a,HR f H w→AR P f env a→∃us,(rs.mapM (yQ a.tmps)).run P w=.ok us w∧VL f l us
 |[],k,h=>⟨[],h,λf w a _ _=>⟨[],by simp,.nil⟩⟩
 |r::rs,k,h=>by
  obtain⟨v,h1,h2⟩:=UO h;obtain⟨l,g1,g2⟩:=QZ h1;refine⟨v::l,g1,λf w a hr ha=>?_⟩;obtain⟨u,x1,x2⟩:=h2 f w a hr ha;obtain⟨us,y1,y2⟩:=g2 f w a hr ha;exact⟨u::us,by simp only[List.mapM_cons,Sem.run_bind,x1,y1,Result.andThen_ok,Sem.run_pure],.cons _ _ _ _ x2 y2⟩
def one1(l:List AV):AV:=match l with|[v]=>v|l=>.bF l
theorem HV{fn:Func}{env:List AV}{H:AH}{k:AV→Prop}(h:xq P fn env H k) :
  ∃v,k v∧∀f w a,HR f H w→AR P f env a→∃u,(results fn a.tmps).run P w=.ok u w∧VR f v u:=by
 obtain⟨l,h1,h2⟩:=QZ h;have hk:k (one1 l):=by
  match l,h1 with
  |[],h1=>exact h1
  |[v],h1=>exact h1
  |v::v2::l,h1=>exact h1
 refine⟨_,hk,λf w a hr ha=>?_⟩;obtain⟨us,g1,g2⟩:=h2 f w a hr ha;refine⟨if h:us.toArray.size=1 then us.toArray[0] else .tuple us.toArray,?_,?_⟩
 ·rw[Sk,Array.mapM_eq_mapM_toList];simp only[Sem.run_bind,map_eq_pure_bind,bind_assoc,pure_bind];rw[g1];rfl
 ·cases g2 with
  |nil=>exact .bF [] [] .nil
  |cons v u l us y1 y2=>
   cases y2 with
   |nil=>exact y1
   |cons v2 u2 l us y3 y4=>exact .bF (v::v2::l) (u::u2::us) (.cons _ _ _ _ y1 (.cons _ _ _ _ y3 y4))
def yR(P:Program)(f:az)(H:AH)(w:World)(o:Out)(M:dt)(env:List AV)(ds:List bO)(H':AH):Exit→Act→FrameMode→World→Prop:=λe a u w'=>
 ∃f',Step f H w f' H' w'∧AR P f' env a∧DR f' ds a.defers∧MR f' M u∧match o with
  |.normal=>e=.normal
  |.exit id=>e=.exit id
  |.goto l=>e=.goto l
  |.ret=>e=.ret
  |.cJ v=>∃ch,e=.panic ch∧xp f' v ch
theorem yR.after{f f1:az}{H H1:AH}{w w1:World}(s:Step f H w f1 H1 w1){o:Out}{M:dt}{env:List AV}{ds:List bO}{H':AH}{e:Exit}{a:Act}{u:FrameMode}{w':World}(h:yR P f1 H1 w1 o M env ds H' e a u w'):yR P f H w o M env ds H' e a u w':=by
 obtain⟨f',s',h⟩:=h;exact⟨f',gr.trans s s',h⟩
abbrev PS:=Exit→Act→List Frame→World→Prop
def vk(P:Program)(M:dt)(env:List AV)(ds:List bO)(H:AH)(K:KR)(W:Act→List Frame→World→PS→Prop):Prop:=
 ∃o M' env' ds' H',K o M' env' ds' H'∧∀f w a c₀ cs u,HR f H w→AR P f env a→DR f ds a.defers→MR f M u→c₀.mode=u→∀Q:PS,(∀e a' u' w',yR P f H w o M' env' ds' H' e a' u' w'→Q e a' ({ c₀ with mode:=u' }::cs) w')→W a (c₀::cs) w Q
theorem rn{c₀:Frame}{u:FrameMode}(h:c₀.mode=u):({ c₀ with mode:=u }:Frame)=c₀:=by subst h;rfl
def gX(P:Program)(ops:Array Oper)(Q:PS):List Oper→Act→List Frame→World→Prop
 |[],a,cs,w=>Q .normal a cs w
 |o::rest,a,cs,w=>
  if Region.wanted o (yielded ops a.tmps) then
   match (execOp a.eval o).run P w with
   |.ok .recover w'=>
    match recoverD cs with
    |some (v,cs')=>gX P ops Q rest (a.put o.dst v) cs' w'
    |none=>gX P ops Q rest (a.put o.dst .nilIface) cs w'
   |r=>o.upon P a (λa' w'=>gX P ops Q rest a' cs w') (λe a' w'=>Q e a' cs w') r
  else gX P ops Q rest (a.put o.dst undef) cs w
theorem UP{ops:Array Oper}{Q:PS}(l:List Oper):∀k,(∀j,l[j]? = ops[k+j]?)→wpOpsS P ops Q (List.range' k l.length)=gX P ops Q l:=by
 induction l with
 |nil=>intro k _;funext a cs w;simp[wpOpsS,gX]
 |cons o l ih=>
  intro k h;have h0:ops[k]? = some o:=by simpa using(h 0).symm
  have ih':=ih (k+1) (λj=>by have:=h (j+1);simpa[Nat.add_assoc,Nat.add_comm 1 j]using this);funext a cs w;simp only[List.length_cons,List.range'_succ,wpOpsS,h0,gX,ih'];rfl
theorem CQ{id:Nat}{ops:Array Oper}{Q:PS}{a:Act}{cs:List Frame}{w:World}(h:gX P ops Q ops.toList a cs w):(Code.region id ops false).wpS P Q a cs w:=
 wpS_region (by rw[List.range_eq_range',←Array.length_toList,UP ops.toList 0 (by simp)];exact h)
theorem yS{ops:Array Oper}{Q:PS}{rest:List Oper}{o:Oper}{a:Act}{cs:List Frame}{w:World}(hw:Region.wanted o (yielded ops a.tmps)=true)
  (h:o.wp P a w (λa' w'=>gX P ops Q rest a' cs w') (λe a' w'=>Q e a' cs w')):gX P ops Q (o::rest) a cs w:=by
 unfold gX;rw[if_pos hw];unfold Oper.wp at h;split
 ·rename_i hr;rw[hr]at h;exact h.elim
 ·exact h
theorem Qh{ops:Array Oper}{Q:PS}{rest:List Oper}{o:Oper}{a:Act}{cs:List Frame}{w:World}(hw:Region.wanted o (yielded ops a.tmps)=true)(hr:(execOp a.eval o).run P w=.ok .recover w)
  (h:match recoverD cs with|some (v,cs')=>gX P ops Q rest (a.put o.dst v) cs' w|none=>gX P ops Q rest (a.put o.dst .nilIface) cs w):gX P ops Q (o::rest) a cs w:=by
 unfold gX;rw[if_pos hw,hr];exact h
theorem Qi{o:Oper}(h:isRecover o=true)(ρ:Operand→Value)(w:World):(execOp ρ o).run P w=.ok .recover w:=by
 unfold isRecover at h;split at h
 ·rename_i c ho;split at h
  ·rename_i hc;simp[execOp,ho,resolve,hc,invoke,builtin]
  ·cases h
 ·cases h
theorem ag0{M:dt}{k:AV→dt→Prop}(h:aiU M k):∃v M',k v M'∧∀f u c₀ cs,MR f M u→c₀.mode=u→∃x u',VR f v x∧MR f M' u'∧
  ∀(R:Value→List Frame→Prop),(R x ({ c₀ with mode:=u' }::cs))→(match recoverD (c₀::cs)with|some (y,cs')=>R y cs'|none=>R .nilIface (c₀::cs)):=by
 cases M with
 |ret=>
  refine⟨_,_,h,λf u c₀ cs hm hc=>⟨.nilIface,u,.jD,hm,λR hR=>?_⟩⟩;rw[rn hc]at hR;cases hm;simp only[recoverD,hc];exact hR
 |cJ v=>
  refine⟨_,_,h,λf u c₀ cs hm hc=>?_⟩;obtain⟨ch,rfl,x,older,rfl,h3,h4⟩:=hm;refine⟨x,_,h3,⟨x,older,rfl,h3,h4⟩,λR hR=>?_⟩;simp only[recoverD,hc];exact hR
 |caught v=>
  refine⟨_,_,h,λf u c₀ cs hm hc=>⟨.nilIface,u,.jD,hm,λR hR=>?_⟩⟩;rw[rn hc]at hR;obtain⟨x,older,rfl,h3,h4⟩:=hm;simp only[recoverD,hc];exact hR
theorem vk.aiV{M:dt}{env:List AV}{ds:List bO}{H:AH}{K:KR}{c:Code}(h:fX P env ds H (λo env ds H=>K o M env ds H) λa w Q=>c.wp P Q a w):vk P M env ds H K λa cs w Q=>c.wpS P Q a cs w:=by
 obtain⟨o,env',ds',H',h1,h2⟩:=h;refine⟨o,M,env',ds',H',h1,λf w a c₀ cs u hr ha hd hm hc Q hQ=>wpS_of_wp (h2 f w a hr ha hd _ λe a' w' hx=>?_)⟩;obtain⟨f',s,g1,g2,g3⟩:=hx;have:=hQ e a' u w' ⟨f',s,g1,g2,hm.up s.le,g3⟩;rw[rn hc]at this;exact this
theorem DR.HW{f:az}{es:List Deferred}(h:DR f [] es):es=[]:=by cases h;rfl
theorem yT{f:az}{fn:Func}{args:List AV}{vs:Array Value}(hv:VL f args vs.toList)(hg:∀g,g<P.globals.size→f.dom g∧f.blk g=g∧f.off g=0) :
  AR P f (bL fn args) { tmps:=vs++Array.replicate (fn.ntmps-vs.size) undef,defers:=[] }:=by
 refine⟨?_,hg⟩;have hl:=hv.length;have e:vs.toList.length=vs.size:=Array.length_toList;simp only[bL,Array.toList_append,Array.toList_replicate];rw[hl,e];exact hv.append (VL.replicate (VR.undef f) _)
theorem pg.after{f f1:az}{H H1:AH}{w w1:World}(s:Step f H w f1 H1 w1){o:me}{H':AH}{e:Ending}{w':World}(h:pg f1 H1 w1 o H' e w'):pg f H w o H' e w':=by
 obtain⟨f',s',h⟩:=h;exact⟨f',gr.trans s s',h⟩
theorem Leaves.mono{fn:Func}{tmps:Array Value}{R R':Ending→World→Prop}(hR:∀e w,R e w→R' e w):∀(ds:List Deferred) (u:FrameMode) (w:World),Leaves P fn tmps R ds u w→Leaves P fn tmps R' ds u w
 |[],.returning,w,h=>let ⟨v,h1,h2⟩:=h;⟨v,h1,hR _ _ h2⟩
 |[],.panicking chain,w,h=>hR _ _ h
 |[],.run,_,h=>h.elim
 |d::ds,u,w,h=>by
  obtain⟨h1,fv,cap,f,args,h2,h3,h4⟩:=h;refine⟨h1,fv,cap,f,args,h2,h3,h4.mono λe u' w' h5=>?_⟩;cases e with
  |returned v=>exact Leaves.mono hR ds _ _ h5
  |panicked ch=>exact Leaves.mono hR ds _ _ h5
  |outgrown=>exact hR _ _ h5
theorem UQ{f:az}{o:me}{M:dt}{u:FrameMode}(hm:MR f M u){e:Ending}
  (he:match o with|.ret v=>∃x,e=.returned x∧VR f v x|.cJ v=>∃ch,e=.panicked ch∧xp f v ch) :
  match e with|.returned _=>MR f (CO o M) (settle u)|.panicked ch=>MR f (CO o M) (raised u ch)|.outgrown=>False:=by
 cases o with
 |ret v=>
  obtain⟨x,rfl,_⟩:=he;cases M with
  |ret=>cases hm;rfl
  |cJ v=>
   obtain⟨ch,rfl,y,older,rfl,h3,h4⟩:=hm;exact⟨_,rfl,y,older,rfl,h3,h4⟩
  |caught v=>
   obtain⟨y,older,rfl,h3,h4⟩:=hm;have:older.dropWhile (λx=>!x.goexit)=[]:=by
    clear h3
    induction older with
    |nil=>rfl
    |cons y l ih=>rw[List.dropWhile_cons,if_pos (by rw[h4 y (by simp)];rfl)];exact ih λz hz=>h4 z (by simp[hz])
   show MR f .ret _;simp only[settle,this];rfl
 |cJ v=>
  obtain⟨ch,rfl,x,older,rfl,h3,h4⟩:=he;show MR f (.cJ v) _;cases M with
  |ret=>cases hm;exact⟨_,rfl,x,older,rfl,h3,h4⟩
  |cJ v=>
   obtain⟨ch',rfl,y,aiW,rfl,h5,h6⟩:=hm;refine⟨_,rfl,x,older++_,rfl,h3,λz hz=>?_⟩;simp only[List.mem_append,List.mem_cons]at hz;rcases hz with hz|rfl|hz
   ·exact h4 z hz
   ·rfl
   ·exact h6 z hz
  |caught v=>
   obtain⟨y,aiW,rfl,h5,h6⟩:=hm;refine⟨_,rfl,x,older++_,rfl,h3,λz hz=>?_⟩;simp only[List.mem_append,List.mem_cons]at hz;rcases hz with hz|rfl|hz
   ·exact h4 z hz
   ·rfl
   ·exact h6 z hz
theorem xr{CD:tp}(hCD:Ah P CD){fn:Func}{env:List AV}{K:me→AH→Prop}:∀(ds:List bO) (M:dt) (H:AH),mQ P CD fn env ds M H K→
  ∃co H',K co H'∧∀f w a es u,HR f H w→AR P f env a→DR f ds es→MR f M u→Leaves P fn a.tmps (pg f H w co H') es u w
 |[],.ret,H,h=>by
  obtain⟨v,h1,h2⟩:=HV h;refine⟨_,_,h1,λf w a es u hr ha hd hm=>?_⟩;cases hd;cases hm;obtain⟨x,g1,g2⟩:=h2 f w a hr ha;exact⟨x,g1,f,Step.refl hr,x,rfl,g2⟩
 |[],.cJ v,H,h=>by
  refine⟨_,_,h,λf w a es u hr ha hd hm=>?_⟩;cases hd;obtain⟨ch,rfl,hp⟩:=hm;exact⟨f,Step.refl hr,ch,rfl,hp⟩
 |[],.caught _,_,h=>h.elim
 |d::ds,M,H,h=>by
  unfold mQ at h;obtain⟨hb,h⟩:=an h;obtain⟨o,M',H1,h1,h2⟩:=hCD d.g d.args M H _ hb h;obtain⟨co,H2,g1,g2⟩:=xr hCD ds _ _ h1;refine⟨co,H2,g1,λf w a es u hr ha hd hm=>?_⟩;cases hd with
  |cons g args cap vs _ es hv hd=>
   refine leaves_cons hm.ne (f:=g) (args:=vs++cap) (by simp[invoke,tm hb]) ?_;refine(h2 f w _ u hr ha.glob hv hm).mono λe u' w' hp=>?_;obtain⟨f',s,hm',he⟩:=hp;have hA:=UQ hm' he;have key:∀v,MR f' (CO o M') v→Leaves P fn a.tmps (pg f H w co H2) es v w':=λv hv=>
    Leaves.mono (λe w h=>h.after s) _ _ _ (g2 f' w' a es v s.rel (ha.up s.le) (hd.up s.le) hv)
   cases e with
   |returned x=>exact key _ hA
   |panicked ch=>exact key _ hA
   |outgrown=>exact hA.elim
end
def fC(ops:Array Oper)(i:Nat):List Nat:=match ops[i]? with|some o=>(o.after.toList.filter (Region.binds .any)).map (·.on)|none=>[]
inductive oO(ops:Array Oper):Nat→Nat→Prop
 |edge {i j:Nat}:j∈fC ops i→oO ops i j
 |step {i j k:Nat}:j∈fC ops i→oO ops j k→oO ops i k
def uni(a b:List Nat):List Nat:=a++b.filter λx=>!(a.contains x)
theorem Q0{a b:List Nat}{x:Nat}(h:x∈uni a b):x∈a∨x∈b:=by
 unfold uni at h;rw[List.mem_append,List.mem_filter]at h;exact h.imp id And.left
def ph:List (Nat×List Nat)→Nat→List Nat
 |[],_=>[]
 |(j,m)::r,i=>bif Nat.beq i j then m else ph r i
def CR(ms:List (Nat×List Nat)):List Nat→List Nat
 |[]=>[]
 |j::r=>uni (uni [j] (ph ms j)) (CR ms r)
def masks(ops:Array Oper):List Nat→List (Nat×List Nat)→List (Nat×List Nat)
 |[],ms=>ms
 |i::r,ms=>masks ops r ((i,CR ms (fC ops i))::ms)
def iH(ops:Array Oper)(ms:List (Nat×List Nat)):Prop:=∀i j,j∈ph ms i→oO ops i j
theorem I9{ops:Array Oper}{ms:List (Nat×List Nat)}(h:iH ops ms):∀{es:List Nat}{x:Nat},x∈CR ms es→∃j∈es,x=j∨oO ops j x
 |[],x,hx=>by simp[CR]at hx
 |j::r,x,hx=>by
  rcases Q0 hx with hx|hx
  ·rcases Q0 hx with hx|hx
   ·exact⟨j,by simp,.inl (by simpa using hx)⟩
   ·exact⟨j,by simp,.inr (h _ _ hx)⟩
  ·obtain⟨k,hk,hx⟩:=I9 h hx;exact⟨k,by simp[hk],hx⟩
theorem mh{ops:Array Oper}:∀(l:List Nat){ms:List (Nat×List Nat)},iH ops ms→iH ops (masks ops l ms)
 |[],_,h=>h
 |i::r,ms,h=>mh r λk j hj=>by
  simp only[ph]at hj;cases hb:Nat.beq k i with
  |false=>rw[hb]at hj;exact h k j hj
  |true=>
   rw[hb]at hj;have e:=Nat.eq_of_beq_eq_true hb;subst e;obtain⟨m,h1,h2⟩:=I9 h hj;rcases h2 with rfl|h2
   ·exact .edge h1
   ·exact .step h1 h2
def jq(ops:Array Oper)(i:Nat):Option Tmp:=(ops[i]?).bind (·.dst)
def gf(ops:Array Oper)(i:Nat):List Tmp:=match ops[i]? with|some o=>o.looksAt ops|none=>[]
def eS(ops:Array Oper)(i:Nat):Bool:=match ops[i]? with
 |some o=>(match o.op,o.guard,o.dst with
  |.assign _,none,some t=>(List.range ops.size).any λk=>!(Nat.beq k i)&&((gf ops k).contains t||jq ops k == some t)
  |_,_,_=>false)
 |none=>false
def fD(ops:Array Oper)(i:Nat):Bool:=(match ops[i]? with|some o=>turns o|none=>false)||eS ops i
theorem gQ{ops:Array Oper}{i:Nat}{o:Oper}(ho:ops[i]? = some o)(h:turns o=true):fD ops i=true:=by simp[fD,ho,h]
theorem yU{ops:Array Oper}{i:Nat}(h:eS ops i=true):fD ops i=true:=by simp[fD,h]
theorem yV{ops:Array Oper}{i:Nat}{o:Oper}(ho:ops[i]? = some o){g:Nat×Bool}(h:o.guard=some g):eS ops i=false:=by
 unfold eS;rw[ho];simp only[h];split<;>first|rfl|(rename_i h2 _;cases h2)
def Lin(ops:Array Oper):List Nat→Prop
 |[]=>True
 |i::r=>(fD ops i=true→∀j∈r,oO ops j i)∧Lin ops r
def Lj(ops:Array Oper):List Nat→Prop
 |[]=>True
 |i::r=>(∀j∈r,∀t,jq ops j=some t→(t∉gf ops i∧jq ops i≠some t)∨(eS ops j=true∧oO ops j i))∧(∀j∈r,∀t,jq ops i=some t→t∈gf ops j→oO ops j i)∧(∀t,jq ops i=some t→t∉gf ops i)∧Lj ops r
def Sl(ops:Array Oper):List Nat→List Nat→Prop
 |_,[]=>True
 |seen,i::r=>(∀j∈fC ops i,j∈seen)∧Sl ops (i::seen) r
def Sm(ops:Array Oper)(ms:List (Nat×List Nat)):List Nat→Bool
 |[]=>true
 |i::r=>(!(fD ops i)||r.all λj=>(ph ms j).contains i)&&Sm ops ms r
def Sn(ops:Array Oper)(ms:List (Nat×List Nat)):List Nat→Bool
 |[]=>true
 |i::r=>(match jq ops i with|none=>true|some t=>!((gf ops i).contains t)&&r.all λj=>!((gf ops j).contains t)||(ph ms j).contains i) &&
  (r.all λj=>match jq ops j with|none=>true|some t=>(!((gf ops i).contains t) && !(jq ops i == some t))||(eS ops j&&(ph ms j).contains i))&&Sn ops ms r
def J5(ops:Array Oper):List Nat→List Nat→Bool
 |_,[]=>true
 |seen,i::r=>(fC ops i).all (λj=>seen.contains j)&&J5 ops (i::seen) r
def nodupB:List Nat→Bool
 |[]=>true
 |i::r=>!(r.contains i)&&nodupB r
theorem Q2{ops:Array Oper}{ms:List (Nat×List Nat)}(hm:iH ops ms):∀{l:List Nat},Sm ops ms l=true→Lin ops l
 |[],_=>trivial
 |i::r,h=>by
  simp only[Sm,Bool.and_eq_true,Bool.or_eq_true,Bool.not_eq_true',List.all_eq_true,List.contains_iff_mem]at h;refine⟨λht j hj=>?_,Q2 hm h.2⟩;rcases h.1 with h1|h1
  ·rw[ht]at h1;cases h1
  ·exact hm _ _ (h1 j hj)
theorem Q3{ops:Array Oper}{ms:List (Nat×List Nat)}(hm:iH ops ms):∀{l:List Nat},Sn ops ms l=true→Lj ops l
 |[],_=>trivial
 |i::r,h=>by
  simp only[Sn,Bool.and_eq_true]at h;obtain⟨⟨h1,h2⟩,h3⟩:=h;refine⟨λj hj t ht=>?_,λj hj t ht hl=>?_,λt ht=>?_,Q3 hm h3⟩
  ·rw[List.all_eq_true]at h2;have:=h2 j hj;rw[ht]at this;simp only[Bool.or_eq_true,Bool.and_eq_true]at this;rcases this with h4|⟨h4,h5⟩
   ·exact .inl (by simpa using h4)
   ·exact .inr ⟨h4,hm _ _ (by simpa using h5)⟩
  ·rw[ht]at h1;simp only[Bool.and_eq_true,List.all_eq_true,Bool.or_eq_true,Bool.not_eq_true']at h1;rcases h1.2 j hj with h4|h4
   ·simp[hl]at h4
   ·exact hm _ _ (by simpa using h4)
  ·rw[ht]at h1;simp only[Bool.and_eq_true]at h1;simpa using h1.1
theorem Lk{ops:Array Oper}:∀{l seen:List Nat},J5 ops seen l=true→Sl ops seen l
 |[],_,_=>trivial
 |i::r,seen,h=>by
  simp only[J5,Bool.and_eq_true,List.all_eq_true]at h;exact⟨λj hj=>by simpa using h.1 j hj,Lk h.2⟩
theorem yW:∀{l:List Nat},nodupB l=true→l.Nodup
 |[],_=>.nil
 |i::r,h=>by
  simp only[nodupB,Bool.and_eq_true]at h;exact List.nodup_cons.2 ⟨by simpa using h.1,yW h.2⟩
section
variable {P:Program}
def Same(ops:Array Oper)(o:Oper)(env cG:List AV):Prop:=∀t∈o.looksAt ops,cG[t]? = env[t]?
theorem Same.refl{ops:Array Oper}{o:Oper}(env:List AV):Same ops o env env:=λ_ _=>rfl
theorem Same.trans{ops:Array Oper}{o:Oper}{a b c:List AV}(h:Same ops o a b)(g:Same ops o b c):Same ops o a c:=λt ht=>(g t ht).trans (h t ht)
theorem Same.bu{ops:Array Oper}{o:Oper}{env cG:List AV}(h:Same ops o env cG){x:Operand}(hx:x∈o.op.operands)(G:Nat):Go.X.bu G cG x=Go.X.bu G env x:=by
 cases x with
 |tmp t=>
  have:=h t (by unfold Oper.looksAt;rw[List.mem_append];left;rw[List.mem_filterMap];exact⟨.tmp t,by simpa using hx,rfl⟩);simp only[Go.X.bu,List.getD_eq_getElem?_getD,this]
 |const v=>rfl
 |global g=>rfl
 |func g=>rfl
theorem Same.stand{ops:Array Oper}{o:Oper}{env cG:List AV}(h:Same ops o env cG){f:az}{a:Act}(ha:AR P f cG a):Stand f o (Go.X.bu P.globals.size env) a:=λx hx=>by
 rw[←h.bu hx];exact vI ha x
theorem Same.mf{ops:Array Oper}{o:Oper}{env cG:List AV}(h:Same ops o env cG){j:Nat}{want:Bool}(hg:o.guard=some (j,want)):Go.X.mf ops cG j=Go.X.mf ops env j:=by
 unfold Go.X.mf;cases hd:(ops[j]?).bind (·.dst)with
 |none=>rfl
 |some t=>
  have:=h t (by unfold Oper.looksAt;rw[List.mem_append];right;simp[hg,hd]);simp only[List.getD_eq_getElem?_getD,this]
def eY(P:Program)(ops:Array Oper)(o:Oper)(env:List AV)(b:Bool):Prop:=∀f a cG,AR P f cG a→Same ops o env cG→Region.wanted o (yielded ops a.tmps)=b
def gO(P:Program)(ops:Array Oper)(o:Oper)(env:List AV)(v:AV)(H:AH):Prop:=∀f w a cG,HRQ f H.sem w→AR P f cG a→Same ops o env cG→∃u,Did P o a w u w∧VR f v u
def xt(P:Program)(ops:Array Oper)(o:Oper)(env:List AV)(ob:cF)(vf:Nat→AV):Prop:=∀f w a cG,AR P f cG a→Same ops o env cG→∃u obj,Did P o a w u (w.alloc obj)∧mA f w ob vf u obj
def yX(P:Program)(ops:Array Oper)(o:Oper)(env:List AV)(H:AH)(v:AV)(H':AH):Prop:=∀f w a cG,HR f H w→AR P f cG a→Same ops o env cG→∀(next:Act→World→Prop) Q,(∀f' w' u,Step f H w f' H' w'→VR f' v u→next (a.put o.dst u) w')→o.wp P a w next Q
def J6(P:Program)(ops:Array Oper)(o:Oper)(env:List AV)(H:AH)(v:AV)(H':AH):Prop:=∀f w a cG,HR f H w→AR P f cG a→Same ops o env cG→∀(next:Act→World→Prop) (Q:Exit→Act→World→Prop),(∀f' w' ch,Step f H w f' H' w'→xp f' v ch→Q (.panic ch) a w')→o.wp P a w next Q
abbrev jr:=Nat×Oper×List AV×AV
inductive Tr(P:Program)(ops:Array Oper):List Nat→List jr→List AV→AH→Option AV→List AV→AH→Prop
 |nil (chk:List jr) (env:List AV) (H:AH):Tr P ops [] chk env H none env H
 |skip {i:Nat}{o:Oper}{rest:List Nat}{chk:List jr}{env:List AV}{H:AH}{r:Option AV}{env':List AV}{H':AH}(ho:ops[i]? = some o) (hla:eS ops i=false) (hw:eY P ops o env false)
   (hr:Tr P ops rest chk (bU env o.dst bN) H r env' H'):Tr P ops (i::rest) chk env H r env' H'
 |look {i:Nat}{o:Oper}{rest:List Nat}{chk:List jr}{env:List AV}{H:AH}{r:Option AV}{env':List AV}{H':AH}(v:AV) (ho:ops[i]? = some o) (hla:eS ops i=false) (hw:eY P ops o env true) (hl:gO P ops o env v H)
   (hr:Tr P ops rest ((i,o,env,v)::chk) (bU env o.dst v) H r env' H'):Tr P ops (i::rest) chk env H r env' H'
 |still {i:Nat}{o:Oper}{rest:List Nat}{chk:List jr}{env:List AV}{H:AH}{r:Option AV}{env':List AV}{H':AH}(v:AV) (ho:ops[i]? = some o) (hla:eS ops i=false) (hw:eY P ops o env true) (hl:∀H,gO P ops o env v H)
   (hr:Tr P ops rest chk (bU env o.dst v) H r env' H'):Tr P ops (i::rest) chk env H r env' H'
 |lay {i:Nat}{o:Oper}{rest:List Nat}{chk:List jr}{env:List AV}{H:AH}{r:Option AV}{env':List AV}{H':AH}(ob:cF) (vf:Nat→AV) (H1:AH) (ho:ops[i]? = some o) (hla:eS ops i=false) (hw:eY P ops o env true) (hn:H1.n=H.n+1) (hnew:H1.at H.n=ob)
   (hold:∀b,b≠H.n→H1.at b=H.at b) (Ac:H.at H.n=.dead) (hown:ob.sem.own=true) (hl:xt P ops o env ob vf)
   (hr:Tr P ops rest chk (bU env o.dst (vf H.n)) H1 r env' H'):Tr P ops (i::rest) chk env H r env' H'
 |turn {i:Nat}{o:Oper}{rest:List Nat}{chk:List jr}{env:List AV}{H:AH}{r:Option AV}{env':List AV}{H':AH}(v:AV) (H1:AH) (ho:ops[i]? = some o) (ht:fD ops i=true) (hw:eY P ops o env true) (hl:yX P ops o env H v H1)
   (hc:H1=H∨∀x∈chk,oO ops i x.1∨gO P ops x.2.1 x.2.2.1 x.2.2.2 H1)
   (hr:Tr P ops rest chk (bU env o.dst v) H1 r env' H'):Tr P ops (i::rest) chk env H r env' H'
 |cJ {i:Nat}{o:Oper}{rest:List Nat}{chk:List jr}{env:List AV}{H:AH}(v:AV) (H1:AH) (ho:ops[i]? = some o) (ht:fD ops i=true) (hw:eY P ops o env true) (hl:J6 P ops o env H v H1) :
   Tr P ops (i::rest) chk env H (some v) env H1
def uA:Lay:=λ_ _=>False
def CS(P:Program)(o:Oper):Bool:=
 match o.op with
 |.load ..=>false
 |.lookup ..=>false
 |.convert s ..=>(match P.underlying s with|some (.int _)=>true|_=>false)
 |.binOp _ t ..=>(match P.underlying t with|some (.pointer _)=>false|_=>true)
 |.call c=>(match c.callee,c.argTypes.toList with
  |.builtin .max,_=>true
  |.builtin .min,_=>true
  |.builtin .len,t::_=>(match P.underlying t with|some (.map ..)=>false|_=>true)
  |_,_=>false)
 |_=>true
def mC:AH:=⟨.e,0⟩
section
variable (C:jJ)(P:Program)(G:Nat)(ops:Array Oper)(ms:List (Nat×List Nat))
def oP(i:Nat)(H:AH):List jr→Prop→Prop
 |[],x=>x
 |(j,o,env,v)::r,x=>bI ((ph ms i).contains j) (oP i H r x) (sD P o (bu G env) uA H λv' _=>bT (bw v' v) (oP i H r x))
def dx(H:AH)(x:Prop):Prop:=match H.at H.n with|.dead=>x|_=>False
def jT:List Nat→List jr→List AV→AH→(List jr→List AV→AH→Prop)→(AV→List AV→AH→Prop)→Prop
 |[],chk,env,H,K,_=>K chk env H
 |i::rest,chk,env,H,K,KP=>match ops[i]? with
  |none=>False
  |some o=>
   let go:List AV→Prop:=λenv=>bI (eS ops i) (sD P o (bu G env) uA mC λv _=>jT rest chk (bU env o.dst v) H K KP) <| bI (turns o) (bT (!(lE o)) (tj C P G o (bu G env) (ay H) H (λv H1=>oP P G ms i H1 chk (jT rest chk (bU env o.dst v) H1 K KP)) (λv H1=>KP v env H1)))
    (bI (iW o) (dx H (sD P o (bu G env) (ay H) H λv H1=>bT (Nat.beq H1.n (Nat.succ H.n)) (jT rest chk (bU env o.dst v) H1 K KP)))
    (bI (CS P o) (sD P o (bu G env) uA mC λv _=>jT rest chk (bU env o.dst v) H K KP)
     (sD P o (bu G env) uA H λv _=>jT rest ((i,o,env,v)::chk) (bU env o.dst v) H K KP)))
   match o.guard with
   |none=>go env
   |some (j,want)=>CM ops env j want go (λenv=>jT rest chk (bU env o.dst bN) H K KP)
end
theorem eY.of_none{ops:Array Oper}{o:Oper}{env:List AV}(h:o.guard=none):eY P ops o env true:=λf a cG _ _=>by simp[Region.wanted,h]
theorem eY.Ll{ops:Array Oper}{o:Oper}{env:List AV}{j:Nat}{want:Bool}(hg:o.guard=some (j,want)){x y:Prop}(hk:yN (mf ops env j) want x y) :
  (x∧eY P ops o env true)∨(y∧eY P ops o env false):=by
 generalize hv:mf ops env j=v at hk;cases v<;>try exact hk.elim
 case bool b=>
  have key:eY P ops o env (b == want):=λf a cG h hs=>by
   obtain⟨u,h1,h2⟩:=sL h ((hs.mf hg).trans hv) (by simp);cases h1;simp only[Region.wanted,hg,h2];cases b<;>cases want<;>rfl
  rcases bZ (Bf hk)with⟨h1,h2⟩|⟨h1,h2⟩
  ·exact .inl ⟨h2,h1 ▸ key⟩
  ·exact .inr ⟨h2,h1 ▸ key⟩
 case bF l=>
  refine .inr ⟨hk,λf a cG h hs=>?_⟩;obtain⟨u,h1,h2⟩:=sL h ((hs.mf hg).trans hv) (by simp);cases h1;simp only[Region.wanted,hg,h2];rfl
theorem Ai{ops:Array Oper}{o:Oper}{env:List AV}{H:AH}{k:AV→AH→Prop}(ht:turns o=false)(h:sD P o (bu P.globals.size env) uA H k):∃v,k v H∧gO P ops o env v H:=by
 cases Lf h with
 |same v h g=>exact⟨v,h,λf w a cG hr ha hs=>g f w a hr (hs.stand ha)⟩
 |new ob vf _ h=>exact h.elim
 |turn v H' h ht'=>rw[ht]at ht';cases ht'
theorem HRQ.empty(f:az)(w:World):HRQ f mC.sem w:=⟨λb _ ha=>by simp[mC,AH.sem,AH.at,Bt.get?,cF.sem,gB.alive]at ha,λb c _ _ ho _ _=>by simp[mC,AH.sem,AH.at,Bt.get?,cF.sem,gB.own]at ho⟩
theorem pL{ops:Array Oper}{ms:List (Nat×List Nat)}(hm:iH ops ms){i:Nat}{H:AH}{x:Prop}:∀{chk:List jr},(∀c∈chk,turns c.2.1=false)→oP P P.globals.size ms i H chk x→x∧∀c∈chk,oO ops i c.1∨gO P ops c.2.1 c.2.2.1 c.2.2.2 H
 |[],_,h=>⟨h,by simp⟩
 |(j,o,env,v)::r,ht,h=>by
  have ih:=λ(h:oP P P.globals.size ms i H r x)=>pL hm (chk:=r) (x:=x) (λc hc=>ht c (by simp[hc])) h;rcases bZ h with⟨h1,h2⟩|⟨h1,h2⟩
  ·obtain⟨g1,g2⟩:=ih h2;refine⟨g1,λc hc=>?_⟩;rcases List.mem_cons.1 hc with rfl|hc
   ·exact .inl (hm _ _ (by simpa using h1))
   ·exact g2 c hc
  ·obtain⟨v',h3,h4⟩:=Ai (ops:=ops) (ht (j,o,env,v) (by simp)) h2;obtain⟨h5,h6⟩:=an h3;obtain⟨g1,g2⟩:=ih h6;refine⟨g1,λc hc=>?_⟩;rcases List.mem_cons.1 hc with rfl|hc
   ·rw[rl h5]at h4;exact .inr h4
   ·exact g2 c hc
structure Like(ops ops':Array Oper):Prop where
 dst:∀j:Nat,(ops'[j]?).bind Oper.dst=(ops[j]?).bind Oper.dst
 dep:∀{i j},oO ops i j→oO ops' i j
 late:∀i,eS ops' i=eS ops i
theorem Like.refl(ops:Array Oper):Like ops ops:=⟨λ_=>rfl,λh=>h,λ_=>rfl⟩
section
variable {ops ops':Array Oper}
theorem Like.yielded(L:Like ops ops')(t:Array Value):Go.yielded ops' t=Go.yielded ops t:=by
 funext j;unfold Go.yielded;rw[L.dst]
theorem Like.looks(L:Like ops ops')(o:Oper):o.looksAt ops'=o.looksAt ops:=by
 unfold Oper.looksAt;cases o.guard with
 |none=>rfl
 |some g=>simp only[L.dst]
theorem Like.same(L:Like ops ops'){o:Oper}{env cG:List AV}(h:Same ops' o env cG):Same ops o env cG:=λt ht=>h t (by rw[L.looks];exact ht)
theorem Like.want(L:Like ops ops'){o:Oper}{env:List AV}{b:Bool}(h:eY P ops o env b):eY P ops' o env b:=λf a cG ha hs=>by rw[L.yielded];exact h f a cG ha (L.same hs)
theorem Like.look(L:Like ops ops'){o:Oper}{env:List AV}{v:AV}{H:AH}(h:gO P ops o env v H):gO P ops' o env v H:=λf w a cG hr ha hs=>h f w a cG hr ha (L.same hs)
theorem Like.lay(L:Like ops ops'){o:Oper}{env:List AV}{ob:cF}{vf:Nat→AV}(h:xt P ops o env ob vf):xt P ops' o env ob vf:=λf w a cG ha hs=>h f w a cG ha (L.same hs)
theorem Like.turn(L:Like ops ops'){o:Oper}{env:List AV}{H:AH}{v:AV}{H1:AH}(h:yX P ops o env H v H1):yX P ops' o env H v H1:=λf w a cG hr ha hs=>h f w a cG hr ha (L.same hs)
theorem Like.cJ(L:Like ops ops'){o:Oper}{env:List AV}{H:AH}{v:AV}{H1:AH}(h:J6 P ops o env H v H1):J6 P ops' o env H v H1:=λf w a cG hr ha hs=>h f w a cG hr ha (L.same hs)
theorem Like.fD(L:Like ops ops'){i:Nat}(h:ops'[i]? = ops[i]?):Go.X.fD ops' i=Go.X.fD ops i:=by unfold Go.X.fD;rw[h,L.late]
end
def Came(P:Program)(ops:Array Oper)(l:List Nat)(chk:List jr)(env:List AV)(H:AH)(K:List jr→List AV→AH→Prop)(KP:AV→List AV→AH→Prop):Prop:=
 (∃Lm env' H',K Lm env' H'∧(∀c∈Lm,turns c.2.1=false)∧∀ops',Like ops ops'→(∀i∈l,ops'[i]? = ops[i]?)→∀tail r e h,Tr P ops' tail Lm env' H' r e h→Tr P ops' (l++tail) chk env H r e h)∨
 (∃v env' H',KP v env' H'∧∀ops',Like ops ops'→(∀i∈l,ops'[i]? = ops[i]?)→∀tail,Tr P ops' (l++tail) chk env H (some v) env' H')
theorem Came.cons{ops:Array Oper}{i:Nat}{rest:List Nat}{chk sq:List jr}{env dJ:List AV}{H H1:AH}{K:List jr→List AV→AH→Prop}{KP:AV→List AV→AH→Prop}(h:Came P ops rest sq dJ H1 K KP)
  (g:∀ops',Like ops ops'→ops'[i]? = ops[i]?→∀l r e h,Tr P ops' l sq dJ H1 r e h→Tr P ops' (i::l) chk env H r e h):Came P ops (i::rest) chk env H K KP:=by
 rcases h with⟨c,e,h,h1,h2,h3⟩|⟨v,e,h,h1,h2⟩
 ·exact .inl ⟨c,e,h,h1,h2,λops' L hl tail r e h ht=>g ops' L (hl i (by simp)) _ r e h (h3 ops' L (λj hj=>hl j (by simp[hj])) tail r e h ht)⟩
 ·exact .inr ⟨v,e,h,h1,λops' L hl tail=>g ops' L (hl i (by simp)) _ _ _ _ (h2 ops' L (λj hj=>hl j (by simp[hj])) tail)⟩
theorem kO{C:jJ}(hC:oq P C){ops:Array Oper}{ms:List (Nat×List Nat)}(hm:iH ops ms){K:List jr→List AV→AH→Prop}{KP:AV→List AV→AH→Prop}:∀(l:List Nat) (chk:List jr) (env:List AV) (H:AH),(∀c∈chk,turns c.2.1=false)→
  jT C P P.globals.size ops ms l chk env H K KP→Came P ops l chk env H K KP
 |[],chk,env,H,ht,h=>.inl ⟨chk,env,H,h,ht,λ_ _ _ _ _ _ _ h=>h⟩
 |i::rest,chk,env,H,ht,h=>by
  unfold jT at h;split at h
  ·exact h.elim
  ·rename_i o ho;have key:eY P ops o env true→(bI (eS ops i) (sD P o (bu P.globals.size env) uA mC λv _=>jT C P P.globals.size ops ms rest chk (bU env o.dst v) H K KP) <| bI (turns o) (bT (!(lE o)) (tj C P P.globals.size o (bu P.globals.size env) (ay H) H (λv H1=>oP P P.globals.size ms i H1 chk (jT C P P.globals.size ops ms rest chk (bU env o.dst v) H1 K KP)) (λv H1=>KP v env H1)))
    (bI (iW o) (dx H (sD P o (bu P.globals.size env) (ay H) H λv H1=>bT (Nat.beq H1.n (Nat.succ H.n)) (jT C P P.globals.size ops ms rest chk (bU env o.dst v) H1 K KP)))
    (bI (CS P o) (sD P o (bu P.globals.size env) uA mC λv _=>jT C P P.globals.size ops ms rest chk (bU env o.dst v) H K KP)
     (sD P o (bu P.globals.size env) uA H λv _=>jT C P P.globals.size ops ms rest ((i,o,env,v)::chk) (bU env o.dst v) H K KP))))→
     Came P ops (i::rest) chk env H K KP:=λhw h=>by
    rcases bZ h with⟨hla,h⟩|⟨hla,h⟩
    ·have hturn:turns o=false:=by
      unfold eS at hla;rw[ho]at hla;simp only at hla;split at hla
      ·rename_i x e1 e2 e3 hop _ _;simp[turns,hop]
      ·cases hla
     obtain⟨v,h1,h2⟩:=Ai (ops:=ops) hturn h;refine(kO hC hm rest chk _ _ ht h1).cons λops' L e l r en hh x=>.turn v H (e.trans ho) (by rw[L.fD e];exact yU hla) (L.want hw) (L.turn λf w a cG hr ha hs next Q hn=>?_) (.inl rfl) x;obtain⟨u,g1,g2⟩:=h2 f w a cG (HRQ.empty f w) ha hs;exact gV g1 (hn f w u (Step.refl hr) g2)
    rcases bZ h with⟨htn,h⟩|⟨htn,h⟩
    ·obtain⟨_,h⟩:=an h;cases uy hC h with
     |val v H1 h g=>
      obtain⟨h,hc⟩:=pL hm ht h;exact(kO hC hm rest chk _ _ ht h).cons λops' L e l r en hh x=>.turn v H1 (e.trans ho) (by rw[L.fD e];exact gQ ho htn) (L.want hw) (L.turn λf w a cG hr ha hs next Q hn=>g f w a hr ha.glob (hs.stand ha) next Q hn) (.inr λc hcm=>(hc c hcm).imp L.dep L.look) x
     |cJ v H1 h g=>exact .inr ⟨v,env,H1,h,λops' L hl tail=>.cJ v H1 ((hl i (by simp)).trans ho) (by rw[L.fD (hl i (by simp))];exact gQ ho htn) (L.want hw) (L.cJ λf w a cG hr ha hs next Q hn=>g f w a hr ha.glob (hs.stand ha) next Q hn)⟩
    ·rcases bZ h with⟨hl,h⟩|⟨hl,h⟩
     ·unfold dx at h;split at h
      ·rename_i hd;cases Lf h with
       |same v h g=>
        have:=Nat.eq_of_beq_eq_true (an h).1;exact absurd this (by simp)
       |new ob vf _ h hown g=>
        obtain⟨H1,g1,g2,g3,g4⟩:=jy h;exact(kO hC hm rest chk _ _ ht (an g1).2).cons λops' L e l r en hh x=>.lay ob vf H1 (e.trans ho) (by rw[L.late];exact hla) (L.want hw) g2 g3 g4 hd hown (L.lay λf w a cG ha hs=>g f w a (hs.stand ha)) x
       |turn v H' h ht'=>rw[htn]at ht';cases ht'
      ·exact h.elim
     ·rcases bZ h with⟨hs,h⟩|⟨hs,h⟩
      ·obtain⟨v,h1,h2⟩:=Ai (ops:=ops) htn h;exact(kO hC hm rest chk _ _ ht h1).cons λops' L e l r en hh x=>.still v (e.trans ho) (by rw[L.late];exact hla) (L.want hw) (λH=>L.look λf w a cG _ ha hs=>h2 f w a cG (HRQ.empty f w) ha hs) x
      ·obtain⟨v,h1,h2⟩:=Ai (ops:=ops) htn h;exact(kO hC hm rest _ _ _ (λc hc=>by rcases List.mem_cons.1 hc with rfl|hc;exact htn;exact ht c hc) h1).cons λops' L e l r en hh x=>.look v (e.trans ho) (by rw[L.late];exact hla) (L.want hw) (L.look h2) x
   simp only at h;split at h
   ·rename_i hg;exact key (.of_none hg) h
   ·rename_i j want hg;rcases eY.Ll hg (CN h)with⟨h,hw⟩|⟨h,hw⟩
    ·exact key hw h
    ·exact(kO hC hm rest chk _ _ ht h).cons λops' L e l r en hh x=>.skip (e.trans ho) (by rw[L.late];exact yV ho hg) (L.want hw) x
end
section
variable {P:Program}
theorem fF(env:List AV)(d:Option Tmp)(v:AV):(bU env d v).length=env.length:=by cases d<;>simp[bU]
theorem nB{env:List AV}{d:Option Tmp}{v:AV}{t:Tmp}(h:d≠some t):(bU env d v)[t]? = env[t]?:=by
 cases d with
 |none=>rfl
 |some x=>exact List.getElem?_set_ne (λe=>h (by rw[e]))
theorem pM{env:List AV}{v:AV}{t:Tmp}(h:t<env.length):(bU env (some t) v)[t]? = some v:=by simp[bU,h]
theorem Same.put{ops:Array Oper}{o:Oper}{env:List AV}{d:Option Tmp}{v:AV}(h:∀t,d=some t→t∉o.looksAt ops):Same ops o env (bU env d v):=λt ht=>nB (λe=>h t e ht)
def jK(o:Oper)(env:List AV)(v:AV):Prop:=∀t,o.dst=some t→t<env.length→env[t]? = some v
theorem jK.self(o:Oper)(env:List AV)(v:AV):jK o (bU env o.dst v) v:=λt ht hl=>by rw[ht];exact pM (by rw[fF]at hl;exact hl)
theorem jK.put{o:Oper}{env:List AV}{v u:AV}{d:Option Tmp}(h:jK o env v)(hd:∀t,o.dst=some t→d≠some t):jK o (bU env d u) v:=λt ht hl=>by
 rw[nB (hd t ht)];exact h t ht (by rw[fF]at hl;exact hl)
inductive PF(P:Program)(ops:Array Oper)(f:az)(n0:Nat)(im:Nat→Option Nat)(chk:List jr)(env:List AV)(H:AH)(i:Nat)(o:Oper):Prop
 |skip (hw:eY P ops o env false) (hv:jK o env bN)
 |look (dJ:List AV) (v:AV) (hc:(i,o,dJ,v)∈chk) (hw:eY P ops o env true) (hl:gO P ops o env v H) (hs:Same ops o dJ env) (hv:jK o env v)
 |still (v:AV) (hw:eY P ops o env true) (hl:∀H,gO P ops o env v H) (hv:jK o env v)
 |lay (id:Nat) (ob:cF) (vf:Nat→AV) (hid:im i=some id) (hw:eY P ops o env true) (hl:xt P ops o env ob vf) (hat:(H.at id).sem=ob.sem) (hown:ob.sem.own=true) (h0:n0≤id) (hn:id<H.n) (hd:¬f.dom id) (hv:jK o env (vf id))
theorem eY.same{ops:Array Oper}{o:Oper}{env dJ:List AV}{b:Bool}(h:eY P ops o env b)(hs:Same ops o env dJ):eY P ops o dJ b:=λf a cG ha hs2=>h f a cG ha (hs.trans hs2)
theorem gO.same{ops:Array Oper}{o:Oper}{env dJ:List AV}{v:AV}{H:AH}(h:gO P ops o env v H)(hs:Same ops o env dJ):gO P ops o dJ v H:=λf w a cG hr ha hs2=>h f w a cG hr ha (hs.trans hs2)
theorem xt.same{ops:Array Oper}{o:Oper}{env dJ:List AV}{ob:cF}{vf:Nat→AV}(h:xt P ops o env ob vf)(hs:Same ops o env dJ):xt P ops o dJ ob vf:=λf w a cG ha hs2=>h f w a cG ha (hs.trans hs2)
theorem gO.more{ops:Array Oper}{o:Oper}{env:List AV}{v:AV}{H H1:AH}(h:gO P ops o env v H)(hd:H.at H.n=.dead)(hold:∀b,b≠H.n→H1.at b=H.at b):gO P ops o env v H1:=λf w a cG hr ha hs=>
 h f w a cG (hr.forget H.sem λb=>by
  by_cases e:b=H.n
  ·subst e;left;rw[AH.bG,hd];rfl
  ·right;rw[AH.bG,AH.bG,hold b e]) ha hs
theorem gr.ahead{f0 f:az}{S0 S S1:SH}{w0 w:World}(s:gr f0 S0 w0 f S w)(hn:S.n≤S1.n)(hold:∀b,b<S.n→S1.ob b=S.ob b)(hro:∀b,(S1.ob b).alive=true→(S1.ob b).own=false→S.ob b=S1.ob b):gr f0 S0 w0 f S1 w where
 rel:=fG.mk' (λb hb=>Nat.lt_of_lt_of_le (s.rel.dom b hb) hn) (λb hb ha=>by rw[hold b (s.rel.dom b hb)]at ha ⊢;exact s.rel.obj b hb ha)
  (λb c hb hc ho ha e=>by rw[hold b (s.rel.dom b hb)]at ho;rw[hold c (s.rel.dom c hc)]at ha;exact s.rel.inj b c hb hc ho ha e)
 le:=s.le
 n:=Nat.le_trans s.n hn
 size:=s.size
 keep:=s.keep
 src:=λb hb ho=>by rw[hold b (s.rel.dom b hb)]at ho;exact s.src b hb ho
 ro:=λb ha ho=>by
  have e:=hro b ha ho;rw[←e]at ha ho ⊢;exact s.ro b ha ho
 dead:=λb hb h=>by rw[hold b (Nat.lt_of_lt_of_le hb s.n)];exact s.dead b hb h
 new:=s.new
 rest:=λb hb h=>by rw[hold b (Nat.lt_of_lt_of_le hb s.n)];exact s.rest b hb h
 os:=s.os
 tape:=s.tape
 output:=s.output
theorem gr.catch{f0 f:az}{S0 S:SH}{w0 w:World}(s:gr f0 S0 w0 f S w){i:Nat}(h0:S0.n≤i)(hi:¬f.dom i)(hn:i<S.n){obj:Obj}{off lim:Nat}(hob:OR (f.ext i w.heap.size off lim) i (S.ob i) (some obj)) :
  gr f0 S0 w0 (f.ext i w.heap.size off lim) S (w.alloc obj):=by
 obtain⟨h1,h2⟩:=s.rel.push S i _ obj off lim hi hn (Nat.le_refl _) rfl (λ_ _=>rfl) hob;have hle:=f.oL hi w.heap.size off lim;refine⟨h1,s.le.trans hle,s.n,Nat.le_trans s.size (by simp),λk hk hn'=>?_,λb hb ho=>?_,s.ro,s.dead,λb hb hd=>?_,s.rest,s.os,s.tape,s.output⟩
 ·rw[h2 k (Nat.lt_of_lt_of_le hk s.size)];exact s.keep k hk hn'
 ·by_cases e:b=i
  ·subst e;right;rw[az.gH];exact s.size
  ·have hb':=hb.resolve_left e;rw[hle.blk b hb'];exact s.src b hb' ho
 ·rintro(e|hd')
  ·omega
  ·exact s.new b hb hd hd'
def pz(suf:List Nat)(listed:Array Bool)(i:Nat):Prop:=listed.getD i true=false∧i∉suf
structure Inv(P:Program)(ops:Array Oper)(f0:az)(H0:AH)(w0:World)(ds:List bO)(r:Option AV)(env':List AV)(H':AH)(suf:List Nat)(chk:List jr)(env:List AV)(H:AH)(im:Nat→Option Nat)(listed:Array Bool)(f:az)(eA:List AV)(a:Act)(w:World):Prop where
 tr:Tr P ops suf chk env H r env' H'
 step:Step f0 H0 w0 f H w
 ar:AR P f eA a
 dr:DR f ds a.defers
 agree:∀t,(∃i,pz suf listed i∧jq ops i=some t)∨eA[t]? = env[t]?
 len:eA.length=env.length
 pend:∀i,pz suf listed i→∃o,ops[i]? = some o∧PF P ops f H0.n im chk env H i o
 Ja:∀i,pz suf listed i→∀j∈suf,∀t,jq ops j=some t→(t∉gf ops i∧jq ops i≠some t)∨(eS ops j=true∧oO ops j i)
 late:∀i,pz suf listed i→eS ops i=false
 BF:∀i∈suf,listed.getD i true=false
 Ln:suf.Nodup
 lin:Lin ops suf
 ssa:Lj ops suf
 inj:∀i j x,im i=some x→im j=some x→i=j
 Jb:∀i x,im i=some x→x<H.n
theorem jU{ops:Array Oper}{i:Nat}{o:Oper}(h:ops[i]? = some o):jq ops i=o.dst:=by simp[jq,h]
theorem mi{ops:Array Oper}{i:Nat}{o:Oper}(h:ops[i]? = some o):gf ops i=o.looksAt ops:=by simp[gf,h]
section
variable {ops:Array Oper}{f0:az}{H0:AH}{w0:World}{ds:List bO}{r:Option AV}{env':List AV}{H':AH}
theorem Inv.Aj{i:Nat}{rest:List Nat}{chk:List jr}{env:List AV}{H:AH}{im:Nat→Option Nat}{listed:Array Bool}{f:az}{eA:List AV}{a:Act}{w:World}
  (I:Inv P ops f0 H0 w0 ds r env' H' (i::rest) chk env H im listed f eA a w){o:Oper}(ho:ops[i]? = some o) (hla:eS ops i=false){v:AV}{sq:List jr}{H1:AH}{tq:Nat→Option Nat}
  (tr:Tr P ops rest sq (bU env o.dst v) H1 r env' H') (hpf:PF P ops f H0.n tq sq (bU env o.dst v) H1 i o) (hst:Step f0 H0 w0 f H1 w)
  (hold:∀p op,p≠i→PF P ops f H0.n im chk (bU env o.dst v) H p op→PF P ops f H0.n tq sq (bU env o.dst v) H1 p op)
  (hinj:∀i j x,tq i=some x→tq j=some x→i=j) (am5:∀i x,tq i=some x→x<H1.n) :
  Inv P ops f0 H0 w0 ds r env' H' rest sq (bU env o.dst v) H1 tq listed f eA a w:=by
 have jV:=List.nodup_cons.1 I.Ln;have hpc:∀p,pz rest listed p→p=i∨(p≠i∧pz (i::rest) listed p):=λp hp=>by
  by_cases e:p=i
  ·exact .inl e
  ·exact .inr ⟨e,hp.1,λhm=>by rcases List.mem_cons.1 hm with h|h;exact e h;exact hp.2 h⟩
 refine⟨tr,hst,I.ar,I.dr,λt=>?_,by rw[fF];exact I.len,λp hp=>?_,λp hp j hj t ht=>?_,λp hp=>?_,λp hp=>I.BF p (by simp[hp]),jV.2,I.lin.2,I.ssa.2.2.2,hinj,am5⟩
 ·by_cases e:o.dst=some t
  ·exact .inl ⟨i,⟨I.BF i (by simp),jV.1⟩,by rw[jU ho];exact e⟩
  ·rcases I.agree t with⟨p,hp,hd⟩|h
   ·exact .inl ⟨p,⟨hp.1,λh=>hp.2 (by simp[h])⟩,hd⟩
   ·exact .inr (by rw[nB e];exact h)
 ·rcases hpc p hp with rfl|⟨hne,hp⟩
  ·exact⟨o,ho,hpf⟩
  ·obtain⟨op,h1,h2⟩:=I.pend p hp;refine⟨op,h1,hold p op hne ?_⟩;have hn:=λt ht=>(I.Ja p hp i (by simp) t ht).resolve_right (λe=>by rw[hla]at e;cases e.1);rw[jU ho,jU h1,mi h1]at hn;have hs:Same ops op env (bU env o.dst v):=Same.put λt ht=>(hn t ht).1;have hv:∀{u:AV},jK op env u→jK op (bU env o.dst v) u:=λh=>h.put λt ht e=>(hn t e).2 ht;cases h2 with
   |skip hw h=>exact .skip (hw.same hs) (hv h)
   |look dJ u hc hw hl hs1 h=>exact .look dJ u hc (hw.same hs) (hl.same hs) (hs1.trans hs) (hv h)
   |still u hw hl h=>exact .still u (hw.same hs) (λH=>(hl H).same hs) (hv h)
   |lay id ob vf hid hw hl hat hown h0 hn hd h=>exact .lay id ob vf hid (hw.same hs) (hl.same hs) hat hown h0 hn hd (hv h)
 ·rcases hpc p hp with rfl|⟨_,hp⟩
  ·exact I.ssa.1 j hj t ht
  ·exact I.Ja p hp j (by simp[hj]) t ht
 ·rcases hpc p hp with rfl|⟨_,hp⟩
  ·exact hla
  ·exact I.late p hp
def aiX(P:Program)(ops:Array Oper)(suf:List Nat)(chk:List jr)(env:List AV)(H:AH)(r:Option AV)(env':List AV)(H':AH):Prop:=
 (suf=[]∧r=none∧env=env'∧H=H')∨
 (∃i o rest v H1,suf=i::rest∧ops[i]? = some o∧fD ops i=true∧eY P ops o env true∧yX P ops o env H v H1∧(H1=H∨∀x∈chk,oO ops i x.1∨gO P ops x.2.1 x.2.2.1 x.2.2.2 H1)∧Tr P ops rest chk (bU env o.dst v) H1 r env' H')∨
 (∃i o rest v H1,suf=i::rest∧ops[i]? = some o∧fD ops i=true∧eY P ops o env true∧J6 P ops o env H v H1∧r=some v∧env=env'∧H1=H')
theorem Inv.UR:∀{suf:List Nat}{chk:List jr}{env:List AV}{H:AH}{im:Nat→Option Nat}{listed:Array Bool}{f:az}{eA:List AV}{a:Act}{w:World},
  Inv P ops f0 H0 w0 ds r env' H' suf chk env H im listed f eA a w→∃BG sq dJ H1 tq,Inv P ops f0 H0 w0 ds r env' H' BG sq dJ H1 tq listed f eA a w∧aiX P ops BG sq dJ H1 r env' H':=by
 intro suf
 induction suf with
 |nil=>
  intro chk env H im listed f eA a w I;have h:=I.tr;refine⟨[],chk,env,H,im,I,.inl ?_⟩;cases h;exact⟨rfl,rfl,rfl,rfl⟩
 |cons i rest ih=>
  intro chk env H im listed f eA a w I;have h:=I.tr;cases h with
  |skip ho hla hw hr=>
   rename_i o;have hs:Same ops o env (bU env o.dst bN):=Same.put λt ht=>by
    have:=I.ssa.2.2.1 t (by rw[jU ho];exact ht);rw[mi ho]at this;exact this
   exact ih (I.Aj ho hla hr (.skip (hw.same hs) (jK.self o env bN)) I.step (λ_ _ _ h=>h) I.inj I.Jb)
  |look v ho hla hw hl hr=>
   rename_i o;have hs:Same ops o env (bU env o.dst v):=Same.put λt ht=>by
    have:=I.ssa.2.2.1 t (by rw[jU ho];exact ht);rw[mi ho]at this;exact this
   refine ih (I.Aj ho hla hr (.look env v (by simp) (hw.same hs) (hl.same hs) hs (jK.self o env v)) I.step (λp op _ h=>?_) I.inj I.Jb);cases h with
   |skip hw h=>exact .skip hw h
   |look dJ u hc hw hl hs1 h=>exact .look dJ u (by simp[hc]) hw hl hs1 h
   |still u hw hl h=>exact .still u hw hl h
   |lay id ob vf hid hw hl hat hown h0 hn hd h=>exact .lay id ob vf hid hw hl hat hown h0 hn hd h
  |still v ho hla hw hl hr=>
   rename_i o;have hs:Same ops o env (bU env o.dst v):=Same.put λt ht=>by
    have:=I.ssa.2.2.1 t (by rw[jU ho];exact ht);rw[mi ho]at this;exact this
   exact ih (I.Aj ho hla hr (.still v (hw.same hs) (λH=>(hl H).same hs) (jK.self o env v)) I.step (λ_ _ _ h=>h) I.inj I.Jb)
  |lay ob vf H1 ho hla hw hn hnew hold Ac hown hl hr=>
   rename_i o;have hs:Same ops o env (bU env o.dst (vf H.n)):=Same.put λt ht=>by
    have:=I.ssa.2.2.1 t (by rw[jU ho];exact ht);rw[mi ho]at this;exact this
   have hst:Step f0 H0 w0 f H1 w:=I.step.ahead (by simp[hn]) (λb hb=>by rw[AH.bG,AH.bG,hold b (by simp at hb;omega)]) (λb ha hb=>by
    by_cases e:b=H.n
    ·subst e;rw[AH.bG,hnew,hown]at hb;cases hb
    ·rw[AH.bG,AH.bG,hold b e])
   have hd:¬f.dom H.n:=fG.fresh I.step.rel;refine ih (I.Aj (tq:=λk=>if k=i then some H.n else im k) ho hla hr (.lay H.n ob vf (by simp) (hw.same hs) (hl.same hs) (by rw[hnew]) hown (by have:=I.step.n;simpa using this) (by omega) hd (jK.self o env _)) hst (λp op hne h=>?_) (λx y z hx hy=>?_) (λx z hx=>?_))
   ·cases h with
    |skip hw h=>exact .skip hw h
    |look dJ u hc hw hl hs1 h=>exact .look dJ u hc hw (hl.more Ac hold) hs1 h
    |still u hw hl h=>exact .still u hw hl h
    |lay id ob vf hid hw hl hat hown h0 hn' hd h=>exact .lay id ob vf (by simp[hne,hid]) hw hl (by rw[hold id (by omega)];exact hat) hown h0 (by omega) hd h
   ·by_cases e1:x=i<;>by_cases e2:y=i
    ·rw[e1,e2]
    ·simp only[e1,e2,if_true,if_false,Option.some.injEq]at hx hy;have:=I.Jb y z hy;omega
    ·simp only[e1,e2,if_true,if_false,Option.some.injEq]at hx hy;have:=I.Jb x z hx;omega
    ·simp only[e1,e2,if_false]at hx hy;exact I.inj x y z hx hy
   ·by_cases e1:x=i
    ·simp only[e1,if_true,Option.some.injEq]at hx;omega
    ·simp only[e1,if_false]at hx;have:=I.Jb x z hx;omega
  |turn v H1 ho ht hw hl hc hr=>exact⟨_,_,_,_,im,I,.inr (.inl ⟨i,_,rest,v,H1,rfl,ho,ht,hw,hl,hc,hr⟩)⟩
  |cJ v H1 ho ht hw hl=>exact⟨_,_,_,_,im,I,.inr (.inr ⟨i,_,rest,v,_,rfl,ho,ht,hw,hl,rfl,rfl,rfl⟩)⟩
end
end
section
variable {P:Program}
theorem tt{l:Array Bool}{i:Nat}(h:l.getD i false=true):l.getD i true=true:=by
 rcases Nat.lt_or_ge i l.size with hl|hl
 ·simpa[Array.getD_eq_getD_getElem?,Array.getElem?_eq_getElem hl]using h
 ·simp[Array.getD_eq_getD_getElem?,Array.getElem?_eq_none hl]at h
theorem getD_in{l:Array Bool}{i:Nat}(hl:i<l.size)(h:l.getD i true≠false):l.getD i false=true:=by
 simpa[Array.getD_eq_getD_getElem?,Array.getElem?_eq_getElem hl]using h
theorem yk(l:Array Bool)(i:Nat):(l.setIfInBounds i true).getD i true=true:=by
 rcases Nat.lt_or_ge i l.size with hl|hl
 ·simp[Array.getD_eq_getD_getElem?,Array.getElem?_setIfInBounds_self_of_lt hl]
 ·simp[Array.getD_eq_getD_getElem?,Array.getElem?_eq_none (show(l.setIfInBounds i true).size≤i by simpa using hl)]
theorem pz.back{suf:List Nat}{l:Array Bool}{i p:Nat}(h:pz suf (l.setIfInBounds i true) p):p≠i∧l.getD p true=false:=by
 have hne:p≠i:=λe=>by subst e;have:=h.1;rw[yk]at this;cases this
 exact⟨hne,by have:=h.1;rwa [getD_set_ne true (Ne.symm hne)]at this⟩
def jO(ops:Array Oper)(env:List AV):List AV:=ops.toList.foldl (λe o=>bU e o.dst .cU) env
theorem afw:∀(l:List Oper) (e1 e2:List AV),e1.length=e2.length→(∀t,(∃o∈l,o.dst=some t)∨e1[t]? = e2[t]?)→l.foldl (λe o=>bU e o.dst .cU) e1=l.foldl (λe o=>bU e o.dst .cU) e2
 |[],e1,e2,_,h=>List.ext_getElem? λt=>(h t).resolve_left (by simp)
 |o::l,e1,e2,hl,h=>by
  refine afw l _ _ (by rw[fF,fF,hl]) λt=>?_;show _∨(bU e1 o.dst .cU)[t]? = (bU e2 o.dst .cU)[t]?;by_cases e:o.dst=some t
  ·right;rw[e];rcases Nat.lt_or_ge t e1.length with ht|ht
   ·rw[pM ht,pM (by rw[←hl];exact ht)]
   ·rw[List.getElem?_eq_none (by rw[fF];exact ht),List.getElem?_eq_none (by rw[fF,←hl];exact ht)]
  ·rcases h t with⟨o',ho',hd⟩|h
   ·rcases List.mem_cons.1 ho' with rfl|ho'
    ·exact absurd hd e
    ·exact .inl ⟨o',ho',hd⟩
   ·right;rw[nB e,nB e,h]
theorem VL.cU{f:az}:∀{as:List AV}{vs:List Value},VL f as vs→∀t,VL f (as.set t .cU) vs
 |_,_,.nil,t=>.nil
 |_,_,.cons a v as vs h1 h2,0=>.cons _ _ _ _ (.cU _) h2
 |_,_,.cons a v as vs h1 h2,t+1=>.cons _ _ _ _ h1 (VL.cU h2 t)
theorem AR.cU{f:az}{env:List AV}{a:Act}(h:AR P f env a)(ops:Array Oper):AR P f (jO ops env) a:=by
 refine⟨?_,h.glob⟩;unfold jO;generalize ops.toList=l;have:=h.tmps;clear h
 induction l generalizing env with
 |nil=>exact this
 |cons o l ih=>
  refine ih ?_;show VL f (bU env o.dst .cU) _;cases o.dst with
  |none=>exact this
  |some t=>exact this.cU t
section
variable {ops:Array Oper}{f0:az}{H0:AH}{w0:World}{ds:List bO}{r:Option AV}{env':List AV}{H':AH}
theorem qa{listed:Array Bool}(down:∀i j,listed.getD i false=true→j∈fC ops i→listed.getD j false=true){i j:Nat}(hd:oO ops i j):(∀k∈fC ops i,listed.getD k false=true)→listed.getD j false=true:=by
 induction hd with
 |edge h=>exact λhr=>hr _ h
 |step h _ ih=>exact λhr=>ih λk hk=>down _ k (hr _ h) hk
variable {suf:List Nat}{chk:List jr}{env:List AV}{H:AH}{im:Nat→Option Nat}{listed:Array Bool}{f:az}{eA:List AV}{a:Act}{w:World}
theorem Inv.same(I:Inv P ops f0 H0 w0 ds r env' H' suf chk env H im listed f eA a w)(vm:∀i j t,i<ops.size→jq ops j=some t→t∈gf ops i→oO ops i j∨eS ops j=true)
  (down:∀i j,listed.getD i false=true→j∈fC ops i→listed.getD j false=true){i:Nat}{o:Oper}(ho:ops[i]? = some o) (hr:∀k∈fC ops i,listed.getD k false=true):Same ops o env eA:=λt ht=>by
 rcases I.agree t with⟨p,hp,hd⟩|h
 ·have:=qa down ((vm i p t (Array.getElem?_eq_some_iff.1 ho).1 hd (by rw[mi ho];exact ht)).resolve_right (by rw[I.late p hp];simp)) hr;have:=tt this;rw[hp.1]at this;cases this
 ·exact h
theorem US{o:Oper}{v:AV}{t:Tmp}(hl:eA.length=env.length)(h:o.dst=some t)(hv:jK o env v):(bU eA o.dst v)[t]? = env[t]?:=by
 rw[h];rcases Nat.lt_or_ge t env.length with ht|ht
 ·rw[pM (by rw[hl];exact ht),hv t h ht]
 ·rw[List.getElem?_eq_none (by rw[fF,hl];exact ht),List.getElem?_eq_none ht]
theorem Inv.J7(I:Inv P ops f0 H0 w0 ds r env' H' suf chk env H im listed f eA a w){i:Nat}(hi:pz suf listed i){o:Oper}(ho:ops[i]? = some o){f':az}{w':World}(hle:f.le f')(hst:Step f0 H0 w0 f' H w'){v:AV}{u:Value}(hu:VR f' v u)(hv:jK o env v)
  (hdom:∀p id,p≠i→im p=some id→¬f.dom id→¬f'.dom id):Inv P ops f0 H0 w0 ds r env' H' suf chk env H im (listed.setIfInBounds i true) f' (bU eA o.dst v) (a.put o.dst u) w':=by
 have hb:∀p,pz suf (listed.setIfInBounds i true) p→p≠i∧pz suf listed p:=λp hp=>⟨hp.back.1,hp.back.2,hp.2⟩
 refine⟨I.tr,hst,(I.ar.up hle).put o.dst hu,by rw[put_defers];exact I.dr.up hle,λt=>?_,by rw[fF];exact I.len,λp hp=>?_,λp hp=>I.Ja p (hb p hp).2,λp hp=>I.late p (hb p hp).2,λp hp=>?_,I.Ln,I.lin,I.ssa,I.inj,I.Jb⟩
 ·by_cases e:o.dst=some t
  ·exact .inr (US I.len e hv)
  ·rw[nB e];rcases I.agree t with⟨p,hp,hd⟩|h
   ·have hne:p≠i:=λe'=>by subst e';rw[jU ho]at hd;exact e hd
    exact .inl ⟨p,⟨by rw[getD_set_ne true (Ne.symm hne)];exact hp.1,hp.2⟩,hd⟩
   ·exact .inr h
 ·obtain⟨hne,hp⟩:=hb p hp;obtain⟨op,h1,h2⟩:=I.pend p hp;refine⟨op,h1,?_⟩;cases h2 with
  |skip hw h=>exact .skip hw h
  |look dJ u hc hw hl hs1 h=>exact .look dJ u hc hw hl hs1 h
  |still u hw hl h=>exact .still u hw hl h
  |lay id ob vf hid hw hl hat hown h0 hn hd h=>exact .lay id ob vf hid hw hl hat hown h0 hn (hdom p id hne hid hd) h
 ·have hne:i≠p:=λe=>hi.2 (e ▸ hp);rw[getD_set_ne true hne];exact I.BF p hp
theorem Inv.al9{i:Nat}{rest:List Nat}(I:Inv P ops f0 H0 w0 ds r env' H' (i::rest) chk env H im listed f eA a w){o:Oper}(ho:ops[i]? = some o)
  (down:∀i j,listed.getD i false=true→j∈fC ops i→listed.getD j false=true) (hrd:∀k∈fC ops i,listed.getD k false=true)
  {v:AV}{H1:AH}(hc:H1=H∨∀x∈chk,oO ops i x.1∨gO P ops x.2.1 x.2.2.1 x.2.2.2 H1) (tr:Tr P ops rest chk (bU env o.dst v) H1 r env' H'){f':az}{w':World}(s:Step f H w f' H1 w'){u:Value}(hu:VR f' v u) :
  Inv P ops f0 H0 w0 ds r env' H' rest chk (bU env o.dst v) H1 im (listed.setIfInBounds i true) f' (bU eA o.dst v) (a.put o.dst u) w':=by
 have jV:=List.nodup_cons.1 I.Ln;have hb:∀p,pz rest (listed.setIfInBounds i true) p→p≠i∧pz (i::rest) listed p:=λp hp=>
  ⟨hp.back.1,hp.back.2,λhm=>by rcases List.mem_cons.1 hm with h|h;exact hp.back.1 h;exact hp.2 h⟩
 refine⟨tr,gr.trans I.step s,(I.ar.up s.le).put o.dst hu,by rw[put_defers];exact I.dr.up s.le,λt=>?_,by rw[fF,fF];exact I.len,λp hp=>?_,λp hp j hj=>I.Ja p (hb p hp).2 j (by simp[hj]),λp hp=>I.late p (hb p hp).2,λp hp=>?_,jV.2,I.lin.2,I.ssa.2.2.2,I.inj,λx y h=>Nat.lt_of_lt_of_le (I.Jb x y h) s.n⟩
 ·by_cases e:o.dst=some t
  ·right;rw[e];rcases Nat.lt_or_ge t env.length with ht|ht
   ·rw[pM ht,pM (by rw[I.len];exact ht)]
   ·rw[List.getElem?_eq_none (by rw[fF,I.len];exact ht),List.getElem?_eq_none (by rw[fF];exact ht)]
  ·rw[nB e,nB e];rcases I.agree t with⟨p,hp,hd⟩|h
   ·have hne:p≠i:=λe'=>hp.2 (by simp[e']);exact .inl ⟨p,⟨by rw[getD_set_ne true (Ne.symm hne)];exact hp.1,λh=>hp.2 (by simp[h])⟩,hd⟩
   ·exact .inr h
 ·obtain⟨hne,hp⟩:=hb p hp;obtain⟨op,h1,h2⟩:=I.pend p hp;refine⟨op,h1,?_⟩;have hn:=λt ht=>(I.Ja p hp i (by simp) t ht).resolve_right (λe=>by
   have:=tt (qa down e.2 hrd);rw[hp.1]at this;cases this)
  rw[jU ho,jU h1,mi h1]at hn;have hs:Same ops op env (bU env o.dst v):=Same.put λt ht=>(hn t ht).1;have hv:∀{u:AV},jK op env u→jK op (bU env o.dst v) u:=λh=>h.put λt ht e=>(hn t e).2 ht;cases h2 with
  |skip hw h=>exact .skip (hw.same hs) (hv h)
  |look dJ u hcm hw hl hs1 h=>
   rcases hc with e|hc
   ·subst e;exact .look dJ u hcm (hw.same hs) (hl.same hs) (hs1.trans hs) (hv h)
   rcases hc _ hcm with hd|hl'
   ·have:=tt (qa down hd hrd);have hp1:=hp.1;simp only at this;rw[hp1]at this;cases this
   ·exact .look dJ u hcm (hw.same hs) ((gO.same hl' hs1).same hs) (hs1.trans hs) (hv h)
  |still u hw hl h=>exact .still u (hw.same hs) (λH=>(hl H).same hs) (hv h)
  |lay id ob vf hid hw hl hat hown h0 hn hd h=>
   refine .lay id ob vf hid (hw.same hs) (hl.same hs) ?_ hown h0 (Nat.lt_of_lt_of_le hn s.n) (s.new id hn hd) (hv h);have:=s.rest id hn hd;rw[AH.bG,AH.bG]at this;rw[this];exact hat
 ·have hne:i≠p:=λe=>jV.1 (e ▸ hp);rw[getD_set_ne true hne];exact I.BF p (by simp[hp])
theorem UT(I:Inv P ops f0 H0 w0 ds r env' H' suf chk env H im listed f eA a w)(vm:∀i j t,i<ops.size→jq ops j=some t→t∈gf ops i→oO ops i j∨eS ops j=true)
  (down:∀i j,listed.getD i false=true→j∈fC ops i→listed.getD j false=true){i:Nat}(hi:pz suf listed i) (hr:∀k∈fC ops i,listed.getD k false=true){Q:Exit→Act→World→Prop}{K:Act→World→Prop}
  (hK:∀f' afx a' w',Inv P ops f0 H0 w0 ds r env' H' suf chk env H im (listed.setIfInBounds i true) f' afx a' w'→K a' w'):wpOp P ops Q i K a w:=by
 obtain⟨o,ho,hpf⟩:=I.pend i hi;have hS:=I.same vm down ho hr;unfold wpOp;simp only[ho];cases hpf with
 |skip hw h=>
  rw[if_neg (by rw[hw f a eA I.ar hS];simp)];exact hK f _ _ w (I.J7 hi ho (.refl f) I.step (VR.undef f) h λ_ _ _ _ h=>h)
 |look dJ v hc hw hl hs1 h=>
  rw[if_pos (hw f a eA I.ar hS)];obtain⟨u,h1,h2⟩:=hl f w a eA I.step.rel.toHRQ I.ar hS;exact .inl (gV h1 (hK f _ _ w (I.J7 hi ho (.refl f) I.step h2 h λ_ _ _ _ h=>h)))
 |still v hw hl h=>
  rw[if_pos (hw f a eA I.ar hS)];obtain⟨u,h1,h2⟩:=hl H f w a eA I.step.rel.toHRQ I.ar hS;exact .inl (gV h1 (hK f _ _ w (I.J7 hi ho (.refl f) I.step h2 h λ_ _ _ _ h=>h)))
 |lay id ob vf hid hw hl hat hown h0 hn hd h=>
  rw[if_pos (hw f a eA I.ar hS)];obtain⟨u,obj,h1,lim,h2⟩:=hl f w a eA I.ar hS;obtain⟨h3,h4⟩:=h2 id hd;refine .inl (gV h1 (hK _ _ _ _ (I.J7 hi ho (f.oL hd w.heap.size 0 lim) (I.step.catch h0 hd hn (by rw[AH.bG,hat];exact h3)) h4 h λp id' hne am6 hnd hd'=>?_)));rcases hd' with e|hd'
  ·subst e;exact hne (I.inj _ _ _ am6 hid)
  ·exact hnd hd'
theorem oQ{i:Nat}{o:Oper}(ho:ops[i]? = some o){j:Nat}:j∈fC ops i↔∃e∈o.after,Region.binds .any e=true∧e.on=j:=by
 simp only[fC,ho,List.mem_map,List.mem_filter,Array.mem_toList_iff,and_assoc]
theorem Bi{i:Nat}{listed:Array Bool}(h:i∈Region.ready .any ops listed):listed.getD i true=false∧i<ops.size∧∀k∈fC ops i,listed.getD k false=true:=by
 obtain⟨h1,o,h2,h3⟩:=mem_ready.1 h;refine⟨h1,(Array.getElem?_eq_some_iff.1 h2).1,λk hk=>?_⟩;obtain⟨e,g1,g2,rfl⟩:=(oQ h2).1 hk;exact h3 e g1 g2
theorem CU{listed:Array Bool}(hs:listed.size=ops.size):∀(l seen:List Nat),(∀i∈l,i<ops.size)→Sl ops seen l→(∀j∈seen,listed.getD j false=true)→(∃i∈l,listed.getD i true=false)→∃i,i∈Region.ready .any ops listed
 |[],_,_,_,_,h=>by obtain⟨i,h,_⟩:=h;simp at h
 |i::l,seen,hl,ht,hse,h=>by
  by_cases e:listed.getD i true=false
  ·refine⟨i,mem_ready.2 ⟨e,?_⟩⟩;have hi:=hl i (by simp);refine⟨ops[i],Array.getElem?_eq_getElem hi,λx hx hb=>hse _ (ht.1 _ ((oQ (Array.getElem?_eq_getElem hi)).2 ⟨x,hx,hb,rfl⟩))⟩
  ·refine CU hs l (i::seen) (λj hj=>hl j (by simp[hj])) ht.2 (λj hj=>?_) ?_
   ·rcases List.mem_cons.1 hj with rfl|hj
    ·exact getD_in (by rw[hs];exact hl j (by simp)) e
    ·exact hse j hj
   ·obtain⟨j,hj,hu⟩:=h;rcases List.mem_cons.1 hj with rfl|hj
    ·exact absurd hu e
    ·exact⟨j,hj,hu⟩
structure Stat(ops:Array Oper)(order:List Nat):Prop where
 lt:∀i∈order,i<ops.size
 all:∀i,i<ops.size→i∈order
 am7:Sl ops [] order
 Ln:order.Nodup
 lin:Lin ops order
 ssa:Lj ops order
theorem Lj.vm:∀{l:List Nat},Lj ops l→∀i∈l,∀j∈l,∀t,jq ops j=some t→t∈gf ops i→oO ops i j∨eS ops j=true
 |[],_,i,hi,_,_,_,_,_=>by simp at hi
 |k::l,h,i,hi,j,hj,t,hd,hl=>by
  rcases List.mem_cons.1 hi with e1|h1<;>rcases List.mem_cons.1 hj with e2|h2
  ·subst e1;subst e2;exact absurd hl (h.2.2.1 t hd)
  ·subst e1;rcases h.1 j h2 t hd with g|g
   ·exact absurd hl g.1
   ·exact .inr g.1
  ·subst e2;exact .inl (h.2.1 i h1 t hd hl)
  ·exact Lj.vm h.2.2.2 i h1 j h2 t hd hl
def QOk(P:Program)(ops:Array Oper)(f0:az)(H0:AH)(w0:World)(ds:List bO)(r:Option AV)(env':List AV)(H':AH)(Q:Exit→Act→World→Prop):Prop:=
 match r with|none=>∀a' w',mg P f0 H0 w0 .normal env' ds H' .normal a' w'→Q .normal a' w'|some v=>∀ch a' w',mg P f0 H0 w0 (.cJ v) (jO ops env') ds H' (.panic ch) a' w'→Q (.panic ch) a' w'
theorem any_ok{order:List Nat}(S:Stat ops order){Q:Exit→Act→World→Prop}
  (hQ:QOk P ops f0 H0 w0 ds r env' H' Q) :
  ∀(fuel:Nat) (U:List Nat) (suf:List Nat) (chk:List jr) (env:List AV) (H:AH) (im:Nat→Option Nat) (listed:Array Bool) (f:az) (eA:List AV) (a:Act) (w:World),U.length=fuel→U.Nodup→(∀i,i∈U↔listed.getD i true=false)→listed.size=ops.size→
   (∀i j,listed.getD i false=true→j∈fC ops i→listed.getD j false=true)→Inv P ops f0 H0 w0 ds r env' H' suf chk env H im listed f eA a w→wpAny P .any ops Q fuel listed a w:=by
 have vm:∀i j t,i<ops.size→jq ops j=some t→t∈gf ops i→oO ops i j∨eS ops j=true:=λi j t hi hd hl=>by
  have hj:j<ops.size:=by
   rcases Nat.lt_or_ge j ops.size with h|h
   ·exact h
   ·simp[jq,Array.getElem?_eq_none h]at hd
  exact S.ssa.vm i (S.all i hi) j (S.all j hj) t hd hl
 have done:∀(suf:List Nat) (chk:List jr) (env:List AV) (H:AH) (im:Nat→Option Nat) (listed:Array Bool) (f:az) (eA:List AV) (a:Act) (w:World),listed.size=ops.size→Region.ready .any ops listed=[]→Inv P ops f0 H0 w0 ds r env' H' suf chk env H im listed f eA a w→Q .normal a w:=by
  intro suf chk env H im listed f eA a w hs hr I;have hno:∀i,i<ops.size→listed.getD i true≠false:=λi hi e=>by
   obtain⟨k,hk⟩:=CU hs order [] S.lt S.am7 (by simp) ⟨i,S.all i hi,e⟩;rw[hr]at hk;simp at hk
  have hin:∀i,listed.getD i true=false→i<ops.size:=λi h=>by
   rcases Nat.lt_or_ge i listed.size with hl|hl
   ·omega
   ·simp[Array.getD_eq_getD_getElem?,Array.getElem?_eq_none hl]at h
  obtain⟨BG,sq,dJ,H1,tq,I1,hd⟩:=I.UR;have hs1:BG=[]:=by
   cases BG with
   |nil=>rfl
   |cons x l=>have:=I1.BF x (by simp);exact absurd this (hno x (hin x this))
  subst hs1;rcases hd with⟨_,rfl,rfl,rfl⟩|⟨i,o,rest,v,H2,h,_⟩|⟨i,o,rest,v,H2,h,_⟩
  ·have e:eA=dJ:=List.ext_getElem? λt=>(I1.agree t).resolve_left λ⟨p,hp,_⟩=>hno p (hin p hp.1) hp.1;subst e;exact hQ a w ⟨f,I1.step,I1.ar,I1.dr,rfl⟩
  ·cases h
  ·cases h
 intro fuel
 induction fuel with
 |zero=>
  intro U suf chk env H im listed f eA a w hU _ hm hs down I;have hU':U=[]:=List.eq_nil_of_length_eq_zero hU;have hr:Region.ready .any ops listed=[]:=by
   cases h:Region.ready .any ops listed with
   |nil=>rfl
   |cons x l=>
    have:=(hm x).2 (Bi (h ▸ List.mem_cons_self:x∈Region.ready .any ops listed)).1;rw[hU']at this;simp at this
  exact⟨hr,done suf chk env H im listed f eA a w hs hr I⟩
 |succ fuel ih=>
  intro U suf chk env H im listed f eA a w hU hUn hm hs down I;refine⟨λhr=>done suf chk env H im listed f eA a w hs hr I,λi hi=>?_⟩;obtain⟨h1,h2,h3⟩:=Bi hi;have hgo:∀suf chk env H im f eA a w,Inv P ops f0 H0 w0 ds r env' H' suf chk env H im (listed.setIfInBounds i true) f eA a w→wpAny P .any ops Q fuel (listed.setIfInBounds i true) a w:=λsuf chk env H im f eA a w I=>by
   refine ih (U.erase i) suf chk env H im _ f eA a w ?_ (hUn.erase i) (λk=>?_) (by simpa using hs) (λx y hx hy=>?_) I
   ·rw[List.length_erase_of_mem ((hm i).2 h1),hU];rfl
   ·rw[hUn.mem_erase_iff,hm k];constructor
    ·rintro⟨g1,g2⟩;rw[getD_set_ne true (Ne.symm g1)];exact g2
    ·intro h;have hne:k≠i:=λe=>by subst e;rw[yk]at h;cases h
     exact⟨hne,by rwa [getD_set_ne true (Ne.symm hne)]at h⟩
   ·by_cases e:x=i
    ·subst e;exact getD_set_true (h3 y hy)
    ·rw[getD_set_ne false (Ne.symm e)]at hx;exact getD_set_true (down x y hx hy)
  obtain⟨BG,sq,dJ,H1,tq,I1,hd⟩:=I.UR;by_cases hin:i∈BG
  ·rcases hd with⟨rfl,_⟩|⟨k,o,rest,v,H2,rfl,ho,ht,hw,hl,hc,tr⟩|⟨k,o,rest,v,H2,rfl,ho,ht,hw,hl,rfl,rfl,rfl⟩
   ·simp at hin
   ·have e:i=k:=by
     rcases List.mem_cons.1 hin with e|e
     ·exact e
     ·have:=tt (qa down (I1.lin.1 ht i e) h3);rw[I1.BF k (by simp)]at this;cases this
    subst e;have hS:=I1.same vm down ho h3;unfold wpOp;simp only[ho];rw[if_pos (hw f a eA I1.ar hS)];exact .inl (hl f w a eA I1.step.rel I1.ar hS _ _ λf' w' u s hu=>hgo _ _ _ _ _ _ _ _ _ (I1.al9 ho down h3 hc tr s hu))
   ·have e:i=k:=by
     rcases List.mem_cons.1 hin with e|e
     ·exact e
     ·have:=tt (qa down (I1.lin.1 ht i e) h3);rw[I1.BF k (by simp)]at this;cases this
    subst e;have hS:=I1.same vm down ho h3;unfold wpOp;simp only[ho];rw[if_pos (hw f a eA I1.ar hS)];refine .inl (hl f w a eA I1.step.rel I1.ar hS _ _ λf' w' ch s hp=>hQ ch a w' ⟨f',gr.trans I1.step s,?_,I1.dr.up s.le,ch,rfl,hp⟩);have hpo:jO ops eA=jO ops dJ:=afw _ _ _ I1.len λt=>by
     rcases I1.agree t with⟨p,hp,hd⟩|h
     ·obtain⟨op,g1,_⟩:=I1.pend p hp;rw[jU g1]at hd;exact .inl ⟨op,by rw[Array.mem_toList_iff];exact Array.mem_of_getElem? g1,hd⟩
     ·exact .inr h
    rw[←hpo];exact(I1.ar.up s.le).cU ops
  ·exact UT I1 vm down ⟨h1,hin⟩ h3 λf' afx a' w' I2=>hgo _ _ _ _ _ _ _ _ _ I2
end
end
section
variable {P:Program}
def UU(ops:Array Oper)(seen:List Nat)(i:Nat):Bool:=(fC ops i).all λj=>seen.contains j
def HX(ops:Array Oper):Nat→List Nat→List Nat→List Nat
 |0,_,_=>[]
 |n+1,rem,seen=>
  match rem.find? λi=>UU ops seen i && !(fD ops i)with
  |some i=>i::HX ops n (rem.erase i) (i::seen)
  |none=>match rem.find? λi=>UU ops seen i with
   |some i=>i::HX ops n (rem.erase i) (i::seen)
   |none=>[]
def canon(ops:Array Oper):List Nat:=HX ops ops.size (List.range ops.size) []
def lF(ops:Array Oper)(order:List Nat)(ms:List (Nat×List Nat)):Bool:=
 (order.all λi=>Nat.blt i ops.size)&&((List.range ops.size).all λi=>order.contains i)&&J5 ops [] order&&nodupB order&&Sm ops ms order&&Sn ops ms order
theorem ou{ops:Array Oper}{order:List Nat}{ms:List (Nat×List Nat)}(hm:iH ops ms)(h:lF ops order ms=true):Stat ops order:=by
 simp only[lF,Bool.and_eq_true,List.all_eq_true]at h;obtain⟨⟨⟨⟨⟨h1,h2⟩,h3⟩,h4⟩,h5⟩,h6⟩:=h;exact⟨λi hi=>Nat.le_of_ble_eq_true (h1 i hi),λi hi=>by simpa using h2 i (List.mem_range.2 hi),Lk h3,yW h4,Q2 hm h5,Q3 hm h6⟩
theorem iH.nil(ops:Array Oper):iH ops []:=λi j h=>by simp[ph]at h
def tu(ops:Array Oper):List (Nat×List Nat):=masks ops (canon ops) []
theorem kG{ops:Array Oper}{order:List Nat}(S:Stat ops order){env:List AV}{ds:List bO}{H:AH}{r:Option AV}{env':List AV}{H':AH}(tr:Tr P ops order [] env H r env' H')
  {f:az}{w:World}{a:Act}(hr:HR f H w) (ha:AR P f env a) (hd:DR f ds a.defers){Q:Exit→Act→World→Prop}
  (hQ:QOk P ops f H w ds r env' H' Q) :
  wpAny P .any ops Q ops.size (Array.replicate ops.size false) a { w with drawn:=w.drawn+1 }:=by
 have hsz:(Array.replicate ops.size false).size=ops.size:=by simp
 have hget:∀i,(Array.replicate ops.size false).getD i true=false↔i<ops.size:=λi=>by
  rcases Nat.lt_or_ge i ops.size with hl|hl
  ·simp[Array.getD_eq_getD_getElem?,hl]
  ·simp[Array.getD_eq_getD_getElem?,hl]
 have hno:∀i,(Array.replicate ops.size false).getD i false=false:=λi=>by
  simp only[Array.getD_eq_getD_getElem?,Array.getElem?_replicate];split<;>rfl
 have hp:∀i,¬pz order (Array.replicate ops.size false) i:=λi h=>h.2 (S.all i ((hget i).1 h.1));refine any_ok S hQ ops.size (List.range ops.size) order [] env H (λ_=>none) _ f env a _ (by simp) List.nodup_range (λi=>by rw[hget,List.mem_range]) hsz (λi j h=>by rw[hno]at h;cases h) ?_;exact⟨tr,Step.drew hr (w.drawn+1),ha,hd,λt=>.inr rfl,rfl,λi h=>absurd h (hp i),λi h=>absurd h (hp i),λi h=>absurd h (hp i),λi hi=>(hget i).2 (S.lt i hi),S.Ln,S.lin,S.ssa,λ_ _ _ h=>(by cases h),λ_ _ h=>(by cases h)⟩
def bX(ops:Array Oper)(j i:Nat):Array Oper:=ops.modify j λo=>{ o with after:=o.after.push ⟨i,.data⟩ }
section
variable (ops:Array Oper)(j i:Nat)
theorem dK(k:Nat):(bX ops j i)[k]? = if j=k then (ops[k]?).map (λo=>{ o with after:=o.after.push ⟨i,.data⟩ }) else ops[k]?:=by
 unfold bX;rw[Array.getElem?_modify]
theorem gY:(bX ops j i).size=ops.size:=by simp[bX]
theorem BH(k:Nat):((bX ops j i)[k]?).bind Oper.dst=(ops[k]?).bind Oper.dst:=by
 rw[dK];split
 ·cases ops[k]?<;>rfl
 ·rfl
theorem CV(o:Oper):o.looksAt (bX ops j i)=o.looksAt ops:=by
 unfold Oper.looksAt;cases o.guard with
 |none=>rfl
 |some g=>simp only[BH]
theorem Qj(k:Nat):gf (bX ops j i) k=gf ops k:=by
 unfold gf;rw[dK];by_cases e:j=k
 ·rw[if_pos e];cases ops[k]? with
  |none=>rfl
  |some o=>exact CV ops j i o
 ·rw[if_neg e];cases ops[k]? with
  |none=>rfl
  |some o=>exact CV ops j i o
theorem So(k:Nat):jq (bX ops j i) k=jq ops k:=BH ops j i k
theorem CW{a b:Nat}(h:b∈fC ops a):b∈fC (bX ops j i) a:=by
 cases ha:ops[a]? with
 |none=>simp[fC,ha]at h
 |some o=>
  obtain⟨e,h1,h2,h3⟩:=(oQ ha).1 h;by_cases hj:j=a
  ·have:=dK ops j i a;rw[if_pos hj,ha]at this;exact(oQ this).2 ⟨e,by simp[h1],h2,h3⟩
  ·have:=dK ops j i a;rw[if_neg hj,ha]at this;exact(oQ this).2 ⟨e,h1,h2,h3⟩
theorem gZ:Like ops (bX ops j i) where
 dst:=BH ops j i
 dep:=λh=>by
  induction h with
  |edge h=>exact .edge (CW ops j i h)
  |step h _ ih=>exact .step (CW ops j i h) ih
 late:=λk=>by
  unfold eS;rw[dK,gY];simp only[Qj,So];by_cases e:j=k
  ·rw[if_pos e];cases ops[k]? with
   |none=>rfl
   |some o=>rfl
  ·rw[if_neg e]
theorem UW{k:Nat}{K:Act→World→Prop}{Q:Exit→Act→World→Prop}{a:Act}{w:World}(h:wpOp P (bX ops j i) Q k K a w):wpOp P ops Q k K a w:=by
 unfold wpOp at h ⊢;rw[dK,(gZ ops j i).yielded]at h;by_cases e:j=k
 ·rw[if_pos e]at h;cases hk:ops[k]? with
  |none=>rw[hk]at h;exact h
  |some o=>rw[hk]at h;exact h
 ·rw[if_neg e]at h;exact h
theorem Sp{k:Nat}{listed:Array Bool}(h:k∈Region.ready .any ops listed)(hj:k=j→listed.getD i false=true):k∈Region.ready .any (bX ops j i) listed:=by
 obtain⟨h1,o,h2,h3⟩:=mem_ready.1 h;refine mem_ready.2 ⟨h1,?_⟩;have:=dK ops j i k;by_cases e:j=k
 ·rw[if_pos e,h2]at this;refine⟨_,this,λe' he hb=>?_⟩;rcases Array.mem_push.1 he with he|rfl
  ·exact h3 e' he hb
  ·exact hj e.symm
 ·rw[if_neg e,h2]at this;exact⟨_,this,h3⟩
theorem HY{listed:Array Bool}(h:Region.ready .any ops listed=[]):Region.ready .any (bX ops j i) listed=[]:=by
 cases hr:Region.ready .any (bX ops j i) listed with
 |nil=>rfl
 |cons k l=>
  obtain⟨h1,o,h2,h3⟩:=mem_ready.1 (hr ▸ List.mem_cons_self:k∈Region.ready .any (bX ops j i) listed);have:=dK ops j i k;rw[h2]at this;have hk:k∈Region.ready .any ops listed:=by
   refine mem_ready.2 ⟨h1,?_⟩;split at this
   ·cases ho:ops[k]? with
    |none=>rw[ho]at this;cases this
    |some o'=>
     rw[ho]at this;cases this;exact⟨o',rfl,λe he hb=>h3 e (by simp[he]) hb⟩
   ·exact⟨o,this.symm,h3⟩
  rw[h]at hk;simp at hk
end
inductive nC(ops:Array Oper):Nat→Array Bool→List Nat→Prop
 |zero (l:Array Bool):nC ops 0 l []
 |nil (n:Nat) (l:Array Bool):Region.ready .any ops l=[]→nC ops (n+1) l []
 |cons (n:Nat) (l:Array Bool) (k:Nat) (L:List Nat):k∈Region.ready .any ops l→nC ops n (l.setIfInBounds k true) L→nC ops (n+1) l (k::L)
theorem nC.wp{ops:Array Oper}{Q:Exit→Act→World→Prop}{n:Nat}{l:Array Bool}{L:List Nat}(h:nC ops n l L):∀a w,wpAny P .any ops Q n l a w→wpOps P ops Q L a w:=by
 induction h with
 |zero l=>intro a w h;simpa[wpOps]using h.2
 |nil n l hr=>intro a w h;simpa[wpOps]using h.1 hr
 |cons n l k L hk _ ih=>intro a w h;rw[wpOps_cons];exact wpOp_mono (λa w=>ih a w) (h.2 k hk)
theorem uB{ops:Array Oper}:∀(n t:Nat) (l:Array Bool),nC ops n l (Region.linearise.go .any ops n t l []):=by
 intro n
 induction n with
 |zero=>intro t l;simp only[Region.linearise.go,List.reverse_nil];exact .zero l
 |succ n ih=>
  intro t l;simp only[Region.linearise.go]
  change nC ops (n+1) l (match (Region.ready .any ops l)[t%(Region.ready .any ops l).length]? with
   |some i=>Region.linearise.go .any ops n (t/(Region.ready .any ops l).length) (l.setIfInBounds i true) [i]
   |none=>[].reverse)
  cases hi:(Region.ready .any ops l)[t%(Region.ready .any ops l).length]? with
  |none=>
   refine .nil n l ?_;cases hr:Region.ready .any ops l with
   |nil=>rfl
   |cons x xs=>
    rw[hr]at hi;have hlt:t%(x::xs).length<(x::xs).length:=Nat.mod_lt _ (by simp);simp at hi;simp at hlt;omega
  |some i=>
   simp only[];rw[linearise_go_acc,List.reverse_singleton,List.singleton_append];exact .cons n l i _ (List.mem_of_getElem? hi) (ih _ _)
theorem nC.bX{ops:Array Oper}{j i:Nat}(hi:i<ops.size){n:Nat}{l:Array Bool}{L:List Nat}(h:nC ops n l L):l.size=ops.size→(∀L1 L2,L=L1++j::L2→l.getD i false=true∨i∈L1)→nC (Go.X.bX ops j i) n l L:=by
 induction h with
 |zero l=>intro _ _;exact .zero l
 |nil n l hr=>intro _ _;exact .nil n l (HY ops j i hr)
 |cons n l k L hk _ ih=>
  intro hs hb;refine .cons n l k L (Sp ops j i hk λe=>?_) (ih (by simpa using hs) λL1 L2 e=>?_)
  ·exact(hb [] L (by rw[e];rfl)).resolve_right (by simp)
  ·rcases hb (k::L1) L2 (by rw[e];rfl)with g|g
   ·exact .inl (getD_set_true g)
   ·rcases List.mem_cons.1 g with rfl|g
    ·left;simp[Array.getD_eq_getD_getElem?,show i<l.size by omega]
    ·exact .inr g
theorem bef{i j:Nat}(hij:i≠j)(L:List Nat):(∀L1 L2,L=L1++j::L2→i∈L1)∨(∀L1 L2,L=L1++i::L2→j∈L1):=by
 induction L with
 |nil=>exact .inl λL1 L2 h=>by simp at h
 |cons k L ih=>
  by_cases e1:k=i
  ·subst e1;refine .inl λL1 L2 h=>?_;cases L1 with
   |nil=>simp at h;exact absurd h.1 hij
   |cons x L1=>simp at h;simp[h.1]
  ·by_cases e2:k=j
   ·subst e2;refine .inr λL1 L2 h=>?_;cases L1 with
    |nil=>simp at h;exact absurd h.1.symm hij
    |cons x L1=>simp at h;simp[h.1]
   ·refine ih.imp (λg L1 L2 h=>?_) (λg L1 L2 h=>?_)
    ·cases L1 with
     |nil=>simp at h;exact absurd h.1 e2
     |cons x L1=>simp at h;exact List.mem_cons_of_mem _ (g L1 L2 h.2)
    ·cases L1 with
     |nil=>simp at h;exact absurd h.1 e1
     |cons x L1=>simp at h;exact List.mem_cons_of_mem _ (g L1 L2 h.2)
theorem jL{ops:Array Oper}{j i:Nat}{Q:Exit→Act→World→Prop}:∀{L:List Nat}{a:Act}{w:World},wpOps P (bX ops j i) Q L a w→wpOps P ops Q L a w
 |[],a,w,h=>by simpa[wpOps]using h
 |k::L,a,w,h=>by
  rw[wpOps_cons]at h ⊢;exact UW ops j i (wpOp_mono (λa w h=>jL h) h)
def vJ(P:Program)(t1 t2:TypeId)(p q:AV)(x:Prop):Prop:=
 match P.info? t1,P.info? t2 with
 |some i1,some i2=>og p λb o=>og q λb' o'=>bT (!(Nat.beq b b')||(Nat.ble (Nat.add o i1.size) o'||Nat.ble (Nat.add o' i2.size) o)) x
 |_,_=>False
theorem Bj{t1 t2:TypeId}{p v q u:AV}{H H1 bS H2 iO:AH}{x:Prop}(hx:vJ P t1 t2 p q x)(a:vC P t1 p v H H1)(b:vC P t2 q u H1 bS)(c:vC P t2 q u H H2)(d:vC P t1 p v H2 iO):x∧bS.sem=iO.sem:=by
 obtain⟨n1,b1,o1,i1,c1,m1,q1,c1',rfl,hi1,a1,a2,a3,a4,a5,a6⟩:=a;obtain⟨n2,b2,o2,i2,c2,m2,q2,c2',rfl,hi2,d1,d2,d3,d4,d5,d6⟩:=b;obtain⟨n3,b3,o3,i3,c3,m3,q3,c3',e,hi3,e1,e2,e3,e4,e5,e6⟩:=c;cases e;obtain⟨n4,b4,o4,i4,c4,m4,q4,c4',e,hi4,f1,f2,f3,f4,f5,f6⟩:=d;cases e;rw[hi2]at hi3;cases hi3;rw[hi1]at hi4;cases hi4;unfold vJ at hx;rw[hi1,hi2]at hx;obtain⟨hx,hx'⟩:=an (show bT (!(Nat.beq b1 b2)||(Nat.ble (Nat.add o1 i1.size) o2||Nat.ble (Nat.add o2 i2.size) o1)) x from hx);refine⟨hx',?_⟩;have hn:bS.n=iO.n:=by omega
 have hob:∀b,(bS.at b).sem=(iO.at b).sem:=λb=>by
  by_cases hb:b1=b2
  ·subst hb;rw[Nat.beq_refl]at hx;have hd:o1+i1.size≤o2∨o2+i2.size≤o1:=by
    simp only[Bool.not_true,Bool.false_or,Bool.or_eq_true]at hx;exact hx.imp Nat.le_of_ble_eq_true Nat.le_of_ble_eq_true
   by_cases hbb:b=b1
   ·subst hbb;rw[a2]at d1;cases d1;rw[a1]at e1;cases e1;rw[e2]at f1;cases f1;rw[d2,f2];simp only[cF.sem,gB.cells.injEq,and_true];funext k;by_cases k1:o1≤k∧k<o1+i1.size
    ·have hk:=f4 (k-o1) (by omega);have hk':=a4 (k-o1) (by omega);rw[show o1+(k-o1)=k by omega]at hk hk';rw[hk,d5 k (by omega),hk']
    ·by_cases k2:o2≤k∧k<o2+i2.size
     ·have hk:=d4 (k-o2) (by omega);have hk':=e4 (k-o2) (by omega);rw[show o2+(k-o2)=k by omega]at hk hk';rw[hk,f5 k (by omega),hk']
     ·rw[d5 k (by omega),a5 k (by omega),f5 k (by omega),e5 k (by omega)]
   ·rw[d6 b hbb,a6 b hbb,f6 b hbb,e6 b hbb]
  ·by_cases h1:b=b1
   ·subst h1;rw[d6 b hb,a2];rw[e6 b hb,a1]at f1;cases f1;rw[f2];simp only[cF.sem,gB.cells.injEq,and_true];funext k;by_cases k1:o1≤k∧k<o1+i1.size
    ·have hk:=f4 (k-o1) (by omega);have hk':=a4 (k-o1) (by omega);rw[show o1+(k-o1)=k by omega]at hk hk';rw[hk,hk']
    ·rw[a5 k (by omega),f5 k (by omega)]
   ·by_cases h2:b=b2
    ·subst h2;rw[f6 b (Ne.symm hb),e2];rw[a6 b (Ne.symm hb),e1]at d1;cases d1;rw[d2];simp only[cF.sem,gB.cells.injEq,and_true];funext k;by_cases k2:o2≤k∧k<o2+i2.size
     ·have hk:=d4 (k-o2) (by omega);have hk':=e4 (k-o2) (by omega);rw[show o2+(k-o2)=k by omega]at hk hk';rw[hk,hk']
     ·rw[d5 k (by omega),e5 k (by omega)]
    ·rw[d6 b h2,a6 b h1,f6 b h1,e6 b h2]
 unfold AH.sem;rw[hn];congr 1;funext b;exact hob b
def CX(o1 o2:Oper):Bool:=o1.dst.isNone&&o2.dst.isNone&&o1.guard.isNone&&o2.guard.isNone
def Ak(o:Oper)(k:TypeId→Operand→Operand→Prop):Prop:=match o.op with|.store t a x=>k t a x|_=>False
theorem Bk{o:Oper}{k:TypeId→Operand→Operand→Prop}(h:Ak o k):∃t a x,o.op=.store t a x∧k t a x:=by
 unfold Ak at h;split at h
 ·exact⟨_,_,_,by assumption,h⟩
 ·exact h.elim
def ad3(o:Option Oper)(k:Oper→Prop):Prop:=match o with|some o=>k o|none=>False
theorem Lo{o:Option Oper}{k:Oper→Prop}(h:ad3 o k):∃x,o=some x∧k x:=by
 cases o with
 |none=>exact h.elim
 |some x=>exact⟨x,rfl,h⟩
def pairT(P:Program)(ops aoJ ops2:Array Oper)(ms1 ms2:List (Nat×List Nat))(s1 s2:Nat)(chk:List jr)(env:List AV)(H:AH)(k:AH→Prop):Prop:=
 ad3 ops[s1]? λo1=>ad3 ops[s2]? λo2=>bT (CX o1 o2) <| Ak o1 λt1 a1 v1=>Ak o2 λt2 a2 v2=>
  oM P t1 (bu P.globals.size env a1) (bu P.globals.size env v1) H λH1=>oP P P.globals.size ms1 s1 H1 chk <|
  oM P t2 (bu P.globals.size env a2) (bu P.globals.size env v2) H1 λbS=>oP P P.globals.size ms1 s2 bS chk <|
  oM P t2 (bu P.globals.size env a2) (bu P.globals.size env v2) H λH2=>oP P P.globals.size ms2 s2 H2 chk <|
  oM P t1 (bu P.globals.size env a1) (bu P.globals.size env v1) H2 λiO=>oP P P.globals.size ms2 s1 iO chk <|
  vJ P t1 t2 (bu P.globals.size env a1) (bu P.globals.size env a2) (k bS)
def vK:List Nat→(List Nat→Nat→Nat→Prop)→Prop
 |[a,b],k=>k [] a b
 |x::l,k=>vK l λp a b=>k (x::p) a b
 |[],_=>False
theorem Bl:∀{l:List Nat}{k:List Nat→Nat→Nat→Prop},vK l k→∃p a b,l=p++[a,b]∧k p a b
 |[],_,h=>h.elim
 |[a,b],_,h=>⟨[],a,b,rfl,h⟩
 |[x],k,h=>by unfold vK at h;exact h.elim
 |x::y::z::l,k,h=>by
  unfold vK at h;obtain⟨p,a,b,e,h⟩:=Bl h;exact⟨x::p,a,b,by rw[e];rfl,h⟩
def afy(P:Program)(C:jJ):DT:=λops env ds H K=>
 vK (canon ops) λpre s1 s2=>
  bT (lF (bX ops s2 s1) (pre++[s1,s2]) (masks (bX ops s2 s1) (pre++[s1,s2]) [])) <|
  bT (lF (bX ops s1 s2) (pre++[s2,s1]) (masks (bX ops s1 s2) (pre++[s2,s1]) [])) <|
  jT C P P.globals.size ops (tu ops) pre [] env H (λchk env H=>pairT P ops (bX ops s2 s1) (bX ops s1 s2) (masks (bX ops s2 s1) (pre++[s1,s2]) []) (masks (bX ops s1 s2) (pre++[s2,s1]) []) s1 s2 chk env H λH=>K .normal env ds H) (λv env H=>K (.cJ v) (jO ops env) ds H)
theorem kP{ops:Array Oper}{o:Oper}{t:TypeId}{a x:Operand}(ho:o.op=.store t a x){env:List AV}{H:AH}{k:AH→Prop}(h:oM P t (bu P.globals.size env a) (bu P.globals.size env x) H k) :
  ∃H',k H'∧vC P t (bu P.globals.size env a) (bu P.globals.size env x) H H'∧yX P ops o env H bN H':=by
 obtain⟨H',h1,hS,h2⟩:=yE (P:=P) h;refine⟨H',h1,hS,λf w ac cG hr ha hs next Q hn=>?_⟩;have hst:=hs.stand ha;obtain⟨w',g1,g2⟩:=h2 f w _ _ hr (hst a (by simp[ho,Op.operands])) (hst x (by simp[ho,Op.operands]));exact gV (.inr ⟨by simp[execOp,ho,g1],rfl⟩) (hn f w' undef g2 (VR.undef f))
theorem Jc(ops:Array Oper)(j i:Nat)(env:List AV):jO (bX ops j i) env=jO ops env:=by
 have e:(bX ops j i).toList.map Oper.dst=ops.toList.map Oper.dst:=by
  refine List.ext_getElem? λk=>?_;rw[List.getElem?_map,List.getElem?_map,Array.getElem?_toList,Array.getElem?_toList,dK];split
  ·cases ops[k]?<;>rfl
  ·rfl
 have f:∀l:List Oper,l.foldl (λe o=>bU e o.dst .cU) env=(l.map Oper.dst).foldl (λe d=>bU e d .cU) env:=λl=>by rw[List.foldl_map]
 unfold jO;rw[f,f,e]
theorem ad4(hm:P.follows .mixedOrders=true)(C:jJ)(hC:oq P C):yO P (afy P C):=by
 intro id ops env ds H K h;obtain⟨pre,s1,s2,_,h⟩:=Bl h;obtain⟨ok1,h⟩:=an h;obtain⟨ok2,h⟩:=an h;have hms:iH ops (tu ops):=mh _ (iH.nil ops);have BI:iH (bX ops s2 s1) (masks (bX ops s2 s1) (pre++[s1,s2]) []):=mh _ (iH.nil _);have BJ:iH (bX ops s1 s2) (masks (bX ops s1 s2) (pre++[s2,s1]) []):=mh _ (iH.nil _);have S1:=ou BI ok1;have S2:=ou BJ ok2;have jV:s1≠s2∧s1∉pre∧s2∉pre:=by
  have:=S1.Ln;rw[List.nodup_append]at this;obtain⟨_,h2,h3⟩:=this;refine⟨by simpa using h2,λhp=>h3 s1 hp s1 (by simp) rfl,λhp=>h3 s2 hp s2 (by simp) rfl⟩
 have hl1:s1<ops.size:=by have:=S1.lt s1 (by simp);rwa [gY]at this
 have hl2:s2<ops.size:=by have:=S1.lt s2 (by simp);rwa [gY]at this
 rcases kO hC hms _ _ _ _ (by simp) h with⟨chk,env',H0,hk,hct,g⟩|⟨v,env',H',hk,g⟩
 ·obtain⟨o1,ho1,hk⟩:=Lo hk;obtain⟨o2,ho2,hk⟩:=Lo hk;obtain⟨hp,hk⟩:=an hk;simp only[CX,Bool.and_eq_true,Option.isNone_iff_eq_none]at hp;obtain⟨⟨⟨hd1,hd2⟩,hg1⟩,hg2⟩:=hp;obtain⟨t1,a1,v1,e1,hk⟩:=Bk hk;obtain⟨t2,a2,v2,e2,hk⟩:=Bk hk;have ht1:turns o1=true:=by simp[turns,e1]
  have ht2:turns o2=true:=by simp[turns,e2]
  have q11:(bX ops s2 s1)[s1]? = some o1:=by rw[dK,if_neg (Ne.symm jV.1),ho1]
  have q12:(bX ops s2 s1)[s2]? = some { o2 with after:=o2.after.push ⟨s1,.data⟩ }:=by rw[dK,if_pos rfl,ho2];rfl
  have q22:(bX ops s1 s2)[s2]? = some o2:=by rw[dK,if_neg jV.1,ho2]
  have UX:(bX ops s1 s2)[s1]? = some { o1 with after:=o1.after.push ⟨s2,.data⟩ }:=by rw[dK,if_pos rfl,ho1];rfl
  obtain⟨H1,hk,A1,T1⟩:=kP (ops:=bX ops s2 s1) e1 hk;obtain⟨hk,C1⟩:=pL BI hct hk;obtain⟨bS,hk,A2,T2⟩:=kP (ops:=bX ops s2 s1) (o:={ o2 with after:=o2.after.push ⟨s1,.data⟩ }) e2 hk;obtain⟨hk,C2⟩:=pL BI hct hk;obtain⟨H2,hk,A3,T3⟩:=kP (ops:=bX ops s1 s2) e2 hk;obtain⟨hk,C3⟩:=pL BJ hct hk;obtain⟨iO,hk,A4,T4⟩:=kP (ops:=bX ops s1 s2) (o:={ o1 with after:=o1.after.push ⟨s2,.data⟩ }) e1 hk;obtain⟨hk,C4⟩:=pL BJ hct hk;obtain⟨hk,ad5⟩:=Bj hk A1 A2 A3 A4;have xv:∀i∈pre,(bX ops s2 s1)[i]? = ops[i]?:=λi hi=>by rw[dK,if_neg (λe:s2=i=>jV.2.2 (by rw[e];exact hi))]
  have xw:∀i∈pre,(bX ops s1 s2)[i]? = ops[i]?:=λi hi=>by rw[dK,if_neg (λe:s1=i=>jV.2.1 (by rw[e];exact hi))]
  have Lp:bU env' o1.dst bN=env':=by rw[hd1];rfl
  have Lq:bU env' o2.dst bN=env':=by rw[hd2];rfl
  have tr1:=g _ (gZ ops s2 s1) xv [s1,s2] none env' bS (.turn bN H1 q11 (gQ q11 ht1) (.of_none hg1) T1 (.inr C1)
   (by rw[Lp];exact .turn bN bS q12 (gQ q12 ht2) (.of_none hg2) T2 (.inr C2) (by show Tr P _ [] chk (bU env' o2.dst bN) bS none env' bS;rw[Lq];exact .nil _ _ _)))
  have tr2:=g _ (gZ ops s1 s2) xw [s2,s1] none env' iO (.turn bN H2 q22 (gQ q22 ht2) (.of_none hg2) T3 (.inr C3)
   (by rw[Lq];exact .turn bN iO UX (gQ UX ht1) (.of_none hg1) T4 (.inr C4) (by show Tr P _ [] chk (bU env' o1.dst bN) iO none env' iO;rw[Lp];exact .nil _ _ _)))
  refine⟨.normal,env',ds,bS,hk,λf w a hr ha hd Q hq=>wp_region_draw λt=>?_⟩;simp only[Region.schedule,hm,Bool.true_or,if_true];have hv:=uB (ops:=ops) ops.size t (Array.replicate ops.size false);generalize hL:Region.linearise.go .any ops ops.size t (Array.replicate ops.size false) []=L at hv;show wpOps P ops Q (Region.linearise.go .any ops ops.size t (Array.replicate ops.size false) []) a _;rw[hL];rcases bef jV.1 L with hb|hb
  ·have w1:=kG S1 tr1 hr ha hd (Q:=Q) λa' w' hx=>hq _ _ _ hx;rw[gY]at w1;exact jL ((hv.bX (j:=s2) (i:=s1) hl1 (by simp) λL1 L2 e=>.inr (hb L1 L2 e)).wp _ _ w1)
  ·have w2:=kG S2 tr2 hr ha hd (Q:=Q) λa' w' hx=>hq _ _ _ (by
    unfold mg at hx ⊢;obtain⟨f',s,hx⟩:=hx;refine⟨f',?_,hx⟩;unfold Step at s ⊢;rw[ad5];exact s)
   rw[gY]at w2;exact jL ((hv.bX (j:=s1) (i:=s2) hl2 (by simp) λL1 L2 e=>.inr (hb L1 L2 e)).wp _ _ w2)
 ·have xv:∀i∈pre,(bX ops s2 s1)[i]? = ops[i]?:=λi hi=>by rw[dK,if_neg (λe:s2=i=>jV.2.2 (by rw[e];exact hi))]
  have xw:∀i∈pre,(bX ops s1 s2)[i]? = ops[i]?:=λi hi=>by rw[dK,if_neg (λe:s1=i=>jV.2.1 (by rw[e];exact hi))]
  have tr1:=g _ (gZ ops s2 s1) xv [s1,s2];have tr2:=g _ (gZ ops s1 s2) xw [s2,s1];refine⟨.cJ v,_,ds,H',hk,λf w a hr ha hd Q hq=>wp_region_draw λt=>?_⟩;simp only[Region.schedule,hm,Bool.true_or,if_true];have hv:=uB (ops:=ops) ops.size t (Array.replicate ops.size false);generalize hL:Region.linearise.go .any ops ops.size t (Array.replicate ops.size false) []=L at hv;show wpOps P ops Q (Region.linearise.go .any ops ops.size t (Array.replicate ops.size false) []) a _;rw[hL];rcases bef jV.1 L with hb|hb
  ·have w1:=kG S1 tr1 hr ha hd (Q:=Q) λch a' w' hx=>hq _ _ _ (by rw[Jc]at hx;exact hx);rw[gY]at w1;exact jL ((hv.bX (j:=s2) (i:=s1) hl1 (by simp) λL1 L2 e=>.inr (hb L1 L2 e)).wp _ _ w1)
  ·have w2:=kG S2 tr2 hr ha hd (Q:=Q) λch a' w' hx=>hq _ _ _ (by rw[Jc]at hx;exact hx);rw[gY]at w2;exact jL ((hv.bX (j:=s1) (i:=s2) hl2 (by simp) λL1 L2 e=>.inr (hb L1 L2 e)).wp _ _ w2)
def afz(P:Program)(C:jJ):DT:=λops env ds H K=>
 bI (lF ops (canon ops) (tu ops)) (jT C P P.globals.size ops (tu ops) (canon ops) [] env H (λ_ env H=>K .normal env ds H) (λv env H=>K (.cJ v) (jO ops env) ds H)) (afy P C ops env ds H K)
theorem ad6(hm:P.follows .mixedOrders=true)(C:jJ)(hC:oq P C):yO P (afz P C):=by
 intro id ops env ds H K h;rcases bZ h with⟨hok,h⟩|⟨_,h⟩
 case inr=>exact ad4 hm C hC id ops env ds H K h
 have hms:iH ops (tu ops):=mh _ (iH.nil ops);have S:=ou hms hok;rcases kO hC hms _ _ _ _ (by simp) h with⟨Lm,env',H',hk,_,g⟩|⟨v,env',H',hk,g⟩
 ·have tr:=g ops (.refl ops) (λ_ _=>rfl) [] _ _ _ (.nil _ _ _);rw[List.append_nil]at tr;exact⟨.normal,env',ds,H',hk,λf w a hr ha hd Q hq=>wp_region_any hm (kG S tr hr ha hd λa' w' hx=>hq _ _ _ hx)⟩
 ·have tr:=g ops (.refl ops) (λ_ _=>rfl) [];rw[List.append_nil]at tr;exact⟨.cJ v,_,ds,H',hk,λf w a hr ha hd Q hq=>wp_region_any hm (kG S tr hr ha hd λch a' w' hx=>hq _ _ _ hx)⟩
end
section
inductive Fr where
 |seq (p:List Nat) (c:Code)
 |blk (id:Nat)
 |loop (p:List Nat) (c:Code)
 |scope (p:List Nat) (c:Code)
def kQ(p:List Nat):Code→List Fr→Nat→Option (Code×List Fr)
 |.seq a b,st,0=>some (a,.seq (1::p) b::st)
 |.seq _ b,st,1=>some (b,st)
 |.cond _ a _,st,0=>some (a,st)
 |.cond _ _ b,st,1=>some (b,st)
 |.block id c,st,0=>some (c,.blk id::st)
 |.loop c,st,0=>some (c,.loop p c::st)
 |.scope c,st,0=>some (c,.scope p c::st)
 |.scope c,st,l+2=>(match findLabel c l with|some r=>some (r,.scope p c::st)|none=>none)
 |_,_,_=>none
def xy(body:Code):List Nat→Option (Code×List Fr)
 |[]=>some (body,[])
 |b::p=>match xy body p with
  |some (c,st)=>kQ p c st b
  |none=>none
def Lr:List Nat→List Nat→Bool
 |[],[]=>true
 |a::p,b::q=>Nat.beq a b&&Lr p q
 |_,_=>false
theorem UY:∀{p q:List Nat},Lr p q=true→p=q
 |[],[],_=>rfl
 |[],_::_,h=>by simp[Lr]at h
 |_::_,[],h=>by simp[Lr]at h
 |a::p,b::q,h=>by
  simp only[Lr,Bool.and_eq_true]at h;rw[Nat.eq_of_beq_eq_true h.1,UY h.2]
abbrev yY:=List AV→List bO→AH→Prop
abbrev GT:=List Nat→Code→List Fr→yY
section
def oJ(g:GT)(K:KT):List Fr→Out→yY
 |[],o,env,ds,H=>K o env ds H
 |.seq p c::st,o,env,ds,H=>match o with|.normal=>g p c st env ds H|o=>oJ g K st o env ds H
 |.blk id::st,o,env,ds,H=>match o with|.exit i=>bI (Nat.beq i id) (oJ g K st .normal env ds H) (oJ g K st (.exit i) env ds H)|o=>oJ g K st o env ds H
 |.loop p c::st,o,env,ds,H=>match o with|.normal=>g p (.loop c) st env ds H|o=>oJ g K st o env ds H
 |.scope p c::st,o,env,ds,H=>match o with|.goto l=>UM (findLabel c l) (λr=>g ((l+2)::p) r (.scope p c::st) env ds H) (oJ g K st (.goto l) env ds H)|o=>oJ g K st o env ds H
def CY(C:jJ)(D:DT)(P:Program)(G:Nat)(g:GT)(K:KT):GT:=λp c st env ds H=>
 match c with
 |.skip=>oJ g K st .normal env ds H
 |.region _ ops draw=>bI draw (D ops env ds H (λo env ds H=>oJ g K st o env ds H)) (vH C P G ops ops.toList env ds H (λo env ds H=>oJ g K st o env ds H))
 |.seq a b=>g (0::p) a (.seq (1::p) b::st) env ds H
 |.cond c a b=>nx (bu G env c) (g (0::p) a st env ds H) (g (1::p) b st env ds H)
 |.block id b=>g (0::p) b (.blk id::st) env ds H
 |.loop b=>g (0::p) b (.loop p b::st) env ds H
 |.scope b=>g (0::p) b (.scope p b::st) env ds H
 |.goto l=>oJ g K st (.goto l) env ds H
 |.exit id=>oJ g K st (.exit id) env ds H
 |.label _=>oJ g K st .normal env ds H
 |.ret=>oJ g K st .ret env ds H
 |_=>False
abbrev Tbl:=List (List Nat×yY)
def CZ:Tbl→List Nat→Option yY
 |[],_=>none
 |(m,F)::r,n=>bif Lr m n then some F else CZ r n
def goX(C:jJ)(D:DT)(P:Program)(G:Nat)(t:Tbl)(K:KT)(n:Nat):GT:=Nat.rec (motive:=λ_=>GT) (λ_ _ _ _ _ _=>False)
 (λ_ ih p c st env ds H=>match CZ t p with|some F=>F env ds H|none=>CY C D P G ih K p c st env ds H) n
def afA(o:Option (Code×List Fr))(k:Code→List Fr→Prop):Prop:=match o with|some (c,st)=>k c st|none=>False
def Ls(C:jJ)(D:DT)(P:Program)(G:Nat)(body:Code)(t:Tbl)(K:KT)(n:Nat)(p:List Nat):yY:=λenv ds H=>
 afA (xy body p) λc st=>CY C D P G (goX C D P G t K n) K p c st env ds H
end
variable {P:Program}
def C0(P:Program)(n:Nat)(c:Code)(Q:Exit→Act→World→Prop)(a:Act)(w:World):Prop:=match c with|.loop b=>LI P b Q n a w|c=>c.wp P Q a w
def kz(P:Program)(n:Nat):List Fr→(Exit→Act→World→Prop)→(Exit→Act→World→Prop)
 |[],Q=>Q
 |.seq _ c::st,Q=>λe a w=>match e with|.normal=>C0 P n c (kz P n st Q) a w|e=>kz P n st Q e a w
 |.blk id::st,Q=>Exit.inBlock id (kz P n st Q)
 |.loop _ c::st,Q=>λe a w=>match e with|.normal=>LI P c (kz P n st Q) n a w|e=>kz P n st Q e a w
 |.scope _ c::st,Q=>λe a w=>match e with|.goto l=>(match findLabel c l with|some r=>yj P c (kz P n st Q) n r a w|none=>kz P n st Q (.goto l) a w)|e=>kz P n st Q e a w
theorem Al{c:Code}{Q Q':Exit→Act→World→Prop}(hq:∀e a w,Q e a w→Q' e a w):∀{n m:Nat},n≤m→∀{a w},LI P c Q n a w→LI P c Q' m a w
 |0,_,_,_,_,h=>h.elim
 |n+1,0,hl,_,_,_=>absurd hl (by omega)
 |n+1,m+1,hl,a,w,h=>by
  unfold LI at h ⊢;refine Code.wp_mono (λe a w h=>?_) h;cases e<;>first|exact Al hq (Nat.le_of_succ_le_succ hl) h|exact hq _ _ _ h
theorem BK{c:Code}{Q Q':Exit→Act→World→Prop}(hq:∀e a w,Q e a w→Q' e a w):∀{n m:Nat},n≤m→∀{r a w},yj P c Q n r a w→yj P c Q' m r a w
 |0,_,_,_,_,_,h=>h.elim
 |n+1,0,hl,_,_,_,_=>absurd hl (by omega)
 |n+1,m+1,hl,r,a,w,h=>by
  unfold yj at h ⊢;refine Code.wp_mono (λe a w h=>?_) h;cases e with
  |goto l=>
   simp only at h ⊢;cases hf:findLabel c l with
   |none=>rw[hf]at h;exact hq _ _ _ h
   |some r'=>rw[hf]at h;exact BK hq (Nat.le_of_succ_le_succ hl) h
  |_=>exact hq _ _ _ h
theorem ad7{c:Code}{Q Q':Exit→Act→World→Prop}(hq:∀e a w,Q e a w→Q' e a w){n m:Nat}(hl:n≤m){a:Act}{w:World}(h:C0 P n c Q a w):C0 P m c Q' a w:=by
 unfold C0 at h ⊢;split at h
 ·exact Al hq hl h
 ·exact Code.wp_mono hq h
theorem gg{n m:Nat}(hl:n≤m):∀{st:List Fr}{Q:Exit→Act→World→Prop}{e:Exit}{a:Act}{w:World},kz P n st Q e a w→kz P m st Q e a w
 |[],_,_,_,_,h=>h
 |.seq _ c::st,Q,e,a,w,h=>by
  cases e<;>first|exact ad7 (λe a w h=>gg hl h) hl h|exact gg hl (st:=st) h
 |.blk id::st,Q,e,a,w,h=>by
  unfold kz Exit.inBlock at h ⊢;cases e<;>try exact gg hl h
  rename_i i;simp only at h ⊢;split at h<;>rename_i hi
  ·rw[if_pos hi];exact gg hl h
  ·rw[if_neg hi];exact gg hl h
 |.loop _ c::st,Q,e,a,w,h=>by
  cases e<;>first|exact Al (λe a w h=>gg hl h) hl h|exact gg hl (st:=st) h
 |.scope _ c::st,Q,e,a,w,h=>by
  cases e with
  |goto l=>
   simp only[kz]at h ⊢;cases hf:findLabel c l with
   |none=>rw[hf]at h;exact gg hl h
   |some r'=>rw[hf]at h;exact BK (λe a w h=>gg hl h) hl h
  |_=>exact gg hl (st:=st) h
theorem vL{n:Nat}{c:Code}{Q:Exit→Act→World→Prop}{a:Act}{w:World}(h:C0 P n c Q a w):c.wp P Q a w:=by
 unfold C0 at h;split at h
 ·exact wp_loop_rounds h
 ·exact h
theorem Lt{n:Nat}{c:Code}(hn:∀b,c≠.loop b){Q:Exit→Act→World→Prop}{a:Act}{w:World}(h:c.wp P Q a w):C0 P n c Q a w:=by
 unfold C0;split
 ·exact absurd rfl (hn _)
 ·exact h
def EO(f:az)(o:Out)(e:Exit):Prop:=match o with|.normal=>e=.normal|.exit id=>e=.exit id|.goto l=>e=.goto l|.ret=>e=.ret|.cJ v=>∃ch,e=.panic ch∧xp f v ch
def vM(P:Program)(c:Code)(st:List Fr)(K:KT)(env:List AV)(ds:List bO)(H:AH):Prop:=∃n,fX P env ds H K λa w Q=>C0 P n c (kz P n st Q) a w
def aiY(P:Program)(st:List Fr)(K:KT)(o:Out)(env:List AV)(ds:List bO)(H:AH):Prop:=∃n o' env' ds' H',K o' env' ds' H'∧∀f w a e,HR f H w→AR P f env a→DR f ds a.defers→EO f o e→∀Q:Exit→Act→World→Prop,(∀e a' w',mg P f H w o' env' ds' H' e a' w'→Q e a' w')→kz P n st Q e a w
theorem mg.outOf{f:az}{H:AH}{w:World}{o:Out}{env:List AV}{ds:List bO}{H':AH}{e:Exit}{a:Act}{w':World}(h:mg P f H w o env ds H' e a w') :
  ∃f',Step f H w f' H' w'∧AR P f' env a∧DR f' ds a.defers∧EO f' o e:=by
 obtain⟨f',h1,h2,h3,h4⟩:=h;exact⟨f',h1,h2,h3,by cases o<;>exact h4⟩
theorem vM.qL{c:Code}{st:List Fr}{K:KT}{env:List AV}{ds:List bO}{H:AH}(hn:∀b,c≠.loop b)
  (h:fX P env ds H (λo env ds H=>aiY P st K o env ds H) λa w Q=>c.wp P Q a w):vM P c st K env ds H:=by
 obtain⟨o,dJ,ds1,H1,⟨n,o',env',ds',H',g1,g2⟩,h2⟩:=h;refine⟨n,o',env',ds',H',g1,λf w a hr ha hd Q hQ=>Lt hn (h2 f w a hr ha hd _ λe a' w' hx=>?_)⟩;obtain⟨f',s,y1,y2,y3⟩:=hx.outOf;exact g2 f' w' a' e s.rel y1 y2 y3 Q λe a2 w2 hx=>hQ _ _ _ (hx.after s)
inductive Pos(body:Code):List Nat→Code→List Fr→Prop where
 |root:Pos body [] body []
 |step {p c st b c' st'}:Pos body p c st→kQ p c st b=some (c',st')→Pos body (b::p) c' st'
theorem Pos.sub{body:Code}{p:List Nat}{c:Code}{st:List Fr}(h:Pos body p c st):xy body p=some (c,st):=by
 induction h with
 |root=>rfl
 |step h1 h2 ih=>simp only[xy,ih,h2]
theorem Pos.of_sub{body:Code}:∀{p:List Nat}{c:Code}{st:List Fr},xy body p=some (c,st)→Pos body p c st
 |[],c,st,h=>by simp only[xy,Option.some.injEq,Prod.mk.injEq]at h;obtain⟨rfl,rfl⟩:=h;exact .root
 |b::p,c,st,h=>by
  simp only[xy]at h;split at h
  ·rename_i c0 st0 h0;exact .step (Pos.of_sub h0) h
  ·cases h
inductive qb(body:Code):List Fr→Prop where
 |nil:qb body []
 |seq {p c st}:Pos body p c st→qb body st→qb body (.seq p c::st)
 |blk {id st}:qb body st→qb body (.blk id::st)
 |loop {p c st}:Pos body p (.loop c) st→qb body st→qb body (.loop p c::st)
 |scope {p c st}:Pos body p (.scope c) st→qb body st→qb body (.scope p c::st)
theorem Sq{p:List Nat}{a b:Code}{st:List Fr}{k:Nat}{c':Code}{st':List Fr}(h:kQ p (.seq a b) st k=some (c',st')):(st'=.seq (1::p) b::st)∨st'=st:=by
 rcases k with _|_|k
 ·simp only[kQ,Option.some.injEq,Prod.mk.injEq]at h;exact .inl h.2.symm
 ·simp only[kQ,Option.some.injEq,Prod.mk.injEq]at h;exact .inr h.2.symm
 ·simp[kQ]at h
theorem Pos.stack{body:Code}{p:List Nat}{c:Code}{st:List Fr}(h:Pos body p c st):qb body st:=by
 induction h with
 |root=>exact .nil
 |@step p c st b c' st' h1 h2 ih=>
  have g:=λx y z=>@Pos.step body p c st x y z h1;cases c with
  |seq a b'=>
   rcases Sq h2 with rfl|rfl
   ·exact .seq (g 1 _ _ rfl) ih
   ·exact ih
  |cond x a b'=>
   rcases b with _|_|b<;>simp only[kQ,Option.some.injEq,Prod.mk.injEq,reduceCtorEq]at h2
   ·obtain⟨_,rfl⟩:=h2;exact ih
   ·obtain⟨_,rfl⟩:=h2;exact ih
  |block id a=>
   rcases b with _|b<;>simp only[kQ,Option.some.injEq,Prod.mk.injEq,reduceCtorEq]at h2
   obtain⟨_,rfl⟩:=h2;exact .blk ih
  |loop a=>
   rcases b with _|b<;>simp only[kQ,Option.some.injEq,Prod.mk.injEq,reduceCtorEq]at h2
   obtain⟨_,rfl⟩:=h2;exact .loop h1 ih
  |scope a=>
   rcases b with _|_|b
   ·simp only[kQ,Option.some.injEq,Prod.mk.injEq]at h2;obtain⟨_,rfl⟩:=h2;exact .scope h1 ih
   ·simp[kQ]at h2
   ·simp only[kQ]at h2;split at h2
    ·simp only[Option.some.injEq,Prod.mk.injEq]at h2;obtain⟨_,rfl⟩:=h2;exact .scope h1 ih
    ·cases h2
  |_=>rcases b with _|_|b<;>simp[kQ]at h2
abbrev GOk(P:Program)(body:Code)(K:KT)(g:GT):Prop:=∀p c st env ds H,Pos body p c st→g p c st env ds H→vM P c st K env ds H
theorem js{body:Code}{K:KT}{g:GT}(hg:GOk P body K g):∀{st:List Fr}{o:Out}{env:List AV}{ds:List bO}{H:AH},qb body st→oJ g K st o env ds H→aiY P st K o env ds H
 |[],o,env,ds,H,_,h=>⟨0,o,env,ds,H,h,λf w a e hr ha hd he Q hQ=>hQ _ _ _ ⟨f,Step.refl hr,ha,hd,by cases o<;>exact he⟩⟩
 |.seq p c::st,o,env,ds,H,hs,h=>by
  cases hs with
  |seq h1 h2=>
   cases o with
   |normal=>
    obtain⟨n,o',env',ds',H',g1,g2⟩:=hg p c st env ds H h1 h;exact⟨n,o',env',ds',H',g1,λf w a e hr ha hd he Q hQ=>by cases he;exact g2 f w a hr ha hd Q hQ⟩
   |_=>
    obtain⟨n,o',env',ds',H',g1,g2⟩:=js hg h2 h;refine⟨n,o',env',ds',H',g1,λf w a e hr ha hd he Q hQ=>?_⟩;have:=g2 f w a e hr ha hd he Q hQ
    first|(cases he;exact this)|(obtain⟨ch,rfl,_⟩:=he;exact this)
 |.loop p c::st,o,env,ds,H,hs,h=>by
  cases hs with
  |loop h1 h2=>
   cases o with
   |normal=>
    obtain⟨n,o',env',ds',H',g1,g2⟩:=hg p (.loop c) st env ds H h1 h;exact⟨n,o',env',ds',H',g1,λf w a e hr ha hd he Q hQ=>by cases he;exact g2 f w a hr ha hd Q hQ⟩
   |_=>
    obtain⟨n,o',env',ds',H',g1,g2⟩:=js hg h2 h;refine⟨n,o',env',ds',H',g1,λf w a e hr ha hd he Q hQ=>?_⟩;have:=g2 f w a e hr ha hd he Q hQ
    first|(cases he;exact this)|(obtain⟨ch,rfl,_⟩:=he;exact this)
 |.blk id::st,o,env,ds,H,hs,h=>by
  cases hs with
  |blk h2=>
   cases o with
   |exit i=>
    rcases bZ h with⟨hi,h⟩|⟨hi,h⟩
    ·obtain⟨n,o',env',ds',H',g1,g2⟩:=js hg h2 h;refine⟨n,o',env',ds',H',g1,λf w a e hr ha hd he Q hQ=>?_⟩;cases he;have:=g2 f w a .normal hr ha hd rfl Q hQ;simp only[kz,Exit.inBlock];rw[if_pos (Nat.eq_of_beq_eq_true hi)];exact this
    ·obtain⟨n,o',env',ds',H',g1,g2⟩:=js hg h2 h;refine⟨n,o',env',ds',H',g1,λf w a e hr ha hd he Q hQ=>?_⟩;cases he;have:=g2 f w a (.exit i) hr ha hd rfl Q hQ;simp only[kz,Exit.inBlock];rw[if_neg (λe=>by subst e;simp at hi)];exact this
   |_=>
    obtain⟨n,o',env',ds',H',g1,g2⟩:=js hg h2 h;refine⟨n,o',env',ds',H',g1,λf w a e hr ha hd he Q hQ=>?_⟩;have:=g2 f w a e hr ha hd he Q hQ
    first|(cases he;exact this)|(obtain⟨ch,rfl,_⟩:=he;exact this)
 |.scope p c::st,o,env,ds,H,hs,h=>by
  cases hs with
  |scope h1 h2=>
   cases o with
   |goto l=>
    have h:UM (findLabel c l) (λr=>g ((l+2)::p) r (.scope p c::st) env ds H) (oJ g K st (.goto l) env ds H):=h;cases hf:findLabel c l with
    |none=>
     rw[hf]at h;obtain⟨n,o',env',ds',H',g1,g2⟩:=js hg h2 h;refine⟨n,o',env',ds',H',g1,λf w a e hr ha hd he Q hQ=>?_⟩;have:=g2 f w a e hr ha hd he Q hQ;cases he;simp only[kz,hf];exact this
    |some r=>
     rw[hf]at h;obtain⟨n,o',env',ds',H',g1,g2⟩:=hg ((l+2)::p) r (.scope p c::st) env ds H (h1.step (by simp[kQ,hf])) h;refine⟨n+1,o',env',ds',H',g1,λf w a e hr ha hd he Q hQ=>?_⟩;have:=vL (g2 f w a hr ha hd Q hQ);cases he;simp only[kz,hf];show yj P c _ (n+1) r a w;unfold yj;refine Code.wp_mono (λe a w h=>?_) this;cases e with
     |goto l'=>
      simp only[kz]at h ⊢;cases hf':findLabel c l' with
      |none=>rw[hf']at h;exact gg (Nat.le_succ n) h
      |some r'=>rw[hf']at h;exact BK (λe a w h=>gg (Nat.le_succ n) h) (Nat.le_refl n) h
     |_=>exact gg (st:=st) (Nat.le_succ n) h
   |_=>
    obtain⟨n,o',env',ds',H',g1,g2⟩:=js hg h2 h;refine⟨n,o',env',ds',H',g1,λf w a e hr ha hd he Q hQ=>?_⟩;have:=g2 f w a e hr ha hd he Q hQ
    first|(cases he;exact this)|(obtain⟨ch,rfl,_⟩:=he;exact this)
theorem vM.wp{c:Code}{st:List Fr}{K:KT}{env:List AV}{ds:List bO}{H:AH}(h:vM P c st K env ds H){c':Code}{st':List Fr}(hn:∀b,c'≠.loop b)
  (hW:∀n f a w Q,AR P f env a→c.wp P (kz P n st Q) a w→c'.wp P (kz P n st' Q) a w):vM P c' st' K env ds H:=by
 obtain⟨n,h⟩:=h;exact⟨n,h.mono (λf a w Q ha hh=>Lt hn (hW n f a w Q ha (vL hh))) λ_ _ _ _ h=>h⟩
theorem Lu{C:jJ}(hC:oq P C){D:DT}(hD:yO P D){body:Code}{K:KT}{g:GT}(hg:GOk P body K g):GOk P body K (CY C D P P.globals.size g K):=by
 intro p c st env ds H hp h;have hs:=hp.stack;unfold CY at h;cases c with
 |skip=>exact vM.qL (by simp) (fX.done (js hg hs h) .normal (.inl ⟨rfl,rfl⟩) λa w Q h=>wp_skip h)
 |region id ops draw=>
  refine vM.qL (by simp) ?_;rcases bZ h with⟨rfl,h⟩|⟨rfl,h⟩
  ·exact(hD id ops env ds H _ h).mono (λ_ _ _ _ _ h=>h) λ_ _ _ _ h=>js hg hs h
  ·exact(rm hC _ _ _ _ h).mono (λf a w Q _ h=>wp_region_list h) λ_ _ _ _ h=>js hg hs h
 |seq a b=>exact(hg _ _ _ env ds H (hp.step rfl) h).wp (by simp) λn f x w Q _ h=>wp_seq (Code.wp_mono (λe a w h=>by cases e<;>first|exact vL h|exact h) h)
 |cond c a b=>
  have h:nx (bu P.globals.size env c) (g (0::p) a st env ds H) (g (1::p) b st env ds H):=h;generalize hv:bu P.globals.size env c=v at h;cases v<;>try exact h.elim
  case bool t=>
   have hc:∀{f:az}{a:Act},AR P f env a→a.eval c=.bool t:=λ{f act} ha=>by
    have:=vI ha c;rw[hv]at this;generalize act.eval c=u at this;cases this;rfl
   cases t
   ·exact(hg _ _ _ env ds H (hp.step rfl) h).wp (by simp) λn f x w Q ha h=>wp_cond (hc ha) h
   ·exact(hg _ _ _ env ds H (hp.step rfl) h).wp (by simp) λn f x w Q ha h=>wp_cond (hc ha) h
 |block id c=>exact(hg _ _ _ env ds H (hp.step rfl) h).wp (by simp) λn f x w Q _ h=>wp_block h
 |loop c=>
  obtain⟨n,h⟩:=hg _ _ _ env ds H (hp.step rfl) h;refine⟨n+1,h.mono (λf a w Q _ hh=>?_) λ_ _ _ _ h=>h⟩;show LI P c _ (n+1) a w;unfold LI;refine Code.wp_mono (λe a w h=>?_) (vL hh);cases e<;>first|exact Al (λe a w h=>gg (Nat.le_succ n) h) (Nat.le_refl n) h|exact gg (st:=st) (Nat.le_succ n) h
 |scope c=>
  obtain⟨n,h⟩:=hg _ _ _ env ds H (hp.step rfl) h;refine⟨n,h.mono (λf a w Q _ hh=>Lt (by simp) (uz (n:=n+1) ?_)) λ_ _ _ _ h=>h⟩;unfold yj;refine Code.wp_mono (λe a w h=>?_) (vL hh);cases e with
  |goto l=>
   simp only[kz]at h ⊢;exact h
  |_=>exact h
 |exit id=>exact vM.qL (by simp) (fX.done (js hg hs h) (.exit id) (.inr (.inl ⟨id,rfl,rfl⟩)) λa w Q h=>wp_exit h)
 |label l=>exact vM.qL (by simp) (fX.done (js hg hs h) .normal (.inl ⟨rfl,rfl⟩) λa w Q h=>wp_label h)
 |ret=>exact vM.qL (by simp) (fX.done (js hg hs h) .ret (.inr (.inr (.inr ⟨rfl,rfl⟩))) λa w Q h=>wp_ret h)
 |goto l=>exact vM.qL (by simp) (fX.done (js hg hs h) (.goto l) (.inr (.inr (.inl ⟨l,rfl,rfl⟩))) λa w Q h=>wp_goto h)
 |rangeFunc=>exact h.elim
 |refuse=>exact h.elim
def yZ(P:Program)(body:Code)(K:KT)(p:List Nat):yY:=λenv ds H=>∃c st,xy body p=some (c,st)∧vM P c st K env ds H
abbrev y0:=List (List Nat×yY)
def BL(t:y0):Tbl:=t
def nD(P:Program)(body:Code)(K:KT)(t:y0):Prop:=∀e∈t,∀env ds H,e.2 env ds H→yZ P body K e.1 env ds H
theorem nD.nil{body:Code}{K:KT}:nD P body K []:=λe h=>by simp at h
theorem nD.cons{body:Code}{K:KT}{p:List Nat}{F:yY}{t:y0}(h:∀env ds H,F env ds H→yZ P body K p env ds H)(ht:nD P body K t):nD P body K ((p,F)::t):=λe he=>by
 rcases List.mem_cons.1 he with rfl|he
 ·exact h
 ·exact ht e he
theorem Lv:∀{t:y0}{p:List Nat}{F:yY},CZ (BL t) p=some F→(p,F)∈t
 |[],_,_,h=>by cases h
 |(q,G)::t,p,F,h=>by
  simp only[BL,CZ]at h;cases hb:Lr q p with
  |true=>
   rw[hb]at h;have h:G=F:=by simpa using h
   have:=UY hb;subst h;subst this;simp
  |false=>
   rw[hb]at h;exact List.mem_cons_of_mem _ (Lv h)
theorem UZ{C:jJ}(hC:oq P C){D:DT}(hD:yO P D){body:Code}{K:KT}{t:y0}(ht:nD P body K t):∀n,GOk P body K (goX C D P P.globals.size (BL t) K n)
 |0=>λ_ _ _ _ _ _ _ h=>h.elim
 |n+1=>λp c st env ds H hp h=>by
  change (match CZ (BL t) p with|some F=>F env ds H|none=>CY C D P P.globals.size (goX C D P P.globals.size (BL t) K n) K p c st env ds H)at h
  split at h
  ·rename_i F hF;obtain⟨c',st',h1,h2⟩:=ht _ (Lv hF) env ds H h;rw[hp.sub]at h1;cases h1;exact h2
  ·exact Lu hC hD (UZ hC hD ht n) p c st env ds H hp h
theorem U0{C:jJ}(hC:oq P C){D:DT}(hD:yO P D){body:Code}{K:KT}{t:y0}(ht:nD P body K t){n:Nat}{p:List Nat}{env:List AV}{ds:List bO}{H:AH}
  (h:Ls C D P P.globals.size body (BL t) K n p env ds H):yZ P body K p env ds H:=by
 unfold Ls afA at h;split at h
 ·rename_i c st hs;exact⟨c,st,hs,Lu hC hD (UZ hC hD ht n) p c st env ds H (Pos.of_sub hs) h⟩
 ·exact h.elim
end
section
abbrev KF:=me→AH→Prop
abbrev eM:=List AV→AH→KF→Prop
inductive Ty where
 |i (k:Nat)
 |b
 |a
abbrev rp(R:Type):List Ty→Type
 |[]=>R
 |.i _::τ=>Int→rp R τ
 |.b::τ=>Bool→rp R τ
 |.a::τ=>AV→rp R τ
section
def vq{R:Type}:(τ:List Ty)→rp R τ→List AV→(R→Prop)→Prop
 |[],f,l,k=>match l with|[]=>k f|_=>False
 |.i q::τ,f,l,k=>match l with|v::r=>jH v λc z=>bT (Nat.beq c q) (vq τ (f z) r k)|[]=>False
 |.b::τ,f,l,k=>match l with|v::r=>cH v λz=>vq τ (f z) r k|[]=>False
 |.a::τ,f,l,k=>match l with|v::r=>vq τ (f v) r k|[]=>False
def pA{R:Type}:(τ:List Ty)→rp R τ→(R→List AV→Prop)→Prop
 |[],f,p=>p f []
 |.i q::τ,f,p=>∀z:Int,pA τ (f z) λr l=>p r (.int q z::l)
 |.b::τ,f,p=>∀z:Bool,pA τ (f z) λr l=>p r (.bool z::l)
 |.a::τ,f,p=>∀v:AV,pA τ (f v) λr l=>p r (v::l)
def xz:List Nat→List AV→Nat→AV
 |s::r,v::l,i=>bif Nat.beq s i then v else xz r l i
 |_,_,_=>.cU
def xA(slots:List Nat)(l:List AV):Nat→Nat→List AV
 |0,_=>[]
 |n+1,i=>xz slots l i::xA slots l n (Nat.succ i)
def Sr(n:Nat)(slots:List Nat)(l:List AV):List AV:=xA slots l n 0
def aiZ(ds:List bO)(x:Prop):Prop:=match ds with|[]=>x|_=>False
def ai0(n:Nat)(slots:List Nat)(τ:List Ty)(f:rp (AH→Prop) τ):yY:=λenv ds H=>
 bT (Nat.beq env.length n) (aiZ ds (vq τ f (slots.map λs=>env.getD s .cU) λr=>r H))
def C5:List (Nat×eM)→jJ
 |[],_,_,_,_=>False
 |(m,F)::r,g,args,H,K=>bif Nat.beq m g then F args H K else C5 r g args H K
def Lw:tp:=λ_ _ _ _ _=>False
def aD(τ:List Ty)(sh:rp (AH→KF→Prop) τ):eM:=λargs H K=>vq τ sh args λr=>r H K
end
theorem ag1{v:AV}{k:Bool→Prop}(h:cH v k):∃z,v=.bool z∧k z:=by
 cases v<;>first|exact h.elim|exact⟨_,rfl,h⟩
theorem pB{R:Type}:∀{τ:List Ty}{f:rp R τ}{l:List AV}{k:R→Prop}{p:R→List AV→Prop},vq τ f l k→pA τ f p→∃r,k r∧p r l
 |[],f,l,k,p,h,g=>by
  unfold vq at h;split at h
  ·exact⟨f,h,g⟩
  ·exact h.elim
 |.i q::τ,f,l,k,p,h,g=>by
  unfold vq at h;split at h
  ·obtain⟨c,z,rfl,h⟩:=eH h;obtain⟨e,h⟩:=an h;rw[Nat.eq_of_beq_eq_true e];exact pB (p:=λr l=>p r (.int q z::l)) h (g z)
  ·exact h.elim
 |.b::τ,f,l,k,p,h,g=>by
  unfold vq at h;split at h
  ·obtain⟨z,rfl,h⟩:=ag1 h;exact pB (p:=λr l=>p r (.bool z::l)) h (g z)
  ·exact h.elim
 |.a::τ,f,l,k,p,h,g=>by
  unfold vq at h;split at h
  ·rename_i v l;exact pB (p:=λr l=>p r (v::l)) h (g v)
  ·exact h.elim
theorem pA.imp{R:Type}:∀{τ:List Ty}{f:rp R τ}{p q:R→List AV→Prop},(∀r l,p r l→q r l)→pA τ f p→pA τ f q
 |[],_,_,_,h,g=>h _ _ g
 |.i _::_,_,_,_,h,g=>λz=>pA.imp (λr l=>h r _) (g z)
 |.b::_,_,_,_,h,g=>λz=>pA.imp (λr l=>h r _) (g z)
 |.a::_,_,_,_,h,g=>λz=>pA.imp (λr l=>h r _) (g z)
theorem Jd(s:List Nat)(l:List AV):∀n i,(xA s l n i).length=n
 |0,_=>rfl
 |n+1,i=>by simp[xA,Jd s l n]
theorem Je(s:List Nat)(l:List AV):∀n i j,j<n→(xA s l n i)[j]? = some (xz s l (i+j))
 |0,_,_,h=>absurd h (by omega)
 |n+1,i,0,_=>by simp[xA]
 |n+1,i,j+1,h=>by
  simp only[xA,List.getElem?_cons_succ];rw[Je s l n (Nat.succ i) j (by omega),Nat.succ_eq_add_one,Nat.add_assoc,Nat.add_comm 1 j]
theorem Jf(env:List AV):∀(s:List Nat) (i:Nat),xz s (s.map λt=>env.getD t .cU) i=env.getD i .cU∨xz s (s.map λt=>env.getD t .cU) i=.cU
 |[],i=>.inr (by simp[xz])
 |t::s,i=>by
  simp only[List.map_cons,xz];cases h:Nat.beq t i with
  |true=>rw[Nat.eq_of_beq_eq_true h];exact .inl rfl
  |false=>exact Jf env s i
variable {P:Program}
theorem VL.weak{f:az}:∀{env env':List AV}{vs:List Value},VL f env vs→env'.length=env.length→(∀i,i<env.length→env'[i]? = env[i]?∨env'[i]? = some .cU)→VL f env' vs
 |_,[],_,.nil,_,_=>.nil
 |_,_::_,_,.nil,h,_=>by simp at h
 |_,[],_,.cons _ _ _ _ _ _,h,_=>by simp at h
 |_,b::env',_,.cons a v as vs h1 h2,h,hi=>by
  have h0:=hi 0 (by simp);refine .cons b v _ _ ?_ (VL.weak h2 (by simpa using h) λi hl=>by have:=hi (i+1) (by simpa using hl);simpa using this);simp at h0;rcases h0 with rfl|rfl
  ·exact h1
  ·exact .cU v
theorem yZ.weak{body:Code}{K:KT}{p:List Nat}{env env':List AV}{ds:List bO}{H:AH}(h:yZ P body K p env' ds H)(hl:env'.length=env.length)(hi:∀i,i<env.length→env'[i]? = env[i]?∨env'[i]? = some .cU) :
  yZ P body K p env ds H:=by
 obtain⟨c,st,h1,n,o,e2,d2,H2,h3,h4⟩:=h;exact⟨c,st,h1,n,o,e2,d2,H2,h3,λf w a hr ha hd Q hQ=>h4 f w a hr ⟨ha.tmps.weak hl hi,ha.glob⟩ hd Q hQ⟩
def ad8(P:Program)(body:Code)(K:KT)(p:List Nat)(n:Nat)(slots:List Nat)(τ:List Ty)(f:rp (AH→Prop) τ):Prop:=pA τ f λr l=>∀H,r H→yZ P body K p (Sr n slots l) [] H
theorem ai1{body:Code}{K:KT}{p:List Nat}{n:Nat}{slots:List Nat}{τ:List Ty}{f:rp (AH→Prop) τ}(h:ad8 P body K p n slots τ f):∀env ds H,ai0 n slots τ f env ds H→yZ P body K p env ds H:=by
 intro env ds H hh;obtain⟨hl,hh⟩:=an hh;unfold aiZ at hh;split at hh
 ·obtain⟨r,h1,h2⟩:=pB hh h;have hl:=Nat.eq_of_beq_eq_true hl;refine(h2 H h1).weak (by rw[Sr,Jd,hl]) λi hi=>?_;rw[Sr,Je _ _ _ _ _ (by omega),Nat.zero_add];rcases Jf env slots i with e|e
  ·rw[e];left;simp[List.getD_eq_getElem?_getD,hi]
  ·rw[e];exact .inr rfl
 ·exact hh.elim
def U1(P:Program)(f:az):Prop:=∀g,g<P.globals.size→f.dom g∧f.blk g=g∧f.off g=0
def aE(P:Program)(g:Nat)(F:eM):Prop:=fm P g=true→∀args H K,F args H K→∃o H',K o H'∧∀f w (vs:Array Value),HR f H w→U1 P f→VL f args vs.toList→Calls P g vs w (pg f H w o H')
def ad(P:Program)(t:List (Nat×eM)):Prop:=∀e∈t,aE P e.1 e.2
theorem ad.nil:ad P []:=λe h=>by simp at h
theorem ad.cons{g:Nat}{F:eM}{t:List (Nat×eM)}(h:aE P g F)(ht:ad P t):ad P ((g,F)::t):=λe he=>by
 rcases List.mem_cons.1 he with rfl|he
 ·exact h
 ·exact ht e he
theorem BM:∀{t:List (Nat×eM)},ad P t→oq P (C5 t)
 |[],_=>λ_ _ _ _ _ h=>h.elim
 |(m,F)::r,ht=>λg args H K hb h=>by
  unfold C5 at h;cases e:Nat.beq m g with
  |true=>
   rw[e]at h;have:=Nat.eq_of_beq_eq_true e;subst this;exact ht (m,F) (by simp) hb args H K h
  |false=>
   rw[e]at h;exact BM (λe he=>ht e (List.mem_cons_of_mem _ he)) g args H K hb h
theorem ag2:Ah P Lw:=λ_ _ _ _ _ _ h=>h.elim
theorem aE.ag3{g:Nat}{fn:Func}{body:Code}(hf:P.funcs[g]? = some fn)(hc:fn.body=some body){τ:List Ty}{sh:rp (AH→KF→Prop) τ}
  (h:∀K,pA τ sh λr l=>∀H,r H K→yZ P body (Sj P Lw fn K) [] (bL fn l) [] H):aE P g (aD τ sh):=by
 intro _ args H K hh;obtain⟨r,h1,h2⟩:=pB hh (h K);obtain⟨c,st,h3,n,o,env',ds',H',h4,h5⟩:=h2 H h1;simp only[xy,Option.some.injEq,Prod.mk.injEq]at h3;obtain⟨rfl,rfl⟩:=h3;have key:∀(M:dt),mQ P Lw fn env' ds' M H' K→
   (∀(f:az) (H0:AH) w (R:Ending→World→Prop) e a w',mg P f H0 w o env' ds' H' e a w'→(∀f' u,Step f H0 w f' H' w'→AR P f' env' a→DR f' ds' a.defers→MR f' M u→Leaves P fn a.tmps R a.defers u w')→bodyPostD P fn R e a w')→
   ∃o H',K o H'∧∀f w (vs:Array Value),HR f H w→U1 P f→VL f args vs.toList→Calls P g vs w (pg f H w o H'):=λM hl hb=>by
  obtain⟨co,H2,g1,g2⟩:=xr ag2 _ _ _ hl;refine⟨co,H2,g1,λf w vs hr hg hv=>calls_of_wp_defers hf hc (vL (h5 f w _ hr (yT hv hg) .nil _ λe a' w' hp=>hb f H w _ e a' w' hp λf' u s ha hd hm=>?_))⟩;exact Leaves.mono (λe w h=>h.after s) _ _ _ (g2 f' w' a' a'.defers u s.rel ha hd hm)
 cases o with
 |normal=>exact key .ret h4 λf H0 w R e a w' hp hl=>by obtain⟨f',s,y1,y2,rfl⟩:=hp;exact hl f' _ s y1 y2 rfl
 |ret=>exact key .ret h4 λf H0 w R e a w' hp hl=>by obtain⟨f',s,y1,y2,rfl⟩:=hp;exact hl f' _ s y1 y2 rfl
 |cJ v=>exact key (.cJ v) h4 λf H0 w R e a w' hp hl=>by obtain⟨f',s,y1,y2,ch,rfl,hp⟩:=hp;exact hl f' _ s y1 y2 ⟨ch,rfl,hp⟩
 |exit=>exact h4.elim
 |goto=>exact h4.elim
end
section
section
def cR(K:KF)(o:me)(H:AH)(k:AV→Prop):Prop:=cOut o k λv=>K (.cJ v) H
def vN(m n:Nat)(p q:AV)(x:Prop):Prop:=og p λb o=>og q λb' o'=>bT (!(Nat.beq b b')||(Nat.ble (Nat.add o m) o'||Nat.ble (Nat.add o' n) o)) x
def cI(q:Nat)(v:AV)(k:Int→Prop):Prop:=jH v λc z=>bT (Nat.beq c q) (k z)
def Ly:(τ:List Ty)→rp (AH→KF→Prop) τ
 |[]=>λ_ _=>False
 |.i _::τ=>λ_=>Ly τ
 |.b::τ=>λ_=>Ly τ
 |.a::τ=>λ_=>Ly τ
end
variable {P:Program}
theorem xB:∀(τ:List Ty),pA τ (Ly τ) λr _=>∀H K,¬r H K
 |[]=>λ_ _ h=>h
 |.i _::τ=>λ_=>(xB τ).imp λ_ _ h=>h
 |.b::τ=>λ_=>(xB τ).imp λ_ _ h=>h
 |.a::τ=>λ_=>(xB τ).imp λ_ _ h=>h
theorem hN{g:Nat}(τ:List Ty):aE P g (aD τ (Ly τ)):=λ_ args H K h=>by
 obtain⟨r,h1,h2⟩:=pB h (xB τ);exact(h2 H K h1).elim
theorem aE.HZ{g:Nat}{τ:List Ty}{sh:rp (AH→KF→Prop) τ}{F:eM}(hF:aE P g F)(h:∀H K,pA τ sh λr l=>r H K→F l H K):aE P g (aD τ sh):=λhb args H K hh=>by
 obtain⟨r,h1,h2⟩:=pB hh (h H K);exact hF hb args H K (h2 h1)
end
theorem Bt.je{α:Type}(t:Bt α):∀(i:Nat) (v:α) (k k':Bt α→Prop),t.cP i v k→(∀t,k t→k' t)→t.cP i v k':=by
 induction t with
 |e=>
  intro i v k k' h hk;cases i with
  |zero=>exact hk _ h
  |succ j=>exact h
 |n u l r il ir=>
  intro i v k k' h hk;cases i with
  |zero=>exact hk _ h
  |succ j=>
   change @Nat.rec (λ_=>Prop) (l.cP (j/2) v (λl'=>k (.n u l' r))) (λ_ _=>r.cP (j/2) v (λr'=>k (.n u l r'))) (j%2)at h
   change @Nat.rec (λ_=>Prop) (l.cP (j/2) v (λl'=>k' (.n u l' r))) (λ_ _=>r.cP (j/2) v (λr'=>k' (.n u l r'))) (j%2)
   rcases Nat.mod_two_eq_zero_or_one j with e|e
   ·rw[e]at h ⊢;exact il _ _ _ _ h λ_ h=>hk _ h
   ·rw[e]at h ⊢;exact ir _ _ _ _ h λ_ h=>hk _ h
theorem Qk{c:Nat}{z:Int}{k:Int→Prop}(h:k ((kd c).wrap z)):aN c z k:=by
 unfold aN;cases z with
 |ofNat n=>
  show bI (mv c) (bI (Nat.ble (half c) n) (kK (p7 c (.ofNat n)) k) (aB n λm=>k (.ofNat m))) (aB (Nat.mod n (full c)) λm=>k (.ofNat m));simp only[gT,ae,ny];cases hs:mv c with
  |true=>
   show bI (Nat.ble (half c) n) _ _;cases hb:Nat.ble (half c) n with
   |true=>exact h
   |false=>
    have hb':¬half c≤n:=λhle=>by rw[Nat.ble_eq_true_of_le hle]at hb;cases hb
    rw[wrap_small hs (by have:(Int.ofNat n:Int)=(n:Int):=rfl;omega) (by have:(Int.ofNat n:Int)=(n:Int):=rfl;omega)]at h;exact h
  |false=>
   rw[mw hs]at h;exact h
 |negSucc n=>
  show bI (mv c) (bI (Nat.ble (half c) n) (kK (p7 c (.negSucc n)) k) (aB n λm=>k (.negSucc m))) (kK (p7 c (.negSucc n)) k);simp only[gT,ae,ny];cases hs:mv c with
  |true=>
   show bI (Nat.ble (half c) n) _ _;cases hb:Nat.ble (half c) n with
   |true=>exact h
   |false=>
    have hb':¬half c≤n:=λhle=>by rw[Nat.ble_eq_true_of_le hle]at hb;cases hb
    rw[wrap_small hs (by omega) (by omega)]at h;exact h
  |false=>exact h
end Go.X
