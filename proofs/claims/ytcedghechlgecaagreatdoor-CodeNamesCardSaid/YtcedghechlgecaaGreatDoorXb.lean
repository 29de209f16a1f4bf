/- The machine: operations, control, calls. No condition: definitions and lemmas. -/
import Derived.Test.YtcedghechlgecaaGreatDoorXa
import Derived.Lib.Overlaps
import Derived.Laws.Externs
import Derived.Lib.Bytealg
import Derived.Laws.StandIn
import Derived.Laws.IdiomStrings
import Derived.ScopeJumps
import Derived.Recover
import Derived.Orders
set_option maxRecDepth 100000
set_option maxHeartbeats 0
set_option linter.unusedVariables false
set_option linter.unusedSimpArgs false
namespace Go.X
def dY:AV:=.aE []
def lH(P:Program)(t:TypeId)(v:AV)(k:AV→Prop):Prop:=
 match P.underlying t with
 |some (.int q)=>j0 v λc z=>bT (Nat.beq c (kn q)) (k (.int (kn q) z))
 |some .bool=>bC v λz=>k (.bool z)
 |_=>k v
theorem fI{P:Program}{t:TypeId}{v:AV}{k:AV→Prop}(h:lH P t v k):k v:=by
 unfold lH at h;split at h
 ·obtain⟨c,z,rfl,h⟩:=eV h;obtain⟨e,h⟩:=aD h;rw[Nat.eq_of_beq_eq_true e];exact h
 ·unfold bC at h;split at h
  ·exact h
  ·exact h.elim
 ·exact h
noncomputable section
def af7(m:AV)(H:AH)(k:List eW→Prop):Prop:=(match m with
 |.rN=>λk=>k []
 |.map b=>λk=>H.t.fH b λo=>(match o with|.map es _=>k es|_=>False)
 |_=>λ_=>False:(List eW→Prop)→Prop) k
def O7(m:AV)(H:AH)(k:Nat→List eW→Nat→Prop):Prop:=(match m with
 |.map b=>λk=>H.t.fH b λo=>(match o with|.map es cl=>k b es cl|_=>False)
 |_=>λ_=>False:(Nat→List eW→Nat→Prop)→Prop) k
def foundAt(P:Program)(kt:TypeId)(key:AV)(es:List eW)(k:Option Nat→Prop):Prop:=match uP P kt key es with|some r=>k r|none=>False
def axU(P:Program)(kt:TypeId)(ok:Bool)(z m key:AV)(H:AH)(k:AV→Prop):Prop:=af7 m H λes=>foundAt P kt key es λr=>k (YY ok z es r)
def auE(P:Program)(kt:TypeId)(m key v:AV)(H:AH)(k:AH→Prop):Prop:=O7 m H λb es cl=>foundAt P kt key es λr=>jx H b (.map (O4 es cl key v r) (Y0 cl r)) k
def auF(P:Program)(kt:TypeId)(m key:AV)(H:AH)(k:AH→Prop):Prop:=O7 m H λb es cl=>foundAt P kt key es λr=>jx H b (.map (amN es r) cl) k
def ayX(nw:Lay)(k:AV→AH→Prop):Prop:=nw (.map [] 0) λb H'=>k (.map b) H'
def UR(P:Program)(t:TypeId)(m key:AV)(ok:Bool)(H:AH)(k:AV→Prop):Prop:=match P.underlying t with
 |some (.map kt et)=>(match P.info? et with
  |some inf=>(match inf.zero with
   |some z=>bT (wy P kt) (axU P kt ok (ig z) m key H k)
   |none=>False)
  |none=>False)
 |_=>False
def US(P:Program)(t:TypeId)(m key v:AV)(H:AH)(k:AH→Prop):Prop:=match P.underlying t with
 |some (.map kt _)=>bT (wy P kt) (auE P kt m key v H k)
 |_=>False
def auG(P:Program)(t:TypeId)(m key:AV)(H:AH)(k:AH→Prop):Prop:=match P.underlying t with
 |some (.map kt _)=>bT (wy P kt) (auF P kt m key H k)
 |_=>False
def FJ(P:Program)(b:Builtin)(ty:TypeId)(ts:Array TypeId)(args:List AV)(H:AH)(k:AV→AH→Prop):Prop:=
 match b,ts.toList,args with
 |.len,t::_,[a]=>amG P t a H λv=>lH P ty v λv=>k v H
 |.append,[t,u],[s,x]=>amF P t u s x H k
 |.copy,[t,_],[d,s]=>YT P t d s H λv H=>lH P ty v λv=>k v H
 |.max,_,a::l=>oh GJ l a λv=>lH P ty v λv=>k v H
 |.min,_,a::l=>oh xW l a λv=>lH P ty v λv=>k v H
 |.delete,t::_,[m,x]=>auG P t m x H λH=>k dY H
 |.cap,t::_,[a]=>amR P t a λv=>lH P ty v λv=>k v H
 |.clear,[t],[a]=>O6 P t a H λH=>k dY H
 |_,_,_=>False
def cm(H:AH)(x:Prop):Prop:=@Bt.rec dM (λ_=>Prop→Prop) (λx=>x) (λ_ _ _ _ _ x=>x) H.t x
theorem JB(H:AH)(x:Prop):cm H x=x:=by
 unfold cm;cases H.t<;>rfl
def uL(P:Program)(o:Oper)(ρ:Operand→AV)(nw:Lay)(H:AH)(k:AV→AH→Prop):Prop:=
 match o.op with
 |.move x=>k (ρ x) H
 |.assign x=>k (ρ x) H
 |.pick c a b=>kT (ρ c) (lH P o.type (ρ a) λv=>k v H) (lH P o.type (ρ b) λv=>k v H)
 |.alloc e=>cm H (cW P nw e k)
 |.box _ x=>kc nw (ρ x) k
 |.build t ps=>(match P.underlying t with|some (.struct fs)=>bT (OY P fs) (OO P t (ps.toList.map λx=>(x.1,ρ x.2)) λv=>k v H)|_=>False)
 |.buildSlice t n ps=>Jy P nw t n (ps.toList.map λx=>(x.1,ρ x.2)) k
 |.load t a=>N4 P t (ρ a) H λv=>lH P o.type v λv=>k v H
 |.store t a x=>tu P t (ρ a) (ρ x) H λH'=>k dY H'
 |.nilCheck x=>aC (ρ x) (k (ρ x) H)
 |.binOp op t x y _=>Y2 P op t x y (ρ x) (ρ y) H λv=>lH P o.type v λv=>k v H
 |.unOp op t x=>xUn P op t (ρ x) λv=>lH P o.type v λv=>k v H
 |.convert s d x=>YU P s d (ρ x) H λv H=>lH P o.type v λv=>k v H
 |.makeInterface t x=>afW P t (ρ x) λv=>k v H
 |.makeFunc fn a b=>(match fn with|.func g=>k (.func g (a.toList.map ρ) (b.toList.map ρ)) H|_=>False)
 |.makeSlice t l c=>cm H (O2 P nw t (ρ l) (ρ c) k)
 |.slice t x lo hi mx=>OT P t (ρ x) (lo.map ρ) (hi.map ρ) (mx.map ρ) λv=>k v H
 |.fieldAddr t x i=>amz P t (ρ x) i λv=>k v H
 |.field t x i=>OQ P t (ρ x) i λv=>lH P o.type v λv=>k v H
 |.indexAddr t x i=>FE P t (ρ x) (ρ i) λv=>k v H
 |.index t x i=>OS P t (ρ x) (ρ i) λv=>lH P o.type v λv=>k v H
 |.extract x i=>OP (ρ x) i λv=>lH P o.type v λv=>k v H
 |.range t x=>O1 P t (ρ x) H k
 |.next it s=>bT s (apd (ρ it) H k)
 |.typeAssert x _ u ok=>UN P u ok (ρ x) λv=>lH P o.type v λv=>k v H
 |.makeMap _ r=>(match r with|none=>ayX nw k|some _=>False)
 |.lookup t m key ok=>UR P t (ρ m) (ρ key) ok H λv=>lH P o.type v λv=>k v H
 |.mapUpdate t m key x=>US P t (ρ m) (ρ key) (ρ x) H λH'=>k dY H'
 |.call c=>(match c.callee with|.builtin b=>FJ P b o.type c.argTypes (c.args.toList.map ρ) H k|_=>False)
 |_=>False
end
def xZ(o:Oper):Bool:=
 match o.op with
 |.alloc _=>true
 |.box ..=>true
 |.buildSlice ..=>true
 |.makeSlice ..=>true
 |.makeMap ..=>true
 |_=>false
def turns(o:Oper):Bool:=
 match o.op with
 |.store ..=>true
 |.range ..=>true
 |.next ..=>true
 |.mapUpdate ..=>true
 |.panic _=>true
 |.defer _=>true
 |.go _=>true
 |.call c=>(match c.callee with|.builtin .append=>true|.builtin .copy=>true|.builtin .delete=>true|.builtin .clear=>true|.builtin _=>false|_=>true)
 |_=>false
section
variable {P:Program}
def Did(P:Program)(o:Oper)(a:Act)(w:World)(u:Value)(w':World):Prop:=
 (execOp a.eval o).run P w=.ok (.value u) w'∨((execOp a.eval o).run P w=.ok .skip w'∧u=undef)
def Stand(f:aI)(o:Oper)(ρ:Operand→AV)(a:Act):Prop:=∀x∈o.op.operands,VR f (ρ x) (a.eval x)
theorem fA{o:Oper}{a:Act}{w:World}{s:Sem Value}(he:execOp a.eval o=(do pure (.value (←s)))){u:Value}{w':World}(hs:s.run P w=.ok u w'):Did P o a w u w':=by
 left;rw[he];simp[hs]
theorem VR.undef(f:aI):VR f dY undef:=.aE [] [] .nil
theorem amS{a:AV}{k:Prop}(h:aC a k):k∧((∃b o,a=.ptr b o)∨(∃g x y,a=.func g x y)∨(∃t v,a=.iface t v)):=by
 cases a<;>first|exact h.elim|exact⟨h,by simp⟩
inductive amT(P:Program)(o:Oper)(ρ:Operand→AV)(nw:Lay)(H:AH)(k:AV→AH→Prop):Prop where
 |same (v:AV) (h:k v H) (g:∀f w a,HRQ f H.sem w→Stand f o ρ a→∃u,Did P o a w u w∧VR f v u)
 |new (ob:dM) (vf:Nat→AV) (hl:xZ o=true) (h:nw ob λb H'=>k (vf b) H') (ho:ob.sem.own=true) (g:∀f w a,Stand f o ρ a→∃u obj,Did P o a w u (w.alloc obj)∧nA f w ob vf u obj)
 |turn (v:AV) (H':AH) (h:k v H') (ht:turns o=true) (g:∀f w a,HR f H w→Stand f o ρ a→∃u w' f',Did P o a w u w'∧Step f H w f' H' w'∧VR f' v u)
theorem amU{f:aI}{ρ:Operand→AV}{a:Act}{x:Option Operand}(h:∀y,x=some y→VR f (ρ y) (a.eval y)):BR f (x.map ρ) (x.map a.eval):=by
 cases x with
 |none=>exact .none
 |some y=>exact .some _ _ (h y rfl)
theorem VL.oi{f:aI}{ρ:Operand→AV}{a:Act}{l:List Operand}(h:∀x∈l,VR f (ρ x) (a.eval x)):VL f (l.map ρ) (l.map a.eval):=VL.map h
theorem Y3{m:AV}{H:AH}{k:List eW→Prop}(h:af7 m H k):∃es,MapAt H m es∧k es:=by
 cases m<;>try exact h.elim
 ·exact⟨[],.inl ⟨rfl,rfl⟩,h⟩
 ·rename_i b;obtain⟨o,ho,h⟩:=Bt.dx _ _ _ h;cases o<;>try exact h.elim
  rename_i es cl;exact⟨es,.inr ⟨b,cl,rfl,AH.tt ho⟩,h⟩
theorem GN{m:AV}{H:AH}{k:Nat→List eW→Nat→Prop}(h:O7 m H k):∃b es cl,m=.map b∧H.at b=.map es cl∧k b es cl:=by
 cases m<;>try exact h.elim
 rename_i b;obtain⟨o,ho,h⟩:=Bt.dx _ _ _ h;cases o<;>try exact h.elim
 rename_i es cl;exact⟨b,es,cl,rfl,AH.tt ho,h⟩
theorem yQ{P:Program}{kt:TypeId}{key:AV}{es:List eW}{k:Option Nat→Prop}(h:foundAt P kt key es k):∃r,uP P kt key es=some r∧k r:=by
 unfold foundAt at h;split at h
 ·exact⟨_,by assumption,h⟩
 ·exact h.elim
theorem amV{P:Program}{kt:TypeId}{m key v:AV}{H:AH}{k:AH→Prop}(h:auE P kt m key v H k):∃b es cl r H',m=.map b∧H.at b=.map es cl∧uP P kt key es=some r∧H'.n=H.n∧H'.at b=.map (O4 es cl key v r) (Y0 cl r)∧(∀c,c≠b→H'.at c=H.at c)∧k H':=by
 obtain⟨b,es,cl,rfl,hb,h⟩:=GN h;obtain⟨r,hf,h⟩:=yQ h;obtain⟨H',h,g1,g2,g3⟩:=gA h;exact⟨b,es,cl,r,H',rfl,hb,hf,g1,g2,g3,h⟩
theorem amW{P:Program}{kt:TypeId}{m key:AV}{H:AH}{k:AH→Prop}(h:auF P kt m key H k):∃b es cl r H',m=.map b∧H.at b=.map es cl∧uP P kt key es=some r∧H'.n=H.n∧H'.at b=.map (amN es r) cl∧(∀c,c≠b→H'.at c=H.at c)∧k H':=by
 obtain⟨b,es,cl,rfl,hb,h⟩:=GN h;obtain⟨r,hf,h⟩:=yQ h;obtain⟨H',h,g1,g2,g3⟩:=gA h;exact⟨b,es,cl,r,H',rfl,hb,hf,g1,g2,g3,h⟩
theorem TR{o:Oper}{c:Call}{b:Builtin}{ρ:Operand→AV}{nw:Lay}{H:AH}{k:AV→AH→Prop}(ho:o.op=.call c)(hb:c.callee=.builtin b)(h:FJ P b o.type c.argTypes (c.args.toList.map ρ) H k):amT P o ρ nw H k:=by
 have hops:∀{f:aI}{a:Act},Stand f o ρ a→VL f (c.args.toList.map ρ) (c.args.toList.map a.eval):=λ{f a} hs=>
  VL.oi λx hx=>hs x (by rw[ho];simp[Op.operands,Call.operands,hb];simpa using hx)
 have qQ:∀a:Act,execOp a.eval o=builtin b c.argTypes o.type (c.args.map fun|.const _=>true|_=>false) (c.args.map a.eval):=λa=>by
  simp[execOp,ho,resolve,hb,invoke];rfl
 unfold FJ at h;split at h
 ·rename_i t ts0 x hts hx;obtain⟨v,h1,h2⟩:=aqM (P:=P) (t:=t) (u:=t) (ty:=o.type) (ts:=c.argTypes) (by rw[←Array.getElem?_toList,hts];rfl) h;refine .same v (fI h1) λf w a hr hs=>?_;have hv:=hops hs;rw[hx]at hv;generalize hgs:c.args.toList.map a.eval=us at hv;cases hv with
  |cons _ u _ us hu hl=>
   cases hl;obtain⟨r,g1,g2⟩:=h2 f w u hr hu;refine⟨r,fA (s:=Builtin.len_ c.argTypes o.type #[u]) ?_ g1,g2⟩;rw[qQ];have:c.args.map a.eval = #[u]:=by
    apply Array.ext';rw[Array.toList_map,hgs]
   rw[this];rfl
 ·rename_i t u0 s x hts hx;obtain⟨v,H',h1,h2⟩:=aqJ (P:=P) (ty:=o.type) h;refine .turn v H' h1 (by simp only[turns,ho,hb]) λf w a hr hs=>?_;have hv:=hops hs;rw[hx]at hv;generalize hgs:c.args.toList.map a.eval=us at hv;cases hv with
  |cons _ u _ us hu hl=>
   cases hl with
   |cons _ u2 _ us hu2 hl=>
    cases hl;obtain⟨r,w',f',g1,g2,g3⟩:=h2 f w u u2 hr hu hu2;refine⟨r,w',f',fA (s:=Builtin.append_ #[t,u0] o.type #[u,u2]) ?_ g1,g2,g3⟩;rw[qQ];have e1:c.args.map a.eval = #[u,u2]:=by
     apply Array.ext';rw[Array.toList_map,hgs]
    have e2:c.argTypes = #[t,u0]:=by
     apply Array.ext';rw[hts]
    rw[e1,e2];rfl
 ·rename_i t u0 s x hts hx;obtain⟨v,H',h1,h2⟩:=amH (P:=P) (u:=u0) (ty:=o.type) h;refine .turn v H' (fI (P:=P) (t:=o.type) (k:=λv=>k v H') h1) (by simp only[turns,ho,hb]) λf w a hr hs=>?_;have hv:=hops hs;rw[hx]at hv;generalize hgs:c.args.toList.map a.eval=us at hv;cases hv with
  |cons _ u _ us hu hl=>
   cases hl with
   |cons _ u2 _ us hu2 hl=>
    cases hl;obtain⟨r,w',f',g1,g2,g3⟩:=h2 f w u u2 hr hu hu2;refine⟨r,w',f',fA (s:=Builtin.copy_ #[t,u0] o.type #[u,u2]) ?_ g1,g2,g3⟩;rw[qQ];have e1:c.args.map a.eval = #[u,u2]:=by
     apply Array.ext';rw[Array.toList_map,hgs]
    have e2:c.argTypes = #[t,u0]:=by
     apply Array.ext';rw[hts]
    rw[e1,e2];rfl
 ·rename_i x l hx;obtain⟨v,h1,h2⟩:=FH (P:=P) (λa b k=>aqK) l x _ h;refine .same v (fI h1) λf w a hr hs=>?_;have hv:=hops hs;rw[hx]at hv;generalize hgs:c.args.toList.map a.eval=us at hv;cases hv with
  |cons _ u _ us hu hl=>
   obtain⟨r,g1,g2⟩:=h2 f u us hu hl;refine⟨r,fA (s:=us.foldlM Builtin.max2 u) ?_ (g1 w),g2⟩;rw[qQ];have:(c.args.map a.eval).toList=u::us:=by rw[Array.toList_map,hgs]
   simp only[builtin,Builtin.max_,this]
 ·rename_i x l hx;obtain⟨v,h1,h2⟩:=FH (P:=P) (λa b k=>aqL) l x _ h;refine .same v (fI h1) λf w a hr hs=>?_;have hv:=hops hs;rw[hx]at hv;generalize hgs:c.args.toList.map a.eval=us at hv;cases hv with
  |cons _ u _ us hu hl=>
   obtain⟨r,g1,g2⟩:=h2 f u us hu hl;refine⟨r,fA (s:=us.foldlM Builtin.min2 u) ?_ (g1 w),g2⟩;rw[qQ];have:(c.args.map a.eval).toList=u::us:=by rw[Array.toList_map,hgs]
   simp only[builtin,Builtin.min_,this]
 ·rename_i t ts0 x y hts hx;unfold auG at h;split at h
  ·rename_i kt et hu;obtain⟨hl,h⟩:=aD h;obtain⟨b',es,cl,r,H',em,hm,hf,hn,hnew,hold,h⟩:=amW h;refine .turn dY H' h (by simp only[turns,ho,hb]) λf w a hr hs=>?_;have hv:=hops hs;rw[hx]at hv;generalize hgs:c.args.toList.map a.eval=us at hv;cases hv with
   |cons _ u _ us hu1 hl1=>
    cases hl1 with
    |cons _ u2 _ us hu2 hl1=>
     cases hl1;obtain⟨w',g1,g2⟩:=Y1 (ts:=c.argTypes) (ty:=o.type) (by rw[←Array.getElem?_toList,hts];rfl) hu hl hm hf hn hnew hold hr (em ▸ hu1) hu2;refine⟨_,w',f,fA (s:=Builtin.delete_ c.argTypes o.type #[u,u2]) ?_ g1,g2,VR.undef f⟩;rw[qQ];have e1:c.args.map a.eval = #[u,u2]:=by
      apply Array.ext';rw[Array.toList_map,hgs]
     rw[e1];rfl
  ·exact h.elim
 ·rename_i t ts0 x hts hx;obtain⟨v,h1,h2⟩:=aqO (P:=P) (t:=t) (ty:=o.type) (ts:=c.argTypes) (by rw[←Array.getElem?_toList,hts];rfl) h;refine .same v (fI h1) λf w a hr hs=>?_;have hv:=hops hs;rw[hx]at hv;generalize hgs:c.args.toList.map a.eval=us at hv;cases hv with
  |cons _ u _ us hu hl=>
   cases hl;obtain⟨r,g1,g2⟩:=h2 f w u hu;refine⟨r,fA (s:=Builtin.cap_ c.argTypes o.type #[u]) ?_ g1,g2⟩;rw[qQ];have:c.args.map a.eval = #[u]:=by
    apply Array.ext';rw[Array.toList_map,hgs]
   rw[this];rfl
 ·rename_i t x hts hx;obtain⟨H',h1,h2⟩:=af6 (P:=P) (ty:=o.type) h;refine .turn _ H' h1 (by simp only[turns,ho,hb]) λf w a hr hs=>?_;have hv:=hops hs;rw[hx]at hv;generalize hgs:c.args.toList.map a.eval=us at hv;cases hv with
  |cons _ u _ us hu hl=>
   cases hl;obtain⟨w',g1,g2⟩:=h2 f w u hr hu;refine⟨_,w',f,fA (s:=Builtin.clear_ #[t] o.type #[u]) ?_ g1,g2,VR.undef f⟩;rw[qQ];have e1:c.args.map a.eval = #[u]:=by
    apply Array.ext';rw[Array.toList_map,hgs]
   have e2:c.argTypes = #[t]:=by
    apply Array.ext';rw[hts]
   rw[e1,e2];rfl
 ·exact h.elim
theorem O8{o:Oper}{ρ:Operand→AV}{nw:Lay}{H:AH}{k:AV→AH→Prop}(h:uL P o ρ nw H k):amT P o ρ nw H k:=by
 unfold uL at h;split at h
 ·rename_i x ho;exact .same _ h λf w a hr hs=>⟨_,.inl (by simp[execOp,ho]),hs x (by simp[ho,Op.operands])⟩
 ·rename_i x ho;exact .same _ h λf w a hr hs=>⟨_,.inl (by simp[execOp,ho]),hs x (by simp[ho,Op.operands])⟩
 ·rename_i c x y ho;rcases qN h with⟨e,h⟩|⟨e,h⟩
  ·refine .same _ (fI h) λf w a hr hs=>⟨_,.inl ?_,hs x (by simp[ho,Op.operands])⟩
   have:=hs c (by simp[ho,Op.operands]);rw[e]at this;simp[execOp,ho,this.pX,asBool]
  ·refine .same _ (fI h) λf w a hr hs=>⟨_,.inl ?_,hs y (by simp[ho,Op.operands])⟩
   have:=hs c (by simp[ho,Op.operands]);rw[e]at this;simp[execOp,ho,this.pX,asBool]
 ·rename_i e ho;rw[JB]at h;obtain⟨ob,vf,h1,h2,h3⟩:=afQ h;refine .new ob vf (by simp[xZ,ho]) h1 h2 λf w a hs=>?_;obtain⟨r,obj,g1,g2⟩:=h3 f w;exact⟨r,obj,fA (by simp only[execOp,ho]) g1,g2⟩
 ·rename_i e x ho;obtain⟨ob,vf,h1,h2,h3⟩:=aqG (P:=P) (t:=e) h;refine .new ob vf (by simp[xZ,ho]) h1 h2 λf w a hs=>?_;obtain⟨r,obj,g1,g2⟩:=h3 f w _ (hs x (by simp[ho,Op.operands]));exact⟨r,obj,fA (by simp only[execOp,ho]) g1,g2⟩
 ·rename_i t ps ho;split at h
  ·rename_i fs ht;obtain⟨h0,h⟩:=aD h;obtain⟨v,h1,h2⟩:=afV ht h0 h;refine .same v h1 λf w a hr hs=>?_;obtain⟨r,g1,g2⟩:=h2 f a.eval (λx hx=>hs x.2 (by simp only[ho,Op.operands];simp;exact⟨x.1,by simpa using hx⟩));refine⟨r,fA ?_ (g1 w),g2⟩;simp only[execOp,ho];congr 2;apply Array.ext';simp
  ·exact h.elim
 ·rename_i t n ps ho;obtain⟨ob,vf,h1,h2,h3⟩:=YR h;refine .new ob vf (by simp[xZ,ho]) h1 h2 λf w a hs=>?_;obtain⟨r,obj,g1,g2⟩:=h3 f w a.eval (λx hx=>hs x.2 (by simp only[ho,Op.operands];simp;exact⟨x.1,by simpa using hx⟩));refine⟨r,obj,fA ?_ g1,g2⟩;simp only[execOp,ho];congr 2;apply Array.ext';simp
 ·rename_i t x ho;obtain⟨v,h1,h2⟩:=OW h;refine .same v (fI h1) λf w a hr hs=>?_;obtain⟨r,g1,g2⟩:=h2 f w _ hr (hs x (by simp[ho,Op.operands]));exact⟨r,fA (by simp only[execOp,ho]) g1,g2⟩
 ·rename_i t x y ho;obtain⟨H',h1,_,h2⟩:=M0 h;refine .turn _ H' h1 (by simp[turns,ho]) λf w a hr hs=>?_;obtain⟨w',g1,g2⟩:=h2 f w _ _ hr (hs x (by simp[ho,Op.operands])) (hs y (by simp[ho,Op.operands]));exact⟨undef,w',f,.inr ⟨by simp[execOp,ho,g1],rfl⟩,g2,VR.undef f⟩
 ·rename_i x ho;obtain⟨h1,h2⟩:=amS h;refine .same _ h1 λf w a hr hs=>?_;have hx:=hs x (by simp[ho,Op.operands]);refine⟨_,.inl ?_,hx⟩;generalize hz:a.eval x=z at hx;rcases h2 with⟨b,o',e⟩|⟨g,p,q,e⟩|⟨t,v,e⟩<;>rw[e]at hx
  ·rw[hx.eI.1]at hz ⊢;simp only[execOp,ho,hz];rfl
  ·cases hx;simp only[execOp,ho,hz];rfl
  ·cases hx;simp only[execOp,ho,hz];rfl
 ·rename_i op t x y ty ho;obtain⟨v,h1,h2⟩:=amQ h;refine .same v (fI h1) λf w a hr hs=>?_;obtain⟨r,g1,g2⟩:=h2 f w _ _ hr (hs x (by simp[ho,Op.operands])) (hs y (by simp[ho,Op.operands])) (λv e=>by rw[e];rfl) (λv e=>by rw[e];rfl);exact⟨r,fA (by simp only[execOp,ho]) g1,g2⟩
 ·rename_i op t x ho;obtain⟨v,h1,h2⟩:=auz h;refine .same v (fI h1) λf w a hr hs=>?_;obtain⟨r,g1,g2⟩:=h2 f _ (hs x (by simp[ho,Op.operands]));exact⟨r,fA (by simp only[execOp,ho]) (g1 w),g2⟩
 ·rename_i s d x ho;obtain⟨v,h1,h2⟩:=amI h;refine .same v (fI h1) λf w a hr hs=>?_;obtain⟨r,g1,g2⟩:=h2 f w _ hr (hs x (by simp[ho,Op.operands]));exact⟨r,fA (by simp only[execOp,ho]) g1,g2⟩
 ·rename_i t x ho;obtain⟨v,h1,h2⟩:=af1 h;refine .same v h1 λf w a hr hs=>?_;obtain⟨r,g1,g2⟩:=h2 f _ (hs x (by simp[ho,Op.operands]));exact⟨r,fA (by simp only[execOp,ho]) (g1 w),g2⟩
 ·rename_i fn x y ho;split at h
  ·rename_i g;refine .same _ h λf w a hr hs=>?_;have h1:VL f (x.toList.map ρ) (x.toList.map a.eval):=VL.oi λz hz=>hs z (by simp[ho,Op.operands];left;simpa using hz);have h2:VL f (y.toList.map ρ) (y.toList.map a.eval):=VL.oi λz hz=>hs z (by simp[ho,Op.operands];right;simpa using hz);refine⟨.func (.func g) (x.map a.eval) (y.map a.eval),fA (s:=Instr.makeFunc (.func g) (x.map a.eval) (y.map a.eval)) (by simp only[execOp,ho]) rfl,?_⟩;have e1:x.map a.eval=(x.toList.map a.eval).toArray:=by apply Array.ext';simp
   have e2:y.map a.eval=(y.toList.map a.eval).toArray:=by apply Array.ext';simp
   rw[e1,e2];exact .func g _ _ _ _ h1 h2
  ·exact h.elim
 ·rename_i t x y ho;rw[JB]at h;obtain⟨ob,vf,h1,h2,h3⟩:=af3 h;refine .new ob vf (by simp[xZ,ho]) h1 h2 λf w a hs=>?_;obtain⟨r,obj,g1,g2⟩:=h3 f w _ _ (hs x (by simp[ho,Op.operands])) (hs y (by simp[ho,Op.operands]));exact⟨r,obj,fA (by simp only[execOp,ho]) g1,g2⟩
 ·rename_i t x lo hi mx ho;obtain⟨v,h1,h2⟩:=afU h;refine .same v h1 λf w a hr hs=>?_;obtain⟨r,g1,g2⟩:=h2 f _ _ _ _ (hs x (by simp[ho,Op.operands])) (amU (a:=a) λy e=>hs y (by subst e;simp[ho,Op.operands])) (amU (a:=a) λy e=>hs y (by subst e;simp[ho,Op.operands])) (amU (a:=a) λy e=>hs y (by subst e;simp[ho,Op.operands]));exact⟨r,fA (by simp only[execOp,ho]) (g1 w),g2⟩
 ·rename_i t x i ho;obtain⟨v,h1,h2⟩:=aqH h;refine .same v h1 λf w a hr hs=>?_;obtain⟨r,g1,g2⟩:=h2 f _ (hs x (by simp[ho,Op.operands]));exact⟨r,fA (by simp only[execOp,ho]) (g1 w),g2⟩
 ·rename_i t x i ho;obtain⟨v,h1,h2⟩:=afR h;refine .same v (fI h1) λf w a hr hs=>?_;obtain⟨r,g1,g2⟩:=h2 f _ (hs x (by simp[ho,Op.operands]));exact⟨r,fA (by simp only[execOp,ho]) (g1 w),g2⟩
 ·rename_i t x i ho;obtain⟨v,h1,h2⟩:=TN h;refine .same v h1 λf w a hr hs=>?_;obtain⟨r,g1,g2⟩:=h2 f _ _ (hs x (by simp[ho,Op.operands])) (hs i (by simp[ho,Op.operands]));exact⟨r,fA (by simp only[execOp,ho]) (g1 w),g2⟩
 ·rename_i t x i ho;obtain⟨v,h1,h2⟩:=afS h;refine .same v (fI h1) λf w a hr hs=>?_;obtain⟨r,g1,g2⟩:=h2 f _ _ (hs x (by simp[ho,Op.operands])) (hs i (by simp[ho,Op.operands]));exact⟨r,fA (by simp only[execOp,ho]) (g1 w),g2⟩
 ·rename_i x i ho;obtain⟨v,h1,h2⟩:=TM (P:=P) h;refine .same v (fI h1) λf w a hr hs=>?_;obtain⟨r,g1,g2⟩:=h2 f _ (hs x (by simp[ho,Op.operands]));exact⟨r,fA (by simp only[execOp,ho]) (g1 w),g2⟩
 ·rename_i t x ho;obtain⟨v,H',h1,h2⟩:=af2 h;refine .turn v H' h1 (by simp[turns,ho]) λf w a hr hs=>?_;obtain⟨r,w',f',g1,g2,g3⟩:=h2 f w _ hr (hs x (by simp[ho,Op.operands]));exact⟨r,w',f',fA (by simp only[execOp,ho]) g1,g2,g3⟩
 ·rename_i x s ho;obtain⟨hs0,h⟩:=aD h;obtain⟨v,H',h1,h2⟩:=amJ (P:=P) (ty:=o.type) h;refine .turn v H' h1 (by simp[turns,ho]) λf w a hr hs=>?_;obtain⟨r,w',f',g1,g2,g3⟩:=h2 f w _ hr (hs x (by simp[ho,Op.operands]));exact⟨r,w',f',fA (by simp only[execOp,ho,hs0]) g1,g2,g3⟩
 ·rename_i x t u ok ho;obtain⟨v,h1,h2⟩:=YW (t:=t) h;refine .same v (fI h1) λf w a hr hs=>?_;obtain⟨r,g1,g2⟩:=h2 f _ (hs x (by simp[ho,Op.operands]));exact⟨r,fA (by simp only[execOp,ho]) (g1 w),g2⟩
 ·rename_i t r ho;split at h
  ·obtain h:nw (.map [] 0) λb H'=>k (.map b) H':=h;refine .new (.map [] 0) (λb=>.map b) (by simp[xZ,ho]) h rfl λf w a hs=>?_;exact⟨_,_,fA (by simp only[execOp,ho];rfl) (TQ w),allocMap f w⟩
  ·exact h.elim
 ·rename_i t m key ok ho;unfold UR at h;split at h
  ·rename_i kt et hu;split at h
   ·rename_i inf hi;split at h
    ·rename_i z hz;obtain⟨hl,h⟩:=aD h;obtain⟨es,hm,h⟩:=Y3 h;obtain⟨r,hf,h⟩:=yQ h;refine .same _ (fI h) λf w a hr hs=>?_;obtain⟨v,g1,g2⟩:=YZ hu hi hz hl hm hf ok hr (hs m (by simp[ho,Op.operands])) (hs key (by simp[ho,Op.operands]));exact⟨v,fA (by simp only[execOp,ho]) g1,g2⟩
    ·exact h.elim
   ·exact h.elim
  ·exact h.elim
 ·rename_i t m key x ho;unfold US at h;split at h
  ·rename_i kt et hu;obtain⟨hl,h⟩:=aD h;obtain⟨b,es,cl,r,H',em,hb,hf,hn,hnew,hold,h⟩:=amV h;refine .turn _ H' h (by simp[turns,ho]) λf w a hr hs=>?_;obtain⟨w',g1,g2⟩:=NZ hu hl hb hf hn hnew hold hr (em ▸ hs m (by simp[ho,Op.operands])) (hs key (by simp[ho,Op.operands])) (hs x (by simp[ho,Op.operands]));exact⟨undef,w',f,.inr ⟨by simp[execOp,ho,g1],rfl⟩,g2,VR.undef f⟩
  ·exact h.elim
 ·rename_i c ho;split at h
  ·rename_i b hb;exact TR ho hb h
  ·exact h.elim
 ·exact h.elim
end
noncomputable section
def BP(n x m y:Nat):Int:=match xO n x m y with|true=>.negSucc 0|false=>(match Nat.beq n m&&Nat.beq x y with|true=>.ofNat 0|false=>.ofNat 1)
def ayY(a b:AV)(k:AV→Prop):Prop:=fV a λn x=>fV b λm y=>k (.int 0 (BP n x m y))
def Y4(P:Program)(g:Nat):Bool:=match P.funcs[g]? with|some fn=>fn.body.isNone&&(fn.name == "internal/bytealg.abigen_runtime_cmpstring" && fn.origin == "")|none=>false
def noRow(n:String):Bool:=(Extern.allGenericRows.lookup n).isNone&&((Extern.allTypedRows.lookup n).isNone&&((Extern.allRows.lookup n).isNone&&(Extern.allNextRows.lookup n).isNone))
def amX(P:Program)(g:Nat):Bool:=match P.funcs[g]? with
 |some fn=>fn.body.isNone&&(fn.origin == "slices.overlaps" && (noRow fn.name&&(!(fn.name == "runtime.NumGoroutine")&&(match fn.params[0]? with|some t=>(match P.underlying t with|some (.slice e)=>(P.info? e).isSome|_=>false)|none=>false))))
 |none=>false
def amY(P:Program)(g:Nat)(args:List AV)(H:AH)(k:AV→Prop):Prop:=match Y4 P g with
 |true=>(match args with|[a,b]=>ayY a b k|_=>False)
 |false=>bT (amX P g) (match args with|[a,b]=>N9 a b H k|_=>False)
def Y5(P:Program)(f:Operand):Option Nat:=match f with|.func g=>(match Y4 P g||amX P g with|true=>some g|false=>none)|_=>none
end
theorem af8{P:Program}{f:Operand}{g:Nat}(h:Y5 P f=some g):f=.func g:=by
 unfold Y5 at h;split at h
 ·split at h
  ·cases h;rfl
  ·cases h
 ·cases h
theorem UT:∀(n x m y:Nat),x<256^n→y<256^m→BP n x m y=Lib.compareBytes (iK n x) (iK m y)
 |0,x,0,y,hx,hy=>by
  have:x=0:=by simp at hx;exact hx
  have:y=0:=by simp at hy;exact hy
  subst x;subst y;rfl
 |0,x,m+1,y,hx,hy=>by simp[BP,xO,iK,Lib.compareBytes]
 |n+1,x,0,y,hx,hy=>by
  have e:Nat.beq (n+1) 0=false:=rfl;simp[BP,xO,iK,Lib.compareBytes,e]
 |n+1,x,m+1,y,hx,hy=>by
  have h1:=Nat.mod_lt x (show 256>0 by omega);have h2:=Nat.mod_lt y (show 256>0 by omega);have ih:=UT n (x/256) m (y/256) (by rw[Nat.pow_succ]at hx;omega) (by rw[Nat.pow_succ]at hy;omega);have hlt:∀a b:Nat,a<256→b<256→(UInt8.ofNat a<UInt8.ofNat b↔a<b):=λa b ha hb=>by
   simp[UInt8.lt_iff_toNat_lt];omega
  simp only[iK,Lib.compareBytes];have hs:xO (n+1) x (m+1) y=(Nat.ble (Nat.succ (x%256)) (y%256)||(Nat.beq (x%256) (y%256)&&xO n (x/256) m (y/256))):=rfl;rcases Nat.lt_trichotomy (x%256) (y%256)with h|h|h
  ·rw[if_pos ((hlt _ _ h1 h2).2 h)];unfold BP;rw[hs,Nat.ble_eq_true_of_le h];rfl
  ·rw[if_neg (by rw[hlt _ _ h1 h2];omega),if_neg (by rw[hlt _ _ h2 h1];omega),←ih];unfold BP;have e1:Nat.ble (Nat.succ (x%256)) (y%256)=false:=by
    cases e:Nat.ble (Nat.succ (x%256)) (y%256)with
    |false=>rfl
    |true=>have:=Nat.le_of_ble_eq_true e;omega
   have e3:(Nat.beq (n+1) (m+1)&&Nat.beq x y)=(Nat.beq n m&&Nat.beq (x/256) (y/256)):=by
    rw[Bool.eq_iff_iff];simp only[Bool.and_eq_true];have hb:∀a b:Nat,Nat.beq a b=true↔a=b:=λa b=>⟨Nat.eq_of_beq_eq_true,λh=>by subst h;exact Nat.beq_refl a⟩
    rw[hb,hb,hb,hb];omega
   rw[hs,e1,h,Nat.beq_refl,e3];rfl
  ·rw[if_neg (by rw[hlt _ _ h1 h2];omega),if_pos ((hlt _ _ h2 h1).2 h)];unfold BP;have e1:Nat.ble (Nat.succ (x%256)) (y%256)=false:=by
    cases e:Nat.ble (Nat.succ (x%256)) (y%256)with
    |false=>rfl
    |true=>have:=Nat.le_of_ble_eq_true e;omega
   have e2:Nat.beq (x%256) (y%256)=false:=by
    cases e:Nat.beq (x%256) (y%256)with
    |false=>rfl
    |true=>have:=Nat.eq_of_beq_eq_true e;omega
   have e3:Nat.beq x y=false:=by
    cases e:Nat.beq x y with
    |false=>rfl
    |true=>have:=Nat.eq_of_beq_eq_true e;omega
   rw[hs,e1,e2,e3,Bool.and_false];rfl
theorem aqP(fn:Func)(h:fn.name = "internal/bytealg.abigen_runtime_cmpstring"):Extern.find fn=some Extern.BytealgCompare.compare:=by
 unfold Extern.find;rw[h]
 kernel_rfl
theorem TS(fn:Func)(h:fn.name = "internal/bytealg.abigen_runtime_cmpstring") (h2:fn.origin = ""):Extern.findNext fn=none:=by
 unfold Extern.findNext;rw[h,h2]
 kernel_rfl
theorem amZ{P:Program}{g:Nat}(h:Y4 P g=true)(args:Array Value)(w:World):(callFunc g args).run P w=((Extern.BytealgCompare.compare args).run P w).andThen λv w'=>.ok (.value v) w':=by
 unfold Y4 at h;split at h
 ·rename_i fn hf;rw[Bool.and_eq_true,Bool.and_eq_true]at h;have h1:fn.name = "internal/bytealg.abigen_runtime_cmpstring" := by simpa using h.2.1
  have h2:fn.origin = "" := by simpa using h.2.2
  refine run_callFunc_extern hf ?_ h.1 (TS fn h1 h2) (aqP fn h1) args w;rw[h1];decide
 ·cases h
theorem aqQ(fn:Func)(h:fn.origin = "slices.overlaps") (hn:noRow fn.name=true):Extern.find fn=some (Extern.SlicesOverlaps.overlaps fn.params fn.resultTypes):=by
 unfold noRow at hn;simp only[Bool.and_eq_true,Option.isNone_iff_eq_none]at hn;obtain⟨h1,h2,h3,_⟩:=hn;have g1:Extern.allGenericRows.lookup "slices.overlaps" = none:=by kernel_rfl
 have g2:Extern.allTypedRows.lookup "slices.overlaps" = some Extern.SlicesOverlaps.overlaps:=by kernel_rfl
 unfold Extern.find;rw[h];simp only[h1,h2,h3,g1,g2];rfl
theorem TT(fn:Func)(h:fn.origin = "slices.overlaps") (hn:noRow fn.name=true):Extern.findNext fn=none:=by
 unfold noRow at hn;simp only[Bool.and_eq_true,Option.isNone_iff_eq_none]at hn;obtain⟨_,_,_,h4⟩:=hn;have g1:Extern.allNextRows.lookup "slices.overlaps" = none:=by kernel_rfl
 unfold Extern.findNext;rw[h];simp only[h4,g1];rfl
theorem Ff{w:World}{b x:Nat}{cur:Array Value}{e:TypeId}(h:w.heap[b]? = some (.cells cur e (0,0))):w.frozen? ⟨b,x,none⟩=false:=by
 unfold World.frozen?;rw[h];simp
theorem s8(ps rs:Array TypeId)(p q:Option Addr)(la ca lb cb:Nat):Extern.SlicesOverlaps.overlaps ps rs #[.slice p la ca,.slice q lb cb]=(do
  let some t:=ps[0]?|stuck "slices.overlaps: no parameter types"
  let .slice elem ←underlying t|stuck "slices.overlaps: slice type expected"
  let size ←sizeOf elem
  match p,q with
  |some a,some b=>
   if la=0∨lb=0∨size=0 then pure (Value.bool false)
   else if a.block != b.block&&(←frozen a)&&(←frozen b) then unsupported .addressObserved
   else do
    if a.block != b.block then do
     noView a;noView b
     if ←mayBeOne a b then return Value.bool ((←choose (.extern "sameAddr.stringBytes" 2)) == 1)
    pure (Value.bool (a.block == b.block&&a.off<b.off+lb*size&&b.off<a.off+la*size))
  |_,_=>pure (Value.bool false)):=rfl
theorem GO{ps rs rs':Array TypeId}{t:TypeId}(h:ps[0]? = some t)(p q:Option Addr)(la ca lb cb:Nat):Extern.SlicesOverlaps.overlaps ps rs #[.slice p la ca,.slice q lb cb]=Extern.SlicesOverlaps.overlaps #[t,t] rs' #[.slice p la ca,.slice q lb cb]:=by
 rw[s8,s8,h];rfl
theorem af9{P:Program}{f:aI}{H:AH}{w:World}{tS e:TypeId}{i:TypeInfo}(ht:P.underlying tS=some (.slice e))(hi:P.info? e=some i){ps rs:Array TypeId}(hps:ps[0]? = some tS){a b:AV}{u v:Value}{k:AV→Prop}(hr:HRQ f H.sem w)(ha:VR f a u)(hb:VR f b v)(h:N9 a b H k) :
  (Extern.SlicesOverlaps.overlaps ps rs #[u,v]).run P w=.ok (.bool false) w:=by
 have hz:∀w,(sizeOf e).run P w=.ok i.size w:=λw=>by simp[sizeOf,typeInfo,hi]
 have UU:∀(p q:Option Addr) (la ca lb cb:Nat),p=none∨q=none→(Extern.SlicesOverlaps.overlaps ps rs #[.slice p la ca,.slice q lb cb]).run P w=.ok (.bool false) w:=λp q la ca lb cb h=>by
  rcases h with rfl|rfl
  ·rw[s8,hps];simp[run_underlying ht,hz]
  ·rw[s8,hps];cases p<;>simp[run_underlying ht,hz]
 unfold N9 at h;rcases gM h with⟨rfl,g⟩|⟨b1,o1,l1,c1,s1,x1,rfl,g⟩
 ·cases ha;have hv:∃q lb cb,v=.slice q lb cb:=by
   rcases gM g with⟨rfl,g2⟩|⟨b2,o2,l2,c2,s2,x2,rfl,g2⟩
   ·cases hb;exact⟨_,_,_,rfl⟩
   ·cases hb;exact⟨_,_,_,rfl⟩
  obtain⟨q,lb,cb,rfl⟩:=hv;exact UU _ _ _ _ _ _ (.inl rfl)
 ·rcases gM g with⟨rfl,g2⟩|⟨b2,o2,l2,c2,s2,x2,rfl,g2⟩
  ·cases ha;cases hb;exact UU _ _ _ _ _ _ (.inr rfl)
  ·obtain⟨hne,g3⟩:=aD g2;obtain⟨d1,n1,m1,hb1,g4⟩:=dx g3;obtain⟨hm1,g5⟩:=aD g4;obtain⟨d2,n2,m2,hb2,g6⟩:=dx g5;obtain⟨hn2,_⟩:=aD g6;have hm1:m1=0:=Nat.eq_of_beq_eq_true hm1;subst hm1;have hn2:1≤n2:=Nat.le_of_ble_eq_true hn2;have hne':b1≠b2:=λe=>by subst e;simp at hne
   cases ha with
   |slice _ _ _ _ _ _ cap1 y1 hd1 _ _ _ _=>
    cases hb with
    |slice _ _ _ _ _ _ cap2 y2 hd2 _ _ _ _=>
     have hblk:f.blk b1≠f.blk b2:=λe=>hne' (hr.inj b1 b2 hd1 hd2 (by rw[AH.bN,hb1];rfl) (by rw[AH.bN,hb2];rfl) e);obtain⟨ayZ,e1,lo1,hi1,q1,q2,q3,_,_,q6⟩:=hr.cells hd1 hb1;obtain⟨ay0,e2,lo2,hi2,r1,r2,r3,_⟩:=hr.cells hd2 hb2;obtain⟨rfl,rfl⟩:=q6 rfl;have:=Lib.run_overlaps_apart (P:=P) w tS tS e ht i.size hz ⟨f.blk b1,y1,none⟩ ⟨f.blk b2,y2,none⟩ l1 cap1 l2 cap2 hblk e1 e2 ayZ.size ay0.size (by simp[World.shape?,q1]) (by simp[World.shape?,r1]) (by omega) (Ff q1) (Ff q1);rw[GO hps];exact this
theorem aqR{P:Program}{g:Nat}{args:List AV}{H:AH}{k:AV→Prop}(h:amY P g args H k):∃v,k v∧∀f w (vs:Array Value),HR f H w→VL f args vs.toList→∃u,(callFunc g vs).run P w=.ok (.value u) w∧VR f v u:=by
 unfold amY at h;split at h
 ·rename_i hc;split at h
  ·rename_i a b;obtain⟨n,x,rfl,h1⟩:=gC h;obtain⟨m,y,rfl,h2⟩:=gC h1;refine⟨_,h2,λf w vs _ hv=>?_⟩;have e:vs=vs.toList.toArray:=by simp
   rw[e];generalize vs.toList=l at hv;cases hv with
   |cons _ u _ us hu hl=>
    cases hl with
    |cons _ u2 _ us hu2 hl=>
     cases hl;obtain⟨rfl,hx⟩:=hu.jl;obtain⟨rfl,hy⟩:=hu2.jl;refine⟨.int .i64 (BP n x m y),?_,.int 0 _⟩;rw[amZ hc,Lib.run_compareString];simp only[Result.andThen_ok];rw[UT n x m y hx hy];rfl
  ·exact h.elim
 ·obtain⟨hc,h⟩:=aD h;split at h
  ·rename_i a b;unfold amX at hc;split at hc
   ·rename_i fn hf;simp only[Bool.and_eq_true,Bool.not_eq_true',beq_iff_eq]at hc;obtain⟨h1,h2,h3,h4,h5⟩:=hc;split at h5
    ·rename_i tS hps;split at h5
     ·rename_i e ht;obtain⟨i,hi⟩:=Option.isSome_iff_exists.1 h5;refine⟨.bool false,?_,λf w vs hr hv=>?_⟩
      ·unfold N9 at h;rcases gM h with⟨_,h⟩|⟨_,_,_,_,_,_,_,h⟩
       ·rcases gM h with⟨_,h⟩|⟨_,_,_,_,_,_,_,h⟩<;>exact h
       ·rcases gM h with⟨_,h⟩|⟨_,_,_,_,_,_,_,h⟩
        ·exact h
        ·obtain⟨_,h⟩:=aD h;obtain⟨_,_,_,_,h⟩:=dx h;obtain⟨_,h⟩:=aD h;obtain⟨_,_,_,_,h⟩:=dx h;exact(aD h).2
      ·have e:vs=vs.toList.toArray:=by simp
       rw[e];generalize vs.toList=l at hv;cases hv with
       |cons _ u _ us hu hl=>
        cases hl with
        |cons _ u2 _ us hu2 hl=>
         cases hl;refine⟨.bool false,?_,.bool false⟩;rw[run_callFunc_extern hf h4 h1 (TT fn h2 h3) (aqQ fn h2 h3)];have:=af9 ht hi hps (rs:=fn.resultTypes) hr.toHRQ hu hu2 h;simp only[this,Result.andThen_ok]
     ·cases h5
    ·cases h5
   ·cases hc
  ·exact h.elim
structure dN where
 g:Nat
 args:List AV
inductive Out where
 |normal
 |exit (id:Nat)
 |goto (l:Nat)
 |ret
 |cj (v:AV)
inductive kl where
 |ret (v:AV)
 |cj (v:AV)
abbrev eJ:=Nat→List AV→AH→(kl→AH→Prop)→Prop
noncomputable section
def fh(G:Nat)(env:List AV):Operand→AV
 |.tmp t=>env.getD t dY
 |.const v=>ig v
 |.global g=>if Nat.ble (Nat.succ g) G then .ptr g 0 else .cH
 |.func f=>.func f [] []
def cz(env:List AV)(dst:Option Tmp)(v:AV):List AV:=match dst with|some d=>env.set d v|none=>env
def qR(a:AV)(k:Nat→List AV→List AV→Prop):Prop:=match a with|.func g x y=>k g x y|_=>False
def rU(a:AV)(k:Prop):Prop:=match a with|.iface _ _=>k|_=>False
def ew(P:Program)(g:Nat):Bool:=match P.funcs[g]? with|some fn=>fn.body.isSome && !(fn.name == "runtime.NumGoroutine")|none=>false
def cOut(o:kl)(k:AV→Prop)(kp:AV→Prop):Prop:=match o with|.ret v=>k v|.cj v=>kp v
def Oa(P:Program)(s t:TypeId):Bool:=match P.underlying s,P.underlying t with
 |some .string,some (.slice e)=>(match P.underlying e with|some (.int .u8)=>true|_=>false)
 |_,_=>false
def wz(C:eJ)(P:Program)(G:Nat)(o:Oper)(ρ:Operand→AV)(nw:Lay)(H:AH)(k:AV→AH→Prop)(kp:AV→AH→Prop):Prop:=
 match o.op with
 |.call c=>(match c.callee with
  |.value f=>(match Y5 P f with
   |some g=>amY P g (c.args.toList.map ρ) H λv=>lH P o.type v λv=>k v H
   |none=>qR (ρ f) λg x y=>bT (ew P g) (C g (x++(c.args.toList.map ρ++y)) H λo' H'=>cOut o' (λv=>lH P o.type v λv=>k v H') (λv=>kp v H')))
  |_=>uL P o ρ nw H k)
 |.panic x=>rU (ρ x) (kp (ρ x) H)
 |.convert s t x=>bI (Oa P s t) (FG nw (ρ x) k) (uL P o ρ nw H k)
 |_=>uL P o ρ nw H k
def ape(C:eJ)(P:Program)(G:Nat)(o:Oper)(env:List AV)(ds:List dN)(H:AH)(k:List AV→List dN→AH→Prop)(kp:AV→AH→Prop):Prop:=
 match o.op with
 |.defer c=>(match c.callee with
  |.value f=>qR (fh G env f) λg x y=>bT (ew P g) (k (cz env o.dst dY) (⟨g,x++(c.args.toList.map (fh G env)++y)⟩::ds) H)
  |_=>False)
 |_=>wz C P G o (fh G env) (aA H) H (λv H'=>k (cz env o.dst v) ds H') kp
def Dg(o:Oper):Bool:=match o.op with|.defer _=>true|_=>false
def GP(v:AV)(want:Bool)(x y:Prop):Prop:=match v with|.bool b=>(match want with|true=>bI b x y|false=>bI b y x)|.aE _=>y|_=>False
theorem Fg{b want:Bool}{x y:Prop}(h:GP (.bool b) want x y):bI (b == want) x y:=by cases b<;>cases want<;>exact h
def oV(ops:Array Oper)(env:List AV)(j:Nat):AV:=match (ops[j]?).bind (·.dst)with|some t=>env.getD t .cH|none=>.cH
def GQ(ops:Array Oper)(env:List AV)(j:Nat)(want:Bool)(x y:List AV→Prop):Prop:=match oV ops env j with
 |.bool b=>bI b (bI want (x (cz env ((ops[j]?).bind (·.dst)) (.bool true))) (y (cz env ((ops[j]?).bind (·.dst)) (.bool true)))) (bI want (y (cz env ((ops[j]?).bind (·.dst)) (.bool false))) (x (cz env ((ops[j]?).bind (·.dst)) (.bool false))))
 |.aE _=>y env
 |_=>False
def wA(C:eJ)(P:Program)(G:Nat)(ops:Array Oper):List Oper→List AV→List dN→AH→(Out→List AV→List dN→AH→Prop)→Prop
 |[],env,ds,H,K=>K .normal env ds H
 |o::rest,env,ds,H,K=>
  match o.guard with
  |none=>ape C P G o env ds H (λenv ds H=>wA C P G ops rest env ds H K) (λv H=>K (.cj v) env ds H)
  |some (j,want)=>bT (!(Dg o)) (GQ ops env j want (λenv=>wz C P G o (fh G env) (aA H) H (λv H=>wA C P G ops rest (cz env o.dst v) ds H K) (λv H=>K (.cj v) env ds H)) (λenv=>wA C P G ops rest (cz env o.dst dY) ds H K))
end
structure AR(P:Program)(f:aI)(env:List AV)(a:Act):Prop where
 tmps:VL f env a.tmps.toList
 glob:∀g,g<P.globals.size→f.dom g∧f.blk g=g∧f.off g=0
inductive DR(f:aI):List dN→List Deferred→Prop
 |nil:DR f [] []
 |cons (g:Nat) (args:List AV) (cap vs:Array Value) (ds:List dN) (es:List Deferred):VL f args (vs++cap).toList→DR f ds es→DR f (⟨g,args⟩::ds) (⟨.fn (.func g) cap,vs⟩::es)
theorem DR.up{f f':aI}(h:f.le f'):∀{ds:List dN}{es:List Deferred},DR f ds es→DR f' ds es
 |_,_,.nil=>.nil
 |_,_,.cons g args cap vs ds es h1 h2=>.cons g args cap vs ds es (h1.up h) (DR.up h h2)
theorem AR.up{P:Program}{f f':aI}(h:f.le f'){env:List AV}{a:Act}(r:AR P f env a):AR P f' env a:=
 ⟨r.tmps.up h,λg hg=>⟨h.dom g (r.glob g hg).1,(h.blk g (r.glob g hg).1).trans (r.glob g hg).2.1,(h.off g (r.glob g hg).1).trans (r.glob g hg).2.2⟩⟩
section
variable {P:Program}
theorem zd{f:aI}{env:List AV}{a:Act}(h:AR P f env a)(x:Operand):VR f (fh P.globals.size env x) (a.eval x):=by
 cases x with
 |tmp t=>
  simp only[fh,Act.eval];rcases Nat.lt_or_ge t env.length with hl|hl
  ·obtain⟨v,h1,h2⟩:=h.tmps.get t env[t] (List.getElem?_eq_getElem hl);have e1:env.getD t dY=env[t]:=by simp[List.getD,List.getElem?_eq_getElem hl]
   have e2:a.tmps.getD t undef=v:=by
    rw[Array.getElem?_toList]at h1;simp[Array.getD_eq_getD_getElem?,h1]
   rw[e1,e2];exact h2
  ·have e1:env.getD t dY=dY:=by simp[List.getD,List.getElem?_eq_none hl]
   have hlen:=h.tmps.length;have e2:a.tmps.getD t undef=undef:=by
    have e:a.tmps.toList.length=a.tmps.size:=Array.length_toList;simp[Array.getD_eq_getD_getElem?,Array.getElem?_eq_none (show a.tmps.size≤t by omega)]
   rw[e1,e2];exact VR.undef f
 |const v=>exact qk f v
 |global g=>
  simp only[fh,Act.eval];split
  ·rename_i hg;obtain⟨h1,h2,h3⟩:=h.glob g (Nat.le_of_ble_eq_true hg);have:=VR.ptr (f:=f) g 0 h1;rw[h2,h3]at this;exact this
  ·exact .cH _
 |func g=>exact .func g [] [] [] [] .nil .nil
theorem AR.put{f:aI}{env:List AV}{a:Act}(h:AR P f env a)(dst:Option Tmp){v:AV}{u:Value}(hv:VR f v u):AR P f (cz env dst v) (a.put dst u):=by
 cases dst with
 |none=>exact h
 |some d=>exact⟨by simp only[cz,Act.put,Array.toList_setIfInBounds];exact h.tmps.set d v u hv,h.glob⟩
theorem AR.defers{f:aI}{env:List AV}{a:Act}(h:AR P f env a)(ds:List Deferred):AR P f env { a with defers:=ds }:=⟨h.tmps,h.glob⟩
def AO(f:aI)(v:AV)(ch:List PanicEntry):Prop:=∃u older,ch={ v:=u,recovered:=false }::older∧VR f v u∧∀x∈older,x.goexit=false
def uQ(f:aI)(H:AH)(w:World)(o:kl)(H':AH):Ending→World→Prop:=λe w'=>
 ∃f',Step f H w f' H' w'∧match o with
  |.ret v=>∃u,e=.returned u∧VR f' v u
  |.cj v=>∃ch,e=.panicked ch∧AO f' v ch
def hH(P:Program)(C:eJ):Prop:=∀g args H K,ew P g=true→C g args H K→∃o H',K o H'∧∀f w (vs:Array Value),HR f H w→(∀g,g<P.globals.size→f.dom g∧f.blk g=g∧f.off g=0)→VL f args vs.toList→Calls P g vs w (uQ f H w o H')
def nd(P:Program)(f:aI)(H:AH)(w:World)(o:Out)(env:List AV)(ds:List dN)(H':AH):Exit→Act→World→Prop:=λe a w'=>
 ∃f',Step f H w f' H' w'∧AR P f' env a∧DR f' ds a.defers∧match o with
  |.normal=>e=.normal
  |.exit id=>e=.exit id
  |.goto l=>e=.goto l
  |.ret=>e=.ret
  |.cj v=>∃ch,e=.panic ch∧AO f' v ch
theorem TU{g:Nat}(h:ew P g=true):∃fn c,P.funcs[g]? = some fn∧fn.body=some c∧(fn.name == "runtime.NumGoroutine")=false:=by
 unfold ew at h;split at h
 ·rename_i fn hf;rw[Bool.and_eq_true]at h;obtain⟨c,hc⟩:=Option.isSome_iff_exists.1 h.1;exact⟨fn,c,hf,hc,by simpa using h.2⟩
 ·cases h
theorem BQ{g:Nat}(h:ew P g=true)(args:Array Value)(w:World):(callFunc g args).run P w=.ok (.enter g args) w:=by
 obtain⟨fn,c,h1,h2,h3⟩:=TU h;have h3':¬fn.name = "runtime.NumGoroutine" := by simpa using h3
 simp[callFunc,h1,h2,h3']
theorem GR{a:AV}{k:Nat→List AV→List AV→Prop}(h:qR a k):∃g x y,a=.func g x y∧k g x y:=by
 cases a<;>first|exact h.elim|exact⟨_,_,_,rfl,h⟩
inductive O9(P:Program)(o:Oper)(ρ:Operand→AV)(H:AH)(k:AV→AH→Prop)(kp:AV→AH→Prop):Prop where
 |val (v:AV) (H':AH) (h:k v H') (g:∀f w a,HR f H w→(∀g,g<P.globals.size→f.dom g∧f.blk g=g∧f.off g=0)→Stand f o ρ a→∀(next:Act→World→Prop) Q,(∀f' w' u,Step f H w f' H' w'→VR f' v u→next (a.put o.dst u) w')→o.wp P a w next Q)
 |cj (v:AV) (H':AH) (h:kp v H') (g:∀f w a,HR f H w→(∀g,g<P.globals.size→f.dom g∧f.blk g=g∧f.off g=0)→Stand f o ρ a→∀(next:Act→World→Prop) (Q:Exit→Act→World→Prop),(∀f' w' ch,Step f H w f' H' w'→AO f' v ch→Q (.panic ch) a w')→o.wp P a w next Q)
theorem kg{o:Oper}{a:Act}{w w':World}{u:Value}(h:Did P o a w u w'){next:Act→World→Prop}{Q:Exit→Act→World→Prop}(hn:next (a.put o.dst u) w'):o.wp P a w next Q:=by
 unfold Oper.wp;rcases h with h|⟨h,rfl⟩<;>rw[h]<;>exact hn
theorem Pb{o:Oper}{ρ:Operand→AV}{H:AH}{k kp:AV→AH→Prop}(h:amT P o ρ (aA H) H k):O9 P o ρ H k kp:=by
 cases h with
 |same v h g=>
  refine .val v H h λf w a hr _ hs next Q hn=>?_;obtain⟨u,g1,g2⟩:=g f w a hr.toHRQ hs;exact kg g1 (hn f w u (Step.refl hr) g2)
 |new ob vf _ h ho g=>
  obtain⟨H',g1,g2,g3,g4⟩:=mr h;refine .val _ H' g1 λf w a hr _ hs next Q hn=>?_;obtain⟨u,obj,g5,g6⟩:=g f w a hs;obtain⟨f',s1,s2⟩:=AF hr g2 g3 g4 ho g6;exact kg g5 (hn f' _ u s1 s2)
 |turn v H' h _ g=>
  refine .val v H' h λf w a hr _ hs next Q hn=>?_;obtain⟨u,w',f',g1,g2,g3⟩:=g f w a hr hs;exact kg g1 (hn f' w' u g2 g3)
theorem yR{o:Oper}{ρ:Operand→AV}{H:AH}{k kp:AV→AH→Prop}(h:uL P o ρ (aA H) H k):O9 P o ρ H k kp:=Pb (O8 h)
theorem aga{s t:TypeId}(h:Oa P s t=true):∃e,P.underlying s=some .string∧P.underlying t=some (.slice e)∧P.underlying e=some (.int .u8):=by
 unfold Oa at h;split at h
 ·rename_i e hs ht;split at h
  ·rename_i he;exact⟨e,hs,ht,he⟩
  ·cases h
 ·cases h
theorem TV{f:aI}{H:AH}{w:World}(hr:HR f H w){n:Nat}{vs:List Value}(hlen:vs.length=n){c:Bt AV}(hc:∀j a,c.get? j=some a→j<n∧∃v,vs[j]? = some v∧VR f a v)
  {H':AH}(hn:H'.n=H.n+1) (hnew:H'.at H.n=.cells c n 1) (hold:∀b,b≠H.n→H'.at b=H.at b){cap':Nat}(hcap:n≤cap'){rest:List Value}(hrest:rest.length=cap'-n) (e:TypeId) :
  ∃f',Step f H w f' H' (w.alloc (.cells (vs++rest).toArray e ((vs++rest).length,(vs++rest).length+1)))∧VR f' (.slice H.n 0 n n 1 false) (.slice (some ⟨w.heap.size,0,none⟩) n cap'):=by
 refine AF hr hn hnew hold (by simp[dM.sem,gL.own]) (vf:=λb=>.slice b 0 n n 1 false) ⟨(vs++rest).length,λi hi=>⟨?_,?_⟩⟩
 ·have hle:=f.qL hi w.heap.size 0 (vs++rest).length;refine⟨_,e,_,_,rfl,by simp,by simp[hlen],λj a hj=>?_,λ_ j hj=>by rw[aI.rO]at hj;rw[aI.jj];omega,λh=>absurd h (by omega)⟩;obtain⟨h1,v,h2,h3⟩:=hc j a hj;refine⟨h1,v,?_,h3.up hle⟩;rw[aI.jj,Nat.zero_add];simp only[List.getElem?_toArray];rw[List.getElem?_append_left (by omega),h2]
 ·have:=VR.slice (f:=f.ext i w.heap.size 0 (vs++rest).length) i 0 n n 1 false cap' 0 (aI.qg _ _ _ _ _) (Nat.le_refl _) hcap (λ_=>by rw[aI.jj]) (λ_=>⟨rfl,by
   rw[aI.rO,List.length_append,hlen,hrest];omega⟩)
  rw[aI.gZ]at this;exact this
theorem agb{H:AH}{o:Oper}{s t:TypeId}{x:Operand}(ho:o.op=.convert s t x)(ht:Oa P s t=true){ρ:Operand→AV}{k kp:AV→AH→Prop}
  (g:FG (aA H) (ρ x) k):O9 P o ρ H k kp:=by
 obtain⟨e,hs1,ht1,he1⟩:=aga ht;obtain⟨n,y,e1,g⟩:=gC g;obtain⟨c,g,_,h2,h3⟩:=fm _ _ _ _ g;obtain⟨hm,g⟩:=aD g;have hlen:=GK n y;rw[hlen,Nat.zero_add]at g h3;obtain⟨H',g,n1,n2,n3⟩:=mr g;refine .val _ H' g λf w a hr hg hst next Q hn=>?_;have hx:=hst x (by simp[ho,Op.operands]);rw[e1]at hx;obtain⟨ex,hlt⟩:=hx.jl;have hrun:=run_bytes_of_string (P:=P) w s t e (eS n y) hs1 ht1 he1;rw[MV]at hrun;have hvl:=M4 f n y
 let vs:List Value:=(iK n y).map λ(b:UInt8)=>Value.int .u8 (b.toNat:Int)
 let rest:List Value:=List.replicate (grownCap w n 0 e-n) (Value.int .u8 0)
 have hrow:bytesRow (eS n y) (grownCap w n 0 e)=(vs++rest).toArray:=by
  apply Array.ext';simp[bytesRow,vs,rest]
 have hl1:vs.length=n:=by simp[vs,gS]
 obtain⟨f',s1,s2⟩:=TV (fK.drew hr (w.drawn+1)) (vs:=vs) hl1 (c:=c) (λj a hj=>by
  rcases Nat.lt_or_ge j n with hj'|hj'
  ·have:=h2 j (by rw[hlen];exact hj');rw[Nat.zero_add]at this;rw[this]at hj;obtain⟨v,y1,y2⟩:=hvl.get j a hj;exact⟨hj',v,y1,y2⟩
  ·rw[h3 j (by omega)]at hj;cases hj) n1 n2 n3 (grownCap_ge w n 0 e) (rest:=rest) (by simp[rest]) e
 have ay1:Did P o a w (.slice (some ⟨w.heap.size,0,none⟩) n (grownCap w n 0 e)) (({ w with drawn:=w.drawn+1 }:World).alloc (.cells (vs++rest).toArray e ((vs++rest).length,(vs++rest).length+1))):=by
  left;have e2:execOp a.eval o=(do pure (.value (←convert s t (a.eval x)))):=by simp only[execOp,ho]
  rw[e2,ex];simp only[Sem.run_bind,hrun,Result.andThen_ok,Sem.run_pure,hrow];simp only[List.size_toArray];rfl
 exact kg ay1 (hn f' _ _ (Step.trans hr (Step.drew hr (w.drawn+1)) s1) s2)
theorem ya{C:eJ}(hC:hH P C){o:Oper}{ρ:Operand→AV}{G:Nat}{H:AH}{k kp:AV→AH→Prop}(h:wz C P G o ρ (aA H) H k kp):O9 P o ρ H k kp:=by
 unfold wz at h;split at h
 ·rename_i c ho;split at h
  ·rename_i fo hc;split at h
   ·rename_i g hx;obtain rfl:=af8 hx;obtain⟨v,h1,h2⟩:=aqR h;refine .val v H (fI (P:=P) (t:=o.type) (k:=λv=>k v H) h1) λf w a hr hg hs next Q hn=>?_;have hv:VL f (c.args.toList.map ρ) (c.args.map a.eval).toList:=by
     rw[Array.toList_map];exact VL.oi λz hz=>hs z (by simp[ho,Op.operands,Call.operands,hc];right;simpa using hz)
    obtain⟨u,g3,g4⟩:=h2 f w _ hr hv;refine kg (.inl ?_) (hn f w u (Step.refl hr) g4);have:execOp a.eval o=callFunc g (c.args.map a.eval):=by simp[execOp,ho,resolve,hc,Act.eval,Deferred.ofValue,invoke]
    rw[this,g3]
   obtain⟨g,x,y,e,h⟩:=GR h;obtain⟨hb,h⟩:=aD h;obtain⟨co,H',h1,h2⟩:=hC g _ H _ hb h;have qQ:∀{f:aI}{a:Act}(w:World),Stand f o ρ a→∃vs:Array Value,VL f (x++(c.args.toList.map ρ++y)) vs.toList∧(execOp a.eval o).run P w=.ok (.enter g vs) w:=λ{f a} w hs=>by
    have hf:=hs fo (by simp[ho,Op.operands,Call.operands,hc]);rw[e]at hf;have hv:VL f (c.args.toList.map ρ) (c.args.toList.map a.eval):=VL.oi λz hz=>hs z (by simp[ho,Op.operands,Call.operands,hc];right;simpa using hz);generalize hz:a.eval fo=z at hf;cases hf with
    |func _ _ _ us ws h1 h2=>
     refine⟨us.toArray++c.args.map a.eval++ws.toArray,by simp only[Array.toList_append,Array.toList_map];rw[List.append_assoc];exact h1.append (hv.append h2),?_⟩;simp[execOp,ho,resolve,hc,hz,Deferred.ofValue,invoke,BQ hb]
   cases co with
   |ret v=>
    refine .val v H' (fI (P:=P) (t:=o.type) (k:=λv=>k v H') h1) λf w a hr hg hs next Q hn=>?_;obtain⟨vs,g1,g2⟩:=qQ w hs;unfold Oper.wp;rw[g2,Oper.upon_enter];refine(h2 f w vs hr hg g1).mono λe w' hp=>?_;obtain⟨f',s,u,rfl,hu⟩:=hp;exact hn f' w' u s hu
   |cj v=>
    refine .cj v H' h1 λf w a hr hg hs next Q hn=>?_;obtain⟨vs,g1,g2⟩:=qQ w hs;unfold Oper.wp;rw[g2,Oper.upon_enter];refine(h2 f w vs hr hg g1).mono λe w' hp=>?_;obtain⟨f',s,ch,rfl,hu⟩:=hp;exact hn f' w' ch s hu
  ·exact yR h
 ·rename_i x ho;unfold rU at h;split at h
  ·rename_i t v e;refine .cj _ H h λf w a hr _ hs next Q hn=>?_;have hx:=hs x (by simp[ho,Op.operands]);rw[e]at hx;generalize hz:a.eval x=z at hx;have hx':=hx;cases hx with
   |iface _ _ y hy=>
    have hrun:(execOp a.eval o).run P w=.halt (.panic (.iface t y)) w:=by simp[execOp,ho,hz,Instr.panic]
    unfold Oper.wp;rw[hrun,Oper.upon_panic];refine hn f w _ (Step.refl hr) ⟨.iface t y,[],rfl,?_,by simp⟩;rw[e];exact hx'
  ·exact h.elim
 ·rename_i s t x ho;rcases dn h with⟨ht,h⟩|⟨_,h⟩
  ·exact agb ho ht h
  ·exact yR h
 ·exact yR h
end
section
def iq(P:Program)(env:List AV)(ds:List dN)(H:AH)(K:Out→List AV→List dN→AH→Prop)(W:Act→World→(Exit→Act→World→Prop)→Prop):Prop:=
 ∃o env' ds' H',K o env' ds' H'∧∀f w a,HR f H w→AR P f env a→DR f ds a.defers→∀Q:Exit→Act→World→Prop,(∀e a' w',nd P f H w o env' ds' H' e a' w'→Q e a' w')→W a w Q
variable {P:Program}
theorem nd.after{f f1:aI}{H H1:AH}{w w1:World}(s:Step f H w f1 H1 w1){o:Out}{env:List AV}{ds:List dN}{H':AH}{e:Exit}{a:Act}{w':World}(h:nd P f1 H1 w1 o env ds H' e a w'):nd P f H w o env ds H' e a w':=by
 obtain⟨f',s',h⟩:=h;exact⟨f',gn.trans s s',h⟩
theorem put_defers(a:Act)(d:Option Tmp)(v:Value):(a.put d v).defers=a.defers:=by cases d<;>rfl
theorem Pc{ops:Array Oper}{env:List AV}{j:Nat}{v:AV}(hv:oV ops env j=v)(hp:v≠.cH) :
  ∃t,(ops[j]?).bind (·.dst)=some t∧env[t]? = some v:=by
 unfold oV at hv;split at hv
 ·rename_i t ht;refine⟨t,ht,?_⟩;rw[List.getD_eq_getElem?_getD]at hv;cases he:env[t]? with
  |none=>rw[he]at hv;exact absurd hv.symm hp
  |some x=>rw[he]at hv;exact congrArg some hv
 ·exact absurd hv.symm hp
theorem uR{f:aI}{ops:Array Oper}{env:List AV}{a:Act}(h:AR P f env a){j:Nat}{v:AV}(hv:oV ops env j=v)(hp:v≠.cH) :
  ∃u,VR f v u∧yielded ops a.tmps j=(match u with|.bool b=>some b|_=>none):=by
 obtain⟨t,h1,h2⟩:=Pc hv hp;obtain⟨u,h3,h4⟩:=h.tmps.get t v h2;rw[Array.getElem?_toList]at h3;refine⟨u,h4,?_⟩;unfold yielded;rw[h1,Option.bind_some,h3];cases u<;>rfl
theorem aqS{ops:Array Oper}{env:List AV}{o:Oper}{j:Nat}{want:Bool}(hg:o.guard=some (j,want)){x y:Prop}(hk:GP (oV ops env j) want x y) :
  (x∧∀f a,AR P f env a→Region.wanted o (yielded ops a.tmps)=true)∨(y∧∀f a,AR P f env a→Region.wanted o (yielded ops a.tmps)=false):=by
 generalize hv:oV ops env j=v at hk;cases v<;>try exact hk.elim
 case bool b=>
  have key:∀f a,AR P f env a→Region.wanted o (yielded ops a.tmps)=(b == want):=λf a h=>by
   obtain⟨u,h1,h2⟩:=uR h hv (by simp);cases h1;simp only[Region.wanted,hg,h2];cases b<;>cases want<;>rfl
  rcases dn (Fg hk)with⟨h1,h2⟩|⟨h1,h2⟩
  ·exact .inl ⟨h2,λf a h=>(key f a h).trans h1⟩
  ·exact .inr ⟨h2,λf a h=>(key f a h).trans h1⟩
 case aE l=>
  refine .inr ⟨hk,λf a h=>?_⟩;obtain⟨u,h1,h2⟩:=uR h hv (by simp);cases h1;simp only[Region.wanted,hg,h2];rfl
theorem GS{ops:Array Oper}{env:List AV}{j:Nat}{want:Bool}{x y:List AV→Prop}(h:GQ ops env j want x y):GP (oV ops env j) want (x env) (y env):=by
 have key:∀b,oV ops env j=.bool b→cz env ((ops[j]?).bind (·.dst)) (.bool b)=env:=λb hb=>by
  obtain⟨t,h1,h2⟩:=Pc hb (by simp);rw[h1];simp only[cz];apply List.ext_getElem?;intro i;rw[List.getElem?_set];split
  ·rename_i e;subst e;split
   ·exact h2.symm
   ·rename_i hl;rw[List.getElem?_eq_none (by omega)]
  ·rfl
 unfold GQ at h;split at h
 ·rename_i b hb;rw[hb];cases b<;>cases want<;>simp only[bI,key _ hb]at h<;>exact h
 ·rename_i l hl;rw[hl];exact h
 ·exact h.elim
theorem AR.stand{f:aI}{env:List AV}{a:Act}(h:AR P f env a)(o:Oper):Stand f o (fh P.globals.size env) a:=λx _=>zd h x
theorem iq.opV{o:Oper}{env:List AV}{ds:List dN}{H:AH}{K:Out→List AV→List dN→AH→Prop}{k:AV→AH→Prop}{W:Act→World→(Exit→Act→World→Prop)→Prop}
  {N:(Exit→Act→World→Prop)→Act→World→Prop}(h:O9 P o (fh P.globals.size env) H k (λv H=>K (.cj v) env ds H))
  (hk:∀v H',k v H'→iq P (cz env o.dst v) ds H' K λa w Q=>N Q a w)
  (hW:∀f a w Q,AR P f env a→o.wp P a w (N Q) Q→W a w Q):iq P env ds H K W:=by
 cases h with
 |val v H' h g=>
  obtain⟨ot,env',ds',H2,h1,h2⟩:=hk v H' h;refine⟨ot,env',ds',H2,h1,λf w a hr ha hd Q hQ=>hW f a w Q ha (g f w a hr ha.glob (ha.stand o) _ _ λf' w' u s hu=>?_)⟩;exact h2 f' w' _ s.rel ((ha.up s.le).put o.dst hu) (by rw[put_defers];exact hd.up s.le) Q λe a' w'' hx=>hQ e a' w'' (hx.after s)
 |cj v H' h g=>
  refine⟨.cj v,env,ds,H',h,λf w a hr ha hd Q hQ=>hW f a w Q ha (g f w a hr ha.glob (ha.stand o) _ _ λf' w' ch s hp=>?_)⟩;exact hQ _ _ _ ⟨f',s,ha.up s.le,hd.up s.le,ch,rfl,hp⟩
theorem am0{o:Oper}{c:Call}(ho:o.op=.defer c){fo:Operand}(hc:c.callee=.value fo){f:aI}{env:List AV}{a:Act}(ha:AR P f env a){g:Nat}{x y:List AV}(e:fh P.globals.size env fo=.func g x y)(w:World) :
  ∃d,(execOp a.eval o).run P w=.ok (.defer d) w∧∀ds,DR f ds a.defers→DR f (⟨g,x++(c.args.toList.map (fh P.globals.size env)++y)⟩::ds) (d::a.defers):=by
 have hs:=ha.stand o;have hf:=hs fo (by simp[ho,Op.operands,Call.operands,hc]);rw[e]at hf;have hv:VL f (c.args.toList.map (fh P.globals.size env)) (c.args.toList.map a.eval):=VL.oi λz hz=>hs z (by simp[ho,Op.operands,Call.operands,hc];right;simpa using hz);generalize hz:a.eval fo=z at hf;cases hf with
 |func _ _ _ us ws h1 h2=>
  refine⟨⟨.fn (.func g) ws.toArray,us.toArray++c.args.map a.eval⟩,by simp[execOp,ho,resolve,hc,hz,Deferred.ofValue],λds hd=>.cons g _ _ _ ds _ ?_ hd⟩;simp only[Array.toList_append,Array.toList_map];rw[List.append_assoc];exact h1.append (hv.append h2)
theorem yS{ops:Array Oper}{rest:List Oper}{o:Oper}{a:Act}{w:World}{Q:Exit→Act→World→Prop}(hw:Region.wanted o (yielded ops a.tmps)=true)(h:o.wp P a w (wpList P ops Q rest) Q):wpList P ops Q (o::rest) a w:=by
 unfold wpList;rw[if_pos hw];exact .inl h
theorem TW{ops:Array Oper}{rest:List Oper}{o:Oper}{a:Act}{w:World}{Q:Exit→Act→World→Prop}(hw:Region.wanted o (yielded ops a.tmps)=false)(h:wpList P ops Q rest (a.put o.dst undef) w):wpList P ops Q (o::rest) a w:=by
 unfold wpList;rw[if_neg (by rw[hw];simp)];exact h
theorem ql{C:eJ}(hC:hH P C){ops:Array Oper}{K:Out→List AV→List dN→AH→Prop}:∀(rest:List Oper) (env:List AV) (ds:List dN) (H:AH),
  wA C P P.globals.size ops rest env ds H K→iq P env ds H K λa w Q=>wpList P ops Q rest a w
 |[],env,ds,H,h=>⟨.normal,env,ds,H,h,λf w a hr ha hd Q hQ=>wpList_nil (hQ _ _ _ ⟨f,Step.refl hr,ha,hd,rfl⟩)⟩
 |o::rest,env,ds,H,h=>by
  unfold wA at h;split at h
  ·rename_i hg;have hw:∀t,Region.wanted o t=true:=λt=>by simp[Region.wanted,hg]
   unfold ape at h;split at h
   ·rename_i c ho;split at h
    ·rename_i fo hc;obtain⟨g,x,y,e,hh⟩:=GR h;obtain⟨hb,hh⟩:=aD hh;obtain⟨ot,env',ds',H2,h1,h2⟩:=ql hC rest _ _ _ hh;refine⟨ot,env',ds',H2,h1,λf w a hr ha hd Q hQ=>yS (hw _) ?_⟩;obtain⟨d,g1,g2⟩:=am0 ho hc ha e w;unfold Oper.wp;rw[g1,Oper.upon_defer];have ha':AR P f env { a with defers:=d::a.defers }:=ha.defers _;refine h2 f w _ hr (ha'.put o.dst (VR.undef f)) ?_ Q hQ;rw[put_defers];exact g2 ds hd
    ·exact h.elim
   ·refine iq.opV (ya hC h) (λv H' hk=>ql hC rest _ _ _ hk) (λf a w Q ha hh=>yS (hw _) hh)
  ·rename_i j want hg;obtain⟨_,h⟩:=aD h;rcases aqS (P:=P) hg (GS h)with⟨h,hw⟩|⟨h,hw⟩
   ·exact iq.opV (ya hC h) (λv H' hk=>ql hC rest _ _ _ hk) (λf a w Q ha hh=>yS (hw f a ha) hh)
   ·obtain⟨ot,env',ds',H2,h1,h2⟩:=ql hC rest _ _ _ h;refine⟨ot,env',ds',H2,h1,λf w a hr ha hd Q hQ=>TW (hw f a ha) ?_⟩;exact h2 f w _ hr (ha.put o.dst (VR.undef f)) (by rw[put_defers];exact hd) Q hQ
end
section
abbrev KT:=Out→List AV→List dN→AH→Prop
abbrev ET:=Code→List AV→List dN→AH→KT→Prop
abbrev DT:=Array Oper→List AV→List dN→AH→KT→Prop
def tv(P:Program)(D:DT):Prop:=∀id ops env ds H K,D ops env ds H K→iq P env ds H K λa w Q=>(Code.region id ops true).wp P Q a w
section
def Y6(k:List AV→List dN→AH→Prop)(K:KT):KT:=λo env ds H=>match o with|.normal=>k env ds H|o=>K o env ds H
def auH(id:Nat)(K:KT):KT:=λo env ds H=>match o with|.exit i=>bI (Nat.beq i id) (K .normal env ds H) (K (.exit i) env ds H)|o=>K o env ds H
def apf(x:ET)(c:Code)(n:Nat):List AV→List dN→AH→KT→Prop:=
 Nat.rec (motive:=λ_=>List AV→List dN→AH→KT→Prop) (λ_ _ _ _=>False) (λ_ ih env ds H K=>x c env ds H (Y6 (λenv ds H=>ih env ds H K) K)) n
def Pd(o:Option Code)(k:Code→Prop)(x:Prop):Prop:=match o with|some r=>k r|none=>x
def agc(x:ET)(c:Code)(n:Nat):ET:=
 Nat.rec (motive:=λ_=>ET) (λ_ _ _ _ _=>False) (λ_ ih r env ds H K=>x r env ds H λo env ds H=>match o with|.goto l=>Pd (findLabel c l) (λr=>ih r env ds H K) (K (.goto l) env ds H)|o=>K o env ds H) n
def Y7(C:eJ)(D:DT)(P:Program)(G N:Nat)(ih:ET):ET:=λc env ds H K=>
 match c with
 |.skip=>K .normal env ds H
 |.region _ ops draw=>bI draw (D ops env ds H K) (wA C P G ops ops.toList env ds H K)
 |.seq a b=>ih a env ds H (Y6 (λenv ds H=>ih b env ds H K) K)
 |.cond c a b=>kT (fh G env c) (ih a env ds H K) (ih b env ds H K)
 |.block id c=>ih c env ds H (auH id K)
 |.loop c=>apf ih c N env ds H K
 |.exit id=>K (.exit id) env ds H
 |.goto l=>K (.goto l) env ds H
 |.label _=>K .normal env ds H
 |.scope c=>agc ih c N c env ds H K
 |.ret=>K .ret env ds H
 |_=>False
def exec(C:eJ)(D:DT)(P:Program)(G N:Nat)(d:Nat):ET:=Nat.rec (motive:=λ_=>ET) (λ_ _ _ _ _=>False) (λ_ ih=>Y7 C D P G N ih) d
end
variable {P:Program}
def LI(P:Program)(c:Code)(Q:Exit→Act→World→Prop):Nat→Act→World→Prop
 |0,_,_=>False
 |n+1,a,w=>c.wp P (Exit.then (LI P c Q n) Q) a w
theorem least{p:Nat→Prop}(h:∃n,p n):∃n,p n∧∀m,p m→n≤m:=by
 obtain⟨n,hn⟩:=h
 induction n using Nat.strongRecOn with
 |_ n ih=>
  by_cases h:∃m,m<n∧p m
  ·obtain⟨m,h1,h2⟩:=h;exact ih m h1 h2
  ·exact⟨n,hn,λm hm=>Nat.le_of_not_lt λhl=>h ⟨m,hl,hm⟩⟩
open Classical in
noncomputable def BS(p:Nat→Prop):Nat:=if h:∃n,p n then (least h).choose else 0
theorem Fh{p:Nat→Prop}(h:∃n,p n):p (BS p)∧∀m,p m→BS p≤m:=by
 unfold BS;rw[dif_pos h];exact(least h).choose_spec
theorem wp_loop_rounds{c:Code}{Q:Exit→Act→World→Prop}{n:Nat}{a:Act}{w:World}(h:LI P c Q n a w):(Code.loop c).wp P Q a w:=by
 refine wp_loop (λa w=>∃n,LI P c Q n a w) (λa w=>BS λn=>LI P c Q n a w) ⟨n,h⟩ λa w hI=>?_;obtain⟨h1,h2⟩:=Fh hI;generalize BS (λn=>LI P c Q n a w)=m at h1 h2;cases m with
 |zero=>exact h1.elim
 |succ m=>
  refine Code.wp_mono (λe a' w' q=>?_) h1;cases e<;>try exact q
  have q:LI P c Q m a' w':=q;exact⟨⟨m,q⟩,Nat.lt_succ_of_le ((Fh ⟨m,q⟩).2 m q)⟩
def Bz(P:Program)(c:Code)(Q:Exit→Act→World→Prop):Nat→Code→Act→World→Prop
 |0,_,_,_=>False
 |n+1,r,a,w=>r.wp P (λe a w=>match e with|.goto l=>(match findLabel c l with|some r'=>Bz P c Q n r' a w|none=>Q (.goto l) a w)|e=>Q e a w) a w
theorem yb{c:Code}{Q:Exit→Act→World→Prop}{n:Nat}{a:Act}{w:World}(h:Bz P c Q n c a w):(Code.scope c).wp P Q a w:=by
 intro b k cs;have key:∀n r a w,Bz P c Q n r a w→∃e a' w',Q e a' w'∧Arrives P (lone (b.at a (.code r :: .inScope c::k)) cs w) b k cs e a' w':=by
  intro n
  induction n with
  |zero=>exact λr a w h=>h.elim
  |succ n ih=>
   intro r a w h;obtain⟨e,a₁,w₁,hq,harr⟩:=h b (.inScope c::k) cs;cases e with
   |normal=>exact⟨.normal,a₁,w₁,hq,Steps.trans harr (.one step_inScope)⟩
   |exit id=>exact⟨.exit id,a₁,w₁,hq,λk' hk=>harr k' (by simp[exitTo,hk])⟩
   |goto l=>
    simp only at hq;split at hq
    ·rename_i r' hf;obtain⟨e₂,a₂,w₂,hq₂,harr₂⟩:=ih r' a₁ w₁ hq;exact⟨e₂,a₂,w₂,hq₂,.of_steps (harr _ (by simp[gotoIn,hf])) harr₂⟩
    ·rename_i hf;exact⟨.goto l,a₁,w₁,hq,λk' hk=>harr k' (by simp[gotoIn,hf,hk])⟩
   |ret=>exact⟨_,a₁,w₁,hq,harr⟩
   |panic ch=>exact⟨_,a₁,w₁,hq,harr⟩
   |outgrown=>exact⟨_,a₁,w₁,hq,harr⟩
 obtain⟨e,a',w',q,harr⟩:=key n c a w h;exact⟨e,a',w',q,.of_steps (.one step_scope) harr⟩
variable {env:List AV}{ds:List dN}{H:AH}{K:KT}
def UW:Out→Exit→Prop
 |.normal,e=>e=.normal
 |.exit id,e=>e=.exit id
 |.goto l,e=>e=.goto l
 |.ret,e=>e=.ret
 |.cj _,e=>∃ch,e=.panic ch
theorem nd.UW{f:aI}{w:World}{o:Out}{H':AH}{e:Exit}{a:Act}{w':World}(h:nd P f H w o env ds H' e a w'):UW o e:=by
 obtain⟨f',s,h1,h2,h3⟩:=h;cases o<;>first|exact h3|(obtain⟨ch,h3,_⟩:=h3;exact⟨ch,h3⟩)
theorem iq.done{o:Out}{W:Act→World→(Exit→Act→World→Prop)→Prop}(h:K o env ds H)(e:Exit)(he:o=.normal∧e=.normal∨(∃i,o=.exit i∧e=.exit i)∨(∃l,o=.goto l∧e=.goto l)∨o=.ret∧e=.ret)
  (hW:∀a w Q,Q e a w→W a w Q):iq P env ds H K W:=
 ⟨o,env,ds,H,h,λf w a hr ha hd Q hQ=>hW a w Q (hQ _ _ _ ⟨f,Step.refl hr,ha,hd,by rcases he with⟨rfl,rfl⟩|⟨i,rfl,rfl⟩|⟨l,rfl,rfl⟩|⟨rfl,rfl⟩<;>rfl⟩)⟩
theorem iq.mono{K':KT}{W W':Act→World→(Exit→Act→World→Prop)→Prop}(h:iq P env ds H K W)(hW:∀f a w Q,AR P f env a→W a w Q→W' a w Q)(hK:∀o env ds H,K o env ds H→K' o env ds H):iq P env ds H K' W':=by
 obtain⟨o,env',ds',H',h1,h2⟩:=h;exact⟨o,env',ds',H',hK _ _ _ _ h1,λf w a hr ha hd Q hQ=>hW f a w Q ha (h2 f w a hr ha hd Q hQ)⟩
theorem iq.bind{K':KT}{V W:Act→World→(Exit→Act→World→Prop)→Prop}(h:iq P env ds H K' V)(U:Exit→Act→World→(Exit→Act→World→Prop)→Prop)
  (hk:∀o dy ds1 H1,K' o dy ds1 H1→(K o dy ds1 H1∧∀e a w Q,Go.X.UW o e→Q e a w→U e a w Q)∨(∃e,(∀e',Go.X.UW o e'→e'=e)∧iq P dy ds1 H1 K (U e)))
  (hW:∀a w Q,V a w (λe a' w'=>U e a' w' Q)→W a w Q):iq P env ds H K W:=by
 obtain⟨o,dy,ds1,H1,h1,h2⟩:=h;rcases hk _ _ _ _ h1 with⟨g1,g2⟩|⟨e,he,o2,cM,ds2,H2,g1,g2⟩
 ·exact⟨o,dy,ds1,H1,g1,λf w a hr ha hd Q hQ=>hW a w Q (h2 f w a hr ha hd _ λe a' w' hx=>g2 e a' w' Q hx.UW (hQ _ _ _ hx))⟩
 ·refine⟨o2,cM,ds2,H2,g1,λf w a hr ha hd Q hQ=>hW a w Q (h2 f w a hr ha hd _ λe' a' w' hx=>?_)⟩;rw[he e' hx.UW];obtain⟨f',s,ha',hd',_⟩:=hx;exact g2 f' w' a' s.rel ha' hd' Q λe a'' w'' hx=>hQ _ _ _ (hx.after s)
theorem Pe{k:List AV→List dN→AH→Prop}{V W U:Act→World→(Exit→Act→World→Prop)→Prop}(h:iq P env ds H (Y6 k K) V)
  (hk:∀env ds H,k env ds H→iq P env ds H K U)
  (hW:∀a w Q,V a w (Exit.then (λa w=>U a w Q) Q)→W a w Q):iq P env ds H K W:=by
 refine iq.bind h (λe a w Q=>Exit.then (λa w=>U a w Q) Q e a w) (λo dy ds1 H1 hh=>?_) (λa w Q hh=>hW a w Q hh);cases o with
 |normal=>exact .inr ⟨.normal,λe' h=>h,hk _ _ _ hh⟩
 |exit id=>exact .inl ⟨hh,λe a w Q he hq=>by cases he;exact hq⟩
 |goto l=>exact .inl ⟨hh,λe a w Q he hq=>by cases he;exact hq⟩
 |ret=>exact .inl ⟨hh,λe a w Q he hq=>by cases he;exact hq⟩
 |cj v=>exact .inl ⟨hh,λe a w Q he hq=>by obtain⟨ch,rfl⟩:=he;exact hq⟩
def BT(P:Program)(x:ET):Prop:=∀c env ds H K,x c env ds H K→iq P env ds H K λa w Q=>c.wp P Q a w
theorem Pf{x:ET}(hx:BT P x)(c:Code):∀n env ds H,apf x c n env ds H K→iq P env ds H K λa w Q=>LI P c Q n a w
 |0,_,_,_,h=>h.elim
 |n+1,env,ds,H,h=>Pe (hx c env ds H _ h) (λenv ds H h=>Pf hx c n env ds H h) (λ_ _ _ h=>h)
theorem M8{x:ET}(hx:BT P x)(c:Code):∀n r env ds H,agc x c n r env ds H K→iq P env ds H K λa w Q=>Bz P c Q n r a w
 |0,_,_,_,_,h=>h.elim
 |n+1,r,env,ds,H,h=>by
  refine iq.bind (hx r env ds H _ h) (λe a w Q=>match e with|.goto l=>(match findLabel c l with|some r'=>Bz P c Q n r' a w|none=>Q (.goto l) a w)|e=>Q e a w) (λo dy ds1 H1 hh=>?_) (λa w Q hh=>hh);cases o with
  |normal=>exact .inl ⟨hh,λe a w Q he hq=>by cases he;exact hq⟩
  |exit id=>exact .inl ⟨hh,λe a w Q he hq=>by cases he;exact hq⟩
  |ret=>exact .inl ⟨hh,λe a w Q he hq=>by cases he;exact hq⟩
  |cj v=>exact .inl ⟨hh,λe a w Q he hq=>by obtain⟨ch,rfl⟩:=he;exact hq⟩
  |goto l=>
   simp only at hh;cases hf:findLabel c l with
   |none=>
    rw[hf]at hh;exact .inl ⟨hh,λe a w Q he hq=>by cases he;simp only[hf];exact hq⟩
   |some r'=>
    rw[hf]at hh;refine .inr ⟨.goto l,λe' h=>h,?_⟩;simp only[hf];exact M8 hx c n r' dy ds1 H1 hh
theorem am1{C:eJ}(hC:hH P C){D:DT}(hD:tv P D){N:Nat}{x:ET}(hx:BT P x):BT P (Y7 C D P P.globals.size N x):=by
 intro c env ds H K h;unfold Y7 at h;cases c with
 |skip=>exact iq.done h .normal (.inl ⟨rfl,rfl⟩) λa w Q h=>wp_skip h
 |region id ops draw=>
  rcases dn h with⟨rfl,h⟩|⟨rfl,h⟩
  ·exact hD id ops env ds H K h
  ·exact(ql hC _ _ _ _ h).mono (λf a w Q _ h=>wp_region_list h) λ_ _ _ _ h=>h
 |seq a b=>exact Pe (hx a env ds H _ h) (λenv ds H h=>hx b env ds H K h) λa w Q h=>wp_seq h
 |cond c a b=>
  have h:kT (fh P.globals.size env c) (x a env ds H K) (x b env ds H K):=h;generalize hv:fh P.globals.size env c=v at h;cases v<;>try exact h.elim
  case bool t=>
   have hc:∀{f:aI}{a:Act},AR P f env a→a.eval c=.bool t:=λ{f act} ha=>by
    have:=zd ha c;rw[hv]at this;generalize act.eval c=u at this;cases this;rfl
   cases t
   ·exact(hx b env ds H K h).mono (λf a w Q ha h=>wp_cond (hc ha) h) λ_ _ _ _ h=>h
   ·exact(hx a env ds H K h).mono (λf a w Q ha h=>wp_cond (hc ha) h) λ_ _ _ _ h=>h
 |block id c=>
  refine iq.bind (hx c env ds H _ h) (λe a w Q=>Exit.inBlock id Q e a w) (λo dy ds1 H1 hh=>?_) (λa w Q hh=>wp_block hh);cases o with
  |normal=>exact .inl ⟨hh,λe a w Q he hq=>by cases he;exact hq⟩
  |exit i=>
   rcases dn hh with⟨hi,hh⟩|⟨hi,hh⟩
   ·refine .inr ⟨.exit i,λe' h=>h,iq.done hh .normal (.inl ⟨rfl,rfl⟩) λa w Q hq=>?_⟩;simp only[Exit.inBlock];rw[if_pos (Nat.eq_of_beq_eq_true hi)];exact hq
   ·refine .inl ⟨hh,λe a w Q he hq=>?_⟩;cases he;simp only[Exit.inBlock];rw[if_neg (λe=>by subst e;simp at hi)];exact hq
  |goto l=>exact .inl ⟨hh,λe a w Q he hq=>by cases he;exact hq⟩
  |ret=>exact .inl ⟨hh,λe a w Q he hq=>by cases he;exact hq⟩
  |cj v=>exact .inl ⟨hh,λe a w Q he hq=>by obtain⟨ch,rfl⟩:=he;exact hq⟩
 |loop c=>exact(Pf hx c N env ds H h).mono (λf a w Q _ h=>wp_loop_rounds h) λ_ _ _ _ h=>h
 |exit id=>exact iq.done h (.exit id) (.inr (.inl ⟨id,rfl,rfl⟩)) λa w Q h=>wp_exit h
 |goto l=>exact iq.done h (.goto l) (.inr (.inr (.inl ⟨l,rfl,rfl⟩))) λa w Q h=>wp_goto h
 |label l=>exact iq.done h .normal (.inl ⟨rfl,rfl⟩) λa w Q h=>wp_label h
 |scope c=>exact(M8 hx c N c env ds H h).mono (λf a w Q _ h=>yb h) λ_ _ _ _ h=>h
 |ret=>exact iq.done h .ret (.inr (.inr (.inr ⟨rfl,rfl⟩))) λa w Q h=>wp_ret h
 |rangeFunc=>exact h.elim
 |refuse=>exact h.elim
theorem UX{C:eJ}(hC:hH P C){D:DT}(hD:tv P D){N:Nat}:∀d,BT P (exec C D P P.globals.size N d)
 |0=>λ_ _ _ _ _ h=>h.elim
 |d+1=>am1 hC hD (UX hC hD d)
end
section
inductive fX where
 |ret
 |cj (v:AV)
 |caught (v:AV)
abbrev KD:=kl→fX→AH→Prop
abbrev ze:=Nat→List AV→fX→AH→KD→Prop
abbrev KR:=Out→fX→List AV→List dN→AH→Prop
def agd(P:Program)(env:List AV)(H:AH)(r:ResultVar)(k:AV→Prop):Prop:=match r with|.tmp t=>k (env.getD t dY)|.cell a t=>N4 P t (env.getD a dY) H k
def am2(P:Program)(env:List AV)(H:AH):List ResultVar→(List AV→Prop)→Prop
 |[],k=>k []
 |r::rs,k=>agd P env H r λv=>am2 P env H rs λl=>k (v::l)
def Y8(P:Program)(fn:Func)(env:List AV)(H:AH)(k:AV→Prop):Prop:=am2 P env H fn.results.toList λl=>match l with|[v]=>k v|l=>k (.aE l)
def aqT:fX→fX
 |.caught _=>.ret
 |u=>u
def GU(o:kl)(u:fX):fX:=match o with|.ret _=>aqT u|.cj v=>.cj v
def qm(P:Program)(CD:ze)(fn:Func)(env:List AV):List dN→fX→AH→(kl→AH→Prop)→Prop
 |[],.ret,H,K=>Y8 P fn env H λv=>K (.ret v) H
 |[],.cj v,H,K=>K (.cj v) H
 |[],.caught _,_,_=>False
 |d::ds,u,H,K=>bT (ew P d.g) (CD d.g d.args u H λo u' H'=>qm P CD fn env ds (GU o u') H' K)
def Y9(P:Program)(CD:ze)(fn:Func)(K:kl→AH→Prop):KT:=λo env ds H=>match o with|.normal=>qm P CD fn env ds .ret H K|.ret=>qm P CD fn env ds .ret H K|.cj v=>qm P CD fn env ds (.cj v) H K|_=>False
def auI(P:Program)(fn:Func)(K:KD):KR:=λo M env ds H=>match ds with|[]=>(match o with|.normal=>Y8 P fn env H λv=>K (.ret v) M H|.ret=>Y8 P fn env H λv=>K (.ret v) M H|.cj v=>K (.cj v) M H|_=>False)|_=>False
def isRecover(o:Oper):Bool:=match o.op with|.call c=>(match c.callee with|.builtin .recover=>true|_=>false)|_=>false
def auJ(M:fX)(k:AV→fX→Prop):Prop:=match M with|.cj v=>k v (.caught v)|M=>k .dS M
def zf(C:eJ)(P:Program)(G:Nat)(ops:Array Oper):List Oper→fX→List AV→List dN→AH→KR→Prop
 |[],M,env,ds,H,K=>K .normal M env ds H
 |o::rest,M,env,ds,H,K=>bT (o.guard.isNone && !(Dg o)) (bI (isRecover o) (auJ M λv M'=>zf C P G ops rest M' (cz env o.dst v) ds H K)
   (wz C P G o (fh G env) (aA H) H (λv H'=>zf C P G ops rest M (cz env o.dst v) ds H' K) (λv H=>K (.cj v) M env ds H)))
def axV(k:fX→List AV→List dN→AH→Prop)(K:KR):KR:=λo M env ds H=>match o with|.normal=>k M env ds H|o=>K o M env ds H
abbrev RT:=Code→fX→List AV→List dN→AH→KR→Prop
def Pg(C:eJ)(x:ET)(P:Program)(G:Nat)(ih:RT):RT:=λc M env ds H K=>
 match c with
 |.seq a b=>ih a M env ds H (axV (λM env ds H=>ih b M env ds H K) K)
 |.cond c a b=>kT (fh G env c) (ih a M env ds H K) (ih b M env ds H K)
 |.region _ ops false=>zf C P G ops ops.toList M env ds H K
 |c=>x c env ds H λo env ds H=>K o M env ds H
def apg(C:eJ)(x:ET)(P:Program)(G d:Nat):RT:=Nat.rec (motive:=λ_=>RT) (λ_ _ _ _ _ _=>False) (λ_ ih=>Pg C x P G ih) d
def Za(P:Program)(g:Nat)(k:Func→Code→Prop):Prop:=match P.funcs[g]? with|some fn=>(match fn.body with|some c=>k fn c|none=>False)|none=>False
def aT(fn:Func)(args:List AV):List AV:=args++List.replicate (fn.ntmps-args.length) dY
def Zb(C:eJ)(x:ET)(P:Program)(G d:Nat):ze:=λg args M H K=>Za P g λfn c=>apg C x P G d c M (aT fn args) [] H (auI P fn K)
def GV(C:eJ)(D:DT)(P:Program)(G N d:Nat):eJ:=λg args H K=>
 Za P g λfn c=>exec C D P G N d c (aT fn args) [] H (Y9 P (Zb C (exec C D P G N d) P G d) fn K)
variable {P:Program}
def MR(f:aI):fX→FrameMode→Prop
 |.ret,u=>u=.returning
 |.cj v,u=>∃ch,u=.panicking ch∧AO f v ch
 |.caught v,u=>∃x older,u=.panicking ({ v:=x,recovered:=true }::older)∧VR f v x∧∀y∈older,y.goexit=false
theorem MR.up{f f':aI}(h:f.le f'){M:fX}{u:FrameMode}(m:MR f M u):MR f' M u:=by
 cases M with
 |ret=>exact m
 |cj v=>obtain⟨ch,h1,x,older,h2,h3,h4⟩:=m;exact⟨ch,h1,x,older,h2,h3.up h,h4⟩
 |caught v=>obtain⟨x,older,h1,h2,h3⟩:=m;exact⟨x,older,h1,h2.up h,h3⟩
theorem MR.ne{f:aI}{M:fX}{u:FrameMode}(m:MR f M u):u≠.run:=by
 cases M with
 |ret=>cases m;simp
 |cj v=>obtain⟨ch,rfl,_⟩:=m;simp
 |caught v=>obtain⟨x,older,rfl,_⟩:=m;simp
def Ph(f:aI)(H:AH)(w:World)(o:kl)(M:fX)(H':AH):Ending→FrameMode→World→Prop:=λe u' w'=>
 ∃f',Step f H w f' H' w'∧MR f' M u'∧match o with
  |.ret v=>∃u,e=.returned u∧VR f' v u
  |.cj v=>∃ch,e=.panicked ch∧AO f' v ch
def JC(P:Program)(CD:ze):Prop:=∀g args M H K,ew P g=true→CD g args M H K→∃o M' H',K o M' H'∧∀f w (vs:Array Value) u,HR f H w→(∀g,g<P.globals.size→f.dom g∧f.blk g=g∧f.off g=0)→VL f args vs.toList→MR f M u→CallsD P g vs u w (Ph f H w o M' H')
theorem UY{f:aI}{env:List AV}{a:Act}(h:AR P f env a)(t:Tmp):VR f (env.getD t dY) (a.tmps.getD t undef):=zd h (.tmp t)
def BU(tmps:Array Value):ResultVar→Sem Value
 |.tmp t=>pure (tmps.getD t undef)
 |.cell x t=>do loadVar t (←asAddr (tmps.getD x undef))
theorem Zc(fn:Func)(tmps:Array Value):results fn tmps=(do let vs ←fn.results.mapM (BU tmps);pure (if h:vs.size=1 then vs[0] else .tuple vs)):=by
 have:BU tmps=(fun|.tmp t=>pure (tmps.getD t undef)|.cell a t=>do loadVar t (←asAddr (tmps.getD a undef)):ResultVar→Sem Value):=by
  funext r;cases r<;>rfl
 rw[this];rfl
theorem age{env:List AV}{H:AH}{r:ResultVar}{k:AV→Prop}(h:agd P env H r k) :
  ∃v,k v∧∀f w a,HR f H w→AR P f env a→∃u,(BU a.tmps r).run P w=.ok u w∧VR f v u:=by
 cases r with
 |tmp t=>exact⟨_,h,λf w a _ ha=>⟨_,rfl,UY ha t⟩⟩
 |cell x t=>
  obtain⟨v,h1,h2⟩:=OW h;refine⟨v,h1,λf w a hr ha=>?_⟩;obtain⟨u,g1,g2⟩:=h2 f w _ hr.toHRQ (UY ha x);refine⟨u,?_,g2⟩;simp only[BU];generalize a.tmps.getD x undef=z at g1;simp only[Instr.loadAt]at g1;cases z with
  |pointer p=>
   cases p with
   |none=>simp[Instr.sureAddr]at g1
   |some p=>simpa[Instr.sureAddr,asAddr]using g1
  |_=>simp[Instr.sureAddr]at g1
theorem UZ{env:List AV}{H:AH}:∀{rs:List ResultVar}{k:List AV→Prop},am2 P env H rs k→
  ∃l,k l∧∀f w a,HR f H w→AR P f env a→∃us,(rs.mapM (BU a.tmps)).run P w=.ok us w∧VL f l us
 |[],k,h=>⟨[],h,λf w a _ _=>⟨[],by simp,.nil⟩⟩
 |r::rs,k,h=>by
  obtain⟨v,h1,h2⟩:=age h;obtain⟨l,g1,g2⟩:=UZ h1;refine⟨v::l,g1,λf w a hr ha=>?_⟩;obtain⟨u,x1,x2⟩:=h2 f w a hr ha;obtain⟨us,y1,y2⟩:=g2 f w a hr ha;exact⟨u::us,by simp only[List.mapM_cons,Sem.run_bind,x1,y1,Result.andThen_ok,Sem.run_pure],.cons _ _ _ _ x2 y2⟩
def one1(l:List AV):AV:=match l with|[v]=>v|l=>.aE l
theorem JD{fn:Func}{env:List AV}{H:AH}{k:AV→Prop}(h:Y8 P fn env H k) :
  ∃v,k v∧∀f w a,HR f H w→AR P f env a→∃u,(results fn a.tmps).run P w=.ok u w∧VR f v u:=by
 obtain⟨l,h1,h2⟩:=UZ h;have hk:k (one1 l):=by
  match l,h1 with
  |[],h1=>exact h1
  |[v],h1=>exact h1
  |v::v2::l,h1=>exact h1
 refine⟨_,hk,λf w a hr ha=>?_⟩;obtain⟨us,g1,g2⟩:=h2 f w a hr ha;refine⟨if h:us.toArray.size=1 then us.toArray[0] else .tuple us.toArray,?_,?_⟩
 ·rw[Zc,Array.mapM_eq_mapM_toList];simp only[Sem.run_bind,map_eq_pure_bind,bind_assoc,pure_bind];rw[g1];rfl
 ·cases g2 with
  |nil=>exact .aE [] [] .nil
  |cons v u l us y1 y2=>
   cases y2 with
   |nil=>exact y1
   |cons v2 u2 l us y3 y4=>exact .aE (v::v2::l) (u::u2::us) (.cons _ _ _ _ y1 (.cons _ _ _ _ y3 y4))
def BV(P:Program)(f:aI)(H:AH)(w:World)(o:Out)(M:fX)(env:List AV)(ds:List dN)(H':AH):Exit→Act→FrameMode→World→Prop:=λe a u w'=>
 ∃f',Step f H w f' H' w'∧AR P f' env a∧DR f' ds a.defers∧MR f' M u∧match o with
  |.normal=>e=.normal
  |.exit id=>e=.exit id
  |.goto l=>e=.goto l
  |.ret=>e=.ret
  |.cj v=>∃ch,e=.panic ch∧AO f' v ch
theorem BV.after{f f1:aI}{H H1:AH}{w w1:World}(s:Step f H w f1 H1 w1){o:Out}{M:fX}{env:List AV}{ds:List dN}{H':AH}{e:Exit}{a:Act}{u:FrameMode}{w':World}(h:BV P f1 H1 w1 o M env ds H' e a u w'):BV P f H w o M env ds H' e a u w':=by
 obtain⟨f',s',h⟩:=h;exact⟨f',gn.trans s s',h⟩
abbrev PS:=Exit→Act→List Frame→World→Prop
def JE(P:Program)(M:fX)(env:List AV)(ds:List dN)(H:AH)(K:KR)(W:Act→List Frame→World→PS→Prop):Prop:=
 ∃o M' env' ds' H',K o M' env' ds' H'∧∀f w a c₀ cs u,HR f H w→AR P f env a→DR f ds a.defers→MR f M u→c₀.mode=u→∀Q:PS,(∀e a' u' w',BV P f H w o M' env' ds' H' e a' u' w'→Q e a' ({ c₀ with mode:=u' }::cs) w')→W a (c₀::cs) w Q
theorem tw{c₀:Frame}{u:FrameMode}(h:c₀.mode=u):({ c₀ with mode:=u }:Frame)=c₀:=by subst h;rfl
def hJ(P:Program)(ops:Array Oper)(Q:PS):List Oper→Act→List Frame→World→Prop
 |[],a,cs,w=>Q .normal a cs w
 |o::rest,a,cs,w=>
  if Region.wanted o (yielded ops a.tmps) then
   match (execOp a.eval o).run P w with
   |.ok .recover w'=>
    match recoverD cs with
    |some (v,cs')=>hJ P ops Q rest (a.put o.dst v) cs' w'
    |none=>hJ P ops Q rest (a.put o.dst .nilIface) cs w'
   |r=>o.upon P a (λa' w'=>hJ P ops Q rest a' cs w') (λe a' w'=>Q e a' cs w') r
  else hJ P ops Q rest (a.put o.dst undef) cs w
theorem agf{ops:Array Oper}{Q:PS}(l:List Oper):∀k,(∀j,l[j]? = ops[k+j]?)→wpOpsS P ops Q (List.range' k l.length)=hJ P ops Q l:=by
 induction l with
 |nil=>intro k _;funext a cs w;simp[wpOpsS,hJ]
 |cons o l ih=>
  intro k h;have h0:ops[k]? = some o:=by simpa using(h 0).symm
  have ih':=ih (k+1) (λj=>by have:=h (j+1);simpa[Nat.add_assoc,Nat.add_comm 1 j]using this);funext a cs w;simp only[List.length_cons,List.range'_succ,wpOpsS,h0,hJ,ih'];rfl
theorem GW{id:Nat}{ops:Array Oper}{Q:PS}{a:Act}{cs:List Frame}{w:World}(h:hJ P ops Q ops.toList a cs w):(Code.region id ops false).wpS P Q a cs w:=
 wpS_region (by rw[List.range_eq_range',←Array.length_toList,agf ops.toList 0 (by simp)];exact h)
theorem BW{ops:Array Oper}{Q:PS}{rest:List Oper}{o:Oper}{a:Act}{cs:List Frame}{w:World}(hw:Region.wanted o (yielded ops a.tmps)=true)
  (h:o.wp P a w (λa' w'=>hJ P ops Q rest a' cs w') (λe a' w'=>Q e a' cs w')):hJ P ops Q (o::rest) a cs w:=by
 unfold hJ;rw[if_pos hw];unfold Oper.wp at h;split
 ·rename_i hr;rw[hr]at h;exact h.elim
 ·exact h
theorem TX{ops:Array Oper}{Q:PS}{rest:List Oper}{o:Oper}{a:Act}{cs:List Frame}{w:World}(hw:Region.wanted o (yielded ops a.tmps)=true)(hr:(execOp a.eval o).run P w=.ok .recover w)
  (h:match recoverD cs with|some (v,cs')=>hJ P ops Q rest (a.put o.dst v) cs' w|none=>hJ P ops Q rest (a.put o.dst .nilIface) cs w):hJ P ops Q (o::rest) a cs w:=by
 unfold hJ;rw[if_pos hw,hr];exact h
theorem TY{o:Oper}(h:isRecover o=true)(ρ:Operand→Value)(w:World):(execOp ρ o).run P w=.ok .recover w:=by
 unfold isRecover at h;split at h
 ·rename_i c ho;split at h
  ·rename_i hc;simp[execOp,ho,resolve,hc,invoke,builtin]
  ·cases h
 ·cases h
theorem aqU{M:fX}{k:AV→fX→Prop}(h:auJ M k):∃v M',k v M'∧∀f u c₀ cs,MR f M u→c₀.mode=u→∃x u',VR f v x∧MR f M' u'∧
  ∀(R:Value→List Frame→Prop),(R x ({ c₀ with mode:=u' }::cs))→(match recoverD (c₀::cs)with|some (y,cs')=>R y cs'|none=>R .nilIface (c₀::cs)):=by
 cases M with
 |ret=>
  refine⟨_,_,h,λf u c₀ cs hm hc=>⟨.nilIface,u,.dS,hm,λR hR=>?_⟩⟩;rw[tw hc]at hR;cases hm;simp only[recoverD,hc];exact hR
 |cj v=>
  refine⟨_,_,h,λf u c₀ cs hm hc=>?_⟩;obtain⟨ch,rfl,x,older,rfl,h3,h4⟩:=hm;refine⟨x,_,h3,⟨x,older,rfl,h3,h4⟩,λR hR=>?_⟩;simp only[recoverD,hc];exact hR
 |caught v=>
  refine⟨_,_,h,λf u c₀ cs hm hc=>⟨.nilIface,u,.dS,hm,λR hR=>?_⟩⟩;rw[tw hc]at hR;obtain⟨x,older,rfl,h3,h4⟩:=hm;simp only[recoverD,hc];exact hR
theorem AP{C:eJ}(hC:hH P C){ops:Array Oper}{K:KR}:∀(rest:List Oper) (M:fX) (env:List AV) (ds:List dN) (H:AH),
  zf C P P.globals.size ops rest M env ds H K→JE P M env ds H K λa cs w Q=>hJ P ops Q rest a cs w
 |[],M,env,ds,H,h=>⟨.normal,M,env,ds,H,h,λf w a c₀ cs u hr ha hd hm hc Q hQ=>by
  have:=hQ .normal a u w ⟨f,Step.refl hr,ha,hd,hm,rfl⟩;rw[tw hc]at this;exact this⟩
 |o::rest,M,env,ds,H,h=>by
  unfold zf at h;obtain⟨hg,h⟩:=aD h;rw[Bool.and_eq_true]at hg;have hg1:o.guard=none:=by simpa using hg.1
  have hw:∀t,Region.wanted o t=true:=λt=>by simp[Region.wanted,hg1]
  rcases dn h with⟨hrec,h⟩|⟨hrec,h⟩
  ·obtain⟨v,M',h1,h2⟩:=aqU h;obtain⟨ot,M2,env',ds',H2,g1,g2⟩:=AP hC rest _ _ _ _ h1;refine⟨ot,M2,env',ds',H2,g1,λf w a c₀ cs u hr ha hd hm hc Q hQ=>?_⟩;obtain⟨x,u',h3,h4,h5⟩:=h2 f u c₀ cs hm hc;refine TX (hw _) (TY hrec _ w) ?_;exact h5 (λy cs'=>hJ P ops Q rest (a.put o.dst y) cs' w) (g2 f w _ { c₀ with mode:=u' } cs u' hr (ha.put o.dst h3) (by rw[put_defers];exact hd) h4 rfl Q hQ)
  ·cases ya hC h with
   |val v H' h g=>
    obtain⟨ot,M2,env',ds',H2,g1,g2⟩:=AP hC rest _ _ _ _ h;refine⟨ot,M2,env',ds',H2,g1,λf w a c₀ cs u hr ha hd hm hc Q hQ=>BW (hw _) ?_⟩;refine g f w a hr ha.glob (ha.stand o) _ _ λf' w' x s hx=>?_;exact g2 f' w' _ c₀ cs u s.rel ((ha.up s.le).put o.dst hx) (by rw[put_defers];exact hd.up s.le) (hm.up s.le) hc Q λe a' u' w'' hp=>hQ e a' u' w'' (hp.after s)
   |cj v H' h g=>
    refine⟨.cj v,M,env,ds,H',h,λf w a c₀ cs u hr ha hd hm hc Q hQ=>BW (hw _) ?_⟩;refine g f w a hr ha.glob (ha.stand o) _ _ λf' w' ch s hp=>?_;have:=hQ (.panic ch) a u w' ⟨f',s,ha.up s.le,hd.up s.le,hm.up s.le,ch,rfl,hp⟩;rw[tw hc]at this;exact this
def am3(P:Program)(x:RT):Prop:=∀c M env ds H K,x c M env ds H K→JE P M env ds H K λa cs w Q=>c.wpS P Q a cs w
theorem JE.auK{M:fX}{env:List AV}{ds:List dN}{H:AH}{K:KR}{c:Code}(h:iq P env ds H (λo env ds H=>K o M env ds H) λa w Q=>c.wp P Q a w):JE P M env ds H K λa cs w Q=>c.wpS P Q a cs w:=by
 obtain⟨o,env',ds',H',h1,h2⟩:=h;refine⟨o,M,env',ds',H',h1,λf w a c₀ cs u hr ha hd hm hc Q hQ=>wpS_of_wp (h2 f w a hr ha hd _ λe a' w' hx=>?_)⟩;obtain⟨f',s,g1,g2,g3⟩:=hx;have:=hQ e a' u w' ⟨f',s,g1,g2,hm.up s.le,g3⟩;rw[tw hc]at this;exact this
theorem agh{C:eJ}(hC:hH P C){x:ET}(hx:BT P x){ih:RT}(hi:am3 P ih):am3 P (Pg C x P P.globals.size ih):=by
 intro c M env ds H K h;unfold Pg at h;split at h
 ·rename_i a b;obtain⟨o,M1,dy,ds1,H1,h1,h2⟩:=hi a _ _ _ _ _ h;have pass:o≠.normal→K o M1 dy ds1 H1→JE P M env ds H K λac cs w Q=>(Code.seq a b).wpS P Q ac cs w:=λhne hk=>by
   refine⟨o,M1,dy,ds1,H1,hk,λf w ac c₀ cs u hr ha hd hm hc Q hQ=>wpS_seq (h2 f w ac c₀ cs u hr ha hd hm hc _ λe a' u' w' hp=>?_)⟩;have hp':=hp;obtain⟨f',s,g1,g2,g3,g4⟩:=hp;cases o with
   |normal=>exact absurd rfl hne
   |exit id=>subst g4;exact hQ _ _ _ _ hp'
   |goto l=>subst g4;exact hQ _ _ _ _ hp'
   |ret=>subst g4;exact hQ _ _ _ _ hp'
   |cj v=>obtain⟨ch,rfl,_⟩:=g4;exact hQ _ _ _ _ hp'
  cases o with
  |normal=>
   obtain⟨o2,M2,cM,ds2,H2,g1,g2⟩:=hi b _ _ _ _ _ h1;refine⟨o2,M2,cM,ds2,H2,g1,λf w ac c₀ cs u hr ha hd hm hc Q hQ=>wpS_seq (h2 f w ac c₀ cs u hr ha hd hm hc _ λe a' u' w' hp=>?_)⟩;obtain⟨f',s,y1,y2,y3,rfl⟩:=hp;exact g2 f' w' a' { c₀ with mode:=u' } cs u' s.rel y1 y2 y3 rfl Q λe a'' u'' w'' hp=>hQ _ _ _ _ (hp.after s)
  |exit id=>exact pass (by simp) h1
  |goto l=>exact pass (by simp) h1
  |ret=>exact pass (by simp) h1
  |cj v=>exact pass (by simp) h1
 ·rename_i c a b;generalize hv:fh P.globals.size env c=v at h;cases v<;>try exact h.elim
  case bool t=>
   have hc:∀{f:aI}{act:Act},AR P f env act→act.eval c=.bool t:=λ{f act} ha=>by
    have:=zd ha c;rw[hv]at this;generalize act.eval c=u at this;cases this;rfl
   cases t
   ·obtain⟨o,M1,dy,ds1,H1,h1,h2⟩:=hi b _ _ _ _ _ h;exact⟨o,M1,dy,ds1,H1,h1,λf w ac c₀ cs u hr ha hd hm hc' Q hQ=>wpS_cond (hc ha) (h2 f w ac c₀ cs u hr ha hd hm hc' Q hQ)⟩
   ·obtain⟨o,M1,dy,ds1,H1,h1,h2⟩:=hi a _ _ _ _ _ h;exact⟨o,M1,dy,ds1,H1,h1,λf w ac c₀ cs u hr ha hd hm hc' Q hQ=>wpS_cond (hc ha) (h2 f w ac c₀ cs u hr ha hd hm hc' Q hQ)⟩
 ·rename_i id ops;obtain⟨o,M1,dy,ds1,H1,h1,h2⟩:=AP hC _ _ _ _ _ h;exact⟨o,M1,dy,ds1,H1,h1,λf w ac c₀ cs u hr ha hd hm hc Q hQ=>GW (h2 f w ac c₀ cs u hr ha hd hm hc Q hQ)⟩
 ·exact JE.auK (hx _ _ _ _ _ h)
theorem Pj{C:eJ}(hC:hH P C){x:ET}(hx:BT P x):∀d,am3 P (apg C x P P.globals.size d)
 |0=>λ_ _ _ _ _ _ h=>h.elim
 |d+1=>agh hC hx (Pj hC hx d)
theorem DR.rV{f:aI}{es:List Deferred}(h:DR f [] es):es=[]:=by cases h;rfl
theorem Pk{g:Nat}{k:Func→Code→Prop}(h:Za P g k):∃fn c,P.funcs[g]? = some fn∧fn.body=some c∧k fn c:=by
 unfold Za at h;split at h
 ·rename_i fn hf;split at h
  ·rename_i c hc;exact⟨fn,c,hf,hc,h⟩
  ·exact h.elim
 ·exact h.elim
theorem BX{f:aI}{fn:Func}{args:List AV}{vs:Array Value}(hv:VL f args vs.toList)(hg:∀g,g<P.globals.size→f.dom g∧f.blk g=g∧f.off g=0) :
  AR P f (aT fn args) { tmps:=vs++Array.replicate (fn.ntmps-vs.size) undef,defers:=[] }:=by
 refine⟨?_,hg⟩;have hl:=hv.length;have e:vs.toList.length=vs.size:=Array.length_toList;simp only[aT,Array.toList_append,Array.toList_replicate];rw[hl,e];exact hv.append (VL.replicate (VR.undef f) _)
theorem am4{C:eJ}(hC:hH P C){x:ET}(hx:BT P x)(d:Nat):JC P (Zb C x P P.globals.size d):=by
 intro g args M H K hb h;obtain⟨fn,c,hf,hc,h⟩:=Pk h;obtain⟨o,M',env',ds',H',h1,h2⟩:=Pj hC hx d _ _ _ _ _ _ h;unfold auI at h1;split at h1
 ·have key:∀(co:kl),(∀(f:aI) (H0:AH) w e a u' w',BV P f H0 w o M' env' [] H' e a u' w'→∀c₀ cs,bodyPostS P fn c₀ cs (Ph f H0 w co M' H') e a ({ c₀ with mode:=u' }::cs) w')→K co M' H'→
    ∃o M' H',K o M' H'∧∀f w (vs:Array Value) u,HR f H w→(∀g,g<P.globals.size→f.dom g∧f.blk g=g∧f.off g=0)→VL f args vs.toList→MR f M u→CallsD P g vs u w (Ph f H w o M' H'):=λco h3 h4=>
   ⟨co,M',H',h4,λf w vs u hr hg hv hm=>callsD_of_wpS hf hc λc₀ cs hu=>h2 f w _ c₀ cs u hr (BX hv hg) .nil hm hu _ λe a' u' w' hp=>h3 f H w e a' u' w' hp c₀ cs⟩
  split at h1
  ·obtain⟨v,g1,g2⟩:=JD h1;refine key (.ret v) (λf H0 w e a u' w' hp c₀ cs=>?_) g1;obtain⟨f',s,y1,y2,y3,rfl⟩:=hp;obtain⟨u,z1,z2⟩:=g2 f' w' a s.rel y1;have hd:a.defers=[]:=y2.rV;exact⟨hd,u',rfl,u,z1,f',s,y3,u,rfl,z2⟩
  ·obtain⟨v,g1,g2⟩:=JD h1;refine key (.ret v) (λf H0 w e a u' w' hp c₀ cs=>?_) g1;obtain⟨f',s,y1,y2,y3,rfl⟩:=hp;obtain⟨u,z1,z2⟩:=g2 f' w' a s.rel y1;have hd:a.defers=[]:=y2.rV;exact⟨hd,u',rfl,u,z1,f',s,y3,u,rfl,z2⟩
  ·rename_i v;refine key (.cj v) (λf H0 w e a u' w' hp c₀ cs=>?_) h1;obtain⟨f',s,y1,y2,y3,ch,rfl,hp⟩:=hp;have hd:a.defers=[]:=y2.rV;exact⟨hd,u',rfl,f',s,y3,ch,rfl,hp⟩
  ·exact h1.elim
 ·exact h1.elim
theorem uQ.after{f f1:aI}{H H1:AH}{w w1:World}(s:Step f H w f1 H1 w1){o:kl}{H':AH}{e:Ending}{w':World}(h:uQ f1 H1 w1 o H' e w'):uQ f H w o H' e w':=by
 obtain⟨f',s',h⟩:=h;exact⟨f',gn.trans s s',h⟩
theorem Leaves.mono{fn:Func}{tmps:Array Value}{R R':Ending→World→Prop}(hR:∀e w,R e w→R' e w):∀(ds:List Deferred) (u:FrameMode) (w:World),Leaves P fn tmps R ds u w→Leaves P fn tmps R' ds u w
 |[],.returning,w,h=>let ⟨v,h1,h2⟩:=h;⟨v,h1,hR _ _ h2⟩
 |[],.panicking chain,w,h=>hR _ _ h
 |[],.run,_,h=>h.elim
 |d::ds,u,w,h=>by
  obtain⟨h1,fv,cap,f,args,h2,h3,h4⟩:=h;refine⟨h1,fv,cap,f,args,h2,h3,h4.mono λe u' w' h5=>?_⟩;cases e with
  |returned v=>exact Leaves.mono hR ds _ _ h5
  |panicked ch=>exact Leaves.mono hR ds _ _ h5
  |outgrown=>exact hR _ _ h5
theorem agi{f:aI}{o:kl}{M:fX}{u:FrameMode}(hm:MR f M u){e:Ending}
  (he:match o with|.ret v=>∃x,e=.returned x∧VR f v x|.cj v=>∃ch,e=.panicked ch∧AO f v ch) :
  match e with|.returned _=>MR f (GU o M) (settle u)|.panicked ch=>MR f (GU o M) (raised u ch)|.outgrown=>False:=by
 cases o with
 |ret v=>
  obtain⟨x,rfl,_⟩:=he;cases M with
  |ret=>cases hm;rfl
  |cj v=>
   obtain⟨ch,rfl,y,older,rfl,h3,h4⟩:=hm;exact⟨_,rfl,y,older,rfl,h3,h4⟩
  |caught v=>
   obtain⟨y,older,rfl,h3,h4⟩:=hm;have:older.dropWhile (λx=>!x.goexit)=[]:=by
    clear h3
    induction older with
    |nil=>rfl
    |cons y l ih=>rw[List.dropWhile_cons,if_pos (by rw[h4 y (by simp)];rfl)];exact ih λz hz=>h4 z (by simp[hz])
   show MR f .ret _;simp only[settle,this];rfl
 |cj v=>
  obtain⟨ch,rfl,x,older,rfl,h3,h4⟩:=he;show MR f (.cj v) _;cases M with
  |ret=>cases hm;exact⟨_,rfl,x,older,rfl,h3,h4⟩
  |cj v=>
   obtain⟨ch',rfl,y,auL,rfl,h5,h6⟩:=hm;refine⟨_,rfl,x,older++_,rfl,h3,λz hz=>?_⟩;simp only[List.mem_append,List.mem_cons]at hz;rcases hz with hz|rfl|hz
   ·exact h4 z hz
   ·rfl
   ·exact h6 z hz
  |caught v=>
   obtain⟨y,auL,rfl,h5,h6⟩:=hm;refine⟨_,rfl,x,older++_,rfl,h3,λz hz=>?_⟩;simp only[List.mem_append,List.mem_cons]at hz;rcases hz with hz|rfl|hz
   ·exact h4 z hz
   ·rfl
   ·exact h6 z hz
theorem AQ{CD:ze}(hCD:JC P CD){fn:Func}{env:List AV}{K:kl→AH→Prop}:∀(ds:List dN) (M:fX) (H:AH),qm P CD fn env ds M H K→
  ∃co H',K co H'∧∀f w a es u,HR f H w→AR P f env a→DR f ds es→MR f M u→Leaves P fn a.tmps (uQ f H w co H') es u w
 |[],.ret,H,h=>by
  obtain⟨v,h1,h2⟩:=JD h;refine⟨_,_,h1,λf w a es u hr ha hd hm=>?_⟩;cases hd;cases hm;obtain⟨x,g1,g2⟩:=h2 f w a hr ha;exact⟨x,g1,f,Step.refl hr,x,rfl,g2⟩
 |[],.cj v,H,h=>by
  refine⟨_,_,h,λf w a es u hr ha hd hm=>?_⟩;cases hd;obtain⟨ch,rfl,hp⟩:=hm;exact⟨f,Step.refl hr,ch,rfl,hp⟩
 |[],.caught _,_,h=>h.elim
 |d::ds,M,H,h=>by
  unfold qm at h;obtain⟨hb,h⟩:=aD h;obtain⟨o,M',H1,h1,h2⟩:=hCD d.g d.args M H _ hb h;obtain⟨co,H2,g1,g2⟩:=AQ hCD ds _ _ h1;refine⟨co,H2,g1,λf w a es u hr ha hd hm=>?_⟩;cases hd with
  |cons g args cap vs _ es hv hd=>
   refine leaves_cons hm.ne (f:=g) (args:=vs++cap) (by simp[invoke,BQ hb]) ?_;refine(h2 f w _ u hr ha.glob hv hm).mono λe u' w' hp=>?_;obtain⟨f',s,hm',he⟩:=hp;have hA:=agi hm' he;have key:∀v,MR f' (GU o M') v→Leaves P fn a.tmps (uQ f H w co H2) es v w':=λv hv=>
    Leaves.mono (λe w h=>h.after s) _ _ _ (g2 f' w' a es v s.rel (ha.up s.le) (hd.up s.le) hv)
   cases e with
   |returned x=>exact key _ hA
   |panicked ch=>exact key _ hA
   |outgrown=>exact hA.elim
theorem am5{C:eJ}(hC:hH P C){D:DT}(hD:tv P D)(N d:Nat):hH P (GV C D P P.globals.size N d):=by
 intro g args H K hb h;obtain⟨fn,c,hf,hc,h⟩:=Pk h;have hx:=UX hC hD (N:=N) d;obtain⟨o,env',ds',H',h1,h2⟩:=hx _ _ _ _ _ h;have hCD:=am4 hC hx d;have key:∀(M:fX),qm P (Zb C (exec C D P P.globals.size N d) P P.globals.size d) fn env' ds' M H' K→
   (∀(f:aI) (H0:AH) w (R:Ending→World→Prop) e a w',nd P f H0 w o env' ds' H' e a w'→(∀f' u,Step f H0 w f' H' w'→AR P f' env' a→DR f' ds' a.defers→MR f' M u→Leaves P fn a.tmps R a.defers u w')→bodyPostD P fn R e a w')→
   ∃o H',K o H'∧∀f w (vs:Array Value),HR f H w→(∀g,g<P.globals.size→f.dom g∧f.blk g=g∧f.off g=0)→VL f args vs.toList→Calls P g vs w (uQ f H w o H'):=λM hl hb=>by
  obtain⟨co,H2,g1,g2⟩:=AQ hCD _ _ _ hl;refine⟨co,H2,g1,λf w vs hr hg hv=>calls_of_wp_defers hf hc (h2 f w _ hr (BX hv hg) .nil _ λe a' w' hp=>hb f H w _ e a' w' hp λf' u s ha hd hm=>?_)⟩;exact Leaves.mono (λe w h=>h.after s) _ _ _ (g2 f' w' a' a'.defers u s.rel ha hd hm)
 cases o with
 |normal=>exact key .ret h1 λf H0 w R e a w' hp hl=>by obtain⟨f',s,y1,y2,rfl⟩:=hp;exact hl f' _ s y1 y2 rfl
 |ret=>exact key .ret h1 λf H0 w R e a w' hp hl=>by obtain⟨f',s,y1,y2,rfl⟩:=hp;exact hl f' _ s y1 y2 rfl
 |cj v=>exact key (.cj v) h1 λf H0 w R e a w' hp hl=>by obtain⟨f',s,y1,y2,ch,rfl,hp⟩:=hp;exact hl f' _ s y1 y2 ⟨ch,rfl,hp⟩
 |exit=>exact h1.elim
 |goto=>exact h1.elim
end
def fD(ops:Array Oper)(i:Nat):List Nat:=match ops[i]? with|some o=>(o.after.toList.filter (Region.binds .any)).map (·.on)|none=>[]
inductive qn(ops:Array Oper):Nat→Nat→Prop
 |edge {i j:Nat}:j∈fD ops i→qn ops i j
 |step {i j k:Nat}:j∈fD ops i→qn ops j k→qn ops i k
def uni(a b:List Nat):List Nat:=a++b.filter λx=>!(a.contains x)
theorem U0{a b:List Nat}{x:Nat}(h:x∈uni a b):x∈a∨x∈b:=by
 unfold uni at h;rw[List.mem_append,List.mem_filter]at h;exact h.imp id And.left
def uS:List (Nat×List Nat)→Nat→List Nat
 |[],_=>[]
 |(j,m)::r,i=>bif Nat.beq i j then m else uS r i
def GX(ms:List (Nat×List Nat)):List Nat→List Nat
 |[]=>[]
 |j::r=>uni (uni [j] (uS ms j)) (GX ms r)
def masks(ops:Array Oper):List Nat→List (Nat×List Nat)→List (Nat×List Nat)
 |[],ms=>ms
 |i::r,ms=>masks ops r ((i,GX ms (fD ops i))::ms)
def mW(ops:Array Oper)(ms:List (Nat×List Nat)):Prop:=∀i j,j∈uS ms i→qn ops i j
theorem M9{ops:Array Oper}{ms:List (Nat×List Nat)}(h:mW ops ms):∀{es:List Nat}{x:Nat},x∈GX ms es→∃j∈es,x=j∨qn ops j x
 |[],x,hx=>by simp[GX]at hx
 |j::r,x,hx=>by
  rcases U0 hx with hx|hx
  ·rcases U0 hx with hx|hx
   ·exact⟨j,by simp,.inl (by simpa using hx)⟩
   ·exact⟨j,by simp,.inr (h _ _ hx)⟩
  ·obtain⟨k,hk,hx⟩:=M9 h hx;exact⟨k,by simp[hk],hx⟩
theorem wB{ops:Array Oper}:∀(l:List Nat){ms:List (Nat×List Nat)},mW ops ms→mW ops (masks ops l ms)
 |[],_,h=>h
 |i::r,ms,h=>wB r λk j hj=>by
  simp only[uS]at hj;cases hb:Nat.beq k i with
  |false=>rw[hb]at hj;exact h k j hj
  |true=>
   rw[hb]at hj;have e:=Nat.eq_of_beq_eq_true hb;subst e;obtain⟨m,h1,h2⟩:=M9 h hj;rcases h2 with rfl|h2
   ·exact .edge h1
   ·exact .step h1 h2
def jI(ops:Array Oper)(i:Nat):Option Tmp:=(ops[i]?).bind (·.dst)
def ga(ops:Array Oper)(i:Nat):List Tmp:=match ops[i]? with|some o=>o.looksAt ops|none=>[]
def gb(ops:Array Oper)(i:Nat):Bool:=match ops[i]? with
 |some o=>(match o.op,o.guard,o.dst with
  |.assign _,none,some t=>(List.range ops.size).any λk=>!(Nat.beq k i)&&((ga ops k).contains t||jI ops k == some t)
  |_,_,_=>false)
 |none=>false
def gF(ops:Array Oper)(i:Nat):Bool:=(match ops[i]? with|some o=>turns o|none=>false)||gb ops i
theorem oj{ops:Array Oper}{i:Nat}{o:Oper}(ho:ops[i]? = some o)(h:turns o=true):gF ops i=true:=by simp[gF,ho,h]
theorem Pm{ops:Array Oper}{i:Nat}(h:gb ops i=true):gF ops i=true:=by simp[gF,h]
theorem Po{ops:Array Oper}{i:Nat}{o:Oper}(ho:ops[i]? = some o){g:Nat×Bool}(h:o.guard=some g):gb ops i=false:=by
 unfold gb;rw[ho];simp only[h];split<;>first|rfl|(rename_i h2 _;cases h2)
def Lin(ops:Array Oper):List Nat→Prop
 |[]=>True
 |i::r=>(gF ops i=true→∀j∈r,qn ops j i)∧Lin ops r
def Pp(ops:Array Oper):List Nat→Prop
 |[]=>True
 |i::r=>(∀j∈r,∀t,jI ops j=some t→(t∉ga ops i∧jI ops i≠some t)∨(gb ops j=true∧qn ops j i))∧(∀j∈r,∀t,jI ops i=some t→t∈ga ops j→qn ops j i)∧(∀t,jI ops i=some t→t∉ga ops i)∧Pp ops r
def Zd(ops:Array Oper):List Nat→List Nat→Prop
 |_,[]=>True
 |seen,i::r=>(∀j∈fD ops i,j∈seen)∧Zd ops (i::seen) r
def Ze(ops:Array Oper)(ms:List (Nat×List Nat)):List Nat→Bool
 |[]=>true
 |i::r=>(!(gF ops i)||r.all λj=>(uS ms j).contains i)&&Ze ops ms r
def Zf(ops:Array Oper)(ms:List (Nat×List Nat)):List Nat→Bool
 |[]=>true
 |i::r=>(match jI ops i with|none=>true|some t=>!((ga ops i).contains t)&&r.all λj=>!((ga ops j).contains t)||(uS ms j).contains i) &&
  (r.all λj=>match jI ops j with|none=>true|some t=>(!((ga ops i).contains t) && !(jI ops i == some t))||(gb ops j&&(uS ms j).contains i))&&Zf ops ms r
def Ob(ops:Array Oper):List Nat→List Nat→Bool
 |_,[]=>true
 |seen,i::r=>(fD ops i).all (λj=>seen.contains j)&&Ob ops (i::seen) r
def nodupB:List Nat→Bool
 |[]=>true
 |i::r=>!(r.contains i)&&nodupB r
theorem U1{ops:Array Oper}{ms:List (Nat×List Nat)}(hm:mW ops ms):∀{l:List Nat},Ze ops ms l=true→Lin ops l
 |[],_=>trivial
 |i::r,h=>by
  simp only[Ze,Bool.and_eq_true,Bool.or_eq_true,Bool.not_eq_true',List.all_eq_true,List.contains_iff_mem]at h;refine⟨λht j hj=>?_,U1 hm h.2⟩;rcases h.1 with h1|h1
  ·rw[ht]at h1;cases h1
  ·exact hm _ _ (h1 j hj)
theorem U2{ops:Array Oper}{ms:List (Nat×List Nat)}(hm:mW ops ms):∀{l:List Nat},Zf ops ms l=true→Pp ops l
 |[],_=>trivial
 |i::r,h=>by
  simp only[Zf,Bool.and_eq_true]at h;obtain⟨⟨h1,h2⟩,h3⟩:=h;refine⟨λj hj t ht=>?_,λj hj t ht hl=>?_,λt ht=>?_,U2 hm h3⟩
  ·rw[List.all_eq_true]at h2;have:=h2 j hj;rw[ht]at this;simp only[Bool.or_eq_true,Bool.and_eq_true]at this;rcases this with h4|⟨h4,h5⟩
   ·exact .inl (by simpa using h4)
   ·exact .inr ⟨h4,hm _ _ (by simpa using h5)⟩
  ·rw[ht]at h1;simp only[Bool.and_eq_true,List.all_eq_true,Bool.or_eq_true,Bool.not_eq_true']at h1;rcases h1.2 j hj with h4|h4
   ·simp[hl]at h4
   ·exact hm _ _ (by simpa using h4)
  ·rw[ht]at h1;simp only[Bool.and_eq_true]at h1;simpa using h1.1
theorem Pq{ops:Array Oper}:∀{l seen:List Nat},Ob ops seen l=true→Zd ops seen l
 |[],_,_=>trivial
 |i::r,seen,h=>by
  simp only[Ob,Bool.and_eq_true,List.all_eq_true]at h;exact⟨λj hj=>by simpa using h.1 j hj,Pq h.2⟩
theorem Na:∀{l:List Nat},nodupB l=true→l.Nodup
 |[],_=>.nil
 |i::r,h=>by
  simp only[nodupB,Bool.and_eq_true]at h;exact List.nodup_cons.2 ⟨by simpa using h.1,Na h.2⟩
section
variable {P:Program}
def Same(ops:Array Oper)(o:Oper)(env cM:List AV):Prop:=∀t∈o.looksAt ops,cM[t]? = env[t]?
theorem Same.refl{ops:Array Oper}{o:Oper}(env:List AV):Same ops o env env:=λ_ _=>rfl
theorem Same.trans{ops:Array Oper}{o:Oper}{a b c:List AV}(h:Same ops o a b)(g:Same ops o b c):Same ops o a c:=λt ht=>(g t ht).trans (h t ht)
theorem Same.fh{ops:Array Oper}{o:Oper}{env cM:List AV}(h:Same ops o env cM){x:Operand}(hx:x∈o.op.operands)(G:Nat):Go.X.fh G cM x=Go.X.fh G env x:=by
 cases x with
 |tmp t=>
  have:=h t (by unfold Oper.looksAt;rw[List.mem_append];left;rw[List.mem_filterMap];exact⟨.tmp t,by simpa using hx,rfl⟩);simp only[Go.X.fh,List.getD_eq_getElem?_getD,this]
 |const v=>rfl
 |global g=>rfl
 |func g=>rfl
theorem Same.stand{ops:Array Oper}{o:Oper}{env cM:List AV}(h:Same ops o env cM){f:aI}{a:Act}(ha:AR P f cM a):Stand f o (Go.X.fh P.globals.size env) a:=λx hx=>by
 rw[←h.fh hx];exact zd ha x
theorem Same.oV{ops:Array Oper}{o:Oper}{env cM:List AV}(h:Same ops o env cM){j:Nat}{want:Bool}(hg:o.guard=some (j,want)):Go.X.oV ops cM j=Go.X.oV ops env j:=by
 unfold Go.X.oV;cases hd:(ops[j]?).bind (·.dst)with
 |none=>rfl
 |some t=>
  have:=h t (by unfold Oper.looksAt;rw[List.mem_append];right;simp[hg,hd]);simp only[List.getD_eq_getElem?_getD,this]
def fx(P:Program)(ops:Array Oper)(o:Oper)(env:List AV)(b:Bool):Prop:=∀f a cM,AR P f cM a→Same ops o env cM→Region.wanted o (yielded ops a.tmps)=b
def iN(P:Program)(ops:Array Oper)(o:Oper)(env:List AV)(v:AV)(H:AH):Prop:=∀f w a cM,HRQ f H.sem w→AR P f cM a→Same ops o env cM→∃u,Did P o a w u w∧VR f v u
def AS(P:Program)(ops:Array Oper)(o:Oper)(env:List AV)(ob:dM)(vf:Nat→AV):Prop:=∀f w a cM,AR P f cM a→Same ops o env cM→∃u obj,Did P o a w u (w.alloc obj)∧nA f w ob vf u obj
def BY(P:Program)(ops:Array Oper)(o:Oper)(env:List AV)(H:AH)(v:AV)(H':AH):Prop:=∀f w a cM,HR f H w→AR P f cM a→Same ops o env cM→∀(next:Act→World→Prop) Q,(∀f' w' u,Step f H w f' H' w'→VR f' v u→next (a.put o.dst u) w')→o.wp P a w next Q
def Oc(P:Program)(ops:Array Oper)(o:Oper)(env:List AV)(H:AH)(v:AV)(H':AH):Prop:=∀f w a cM,HR f H w→AR P f cM a→Same ops o env cM→∀(next:Act→World→Prop) (Q:Exit→Act→World→Prop),(∀f' w' ch,Step f H w f' H' w'→AO f' v ch→Q (.panic ch) a w')→o.wp P a w next Q
abbrev lr:=Nat×Oper×List AV×AV
inductive Tr(P:Program)(ops:Array Oper):List Nat→List lr→List AV→AH→Option AV→List AV→AH→Prop
 |nil (chk:List lr) (env:List AV) (H:AH):Tr P ops [] chk env H none env H
 |skip {i:Nat}{o:Oper}{rest:List Nat}{chk:List lr}{env:List AV}{H:AH}{r:Option AV}{env':List AV}{H':AH}(ho:ops[i]? = some o) (hla:gb ops i=false) (hw:fx P ops o env false)
   (hr:Tr P ops rest chk (cz env o.dst dY) H r env' H'):Tr P ops (i::rest) chk env H r env' H'
 |look {i:Nat}{o:Oper}{rest:List Nat}{chk:List lr}{env:List AV}{H:AH}{r:Option AV}{env':List AV}{H':AH}(v:AV) (ho:ops[i]? = some o) (hla:gb ops i=false) (hw:fx P ops o env true) (hl:iN P ops o env v H)
   (hr:Tr P ops rest ((i,o,env,v)::chk) (cz env o.dst v) H r env' H'):Tr P ops (i::rest) chk env H r env' H'
 |still {i:Nat}{o:Oper}{rest:List Nat}{chk:List lr}{env:List AV}{H:AH}{r:Option AV}{env':List AV}{H':AH}(v:AV) (ho:ops[i]? = some o) (hla:gb ops i=false) (hw:fx P ops o env true) (hl:∀H,iN P ops o env v H)
   (hr:Tr P ops rest chk (cz env o.dst v) H r env' H'):Tr P ops (i::rest) chk env H r env' H'
 |lay {i:Nat}{o:Oper}{rest:List Nat}{chk:List lr}{env:List AV}{H:AH}{r:Option AV}{env':List AV}{H':AH}(ob:dM) (vf:Nat→AV) (H1:AH) (ho:ops[i]? = some o) (hla:gb ops i=false) (hw:fx P ops o env true) (hn:H1.n=H.n+1) (hnew:H1.at H.n=ob)
   (hold:∀b,b≠H.n→H1.at b=H.at b) (Dc:H.at H.n=.dead) (hown:ob.sem.own=true) (hl:AS P ops o env ob vf)
   (hr:Tr P ops rest chk (cz env o.dst (vf H.n)) H1 r env' H'):Tr P ops (i::rest) chk env H r env' H'
 |turn {i:Nat}{o:Oper}{rest:List Nat}{chk:List lr}{env:List AV}{H:AH}{r:Option AV}{env':List AV}{H':AH}(v:AV) (H1:AH) (ho:ops[i]? = some o) (ht:gF ops i=true) (hw:fx P ops o env true) (hl:BY P ops o env H v H1)
   (hc:H1=H∨∀x∈chk,qn ops i x.1∨iN P ops x.2.1 x.2.2.1 x.2.2.2 H1)
   (hr:Tr P ops rest chk (cz env o.dst v) H1 r env' H'):Tr P ops (i::rest) chk env H r env' H'
 |cj {i:Nat}{o:Oper}{rest:List Nat}{chk:List lr}{env:List AV}{H:AH}(v:AV) (H1:AH) (ho:ops[i]? = some o) (ht:gF ops i=true) (hw:fx P ops o env true) (hl:Oc P ops o env H v H1) :
   Tr P ops (i::rest) chk env H (some v) env H1
def yc:Lay:=λ_ _=>False
def agj(P:Program)(o:Oper):Bool:=
 match o.op with
 |.load ..=>false
 |.lookup ..=>false
 |.convert s ..=>(match P.underlying s with|some (.int _)=>true|_=>false)
 |.binOp _ t ..=>(match P.underlying t with|some (.pointer _)=>false|_=>true)
 |.call c=>(match c.callee,c.argTypes.toList with
  |.builtin .max,_=>true
  |.builtin .min,_=>true
  |.builtin .len,t::_=>(match P.underlying t with|some (.map ..)=>false|_=>true)
  |_,_=>false)
 |_=>true
def wC:AH:=⟨.e,0⟩
section
variable (C:eJ)(P:Program)(G:Nat)(ops:Array Oper)(ms:List (Nat×List Nat))
def px(i:Nat)(H:AH):List lr→Prop→Prop
 |[],x=>x
 |(j,o,env,v)::r,x=>bI ((uS ms i).contains j) (px i H r x) (uL P o (fh G env) yc H λv' _=>bT (aH v' v) (px i H r x))
def bP(H:AH)(x:Prop):Prop:=match H.at H.n with|.dead=>x|_=>False
def ko:List Nat→List lr→List AV→AH→(List lr→List AV→AH→Prop)→(AV→List AV→AH→Prop)→Prop
 |[],chk,env,H,K,_=>K chk env H
 |i::rest,chk,env,H,K,KP=>match ops[i]? with
  |none=>False
  |some o=>
   let go:List AV→Prop:=λenv=>bI (gb ops i) (uL P o (fh G env) yc wC λv _=>ko rest chk (cz env o.dst v) H K KP) <| bI (turns o) (bT (!(Dg o)) (wz C P G o (fh G env) (aA H) H (λv H1=>px P G ms i H1 chk (ko rest chk (cz env o.dst v) H1 K KP)) (λv H1=>KP v env H1)))
    (bI (xZ o) (bP H (uL P o (fh G env) (aA H) H λv H1=>bT (Nat.beq H1.n (Nat.succ H.n)) (ko rest chk (cz env o.dst v) H1 K KP)))
    (bI (agj P o) (uL P o (fh G env) yc wC λv _=>ko rest chk (cz env o.dst v) H K KP)
     (uL P o (fh G env) yc H λv _=>ko rest ((i,o,env,v)::chk) (cz env o.dst v) H K KP)))
   match o.guard with
   |none=>go env
   |some (j,want)=>GQ ops env j want go (λenv=>ko rest chk (cz env o.dst dY) H K KP)
end
theorem fx.of_none{ops:Array Oper}{o:Oper}{env:List AV}(h:o.guard=none):fx P ops o env true:=λf a cM _ _=>by simp[Region.wanted,h]
theorem fx.am6{ops:Array Oper}{o:Oper}{env:List AV}{j:Nat}{want:Bool}(hg:o.guard=some (j,want)){x y:Prop}(hk:GP (oV ops env j) want x y) :
  (x∧fx P ops o env true)∨(y∧fx P ops o env false):=by
 generalize hv:oV ops env j=v at hk;cases v<;>try exact hk.elim
 case bool b=>
  have key:fx P ops o env (b == want):=λf a cM h hs=>by
   obtain⟨u,h1,h2⟩:=uR h ((hs.oV hg).trans hv) (by simp);cases h1;simp only[Region.wanted,hg,h2];cases b<;>cases want<;>rfl
  rcases dn (Fg hk)with⟨h1,h2⟩|⟨h1,h2⟩
  ·exact .inl ⟨h2,h1 ▸ key⟩
  ·exact .inr ⟨h2,h1 ▸ key⟩
 case aE l=>
  refine .inr ⟨hk,λf a cM h hs=>?_⟩;obtain⟨u,h1,h2⟩:=uR h ((hs.oV hg).trans hv) (by simp);cases h1;simp only[Region.wanted,hg,h2];rfl
theorem Dh{ops:Array Oper}{o:Oper}{env:List AV}{H:AH}{k:AV→AH→Prop}(ht:turns o=false)(h:uL P o (fh P.globals.size env) yc H k):∃v,k v H∧iN P ops o env v H:=by
 cases O8 h with
 |same v h g=>exact⟨v,h,λf w a cM hr ha hs=>g f w a hr (hs.stand ha)⟩
 |new ob vf _ h=>exact h.elim
 |turn v H' h ht'=>rw[ht]at ht';cases ht'
theorem HRQ.empty(f:aI)(w:World):HRQ f wC.sem w:=⟨λb _ ha=>by simp[wC,AH.sem,AH.at,Bt.get?,dM.sem,gL.alive]at ha,λb c _ _ ho _ _=>by simp[wC,AH.sem,AH.at,Bt.get?,dM.sem,gL.own]at ho⟩
theorem qo{ops:Array Oper}{ms:List (Nat×List Nat)}(hm:mW ops ms){i:Nat}{H:AH}{x:Prop}:∀{chk:List lr},(∀c∈chk,turns c.2.1=false)→px P P.globals.size ms i H chk x→x∧∀c∈chk,qn ops i c.1∨iN P ops c.2.1 c.2.2.1 c.2.2.2 H
 |[],_,h=>⟨h,by simp⟩
 |(j,o,env,v)::r,ht,h=>by
  have ih:=λ(h:px P P.globals.size ms i H r x)=>qo hm (chk:=r) (x:=x) (λc hc=>ht c (by simp[hc])) h;rcases dn h with⟨h1,h2⟩|⟨h1,h2⟩
  ·obtain⟨g1,g2⟩:=ih h2;refine⟨g1,λc hc=>?_⟩;rcases List.mem_cons.1 hc with rfl|hc
   ·exact .inl (hm _ _ (by simpa using h1))
   ·exact g2 c hc
  ·obtain⟨v',h3,h4⟩:=Dh (ops:=ops) (ht (j,o,env,v) (by simp)) h2;obtain⟨h5,h6⟩:=aD h3;obtain⟨g1,g2⟩:=ih h6;refine⟨g1,λc hc=>?_⟩;rcases List.mem_cons.1 hc with rfl|hc
   ·rw[xX h5]at h4;exact .inr h4
   ·exact g2 c hc
structure Like(ops ops':Array Oper):Prop where
 dst:∀j:Nat,(ops'[j]?).bind Oper.dst=(ops[j]?).bind Oper.dst
 dep:∀{i j},qn ops i j→qn ops' i j
 late:∀i,gb ops' i=gb ops i
theorem Like.refl(ops:Array Oper):Like ops ops:=⟨λ_=>rfl,λh=>h,λ_=>rfl⟩
section
variable {ops ops':Array Oper}
theorem Like.yielded(L:Like ops ops')(t:Array Value):Go.yielded ops' t=Go.yielded ops t:=by
 funext j;unfold Go.yielded;rw[L.dst]
theorem Like.looks(L:Like ops ops')(o:Oper):o.looksAt ops'=o.looksAt ops:=by
 unfold Oper.looksAt;cases o.guard with
 |none=>rfl
 |some g=>simp only[L.dst]
theorem Like.same(L:Like ops ops'){o:Oper}{env cM:List AV}(h:Same ops' o env cM):Same ops o env cM:=λt ht=>h t (by rw[L.looks];exact ht)
theorem Like.want(L:Like ops ops'){o:Oper}{env:List AV}{b:Bool}(h:fx P ops o env b):fx P ops' o env b:=λf a cM ha hs=>by rw[L.yielded];exact h f a cM ha (L.same hs)
theorem Like.look(L:Like ops ops'){o:Oper}{env:List AV}{v:AV}{H:AH}(h:iN P ops o env v H):iN P ops' o env v H:=λf w a cM hr ha hs=>h f w a cM hr ha (L.same hs)
theorem Like.lay(L:Like ops ops'){o:Oper}{env:List AV}{ob:dM}{vf:Nat→AV}(h:AS P ops o env ob vf):AS P ops' o env ob vf:=λf w a cM ha hs=>h f w a cM ha (L.same hs)
theorem Like.turn(L:Like ops ops'){o:Oper}{env:List AV}{H:AH}{v:AV}{H1:AH}(h:BY P ops o env H v H1):BY P ops' o env H v H1:=λf w a cM hr ha hs=>h f w a cM hr ha (L.same hs)
theorem Like.cj(L:Like ops ops'){o:Oper}{env:List AV}{H:AH}{v:AV}{H1:AH}(h:Oc P ops o env H v H1):Oc P ops' o env H v H1:=λf w a cM hr ha hs=>h f w a cM hr ha (L.same hs)
theorem Like.gF(L:Like ops ops'){i:Nat}(h:ops'[i]? = ops[i]?):Go.X.gF ops' i=Go.X.gF ops i:=by unfold Go.X.gF;rw[h,L.late]
end
def Came(P:Program)(ops:Array Oper)(l:List Nat)(chk:List lr)(env:List AV)(H:AH)(K:List lr→List AV→AH→Prop)(KP:AV→List AV→AH→Prop):Prop:=
 (∃Zg env' H',K Zg env' H'∧(∀c∈Zg,turns c.2.1=false)∧∀ops',Like ops ops'→(∀i∈l,ops'[i]? = ops[i]?)→∀tail r e h,Tr P ops' tail Zg env' H' r e h→Tr P ops' (l++tail) chk env H r e h)∨
 (∃v env' H',KP v env' H'∧∀ops',Like ops ops'→(∀i∈l,ops'[i]? = ops[i]?)→∀tail,Tr P ops' (l++tail) chk env H (some v) env' H')
theorem Came.cons{ops:Array Oper}{i:Nat}{rest:List Nat}{chk oX:List lr}{env dy:List AV}{H H1:AH}{K:List lr→List AV→AH→Prop}{KP:AV→List AV→AH→Prop}(h:Came P ops rest oX dy H1 K KP)
  (g:∀ops',Like ops ops'→ops'[i]? = ops[i]?→∀l r e h,Tr P ops' l oX dy H1 r e h→Tr P ops' (i::l) chk env H r e h):Came P ops (i::rest) chk env H K KP:=by
 rcases h with⟨c,e,h,h1,h2,h3⟩|⟨v,e,h,h1,h2⟩
 ·exact .inl ⟨c,e,h,h1,h2,λops' L hl tail r e h ht=>g ops' L (hl i (by simp)) _ r e h (h3 ops' L (λj hj=>hl j (by simp[hj])) tail r e h ht)⟩
 ·exact .inr ⟨v,e,h,h1,λops' L hl tail=>g ops' L (hl i (by simp)) _ _ _ _ (h2 ops' L (λj hj=>hl j (by simp[hj])) tail)⟩
theorem kW{C:eJ}(hC:hH P C){ops:Array Oper}{ms:List (Nat×List Nat)}(hm:mW ops ms){K:List lr→List AV→AH→Prop}{KP:AV→List AV→AH→Prop}:∀(l:List Nat) (chk:List lr) (env:List AV) (H:AH),(∀c∈chk,turns c.2.1=false)→
  ko C P P.globals.size ops ms l chk env H K KP→Came P ops l chk env H K KP
 |[],chk,env,H,ht,h=>.inl ⟨chk,env,H,h,ht,λ_ _ _ _ _ _ _ h=>h⟩
 |i::rest,chk,env,H,ht,h=>by
  unfold ko at h;split at h
  ·exact h.elim
  ·rename_i o ho;have key:fx P ops o env true→(bI (gb ops i) (uL P o (fh P.globals.size env) yc wC λv _=>ko C P P.globals.size ops ms rest chk (cz env o.dst v) H K KP) <| bI (turns o) (bT (!(Dg o)) (wz C P P.globals.size o (fh P.globals.size env) (aA H) H (λv H1=>px P P.globals.size ms i H1 chk (ko C P P.globals.size ops ms rest chk (cz env o.dst v) H1 K KP)) (λv H1=>KP v env H1)))
    (bI (xZ o) (bP H (uL P o (fh P.globals.size env) (aA H) H λv H1=>bT (Nat.beq H1.n (Nat.succ H.n)) (ko C P P.globals.size ops ms rest chk (cz env o.dst v) H1 K KP)))
    (bI (agj P o) (uL P o (fh P.globals.size env) yc wC λv _=>ko C P P.globals.size ops ms rest chk (cz env o.dst v) H K KP)
     (uL P o (fh P.globals.size env) yc H λv _=>ko C P P.globals.size ops ms rest ((i,o,env,v)::chk) (cz env o.dst v) H K KP))))→
     Came P ops (i::rest) chk env H K KP:=λhw h=>by
    rcases dn h with⟨hla,h⟩|⟨hla,h⟩
    ·have hturn:turns o=false:=by
      unfold gb at hla;rw[ho]at hla;simp only at hla;split at hla
      ·rename_i x e1 e2 e3 hop _ _;simp[turns,hop]
      ·cases hla
     obtain⟨v,h1,h2⟩:=Dh (ops:=ops) hturn h;refine(kW hC hm rest chk _ _ ht h1).cons λops' L e l r en hh x=>.turn v H (e.trans ho) (by rw[L.gF e];exact Pm hla) (L.want hw) (L.turn λf w a cM hr ha hs next Q hn=>?_) (.inl rfl) x;obtain⟨u,g1,g2⟩:=h2 f w a cM (HRQ.empty f w) ha hs;exact kg g1 (hn f w u (Step.refl hr) g2)
    rcases dn h with⟨htn,h⟩|⟨htn,h⟩
    ·obtain⟨_,h⟩:=aD h;cases ya hC h with
     |val v H1 h g=>
      obtain⟨h,hc⟩:=qo hm ht h;exact(kW hC hm rest chk _ _ ht h).cons λops' L e l r en hh x=>.turn v H1 (e.trans ho) (by rw[L.gF e];exact oj ho htn) (L.want hw) (L.turn λf w a cM hr ha hs next Q hn=>g f w a hr ha.glob (hs.stand ha) next Q hn) (.inr λc hcm=>(hc c hcm).imp L.dep L.look) x
     |cj v H1 h g=>exact .inr ⟨v,env,H1,h,λops' L hl tail=>.cj v H1 ((hl i (by simp)).trans ho) (by rw[L.gF (hl i (by simp))];exact oj ho htn) (L.want hw) (L.cj λf w a cM hr ha hs next Q hn=>g f w a hr ha.glob (hs.stand ha) next Q hn)⟩
    ·rcases dn h with⟨hl,h⟩|⟨hl,h⟩
     ·unfold bP at h;split at h
      ·rename_i hd;cases O8 h with
       |same v h g=>
        have:=Nat.eq_of_beq_eq_true (aD h).1;exact absurd this (by simp)
       |new ob vf _ h hown g=>
        obtain⟨H1,g1,g2,g3,g4⟩:=mr h;exact(kW hC hm rest chk _ _ ht (aD g1).2).cons λops' L e l r en hh x=>.lay ob vf H1 (e.trans ho) (by rw[L.late];exact hla) (L.want hw) g2 g3 g4 hd hown (L.lay λf w a cM ha hs=>g f w a (hs.stand ha)) x
       |turn v H' h ht'=>rw[htn]at ht';cases ht'
      ·exact h.elim
     ·rcases dn h with⟨hs,h⟩|⟨hs,h⟩
      ·obtain⟨v,h1,h2⟩:=Dh (ops:=ops) htn h;exact(kW hC hm rest chk _ _ ht h1).cons λops' L e l r en hh x=>.still v (e.trans ho) (by rw[L.late];exact hla) (L.want hw) (λH=>L.look λf w a cM _ ha hs=>h2 f w a cM (HRQ.empty f w) ha hs) x
      ·obtain⟨v,h1,h2⟩:=Dh (ops:=ops) htn h;exact(kW hC hm rest _ _ _ (λc hc=>by rcases List.mem_cons.1 hc with rfl|hc;exact htn;exact ht c hc) h1).cons λops' L e l r en hh x=>.look v (e.trans ho) (by rw[L.late];exact hla) (L.want hw) (L.look h2) x
   simp only at h;split at h
   ·rename_i hg;exact key (.of_none hg) h
   ·rename_i j want hg;rcases fx.am6 hg (GS h)with⟨h,hw⟩|⟨h,hw⟩
    ·exact key hw h
    ·exact(kW hC hm rest chk _ _ ht h).cons λops' L e l r en hh x=>.skip (e.trans ho) (by rw[L.late];exact Po ho hg) (L.want hw) x
end
section
variable {P:Program}
theorem fE(env:List AV)(d:Option Tmp)(v:AV):(cz env d v).length=env.length:=by cases d<;>simp[cz]
theorem nB{env:List AV}{d:Option Tmp}{v:AV}{t:Tmp}(h:d≠some t):(cz env d v)[t]? = env[t]?:=by
 cases d with
 |none=>rfl
 |some x=>exact List.getElem?_set_ne (λe=>h (by rw[e]))
theorem qp{env:List AV}{v:AV}{t:Tmp}(h:t<env.length):(cz env (some t) v)[t]? = some v:=by simp[cz,h]
theorem Same.put{ops:Array Oper}{o:Oper}{env:List AV}{d:Option Tmp}{v:AV}(h:∀t,d=some t→t∉o.looksAt ops):Same ops o env (cz env d v):=λt ht=>nB (λe=>h t e ht)
def kf(o:Oper)(env:List AV)(v:AV):Prop:=∀t,o.dst=some t→t<env.length→env[t]? = some v
theorem kf.self(o:Oper)(env:List AV)(v:AV):kf o (cz env o.dst v) v:=λt ht hl=>by rw[ht];exact qp (by rw[fE]at hl;exact hl)
theorem kf.put{o:Oper}{env:List AV}{v u:AV}{d:Option Tmp}(h:kf o env v)(hd:∀t,o.dst=some t→d≠some t):kf o (cz env d u) v:=λt ht hl=>by
 rw[nB (hd t ht)];exact h t ht (by rw[fE]at hl;exact hl)
inductive PF(P:Program)(ops:Array Oper)(f:aI)(n0:Nat)(iu:Nat→Option Nat)(chk:List lr)(env:List AV)(H:AH)(i:Nat)(o:Oper):Prop
 |skip (hw:fx P ops o env false) (hv:kf o env dY)
 |look (dy:List AV) (v:AV) (hc:(i,o,dy,v)∈chk) (hw:fx P ops o env true) (hl:iN P ops o env v H) (hs:Same ops o dy env) (hv:kf o env v)
 |still (v:AV) (hw:fx P ops o env true) (hl:∀H,iN P ops o env v H) (hv:kf o env v)
 |lay (id:Nat) (ob:dM) (vf:Nat→AV) (hid:iu i=some id) (hw:fx P ops o env true) (hl:AS P ops o env ob vf) (hat:(H.at id).sem=ob.sem) (hown:ob.sem.own=true) (h0:n0≤id) (hn:id<H.n) (hd:¬f.dom id) (hv:kf o env (vf id))
theorem fx.same{ops:Array Oper}{o:Oper}{env dy:List AV}{b:Bool}(h:fx P ops o env b)(hs:Same ops o env dy):fx P ops o dy b:=λf a cM ha hs2=>h f a cM ha (hs.trans hs2)
theorem iN.same{ops:Array Oper}{o:Oper}{env dy:List AV}{v:AV}{H:AH}(h:iN P ops o env v H)(hs:Same ops o env dy):iN P ops o dy v H:=λf w a cM hr ha hs2=>h f w a cM hr ha (hs.trans hs2)
theorem AS.same{ops:Array Oper}{o:Oper}{env dy:List AV}{ob:dM}{vf:Nat→AV}(h:AS P ops o env ob vf)(hs:Same ops o env dy):AS P ops o dy ob vf:=λf w a cM ha hs2=>h f w a cM ha (hs.trans hs2)
theorem iN.more{ops:Array Oper}{o:Oper}{env:List AV}{v:AV}{H H1:AH}(h:iN P ops o env v H)(hd:H.at H.n=.dead)(hold:∀b,b≠H.n→H1.at b=H.at b):iN P ops o env v H1:=λf w a cM hr ha hs=>
 h f w a cM (hr.forget H.sem λb=>by
  by_cases e:b=H.n
  ·subst e;left;rw[AH.bN,hd];rfl
  ·right;rw[AH.bN,AH.bN,hold b e]) ha hs
theorem gn.ahead{f0 f:aI}{S0 S S1:SH}{w0 w:World}(s:gn f0 S0 w0 f S w)(hn:S.n≤S1.n)(hold:∀b,b<S.n→S1.ob b=S.ob b)(hro:∀b,(S1.ob b).alive=true→(S1.ob b).own=false→S.ob b=S1.ob b):gn f0 S0 w0 f S1 w where
 rel:=fK.mk' (λb hb=>Nat.lt_of_lt_of_le (s.rel.dom b hb) hn) (λb hb ha=>by rw[hold b (s.rel.dom b hb)]at ha ⊢;exact s.rel.obj b hb ha)
  (λb c hb hc ho ha e=>by rw[hold b (s.rel.dom b hb)]at ho;rw[hold c (s.rel.dom c hc)]at ha;exact s.rel.inj b c hb hc ho ha e)
 le:=s.le
 n:=Nat.le_trans s.n hn
 size:=s.size
 keep:=s.keep
 src:=λb hb ho=>by rw[hold b (s.rel.dom b hb)]at ho;exact s.src b hb ho
 ro:=λb ha ho=>by
  have e:=hro b ha ho;rw[←e]at ha ho ⊢;exact s.ro b ha ho
 dead:=λb hb h=>by rw[hold b (Nat.lt_of_lt_of_le hb s.n)];exact s.dead b hb h
 new:=s.new
 rest:=λb hb h=>by rw[hold b (Nat.lt_of_lt_of_le hb s.n)];exact s.rest b hb h
 os:=s.os
 tape:=s.tape
 output:=s.output
theorem gn.catch{f0 f:aI}{S0 S:SH}{w0 w:World}(s:gn f0 S0 w0 f S w){i:Nat}(h0:S0.n≤i)(hi:¬f.dom i)(hn:i<S.n){obj:Obj}{off lim:Nat}(hob:OR (f.ext i w.heap.size off lim) i (S.ob i) (some obj)) :
  gn f0 S0 w0 (f.ext i w.heap.size off lim) S (w.alloc obj):=by
 obtain⟨h1,h2⟩:=s.rel.push S i _ obj off lim hi hn (Nat.le_refl _) rfl (λ_ _=>rfl) hob;have hle:=f.qL hi w.heap.size off lim;refine⟨h1,s.le.trans hle,s.n,Nat.le_trans s.size (by simp),λk hk hn'=>?_,λb hb ho=>?_,s.ro,s.dead,λb hb hd=>?_,s.rest,s.os,s.tape,s.output⟩
 ·rw[h2 k (Nat.lt_of_lt_of_le hk s.size)];exact s.keep k hk hn'
 ·by_cases e:b=i
  ·subst e;right;rw[aI.gZ];exact s.size
  ·have hb':=hb.resolve_left e;rw[hle.blk b hb'];exact s.src b hb' ho
 ·rintro(e|hd')
  ·omega
  ·exact s.new b hb hd hd'
def pY(suf:List Nat)(listed:Array Bool)(i:Nat):Prop:=listed.getD i true=false∧i∉suf
structure Inv(P:Program)(ops:Array Oper)(f0:aI)(H0:AH)(w0:World)(ds:List dN)(r:Option AV)(env':List AV)(H':AH)(suf:List Nat)(chk:List lr)(env:List AV)(H:AH)(iu:Nat→Option Nat)(listed:Array Bool)(f:aI)(dT:List AV)(a:Act)(w:World):Prop where
 tr:Tr P ops suf chk env H r env' H'
 step:Step f0 H0 w0 f H w
 ar:AR P f dT a
 dr:DR f ds a.defers
 agree:∀t,(∃i,pY suf listed i∧jI ops i=some t)∨dT[t]? = env[t]?
 len:dT.length=env.length
 pend:∀i,pY suf listed i→∃o,ops[i]? = some o∧PF P ops f H0.n iu chk env H i o
 Nb:∀i,pY suf listed i→∀j∈suf,∀t,jI ops j=some t→(t∉ga ops i∧jI ops i≠some t)∨(gb ops j=true∧qn ops j i)
 late:∀i,pY suf listed i→gb ops i=false
 FK:∀i∈suf,listed.getD i true=false
 U3:suf.Nodup
 lin:Lin ops suf
 ssa:Pp ops suf
 inj:∀i j x,iu i=some x→iu j=some x→i=j
 Nc:∀i x,iu i=some x→x<H.n
theorem kr{ops:Array Oper}{i:Nat}{o:Oper}(h:ops[i]? = some o):jI ops i=o.dst:=by simp[jI,h]
theorem mu{ops:Array Oper}{i:Nat}{o:Oper}(h:ops[i]? = some o):ga ops i=o.looksAt ops:=by simp[ga,h]
section
variable {ops:Array Oper}{f0:aI}{H0:AH}{w0:World}{ds:List dN}{r:Option AV}{env':List AV}{H':AH}
theorem Inv.Di{i:Nat}{rest:List Nat}{chk:List lr}{env:List AV}{H:AH}{iu:Nat→Option Nat}{listed:Array Bool}{f:aI}{dT:List AV}{a:Act}{w:World}
  (I:Inv P ops f0 H0 w0 ds r env' H' (i::rest) chk env H iu listed f dT a w){o:Oper}(ho:ops[i]? = some o) (hla:gb ops i=false){v:AV}{oX:List lr}{H1:AH}{wD:Nat→Option Nat}
  (tr:Tr P ops rest oX (cz env o.dst v) H1 r env' H') (hpf:PF P ops f H0.n wD oX (cz env o.dst v) H1 i o) (hst:Step f0 H0 w0 f H1 w)
  (hold:∀p op,p≠i→PF P ops f H0.n iu chk (cz env o.dst v) H p op→PF P ops f H0.n wD oX (cz env o.dst v) H1 p op)
  (hinj:∀i j x,wD i=some x→wD j=some x→i=j) (ay2:∀i x,wD i=some x→x<H1.n) :
  Inv P ops f0 H0 w0 ds r env' H' rest oX (cz env o.dst v) H1 wD listed f dT a w:=by
 have qS:=List.nodup_cons.1 I.U3;have hpc:∀p,pY rest listed p→p=i∨(p≠i∧pY (i::rest) listed p):=λp hp=>by
  by_cases e:p=i
  ·exact .inl e
  ·exact .inr ⟨e,hp.1,λhm=>by rcases List.mem_cons.1 hm with h|h;exact e h;exact hp.2 h⟩
 refine⟨tr,hst,I.ar,I.dr,λt=>?_,by rw[fE];exact I.len,λp hp=>?_,λp hp j hj t ht=>?_,λp hp=>?_,λp hp=>I.FK p (by simp[hp]),qS.2,I.lin.2,I.ssa.2.2.2,hinj,ay2⟩
 ·by_cases e:o.dst=some t
  ·exact .inl ⟨i,⟨I.FK i (by simp),qS.1⟩,by rw[kr ho];exact e⟩
  ·rcases I.agree t with⟨p,hp,hd⟩|h
   ·exact .inl ⟨p,⟨hp.1,λh=>hp.2 (by simp[h])⟩,hd⟩
   ·exact .inr (by rw[nB e];exact h)
 ·rcases hpc p hp with rfl|⟨hne,hp⟩
  ·exact⟨o,ho,hpf⟩
  ·obtain⟨op,h1,h2⟩:=I.pend p hp;refine⟨op,h1,hold p op hne ?_⟩;have hn:=λt ht=>(I.Nb p hp i (by simp) t ht).resolve_right (λe=>by rw[hla]at e;cases e.1);rw[kr ho,kr h1,mu h1]at hn;have hs:Same ops op env (cz env o.dst v):=Same.put λt ht=>(hn t ht).1;have hv:∀{u:AV},kf op env u→kf op (cz env o.dst v) u:=λh=>h.put λt ht e=>(hn t e).2 ht;cases h2 with
   |skip hw h=>exact .skip (hw.same hs) (hv h)
   |look dy u hc hw hl hs1 h=>exact .look dy u hc (hw.same hs) (hl.same hs) (hs1.trans hs) (hv h)
   |still u hw hl h=>exact .still u (hw.same hs) (λH=>(hl H).same hs) (hv h)
   |lay id ob vf hid hw hl hat hown h0 hn hd h=>exact .lay id ob vf hid (hw.same hs) (hl.same hs) hat hown h0 hn hd (hv h)
 ·rcases hpc p hp with rfl|⟨_,hp⟩
  ·exact I.ssa.1 j hj t ht
  ·exact I.Nb p hp j (by simp[hj]) t ht
 ·rcases hpc p hp with rfl|⟨_,hp⟩
  ·exact hla
  ·exact I.late p hp
def auM(P:Program)(ops:Array Oper)(suf:List Nat)(chk:List lr)(env:List AV)(H:AH)(r:Option AV)(env':List AV)(H':AH):Prop:=
 (suf=[]∧r=none∧env=env'∧H=H')∨
 (∃i o rest v H1,suf=i::rest∧ops[i]? = some o∧gF ops i=true∧fx P ops o env true∧BY P ops o env H v H1∧(H1=H∨∀x∈chk,qn ops i x.1∨iN P ops x.2.1 x.2.2.1 x.2.2.2 H1)∧Tr P ops rest chk (cz env o.dst v) H1 r env' H')∨
 (∃i o rest v H1,suf=i::rest∧ops[i]? = some o∧gF ops i=true∧fx P ops o env true∧Oc P ops o env H v H1∧r=some v∧env=env'∧H1=H')
theorem Inv.agk:∀{suf:List Nat}{chk:List lr}{env:List AV}{H:AH}{iu:Nat→Option Nat}{listed:Array Bool}{f:aI}{dT:List AV}{a:Act}{w:World},
  Inv P ops f0 H0 w0 ds r env' H' suf chk env H iu listed f dT a w→∃FL oX dy H1 wD,Inv P ops f0 H0 w0 ds r env' H' FL oX dy H1 wD listed f dT a w∧auM P ops FL oX dy H1 r env' H':=by
 intro suf
 induction suf with
 |nil=>
  intro chk env H iu listed f dT a w I;have h:=I.tr;refine⟨[],chk,env,H,iu,I,.inl ?_⟩;cases h;exact⟨rfl,rfl,rfl,rfl⟩
 |cons i rest ih=>
  intro chk env H iu listed f dT a w I;have h:=I.tr;cases h with
  |skip ho hla hw hr=>
   rename_i o;have hs:Same ops o env (cz env o.dst dY):=Same.put λt ht=>by
    have:=I.ssa.2.2.1 t (by rw[kr ho];exact ht);rw[mu ho]at this;exact this
   exact ih (I.Di ho hla hr (.skip (hw.same hs) (kf.self o env dY)) I.step (λ_ _ _ h=>h) I.inj I.Nc)
  |look v ho hla hw hl hr=>
   rename_i o;have hs:Same ops o env (cz env o.dst v):=Same.put λt ht=>by
    have:=I.ssa.2.2.1 t (by rw[kr ho];exact ht);rw[mu ho]at this;exact this
   refine ih (I.Di ho hla hr (.look env v (by simp) (hw.same hs) (hl.same hs) hs (kf.self o env v)) I.step (λp op _ h=>?_) I.inj I.Nc);cases h with
   |skip hw h=>exact .skip hw h
   |look dy u hc hw hl hs1 h=>exact .look dy u (by simp[hc]) hw hl hs1 h
   |still u hw hl h=>exact .still u hw hl h
   |lay id ob vf hid hw hl hat hown h0 hn hd h=>exact .lay id ob vf hid hw hl hat hown h0 hn hd h
  |still v ho hla hw hl hr=>
   rename_i o;have hs:Same ops o env (cz env o.dst v):=Same.put λt ht=>by
    have:=I.ssa.2.2.1 t (by rw[kr ho];exact ht);rw[mu ho]at this;exact this
   exact ih (I.Di ho hla hr (.still v (hw.same hs) (λH=>(hl H).same hs) (kf.self o env v)) I.step (λ_ _ _ h=>h) I.inj I.Nc)
  |lay ob vf H1 ho hla hw hn hnew hold Dc hown hl hr=>
   rename_i o;have hs:Same ops o env (cz env o.dst (vf H.n)):=Same.put λt ht=>by
    have:=I.ssa.2.2.1 t (by rw[kr ho];exact ht);rw[mu ho]at this;exact this
   have hst:Step f0 H0 w0 f H1 w:=I.step.ahead (by simp[hn]) (λb hb=>by rw[AH.bN,AH.bN,hold b (by simp at hb;omega)]) (λb ha hb=>by
    by_cases e:b=H.n
    ·subst e;rw[AH.bN,hnew,hown]at hb;cases hb
    ·rw[AH.bN,AH.bN,hold b e])
   have hd:¬f.dom H.n:=fK.fresh I.step.rel;refine ih (I.Di (wD:=λk=>if k=i then some H.n else iu k) ho hla hr (.lay H.n ob vf (by simp) (hw.same hs) (hl.same hs) (by rw[hnew]) hown (by have:=I.step.n;simpa using this) (by omega) hd (kf.self o env _)) hst (λp op hne h=>?_) (λx y z hx hy=>?_) (λx z hx=>?_))
   ·cases h with
    |skip hw h=>exact .skip hw h
    |look dy u hc hw hl hs1 h=>exact .look dy u hc hw (hl.more Dc hold) hs1 h
    |still u hw hl h=>exact .still u hw hl h
    |lay id ob vf hid hw hl hat hown h0 hn' hd h=>exact .lay id ob vf (by simp[hne,hid]) hw hl (by rw[hold id (by omega)];exact hat) hown h0 (by omega) hd h
   ·by_cases e1:x=i<;>by_cases e2:y=i
    ·rw[e1,e2]
    ·simp only[e1,e2,if_true,if_false,Option.some.injEq]at hx hy;have:=I.Nc y z hy;omega
    ·simp only[e1,e2,if_true,if_false,Option.some.injEq]at hx hy;have:=I.Nc x z hx;omega
    ·simp only[e1,e2,if_false]at hx hy;exact I.inj x y z hx hy
   ·by_cases e1:x=i
    ·simp only[e1,if_true,Option.some.injEq]at hx;omega
    ·simp only[e1,if_false]at hx;have:=I.Nc x z hx;omega
  |turn v H1 ho ht hw hl hc hr=>exact⟨_,_,_,_,iu,I,.inr (.inl ⟨i,_,rest,v,H1,rfl,ho,ht,hw,hl,hc,hr⟩)⟩
  |cj v H1 ho ht hw hl=>exact⟨_,_,_,_,iu,I,.inr (.inr ⟨i,_,rest,v,_,rfl,ho,ht,hw,hl,rfl,rfl,rfl⟩)⟩
end
end
section
variable {P:Program}
theorem wE{l:Array Bool}{i:Nat}(h:l.getD i false=true):l.getD i true=true:=by
 rcases Nat.lt_or_ge i l.size with hl|hl
 ·simpa[Array.getD_eq_getD_getElem?,Array.getElem?_eq_getElem hl]using h
 ·simp[Array.getD_eq_getD_getElem?,Array.getElem?_eq_none hl]at h
theorem getD_in{l:Array Bool}{i:Nat}(hl:i<l.size)(h:l.getD i true≠false):l.getD i false=true:=by
 simpa[Array.getD_eq_getD_getElem?,Array.getElem?_eq_getElem hl]using h
theorem BA(l:Array Bool)(i:Nat):(l.setIfInBounds i true).getD i true=true:=by
 rcases Nat.lt_or_ge i l.size with hl|hl
 ·simp[Array.getD_eq_getD_getElem?,Array.getElem?_setIfInBounds_self_of_lt hl]
 ·simp[Array.getD_eq_getD_getElem?,Array.getElem?_eq_none (show(l.setIfInBounds i true).size≤i by simpa using hl)]
theorem pY.back{suf:List Nat}{l:Array Bool}{i p:Nat}(h:pY suf (l.setIfInBounds i true) p):p≠i∧l.getD p true=false:=by
 have hne:p≠i:=λe=>by subst e;have:=h.1;rw[BA]at this;cases this
 exact⟨hne,by have:=h.1;rwa [getD_set_ne true (Ne.symm hne)]at this⟩
def mP(ops:Array Oper)(env:List AV):List AV:=ops.toList.foldl (λe o=>cz e o.dst .cH) env
theorem aph:∀(l:List Oper) (e1 e2:List AV),e1.length=e2.length→(∀t,(∃o∈l,o.dst=some t)∨e1[t]? = e2[t]?)→l.foldl (λe o=>cz e o.dst .cH) e1=l.foldl (λe o=>cz e o.dst .cH) e2
 |[],e1,e2,_,h=>List.ext_getElem? λt=>(h t).resolve_left (by simp)
 |o::l,e1,e2,hl,h=>by
  refine aph l _ _ (by rw[fE,fE,hl]) λt=>?_;show _∨(cz e1 o.dst .cH)[t]? = (cz e2 o.dst .cH)[t]?;by_cases e:o.dst=some t
  ·right;rw[e];rcases Nat.lt_or_ge t e1.length with ht|ht
   ·rw[qp ht,qp (by rw[←hl];exact ht)]
   ·rw[List.getElem?_eq_none (by rw[fE];exact ht),List.getElem?_eq_none (by rw[fE,←hl];exact ht)]
  ·rcases h t with⟨o',ho',hd⟩|h
   ·rcases List.mem_cons.1 ho' with rfl|ho'
    ·exact absurd hd e
    ·exact .inl ⟨o',ho',hd⟩
   ·right;rw[nB e,nB e,h]
theorem VL.cH{f:aI}:∀{as:List AV}{vs:List Value},VL f as vs→∀t,VL f (as.set t .cH) vs
 |_,_,.nil,t=>.nil
 |_,_,.cons a v as vs h1 h2,0=>.cons _ _ _ _ (.cH _) h2
 |_,_,.cons a v as vs h1 h2,t+1=>.cons _ _ _ _ h1 (VL.cH h2 t)
theorem AR.cH{f:aI}{env:List AV}{a:Act}(h:AR P f env a)(ops:Array Oper):AR P f (mP ops env) a:=by
 refine⟨?_,h.glob⟩;unfold mP;generalize ops.toList=l;have:=h.tmps;clear h
 induction l generalizing env with
 |nil=>exact this
 |cons o l ih=>
  refine ih ?_;show VL f (cz env o.dst .cH) _;cases o.dst with
  |none=>exact this
  |some t=>exact this.cH t
section
variable {ops:Array Oper}{f0:aI}{H0:AH}{w0:World}{ds:List dN}{r:Option AV}{env':List AV}{H':AH}
theorem qT{listed:Array Bool}(down:∀i j,listed.getD i false=true→j∈fD ops i→listed.getD j false=true){i j:Nat}(hd:qn ops i j):(∀k∈fD ops i,listed.getD k false=true)→listed.getD j false=true:=by
 induction hd with
 |edge h=>exact λhr=>hr _ h
 |step h _ ih=>exact λhr=>ih λk hk=>down _ k (hr _ h) hk
variable {suf:List Nat}{chk:List lr}{env:List AV}{H:AH}{iu:Nat→Option Nat}{listed:Array Bool}{f:aI}{dT:List AV}{a:Act}{w:World}
theorem Inv.same(I:Inv P ops f0 H0 w0 ds r env' H' suf chk env H iu listed f dT a w)(yT:∀i j t,i<ops.size→jI ops j=some t→t∈ga ops i→qn ops i j∨gb ops j=true)
  (down:∀i j,listed.getD i false=true→j∈fD ops i→listed.getD j false=true){i:Nat}{o:Oper}(ho:ops[i]? = some o) (hr:∀k∈fD ops i,listed.getD k false=true):Same ops o env dT:=λt ht=>by
 rcases I.agree t with⟨p,hp,hd⟩|h
 ·have:=qT down ((yT i p t (Array.getElem?_eq_some_iff.1 ho).1 hd (by rw[mu ho];exact ht)).resolve_right (by rw[I.late p hp];simp)) hr;have:=wE this;rw[hp.1]at this;cases this
 ·exact h
theorem agl{o:Oper}{v:AV}{t:Tmp}(hl:dT.length=env.length)(h:o.dst=some t)(hv:kf o env v):(cz dT o.dst v)[t]? = env[t]?:=by
 rw[h];rcases Nat.lt_or_ge t env.length with ht|ht
 ·rw[qp (by rw[hl];exact ht),hv t h ht]
 ·rw[List.getElem?_eq_none (by rw[fE,hl];exact ht),List.getElem?_eq_none ht]
theorem Inv.Od(I:Inv P ops f0 H0 w0 ds r env' H' suf chk env H iu listed f dT a w){i:Nat}(hi:pY suf listed i){o:Oper}(ho:ops[i]? = some o){f':aI}{w':World}(hle:f.le f')(hst:Step f0 H0 w0 f' H w'){v:AV}{u:Value}(hu:VR f' v u)(hv:kf o env v)
  (hdom:∀p id,p≠i→iu p=some id→¬f.dom id→¬f'.dom id):Inv P ops f0 H0 w0 ds r env' H' suf chk env H iu (listed.setIfInBounds i true) f' (cz dT o.dst v) (a.put o.dst u) w':=by
 have hb:∀p,pY suf (listed.setIfInBounds i true) p→p≠i∧pY suf listed p:=λp hp=>⟨hp.back.1,hp.back.2,hp.2⟩
 refine⟨I.tr,hst,(I.ar.up hle).put o.dst hu,by rw[put_defers];exact I.dr.up hle,λt=>?_,by rw[fE];exact I.len,λp hp=>?_,λp hp=>I.Nb p (hb p hp).2,λp hp=>I.late p (hb p hp).2,λp hp=>?_,I.U3,I.lin,I.ssa,I.inj,I.Nc⟩
 ·by_cases e:o.dst=some t
  ·exact .inr (agl I.len e hv)
  ·rw[nB e];rcases I.agree t with⟨p,hp,hd⟩|h
   ·have hne:p≠i:=λe'=>by subst e';rw[kr ho]at hd;exact e hd
    exact .inl ⟨p,⟨by rw[getD_set_ne true (Ne.symm hne)];exact hp.1,hp.2⟩,hd⟩
   ·exact .inr h
 ·obtain⟨hne,hp⟩:=hb p hp;obtain⟨op,h1,h2⟩:=I.pend p hp;refine⟨op,h1,?_⟩;cases h2 with
  |skip hw h=>exact .skip hw h
  |look dy u hc hw hl hs1 h=>exact .look dy u hc hw hl hs1 h
  |still u hw hl h=>exact .still u hw hl h
  |lay id ob vf hid hw hl hat hown h0 hn hd h=>exact .lay id ob vf hid hw hl hat hown h0 hn (hdom p id hne hid hd) h
 ·have hne:i≠p:=λe=>hi.2 (e ▸ hp);rw[getD_set_ne true hne];exact I.FK p hp
theorem Inv.axW{i:Nat}{rest:List Nat}(I:Inv P ops f0 H0 w0 ds r env' H' (i::rest) chk env H iu listed f dT a w){o:Oper}(ho:ops[i]? = some o)
  (down:∀i j,listed.getD i false=true→j∈fD ops i→listed.getD j false=true) (hrd:∀k∈fD ops i,listed.getD k false=true)
  {v:AV}{H1:AH}(hc:H1=H∨∀x∈chk,qn ops i x.1∨iN P ops x.2.1 x.2.2.1 x.2.2.2 H1) (tr:Tr P ops rest chk (cz env o.dst v) H1 r env' H'){f':aI}{w':World}(s:Step f H w f' H1 w'){u:Value}(hu:VR f' v u) :
  Inv P ops f0 H0 w0 ds r env' H' rest chk (cz env o.dst v) H1 iu (listed.setIfInBounds i true) f' (cz dT o.dst v) (a.put o.dst u) w':=by
 have qS:=List.nodup_cons.1 I.U3;have hb:∀p,pY rest (listed.setIfInBounds i true) p→p≠i∧pY (i::rest) listed p:=λp hp=>
  ⟨hp.back.1,hp.back.2,λhm=>by rcases List.mem_cons.1 hm with h|h;exact hp.back.1 h;exact hp.2 h⟩
 refine⟨tr,gn.trans I.step s,(I.ar.up s.le).put o.dst hu,by rw[put_defers];exact I.dr.up s.le,λt=>?_,by rw[fE,fE];exact I.len,λp hp=>?_,λp hp j hj=>I.Nb p (hb p hp).2 j (by simp[hj]),λp hp=>I.late p (hb p hp).2,λp hp=>?_,qS.2,I.lin.2,I.ssa.2.2.2,I.inj,λx y h=>Nat.lt_of_lt_of_le (I.Nc x y h) s.n⟩
 ·by_cases e:o.dst=some t
  ·right;rw[e];rcases Nat.lt_or_ge t env.length with ht|ht
   ·rw[qp ht,qp (by rw[I.len];exact ht)]
   ·rw[List.getElem?_eq_none (by rw[fE,I.len];exact ht),List.getElem?_eq_none (by rw[fE];exact ht)]
  ·rw[nB e,nB e];rcases I.agree t with⟨p,hp,hd⟩|h
   ·have hne:p≠i:=λe'=>hp.2 (by simp[e']);exact .inl ⟨p,⟨by rw[getD_set_ne true (Ne.symm hne)];exact hp.1,λh=>hp.2 (by simp[h])⟩,hd⟩
   ·exact .inr h
 ·obtain⟨hne,hp⟩:=hb p hp;obtain⟨op,h1,h2⟩:=I.pend p hp;refine⟨op,h1,?_⟩;have hn:=λt ht=>(I.Nb p hp i (by simp) t ht).resolve_right (λe=>by
   have:=wE (qT down e.2 hrd);rw[hp.1]at this;cases this)
  rw[kr ho,kr h1,mu h1]at hn;have hs:Same ops op env (cz env o.dst v):=Same.put λt ht=>(hn t ht).1;have hv:∀{u:AV},kf op env u→kf op (cz env o.dst v) u:=λh=>h.put λt ht e=>(hn t e).2 ht;cases h2 with
  |skip hw h=>exact .skip (hw.same hs) (hv h)
  |look dy u hcm hw hl hs1 h=>
   rcases hc with e|hc
   ·subst e;exact .look dy u hcm (hw.same hs) (hl.same hs) (hs1.trans hs) (hv h)
   rcases hc _ hcm with hd|hl'
   ·have:=wE (qT down hd hrd);have hp1:=hp.1;simp only at this;rw[hp1]at this;cases this
   ·exact .look dy u hcm (hw.same hs) ((iN.same hl' hs1).same hs) (hs1.trans hs) (hv h)
  |still u hw hl h=>exact .still u (hw.same hs) (λH=>(hl H).same hs) (hv h)
  |lay id ob vf hid hw hl hat hown h0 hn hd h=>
   refine .lay id ob vf hid (hw.same hs) (hl.same hs) ?_ hown h0 (Nat.lt_of_lt_of_le hn s.n) (s.new id hn hd) (hv h);have:=s.rest id hn hd;rw[AH.bN,AH.bN]at this;rw[this];exact hat
 ·have hne:i≠p:=λe=>qS.1 (e ▸ hp);rw[getD_set_ne true hne];exact I.FK p (by simp[hp])
theorem agm(I:Inv P ops f0 H0 w0 ds r env' H' suf chk env H iu listed f dT a w)(yT:∀i j t,i<ops.size→jI ops j=some t→t∈ga ops i→qn ops i j∨gb ops j=true)
  (down:∀i j,listed.getD i false=true→j∈fD ops i→listed.getD j false=true){i:Nat}(hi:pY suf listed i) (hr:∀k∈fD ops i,listed.getD k false=true){Q:Exit→Act→World→Prop}{K:Act→World→Prop}
  (hK:∀f' api a' w',Inv P ops f0 H0 w0 ds r env' H' suf chk env H iu (listed.setIfInBounds i true) f' api a' w'→K a' w'):wpOp P ops Q i K a w:=by
 obtain⟨o,ho,hpf⟩:=I.pend i hi;have hS:=I.same yT down ho hr;unfold wpOp;simp only[ho];cases hpf with
 |skip hw h=>
  rw[if_neg (by rw[hw f a dT I.ar hS];simp)];exact hK f _ _ w (I.Od hi ho (.refl f) I.step (VR.undef f) h λ_ _ _ _ h=>h)
 |look dy v hc hw hl hs1 h=>
  rw[if_pos (hw f a dT I.ar hS)];obtain⟨u,h1,h2⟩:=hl f w a dT I.step.rel.toHRQ I.ar hS;exact .inl (kg h1 (hK f _ _ w (I.Od hi ho (.refl f) I.step h2 h λ_ _ _ _ h=>h)))
 |still v hw hl h=>
  rw[if_pos (hw f a dT I.ar hS)];obtain⟨u,h1,h2⟩:=hl H f w a dT I.step.rel.toHRQ I.ar hS;exact .inl (kg h1 (hK f _ _ w (I.Od hi ho (.refl f) I.step h2 h λ_ _ _ _ h=>h)))
 |lay id ob vf hid hw hl hat hown h0 hn hd h=>
  rw[if_pos (hw f a dT I.ar hS)];obtain⟨u,obj,h1,lim,h2⟩:=hl f w a dT I.ar hS;obtain⟨h3,h4⟩:=h2 id hd;refine .inl (kg h1 (hK _ _ _ _ (I.Od hi ho (f.qL hd w.heap.size 0 lim) (I.step.catch h0 hd hn (by rw[AH.bN,hat];exact h3)) h4 h λp id' hne ay3 hnd hd'=>?_)));rcases hd' with e|hd'
  ·subst e;exact hne (I.inj _ _ _ ay3 hid)
  ·exact hnd hd'
theorem py{i:Nat}{o:Oper}(ho:ops[i]? = some o){j:Nat}:j∈fD ops i↔∃e∈o.after,Region.binds .any e=true∧e.on=j:=by
 simp only[fD,ho,List.mem_map,List.mem_filter,Array.mem_toList_iff,and_assoc]
theorem Fi{i:Nat}{listed:Array Bool}(h:i∈Region.ready .any ops listed):listed.getD i true=false∧i<ops.size∧∀k∈fD ops i,listed.getD k false=true:=by
 obtain⟨h1,o,h2,h3⟩:=mem_ready.1 h;refine⟨h1,(Array.getElem?_eq_some_iff.1 h2).1,λk hk=>?_⟩;obtain⟨e,g1,g2,rfl⟩:=(py h2).1 hk;exact h3 e g1 g2
theorem GY{listed:Array Bool}(hs:listed.size=ops.size):∀(l seen:List Nat),(∀i∈l,i<ops.size)→Zd ops seen l→(∀j∈seen,listed.getD j false=true)→(∃i∈l,listed.getD i true=false)→∃i,i∈Region.ready .any ops listed
 |[],_,_,_,_,h=>by obtain⟨i,h,_⟩:=h;simp at h
 |i::l,seen,hl,ht,hse,h=>by
  by_cases e:listed.getD i true=false
  ·refine⟨i,mem_ready.2 ⟨e,?_⟩⟩;have hi:=hl i (by simp);refine⟨ops[i],Array.getElem?_eq_getElem hi,λx hx hb=>hse _ (ht.1 _ ((py (Array.getElem?_eq_getElem hi)).2 ⟨x,hx,hb,rfl⟩))⟩
  ·refine GY hs l (i::seen) (λj hj=>hl j (by simp[hj])) ht.2 (λj hj=>?_) ?_
   ·rcases List.mem_cons.1 hj with rfl|hj
    ·exact getD_in (by rw[hs];exact hl j (by simp)) e
    ·exact hse j hj
   ·obtain⟨j,hj,hu⟩:=h;rcases List.mem_cons.1 hj with rfl|hj
    ·exact absurd hu e
    ·exact⟨j,hj,hu⟩
structure Stat(ops:Array Oper)(order:List Nat):Prop where
 lt:∀i∈order,i<ops.size
 all:∀i,i<ops.size→i∈order
 ay4:Zd ops [] order
 U3:order.Nodup
 lin:Lin ops order
 ssa:Pp ops order
theorem Pp.yT:∀{l:List Nat},Pp ops l→∀i∈l,∀j∈l,∀t,jI ops j=some t→t∈ga ops i→qn ops i j∨gb ops j=true
 |[],_,i,hi,_,_,_,_,_=>by simp at hi
 |k::l,h,i,hi,j,hj,t,hd,hl=>by
  rcases List.mem_cons.1 hi with e1|h1<;>rcases List.mem_cons.1 hj with e2|h2
  ·subst e1;subst e2;exact absurd hl (h.2.2.1 t hd)
  ·subst e1;rcases h.1 j h2 t hd with g|g
   ·exact absurd hl g.1
   ·exact .inr g.1
  ·subst e2;exact .inl (h.2.1 i h1 t hd hl)
  ·exact Pp.yT h.2.2.2 i h1 j h2 t hd hl
def QOk(P:Program)(ops:Array Oper)(f0:aI)(H0:AH)(w0:World)(ds:List dN)(r:Option AV)(env':List AV)(H':AH)(Q:Exit→Act→World→Prop):Prop:=
 match r with|none=>∀a' w',nd P f0 H0 w0 .normal env' ds H' .normal a' w'→Q .normal a' w'|some v=>∀ch a' w',nd P f0 H0 w0 (.cj v) (mP ops env') ds H' (.panic ch) a' w'→Q (.panic ch) a' w'
theorem any_ok{order:List Nat}(S:Stat ops order){Q:Exit→Act→World→Prop}
  (hQ:QOk P ops f0 H0 w0 ds r env' H' Q) :
  ∀(fuel:Nat) (U:List Nat) (suf:List Nat) (chk:List lr) (env:List AV) (H:AH) (iu:Nat→Option Nat) (listed:Array Bool) (f:aI) (dT:List AV) (a:Act) (w:World),U.length=fuel→U.Nodup→(∀i,i∈U↔listed.getD i true=false)→listed.size=ops.size→
   (∀i j,listed.getD i false=true→j∈fD ops i→listed.getD j false=true)→Inv P ops f0 H0 w0 ds r env' H' suf chk env H iu listed f dT a w→wpAny P .any ops Q fuel listed a w:=by
 have yT:∀i j t,i<ops.size→jI ops j=some t→t∈ga ops i→qn ops i j∨gb ops j=true:=λi j t hi hd hl=>by
  have hj:j<ops.size:=by
   rcases Nat.lt_or_ge j ops.size with h|h
   ·exact h
   ·simp[jI,Array.getElem?_eq_none h]at hd
  exact S.ssa.yT i (S.all i hi) j (S.all j hj) t hd hl
 have done:∀(suf:List Nat) (chk:List lr) (env:List AV) (H:AH) (iu:Nat→Option Nat) (listed:Array Bool) (f:aI) (dT:List AV) (a:Act) (w:World),listed.size=ops.size→Region.ready .any ops listed=[]→Inv P ops f0 H0 w0 ds r env' H' suf chk env H iu listed f dT a w→Q .normal a w:=by
  intro suf chk env H iu listed f dT a w hs hr I;have hno:∀i,i<ops.size→listed.getD i true≠false:=λi hi e=>by
   obtain⟨k,hk⟩:=GY hs order [] S.lt S.ay4 (by simp) ⟨i,S.all i hi,e⟩;rw[hr]at hk;simp at hk
  have hin:∀i,listed.getD i true=false→i<ops.size:=λi h=>by
   rcases Nat.lt_or_ge i listed.size with hl|hl
   ·omega
   ·simp[Array.getD_eq_getD_getElem?,Array.getElem?_eq_none hl]at h
  obtain⟨FL,oX,dy,H1,wD,I1,hd⟩:=I.agk;have hs1:FL=[]:=by
   cases FL with
   |nil=>rfl
   |cons x l=>have:=I1.FK x (by simp);exact absurd this (hno x (hin x this))
  subst hs1;rcases hd with⟨_,rfl,rfl,rfl⟩|⟨i,o,rest,v,H2,h,_⟩|⟨i,o,rest,v,H2,h,_⟩
  ·have e:dT=dy:=List.ext_getElem? λt=>(I1.agree t).resolve_left λ⟨p,hp,_⟩=>hno p (hin p hp.1) hp.1;subst e;exact hQ a w ⟨f,I1.step,I1.ar,I1.dr,rfl⟩
  ·cases h
  ·cases h
 intro fuel
 induction fuel with
 |zero=>
  intro U suf chk env H iu listed f dT a w hU _ hm hs down I;have hU':U=[]:=List.eq_nil_of_length_eq_zero hU;have hr:Region.ready .any ops listed=[]:=by
   cases h:Region.ready .any ops listed with
   |nil=>rfl
   |cons x l=>
    have:=(hm x).2 (Fi (h ▸ List.mem_cons_self:x∈Region.ready .any ops listed)).1;rw[hU']at this;simp at this
  exact⟨hr,done suf chk env H iu listed f dT a w hs hr I⟩
 |succ fuel ih=>
  intro U suf chk env H iu listed f dT a w hU hUn hm hs down I;refine⟨λhr=>done suf chk env H iu listed f dT a w hs hr I,λi hi=>?_⟩;obtain⟨h1,h2,h3⟩:=Fi hi;have hgo:∀suf chk env H iu f dT a w,Inv P ops f0 H0 w0 ds r env' H' suf chk env H iu (listed.setIfInBounds i true) f dT a w→wpAny P .any ops Q fuel (listed.setIfInBounds i true) a w:=λsuf chk env H iu f dT a w I=>by
   refine ih (U.erase i) suf chk env H iu _ f dT a w ?_ (hUn.erase i) (λk=>?_) (by simpa using hs) (λx y hx hy=>?_) I
   ·rw[List.length_erase_of_mem ((hm i).2 h1),hU];rfl
   ·rw[hUn.mem_erase_iff,hm k];constructor
    ·rintro⟨g1,g2⟩;rw[getD_set_ne true (Ne.symm g1)];exact g2
    ·intro h;have hne:k≠i:=λe=>by subst e;rw[BA]at h;cases h
     exact⟨hne,by rwa [getD_set_ne true (Ne.symm hne)]at h⟩
   ·by_cases e:x=i
    ·subst e;exact getD_set_true (h3 y hy)
    ·rw[getD_set_ne false (Ne.symm e)]at hx;exact getD_set_true (down x y hx hy)
  obtain⟨FL,oX,dy,H1,wD,I1,hd⟩:=I.agk;by_cases hin:i∈FL
  ·rcases hd with⟨rfl,_⟩|⟨k,o,rest,v,H2,rfl,ho,ht,hw,hl,hc,tr⟩|⟨k,o,rest,v,H2,rfl,ho,ht,hw,hl,rfl,rfl,rfl⟩
   ·simp at hin
   ·have e:i=k:=by
     rcases List.mem_cons.1 hin with e|e
     ·exact e
     ·have:=wE (qT down (I1.lin.1 ht i e) h3);rw[I1.FK k (by simp)]at this;cases this
    subst e;have hS:=I1.same yT down ho h3;unfold wpOp;simp only[ho];rw[if_pos (hw f a dT I1.ar hS)];exact .inl (hl f w a dT I1.step.rel I1.ar hS _ _ λf' w' u s hu=>hgo _ _ _ _ _ _ _ _ _ (I1.axW ho down h3 hc tr s hu))
   ·have e:i=k:=by
     rcases List.mem_cons.1 hin with e|e
     ·exact e
     ·have:=wE (qT down (I1.lin.1 ht i e) h3);rw[I1.FK k (by simp)]at this;cases this
    subst e;have hS:=I1.same yT down ho h3;unfold wpOp;simp only[ho];rw[if_pos (hw f a dT I1.ar hS)];refine .inl (hl f w a dT I1.step.rel I1.ar hS _ _ λf' w' ch s hp=>hQ ch a w' ⟨f',gn.trans I1.step s,?_,I1.dr.up s.le,ch,rfl,hp⟩);have hpo:mP ops dT=mP ops dy:=aph _ _ _ I1.len λt=>by
     rcases I1.agree t with⟨p,hp,hd⟩|h
     ·obtain⟨op,g1,_⟩:=I1.pend p hp;rw[kr g1]at hd;exact .inl ⟨op,by rw[Array.mem_toList_iff];exact Array.mem_of_getElem? g1,hd⟩
     ·exact .inr h
    rw[←hpo];exact(I1.ar.up s.le).cH ops
  ·exact agm I1 yT down ⟨h1,hin⟩ h3 λf' api a' w' I2=>hgo _ _ _ _ _ _ _ _ _ I2
end
end
section
variable {P:Program}
def agn(ops:Array Oper)(seen:List Nat)(i:Nat):Bool:=(fD ops i).all λj=>seen.contains j
def JF(ops:Array Oper):Nat→List Nat→List Nat→List Nat
 |0,_,_=>[]
 |n+1,rem,seen=>
  match rem.find? λi=>agn ops seen i && !(gF ops i)with
  |some i=>i::JF ops n (rem.erase i) (i::seen)
  |none=>match rem.find? λi=>agn ops seen i with
   |some i=>i::JF ops n (rem.erase i) (i::seen)
   |none=>[]
def canon(ops:Array Oper):List Nat:=JF ops ops.size (List.range ops.size) []
def zg(ops:Array Oper)(order:List Nat)(ms:List (Nat×List Nat)):Bool:=
 (order.all λi=>Nat.blt i ops.size)&&((List.range ops.size).all λi=>order.contains i)&&Ob ops [] order&&nodupB order&&Ze ops ms order&&Zf ops ms order
theorem AT{ops:Array Oper}{order:List Nat}{ms:List (Nat×List Nat)}(hm:mW ops ms)(h:zg ops order ms=true):Stat ops order:=by
 simp only[zg,Bool.and_eq_true,List.all_eq_true]at h;obtain⟨⟨⟨⟨⟨h1,h2⟩,h3⟩,h4⟩,h5⟩,h6⟩:=h;exact⟨λi hi=>Nat.le_of_ble_eq_true (h1 i hi),λi hi=>by simpa using h2 i (List.mem_range.2 hi),Pq h3,Na h4,U1 hm h5,U2 hm h6⟩
theorem mW.nil(ops:Array Oper):mW ops []:=λi j h=>by simp[uS]at h
def Pr(ops:Array Oper):List (Nat×List Nat):=masks ops (canon ops) []
theorem va{ops:Array Oper}{order:List Nat}(S:Stat ops order){env:List AV}{ds:List dN}{H:AH}{r:Option AV}{env':List AV}{H':AH}(tr:Tr P ops order [] env H r env' H')
  {f:aI}{w:World}{a:Act}(hr:HR f H w) (ha:AR P f env a) (hd:DR f ds a.defers){Q:Exit→Act→World→Prop}
  (hQ:QOk P ops f H w ds r env' H' Q) :
  wpAny P .any ops Q ops.size (Array.replicate ops.size false) a { w with drawn:=w.drawn+1 }:=by
 have hsz:(Array.replicate ops.size false).size=ops.size:=by simp
 have hget:∀i,(Array.replicate ops.size false).getD i true=false↔i<ops.size:=λi=>by
  rcases Nat.lt_or_ge i ops.size with hl|hl
  ·simp[Array.getD_eq_getD_getElem?,hl]
  ·simp[Array.getD_eq_getD_getElem?,hl]
 have hno:∀i,(Array.replicate ops.size false).getD i false=false:=λi=>by
  simp only[Array.getD_eq_getD_getElem?,Array.getElem?_replicate];split<;>rfl
 have hp:∀i,¬pY order (Array.replicate ops.size false) i:=λi h=>h.2 (S.all i ((hget i).1 h.1));refine any_ok S hQ ops.size (List.range ops.size) order [] env H (λ_=>none) _ f env a _ (by simp) List.nodup_range (λi=>by rw[hget,List.mem_range]) hsz (λi j h=>by rw[hno]at h;cases h) ?_;exact⟨tr,Step.drew hr (w.drawn+1),ha,hd,λt=>.inr rfl,rfl,λi h=>absurd h (hp i),λi h=>absurd h (hp i),λi h=>absurd h (hp i),λi hi=>(hget i).2 (S.lt i hi),S.U3,S.lin,S.ssa,λ_ _ _ h=>(by cases h),λ_ _ h=>(by cases h)⟩
def dO(ops:Array Oper)(j i:Nat):Array Oper:=ops.modify j λo=>{ o with after:=o.after.push ⟨i,.data⟩ }
section
variable (ops:Array Oper)(j i:Nat)
theorem gd(k:Nat):(dO ops j i)[k]? = if j=k then (ops[k]?).map (λo=>{ o with after:=o.after.push ⟨i,.data⟩ }) else ops[k]?:=by
 unfold dO;rw[Array.getElem?_modify]
theorem nC:(dO ops j i).size=ops.size:=by simp[dO]
theorem FM(k:Nat):((dO ops j i)[k]?).bind Oper.dst=(ops[k]?).bind Oper.dst:=by
 rw[gd];split
 ·cases ops[k]?<;>rfl
 ·rfl
theorem GZ(o:Oper):o.looksAt (dO ops j i)=o.looksAt ops:=by
 unfold Oper.looksAt;cases o.guard with
 |none=>rfl
 |some g=>simp only[FM]
theorem TZ(k:Nat):ga (dO ops j i) k=ga ops k:=by
 unfold ga;rw[gd];by_cases e:j=k
 ·rw[if_pos e];cases ops[k]? with
  |none=>rfl
  |some o=>exact GZ ops j i o
 ·rw[if_neg e];cases ops[k]? with
  |none=>rfl
  |some o=>exact GZ ops j i o
theorem Zh(k:Nat):jI (dO ops j i) k=jI ops k:=FM ops j i k
theorem G0{a b:Nat}(h:b∈fD ops a):b∈fD (dO ops j i) a:=by
 cases ha:ops[a]? with
 |none=>simp[fD,ha]at h
 |some o=>
  obtain⟨e,h1,h2,h3⟩:=(py ha).1 h;by_cases hj:j=a
  ·have:=gd ops j i a;rw[if_pos hj,ha]at this;exact(py this).2 ⟨e,by simp[h1],h2,h3⟩
  ·have:=gd ops j i a;rw[if_neg hj,ha]at this;exact(py this).2 ⟨e,h1,h2,h3⟩
theorem tx:Like ops (dO ops j i) where
 dst:=FM ops j i
 dep:=λh=>by
  induction h with
  |edge h=>exact .edge (G0 ops j i h)
  |step h _ ih=>exact .step (G0 ops j i h) ih
 late:=λk=>by
  unfold gb;rw[gd,nC];simp only[TZ,Zh];by_cases e:j=k
  ·rw[if_pos e];cases ops[k]? with
   |none=>rfl
   |some o=>rfl
  ·rw[if_neg e]
theorem ago{k:Nat}{K:Act→World→Prop}{Q:Exit→Act→World→Prop}{a:Act}{w:World}(h:wpOp P (dO ops j i) Q k K a w):wpOp P ops Q k K a w:=by
 unfold wpOp at h ⊢;rw[gd,(tx ops j i).yielded]at h;by_cases e:j=k
 ·rw[if_pos e]at h;cases hk:ops[k]? with
  |none=>rw[hk]at h;exact h
  |some o=>rw[hk]at h;exact h
 ·rw[if_neg e]at h;exact h
theorem Zi{k:Nat}{listed:Array Bool}(h:k∈Region.ready .any ops listed)(hj:k=j→listed.getD i false=true):k∈Region.ready .any (dO ops j i) listed:=by
 obtain⟨h1,o,h2,h3⟩:=mem_ready.1 h;refine mem_ready.2 ⟨h1,?_⟩;have:=gd ops j i k;by_cases e:j=k
 ·rw[if_pos e,h2]at this;refine⟨_,this,λe' he hb=>?_⟩;rcases Array.mem_push.1 he with he|rfl
  ·exact h3 e' he hb
  ·exact hj e.symm
 ·rw[if_neg e,h2]at this;exact⟨_,this,h3⟩
theorem JG{listed:Array Bool}(h:Region.ready .any ops listed=[]):Region.ready .any (dO ops j i) listed=[]:=by
 cases hr:Region.ready .any (dO ops j i) listed with
 |nil=>rfl
 |cons k l=>
  obtain⟨h1,o,h2,h3⟩:=mem_ready.1 (hr ▸ List.mem_cons_self:k∈Region.ready .any (dO ops j i) listed);have:=gd ops j i k;rw[h2]at this;have hk:k∈Region.ready .any ops listed:=by
   refine mem_ready.2 ⟨h1,?_⟩;split at this
   ·cases ho:ops[k]? with
    |none=>rw[ho]at this;cases this
    |some o'=>
     rw[ho]at this;cases this;exact⟨o',rfl,λe he hb=>h3 e (by simp[he]) hb⟩
   ·exact⟨o,this.symm,h3⟩
  rw[h]at hk;simp at hk
end
inductive nD(ops:Array Oper):Nat→Array Bool→List Nat→Prop
 |zero (l:Array Bool):nD ops 0 l []
 |nil (n:Nat) (l:Array Bool):Region.ready .any ops l=[]→nD ops (n+1) l []
 |cons (n:Nat) (l:Array Bool) (k:Nat) (L:List Nat):k∈Region.ready .any ops l→nD ops n (l.setIfInBounds k true) L→nD ops (n+1) l (k::L)
theorem nD.wp{ops:Array Oper}{Q:Exit→Act→World→Prop}{n:Nat}{l:Array Bool}{L:List Nat}(h:nD ops n l L):∀a w,wpAny P .any ops Q n l a w→wpOps P ops Q L a w:=by
 induction h with
 |zero l=>intro a w h;simpa[wpOps]using h.2
 |nil n l hr=>intro a w h;simpa[wpOps]using h.1 hr
 |cons n l k L hk _ ih=>intro a w h;rw[wpOps_cons];exact wpOp_mono (λa w=>ih a w) (h.2 k hk)
theorem Nd{ops:Array Oper}:∀(n t:Nat) (l:Array Bool),nD ops n l (Region.linearise.go .any ops n t l []):=by
 intro n
 induction n with
 |zero=>intro t l;simp only[Region.linearise.go,List.reverse_nil];exact .zero l
 |succ n ih=>
  intro t l;simp only[Region.linearise.go]
  change nD ops (n+1) l (match (Region.ready .any ops l)[t%(Region.ready .any ops l).length]? with
   |some i=>Region.linearise.go .any ops n (t/(Region.ready .any ops l).length) (l.setIfInBounds i true) [i]
   |none=>[].reverse)
  cases hi:(Region.ready .any ops l)[t%(Region.ready .any ops l).length]? with
  |none=>
   refine .nil n l ?_;cases hr:Region.ready .any ops l with
   |nil=>rfl
   |cons x xs=>
    rw[hr]at hi;have hlt:t%(x::xs).length<(x::xs).length:=Nat.mod_lt _ (by simp);simp at hi;simp at hlt;omega
  |some i=>
   simp only[];rw[linearise_go_acc,List.reverse_singleton,List.singleton_append];exact .cons n l i _ (List.mem_of_getElem? hi) (ih _ _)
theorem nD.dO{ops:Array Oper}{j i:Nat}(hi:i<ops.size){n:Nat}{l:Array Bool}{L:List Nat}(h:nD ops n l L):l.size=ops.size→(∀L1 L2,L=L1++j::L2→l.getD i false=true∨i∈L1)→nD (Go.X.dO ops j i) n l L:=by
 induction h with
 |zero l=>intro _ _;exact .zero l
 |nil n l hr=>intro _ _;exact .nil n l (JG ops j i hr)
 |cons n l k L hk _ ih=>
  intro hs hb;refine .cons n l k L (Zi ops j i hk λe=>?_) (ih (by simpa using hs) λL1 L2 e=>?_)
  ·exact(hb [] L (by rw[e];rfl)).resolve_right (by simp)
  ·rcases hb (k::L1) L2 (by rw[e];rfl)with g|g
   ·exact .inl (getD_set_true g)
   ·rcases List.mem_cons.1 g with rfl|g
    ·left;simp[Array.getD_eq_getD_getElem?,show i<l.size by omega]
    ·exact .inr g
theorem bef{i j:Nat}(hij:i≠j)(L:List Nat):(∀L1 L2,L=L1++j::L2→i∈L1)∨(∀L1 L2,L=L1++i::L2→j∈L1):=by
 induction L with
 |nil=>exact .inl λL1 L2 h=>by simp at h
 |cons k L ih=>
  by_cases e1:k=i
  ·subst e1;refine .inl λL1 L2 h=>?_;cases L1 with
   |nil=>simp at h;exact absurd h.1 hij
   |cons x L1=>simp at h;simp[h.1]
  ·by_cases e2:k=j
   ·subst e2;refine .inr λL1 L2 h=>?_;cases L1 with
    |nil=>simp at h;exact absurd h.1.symm hij
    |cons x L1=>simp at h;simp[h.1]
   ·refine ih.imp (λg L1 L2 h=>?_) (λg L1 L2 h=>?_)
    ·cases L1 with
     |nil=>simp at h;exact absurd h.1 e2
     |cons x L1=>simp at h;exact List.mem_cons_of_mem _ (g L1 L2 h.2)
    ·cases L1 with
     |nil=>simp at h;exact absurd h.1 e1
     |cons x L1=>simp at h;exact List.mem_cons_of_mem _ (g L1 L2 h.2)
theorem qU{ops:Array Oper}{j i:Nat}{Q:Exit→Act→World→Prop}:∀{L:List Nat}{a:Act}{w:World},wpOps P (dO ops j i) Q L a w→wpOps P ops Q L a w
 |[],a,w,h=>by simpa[wpOps]using h
 |k::L,a,w,h=>by
  rw[wpOps_cons]at h ⊢;exact ago ops j i (wpOp_mono (λa w h=>qU h) h)
def Ps(P:Program)(t1 t2:TypeId)(p q:AV)(x:Prop):Prop:=
 match P.info? t1,P.info? t2 with
 |some i1,some i2=>nY p λb o=>nY q λb' o'=>bT (!(Nat.beq b b')||(Nat.ble (Nat.add o i1.size) o'||Nat.ble (Nat.add o' i2.size) o)) x
 |_,_=>False
theorem T0{t1 t2:TypeId}{p v q u:AV}{H H1 cU H2 kL:AH}{x:Prop}(hx:Ps P t1 t2 p q x)(a:y8 P t1 p v H H1)(b:y8 P t2 q u H1 cU)(c:y8 P t2 q u H H2)(d:y8 P t1 p v H2 kL):x∧cU.sem=kL.sem:=by
 obtain⟨n1,b1,o1,i1,c1,m1,q1,c1',rfl,hi1,a1,a2,a3,a4,a5,a6⟩:=a;obtain⟨n2,b2,o2,i2,c2,m2,q2,c2',rfl,hi2,d1,d2,d3,d4,d5,d6⟩:=b;obtain⟨n3,b3,o3,i3,c3,m3,q3,c3',e,hi3,e1,e2,e3,e4,e5,e6⟩:=c;cases e;obtain⟨n4,b4,o4,i4,c4,m4,q4,c4',e,hi4,f1,f2,f3,f4,f5,f6⟩:=d;cases e;rw[hi2]at hi3;cases hi3;rw[hi1]at hi4;cases hi4;unfold Ps at hx;rw[hi1,hi2]at hx;obtain⟨hx,hx'⟩:=aD (show bT (!(Nat.beq b1 b2)||(Nat.ble (Nat.add o1 i1.size) o2||Nat.ble (Nat.add o2 i2.size) o1)) x from hx);refine⟨hx',?_⟩;have hn:cU.n=kL.n:=by omega
 have hob:∀b,(cU.at b).sem=(kL.at b).sem:=λb=>by
  by_cases hb:b1=b2
  ·subst hb;rw[Nat.beq_refl]at hx;have hd:o1+i1.size≤o2∨o2+i2.size≤o1:=by
    simp only[Bool.not_true,Bool.false_or,Bool.or_eq_true]at hx;exact hx.imp Nat.le_of_ble_eq_true Nat.le_of_ble_eq_true
   by_cases hbb:b=b1
   ·subst hbb;rw[a2]at d1;cases d1;rw[a1]at e1;cases e1;rw[e2]at f1;cases f1;rw[d2,f2];simp only[dM.sem,gL.cells.injEq,and_true];funext k;by_cases k1:o1≤k∧k<o1+i1.size
    ·have hk:=f4 (k-o1) (by omega);have hk':=a4 (k-o1) (by omega);rw[show o1+(k-o1)=k by omega]at hk hk';rw[hk,d5 k (by omega),hk']
    ·by_cases k2:o2≤k∧k<o2+i2.size
     ·have hk:=d4 (k-o2) (by omega);have hk':=e4 (k-o2) (by omega);rw[show o2+(k-o2)=k by omega]at hk hk';rw[hk,f5 k (by omega),hk']
     ·rw[d5 k (by omega),a5 k (by omega),f5 k (by omega),e5 k (by omega)]
   ·rw[d6 b hbb,a6 b hbb,f6 b hbb,e6 b hbb]
  ·by_cases h1:b=b1
   ·subst h1;rw[d6 b hb,a2];rw[e6 b hb,a1]at f1;cases f1;rw[f2];simp only[dM.sem,gL.cells.injEq,and_true];funext k;by_cases k1:o1≤k∧k<o1+i1.size
    ·have hk:=f4 (k-o1) (by omega);have hk':=a4 (k-o1) (by omega);rw[show o1+(k-o1)=k by omega]at hk hk';rw[hk,hk']
    ·rw[a5 k (by omega),f5 k (by omega)]
   ·by_cases h2:b=b2
    ·subst h2;rw[f6 b (Ne.symm hb),e2];rw[a6 b (Ne.symm hb),e1]at d1;cases d1;rw[d2];simp only[dM.sem,gL.cells.injEq,and_true];funext k;by_cases k2:o2≤k∧k<o2+i2.size
     ·have hk:=d4 (k-o2) (by omega);have hk':=e4 (k-o2) (by omega);rw[show o2+(k-o2)=k by omega]at hk hk';rw[hk,hk']
     ·rw[d5 k (by omega),e5 k (by omega)]
    ·rw[d6 b h2,a6 b h1,f6 b h1,e6 b h2]
 unfold AH.sem;rw[hn];congr 1;funext b;exact hob b
def apj(o1 o2:Oper):Bool:=o1.dst.isNone&&o2.dst.isNone&&o1.guard.isNone&&o2.guard.isNone
def Dj(o:Oper)(k:TypeId→Operand→Operand→Prop):Prop:=match o.op with|.store t a x=>k t a x|_=>False
theorem Fj{o:Oper}{k:TypeId→Operand→Operand→Prop}(h:Dj o k):∃t a x,o.op=.store t a x∧k t a x:=by
 unfold Dj at h;split at h
 ·exact⟨_,_,_,by assumption,h⟩
 ·exact h.elim
def am7(o:Option Oper)(k:Oper→Prop):Prop:=match o with|some o=>k o|none=>False
theorem Pt{o:Option Oper}{k:Oper→Prop}(h:am7 o k):∃x,o=some x∧k x:=by
 cases o with
 |none=>exact h.elim
 |some x=>exact⟨x,rfl,h⟩
def pairT(P:Program)(ops aBf ops2:Array Oper)(ms1 ms2:List (Nat×List Nat))(s1 s2:Nat)(chk:List lr)(env:List AV)(H:AH)(k:AH→Prop):Prop:=
 am7 ops[s1]? λo1=>am7 ops[s2]? λo2=>bT (apj o1 o2) <| Dj o1 λt1 a1 v1=>Dj o2 λt2 a2 v2=>
  tu P t1 (fh P.globals.size env a1) (fh P.globals.size env v1) H λH1=>px P P.globals.size ms1 s1 H1 chk <|
  tu P t2 (fh P.globals.size env a2) (fh P.globals.size env v2) H1 λcU=>px P P.globals.size ms1 s2 cU chk <|
  tu P t2 (fh P.globals.size env a2) (fh P.globals.size env v2) H λH2=>px P P.globals.size ms2 s2 H2 chk <|
  tu P t1 (fh P.globals.size env a1) (fh P.globals.size env v1) H2 λkL=>px P P.globals.size ms2 s1 kL chk <|
  Ps P t1 t2 (fh P.globals.size env a1) (fh P.globals.size env a2) (k cU)
def zh:List Nat→(List Nat→Nat→Nat→Prop)→Prop
 |[a,b],k=>k [] a b
 |x::l,k=>zh l λp a b=>k (x::p) a b
 |[],_=>False
theorem Fk:∀{l:List Nat}{k:List Nat→Nat→Nat→Prop},zh l k→∃p a b,l=p++[a,b]∧k p a b
 |[],_,h=>h.elim
 |[a,b],_,h=>⟨[],a,b,rfl,h⟩
 |[x],k,h=>by unfold zh at h;exact h.elim
 |x::y::z::l,k,h=>by
  unfold zh at h;obtain⟨p,a,b,e,h⟩:=Fk h;exact⟨x::p,a,b,by rw[e];rfl,h⟩
def apk(P:Program)(C:eJ):DT:=λops env ds H K=>
 zh (canon ops) λpre s1 s2=>
  bT (zg (dO ops s2 s1) (pre++[s1,s2]) (masks (dO ops s2 s1) (pre++[s1,s2]) [])) <|
  bT (zg (dO ops s1 s2) (pre++[s2,s1]) (masks (dO ops s1 s2) (pre++[s2,s1]) [])) <|
  ko C P P.globals.size ops (Pr ops) pre [] env H (λchk env H=>pairT P ops (dO ops s2 s1) (dO ops s1 s2) (masks (dO ops s2 s1) (pre++[s1,s2]) []) (masks (dO ops s1 s2) (pre++[s2,s1]) []) s1 s2 chk env H λH=>K .normal env ds H) (λv env H=>K (.cj v) (mP ops env) ds H)
theorem uT{ops:Array Oper}{o:Oper}{t:TypeId}{a x:Operand}(ho:o.op=.store t a x){env:List AV}{H:AH}{k:AH→Prop}(h:tu P t (fh P.globals.size env a) (fh P.globals.size env x) H k) :
  ∃H',k H'∧y8 P t (fh P.globals.size env a) (fh P.globals.size env x) H H'∧BY P ops o env H dY H':=by
 obtain⟨H',h1,hS,h2⟩:=M0 (P:=P) h;refine⟨H',h1,hS,λf w ac cM hr ha hs next Q hn=>?_⟩;have hst:=hs.stand ha;obtain⟨w',g1,g2⟩:=h2 f w _ _ hr (hst a (by simp[ho,Op.operands])) (hst x (by simp[ho,Op.operands]));exact kg (.inr ⟨by simp[execOp,ho,g1],rfl⟩) (hn f w' undef g2 (VR.undef f))
theorem Nf(ops:Array Oper)(j i:Nat)(env:List AV):mP (dO ops j i) env=mP ops env:=by
 have e:(dO ops j i).toList.map Oper.dst=ops.toList.map Oper.dst:=by
  refine List.ext_getElem? λk=>?_;rw[List.getElem?_map,List.getElem?_map,Array.getElem?_toList,Array.getElem?_toList,gd];split
  ·cases ops[k]?<;>rfl
  ·rfl
 have f:∀l:List Oper,l.foldl (λe o=>cz e o.dst .cH) env=(l.map Oper.dst).foldl (λe d=>cz e d .cH) env:=λl=>by rw[List.foldl_map]
 unfold mP;rw[f,f,e]
theorem am8(hm:P.follows .mixedOrders=true)(C:eJ)(hC:hH P C):tv P (apk P C):=by
 intro id ops env ds H K h;obtain⟨pre,s1,s2,_,h⟩:=Fk h;obtain⟨ok1,h⟩:=aD h;obtain⟨ok2,h⟩:=aD h;have hms:mW ops (Pr ops):=wB _ (mW.nil ops);have am9:mW (dO ops s2 s1) (masks (dO ops s2 s1) (pre++[s1,s2]) []):=wB _ (mW.nil _);have ana:mW (dO ops s1 s2) (masks (dO ops s1 s2) (pre++[s2,s1]) []):=wB _ (mW.nil _);have S1:=AT am9 ok1;have S2:=AT ana ok2;have qS:s1≠s2∧s1∉pre∧s2∉pre:=by
  have:=S1.U3;rw[List.nodup_append]at this;obtain⟨_,h2,h3⟩:=this;refine⟨by simpa using h2,λhp=>h3 s1 hp s1 (by simp) rfl,λhp=>h3 s2 hp s2 (by simp) rfl⟩
 have hl1:s1<ops.size:=by have:=S1.lt s1 (by simp);rwa [nC]at this
 have hl2:s2<ops.size:=by have:=S1.lt s2 (by simp);rwa [nC]at this
 rcases kW hC hms _ _ _ _ (by simp) h with⟨chk,env',H0,hk,hct,g⟩|⟨v,env',H',hk,g⟩
 ·obtain⟨o1,ho1,hk⟩:=Pt hk;obtain⟨o2,ho2,hk⟩:=Pt hk;obtain⟨hp,hk⟩:=aD hk;simp only[apj,Bool.and_eq_true,Option.isNone_iff_eq_none]at hp;obtain⟨⟨⟨hd1,hd2⟩,hg1⟩,hg2⟩:=hp;obtain⟨t1,a1,v1,e1,hk⟩:=Fj hk;obtain⟨t2,a2,v2,e2,hk⟩:=Fj hk;have ht1:turns o1=true:=by simp[turns,e1]
  have ht2:turns o2=true:=by simp[turns,e2]
  have q11:(dO ops s2 s1)[s1]? = some o1:=by rw[gd,if_neg (Ne.symm qS.1),ho1]
  have q12:(dO ops s2 s1)[s2]? = some { o2 with after:=o2.after.push ⟨s1,.data⟩ }:=by rw[gd,if_pos rfl,ho2];rfl
  have q22:(dO ops s1 s2)[s2]? = some o2:=by rw[gd,if_neg qS.1,ho2]
  have q21:(dO ops s1 s2)[s1]? = some { o1 with after:=o1.after.push ⟨s2,.data⟩ }:=by rw[gd,if_pos rfl,ho1];rfl
  obtain⟨H1,hk,A1,T1⟩:=uT (ops:=dO ops s2 s1) e1 hk;obtain⟨hk,C1⟩:=qo am9 hct hk;obtain⟨cU,hk,A2,T2⟩:=uT (ops:=dO ops s2 s1) (o:={ o2 with after:=o2.after.push ⟨s1,.data⟩ }) e2 hk;obtain⟨hk,C2⟩:=qo am9 hct hk;obtain⟨H2,hk,A3,T3⟩:=uT (ops:=dO ops s1 s2) e2 hk;obtain⟨hk,C3⟩:=qo ana hct hk;obtain⟨kL,hk,A4,T4⟩:=uT (ops:=dO ops s1 s2) (o:={ o1 with after:=o1.after.push ⟨s2,.data⟩ }) e1 hk;obtain⟨hk,C4⟩:=qo ana hct hk;obtain⟨hk,ay5⟩:=T0 hk A1 A2 A3 A4;have Zj:∀i∈pre,(dO ops s2 s1)[i]? = ops[i]?:=λi hi=>by rw[gd,if_neg (λe:s2=i=>qS.2.2 (by rw[e];exact hi))]
  have Zk:∀i∈pre,(dO ops s1 s2)[i]? = ops[i]?:=λi hi=>by rw[gd,if_neg (λe:s1=i=>qS.2.1 (by rw[e];exact hi))]
  have auN:cz env' o1.dst dY=env':=by rw[hd1];rfl
  have auO:cz env' o2.dst dY=env':=by rw[hd2];rfl
  have tr1:=g _ (tx ops s2 s1) Zj [s1,s2] none env' cU (.turn dY H1 q11 (oj q11 ht1) (.of_none hg1) T1 (.inr C1)
   (by rw[auN];exact .turn dY cU q12 (oj q12 ht2) (.of_none hg2) T2 (.inr C2) (by show Tr P _ [] chk (cz env' o2.dst dY) cU none env' cU;rw[auO];exact .nil _ _ _)))
  have tr2:=g _ (tx ops s1 s2) Zk [s2,s1] none env' kL (.turn dY H2 q22 (oj q22 ht2) (.of_none hg2) T3 (.inr C3)
   (by rw[auO];exact .turn dY kL q21 (oj q21 ht1) (.of_none hg1) T4 (.inr C4) (by show Tr P _ [] chk (cz env' o1.dst dY) kL none env' kL;rw[auN];exact .nil _ _ _)))
  refine⟨.normal,env',ds,cU,hk,λf w a hr ha hd Q hq=>wp_region_draw λt=>?_⟩;simp only[Region.schedule,hm,Bool.true_or,if_true];have hv:=Nd (ops:=ops) ops.size t (Array.replicate ops.size false);generalize hL:Region.linearise.go .any ops ops.size t (Array.replicate ops.size false) []=L at hv;show wpOps P ops Q (Region.linearise.go .any ops ops.size t (Array.replicate ops.size false) []) a _;rw[hL];rcases bef qS.1 L with hb|hb
  ·have w1:=va S1 tr1 hr ha hd (Q:=Q) λa' w' hx=>hq _ _ _ hx;rw[nC]at w1;exact qU ((hv.dO (j:=s2) (i:=s1) hl1 (by simp) λL1 L2 e=>.inr (hb L1 L2 e)).wp _ _ w1)
  ·have w2:=va S2 tr2 hr ha hd (Q:=Q) λa' w' hx=>hq _ _ _ (by
    unfold nd at hx ⊢;obtain⟨f',s,hx⟩:=hx;refine⟨f',?_,hx⟩;unfold Step at s ⊢;rw[ay5];exact s)
   rw[nC]at w2;exact qU ((hv.dO (j:=s1) (i:=s2) hl2 (by simp) λL1 L2 e=>.inr (hb L1 L2 e)).wp _ _ w2)
 ·have Zj:∀i∈pre,(dO ops s2 s1)[i]? = ops[i]?:=λi hi=>by rw[gd,if_neg (λe:s2=i=>qS.2.2 (by rw[e];exact hi))]
  have Zk:∀i∈pre,(dO ops s1 s2)[i]? = ops[i]?:=λi hi=>by rw[gd,if_neg (λe:s1=i=>qS.2.1 (by rw[e];exact hi))]
  have tr1:=g _ (tx ops s2 s1) Zj [s1,s2];have tr2:=g _ (tx ops s1 s2) Zk [s2,s1];refine⟨.cj v,_,ds,H',hk,λf w a hr ha hd Q hq=>wp_region_draw λt=>?_⟩;simp only[Region.schedule,hm,Bool.true_or,if_true];have hv:=Nd (ops:=ops) ops.size t (Array.replicate ops.size false);generalize hL:Region.linearise.go .any ops ops.size t (Array.replicate ops.size false) []=L at hv;show wpOps P ops Q (Region.linearise.go .any ops ops.size t (Array.replicate ops.size false) []) a _;rw[hL];rcases bef qS.1 L with hb|hb
  ·have w1:=va S1 tr1 hr ha hd (Q:=Q) λch a' w' hx=>hq _ _ _ (by rw[Nf]at hx;exact hx);rw[nC]at w1;exact qU ((hv.dO (j:=s2) (i:=s1) hl1 (by simp) λL1 L2 e=>.inr (hb L1 L2 e)).wp _ _ w1)
  ·have w2:=va S2 tr2 hr ha hd (Q:=Q) λch a' w' hx=>hq _ _ _ (by rw[Nf]at hx;exact hx);rw[nC]at w2;exact qU ((hv.dO (j:=s1) (i:=s2) hl2 (by simp) λL1 L2 e=>.inr (hb L1 L2 e)).wp _ _ w2)
def Dk(P:Program)(C:eJ):DT:=λops env ds H K=>
 bI (zg ops (canon ops) (Pr ops)) (ko C P P.globals.size ops (Pr ops) (canon ops) [] env H (λ_ env H=>K .normal env ds H) (λv env H=>K (.cj v) (mP ops env) ds H)) (apk P C ops env ds H K)
theorem Pu(hm:P.follows .mixedOrders=true)(C:eJ)(hC:hH P C):tv P (Dk P C):=by
 intro id ops env ds H K h;rcases dn h with⟨hok,h⟩|⟨_,h⟩
 case inr=>exact am8 hm C hC id ops env ds H K h
 have hms:mW ops (Pr ops):=wB _ (mW.nil ops);have S:=AT hms hok;rcases kW hC hms _ _ _ _ (by simp) h with⟨Zg,env',H',hk,_,g⟩|⟨v,env',H',hk,g⟩
 ·have tr:=g ops (.refl ops) (λ_ _=>rfl) [] _ _ _ (.nil _ _ _);rw[List.append_nil]at tr;exact⟨.normal,env',ds,H',hk,λf w a hr ha hd Q hq=>wp_region_any hm (va S tr hr ha hd λa' w' hx=>hq _ _ _ hx)⟩
 ·have tr:=g ops (.refl ops) (λ_ _=>rfl) [];rw[List.append_nil]at tr;exact⟨.cj v,_,ds,H',hk,λf w a hr ha hd Q hq=>wp_region_any hm (va S tr hr ha hd λch a' w' hx=>hq _ _ _ hx)⟩
end
section
inductive Fr where
 |seq (p:List Nat) (c:Code)
 |blk (id:Nat)
 |loop (p:List Nat) (c:Code)
 |scope (p:List Nat) (c:Code)
def kX(p:List Nat):Code→List Fr→Nat→Option (Code×List Fr)
 |.seq a b,st,0=>some (a,.seq (1::p) b::st)
 |.seq _ b,st,1=>some (b,st)
 |.cond _ a _,st,0=>some (a,st)
 |.cond _ _ b,st,1=>some (b,st)
 |.block id c,st,0=>some (c,.blk id::st)
 |.loop c,st,0=>some (c,.loop p c::st)
 |.scope c,st,0=>some (c,.scope p c::st)
 |.scope c,st,l+2=>(match findLabel c l with|some r=>some (r,.scope p c::st)|none=>none)
 |_,_,_=>none
def AU(body:Code):List Nat→Option (Code×List Fr)
 |[]=>some (body,[])
 |b::p=>match AU body p with
  |some (c,st)=>kX p c st b
  |none=>none
def Pv:List Nat→List Nat→Bool
 |[],[]=>true
 |a::p,b::q=>Nat.beq a b&&Pv p q
 |_,_=>false
theorem agp:∀{p q:List Nat},Pv p q=true→p=q
 |[],[],_=>rfl
 |[],_::_,h=>by simp[Pv]at h
 |_::_,[],h=>by simp[Pv]at h
 |a::p,b::q,h=>by
  simp only[Pv,Bool.and_eq_true]at h;rw[Nat.eq_of_beq_eq_true h.1,agp h.2]
abbrev BZ:=List AV→List dN→AH→Prop
abbrev GT:=List Nat→Code→List Fr→BZ
section
def oY(g:GT)(K:KT):List Fr→Out→BZ
 |[],o,env,ds,H=>K o env ds H
 |.seq p c::st,o,env,ds,H=>match o with|.normal=>g p c st env ds H|o=>oY g K st o env ds H
 |.blk id::st,o,env,ds,H=>match o with|.exit i=>bI (Nat.beq i id) (oY g K st .normal env ds H) (oY g K st (.exit i) env ds H)|o=>oY g K st o env ds H
 |.loop p c::st,o,env,ds,H=>match o with|.normal=>g p (.loop c) st env ds H|o=>oY g K st o env ds H
 |.scope p c::st,o,env,ds,H=>match o with|.goto l=>Pd (findLabel c l) (λr=>g ((l+2)::p) r (.scope p c::st) env ds H) (oY g K st (.goto l) env ds H)|o=>oY g K st o env ds H
def G1(C:eJ)(D:DT)(P:Program)(G:Nat)(g:GT)(K:KT):GT:=λp c st env ds H=>
 match c with
 |.skip=>oY g K st .normal env ds H
 |.region _ ops draw=>bI draw (D ops env ds H (λo env ds H=>oY g K st o env ds H)) (wA C P G ops ops.toList env ds H (λo env ds H=>oY g K st o env ds H))
 |.seq a b=>g (0::p) a (.seq (1::p) b::st) env ds H
 |.cond c a b=>kT (fh G env c) (g (0::p) a st env ds H) (g (1::p) b st env ds H)
 |.block id b=>g (0::p) b (.blk id::st) env ds H
 |.loop b=>g (0::p) b (.loop p b::st) env ds H
 |.scope b=>g (0::p) b (.scope p b::st) env ds H
 |.goto l=>oY g K st (.goto l) env ds H
 |.exit id=>oY g K st (.exit id) env ds H
 |.label _=>oY g K st .normal env ds H
 |.ret=>oY g K st .ret env ds H
 |_=>False
abbrev Tbl:=List (List Nat×BZ)
def G2:Tbl→List Nat→Option BZ
 |[],_=>none
 |(m,F)::r,n=>bif Pv m n then some F else G2 r n
def goX(C:eJ)(D:DT)(P:Program)(G:Nat)(t:Tbl)(K:KT)(n:Nat):GT:=Nat.rec (motive:=λ_=>GT) (λ_ _ _ _ _ _=>False)
 (λ_ ih p c st env ds H=>match G2 t p with|some F=>F env ds H|none=>G1 C D P G ih K p c st env ds H) n
def apl(o:Option (Code×List Fr))(k:Code→List Fr→Prop):Prop:=match o with|some (c,st)=>k c st|none=>False
def Pw(C:eJ)(D:DT)(P:Program)(G:Nat)(body:Code)(t:Tbl)(K:KT)(n:Nat)(p:List Nat):BZ:=λenv ds H=>
 apl (AU body p) λc st=>G1 C D P G (goX C D P G t K n) K p c st env ds H
end
variable {P:Program}
def G3(P:Program)(n:Nat)(c:Code)(Q:Exit→Act→World→Prop)(a:Act)(w:World):Prop:=match c with|.loop b=>LI P b Q n a w|c=>c.wp P Q a w
def kN(P:Program)(n:Nat):List Fr→(Exit→Act→World→Prop)→(Exit→Act→World→Prop)
 |[],Q=>Q
 |.seq _ c::st,Q=>λe a w=>match e with|.normal=>G3 P n c (kN P n st Q) a w|e=>kN P n st Q e a w
 |.blk id::st,Q=>Exit.inBlock id (kN P n st Q)
 |.loop _ c::st,Q=>λe a w=>match e with|.normal=>LI P c (kN P n st Q) n a w|e=>kN P n st Q e a w
 |.scope _ c::st,Q=>λe a w=>match e with|.goto l=>(match findLabel c l with|some r=>Bz P c (kN P n st Q) n r a w|none=>kN P n st Q (.goto l) a w)|e=>kN P n st Q e a w
theorem Dl{c:Code}{Q Q':Exit→Act→World→Prop}(hq:∀e a w,Q e a w→Q' e a w):∀{n m:Nat},n≤m→∀{a w},LI P c Q n a w→LI P c Q' m a w
 |0,_,_,_,_,h=>h.elim
 |n+1,0,hl,_,_,_=>absurd hl (by omega)
 |n+1,m+1,hl,a,w,h=>by
  unfold LI at h ⊢;refine Code.wp_mono (λe a w h=>?_) h;cases e<;>first|exact Dl hq (Nat.le_of_succ_le_succ hl) h|exact hq _ _ _ h
theorem FN{c:Code}{Q Q':Exit→Act→World→Prop}(hq:∀e a w,Q e a w→Q' e a w):∀{n m:Nat},n≤m→∀{r a w},Bz P c Q n r a w→Bz P c Q' m r a w
 |0,_,_,_,_,_,h=>h.elim
 |n+1,0,hl,_,_,_,_=>absurd hl (by omega)
 |n+1,m+1,hl,r,a,w,h=>by
  unfold Bz at h ⊢;refine Code.wp_mono (λe a w h=>?_) h;cases e with
  |goto l=>
   simp only at h ⊢;cases hf:findLabel c l with
   |none=>rw[hf]at h;exact hq _ _ _ h
   |some r'=>rw[hf]at h;exact FN hq (Nat.le_of_succ_le_succ hl) h
  |_=>exact hq _ _ _ h
theorem anb{c:Code}{Q Q':Exit→Act→World→Prop}(hq:∀e a w,Q e a w→Q' e a w){n m:Nat}(hl:n≤m){a:Act}{w:World}(h:G3 P n c Q a w):G3 P m c Q' a w:=by
 unfold G3 at h ⊢;split at h
 ·exact Dl hq hl h
 ·exact Code.wp_mono hq h
theorem gh{n m:Nat}(hl:n≤m):∀{st:List Fr}{Q:Exit→Act→World→Prop}{e:Exit}{a:Act}{w:World},kN P n st Q e a w→kN P m st Q e a w
 |[],_,_,_,_,h=>h
 |.seq _ c::st,Q,e,a,w,h=>by
  cases e<;>first|exact anb (λe a w h=>gh hl h) hl h|exact gh hl (st:=st) h
 |.blk id::st,Q,e,a,w,h=>by
  unfold kN Exit.inBlock at h ⊢;cases e<;>try exact gh hl h
  rename_i i;simp only at h ⊢;split at h<;>rename_i hi
  ·rw[if_pos hi];exact gh hl h
  ·rw[if_neg hi];exact gh hl h
 |.loop _ c::st,Q,e,a,w,h=>by
  cases e<;>first|exact Dl (λe a w h=>gh hl h) hl h|exact gh hl (st:=st) h
 |.scope _ c::st,Q,e,a,w,h=>by
  cases e with
  |goto l=>
   simp only[kN]at h ⊢;cases hf:findLabel c l with
   |none=>rw[hf]at h;exact gh hl h
   |some r'=>rw[hf]at h;exact FN (λe a w h=>gh hl h) hl h
  |_=>exact gh hl (st:=st) h
theorem zi{n:Nat}{c:Code}{Q:Exit→Act→World→Prop}{a:Act}{w:World}(h:G3 P n c Q a w):c.wp P Q a w:=by
 unfold G3 at h;split at h
 ·exact wp_loop_rounds h
 ·exact h
theorem Px{n:Nat}{c:Code}(hn:∀b,c≠.loop b){Q:Exit→Act→World→Prop}{a:Act}{w:World}(h:c.wp P Q a w):G3 P n c Q a w:=by
 unfold G3;split
 ·exact absurd rfl (hn _)
 ·exact h
def EO(f:aI)(o:Out)(e:Exit):Prop:=match o with|.normal=>e=.normal|.exit id=>e=.exit id|.goto l=>e=.goto l|.ret=>e=.ret|.cj v=>∃ch,e=.panic ch∧AO f v ch
def zj(P:Program)(c:Code)(st:List Fr)(K:KT)(env:List AV)(ds:List dN)(H:AH):Prop:=∃n,iq P env ds H K λa w Q=>G3 P n c (kN P n st Q) a w
def auP(P:Program)(st:List Fr)(K:KT)(o:Out)(env:List AV)(ds:List dN)(H:AH):Prop:=∃n o' env' ds' H',K o' env' ds' H'∧∀f w a e,HR f H w→AR P f env a→DR f ds a.defers→EO f o e→∀Q:Exit→Act→World→Prop,(∀e a' w',nd P f H w o' env' ds' H' e a' w'→Q e a' w')→kN P n st Q e a w
theorem nd.outOf{f:aI}{H:AH}{w:World}{o:Out}{env:List AV}{ds:List dN}{H':AH}{e:Exit}{a:Act}{w':World}(h:nd P f H w o env ds H' e a w') :
  ∃f',Step f H w f' H' w'∧AR P f' env a∧DR f' ds a.defers∧EO f' o e:=by
 obtain⟨f',h1,h2,h3,h4⟩:=h;exact⟨f',h1,h2,h3,by cases o<;>exact h4⟩
theorem zj.rW{c:Code}{st:List Fr}{K:KT}{env:List AV}{ds:List dN}{H:AH}(hn:∀b,c≠.loop b)
  (h:iq P env ds H (λo env ds H=>auP P st K o env ds H) λa w Q=>c.wp P Q a w):zj P c st K env ds H:=by
 obtain⟨o,dy,ds1,H1,⟨n,o',env',ds',H',g1,g2⟩,h2⟩:=h;refine⟨n,o',env',ds',H',g1,λf w a hr ha hd Q hQ=>Px hn (h2 f w a hr ha hd _ λe a' w' hx=>?_)⟩;obtain⟨f',s,y1,y2,y3⟩:=hx.outOf;exact g2 f' w' a' e s.rel y1 y2 y3 Q λe a2 w2 hx=>hQ _ _ _ (hx.after s)
inductive Pos(body:Code):List Nat→Code→List Fr→Prop where
 |root:Pos body [] body []
 |step {p c st b c' st'}:Pos body p c st→kX p c st b=some (c',st')→Pos body (b::p) c' st'
theorem Pos.sub{body:Code}{p:List Nat}{c:Code}{st:List Fr}(h:Pos body p c st):AU body p=some (c,st):=by
 induction h with
 |root=>rfl
 |step h1 h2 ih=>simp only[AU,ih,h2]
theorem Pos.of_sub{body:Code}:∀{p:List Nat}{c:Code}{st:List Fr},AU body p=some (c,st)→Pos body p c st
 |[],c,st,h=>by simp only[AU,Option.some.injEq,Prod.mk.injEq]at h;obtain⟨rfl,rfl⟩:=h;exact .root
 |b::p,c,st,h=>by
  simp only[AU]at h;split at h
  ·rename_i c0 st0 h0;exact .step (Pos.of_sub h0) h
  ·cases h
inductive qV(body:Code):List Fr→Prop where
 |nil:qV body []
 |seq {p c st}:Pos body p c st→qV body st→qV body (.seq p c::st)
 |blk {id st}:qV body st→qV body (.blk id::st)
 |loop {p c st}:Pos body p (.loop c) st→qV body st→qV body (.loop p c::st)
 |scope {p c st}:Pos body p (.scope c) st→qV body st→qV body (.scope p c::st)
theorem Zl{p:List Nat}{a b:Code}{st:List Fr}{k:Nat}{c':Code}{st':List Fr}(h:kX p (.seq a b) st k=some (c',st')):(st'=.seq (1::p) b::st)∨st'=st:=by
 rcases k with _|_|k
 ·simp only[kX,Option.some.injEq,Prod.mk.injEq]at h;exact .inl h.2.symm
 ·simp only[kX,Option.some.injEq,Prod.mk.injEq]at h;exact .inr h.2.symm
 ·simp[kX]at h
theorem Pos.stack{body:Code}{p:List Nat}{c:Code}{st:List Fr}(h:Pos body p c st):qV body st:=by
 induction h with
 |root=>exact .nil
 |@step p c st b c' st' h1 h2 ih=>
  have g:=λx y z=>@Pos.step body p c st x y z h1;cases c with
  |seq a b'=>
   rcases Zl h2 with rfl|rfl
   ·exact .seq (g 1 _ _ rfl) ih
   ·exact ih
  |cond x a b'=>
   rcases b with _|_|b<;>simp only[kX,Option.some.injEq,Prod.mk.injEq,reduceCtorEq]at h2
   ·obtain⟨_,rfl⟩:=h2;exact ih
   ·obtain⟨_,rfl⟩:=h2;exact ih
  |block id a=>
   rcases b with _|b<;>simp only[kX,Option.some.injEq,Prod.mk.injEq,reduceCtorEq]at h2
   obtain⟨_,rfl⟩:=h2;exact .blk ih
  |loop a=>
   rcases b with _|b<;>simp only[kX,Option.some.injEq,Prod.mk.injEq,reduceCtorEq]at h2
   obtain⟨_,rfl⟩:=h2;exact .loop h1 ih
  |scope a=>
   rcases b with _|_|b
   ·simp only[kX,Option.some.injEq,Prod.mk.injEq]at h2;obtain⟨_,rfl⟩:=h2;exact .scope h1 ih
   ·simp[kX]at h2
   ·simp only[kX]at h2;split at h2
    ·simp only[Option.some.injEq,Prod.mk.injEq]at h2;obtain⟨_,rfl⟩:=h2;exact .scope h1 ih
    ·cases h2
  |_=>rcases b with _|_|b<;>simp[kX]at h2
abbrev GOk(P:Program)(body:Code)(K:KT)(g:GT):Prop:=∀p c st env ds H,Pos body p c st→g p c st env ds H→zj P c st K env ds H
theorem jJ{body:Code}{K:KT}{g:GT}(hg:GOk P body K g):∀{st:List Fr}{o:Out}{env:List AV}{ds:List dN}{H:AH},qV body st→oY g K st o env ds H→auP P st K o env ds H
 |[],o,env,ds,H,_,h=>⟨0,o,env,ds,H,h,λf w a e hr ha hd he Q hQ=>hQ _ _ _ ⟨f,Step.refl hr,ha,hd,by cases o<;>exact he⟩⟩
 |.seq p c::st,o,env,ds,H,hs,h=>by
  cases hs with
  |seq h1 h2=>
   cases o with
   |normal=>
    obtain⟨n,o',env',ds',H',g1,g2⟩:=hg p c st env ds H h1 h;exact⟨n,o',env',ds',H',g1,λf w a e hr ha hd he Q hQ=>by cases he;exact g2 f w a hr ha hd Q hQ⟩
   |_=>
    obtain⟨n,o',env',ds',H',g1,g2⟩:=jJ hg h2 h;refine⟨n,o',env',ds',H',g1,λf w a e hr ha hd he Q hQ=>?_⟩;have:=g2 f w a e hr ha hd he Q hQ
    first|(cases he;exact this)|(obtain⟨ch,rfl,_⟩:=he;exact this)
 |.loop p c::st,o,env,ds,H,hs,h=>by
  cases hs with
  |loop h1 h2=>
   cases o with
   |normal=>
    obtain⟨n,o',env',ds',H',g1,g2⟩:=hg p (.loop c) st env ds H h1 h;exact⟨n,o',env',ds',H',g1,λf w a e hr ha hd he Q hQ=>by cases he;exact g2 f w a hr ha hd Q hQ⟩
   |_=>
    obtain⟨n,o',env',ds',H',g1,g2⟩:=jJ hg h2 h;refine⟨n,o',env',ds',H',g1,λf w a e hr ha hd he Q hQ=>?_⟩;have:=g2 f w a e hr ha hd he Q hQ
    first|(cases he;exact this)|(obtain⟨ch,rfl,_⟩:=he;exact this)
 |.blk id::st,o,env,ds,H,hs,h=>by
  cases hs with
  |blk h2=>
   cases o with
   |exit i=>
    rcases dn h with⟨hi,h⟩|⟨hi,h⟩
    ·obtain⟨n,o',env',ds',H',g1,g2⟩:=jJ hg h2 h;refine⟨n,o',env',ds',H',g1,λf w a e hr ha hd he Q hQ=>?_⟩;cases he;have:=g2 f w a .normal hr ha hd rfl Q hQ;simp only[kN,Exit.inBlock];rw[if_pos (Nat.eq_of_beq_eq_true hi)];exact this
    ·obtain⟨n,o',env',ds',H',g1,g2⟩:=jJ hg h2 h;refine⟨n,o',env',ds',H',g1,λf w a e hr ha hd he Q hQ=>?_⟩;cases he;have:=g2 f w a (.exit i) hr ha hd rfl Q hQ;simp only[kN,Exit.inBlock];rw[if_neg (λe=>by subst e;simp at hi)];exact this
   |_=>
    obtain⟨n,o',env',ds',H',g1,g2⟩:=jJ hg h2 h;refine⟨n,o',env',ds',H',g1,λf w a e hr ha hd he Q hQ=>?_⟩;have:=g2 f w a e hr ha hd he Q hQ
    first|(cases he;exact this)|(obtain⟨ch,rfl,_⟩:=he;exact this)
 |.scope p c::st,o,env,ds,H,hs,h=>by
  cases hs with
  |scope h1 h2=>
   cases o with
   |goto l=>
    have h:Pd (findLabel c l) (λr=>g ((l+2)::p) r (.scope p c::st) env ds H) (oY g K st (.goto l) env ds H):=h;cases hf:findLabel c l with
    |none=>
     rw[hf]at h;obtain⟨n,o',env',ds',H',g1,g2⟩:=jJ hg h2 h;refine⟨n,o',env',ds',H',g1,λf w a e hr ha hd he Q hQ=>?_⟩;have:=g2 f w a e hr ha hd he Q hQ;cases he;simp only[kN,hf];exact this
    |some r=>
     rw[hf]at h;obtain⟨n,o',env',ds',H',g1,g2⟩:=hg ((l+2)::p) r (.scope p c::st) env ds H (h1.step (by simp[kX,hf])) h;refine⟨n+1,o',env',ds',H',g1,λf w a e hr ha hd he Q hQ=>?_⟩;have:=zi (g2 f w a hr ha hd Q hQ);cases he;simp only[kN,hf];show Bz P c _ (n+1) r a w;unfold Bz;refine Code.wp_mono (λe a w h=>?_) this;cases e with
     |goto l'=>
      simp only[kN]at h ⊢;cases hf':findLabel c l' with
      |none=>rw[hf']at h;exact gh (Nat.le_succ n) h
      |some r'=>rw[hf']at h;exact FN (λe a w h=>gh (Nat.le_succ n) h) (Nat.le_refl n) h
     |_=>exact gh (st:=st) (Nat.le_succ n) h
   |_=>
    obtain⟨n,o',env',ds',H',g1,g2⟩:=jJ hg h2 h;refine⟨n,o',env',ds',H',g1,λf w a e hr ha hd he Q hQ=>?_⟩;have:=g2 f w a e hr ha hd he Q hQ
    first|(cases he;exact this)|(obtain⟨ch,rfl,_⟩:=he;exact this)
theorem zj.wp{c:Code}{st:List Fr}{K:KT}{env:List AV}{ds:List dN}{H:AH}(h:zj P c st K env ds H){c':Code}{st':List Fr}(hn:∀b,c'≠.loop b)
  (hW:∀n f a w Q,AR P f env a→c.wp P (kN P n st Q) a w→c'.wp P (kN P n st' Q) a w):zj P c' st' K env ds H:=by
 obtain⟨n,h⟩:=h;exact⟨n,h.mono (λf a w Q ha hh=>Px hn (hW n f a w Q ha (zi hh))) λ_ _ _ _ h=>h⟩
theorem Py{C:eJ}(hC:hH P C){D:DT}(hD:tv P D){body:Code}{K:KT}{g:GT}(hg:GOk P body K g):GOk P body K (G1 C D P P.globals.size g K):=by
 intro p c st env ds H hp h;have hs:=hp.stack;unfold G1 at h;cases c with
 |skip=>exact zj.rW (by simp) (iq.done (jJ hg hs h) .normal (.inl ⟨rfl,rfl⟩) λa w Q h=>wp_skip h)
 |region id ops draw=>
  refine zj.rW (by simp) ?_;rcases dn h with⟨rfl,h⟩|⟨rfl,h⟩
  ·exact(hD id ops env ds H _ h).mono (λ_ _ _ _ _ h=>h) λ_ _ _ _ h=>jJ hg hs h
  ·exact(ql hC _ _ _ _ h).mono (λf a w Q _ h=>wp_region_list h) λ_ _ _ _ h=>jJ hg hs h
 |seq a b=>exact(hg _ _ _ env ds H (hp.step rfl) h).wp (by simp) λn f x w Q _ h=>wp_seq (Code.wp_mono (λe a w h=>by cases e<;>first|exact zi h|exact h) h)
 |cond c a b=>
  have h:kT (fh P.globals.size env c) (g (0::p) a st env ds H) (g (1::p) b st env ds H):=h;generalize hv:fh P.globals.size env c=v at h;cases v<;>try exact h.elim
  case bool t=>
   have hc:∀{f:aI}{a:Act},AR P f env a→a.eval c=.bool t:=λ{f act} ha=>by
    have:=zd ha c;rw[hv]at this;generalize act.eval c=u at this;cases this;rfl
   cases t
   ·exact(hg _ _ _ env ds H (hp.step rfl) h).wp (by simp) λn f x w Q ha h=>wp_cond (hc ha) h
   ·exact(hg _ _ _ env ds H (hp.step rfl) h).wp (by simp) λn f x w Q ha h=>wp_cond (hc ha) h
 |block id c=>exact(hg _ _ _ env ds H (hp.step rfl) h).wp (by simp) λn f x w Q _ h=>wp_block h
 |loop c=>
  obtain⟨n,h⟩:=hg _ _ _ env ds H (hp.step rfl) h;refine⟨n+1,h.mono (λf a w Q _ hh=>?_) λ_ _ _ _ h=>h⟩;show LI P c _ (n+1) a w;unfold LI;refine Code.wp_mono (λe a w h=>?_) (zi hh);cases e<;>first|exact Dl (λe a w h=>gh (Nat.le_succ n) h) (Nat.le_refl n) h|exact gh (st:=st) (Nat.le_succ n) h
 |scope c=>
  obtain⟨n,h⟩:=hg _ _ _ env ds H (hp.step rfl) h;refine⟨n,h.mono (λf a w Q _ hh=>Px (by simp) (yb (n:=n+1) ?_)) λ_ _ _ _ h=>h⟩;unfold Bz;refine Code.wp_mono (λe a w h=>?_) (zi hh);cases e with
  |goto l=>
   simp only[kN]at h ⊢;exact h
  |_=>exact h
 |exit id=>exact zj.rW (by simp) (iq.done (jJ hg hs h) (.exit id) (.inr (.inl ⟨id,rfl,rfl⟩)) λa w Q h=>wp_exit h)
 |label l=>exact zj.rW (by simp) (iq.done (jJ hg hs h) .normal (.inl ⟨rfl,rfl⟩) λa w Q h=>wp_label h)
 |ret=>exact zj.rW (by simp) (iq.done (jJ hg hs h) .ret (.inr (.inr (.inr ⟨rfl,rfl⟩))) λa w Q h=>wp_ret h)
 |goto l=>exact zj.rW (by simp) (iq.done (jJ hg hs h) (.goto l) (.inr (.inr (.inl ⟨l,rfl,rfl⟩))) λa w Q h=>wp_goto h)
 |rangeFunc=>exact h.elim
 |refuse=>exact h.elim
def B4(P:Program)(body:Code)(K:KT)(p:List Nat):BZ:=λenv ds H=>∃c st,AU body p=some (c,st)∧zj P c st K env ds H
abbrev B6:=List (List Nat×BZ)
def FO(t:B6):Tbl:=t
def nF(P:Program)(body:Code)(K:KT)(t:B6):Prop:=∀e∈t,∀env ds H,e.2 env ds H→B4 P body K e.1 env ds H
theorem nF.nil{body:Code}{K:KT}:nF P body K []:=λe h=>by simp at h
theorem nF.cons{body:Code}{K:KT}{p:List Nat}{F:BZ}{t:B6}(h:∀env ds H,F env ds H→B4 P body K p env ds H)(ht:nF P body K t):nF P body K ((p,F)::t):=λe he=>by
 rcases List.mem_cons.1 he with rfl|he
 ·exact h
 ·exact ht e he
theorem Pz:∀{t:B6}{p:List Nat}{F:BZ},G2 (FO t) p=some F→(p,F)∈t
 |[],_,_,h=>by cases h
 |(q,G)::t,p,F,h=>by
  simp only[FO,G2]at h;cases hb:Pv q p with
  |true=>
   rw[hb]at h;have h:G=F:=by simpa using h
   have:=agp hb;subst h;subst this;simp
  |false=>
   rw[hb]at h;exact List.mem_cons_of_mem _ (Pz h)
theorem agq{C:eJ}(hC:hH P C){D:DT}(hD:tv P D){body:Code}{K:KT}{t:B6}(ht:nF P body K t):∀n,GOk P body K (goX C D P P.globals.size (FO t) K n)
 |0=>λ_ _ _ _ _ _ _ h=>h.elim
 |n+1=>λp c st env ds H hp h=>by
  change (match G2 (FO t) p with|some F=>F env ds H|none=>G1 C D P P.globals.size (goX C D P P.globals.size (FO t) K n) K p c st env ds H)at h
  split at h
  ·rename_i F hF;obtain⟨c',st',h1,h2⟩:=ht _ (Pz hF) env ds H h;rw[hp.sub]at h1;cases h1;exact h2
  ·exact Py hC hD (agq hC hD ht n) p c st env ds H hp h
theorem agr{C:eJ}(hC:hH P C){D:DT}(hD:tv P D){body:Code}{K:KT}{t:B6}(ht:nF P body K t){n:Nat}{p:List Nat}{env:List AV}{ds:List dN}{H:AH}
  (h:Pw C D P P.globals.size body (FO t) K n p env ds H):B4 P body K p env ds H:=by
 unfold Pw apl at h;split at h
 ·rename_i c st hs;exact⟨c,st,hs,Py hC hD (agq hC hD ht n) p c st env ds H (Pos.of_sub hs) h⟩
 ·exact h.elim
end
section
abbrev KF:=kl→AH→Prop
abbrev bQ:=List AV→AH→KF→Prop
inductive Ty where
 |i (k:Nat)
 |b
 |a
abbrev tz(R:Type):List Ty→Type
 |[]=>R
 |.i _::τ=>Int→tz R τ
 |.b::τ=>Bool→tz R τ
 |.a::τ=>AV→tz R τ
section
def yU{R:Type}:(τ:List Ty)→tz R τ→List AV→(R→Prop)→Prop
 |[],f,l,k=>match l with|[]=>k f|_=>False
 |.i q::τ,f,l,k=>match l with|v::r=>j0 v λc z=>bT (Nat.beq c q) (yU τ (f z) r k)|[]=>False
 |.b::τ,f,l,k=>match l with|v::r=>bC v λz=>yU τ (f z) r k|[]=>False
 |.a::τ,f,l,k=>match l with|v::r=>yU τ (f v) r k|[]=>False
def oZ{R:Type}:(τ:List Ty)→tz R τ→(R→List AV→Prop)→Prop
 |[],f,p=>p f []
 |.i q::τ,f,p=>∀z:Int,oZ τ (f z) λr l=>p r (.int q z::l)
 |.b::τ,f,p=>∀z:Bool,oZ τ (f z) λr l=>p r (.bool z::l)
 |.a::τ,f,p=>∀v:AV,oZ τ (f v) λr l=>p r (v::l)
def AW:List Nat→List AV→Nat→AV
 |s::r,v::l,i=>bif Nat.beq s i then v else AW r l i
 |_,_,_=>.cH
def AX(slots:List Nat)(l:List AV):Nat→Nat→List AV
 |0,_=>[]
 |n+1,i=>AW slots l i::AX slots l n (Nat.succ i)
def Zm(n:Nat)(slots:List Nat)(l:List AV):List AV:=AX slots l n 0
def auQ(ds:List dN)(x:Prop):Prop:=match ds with|[]=>x|_=>False
def auR(n:Nat)(slots:List Nat)(τ:List Ty)(f:tz (AH→Prop) τ):BZ:=λenv ds H=>
 bT (Nat.beq env.length n) (auQ ds (yU τ f (slots.map λs=>env.getD s .cH) λr=>r H))
def fY:List (Nat×bQ)→eJ
 |[],_,_,_,_=>False
 |(m,F)::r,g,args,H,K=>bif Nat.beq m g then F args H K else fY r g args H K
def PA:ze:=λ_ _ _ _ _=>False
def ai(τ:List Ty)(sh:tz (AH→KF→Prop) τ):bQ:=λargs H K=>yU τ sh args λr=>r H K
end
theorem aqV{v:AV}{k:Bool→Prop}(h:bC v k):∃z,v=.bool z∧k z:=by
 cases v<;>first|exact h.elim|exact⟨_,rfl,h⟩
theorem pZ{R:Type}:∀{τ:List Ty}{f:tz R τ}{l:List AV}{k:R→Prop}{p:R→List AV→Prop},yU τ f l k→oZ τ f p→∃r,k r∧p r l
 |[],f,l,k,p,h,g=>by
  unfold yU at h;split at h
  ·exact⟨f,h,g⟩
  ·exact h.elim
 |.i q::τ,f,l,k,p,h,g=>by
  unfold yU at h;split at h
  ·obtain⟨c,z,rfl,h⟩:=eV h;obtain⟨e,h⟩:=aD h;rw[Nat.eq_of_beq_eq_true e];exact pZ (p:=λr l=>p r (.int q z::l)) h (g z)
  ·exact h.elim
 |.b::τ,f,l,k,p,h,g=>by
  unfold yU at h;split at h
  ·obtain⟨z,rfl,h⟩:=aqV h;exact pZ (p:=λr l=>p r (.bool z::l)) h (g z)
  ·exact h.elim
 |.a::τ,f,l,k,p,h,g=>by
  unfold yU at h;split at h
  ·rename_i v l;exact pZ (p:=λr l=>p r (v::l)) h (g v)
  ·exact h.elim
theorem oZ.imp{R:Type}:∀{τ:List Ty}{f:tz R τ}{p q:R→List AV→Prop},(∀r l,p r l→q r l)→oZ τ f p→oZ τ f q
 |[],_,_,_,h,g=>h _ _ g
 |.i _::_,_,_,_,h,g=>λz=>oZ.imp (λr l=>h r _) (g z)
 |.b::_,_,_,_,h,g=>λz=>oZ.imp (λr l=>h r _) (g z)
 |.a::_,_,_,_,h,g=>λz=>oZ.imp (λr l=>h r _) (g z)
theorem Ng(s:List Nat)(l:List AV):∀n i,(AX s l n i).length=n
 |0,_=>rfl
 |n+1,i=>by simp[AX,Ng s l n]
theorem Nh(s:List Nat)(l:List AV):∀n i j,j<n→(AX s l n i)[j]? = some (AW s l (i+j))
 |0,_,_,h=>absurd h (by omega)
 |n+1,i,0,_=>by simp[AX]
 |n+1,i,j+1,h=>by
  simp only[AX,List.getElem?_cons_succ];rw[Nh s l n (Nat.succ i) j (by omega),Nat.succ_eq_add_one,Nat.add_assoc,Nat.add_comm 1 j]
theorem Ni(env:List AV):∀(s:List Nat) (i:Nat),AW s (s.map λt=>env.getD t .cH) i=env.getD i .cH∨AW s (s.map λt=>env.getD t .cH) i=.cH
 |[],i=>.inr (by simp[AW])
 |t::s,i=>by
  simp only[List.map_cons,AW];cases h:Nat.beq t i with
  |true=>rw[Nat.eq_of_beq_eq_true h];exact .inl rfl
  |false=>exact Ni env s i
variable {P:Program}
theorem VL.weak{f:aI}:∀{env env':List AV}{vs:List Value},VL f env vs→env'.length=env.length→(∀i,i<env.length→env'[i]? = env[i]?∨env'[i]? = some .cH)→VL f env' vs
 |_,[],_,.nil,_,_=>.nil
 |_,_::_,_,.nil,h,_=>by simp at h
 |_,[],_,.cons _ _ _ _ _ _,h,_=>by simp at h
 |_,b::env',_,.cons a v as vs h1 h2,h,hi=>by
  have h0:=hi 0 (by simp);refine .cons b v _ _ ?_ (VL.weak h2 (by simpa using h) λi hl=>by have:=hi (i+1) (by simpa using hl);simpa using this);simp at h0;rcases h0 with rfl|rfl
  ·exact h1
  ·exact .cH v
theorem B4.weak{body:Code}{K:KT}{p:List Nat}{env env':List AV}{ds:List dN}{H:AH}(h:B4 P body K p env' ds H)(hl:env'.length=env.length)(hi:∀i,i<env.length→env'[i]? = env[i]?∨env'[i]? = some .cH) :
  B4 P body K p env ds H:=by
 obtain⟨c,st,h1,n,o,e2,d2,H2,h3,h4⟩:=h;exact⟨c,st,h1,n,o,e2,d2,H2,h3,λf w a hr ha hd Q hQ=>h4 f w a hr ⟨ha.tmps.weak hl hi,ha.glob⟩ hd Q hQ⟩
def anc(P:Program)(body:Code)(K:KT)(p:List Nat)(n:Nat)(slots:List Nat)(τ:List Ty)(f:tz (AH→Prop) τ):Prop:=oZ τ f λr l=>∀H,r H→B4 P body K p (Zm n slots l) [] H
theorem auS{body:Code}{K:KT}{p:List Nat}{n:Nat}{slots:List Nat}{τ:List Ty}{f:tz (AH→Prop) τ}(h:anc P body K p n slots τ f):∀env ds H,auR n slots τ f env ds H→B4 P body K p env ds H:=by
 intro env ds H hh;obtain⟨hl,hh⟩:=aD hh;unfold auQ at hh;split at hh
 ·obtain⟨r,h1,h2⟩:=pZ hh h;have hl:=Nat.eq_of_beq_eq_true hl;refine(h2 H h1).weak (by rw[Zm,Ng,hl]) λi hi=>?_;rw[Zm,Nh _ _ _ _ _ (by omega),Nat.zero_add];rcases Ni env slots i with e|e
  ·rw[e];left;simp[List.getD_eq_getElem?_getD,hi]
  ·rw[e];exact .inr rfl
 ·exact hh.elim
def PC(P:Program)(f:aI):Prop:=∀g,g<P.globals.size→f.dom g∧f.blk g=g∧f.off g=0
def an(P:Program)(g:Nat)(F:bQ):Prop:=ew P g=true→∀args H K,F args H K→∃o H',K o H'∧∀f w (vs:Array Value),HR f H w→PC P f→VL f args vs.toList→Calls P g vs w (uQ f H w o H')
def ad(P:Program)(t:List (Nat×bQ)):Prop:=∀e∈t,an P e.1 e.2
theorem ad.nil:ad P []:=λe h=>by simp at h
theorem ad.cons{g:Nat}{F:bQ}{t:List (Nat×bQ)}(h:an P g F)(ht:ad P t):ad P ((g,F)::t):=λe he=>by
 rcases List.mem_cons.1 he with rfl|he
 ·exact h
 ·exact ht e he
theorem wF:∀{t:List (Nat×bQ)},ad P t→hH P (fY t)
 |[],_=>λ_ _ _ _ _ h=>h.elim
 |(m,F)::r,ht=>λg args H K hb h=>by
  unfold fY at h;cases e:Nat.beq m g with
  |true=>
   rw[e]at h;have:=Nat.eq_of_beq_eq_true e;subst this;exact ht (m,F) (by simp) hb args H K h
  |false=>
   rw[e]at h;exact wF (λe he=>ht e (List.mem_cons_of_mem _ he)) g args H K hb h
theorem aqW:JC P PA:=λ_ _ _ _ _ _ h=>h.elim
theorem an.aqX{g:Nat}{fn:Func}{body:Code}(hf:P.funcs[g]? = some fn)(hc:fn.body=some body){τ:List Ty}{sh:tz (AH→KF→Prop) τ}
  (h:∀K,oZ τ sh λr l=>∀H,r H K→B4 P body (Y9 P PA fn K) [] (aT fn l) [] H):an P g (ai τ sh):=by
 intro _ args H K hh;obtain⟨r,h1,h2⟩:=pZ hh (h K);obtain⟨c,st,h3,n,o,env',ds',H',h4,h5⟩:=h2 H h1;simp only[AU,Option.some.injEq,Prod.mk.injEq]at h3;obtain⟨rfl,rfl⟩:=h3;have key:∀(M:fX),qm P PA fn env' ds' M H' K→
   (∀(f:aI) (H0:AH) w (R:Ending→World→Prop) e a w',nd P f H0 w o env' ds' H' e a w'→(∀f' u,Step f H0 w f' H' w'→AR P f' env' a→DR f' ds' a.defers→MR f' M u→Leaves P fn a.tmps R a.defers u w')→bodyPostD P fn R e a w')→
   ∃o H',K o H'∧∀f w (vs:Array Value),HR f H w→PC P f→VL f args vs.toList→Calls P g vs w (uQ f H w o H'):=λM hl hb=>by
  obtain⟨co,H2,g1,g2⟩:=AQ aqW _ _ _ hl;refine⟨co,H2,g1,λf w vs hr hg hv=>calls_of_wp_defers hf hc (zi (h5 f w _ hr (BX hv hg) .nil _ λe a' w' hp=>hb f H w _ e a' w' hp λf' u s ha hd hm=>?_))⟩;exact Leaves.mono (λe w h=>h.after s) _ _ _ (g2 f' w' a' a'.defers u s.rel ha hd hm)
 cases o with
 |normal=>exact key .ret h4 λf H0 w R e a w' hp hl=>by obtain⟨f',s,y1,y2,rfl⟩:=hp;exact hl f' _ s y1 y2 rfl
 |ret=>exact key .ret h4 λf H0 w R e a w' hp hl=>by obtain⟨f',s,y1,y2,rfl⟩:=hp;exact hl f' _ s y1 y2 rfl
 |cj v=>exact key (.cj v) h4 λf H0 w R e a w' hp hl=>by obtain⟨f',s,y1,y2,ch,rfl,hp⟩:=hp;exact hl f' _ s y1 y2 ⟨ch,rfl,hp⟩
 |exit=>exact h4.elim
 |goto=>exact h4.elim
theorem an.FP{g:Nat}{t:List (Nat×bQ)}(ht:ad P t)(hm:P.follows .mixedOrders=true)(N d:Nat):an P g (GV (fY t) (Dk P (fY t)) P P.globals.size N d g):=
 λhb args H K h=>am5 (wF ht) (Pu hm _ (wF ht)) N d g args H K hb h
end
section
section
def cR(K:KF)(o:kl)(H:AH)(k:AV→Prop):Prop:=cOut o k λv=>K (.cj v) H
def mB(m n:Nat)(p q:AV)(x:Prop):Prop:=nY p λb o=>nY q λb' o'=>bT (!(Nat.beq b b')||(Nat.ble (Nat.add o m) o'||Nat.ble (Nat.add o' n) o)) x
def cI(q:Nat)(v:AV)(k:Int→Prop):Prop:=j0 v λc z=>bT (Nat.beq c q) (k z)
def PD:(τ:List Ty)→tz (AH→KF→Prop) τ
 |[]=>λ_ _=>False
 |.i _::τ=>λ_=>PD τ
 |.b::τ=>λ_=>PD τ
 |.a::τ=>λ_=>PD τ
end
variable {P:Program}
theorem AY:∀(τ:List Ty),oZ τ (PD τ) λr _=>∀H K,¬r H K
 |[]=>λ_ _ h=>h
 |.i _::τ=>λ_=>(AY τ).imp λ_ _ h=>h
 |.b::τ=>λ_=>(AY τ).imp λ_ _ h=>h
 |.a::τ=>λ_=>(AY τ).imp λ_ _ h=>h
theorem ey{g:Nat}(τ:List Ty):an P g (ai τ (PD τ)):=λ_ args H K h=>by
 obtain⟨r,h1,h2⟩:=pZ h (AY τ);exact(h2 H K h1).elim
theorem an.aqY{g:Nat}{τ:List Ty}{sh:tz (AH→KF→Prop) τ}{F:bQ}(hF:an P g F)(h:∀H K,oZ τ sh λr l=>r H K→F l H K):an P g (ai τ sh):=λhb args H K hh=>by
 obtain⟨r,h1,h2⟩:=pZ hh (h H K);exact hF hb args H K (h2 h1)
end
theorem T5{c:Nat}{z:Int}{k:Int→Prop}(h:k ((kd c).wrap z)):aJ c z k:=by
 unfold aJ;cases z with
 |ofNat n=>
  show bI (rI c) (bI (Nat.ble (half c) n) (iL (qO c (.ofNat n)) k) (bj n λm=>k (.ofNat m))) (bj (Nat.mod n (full c)) λm=>k (.ofNat m));simp only[iB,aY,wm];cases hs:rI c with
  |true=>
   show bI (Nat.ble (half c) n) _ _;cases hb:Nat.ble (half c) n with
   |true=>exact h
   |false=>
    have hb':¬half c≤n:=λhle=>by rw[Nat.ble_eq_true_of_le hle]at hb;cases hb
    rw[wrap_small hs (by have:(Int.ofNat n:Int)=(n:Int):=rfl;omega) (by have:(Int.ofNat n:Int)=(n:Int):=rfl;omega)]at h;exact h
  |false=>
   rw[Bx hs]at h;exact h
 |negSucc n=>
  show bI (rI c) (bI (Nat.ble (half c) n) (iL (qO c (.negSucc n)) k) (bj n λm=>k (.negSucc m))) (iL (qO c (.negSucc n)) k);simp only[iB,aY,wm];cases hs:rI c with
  |true=>
   show bI (Nat.ble (half c) n) _ _;cases hb:Nat.ble (half c) n with
   |true=>exact h
   |false=>
    have hb':¬half c≤n:=λhle=>by rw[Nat.ble_eq_true_of_le hle]at hb;cases hb
    rw[wrap_small hs (by omega) (by omega)]at h;exact h
  |false=>exact h
end Go.X
