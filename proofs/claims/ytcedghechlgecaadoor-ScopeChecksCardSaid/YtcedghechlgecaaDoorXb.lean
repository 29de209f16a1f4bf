/- The machine: operations, control, calls. No condition: definitions and lemmas. -/
import Derived.Test.YtcedghechlgecaaDoorXa
import Derived.Lib.Overlaps
import Derived.Laws.Externs
import Derived.Lib.Bytealg
import Derived.Laws.StandIn
import Derived.Laws.IdiomStrings
import Derived.ScopeJumps
import Derived.Recover
import Derived.Orders
set_option maxRecDepth 100000
set_option maxHeartbeats 0
set_option linter.unusedVariables false
set_option linter.unusedSimpArgs false
namespace Go.X
def eS:AV:=.aP []
def lE(P:Program)(t:TypeId)(v:AV)(k:AV→Prop):Prop:=
 match P.underlying t with
 |some (.int q)=>jE v λc z=>bT (Nat.beq c (kn q)) (k (.int (kn q) z))
 |some .bool=>bY v λz=>k (.bool z)
 |_=>k v
theorem fP{P:Program}{t:TypeId}{v:AV}{k:AV→Prop}(h:lE P t v k):k v:=by
 unfold lE at h;split at h
 ·obtain⟨c,z,rfl,h⟩:=fj h;obtain⟨e,h⟩:=aD h;rw[Nat.eq_of_beq_eq_true e];exact h
 ·unfold bY at h;split at h
  ·exact h
  ·exact h.elim
 ·exact h
noncomputable section
def Tv(m:AV)(H:AH)(k:List fp→Prop):Prop:=(match m with
 |.qf=>λk=>k []
 |.map b=>λk=>H.t.fO b λo=>(match o with|.map es _=>k es|_=>False)
 |_=>λ_=>False:(List fp→Prop)→Prop) k
def Jq(m:AV)(H:AH)(k:Nat→List fp→Nat→Prop):Prop:=(match m with
 |.map b=>λk=>H.t.fO b λo=>(match o with|.map es cl=>k b es cl|_=>False)
 |_=>λ_=>False:(Nat→List fp→Nat→Prop)→Prop) k
def foundAt(P:Program)(kt:TypeId)(key:AV)(es:List fp)(k:Option Nat→Prop):Prop:=match rL P kt key es with|some r=>k r|none=>False
def apt(P:Program)(kt:TypeId)(ok:Bool)(z m key:AV)(H:AH)(k:AV→Prop):Prop:=Tv m H λes=>foundAt P kt key es λr=>k (QH ok z es r)
def ako(P:Program)(kt:TypeId)(m key v:AV)(H:AH)(k:AH→Prop):Prop:=Jq m H λb es cl=>foundAt P kt key es λr=>gT H b (.map (Jn es cl key v r) (QJ cl r)) k
def akp(P:Program)(kt:TypeId)(m key:AV)(H:AH)(k:AH→Prop):Prop:=Jq m H λb es cl=>foundAt P kt key es λr=>gT H b (.map (afd es r) cl) k
def aqF(nw:Lay)(k:AV→AH→Prop):Prop:=nw (.map [] 0) λb H'=>k (.map b) H'
def O7(P:Program)(t:TypeId)(m key:AV)(ok:Bool)(H:AH)(k:AV→Prop):Prop:=match P.underlying t with
 |some (.map kt et)=>(match P.info? et with
  |some inf=>(match inf.zero with
   |some z=>bT (sv P kt) (apt P kt ok (iy z) m key H k)
   |none=>False)
  |none=>False)
 |_=>False
def O8(P:Program)(t:TypeId)(m key v:AV)(H:AH)(k:AH→Prop):Prop:=match P.underlying t with
 |some (.map kt _)=>bT (sv P kt) (ako P kt m key v H k)
 |_=>False
def akq(P:Program)(t:TypeId)(m key:AV)(H:AH)(k:AH→Prop):Prop:=match P.underlying t with
 |some (.map kt _)=>bT (sv P kt) (akp P kt m key H k)
 |_=>False
def AJ(P:Program)(b:Builtin)(ty:TypeId)(ts:Array TypeId)(args:List AV)(H:AH)(k:AV→AH→Prop):Prop:=
 match b,ts.toList,args with
 |.len,t::_,[a]=>ae6 P t a H λv=>lE P ty v λv=>k v H
 |.append,[t,u],[s,x]=>ae5 P t u s x H k
 |.copy,[t,_],[d,s]=>QB P t d s H λv H=>lE P ty v λv=>k v H
 |.max,_,a::l=>tD ags l a λv=>lE P ty v λv=>k v H
 |.min,_,a::l=>tD zn l a λv=>lE P ty v λv=>k v H
 |.delete,t::_,[m,x]=>akq P t m x H λH=>k eS H
 |.cap,t::_,[a]=>afh P t a λv=>lE P ty v λv=>k v H
 |.clear,[t],[a]=>Jp P t a H λH=>k eS H
 |_,_,_=>False
def eI(H:AH)(x:Prop):Prop:=@Bt.rec eB (λ_=>Prop→Prop) (λx=>x) (λ_ _ _ _ _ x=>x) H.t x
theorem GA(H:AH)(x:Prop):eI H x=x:=by
 unfold eI;cases H.t<;>rfl
def rG(P:Program)(o:Oper)(ρ:Operand→AV)(nw:Lay)(H:AH)(k:AV→AH→Prop):Prop:=
 match o.op with
 |.move x=>k (ρ x) H
 |.assign x=>k (ρ x) H
 |.pick c a b=>kG (ρ c) (lE P o.type (ρ a) λv=>k v H) (lE P o.type (ρ b) λv=>k v H)
 |.alloc e=>eI H (eX P nw e k)
 |.box _ x=>mB nw (ρ x) k
 |.build t ps=>(match P.underlying t with|some (.struct fs)=>bT (Jg P fs) (I7 P t (ps.toList.map λx=>(x.1,ρ x.2)) λv=>k v H)|_=>False)
 |.buildSlice t n ps=>Gx P nw t n (ps.toList.map λx=>(x.1,ρ x.2)) k
 |.load t a=>Il P t (ρ a) H λv=>lE P o.type v λv=>k v H
 |.store t a x=>qF P t (ρ a) (ρ x) H λH'=>k eS H'
 |.nilCheck x=>au (ρ x) (k (ρ x) H)
 |.binOp op t x y _=>QL P op t x y (ρ x) (ρ y) H λv=>lE P o.type v λv=>k v H
 |.unOp op t x=>xUn P op t (ρ x) λv=>lE P o.type v λv=>k v H
 |.convert s d x=>QC P s d (ρ x) H λv H=>lE P o.type v λv=>k v H
 |.makeInterface t x=>Th P t (ρ x) λv=>k v H
 |.makeFunc fn a b=>(match fn with|.func g=>k (.func g (a.toList.map ρ) (b.toList.map ρ)) H|_=>False)
 |.makeSlice t l c=>eI H (Jl P nw t (ρ l) (ρ c) k)
 |.slice t x lo hi mx=>Jb P t (ρ x) (lo.map ρ) (hi.map ρ) (mx.map ρ) λv=>k v H
 |.fieldAddr t x i=>aeZ P t (ρ x) i λv=>k v H
 |.field t x i=>I9 P t (ρ x) i λv=>lE P o.type v λv=>k v H
 |.indexAddr t x i=>AE P t (ρ x) (ρ i) λv=>k v H
 |.index t x i=>Ja P t (ρ x) (ρ i) λv=>lE P o.type v λv=>k v H
 |.extract x i=>I8 (ρ x) i λv=>lE P o.type v λv=>k v H
 |.range t x=>Jk P t (ρ x) H k
 |.next it s=>bT s (agr (ρ it) H k)
 |.typeAssert x _ u ok=>O3 P u ok (ρ x) λv=>lE P o.type v λv=>k v H
 |.makeMap _ r=>(match r with|none=>aqF nw k|some _=>False)
 |.lookup t m key ok=>O7 P t (ρ m) (ρ key) ok H λv=>lE P o.type v λv=>k v H
 |.mapUpdate t m key x=>O8 P t (ρ m) (ρ key) (ρ x) H λH'=>k eS H'
 |.call c=>(match c.callee with|.builtin b=>AJ P b o.type c.argTypes (c.args.toList.map ρ) H k|_=>False)
 |_=>False
end
def tG(o:Oper):Bool:=
 match o.op with
 |.alloc _=>true
 |.box ..=>true
 |.buildSlice ..=>true
 |.makeSlice ..=>true
 |.makeMap ..=>true
 |_=>false
def turns(o:Oper):Bool:=
 match o.op with
 |.store ..=>true
 |.range ..=>true
 |.next ..=>true
 |.mapUpdate ..=>true
 |.panic _=>true
 |.defer _=>true
 |.go _=>true
 |.call c=>(match c.callee with|.builtin .append=>true|.builtin .copy=>true|.builtin .delete=>true|.builtin .clear=>true|.builtin _=>false|_=>true)
 |_=>false
section
variable {P:Program}
def Did(P:Program)(o:Oper)(a:Act)(w:World)(u:Value)(w':World):Prop:=
 (execOp a.eval o).run P w=.ok (.value u) w'∨((execOp a.eval o).run P w=.ok .skip w'∧u=undef)
def Stand(f:aL)(o:Oper)(ρ:Operand→AV)(a:Act):Prop:=∀x∈o.op.operands,VR f (ρ x) (a.eval x)
theorem fJ{o:Oper}{a:Act}{w:World}{s:Sem Value}(he:execOp a.eval o=(do pure (.value (←s)))){u:Value}{w':World}(hs:s.run P w=.ok u w'):Did P o a w u w':=by
 left;rw[he];simp[hs]
theorem VR.undef(f:aL):VR f eS undef:=.aP [] [] .nil
theorem afi{a:AV}{k:Prop}(h:au a k):k∧((∃b o,a=.ptr b o)∨(∃g x y,a=.func g x y)∨(∃t v,a=.iface t v)):=by
 cases a<;>first|exact h.elim|exact⟨h,by simp⟩
inductive afj(P:Program)(o:Oper)(ρ:Operand→AV)(nw:Lay)(H:AH)(k:AV→AH→Prop):Prop where
 |same (v:AV) (h:k v H) (g:∀f w a,HRQ f H.sem w→Stand f o ρ a→∃u,Did P o a w u w∧VR f v u)
 |new (ob:eB) (vf:Nat→AV) (hl:tG o=true) (h:nw ob λb H'=>k (vf b) H') (ho:ob.sem.own=true) (g:∀f w a,Stand f o ρ a→∃u obj,Did P o a w u (w.alloc obj)∧mY f w ob vf u obj)
 |turn (v:AV) (H':AH) (h:k v H') (ht:turns o=true) (g:∀f w a,HR f H w→Stand f o ρ a→∃u w' f',Did P o a w u w'∧Step f H w f' H' w'∧VR f' v u)
theorem afk{f:aL}{ρ:Operand→AV}{a:Act}{x:Option Operand}(h:∀y,x=some y→VR f (ρ y) (a.eval y)):BR f (x.map ρ) (x.map a.eval):=by
 cases x with
 |none=>exact .none
 |some y=>exact .some _ _ (h y rfl)
theorem VL.nJ{f:aL}{ρ:Operand→AV}{a:Act}{l:List Operand}(h:∀x∈l,VR f (ρ x) (a.eval x)):VL f (l.map ρ) (l.map a.eval):=VL.map h
theorem QM{m:AV}{H:AH}{k:List fp→Prop}(h:Tv m H k):∃es,MapAt H m es∧k es:=by
 cases m<;>try exact h.elim
 ·exact⟨[],.inl ⟨rfl,rfl⟩,h⟩
 ·rename_i b;obtain⟨o,ho,h⟩:=Bt.dK _ _ _ h;cases o<;>try exact h.elim
  rename_i es cl;exact⟨es,.inr ⟨b,cl,rfl,AH.qE ho⟩,h⟩
theorem Bq{m:AV}{H:AH}{k:Nat→List fp→Nat→Prop}(h:Jq m H k):∃b es cl,m=.map b∧H.at b=.map es cl∧k b es cl:=by
 cases m<;>try exact h.elim
 rename_i b;obtain⟨o,ho,h⟩:=Bt.dK _ _ _ h;cases o<;>try exact h.elim
 rename_i es cl;exact⟨b,es,cl,rfl,AH.qE ho,h⟩
theorem uK{P:Program}{kt:TypeId}{key:AV}{es:List fp}{k:Option Nat→Prop}(h:foundAt P kt key es k):∃r,rL P kt key es=some r∧k r:=by
 unfold foundAt at h;split at h
 ·exact⟨_,by assumption,h⟩
 ·exact h.elim
theorem afl{P:Program}{kt:TypeId}{m key v:AV}{H:AH}{k:AH→Prop}(h:ako P kt m key v H k):∃b es cl r H',m=.map b∧H.at b=.map es cl∧rL P kt key es=some r∧H'.n=H.n∧H'.at b=.map (Jn es cl key v r) (QJ cl r)∧(∀c,c≠b→H'.at c=H.at c)∧k H':=by
 obtain⟨b,es,cl,rfl,hb,h⟩:=Bq h;obtain⟨r,hf,h⟩:=uK h;obtain⟨H',h,g1,g2,g3⟩:=gJ h;exact⟨b,es,cl,r,H',rfl,hb,hf,g1,g2,g3,h⟩
theorem afm{P:Program}{kt:TypeId}{m key:AV}{H:AH}{k:AH→Prop}(h:akp P kt m key H k):∃b es cl r H',m=.map b∧H.at b=.map es cl∧rL P kt key es=some r∧H'.n=H.n∧H'.at b=.map (afd es r) cl∧(∀c,c≠b→H'.at c=H.at c)∧k H':=by
 obtain⟨b,es,cl,rfl,hb,h⟩:=Bq h;obtain⟨r,hf,h⟩:=uK h;obtain⟨H',h,g1,g2,g3⟩:=gJ h;exact⟨b,es,cl,r,H',rfl,hb,hf,g1,g2,g3,h⟩
theorem OA{o:Oper}{c:Call}{b:Builtin}{ρ:Operand→AV}{nw:Lay}{H:AH}{k:AV→AH→Prop}(ho:o.op=.call c)(hb:c.callee=.builtin b)(h:AJ P b o.type c.argTypes (c.args.toList.map ρ) H k):afj P o ρ nw H k:=by
 have hops:∀{f:aL}{a:Act},Stand f o ρ a→VL f (c.args.toList.map ρ) (c.args.toList.map a.eval):=λ{f a} hs=>
  VL.nJ λx hx=>hs x (by rw[ho];simp[Op.operands,Call.operands,hb];simpa using hx)
 have ph:∀a:Act,execOp a.eval o=builtin b c.argTypes o.type (c.args.map fun|.const _=>true|_=>false) (c.args.map a.eval):=λa=>by
  simp[execOp,ho,resolve,hb,invoke];rfl
 unfold AJ at h;split at h
 ·rename_i t ts0 x hts hx;obtain⟨v,h1,h2⟩:=ah7 (P:=P) (t:=t) (u:=t) (ty:=o.type) (ts:=c.argTypes) (by rw[←Array.getElem?_toList,hts];rfl) h;refine .same v (fP h1) λf w a hr hs=>?_;have hv:=hops hs;rw[hx]at hv;generalize hgs:c.args.toList.map a.eval=us at hv;cases hv with
  |cons _ u _ us hu hl=>
   cases hl;obtain⟨r,g1,g2⟩:=h2 f w u hr hu;refine⟨r,fJ (s:=Builtin.len_ c.argTypes o.type #[u]) ?_ g1,g2⟩;rw[ph];have:c.args.map a.eval = #[u]:=by
    apply Array.ext';rw[Array.toList_map,hgs]
   rw[this];rfl
 ·rename_i t u0 s x hts hx;obtain⟨v,H',h1,h2⟩:=ah4 (P:=P) (ty:=o.type) h;refine .turn v H' h1 (by simp only[turns,ho,hb]) λf w a hr hs=>?_;have hv:=hops hs;rw[hx]at hv;generalize hgs:c.args.toList.map a.eval=us at hv;cases hv with
  |cons _ u _ us hu hl=>
   cases hl with
   |cons _ u2 _ us hu2 hl=>
    cases hl;obtain⟨r,w',f',g1,g2,g3⟩:=h2 f w u u2 hr hu hu2;refine⟨r,w',f',fJ (s:=Builtin.append_ #[t,u0] o.type #[u,u2]) ?_ g1,g2,g3⟩;rw[ph];have e1:c.args.map a.eval = #[u,u2]:=by
     apply Array.ext';rw[Array.toList_map,hgs]
    have e2:c.argTypes = #[t,u0]:=by
     apply Array.ext';rw[hts]
    rw[e1,e2];rfl
 ·rename_i t u0 s x hts hx;obtain⟨v,H',h1,h2⟩:=ae7 (P:=P) (u:=u0) (ty:=o.type) h;refine .turn v H' (fP (P:=P) (t:=o.type) (k:=λv=>k v H') h1) (by simp only[turns,ho,hb]) λf w a hr hs=>?_;have hv:=hops hs;rw[hx]at hv;generalize hgs:c.args.toList.map a.eval=us at hv;cases hv with
  |cons _ u _ us hu hl=>
   cases hl with
   |cons _ u2 _ us hu2 hl=>
    cases hl;obtain⟨r,w',f',g1,g2,g3⟩:=h2 f w u u2 hr hu hu2;refine⟨r,w',f',fJ (s:=Builtin.copy_ #[t,u0] o.type #[u,u2]) ?_ g1,g2,g3⟩;rw[ph];have e1:c.args.map a.eval = #[u,u2]:=by
     apply Array.ext';rw[Array.toList_map,hgs]
    have e2:c.argTypes = #[t,u0]:=by
     apply Array.ext';rw[hts]
    rw[e1,e2];rfl
 ·rename_i x l hx;obtain⟨v,h1,h2⟩:=AG (P:=P) (λa b k=>ah5) l x _ h;refine .same v (fP h1) λf w a hr hs=>?_;have hv:=hops hs;rw[hx]at hv;generalize hgs:c.args.toList.map a.eval=us at hv;cases hv with
  |cons _ u _ us hu hl=>
   obtain⟨r,g1,g2⟩:=h2 f u us hu hl;refine⟨r,fJ (s:=us.foldlM Builtin.max2 u) ?_ (g1 w),g2⟩;rw[ph];have:(c.args.map a.eval).toList=u::us:=by rw[Array.toList_map,hgs]
   simp only[builtin,Builtin.max_,this]
 ·rename_i x l hx;obtain⟨v,h1,h2⟩:=AG (P:=P) (λa b k=>ah6) l x _ h;refine .same v (fP h1) λf w a hr hs=>?_;have hv:=hops hs;rw[hx]at hv;generalize hgs:c.args.toList.map a.eval=us at hv;cases hv with
  |cons _ u _ us hu hl=>
   obtain⟨r,g1,g2⟩:=h2 f u us hu hl;refine⟨r,fJ (s:=us.foldlM Builtin.min2 u) ?_ (g1 w),g2⟩;rw[ph];have:(c.args.map a.eval).toList=u::us:=by rw[Array.toList_map,hgs]
   simp only[builtin,Builtin.min_,this]
 ·rename_i t ts0 x y hts hx;unfold akq at h;split at h
  ·rename_i kt et hu;obtain⟨hl,h⟩:=aD h;obtain⟨b',es,cl,r,H',em,hm,hf,hn,hnew,hold,h⟩:=afm h;refine .turn eS H' h (by simp only[turns,ho,hb]) λf w a hr hs=>?_;have hv:=hops hs;rw[hx]at hv;generalize hgs:c.args.toList.map a.eval=us at hv;cases hv with
   |cons _ u _ us hu1 hl1=>
    cases hl1 with
    |cons _ u2 _ us hu2 hl1=>
     cases hl1;obtain⟨w',g1,g2⟩:=QK (ts:=c.argTypes) (ty:=o.type) (by rw[←Array.getElem?_toList,hts];rfl) hu hl hm hf hn hnew hold hr (em ▸ hu1) hu2;refine⟨_,w',f,fJ (s:=Builtin.delete_ c.argTypes o.type #[u,u2]) ?_ g1,g2,VR.undef f⟩;rw[ph];have e1:c.args.map a.eval = #[u,u2]:=by
      apply Array.ext';rw[Array.toList_map,hgs]
     rw[e1];rfl
  ·exact h.elim
 ·rename_i t ts0 x hts hx;obtain⟨v,h1,h2⟩:=ah9 (P:=P) (t:=t) (ty:=o.type) (ts:=c.argTypes) (by rw[←Array.getElem?_toList,hts];rfl) h;refine .same v (fP h1) λf w a hr hs=>?_;have hv:=hops hs;rw[hx]at hv;generalize hgs:c.args.toList.map a.eval=us at hv;cases hv with
  |cons _ u _ us hu hl=>
   cases hl;obtain⟨r,g1,g2⟩:=h2 f w u hu;refine⟨r,fJ (s:=Builtin.cap_ c.argTypes o.type #[u]) ?_ g1,g2⟩;rw[ph];have:c.args.map a.eval = #[u]:=by
    apply Array.ext';rw[Array.toList_map,hgs]
   rw[this];rfl
 ·rename_i t x hts hx;obtain⟨H',h1,h2⟩:=Tu (P:=P) (ty:=o.type) h;refine .turn _ H' h1 (by simp only[turns,ho,hb]) λf w a hr hs=>?_;have hv:=hops hs;rw[hx]at hv;generalize hgs:c.args.toList.map a.eval=us at hv;cases hv with
  |cons _ u _ us hu hl=>
   cases hl;obtain⟨w',g1,g2⟩:=h2 f w u hr hu;refine⟨_,w',f,fJ (s:=Builtin.clear_ #[t] o.type #[u]) ?_ g1,g2,VR.undef f⟩;rw[ph];have e1:c.args.map a.eval = #[u]:=by
    apply Array.ext';rw[Array.toList_map,hgs]
   have e2:c.argTypes = #[t]:=by
    apply Array.ext';rw[hts]
   rw[e1,e2];rfl
 ·exact h.elim
theorem Jr{o:Oper}{ρ:Operand→AV}{nw:Lay}{H:AH}{k:AV→AH→Prop}(h:rG P o ρ nw H k):afj P o ρ nw H k:=by
 unfold rG at h;split at h
 ·rename_i x ho;exact .same _ h λf w a hr hs=>⟨_,.inl (by simp[execOp,ho]),hs x (by simp[ho,Op.operands])⟩
 ·rename_i x ho;exact .same _ h λf w a hr hs=>⟨_,.inl (by simp[execOp,ho]),hs x (by simp[ho,Op.operands])⟩
 ·rename_i c x y ho;rcases pf h with⟨e,h⟩|⟨e,h⟩
  ·refine .same _ (fP h) λf w a hr hs=>⟨_,.inl ?_,hs x (by simp[ho,Op.operands])⟩
   have:=hs c (by simp[ho,Op.operands]);rw[e]at this;simp[execOp,ho,this.oC,asBool]
  ·refine .same _ (fP h) λf w a hr hs=>⟨_,.inl ?_,hs y (by simp[ho,Op.operands])⟩
   have:=hs c (by simp[ho,Op.operands]);rw[e]at this;simp[execOp,ho,this.oC,asBool]
 ·rename_i e ho;rw[GA]at h;obtain⟨ob,vf,h1,h2,h3⟩:=Tb h;refine .new ob vf (by simp[tG,ho]) h1 h2 λf w a hs=>?_;obtain⟨r,obj,g1,g2⟩:=h3 f w;exact⟨r,obj,fJ (by simp only[execOp,ho]) g1,g2⟩
 ·rename_i e x ho;obtain⟨ob,vf,h1,h2,h3⟩:=ah1 (P:=P) (t:=e) h;refine .new ob vf (by simp[tG,ho]) h1 h2 λf w a hs=>?_;obtain⟨r,obj,g1,g2⟩:=h3 f w _ (hs x (by simp[ho,Op.operands]));exact⟨r,obj,fJ (by simp only[execOp,ho]) g1,g2⟩
 ·rename_i t ps ho;split at h
  ·rename_i fs ht;obtain⟨h0,h⟩:=aD h;obtain⟨v,h1,h2⟩:=Tg ht h0 h;refine .same v h1 λf w a hr hs=>?_;obtain⟨r,g1,g2⟩:=h2 f a.eval (λx hx=>hs x.2 (by simp only[ho,Op.operands];simp;exact⟨x.1,by simpa using hx⟩));refine⟨r,fJ ?_ (g1 w),g2⟩;simp only[execOp,ho];congr 2;apply Array.ext';simp
  ·exact h.elim
 ·rename_i t n ps ho;obtain⟨ob,vf,h1,h2,h3⟩:=Qz h;refine .new ob vf (by simp[tG,ho]) h1 h2 λf w a hs=>?_;obtain⟨r,obj,g1,g2⟩:=h3 f w a.eval (λx hx=>hs x.2 (by simp only[ho,Op.operands];simp;exact⟨x.1,by simpa using hx⟩));refine⟨r,obj,fJ ?_ g1,g2⟩;simp only[execOp,ho];congr 2;apply Array.ext';simp
 ·rename_i t x ho;obtain⟨v,h1,h2⟩:=Je h;refine .same v (fP h1) λf w a hr hs=>?_;obtain⟨r,g1,g2⟩:=h2 f w _ hr (hs x (by simp[ho,Op.operands]));exact⟨r,fJ (by simp only[execOp,ho]) g1,g2⟩
 ·rename_i t x y ho;obtain⟨H',h1,_,h2⟩:=Ho h;refine .turn _ H' h1 (by simp[turns,ho]) λf w a hr hs=>?_;obtain⟨w',g1,g2⟩:=h2 f w _ _ hr (hs x (by simp[ho,Op.operands])) (hs y (by simp[ho,Op.operands]));exact⟨undef,w',f,.inr ⟨by simp[execOp,ho,g1],rfl⟩,g2,VR.undef f⟩
 ·rename_i x ho;obtain⟨h1,h2⟩:=afi h;refine .same _ h1 λf w a hr hs=>?_;have hx:=hs x (by simp[ho,Op.operands]);refine⟨_,.inl ?_,hx⟩;generalize hz:a.eval x=z at hx;rcases h2 with⟨b,o',e⟩|⟨g,p,q,e⟩|⟨t,v,e⟩<;>rw[e]at hx
  ·rw[hx.fa.1]at hz ⊢;simp only[execOp,ho,hz];rfl
  ·cases hx;simp only[execOp,ho,hz];rfl
  ·cases hx;simp only[execOp,ho,hz];rfl
 ·rename_i op t x y ty ho;obtain⟨v,h1,h2⟩:=afg h;refine .same v (fP h1) λf w a hr hs=>?_;obtain⟨r,g1,g2⟩:=h2 f w _ _ hr (hs x (by simp[ho,Op.operands])) (hs y (by simp[ho,Op.operands])) (λv e=>by rw[e];rfl) (λv e=>by rw[e];rfl);exact⟨r,fJ (by simp only[execOp,ho]) g1,g2⟩
 ·rename_i op t x ho;obtain⟨v,h1,h2⟩:=akj h;refine .same v (fP h1) λf w a hr hs=>?_;obtain⟨r,g1,g2⟩:=h2 f _ (hs x (by simp[ho,Op.operands]));exact⟨r,fJ (by simp only[execOp,ho]) (g1 w),g2⟩
 ·rename_i s d x ho;obtain⟨v,h1,h2⟩:=ae8 h;refine .same v (fP h1) λf w a hr hs=>?_;obtain⟨r,g1,g2⟩:=h2 f w _ hr (hs x (by simp[ho,Op.operands]));exact⟨r,fJ (by simp only[execOp,ho]) g1,g2⟩
 ·rename_i t x ho;obtain⟨v,h1,h2⟩:=Tn h;refine .same v h1 λf w a hr hs=>?_;obtain⟨r,g1,g2⟩:=h2 f _ (hs x (by simp[ho,Op.operands]));exact⟨r,fJ (by simp only[execOp,ho]) (g1 w),g2⟩
 ·rename_i fn x y ho;split at h
  ·rename_i g;refine .same _ h λf w a hr hs=>?_;have h1:VL f (x.toList.map ρ) (x.toList.map a.eval):=VL.nJ λz hz=>hs z (by simp[ho,Op.operands];left;simpa using hz);have h2:VL f (y.toList.map ρ) (y.toList.map a.eval):=VL.nJ λz hz=>hs z (by simp[ho,Op.operands];right;simpa using hz);refine⟨.func (.func g) (x.map a.eval) (y.map a.eval),fJ (s:=Instr.makeFunc (.func g) (x.map a.eval) (y.map a.eval)) (by simp only[execOp,ho]) rfl,?_⟩;have e1:x.map a.eval=(x.toList.map a.eval).toArray:=by apply Array.ext';simp
   have e2:y.map a.eval=(y.toList.map a.eval).toArray:=by apply Array.ext';simp
   rw[e1,e2];exact .func g _ _ _ _ h1 h2
  ·exact h.elim
 ·rename_i t x y ho;rw[GA]at h;obtain⟨ob,vf,h1,h2,h3⟩:=Tp h;refine .new ob vf (by simp[tG,ho]) h1 h2 λf w a hs=>?_;obtain⟨r,obj,g1,g2⟩:=h3 f w _ _ (hs x (by simp[ho,Op.operands])) (hs y (by simp[ho,Op.operands]));exact⟨r,obj,fJ (by simp only[execOp,ho]) g1,g2⟩
 ·rename_i t x lo hi mx ho;obtain⟨v,h1,h2⟩:=Tf h;refine .same v h1 λf w a hr hs=>?_;obtain⟨r,g1,g2⟩:=h2 f _ _ _ _ (hs x (by simp[ho,Op.operands])) (afk (a:=a) λy e=>hs y (by subst e;simp[ho,Op.operands])) (afk (a:=a) λy e=>hs y (by subst e;simp[ho,Op.operands])) (afk (a:=a) λy e=>hs y (by subst e;simp[ho,Op.operands]));exact⟨r,fJ (by simp only[execOp,ho]) (g1 w),g2⟩
 ·rename_i t x i ho;obtain⟨v,h1,h2⟩:=ah2 h;refine .same v h1 λf w a hr hs=>?_;obtain⟨r,g1,g2⟩:=h2 f _ (hs x (by simp[ho,Op.operands]));exact⟨r,fJ (by simp only[execOp,ho]) (g1 w),g2⟩
 ·rename_i t x i ho;obtain⟨v,h1,h2⟩:=Tc h;refine .same v (fP h1) λf w a hr hs=>?_;obtain⟨r,g1,g2⟩:=h2 f _ (hs x (by simp[ho,Op.operands]));exact⟨r,fJ (by simp only[execOp,ho]) (g1 w),g2⟩
 ·rename_i t x i ho;obtain⟨v,h1,h2⟩:=Ow h;refine .same v h1 λf w a hr hs=>?_;obtain⟨r,g1,g2⟩:=h2 f _ _ (hs x (by simp[ho,Op.operands])) (hs i (by simp[ho,Op.operands]));exact⟨r,fJ (by simp only[execOp,ho]) (g1 w),g2⟩
 ·rename_i t x i ho;obtain⟨v,h1,h2⟩:=Td h;refine .same v (fP h1) λf w a hr hs=>?_;obtain⟨r,g1,g2⟩:=h2 f _ _ (hs x (by simp[ho,Op.operands])) (hs i (by simp[ho,Op.operands]));exact⟨r,fJ (by simp only[execOp,ho]) (g1 w),g2⟩
 ·rename_i x i ho;obtain⟨v,h1,h2⟩:=Ov (P:=P) h;refine .same v (fP h1) λf w a hr hs=>?_;obtain⟨r,g1,g2⟩:=h2 f _ (hs x (by simp[ho,Op.operands]));exact⟨r,fJ (by simp only[execOp,ho]) (g1 w),g2⟩
 ·rename_i t x ho;obtain⟨v,H',h1,h2⟩:=To h;refine .turn v H' h1 (by simp[turns,ho]) λf w a hr hs=>?_;obtain⟨r,w',f',g1,g2,g3⟩:=h2 f w _ hr (hs x (by simp[ho,Op.operands]));exact⟨r,w',f',fJ (by simp only[execOp,ho]) g1,g2,g3⟩
 ·rename_i x s ho;obtain⟨hs0,h⟩:=aD h;obtain⟨v,H',h1,h2⟩:=ae9 (P:=P) (ty:=o.type) h;refine .turn v H' h1 (by simp[turns,ho]) λf w a hr hs=>?_;obtain⟨r,w',f',g1,g2,g3⟩:=h2 f w _ hr (hs x (by simp[ho,Op.operands]));exact⟨r,w',f',fJ (by simp only[execOp,ho,hs0]) g1,g2,g3⟩
 ·rename_i x t u ok ho;obtain⟨v,h1,h2⟩:=QF (t:=t) h;refine .same v (fP h1) λf w a hr hs=>?_;obtain⟨r,g1,g2⟩:=h2 f _ (hs x (by simp[ho,Op.operands]));exact⟨r,fJ (by simp only[execOp,ho]) (g1 w),g2⟩
 ·rename_i t r ho;split at h
  ·obtain h:nw (.map [] 0) λb H'=>k (.map b) H':=h;refine .new (.map [] 0) (λb=>.map b) (by simp[tG,ho]) h rfl λf w a hs=>?_;exact⟨_,_,fJ (by simp only[execOp,ho];rfl) (Oz w),allocMap f w⟩
  ·exact h.elim
 ·rename_i t m key ok ho;unfold O7 at h;split at h
  ·rename_i kt et hu;split at h
   ·rename_i inf hi;split at h
    ·rename_i z hz;obtain⟨hl,h⟩:=aD h;obtain⟨es,hm,h⟩:=QM h;obtain⟨r,hf,h⟩:=uK h;refine .same _ (fP h) λf w a hr hs=>?_;obtain⟨v,g1,g2⟩:=QI hu hi hz hl hm hf ok hr (hs m (by simp[ho,Op.operands])) (hs key (by simp[ho,Op.operands]));exact⟨v,fJ (by simp only[execOp,ho]) g1,g2⟩
    ·exact h.elim
   ·exact h.elim
  ·exact h.elim
 ·rename_i t m key x ho;unfold O8 at h;split at h
  ·rename_i kt et hu;obtain⟨hl,h⟩:=aD h;obtain⟨b,es,cl,r,H',em,hb,hf,hn,hnew,hold,h⟩:=afl h;refine .turn _ H' h (by simp[turns,ho]) λf w a hr hs=>?_;obtain⟨w',g1,g2⟩:=Ih hu hl hb hf hn hnew hold hr (em ▸ hs m (by simp[ho,Op.operands])) (hs key (by simp[ho,Op.operands])) (hs x (by simp[ho,Op.operands]));exact⟨undef,w',f,.inr ⟨by simp[execOp,ho,g1],rfl⟩,g2,VR.undef f⟩
  ·exact h.elim
 ·rename_i c ho;split at h
  ·rename_i b hb;exact OA ho hb h
  ·exact h.elim
 ·exact h.elim
end
noncomputable section
def yb(n x m y:Nat):Int:=match tu n x m y with|true=>.negSucc 0|false=>(match Nat.beq n m&&Nat.beq x y with|true=>.ofNat 0|false=>.ofNat 1)
def aqG(a b:AV)(k:AV→Prop):Prop:=fZ a λn x=>fZ b λm y=>k (.int 0 (yb n x m y))
def QN(P:Program)(g:Nat):Bool:=match P.funcs[g]? with|some fn=>fn.body.isNone&&(fn.name == "internal/bytealg.abigen_runtime_cmpstring" && fn.origin == "")|none=>false
def noRow(n:String):Bool:=(Extern.allGenericRows.lookup n).isNone&&((Extern.allTypedRows.lookup n).isNone&&((Extern.allRows.lookup n).isNone&&(Extern.allNextRows.lookup n).isNone))
def afn(P:Program)(g:Nat):Bool:=match P.funcs[g]? with
 |some fn=>fn.body.isNone&&(fn.origin == "slices.overlaps" && (noRow fn.name&&(!(fn.name == "runtime.NumGoroutine")&&(match fn.params[0]? with|some t=>(match P.underlying t with|some (.slice e)=>(P.info? e).isSome|_=>false)|none=>false))))
 |none=>false
def afo(P:Program)(g:Nat)(args:List AV)(H:AH)(k:AV→Prop):Prop:=match QN P g with
 |true=>(match args with|[a,b]=>aqG a b k|_=>False)
 |false=>bT (afn P g) (match args with|[a,b]=>Iq a b H k|_=>False)
def QO(P:Program)(f:Operand):Option Nat:=match f with|.func g=>(match QN P g||afn P g with|true=>some g|false=>none)|_=>none
end
theorem Tw{P:Program}{f:Operand}{g:Nat}(h:QO P f=some g):f=.func g:=by
 unfold QO at h;split at h
 ·split at h
  ·cases h;rfl
  ·cases h
 ·cases h
theorem O9:∀(n x m y:Nat),x<256^n→y<256^m→yb n x m y=Lib.compareBytes (jo n x) (jo m y)
 |0,x,0,y,hx,hy=>by
  have:x=0:=by simp at hx;exact hx
  have:y=0:=by simp at hy;exact hy
  subst x;subst y;rfl
 |0,x,m+1,y,hx,hy=>by simp[yb,tu,jo,Lib.compareBytes]
 |n+1,x,0,y,hx,hy=>by
  have e:Nat.beq (n+1) 0=false:=rfl;simp[yb,tu,jo,Lib.compareBytes,e]
 |n+1,x,m+1,y,hx,hy=>by
  have h1:=Nat.mod_lt x (show 256>0 by omega);have h2:=Nat.mod_lt y (show 256>0 by omega);have ih:=O9 n (x/256) m (y/256) (by rw[Nat.pow_succ]at hx;omega) (by rw[Nat.pow_succ]at hy;omega);have hlt:∀a b:Nat,a<256→b<256→(UInt8.ofNat a<UInt8.ofNat b↔a<b):=λa b ha hb=>by
   simp[UInt8.lt_iff_toNat_lt];omega
  simp only[jo,Lib.compareBytes];have hs:tu (n+1) x (m+1) y=(Nat.ble (Nat.succ (x%256)) (y%256)||(Nat.beq (x%256) (y%256)&&tu n (x/256) m (y/256))):=rfl;rcases Nat.lt_trichotomy (x%256) (y%256)with h|h|h
  ·rw[if_pos ((hlt _ _ h1 h2).2 h)];unfold yb;rw[hs,Nat.ble_eq_true_of_le h];rfl
  ·rw[if_neg (by rw[hlt _ _ h1 h2];omega),if_neg (by rw[hlt _ _ h2 h1];omega),←ih];unfold yb;have e1:Nat.ble (Nat.succ (x%256)) (y%256)=false:=by
    cases e:Nat.ble (Nat.succ (x%256)) (y%256)with
    |false=>rfl
    |true=>have:=Nat.le_of_ble_eq_true e;omega
   have e3:(Nat.beq (n+1) (m+1)&&Nat.beq x y)=(Nat.beq n m&&Nat.beq (x/256) (y/256)):=by
    rw[Bool.eq_iff_iff];simp only[Bool.and_eq_true];have hb:∀a b:Nat,Nat.beq a b=true↔a=b:=λa b=>⟨Nat.eq_of_beq_eq_true,λh=>by subst h;exact Nat.beq_refl a⟩
    rw[hb,hb,hb,hb];omega
   rw[hs,e1,h,Nat.beq_refl,e3];rfl
  ·rw[if_neg (by rw[hlt _ _ h1 h2];omega),if_pos ((hlt _ _ h2 h1).2 h)];unfold yb;have e1:Nat.ble (Nat.succ (x%256)) (y%256)=false:=by
    cases e:Nat.ble (Nat.succ (x%256)) (y%256)with
    |false=>rfl
    |true=>have:=Nat.le_of_ble_eq_true e;omega
   have e2:Nat.beq (x%256) (y%256)=false:=by
    cases e:Nat.beq (x%256) (y%256)with
    |false=>rfl
    |true=>have:=Nat.eq_of_beq_eq_true e;omega
   have e3:Nat.beq x y=false:=by
    cases e:Nat.beq x y with
    |false=>rfl
    |true=>have:=Nat.eq_of_beq_eq_true e;omega
   rw[hs,e1,e2,e3,Bool.and_false];rfl
theorem aia(fn:Func)(h:fn.name = "internal/bytealg.abigen_runtime_cmpstring"):Extern.find fn=some Extern.BytealgCompare.compare:=by
 unfold Extern.find;rw[h]
 kernel_rfl
theorem OB(fn:Func)(h:fn.name = "internal/bytealg.abigen_runtime_cmpstring") (h2:fn.origin = ""):Extern.findNext fn=none:=by
 unfold Extern.findNext;rw[h,h2]
 kernel_rfl
theorem afp{P:Program}{g:Nat}(h:QN P g=true)(args:Array Value)(w:World):(callFunc g args).run P w=((Extern.BytealgCompare.compare args).run P w).andThen λv w'=>.ok (.value v) w':=by
 unfold QN at h;split at h
 ·rename_i fn hf;rw[Bool.and_eq_true,Bool.and_eq_true]at h;have h1:fn.name = "internal/bytealg.abigen_runtime_cmpstring" := by simpa using h.2.1
  have h2:fn.origin = "" := by simpa using h.2.2
  refine run_callFunc_extern hf ?_ h.1 (OB fn h1 h2) (aia fn h1) args w;rw[h1];decide
 ·cases h
theorem aib(fn:Func)(h:fn.origin = "slices.overlaps") (hn:noRow fn.name=true):Extern.find fn=some (Extern.SlicesOverlaps.overlaps fn.params fn.resultTypes):=by
 unfold noRow at hn;simp only[Bool.and_eq_true,Option.isNone_iff_eq_none]at hn;obtain⟨h1,h2,h3,_⟩:=hn;have g1:Extern.allGenericRows.lookup "slices.overlaps" = none:=by kernel_rfl
 have g2:Extern.allTypedRows.lookup "slices.overlaps" = some Extern.SlicesOverlaps.overlaps:=by kernel_rfl
 unfold Extern.find;rw[h];simp only[h1,h2,h3,g1,g2];rfl
theorem OC(fn:Func)(h:fn.origin = "slices.overlaps") (hn:noRow fn.name=true):Extern.findNext fn=none:=by
 unfold noRow at hn;simp only[Bool.and_eq_true,Option.isNone_iff_eq_none]at hn;obtain⟨_,_,_,h4⟩:=hn;have g1:Extern.allNextRows.lookup "slices.overlaps" = none:=by kernel_rfl
 unfold Extern.findNext;rw[h];simp only[h4,g1];rfl
theorem Af{w:World}{b x:Nat}{cur:Array Value}{e:TypeId}(h:w.heap[b]? = some (.cells cur e (0,0))):w.frozen? ⟨b,x,none⟩=false:=by
 unfold World.frozen?;rw[h];simp
theorem qD(ps rs:Array TypeId)(p q:Option Addr)(la ca lb cb:Nat):Extern.SlicesOverlaps.overlaps ps rs #[.slice p la ca,.slice q lb cb]=(do
  let some t:=ps[0]?|stuck "slices.overlaps: no parameter types"
  let .slice elem ←underlying t|stuck "slices.overlaps: slice type expected"
  let size ←sizeOf elem
  match p,q with
  |some a,some b=>
   if la=0∨lb=0∨size=0 then pure (Value.bool false)
   else if a.block != b.block&&(←frozen a)&&(←frozen b) then unsupported .addressObserved
   else do
    if a.block != b.block then do
     noView a;noView b
     if ←mayBeOne a b then return Value.bool ((←choose (.extern "sameAddr.stringBytes" 2)) == 1)
    pure (Value.bool (a.block == b.block&&a.off<b.off+lb*size&&b.off<a.off+la*size))
  |_,_=>pure (Value.bool false)):=rfl
theorem Br{ps rs rs':Array TypeId}{t:TypeId}(h:ps[0]? = some t)(p q:Option Addr)(la ca lb cb:Nat):Extern.SlicesOverlaps.overlaps ps rs #[.slice p la ca,.slice q lb cb]=Extern.SlicesOverlaps.overlaps #[t,t] rs' #[.slice p la ca,.slice q lb cb]:=by
 rw[qD,qD,h];rfl
theorem Tx{P:Program}{f:aL}{H:AH}{w:World}{tS e:TypeId}{i:TypeInfo}(ht:P.underlying tS=some (.slice e))(hi:P.info? e=some i){ps rs:Array TypeId}(hps:ps[0]? = some tS){a b:AV}{u v:Value}{k:AV→Prop}(hr:HRQ f H.sem w)(ha:VR f a u)(hb:VR f b v)(h:Iq a b H k) :
  (Extern.SlicesOverlaps.overlaps ps rs #[u,v]).run P w=.ok (.bool false) w:=by
 have hz:∀w,(sizeOf e).run P w=.ok i.size w:=λw=>by simp[sizeOf,typeInfo,hi]
 have Pb:∀(p q:Option Addr) (la ca lb cb:Nat),p=none∨q=none→(Extern.SlicesOverlaps.overlaps ps rs #[.slice p la ca,.slice q lb cb]).run P w=.ok (.bool false) w:=λp q la ca lb cb h=>by
  rcases h with rfl|rfl
  ·rw[qD,hps];simp[run_underlying ht,hz]
  ·rw[qD,hps];cases p<;>simp[run_underlying ht,hz]
 unfold Iq at h;rcases gV h with⟨rfl,g⟩|⟨b1,o1,l1,c1,s1,x1,rfl,g⟩
 ·cases ha;have hv:∃q lb cb,v=.slice q lb cb:=by
   rcases gV g with⟨rfl,g2⟩|⟨b2,o2,l2,c2,s2,x2,rfl,g2⟩
   ·cases hb;exact⟨_,_,_,rfl⟩
   ·cases hb;exact⟨_,_,_,rfl⟩
  obtain⟨q,lb,cb,rfl⟩:=hv;exact Pb _ _ _ _ _ _ (.inl rfl)
 ·rcases gV g with⟨rfl,g2⟩|⟨b2,o2,l2,c2,s2,x2,rfl,g2⟩
  ·cases ha;cases hb;exact Pb _ _ _ _ _ _ (.inr rfl)
  ·obtain⟨hne,g3⟩:=aD g2;obtain⟨d1,n1,m1,hb1,g4⟩:=dK g3;obtain⟨hm1,g5⟩:=aD g4;obtain⟨d2,n2,m2,hb2,g6⟩:=dK g5;obtain⟨hn2,_⟩:=aD g6;have hm1:m1=0:=Nat.eq_of_beq_eq_true hm1;subst hm1;have hn2:1≤n2:=Nat.le_of_ble_eq_true hn2;have hne':b1≠b2:=λe=>by subst e;simp at hne
   cases ha with
   |slice _ _ _ _ _ _ cap1 y1 hd1 _ _ _ _=>
    cases hb with
    |slice _ _ _ _ _ _ cap2 y2 hd2 _ _ _ _=>
     have hblk:f.blk b1≠f.blk b2:=λe=>hne' (hr.inj b1 b2 hd1 hd2 (by rw[AH.bN,hb1];rfl) (by rw[AH.bN,hb2];rfl) e);obtain⟨aqH,e1,lo1,hi1,q1,q2,q3,_,_,q6⟩:=hr.cells hd1 hb1;obtain⟨aqI,e2,lo2,hi2,r1,r2,r3,_⟩:=hr.cells hd2 hb2;obtain⟨rfl,rfl⟩:=q6 rfl;have:=Lib.run_overlaps_apart (P:=P) w tS tS e ht i.size hz ⟨f.blk b1,y1,none⟩ ⟨f.blk b2,y2,none⟩ l1 cap1 l2 cap2 hblk e1 e2 aqH.size aqI.size (by simp[World.shape?,q1]) (by simp[World.shape?,r1]) (by omega) (Af q1) (Af q1);rw[Br hps];exact this
theorem aic{P:Program}{g:Nat}{args:List AV}{H:AH}{k:AV→Prop}(h:afo P g args H k):∃v,k v∧∀f w (vs:Array Value),HR f H w→VL f args vs.toList→∃u,(callFunc g vs).run P w=.ok (.value u) w∧VR f v u:=by
 unfold afo at h;split at h
 ·rename_i hc;split at h
  ·rename_i a b;obtain⟨n,x,rfl,h1⟩:=gM h;obtain⟨m,y,rfl,h2⟩:=gM h1;refine⟨_,h2,λf w vs _ hv=>?_⟩;have e:vs=vs.toList.toArray:=by simp
   rw[e];generalize vs.toList=l at hv;cases hv with
   |cons _ u _ us hu hl=>
    cases hl with
    |cons _ u2 _ us hu2 hl=>
     cases hl;obtain⟨rfl,hx⟩:=hu.jf;obtain⟨rfl,hy⟩:=hu2.jf;refine⟨.int .i64 (yb n x m y),?_,.int 0 _⟩;rw[afp hc,Lib.run_compareString];simp only[Result.andThen_ok];rw[O9 n x m y hx hy];rfl
  ·exact h.elim
 ·obtain⟨hc,h⟩:=aD h;split at h
  ·rename_i a b;unfold afn at hc;split at hc
   ·rename_i fn hf;simp only[Bool.and_eq_true,Bool.not_eq_true',beq_iff_eq]at hc;obtain⟨h1,h2,h3,h4,h5⟩:=hc;split at h5
    ·rename_i tS hps;split at h5
     ·rename_i e ht;obtain⟨i,hi⟩:=Option.isSome_iff_exists.1 h5;refine⟨.bool false,?_,λf w vs hr hv=>?_⟩
      ·unfold Iq at h;rcases gV h with⟨_,h⟩|⟨_,_,_,_,_,_,_,h⟩
       ·rcases gV h with⟨_,h⟩|⟨_,_,_,_,_,_,_,h⟩<;>exact h
       ·rcases gV h with⟨_,h⟩|⟨_,_,_,_,_,_,_,h⟩
        ·exact h
        ·obtain⟨_,h⟩:=aD h;obtain⟨_,_,_,_,h⟩:=dK h;obtain⟨_,h⟩:=aD h;obtain⟨_,_,_,_,h⟩:=dK h;exact(aD h).2
      ·have e:vs=vs.toList.toArray:=by simp
       rw[e];generalize vs.toList=l at hv;cases hv with
       |cons _ u _ us hu hl=>
        cases hl with
        |cons _ u2 _ us hu2 hl=>
         cases hl;refine⟨.bool false,?_,.bool false⟩;rw[run_callFunc_extern hf h4 h1 (OC fn h2 h3) (aib fn h2 h3)];have:=Tx ht hi hps (rs:=fn.resultTypes) hr.toHRQ hu hu2 h;simp only[this,Result.andThen_ok]
     ·cases h5
    ·cases h5
   ·cases hc
  ·exact h.elim
structure eD where
 g:Nat
 args:List AV
inductive Out where
 |normal
 |exit (id:Nat)
 |goto (l:Nat)
 |ret
 |cM (v:AV)
inductive lT where
 |ret (v:AV)
 |cM (v:AV)
abbrev fb:=Nat→List AV→AH→(lT→AH→Prop)→Prop
noncomputable section
def fy(G:Nat)(env:List AV):Operand→AV
 |.tmp t=>env.getD t eS
 |.const v=>iy v
 |.global g=>if Nat.ble (Nat.succ g) G then .ptr g 0 else .dH
 |.func f=>.func f [] []
def cJ(env:List AV)(dst:Option Tmp)(v:AV):List AV:=match dst with|some d=>env.set d v|none=>env
def ve(a:AV)(k:Nat→List AV→List AV→Prop):Prop:=match a with|.func g x y=>k g x y|_=>False
def sd(a:AV)(k:Prop):Prop:=match a with|.iface _ _=>k|_=>False
def fX(P:Program)(g:Nat):Bool:=match P.funcs[g]? with|some fn=>fn.body.isSome && !(fn.name == "runtime.NumGoroutine")|none=>false
def cOut(o:lT)(k:AV→Prop)(kp:AV→Prop):Prop:=match o with|.ret v=>k v|.cM v=>kp v
def Ir(P:Program)(s t:TypeId):Bool:=match P.underlying s,P.underlying t with
 |some .string,some (.slice e)=>(match P.underlying e with|some (.int .u8)=>true|_=>false)
 |_,_=>false
def sw(C:fb)(P:Program)(G:Nat)(o:Oper)(ρ:Operand→AV)(nw:Lay)(H:AH)(k:AV→AH→Prop)(kp:AV→AH→Prop):Prop:=
 match o.op with
 |.call c=>(match c.callee with
  |.value f=>(match QO P f with
   |some g=>afo P g (c.args.toList.map ρ) H λv=>lE P o.type v λv=>k v H
   |none=>ve (ρ f) λg x y=>bT (fX P g) (C g (x++(c.args.toList.map ρ++y)) H λo' H'=>cOut o' (λv=>lE P o.type v λv=>k v H') (λv=>kp v H')))
  |_=>rG P o ρ nw H k)
 |.panic x=>sd (ρ x) (kp (ρ x) H)
 |.convert s t x=>bI (Ir P s t) (Jj nw (ρ x) k) (rG P o ρ nw H k)
 |_=>rG P o ρ nw H k
def agt(C:fb)(P:Program)(G:Nat)(o:Oper)(env:List AV)(ds:List eD)(H:AH)(k:List AV→List eD→AH→Prop)(kp:AV→AH→Prop):Prop:=
 match o.op with
 |.defer c=>(match c.callee with
  |.value f=>ve (fy G env f) λg x y=>bT (fX P g) (k (cJ env o.dst eS) (⟨g,x++(c.args.toList.map (fy G env)++y)⟩::ds) H)
  |_=>False)
 |_=>sw C P G o (fy G env) (aE H) H (λv H'=>k (cJ env o.dst v) ds H') kp
def zo(o:Oper):Bool:=match o.op with|.defer _=>true|_=>false
def Bs(v:AV)(want:Bool)(x y:Prop):Prop:=match v with|.bool b=>(match want with|true=>bI b x y|false=>bI b y x)|.aP _=>y|_=>False
theorem Ah{b want:Bool}{x y:Prop}(h:Bs (.bool b) want x y):bI (b == want) x y:=by cases b<;>cases want<;>exact h
def nU(ops:Array Oper)(env:List AV)(j:Nat):AV:=match (ops[j]?).bind (·.dst)with|some t=>env.getD t .dH|none=>.dH
def Bu(ops:Array Oper)(env:List AV)(j:Nat)(want:Bool)(x y:List AV→Prop):Prop:=match nU ops env j with
 |.bool b=>bI b (bI want (x (cJ env ((ops[j]?).bind (·.dst)) (.bool true))) (y (cJ env ((ops[j]?).bind (·.dst)) (.bool true)))) (bI want (y (cJ env ((ops[j]?).bind (·.dst)) (.bool false))) (x (cJ env ((ops[j]?).bind (·.dst)) (.bool false))))
 |.aP _=>y env
 |_=>False
def sy(C:fb)(P:Program)(G:Nat)(ops:Array Oper):List Oper→List AV→List eD→AH→(Out→List AV→List eD→AH→Prop)→Prop
 |[],env,ds,H,K=>K .normal env ds H
 |o::rest,env,ds,H,K=>
  match o.guard with
  |none=>agt C P G o env ds H (λenv ds H=>sy C P G ops rest env ds H K) (λv H=>K (.cM v) env ds H)
  |some (j,want)=>bT (!(zo o)) (Bu ops env j want (λenv=>sw C P G o (fy G env) (aE H) H (λv H=>sy C P G ops rest (cJ env o.dst v) ds H K) (λv H=>K (.cM v) env ds H)) (λenv=>sy C P G ops rest (cJ env o.dst eS) ds H K))
end
structure AR(P:Program)(f:aL)(env:List AV)(a:Act):Prop where
 tmps:VL f env a.tmps.toList
 glob:∀g,g<P.globals.size→f.dom g∧f.blk g=g∧f.off g=0
inductive DR(f:aL):List eD→List Deferred→Prop
 |nil:DR f [] []
 |cons (g:Nat) (args:List AV) (cap vs:Array Value) (ds:List eD) (es:List Deferred):VL f args (vs++cap).toList→DR f ds es→DR f (⟨g,args⟩::ds) (⟨.fn (.func g) cap,vs⟩::es)
theorem DR.up{f f':aL}(h:f.le f'):∀{ds:List eD}{es:List Deferred},DR f ds es→DR f' ds es
 |_,_,.nil=>.nil
 |_,_,.cons g args cap vs ds es h1 h2=>.cons g args cap vs ds es (h1.up h) (DR.up h h2)
theorem AR.up{P:Program}{f f':aL}(h:f.le f'){env:List AV}{a:Act}(r:AR P f env a):AR P f' env a:=
 ⟨r.tmps.up h,λg hg=>⟨h.dom g (r.glob g hg).1,(h.blk g (r.glob g hg).1).trans (r.glob g hg).2.1,(h.off g (r.glob g hg).1).trans (r.glob g hg).2.2⟩⟩
section
variable {P:Program}
theorem vg{f:aL}{env:List AV}{a:Act}(h:AR P f env a)(x:Operand):VR f (fy P.globals.size env x) (a.eval x):=by
 cases x with
 |tmp t=>
  simp only[fy,Act.eval];rcases Nat.lt_or_ge t env.length with hl|hl
  ·obtain⟨v,h1,h2⟩:=h.tmps.get t env[t] (List.getElem?_eq_getElem hl);have e1:env.getD t eS=env[t]:=by simp[List.getD,List.getElem?_eq_getElem hl]
   have e2:a.tmps.getD t undef=v:=by
    rw[Array.getElem?_toList]at h1;simp[Array.getD_eq_getD_getElem?,h1]
   rw[e1,e2];exact h2
  ·have e1:env.getD t eS=eS:=by simp[List.getD,List.getElem?_eq_none hl]
   have hlen:=h.tmps.length;have e2:a.tmps.getD t undef=undef:=by
    have e:a.tmps.toList.length=a.tmps.size:=Array.length_toList;simp[Array.getD_eq_getD_getElem?,Array.getElem?_eq_none (show a.tmps.size≤t by omega)]
   rw[e1,e2];exact VR.undef f
 |const v=>exact oO f v
 |global g=>
  simp only[fy,Act.eval];split
  ·rename_i hg;obtain⟨h1,h2,h3⟩:=h.glob g (Nat.le_of_ble_eq_true hg);have:=VR.ptr (f:=f) g 0 h1;rw[h2,h3]at this;exact this
  ·exact .dH _
 |func g=>exact .func g [] [] [] [] .nil .nil
theorem AR.put{f:aL}{env:List AV}{a:Act}(h:AR P f env a)(dst:Option Tmp){v:AV}{u:Value}(hv:VR f v u):AR P f (cJ env dst v) (a.put dst u):=by
 cases dst with
 |none=>exact h
 |some d=>exact⟨by simp only[cJ,Act.put,Array.toList_setIfInBounds];exact h.tmps.set d v u hv,h.glob⟩
theorem AR.defers{f:aL}{env:List AV}{a:Act}(h:AR P f env a)(ds:List Deferred):AR P f env { a with defers:=ds }:=⟨h.tmps,h.glob⟩
def xc(f:aL)(v:AV)(ch:List PanicEntry):Prop:=∃u older,ch={ v:=u,recovered:=false }::older∧VR f v u∧∀x∈older,x.goexit=false
def rM(f:aL)(H:AH)(w:World)(o:lT)(H':AH):Ending→World→Prop:=λe w'=>
 ∃f',Step f H w f' H' w'∧match o with
  |.ret v=>∃u,e=.returned u∧VR f' v u
  |.cM v=>∃ch,e=.panicked ch∧xc f' v ch
def ib(P:Program)(C:fb):Prop:=∀g args H K,fX P g=true→C g args H K→∃o H',K o H'∧∀f w (vs:Array Value),HR f H w→(∀g,g<P.globals.size→f.dom g∧f.blk g=g∧f.off g=0)→VL f args vs.toList→Calls P g vs w (rM f H w o H')
def mJ(P:Program)(f:aL)(H:AH)(w:World)(o:Out)(env:List AV)(ds:List eD)(H':AH):Exit→Act→World→Prop:=λe a w'=>
 ∃f',Step f H w f' H' w'∧AR P f' env a∧DR f' ds a.defers∧match o with
  |.normal=>e=.normal
  |.exit id=>e=.exit id
  |.goto l=>e=.goto l
  |.ret=>e=.ret
  |.cM v=>∃ch,e=.panic ch∧xc f' v ch
theorem OD{g:Nat}(h:fX P g=true):∃fn c,P.funcs[g]? = some fn∧fn.body=some c∧(fn.name == "runtime.NumGoroutine")=false:=by
 unfold fX at h;split at h
 ·rename_i fn hf;rw[Bool.and_eq_true]at h;obtain⟨c,hc⟩:=Option.isSome_iff_exists.1 h.1;exact⟨fn,c,hf,hc,by simpa using h.2⟩
 ·cases h
theorem yc{g:Nat}(h:fX P g=true)(args:Array Value)(w:World):(callFunc g args).run P w=.ok (.enter g args) w:=by
 obtain⟨fn,c,h1,h2,h3⟩:=OD h;have h3':¬fn.name = "runtime.NumGoroutine" := by simpa using h3
 simp[callFunc,h1,h2,h3']
theorem Bv{a:AV}{k:Nat→List AV→List AV→Prop}(h:ve a k):∃g x y,a=.func g x y∧k g x y:=by
 cases a<;>first|exact h.elim|exact⟨_,_,_,rfl,h⟩
inductive Js(P:Program)(o:Oper)(ρ:Operand→AV)(H:AH)(k:AV→AH→Prop)(kp:AV→AH→Prop):Prop where
 |val (v:AV) (H':AH) (h:k v H') (g:∀f w a,HR f H w→(∀g,g<P.globals.size→f.dom g∧f.blk g=g∧f.off g=0)→Stand f o ρ a→∀(next:Act→World→Prop) Q,(∀f' w' u,Step f H w f' H' w'→VR f' v u→next (a.put o.dst u) w')→o.wp P a w next Q)
 |cM (v:AV) (H':AH) (h:kp v H') (g:∀f w a,HR f H w→(∀g,g<P.globals.size→f.dom g∧f.blk g=g∧f.off g=0)→Stand f o ρ a→∀(next:Act→World→Prop) (Q:Exit→Act→World→Prop),(∀f' w' ch,Step f H w f' H' w'→xc f' v ch→Q (.panic ch) a w')→o.wp P a w next Q)
theorem jM{o:Oper}{a:Act}{w w':World}{u:Value}(h:Did P o a w u w'){next:Act→World→Prop}{Q:Exit→Act→World→Prop}(hn:next (a.put o.dst u) w'):o.wp P a w next Q:=by
 unfold Oper.wp;rcases h with h|⟨h,rfl⟩<;>rw[h]<;>exact hn
theorem Jt{o:Oper}{ρ:Operand→AV}{H:AH}{k kp:AV→AH→Prop}(h:afj P o ρ (aE H) H k):Js P o ρ H k kp:=by
 cases h with
 |same v h g=>
  refine .val v H h λf w a hr _ hs next Q hn=>?_;obtain⟨u,g1,g2⟩:=g f w a hr.toHRQ hs;exact jM g1 (hn f w u (Step.refl hr) g2)
 |new ob vf _ h ho g=>
  obtain⟨H',g1,g2,g3,g4⟩:=lS h;refine .val _ H' g1 λf w a hr _ hs next Q hn=>?_;obtain⟨u,obj,g5,g6⟩:=g f w a hs;obtain⟨f',s1,s2⟩:=wV hr g2 g3 g4 ho g6;exact jM g5 (hn f' _ u s1 s2)
 |turn v H' h _ g=>
  refine .val v H' h λf w a hr _ hs next Q hn=>?_;obtain⟨u,w',f',g1,g2,g3⟩:=g f w a hr hs;exact jM g1 (hn f' w' u g2 g3)
theorem uL{o:Oper}{ρ:Operand→AV}{H:AH}{k kp:AV→AH→Prop}(h:rG P o ρ (aE H) H k):Js P o ρ H k kp:=Jt (Jr h)
theorem Tz{s t:TypeId}(h:Ir P s t=true):∃e,P.underlying s=some .string∧P.underlying t=some (.slice e)∧P.underlying e=some (.int .u8):=by
 unfold Ir at h;split at h
 ·rename_i e hs ht;split at h
  ·rename_i he;exact⟨e,hs,ht,he⟩
  ·cases h
 ·cases h
theorem OE{f:aL}{H:AH}{w:World}(hr:HR f H w){n:Nat}{vs:List Value}(hlen:vs.length=n){c:Bt AV}(hc:∀j a,c.get? j=some a→j<n∧∃v,vs[j]? = some v∧VR f a v)
  {H':AH}(hn:H'.n=H.n+1) (hnew:H'.at H.n=.cells c n 1) (hold:∀b,b≠H.n→H'.at b=H.at b){cap':Nat}(hcap:n≤cap'){rest:List Value}(hrest:rest.length=cap'-n) (e:TypeId) :
  ∃f',Step f H w f' H' (w.alloc (.cells (vs++rest).toArray e ((vs++rest).length,(vs++rest).length+1)))∧VR f' (.slice H.n 0 n n 1 false) (.slice (some ⟨w.heap.size,0,none⟩) n cap'):=by
 refine wV hr hn hnew hold (by simp[eB.sem,gU.own]) (vf:=λb=>.slice b 0 n n 1 false) ⟨(vs++rest).length,λi hi=>⟨?_,?_⟩⟩
 ·have hle:=f.pd hi w.heap.size 0 (vs++rest).length;refine⟨_,e,_,_,rfl,by simp,by simp[hlen],λj a hj=>?_,λ_ j hj=>by rw[aL.qg]at hj;rw[aL.je];omega,λh=>absurd h (by omega)⟩;obtain⟨h1,v,h2,h3⟩:=hc j a hj;refine⟨h1,v,?_,h3.up hle⟩;rw[aL.je,Nat.zero_add];simp only[List.getElem?_toArray];rw[List.getElem?_append_left (by omega),h2]
 ·have:=VR.slice (f:=f.ext i w.heap.size 0 (vs++rest).length) i 0 n n 1 false cap' 0 (aL.oK _ _ _ _ _) (Nat.le_refl _) hcap (λ_=>by rw[aL.je]) (λ_=>⟨rfl,by
   rw[aL.qg,List.length_append,hlen,hrest];omega⟩)
  rw[aL.hV]at this;exact this
theorem TA{H:AH}{o:Oper}{s t:TypeId}{x:Operand}(ho:o.op=.convert s t x)(ht:Ir P s t=true){ρ:Operand→AV}{k kp:AV→AH→Prop}
  (g:Jj (aE H) (ρ x) k):Js P o ρ H k kp:=by
 obtain⟨e,hs1,ht1,he1⟩:=Tz ht;obtain⟨n,y,e1,g⟩:=gM g;obtain⟨c,g,_,h2,h3⟩:=fB _ _ _ _ g;obtain⟨hm,g⟩:=aD g;have hlen:=Bn n y;rw[hlen,Nat.zero_add]at g h3;obtain⟨H',g,n1,n2,n3⟩:=lS g;refine .val _ H' g λf w a hr hg hst next Q hn=>?_;have hx:=hst x (by simp[ho,Op.operands]);rw[e1]at hx;obtain⟨ex,hlt⟩:=hx.jf;have hrun:=run_bytes_of_string (P:=P) w s t e (gf n y) hs1 ht1 he1;rw[SU]at hrun;have hvl:=Hq f n y
 let vs:List Value:=(jo n y).map λ(b:UInt8)=>Value.int .u8 (b.toNat:Int)
 let rest:List Value:=List.replicate (grownCap w n 0 e-n) (Value.int .u8 0)
 have hrow:bytesRow (gf n y) (grownCap w n 0 e)=(vs++rest).toArray:=by
  apply Array.ext';simp[bytesRow,vs,rest]
 have hl1:vs.length=n:=by simp[vs,gY]
 obtain⟨f',s1,s2⟩:=OE (gg.drew hr (w.drawn+1)) (vs:=vs) hl1 (c:=c) (λj a hj=>by
  rcases Nat.lt_or_ge j n with hj'|hj'
  ·have:=h2 j (by rw[hlen];exact hj');rw[Nat.zero_add]at this;rw[this]at hj;obtain⟨v,y1,y2⟩:=hvl.get j a hj;exact⟨hj',v,y1,y2⟩
  ·rw[h3 j (by omega)]at hj;cases hj) n1 n2 n3 (grownCap_ge w n 0 e) (rest:=rest) (by simp[rest]) e
 have aqJ:Did P o a w (.slice (some ⟨w.heap.size,0,none⟩) n (grownCap w n 0 e)) (({ w with drawn:=w.drawn+1 }:World).alloc (.cells (vs++rest).toArray e ((vs++rest).length,(vs++rest).length+1))):=by
  left;have e2:execOp a.eval o=(do pure (.value (←convert s t (a.eval x)))):=by simp only[execOp,ho]
  rw[e2,ex];simp only[Sem.run_bind,hrun,Result.andThen_ok,Sem.run_pure,hrow];simp only[List.size_toArray];rfl
 exact jM aqJ (hn f' _ _ (Step.trans hr (Step.drew hr (w.drawn+1)) s1) s2)
theorem tH{C:fb}(hC:ib P C){o:Oper}{ρ:Operand→AV}{G:Nat}{H:AH}{k kp:AV→AH→Prop}(h:sw C P G o ρ (aE H) H k kp):Js P o ρ H k kp:=by
 unfold sw at h;split at h
 ·rename_i c ho;split at h
  ·rename_i fo hc;split at h
   ·rename_i g hx;obtain rfl:=Tw hx;obtain⟨v,h1,h2⟩:=aic h;refine .val v H (fP (P:=P) (t:=o.type) (k:=λv=>k v H) h1) λf w a hr hg hs next Q hn=>?_;have hv:VL f (c.args.toList.map ρ) (c.args.map a.eval).toList:=by
     rw[Array.toList_map];exact VL.nJ λz hz=>hs z (by simp[ho,Op.operands,Call.operands,hc];right;simpa using hz)
    obtain⟨u,g3,g4⟩:=h2 f w _ hr hv;refine jM (.inl ?_) (hn f w u (Step.refl hr) g4);have:execOp a.eval o=callFunc g (c.args.map a.eval):=by simp[execOp,ho,resolve,hc,Act.eval,Deferred.ofValue,invoke]
    rw[this,g3]
   obtain⟨g,x,y,e,h⟩:=Bv h;obtain⟨hb,h⟩:=aD h;obtain⟨co,H',h1,h2⟩:=hC g _ H _ hb h;have ph:∀{f:aL}{a:Act}(w:World),Stand f o ρ a→∃vs:Array Value,VL f (x++(c.args.toList.map ρ++y)) vs.toList∧(execOp a.eval o).run P w=.ok (.enter g vs) w:=λ{f a} w hs=>by
    have hf:=hs fo (by simp[ho,Op.operands,Call.operands,hc]);rw[e]at hf;have hv:VL f (c.args.toList.map ρ) (c.args.toList.map a.eval):=VL.nJ λz hz=>hs z (by simp[ho,Op.operands,Call.operands,hc];right;simpa using hz);generalize hz:a.eval fo=z at hf;cases hf with
    |func _ _ _ us ws h1 h2=>
     refine⟨us.toArray++c.args.map a.eval++ws.toArray,by simp only[Array.toList_append,Array.toList_map];rw[List.append_assoc];exact h1.append (hv.append h2),?_⟩;simp[execOp,ho,resolve,hc,hz,Deferred.ofValue,invoke,yc hb]
   cases co with
   |ret v=>
    refine .val v H' (fP (P:=P) (t:=o.type) (k:=λv=>k v H') h1) λf w a hr hg hs next Q hn=>?_;obtain⟨vs,g1,g2⟩:=ph w hs;unfold Oper.wp;rw[g2,Oper.upon_enter];refine(h2 f w vs hr hg g1).mono λe w' hp=>?_;obtain⟨f',s,u,rfl,hu⟩:=hp;exact hn f' w' u s hu
   |cM v=>
    refine .cM v H' h1 λf w a hr hg hs next Q hn=>?_;obtain⟨vs,g1,g2⟩:=ph w hs;unfold Oper.wp;rw[g2,Oper.upon_enter];refine(h2 f w vs hr hg g1).mono λe w' hp=>?_;obtain⟨f',s,ch,rfl,hu⟩:=hp;exact hn f' w' ch s hu
  ·exact uL h
 ·rename_i x ho;unfold sd at h;split at h
  ·rename_i t v e;refine .cM _ H h λf w a hr _ hs next Q hn=>?_;have hx:=hs x (by simp[ho,Op.operands]);rw[e]at hx;generalize hz:a.eval x=z at hx;have hx':=hx;cases hx with
   |iface _ _ y hy=>
    have hrun:(execOp a.eval o).run P w=.halt (.panic (.iface t y)) w:=by simp[execOp,ho,hz,Instr.panic]
    unfold Oper.wp;rw[hrun,Oper.upon_panic];refine hn f w _ (Step.refl hr) ⟨.iface t y,[],rfl,?_,by simp⟩;rw[e];exact hx'
  ·exact h.elim
 ·rename_i s t x ho;rcases dI h with⟨ht,h⟩|⟨_,h⟩
  ·exact TA ho ht h
  ·exact uL h
 ·exact uL h
end
section
def iC(P:Program)(env:List AV)(ds:List eD)(H:AH)(K:Out→List AV→List eD→AH→Prop)(W:Act→World→(Exit→Act→World→Prop)→Prop):Prop:=
 ∃o env' ds' H',K o env' ds' H'∧∀f w a,HR f H w→AR P f env a→DR f ds a.defers→∀Q:Exit→Act→World→Prop,(∀e a' w',mJ P f H w o env' ds' H' e a' w'→Q e a' w')→W a w Q
variable {P:Program}
theorem mJ.after{f f1:aL}{H H1:AH}{w w1:World}(s:Step f H w f1 H1 w1){o:Out}{env:List AV}{ds:List eD}{H':AH}{e:Exit}{a:Act}{w':World}(h:mJ P f1 H1 w1 o env ds H' e a w'):mJ P f H w o env ds H' e a w':=by
 obtain⟨f',s',h⟩:=h;exact⟨f',gw.trans s s',h⟩
theorem put_defers(a:Act)(d:Option Tmp)(v:Value):(a.put d v).defers=a.defers:=by cases d<;>rfl
theorem Ju{ops:Array Oper}{env:List AV}{j:Nat}{v:AV}(hv:nU ops env j=v)(hp:v≠.dH) :
  ∃t,(ops[j]?).bind (·.dst)=some t∧env[t]? = some v:=by
 unfold nU at hv;split at hv
 ·rename_i t ht;refine⟨t,ht,?_⟩;rw[List.getD_eq_getElem?_getD]at hv;cases he:env[t]? with
  |none=>rw[he]at hv;exact absurd hv.symm hp
  |some x=>rw[he]at hv;exact congrArg some hv
 ·exact absurd hv.symm hp
theorem rN{f:aL}{ops:Array Oper}{env:List AV}{a:Act}(h:AR P f env a){j:Nat}{v:AV}(hv:nU ops env j=v)(hp:v≠.dH) :
  ∃u,VR f v u∧yielded ops a.tmps j=(match u with|.bool b=>some b|_=>none):=by
 obtain⟨t,h1,h2⟩:=Ju hv hp;obtain⟨u,h3,h4⟩:=h.tmps.get t v h2;rw[Array.getElem?_toList]at h3;refine⟨u,h4,?_⟩;unfold yielded;rw[h1,Option.bind_some,h3];cases u<;>rfl
theorem aid{ops:Array Oper}{env:List AV}{o:Oper}{j:Nat}{want:Bool}(hg:o.guard=some (j,want)){x y:Prop}(hk:Bs (nU ops env j) want x y) :
  (x∧∀f a,AR P f env a→Region.wanted o (yielded ops a.tmps)=true)∨(y∧∀f a,AR P f env a→Region.wanted o (yielded ops a.tmps)=false):=by
 generalize hv:nU ops env j=v at hk;cases v<;>try exact hk.elim
 case bool b=>
  have key:∀f a,AR P f env a→Region.wanted o (yielded ops a.tmps)=(b == want):=λf a h=>by
   obtain⟨u,h1,h2⟩:=rN h hv (by simp);cases h1;simp only[Region.wanted,hg,h2];cases b<;>cases want<;>rfl
  rcases dI (Ah hk)with⟨h1,h2⟩|⟨h1,h2⟩
  ·exact .inl ⟨h2,λf a h=>(key f a h).trans h1⟩
  ·exact .inr ⟨h2,λf a h=>(key f a h).trans h1⟩
 case aP l=>
  refine .inr ⟨hk,λf a h=>?_⟩;obtain⟨u,h1,h2⟩:=rN h hv (by simp);cases h1;simp only[Region.wanted,hg,h2];rfl
theorem Bw{ops:Array Oper}{env:List AV}{j:Nat}{want:Bool}{x y:List AV→Prop}(h:Bu ops env j want x y):Bs (nU ops env j) want (x env) (y env):=by
 have key:∀b,nU ops env j=.bool b→cJ env ((ops[j]?).bind (·.dst)) (.bool b)=env:=λb hb=>by
  obtain⟨t,h1,h2⟩:=Ju hb (by simp);rw[h1];simp only[cJ];apply List.ext_getElem?;intro i;rw[List.getElem?_set];split
  ·rename_i e;subst e;split
   ·exact h2.symm
   ·rename_i hl;rw[List.getElem?_eq_none (by omega)]
  ·rfl
 unfold Bu at h;split at h
 ·rename_i b hb;rw[hb];cases b<;>cases want<;>simp only[bI,key _ hb]at h<;>exact h
 ·rename_i l hl;rw[hl];exact h
 ·exact h.elim
theorem AR.stand{f:aL}{env:List AV}{a:Act}(h:AR P f env a)(o:Oper):Stand f o (fy P.globals.size env) a:=λx _=>vg h x
theorem iC.opV{o:Oper}{env:List AV}{ds:List eD}{H:AH}{K:Out→List AV→List eD→AH→Prop}{k:AV→AH→Prop}{W:Act→World→(Exit→Act→World→Prop)→Prop}
  {N:(Exit→Act→World→Prop)→Act→World→Prop}(h:Js P o (fy P.globals.size env) H k (λv H=>K (.cM v) env ds H))
  (hk:∀v H',k v H'→iC P (cJ env o.dst v) ds H' K λa w Q=>N Q a w)
  (hW:∀f a w Q,AR P f env a→o.wp P a w (N Q) Q→W a w Q):iC P env ds H K W:=by
 cases h with
 |val v H' h g=>
  obtain⟨ot,env',ds',H2,h1,h2⟩:=hk v H' h;refine⟨ot,env',ds',H2,h1,λf w a hr ha hd Q hQ=>hW f a w Q ha (g f w a hr ha.glob (ha.stand o) _ _ λf' w' u s hu=>?_)⟩;exact h2 f' w' _ s.rel ((ha.up s.le).put o.dst hu) (by rw[put_defers];exact hd.up s.le) Q λe a' w'' hx=>hQ e a' w'' (hx.after s)
 |cM v H' h g=>
  refine⟨.cM v,env,ds,H',h,λf w a hr ha hd Q hQ=>hW f a w Q ha (g f w a hr ha.glob (ha.stand o) _ _ λf' w' ch s hp=>?_)⟩;exact hQ _ _ _ ⟨f',s,ha.up s.le,hd.up s.le,ch,rfl,hp⟩
theorem afq{o:Oper}{c:Call}(ho:o.op=.defer c){fo:Operand}(hc:c.callee=.value fo){f:aL}{env:List AV}{a:Act}(ha:AR P f env a){g:Nat}{x y:List AV}(e:fy P.globals.size env fo=.func g x y)(w:World) :
  ∃d,(execOp a.eval o).run P w=.ok (.defer d) w∧∀ds,DR f ds a.defers→DR f (⟨g,x++(c.args.toList.map (fy P.globals.size env)++y)⟩::ds) (d::a.defers):=by
 have hs:=ha.stand o;have hf:=hs fo (by simp[ho,Op.operands,Call.operands,hc]);rw[e]at hf;have hv:VL f (c.args.toList.map (fy P.globals.size env)) (c.args.toList.map a.eval):=VL.nJ λz hz=>hs z (by simp[ho,Op.operands,Call.operands,hc];right;simpa using hz);generalize hz:a.eval fo=z at hf;cases hf with
 |func _ _ _ us ws h1 h2=>
  refine⟨⟨.fn (.func g) ws.toArray,us.toArray++c.args.map a.eval⟩,by simp[execOp,ho,resolve,hc,hz,Deferred.ofValue],λds hd=>.cons g _ _ _ ds _ ?_ hd⟩;simp only[Array.toList_append,Array.toList_map];rw[List.append_assoc];exact h1.append (hv.append h2)
theorem uM{ops:Array Oper}{rest:List Oper}{o:Oper}{a:Act}{w:World}{Q:Exit→Act→World→Prop}(hw:Region.wanted o (yielded ops a.tmps)=true)(h:o.wp P a w (wpList P ops Q rest) Q):wpList P ops Q (o::rest) a w:=by
 unfold wpList;rw[if_pos hw];exact .inl h
theorem OF{ops:Array Oper}{rest:List Oper}{o:Oper}{a:Act}{w:World}{Q:Exit→Act→World→Prop}(hw:Region.wanted o (yielded ops a.tmps)=false)(h:wpList P ops Q rest (a.put o.dst undef) w):wpList P ops Q (o::rest) a w:=by
 unfold wpList;rw[if_neg (by rw[hw];simp)];exact h
theorem oP{C:fb}(hC:ib P C){ops:Array Oper}{K:Out→List AV→List eD→AH→Prop}:∀(rest:List Oper) (env:List AV) (ds:List eD) (H:AH),
  sy C P P.globals.size ops rest env ds H K→iC P env ds H K λa w Q=>wpList P ops Q rest a w
 |[],env,ds,H,h=>⟨.normal,env,ds,H,h,λf w a hr ha hd Q hQ=>wpList_nil (hQ _ _ _ ⟨f,Step.refl hr,ha,hd,rfl⟩)⟩
 |o::rest,env,ds,H,h=>by
  unfold sy at h;split at h
  ·rename_i hg;have hw:∀t,Region.wanted o t=true:=λt=>by simp[Region.wanted,hg]
   unfold agt at h;split at h
   ·rename_i c ho;split at h
    ·rename_i fo hc;obtain⟨g,x,y,e,hh⟩:=Bv h;obtain⟨hb,hh⟩:=aD hh;obtain⟨ot,env',ds',H2,h1,h2⟩:=oP hC rest _ _ _ hh;refine⟨ot,env',ds',H2,h1,λf w a hr ha hd Q hQ=>uM (hw _) ?_⟩;obtain⟨d,g1,g2⟩:=afq ho hc ha e w;unfold Oper.wp;rw[g1,Oper.upon_defer];have ha':AR P f env { a with defers:=d::a.defers }:=ha.defers _;refine h2 f w _ hr (ha'.put o.dst (VR.undef f)) ?_ Q hQ;rw[put_defers];exact g2 ds hd
    ·exact h.elim
   ·refine iC.opV (tH hC h) (λv H' hk=>oP hC rest _ _ _ hk) (λf a w Q ha hh=>uM (hw _) hh)
  ·rename_i j want hg;obtain⟨_,h⟩:=aD h;rcases aid (P:=P) hg (Bw h)with⟨h,hw⟩|⟨h,hw⟩
   ·exact iC.opV (tH hC h) (λv H' hk=>oP hC rest _ _ _ hk) (λf a w Q ha hh=>uM (hw f a ha) hh)
   ·obtain⟨ot,env',ds',H2,h1,h2⟩:=oP hC rest _ _ _ h;refine⟨ot,env',ds',H2,h1,λf w a hr ha hd Q hQ=>OF (hw f a ha) ?_⟩;exact h2 f w _ hr (ha.put o.dst (VR.undef f)) (by rw[put_defers];exact hd) Q hQ
end
section
abbrev KT:=Out→List AV→List eD→AH→Prop
abbrev ET:=Code→List AV→List eD→AH→KT→Prop
abbrev DT:=Array Oper→List AV→List eD→AH→KT→Prop
def qG(P:Program)(D:DT):Prop:=∀id ops env ds H K,D ops env ds H K→iC P env ds H K λa w Q=>(Code.region id ops true).wp P Q a w
section
def QQ(k:List AV→List eD→AH→Prop)(K:KT):KT:=λo env ds H=>match o with|.normal=>k env ds H|o=>K o env ds H
def akr(id:Nat)(K:KT):KT:=λo env ds H=>match o with|.exit i=>bI (Nat.beq i id) (K .normal env ds H) (K (.exit i) env ds H)|o=>K o env ds H
def agu(x:ET)(c:Code)(n:Nat):List AV→List eD→AH→KT→Prop:=
 Nat.rec (motive:=λ_=>List AV→List eD→AH→KT→Prop) (λ_ _ _ _=>False) (λ_ ih env ds H K=>x c env ds H (QQ (λenv ds H=>ih env ds H K) K)) n
def Jv(o:Option Code)(k:Code→Prop)(x:Prop):Prop:=match o with|some r=>k r|none=>x
def TB(x:ET)(c:Code)(n:Nat):ET:=
 Nat.rec (motive:=λ_=>ET) (λ_ _ _ _ _=>False) (λ_ ih r env ds H K=>x r env ds H λo env ds H=>match o with|.goto l=>Jv (findLabel c l) (λr=>ih r env ds H K) (K (.goto l) env ds H)|o=>K o env ds H) n
def QR(C:fb)(D:DT)(P:Program)(G N:Nat)(ih:ET):ET:=λc env ds H K=>
 match c with
 |.skip=>K .normal env ds H
 |.region _ ops draw=>bI draw (D ops env ds H K) (sy C P G ops ops.toList env ds H K)
 |.seq a b=>ih a env ds H (QQ (λenv ds H=>ih b env ds H K) K)
 |.cond c a b=>kG (fy G env c) (ih a env ds H K) (ih b env ds H K)
 |.block id c=>ih c env ds H (akr id K)
 |.loop c=>agu ih c N env ds H K
 |.exit id=>K (.exit id) env ds H
 |.goto l=>K (.goto l) env ds H
 |.label _=>K .normal env ds H
 |.scope c=>TB ih c N c env ds H K
 |.ret=>K .ret env ds H
 |_=>False
def exec(C:fb)(D:DT)(P:Program)(G N:Nat)(d:Nat):ET:=Nat.rec (motive:=λ_=>ET) (λ_ _ _ _ _=>False) (λ_ ih=>QR C D P G N ih) d
end
variable {P:Program}
def LI(P:Program)(c:Code)(Q:Exit→Act→World→Prop):Nat→Act→World→Prop
 |0,_,_=>False
 |n+1,a,w=>c.wp P (Exit.then (LI P c Q n) Q) a w
theorem least{p:Nat→Prop}(h:∃n,p n):∃n,p n∧∀m,p m→n≤m:=by
 obtain⟨n,hn⟩:=h
 induction n using Nat.strongRecOn with
 |_ n ih=>
  by_cases h:∃m,m<n∧p m
  ·obtain⟨m,h1,h2⟩:=h;exact ih m h1 h2
  ·exact⟨n,hn,λm hm=>Nat.le_of_not_lt λhl=>h ⟨m,hl,hm⟩⟩
open Classical in
noncomputable def yd(p:Nat→Prop):Nat:=if h:∃n,p n then (least h).choose else 0
theorem Ai{p:Nat→Prop}(h:∃n,p n):p (yd p)∧∀m,p m→yd p≤m:=by
 unfold yd;rw[dif_pos h];exact(least h).choose_spec
theorem wp_loop_rounds{c:Code}{Q:Exit→Act→World→Prop}{n:Nat}{a:Act}{w:World}(h:LI P c Q n a w):(Code.loop c).wp P Q a w:=by
 refine wp_loop (λa w=>∃n,LI P c Q n a w) (λa w=>yd λn=>LI P c Q n a w) ⟨n,h⟩ λa w hI=>?_;obtain⟨h1,h2⟩:=Ai hI;generalize yd (λn=>LI P c Q n a w)=m at h1 h2;cases m with
 |zero=>exact h1.elim
 |succ m=>
  refine Code.wp_mono (λe a' w' q=>?_) h1;cases e<;>try exact q
  have q:LI P c Q m a' w':=q;exact⟨⟨m,q⟩,Nat.lt_succ_of_le ((Ai ⟨m,q⟩).2 m q)⟩
def xK(P:Program)(c:Code)(Q:Exit→Act→World→Prop):Nat→Code→Act→World→Prop
 |0,_,_,_=>False
 |n+1,r,a,w=>r.wp P (λe a w=>match e with|.goto l=>(match findLabel c l with|some r'=>xK P c Q n r' a w|none=>Q (.goto l) a w)|e=>Q e a w) a w
theorem tI{c:Code}{Q:Exit→Act→World→Prop}{n:Nat}{a:Act}{w:World}(h:xK P c Q n c a w):(Code.scope c).wp P Q a w:=by
 intro b k cs;have key:∀n r a w,xK P c Q n r a w→∃e a' w',Q e a' w'∧Arrives P (lone (b.at a (.code r :: .inScope c::k)) cs w) b k cs e a' w':=by
  intro n
  induction n with
  |zero=>exact λr a w h=>h.elim
  |succ n ih=>
   intro r a w h;obtain⟨e,a₁,w₁,hq,harr⟩:=h b (.inScope c::k) cs;cases e with
   |normal=>exact⟨.normal,a₁,w₁,hq,Steps.trans harr (.one step_inScope)⟩
   |exit id=>exact⟨.exit id,a₁,w₁,hq,λk' hk=>harr k' (by simp[exitTo,hk])⟩
   |goto l=>
    simp only at hq;split at hq
    ·rename_i r' hf;obtain⟨e₂,a₂,w₂,hq₂,harr₂⟩:=ih r' a₁ w₁ hq;exact⟨e₂,a₂,w₂,hq₂,.of_steps (harr _ (by simp[gotoIn,hf])) harr₂⟩
    ·rename_i hf;exact⟨.goto l,a₁,w₁,hq,λk' hk=>harr k' (by simp[gotoIn,hf,hk])⟩
   |ret=>exact⟨_,a₁,w₁,hq,harr⟩
   |panic ch=>exact⟨_,a₁,w₁,hq,harr⟩
   |outgrown=>exact⟨_,a₁,w₁,hq,harr⟩
 obtain⟨e,a',w',q,harr⟩:=key n c a w h;exact⟨e,a',w',q,.of_steps (.one step_scope) harr⟩
variable {env:List AV}{ds:List eD}{H:AH}{K:KT}
def Pc:Out→Exit→Prop
 |.normal,e=>e=.normal
 |.exit id,e=>e=.exit id
 |.goto l,e=>e=.goto l
 |.ret,e=>e=.ret
 |.cM _,e=>∃ch,e=.panic ch
theorem mJ.Pc{f:aL}{w:World}{o:Out}{H':AH}{e:Exit}{a:Act}{w':World}(h:mJ P f H w o env ds H' e a w'):Pc o e:=by
 obtain⟨f',s,h1,h2,h3⟩:=h;cases o<;>first|exact h3|(obtain⟨ch,h3,_⟩:=h3;exact⟨ch,h3⟩)
theorem iC.done{o:Out}{W:Act→World→(Exit→Act→World→Prop)→Prop}(h:K o env ds H)(e:Exit)(he:o=.normal∧e=.normal∨(∃i,o=.exit i∧e=.exit i)∨(∃l,o=.goto l∧e=.goto l)∨o=.ret∧e=.ret)
  (hW:∀a w Q,Q e a w→W a w Q):iC P env ds H K W:=
 ⟨o,env,ds,H,h,λf w a hr ha hd Q hQ=>hW a w Q (hQ _ _ _ ⟨f,Step.refl hr,ha,hd,by rcases he with⟨rfl,rfl⟩|⟨i,rfl,rfl⟩|⟨l,rfl,rfl⟩|⟨rfl,rfl⟩<;>rfl⟩)⟩
theorem iC.mono{K':KT}{W W':Act→World→(Exit→Act→World→Prop)→Prop}(h:iC P env ds H K W)(hW:∀f a w Q,AR P f env a→W a w Q→W' a w Q)(hK:∀o env ds H,K o env ds H→K' o env ds H):iC P env ds H K' W':=by
 obtain⟨o,env',ds',H',h1,h2⟩:=h;exact⟨o,env',ds',H',hK _ _ _ _ h1,λf w a hr ha hd Q hQ=>hW f a w Q ha (h2 f w a hr ha hd Q hQ)⟩
theorem iC.bind{K':KT}{V W:Act→World→(Exit→Act→World→Prop)→Prop}(h:iC P env ds H K' V)(U:Exit→Act→World→(Exit→Act→World→Prop)→Prop)
  (hk:∀o dL ds1 H1,K' o dL ds1 H1→(K o dL ds1 H1∧∀e a w Q,Go.X.Pc o e→Q e a w→U e a w Q)∨(∃e,(∀e',Go.X.Pc o e'→e'=e)∧iC P dL ds1 H1 K (U e)))
  (hW:∀a w Q,V a w (λe a' w'=>U e a' w' Q)→W a w Q):iC P env ds H K W:=by
 obtain⟨o,dL,ds1,H1,h1,h2⟩:=h;rcases hk _ _ _ _ h1 with⟨g1,g2⟩|⟨e,he,o2,dd,ds2,H2,g1,g2⟩
 ·exact⟨o,dL,ds1,H1,g1,λf w a hr ha hd Q hQ=>hW a w Q (h2 f w a hr ha hd _ λe a' w' hx=>g2 e a' w' Q hx.Pc (hQ _ _ _ hx))⟩
 ·refine⟨o2,dd,ds2,H2,g1,λf w a hr ha hd Q hQ=>hW a w Q (h2 f w a hr ha hd _ λe' a' w' hx=>?_)⟩;rw[he e' hx.Pc];obtain⟨f',s,ha',hd',_⟩:=hx;exact g2 f' w' a' s.rel ha' hd' Q λe a'' w'' hx=>hQ _ _ _ (hx.after s)
theorem Jw{k:List AV→List eD→AH→Prop}{V W U:Act→World→(Exit→Act→World→Prop)→Prop}(h:iC P env ds H (QQ k K) V)
  (hk:∀env ds H,k env ds H→iC P env ds H K U)
  (hW:∀a w Q,V a w (Exit.then (λa w=>U a w Q) Q)→W a w Q):iC P env ds H K W:=by
 refine iC.bind h (λe a w Q=>Exit.then (λa w=>U a w Q) Q e a w) (λo dL ds1 H1 hh=>?_) (λa w Q hh=>hW a w Q hh);cases o with
 |normal=>exact .inr ⟨.normal,λe' h=>h,hk _ _ _ hh⟩
 |exit id=>exact .inl ⟨hh,λe a w Q he hq=>by cases he;exact hq⟩
 |goto l=>exact .inl ⟨hh,λe a w Q he hq=>by cases he;exact hq⟩
 |ret=>exact .inl ⟨hh,λe a w Q he hq=>by cases he;exact hq⟩
 |cM v=>exact .inl ⟨hh,λe a w Q he hq=>by obtain⟨ch,rfl⟩:=he;exact hq⟩
def ye(P:Program)(x:ET):Prop:=∀c env ds H K,x c env ds H K→iC P env ds H K λa w Q=>c.wp P Q a w
theorem Jx{x:ET}(hx:ye P x)(c:Code):∀n env ds H,agu x c n env ds H K→iC P env ds H K λa w Q=>LI P c Q n a w
 |0,_,_,_,h=>h.elim
 |n+1,env,ds,H,h=>Jw (hx c env ds H _ h) (λenv ds H h=>Jx hx c n env ds H h) (λ_ _ _ h=>h)
theorem Hu{x:ET}(hx:ye P x)(c:Code):∀n r env ds H,TB x c n r env ds H K→iC P env ds H K λa w Q=>xK P c Q n r a w
 |0,_,_,_,_,h=>h.elim
 |n+1,r,env,ds,H,h=>by
  refine iC.bind (hx r env ds H _ h) (λe a w Q=>match e with|.goto l=>(match findLabel c l with|some r'=>xK P c Q n r' a w|none=>Q (.goto l) a w)|e=>Q e a w) (λo dL ds1 H1 hh=>?_) (λa w Q hh=>hh);cases o with
  |normal=>exact .inl ⟨hh,λe a w Q he hq=>by cases he;exact hq⟩
  |exit id=>exact .inl ⟨hh,λe a w Q he hq=>by cases he;exact hq⟩
  |ret=>exact .inl ⟨hh,λe a w Q he hq=>by cases he;exact hq⟩
  |cM v=>exact .inl ⟨hh,λe a w Q he hq=>by obtain⟨ch,rfl⟩:=he;exact hq⟩
  |goto l=>
   simp only at hh;cases hf:findLabel c l with
   |none=>
    rw[hf]at hh;exact .inl ⟨hh,λe a w Q he hq=>by cases he;simp only[hf];exact hq⟩
   |some r'=>
    rw[hf]at hh;refine .inr ⟨.goto l,λe' h=>h,?_⟩;simp only[hf];exact Hu hx c n r' dL ds1 H1 hh
theorem afr{C:fb}(hC:ib P C){D:DT}(hD:qG P D){N:Nat}{x:ET}(hx:ye P x):ye P (QR C D P P.globals.size N x):=by
 intro c env ds H K h;unfold QR at h;cases c with
 |skip=>exact iC.done h .normal (.inl ⟨rfl,rfl⟩) λa w Q h=>wp_skip h
 |region id ops draw=>
  rcases dI h with⟨rfl,h⟩|⟨rfl,h⟩
  ·exact hD id ops env ds H K h
  ·exact(oP hC _ _ _ _ h).mono (λf a w Q _ h=>wp_region_list h) λ_ _ _ _ h=>h
 |seq a b=>exact Jw (hx a env ds H _ h) (λenv ds H h=>hx b env ds H K h) λa w Q h=>wp_seq h
 |cond c a b=>
  have h:kG (fy P.globals.size env c) (x a env ds H K) (x b env ds H K):=h;generalize hv:fy P.globals.size env c=v at h;cases v<;>try exact h.elim
  case bool t=>
   have hc:∀{f:aL}{a:Act},AR P f env a→a.eval c=.bool t:=λ{f act} ha=>by
    have:=vg ha c;rw[hv]at this;generalize act.eval c=u at this;cases this;rfl
   cases t
   ·exact(hx b env ds H K h).mono (λf a w Q ha h=>wp_cond (hc ha) h) λ_ _ _ _ h=>h
   ·exact(hx a env ds H K h).mono (λf a w Q ha h=>wp_cond (hc ha) h) λ_ _ _ _ h=>h
 |block id c=>
  refine iC.bind (hx c env ds H _ h) (λe a w Q=>Exit.inBlock id Q e a w) (λo dL ds1 H1 hh=>?_) (λa w Q hh=>wp_block hh);cases o with
  |normal=>exact .inl ⟨hh,λe a w Q he hq=>by cases he;exact hq⟩
  |exit i=>
   rcases dI hh with⟨hi,hh⟩|⟨hi,hh⟩
   ·refine .inr ⟨.exit i,λe' h=>h,iC.done hh .normal (.inl ⟨rfl,rfl⟩) λa w Q hq=>?_⟩;simp only[Exit.inBlock];rw[if_pos (Nat.eq_of_beq_eq_true hi)];exact hq
   ·refine .inl ⟨hh,λe a w Q he hq=>?_⟩;cases he;simp only[Exit.inBlock];rw[if_neg (λe=>by subst e;simp at hi)];exact hq
  |goto l=>exact .inl ⟨hh,λe a w Q he hq=>by cases he;exact hq⟩
  |ret=>exact .inl ⟨hh,λe a w Q he hq=>by cases he;exact hq⟩
  |cM v=>exact .inl ⟨hh,λe a w Q he hq=>by obtain⟨ch,rfl⟩:=he;exact hq⟩
 |loop c=>exact(Jx hx c N env ds H h).mono (λf a w Q _ h=>wp_loop_rounds h) λ_ _ _ _ h=>h
 |exit id=>exact iC.done h (.exit id) (.inr (.inl ⟨id,rfl,rfl⟩)) λa w Q h=>wp_exit h
 |goto l=>exact iC.done h (.goto l) (.inr (.inr (.inl ⟨l,rfl,rfl⟩))) λa w Q h=>wp_goto h
 |label l=>exact iC.done h .normal (.inl ⟨rfl,rfl⟩) λa w Q h=>wp_label h
 |scope c=>exact(Hu hx c N c env ds H h).mono (λf a w Q _ h=>tI h) λ_ _ _ _ h=>h
 |ret=>exact iC.done h .ret (.inr (.inr (.inr ⟨rfl,rfl⟩))) λa w Q h=>wp_ret h
 |rangeFunc=>exact h.elim
 |refuse=>exact h.elim
theorem Pd{C:fb}(hC:ib P C){D:DT}(hD:qG P D){N:Nat}:∀d,ye P (exec C D P P.globals.size N d)
 |0=>λ_ _ _ _ _ h=>h.elim
 |d+1=>afr hC hD (Pd hC hD d)
end
section
inductive ga where
 |ret
 |cM (v:AV)
 |caught (v:AV)
abbrev KD:=lT→ga→AH→Prop
abbrev vh:=Nat→List AV→ga→AH→KD→Prop
abbrev KR:=Out→ga→List AV→List eD→AH→Prop
def TC(P:Program)(env:List AV)(H:AH)(r:ResultVar)(k:AV→Prop):Prop:=match r with|.tmp t=>k (env.getD t eS)|.cell a t=>Il P t (env.getD a eS) H k
def afs(P:Program)(env:List AV)(H:AH):List ResultVar→(List AV→Prop)→Prop
 |[],k=>k []
 |r::rs,k=>TC P env H r λv=>afs P env H rs λl=>k (v::l)
def QS(P:Program)(fn:Func)(env:List AV)(H:AH)(k:AV→Prop):Prop:=afs P env H fn.results.toList λl=>match l with|[v]=>k v|l=>k (.aP l)
def aie:ga→ga
 |.caught _=>.ret
 |u=>u
def Bx(o:lT)(u:ga):ga:=match o with|.ret _=>aie u|.cM v=>.cM v
def oQ(P:Program)(CD:vh)(fn:Func)(env:List AV):List eD→ga→AH→(lT→AH→Prop)→Prop
 |[],.ret,H,K=>QS P fn env H λv=>K (.ret v) H
 |[],.cM v,H,K=>K (.cM v) H
 |[],.caught _,_,_=>False
 |d::ds,u,H,K=>bT (fX P d.g) (CD d.g d.args u H λo u' H'=>oQ P CD fn env ds (Bx o u') H' K)
def QT(P:Program)(CD:vh)(fn:Func)(K:lT→AH→Prop):KT:=λo env ds H=>match o with|.normal=>oQ P CD fn env ds .ret H K|.ret=>oQ P CD fn env ds .ret H K|.cM v=>oQ P CD fn env ds (.cM v) H K|_=>False
def GB(P:Program)(fn:Func)(K:KD):KR:=λo M env ds H=>match ds with|[]=>(match o with|.normal=>QS P fn env H λv=>K (.ret v) M H|.ret=>QS P fn env H λv=>K (.ret v) M H|.cM v=>K (.cM v) M H|_=>False)|_=>False
def isRecover(o:Oper):Bool:=match o.op with|.call c=>(match c.callee with|.builtin .recover=>true|_=>false)|_=>false
def aks(M:ga)(k:AV→ga→Prop):Prop:=match M with|.cM v=>k v (.caught v)|M=>k .ji M
def vi(C:fb)(P:Program)(G:Nat)(ops:Array Oper):List Oper→ga→List AV→List eD→AH→KR→Prop
 |[],M,env,ds,H,K=>K .normal M env ds H
 |o::rest,M,env,ds,H,K=>bT (o.guard.isNone && !(zo o)) (bI (isRecover o) (aks M λv M'=>vi C P G ops rest M' (cJ env o.dst v) ds H K)
   (sw C P G o (fy G env) (aE H) H (λv H'=>vi C P G ops rest M (cJ env o.dst v) ds H' K) (λv H=>K (.cM v) M env ds H)))
def apu(k:ga→List AV→List eD→AH→Prop)(K:KR):KR:=λo M env ds H=>match o with|.normal=>k M env ds H|o=>K o M env ds H
abbrev RT:=Code→ga→List AV→List eD→AH→KR→Prop
def Jy(C:fb)(x:ET)(P:Program)(G:Nat)(ih:RT):RT:=λc M env ds H K=>
 match c with
 |.seq a b=>ih a M env ds H (apu (λM env ds H=>ih b M env ds H K) K)
 |.cond c a b=>kG (fy G env c) (ih a M env ds H K) (ih b M env ds H K)
 |.region _ ops false=>vi C P G ops ops.toList M env ds H K
 |c=>x c env ds H λo env ds H=>K o M env ds H
def agv(C:fb)(x:ET)(P:Program)(G d:Nat):RT:=Nat.rec (motive:=λ_=>RT) (λ_ _ _ _ _ _=>False) (λ_ ih=>Jy C x P G ih) d
def QV(P:Program)(g:Nat)(k:Func→Code→Prop):Prop:=match P.funcs[g]? with|some fn=>(match fn.body with|some c=>k fn c|none=>False)|none=>False
def bz(fn:Func)(args:List AV):List AV:=args++List.replicate (fn.ntmps-args.length) eS
def QW(C:fb)(x:ET)(P:Program)(G d:Nat):vh:=λg args M H K=>QV P g λfn c=>agv C x P G d c M (bz fn args) [] H (GB P fn K)
def QX(C:fb)(D:DT)(P:Program)(G N d:Nat):fb:=λg args H K=>
 QV P g λfn c=>exec C D P G N d c (bz fn args) [] H (QT P (QW C (exec C D P G N d) P G d) fn K)
variable {P:Program}
def MR(f:aL):ga→FrameMode→Prop
 |.ret,u=>u=.returning
 |.cM v,u=>∃ch,u=.panicking ch∧xc f v ch
 |.caught v,u=>∃x older,u=.panicking ({ v:=x,recovered:=true }::older)∧VR f v x∧∀y∈older,y.goexit=false
theorem MR.up{f f':aL}(h:f.le f'){M:ga}{u:FrameMode}(m:MR f M u):MR f' M u:=by
 cases M with
 |ret=>exact m
 |cM v=>obtain⟨ch,h1,x,older,h2,h3,h4⟩:=m;exact⟨ch,h1,x,older,h2,h3.up h,h4⟩
 |caught v=>obtain⟨x,older,h1,h2,h3⟩:=m;exact⟨x,older,h1,h2.up h,h3⟩
theorem MR.ne{f:aL}{M:ga}{u:FrameMode}(m:MR f M u):u≠.run:=by
 cases M with
 |ret=>cases m;simp
 |cM v=>obtain⟨ch,rfl,_⟩:=m;simp
 |caught v=>obtain⟨x,older,rfl,_⟩:=m;simp
def Jz(f:aL)(H:AH)(w:World)(o:lT)(M:ga)(H':AH):Ending→FrameMode→World→Prop:=λe u' w'=>
 ∃f',Step f H w f' H' w'∧MR f' M u'∧match o with
  |.ret v=>∃u,e=.returned u∧VR f' v u
  |.cM v=>∃ch,e=.panicked ch∧xc f' v ch
def GC(P:Program)(CD:vh):Prop:=∀g args M H K,fX P g=true→CD g args M H K→∃o M' H',K o M' H'∧∀f w (vs:Array Value) u,HR f H w→(∀g,g<P.globals.size→f.dom g∧f.blk g=g∧f.off g=0)→VL f args vs.toList→MR f M u→CallsD P g vs u w (Jz f H w o M' H')
theorem Pe{f:aL}{env:List AV}{a:Act}(h:AR P f env a)(t:Tmp):VR f (env.getD t eS) (a.tmps.getD t undef):=vg h (.tmp t)
def yf(tmps:Array Value):ResultVar→Sem Value
 |.tmp t=>pure (tmps.getD t undef)
 |.cell x t=>do loadVar t (←asAddr (tmps.getD x undef))
theorem QY(fn:Func)(tmps:Array Value):results fn tmps=(do let vs ←fn.results.mapM (yf tmps);pure (if h:vs.size=1 then vs[0] else .tuple vs)):=by
 have:yf tmps=(fun|.tmp t=>pure (tmps.getD t undef)|.cell a t=>do loadVar t (←asAddr (tmps.getD a undef)):ResultVar→Sem Value):=by
  funext r;cases r<;>rfl
 rw[this];rfl
theorem TD{env:List AV}{H:AH}{r:ResultVar}{k:AV→Prop}(h:TC P env H r k) :
  ∃v,k v∧∀f w a,HR f H w→AR P f env a→∃u,(yf a.tmps r).run P w=.ok u w∧VR f v u:=by
 cases r with
 |tmp t=>exact⟨_,h,λf w a _ ha=>⟨_,rfl,Pe ha t⟩⟩
 |cell x t=>
  obtain⟨v,h1,h2⟩:=Je h;refine⟨v,h1,λf w a hr ha=>?_⟩;obtain⟨u,g1,g2⟩:=h2 f w _ hr.toHRQ (Pe ha x);refine⟨u,?_,g2⟩;simp only[yf];generalize a.tmps.getD x undef=z at g1;simp only[Instr.loadAt]at g1;cases z with
  |pointer p=>
   cases p with
   |none=>simp[Instr.sureAddr]at g1
   |some p=>simpa[Instr.sureAddr,asAddr]using g1
  |_=>simp[Instr.sureAddr]at g1
theorem Pf{env:List AV}{H:AH}:∀{rs:List ResultVar}{k:List AV→Prop},afs P env H rs k→
  ∃l,k l∧∀f w a,HR f H w→AR P f env a→∃us,(rs.mapM (yf a.tmps)).run P w=.ok us w∧VL f l us
 |[],k,h=>⟨[],h,λf w a _ _=>⟨[],by simp,.nil⟩⟩
 |r::rs,k,h=>by
  obtain⟨v,h1,h2⟩:=TD h;obtain⟨l,g1,g2⟩:=Pf h1;refine⟨v::l,g1,λf w a hr ha=>?_⟩;obtain⟨u,x1,x2⟩:=h2 f w a hr ha;obtain⟨us,y1,y2⟩:=g2 f w a hr ha;exact⟨u::us,by simp only[List.mapM_cons,Sem.run_bind,x1,y1,Result.andThen_ok,Sem.run_pure],.cons _ _ _ _ x2 y2⟩
def one1(l:List AV):AV:=match l with|[v]=>v|l=>.aP l
theorem GD{fn:Func}{env:List AV}{H:AH}{k:AV→Prop}(h:QS P fn env H k) :
  ∃v,k v∧∀f w a,HR f H w→AR P f env a→∃u,(results fn a.tmps).run P w=.ok u w∧VR f v u:=by
 obtain⟨l,h1,h2⟩:=Pf h;have hk:k (one1 l):=by
  match l,h1 with
  |[],h1=>exact h1
  |[v],h1=>exact h1
  |v::v2::l,h1=>exact h1
 refine⟨_,hk,λf w a hr ha=>?_⟩;obtain⟨us,g1,g2⟩:=h2 f w a hr ha;refine⟨if h:us.toArray.size=1 then us.toArray[0] else .tuple us.toArray,?_,?_⟩
 ·rw[QY,Array.mapM_eq_mapM_toList];simp only[Sem.run_bind,map_eq_pure_bind,bind_assoc,pure_bind];rw[g1];rfl
 ·cases g2 with
  |nil=>exact .aP [] [] .nil
  |cons v u l us y1 y2=>
   cases y2 with
   |nil=>exact y1
   |cons v2 u2 l us y3 y4=>exact .aP (v::v2::l) (u::u2::us) (.cons _ _ _ _ y1 (.cons _ _ _ _ y3 y4))
def yg(P:Program)(f:aL)(H:AH)(w:World)(o:Out)(M:ga)(env:List AV)(ds:List eD)(H':AH):Exit→Act→FrameMode→World→Prop:=λe a u w'=>
 ∃f',Step f H w f' H' w'∧AR P f' env a∧DR f' ds a.defers∧MR f' M u∧match o with
  |.normal=>e=.normal
  |.exit id=>e=.exit id
  |.goto l=>e=.goto l
  |.ret=>e=.ret
  |.cM v=>∃ch,e=.panic ch∧xc f' v ch
theorem yg.after{f f1:aL}{H H1:AH}{w w1:World}(s:Step f H w f1 H1 w1){o:Out}{M:ga}{env:List AV}{ds:List eD}{H':AH}{e:Exit}{a:Act}{u:FrameMode}{w':World}(h:yg P f1 H1 w1 o M env ds H' e a u w'):yg P f H w o M env ds H' e a u w':=by
 obtain⟨f',s',h⟩:=h;exact⟨f',gw.trans s s',h⟩
abbrev PS:=Exit→Act→List Frame→World→Prop
def GF(P:Program)(M:ga)(env:List AV)(ds:List eD)(H:AH)(K:KR)(W:Act→List Frame→World→PS→Prop):Prop:=
 ∃o M' env' ds' H',K o M' env' ds' H'∧∀f w a c₀ cs u,HR f H w→AR P f env a→DR f ds a.defers→MR f M u→c₀.mode=u→∀Q:PS,(∀e a' u' w',yg P f H w o M' env' ds' H' e a' u' w'→Q e a' ({ c₀ with mode:=u' }::cs) w')→W a (c₀::cs) w Q
theorem qH{c₀:Frame}{u:FrameMode}(h:c₀.mode=u):({ c₀ with mode:=u }:Frame)=c₀:=by subst h;rfl
def ic(P:Program)(ops:Array Oper)(Q:PS):List Oper→Act→List Frame→World→Prop
 |[],a,cs,w=>Q .normal a cs w
 |o::rest,a,cs,w=>
  if Region.wanted o (yielded ops a.tmps) then
   match (execOp a.eval o).run P w with
   |.ok .recover w'=>
    match recoverD cs with
    |some (v,cs')=>ic P ops Q rest (a.put o.dst v) cs' w'
    |none=>ic P ops Q rest (a.put o.dst .nilIface) cs w'
   |r=>o.upon P a (λa' w'=>ic P ops Q rest a' cs w') (λe a' w'=>Q e a' cs w') r
  else ic P ops Q rest (a.put o.dst undef) cs w
theorem TE{ops:Array Oper}{Q:PS}(l:List Oper):∀k,(∀j,l[j]? = ops[k+j]?)→wpOpsS P ops Q (List.range' k l.length)=ic P ops Q l:=by
 induction l with
 |nil=>intro k _;funext a cs w;simp[wpOpsS,ic]
 |cons o l ih=>
  intro k h;have h0:ops[k]? = some o:=by simpa using(h 0).symm
  have ih':=ih (k+1) (λj=>by have:=h (j+1);simpa[Nat.add_assoc,Nat.add_comm 1 j]using this);funext a cs w;simp only[List.length_cons,List.range'_succ,wpOpsS,h0,ic,ih'];rfl
theorem By{id:Nat}{ops:Array Oper}{Q:PS}{a:Act}{cs:List Frame}{w:World}(h:ic P ops Q ops.toList a cs w):(Code.region id ops false).wpS P Q a cs w:=
 wpS_region (by rw[List.range_eq_range',←Array.length_toList,TE ops.toList 0 (by simp)];exact h)
theorem yh{ops:Array Oper}{Q:PS}{rest:List Oper}{o:Oper}{a:Act}{cs:List Frame}{w:World}(hw:Region.wanted o (yielded ops a.tmps)=true)
  (h:o.wp P a w (λa' w'=>ic P ops Q rest a' cs w') (λe a' w'=>Q e a' cs w')):ic P ops Q (o::rest) a cs w:=by
 unfold ic;rw[if_pos hw];unfold Oper.wp at h;split
 ·rename_i hr;rw[hr]at h;exact h.elim
 ·exact h
theorem OG{ops:Array Oper}{Q:PS}{rest:List Oper}{o:Oper}{a:Act}{cs:List Frame}{w:World}(hw:Region.wanted o (yielded ops a.tmps)=true)(hr:(execOp a.eval o).run P w=.ok .recover w)
  (h:match recoverD cs with|some (v,cs')=>ic P ops Q rest (a.put o.dst v) cs' w|none=>ic P ops Q rest (a.put o.dst .nilIface) cs w):ic P ops Q (o::rest) a cs w:=by
 unfold ic;rw[if_pos hw,hr];exact h
theorem OH{o:Oper}(h:isRecover o=true)(ρ:Operand→Value)(w:World):(execOp ρ o).run P w=.ok .recover w:=by
 unfold isRecover at h;split at h
 ·rename_i c ho;split at h
  ·rename_i hc;simp[execOp,ho,resolve,hc,invoke,builtin]
  ·cases h
 ·cases h
theorem aif{M:ga}{k:AV→ga→Prop}(h:aks M k):∃v M',k v M'∧∀f u c₀ cs,MR f M u→c₀.mode=u→∃x u',VR f v x∧MR f M' u'∧
  ∀(R:Value→List Frame→Prop),(R x ({ c₀ with mode:=u' }::cs))→(match recoverD (c₀::cs)with|some (y,cs')=>R y cs'|none=>R .nilIface (c₀::cs)):=by
 cases M with
 |ret=>
  refine⟨_,_,h,λf u c₀ cs hm hc=>⟨.nilIface,u,.ji,hm,λR hR=>?_⟩⟩;rw[qH hc]at hR;cases hm;simp only[recoverD,hc];exact hR
 |cM v=>
  refine⟨_,_,h,λf u c₀ cs hm hc=>?_⟩;obtain⟨ch,rfl,x,older,rfl,h3,h4⟩:=hm;refine⟨x,_,h3,⟨x,older,rfl,h3,h4⟩,λR hR=>?_⟩;simp only[recoverD,hc];exact hR
 |caught v=>
  refine⟨_,_,h,λf u c₀ cs hm hc=>⟨.nilIface,u,.ji,hm,λR hR=>?_⟩⟩;rw[qH hc]at hR;obtain⟨x,older,rfl,h3,h4⟩:=hm;simp only[recoverD,hc];exact hR
theorem xd{C:fb}(hC:ib P C){ops:Array Oper}{K:KR}:∀(rest:List Oper) (M:ga) (env:List AV) (ds:List eD) (H:AH),
  vi C P P.globals.size ops rest M env ds H K→GF P M env ds H K λa cs w Q=>ic P ops Q rest a cs w
 |[],M,env,ds,H,h=>⟨.normal,M,env,ds,H,h,λf w a c₀ cs u hr ha hd hm hc Q hQ=>by
  have:=hQ .normal a u w ⟨f,Step.refl hr,ha,hd,hm,rfl⟩;rw[qH hc]at this;exact this⟩
 |o::rest,M,env,ds,H,h=>by
  unfold vi at h;obtain⟨hg,h⟩:=aD h;rw[Bool.and_eq_true]at hg;have hg1:o.guard=none:=by simpa using hg.1
  have hw:∀t,Region.wanted o t=true:=λt=>by simp[Region.wanted,hg1]
  rcases dI h with⟨hrec,h⟩|⟨hrec,h⟩
  ·obtain⟨v,M',h1,h2⟩:=aif h;obtain⟨ot,M2,env',ds',H2,g1,g2⟩:=xd hC rest _ _ _ _ h1;refine⟨ot,M2,env',ds',H2,g1,λf w a c₀ cs u hr ha hd hm hc Q hQ=>?_⟩;obtain⟨x,u',h3,h4,h5⟩:=h2 f u c₀ cs hm hc;refine OG (hw _) (OH hrec _ w) ?_;exact h5 (λy cs'=>ic P ops Q rest (a.put o.dst y) cs' w) (g2 f w _ { c₀ with mode:=u' } cs u' hr (ha.put o.dst h3) (by rw[put_defers];exact hd) h4 rfl Q hQ)
  ·cases tH hC h with
   |val v H' h g=>
    obtain⟨ot,M2,env',ds',H2,g1,g2⟩:=xd hC rest _ _ _ _ h;refine⟨ot,M2,env',ds',H2,g1,λf w a c₀ cs u hr ha hd hm hc Q hQ=>yh (hw _) ?_⟩;refine g f w a hr ha.glob (ha.stand o) _ _ λf' w' x s hx=>?_;exact g2 f' w' _ c₀ cs u s.rel ((ha.up s.le).put o.dst hx) (by rw[put_defers];exact hd.up s.le) (hm.up s.le) hc Q λe a' u' w'' hp=>hQ e a' u' w'' (hp.after s)
   |cM v H' h g=>
    refine⟨.cM v,M,env,ds,H',h,λf w a c₀ cs u hr ha hd hm hc Q hQ=>yh (hw _) ?_⟩;refine g f w a hr ha.glob (ha.stand o) _ _ λf' w' ch s hp=>?_;have:=hQ (.panic ch) a u w' ⟨f',s,ha.up s.le,hd.up s.le,hm.up s.le,ch,rfl,hp⟩;rw[qH hc]at this;exact this
def aft(P:Program)(x:RT):Prop:=∀c M env ds H K,x c M env ds H K→GF P M env ds H K λa cs w Q=>c.wpS P Q a cs w
theorem GF.akt{M:ga}{env:List AV}{ds:List eD}{H:AH}{K:KR}{c:Code}(h:iC P env ds H (λo env ds H=>K o M env ds H) λa w Q=>c.wp P Q a w):GF P M env ds H K λa cs w Q=>c.wpS P Q a cs w:=by
 obtain⟨o,env',ds',H',h1,h2⟩:=h;refine⟨o,M,env',ds',H',h1,λf w a c₀ cs u hr ha hd hm hc Q hQ=>wpS_of_wp (h2 f w a hr ha hd _ λe a' w' hx=>?_)⟩;obtain⟨f',s,g1,g2,g3⟩:=hx;have:=hQ e a' u w' ⟨f',s,g1,g2,hm.up s.le,g3⟩;rw[qH hc]at this;exact this
theorem TF{C:fb}(hC:ib P C){x:ET}(hx:ye P x){ih:RT}(hi:aft P ih):aft P (Jy C x P P.globals.size ih):=by
 intro c M env ds H K h;unfold Jy at h;split at h
 ·rename_i a b;obtain⟨o,M1,dL,ds1,H1,h1,h2⟩:=hi a _ _ _ _ _ h;have pass:o≠.normal→K o M1 dL ds1 H1→GF P M env ds H K λac cs w Q=>(Code.seq a b).wpS P Q ac cs w:=λhne hk=>by
   refine⟨o,M1,dL,ds1,H1,hk,λf w ac c₀ cs u hr ha hd hm hc Q hQ=>wpS_seq (h2 f w ac c₀ cs u hr ha hd hm hc _ λe a' u' w' hp=>?_)⟩;have hp':=hp;obtain⟨f',s,g1,g2,g3,g4⟩:=hp;cases o with
   |normal=>exact absurd rfl hne
   |exit id=>subst g4;exact hQ _ _ _ _ hp'
   |goto l=>subst g4;exact hQ _ _ _ _ hp'
   |ret=>subst g4;exact hQ _ _ _ _ hp'
   |cM v=>obtain⟨ch,rfl,_⟩:=g4;exact hQ _ _ _ _ hp'
  cases o with
  |normal=>
   obtain⟨o2,M2,dd,ds2,H2,g1,g2⟩:=hi b _ _ _ _ _ h1;refine⟨o2,M2,dd,ds2,H2,g1,λf w ac c₀ cs u hr ha hd hm hc Q hQ=>wpS_seq (h2 f w ac c₀ cs u hr ha hd hm hc _ λe a' u' w' hp=>?_)⟩;obtain⟨f',s,y1,y2,y3,rfl⟩:=hp;exact g2 f' w' a' { c₀ with mode:=u' } cs u' s.rel y1 y2 y3 rfl Q λe a'' u'' w'' hp=>hQ _ _ _ _ (hp.after s)
  |exit id=>exact pass (by simp) h1
  |goto l=>exact pass (by simp) h1
  |ret=>exact pass (by simp) h1
  |cM v=>exact pass (by simp) h1
 ·rename_i c a b;generalize hv:fy P.globals.size env c=v at h;cases v<;>try exact h.elim
  case bool t=>
   have hc:∀{f:aL}{act:Act},AR P f env act→act.eval c=.bool t:=λ{f act} ha=>by
    have:=vg ha c;rw[hv]at this;generalize act.eval c=u at this;cases this;rfl
   cases t
   ·obtain⟨o,M1,dL,ds1,H1,h1,h2⟩:=hi b _ _ _ _ _ h;exact⟨o,M1,dL,ds1,H1,h1,λf w ac c₀ cs u hr ha hd hm hc' Q hQ=>wpS_cond (hc ha) (h2 f w ac c₀ cs u hr ha hd hm hc' Q hQ)⟩
   ·obtain⟨o,M1,dL,ds1,H1,h1,h2⟩:=hi a _ _ _ _ _ h;exact⟨o,M1,dL,ds1,H1,h1,λf w ac c₀ cs u hr ha hd hm hc' Q hQ=>wpS_cond (hc ha) (h2 f w ac c₀ cs u hr ha hd hm hc' Q hQ)⟩
 ·rename_i id ops;obtain⟨o,M1,dL,ds1,H1,h1,h2⟩:=xd hC _ _ _ _ _ h;exact⟨o,M1,dL,ds1,H1,h1,λf w ac c₀ cs u hr ha hd hm hc Q hQ=>By (h2 f w ac c₀ cs u hr ha hd hm hc Q hQ)⟩
 ·exact GF.akt (hx _ _ _ _ _ h)
theorem JA{C:fb}(hC:ib P C){x:ET}(hx:ye P x):∀d,aft P (agv C x P P.globals.size d)
 |0=>λ_ _ _ _ _ _ h=>h.elim
 |d+1=>TF hC hx (JA hC hx d)
theorem DR.GG{f:aL}{es:List Deferred}(h:DR f [] es):es=[]:=by cases h;rfl
theorem JB{g:Nat}{k:Func→Code→Prop}(h:QV P g k):∃fn c,P.funcs[g]? = some fn∧fn.body=some c∧k fn c:=by
 unfold QV at h;split at h
 ·rename_i fn hf;split at h
  ·rename_i c hc;exact⟨fn,c,hf,hc,h⟩
  ·exact h.elim
 ·exact h.elim
theorem yi{f:aL}{fn:Func}{args:List AV}{vs:Array Value}(hv:VL f args vs.toList)(hg:∀g,g<P.globals.size→f.dom g∧f.blk g=g∧f.off g=0) :
  AR P f (bz fn args) { tmps:=vs++Array.replicate (fn.ntmps-vs.size) undef,defers:=[] }:=by
 refine⟨?_,hg⟩;have hl:=hv.length;have e:vs.toList.length=vs.size:=Array.length_toList;simp only[bz,Array.toList_append,Array.toList_replicate];rw[hl,e];exact hv.append (VL.replicate (VR.undef f) _)
theorem afu{C:fb}(hC:ib P C){x:ET}(hx:ye P x)(d:Nat):GC P (QW C x P P.globals.size d):=by
 intro g args M H K hb h;obtain⟨fn,c,hf,hc,h⟩:=JB h;obtain⟨o,M',env',ds',H',h1,h2⟩:=JA hC hx d _ _ _ _ _ _ h;unfold GB at h1;split at h1
 ·have key:∀(co:lT),(∀(f:aL) (H0:AH) w e a u' w',yg P f H0 w o M' env' [] H' e a u' w'→∀c₀ cs,bodyPostS P fn c₀ cs (Jz f H0 w co M' H') e a ({ c₀ with mode:=u' }::cs) w')→K co M' H'→
    ∃o M' H',K o M' H'∧∀f w (vs:Array Value) u,HR f H w→(∀g,g<P.globals.size→f.dom g∧f.blk g=g∧f.off g=0)→VL f args vs.toList→MR f M u→CallsD P g vs u w (Jz f H w o M' H'):=λco h3 h4=>
   ⟨co,M',H',h4,λf w vs u hr hg hv hm=>callsD_of_wpS hf hc λc₀ cs hu=>h2 f w _ c₀ cs u hr (yi hv hg) .nil hm hu _ λe a' u' w' hp=>h3 f H w e a' u' w' hp c₀ cs⟩
  split at h1
  ·obtain⟨v,g1,g2⟩:=GD h1;refine key (.ret v) (λf H0 w e a u' w' hp c₀ cs=>?_) g1;obtain⟨f',s,y1,y2,y3,rfl⟩:=hp;obtain⟨u,z1,z2⟩:=g2 f' w' a s.rel y1;have hd:a.defers=[]:=y2.GG;exact⟨hd,u',rfl,u,z1,f',s,y3,u,rfl,z2⟩
  ·obtain⟨v,g1,g2⟩:=GD h1;refine key (.ret v) (λf H0 w e a u' w' hp c₀ cs=>?_) g1;obtain⟨f',s,y1,y2,y3,rfl⟩:=hp;obtain⟨u,z1,z2⟩:=g2 f' w' a s.rel y1;have hd:a.defers=[]:=y2.GG;exact⟨hd,u',rfl,u,z1,f',s,y3,u,rfl,z2⟩
  ·rename_i v;refine key (.cM v) (λf H0 w e a u' w' hp c₀ cs=>?_) h1;obtain⟨f',s,y1,y2,y3,ch,rfl,hp⟩:=hp;have hd:a.defers=[]:=y2.GG;exact⟨hd,u',rfl,f',s,y3,ch,rfl,hp⟩
  ·exact h1.elim
 ·exact h1.elim
theorem rM.after{f f1:aL}{H H1:AH}{w w1:World}(s:Step f H w f1 H1 w1){o:lT}{H':AH}{e:Ending}{w':World}(h:rM f1 H1 w1 o H' e w'):rM f H w o H' e w':=by
 obtain⟨f',s',h⟩:=h;exact⟨f',gw.trans s s',h⟩
theorem Leaves.mono{fn:Func}{tmps:Array Value}{R R':Ending→World→Prop}(hR:∀e w,R e w→R' e w):∀(ds:List Deferred) (u:FrameMode) (w:World),Leaves P fn tmps R ds u w→Leaves P fn tmps R' ds u w
 |[],.returning,w,h=>let ⟨v,h1,h2⟩:=h;⟨v,h1,hR _ _ h2⟩
 |[],.panicking chain,w,h=>hR _ _ h
 |[],.run,_,h=>h.elim
 |d::ds,u,w,h=>by
  obtain⟨h1,fv,cap,f,args,h2,h3,h4⟩:=h;refine⟨h1,fv,cap,f,args,h2,h3,h4.mono λe u' w' h5=>?_⟩;cases e with
  |returned v=>exact Leaves.mono hR ds _ _ h5
  |panicked ch=>exact Leaves.mono hR ds _ _ h5
  |outgrown=>exact hR _ _ h5
theorem TG{f:aL}{o:lT}{M:ga}{u:FrameMode}(hm:MR f M u){e:Ending}
  (he:match o with|.ret v=>∃x,e=.returned x∧VR f v x|.cM v=>∃ch,e=.panicked ch∧xc f v ch) :
  match e with|.returned _=>MR f (Bx o M) (settle u)|.panicked ch=>MR f (Bx o M) (raised u ch)|.outgrown=>False:=by
 cases o with
 |ret v=>
  obtain⟨x,rfl,_⟩:=he;cases M with
  |ret=>cases hm;rfl
  |cM v=>
   obtain⟨ch,rfl,y,older,rfl,h3,h4⟩:=hm;exact⟨_,rfl,y,older,rfl,h3,h4⟩
  |caught v=>
   obtain⟨y,older,rfl,h3,h4⟩:=hm;have:older.dropWhile (λx=>!x.goexit)=[]:=by
    clear h3
    induction older with
    |nil=>rfl
    |cons y l ih=>rw[List.dropWhile_cons,if_pos (by rw[h4 y (by simp)];rfl)];exact ih λz hz=>h4 z (by simp[hz])
   show MR f .ret _;simp only[settle,this];rfl
 |cM v=>
  obtain⟨ch,rfl,x,older,rfl,h3,h4⟩:=he;show MR f (.cM v) _;cases M with
  |ret=>cases hm;exact⟨_,rfl,x,older,rfl,h3,h4⟩
  |cM v=>
   obtain⟨ch',rfl,y,aku,rfl,h5,h6⟩:=hm;refine⟨_,rfl,x,older++_,rfl,h3,λz hz=>?_⟩;simp only[List.mem_append,List.mem_cons]at hz;rcases hz with hz|rfl|hz
   ·exact h4 z hz
   ·rfl
   ·exact h6 z hz
  |caught v=>
   obtain⟨y,aku,rfl,h5,h6⟩:=hm;refine⟨_,rfl,x,older++_,rfl,h3,λz hz=>?_⟩;simp only[List.mem_append,List.mem_cons]at hz;rcases hz with hz|rfl|hz
   ·exact h4 z hz
   ·rfl
   ·exact h6 z hz
theorem xe{CD:vh}(hCD:GC P CD){fn:Func}{env:List AV}{K:lT→AH→Prop}:∀(ds:List eD) (M:ga) (H:AH),oQ P CD fn env ds M H K→
  ∃co H',K co H'∧∀f w a es u,HR f H w→AR P f env a→DR f ds es→MR f M u→Leaves P fn a.tmps (rM f H w co H') es u w
 |[],.ret,H,h=>by
  obtain⟨v,h1,h2⟩:=GD h;refine⟨_,_,h1,λf w a es u hr ha hd hm=>?_⟩;cases hd;cases hm;obtain⟨x,g1,g2⟩:=h2 f w a hr ha;exact⟨x,g1,f,Step.refl hr,x,rfl,g2⟩
 |[],.cM v,H,h=>by
  refine⟨_,_,h,λf w a es u hr ha hd hm=>?_⟩;cases hd;obtain⟨ch,rfl,hp⟩:=hm;exact⟨f,Step.refl hr,ch,rfl,hp⟩
 |[],.caught _,_,h=>h.elim
 |d::ds,M,H,h=>by
  unfold oQ at h;obtain⟨hb,h⟩:=aD h;obtain⟨o,M',H1,h1,h2⟩:=hCD d.g d.args M H _ hb h;obtain⟨co,H2,g1,g2⟩:=xe hCD ds _ _ h1;refine⟨co,H2,g1,λf w a es u hr ha hd hm=>?_⟩;cases hd with
  |cons g args cap vs _ es hv hd=>
   refine leaves_cons hm.ne (f:=g) (args:=vs++cap) (by simp[invoke,yc hb]) ?_;refine(h2 f w _ u hr ha.glob hv hm).mono λe u' w' hp=>?_;obtain⟨f',s,hm',he⟩:=hp;have hA:=TG hm' he;have key:∀v,MR f' (Bx o M') v→Leaves P fn a.tmps (rM f H w co H2) es v w':=λv hv=>
    Leaves.mono (λe w h=>h.after s) _ _ _ (g2 f' w' a es v s.rel (ha.up s.le) (hd.up s.le) hv)
   cases e with
   |returned x=>exact key _ hA
   |panicked ch=>exact key _ hA
   |outgrown=>exact hA.elim
theorem afv{C:fb}(hC:ib P C){D:DT}(hD:qG P D)(N d:Nat):ib P (QX C D P P.globals.size N d):=by
 intro g args H K hb h;obtain⟨fn,c,hf,hc,h⟩:=JB h;have hx:=Pd hC hD (N:=N) d;obtain⟨o,env',ds',H',h1,h2⟩:=hx _ _ _ _ _ h;have hCD:=afu hC hx d;have key:∀(M:ga),oQ P (QW C (exec C D P P.globals.size N d) P P.globals.size d) fn env' ds' M H' K→
   (∀(f:aL) (H0:AH) w (R:Ending→World→Prop) e a w',mJ P f H0 w o env' ds' H' e a w'→(∀f' u,Step f H0 w f' H' w'→AR P f' env' a→DR f' ds' a.defers→MR f' M u→Leaves P fn a.tmps R a.defers u w')→bodyPostD P fn R e a w')→
   ∃o H',K o H'∧∀f w (vs:Array Value),HR f H w→(∀g,g<P.globals.size→f.dom g∧f.blk g=g∧f.off g=0)→VL f args vs.toList→Calls P g vs w (rM f H w o H'):=λM hl hb=>by
  obtain⟨co,H2,g1,g2⟩:=xe hCD _ _ _ hl;refine⟨co,H2,g1,λf w vs hr hg hv=>calls_of_wp_defers hf hc (h2 f w _ hr (yi hv hg) .nil _ λe a' w' hp=>hb f H w _ e a' w' hp λf' u s ha hd hm=>?_)⟩;exact Leaves.mono (λe w h=>h.after s) _ _ _ (g2 f' w' a' a'.defers u s.rel ha hd hm)
 cases o with
 |normal=>exact key .ret h1 λf H0 w R e a w' hp hl=>by obtain⟨f',s,y1,y2,rfl⟩:=hp;exact hl f' _ s y1 y2 rfl
 |ret=>exact key .ret h1 λf H0 w R e a w' hp hl=>by obtain⟨f',s,y1,y2,rfl⟩:=hp;exact hl f' _ s y1 y2 rfl
 |cM v=>exact key (.cM v) h1 λf H0 w R e a w' hp hl=>by obtain⟨f',s,y1,y2,ch,rfl,hp⟩:=hp;exact hl f' _ s y1 y2 ⟨ch,rfl,hp⟩
 |exit=>exact h1.elim
 |goto=>exact h1.elim
end
def fM(ops:Array Oper)(i:Nat):List Nat:=match ops[i]? with|some o=>(o.after.toList.filter (Region.binds .any)).map (·.on)|none=>[]
inductive oR(ops:Array Oper):Nat→Nat→Prop
 |edge {i j:Nat}:j∈fM ops i→oR ops i j
 |step {i j k:Nat}:j∈fM ops i→oR ops j k→oR ops i k
def uni(a b:List Nat):List Nat:=a++b.filter λx=>!(a.contains x)
theorem Pg{a b:List Nat}{x:Nat}(h:x∈uni a b):x∈a∨x∈b:=by
 unfold uni at h;rw[List.mem_append,List.mem_filter]at h;exact h.imp id And.left
def rO:List (Nat×List Nat)→Nat→List Nat
 |[],_=>[]
 |(j,m)::r,i=>bif Nat.beq i j then m else rO r i
def Bz(ms:List (Nat×List Nat)):List Nat→List Nat
 |[]=>[]
 |j::r=>uni (uni [j] (rO ms j)) (Bz ms r)
def masks(ops:Array Oper):List Nat→List (Nat×List Nat)→List (Nat×List Nat)
 |[],ms=>ms
 |i::r,ms=>masks ops r ((i,Bz ms (fM ops i))::ms)
def mD(ops:Array Oper)(ms:List (Nat×List Nat)):Prop:=∀i j,j∈rO ms i→oR ops i j
theorem Hv{ops:Array Oper}{ms:List (Nat×List Nat)}(h:mD ops ms):∀{es:List Nat}{x:Nat},x∈Bz ms es→∃j∈es,x=j∨oR ops j x
 |[],x,hx=>by simp[Bz]at hx
 |j::r,x,hx=>by
  rcases Pg hx with hx|hx
  ·rcases Pg hx with hx|hx
   ·exact⟨j,by simp,.inl (by simpa using hx)⟩
   ·exact⟨j,by simp,.inr (h _ _ hx)⟩
  ·obtain⟨k,hk,hx⟩:=Hv h hx;exact⟨k,by simp[hk],hx⟩
theorem sA{ops:Array Oper}:∀(l:List Nat){ms:List (Nat×List Nat)},mD ops ms→mD ops (masks ops l ms)
 |[],_,h=>h
 |i::r,ms,h=>sA r λk j hj=>by
  simp only[rO]at hj;cases hb:Nat.beq k i with
  |false=>rw[hb]at hj;exact h k j hj
  |true=>
   rw[hb]at hj;have e:=Nat.eq_of_beq_eq_true hb;subst e;obtain⟨m,h1,h2⟩:=Hv h hj;rcases h2 with rfl|h2
   ·exact .edge h1
   ·exact .step h1 h2
def jq(ops:Array Oper)(i:Nat):Option Tmp:=(ops[i]?).bind (·.dst)
def gh(ops:Array Oper)(i:Nat):List Tmp:=match ops[i]? with|some o=>o.looksAt ops|none=>[]
def gi(ops:Array Oper)(i:Nat):Bool:=match ops[i]? with
 |some o=>(match o.op,o.guard,o.dst with
  |.assign _,none,some t=>(List.range ops.size).any λk=>!(Nat.beq k i)&&((gh ops k).contains t||jq ops k == some t)
  |_,_,_=>false)
 |none=>false
def gR(ops:Array Oper)(i:Nat):Bool:=(match ops[i]? with|some o=>turns o|none=>false)||gi ops i
theorem nK{ops:Array Oper}{i:Nat}{o:Oper}(ho:ops[i]? = some o)(h:turns o=true):gR ops i=true:=by simp[gR,ho,h]
theorem JC{ops:Array Oper}{i:Nat}(h:gi ops i=true):gR ops i=true:=by simp[gR,h]
theorem JD{ops:Array Oper}{i:Nat}{o:Oper}(ho:ops[i]? = some o){g:Nat×Bool}(h:o.guard=some g):gi ops i=false:=by
 unfold gi;rw[ho];simp only[h];split<;>first|rfl|(rename_i h2 _;cases h2)
def Lin(ops:Array Oper):List Nat→Prop
 |[]=>True
 |i::r=>(gR ops i=true→∀j∈r,oR ops j i)∧Lin ops r
def JE(ops:Array Oper):List Nat→Prop
 |[]=>True
 |i::r=>(∀j∈r,∀t,jq ops j=some t→(t∉gh ops i∧jq ops i≠some t)∨(gi ops j=true∧oR ops j i))∧(∀j∈r,∀t,jq ops i=some t→t∈gh ops j→oR ops j i)∧(∀t,jq ops i=some t→t∉gh ops i)∧JE ops r
def QZ(ops:Array Oper):List Nat→List Nat→Prop
 |_,[]=>True
 |seen,i::r=>(∀j∈fM ops i,j∈seen)∧QZ ops (i::seen) r
def Q0(ops:Array Oper)(ms:List (Nat×List Nat)):List Nat→Bool
 |[]=>true
 |i::r=>(!(gR ops i)||r.all λj=>(rO ms j).contains i)&&Q0 ops ms r
def Q2(ops:Array Oper)(ms:List (Nat×List Nat)):List Nat→Bool
 |[]=>true
 |i::r=>(match jq ops i with|none=>true|some t=>!((gh ops i).contains t)&&r.all λj=>!((gh ops j).contains t)||(rO ms j).contains i) &&
  (r.all λj=>match jq ops j with|none=>true|some t=>(!((gh ops i).contains t) && !(jq ops i == some t))||(gi ops j&&(rO ms j).contains i))&&Q2 ops ms r
def Is(ops:Array Oper):List Nat→List Nat→Bool
 |_,[]=>true
 |seen,i::r=>(fM ops i).all (λj=>seen.contains j)&&Is ops (i::seen) r
def nodupB:List Nat→Bool
 |[]=>true
 |i::r=>!(r.contains i)&&nodupB r
theorem Ph{ops:Array Oper}{ms:List (Nat×List Nat)}(hm:mD ops ms):∀{l:List Nat},Q0 ops ms l=true→Lin ops l
 |[],_=>trivial
 |i::r,h=>by
  simp only[Q0,Bool.and_eq_true,Bool.or_eq_true,Bool.not_eq_true',List.all_eq_true,List.contains_iff_mem]at h;refine⟨λht j hj=>?_,Ph hm h.2⟩;rcases h.1 with h1|h1
  ·rw[ht]at h1;cases h1
  ·exact hm _ _ (h1 j hj)
theorem Pj{ops:Array Oper}{ms:List (Nat×List Nat)}(hm:mD ops ms):∀{l:List Nat},Q2 ops ms l=true→JE ops l
 |[],_=>trivial
 |i::r,h=>by
  simp only[Q2,Bool.and_eq_true]at h;obtain⟨⟨h1,h2⟩,h3⟩:=h;refine⟨λj hj t ht=>?_,λj hj t ht hl=>?_,λt ht=>?_,Pj hm h3⟩
  ·rw[List.all_eq_true]at h2;have:=h2 j hj;rw[ht]at this;simp only[Bool.or_eq_true,Bool.and_eq_true]at this;rcases this with h4|⟨h4,h5⟩
   ·exact .inl (by simpa using h4)
   ·exact .inr ⟨h4,hm _ _ (by simpa using h5)⟩
  ·rw[ht]at h1;simp only[Bool.and_eq_true,List.all_eq_true,Bool.or_eq_true,Bool.not_eq_true']at h1;rcases h1.2 j hj with h4|h4
   ·simp[hl]at h4
   ·exact hm _ _ (by simpa using h4)
  ·rw[ht]at h1;simp only[Bool.and_eq_true]at h1;simpa using h1.1
theorem JF{ops:Array Oper}:∀{l seen:List Nat},Is ops seen l=true→QZ ops seen l
 |[],_,_=>trivial
 |i::r,seen,h=>by
  simp only[Is,Bool.and_eq_true,List.all_eq_true]at h;exact⟨λj hj=>by simpa using h.1 j hj,JF h.2⟩
theorem Hw:∀{l:List Nat},nodupB l=true→l.Nodup
 |[],_=>.nil
 |i::r,h=>by
  simp only[nodupB,Bool.and_eq_true]at h;exact List.nodup_cons.2 ⟨by simpa using h.1,Hw h.2⟩
section
variable {P:Program}
def Same(ops:Array Oper)(o:Oper)(env dd:List AV):Prop:=∀t∈o.looksAt ops,dd[t]? = env[t]?
theorem Same.refl{ops:Array Oper}{o:Oper}(env:List AV):Same ops o env env:=λ_ _=>rfl
theorem Same.trans{ops:Array Oper}{o:Oper}{a b c:List AV}(h:Same ops o a b)(g:Same ops o b c):Same ops o a c:=λt ht=>(g t ht).trans (h t ht)
theorem Same.fy{ops:Array Oper}{o:Oper}{env dd:List AV}(h:Same ops o env dd){x:Operand}(hx:x∈o.op.operands)(G:Nat):Go.X.fy G dd x=Go.X.fy G env x:=by
 cases x with
 |tmp t=>
  have:=h t (by unfold Oper.looksAt;rw[List.mem_append];left;rw[List.mem_filterMap];exact⟨.tmp t,by simpa using hx,rfl⟩);simp only[Go.X.fy,List.getD_eq_getElem?_getD,this]
 |const v=>rfl
 |global g=>rfl
 |func g=>rfl
theorem Same.stand{ops:Array Oper}{o:Oper}{env dd:List AV}(h:Same ops o env dd){f:aL}{a:Act}(ha:AR P f dd a):Stand f o (Go.X.fy P.globals.size env) a:=λx hx=>by
 rw[←h.fy hx];exact vg ha x
theorem Same.nU{ops:Array Oper}{o:Oper}{env dd:List AV}(h:Same ops o env dd){j:Nat}{want:Bool}(hg:o.guard=some (j,want)):Go.X.nU ops dd j=Go.X.nU ops env j:=by
 unfold Go.X.nU;cases hd:(ops[j]?).bind (·.dst)with
 |none=>rfl
 |some t=>
  have:=h t (by unfold Oper.looksAt;rw[List.mem_append];right;simp[hg,hd]);simp only[List.getD_eq_getElem?_getD,this]
def fG(P:Program)(ops:Array Oper)(o:Oper)(env:List AV)(b:Bool):Prop:=∀f a dd,AR P f dd a→Same ops o env dd→Region.wanted o (yielded ops a.tmps)=b
def iY(P:Program)(ops:Array Oper)(o:Oper)(env:List AV)(v:AV)(H:AH):Prop:=∀f w a dd,HRQ f H.sem w→AR P f dd a→Same ops o env dd→∃u,Did P o a w u w∧VR f v u
def xf(P:Program)(ops:Array Oper)(o:Oper)(env:List AV)(ob:eB)(vf:Nat→AV):Prop:=∀f w a dd,AR P f dd a→Same ops o env dd→∃u obj,Did P o a w u (w.alloc obj)∧mY f w ob vf u obj
def yj(P:Program)(ops:Array Oper)(o:Oper)(env:List AV)(H:AH)(v:AV)(H':AH):Prop:=∀f w a dd,HR f H w→AR P f dd a→Same ops o env dd→∀(next:Act→World→Prop) Q,(∀f' w' u,Step f H w f' H' w'→VR f' v u→next (a.put o.dst u) w')→o.wp P a w next Q
def It(P:Program)(ops:Array Oper)(o:Oper)(env:List AV)(H:AH)(v:AV)(H':AH):Prop:=∀f w a dd,HR f H w→AR P f dd a→Same ops o env dd→∀(next:Act→World→Prop) (Q:Exit→Act→World→Prop),(∀f' w' ch,Step f H w f' H' w'→xc f' v ch→Q (.panic ch) a w')→o.wp P a w next Q
abbrev lg:=Nat×Oper×List AV×AV
inductive Tr(P:Program)(ops:Array Oper):List Nat→List lg→List AV→AH→Option AV→List AV→AH→Prop
 |nil (chk:List lg) (env:List AV) (H:AH):Tr P ops [] chk env H none env H
 |skip {i:Nat}{o:Oper}{rest:List Nat}{chk:List lg}{env:List AV}{H:AH}{r:Option AV}{env':List AV}{H':AH}(ho:ops[i]? = some o) (hla:gi ops i=false) (hw:fG P ops o env false)
   (hr:Tr P ops rest chk (cJ env o.dst eS) H r env' H'):Tr P ops (i::rest) chk env H r env' H'
 |look {i:Nat}{o:Oper}{rest:List Nat}{chk:List lg}{env:List AV}{H:AH}{r:Option AV}{env':List AV}{H':AH}(v:AV) (ho:ops[i]? = some o) (hla:gi ops i=false) (hw:fG P ops o env true) (hl:iY P ops o env v H)
   (hr:Tr P ops rest ((i,o,env,v)::chk) (cJ env o.dst v) H r env' H'):Tr P ops (i::rest) chk env H r env' H'
 |still {i:Nat}{o:Oper}{rest:List Nat}{chk:List lg}{env:List AV}{H:AH}{r:Option AV}{env':List AV}{H':AH}(v:AV) (ho:ops[i]? = some o) (hla:gi ops i=false) (hw:fG P ops o env true) (hl:∀H,iY P ops o env v H)
   (hr:Tr P ops rest chk (cJ env o.dst v) H r env' H'):Tr P ops (i::rest) chk env H r env' H'
 |lay {i:Nat}{o:Oper}{rest:List Nat}{chk:List lg}{env:List AV}{H:AH}{r:Option AV}{env':List AV}{H':AH}(ob:eB) (vf:Nat→AV) (H1:AH) (ho:ops[i]? = some o) (hla:gi ops i=false) (hw:fG P ops o env true) (hn:H1.n=H.n+1) (hnew:H1.at H.n=ob)
   (hold:∀b,b≠H.n→H1.at b=H.at b) (zi:H.at H.n=.dead) (hown:ob.sem.own=true) (hl:xf P ops o env ob vf)
   (hr:Tr P ops rest chk (cJ env o.dst (vf H.n)) H1 r env' H'):Tr P ops (i::rest) chk env H r env' H'
 |turn {i:Nat}{o:Oper}{rest:List Nat}{chk:List lg}{env:List AV}{H:AH}{r:Option AV}{env':List AV}{H':AH}(v:AV) (H1:AH) (ho:ops[i]? = some o) (ht:gR ops i=true) (hw:fG P ops o env true) (hl:yj P ops o env H v H1)
   (hc:H1=H∨∀x∈chk,oR ops i x.1∨iY P ops x.2.1 x.2.2.1 x.2.2.2 H1)
   (hr:Tr P ops rest chk (cJ env o.dst v) H1 r env' H'):Tr P ops (i::rest) chk env H r env' H'
 |cM {i:Nat}{o:Oper}{rest:List Nat}{chk:List lg}{env:List AV}{H:AH}(v:AV) (H1:AH) (ho:ops[i]? = some o) (ht:gR ops i=true) (hw:fG P ops o env true) (hl:It P ops o env H v H1) :
   Tr P ops (i::rest) chk env H (some v) env H1
def tJ:Lay:=λ_ _=>False
def TH(P:Program)(o:Oper):Bool:=
 match o.op with
 |.load ..=>false
 |.lookup ..=>false
 |.convert s ..=>(match P.underlying s with|some (.int _)=>true|_=>false)
 |.binOp _ t ..=>(match P.underlying t with|some (.pointer _)=>false|_=>true)
 |.call c=>(match c.callee,c.argTypes.toList with
  |.builtin .max,_=>true
  |.builtin .min,_=>true
  |.builtin .len,t::_=>(match P.underlying t with|some (.map ..)=>false|_=>true)
  |_,_=>false)
 |_=>true
def sB:AH:=⟨.e,0⟩
section
variable (C:fb)(P:Program)(G:Nat)(ops:Array Oper)(ms:List (Nat×List Nat))
def nZ(i:Nat)(H:AH):List lg→Prop→Prop
 |[],x=>x
 |(j,o,env,v)::r,x=>bI ((rO ms i).contains j) (nZ i H r x) (rG P o (fy G env) tJ H λv' _=>bT (bu v' v) (nZ i H r x))
def cP(H:AH)(x:Prop):Prop:=match H.at H.n with|.dead=>x|_=>False
def jU:List Nat→List lg→List AV→AH→(List lg→List AV→AH→Prop)→(AV→List AV→AH→Prop)→Prop
 |[],chk,env,H,K,_=>K chk env H
 |i::rest,chk,env,H,K,KP=>match ops[i]? with
  |none=>False
  |some o=>
   let go:List AV→Prop:=λenv=>bI (gi ops i) (rG P o (fy G env) tJ sB λv _=>jU rest chk (cJ env o.dst v) H K KP) <| bI (turns o) (bT (!(zo o)) (sw C P G o (fy G env) (aE H) H (λv H1=>nZ P G ms i H1 chk (jU rest chk (cJ env o.dst v) H1 K KP)) (λv H1=>KP v env H1)))
    (bI (tG o) (cP H (rG P o (fy G env) (aE H) H λv H1=>bT (Nat.beq H1.n (Nat.succ H.n)) (jU rest chk (cJ env o.dst v) H1 K KP)))
    (bI (TH P o) (rG P o (fy G env) tJ sB λv _=>jU rest chk (cJ env o.dst v) H K KP)
     (rG P o (fy G env) tJ H λv _=>jU rest ((i,o,env,v)::chk) (cJ env o.dst v) H K KP)))
   match o.guard with
   |none=>go env
   |some (j,want)=>Bu ops env j want go (λenv=>jU rest chk (cJ env o.dst eS) H K KP)
end
theorem fG.of_none{ops:Array Oper}{o:Oper}{env:List AV}(h:o.guard=none):fG P ops o env true:=λf a dd _ _=>by simp[Region.wanted,h]
theorem fG.afw{ops:Array Oper}{o:Oper}{env:List AV}{j:Nat}{want:Bool}(hg:o.guard=some (j,want)){x y:Prop}(hk:Bs (nU ops env j) want x y) :
  (x∧fG P ops o env true)∨(y∧fG P ops o env false):=by
 generalize hv:nU ops env j=v at hk;cases v<;>try exact hk.elim
 case bool b=>
  have key:fG P ops o env (b == want):=λf a dd h hs=>by
   obtain⟨u,h1,h2⟩:=rN h ((hs.nU hg).trans hv) (by simp);cases h1;simp only[Region.wanted,hg,h2];cases b<;>cases want<;>rfl
  rcases dI (Ah hk)with⟨h1,h2⟩|⟨h1,h2⟩
  ·exact .inl ⟨h2,h1 ▸ key⟩
  ·exact .inr ⟨h2,h1 ▸ key⟩
 case aP l=>
  refine .inr ⟨hk,λf a dd h hs=>?_⟩;obtain⟨u,h1,h2⟩:=rN h ((hs.nU hg).trans hv) (by simp);cases h1;simp only[Region.wanted,hg,h2];rfl
theorem zp{ops:Array Oper}{o:Oper}{env:List AV}{H:AH}{k:AV→AH→Prop}(ht:turns o=false)(h:rG P o (fy P.globals.size env) tJ H k):∃v,k v H∧iY P ops o env v H:=by
 cases Jr h with
 |same v h g=>exact⟨v,h,λf w a dd hr ha hs=>g f w a hr (hs.stand ha)⟩
 |new ob vf _ h=>exact h.elim
 |turn v H' h ht'=>rw[ht]at ht';cases ht'
theorem HRQ.empty(f:aL)(w:World):HRQ f sB.sem w:=⟨λb _ ha=>by simp[sB,AH.sem,AH.at,Bt.get?,eB.sem,gU.alive]at ha,λb c _ _ ho _ _=>by simp[sB,AH.sem,AH.at,Bt.get?,eB.sem,gU.own]at ho⟩
theorem oT{ops:Array Oper}{ms:List (Nat×List Nat)}(hm:mD ops ms){i:Nat}{H:AH}{x:Prop}:∀{chk:List lg},(∀c∈chk,turns c.2.1=false)→nZ P P.globals.size ms i H chk x→x∧∀c∈chk,oR ops i c.1∨iY P ops c.2.1 c.2.2.1 c.2.2.2 H
 |[],_,h=>⟨h,by simp⟩
 |(j,o,env,v)::r,ht,h=>by
  have ih:=λ(h:nZ P P.globals.size ms i H r x)=>oT hm (chk:=r) (x:=x) (λc hc=>ht c (by simp[hc])) h;rcases dI h with⟨h1,h2⟩|⟨h1,h2⟩
  ·obtain⟨g1,g2⟩:=ih h2;refine⟨g1,λc hc=>?_⟩;rcases List.mem_cons.1 hc with rfl|hc
   ·exact .inl (hm _ _ (by simpa using h1))
   ·exact g2 c hc
  ·obtain⟨v',h3,h4⟩:=zp (ops:=ops) (ht (j,o,env,v) (by simp)) h2;obtain⟨h5,h6⟩:=aD h3;obtain⟨g1,g2⟩:=ih h6;refine⟨g1,λc hc=>?_⟩;rcases List.mem_cons.1 hc with rfl|hc
   ·rw[tE h5]at h4;exact .inr h4
   ·exact g2 c hc
structure Like(ops ops':Array Oper):Prop where
 dst:∀j:Nat,(ops'[j]?).bind Oper.dst=(ops[j]?).bind Oper.dst
 dep:∀{i j},oR ops i j→oR ops' i j
 late:∀i,gi ops' i=gi ops i
theorem Like.refl(ops:Array Oper):Like ops ops:=⟨λ_=>rfl,λh=>h,λ_=>rfl⟩
section
variable {ops ops':Array Oper}
theorem Like.yielded(L:Like ops ops')(t:Array Value):Go.yielded ops' t=Go.yielded ops t:=by
 funext j;unfold Go.yielded;rw[L.dst]
theorem Like.looks(L:Like ops ops')(o:Oper):o.looksAt ops'=o.looksAt ops:=by
 unfold Oper.looksAt;cases o.guard with
 |none=>rfl
 |some g=>simp only[L.dst]
theorem Like.same(L:Like ops ops'){o:Oper}{env dd:List AV}(h:Same ops' o env dd):Same ops o env dd:=λt ht=>h t (by rw[L.looks];exact ht)
theorem Like.want(L:Like ops ops'){o:Oper}{env:List AV}{b:Bool}(h:fG P ops o env b):fG P ops' o env b:=λf a dd ha hs=>by rw[L.yielded];exact h f a dd ha (L.same hs)
theorem Like.look(L:Like ops ops'){o:Oper}{env:List AV}{v:AV}{H:AH}(h:iY P ops o env v H):iY P ops' o env v H:=λf w a dd hr ha hs=>h f w a dd hr ha (L.same hs)
theorem Like.lay(L:Like ops ops'){o:Oper}{env:List AV}{ob:eB}{vf:Nat→AV}(h:xf P ops o env ob vf):xf P ops' o env ob vf:=λf w a dd ha hs=>h f w a dd ha (L.same hs)
theorem Like.turn(L:Like ops ops'){o:Oper}{env:List AV}{H:AH}{v:AV}{H1:AH}(h:yj P ops o env H v H1):yj P ops' o env H v H1:=λf w a dd hr ha hs=>h f w a dd hr ha (L.same hs)
theorem Like.cM(L:Like ops ops'){o:Oper}{env:List AV}{H:AH}{v:AV}{H1:AH}(h:It P ops o env H v H1):It P ops' o env H v H1:=λf w a dd hr ha hs=>h f w a dd hr ha (L.same hs)
theorem Like.gR(L:Like ops ops'){i:Nat}(h:ops'[i]? = ops[i]?):Go.X.gR ops' i=Go.X.gR ops i:=by unfold Go.X.gR;rw[h,L.late]
end
def Came(P:Program)(ops:Array Oper)(l:List Nat)(chk:List lg)(env:List AV)(H:AH)(K:List lg→List AV→AH→Prop)(KP:AV→List AV→AH→Prop):Prop:=
 (∃Q3 env' H',K Q3 env' H'∧(∀c∈Q3,turns c.2.1=false)∧∀ops',Like ops ops'→(∀i∈l,ops'[i]? = ops[i]?)→∀tail r e h,Tr P ops' tail Q3 env' H' r e h→Tr P ops' (l++tail) chk env H r e h)∨
 (∃v env' H',KP v env' H'∧∀ops',Like ops ops'→(∀i∈l,ops'[i]? = ops[i]?)→∀tail,Tr P ops' (l++tail) chk env H (some v) env' H')
theorem Came.cons{ops:Array Oper}{i:Nat}{rest:List Nat}{chk rv:List lg}{env dL:List AV}{H H1:AH}{K:List lg→List AV→AH→Prop}{KP:AV→List AV→AH→Prop}(h:Came P ops rest rv dL H1 K KP)
  (g:∀ops',Like ops ops'→ops'[i]? = ops[i]?→∀l r e h,Tr P ops' l rv dL H1 r e h→Tr P ops' (i::l) chk env H r e h):Came P ops (i::rest) chk env H K KP:=by
 rcases h with⟨c,e,h,h1,h2,h3⟩|⟨v,e,h,h1,h2⟩
 ·exact .inl ⟨c,e,h,h1,h2,λops' L hl tail r e h ht=>g ops' L (hl i (by simp)) _ r e h (h3 ops' L (λj hj=>hl j (by simp[hj])) tail r e h ht)⟩
 ·exact .inr ⟨v,e,h,h1,λops' L hl tail=>g ops' L (hl i (by simp)) _ _ _ _ (h2 ops' L (λj hj=>hl j (by simp[hj])) tail)⟩
theorem kJ{C:fb}(hC:ib P C){ops:Array Oper}{ms:List (Nat×List Nat)}(hm:mD ops ms){K:List lg→List AV→AH→Prop}{KP:AV→List AV→AH→Prop}:∀(l:List Nat) (chk:List lg) (env:List AV) (H:AH),(∀c∈chk,turns c.2.1=false)→
  jU C P P.globals.size ops ms l chk env H K KP→Came P ops l chk env H K KP
 |[],chk,env,H,ht,h=>.inl ⟨chk,env,H,h,ht,λ_ _ _ _ _ _ _ h=>h⟩
 |i::rest,chk,env,H,ht,h=>by
  unfold jU at h;split at h
  ·exact h.elim
  ·rename_i o ho;have key:fG P ops o env true→(bI (gi ops i) (rG P o (fy P.globals.size env) tJ sB λv _=>jU C P P.globals.size ops ms rest chk (cJ env o.dst v) H K KP) <| bI (turns o) (bT (!(zo o)) (sw C P P.globals.size o (fy P.globals.size env) (aE H) H (λv H1=>nZ P P.globals.size ms i H1 chk (jU C P P.globals.size ops ms rest chk (cJ env o.dst v) H1 K KP)) (λv H1=>KP v env H1)))
    (bI (tG o) (cP H (rG P o (fy P.globals.size env) (aE H) H λv H1=>bT (Nat.beq H1.n (Nat.succ H.n)) (jU C P P.globals.size ops ms rest chk (cJ env o.dst v) H1 K KP)))
    (bI (TH P o) (rG P o (fy P.globals.size env) tJ sB λv _=>jU C P P.globals.size ops ms rest chk (cJ env o.dst v) H K KP)
     (rG P o (fy P.globals.size env) tJ H λv _=>jU C P P.globals.size ops ms rest ((i,o,env,v)::chk) (cJ env o.dst v) H K KP))))→
     Came P ops (i::rest) chk env H K KP:=λhw h=>by
    rcases dI h with⟨hla,h⟩|⟨hla,h⟩
    ·have hturn:turns o=false:=by
      unfold gi at hla;rw[ho]at hla;simp only at hla;split at hla
      ·rename_i x e1 e2 e3 hop _ _;simp[turns,hop]
      ·cases hla
     obtain⟨v,h1,h2⟩:=zp (ops:=ops) hturn h;refine(kJ hC hm rest chk _ _ ht h1).cons λops' L e l r en hh x=>.turn v H (e.trans ho) (by rw[L.gR e];exact JC hla) (L.want hw) (L.turn λf w a dd hr ha hs next Q hn=>?_) (.inl rfl) x;obtain⟨u,g1,g2⟩:=h2 f w a dd (HRQ.empty f w) ha hs;exact jM g1 (hn f w u (Step.refl hr) g2)
    rcases dI h with⟨htn,h⟩|⟨htn,h⟩
    ·obtain⟨_,h⟩:=aD h;cases tH hC h with
     |val v H1 h g=>
      obtain⟨h,hc⟩:=oT hm ht h;exact(kJ hC hm rest chk _ _ ht h).cons λops' L e l r en hh x=>.turn v H1 (e.trans ho) (by rw[L.gR e];exact nK ho htn) (L.want hw) (L.turn λf w a dd hr ha hs next Q hn=>g f w a hr ha.glob (hs.stand ha) next Q hn) (.inr λc hcm=>(hc c hcm).imp L.dep L.look) x
     |cM v H1 h g=>exact .inr ⟨v,env,H1,h,λops' L hl tail=>.cM v H1 ((hl i (by simp)).trans ho) (by rw[L.gR (hl i (by simp))];exact nK ho htn) (L.want hw) (L.cM λf w a dd hr ha hs next Q hn=>g f w a hr ha.glob (hs.stand ha) next Q hn)⟩
    ·rcases dI h with⟨hl,h⟩|⟨hl,h⟩
     ·unfold cP at h;split at h
      ·rename_i hd;cases Jr h with
       |same v h g=>
        have:=Nat.eq_of_beq_eq_true (aD h).1;exact absurd this (by simp)
       |new ob vf _ h hown g=>
        obtain⟨H1,g1,g2,g3,g4⟩:=lS h;exact(kJ hC hm rest chk _ _ ht (aD g1).2).cons λops' L e l r en hh x=>.lay ob vf H1 (e.trans ho) (by rw[L.late];exact hla) (L.want hw) g2 g3 g4 hd hown (L.lay λf w a dd ha hs=>g f w a (hs.stand ha)) x
       |turn v H' h ht'=>rw[htn]at ht';cases ht'
      ·exact h.elim
     ·rcases dI h with⟨hs,h⟩|⟨hs,h⟩
      ·obtain⟨v,h1,h2⟩:=zp (ops:=ops) htn h;exact(kJ hC hm rest chk _ _ ht h1).cons λops' L e l r en hh x=>.still v (e.trans ho) (by rw[L.late];exact hla) (L.want hw) (λH=>L.look λf w a dd _ ha hs=>h2 f w a dd (HRQ.empty f w) ha hs) x
      ·obtain⟨v,h1,h2⟩:=zp (ops:=ops) htn h;exact(kJ hC hm rest _ _ _ (λc hc=>by rcases List.mem_cons.1 hc with rfl|hc;exact htn;exact ht c hc) h1).cons λops' L e l r en hh x=>.look v (e.trans ho) (by rw[L.late];exact hla) (L.want hw) (L.look h2) x
   simp only at h;split at h
   ·rename_i hg;exact key (.of_none hg) h
   ·rename_i j want hg;rcases fG.afw hg (Bw h)with⟨h,hw⟩|⟨h,hw⟩
    ·exact key hw h
    ·exact(kJ hC hm rest chk _ _ ht h).cons λops' L e l r en hh x=>.skip (e.trans ho) (by rw[L.late];exact JD ho hg) (L.want hw) x
end
section
variable {P:Program}
theorem fN(env:List AV)(d:Option Tmp)(v:AV):(cJ env d v).length=env.length:=by cases d<;>simp[cJ]
theorem mZ{env:List AV}{d:Option Tmp}{v:AV}{t:Tmp}(h:d≠some t):(cJ env d v)[t]? = env[t]?:=by
 cases d with
 |none=>rfl
 |some x=>exact List.getElem?_set_ne (λe=>h (by rw[e]))
theorem oU{env:List AV}{v:AV}{t:Tmp}(h:t<env.length):(cJ env (some t) v)[t]? = some v:=by simp[cJ,h]
theorem Same.put{ops:Array Oper}{o:Oper}{env:List AV}{d:Option Tmp}{v:AV}(h:∀t,d=some t→t∉o.looksAt ops):Same ops o env (cJ env d v):=λt ht=>mZ (λe=>h t e ht)
def jF(o:Oper)(env:List AV)(v:AV):Prop:=∀t,o.dst=some t→t<env.length→env[t]? = some v
theorem jF.self(o:Oper)(env:List AV)(v:AV):jF o (cJ env o.dst v) v:=λt ht hl=>by rw[ht];exact oU (by rw[fN]at hl;exact hl)
theorem jF.put{o:Oper}{env:List AV}{v u:AV}{d:Option Tmp}(h:jF o env v)(hd:∀t,o.dst=some t→d≠some t):jF o (cJ env d u) v:=λt ht hl=>by
 rw[mZ (hd t ht)];exact h t ht (by rw[fN]at hl;exact hl)
inductive PF(P:Program)(ops:Array Oper)(f:aL)(n0:Nat)(iD:Nat→Option Nat)(chk:List lg)(env:List AV)(H:AH)(i:Nat)(o:Oper):Prop
 |skip (hw:fG P ops o env false) (hv:jF o env eS)
 |look (dL:List AV) (v:AV) (hc:(i,o,dL,v)∈chk) (hw:fG P ops o env true) (hl:iY P ops o env v H) (hs:Same ops o dL env) (hv:jF o env v)
 |still (v:AV) (hw:fG P ops o env true) (hl:∀H,iY P ops o env v H) (hv:jF o env v)
 |lay (id:Nat) (ob:eB) (vf:Nat→AV) (hid:iD i=some id) (hw:fG P ops o env true) (hl:xf P ops o env ob vf) (hat:(H.at id).sem=ob.sem) (hown:ob.sem.own=true) (h0:n0≤id) (hn:id<H.n) (hd:¬f.dom id) (hv:jF o env (vf id))
theorem fG.same{ops:Array Oper}{o:Oper}{env dL:List AV}{b:Bool}(h:fG P ops o env b)(hs:Same ops o env dL):fG P ops o dL b:=λf a dd ha hs2=>h f a dd ha (hs.trans hs2)
theorem iY.same{ops:Array Oper}{o:Oper}{env dL:List AV}{v:AV}{H:AH}(h:iY P ops o env v H)(hs:Same ops o env dL):iY P ops o dL v H:=λf w a dd hr ha hs2=>h f w a dd hr ha (hs.trans hs2)
theorem xf.same{ops:Array Oper}{o:Oper}{env dL:List AV}{ob:eB}{vf:Nat→AV}(h:xf P ops o env ob vf)(hs:Same ops o env dL):xf P ops o dL ob vf:=λf w a dd ha hs2=>h f w a dd ha (hs.trans hs2)
theorem iY.more{ops:Array Oper}{o:Oper}{env:List AV}{v:AV}{H H1:AH}(h:iY P ops o env v H)(hd:H.at H.n=.dead)(hold:∀b,b≠H.n→H1.at b=H.at b):iY P ops o env v H1:=λf w a dd hr ha hs=>
 h f w a dd (hr.forget H.sem λb=>by
  by_cases e:b=H.n
  ·subst e;left;rw[AH.bN,hd];rfl
  ·right;rw[AH.bN,AH.bN,hold b e]) ha hs
theorem gw.ahead{f0 f:aL}{S0 S S1:SH}{w0 w:World}(s:gw f0 S0 w0 f S w)(hn:S.n≤S1.n)(hold:∀b,b<S.n→S1.ob b=S.ob b)(hro:∀b,(S1.ob b).alive=true→(S1.ob b).own=false→S.ob b=S1.ob b):gw f0 S0 w0 f S1 w where
 rel:=gg.mk' (λb hb=>Nat.lt_of_lt_of_le (s.rel.dom b hb) hn) (λb hb ha=>by rw[hold b (s.rel.dom b hb)]at ha ⊢;exact s.rel.obj b hb ha)
  (λb c hb hc ho ha e=>by rw[hold b (s.rel.dom b hb)]at ho;rw[hold c (s.rel.dom c hc)]at ha;exact s.rel.inj b c hb hc ho ha e)
 le:=s.le
 n:=Nat.le_trans s.n hn
 size:=s.size
 keep:=s.keep
 src:=λb hb ho=>by rw[hold b (s.rel.dom b hb)]at ho;exact s.src b hb ho
 ro:=λb ha ho=>by
  have e:=hro b ha ho;rw[←e]at ha ho ⊢;exact s.ro b ha ho
 dead:=λb hb h=>by rw[hold b (Nat.lt_of_lt_of_le hb s.n)];exact s.dead b hb h
 new:=s.new
 rest:=λb hb h=>by rw[hold b (Nat.lt_of_lt_of_le hb s.n)];exact s.rest b hb h
 os:=s.os
 tape:=s.tape
 output:=s.output
theorem gw.catch{f0 f:aL}{S0 S:SH}{w0 w:World}(s:gw f0 S0 w0 f S w){i:Nat}(h0:S0.n≤i)(hi:¬f.dom i)(hn:i<S.n){obj:Obj}{off lim:Nat}(hob:OR (f.ext i w.heap.size off lim) i (S.ob i) (some obj)) :
  gw f0 S0 w0 (f.ext i w.heap.size off lim) S (w.alloc obj):=by
 obtain⟨h1,h2⟩:=s.rel.push S i _ obj off lim hi hn (Nat.le_refl _) rfl (λ_ _=>rfl) hob;have hle:=f.pd hi w.heap.size off lim;refine⟨h1,s.le.trans hle,s.n,Nat.le_trans s.size (by simp),λk hk hn'=>?_,λb hb ho=>?_,s.ro,s.dead,λb hb hd=>?_,s.rest,s.os,s.tape,s.output⟩
 ·rw[h2 k (Nat.lt_of_lt_of_le hk s.size)];exact s.keep k hk hn'
 ·by_cases e:b=i
  ·subst e;right;rw[aL.hV];exact s.size
  ·have hb':=hb.resolve_left e;rw[hle.blk b hb'];exact s.src b hb' ho
 ·rintro(e|hd')
  ·omega
  ·exact s.new b hb hd hd'
def oD(suf:List Nat)(listed:Array Bool)(i:Nat):Prop:=listed.getD i true=false∧i∉suf
structure Inv(P:Program)(ops:Array Oper)(f0:aL)(H0:AH)(w0:World)(ds:List eD)(r:Option AV)(env':List AV)(H':AH)(suf:List Nat)(chk:List lg)(env:List AV)(H:AH)(iD:Nat→Option Nat)(listed:Array Bool)(f:aL)(eM:List AV)(a:Act)(w:World):Prop where
 tr:Tr P ops suf chk env H r env' H'
 step:Step f0 H0 w0 f H w
 ar:AR P f eM a
 dr:DR f ds a.defers
 agree:∀t,(∃i,oD suf listed i∧jq ops i=some t)∨eM[t]? = env[t]?
 len:eM.length=env.length
 pend:∀i,oD suf listed i→∃o,ops[i]? = some o∧PF P ops f H0.n iD chk env H i o
 TI:∀i,oD suf listed i→∀j∈suf,∀t,jq ops j=some t→(t∉gh ops i∧jq ops i≠some t)∨(gi ops j=true∧oR ops j i)
 late:∀i,oD suf listed i→gi ops i=false
 AK:∀i∈suf,listed.getD i true=false
 Pk:suf.Nodup
 lin:Lin ops suf
 ssa:JE ops suf
 inj:∀i j x,iD i=some x→iD j=some x→i=j
 Hx:∀i x,iD i=some x→x<H.n
theorem jV{ops:Array Oper}{i:Nat}{o:Oper}(h:ops[i]? = some o):jq ops i=o.dst:=by simp[jq,h]
theorem lU{ops:Array Oper}{i:Nat}{o:Oper}(h:ops[i]? = some o):gh ops i=o.looksAt ops:=by simp[gh,h]
section
variable {ops:Array Oper}{f0:aL}{H0:AH}{w0:World}{ds:List eD}{r:Option AV}{env':List AV}{H':AH}
theorem Inv.zq{i:Nat}{rest:List Nat}{chk:List lg}{env:List AV}{H:AH}{iD:Nat→Option Nat}{listed:Array Bool}{f:aL}{eM:List AV}{a:Act}{w:World}
  (I:Inv P ops f0 H0 w0 ds r env' H' (i::rest) chk env H iD listed f eM a w){o:Oper}(ho:ops[i]? = some o) (hla:gi ops i=false){v:AV}{rv:List lg}{H1:AH}{sC:Nat→Option Nat}
  (tr:Tr P ops rest rv (cJ env o.dst v) H1 r env' H') (hpf:PF P ops f H0.n sC rv (cJ env o.dst v) H1 i o) (hst:Step f0 H0 w0 f H1 w)
  (hold:∀p op,p≠i→PF P ops f H0.n iD chk (cJ env o.dst v) H p op→PF P ops f H0.n sC rv (cJ env o.dst v) H1 p op)
  (hinj:∀i j x,sC i=some x→sC j=some x→i=j) (aqK:∀i x,sC i=some x→x<H1.n) :
  Inv P ops f0 H0 w0 ds r env' H' rest rv (cJ env o.dst v) H1 sC listed f eM a w:=by
 have pj:=List.nodup_cons.1 I.Pk;have hpc:∀p,oD rest listed p→p=i∨(p≠i∧oD (i::rest) listed p):=λp hp=>by
  by_cases e:p=i
  ·exact .inl e
  ·exact .inr ⟨e,hp.1,λhm=>by rcases List.mem_cons.1 hm with h|h;exact e h;exact hp.2 h⟩
 refine⟨tr,hst,I.ar,I.dr,λt=>?_,by rw[fN];exact I.len,λp hp=>?_,λp hp j hj t ht=>?_,λp hp=>?_,λp hp=>I.AK p (by simp[hp]),pj.2,I.lin.2,I.ssa.2.2.2,hinj,aqK⟩
 ·by_cases e:o.dst=some t
  ·exact .inl ⟨i,⟨I.AK i (by simp),pj.1⟩,by rw[jV ho];exact e⟩
  ·rcases I.agree t with⟨p,hp,hd⟩|h
   ·exact .inl ⟨p,⟨hp.1,λh=>hp.2 (by simp[h])⟩,hd⟩
   ·exact .inr (by rw[mZ e];exact h)
 ·rcases hpc p hp with rfl|⟨hne,hp⟩
  ·exact⟨o,ho,hpf⟩
  ·obtain⟨op,h1,h2⟩:=I.pend p hp;refine⟨op,h1,hold p op hne ?_⟩;have hn:=λt ht=>(I.TI p hp i (by simp) t ht).resolve_right (λe=>by rw[hla]at e;cases e.1);rw[jV ho,jV h1,lU h1]at hn;have hs:Same ops op env (cJ env o.dst v):=Same.put λt ht=>(hn t ht).1;have hv:∀{u:AV},jF op env u→jF op (cJ env o.dst v) u:=λh=>h.put λt ht e=>(hn t e).2 ht;cases h2 with
   |skip hw h=>exact .skip (hw.same hs) (hv h)
   |look dL u hc hw hl hs1 h=>exact .look dL u hc (hw.same hs) (hl.same hs) (hs1.trans hs) (hv h)
   |still u hw hl h=>exact .still u (hw.same hs) (λH=>(hl H).same hs) (hv h)
   |lay id ob vf hid hw hl hat hown h0 hn hd h=>exact .lay id ob vf hid (hw.same hs) (hl.same hs) hat hown h0 hn hd (hv h)
 ·rcases hpc p hp with rfl|⟨_,hp⟩
  ·exact I.ssa.1 j hj t ht
  ·exact I.TI p hp j (by simp[hj]) t ht
 ·rcases hpc p hp with rfl|⟨_,hp⟩
  ·exact hla
  ·exact I.late p hp
def akv(P:Program)(ops:Array Oper)(suf:List Nat)(chk:List lg)(env:List AV)(H:AH)(r:Option AV)(env':List AV)(H':AH):Prop:=
 (suf=[]∧r=none∧env=env'∧H=H')∨
 (∃i o rest v H1,suf=i::rest∧ops[i]? = some o∧gR ops i=true∧fG P ops o env true∧yj P ops o env H v H1∧(H1=H∨∀x∈chk,oR ops i x.1∨iY P ops x.2.1 x.2.2.1 x.2.2.2 H1)∧Tr P ops rest chk (cJ env o.dst v) H1 r env' H')∨
 (∃i o rest v H1,suf=i::rest∧ops[i]? = some o∧gR ops i=true∧fG P ops o env true∧It P ops o env H v H1∧r=some v∧env=env'∧H1=H')
theorem Inv.TJ:∀{suf:List Nat}{chk:List lg}{env:List AV}{H:AH}{iD:Nat→Option Nat}{listed:Array Bool}{f:aL}{eM:List AV}{a:Act}{w:World},
  Inv P ops f0 H0 w0 ds r env' H' suf chk env H iD listed f eM a w→∃AL rv dL H1 sC,Inv P ops f0 H0 w0 ds r env' H' AL rv dL H1 sC listed f eM a w∧akv P ops AL rv dL H1 r env' H':=by
 intro suf
 induction suf with
 |nil=>
  intro chk env H iD listed f eM a w I;have h:=I.tr;refine⟨[],chk,env,H,iD,I,.inl ?_⟩;cases h;exact⟨rfl,rfl,rfl,rfl⟩
 |cons i rest ih=>
  intro chk env H iD listed f eM a w I;have h:=I.tr;cases h with
  |skip ho hla hw hr=>
   rename_i o;have hs:Same ops o env (cJ env o.dst eS):=Same.put λt ht=>by
    have:=I.ssa.2.2.1 t (by rw[jV ho];exact ht);rw[lU ho]at this;exact this
   exact ih (I.zq ho hla hr (.skip (hw.same hs) (jF.self o env eS)) I.step (λ_ _ _ h=>h) I.inj I.Hx)
  |look v ho hla hw hl hr=>
   rename_i o;have hs:Same ops o env (cJ env o.dst v):=Same.put λt ht=>by
    have:=I.ssa.2.2.1 t (by rw[jV ho];exact ht);rw[lU ho]at this;exact this
   refine ih (I.zq ho hla hr (.look env v (by simp) (hw.same hs) (hl.same hs) hs (jF.self o env v)) I.step (λp op _ h=>?_) I.inj I.Hx);cases h with
   |skip hw h=>exact .skip hw h
   |look dL u hc hw hl hs1 h=>exact .look dL u (by simp[hc]) hw hl hs1 h
   |still u hw hl h=>exact .still u hw hl h
   |lay id ob vf hid hw hl hat hown h0 hn hd h=>exact .lay id ob vf hid hw hl hat hown h0 hn hd h
  |still v ho hla hw hl hr=>
   rename_i o;have hs:Same ops o env (cJ env o.dst v):=Same.put λt ht=>by
    have:=I.ssa.2.2.1 t (by rw[jV ho];exact ht);rw[lU ho]at this;exact this
   exact ih (I.zq ho hla hr (.still v (hw.same hs) (λH=>(hl H).same hs) (jF.self o env v)) I.step (λ_ _ _ h=>h) I.inj I.Hx)
  |lay ob vf H1 ho hla hw hn hnew hold zi hown hl hr=>
   rename_i o;have hs:Same ops o env (cJ env o.dst (vf H.n)):=Same.put λt ht=>by
    have:=I.ssa.2.2.1 t (by rw[jV ho];exact ht);rw[lU ho]at this;exact this
   have hst:Step f0 H0 w0 f H1 w:=I.step.ahead (by simp[hn]) (λb hb=>by rw[AH.bN,AH.bN,hold b (by simp at hb;omega)]) (λb ha hb=>by
    by_cases e:b=H.n
    ·subst e;rw[AH.bN,hnew,hown]at hb;cases hb
    ·rw[AH.bN,AH.bN,hold b e])
   have hd:¬f.dom H.n:=gg.fresh I.step.rel;refine ih (I.zq (sC:=λk=>if k=i then some H.n else iD k) ho hla hr (.lay H.n ob vf (by simp) (hw.same hs) (hl.same hs) (by rw[hnew]) hown (by have:=I.step.n;simpa using this) (by omega) hd (jF.self o env _)) hst (λp op hne h=>?_) (λx y z hx hy=>?_) (λx z hx=>?_))
   ·cases h with
    |skip hw h=>exact .skip hw h
    |look dL u hc hw hl hs1 h=>exact .look dL u hc hw (hl.more zi hold) hs1 h
    |still u hw hl h=>exact .still u hw hl h
    |lay id ob vf hid hw hl hat hown h0 hn' hd h=>exact .lay id ob vf (by simp[hne,hid]) hw hl (by rw[hold id (by omega)];exact hat) hown h0 (by omega) hd h
   ·by_cases e1:x=i<;>by_cases e2:y=i
    ·rw[e1,e2]
    ·simp only[e1,e2,if_true,if_false,Option.some.injEq]at hx hy;have:=I.Hx y z hy;omega
    ·simp only[e1,e2,if_true,if_false,Option.some.injEq]at hx hy;have:=I.Hx x z hx;omega
    ·simp only[e1,e2,if_false]at hx hy;exact I.inj x y z hx hy
   ·by_cases e1:x=i
    ·simp only[e1,if_true,Option.some.injEq]at hx;omega
    ·simp only[e1,if_false]at hx;have:=I.Hx x z hx;omega
  |turn v H1 ho ht hw hl hc hr=>exact⟨_,_,_,_,iD,I,.inr (.inl ⟨i,_,rest,v,H1,rfl,ho,ht,hw,hl,hc,hr⟩)⟩
  |cM v H1 ho ht hw hl=>exact⟨_,_,_,_,iD,I,.inr (.inr ⟨i,_,rest,v,_,rfl,ho,ht,hw,hl,rfl,rfl,rfl⟩)⟩
end
end
section
variable {P:Program}
theorem sD{l:Array Bool}{i:Nat}(h:l.getD i false=true):l.getD i true=true:=by
 rcases Nat.lt_or_ge i l.size with hl|hl
 ·simpa[Array.getD_eq_getD_getElem?,Array.getElem?_eq_getElem hl]using h
 ·simp[Array.getD_eq_getD_getElem?,Array.getElem?_eq_none hl]at h
theorem getD_in{l:Array Bool}{i:Nat}(hl:i<l.size)(h:l.getD i true≠false):l.getD i false=true:=by
 simpa[Array.getD_eq_getD_getElem?,Array.getElem?_eq_getElem hl]using h
theorem xL(l:Array Bool)(i:Nat):(l.setIfInBounds i true).getD i true=true:=by
 rcases Nat.lt_or_ge i l.size with hl|hl
 ·simp[Array.getD_eq_getD_getElem?,Array.getElem?_setIfInBounds_self_of_lt hl]
 ·simp[Array.getD_eq_getD_getElem?,Array.getElem?_eq_none (show(l.setIfInBounds i true).size≤i by simpa using hl)]
theorem oD.back{suf:List Nat}{l:Array Bool}{i p:Nat}(h:oD suf (l.setIfInBounds i true) p):p≠i∧l.getD p true=false:=by
 have hne:p≠i:=λe=>by subst e;have:=h.1;rw[xL]at this;cases this
 exact⟨hne,by have:=h.1;rwa [getD_set_ne true (Ne.symm hne)]at this⟩
def mw(ops:Array Oper)(env:List AV):List AV:=ops.toList.foldl (λe o=>cJ e o.dst .dH) env
theorem agw:∀(l:List Oper) (e1 e2:List AV),e1.length=e2.length→(∀t,(∃o∈l,o.dst=some t)∨e1[t]? = e2[t]?)→l.foldl (λe o=>cJ e o.dst .dH) e1=l.foldl (λe o=>cJ e o.dst .dH) e2
 |[],e1,e2,_,h=>List.ext_getElem? λt=>(h t).resolve_left (by simp)
 |o::l,e1,e2,hl,h=>by
  refine agw l _ _ (by rw[fN,fN,hl]) λt=>?_;show _∨(cJ e1 o.dst .dH)[t]? = (cJ e2 o.dst .dH)[t]?;by_cases e:o.dst=some t
  ·right;rw[e];rcases Nat.lt_or_ge t e1.length with ht|ht
   ·rw[oU ht,oU (by rw[←hl];exact ht)]
   ·rw[List.getElem?_eq_none (by rw[fN];exact ht),List.getElem?_eq_none (by rw[fN,←hl];exact ht)]
  ·rcases h t with⟨o',ho',hd⟩|h
   ·rcases List.mem_cons.1 ho' with rfl|ho'
    ·exact absurd hd e
    ·exact .inl ⟨o',ho',hd⟩
   ·right;rw[mZ e,mZ e,h]
theorem VL.dH{f:aL}:∀{as:List AV}{vs:List Value},VL f as vs→∀t,VL f (as.set t .dH) vs
 |_,_,.nil,t=>.nil
 |_,_,.cons a v as vs h1 h2,0=>.cons _ _ _ _ (.dH _) h2
 |_,_,.cons a v as vs h1 h2,t+1=>.cons _ _ _ _ h1 (VL.dH h2 t)
theorem AR.dH{f:aL}{env:List AV}{a:Act}(h:AR P f env a)(ops:Array Oper):AR P f (mw ops env) a:=by
 refine⟨?_,h.glob⟩;unfold mw;generalize ops.toList=l;have:=h.tmps;clear h
 induction l generalizing env with
 |nil=>exact this
 |cons o l ih=>
  refine ih ?_;show VL f (cJ env o.dst .dH) _;cases o.dst with
  |none=>exact this
  |some t=>exact this.dH t
section
variable {ops:Array Oper}{f0:aL}{H0:AH}{w0:World}{ds:List eD}{r:Option AV}{env':List AV}{H':AH}
theorem po{listed:Array Bool}(down:∀i j,listed.getD i false=true→j∈fM ops i→listed.getD j false=true){i j:Nat}(hd:oR ops i j):(∀k∈fM ops i,listed.getD k false=true)→listed.getD j false=true:=by
 induction hd with
 |edge h=>exact λhr=>hr _ h
 |step h _ ih=>exact λhr=>ih λk hk=>down _ k (hr _ h) hk
variable {suf:List Nat}{chk:List lg}{env:List AV}{H:AH}{iD:Nat→Option Nat}{listed:Array Bool}{f:aL}{eM:List AV}{a:Act}{w:World}
theorem Inv.same(I:Inv P ops f0 H0 w0 ds r env' H' suf chk env H iD listed f eM a w)(uN:∀i j t,i<ops.size→jq ops j=some t→t∈gh ops i→oR ops i j∨gi ops j=true)
  (down:∀i j,listed.getD i false=true→j∈fM ops i→listed.getD j false=true){i:Nat}{o:Oper}(ho:ops[i]? = some o) (hr:∀k∈fM ops i,listed.getD k false=true):Same ops o env eM:=λt ht=>by
 rcases I.agree t with⟨p,hp,hd⟩|h
 ·have:=po down ((uN i p t (Array.getElem?_eq_some_iff.1 ho).1 hd (by rw[lU ho];exact ht)).resolve_right (by rw[I.late p hp];simp)) hr;have:=sD this;rw[hp.1]at this;cases this
 ·exact h
theorem TK{o:Oper}{v:AV}{t:Tmp}(hl:eM.length=env.length)(h:o.dst=some t)(hv:jF o env v):(cJ eM o.dst v)[t]? = env[t]?:=by
 rw[h];rcases Nat.lt_or_ge t env.length with ht|ht
 ·rw[oU (by rw[hl];exact ht),hv t h ht]
 ·rw[List.getElem?_eq_none (by rw[fN,hl];exact ht),List.getElem?_eq_none ht]
theorem Inv.Iu(I:Inv P ops f0 H0 w0 ds r env' H' suf chk env H iD listed f eM a w){i:Nat}(hi:oD suf listed i){o:Oper}(ho:ops[i]? = some o){f':aL}{w':World}(hle:f.le f')(hst:Step f0 H0 w0 f' H w'){v:AV}{u:Value}(hu:VR f' v u)(hv:jF o env v)
  (hdom:∀p id,p≠i→iD p=some id→¬f.dom id→¬f'.dom id):Inv P ops f0 H0 w0 ds r env' H' suf chk env H iD (listed.setIfInBounds i true) f' (cJ eM o.dst v) (a.put o.dst u) w':=by
 have hb:∀p,oD suf (listed.setIfInBounds i true) p→p≠i∧oD suf listed p:=λp hp=>⟨hp.back.1,hp.back.2,hp.2⟩
 refine⟨I.tr,hst,(I.ar.up hle).put o.dst hu,by rw[put_defers];exact I.dr.up hle,λt=>?_,by rw[fN];exact I.len,λp hp=>?_,λp hp=>I.TI p (hb p hp).2,λp hp=>I.late p (hb p hp).2,λp hp=>?_,I.Pk,I.lin,I.ssa,I.inj,I.Hx⟩
 ·by_cases e:o.dst=some t
  ·exact .inr (TK I.len e hv)
  ·rw[mZ e];rcases I.agree t with⟨p,hp,hd⟩|h
   ·have hne:p≠i:=λe'=>by subst e';rw[jV ho]at hd;exact e hd
    exact .inl ⟨p,⟨by rw[getD_set_ne true (Ne.symm hne)];exact hp.1,hp.2⟩,hd⟩
   ·exact .inr h
 ·obtain⟨hne,hp⟩:=hb p hp;obtain⟨op,h1,h2⟩:=I.pend p hp;refine⟨op,h1,?_⟩;cases h2 with
  |skip hw h=>exact .skip hw h
  |look dL u hc hw hl hs1 h=>exact .look dL u hc hw hl hs1 h
  |still u hw hl h=>exact .still u hw hl h
  |lay id ob vf hid hw hl hat hown h0 hn hd h=>exact .lay id ob vf hid hw hl hat hown h0 hn (hdom p id hne hid hd) h
 ·have hne:i≠p:=λe=>hi.2 (e ▸ hp);rw[getD_set_ne true hne];exact I.AK p hp
theorem Inv.apv{i:Nat}{rest:List Nat}(I:Inv P ops f0 H0 w0 ds r env' H' (i::rest) chk env H iD listed f eM a w){o:Oper}(ho:ops[i]? = some o)
  (down:∀i j,listed.getD i false=true→j∈fM ops i→listed.getD j false=true) (hrd:∀k∈fM ops i,listed.getD k false=true)
  {v:AV}{H1:AH}(hc:H1=H∨∀x∈chk,oR ops i x.1∨iY P ops x.2.1 x.2.2.1 x.2.2.2 H1) (tr:Tr P ops rest chk (cJ env o.dst v) H1 r env' H'){f':aL}{w':World}(s:Step f H w f' H1 w'){u:Value}(hu:VR f' v u) :
  Inv P ops f0 H0 w0 ds r env' H' rest chk (cJ env o.dst v) H1 iD (listed.setIfInBounds i true) f' (cJ eM o.dst v) (a.put o.dst u) w':=by
 have pj:=List.nodup_cons.1 I.Pk;have hb:∀p,oD rest (listed.setIfInBounds i true) p→p≠i∧oD (i::rest) listed p:=λp hp=>
  ⟨hp.back.1,hp.back.2,λhm=>by rcases List.mem_cons.1 hm with h|h;exact hp.back.1 h;exact hp.2 h⟩
 refine⟨tr,gw.trans I.step s,(I.ar.up s.le).put o.dst hu,by rw[put_defers];exact I.dr.up s.le,λt=>?_,by rw[fN,fN];exact I.len,λp hp=>?_,λp hp j hj=>I.TI p (hb p hp).2 j (by simp[hj]),λp hp=>I.late p (hb p hp).2,λp hp=>?_,pj.2,I.lin.2,I.ssa.2.2.2,I.inj,λx y h=>Nat.lt_of_lt_of_le (I.Hx x y h) s.n⟩
 ·by_cases e:o.dst=some t
  ·right;rw[e];rcases Nat.lt_or_ge t env.length with ht|ht
   ·rw[oU ht,oU (by rw[I.len];exact ht)]
   ·rw[List.getElem?_eq_none (by rw[fN,I.len];exact ht),List.getElem?_eq_none (by rw[fN];exact ht)]
  ·rw[mZ e,mZ e];rcases I.agree t with⟨p,hp,hd⟩|h
   ·have hne:p≠i:=λe'=>hp.2 (by simp[e']);exact .inl ⟨p,⟨by rw[getD_set_ne true (Ne.symm hne)];exact hp.1,λh=>hp.2 (by simp[h])⟩,hd⟩
   ·exact .inr h
 ·obtain⟨hne,hp⟩:=hb p hp;obtain⟨op,h1,h2⟩:=I.pend p hp;refine⟨op,h1,?_⟩;have hn:=λt ht=>(I.TI p hp i (by simp) t ht).resolve_right (λe=>by
   have:=sD (po down e.2 hrd);rw[hp.1]at this;cases this)
  rw[jV ho,jV h1,lU h1]at hn;have hs:Same ops op env (cJ env o.dst v):=Same.put λt ht=>(hn t ht).1;have hv:∀{u:AV},jF op env u→jF op (cJ env o.dst v) u:=λh=>h.put λt ht e=>(hn t e).2 ht;cases h2 with
  |skip hw h=>exact .skip (hw.same hs) (hv h)
  |look dL u hcm hw hl hs1 h=>
   rcases hc with e|hc
   ·subst e;exact .look dL u hcm (hw.same hs) (hl.same hs) (hs1.trans hs) (hv h)
   rcases hc _ hcm with hd|hl'
   ·have:=sD (po down hd hrd);have hp1:=hp.1;simp only at this;rw[hp1]at this;cases this
   ·exact .look dL u hcm (hw.same hs) ((iY.same hl' hs1).same hs) (hs1.trans hs) (hv h)
  |still u hw hl h=>exact .still u (hw.same hs) (λH=>(hl H).same hs) (hv h)
  |lay id ob vf hid hw hl hat hown h0 hn hd h=>
   refine .lay id ob vf hid (hw.same hs) (hl.same hs) ?_ hown h0 (Nat.lt_of_lt_of_le hn s.n) (s.new id hn hd) (hv h);have:=s.rest id hn hd;rw[AH.bN,AH.bN]at this;rw[this];exact hat
 ·have hne:i≠p:=λe=>pj.1 (e ▸ hp);rw[getD_set_ne true hne];exact I.AK p (by simp[hp])
theorem TL(I:Inv P ops f0 H0 w0 ds r env' H' suf chk env H iD listed f eM a w)(uN:∀i j t,i<ops.size→jq ops j=some t→t∈gh ops i→oR ops i j∨gi ops j=true)
  (down:∀i j,listed.getD i false=true→j∈fM ops i→listed.getD j false=true){i:Nat}(hi:oD suf listed i) (hr:∀k∈fM ops i,listed.getD k false=true){Q:Exit→Act→World→Prop}{K:Act→World→Prop}
  (hK:∀f' agx a' w',Inv P ops f0 H0 w0 ds r env' H' suf chk env H iD (listed.setIfInBounds i true) f' agx a' w'→K a' w'):wpOp P ops Q i K a w:=by
 obtain⟨o,ho,hpf⟩:=I.pend i hi;have hS:=I.same uN down ho hr;unfold wpOp;simp only[ho];cases hpf with
 |skip hw h=>
  rw[if_neg (by rw[hw f a eM I.ar hS];simp)];exact hK f _ _ w (I.Iu hi ho (.refl f) I.step (VR.undef f) h λ_ _ _ _ h=>h)
 |look dL v hc hw hl hs1 h=>
  rw[if_pos (hw f a eM I.ar hS)];obtain⟨u,h1,h2⟩:=hl f w a eM I.step.rel.toHRQ I.ar hS;exact .inl (jM h1 (hK f _ _ w (I.Iu hi ho (.refl f) I.step h2 h λ_ _ _ _ h=>h)))
 |still v hw hl h=>
  rw[if_pos (hw f a eM I.ar hS)];obtain⟨u,h1,h2⟩:=hl H f w a eM I.step.rel.toHRQ I.ar hS;exact .inl (jM h1 (hK f _ _ w (I.Iu hi ho (.refl f) I.step h2 h λ_ _ _ _ h=>h)))
 |lay id ob vf hid hw hl hat hown h0 hn hd h=>
  rw[if_pos (hw f a eM I.ar hS)];obtain⟨u,obj,h1,lim,h2⟩:=hl f w a eM I.ar hS;obtain⟨h3,h4⟩:=h2 id hd;refine .inl (jM h1 (hK _ _ _ _ (I.Iu hi ho (f.pd hd w.heap.size 0 lim) (I.step.catch h0 hd hn (by rw[AH.bN,hat];exact h3)) h4 h λp id' hne aqL hnd hd'=>?_)));rcases hd' with e|hd'
  ·subst e;exact hne (I.inj _ _ _ aqL hid)
  ·exact hnd hd'
theorem oa{i:Nat}{o:Oper}(ho:ops[i]? = some o){j:Nat}:j∈fM ops i↔∃e∈o.after,Region.binds .any e=true∧e.on=j:=by
 simp only[fM,ho,List.mem_map,List.mem_filter,Array.mem_toList_iff,and_assoc]
theorem Aj{i:Nat}{listed:Array Bool}(h:i∈Region.ready .any ops listed):listed.getD i true=false∧i<ops.size∧∀k∈fM ops i,listed.getD k false=true:=by
 obtain⟨h1,o,h2,h3⟩:=mem_ready.1 h;refine⟨h1,(Array.getElem?_eq_some_iff.1 h2).1,λk hk=>?_⟩;obtain⟨e,g1,g2,rfl⟩:=(oa h2).1 hk;exact h3 e g1 g2
theorem BA{listed:Array Bool}(hs:listed.size=ops.size):∀(l seen:List Nat),(∀i∈l,i<ops.size)→QZ ops seen l→(∀j∈seen,listed.getD j false=true)→(∃i∈l,listed.getD i true=false)→∃i,i∈Region.ready .any ops listed
 |[],_,_,_,_,h=>by obtain⟨i,h,_⟩:=h;simp at h
 |i::l,seen,hl,ht,hse,h=>by
  by_cases e:listed.getD i true=false
  ·refine⟨i,mem_ready.2 ⟨e,?_⟩⟩;have hi:=hl i (by simp);refine⟨ops[i],Array.getElem?_eq_getElem hi,λx hx hb=>hse _ (ht.1 _ ((oa (Array.getElem?_eq_getElem hi)).2 ⟨x,hx,hb,rfl⟩))⟩
  ·refine BA hs l (i::seen) (λj hj=>hl j (by simp[hj])) ht.2 (λj hj=>?_) ?_
   ·rcases List.mem_cons.1 hj with rfl|hj
    ·exact getD_in (by rw[hs];exact hl j (by simp)) e
    ·exact hse j hj
   ·obtain⟨j,hj,hu⟩:=h;rcases List.mem_cons.1 hj with rfl|hj
    ·exact absurd hu e
    ·exact⟨j,hj,hu⟩
structure Stat(ops:Array Oper)(order:List Nat):Prop where
 lt:∀i∈order,i<ops.size
 all:∀i,i<ops.size→i∈order
 aqM:QZ ops [] order
 Pk:order.Nodup
 lin:Lin ops order
 ssa:JE ops order
theorem JE.uN:∀{l:List Nat},JE ops l→∀i∈l,∀j∈l,∀t,jq ops j=some t→t∈gh ops i→oR ops i j∨gi ops j=true
 |[],_,i,hi,_,_,_,_,_=>by simp at hi
 |k::l,h,i,hi,j,hj,t,hd,hl=>by
  rcases List.mem_cons.1 hi with e1|h1<;>rcases List.mem_cons.1 hj with e2|h2
  ·subst e1;subst e2;exact absurd hl (h.2.2.1 t hd)
  ·subst e1;rcases h.1 j h2 t hd with g|g
   ·exact absurd hl g.1
   ·exact .inr g.1
  ·subst e2;exact .inl (h.2.1 i h1 t hd hl)
  ·exact JE.uN h.2.2.2 i h1 j h2 t hd hl
def QOk(P:Program)(ops:Array Oper)(f0:aL)(H0:AH)(w0:World)(ds:List eD)(r:Option AV)(env':List AV)(H':AH)(Q:Exit→Act→World→Prop):Prop:=
 match r with|none=>∀a' w',mJ P f0 H0 w0 .normal env' ds H' .normal a' w'→Q .normal a' w'|some v=>∀ch a' w',mJ P f0 H0 w0 (.cM v) (mw ops env') ds H' (.panic ch) a' w'→Q (.panic ch) a' w'
theorem any_ok{order:List Nat}(S:Stat ops order){Q:Exit→Act→World→Prop}
  (hQ:QOk P ops f0 H0 w0 ds r env' H' Q) :
  ∀(fuel:Nat) (U:List Nat) (suf:List Nat) (chk:List lg) (env:List AV) (H:AH) (iD:Nat→Option Nat) (listed:Array Bool) (f:aL) (eM:List AV) (a:Act) (w:World),U.length=fuel→U.Nodup→(∀i,i∈U↔listed.getD i true=false)→listed.size=ops.size→
   (∀i j,listed.getD i false=true→j∈fM ops i→listed.getD j false=true)→Inv P ops f0 H0 w0 ds r env' H' suf chk env H iD listed f eM a w→wpAny P .any ops Q fuel listed a w:=by
 have uN:∀i j t,i<ops.size→jq ops j=some t→t∈gh ops i→oR ops i j∨gi ops j=true:=λi j t hi hd hl=>by
  have hj:j<ops.size:=by
   rcases Nat.lt_or_ge j ops.size with h|h
   ·exact h
   ·simp[jq,Array.getElem?_eq_none h]at hd
  exact S.ssa.uN i (S.all i hi) j (S.all j hj) t hd hl
 have done:∀(suf:List Nat) (chk:List lg) (env:List AV) (H:AH) (iD:Nat→Option Nat) (listed:Array Bool) (f:aL) (eM:List AV) (a:Act) (w:World),listed.size=ops.size→Region.ready .any ops listed=[]→Inv P ops f0 H0 w0 ds r env' H' suf chk env H iD listed f eM a w→Q .normal a w:=by
  intro suf chk env H iD listed f eM a w hs hr I;have hno:∀i,i<ops.size→listed.getD i true≠false:=λi hi e=>by
   obtain⟨k,hk⟩:=BA hs order [] S.lt S.aqM (by simp) ⟨i,S.all i hi,e⟩;rw[hr]at hk;simp at hk
  have hin:∀i,listed.getD i true=false→i<ops.size:=λi h=>by
   rcases Nat.lt_or_ge i listed.size with hl|hl
   ·omega
   ·simp[Array.getD_eq_getD_getElem?,Array.getElem?_eq_none hl]at h
  obtain⟨AL,rv,dL,H1,sC,I1,hd⟩:=I.TJ;have hs1:AL=[]:=by
   cases AL with
   |nil=>rfl
   |cons x l=>have:=I1.AK x (by simp);exact absurd this (hno x (hin x this))
  subst hs1;rcases hd with⟨_,rfl,rfl,rfl⟩|⟨i,o,rest,v,H2,h,_⟩|⟨i,o,rest,v,H2,h,_⟩
  ·have e:eM=dL:=List.ext_getElem? λt=>(I1.agree t).resolve_left λ⟨p,hp,_⟩=>hno p (hin p hp.1) hp.1;subst e;exact hQ a w ⟨f,I1.step,I1.ar,I1.dr,rfl⟩
  ·cases h
  ·cases h
 intro fuel
 induction fuel with
 |zero=>
  intro U suf chk env H iD listed f eM a w hU _ hm hs down I;have hU':U=[]:=List.eq_nil_of_length_eq_zero hU;have hr:Region.ready .any ops listed=[]:=by
   cases h:Region.ready .any ops listed with
   |nil=>rfl
   |cons x l=>
    have:=(hm x).2 (Aj (h ▸ List.mem_cons_self:x∈Region.ready .any ops listed)).1;rw[hU']at this;simp at this
  exact⟨hr,done suf chk env H iD listed f eM a w hs hr I⟩
 |succ fuel ih=>
  intro U suf chk env H iD listed f eM a w hU hUn hm hs down I;refine⟨λhr=>done suf chk env H iD listed f eM a w hs hr I,λi hi=>?_⟩;obtain⟨h1,h2,h3⟩:=Aj hi;have hgo:∀suf chk env H iD f eM a w,Inv P ops f0 H0 w0 ds r env' H' suf chk env H iD (listed.setIfInBounds i true) f eM a w→wpAny P .any ops Q fuel (listed.setIfInBounds i true) a w:=λsuf chk env H iD f eM a w I=>by
   refine ih (U.erase i) suf chk env H iD _ f eM a w ?_ (hUn.erase i) (λk=>?_) (by simpa using hs) (λx y hx hy=>?_) I
   ·rw[List.length_erase_of_mem ((hm i).2 h1),hU];rfl
   ·rw[hUn.mem_erase_iff,hm k];constructor
    ·rintro⟨g1,g2⟩;rw[getD_set_ne true (Ne.symm g1)];exact g2
    ·intro h;have hne:k≠i:=λe=>by subst e;rw[xL]at h;cases h
     exact⟨hne,by rwa [getD_set_ne true (Ne.symm hne)]at h⟩
   ·by_cases e:x=i
    ·subst e;exact getD_set_true (h3 y hy)
    ·rw[getD_set_ne false (Ne.symm e)]at hx;exact getD_set_true (down x y hx hy)
  obtain⟨AL,rv,dL,H1,sC,I1,hd⟩:=I.TJ;by_cases hin:i∈AL
  ·rcases hd with⟨rfl,_⟩|⟨k,o,rest,v,H2,rfl,ho,ht,hw,hl,hc,tr⟩|⟨k,o,rest,v,H2,rfl,ho,ht,hw,hl,rfl,rfl,rfl⟩
   ·simp at hin
   ·have e:i=k:=by
     rcases List.mem_cons.1 hin with e|e
     ·exact e
     ·have:=sD (po down (I1.lin.1 ht i e) h3);rw[I1.AK k (by simp)]at this;cases this
    subst e;have hS:=I1.same uN down ho h3;unfold wpOp;simp only[ho];rw[if_pos (hw f a eM I1.ar hS)];exact .inl (hl f w a eM I1.step.rel I1.ar hS _ _ λf' w' u s hu=>hgo _ _ _ _ _ _ _ _ _ (I1.apv ho down h3 hc tr s hu))
   ·have e:i=k:=by
     rcases List.mem_cons.1 hin with e|e
     ·exact e
     ·have:=sD (po down (I1.lin.1 ht i e) h3);rw[I1.AK k (by simp)]at this;cases this
    subst e;have hS:=I1.same uN down ho h3;unfold wpOp;simp only[ho];rw[if_pos (hw f a eM I1.ar hS)];refine .inl (hl f w a eM I1.step.rel I1.ar hS _ _ λf' w' ch s hp=>hQ ch a w' ⟨f',gw.trans I1.step s,?_,I1.dr.up s.le,ch,rfl,hp⟩);have hpo:mw ops eM=mw ops dL:=agw _ _ _ I1.len λt=>by
     rcases I1.agree t with⟨p,hp,hd⟩|h
     ·obtain⟨op,g1,_⟩:=I1.pend p hp;rw[jV g1]at hd;exact .inl ⟨op,by rw[Array.mem_toList_iff];exact Array.mem_of_getElem? g1,hd⟩
     ·exact .inr h
    rw[←hpo];exact(I1.ar.up s.le).dH ops
  ·exact TL I1 uN down ⟨h1,hin⟩ h3 λf' agx a' w' I2=>hgo _ _ _ _ _ _ _ _ _ I2
end
end
section
variable {P:Program}
def TM(ops:Array Oper)(seen:List Nat)(i:Nat):Bool:=(fM ops i).all λj=>seen.contains j
def GH(ops:Array Oper):Nat→List Nat→List Nat→List Nat
 |0,_,_=>[]
 |n+1,rem,seen=>
  match rem.find? λi=>TM ops seen i && !(gR ops i)with
  |some i=>i::GH ops n (rem.erase i) (i::seen)
  |none=>match rem.find? λi=>TM ops seen i with
   |some i=>i::GH ops n (rem.erase i) (i::seen)
   |none=>[]
def canon(ops:Array Oper):List Nat:=GH ops ops.size (List.range ops.size) []
def vj(ops:Array Oper)(order:List Nat)(ms:List (Nat×List Nat)):Bool:=
 (order.all λi=>Nat.blt i ops.size)&&((List.range ops.size).all λi=>order.contains i)&&Is ops [] order&&nodupB order&&Q0 ops ms order&&Q2 ops ms order
theorem xg{ops:Array Oper}{order:List Nat}{ms:List (Nat×List Nat)}(hm:mD ops ms)(h:vj ops order ms=true):Stat ops order:=by
 simp only[vj,Bool.and_eq_true,List.all_eq_true]at h;obtain⟨⟨⟨⟨⟨h1,h2⟩,h3⟩,h4⟩,h5⟩,h6⟩:=h;exact⟨λi hi=>Nat.le_of_ble_eq_true (h1 i hi),λi hi=>by simpa using h2 i (List.mem_range.2 hi),JF h3,Hw h4,Ph hm h5,Pj hm h6⟩
theorem mD.nil(ops:Array Oper):mD ops []:=λi j h=>by simp[rO]at h
def JG(ops:Array Oper):List (Nat×List Nat):=masks ops (canon ops) []
theorem se{ops:Array Oper}{order:List Nat}(S:Stat ops order){env:List AV}{ds:List eD}{H:AH}{r:Option AV}{env':List AV}{H':AH}(tr:Tr P ops order [] env H r env' H')
  {f:aL}{w:World}{a:Act}(hr:HR f H w) (ha:AR P f env a) (hd:DR f ds a.defers){Q:Exit→Act→World→Prop}
  (hQ:QOk P ops f H w ds r env' H' Q) :
  wpAny P .any ops Q ops.size (Array.replicate ops.size false) a { w with drawn:=w.drawn+1 }:=by
 have hsz:(Array.replicate ops.size false).size=ops.size:=by simp
 have hget:∀i,(Array.replicate ops.size false).getD i true=false↔i<ops.size:=λi=>by
  rcases Nat.lt_or_ge i ops.size with hl|hl
  ·simp[Array.getD_eq_getD_getElem?,hl]
  ·simp[Array.getD_eq_getD_getElem?,hl]
 have hno:∀i,(Array.replicate ops.size false).getD i false=false:=λi=>by
  simp only[Array.getD_eq_getD_getElem?,Array.getElem?_replicate];split<;>rfl
 have hp:∀i,¬oD order (Array.replicate ops.size false) i:=λi h=>h.2 (S.all i ((hget i).1 h.1));refine any_ok S hQ ops.size (List.range ops.size) order [] env H (λ_=>none) _ f env a _ (by simp) List.nodup_range (λi=>by rw[hget,List.mem_range]) hsz (λi j h=>by rw[hno]at h;cases h) ?_;exact⟨tr,Step.drew hr (w.drawn+1),ha,hd,λt=>.inr rfl,rfl,λi h=>absurd h (hp i),λi h=>absurd h (hp i),λi h=>absurd h (hp i),λi hi=>(hget i).2 (S.lt i hi),S.Pk,S.lin,S.ssa,λ_ _ _ h=>(by cases h),λ_ _ h=>(by cases h)⟩
def eJ(ops:Array Oper)(j i:Nat):Array Oper:=ops.modify j λo=>{ o with after:=o.after.push ⟨i,.data⟩ }
section
variable (ops:Array Oper)(j i:Nat)
theorem gj(k:Nat):(eJ ops j i)[k]? = if j=k then (ops[k]?).map (λo=>{ o with after:=o.after.push ⟨i,.data⟩ }) else ops[k]?:=by
 unfold eJ;rw[Array.getElem?_modify]
theorem nc:(eJ ops j i).size=ops.size:=by simp[eJ]
theorem AM(k:Nat):((eJ ops j i)[k]?).bind Oper.dst=(ops[k]?).bind Oper.dst:=by
 rw[gj];split
 ·cases ops[k]?<;>rfl
 ·rfl
theorem BB(o:Oper):o.looksAt (eJ ops j i)=o.looksAt ops:=by
 unfold Oper.looksAt;cases o.guard with
 |none=>rfl
 |some g=>simp only[AM]
theorem OI(k:Nat):gh (eJ ops j i) k=gh ops k:=by
 unfold gh;rw[gj];by_cases e:j=k
 ·rw[if_pos e];cases ops[k]? with
  |none=>rfl
  |some o=>exact BB ops j i o
 ·rw[if_neg e];cases ops[k]? with
  |none=>rfl
  |some o=>exact BB ops j i o
theorem Q4(k:Nat):jq (eJ ops j i) k=jq ops k:=AM ops j i k
theorem BC{a b:Nat}(h:b∈fM ops a):b∈fM (eJ ops j i) a:=by
 cases ha:ops[a]? with
 |none=>simp[fM,ha]at h
 |some o=>
  obtain⟨e,h1,h2,h3⟩:=(oa ha).1 h;by_cases hj:j=a
  ·have:=gj ops j i a;rw[if_pos hj,ha]at this;exact(oa this).2 ⟨e,by simp[h1],h2,h3⟩
  ·have:=gj ops j i a;rw[if_neg hj,ha]at this;exact(oa this).2 ⟨e,h1,h2,h3⟩
theorem qI:Like ops (eJ ops j i) where
 dst:=AM ops j i
 dep:=λh=>by
  induction h with
  |edge h=>exact .edge (BC ops j i h)
  |step h _ ih=>exact .step (BC ops j i h) ih
 late:=λk=>by
  unfold gi;rw[gj,nc];simp only[OI,Q4];by_cases e:j=k
  ·rw[if_pos e];cases ops[k]? with
   |none=>rfl
   |some o=>rfl
  ·rw[if_neg e]
theorem TN{k:Nat}{K:Act→World→Prop}{Q:Exit→Act→World→Prop}{a:Act}{w:World}(h:wpOp P (eJ ops j i) Q k K a w):wpOp P ops Q k K a w:=by
 unfold wpOp at h ⊢;rw[gj,(qI ops j i).yielded]at h;by_cases e:j=k
 ·rw[if_pos e]at h;cases hk:ops[k]? with
  |none=>rw[hk]at h;exact h
  |some o=>rw[hk]at h;exact h
 ·rw[if_neg e]at h;exact h
theorem Q5{k:Nat}{listed:Array Bool}(h:k∈Region.ready .any ops listed)(hj:k=j→listed.getD i false=true):k∈Region.ready .any (eJ ops j i) listed:=by
 obtain⟨h1,o,h2,h3⟩:=mem_ready.1 h;refine mem_ready.2 ⟨h1,?_⟩;have:=gj ops j i k;by_cases e:j=k
 ·rw[if_pos e,h2]at this;refine⟨_,this,λe' he hb=>?_⟩;rcases Array.mem_push.1 he with he|rfl
  ·exact h3 e' he hb
  ·exact hj e.symm
 ·rw[if_neg e,h2]at this;exact⟨_,this,h3⟩
theorem GI{listed:Array Bool}(h:Region.ready .any ops listed=[]):Region.ready .any (eJ ops j i) listed=[]:=by
 cases hr:Region.ready .any (eJ ops j i) listed with
 |nil=>rfl
 |cons k l=>
  obtain⟨h1,o,h2,h3⟩:=mem_ready.1 (hr ▸ List.mem_cons_self:k∈Region.ready .any (eJ ops j i) listed);have:=gj ops j i k;rw[h2]at this;have hk:k∈Region.ready .any ops listed:=by
   refine mem_ready.2 ⟨h1,?_⟩;split at this
   ·cases ho:ops[k]? with
    |none=>rw[ho]at this;cases this
    |some o'=>
     rw[ho]at this;cases this;exact⟨o',rfl,λe he hb=>h3 e (by simp[he]) hb⟩
   ·exact⟨o,this.symm,h3⟩
  rw[h]at hk;simp at hk
end
inductive nd(ops:Array Oper):Nat→Array Bool→List Nat→Prop
 |zero (l:Array Bool):nd ops 0 l []
 |nil (n:Nat) (l:Array Bool):Region.ready .any ops l=[]→nd ops (n+1) l []
 |cons (n:Nat) (l:Array Bool) (k:Nat) (L:List Nat):k∈Region.ready .any ops l→nd ops n (l.setIfInBounds k true) L→nd ops (n+1) l (k::L)
theorem nd.wp{ops:Array Oper}{Q:Exit→Act→World→Prop}{n:Nat}{l:Array Bool}{L:List Nat}(h:nd ops n l L):∀a w,wpAny P .any ops Q n l a w→wpOps P ops Q L a w:=by
 induction h with
 |zero l=>intro a w h;simpa[wpOps]using h.2
 |nil n l hr=>intro a w h;simpa[wpOps]using h.1 hr
 |cons n l k L hk _ ih=>intro a w h;rw[wpOps_cons];exact wpOp_mono (λa w=>ih a w) (h.2 k hk)
theorem Hy{ops:Array Oper}:∀(n t:Nat) (l:Array Bool),nd ops n l (Region.linearise.go .any ops n t l []):=by
 intro n
 induction n with
 |zero=>intro t l;simp only[Region.linearise.go,List.reverse_nil];exact .zero l
 |succ n ih=>
  intro t l;simp only[Region.linearise.go]
  change nd ops (n+1) l (match (Region.ready .any ops l)[t%(Region.ready .any ops l).length]? with
   |some i=>Region.linearise.go .any ops n (t/(Region.ready .any ops l).length) (l.setIfInBounds i true) [i]
   |none=>[].reverse)
  cases hi:(Region.ready .any ops l)[t%(Region.ready .any ops l).length]? with
  |none=>
   refine .nil n l ?_;cases hr:Region.ready .any ops l with
   |nil=>rfl
   |cons x xs=>
    rw[hr]at hi;have hlt:t%(x::xs).length<(x::xs).length:=Nat.mod_lt _ (by simp);simp at hi;simp at hlt;omega
  |some i=>
   simp only[];rw[linearise_go_acc,List.reverse_singleton,List.singleton_append];exact .cons n l i _ (List.mem_of_getElem? hi) (ih _ _)
theorem nd.eJ{ops:Array Oper}{j i:Nat}(hi:i<ops.size){n:Nat}{l:Array Bool}{L:List Nat}(h:nd ops n l L):l.size=ops.size→(∀L1 L2,L=L1++j::L2→l.getD i false=true∨i∈L1)→nd (Go.X.eJ ops j i) n l L:=by
 induction h with
 |zero l=>intro _ _;exact .zero l
 |nil n l hr=>intro _ _;exact .nil n l (GI ops j i hr)
 |cons n l k L hk _ ih=>
  intro hs hb;refine .cons n l k L (Q5 ops j i hk λe=>?_) (ih (by simpa using hs) λL1 L2 e=>?_)
  ·exact(hb [] L (by rw[e];rfl)).resolve_right (by simp)
  ·rcases hb (k::L1) L2 (by rw[e];rfl)with g|g
   ·exact .inl (getD_set_true g)
   ·rcases List.mem_cons.1 g with rfl|g
    ·left;simp[Array.getD_eq_getD_getElem?,show i<l.size by omega]
    ·exact .inr g
theorem bef{i j:Nat}(hij:i≠j)(L:List Nat):(∀L1 L2,L=L1++j::L2→i∈L1)∨(∀L1 L2,L=L1++i::L2→j∈L1):=by
 induction L with
 |nil=>exact .inl λL1 L2 h=>by simp at h
 |cons k L ih=>
  by_cases e1:k=i
  ·subst e1;refine .inl λL1 L2 h=>?_;cases L1 with
   |nil=>simp at h;exact absurd h.1 hij
   |cons x L1=>simp at h;simp[h.1]
  ·by_cases e2:k=j
   ·subst e2;refine .inr λL1 L2 h=>?_;cases L1 with
    |nil=>simp at h;exact absurd h.1.symm hij
    |cons x L1=>simp at h;simp[h.1]
   ·refine ih.imp (λg L1 L2 h=>?_) (λg L1 L2 h=>?_)
    ·cases L1 with
     |nil=>simp at h;exact absurd h.1 e2
     |cons x L1=>simp at h;exact List.mem_cons_of_mem _ (g L1 L2 h.2)
    ·cases L1 with
     |nil=>simp at h;exact absurd h.1 e1
     |cons x L1=>simp at h;exact List.mem_cons_of_mem _ (g L1 L2 h.2)
theorem pq{ops:Array Oper}{j i:Nat}{Q:Exit→Act→World→Prop}:∀{L:List Nat}{a:Act}{w:World},wpOps P (eJ ops j i) Q L a w→wpOps P ops Q L a w
 |[],a,w,h=>by simpa[wpOps]using h
 |k::L,a,w,h=>by
  rw[wpOps_cons]at h ⊢;exact TN ops j i (wpOp_mono (λa w h=>pq h) h)
def JH(P:Program)(t1 t2:TypeId)(p q:AV)(x:Prop):Prop:=
 match P.info? t1,P.info? t2 with
 |some i1,some i2=>nF p λb o=>nF q λb' o'=>bT (!(Nat.beq b b')||(Nat.ble (Nat.add o i1.size) o'||Nat.ble (Nat.add o' i2.size) o)) x
 |_,_=>False
theorem OJ{t1 t2:TypeId}{p v q u:AV}{H H1 bQ H2 gZ:AH}{x:Prop}(hx:JH P t1 t2 p q x)(a:u4 P t1 p v H H1)(b:u4 P t2 q u H1 bQ)(c:u4 P t2 q u H H2)(d:u4 P t1 p v H2 gZ):x∧bQ.sem=gZ.sem:=by
 obtain⟨n1,b1,o1,i1,c1,m1,q1,c1',rfl,hi1,a1,a2,a3,a4,a5,a6⟩:=a;obtain⟨n2,b2,o2,i2,c2,m2,q2,c2',rfl,hi2,d1,d2,d3,d4,d5,d6⟩:=b;obtain⟨n3,b3,o3,i3,c3,m3,q3,c3',e,hi3,e1,e2,e3,e4,e5,e6⟩:=c;cases e;obtain⟨n4,b4,o4,i4,c4,m4,q4,c4',e,hi4,f1,f2,f3,f4,f5,f6⟩:=d;cases e;rw[hi2]at hi3;cases hi3;rw[hi1]at hi4;cases hi4;unfold JH at hx;rw[hi1,hi2]at hx;obtain⟨hx,hx'⟩:=aD (show bT (!(Nat.beq b1 b2)||(Nat.ble (Nat.add o1 i1.size) o2||Nat.ble (Nat.add o2 i2.size) o1)) x from hx);refine⟨hx',?_⟩;have hn:bQ.n=gZ.n:=by omega
 have hob:∀b,(bQ.at b).sem=(gZ.at b).sem:=λb=>by
  by_cases hb:b1=b2
  ·subst hb;rw[Nat.beq_refl]at hx;have hd:o1+i1.size≤o2∨o2+i2.size≤o1:=by
    simp only[Bool.not_true,Bool.false_or,Bool.or_eq_true]at hx;exact hx.imp Nat.le_of_ble_eq_true Nat.le_of_ble_eq_true
   by_cases hbb:b=b1
   ·subst hbb;rw[a2]at d1;cases d1;rw[a1]at e1;cases e1;rw[e2]at f1;cases f1;rw[d2,f2];simp only[eB.sem,gU.cells.injEq,and_true];funext k;by_cases k1:o1≤k∧k<o1+i1.size
    ·have hk:=f4 (k-o1) (by omega);have hk':=a4 (k-o1) (by omega);rw[show o1+(k-o1)=k by omega]at hk hk';rw[hk,d5 k (by omega),hk']
    ·by_cases k2:o2≤k∧k<o2+i2.size
     ·have hk:=d4 (k-o2) (by omega);have hk':=e4 (k-o2) (by omega);rw[show o2+(k-o2)=k by omega]at hk hk';rw[hk,f5 k (by omega),hk']
     ·rw[d5 k (by omega),a5 k (by omega),f5 k (by omega),e5 k (by omega)]
   ·rw[d6 b hbb,a6 b hbb,f6 b hbb,e6 b hbb]
  ·by_cases h1:b=b1
   ·subst h1;rw[d6 b hb,a2];rw[e6 b hb,a1]at f1;cases f1;rw[f2];simp only[eB.sem,gU.cells.injEq,and_true];funext k;by_cases k1:o1≤k∧k<o1+i1.size
    ·have hk:=f4 (k-o1) (by omega);have hk':=a4 (k-o1) (by omega);rw[show o1+(k-o1)=k by omega]at hk hk';rw[hk,hk']
    ·rw[a5 k (by omega),f5 k (by omega)]
   ·by_cases h2:b=b2
    ·subst h2;rw[f6 b (Ne.symm hb),e2];rw[a6 b (Ne.symm hb),e1]at d1;cases d1;rw[d2];simp only[eB.sem,gU.cells.injEq,and_true];funext k;by_cases k2:o2≤k∧k<o2+i2.size
     ·have hk:=d4 (k-o2) (by omega);have hk':=e4 (k-o2) (by omega);rw[show o2+(k-o2)=k by omega]at hk hk';rw[hk,hk']
     ·rw[d5 k (by omega),e5 k (by omega)]
    ·rw[d6 b h2,a6 b h1,f6 b h1,e6 b h2]
 unfold AH.sem;rw[hn];congr 1;funext b;exact hob b
def agy(o1 o2:Oper):Bool:=o1.dst.isNone&&o2.dst.isNone&&o1.guard.isNone&&o2.guard.isNone
def zr(o:Oper)(k:TypeId→Operand→Operand→Prop):Prop:=match o.op with|.store t a x=>k t a x|_=>False
theorem Ak{o:Oper}{k:TypeId→Operand→Operand→Prop}(h:zr o k):∃t a x,o.op=.store t a x∧k t a x:=by
 unfold zr at h;split at h
 ·exact⟨_,_,_,by assumption,h⟩
 ·exact h.elim
def afx(o:Option Oper)(k:Oper→Prop):Prop:=match o with|some o=>k o|none=>False
theorem JI{o:Option Oper}{k:Oper→Prop}(h:afx o k):∃x,o=some x∧k x:=by
 cases o with
 |none=>exact h.elim
 |some x=>exact⟨x,rfl,h⟩
def pairT(P:Program)(ops asu ops2:Array Oper)(ms1 ms2:List (Nat×List Nat))(s1 s2:Nat)(chk:List lg)(env:List AV)(H:AH)(k:AH→Prop):Prop:=
 afx ops[s1]? λo1=>afx ops[s2]? λo2=>bT (agy o1 o2) <| zr o1 λt1 a1 v1=>zr o2 λt2 a2 v2=>
  qF P t1 (fy P.globals.size env a1) (fy P.globals.size env v1) H λH1=>nZ P P.globals.size ms1 s1 H1 chk <|
  qF P t2 (fy P.globals.size env a2) (fy P.globals.size env v2) H1 λbQ=>nZ P P.globals.size ms1 s2 bQ chk <|
  qF P t2 (fy P.globals.size env a2) (fy P.globals.size env v2) H λH2=>nZ P P.globals.size ms2 s2 H2 chk <|
  qF P t1 (fy P.globals.size env a1) (fy P.globals.size env v1) H2 λgZ=>nZ P P.globals.size ms2 s1 gZ chk <|
  JH P t1 t2 (fy P.globals.size env a1) (fy P.globals.size env a2) (k bQ)
def vk:List Nat→(List Nat→Nat→Nat→Prop)→Prop
 |[a,b],k=>k [] a b
 |x::l,k=>vk l λp a b=>k (x::p) a b
 |[],_=>False
theorem Al:∀{l:List Nat}{k:List Nat→Nat→Nat→Prop},vk l k→∃p a b,l=p++[a,b]∧k p a b
 |[],_,h=>h.elim
 |[a,b],_,h=>⟨[],a,b,rfl,h⟩
 |[x],k,h=>by unfold vk at h;exact h.elim
 |x::y::z::l,k,h=>by
  unfold vk at h;obtain⟨p,a,b,e,h⟩:=Al h;exact⟨x::p,a,b,by rw[e];rfl,h⟩
def agz(P:Program)(C:fb):DT:=λops env ds H K=>
 vk (canon ops) λpre s1 s2=>
  bT (vj (eJ ops s2 s1) (pre++[s1,s2]) (masks (eJ ops s2 s1) (pre++[s1,s2]) [])) <|
  bT (vj (eJ ops s1 s2) (pre++[s2,s1]) (masks (eJ ops s1 s2) (pre++[s2,s1]) [])) <|
  jU C P P.globals.size ops (JG ops) pre [] env H (λchk env H=>pairT P ops (eJ ops s2 s1) (eJ ops s1 s2) (masks (eJ ops s2 s1) (pre++[s1,s2]) []) (masks (eJ ops s1 s2) (pre++[s2,s1]) []) s1 s2 chk env H λH=>K .normal env ds H) (λv env H=>K (.cM v) (mw ops env) ds H)
theorem rP{ops:Array Oper}{o:Oper}{t:TypeId}{a x:Operand}(ho:o.op=.store t a x){env:List AV}{H:AH}{k:AH→Prop}(h:qF P t (fy P.globals.size env a) (fy P.globals.size env x) H k) :
  ∃H',k H'∧u4 P t (fy P.globals.size env a) (fy P.globals.size env x) H H'∧yj P ops o env H eS H':=by
 obtain⟨H',h1,hS,h2⟩:=Ho (P:=P) h;refine⟨H',h1,hS,λf w ac dd hr ha hs next Q hn=>?_⟩;have hst:=hs.stand ha;obtain⟨w',g1,g2⟩:=h2 f w _ _ hr (hst a (by simp[ho,Op.operands])) (hst x (by simp[ho,Op.operands]));exact jM (.inr ⟨by simp[execOp,ho,g1],rfl⟩) (hn f w' undef g2 (VR.undef f))
theorem Hz(ops:Array Oper)(j i:Nat)(env:List AV):mw (eJ ops j i) env=mw ops env:=by
 have e:(eJ ops j i).toList.map Oper.dst=ops.toList.map Oper.dst:=by
  refine List.ext_getElem? λk=>?_;rw[List.getElem?_map,List.getElem?_map,Array.getElem?_toList,Array.getElem?_toList,gj];split
  ·cases ops[k]?<;>rfl
  ·rfl
 have f:∀l:List Oper,l.foldl (λe o=>cJ e o.dst .dH) env=(l.map Oper.dst).foldl (λe d=>cJ e d .dH) env:=λl=>by rw[List.foldl_map]
 unfold mw;rw[f,f,e]
theorem afy(hm:P.follows .mixedOrders=true)(C:fb)(hC:ib P C):qG P (agz P C):=by
 intro id ops env ds H K h;obtain⟨pre,s1,s2,_,h⟩:=Al h;obtain⟨ok1,h⟩:=aD h;obtain⟨ok2,h⟩:=aD h;have hms:mD ops (JG ops):=sA _ (mD.nil ops);have afz:mD (eJ ops s2 s1) (masks (eJ ops s2 s1) (pre++[s1,s2]) []):=sA _ (mD.nil _);have afA:mD (eJ ops s1 s2) (masks (eJ ops s1 s2) (pre++[s2,s1]) []):=sA _ (mD.nil _);have S1:=xg afz ok1;have S2:=xg afA ok2;have pj:s1≠s2∧s1∉pre∧s2∉pre:=by
  have:=S1.Pk;rw[List.nodup_append]at this;obtain⟨_,h2,h3⟩:=this;refine⟨by simpa using h2,λhp=>h3 s1 hp s1 (by simp) rfl,λhp=>h3 s2 hp s2 (by simp) rfl⟩
 have hl1:s1<ops.size:=by have:=S1.lt s1 (by simp);rwa [nc]at this
 have hl2:s2<ops.size:=by have:=S1.lt s2 (by simp);rwa [nc]at this
 rcases kJ hC hms _ _ _ _ (by simp) h with⟨chk,env',H0,hk,hct,g⟩|⟨v,env',H',hk,g⟩
 ·obtain⟨o1,ho1,hk⟩:=JI hk;obtain⟨o2,ho2,hk⟩:=JI hk;obtain⟨hp,hk⟩:=aD hk;simp only[agy,Bool.and_eq_true,Option.isNone_iff_eq_none]at hp;obtain⟨⟨⟨hd1,hd2⟩,hg1⟩,hg2⟩:=hp;obtain⟨t1,a1,v1,e1,hk⟩:=Ak hk;obtain⟨t2,a2,v2,e2,hk⟩:=Ak hk;have ht1:turns o1=true:=by simp[turns,e1]
  have ht2:turns o2=true:=by simp[turns,e2]
  have q11:(eJ ops s2 s1)[s1]? = some o1:=by rw[gj,if_neg (Ne.symm pj.1),ho1]
  have q12:(eJ ops s2 s1)[s2]? = some { o2 with after:=o2.after.push ⟨s1,.data⟩ }:=by rw[gj,if_pos rfl,ho2];rfl
  have q22:(eJ ops s1 s2)[s2]? = some o2:=by rw[gj,if_neg pj.1,ho2]
  have q21:(eJ ops s1 s2)[s1]? = some { o1 with after:=o1.after.push ⟨s2,.data⟩ }:=by rw[gj,if_pos rfl,ho1];rfl
  obtain⟨H1,hk,A1,T1⟩:=rP (ops:=eJ ops s2 s1) e1 hk;obtain⟨hk,C1⟩:=oT afz hct hk;obtain⟨bQ,hk,A2,T2⟩:=rP (ops:=eJ ops s2 s1) (o:={ o2 with after:=o2.after.push ⟨s1,.data⟩ }) e2 hk;obtain⟨hk,C2⟩:=oT afz hct hk;obtain⟨H2,hk,A3,T3⟩:=rP (ops:=eJ ops s1 s2) e2 hk;obtain⟨hk,C3⟩:=oT afA hct hk;obtain⟨gZ,hk,A4,T4⟩:=rP (ops:=eJ ops s1 s2) (o:={ o1 with after:=o1.after.push ⟨s2,.data⟩ }) e1 hk;obtain⟨hk,C4⟩:=oT afA hct hk;obtain⟨hk,aqN⟩:=OJ hk A1 A2 A3 A4;have Q6:∀i∈pre,(eJ ops s2 s1)[i]? = ops[i]?:=λi hi=>by rw[gj,if_neg (λe:s2=i=>pj.2.2 (by rw[e];exact hi))]
  have Q7:∀i∈pre,(eJ ops s1 s2)[i]? = ops[i]?:=λi hi=>by rw[gj,if_neg (λe:s1=i=>pj.2.1 (by rw[e];exact hi))]
  have akw:cJ env' o1.dst eS=env':=by rw[hd1];rfl
  have akx:cJ env' o2.dst eS=env':=by rw[hd2];rfl
  have tr1:=g _ (qI ops s2 s1) Q6 [s1,s2] none env' bQ (.turn eS H1 q11 (nK q11 ht1) (.of_none hg1) T1 (.inr C1)
   (by rw[akw];exact .turn eS bQ q12 (nK q12 ht2) (.of_none hg2) T2 (.inr C2) (by show Tr P _ [] chk (cJ env' o2.dst eS) bQ none env' bQ;rw[akx];exact .nil _ _ _)))
  have tr2:=g _ (qI ops s1 s2) Q7 [s2,s1] none env' gZ (.turn eS H2 q22 (nK q22 ht2) (.of_none hg2) T3 (.inr C3)
   (by rw[akx];exact .turn eS gZ q21 (nK q21 ht1) (.of_none hg1) T4 (.inr C4) (by show Tr P _ [] chk (cJ env' o1.dst eS) gZ none env' gZ;rw[akw];exact .nil _ _ _)))
  refine⟨.normal,env',ds,bQ,hk,λf w a hr ha hd Q hq=>wp_region_draw λt=>?_⟩;simp only[Region.schedule,hm,Bool.true_or,if_true];have hv:=Hy (ops:=ops) ops.size t (Array.replicate ops.size false);generalize hL:Region.linearise.go .any ops ops.size t (Array.replicate ops.size false) []=L at hv;show wpOps P ops Q (Region.linearise.go .any ops ops.size t (Array.replicate ops.size false) []) a _;rw[hL];rcases bef pj.1 L with hb|hb
  ·have w1:=se S1 tr1 hr ha hd (Q:=Q) λa' w' hx=>hq _ _ _ hx;rw[nc]at w1;exact pq ((hv.eJ (j:=s2) (i:=s1) hl1 (by simp) λL1 L2 e=>.inr (hb L1 L2 e)).wp _ _ w1)
  ·have w2:=se S2 tr2 hr ha hd (Q:=Q) λa' w' hx=>hq _ _ _ (by
    unfold mJ at hx ⊢;obtain⟨f',s,hx⟩:=hx;refine⟨f',?_,hx⟩;unfold Step at s ⊢;rw[aqN];exact s)
   rw[nc]at w2;exact pq ((hv.eJ (j:=s1) (i:=s2) hl2 (by simp) λL1 L2 e=>.inr (hb L1 L2 e)).wp _ _ w2)
 ·have Q6:∀i∈pre,(eJ ops s2 s1)[i]? = ops[i]?:=λi hi=>by rw[gj,if_neg (λe:s2=i=>pj.2.2 (by rw[e];exact hi))]
  have Q7:∀i∈pre,(eJ ops s1 s2)[i]? = ops[i]?:=λi hi=>by rw[gj,if_neg (λe:s1=i=>pj.2.1 (by rw[e];exact hi))]
  have tr1:=g _ (qI ops s2 s1) Q6 [s1,s2];have tr2:=g _ (qI ops s1 s2) Q7 [s2,s1];refine⟨.cM v,_,ds,H',hk,λf w a hr ha hd Q hq=>wp_region_draw λt=>?_⟩;simp only[Region.schedule,hm,Bool.true_or,if_true];have hv:=Hy (ops:=ops) ops.size t (Array.replicate ops.size false);generalize hL:Region.linearise.go .any ops ops.size t (Array.replicate ops.size false) []=L at hv;show wpOps P ops Q (Region.linearise.go .any ops ops.size t (Array.replicate ops.size false) []) a _;rw[hL];rcases bef pj.1 L with hb|hb
  ·have w1:=se S1 tr1 hr ha hd (Q:=Q) λch a' w' hx=>hq _ _ _ (by rw[Hz]at hx;exact hx);rw[nc]at w1;exact pq ((hv.eJ (j:=s2) (i:=s1) hl1 (by simp) λL1 L2 e=>.inr (hb L1 L2 e)).wp _ _ w1)
  ·have w2:=se S2 tr2 hr ha hd (Q:=Q) λch a' w' hx=>hq _ _ _ (by rw[Hz]at hx;exact hx);rw[nc]at w2;exact pq ((hv.eJ (j:=s1) (i:=s2) hl2 (by simp) λL1 L2 e=>.inr (hb L1 L2 e)).wp _ _ w2)
def Iv(P:Program)(C:fb):DT:=λops env ds H K=>
 bI (vj ops (canon ops) (JG ops)) (jU C P P.globals.size ops (JG ops) (canon ops) [] env H (λ_ env H=>K .normal env ds H) (λv env H=>K (.cM v) (mw ops env) ds H)) (agz P C ops env ds H K)
theorem JJ(hm:P.follows .mixedOrders=true)(C:fb)(hC:ib P C):qG P (Iv P C):=by
 intro id ops env ds H K h;rcases dI h with⟨hok,h⟩|⟨_,h⟩
 case inr=>exact afy hm C hC id ops env ds H K h
 have hms:mD ops (JG ops):=sA _ (mD.nil ops);have S:=xg hms hok;rcases kJ hC hms _ _ _ _ (by simp) h with⟨Q3,env',H',hk,_,g⟩|⟨v,env',H',hk,g⟩
 ·have tr:=g ops (.refl ops) (λ_ _=>rfl) [] _ _ _ (.nil _ _ _);rw[List.append_nil]at tr;exact⟨.normal,env',ds,H',hk,λf w a hr ha hd Q hq=>wp_region_any hm (se S tr hr ha hd λa' w' hx=>hq _ _ _ hx)⟩
 ·have tr:=g ops (.refl ops) (λ_ _=>rfl) [];rw[List.append_nil]at tr;exact⟨.cM v,_,ds,H',hk,λf w a hr ha hd Q hq=>wp_region_any hm (se S tr hr ha hd λch a' w' hx=>hq _ _ _ hx)⟩
end
section
inductive Fr where
 |seq (p:List Nat) (c:Code)
 |blk (id:Nat)
 |loop (p:List Nat) (c:Code)
 |scope (p:List Nat) (c:Code)
def kK(p:List Nat):Code→List Fr→Nat→Option (Code×List Fr)
 |.seq a b,st,0=>some (a,.seq (1::p) b::st)
 |.seq _ b,st,1=>some (b,st)
 |.cond _ a _,st,0=>some (a,st)
 |.cond _ _ b,st,1=>some (b,st)
 |.block id c,st,0=>some (c,.blk id::st)
 |.loop c,st,0=>some (c,.loop p c::st)
 |.scope c,st,0=>some (c,.scope p c::st)
 |.scope c,st,l+2=>(match findLabel c l with|some r=>some (r,.scope p c::st)|none=>none)
 |_,_,_=>none
def xh(body:Code):List Nat→Option (Code×List Fr)
 |[]=>some (body,[])
 |b::p=>match xh body p with
  |some (c,st)=>kK p c st b
  |none=>none
def JK:List Nat→List Nat→Bool
 |[],[]=>true
 |a::p,b::q=>Nat.beq a b&&JK p q
 |_,_=>false
theorem TO:∀{p q:List Nat},JK p q=true→p=q
 |[],[],_=>rfl
 |[],_::_,h=>by simp[JK]at h
 |_::_,[],h=>by simp[JK]at h
 |a::p,b::q,h=>by
  simp only[JK,Bool.and_eq_true]at h;rw[Nat.eq_of_beq_eq_true h.1,TO h.2]
abbrev yk:=List AV→List eD→AH→Prop
abbrev GT:=List Nat→Code→List Fr→yk
section
def nV(g:GT)(K:KT):List Fr→Out→yk
 |[],o,env,ds,H=>K o env ds H
 |.seq p c::st,o,env,ds,H=>match o with|.normal=>g p c st env ds H|o=>nV g K st o env ds H
 |.blk id::st,o,env,ds,H=>match o with|.exit i=>bI (Nat.beq i id) (nV g K st .normal env ds H) (nV g K st (.exit i) env ds H)|o=>nV g K st o env ds H
 |.loop p c::st,o,env,ds,H=>match o with|.normal=>g p (.loop c) st env ds H|o=>nV g K st o env ds H
 |.scope p c::st,o,env,ds,H=>match o with|.goto l=>Jv (findLabel c l) (λr=>g ((l+2)::p) r (.scope p c::st) env ds H) (nV g K st (.goto l) env ds H)|o=>nV g K st o env ds H
def BD(C:fb)(D:DT)(P:Program)(G:Nat)(g:GT)(K:KT):GT:=λp c st env ds H=>
 match c with
 |.skip=>nV g K st .normal env ds H
 |.region _ ops draw=>bI draw (D ops env ds H (λo env ds H=>nV g K st o env ds H)) (sy C P G ops ops.toList env ds H (λo env ds H=>nV g K st o env ds H))
 |.seq a b=>g (0::p) a (.seq (1::p) b::st) env ds H
 |.cond c a b=>kG (fy G env c) (g (0::p) a st env ds H) (g (1::p) b st env ds H)
 |.block id b=>g (0::p) b (.blk id::st) env ds H
 |.loop b=>g (0::p) b (.loop p b::st) env ds H
 |.scope b=>g (0::p) b (.scope p b::st) env ds H
 |.goto l=>nV g K st (.goto l) env ds H
 |.exit id=>nV g K st (.exit id) env ds H
 |.label _=>nV g K st .normal env ds H
 |.ret=>nV g K st .ret env ds H
 |_=>False
abbrev Tbl:=List (List Nat×yk)
def BE:Tbl→List Nat→Option yk
 |[],_=>none
 |(m,F)::r,n=>bif JK m n then some F else BE r n
def goX(C:fb)(D:DT)(P:Program)(G:Nat)(t:Tbl)(K:KT)(n:Nat):GT:=Nat.rec (motive:=λ_=>GT) (λ_ _ _ _ _ _=>False)
 (λ_ ih p c st env ds H=>match BE t p with|some F=>F env ds H|none=>BD C D P G ih K p c st env ds H) n
def agA(o:Option (Code×List Fr))(k:Code→List Fr→Prop):Prop:=match o with|some (c,st)=>k c st|none=>False
def JL(C:fb)(D:DT)(P:Program)(G:Nat)(body:Code)(t:Tbl)(K:KT)(n:Nat)(p:List Nat):yk:=λenv ds H=>
 agA (xh body p) λc st=>BD C D P G (goX C D P G t K n) K p c st env ds H
end
variable {P:Program}
def BF(P:Program)(n:Nat)(c:Code)(Q:Exit→Act→World→Prop)(a:Act)(w:World):Prop:=match c with|.loop b=>LI P b Q n a w|c=>c.wp P Q a w
def kr(P:Program)(n:Nat):List Fr→(Exit→Act→World→Prop)→(Exit→Act→World→Prop)
 |[],Q=>Q
 |.seq _ c::st,Q=>λe a w=>match e with|.normal=>BF P n c (kr P n st Q) a w|e=>kr P n st Q e a w
 |.blk id::st,Q=>Exit.inBlock id (kr P n st Q)
 |.loop _ c::st,Q=>λe a w=>match e with|.normal=>LI P c (kr P n st Q) n a w|e=>kr P n st Q e a w
 |.scope _ c::st,Q=>λe a w=>match e with|.goto l=>(match findLabel c l with|some r=>xK P c (kr P n st Q) n r a w|none=>kr P n st Q (.goto l) a w)|e=>kr P n st Q e a w
theorem zt{c:Code}{Q Q':Exit→Act→World→Prop}(hq:∀e a w,Q e a w→Q' e a w):∀{n m:Nat},n≤m→∀{a w},LI P c Q n a w→LI P c Q' m a w
 |0,_,_,_,_,h=>h.elim
 |n+1,0,hl,_,_,_=>absurd hl (by omega)
 |n+1,m+1,hl,a,w,h=>by
  unfold LI at h ⊢;refine Code.wp_mono (λe a w h=>?_) h;cases e<;>first|exact zt hq (Nat.le_of_succ_le_succ hl) h|exact hq _ _ _ h
theorem AN{c:Code}{Q Q':Exit→Act→World→Prop}(hq:∀e a w,Q e a w→Q' e a w):∀{n m:Nat},n≤m→∀{r a w},xK P c Q n r a w→xK P c Q' m r a w
 |0,_,_,_,_,_,h=>h.elim
 |n+1,0,hl,_,_,_,_=>absurd hl (by omega)
 |n+1,m+1,hl,r,a,w,h=>by
  unfold xK at h ⊢;refine Code.wp_mono (λe a w h=>?_) h;cases e with
  |goto l=>
   simp only at h ⊢;cases hf:findLabel c l with
   |none=>rw[hf]at h;exact hq _ _ _ h
   |some r'=>rw[hf]at h;exact AN hq (Nat.le_of_succ_le_succ hl) h
  |_=>exact hq _ _ _ h
theorem afB{c:Code}{Q Q':Exit→Act→World→Prop}(hq:∀e a w,Q e a w→Q' e a w){n m:Nat}(hl:n≤m){a:Act}{w:World}(h:BF P n c Q a w):BF P m c Q' a w:=by
 unfold BF at h ⊢;split at h
 ·exact zt hq hl h
 ·exact Code.wp_mono hq h
theorem gk{n m:Nat}(hl:n≤m):∀{st:List Fr}{Q:Exit→Act→World→Prop}{e:Exit}{a:Act}{w:World},kr P n st Q e a w→kr P m st Q e a w
 |[],_,_,_,_,h=>h
 |.seq _ c::st,Q,e,a,w,h=>by
  cases e<;>first|exact afB (λe a w h=>gk hl h) hl h|exact gk hl (st:=st) h
 |.blk id::st,Q,e,a,w,h=>by
  unfold kr Exit.inBlock at h ⊢;cases e<;>try exact gk hl h
  rename_i i;simp only at h ⊢;split at h<;>rename_i hi
  ·rw[if_pos hi];exact gk hl h
  ·rw[if_neg hi];exact gk hl h
 |.loop _ c::st,Q,e,a,w,h=>by
  cases e<;>first|exact zt (λe a w h=>gk hl h) hl h|exact gk hl (st:=st) h
 |.scope _ c::st,Q,e,a,w,h=>by
  cases e with
  |goto l=>
   simp only[kr]at h ⊢;cases hf:findLabel c l with
   |none=>rw[hf]at h;exact gk hl h
   |some r'=>rw[hf]at h;exact AN (λe a w h=>gk hl h) hl h
  |_=>exact gk hl (st:=st) h
theorem vm{n:Nat}{c:Code}{Q:Exit→Act→World→Prop}{a:Act}{w:World}(h:BF P n c Q a w):c.wp P Q a w:=by
 unfold BF at h;split at h
 ·exact wp_loop_rounds h
 ·exact h
theorem JM{n:Nat}{c:Code}(hn:∀b,c≠.loop b){Q:Exit→Act→World→Prop}{a:Act}{w:World}(h:c.wp P Q a w):BF P n c Q a w:=by
 unfold BF;split
 ·exact absurd rfl (hn _)
 ·exact h
def EO(f:aL)(o:Out)(e:Exit):Prop:=match o with|.normal=>e=.normal|.exit id=>e=.exit id|.goto l=>e=.goto l|.ret=>e=.ret|.cM v=>∃ch,e=.panic ch∧xc f v ch
def vq(P:Program)(c:Code)(st:List Fr)(K:KT)(env:List AV)(ds:List eD)(H:AH):Prop:=∃n,iC P env ds H K λa w Q=>BF P n c (kr P n st Q) a w
def aky(P:Program)(st:List Fr)(K:KT)(o:Out)(env:List AV)(ds:List eD)(H:AH):Prop:=∃n o' env' ds' H',K o' env' ds' H'∧∀f w a e,HR f H w→AR P f env a→DR f ds a.defers→EO f o e→∀Q:Exit→Act→World→Prop,(∀e a' w',mJ P f H w o' env' ds' H' e a' w'→Q e a' w')→kr P n st Q e a w
theorem mJ.outOf{f:aL}{H:AH}{w:World}{o:Out}{env:List AV}{ds:List eD}{H':AH}{e:Exit}{a:Act}{w':World}(h:mJ P f H w o env ds H' e a w') :
  ∃f',Step f H w f' H' w'∧AR P f' env a∧DR f' ds a.defers∧EO f' o e:=by
 obtain⟨f',h1,h2,h3,h4⟩:=h;exact⟨f',h1,h2,h3,by cases o<;>exact h4⟩
theorem vq.qn{c:Code}{st:List Fr}{K:KT}{env:List AV}{ds:List eD}{H:AH}(hn:∀b,c≠.loop b)
  (h:iC P env ds H (λo env ds H=>aky P st K o env ds H) λa w Q=>c.wp P Q a w):vq P c st K env ds H:=by
 obtain⟨o,dL,ds1,H1,⟨n,o',env',ds',H',g1,g2⟩,h2⟩:=h;refine⟨n,o',env',ds',H',g1,λf w a hr ha hd Q hQ=>JM hn (h2 f w a hr ha hd _ λe a' w' hx=>?_)⟩;obtain⟨f',s,y1,y2,y3⟩:=hx.outOf;exact g2 f' w' a' e s.rel y1 y2 y3 Q λe a2 w2 hx=>hQ _ _ _ (hx.after s)
inductive Pos(body:Code):List Nat→Code→List Fr→Prop where
 |root:Pos body [] body []
 |step {p c st b c' st'}:Pos body p c st→kK p c st b=some (c',st')→Pos body (b::p) c' st'
theorem Pos.sub{body:Code}{p:List Nat}{c:Code}{st:List Fr}(h:Pos body p c st):xh body p=some (c,st):=by
 induction h with
 |root=>rfl
 |step h1 h2 ih=>simp only[xh,ih,h2]
theorem Pos.of_sub{body:Code}:∀{p:List Nat}{c:Code}{st:List Fr},xh body p=some (c,st)→Pos body p c st
 |[],c,st,h=>by simp only[xh,Option.some.injEq,Prod.mk.injEq]at h;obtain⟨rfl,rfl⟩:=h;exact .root
 |b::p,c,st,h=>by
  simp only[xh]at h;split at h
  ·rename_i c0 st0 h0;exact .step (Pos.of_sub h0) h
  ·cases h
inductive pr(body:Code):List Fr→Prop where
 |nil:pr body []
 |seq {p c st}:Pos body p c st→pr body st→pr body (.seq p c::st)
 |blk {id st}:pr body st→pr body (.blk id::st)
 |loop {p c st}:Pos body p (.loop c) st→pr body st→pr body (.loop p c::st)
 |scope {p c st}:Pos body p (.scope c) st→pr body st→pr body (.scope p c::st)
theorem Q8{p:List Nat}{a b:Code}{st:List Fr}{k:Nat}{c':Code}{st':List Fr}(h:kK p (.seq a b) st k=some (c',st')):(st'=.seq (1::p) b::st)∨st'=st:=by
 rcases k with _|_|k
 ·simp only[kK,Option.some.injEq,Prod.mk.injEq]at h;exact .inl h.2.symm
 ·simp only[kK,Option.some.injEq,Prod.mk.injEq]at h;exact .inr h.2.symm
 ·simp[kK]at h
theorem Pos.stack{body:Code}{p:List Nat}{c:Code}{st:List Fr}(h:Pos body p c st):pr body st:=by
 induction h with
 |root=>exact .nil
 |@step p c st b c' st' h1 h2 ih=>
  have g:=λx y z=>@Pos.step body p c st x y z h1;cases c with
  |seq a b'=>
   rcases Q8 h2 with rfl|rfl
   ·exact .seq (g 1 _ _ rfl) ih
   ·exact ih
  |cond x a b'=>
   rcases b with _|_|b<;>simp only[kK,Option.some.injEq,Prod.mk.injEq,reduceCtorEq]at h2
   ·obtain⟨_,rfl⟩:=h2;exact ih
   ·obtain⟨_,rfl⟩:=h2;exact ih
  |block id a=>
   rcases b with _|b<;>simp only[kK,Option.some.injEq,Prod.mk.injEq,reduceCtorEq]at h2
   obtain⟨_,rfl⟩:=h2;exact .blk ih
  |loop a=>
   rcases b with _|b<;>simp only[kK,Option.some.injEq,Prod.mk.injEq,reduceCtorEq]at h2
   obtain⟨_,rfl⟩:=h2;exact .loop h1 ih
  |scope a=>
   rcases b with _|_|b
   ·simp only[kK,Option.some.injEq,Prod.mk.injEq]at h2;obtain⟨_,rfl⟩:=h2;exact .scope h1 ih
   ·simp[kK]at h2
   ·simp only[kK]at h2;split at h2
    ·simp only[Option.some.injEq,Prod.mk.injEq]at h2;obtain⟨_,rfl⟩:=h2;exact .scope h1 ih
    ·cases h2
  |_=>rcases b with _|_|b<;>simp[kK]at h2
abbrev GOk(P:Program)(body:Code)(K:KT)(g:GT):Prop:=∀p c st env ds H,Pos body p c st→g p c st env ds H→vq P c st K env ds H
theorem jr{body:Code}{K:KT}{g:GT}(hg:GOk P body K g):∀{st:List Fr}{o:Out}{env:List AV}{ds:List eD}{H:AH},pr body st→nV g K st o env ds H→aky P st K o env ds H
 |[],o,env,ds,H,_,h=>⟨0,o,env,ds,H,h,λf w a e hr ha hd he Q hQ=>hQ _ _ _ ⟨f,Step.refl hr,ha,hd,by cases o<;>exact he⟩⟩
 |.seq p c::st,o,env,ds,H,hs,h=>by
  cases hs with
  |seq h1 h2=>
   cases o with
   |normal=>
    obtain⟨n,o',env',ds',H',g1,g2⟩:=hg p c st env ds H h1 h;exact⟨n,o',env',ds',H',g1,λf w a e hr ha hd he Q hQ=>by cases he;exact g2 f w a hr ha hd Q hQ⟩
   |_=>
    obtain⟨n,o',env',ds',H',g1,g2⟩:=jr hg h2 h;refine⟨n,o',env',ds',H',g1,λf w a e hr ha hd he Q hQ=>?_⟩;have:=g2 f w a e hr ha hd he Q hQ
    first|(cases he;exact this)|(obtain⟨ch,rfl,_⟩:=he;exact this)
 |.loop p c::st,o,env,ds,H,hs,h=>by
  cases hs with
  |loop h1 h2=>
   cases o with
   |normal=>
    obtain⟨n,o',env',ds',H',g1,g2⟩:=hg p (.loop c) st env ds H h1 h;exact⟨n,o',env',ds',H',g1,λf w a e hr ha hd he Q hQ=>by cases he;exact g2 f w a hr ha hd Q hQ⟩
   |_=>
    obtain⟨n,o',env',ds',H',g1,g2⟩:=jr hg h2 h;refine⟨n,o',env',ds',H',g1,λf w a e hr ha hd he Q hQ=>?_⟩;have:=g2 f w a e hr ha hd he Q hQ
    first|(cases he;exact this)|(obtain⟨ch,rfl,_⟩:=he;exact this)
 |.blk id::st,o,env,ds,H,hs,h=>by
  cases hs with
  |blk h2=>
   cases o with
   |exit i=>
    rcases dI h with⟨hi,h⟩|⟨hi,h⟩
    ·obtain⟨n,o',env',ds',H',g1,g2⟩:=jr hg h2 h;refine⟨n,o',env',ds',H',g1,λf w a e hr ha hd he Q hQ=>?_⟩;cases he;have:=g2 f w a .normal hr ha hd rfl Q hQ;simp only[kr,Exit.inBlock];rw[if_pos (Nat.eq_of_beq_eq_true hi)];exact this
    ·obtain⟨n,o',env',ds',H',g1,g2⟩:=jr hg h2 h;refine⟨n,o',env',ds',H',g1,λf w a e hr ha hd he Q hQ=>?_⟩;cases he;have:=g2 f w a (.exit i) hr ha hd rfl Q hQ;simp only[kr,Exit.inBlock];rw[if_neg (λe=>by subst e;simp at hi)];exact this
   |_=>
    obtain⟨n,o',env',ds',H',g1,g2⟩:=jr hg h2 h;refine⟨n,o',env',ds',H',g1,λf w a e hr ha hd he Q hQ=>?_⟩;have:=g2 f w a e hr ha hd he Q hQ
    first|(cases he;exact this)|(obtain⟨ch,rfl,_⟩:=he;exact this)
 |.scope p c::st,o,env,ds,H,hs,h=>by
  cases hs with
  |scope h1 h2=>
   cases o with
   |goto l=>
    have h:Jv (findLabel c l) (λr=>g ((l+2)::p) r (.scope p c::st) env ds H) (nV g K st (.goto l) env ds H):=h;cases hf:findLabel c l with
    |none=>
     rw[hf]at h;obtain⟨n,o',env',ds',H',g1,g2⟩:=jr hg h2 h;refine⟨n,o',env',ds',H',g1,λf w a e hr ha hd he Q hQ=>?_⟩;have:=g2 f w a e hr ha hd he Q hQ;cases he;simp only[kr,hf];exact this
    |some r=>
     rw[hf]at h;obtain⟨n,o',env',ds',H',g1,g2⟩:=hg ((l+2)::p) r (.scope p c::st) env ds H (h1.step (by simp[kK,hf])) h;refine⟨n+1,o',env',ds',H',g1,λf w a e hr ha hd he Q hQ=>?_⟩;have:=vm (g2 f w a hr ha hd Q hQ);cases he;simp only[kr,hf];show xK P c _ (n+1) r a w;unfold xK;refine Code.wp_mono (λe a w h=>?_) this;cases e with
     |goto l'=>
      simp only[kr]at h ⊢;cases hf':findLabel c l' with
      |none=>rw[hf']at h;exact gk (Nat.le_succ n) h
      |some r'=>rw[hf']at h;exact AN (λe a w h=>gk (Nat.le_succ n) h) (Nat.le_refl n) h
     |_=>exact gk (st:=st) (Nat.le_succ n) h
   |_=>
    obtain⟨n,o',env',ds',H',g1,g2⟩:=jr hg h2 h;refine⟨n,o',env',ds',H',g1,λf w a e hr ha hd he Q hQ=>?_⟩;have:=g2 f w a e hr ha hd he Q hQ
    first|(cases he;exact this)|(obtain⟨ch,rfl,_⟩:=he;exact this)
theorem vq.wp{c:Code}{st:List Fr}{K:KT}{env:List AV}{ds:List eD}{H:AH}(h:vq P c st K env ds H){c':Code}{st':List Fr}(hn:∀b,c'≠.loop b)
  (hW:∀n f a w Q,AR P f env a→c.wp P (kr P n st Q) a w→c'.wp P (kr P n st' Q) a w):vq P c' st' K env ds H:=by
 obtain⟨n,h⟩:=h;exact⟨n,h.mono (λf a w Q ha hh=>JM hn (hW n f a w Q ha (vm hh))) λ_ _ _ _ h=>h⟩
theorem JN{C:fb}(hC:ib P C){D:DT}(hD:qG P D){body:Code}{K:KT}{g:GT}(hg:GOk P body K g):GOk P body K (BD C D P P.globals.size g K):=by
 intro p c st env ds H hp h;have hs:=hp.stack;unfold BD at h;cases c with
 |skip=>exact vq.qn (by simp) (iC.done (jr hg hs h) .normal (.inl ⟨rfl,rfl⟩) λa w Q h=>wp_skip h)
 |region id ops draw=>
  refine vq.qn (by simp) ?_;rcases dI h with⟨rfl,h⟩|⟨rfl,h⟩
  ·exact(hD id ops env ds H _ h).mono (λ_ _ _ _ _ h=>h) λ_ _ _ _ h=>jr hg hs h
  ·exact(oP hC _ _ _ _ h).mono (λf a w Q _ h=>wp_region_list h) λ_ _ _ _ h=>jr hg hs h
 |seq a b=>exact(hg _ _ _ env ds H (hp.step rfl) h).wp (by simp) λn f x w Q _ h=>wp_seq (Code.wp_mono (λe a w h=>by cases e<;>first|exact vm h|exact h) h)
 |cond c a b=>
  have h:kG (fy P.globals.size env c) (g (0::p) a st env ds H) (g (1::p) b st env ds H):=h;generalize hv:fy P.globals.size env c=v at h;cases v<;>try exact h.elim
  case bool t=>
   have hc:∀{f:aL}{a:Act},AR P f env a→a.eval c=.bool t:=λ{f act} ha=>by
    have:=vg ha c;rw[hv]at this;generalize act.eval c=u at this;cases this;rfl
   cases t
   ·exact(hg _ _ _ env ds H (hp.step rfl) h).wp (by simp) λn f x w Q ha h=>wp_cond (hc ha) h
   ·exact(hg _ _ _ env ds H (hp.step rfl) h).wp (by simp) λn f x w Q ha h=>wp_cond (hc ha) h
 |block id c=>exact(hg _ _ _ env ds H (hp.step rfl) h).wp (by simp) λn f x w Q _ h=>wp_block h
 |loop c=>
  obtain⟨n,h⟩:=hg _ _ _ env ds H (hp.step rfl) h;refine⟨n+1,h.mono (λf a w Q _ hh=>?_) λ_ _ _ _ h=>h⟩;show LI P c _ (n+1) a w;unfold LI;refine Code.wp_mono (λe a w h=>?_) (vm hh);cases e<;>first|exact zt (λe a w h=>gk (Nat.le_succ n) h) (Nat.le_refl n) h|exact gk (st:=st) (Nat.le_succ n) h
 |scope c=>
  obtain⟨n,h⟩:=hg _ _ _ env ds H (hp.step rfl) h;refine⟨n,h.mono (λf a w Q _ hh=>JM (by simp) (tI (n:=n+1) ?_)) λ_ _ _ _ h=>h⟩;unfold xK;refine Code.wp_mono (λe a w h=>?_) (vm hh);cases e with
  |goto l=>
   simp only[kr]at h ⊢;exact h
  |_=>exact h
 |exit id=>exact vq.qn (by simp) (iC.done (jr hg hs h) (.exit id) (.inr (.inl ⟨id,rfl,rfl⟩)) λa w Q h=>wp_exit h)
 |label l=>exact vq.qn (by simp) (iC.done (jr hg hs h) .normal (.inl ⟨rfl,rfl⟩) λa w Q h=>wp_label h)
 |ret=>exact vq.qn (by simp) (iC.done (jr hg hs h) .ret (.inr (.inr (.inr ⟨rfl,rfl⟩))) λa w Q h=>wp_ret h)
 |goto l=>exact vq.qn (by simp) (iC.done (jr hg hs h) (.goto l) (.inr (.inr (.inl ⟨l,rfl,rfl⟩))) λa w Q h=>wp_goto h)
 |rangeFunc=>exact h.elim
 |refuse=>exact h.elim
def yl(P:Program)(body:Code)(K:KT)(p:List Nat):yk:=λenv ds H=>∃c st,xh body p=some (c,st)∧vq P c st K env ds H
abbrev ym:=List (List Nat×yk)
def AO(t:ym):Tbl:=t
def nf(P:Program)(body:Code)(K:KT)(t:ym):Prop:=∀e∈t,∀env ds H,e.2 env ds H→yl P body K e.1 env ds H
theorem nf.nil{body:Code}{K:KT}:nf P body K []:=λe h=>by simp at h
theorem nf.cons{body:Code}{K:KT}{p:List Nat}{F:yk}{t:ym}(h:∀env ds H,F env ds H→yl P body K p env ds H)(ht:nf P body K t):nf P body K ((p,F)::t):=λe he=>by
 rcases List.mem_cons.1 he with rfl|he
 ·exact h
 ·exact ht e he
theorem JO:∀{t:ym}{p:List Nat}{F:yk},BE (AO t) p=some F→(p,F)∈t
 |[],_,_,h=>by cases h
 |(q,G)::t,p,F,h=>by
  simp only[AO,BE]at h;cases hb:JK q p with
  |true=>
   rw[hb]at h;have h:G=F:=by simpa using h
   have:=TO hb;subst h;subst this;simp
  |false=>
   rw[hb]at h;exact List.mem_cons_of_mem _ (JO h)
theorem TP{C:fb}(hC:ib P C){D:DT}(hD:qG P D){body:Code}{K:KT}{t:ym}(ht:nf P body K t):∀n,GOk P body K (goX C D P P.globals.size (AO t) K n)
 |0=>λ_ _ _ _ _ _ _ h=>h.elim
 |n+1=>λp c st env ds H hp h=>by
  change (match BE (AO t) p with|some F=>F env ds H|none=>BD C D P P.globals.size (goX C D P P.globals.size (AO t) K n) K p c st env ds H)at h
  split at h
  ·rename_i F hF;obtain⟨c',st',h1,h2⟩:=ht _ (JO hF) env ds H h;rw[hp.sub]at h1;cases h1;exact h2
  ·exact JN hC hD (TP hC hD ht n) p c st env ds H hp h
theorem TQ{C:fb}(hC:ib P C){D:DT}(hD:qG P D){body:Code}{K:KT}{t:ym}(ht:nf P body K t){n:Nat}{p:List Nat}{env:List AV}{ds:List eD}{H:AH}
  (h:JL C D P P.globals.size body (AO t) K n p env ds H):yl P body K p env ds H:=by
 unfold JL agA at h;split at h
 ·rename_i c st hs;exact⟨c,st,hs,JN hC hD (TP hC hD ht n) p c st env ds H (Pos.of_sub hs) h⟩
 ·exact h.elim
end
section
abbrev KF:=lT→AH→Prop
abbrev cY:=List AV→AH→KF→Prop
inductive Ty where
 |i (k:Nat)
 |b
 |a
abbrev rH(R:Type):List Ty→Type
 |[]=>R
 |.i _::τ=>Int→rH R τ
 |.b::τ=>Bool→rH R τ
 |.a::τ=>AV→rH R τ
section
def uO{R:Type}:(τ:List Ty)→rH R τ→List AV→(R→Prop)→Prop
 |[],f,l,k=>match l with|[]=>k f|_=>False
 |.i q::τ,f,l,k=>match l with|v::r=>jE v λc z=>bT (Nat.beq c q) (uO τ (f z) r k)|[]=>False
 |.b::τ,f,l,k=>match l with|v::r=>bY v λz=>uO τ (f z) r k|[]=>False
 |.a::τ,f,l,k=>match l with|v::r=>uO τ (f v) r k|[]=>False
def pt{R:Type}:(τ:List Ty)→rH R τ→(R→List AV→Prop)→Prop
 |[],f,p=>p f []
 |.i q::τ,f,p=>∀z:Int,pt τ (f z) λr l=>p r (.int q z::l)
 |.b::τ,f,p=>∀z:Bool,pt τ (f z) λr l=>p r (.bool z::l)
 |.a::τ,f,p=>∀v:AV,pt τ (f v) λr l=>p r (v::l)
def xi:List Nat→List AV→Nat→AV
 |s::r,v::l,i=>bif Nat.beq s i then v else xi r l i
 |_,_,_=>.dH
def xj(slots:List Nat)(l:List AV):Nat→Nat→List AV
 |0,_=>[]
 |n+1,i=>xi slots l i::xj slots l n (Nat.succ i)
def Q9(n:Nat)(slots:List Nat)(l:List AV):List AV:=xj slots l n 0
def akz(ds:List eD)(x:Prop):Prop:=match ds with|[]=>x|_=>False
def akA(n:Nat)(slots:List Nat)(τ:List Ty)(f:rH (AH→Prop) τ):yk:=λenv ds H=>
 bT (Nat.beq env.length n) (akz ds (uO τ f (slots.map λs=>env.getD s .dH) λr=>r H))
def jG:List (Nat×cY)→fb
 |[],_,_,_,_=>False
 |(m,F)::r,g,args,H,K=>bif Nat.beq m g then F args H K else jG r g args H K
def JP:vh:=λ_ _ _ _ _=>False
def ao(τ:List Ty)(sh:rH (AH→KF→Prop) τ):cY:=λargs H K=>uO τ sh args λr=>r H K
end
theorem aih{v:AV}{k:Bool→Prop}(h:bY v k):∃z,v=.bool z∧k z:=by
 cases v<;>first|exact h.elim|exact⟨_,rfl,h⟩
theorem qo{R:Type}:∀{τ:List Ty}{f:rH R τ}{l:List AV}{k:R→Prop}{p:R→List AV→Prop},uO τ f l k→pt τ f p→∃r,k r∧p r l
 |[],f,l,k,p,h,g=>by
  unfold uO at h;split at h
  ·exact⟨f,h,g⟩
  ·exact h.elim
 |.i q::τ,f,l,k,p,h,g=>by
  unfold uO at h;split at h
  ·obtain⟨c,z,rfl,h⟩:=fj h;obtain⟨e,h⟩:=aD h;rw[Nat.eq_of_beq_eq_true e];exact qo (p:=λr l=>p r (.int q z::l)) h (g z)
  ·exact h.elim
 |.b::τ,f,l,k,p,h,g=>by
  unfold uO at h;split at h
  ·obtain⟨z,rfl,h⟩:=aih h;exact qo (p:=λr l=>p r (.bool z::l)) h (g z)
  ·exact h.elim
 |.a::τ,f,l,k,p,h,g=>by
  unfold uO at h;split at h
  ·rename_i v l;exact qo (p:=λr l=>p r (v::l)) h (g v)
  ·exact h.elim
theorem pt.imp{R:Type}:∀{τ:List Ty}{f:rH R τ}{p q:R→List AV→Prop},(∀r l,p r l→q r l)→pt τ f p→pt τ f q
 |[],_,_,_,h,g=>h _ _ g
 |.i _::_,_,_,_,h,g=>λz=>pt.imp (λr l=>h r _) (g z)
 |.b::_,_,_,_,h,g=>λz=>pt.imp (λr l=>h r _) (g z)
 |.a::_,_,_,_,h,g=>λz=>pt.imp (λr l=>h r _) (g z)
theorem HA(s:List Nat)(l:List AV):∀n i,(xj s l n i).length=n
 |0,_=>rfl
 |n+1,i=>by simp[xj,HA s l n]
theorem HB(s:List Nat)(l:List AV):∀n i j,j<n→(xj s l n i)[j]? = some (xi s l (i+j))
 |0,_,_,h=>absurd h (by omega)
 |n+1,i,0,_=>by simp[xj]
 |n+1,i,j+1,h=>by
  simp only[xj,List.getElem?_cons_succ];rw[HB s l n (Nat.succ i) j (by omega),Nat.succ_eq_add_one,Nat.add_assoc,Nat.add_comm 1 j]
theorem HC(env:List AV):∀(s:List Nat) (i:Nat),xi s (s.map λt=>env.getD t .dH) i=env.getD i .dH∨xi s (s.map λt=>env.getD t .dH) i=.dH
 |[],i=>.inr (by simp[xi])
 |t::s,i=>by
  simp only[List.map_cons,xi];cases h:Nat.beq t i with
  |true=>rw[Nat.eq_of_beq_eq_true h];exact .inl rfl
  |false=>exact HC env s i
variable {P:Program}
theorem VL.weak{f:aL}:∀{env env':List AV}{vs:List Value},VL f env vs→env'.length=env.length→(∀i,i<env.length→env'[i]? = env[i]?∨env'[i]? = some .dH)→VL f env' vs
 |_,[],_,.nil,_,_=>.nil
 |_,_::_,_,.nil,h,_=>by simp at h
 |_,[],_,.cons _ _ _ _ _ _,h,_=>by simp at h
 |_,b::env',_,.cons a v as vs h1 h2,h,hi=>by
  have h0:=hi 0 (by simp);refine .cons b v _ _ ?_ (VL.weak h2 (by simpa using h) λi hl=>by have:=hi (i+1) (by simpa using hl);simpa using this);simp at h0;rcases h0 with rfl|rfl
  ·exact h1
  ·exact .dH v
theorem yl.weak{body:Code}{K:KT}{p:List Nat}{env env':List AV}{ds:List eD}{H:AH}(h:yl P body K p env' ds H)(hl:env'.length=env.length)(hi:∀i,i<env.length→env'[i]? = env[i]?∨env'[i]? = some .dH) :
  yl P body K p env ds H:=by
 obtain⟨c,st,h1,n,o,e2,d2,H2,h3,h4⟩:=h;exact⟨c,st,h1,n,o,e2,d2,H2,h3,λf w a hr ha hd Q hQ=>h4 f w a hr ⟨ha.tmps.weak hl hi,ha.glob⟩ hd Q hQ⟩
def afC(P:Program)(body:Code)(K:KT)(p:List Nat)(n:Nat)(slots:List Nat)(τ:List Ty)(f:rH (AH→Prop) τ):Prop:=pt τ f λr l=>∀H,r H→yl P body K p (Q9 n slots l) [] H
theorem akB{body:Code}{K:KT}{p:List Nat}{n:Nat}{slots:List Nat}{τ:List Ty}{f:rH (AH→Prop) τ}(h:afC P body K p n slots τ f):∀env ds H,akA n slots τ f env ds H→yl P body K p env ds H:=by
 intro env ds H hh;obtain⟨hl,hh⟩:=aD hh;unfold akz at hh;split at hh
 ·obtain⟨r,h1,h2⟩:=qo hh h;have hl:=Nat.eq_of_beq_eq_true hl;refine(h2 H h1).weak (by rw[Q9,HA,hl]) λi hi=>?_;rw[Q9,HB _ _ _ _ _ (by omega),Nat.zero_add];rcases HC env slots i with e|e
  ·rw[e];left;simp[List.getD_eq_getElem?_getD,hi]
  ·rw[e];exact .inr rfl
 ·exact hh.elim
def TR(P:Program)(f:aL):Prop:=∀g,g<P.globals.size→f.dom g∧f.blk g=g∧f.off g=0
def aw(P:Program)(g:Nat)(F:cY):Prop:=fX P g=true→∀args H K,F args H K→∃o H',K o H'∧∀f w (vs:Array Value),HR f H w→TR P f→VL f args vs.toList→Calls P g vs w (rM f H w o H')
def af(P:Program)(t:List (Nat×cY)):Prop:=∀e∈t,aw P e.1 e.2
theorem af.nil:af P []:=λe h=>by simp at h
theorem af.cons{g:Nat}{F:cY}{t:List (Nat×cY)}(h:aw P g F)(ht:af P t):af P ((g,F)::t):=λe he=>by
 rcases List.mem_cons.1 he with rfl|he
 ·exact h
 ·exact ht e he
theorem sE:∀{t:List (Nat×cY)},af P t→ib P (jG t)
 |[],_=>λ_ _ _ _ _ h=>h.elim
 |(m,F)::r,ht=>λg args H K hb h=>by
  unfold jG at h;cases e:Nat.beq m g with
  |true=>
   rw[e]at h;have:=Nat.eq_of_beq_eq_true e;subst this;exact ht (m,F) (by simp) hb args H K h
  |false=>
   rw[e]at h;exact sE (λe he=>ht e (List.mem_cons_of_mem _ he)) g args H K hb h
theorem aii:GC P JP:=λ_ _ _ _ _ _ h=>h.elim
theorem aw.aij{g:Nat}{fn:Func}{body:Code}(hf:P.funcs[g]? = some fn)(hc:fn.body=some body){τ:List Ty}{sh:rH (AH→KF→Prop) τ}
  (h:∀K,pt τ sh λr l=>∀H,r H K→yl P body (QT P JP fn K) [] (bz fn l) [] H):aw P g (ao τ sh):=by
 intro _ args H K hh;obtain⟨r,h1,h2⟩:=qo hh (h K);obtain⟨c,st,h3,n,o,env',ds',H',h4,h5⟩:=h2 H h1;simp only[xh,Option.some.injEq,Prod.mk.injEq]at h3;obtain⟨rfl,rfl⟩:=h3;have key:∀(M:ga),oQ P JP fn env' ds' M H' K→
   (∀(f:aL) (H0:AH) w (R:Ending→World→Prop) e a w',mJ P f H0 w o env' ds' H' e a w'→(∀f' u,Step f H0 w f' H' w'→AR P f' env' a→DR f' ds' a.defers→MR f' M u→Leaves P fn a.tmps R a.defers u w')→bodyPostD P fn R e a w')→
   ∃o H',K o H'∧∀f w (vs:Array Value),HR f H w→TR P f→VL f args vs.toList→Calls P g vs w (rM f H w o H'):=λM hl hb=>by
  obtain⟨co,H2,g1,g2⟩:=xe aii _ _ _ hl;refine⟨co,H2,g1,λf w vs hr hg hv=>calls_of_wp_defers hf hc (vm (h5 f w _ hr (yi hv hg) .nil _ λe a' w' hp=>hb f H w _ e a' w' hp λf' u s ha hd hm=>?_))⟩;exact Leaves.mono (λe w h=>h.after s) _ _ _ (g2 f' w' a' a'.defers u s.rel ha hd hm)
 cases o with
 |normal=>exact key .ret h4 λf H0 w R e a w' hp hl=>by obtain⟨f',s,y1,y2,rfl⟩:=hp;exact hl f' _ s y1 y2 rfl
 |ret=>exact key .ret h4 λf H0 w R e a w' hp hl=>by obtain⟨f',s,y1,y2,rfl⟩:=hp;exact hl f' _ s y1 y2 rfl
 |cM v=>exact key (.cM v) h4 λf H0 w R e a w' hp hl=>by obtain⟨f',s,y1,y2,ch,rfl,hp⟩:=hp;exact hl f' _ s y1 y2 ⟨ch,rfl,hp⟩
 |exit=>exact h4.elim
 |goto=>exact h4.elim
theorem aw.afD{g:Nat}{t:List (Nat×cY)}(ht:af P t)(hm:P.follows .mixedOrders=true)(N d:Nat):aw P g (QX (jG t) (Iv P (jG t)) P P.globals.size N d g):=
 λhb args H K h=>afv (sE ht) (JJ hm _ (sE ht)) N d g args H K hb h
end
section
section
def cR(K:KF)(o:lT)(H:AH)(k:AV→Prop):Prop:=cOut o k λv=>K (.cM v) H
def vr(m n:Nat)(p q:AV)(x:Prop):Prop:=nF p λb o=>nF q λb' o'=>bT (!(Nat.beq b b')||(Nat.ble (Nat.add o m) o'||Nat.ble (Nat.add o' n) o)) x
def cI(q:Nat)(v:AV)(k:Int→Prop):Prop:=jE v λc z=>bT (Nat.beq c q) (k z)
def JQ:(τ:List Ty)→rH (AH→KF→Prop) τ
 |[]=>λ_ _=>False
 |.i _::τ=>λ_=>JQ τ
 |.b::τ=>λ_=>JQ τ
 |.a::τ=>λ_=>JQ τ
end
variable {P:Program}
theorem xk:∀(τ:List Ty),pt τ (JQ τ) λr _=>∀H K,¬r H K
 |[]=>λ_ _ h=>h
 |.i _::τ=>λ_=>(xk τ).imp λ_ _ h=>h
 |.b::τ=>λ_=>(xk τ).imp λ_ _ h=>h
 |.a::τ=>λ_=>(xk τ).imp λ_ _ h=>h
theorem gS{g:Nat}(τ:List Ty):aw P g (ao τ (JQ τ)):=λ_ args H K h=>by
 obtain⟨r,h1,h2⟩:=qo h (xk τ);exact(h2 H K h1).elim
end
theorem OK{c:Nat}{z:Int}{k:Int→Prop}(h:k ((kd c).wrap z)):aC c z k:=by
 unfold aC;cases z with
 |ofNat n=>
  show bI (pZ c) (bI (Nat.ble (half c) n) (kH (pg c (.ofNat n)) k) (bD n λm=>k (.ofNat m))) (bD (Nat.mod n (full c)) λm=>k (.ofNat m));simp only[lP,aY,sn];cases hs:pZ c with
  |true=>
   show bI (Nat.ble (half c) n) _ _;cases hb:Nat.ble (half c) n with
   |true=>exact h
   |false=>
    have hb':¬half c≤n:=λhle=>by rw[Nat.ble_eq_true_of_le hle]at hb;cases hb
    rw[wrap_small hs (by have:(Int.ofNat n:Int)=(n:Int):=rfl;omega) (by have:(Int.ofNat n:Int)=(n:Int):=rfl;omega)]at h;exact h
  |false=>
   rw[xI hs]at h;exact h
 |negSucc n=>
  show bI (pZ c) (bI (Nat.ble (half c) n) (kH (pg c (.negSucc n)) k) (bD n λm=>k (.negSucc m))) (kH (pg c (.negSucc n)) k);simp only[lP,aY,sn];cases hs:pZ c with
  |true=>
   show bI (Nat.ble (half c) n) _ _;cases hb:Nat.ble (half c) n with
   |true=>exact h
   |false=>
    have hb':¬half c≤n:=λhle=>by rw[Nat.ble_eq_true_of_le hle]at hb;cases hb
    rw[wrap_small hs (by omega) (by omega)]at h;exact h
  |false=>exact h
end Go.X
