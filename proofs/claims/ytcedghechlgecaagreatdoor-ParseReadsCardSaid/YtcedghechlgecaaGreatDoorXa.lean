/- A machine over values, and that what it does the model does (shortened by a program). No condition: lemmas. -/
import Derived.Calls
import Derived.OrdersHeld
import Derived.Recover
import Derived.Laws.Sem
import Derived.Laws.World
import Derived.KernelRfl
import Derived.Laws.Concat
import Derived.Laws.Strings
import Derived.Laws.Append
import Derived.Laws.Cells
import Derived.Laws.Entries
import Derived.Laws.AppendOwn
import Derived.Laws.RangeString
import Derived.Lib.AppendZerosOnto
import Derived.Laws.BytesString
import Derived.Laws.MakeOwn
import Derived.StringKeys
import Derived.DeepKeys5
import Derived.MapFrom
import Derived.Laws.StructEq
import Derived.Laws.Externs
import Derived.Lib.Overlaps
set_option maxRecDepth 100000
set_option maxHeartbeats 0
set_option linter.unusedVariables false
set_option linter.unusedSimpArgs false
namespace Go.X
inductive AV where
 |bool (b:Bool)
 |int (k:Nat) (n:Int)
 |str (n x:Nat)
 |jA
 |ptr (b o:Nat)
 |ab
 |slice (b o len cap sz:Nat) (ex:Bool)
 |qN
 |map (b:Nat)
 |rP
 |func (f:Nat) (first cap:List AV)
 |fl
 |iface (t:Nat) (v:AV)
 |agg (cs:List AV)
 |aY (vs:List AV)
 |df
 |Eu (m:Nat) (r:Int)
 |Ev (m r:Nat)
 |wV (m r:Nat)
def kd:Nat→IntKind
 |0=>.i64
 |1=>.u8
 |2=>.i32
 |3=>.u64
 |4=>.u32
 |5=>.i8
 |6=>.i16
 |_=>.u16
def kn:IntKind→Nat
 |.i64=>0
 |.u8=>1
 |.i32=>2
 |.u64=>3
 |.u32=>4
 |.i8=>5
 |.i16=>6
 |.u16=>7
theorem Fp(k:IntKind):kd (kn k)=k:=by cases k<;>rfl
inductive Bt(α:Type) where
 |e
 |n (v:α) (l r:Bt α)
structure fE where
 key:AV
 val:AV
 born:Nat
inductive eS where
 |cells (c:Bt AV) (n m:Nat)
 |map (es:List fE) (clock:Nat)
 |iter (n x pos:Nat)
 |dead
structure AH where
 t:Bt eS
 n:Nat
def Bt.get?{α:Type}:Bt α→Nat→Option α
 |.e,_=>none
 |.n v _ _,0=>some v
 |.n _ l r,i+1=>if i%2=0 then l.get? (i/2) else r.get? (i/2)
noncomputable section
def bM(n:Nat)(k:Nat→Prop):Prop:=@Nat.rec (λ_=>(Nat→Prop)→Prop) (λk=>k 0) (λm _ k=>k (Nat.succ m)) n k
theorem bw(n:Nat)(k:Nat→Prop):bM n k=k n:=by cases n<;>rfl
def Bt.gD{α:Type}(t:Bt α):Nat→(α→Prop)→Prop:=
 @Bt.rec α (λ_=>Nat→(α→Prop)→Prop) (λ_ _=>False)
 (λv _ _ il ir i k=>@Nat.rec (λ_=>Prop) (k v) (λj _=>@Nat.rec (λ_=>Prop) (il (j/2) k) (λ_ _=>ir (j/2) k) (j%2)) i) t
def Bt.ij{α:Type}(t:Bt α):Nat→α→(Bt α→Prop)→Prop:=
 @Bt.rec α (λ_=>Nat→α→(Bt α→Prop)→Prop) (λi v k=>@Nat.rec (λ_=>Prop) (k (.n v .e .e)) (λ_ _=>False) i)
 (λu l r il ir i v k=>@Nat.rec (λ_=>Prop) (k (.n v l r)) (λj _=>@Nat.rec (λ_=>Prop) (il (j/2) v (λl'=>k (.n u l' r))) (λ_ _=>ir (j/2) v (λr'=>k (.n u l r'))) (j%2)) i) t
theorem Bt.ef{α:Type}(t:Bt α):∀(i:Nat) (k:α→Prop),t.gD i k→∃v,t.get? i=some v∧k v:=by
 induction t with
 |e=>intro i k h;exact h.elim
 |n v l r il ir=>
  intro i k h;cases i with
  |zero=>exact⟨v,rfl,h⟩
  |succ j=>
   change @Nat.rec (λ_=>Prop) (l.gD (j/2) k) (λ_ _=>r.gD (j/2) k) (j%2)at h
   rcases Nat.mod_two_eq_zero_or_one j with e|e
   ·rw[e]at h;simp only[Bt.get?,e,if_true];exact il _ _ h
   ·rw[e]at h;simp only[Bt.get?,e];exact ir _ _ h
theorem BI{i j:Nat}(h:i+1≠j+1)(e:i%2=j%2):i/2≠j/2:=by omega
theorem Bt.hH{α:Type}(t:Bt α):∀(i:Nat) (v:α) (k:Bt α→Prop),t.ij i v k→
  ∃t',k t'∧t'.get? i=some v∧∀j,j≠i→t'.get? j=t.get? j:=by
 induction t with
 |e=>
  intro i v k h;cases i with
  |zero=>exact⟨_,h,rfl,λj hj=>by cases j with|zero=>exact absurd rfl hj|succ j=>simp only[Bt.get?,ite_self]⟩
  |succ j=>exact h.elim
 |n u l r il ir=>
  intro i v k h;cases i with
  |zero=>exact⟨_,h,rfl,λj hj=>by cases j with|zero=>exact absurd rfl hj|succ j=>simp only[Bt.get?]⟩
  |succ i=>
   change @Nat.rec (λ_=>Prop) (l.ij (i/2) v (λl'=>k (.n u l' r))) (λ_ _=>r.ij (i/2) v (λr'=>k (.n u l r'))) (i%2)at h
   rcases Nat.mod_two_eq_zero_or_one i with e|e
   ·rw[e]at h;obtain⟨l',hk,h1,h2⟩:=il _ _ _ h;refine⟨_,hk,by simp only[Bt.get?,e,if_true];exact h1,λj hj=>?_⟩;cases j with
    |zero=>rfl
    |succ j=>
     simp only[Bt.get?];split
     ·rename_i ej;exact h2 _ (BI hj (by omega))
     ·rfl
   ·rw[e]at h;obtain⟨r',hk,h1,h2⟩:=ir _ _ _ h;refine⟨_,hk,by simp only[Bt.get?,e];exact h1,λj hj=>?_⟩;cases j with
    |zero=>rfl
    |succ j=>
     simp only[Bt.get?];split
     ·rfl
     ·rename_i ej;exact h2 _ (BI hj (by omega))
end
def jl:Nat→Nat→List UInt8
 |0,_=>[]
 |n+1,x=>UInt8.ofNat (x%256)::jl n (x/256)
def fu(n x:Nat):ByteArray:=⟨(jl n x).toArray⟩
structure aO where
 dom:Nat→Prop
 blk:Nat→Nat
 off:Nat→Nat
 lim:Nat→Nat
mutual
inductive VR(f:aO):AV→Value→Prop
 |bool (b:Bool):VR f (.bool b) (.bool b)
 |int (k:Nat) (n:Int):VR f (.int k n) (.int (kd k) n)
 |str (n x:Nat):x<256^n→VR f (.str n x) (.string (fu n x))
 |jA:VR f .jA (.pointer none)
 |ptr (b o:Nat):f.dom b→VR f (.ptr b o) (.pointer (some ⟨f.blk b,f.off b+o,none⟩))
 |ab:VR f .ab (.slice none 0 0)
 |slice (b o len cap sz:Nat) (ex:Bool) (cap' x:Nat):f.dom b→len≤cap→cap≤cap'→(0<cap'→x=f.off b+o)→(cap<cap'→ex=false∧o+cap'*sz≤f.lim b)→
   VR f (.slice b o len cap sz ex) (.slice (some ⟨f.blk b,x,none⟩) len cap')
 |qN:VR f .qN (.map none)
 |map (b:Nat):f.dom b→VR f (.map b) (.map (some (f.blk b)))
 |rP:VR f .rP .nilFunc
 |func (g:Nat) (as bs:List AV) (vs ws:List Value):VL f as vs→VL f bs ws→VR f (.func g as bs) (.func (.func g) vs.toArray ws.toArray)
 |fl:VR f .fl .nilIface
 |iface (t:Nat) (a:AV) (v:Value):VR f a v→VR f (.iface t a) (.iface t v)
 |agg (as:List AV) (vs:List Value):VL f as vs→VR f (.agg as) (.agg vs.toArray)
 |aY (as:List AV) (vs:List Value):VL f as vs→VR f (.aY as) (.tuple vs.toArray)
 |df (v:Value):VR f .df v
 |Eu (m:Nat) (r z:Int):Int.tmod z m=r→VR f (.Eu m r) (.int .i64 z)
 |Ev (m r:Nat) (z:Int):z%18446744073709551616%m=r→VR f (.Ev m r) (.int .i64 z)
 |wV (m r:Nat) (z:Int):0≤z→z%m=r→VR f (.wV m r) (.int .u64 z)
inductive VL(f:aO):List AV→List Value→Prop
 |nil:VL f [] []
 |cons (a:AV) (v:Value) (as:List AV) (vs:List Value):VR f a v→VL f as vs→VL f (a::as) (v::vs)
end
structure aO.le(f f':aO):Prop where
 dom:∀b,f.dom b→f'.dom b
 blk:∀b,f.dom b→f'.blk b=f.blk b
 off:∀b,f.dom b→f'.off b=f.off b
 lim:∀b,f.dom b→f'.lim b=f.lim b
theorem aO.le.refl(f:aO):f.le f:=⟨λ_ h=>h,λ_ _=>rfl,λ_ _=>rfl,λ_ _=>rfl⟩
theorem aO.le.trans{f g h:aO}(a:f.le g)(b:g.le h):f.le h:=
 ⟨λx hx=>b.dom x (a.dom x hx),λx hx=>(b.blk x (a.dom x hx)).trans (a.blk x hx),
 λx hx=>(b.off x (a.dom x hx)).trans (a.off x hx),λx hx=>(b.lim x (a.dom x hx)).trans (a.lim x hx)⟩
mutual
theorem VR.up{f f':aO}(h:f.le f'):∀{a:AV}{v:Value},VR f a v→VR f' a v
 |_,_,.bool b=>.bool b
 |_,_,.int k n=>.int k n
 |_,_,.str n x hx=>.str n x hx
 |_,_,.jA=>.jA
 |_,_,.ptr b o hb=>by rw[←h.blk b hb,←h.off b hb];exact .ptr b o (h.dom b hb)
 |_,_,.ab=>.ab
 |_,_,.slice b o len cap sz ex cap' x hb h1 h2 h3 h4=>by
  rw[←h.blk b hb];exact .slice b o len cap sz ex cap' x (h.dom b hb) h1 h2 (λy=>by rw[h.off b hb];exact h3 y) (λy=>by rw[h.lim b hb];exact h4 y)
 |_,_,.qN=>.qN
 |_,_,.map b hb=>by rw[←h.blk b hb];exact .map b (h.dom b hb)
 |_,_,.rP=>.rP
 |_,_,.func g as bs vs ws h1 h2=>.func g as bs vs ws (VL.up h h1) (VL.up h h2)
 |_,_,.fl=>.fl
 |_,_,.iface t a v h1=>.iface t a v (VR.up h h1)
 |_,_,.agg as vs h1=>.agg as vs (VL.up h h1)
 |_,_,.aY as vs h1=>.aY as vs (VL.up h h1)
 |_,_,.df v=>.df v
 |_,_,.Eu m r z h1=>.Eu m r z h1
 |_,_,.Ev m r z h1=>.Ev m r z h1
 |_,_,.wV m r z h1 h2=>.wV m r z h1 h2
theorem VL.up{f f':aO}(h:f.le f'):∀{as:List AV}{vs:List Value},VL f as vs→VL f' as vs
 |_,_,.nil=>.nil
 |_,_,.cons a v as vs h1 h2=>.cons a v as vs (VR.up h h1) (VL.up h h2)
end
theorem VL.length{f:aO}:∀{as:List AV}{vs:List Value},VL f as vs→as.length=vs.length
 |_,_,.nil=>rfl
 |_,_,.cons _ _ _ _ _ h=>congrArg (· + 1) (VL.length h)
theorem VL.append{f:aO}:∀{as:List AV}{vs:List Value}{bs:List AV}{ws:List Value},VL f as vs→VL f bs ws→VL f (as++bs) (vs++ws)
 |_,_,_,_,.nil,h=>h
 |_,_,_,_,.cons a v as vs h1 h2,h=>.cons a v _ _ h1 (VL.append h2 h)
theorem VL.get{f:aO}:∀{as:List AV}{vs:List Value},VL f as vs→∀(i:Nat) (a:AV),as[i]? = some a→∃v,vs[i]? = some v∧VR f a v
 |_,_,.nil,i,a,h=>by simp at h
 |_,_,.cons a v as vs h1 h2,0,x,h=>by simp at h;subst h;exact⟨v,by simp,h1⟩
 |_,_,.cons a v as vs h1 h2,i+1,x,h=>by
  simp at h;obtain⟨u,hu,hr⟩:=VL.get h2 i x h;exact⟨u,by simpa using hu,hr⟩
theorem VL.set{f:aO}:∀{as:List AV}{vs:List Value},VL f as vs→∀(i:Nat) (a:AV) (v:Value),VR f a v→VL f (as.set i a) (vs.set i v)
 |_,_,.nil,i,a,v,h=>.nil
 |_,_,.cons a v as vs h1 h2,0,x,y,h=>.cons x y as vs h h2
 |_,_,.cons a v as vs h1 h2,i+1,x,y,h=>.cons a v _ _ h1 (VL.set h2 i x y h)
theorem VL.map{f:aO}{α:Type}{g:α→AV}{h:α→Value}{l:List α}(H:∀x∈l,VR f (g x) (h x)):VL f (l.map g) (l.map h):=by
 induction l with
 |nil=>exact .nil
 |cons x l ih=>exact .cons _ _ _ _ (H x (by simp)) (ih λy hy=>H y (by simp[hy]))
theorem VL.take{f:aO}{as:List AV}{vs:List Value}(h:VL f as vs):∀n,VL f (as.take n) (vs.take n):=by
 intro n
 induction n generalizing as vs with
 |zero=>simpa using VL.nil
 |succ n ih=>cases h with
  |nil=>simpa using VL.nil
  |cons a v as vs h1 h2=>simpa using VL.cons a v _ _ h1 (ih h2)
theorem VL.drop{f:aO}{as:List AV}{vs:List Value}(h:VL f as vs):∀n,VL f (as.drop n) (vs.drop n):=by
 intro n
 induction n generalizing as vs with
 |zero=>simpa using h
 |succ n ih=>cases h with
  |nil=>simpa using VL.nil
  |cons a v as vs h1 h2=>simpa using ih h2
theorem VL.replicate{f:aO}{a:AV}{v:Value}(h:VR f a v):∀n,VL f (List.replicate n a) (List.replicate n v)
 |0=>.nil
 |n+1=>.cons _ _ _ _ h (VL.replicate h n)
def ER(f:aO)(a:fE)(e:MapEntry):Prop:=VR f a.key e.key∧VR f a.val e.val∧e.born=a.born
inductive kH(f:aO):List fE→List MapEntry→Prop
 |nil:kH f [] []
 |cons (a:fE) (e:MapEntry) (as:List fE) (es:List MapEntry):ER f a e→kH f as es→kH f (a::as) (e::es)
theorem kH.up{f f':aO}(h:f.le f'):∀{as:List fE}{es:List MapEntry},kH f as es→kH f' as es
 |_,_,.nil=>.nil
 |_,_,.cons a e as es h1 h2=>.cons a e as es ⟨h1.1.up h,h1.2.1.up h,h1.2.2⟩ (kH.up h h2)
inductive ik where
 |cells (c:Nat→Option AV) (n m:Nat)
 |map (es:List fE) (clock:Nat)
 |iter (n x pos:Nat)
 |dead
def OR(f:aO)(b:Nat):ik→Option Obj→Prop
 |.cells c n m,o=>∃cur e lo hi,o=some (.cells cur e (lo,hi))∧f.off b+f.lim b≤cur.size∧n≤f.lim b∧
   (∀j a,c j=some a→j<n∧∃v,cur[f.off b+j]? = some v∧VR f a v)∧
   (m<2→∀j,j<f.lim b→¬(lo≤f.off b+j∧f.off b+j<hi))∧(m=0→lo=0∧hi=0)
 |.map es clock,o=>∃es',o=some (.map es' clock)∧kH f es es'.toList
 |.iter n x pos,o=>x<256^n∧f.off b=0∧o=some (.stringIter (fu n x) pos)
 |.dead,_=>True
def ik.alive:ik→Bool
 |.dead=>false
 |_=>true
def ik.own:ik→Bool
 |.dead=>false
 |.cells _ _ m=>m<2
 |_=>true
theorem ik.nE{o:ik}(h:o.own=true):o.alive=true:=by cases o<;>first|rfl|simp[ik.own]at h
def eS.sem:eS→ik
 |.cells c n m=>.cells c.get? n m
 |.map es cl=>.map es cl
 |.iter n x p=>.iter n x p
 |.dead=>.dead
structure SH where
 n:Nat
 ob:Nat→ik
def AH.at(H:AH)(b:Nat):eS:=(H.t.get? b).getD .dead
def AH.sem(H:AH):SH:=⟨H.n,λb=>(H.at b).sem⟩
@[simp] theorem AH.nY(H:AH):H.sem.n=H.n:=rfl
@[simp] theorem AH.bX(H:AH)(b:Nat):H.sem.ob b=(H.at b).sem:=rfl
structure HRQ(f:aO)(S:SH)(w:World):Prop where
 obj:∀b,f.dom b→(S.ob b).alive=true→OR f b (S.ob b) w.heap[f.blk b]?
 inj:∀b c,f.dom b→f.dom c→(S.ob b).own=true→(S.ob c).alive=true→f.blk b=f.blk c→b=c
structure gp(f:aO)(S:SH)(w:World):Prop extends HRQ f S w where
 dom:∀b,f.dom b→b<S.n
theorem gp.mk'{f:aO}{S:SH}{w:World}(h1:∀b,f.dom b→b<S.n)(h3:∀b,f.dom b→(S.ob b).alive=true→OR f b (S.ob b) w.heap[f.blk b]?)
  (h4:∀b c,f.dom b→f.dom c→(S.ob b).own=true→(S.ob c).alive=true→f.blk b=f.blk c→b=c):gp f S w:=⟨⟨h3,h4⟩,h1⟩
abbrev HR(f:aO)(H:AH)(w:World):Prop:=gp f H.sem w
structure gP(f:aO)(S:SH)(w:World)(f':aO)(S':SH)(w':World):Prop where
 rel:gp f' S' w'
 le:f.le f'
 n:S.n≤S'.n
 size:w.heap.size≤w'.heap.size
 keep:∀k,k<w.heap.size→(∀b,f.dom b→(S.ob b).own=true→f.blk b≠k)→w'.heap[k]? = w.heap[k]?
 src:∀b,f'.dom b→(S'.ob b).own=true→(∃c,f.dom c∧(S.ob c).own=true∧f'.blk b=f.blk c)∨w.heap.size≤f'.blk b
 ro:∀b,(S'.ob b).alive=true→(S'.ob b).own=false→S.ob b=S'.ob b
 dead:∀b,b<S.n→(S.ob b).alive=false→(S'.ob b).alive=false
 new:∀b,b<S.n→¬f.dom b→¬f'.dom b
 rest:∀b,b<S.n→¬f.dom b→S'.ob b=S.ob b
 os:w'.os=w.os
 tape:w'.tape=w.tape
 output:w'.output=w.output
abbrev Step(f:aO)(H:AH)(w:World)(f':aO)(H':AH)(w':World):Prop:=gP f H.sem w f' H'.sem w'
theorem gP.refl{f:aO}{S:SH}{w:World}(h:gp f S w):gP f S w f S w:=
 ⟨h,.refl f,Nat.le_refl _,Nat.le_refl _,λ_ _ _=>rfl,λb hd ho=>.inl ⟨b,hd,ho,rfl⟩,λb _ _=>rfl,λ_ _ h=>h,λ_ _ h=>h,λ_ _ _=>rfl,rfl,rfl,rfl⟩
theorem Step.refl{f:aO}{H:AH}{w:World}(h:HR f H w):Step f H w f H w:=gP.refl h
theorem HRQ.block_lt{f:aO}{S:SH}{w:World}(h:HRQ f S w){b:Nat}(hd:f.dom b)(ha:(S.ob b).alive=true):f.blk b<w.heap.size:=by
 have ho:=h.obj b hd ha;cases hc:S.ob b with
 |dead=>simp[hc,ik.alive]at ha
 |cells c n m=>
  rw[hc]at ho;obtain⟨cur,e,lo,hi,h1,_⟩:=ho;exact(Array.getElem?_eq_some_iff.1 h1).1
 |map es cl=>
  rw[hc]at ho;obtain⟨es',h1,_⟩:=ho;exact(Array.getElem?_eq_some_iff.1 h1).1
 |iter n x p=>
  rw[hc]at ho;exact(Array.getElem?_eq_some_iff.1 ho.2.2).1
theorem gP.trans{f g h:aO}{S1 S2 S3:SH}{w1 w2 w3:World}(a:gP f S1 w1 g S2 w2)(b:gP g S2 w2 h S3 w3):gP f S1 w1 h S3 w3 where
 rel:=b.rel
 le:=a.le.trans b.le
 n:=Nat.le_trans a.n b.n
 size:=Nat.le_trans a.size b.size
 keep:=λk hk hn=>by
  rw[b.keep k (Nat.lt_of_lt_of_le hk a.size) ?_]
  ·exact a.keep k hk hn
  ·intro c hc ho e;rcases a.src c hc ho with⟨d,hd,hdo,e'⟩|hge
   ·exact hn d hd hdo (e'.symm.trans e)
   ·rw[e]at hge;omega
 src:=λc hc ho=>by
  rcases b.src c hc ho with⟨d,hd,hdo,e⟩|hge
  ·rcases a.src d hd hdo with⟨d',hd',avb,e'⟩|hge
   ·exact .inl ⟨d',hd',avb,e.trans e'⟩
   ·exact .inr (by rw[e];exact hge)
  ·exact .inr (Nat.le_trans a.size hge)
 ro:=λc h1 h2=>by
  have e:=b.ro c h1 h2;rw[←e]at h1 h2;exact(a.ro c h1 h2).trans e
 dead:=λc hc h=>b.dead c (Nat.lt_of_lt_of_le hc a.n) (a.dead c hc h)
 new:=λc hc h=>b.new c (Nat.lt_of_lt_of_le hc a.n) (a.new c hc h)
 rest:=λc hc h=>(b.rest c (Nat.lt_of_lt_of_le hc a.n) (a.new c hc h)).trans (a.rest c hc h)
 os:=b.os.trans a.os
 tape:=b.tape.trans a.tape
 output:=b.output.trans a.output
theorem Step.trans{f g h:aO}{H1 H2 H3:AH}{w1 w2 w3:World}(_:HR f H1 w1)(a:Step f H1 w1 g H2 w2)(b:Step g H2 w2 h H3 w3):Step f H1 w1 h H3 w3:=gP.trans a b
section
variable {f:aO}{H:AH}{w:World}
def aO.ext(f:aO)(i b o l:Nat):aO:=
 { dom:=λx=>x=i∨f.dom x,blk:=λx=>if x=i then b else f.blk x,off:=λx=>if x=i then o else f.off x,lim:=λx=>if x=i then l else f.lim x }
theorem aO.pZ(f:aO){i:Nat}(h:¬f.dom i)(b o l:Nat):f.le (f.ext i b o l):=
 ⟨λx hx=>.inr hx,λx hx=>by simp only[aO.ext];exact if_neg (λe=>h (by rw[←e];exact hx)),λx hx=>by simp only[aO.ext];exact if_neg (λe=>h (by rw[←e];exact hx)),λx hx=>by simp only[aO.ext];exact if_neg (λe=>h (by rw[←e];exact hx))⟩
@[simp] theorem aO.pC(f:aO)(i b o l:Nat):(f.ext i b o l).dom i:=.inl rfl
@[simp] theorem aO.iC(f:aO)(i b o l:Nat):(f.ext i b o l).blk i=b:=by simp[aO.ext]
@[simp] theorem aO.jB(f:aO)(i b o l:Nat):(f.ext i b o l).off i=o:=by simp[aO.ext]
@[simp] theorem aO.qO(f:aO)(i b o l:Nat):(f.ext i b o l).lim i=l:=by simp[aO.ext]
theorem OR.up{f f':aO}(h:f.le f'){b:Nat}(hb:f.dom b){o:ik}{x:Option Obj}(r:OR f b o x):OR f' b o x:=by
 cases o with
 |dead=>trivial
 |cells c n m=>
  obtain⟨cur,e,lo,hi,h1,h2,h3,h4,h5,h6⟩:=r;refine⟨cur,e,lo,hi,h1,by rw[h.off b hb,h.lim b hb];exact h2,by rw[h.lim b hb];exact h3,?_,?_,h6⟩
  ·rw[h.off b hb];exact λj a hj=>let ⟨x0,v,x2,x3⟩:=h4 j a hj;⟨x0,v,x2,x3.up h⟩
  ·rw[h.off b hb,h.lim b hb];exact h5
 |map es cl=>obtain⟨es',h1,h2⟩:=r;exact⟨es',h1,h2.up h⟩
 |iter n x p=>exact⟨r.1,by rw[h.off b hb];exact r.2.1,r.2.2⟩
theorem gp.fresh{S:SH}(h:gp f S w):¬f.dom S.n:=λhd=>Nat.lt_irrefl _ (h.dom _ hd)
theorem gp.push{S:SH}(h:gp f S w)(S':SH)(i:Nat)(o:ik)(obj:Obj)(off lim:Nat)(hi:¬f.dom i)(hin:i<S'.n)(hn:S.n≤S'.n)(hnew:S'.ob i=o)(hold:∀b,b≠i→S'.ob b=S.ob b)
  (hob:OR (f.ext i w.heap.size off lim) i o (some obj)):gp (f.ext i w.heap.size off lim) S' (w.alloc obj)∧∀k,k<w.heap.size→(w.alloc obj).heap[k]? = w.heap[k]?:=by
 have hle:=f.pZ hi w.heap.size off lim;have hget:∀k,k<w.heap.size→(w.alloc obj).heap[k]? = w.heap[k]?:=λk hk=>by
  simp only[World.alloc,Array.getElem?_push];rw[if_neg (Nat.ne_of_lt hk)]
 have aug:(w.alloc obj).heap[w.heap.size]? = some obj:=by
  simp only[World.alloc,Array.getElem?_push];rw[if_pos trivial]
 refine⟨gp.mk' (λb hb=>?_) (λb hb ha=>?_) (λb c hb hc je hca e=>?_),hget⟩
 ·rcases hb with rfl|hb
  ·exact hin
  ·exact Nat.lt_of_lt_of_le (h.dom b hb) hn
 ·by_cases e:b=i
  ·subst e;rw[hnew,aO.iC,aug];exact hob
  ·have hd:f.dom b:=hb.resolve_left e;rw[hold b e]at ha ⊢;rw[hle.blk b hd,hget _ (h.block_lt hd ha)];exact(h.obj b hd ha).up hle hd
 ·by_cases e1:b=i<;>by_cases e2:c=i
  ·exact e1.trans e2.symm
  ·have hd:=hc.resolve_left e2;rw[hold c e2]at hca;rw[e1,aO.iC,hle.blk c hd]at e;have:=h.block_lt hd hca;omega
  ·have hd:=hb.resolve_left e1;rw[hold b e1]at je;rw[e2,aO.iC,hle.blk b hd]at e;have:=h.block_lt hd (ik.nE je);omega
  ·have hd:=hb.resolve_left e1;have hd':=hc.resolve_left e2;rw[hold b e1]at je;rw[hold c e2]at hca;rw[hle.blk b hd,hle.blk c hd']at e;exact h.inj b c hd hd' je hca e
theorem gp.akf{S:SH}(h:gp f S w)(S':SH)(o:ik)(obj:Obj)(off lim:Nat)(hn:S'.n=S.n+1)(hnew:S'.ob S.n=o)(hold:∀b,b≠S.n→S'.ob b=S.ob b)
  (hob:OR (f.ext S.n w.heap.size off lim) S.n o (some obj)) (hown:o.alive=true→o.own=true):gP f S w (f.ext S.n w.heap.size off lim) S' (w.alloc obj):=by
 obtain⟨hr,hget⟩:=h.push S' S.n o obj off lim h.fresh (by omega) (by omega) hnew hold hob;have hle:=f.pZ h.fresh w.heap.size off lim;refine⟨hr,hle,by omega,by simp,λk hk _=>hget k hk,λb hd ho=>?_,λb ha ho=>?_,λb hb ha=>?_,λb hb hd=>?_,λb hb _=>hold b (by omega),rfl,rfl,rfl⟩
 ·by_cases e:b=S.n
  ·subst e;exact .inr (by rw[aO.iC];exact Nat.le_refl _)
  ·have hd':=hd.resolve_left e;rw[hold b e]at ho;exact .inl ⟨b,hd',ho,hle.blk b hd'⟩
 ·by_cases e:b=S.n
  ·subst e;rw[hnew]at ha ho;rw[hown ha]at ho;cases ho
  ·exact(hold b e).symm
 ·rw[hold b (by omega)];exact ha
 ·rintro(e|hd')
  ·omega
  ·exact hd hd'
theorem HR.push(h:HR f H w)(H':AH)(o:eS)(obj:Obj)(off lim:Nat)(hn:H'.n=H.n+1)(hnew:H'.at H.n=o)(hold:∀b,b≠H.n→H'.at b=H.at b)
  (hob:OR (f.ext H.n w.heap.size off lim) H.n o.sem (some obj)) (hown:o.sem.alive=true→o.sem.own=true):Step f H w (f.ext H.n w.heap.size off lim) H' (w.alloc obj):=
 gp.akf h H'.sem o.sem obj off lim hn (congrArg eS.sem hnew) (λb hb=>congrArg eS.sem (hold b hb)) hob hown
theorem gp.drew{S:SH}(h:gp f S w)(n:Nat):gp f S { w with drawn:=n }:=gp.mk' h.dom h.obj h.inj
theorem HR.drew{S:SH}(h:gp f S w)(n:Nat):gp f S { w with drawn:=n }:=gp.mk' h.dom h.obj h.inj
theorem gP.drew{S:SH}(h:gp f S w)(n:Nat):gP f S w f S { w with drawn:=n }:=
 ⟨h.drew n,.refl f,Nat.le_refl _,Nat.le_refl _,λ_ _ _=>rfl,λb hd ho=>.inl ⟨b,hd,ho,rfl⟩,λb _ _=>rfl,λ_ _ h=>h,λ_ _ h=>h,λ_ _ _=>rfl,rfl,rfl,rfl⟩
theorem Step.drew(h:HR f H w)(n:Nat):Step f H w f H { w with drawn:=n }:=gP.drew h n
theorem gp.update{S:SH}(h:gp f S w){b:Nat}(hbd:f.dom b)(je:(S.ob b).own=true)(S':SH)(o:ik)(obj:Obj)(w':World)(hn:S'.n=S.n)(hnew:S'.ob b=o)
  (hold:∀c,c≠b→S'.ob c=S.ob c) (hoo:o.own=true) (hob:OR f b o (some obj)) (hw:w'.heap[f.blk b]? = some obj) (hws:w'.heap.size=w.heap.size)
  (hwo:∀k,k≠f.blk b→w'.heap[k]? = w.heap[k]?) (h1:w'.os=w.os) (h2:w'.tape=w.tape) (h3:w'.output=w.output):gP f S w f S' w':=by
 have hba:=ik.nE je;refine⟨gp.mk' (λc hc=>by rw[hn];exact h.dom c hc) (λc hcd hc=>?_) (λc d hcd hdd hco hda e=>?_),.refl f,by omega,by omega,λk hk hk'=>hwo k (λe=>hk' b hbd je e.symm),λc hcd ho=>?_,λc ha ho=>?_,λc hc ha=>?_,λ_ _ h=>h,λc _ hcd=>hold c (λe=>hcd (e ▸ hbd)),h1,h2,h3⟩
 ·by_cases e:c=b
  ·subst e;rw[hnew,hw];exact hob
  ·rw[hold c e]at hc ⊢;rw[hwo _ (λe'=>e (h.inj b c hbd hcd je hc e'.symm).symm)];exact h.obj c hcd hc
 ·have On:(S.ob d).alive=true:=by
   by_cases e:d=b
   ·subst e;exact hba
   ·rw[←hold d e];exact hda
  have Oo:(S.ob c).own=true:=by
   by_cases e:c=b
   ·subst e;exact je
   ·rw[←hold c e];exact hco
  exact h.inj c d hcd hdd Oo On e
 ·refine .inl ⟨c,hcd,?_,rfl⟩;by_cases e:c=b
  ·subst e;exact je
  ·rw[←hold c e];exact ho
 ·by_cases e:c=b
  ·subst e;rw[hnew,hoo]at ho;cases ho
  ·exact(hold c e).symm
 ·by_cases e:c=b
  ·subst e;rw[hba]at ha;cases ha
  ·rw[hold c e];exact ha
theorem HR.update(h:HR f H w){b:Nat}(hbd:f.dom b)(je:(H.at b).sem.own=true)(H':AH)(o:eS)(obj:Obj)(w':World)(hn:H'.n=H.n)(hnew:H'.at b=o)
  (hold:∀c,c≠b→H'.at c=H.at c) (hoo:o.sem.own=true) (hob:OR f b o.sem (some obj)) (hw:w'.heap[f.blk b]? = some obj) (hws:w'.heap.size=w.heap.size)
  (hwo:∀k,k≠f.blk b→w'.heap[k]? = w.heap[k]?) (h1:w'.os=w.os) (h2:w'.tape=w.tape) (h3:w'.output=w.output):Step f H w f H' w':=
 gp.update h hbd je H'.sem o.sem obj w' hn (congrArg eS.sem hnew) (λc hc=>congrArg eS.sem (hold c hc)) hoo hob hw hws hwo h1 h2 h3
theorem HR.move(h:HR f H w){b:Nat}(hbd:f.dom b)(je:(H.at b).sem.own=true)(H':AH)(o:eS)(obj:Obj)(w':World)(off lim:Nat)(hn:H'.n=H.n+1)(hnew:H'.at H.n=o)(BJ:H'.at b=.dead)
  (hold:∀c,c≠b→c≠H.n→H'.at c=H.at c) (hoo:o.sem.own=true) (hob:OR (f.ext H.n (f.blk b) off lim) H.n o.sem (some obj)) (hw:w'.heap[f.blk b]? = some obj) (hws:w'.heap.size=w.heap.size)
  (hwo:∀k,k≠f.blk b→w'.heap[k]? = w.heap[k]?) (h1:w'.os=w.os) (h2:w'.tape=w.tape) (h3:w'.output=w.output):Step f H w (f.ext H.n (f.blk b) off lim) H' w':=by
 have hfr:¬f.dom H.n:=gp.fresh h;have hle:=f.pZ hfr (f.blk b) off lim;have hba:=ik.nE je;have hbn:b<H.n:=h.dom b hbd;have key:∀c,(f.ext H.n (f.blk b) off lim).dom c→(H'.at c).sem.alive=true→c=H.n∨(c≠b∧H.at c=H'.at c∧c≠H.n∧f.dom c):=λc hcd ha=>by
  by_cases e:c=b
  ·subst e;rw[BJ]at ha;cases ha
  ·by_cases e2:c=H.n
   ·exact .inl e2
   ·exact .inr ⟨e,(hold c e e2).symm,e2,hcd.resolve_left e2⟩
 refine⟨gp.mk' (λc hc=>?_) (λc hcd hc=>?_) (λc d hcd hdd hco hda e=>?_),hle,by simp[hn],by omega,λk hk hk'=>hwo k (λe=>hk' b hbd je e.symm),λc hcd ho=>?_,λc ha ho=>?_,λc hc ha=>?_,λc hc hd=>?_,λc hc hcd=>?_,h1,h2,h3⟩
 ·rw[AH.nY,hn];rcases hc with rfl|hc
  ·omega
  ·have:=h.dom c hc;simp at this;omega
 ·rcases key c hcd hc with e|⟨e1,e2,e3,hd⟩
  ·subst e;rw[AH.bX,hnew,aO.iC,hw];exact hob
  ·have hca:(H.at c).sem.alive=true:=by rw[e2];exact hc
   rw[AH.bX,←e2,hle.blk c hd,hwo _ (λe'=>e1 (h.inj b c hbd hd je hca e'.symm).symm)];exact(h.obj c hd hca).up hle hd
 ·rcases key c hcd (ik.nE hco)with e1|⟨c1,c2,c3,c4⟩<;>rcases key d hdd hda with e2|⟨d1,d2,d3,d4⟩
  ·omega
  ·have On:(H.at d).sem.alive=true:=by rw[d2];exact hda
   rw[e1,aO.iC,hle.blk d d4]at e;exact absurd (h.inj b d hbd d4 je On e).symm d1
  ·have Oo:(H.at c).sem.own=true:=by rw[c2];exact hco
   rw[e2,aO.iC,hle.blk c c4]at e;exact absurd (h.inj c b c4 hbd Oo hba e) c1
  ·have On:(H.at d).sem.alive=true:=by rw[d2];exact hda
   have Oo:(H.at c).sem.own=true:=by rw[c2];exact hco
   rw[hle.blk d d4,hle.blk c c4]at e;exact h.inj c d c4 d4 Oo On e
 ·rcases key c hcd (ik.nE ho)with e|⟨e1,e2,e3,e4⟩
  ·subst e;exact .inl ⟨b,hbd,je,by rw[aO.iC]⟩
  ·have ho':(H.at c).sem.own=true:=by rw[e2];exact ho
   exact .inl ⟨c,e4,ho',hle.blk c e4⟩
 ·by_cases e:c=b
  ·subst e;rw[AH.bX,BJ]at ha;cases ha
  ·by_cases e2:c=H.n
   ·subst e2;rw[AH.bX,hnew,hoo]at ho;cases ho
   ·exact congrArg eS.sem (hold c e e2).symm
 ·simp only[AH.nY]at hc;by_cases e:c=b
  ·subst e;rw[AH.bX,BJ];rfl
  ·rw[AH.bX,hold c e (by omega)];exact ha
 ·simp only[AH.nY]at hc;rintro(e|hd')
  ·omega
  ·exact hd hd'
 ·simp only[AH.nY]at hc;exact congrArg eS.sem (hold c (λe=>hcd (e ▸ hbd)) (by omega))
theorem HRQ.forget{S:SH}(h:HRQ f S w)(S':SH)(ho:∀b,S'.ob b=.dead∨S'.ob b=S.ob b):HRQ f S' w where
 obj:=λb hd hb=>by rcases ho b with e|e<;>rw[e]at hb ⊢;cases hb;exact h.obj b hd hb
 inj:=λb c hbd hcd je hca e=>by
  have h1:S'.ob b=S.ob b:=by rcases ho b with e|e;rw[e]at je;cases je;exact e
  have h2:S'.ob c=S.ob c:=by rcases ho c with e|e;rw[e]at hca;cases hca;exact e
  rw[h1]at je;rw[h2]at hca;exact h.inj b c hbd hcd je hca e
theorem gp.forget{S:SH}(h:gp f S w)(S':SH)(hn:S.n≤S'.n)(ho:∀b,S'.ob b=.dead∨S'.ob b=S.ob b):gp f S' w:=
 { h.toHRQ.forget S' ho with dom:=λb hb=>Nat.lt_of_lt_of_le (h.dom b hb) hn }
theorem HR.forget(h:HR f H w)(H':AH)(hn:H'.n=H.n)(ho:∀b,H'.at b=.dead∨H'.at b=H.at b):HR f H' w:=
 gp.forget h H'.sem (by simp[hn]) (λb=>(ho b).imp (λe=>by rw[AH.bX,e];rfl) (λe=>by rw[AH.bX,e,AH.bX]))
theorem AH.rT{H:AH}{b:Nat}{o:eS}(h:H.t.get? b=some o):H.at b=o:=by simp[AH.at,h]
theorem HRQ.cellsS{S:SH}(h:HRQ f S w){b:Nat}(hd:f.dom b){c:Nat→Option AV}{n m:Nat}(hb:S.ob b=.cells c n m):OR f b (.cells c n m) w.heap[f.blk b]?:=by
 have:=h.obj b hd (by rw[hb];rfl);rw[hb]at this;exact this
theorem HRQ.cellS{S:SH}(h:HRQ f S w){b:Nat}(hd:f.dom b){c:Nat→Option AV}{n m:Nat}(hb:S.ob b=.cells c n m){o:Nat}{a:AV}(ho:c o=some a) :
  ∃v,w.cell? ⟨f.blk b,f.off b+o,none⟩=some v∧VR f a v:=by
 have:=h.cellsS hd hb;obtain⟨cur,e,lo,hi,h1,_,_,h4,_⟩:=this;obtain⟨_,v,x2,x3⟩:=h4 o a ho;exact⟨v,by simp[World.cell?,h1,x2],x3⟩
theorem HRQ.WO{S:SH}(h:HRQ f S w){b:Nat}(hd:f.dom b){c:Nat→Option AV}{n m:Nat}(hb:S.ob b=.cells c n m)(hm:m<2){o:Nat}(ho:o<n) :
  w.frozen? ⟨f.blk b,f.off b+o,none⟩=false:=by
 have:=h.cellsS hd hb;obtain⟨cur,e,lo,hi,h1,_,h3,_,h5,_⟩:=this;have:=h5 hm o (by omega);simp only[World.frozen?,h1];simpa using this
theorem HRQ.cells(h:HRQ f H.sem w){b:Nat}(hd:f.dom b){c:Bt AV}{n m:Nat}(hb:H.at b=.cells c n m):OR f b (.cells c.get? n m) w.heap[f.blk b]?:=
 h.cellsS hd (by rw[AH.bX,hb];rfl)
theorem HRQ.cell(h:HRQ f H.sem w){b:Nat}(hd:f.dom b){c:Bt AV}{n m:Nat}(hb:H.at b=.cells c n m){o:Nat}{a:AV}(ho:c.get? o=some a) :
  ∃v,w.cell? ⟨f.blk b,f.off b+o,none⟩=some v∧VR f a v:=h.cellS hd (c:=c.get?) (n:=n) (m:=m) (by rw[AH.bX,hb];rfl) ho
theorem HRQ.notFrozen(h:HRQ f H.sem w){b:Nat}(hd:f.dom b){c:Bt AV}{n m:Nat}(hb:H.at b=.cells c n m)(hm:m<2){o:Nat}(ho:o<n) :
  w.frozen? ⟨f.blk b,f.off b+o,none⟩=false:=h.WO hd (c:=c.get?) (n:=n) (m:=m) (by rw[AH.bX,hb];rfl) hm ho
theorem Fq(w:World)(a:Addr)(v:Value)(k:Nat)(h:k≠a.block):(w.setCell a v).heap[k]? = w.heap[k]?:=by
 simp only[World.setCell,Array.getElem?_modify];rw[if_neg (λx=>h x.symm)]
theorem Fs(w:World)(b o:Nat)(v:Value){c:Array Value}{e:TypeId}{fr:Nat×Nat}(h:w.heap[b]? = some (.cells c e fr)) :
  (w.setCell ⟨b,o,none⟩ v).heap[b]? = some (.cells (c.setIfInBounds o v) e fr):=by
 simp[World.setCell,Array.getElem?_modify,h]
def setCells(w:World)(b o:Nat):List Value→World
 |[]=>w
 |v::vs=>setCells (w.setCell ⟨b,o,none⟩ v) b (o+1) vs
def pt(c:Array Value)(o:Nat):List Value→Array Value
 |[]=>c
 |v::vs=>pt (c.setIfInBounds o v) (o+1) vs
theorem At:∀(vs:List Value) (c:Array Value) (o:Nat),(pt c o vs).size=c.size
 |[],_,_=>rfl
 |v::vs,c,o=>by rw[pt,At vs];simp
theorem qa:∀(vs:List Value) (c:Array Value) (o j:Nat),(j<o∨o+vs.length≤j)→(pt c o vs)[j]? = c[j]?
 |[],_,_,_,_=>rfl
 |v::vs,c,o,j,h=>by
  rw[pt,qa vs _ _ _ (by simp at h;omega),Array.getElem?_setIfInBounds_ne (by simp at h;omega)]
theorem wW:∀(vs:List Value) (c:Array Value) (o i:Nat),i<vs.length→o+vs.length≤c.size→(pt c o vs)[o+i]? = vs[i]?
 |[],_,_,_,h,_=>absurd h (Nat.not_lt_zero _)
 |v::vs,c,o,0,_,hs=>by
  rw[pt,qa vs _ _ _ (by omega),Nat.add_zero,List.getElem?_cons_zero];simp only[List.length_cons]at hs;exact Array.getElem?_setIfInBounds_self_of_lt (by omega)
 |v::vs,c,o,i+1,h,hs=>by
  rw[pt,show o+(i+1)=o+1+i by omega,wW vs _ _ i (by simpa using h) (by simp at hs ⊢;omega)];simp
theorem qP:∀(vs:List Value) (w:World) (b o:Nat){c:Array Value}{e:TypeId}{fr:Nat×Nat},w.heap[b]? = some (.cells c e fr)→
  (setCells w b o vs).heap[b]? = some (.cells (pt c o vs) e fr)∧(setCells w b o vs).heap.size=w.heap.size∧(∀k,k≠b→(setCells w b o vs).heap[k]? = w.heap[k]?)∧
  (setCells w b o vs).os=w.os∧(setCells w b o vs).tape=w.tape∧(setCells w b o vs).output=w.output
 |[],w,b,o,c,e,fr,h=>⟨h,rfl,λ_ _=>rfl,rfl,rfl,rfl⟩
 |v::vs,w,b,o,c,e,fr,h=>by
  obtain⟨h1,h2,h3,h4,h5,h6⟩:=qP vs (w.setCell ⟨b,o,none⟩ v) b (o+1) (Fs w b o v h);exact⟨h1,by rw[setCells,h2];simp,λk hk=>by rw[setCells,h3 k hk,Fq w _ v k hk],h4,h5,h6⟩
theorem uC(P:Program):∀(vs:List Value) (w:World) (b o i:Nat),(∀v∈vs,v.oneCell'=true)→
  (∀j,j<vs.length→(w.cell? ⟨b,o+i+j,none⟩).isSome=true∧w.frozen? ⟨b,o+i+j,none⟩=false)→
  (storeCells ⟨b,o,none⟩ vs i).run P w=.ok () (setCells w b (o+i) vs)
 |[],w,b,o,i,_,_=>rfl
 |v::vs,w,b,o,i,h1,h2=>by
  obtain⟨h3,h4⟩:=h2 0 (by simp);obtain⟨u,hu⟩:=Option.isSome_iff_exists.1 h3;have e:(⟨b,o,none⟩:Addr).add i=⟨b,o+i,none⟩:=by unfold Addr.add;split<;>simp_all
  rw[Nat.add_zero]at hu h4;simp only[storeCells,Sem.run_bind,e,run_store P w _ v _ (h1 v (by simp)),hu,h4,Bool.false_eq_true,if_false,Result.andThen_ok];rw[uC P vs _ b o (i+1) (λx hx=>h1 x (by simp[hx])) (λj hj=>?_)]
  ·rfl
  ·obtain⟨h5,h6⟩:=h2 (j+1) (by simp;omega);rw[World.cell?_setCell_other _ _ _ _ (λe=>by simp at e;omega),World.frozen?_setCell,show o+(i+1)+j=o+i+(j+1) by omega];exact⟨h5,h6⟩
theorem gp.setCells{S:SH}(h:gp f S w){b:Nat}(hd:f.dom b){c c':Nat→Option AV}{n m:Nat}(hb:S.ob b=.cells c n m)(hm:m<2){o:Nat}{l:List AV}{vs:List Value}(ho:o+l.length≤n)(hv:VL f l vs)
  (S':SH) (hn:S'.n=S.n) (hnew:S'.ob b=.cells c' n m) (hold:∀x,x≠b→S'.ob x=S.ob x) (hc1:∀i,i<l.length→c' (o+i)=l[i]?)
  (hc2:∀j,(j<o∨o+l.length≤j)→c' j=c j) :
  gP f S w f S' (Go.X.setCells w (f.blk b) (f.off b+o) vs):=by
 have hob:=h.cellsS hd hb;obtain⟨cur,e,lo,hi,h1,h2,h3,h4,h5,h6⟩:=hob;have hlen:=hv.length;obtain⟨g1,g2,g3,g4,g5,g6⟩:=qP vs w (f.blk b) (f.off b+o) h1;refine gp.update h (b:=b) hd (by rw[hb];simpa[ik.own]using hm) S' (.cells c' n m) _ _ hn hnew hold (by simpa[ik.own]using hm) ?_ g1 g2 g3 g4 g5 g6;refine⟨_,e,lo,hi,rfl,by rw[At];exact h2,h3,λj a hj=>?_,h5,h6⟩;by_cases hin:o≤j∧j<o+l.length
 ·obtain⟨i,rfl⟩:∃i,j=o+i:=⟨j-o,by omega⟩
  rw[hc1 i (by omega)]at hj;obtain⟨v,hv1,hv2⟩:=hv.get i a hj;refine⟨by omega,v,?_,hv2⟩;rw[←Nat.add_assoc,wW vs cur _ i (by omega) (by omega),hv1]
 ·rw[hc2 j (by omega)]at hj;obtain⟨x0,v,x1,x2⟩:=h4 j a hj;exact⟨x0,v,by rw[qa _ _ _ _ (by omega)];exact x1,x2⟩
theorem HR.setCells(h:HR f H w){b:Nat}(hd:f.dom b){c c':Bt AV}{n m:Nat}(hb:H.at b=.cells c n m)(hm:m<2){o:Nat}{l:List AV}{vs:List Value}(ho:o+l.length≤n)(hv:VL f l vs)
  (H':AH) (hn:H'.n=H.n) (hnew:H'.at b=.cells c' n m) (hold:∀x,x≠b→H'.at x=H.at x) (hc1:∀i,i<l.length→c'.get? (o+i)=l[i]?)
  (hc2:∀j,(j<o∨o+l.length≤j)→c'.get? j=c.get? j) :
  Step f H w f H' (Go.X.setCells w (f.blk b) (f.off b+o) vs):=
 gp.setCells h hd (c:=c.get?) (c':=c'.get?) (by rw[AH.bX,hb];rfl) hm ho hv H'.sem hn (by rw[AH.bX,hnew];rfl) (λx hx=>congrArg eS.sem (hold x hx)) hc1 hc2
theorem HRQ.aqB{S:SH}(h:HRQ f S w){b:Nat}(hd:f.dom b){c:Nat→Option AV}{n m:Nat}(hb:S.ob b=.cells c n m){o:Nat}(ho:o<n):(w.cell? ⟨f.blk b,f.off b+o,none⟩).isSome=true:=by
 have:=h.cellsS hd hb;obtain⟨cur,e,lo,hi,h1,h2,h3,_⟩:=this;simp[World.cell?,h1];omega
theorem HRQ.there(h:HRQ f H.sem w){b:Nat}(hd:f.dom b){c:Bt AV}{n m:Nat}(hb:H.at b=.cells c n m){o:Nat}(ho:o<n):(w.cell? ⟨f.blk b,f.off b+o,none⟩).isSome=true:=
 h.aqB hd (c:=c.get?) (n:=n) (m:=m) (by rw[AH.bX,hb];rfl) ho
end
noncomputable section
def bT(b:Bool)(x:Prop):Prop:=match b with|true=>x|false=>False
theorem aI{b:Bool}{x:Prop}(h:bT b x):b=true∧x:=by cases b;exact h.elim;exact⟨rfl,h⟩
def bI(b:Bool)(x y:Prop):Prop:=match b with|true=>x|false=>y
theorem dW{b:Bool}{x y:Prop}(h:bI b x y):(b=true∧x)∨(b=false∧y):=by cases b;exact .inr ⟨rfl,h⟩;exact .inl ⟨rfl,h⟩
def lp(a:AV)(x y:Prop):Prop:=match a with|.bool b=>(match b with|true=>x|false=>y)|_=>False
theorem qc{a:AV}{x y:Prop}(h:lp a x y):(a=.bool true∧x)∨(a=.bool false∧y):=by
 cases a with
 |bool b=>cases b;exact .inr ⟨rfl,h⟩;exact .inl ⟨rfl,h⟩
 |_=>exact h.elim
def ky(a:AV)(k:Nat→Int→Prop):Prop:=match a with|.int c n=>k c n|_=>False
theorem fC{a:AV}{k:Nat→Int→Prop}(h:ky a k):∃c n,a=.int c n∧k c n:=by
 cases a with
 |int c n=>exact⟨c,n,rfl,h⟩
 |_=>exact h.elim
def nZ(a:AV)(k:Nat→Nat→Prop):Prop:=match a with|.int c n=>(match n with|.ofNat m=>k c m|.negSucc _=>False)|_=>False
theorem jL{a:AV}{k:Nat→Nat→Prop}(h:nZ a k):∃c n,a=.int c (.ofNat n)∧k c n:=by
 cases a with
 |int c n=>cases n with
  |ofNat m=>exact⟨c,m,rfl,h⟩
  |negSucc m=>exact h.elim
 |_=>exact h.elim
def gy(a:AV)(k:Nat→Nat→Prop):Prop:=match a with|.str n x=>k n x|_=>False
theorem hV{a:AV}{k:Nat→Nat→Prop}(h:gy a k):∃n x,a=.str n x∧k n x:=by
 cases a with
 |str n x=>exact⟨n,x,rfl,h⟩
 |_=>exact h.elim
def oc(a:AV)(k:Nat→Nat→Prop):Prop:=match a with|.ptr b o=>k b o|_=>False
theorem nF{a:AV}{k:Nat→Nat→Prop}(h:oc a k):∃b o,a=.ptr b o∧k b o:=by
 cases a with
 |ptr b o=>exact⟨b,o,rfl,h⟩
 |_=>exact h.elim
def od(a:AV)(z:Prop)(k:Nat→Nat→Nat→Nat→Nat→Bool→Prop):Prop:=match a with|.slice b o l c s x=>k b o l c s x|.ab=>z|_=>False
theorem im{a:AV}{z:Prop}{k:Nat→Nat→Nat→Nat→Nat→Bool→Prop}(h:od a z k):(a=.ab∧z)∨∃b o l c s x,a=.slice b o l c s x∧k b o l c s x:=by
 cases a with
 |slice b o l c s x=>exact .inr ⟨b,o,l,c,s,x,rfl,h⟩
 |ab=>exact .inl ⟨rfl,h⟩
 |_=>exact h.elim
def qQ{κ:Type}(a:AV)(z:κ→Prop)(f:Nat→Nat→Nat→Nat→Nat→Bool→κ→Prop)(k:κ):Prop:=(match a with|.slice b o l c s x=>f b o l c s x|.ab=>z|_=>λ_=>False:κ→Prop) k
theorem lY{κ:Type}{a:AV}{z:κ→Prop}{f:Nat→Nat→Nat→Nat→Nat→Bool→κ→Prop}{k:κ}(h:qQ a z f k):(a=.ab∧z k)∨∃b o l c s x,a=.slice b o l c s x∧f b o l c s x k:=by
 cases a<;>first|exact h.elim|exact .inl ⟨rfl,h⟩|exact .inr ⟨_,_,_,_,_,_,rfl,h⟩
def gz(a:AV)(k:List AV→Prop):Prop:=match a with|.agg cs=>k cs|_=>False
theorem ML{a:AV}{k:List AV→Prop}(h:gz a k):∃cs,a=.agg cs∧k cs:=by
 cases a with
 |agg cs=>exact⟨cs,rfl,h⟩
 |_=>exact h.elim
def AV.one:AV→Bool
 |.agg _|.aY _|.df=>false
 |_=>true
def one(a:AV)(x:Prop):Prop:=bT a.one x
theorem Ul{a:AV}{x:Prop}(h:one a x):a.one=true∧x:=aI h
def full:Nat→Nat
 |0=>18446744073709551616
 |1=>256
 |2=>4294967296
 |3=>18446744073709551616
 |4=>4294967296
 |5=>256
 |_=>65536
def half:Nat→Nat
 |0=>9223372036854775808
 |1=>128
 |2=>2147483648
 |3=>9223372036854775808
 |4=>2147483648
 |5=>128
 |_=>32768
def qI:Nat→Bool
 |0=>true
 |1=>false
 |2=>true
 |3=>false
 |4=>false
 |5=>true
 |6=>true
 |_=>false
def lq(z:Int)(k:Int→Prop):Prop:=(match z with|.ofNat n=>λk=>bM n λm=>k (.ofNat m)|.negSucc n=>λk=>bM n λm=>k (.negSucc m):(Int→Prop)→Prop) k
theorem mC(z:Int)(k:Int→Prop):lq z k=k z:=by cases z<;>simp[lq,bw]
def qd(c:Nat)(z:Int):Int:=
 let m:=Int.emod z (.ofNat (full c))
 if qI c&&Nat.ble (half c) m.toNat then Int.sub m (.ofNat (full c)) else m
theorem uD(c:Nat)(z:Int):qd c z=(kd c).wrap z:=by
 have hm:∀F:Nat,0<F→0≤Int.emod z (.ofNat F):=λF hF=>Int.emod_nonneg z (by simp;omega);unfold qd IntKind.wrap
 match c with
 |0=>
  have:=hm 18446744073709551616 (by decide);simp only[full,half,qI,kd,IntKind.bits,IntKind.signed]
  change (if (true&&Nat.ble 9223372036854775808 (z%18446744073709551616).toNat)=true then (z%18446744073709551616)-18446744073709551616 else z%18446744073709551616)=_
  simp;split<;>split<;>omega
 |1=>
  simp only[full,half,qI,kd,IntKind.bits,IntKind.signed];rfl
 |2=>
  have:=hm 4294967296 (by decide);simp only[full,half,qI,kd,IntKind.bits,IntKind.signed]
  change (if (true&&Nat.ble 2147483648 (z%4294967296).toNat)=true then (z%4294967296)-4294967296 else z%4294967296)=_
  simp;split<;>split<;>omega
 |3=>simp only[full,half,qI,kd,IntKind.bits,IntKind.signed];rfl
 |4=>simp only[full,half,qI,kd,IntKind.bits,IntKind.signed];rfl
 |5=>
  have:=hm 256 (by decide);simp only[full,half,qI,kd,IntKind.bits,IntKind.signed]
  change (if (true&&Nat.ble 128 (z%256).toNat)=true then (z%256)-256 else z%256)=_
  simp;split<;>split<;>omega
 |6=>
  have:=hm 65536 (by decide);simp only[full,half,qI,kd,IntKind.bits,IntKind.signed]
  change (if (true&&Nat.ble 32768 (z%65536).toNat)=true then (z%65536)-65536 else z%65536)=_
  simp;split<;>split<;>omega
 |n+7=>simp only[full,half,qI,kd,IntKind.bits,IntKind.signed];rfl
def acX(c:Nat)(z:Int)(k:Int→Prop):Prop:=
 bI (qI c)
  (match z with
   |.ofNat n=>bI (Nat.ble (half c) n) (lq (qd c z) k) (bM n λm=>k (.ofNat m))
   |.negSucc n=>bI (Nat.ble (half c) n) (lq (qd c z) k) (bM n λm=>k (.negSucc m)))
  (match z with
   |.ofNat n=>bM (n%full c) λm=>k (.ofNat m)
   |.negSucc _=>lq (qd c z) k)
theorem wrap_small{c:Nat}{z:Int}(hs:qI c=true)(h1:-(half c:Int)≤z)(h2:z<half c):(kd c).wrap z=z:=by
 unfold IntKind.wrap
 match c,hs with
 |0,_=>simp[half]at h1 h2;simp[kd,IntKind.bits,IntKind.signed];split<;>omega
 |2,_=>simp[half]at h1 h2;simp[kd,IntKind.bits,IntKind.signed];split<;>omega
 |5,_=>simp[half]at h1 h2;simp[kd,IntKind.bits,IntKind.signed];split<;>omega
 |6,_=>simp[half]at h1 h2;simp[kd,IntKind.bits,IntKind.signed];split<;>omega
theorem Ah{c:Nat}{n:Nat}(hs:qI c=false):(kd c).wrap (.ofNat n)=.ofNat (n%full c):=by
 unfold IntKind.wrap
 match c,hs with
 |1,_=>simp[kd,IntKind.bits,IntKind.signed,full]
 |3,_=>simp[kd,IntKind.bits,IntKind.signed,full]
 |4,_=>simp[kd,IntKind.bits,IntKind.signed,full]
 |n+7,_=>simp[kd,IntKind.bits,IntKind.signed,full]
theorem WQ{c:Nat}{z:Int}{k:Int→Prop}(h:acX c z k):k ((kd c).wrap z):=by
 unfold acX at h;rcases dW h with⟨hs,h⟩|⟨hs,h⟩
 ·cases z with
  |ofNat n=>
   rcases dW h with⟨_,h⟩|⟨hb,h⟩
   ·rw[mC,uD]at h;exact h
   ·rw[bw]at h;have hb':¬half c≤n:=λhle=>by rw[Nat.ble_eq_true_of_le hle]at hb;cases hb
    have e:(Int.ofNat n:Int)=(n:Int):=rfl;rw[wrap_small hs (by omega) (by omega)];exact h
  |negSucc n=>
   rcases dW h with⟨_,h⟩|⟨hb,h⟩
   ·rw[mC,uD]at h;exact h
   ·rw[bw]at h;have hb':¬half c≤n:=λhle=>by rw[Nat.ble_eq_true_of_le hle]at hb;cases hb
    rw[wrap_small hs (by omega) (by omega)];exact h
 ·cases z with
  |ofNat n=>simp only[bw]at h;rw[Ah hs];exact h
  |negSucc n=>simp only[mC,uD]at h;exact h
def aJ(c:Nat)(z:Int)(k:Int→Prop):Prop:=
 (match z with
  |.ofNat n=>λk=>bI (qI c) (bI (Nat.ble (half c) n) (lq (qd c (.ofNat n)) k) (bM n λm=>k (.ofNat m))) (bM (Nat.mod n (full c)) λm=>k (.ofNat m))
  |.negSucc n=>λk=>bI (qI c) (bI (Nat.ble (half c) n) (lq (qd c (.negSucc n)) k) (bM n λm=>k (.negSucc m))) (lq (qd c (.negSucc n)) k):(Int→Prop)→Prop) k
theorem jM{c:Nat}{z:Int}{k:Int→Prop}(h:aJ c z k):k ((kd c).wrap z):=WQ (by cases z<;>exact h)
def two(c:Nat)(a b:AV)(k:Int→Int→Prop):Prop:=ky a λc1 x=>ky b λc2 y=>bT (Nat.beq c1 c) (bT (Nat.beq c2 c) (k x y))
theorem gj{c:Nat}{a b:AV}{k:Int→Int→Prop}(h:two c a b k):∃x y,a=.int c x∧b=.int c y∧k x y:=by
 unfold two at h;obtain⟨c1,x,ea,h⟩:=fC h;obtain⟨c2,y,eb,h⟩:=fC h;obtain⟨h1,h⟩:=aI h;obtain⟨h2,h⟩:=aI h;have e1:=Nat.eq_of_beq_eq_true h1;have e2:=Nat.eq_of_beq_eq_true h2;exact⟨x,y,by rw[ea,e1],by rw[eb,e2],h⟩
def cg(x y:Int):Bool:=match x,y with
 |.ofNat a,.ofNat b=>Nat.ble (Nat.succ a) b
 |.ofNat _,.negSucc _=>false
 |.negSucc _,.ofNat _=>true
 |.negSucc a,.negSucc b=>Nat.ble (Nat.succ b) a
def bj(x y:Int):Bool:=match x,y with
 |.ofNat a,.ofNat b=>Nat.beq a b
 |.negSucc a,.negSucc b=>Nat.beq a b
 |_,_=>false
theorem xn(x y:Int):cg x y=decide (x<y):=by
 cases x<;>cases y<;>simp only[cg]<;>rw[Bool.eq_iff_iff]<;>simp<;>omega
theorem oL(x y:Int):bj x y=(x == y):=by
 cases x<;>cases y<;>simp only[bj]<;>rw[Bool.eq_iff_iff]<;>simp<;>omega
def aqC(c:Nat)(a b:AV)(k:AV→Prop):Prop:=two c a b λx y=>aJ c (Int.add x y) λz=>k (.int c z)
def aqD(c:Nat)(a b:AV)(k:AV→Prop):Prop:=two c a b λx y=>aJ c (Int.sub x y) λz=>k (.int c z)
def aqE(c:Nat)(a b:AV)(k:AV→Prop):Prop:=two c a b λx y=>aJ c (Int.mul x y) λz=>k (.int c z)
def aqF(c:Nat)(a b:AV)(k:AV→Prop):Prop:=two c a b λx y=>bI (bj y 0) False (aJ c (Int.tdiv x y) λz=>k (.int c z))
def amt(c:Nat)(a b:AV)(k:AV→Prop):Prop:=two c a b λx y=>bI (bj y 0) False (lq (Int.tmod x y) λz=>k (.int c z))
def WR(c:Nat)(a b:AV)(k:AV→Prop):Prop:=(match a with
 |.Eu m r=>λk=>bT (Nat.beq c 0) (ky b λc2 y=>bT (Nat.beq c2 0) (bT (bj y (.ofNat m)) (bT (Nat.ble 1 m) (k (.int 0 r)))))
 |.wV m r=>λk=>bT (Nat.beq c 3) (ky b λc2 y=>bT (Nat.beq c2 3) (bT (bj y (.ofNat m)) (bT (Nat.ble 1 m) (k (.int 3 (.ofNat r))))))
 |a=>λk=>amt c a b k:(AV→Prop)→Prop) k
theorem Oq{c:Nat}{a b:AV}{k:AV→Prop}(h:WR c a b k):amt c a b k∨(∃m r,a = .Eu m r∧c=0∧b=.int 0 (.ofNat m)∧1≤m∧k (.int 0 r))∨∃m r,a=.wV m r∧c=3∧b=.int 3 (.ofNat m)∧1≤m∧k (.int 3 (.ofNat r)):=by
 unfold WR at h;split at h
 ·rename_i m r;obtain⟨h1,h⟩:=aI h;obtain⟨c2,y,rfl,h⟩:=fC h;obtain⟨h2,h⟩:=aI h;obtain⟨h3,h⟩:=aI h;obtain⟨h4,h⟩:=aI h;rw[oL]at h3;exact .inr (.inl ⟨m,r,rfl,Nat.eq_of_beq_eq_true h1,by rw[Nat.eq_of_beq_eq_true h2,eq_of_beq h3],Nat.le_of_ble_eq_true h4,h⟩)
 ·rename_i m r;obtain⟨h1,h⟩:=aI h;obtain⟨c2,y,rfl,h⟩:=fC h;obtain⟨h2,h⟩:=aI h;obtain⟨h3,h⟩:=aI h;obtain⟨h4,h⟩:=aI h;rw[oL]at h3;exact .inr (.inr ⟨m,r,rfl,Nat.eq_of_beq_eq_true h1,by rw[Nat.eq_of_beq_eq_true h2,eq_of_beq h3],Nat.le_of_ble_eq_true h4,h⟩)
 ·exact .inl h
def pLt(c:Nat)(a b:AV)(k:AV→Prop):Prop:=two c a b λx y=>k (.bool (cg x y))
def pLe(c:Nat)(a b:AV)(k:AV→Prop):Prop:=two c a b λx y=>k (.bool (!(cg y x)))
def pEq(c:Nat)(a b:AV)(k:AV→Prop):Prop:=two c a b λx y=>k (.bool (bj x y))
def pNe(c:Nat)(a b:AV)(k:AV→Prop):Prop:=two c a b λx y=>k (.bool (!(bj x y)))
def jT(c:Nat)(x:Int):Nat:=match x with|.ofNat n=>n|.negSucc n=>full c-1-n%full c
def aqG(c:Nat)(a b:AV)(k:AV→Prop):Prop:=two c a b λx y=>bM (jT c x) λu=>bM (jT c y) λv=>aJ c (.ofNat (Nat.land u v)) λz=>k (.int c z)
def pOr(c:Nat)(a b:AV)(k:AV→Prop):Prop:=two c a b λx y=>bM (jT c x) λu=>bM (jT c y) λv=>aJ c (.ofNat (Nat.lor u v)) λz=>k (.int c z)
def WS(c:Nat)(a b:AV)(k:AV→Prop):Prop:=two c a b λx y=>bM (jT c x) λu=>bM (jT c y) λv=>aJ c (.ofNat (Nat.xor u v)) λz=>k (.int c z)
def Um(c:Nat)(a b:AV)(k:AV→Prop):Prop:=two c a b λx y=>bM (jT c x) λu=>bM (jT c y) λv=>aJ c (.ofNat (Nat.land u (full c-1-v%full c))) λz=>k (.int c z)
def bits:Nat→Nat
 |0=>64
 |1=>8
 |2=>32
 |3=>64
 |4=>32
 |5=>8
 |_=>16
def Ot(c:Nat)(a b:AV)(k:AV→Prop):Prop:=ky a λc1 x=>nZ b λ_ y=>bT (Nat.beq c1 c) (aJ c (Int.mul x (.ofNat (Nat.pow 2 (Nat.min y (bits c))))) λz=>k (.int c z))
def aqH(x:Int)(n:Nat):Int:=match x with|.ofNat m=>.ofNat (Nat.shiftRight m n)|.negSucc m=>.negSucc (Nat.shiftRight m n)
def aqI(c:Nat)(a b:AV)(k:AV→Prop):Prop:=ky a λc1 x=>nZ b λ_ y=>bT (Nat.beq c1 c) (lq (aqH x (Nat.min y (bits c))) λz=>k (.int c z))
def avc(c:Nat)(a:AV)(k:AV→Prop):Prop:=ky a λc1 x=>bT (Nat.beq c1 c) (aJ c (Int.neg x) λz=>k (.int c z))
def aqJ(a:AV)(k:AV→Prop):Prop:=match a with|.bool b=>k (.bool (!b))|_=>False
theorem akg{a:AV}{k:AV→Prop}(h:aqJ a k):∃b,a=.bool b∧k (.bool (!b)):=by cases a<;>first|exact h.elim|exact⟨_,rfl,h⟩
def acY(c:Nat)(a:AV)(k:AV→Prop):Prop:=ky a λ_ x=>aJ c x λz=>k (.int c z)
def WT(c:Nat)(a:AV)(k:AV→Prop):Prop:=(match a with
 |.Ev m r=>λk=>bT (Nat.beq c 3) (k (.wV m r))
 |a=>λk=>acY c a k:(AV→Prop)→Prop) k
theorem acZ{c:Nat}{a:AV}{k:AV→Prop}(h:WT c a k):acY c a k∨∃m r,a = .Ev m r∧c=3∧k (.wV m r):=by
 unfold WT at h;split at h
 ·rename_i m r;obtain⟨h1,h⟩:=aI h;exact .inr ⟨m,r,rfl,Nat.eq_of_beq_eq_true h1,h⟩
 ·exact .inl h
end
theorem iv:∀(n x:Nat),(jl n x).length=n
 |0,_=>rfl
 |n+1,x=>congrArg (· + 1) (iv n (x/256))
theorem pD:∀(n x i:Nat),i<n→(jl n x)[i]? = some (UInt8.ofNat (x/256^i%256))
 |0,_,_,h=>absurd h (Nat.not_lt_zero _)
 |n+1,x,0,_=>by simp[jl]
 |n+1,x,i+1,h=>by
  simp only[jl,List.getElem?_cons_succ];rw[pD n (x/256) i (by omega),Nat.div_div_eq_div_mul,Nat.pow_succ,Nat.mul_comm]
theorem Un:∀(n x y:Nat),x<256^n→y<256^n→jl n x=jl n y→x=y
 |0,x,y,hx,hy,_=>by simp at hx hy;omega
 |n+1,x,y,hx,hy,h=>by
  simp only[jl,List.cons.injEq]at h;have h1:x%256=y%256:=by
   have:=congrArg UInt8.toNat h.1;simpa using this
  have h2:=Un n (x/256) (y/256) (by rw[Nat.pow_succ]at hx;omega) (by rw[Nat.pow_succ]at hy;omega) h.2;omega
@[simp] theorem MM(n x:Nat):(fu n x).size=n:=by simp[fu,ByteArray.size,iv]
@[simp] theorem Tw(n x:Nat):(fu n x).toList=jl n x:=by simp[fu]
@[simp] theorem pE(n x:Nat):(fu n x).data=(jl n x).toArray:=rfl
theorem Jw{n x m y:Nat}(hx:x<256^n)(hy:y<256^m):(jl n x == jl m y)=(Nat.beq n m&&Nat.beq x y):=by
 rw[Bool.eq_iff_iff];simp only[beq_iff_eq,Bool.and_eq_true];have hb:∀a b:Nat,Nat.beq a b=true↔a=b:=λa b=>⟨Nat.eq_of_beq_eq_true,λh=>by subst h;exact Nat.beq_refl a⟩
 rw[hb,hb];constructor
 ·intro h;have hn:n=m:=by rw[←iv n x,←iv m y,h]
  subst hn;exact⟨rfl,Un n x y hx hy h⟩
 ·rintro⟨rfl,rfl⟩;rfl
def byteAt(x i:Nat):Nat:=Nat.mod (Nat.shiftRight x (Nat.mul 8 i)) 256
def Jx(x l n:Nat):Nat:=Nat.mod (Nat.shiftRight x (Nat.mul 8 l)) (Nat.pow 2 (Nat.mul 8 n))
def WU(n x y:Nat):Nat:=Nat.add x (Nat.shiftLeft y (Nat.mul 8 n))
theorem Jy(i:Nat):2^(8*i)=256^i:=by rw[Nat.pow_mul]
theorem Au(x i:Nat):byteAt x i=x/256^i%256:=by
 change (x >>> (8*i))%256=_
 rw[Nat.shiftRight_eq_div_pow,Jy]
theorem Uo(x l n:Nat):Jx x l n=x/256^l%256^n:=by
 change (x >>> (8*l))%(2^(8*n))=_
 rw[Nat.shiftRight_eq_div_pow,Jy,Jy]
theorem Up(n x y:Nat):WU n x y=x+y*256^n:=by
 change x+(y <<< (8*n))=_
 rw[Nat.shiftLeft_eq,Jy]
theorem anN(x l n:Nat):Jx x l n<256^n:=by rw[Uo];exact Nat.mod_lt _ (Nat.pow_pos (by omega))
theorem MN(x i:Nat):byteAt x i<256:=by rw[Au];exact Nat.mod_lt _ (by omega)
theorem anO{n m x y:Nat}(hx:x<256^n)(hy:y<256^m):WU n x y<256^(n+m):=by
 rw[Up,Nat.pow_add,Nat.mul_comm (256^n)]
 calc x+y*256^n<256^n+y*256^n:=by omega
  _=(y+1)*256^n:=by rw[Nat.add_mul];omega
  _≤256^m*256^n:=Nat.mul_le_mul_right _ hy
theorem Ou{n x i:Nat}(h:i<n):(fu n x)[i]? = some (UInt8.ofNat (byteAt x i)):=by
 have h1:=pD n x i h;rw[Au];have hs:i<(fu n x).size:=by simpa using h
 rw[getElem?_pos (fu n x) i hs];have:(jl n x)[i]? = some ((fu n x)[i]):=by
  rw[List.getElem?_eq_getElem (by rw[iv];exact h)];rfl
 rw[←this,h1]
theorem Tx(x a i n:Nat)(h:i<n):(x/256^a%256^n)/256^i%256=x/256^(a+i)%256:=by
 rw[Nat.zd x a i n h]
where
 Nat.zd (x a i n:Nat) (h:i<n):(x/256^a%256^n)/256^i%256=x/256^(a+i)%256:=by
  obtain⟨m,rfl⟩:∃m,n=i+1+m:=⟨n-(i+1),by omega⟩
  have:256^(i+1+m)=256^i*(256*256^m):=by rw[Nat.pow_add,Nat.pow_succ,Nat.mul_assoc]
  rw[this,Nat.mod_mul_right_div_self,Nat.mod_mul_right_mod,Nat.div_div_eq_div_mul,←Nat.pow_add]
theorem Ov(n x l h:Nat)(hlh:l≤h)(hn:h≤n):(fu n x).extract l h=fu (h-l) (Jx x l (h-l)):=by
 apply ByteArray.ext;rw[ByteArray.data_extract,pE,pE];apply Array.ext';rw[Array.toList_extract];simp only[List.extract];apply List.ext_getElem?;intro i;rw[List.getElem?_take,List.getElem?_drop];by_cases hi:i<h-l
 ·rw[if_pos hi,pD n x (l+i) (by omega),pD _ _ i hi,Uo,Tx x l i (h-l) hi]
 ·rw[if_neg hi,List.getElem?_eq_none (by rw[iv];omega)]
theorem Tz{n x y i:Nat}(hx:x<256^n)(h:i<n):(x+y*256^n)/256^i%256=x/256^i%256:=by
 obtain⟨m,rfl⟩:∃m,n=i+1+m:=⟨n-(i+1),by omega⟩
 have:y*256^(i+1+m)=256^i*(256*(256^m*y)):=by rw[Nat.pow_add,Nat.pow_succ];ac_rfl
 rw[this,Nat.add_mul_div_left _ _ (Nat.pow_pos (by omega)),Nat.add_mul_mod_self_left]
theorem TA{n x y i:Nat}(hx:x<256^n)(h:n≤i):(x+y*256^n)/256^i%256=y/256^(i-n)%256:=by
 obtain⟨m,rfl⟩:∃m,i=n+m:=⟨i-n,by omega⟩
 rw[Nat.add_sub_cancel_left,Nat.pow_add,←Nat.div_div_eq_div_mul,Nat.add_mul_div_right _ _ (Nat.pow_pos (by omega)),Nat.div_eq_of_lt hx,Nat.zero_add]
theorem TB{n x m y:Nat}(hx:x<256^n):fu n x++fu m y=fu (n+m) (WU n x y):=by
 apply ByteArray.ext;rw[ByteArray.data_append,pE,pE,pE];apply Array.ext';rw[Array.toList_append];simp only[];apply List.ext_getElem?;intro i;rw[Up];by_cases h1:i<n
 ·rw[List.getElem?_append_left (by rw[iv];exact h1),pD n x i h1,pD _ _ i (by omega),Tz hx h1]
 ·rw[List.getElem?_append_right (by rw[iv];omega),iv];by_cases h2:i<n+m
  ·rw[pD m y (i-n) (by omega),pD _ _ i h2,TA hx (by omega)]
  ·rw[List.getElem?_eq_none (by rw[iv];omega),List.getElem?_eq_none (by rw[iv];omega)]
def sV:List UInt8→Nat
 |[]=>0
 |b::l=>Nat.add b.toNat (Nat.mul 256 (sV l))
theorem Jz:∀l:List UInt8,sV l<256^l.length
 |[]=>by simp[sV]
 |b::l=>by
  have h1:=Jz l;have h2:=b.toNat_lt
  change b.toNat+256*sV l<256^(l.length+1)
  rw[Nat.pow_succ];omega
theorem Ow:∀l:List UInt8,jl l.length (sV l)=l
 |[]=>rfl
 |b::l=>by
  have h2:=b.toNat_lt;have e:sV (b::l)=b.toNat+256*sV l:=rfl;simp only[List.length_cons,jl];rw[show sV (b::l)%256=b.toNat by rw[e];omega,show sV (b::l)/256=sV l by rw[e];omega,Ow l];simp
theorem MO(s:ByteArray):fu s.data.toList.length (sV s.data.toList)=s:=by
 apply ByteArray.ext;rw[pE,Ow]
noncomputable section
def sLen(a:AV)(k:AV→Prop):Prop:=gy a λn _=>k (.int 0 (.ofNat n))
def dE(a i:AV)(k:AV→Prop):Prop:=gy a λn x=>nZ i λ_ j=>bT (Nat.ble (Nat.succ j) n) (bM (byteAt x j) λb=>k (.int 1 (.ofNat b)))
def aqK(a:AV)(l h:Nat)(k:AV→Prop):Prop:=gy a λn x=>bT (Nat.ble l h) (bT (Nat.ble h n) (bM (Nat.sub h l) λm=>bM (Jx x l m) λy=>k (.str m y)))
def aqL(a b:AV)(k:AV→Prop):Prop:=gy a λn x=>gy b λm y=>bM (Nat.add n m) λp=>bT (Nat.ble p 1099511627776) (bM (WU n x y) λz=>k (.str p z))
def pF(a b:AV)(k:AV→Prop):Prop:=gy a λn x=>gy b λm y=>k (.bool (Nat.beq n m&&Nat.beq x y))
def Uq(a b:AV)(k:AV→Prop):Prop:=gy a λn x=>gy b λm y=>k (.bool (!(Nat.beq n m&&Nat.beq x y)))
def vM:Nat→Nat→Nat→Nat→Bool
 |_,_,0,_=>false
 |0,_,_+1,_=>true
 |n+1,x,m+1,y=>Nat.ble (Nat.succ (Nat.mod x 256)) (Nat.mod y 256)||(Nat.beq (Nat.mod x 256) (Nat.mod y 256)&&vM n (Nat.div x 256) m (Nat.div y 256))
def aqM(a b:AV)(k:AV→Prop):Prop:=gy a λn x=>gy b λm y=>k (.bool (vM n x m y))
def aqN(a b:AV)(k:AV→Prop):Prop:=gy a λn x=>gy b λm y=>k (.bool (vM n x m y||(Nat.beq n m&&Nat.beq x y)))
def aqO(a b:AV)(k:AV→Prop):Prop:=gy a λn x=>gy b λm y=>k (.bool (!(vM n x m y||(Nat.beq n m&&Nat.beq x y))))
def aqP(a b:AV)(k:AV→Prop):Prop:=gy a λn x=>gy b λm y=>k (.bool (!(vM n x m y)))
end
theorem ac0:∀n x m y,vM n x m y=Op.bytesLess (jl n x) (jl m y)
 |n,_,0,_=>by cases n<;>simp[vM,jl,Op.bytesLess]
 |0,_,m+1,_=>by simp[vM,jl,Op.bytesLess]
 |n+1,x,m+1,y=>by
  have hlt:∀a b:Nat,a<256→b<256→(Nat.ble (Nat.succ a) b=decide (UInt8.ofNat a<UInt8.ofNat b)):=λa b ha hb=>by
   rw[Bool.eq_iff_iff];simp[UInt8.lt_iff_toNat_lt];omega
  have heq:∀a b:Nat,a<256→b<256→(Nat.beq a b=(UInt8.ofNat a == UInt8.ofNat b)):=λa b ha hb=>by
   rw[Bool.eq_iff_iff];simp[←UInt8.toNat_inj];omega
  have hx:=Nat.mod_lt x (show 256>0 by omega);have hy:=Nat.mod_lt y (show 256>0 by omega);have e1:=hlt _ _ hx hy;have e2:=heq _ _ hx hy
  change (Nat.ble (Nat.succ (x%256)) (y%256)||(Nat.beq (x%256) (y%256)&&vM n (x/256) m (y/256)))=_
  rw[e1,e2,ac0 n];simp only[jl,Op.bytesLess]
noncomputable section
def onCells(o:eS)(k:Bt AV→Nat→Nat→Prop):Prop:=match o with|.cells c n m=>k c n m|_=>False
theorem TC{o:eS}{k:Bt AV→Nat→Nat→Prop}(h:onCells o k):∃c n m,o=.cells c n m∧k c n m:=by
 cases o with
 |cells c n m=>exact⟨c,n,m,rfl,h⟩
 |_=>exact h.elim
def vN(c:Bt AV)(n:Nat):Nat→(List AV→Prop)→Prop:=
 @Nat.rec (λ_=>Nat→(List AV→Prop)→Prop) (λ_ k=>k []) (λ_ ih o k=>c.gD o λa=>bM (Nat.succ o) λo'=>ih o' λl=>k (a::l)) n
def jm(l:List AV):Bt AV→Nat→(Bt AV→Nat→Prop)→Prop:=
 @List.rec AV (λ_=>Bt AV→Nat→(Bt AV→Nat→Prop)→Prop) (λc o k=>k c o) (λa _ ih c o k=>one a (c.ij o a λc'=>bM (Nat.succ o) λo'=>ih c' o' k)) l
def aA(H:AH)(o:eS)(k:Nat→AH→Prop):Prop:=H.t.ij H.n o λt'=>bM (Nat.succ H.n) λn'=>k H.n ⟨t',n'⟩
def ij(H:AH)(b:Nat)(o:eS)(k:AH→Prop):Prop:=H.t.ij b o λt'=>k ⟨t',H.n⟩
def gD(H:AH)(b:Nat)(k:Bt AV→Nat→Nat→Prop):Prop:=H.t.gD b λo=>onCells o k
def onVal(a:AV)(k:List AV→Prop):Prop:=(match a with|.agg cs=>λk=>k cs|.aY _=>λ_=>False|.df=>λ_=>False|v=>λk=>k [v]:(List AV→Prop)→Prop) k
def ak(p:AV)(H:AH)(k:AV→Prop):Prop:=oc p λb o=>gD H b λc _ _=>c.gD o k
def aF(n:Nat)(p:AV)(H:AH)(k:AV→Prop):Prop:=oc p λb o=>gD H b λc _ _=>vN c n o λl=>k (.agg l)
def ae(n:Nat)(p v:AV)(H:AH)(k:AH→Prop):Prop:=oc p λb o=>onVal v λl=>gD H b λc m w=>bT (Nat.ble w 1) (jm l c o λc' o'=>bT (Nat.beq o' (Nat.add o n)) (bT (Nat.ble o' m) (ij H b (.cells c' m w) k)))
abbrev Lay:=eS→(Nat→AH→Prop)→Prop
def gE(nw:Lay)(l:List AV)(k:AV→AH→Prop):Prop:=jm l .e 0 λc n=>nw (.cells c n 0) λb H'=>k (.ptr b 0) H'
def aN(nw:Lay)(n sz:Nat)(l:List AV)(k:AV→AH→Prop):Prop:=jm l .e 0 λc m=>bT (Nat.beq m (Nat.mul n sz)) (nw (.cells c m 0) λb H'=>k (.slice b 0 n n sz true) H')
def al(n:Nat)(p:AV)(k:AV→Prop):Prop:=oc p λb o=>bM (Nat.add o n) λo'=>k (.ptr b o')
def cK(sz:Nat)(s i:AV)(k:AV→Prop):Prop:=od s False λb o len _ sz' _=>nZ i λ_ j=>bT (Nat.ble (Nat.succ j) len) (bT (Nat.beq sz sz') (bM (Nat.add o (Nat.mul j sz)) λo'=>k (.ptr b o')))
def BK(n sz:Nat)(p i:AV)(k:AV→Prop):Prop:=oc p λb o=>nZ i λ_ j=>bT (Nat.ble (Nat.succ j) n) (bM (Nat.add o (Nat.mul j sz)) λo'=>k (.ptr b o'))
def aP(p:AV)(k:Prop):Prop:=(match p with|.ptr _ _=>λk=>k|.func _ _ _=>λk=>k|.iface _ _=>λk=>k|_=>λ_=>False:Prop→Prop) k
def dp(s:AV)(k:AV→Prop):Prop:=qQ s (λk=>k (.int 0 (.ofNat 0))) (λ_ _ len _ _ _ k=>k (.int 0 (.ofNat len))) k
def cellsOf(sz n:Nat)(s:AV)(H:AH)(k:List AV→Prop):Prop:=qQ s (λk=>k []) (λb o len _ sz' _ k=>bT (Nat.ble n len) <| bT (Nat.beq sz sz') (gD H b λc _ _=>vN c (Nat.mul n sz) o k)) k
def lenOf(s:AV)(k:Nat→Prop):Prop:=qQ s (λk=>k 0) (λ_ _ len _ _ _ k=>k len) k
def wX(sz bytes n:Nat)(s:AV)(l:List AV)(H:AH)(k:AV→AH→Prop):Prop:=
 bT (Nat.ble (Nat.succ 0) sz) <|
 od s
  (bI (Nat.beq n 0) (k .ab H) (bT (Nat.ble (Nat.mul n bytes) 1099511627776) (jm l .e 0 λc m=>aA H (.cells c m 0) λb H'=>k (.slice b 0 n n sz false) H')))
  λb o len cap sz' ex=>bT (Nat.beq sz sz') <| bM (Nat.add len n) λneed=>
   bI (Nat.ble need cap)
    (gD H b λc m w=>bT (Nat.ble w 1) (jm l c (Nat.add o (Nat.mul len sz)) λc' o'=>bT (Nat.ble o' m) (ij H b (.cells c' m w) λH'=>k (.slice b o need cap sz ex) H')))
    (bT (Nat.ble (Nat.mul need bytes) 1099511627776) <| bI ex
     (gD H b λc _ _=>vN c (Nat.mul len sz) o λold=>jm old .e 0 λc1 o1=>jm l c1 o1 λc2 o2=>aA H (.cells c2 o2 0) λb' H'=>k (.slice b' 0 need need sz false) H')
     (gD H b λc m w=>bT (Nat.ble w 1) (bI (Nat.beq o 0&&Nat.beq m (Nat.mul len sz))
      (jm l c m λc2 o2=>ij H b .dead λH1=>aA H1 (.cells c2 o2 w) λb' H'=>k (.slice b' 0 need need sz false) H')
      (vN c (Nat.mul len sz) o λold=>jm old .e 0 λc1 o1=>jm l c1 o1 λc2 o2=>ij H b .dead λH1=>aA H1 (.cells c2 o2 w) λb' H'=>k (.slice b' 0 need need sz false) H'))))
def dh(sz bytes:Nat)(s x:AV)(H:AH)(k:AV→AH→Prop):Prop:=lenOf x λn=>cellsOf sz n x H λl=>wX sz bytes n s l H k
def auh(sz:Nat)(d s:AV)(H:AH)(k:AV→AH→Prop):Prop:=
 lenOf s λn=>lenOf d λm=>bM (Nat.min n m) λq=>cellsOf sz q s H λl=>
  od d (k (.int 0 (.ofNat q)) H) λb o _ _ sz' _=>bT (Nat.beq sz sz') (gD H b λc m w=>bT (Nat.ble w 1) (jm l c o λc' o'=>bT (Nat.ble o' m) (ij H b (.cells c' m w) λH'=>k (.int 0 (.ofNat q)) H')))
end
theorem pG(c:Bt AV):∀(n o:Nat) (k:List AV→Prop),vN c n o k→∃l,l.length=n∧(∀i a,l[i]? = some a→c.get? (o+i)=some a)∧k l
 |0,_,k,h=>⟨[],rfl,λi a hi=>by simp at hi,h⟩
 |n+1,o,k,h=>by
  obtain⟨a,ha,h⟩:=Bt.ef c o _ h;rw[bw]at h;obtain⟨l,h1,h2,h3⟩:=pG c n (o+1) _ h;refine⟨a::l,by simp[h1],λi x hi=>?_,h3⟩;cases i with
  |zero=>simp at hi;subst hi;exact ha
  |succ i=>rw[show o+(i+1)=o+1+i by omega];exact h2 i x (by simpa using hi)
theorem fX:∀(l:List AV) (c:Bt AV) (o:Nat) (k:Bt AV→Nat→Prop),jm l c o k→
  ∃c',k c' (o+l.length)∧(∀a∈l,a.one=true)∧(∀i,i<l.length→c'.get? (o+i)=l[i]?)∧(∀j,(j<o∨o+l.length≤j)→c'.get? j=c.get? j)
 |[],c,o,k,h=>⟨c,h,by simp,λi hi=>by simp at hi,λ_ _=>rfl⟩
 |a::l,c,o,k,h=>by
  obtain⟨h1,h⟩:=Ul h;obtain⟨c1,h,g1,g2⟩:=Bt.hH c o a _ h;rw[bw]at h;obtain⟨c2,h2,h3,h4,h5⟩:=fX l c1 (o+1) k h;refine⟨c2,by rw[show o+(a::l).length=o+1+l.length by simp;omega];exact h2,by simp;exact⟨h1,h3⟩,λi hi=>?_,λj hj=>?_⟩
  ·cases i with
   |zero=>rw[Nat.add_zero,h5 o (by omega),g1];rfl
   |succ i=>rw[show o+(i+1)=o+1+i by omega,h4 i (by simpa using hi)];rfl
  ·simp only[List.length_cons]at hj;rw[h5 j (by omega),g2 j (by omega)]
theorem mH{H:AH}{o:eS}{k:Nat→AH→Prop}(h:aA H o k):∃H',k H.n H'∧H'.n=H.n+1∧H'.at H.n=o∧∀b,b≠H.n→H'.at b=H.at b:=by
 obtain⟨t',h,g1,g2⟩:=Bt.hH _ _ _ _ h;rw[bw]at h;exact⟨_,h,rfl,by simp[AH.at,g1],λb hb=>by simp only[AH.at];rw[g2 b hb]⟩
theorem hH{H:AH}{b:Nat}{o:eS}{k:AH→Prop}(h:ij H b o k):∃H',k H'∧H'.n=H.n∧H'.at b=o∧∀c,c≠b→H'.at c=H.at c:=by
 obtain⟨t',h,g1,g2⟩:=Bt.hH _ _ _ _ h;exact⟨_,h,rfl,by simp[AH.at,g1],λc hc=>by simp only[AH.at];rw[g2 c hc]⟩
theorem ef{H:AH}{b:Nat}{k:Bt AV→Nat→Nat→Prop}(h:gD H b k):∃c n m,H.at b=.cells c n m∧k c n m:=by
 obtain⟨o,ho,h⟩:=Bt.ef _ _ _ h;obtain⟨c,n,m,rfl,h⟩:=TC h;exact⟨c,n,m,AH.rT ho,h⟩
def AV.cells:AV→List AV
 |.agg cs=>cs
 |v=>[v]
theorem vO{a:AV}{k:List AV→Prop}(h:onVal a k):k a.cells∧a≠.df∧(∀vs,a≠.aY vs):=by
 cases a<;>first|exact h.elim|exact⟨h,by simp,by simp⟩
theorem VR.cells{f:aO}{a:AV}{v:Value}(h:VR f a v)(hp:a≠.df):VL f a.cells v.cells.toList:=by
 cases h<;>first|exact absurd rfl hp|(simp only[AV.cells,Value.cells];exact .cons _ _ _ _ (by constructor<;>assumption) .nil)|simpa[AV.cells,Value.cells]
theorem VR.oneCell{f:aO}{a:AV}{v:Value}(h:VR f a v)(h1:a.one=true):v.oneCell'=true:=by
 cases h<;>first|rfl|cases h1
theorem VL.oneCell{f:aO}:∀{l:List AV}{vs:List Value},VL f l vs→(∀a∈l,a.one=true)→∀v∈vs,v.oneCell'=true
 |_,_,.nil,_=>by simp
 |_,_,.cons a v as vs h1 h2,h=>by
  simp only[List.mem_cons,forall_eq_or_imp]at h ⊢;exact⟨h1.oneCell h.1,VL.oneCell h2 h.2⟩
theorem addr_add(b o n:Nat):(⟨b,o,none⟩:Addr).add n=⟨b,o+n,none⟩:=by unfold Addr.add;split<;>simp_all
section
variable {P:Program}{f:aO}{H:AH}{w:World}
theorem vP(h:HRQ f H.sem w){b:Nat}(hd:f.dom b){c:Bt AV}{n m:Nat}(hb:H.at b=.cells c n m){o:Nat}{l:List AV}(hl:∀i a,l[i]? = some a→c.get? (o+i)=some a) :
  ∃vs,VL f l vs∧vs.length=l.length∧(∀j v,vs[j]? = some v→w.cell? ((⟨f.blk b,f.off b+o,none⟩:Addr).add j)=some v)∧(loadCells ⟨f.blk b,f.off b+o,none⟩ l.length).run P w=.ok vs.toArray w:=by
 have key:∀(l:List AV) (o:Nat),(∀i a,l[i]? = some a→c.get? (o+i)=some a)→∃vs,VL f l vs∧∀j v,vs[j]? = some v→w.cell? ⟨f.blk b,f.off b+(o+j),none⟩=some v:=by
  intro l
  induction l with
  |nil=>exact λo _=>⟨[],.nil,λj v hj=>by simp at hj⟩
  |cons a l ih=>
   intro o ho;obtain⟨v,hv,hr⟩:=h.cell hd hb (ho 0 a rfl);obtain⟨vs,h1,h2⟩:=ih (o+1) (λi x hi=>by rw[show o+1+i=o+(i+1) by omega];exact ho (i+1) x (by simpa using hi));refine⟨v::vs,.cons _ _ _ _ hr h1,λj u hj=>?_⟩;cases j with
   |zero=>simp at hj;subst hj;simpa using hv
   |succ j=>rw[show o+(j+1)=o+1+j by omega];exact h2 j u (by simpa using hj)
 obtain⟨vs,h1,h2⟩:=key l o hl;have hlen:=h1.length;have hc:∀j v,vs[j]? = some v→w.cell? ((⟨f.blk b,f.off b+o,none⟩:Addr).add j)=some v:=λj v hj=>by rw[addr_add,Nat.add_assoc];exact h2 j v hj
 exact⟨vs,h1,hlen.symm,hc,by rw[hlen];exact run_loadCells_list (P:=P) w ⟨f.blk b,f.off b+o,none⟩ vs hc⟩
def nG(f:aO)(w:World)(o:eS)(vf:Nat→AV)(r:Value)(obj:Obj):Prop:=
 ∃lim,∀i,¬f.dom i→OR (f.ext i w.heap.size 0 lim) i o.sem (some obj)∧VR (f.ext i w.heap.size 0 lim) (vf i) r
theorem ze{f:aO}{w:World}{l:List AV}{vs:List Value}(hv:VL f l vs){c:Bt AV}(hc:∀i,i<l.length→c.get? i=l[i]?)(hc2:∀j,l.length≤j→c.get? j=none)(rest:List Value)(e:TypeId)
  {vf:Nat→AV}{r:Value}(hr:∀i,¬f.dom i→VR (f.ext i w.heap.size 0 (vs++rest).length) (vf i) r):nG f w (.cells c l.length 0) vf r (.cells (vs++rest).toArray e):=by
 refine⟨(vs++rest).length,λi hi=>⟨?_,hr i hi⟩⟩;have hle:=f.pZ hi w.heap.size 0 (vs++rest).length;have hlen:=hv.length;refine⟨_,e,0,0,rfl,by simp,by simp[hlen],λj a hj=>?_,λ_ j _=>by omega,λ_=>⟨rfl,rfl⟩⟩;have hj':j<l.length:=by
  rcases Nat.lt_or_ge j l.length with h1|h1
  ·exact h1
  ·rw[hc2 j h1]at hj;cases hj
 rw[hc j hj']at hj;obtain⟨v,h1,h2⟩:=hv.get j a hj;refine⟨hj',v,?_,h2.up hle⟩;rw[aO.jB,Nat.zero_add];simp only[List.getElem?_toArray];rw[List.getElem?_append_left (by omega),h1]
theorem zf{H':AH}{o:eS}{vf:Nat→AV}{r:Value}{obj:Obj}(h:HR f H w)(hn:H'.n=H.n+1)(hnew:H'.at H.n=o)(hold:∀b,b≠H.n→H'.at b=H.at b)(ho:o.sem.own=true)(ha:nG f w o vf r obj) :
  ∃f',Step f H w f' H' (w.alloc obj)∧VR f' (vf H.n) r:=by
 obtain⟨lim,ha⟩:=ha;obtain⟨h1,h2⟩:=ha H.n (gp.fresh h);exact⟨_,h.push H' o obj 0 lim hn hnew hold h1 (λ_=>ho),h2⟩
theorem Bt.Av{α:Type}(i:Nat):(Bt.e:Bt α).get? i=none:=rfl
theorem VR.MP{f:aO}{b o:Nat}{a:Addr}(hb:f.dom b)(h:a=⟨f.blk b,f.off b+o,none⟩):VR f (.ptr b o) (.pointer (some a)):=by subst h;exact .ptr b o hb
end
mutual
def iO:Value→AV
 |.bool b=>.bool b
 |.int k n=>.int (kn k) n
 |.string s=>.str s.data.toList.length (sV s.data.toList)
 |.pointer none=>.jA
 |.slice none 0 0=>.ab
 |.map none=>.qN
 |.nilFunc=>.rP
 |.nilIface=>.fl
 |.func (.func g) as bs=>.func g (JA as) (JA bs)
 |.iface t v=>.iface t (iO v)
 |.agg cs=>.agg (JA cs)
 |.tuple cs=>.aY (JA cs)
 |_=>.df
def JA:Array Value→List AV
 |⟨l⟩=>Ox l
def Ox:List Value→List AV
 |[]=>[]
 |v::l=>iO v::Ox l
end
mutual
theorem pH(f:aO):∀v:Value,VR f (iO v) v
 |.bool b=>by simp only[iO];exact .bool b
 |.int k n=>by simp only[iO];have:=VR.int (f:=f) (kn k) n;rwa [Fp]at this
 |.float _ _=>by simp only[iO];exact .df _
 |.complex _ _ _=>by simp only[iO];exact .df _
 |.string s=>by simp only[iO];have:=VR.str (f:=f) _ _ (Jz s.data.toList);rwa [MO]at this
 |.pointer none=>by simp only[iO];exact .jA
 |.pointer (some _)=>by simp only[iO];exact .df _
 |.slice a l c=>by
  unfold iO;split<;>first|exact .df _|(rename_i h;simp at h;obtain⟨rfl,rfl,rfl⟩:=h;exact .ab)|(rename_i h;simp at h)
 |.map none=>by simp only[iO];exact .qN
 |.map (some _)=>by simp only[iO];exact .df _
 |.chan _=>by simp only[iO];exact .df _
 |.nilFunc=>by simp only[iO];exact .rP
 |.nilIface=>by simp only[iO];exact .fl
 |.func (.func g) as bs=>by simp only[iO];exact .func g _ _ _ _ (BL f as) (BL f bs)
 |.func (.method _) as bs=>by simp only[iO];exact .df _
 |.func (.methodOf _ _) as bs=>by simp only[iO];exact .df _
 |.func (.via _ _ _ _) as bs=>by simp only[iO];exact .df _
 |.func (.yield _) as bs=>by simp only[iO];exact .df _
 |.iface t v=>by simp only[iO];exact .iface t _ _ (pH f v)
 |.agg cs=>by simp only[iO];exact .agg _ _ (BL f cs)
 |.tuple cs=>by simp only[iO];exact .aY _ _ (BL f cs)
theorem BL(f:aO):∀a:Array Value,VL f (JA a) a.toList
 |⟨l⟩=>by simp only[JA];exact Ur f l
theorem Ur(f:aO):∀l:List Value,VL f (Ox l) l
 |[]=>by simp only[Ox];exact .nil
 |v::l=>by simp only[Ox];exact .cons _ _ _ _ (pH f v) (Ur f l)
end
noncomputable section
def aqQ(a b:AV)(k:AV→Prop):Prop:=lp a (lp b (k (.bool true)) (k (.bool false))) (lp b (k (.bool false)) (k (.bool true)))
def aqR(a b:AV)(k:AV→Prop):Prop:=lp a (lp b (k (.bool false)) (k (.bool true))) (lp b (k (.bool true)) (k (.bool false)))
def akh(H:AH)(b c:Nat)(x:Prop):Prop:=gD H b λ_ _ m=>bT (Nat.beq m 0) (gD H c λ_ _ m'=>bT (Nat.beq m' 0) x)
def zg(r:Bool)(a b:AV)(H:AH)(k:AV→Prop):Prop:=
 (match a,b with
 |.jA,.jA=>λk=>k (.bool r)
 |.jA,.ptr _ _=>λk=>k (.bool (!r))
 |.ptr _ _,.jA=>λk=>k (.bool (!r))
 |.ptr b o,.ptr b' o'=>λk=>bI (Nat.beq b b') (bI (Nat.beq o o') (k (.bool r)) (k (.bool (!r)))) (akh H b b' (k (.bool (!r))))
 |_,_=>λ_=>False:(AV→Prop)→Prop) k
def vQ(r:Bool)(a:AV)(k:AV→Prop):Prop:=(match a with|.fl=>λk=>k (.bool r)|.iface _ _=>λk=>k (.bool (!r))|_=>λ_=>False:(AV→Prop)→Prop) k
def NO(r:Bool)(a:AV)(k:AV→Prop):Prop:=(match a with|.rP=>λk=>k (.bool r)|.func _ _ _=>λk=>k (.bool (!r))|_=>λ_=>False:(AV→Prop)→Prop) k
def NP(r:Bool)(a:AV)(k:AV→Prop):Prop:=(match a with|.ab=>λk=>k (.bool r)|.slice _ _ _ _ _ _=>λk=>k (.bool (!r))|_=>λ_=>False:(AV→Prop)→Prop) k
def NQ(r:Bool)(a:AV)(k:AV→Prop):Prop:=(match a with|.qN=>λk=>k (.bool r)|.map _=>λk=>k (.bool (!r))|_=>λ_=>False:(AV→Prop)→Prop) k
def MQ(op:BinOp)(k:Bool→Prop):Prop:=match op with|.eql=>k true|.neq=>k false|_=>False
def wY(x:Operand):Bool:=match x with|.const .nilIface=>true|_=>false
def JB(x:Operand):Bool:=match x with|.const .nilFunc=>true|_=>false
def JC(x:Operand):Bool:=match x with|.const (.slice none _ _)=>true|_=>false
def JD(x:Operand):Bool:=match x with|.const (.map none)=>true|_=>false
def aki(c:Nat)(op:BinOp)(a b:AV)(k:AV→Prop):Prop:=
 match op with
 |.add=>aqC c a b k
 |.sub=>aqD c a b k
 |.mul=>aqE c a b k
 |.quo=>aqF c a b k
 |.rem=>WR c a b k
 |.and=>aqG c a b k
 |.or=>pOr c a b k
 |.xor=>WS c a b k
 |.andNot=>Um c a b k
 |.shl=>Ot c a b k
 |.shr=>aqI c a b k
 |.eql=>pEq c a b k
 |.neq=>pNe c a b k
 |.lss=>pLt c a b k
 |.leq=>pLe c a b k
 |.gtr=>pLt c b a k
 |.geq=>pLe c b a k
def akj(op:BinOp)(a b:AV)(k:AV→Prop):Prop:=
 match op with
 |.add=>aqL a b k
 |.eql=>pF a b k
 |.neq=>Uq a b k
 |.lss=>aqM a b k
 |.leq=>aqN a b k
 |.gtr=>aqO a b k
 |.geq=>aqP a b k
 |_=>False
def akk(P:Program)(op:BinOp)(t:TypeId)(x y:Operand)(a b:AV)(H:AH)(k:AV→Prop):Prop:=
 match P.underlying t with
 |some (.int q)=>aki (kn q) op a b k
 |some .string=>akj op a b k
 |some .bool=>(match op with|.eql=>aqQ a b k|.neq=>aqR a b k|_=>False)
 |some (.pointer e)=>(match P.info? e with|some i=>bT (Nat.ble 1 i.size) (MQ op λr=>zg r a b H k)|none=>False)
 |some (.interface _)=>MQ op λr=>bI (wY y) (vQ r a k) (bT (wY x) (vQ r b k))
 |some (.func _ _ _)=>MQ op λr=>bI (JB y) (NO r a k) (bT (JB x) (NO r b k))
 |some (.slice _)=>MQ op λr=>bI (JC y) (NP r a k) (bT (JC x) (NP r b k))
 |some (.map _ _)=>MQ op λr=>bI (JD y) (NQ r a k) (bT (JD x) (NQ r b k))
 |_=>False
end
theorem VR.bO{f:aO}{c:Nat}{n:Int}{v:Value}(h:VR f (.int c n) v):v=.int (kd c) n:=by cases h;rfl
theorem VR.pw{f:aO}{b:Bool}{v:Value}(h:VR f (.bool b) v):v=.bool b:=by cases h;rfl
theorem VR.jC{f:aO}{n x:Nat}{v:Value}(h:VR f (.str n x) v):v=.string (fu n x)∧x<256^n:=by cases h;exact⟨rfl,by assumption⟩
theorem VR.uE{f:aO}{v:Value}(h:VR f .jA v):v=.pointer none:=by cases h;rfl
theorem VR.fw{f:aO}{b o:Nat}{v:Value}(h:VR f (.ptr b o) v):v=.pointer (some ⟨f.blk b,f.off b+o,none⟩)∧f.dom b:=by cases h;exact⟨rfl,by assumption⟩
section
variable {P:Program}{f:aO}{H:AH}{w:World}
theorem uF(c:Nat):2^(kd c).bits=full c:=by
 match c with
 |0|1|2|3|4|5|6=>rfl
 |n+7=>rfl
theorem Us(c:Nat):(kd c).bits=bits c:=by
 match c with
 |0|1|2|3|4|5|6=>rfl
 |n+7=>rfl
theorem akl(k:IntKind)(n m:Nat)(h:n%2^k.bits=m%2^k.bits):k.wrap (.ofNat n)=k.wrap (.ofNat m):=by
 unfold IntKind.wrap;have:((.ofNat n:Int))%(2^k.bits:Int)=(.ofNat m:Int)%(2^k.bits:Int):=by
  have e:(2^k.bits:Int)=((2^k.bits:Nat):Int):=by simp
  rw[e]
  change ((n:Int))%_=(m:Int)%_
  rw[←Int.natCast_emod,←Int.natCast_emod,h]
 rw[this]
theorem vR(c:Nat)(x:Int):BitVec.ofInt (kd c).bits x=BitVec.ofNat (kd c).bits (jT c x):=by
 cases x with
 |ofNat n=>rfl
 |negSucc n=>
  apply BitVec.eq_of_toNat_eq;rw[BitVec.toNat_ofInt,BitVec.toNat_ofNat,uF];simp only[jT];have hp:0<full c:=by rw[←uF];exact Nat.pow_pos (by omega)
  have:=Nat.mod_lt n hp;rw[Int.negSucc_emod n (by omega:(0:Int)<(full c:Int))];rw[Nat.mod_eq_of_lt (by omega:full c-1-n%full c<full c)];omega
theorem Ft(c:Nat)(x y:Int)(g:Nat→Nat→Nat)(r:BitVec (kd c).bits)(hr:∀a b:Nat,x=x→r.toNat%2^(kd c).bits=g (jT c x) (jT c y)%2^(kd c).bits) :
  (kd c).wrap r.toNat=(kd c).wrap (.ofNat (g (jT c x) (jT c y))):=akl _ _ _ (hr 0 0 rfl)
theorem Ut{c:Nat}{op:BinOp}{t:TypeId}{a b:AV}{k:AV→Prop}(h:aki c op a b k) :
  ∃v,k v∧∀f u1 u2,VR f a u1→VR f b u2→∃u,(∀w,(binOp op t u1 u2).run P w=.ok u w)∧VR f v u:=by
 cases op
 case add=>
  obtain⟨x,y,rfl,rfl,g⟩:=gj h;exact⟨_,jM g,λf u1 u2 h1 h2=>⟨_,λw=>by rw[h1.bO,h2.bO];simp[binOp,Op.intArith];all_goals rfl,.int c _⟩⟩
 case sub=>
  obtain⟨x,y,rfl,rfl,g⟩:=gj h;exact⟨_,jM g,λf u1 u2 h1 h2=>⟨_,λw=>by rw[h1.bO,h2.bO];simp[binOp,Op.intArith];all_goals rfl,.int c _⟩⟩
 case mul=>
  obtain⟨x,y,rfl,rfl,g⟩:=gj h;exact⟨_,jM g,λf u1 u2 h1 h2=>⟨_,λw=>by rw[h1.bO,h2.bO];simp[binOp,Op.intArith];all_goals rfl,.int c _⟩⟩
 case quo=>
  obtain⟨x,y,rfl,rfl,g⟩:=gj h;rcases dW g with⟨_,g⟩|⟨h0,g⟩
  ·exact g.elim
  ·rw[oL]at h0;exact⟨_,jM g,λf u1 u2 h1 h2=>⟨_,λw=>by rw[h1.bO,h2.bO];simp at h0;simp[binOp,Op.intDiv,h0];all_goals rfl,.int c _⟩⟩
 case rem=>
  rcases Oq h with h|⟨m,r,rfl,rfl,rfl,hm,h⟩|⟨m,r,rfl,rfl,rfl,hm,h⟩
  case inr.inl=>
   refine⟨_,h,λf u1 u2 h1 h2=>?_⟩;cases h1 with
   |Eu _ _ z hz=>
    refine⟨.int .i64 r,λw=>?_,.int 0 r⟩;rw[h2.bO];have h0:¬(m=0):=by omega
    simp[binOp,Op.intDiv,h0,kd,hz]
  case inr.inr=>
   refine⟨_,h,λf u1 u2 h1 h2=>?_⟩;cases h1 with
   |wV _ _ z h0 hz=>
    refine⟨.int .u64 (.ofNat r),λw=>?_,.int 3 _⟩;rw[h2.bO];have hm0:¬(m=0):=by omega
    have hz':Int.tmod z m=r:=by rw[Int.tmod_eq_emod_of_nonneg h0];exact hz
    simp[binOp,Op.intDiv,hm0,kd,hz']
  obtain⟨x,y,rfl,rfl,g⟩:=gj h;rcases dW g with⟨_,g⟩|⟨h0,g⟩
  ·exact g.elim
  ·rw[oL]at h0;rw[mC]at g;exact⟨_,g,λf u1 u2 h1 h2=>⟨_,λw=>by rw[h1.bO,h2.bO];simp at h0;simp[binOp,Op.intDiv,h0];all_goals rfl,.int c _⟩⟩
 case and=>
  obtain⟨x,y,rfl,rfl,g⟩:=gj h;simp only[bw]at g;refine⟨_,jM g,λf u1 u2 h1 h2=>⟨_,λw=>?_,.int c _⟩⟩;rw[h1.bO,h2.bO];simp only[binOp,Op.intBits,ne_eq,not_true_eq_false,if_false,Sem.run_pure,vR];congr 2;exact Ft c x y Nat.land _ (λ_ _ _=>by simp[BitVec.toNat_and,Nat.and_mod_two_pow];all_goals rfl)
 case or=>
  obtain⟨x,y,rfl,rfl,g⟩:=gj h;simp only[bw]at g;refine⟨_,jM g,λf u1 u2 h1 h2=>⟨_,λw=>?_,.int c _⟩⟩;rw[h1.bO,h2.bO];simp only[binOp,Op.intBits,ne_eq,not_true_eq_false,if_false,Sem.run_pure,vR];congr 2;exact Ft c x y Nat.lor _ (λ_ _ _=>by simp[BitVec.toNat_or,Nat.or_mod_two_pow];all_goals rfl)
 case xor=>
  obtain⟨x,y,rfl,rfl,g⟩:=gj h;simp only[bw]at g;refine⟨_,jM g,λf u1 u2 h1 h2=>⟨_,λw=>?_,.int c _⟩⟩;rw[h1.bO,h2.bO];simp only[binOp,Op.intBits,ne_eq,not_true_eq_false,if_false,Sem.run_pure,vR];congr 2;exact Ft c x y Nat.xor _ (λ_ _ _=>by simp[BitVec.toNat_xor,Nat.xor_mod_two_pow];all_goals rfl)
 case andNot=>
  obtain⟨x,y,rfl,rfl,g⟩:=gj h;simp only[bw]at g;refine⟨_,jM g,λf u1 u2 h1 h2=>⟨_,λw=>?_,.int c _⟩⟩;rw[h1.bO,h2.bO];simp only[binOp,Op.intBits,ne_eq,not_true_eq_false,if_false,Sem.run_pure,vR];congr 2;refine Ft c x y (λp q=>Nat.land p (full c-1-q%full c)) _ (λ_ _ _=>?_);simp[BitVec.toNat_and,BitVec.toNat_not,uF];have hp:0<full c:=by rw[←uF];exact Nat.pow_pos (by omega)
  rw[←uF,Nat.and_mod_two_pow,Nat.and_mod_two_pow,Nat.mod_mod]
 case shl=>
  obtain⟨c1,x,rfl,g1⟩:=fC h;obtain⟨c2,y,rfl,g2⟩:=jL g1;obtain⟨h0,g⟩:=aI g2;have e:=Nat.eq_of_beq_eq_true h0;subst e;refine⟨_,jM g,λf u1 u2 h1 h2=>⟨_,λw=>?_,.int c1 _⟩⟩;rw[h1.bO,h2.bO];have hy:¬((.ofNat y:Int)<0):=by simp
  simp only[binOp,Op.shift,hy,if_false,Sem.run_pure];congr 3;simp[Us]
  all_goals rfl
 case shr=>
  obtain⟨c1,x,rfl,g1⟩:=fC h;obtain⟨c2,y,rfl,g2⟩:=jL g1;obtain⟨h0,g⟩:=aI g2;have e:=Nat.eq_of_beq_eq_true h0;subst e;rw[mC]at g;refine⟨_,g,λf u1 u2 h1 h2=>⟨_,λw=>?_,.int c1 _⟩⟩;rw[h1.bO,h2.bO];have hy:¬((.ofNat y:Int)<0):=by simp
  simp only[binOp,Op.shift,hy,if_false,Sem.run_pure];congr 2;have e1:(Int.ofNat y).toNat=y:=rfl;rw[e1,Us]
  change x.fdiv (2^min y (bits c1))=aqH x (min y (bits c1))
  generalize min y (bits c1)=q;cases x with
  |ofNat m=>
   change Int.fdiv (m:Int) (2^q)=(((m >>> q:Nat)):Int)
   rw[Nat.shiftRight_eq_div_pow,Int.fdiv_eq_ediv_of_nonneg _ (Int.le_of_lt (Int.pow_pos (by decide)))];simp
  |negSucc m=>
   change Int.fdiv (Int.negSucc m) (2^q)=Int.negSucc (m >>> q)
   rw[Nat.shiftRight_eq_div_pow,Int.fdiv_eq_ediv_of_nonneg _ (Int.le_of_lt (Int.pow_pos (by decide))),Int.negSucc_ediv _ (Int.pow_pos (by decide)),Int.negSucc_eq];simp
   all_goals rfl
 case eql=>
  obtain⟨x,y,rfl,rfl,g⟩:=gj h;exact⟨_,g,λf u1 u2 h1 h2=>⟨_,λw=>by rw[h1.bO,h2.bO,oL];simp[binOp,Op.intCmp];all_goals rfl,.bool _⟩⟩
 case neq=>
  obtain⟨x,y,rfl,rfl,g⟩:=gj h;exact⟨_,g,λf u1 u2 h1 h2=>⟨_,λw=>by rw[h1.bO,h2.bO,oL];simp[binOp,Op.intCmp,bne];all_goals rfl,.bool _⟩⟩
 case lss=>
  obtain⟨x,y,rfl,rfl,g⟩:=gj h;exact⟨_,g,λf u1 u2 h1 h2=>⟨_,λw=>by rw[h1.bO,h2.bO,xn];simp[binOp,Op.intCmp];all_goals rfl,.bool _⟩⟩
 case leq=>
  obtain⟨x,y,rfl,rfl,g⟩:=gj h;exact⟨_,g,λf u1 u2 h1 h2=>⟨.bool (decide (x≤y)),λw=>by rw[h1.bO,h2.bO];simp[binOp,Op.intCmp],by
   rw[xn,show(!decide (y<x))=decide (x≤y) by rw[Bool.eq_iff_iff];simp];exact .bool _⟩⟩
 case gtr=>
  obtain⟨x,y,rfl,rfl,g⟩:=gj h;exact⟨_,g,λf u1 u2 h1 h2=>⟨_,λw=>by rw[h1.bO,h2.bO,xn];simp[binOp,Op.intCmp];all_goals rfl,.bool _⟩⟩
 case geq=>
  obtain⟨x,y,rfl,rfl,g⟩:=gj h;exact⟨_,g,λf u1 u2 h1 h2=>⟨.bool (decide (y≥x)),λw=>by rw[h1.bO,h2.bO];simp[binOp,Op.intCmp],by
   rw[xn,show(!decide (y<x))=decide (y≥x) by rw[Bool.eq_iff_iff];simp];exact .bool _⟩⟩
theorem Uu{a b:AV}{k:Nat→Nat→Nat→Nat→Prop}(h:gy a λn x=>gy b λm y=>k n x m y):∃n x m y,a=.str n x∧b=.str m y∧k n x m y:=by
 obtain⟨n,x,ea,h⟩:=hV h;obtain⟨m,y,eb,h⟩:=hV h;exact⟨n,x,m,y,ea,eb,h⟩
theorem anP{op:BinOp}{t:TypeId}{a b:AV}{k:AV→Prop}(h:akj op a b k) :
  ∃v,k v∧∀f u1 u2,VR f a u1→VR f b u2→∃u,(∀w,(binOp op t u1 u2).run P w=.ok u w)∧VR f v u:=by
 cases op<;>try exact h.elim
 case add=>
  obtain⟨n,x,m,y,rfl,rfl,g⟩:=Uu h;rw[bw]at g;obtain⟨g0,g⟩:=aI g;rw[bw]at g;have hle:=Nat.le_of_ble_eq_true g0;refine⟨_,g,λf u1 u2 h1 h2=>?_⟩;obtain⟨rfl,hx⟩:=h1.jC;obtain⟨rfl,hy⟩:=h2.jC;refine⟨.string (fu n x++fu m y),λw=>?_,?_⟩
  ·have:n+m≤1099511627776:=hle;simp[binOp,Op.stringOp];omega
  ·rw[TB hx];exact .str _ _ (anO hx hy)
 all_goals
  obtain⟨n,x,m,y,rfl,rfl,g⟩:=Uu h;refine⟨_,g,λf u1 u2 h1 h2=>?_⟩;obtain⟨rfl,hx⟩:=h1.jC;obtain⟨rfl,hy⟩:=h2.jC;refine⟨_,λw=>?_,.bool _⟩;simp only[binOp,Op.stringOp,Sem.run_pure,Tw,Jw hx hy,ac0]
theorem MS(h:HRQ f H.sem w){b:Nat}(hd:f.dom b){c:Bt AV}{n:Nat}(hb:H.at b=.cells c n 0):∃cur e,w.heap[f.blk b]? = some (.cells cur e (0,0)):=by
 have:=h.cells hd hb;obtain⟨cur,e,lo,hi,h1,_,_,_,_,h6⟩:=this;obtain⟨rfl,rfl⟩:=h6 rfl;exact⟨cur,e,h1⟩
theorem Fv(h:HRQ f H.sem w){b c:Nat}(hd1:f.dom b)(hd2:f.dom c)(hne:b≠c){t1 t2:Bt AV}{n1 n2:Nat}(h1:H.at b=.cells t1 n1 0)(h2:H.at c=.cells t2 n2 0)(o1 o2:Nat) :
  (sameAddr ⟨f.blk b,o1,none⟩ ⟨f.blk c,o2,none⟩).run P w=.ok false w:=by
 obtain⟨u1,e1,g1⟩:=MS h hd1 h1;obtain⟨u2,e2,g2⟩:=MS h hd2 h2;have hbl:f.blk b≠f.blk c:=λe=>hne (h.inj b c hd1 hd2 (by rw[AH.bX,h1];rfl) (by rw[AH.bX,h2];rfl) e);simp[sameAddr,hbl,World.frozen?,g1,g2,noView,viewAt,World.shape?,mayBeOne,stringish]
theorem Uv{r:Bool}{e:TypeId}{t:TypeId}{i:TypeInfo}(ht:P.underlying t=some (.pointer e))(hi:P.info? e=some i)(hs:1≤i.size){a b:AV}{k:AV→Prop}(h:zg r a b H k) :
  ∃z,k (.bool (if z then r else !r))∧∀f w u1 u2,HRQ f H.sem w→VR f a u1→VR f b u2→∀d,(Op.equalIn (d+1) t u1 u2).run P w=.ok z w:=by
 have hs':¬(i.size=0):=by omega
 have hnn:∀w d,(Op.equalIn (d+1) t (.pointer none) (.pointer none)).run P w=.ok true w:=λw d=>by simp[Op.equalIn,run_underlying ht]
 unfold zg at h;split at h
 ·exact⟨true,h,λf w u1 u2 _ h1 h2 d=>by rw[h1.uE,h2.uE];exact hnn w d⟩
 ·exact⟨false,h,λf w u1 u2 _ h1 h2 d=>by rw[h1.uE,h2.fw.1];simp[Op.equalIn,run_underlying ht]⟩
 ·exact⟨false,h,λf w u1 u2 _ h1 h2 d=>by rw[h2.uE,h1.fw.1];simp[Op.equalIn,run_underlying ht]⟩
 ·rename_i b o b' o';rcases dW h with⟨hb,g⟩|⟨hb,g⟩
  ·have e:=Nat.eq_of_beq_eq_true hb;subst e;refine⟨Nat.beq o o',by cases hz:Nat.beq o o'<;>rw[hz]at g<;>exact g,λf w u1 u2 hr h1 h2 d=>?_⟩;rw[h1.fw.1,h2.fw.1];have hbq:Nat.beq o o'=((⟨f.blk b,f.off b+o,none⟩:Addr) == ⟨f.blk b,f.off b+o',none⟩):=by
    rw[Bool.eq_iff_iff];simp only[beq_iff_eq,Addr.mk.injEq,true_and,and_true,Nat.add_left_cancel_iff];exact⟨Nat.eq_of_beq_eq_true,λh=>by subst h;exact Nat.beq_refl o⟩
   simp[Op.equalIn,run_underlying ht,sizeOf,typeInfo,hi,hs',sameAddr,hbq]
  ·have hne:b≠b':=λe=>by subst e;rw[Nat.beq_refl]at hb;cases hb
   obtain⟨c1,n1,m1,e1,g⟩:=ef g;obtain⟨x1,g⟩:=aI g;obtain⟨c2,n2,m2,e2,g⟩:=ef g;obtain⟨x2,g⟩:=aI g;have y1:=Nat.eq_of_beq_eq_true x1;have y2:=Nat.eq_of_beq_eq_true x2;subst y1;subst y2;refine⟨false,g,λf w u1 u2 hr h1 h2 d=>?_⟩;have hd1:=h1.fw.2;have hd2:=h2.fw.2;rw[h1.fw.1,h2.fw.1];have:=Fv (P:=P) hr hd1 hd2 hne e1 e2 (f.off b+o) (f.off b'+o');simp[Op.equalIn,run_underlying ht,sizeOf,typeInfo,hi,hs',this]
 ·exact h.elim
end
section
variable {P:Program}
theorem fi{op:BinOp}{t:TypeId}{x y:Operand}{a b:Value}{w:World}(h1:a≠.nilIface∨b≠.nilIface)(h2:∀cs,a≠.agg cs):(eqGuard op t x y a b).run P w=.ok () w:=by
 cases a<;>cases b<;>first|(simp at h1;done)|(exact absurd rfl (h2 _))|(cases op<;>rfl)
theorem Ai{op:BinOp}{t:TypeId}{x y:Operand}{w:World}(h:wY y=true∨wY x=true):(eqGuard op t x y .nilIface .nilIface).run P w=.ok () w:=by
 rcases h with h|h
 ·cases y<;>first|(cases op<;>cases x<;>rfl)|(simp[wY]at h;done)
 ·cases x<;>first|(cases op<;>cases y<;>rfl)|(simp[wY]at h;done)
theorem Oy{x:Operand}(h:wY x=true):x=.const .nilIface:=by
 unfold wY at h;split at h;rfl;cases h
theorem Oz{x:Operand}(h:JB x=true):x=.const .nilFunc:=by
 unfold JB at h;split at h;rfl;cases h
theorem OA{x:Operand}(h:JC x=true):∃l c,x=.const (.slice none l c):=by
 unfold JC at h;split at h;exact⟨_,_,rfl⟩;cases h
theorem OB{x:Operand}(h:JD x=true):x=.const (.map none):=by
 unfold JD at h;split at h;rfl;cases h
theorem anQ{op:BinOp}{k:Bool→Prop}(h:MQ op k):(op=.eql∧k true)∨(op=.neq∧k false):=by
 cases op<;>first|exact .inl ⟨rfl,h⟩|exact .inr ⟨rfl,h⟩|exact h.elim
theorem akm{t:TypeId}{u1 u2:Value}(h:∀s,u1≠.string s)(h2:∀k n,u1≠.int k n)(h3:∀k n,u1≠.float k n)(h4:∀k n m,u1≠.complex k n m):binOp .eql t u1 u2=(do pure (.bool (←Op.equal t u1 u2))):=by
 cases u1<;>cases u2<;>first|rfl|(simp at h;done)|(simp at h2;done)|(simp at h3;done)|(simp at h4;done)
theorem akn{t:TypeId}{u1 u2:Value}(h:∀s,u1≠.string s)(h2:∀k n,u1≠.int k n)(h3:∀k n,u1≠.float k n)(h4:∀k n m,u1≠.complex k n m):binOp .neq t u1 u2=(do pure (.bool (!(←Op.equal t u1 u2)))):=by
 cases u1<;>cases u2<;>first|rfl|(simp at h;done)|(simp at h2;done)|(simp at h3;done)|(simp at h4;done)
theorem ac1(op:BinOp)(t:TypeId)(x y:Operand)(c:IntKind)(n:Int)(b:Value)(w:World):(eqGuard op t x y (.int c n) b).run P w=.ok () w:=fi (.inl (by simp)) (by simp)
theorem ac2(op:BinOp)(t:TypeId)(x y:Operand)(s:ByteArray)(b:Value)(w:World):(eqGuard op t x y (.string s) b).run P w=.ok () w:=fi (.inl (by simp)) (by simp)
theorem Fw(op:BinOp)(t:TypeId)(x y:Operand)(s:Bool)(b:Value)(w:World):(eqGuard op t x y (.bool s) b).run P w=.ok () w:=fi (.inl (by simp)) (by simp)
theorem ac3(op:BinOp)(t:TypeId)(x y:Operand)(s:Option Addr)(b:Value)(w:World):(eqGuard op t x y (.pointer s) b).run P w=.ok () w:=fi (.inl (by simp)) (by simp)
theorem rQ(op:BinOp)(t:TypeId)(x y:Operand)(s:Option Addr)(l c:Nat)(b:Value)(w:World):(eqGuard op t x y (.slice s l c) b).run P w=.ok () w:=fi (.inl (by simp)) (by simp)
theorem vS(op:BinOp)(t:TypeId)(x y:Operand)(s:Option Nat)(b:Value)(w:World):(eqGuard op t x y (.map s) b).run P w=.ok () w:=fi (.inl (by simp)) (by simp)
theorem Ew(op:BinOp)(t:TypeId)(x y:Operand)(b:Value)(w:World):(eqGuard op t x y .nilFunc b).run P w=.ok () w:=fi (.inl (by simp)) (by simp)
theorem WV(op:BinOp)(t:TypeId)(x y:Operand)(g:Fn)(c d:Array Value)(b:Value)(w:World):(eqGuard op t x y (.func g c d) b).run P w=.ok () w:=fi (.inl (by simp)) (by simp)
theorem TD(op:BinOp)(t:TypeId)(x y:Operand)(u:TypeId)(v b:Value)(w:World):(eqGuard op t x y (.iface u v) b).run P w=.ok () w:=fi (.inl (by simp)) (by simp)
theorem OC(op:BinOp)(t:TypeId)(x y:Operand)(u:TypeId)(v:Value)(w:World):(eqGuard op t x y .nilIface (.iface u v)).run P w=.ok () w:=fi (.inr (by simp)) (by simp)
def nd(P:Program)(op:BinOp)(t:TypeId)(x y:Operand)(a b:AV)(H:AH)(v:AV):Prop:=
 ∀f w u1 u2,HRQ f H.sem w→VR f a u1→VR f b u2→(∀v,x=.const v→u1=v)→(∀v,y=.const v→u2=v)→
  ∃u,(do eqGuard op t x y u1 u2;binOp op t u1 u2:Sem Value).run P w=.ok u w∧VR f v u
theorem JE{t:TypeId}{u1 u2:Value}{w:World}{z:Bool}(h:∀d,(Op.equalIn (d+1) t u1 u2).run P w=.ok z w)(h0:∀s,u1≠.string s)(h2:∀k n,u1≠.int k n)(h3:∀k n,u1≠.float k n)(h4:∀k n m,u1≠.complex k n m) :
  (binOp .eql t u1 u2).run P w=.ok (.bool z) w:=by
 have he:(Op.equal t u1 u2).run P w=.ok z w:=h 9999;rw[akm h0 h2 h3 h4];simp only[Sem.run_bind,he,Result.andThen_ok,Sem.run_pure]
theorem JF{t:TypeId}{u1 u2:Value}{w:World}{z:Bool}(h:∀d,(Op.equalIn (d+1) t u1 u2).run P w=.ok z w)(h0:∀s,u1≠.string s)(h2:∀k n,u1≠.int k n)(h3:∀k n,u1≠.float k n)(h4:∀k n m,u1≠.complex k n m) :
  (binOp .neq t u1 u2).run P w=.ok (.bool (!z)) w:=by
 have he:(Op.equal t u1 u2).run P w=.ok z w:=h 9999;rw[akn h0 h2 h3 h4];simp only[Sem.run_bind,he,Result.andThen_ok,Sem.run_pure]
theorem Uw{op:BinOp}{t:TypeId}{x y:Operand}{a b:AV}{H:AH}{k:AV→Prop}(ht:P.underlying t=some .bool)(h:(op=.eql∧aqQ a b k)∨(op=.neq∧aqR a b k)):∃v,k v∧nd P op t x y a b H v:=by
 have key:∀(z1 z2:Bool) (w:World) (d:Nat),(Op.equalIn (d+1) t (.bool z1) (.bool z2)).run P w=.ok (z1 == z2) w:=λz1 z2 w d=>by
  simp[Op.equalIn,run_underlying ht]
 rcases h with⟨rfl,h⟩|⟨rfl,h⟩
 ·rcases qc h with⟨rfl,h'⟩|⟨rfl,h'⟩<;>rcases qc h' with⟨rfl,g⟩|⟨rfl,g⟩ <;>
  ·refine⟨_,g,λf w u1 u2 hr h1 h2 _ _=>⟨_,?_,.bool _⟩⟩;rw[h1.pw,h2.pw,Sem.run_bind,Fw,Result.andThen_ok,JE (key _ _ w) (by simp) (by simp) (by simp) (by simp)];rfl
 ·rcases qc h with⟨rfl,h'⟩|⟨rfl,h'⟩<;>rcases qc h' with⟨rfl,g⟩|⟨rfl,g⟩ <;>
  ·refine⟨_,g,λf w u1 u2 hr h1 h2 _ _=>⟨_,?_,.bool _⟩⟩;rw[h1.pw,h2.pw,Sem.run_bind,Fw,Result.andThen_ok,JF (key _ _ w) (by simp) (by simp) (by simp) (by simp)];rfl
theorem aqS{op:BinOp}{r:Bool}{t e:TypeId}{i:TypeInfo}{x y:Operand}{a b:AV}{H:AH}{k:AV→Prop}(ht:P.underlying t=some (.pointer e))(hi:P.info? e=some i)(hs:1≤i.size)(hop:(op=.eql∧r=true)∨(op=.neq∧r=false))
  (h:zg r a b H k):∃v,k v∧nd P op t x y a b H v:=by
 obtain⟨z,g1,g2⟩:=Uv (P:=P) ht hi hs h;refine⟨_,g1,λf w u1 u2 hr h1 h2 _ _=>?_⟩;have hp:∃p,u1=.pointer p:=by
  unfold zg at h;split at h<;>first|exact⟨_,h1.uE⟩|exact⟨_,h1.fw.1⟩|exact h.elim
 obtain⟨p,rfl⟩:=hp;refine⟨_,?_,.bool _⟩;rw[Sem.run_bind,ac3,Result.andThen_ok];rcases hop with⟨rfl,rfl⟩|⟨rfl,rfl⟩
 ·rw[JE (g2 f w _ _ hr h1 h2) (by simp) (by simp) (by simp) (by simp)];cases z<;>rfl
 ·rw[JF (g2 f w _ _ hr h1 h2) (by simp) (by simp) (by simp) (by simp)];cases z<;>rfl
theorem kc{op:BinOp}{r z:Bool}{t:TypeId}{x y:Operand}{a b:AV}{H:AH}{k:AV→Prop}(hop:(op=.eql∧r=true)∨(op=.neq∧r=false))(hk:k (.bool (if z then r else !r)))
  (h:∀f w u1 u2,HRQ f H.sem w→VR f a u1→VR f b u2→(∀v,x=.const v→u1=v)→(∀v,y=.const v→u2=v)→((eqGuard op t x y u1 u2).run P w=.ok () w∧(∀d,(Op.equalIn (d+1) t u1 u2).run P w=.ok z w)∧
   (∀s,u1≠.string s)∧(∀k n,u1≠.int k n)∧(∀k n,u1≠.float k n)∧(∀k n m,u1≠.complex k n m))):∃v,k v∧nd P op t x y a b H v:=by
 refine⟨_,hk,λf w u1 u2 hr h1 h2 c1 c2=>⟨_,?_,.bool _⟩⟩;obtain⟨g0,g1,g2,g3,g4,g5⟩:=h f w u1 u2 hr h1 h2 c1 c2;rw[Sem.run_bind,g0,Result.andThen_ok];rcases hop with⟨rfl,rfl⟩|⟨rfl,rfl⟩
 ·rw[JE g1 g2 g3 g4 g5];cases z<;>rfl
 ·rw[JF g1 g2 g3 g4 g5];cases z<;>rfl
theorem anR{op:BinOp}{r:Bool}{t:TypeId}{ms:Array (String×TypeId)}{x y:Operand}{a b:AV}{H:AH}{k:AV→Prop}(hop:(op=.eql∧r=true)∨(op=.neq∧r=false))(ht:P.underlying t=some (.interface ms))
  (h:bI (wY y) (vQ r a k) (bT (wY x) (vQ r b k))):∃v,k v∧nd P op t x y a b H v:=by
 rcases dW h with⟨hy,h⟩|⟨_,h⟩
 ·have e:=Oy hy;cases a<;>try exact h.elim
  ·refine kc (z:=true) hop h (λf w u1 u2 hr h1 h2 c1 c2=>?_);have:=c2 _ e;subst this;cases h1;exact⟨Ai (.inl hy),λd=>by simp[Op.equalIn,run_underlying ht],by simp,by simp,by simp,by simp⟩
  ·refine kc (z:=false) hop h (λf w u1 u2 hr h1 h2 c1 c2=>?_);have:=c2 _ e;subst this;cases h1;exact⟨TD ..,λd=>by simp[Op.equalIn,run_underlying ht],by simp,by simp,by simp,by simp⟩
 ·obtain⟨hx,h⟩:=aI h;have e:=Oy hx;cases b<;>try exact h.elim
  ·refine kc (z:=true) hop h (λf w u1 u2 hr h1 h2 c1 c2=>?_);have:=c1 _ e;subst this;cases h2;exact⟨Ai (.inr hx),λd=>by simp[Op.equalIn,run_underlying ht],by simp,by simp,by simp,by simp⟩
  ·refine kc (z:=false) hop h (λf w u1 u2 hr h1 h2 c1 c2=>?_);have:=c1 _ e;subst this;cases h2;exact⟨OC ..,λd=>by simp[Op.equalIn,run_underlying ht],by simp,by simp,by simp,by simp⟩
theorem anS{op:BinOp}{r:Bool}{t:TypeId}{p q:Array TypeId}{v:Bool}{x y:Operand}{a b:AV}{H:AH}{k:AV→Prop}(hop:(op=.eql∧r=true)∨(op=.neq∧r=false))(ht:P.underlying t=some (.func p q v))
  (h:bI (JB y) (NO r a k) (bT (JB x) (NO r b k))):∃v,k v∧nd P op t x y a b H v:=by
 rcases dW h with⟨hy,h⟩|⟨_,h⟩
 ·have e:=Oz hy;cases a<;>try exact h.elim
  ·refine kc (z:=true) hop h (λf w u1 u2 hr h1 h2 c1 c2=>?_);have:=c2 _ e;subst this;cases h1;exact⟨Ew ..,λd=>by simp[Op.equalIn,run_underlying ht],by simp,by simp,by simp,by simp⟩
  ·refine kc (z:=false) hop h (λf w u1 u2 hr h1 h2 c1 c2=>?_);have:=c2 _ e;subst this;cases h1;exact⟨WV ..,λd=>by simp[Op.equalIn,run_underlying ht],by simp,by simp,by simp,by simp⟩
 ·obtain⟨hx,h⟩:=aI h;have e:=Oz hx;cases b<;>try exact h.elim
  ·refine kc (z:=true) hop h (λf w u1 u2 hr h1 h2 c1 c2=>?_);have:=c1 _ e;subst this;cases h2;exact⟨Ew ..,λd=>by simp[Op.equalIn,run_underlying ht],by simp,by simp,by simp,by simp⟩
  ·refine kc (z:=false) hop h (λf w u1 u2 hr h1 h2 c1 c2=>?_);have:=c1 _ e;subst this;cases h2;exact⟨Ew ..,λd=>by simp[Op.equalIn,run_underlying ht],by simp,by simp,by simp,by simp⟩
theorem anT{op:BinOp}{r:Bool}{t e0:TypeId}{x y:Operand}{a b:AV}{H:AH}{k:AV→Prop}(hop:(op=.eql∧r=true)∨(op=.neq∧r=false))(ht:P.underlying t=some (.slice e0))
  (h:bI (JC y) (NP r a k) (bT (JC x) (NP r b k))):∃v,k v∧nd P op t x y a b H v:=by
 rcases dW h with⟨hy,h⟩|⟨_,h⟩
 ·obtain⟨l,c,e⟩:=OA hy;cases a<;>try exact h.elim
  ·refine kc (z:=true) hop h (λf w u1 u2 hr h1 h2 c1 c2=>?_);have:=c2 _ e;subst this;cases h1;exact⟨rQ ..,λd=>by simp[Op.equalIn,run_underlying ht],by simp,by simp,by simp,by simp⟩
  ·refine kc (z:=false) hop h (λf w u1 u2 hr h1 h2 c1 c2=>?_);have:=c2 _ e;subst this;cases h1;exact⟨rQ ..,λd=>by simp[Op.equalIn,run_underlying ht],by simp,by simp,by simp,by simp⟩
 ·obtain⟨hx,h⟩:=aI h;obtain⟨l,c,e⟩:=OA hx;cases b<;>try exact h.elim
  ·refine kc (z:=true) hop h (λf w u1 u2 hr h1 h2 c1 c2=>?_);have:=c1 _ e;subst this;cases h2;exact⟨rQ ..,λd=>by simp[Op.equalIn,run_underlying ht],by simp,by simp,by simp,by simp⟩
  ·refine kc (z:=false) hop h (λf w u1 u2 hr h1 h2 c1 c2=>?_);have:=c1 _ e;subst this;cases h2;exact⟨rQ ..,λd=>by simp[Op.equalIn,run_underlying ht],by simp,by simp,by simp,by simp⟩
theorem anU{op:BinOp}{r:Bool}{t k0 e0:TypeId}{x y:Operand}{a b:AV}{H:AH}{k:AV→Prop}(hop:(op=.eql∧r=true)∨(op=.neq∧r=false))(ht:P.underlying t=some (.map k0 e0))
  (h:bI (JD y) (NQ r a k) (bT (JD x) (NQ r b k))):∃v,k v∧nd P op t x y a b H v:=by
 rcases dW h with⟨hy,h⟩|⟨_,h⟩
 ·have e:=OB hy;cases a<;>try exact h.elim
  ·refine kc (z:=true) hop h (λf w u1 u2 hr h1 h2 c1 c2=>?_);have:=c2 _ e;subst this;cases h1;exact⟨vS ..,λd=>by simp[Op.equalIn,run_underlying ht],by simp,by simp,by simp,by simp⟩
  ·refine kc (z:=false) hop h (λf w u1 u2 hr h1 h2 c1 c2=>?_);have:=c2 _ e;subst this;cases h1;exact⟨vS ..,λd=>by simp[Op.equalIn,run_underlying ht],by simp,by simp,by simp,by simp⟩
 ·obtain⟨hx,h⟩:=aI h;have e:=OB hx;cases b<;>try exact h.elim
  ·refine kc (z:=true) hop h (λf w u1 u2 hr h1 h2 c1 c2=>?_);have:=c1 _ e;subst this;cases h2;exact⟨vS ..,λd=>by simp[Op.equalIn,run_underlying ht],by simp,by simp,by simp,by simp⟩
  ·refine kc (z:=false) hop h (λf w u1 u2 hr h1 h2 c1 c2=>?_);have:=c1 _ e;subst this;cases h2;exact⟨vS ..,λd=>by simp[Op.equalIn,run_underlying ht],by simp,by simp,by simp,by simp⟩
theorem tI{op:BinOp}{k:Bool→Prop}(h:MQ op k):∃r,((op=.eql∧r=true)∨(op=.neq∧r=false))∧k r:=by
 rcases anQ h with⟨e,h⟩|⟨e,h⟩
 ·exact⟨true,.inl ⟨e,rfl⟩,h⟩
 ·exact⟨false,.inr ⟨e,rfl⟩,h⟩
theorem anV{op:BinOp}{t:TypeId}{x y:Operand}{a b:AV}{H:AH}{k:AV→Prop}(h:akk P op t x y a b H k):∃v,k v∧nd P op t x y a b H v:=by
 unfold akk at h;split at h
 ·rename_i q ht;obtain⟨v,g1,g2⟩:=Ut (P:=P) (t:=t) h;refine⟨v,g1,λf w u1 u2 hr h1 h2 _ _=>?_⟩;obtain⟨u,g3,g4⟩:=g2 f u1 u2 h1 h2;refine⟨u,?_,g4⟩;have hu:∃c n,u1=.int c n:=by
   by_cases hq:∃c n,a=.int c n
   ·obtain⟨c,n,rfl⟩:=hq;exact⟨_,_,h1.bO⟩
   ·by_cases hop:op=.rem
    ·subst hop;rcases Oq h with h|⟨m,r,e1,_⟩|⟨m,r,e1,_⟩
     ·obtain⟨x,y,e,_⟩:=gj h;exact absurd ⟨_,_,e⟩ hq
     ·rw[e1]at h1;cases h1;exact⟨_,_,rfl⟩
     ·rw[e1]at h1;cases h1;exact⟨_,_,rfl⟩
    exfalso;cases op<;>try exact absurd rfl hop
    all_goals simp only[aki,aqC,aqD,aqE,aqF,WR,aqG,pOr,WS,Um,Ot,aqI,pEq,pNe,pLt,pLe,two]at h
    all_goals
     obtain⟨c,n,e,h'⟩:=fC h
     first
      |exact hq ⟨c,n,e⟩
      |(obtain⟨c,n,e,_⟩:=fC h';exact hq ⟨c,n,e⟩)
  obtain⟨c,n,rfl⟩:=hu;rw[Sem.run_bind,ac1,Result.andThen_ok,g3 w]
 ·rename_i ht;obtain⟨v,g1,g2⟩:=anP (P:=P) (t:=t) h;refine⟨v,g1,λf w u1 u2 hr h1 h2 _ _=>?_⟩;obtain⟨u,g3,g4⟩:=g2 f u1 u2 h1 h2;refine⟨u,?_,g4⟩;have hu:∃s,u1=.string s:=by
   by_cases hq:∃c n,a=.str c n
   ·obtain⟨c,n,rfl⟩:=hq;exact⟨_,h1.jC.1⟩
   ·exfalso;cases op<;>simp only[akj,aqL,pF,Uq,aqM,aqN,aqO,aqP]at h
    all_goals
     obtain⟨c,n,e,h'⟩:=hV h;exact hq ⟨c,n,e⟩
  obtain⟨s,rfl⟩:=hu;rw[Sem.run_bind,ac2,Result.andThen_ok,g3 w]
 ·rename_i ht;cases op<;>try exact h.elim
  ·exact Uw ht (.inl ⟨rfl,h⟩)
  ·exact Uw ht (.inr ⟨rfl,h⟩)
 ·rename_i e ht;split at h
  ·rename_i i hi;obtain⟨hs,h⟩:=aI h;obtain⟨r,hop,h⟩:=tI h;exact aqS ht hi (Nat.le_of_ble_eq_true hs) hop h
  ·exact h.elim
 ·rename_i ms ht;obtain⟨r,hop,h⟩:=tI h;exact anR hop ht h
 ·rename_i ht;obtain⟨r,hop,h⟩:=tI h;exact anS hop ht h
 ·rename_i ht;obtain⟨r,hop,h⟩:=tI h;exact anT hop ht h
 ·rename_i ht;obtain⟨r,hop,h⟩:=tI h;exact anU hop ht h
 ·exact h.elim
end
noncomputable section
def sW(P:Program)(t:TypeId):Bool:=match P.underlying t with|some (.struct _)=>true|some (.array _ _)=>true|_=>false
def NR(P:Program)(t:TypeId)(a:AV)(H:AH)(k:AV→Prop):Prop:=
 match P.underlying t,P.info? t with
 |some _,some i=>bI (sW P t) (aF i.size a H k) (ak a H k)
 |_,_=>False
def rU(P:Program)(t:TypeId)(a v:AV)(H:AH)(k:AH→Prop):Prop:=
 match P.info? t with
 |some i=>ae i.size a v H k
 |none=>False
def cx(P:Program)(nw:Lay)(t:TypeId)(k:AV→AH→Prop):Prop:=
 match P.info? t with
 |some i=>(match i.zero with|some z=>onVal (iO z) λl=>gE nw l k|none=>False)
 |none=>False
def JG(nw:Lay)(v:AV)(k:AV→AH→Prop):Prop:=onVal v λl=>gE nw l k
def dV(l:List AV)(n:Nat)(x:Prop):Prop:=@List.rec AV (λ_=>Nat→Prop) (λn=>bT (Nat.beq n 0) x) (λ_ _ ih n=>@Nat.rec (λ_=>Prop) False (λm _=>ih m) n) l n
def spl:List AV→List AV→Nat→List AV
 |[],cs,_=>cs
 |a::l,cs,o=>spl l (cs.set o a) (Nat.succ o)
def uG(place:Nat→Option (Nat×Nat×Bool))(n:Nat):List (Nat×AV)→List AV→(List AV→Prop)→Prop
 |[],cs,k=>k cs
 |(i,v)::r,cs,k=>
  match place i with
  |some (o,sz,sc)=>bT (Nat.ble (Nat.add o sz) n) (bI sc (bT (Nat.beq sz 1) (one v (uG place n r (cs.set o v) k))) (onVal v λl=>dV l sz (uG place n r (spl l cs o) k)))
  |none=>False
def wZ(P:Program)(fs:Array Field)(i:Nat):Option (Nat×Nat×Bool):=
 match fs[i]? with
 |some fd=>(match P.info? fd.type with|some inf=>some (fd.offset,inf.size,!(sW P fd.type))|none=>none)
 |none=>none
def zh(sz:Nat)(sc:Bool)(i:Nat):Option (Nat×Nat×Bool):=some (Nat.mul i sz,sz,sc)
def nk:Nat→List AV→List AV
 |0,_=>[]
 |n+1,z=>z++nk n z
def zeroCells(P:Program)(t:TypeId):Option (List AV):=
 match P.info? t with
 |some i=>(match i.zero with|some z=>(match iO z with|.df=>none|.aY _=>none|a=>some a.cells)|none=>none)
 |none=>none
def OD(P:Program)(t:TypeId)(parts:List (Nat×AV))(k:AV→Prop):Prop:=
 match P.underlying t,zeroCells P t with
 |some (.struct fs),some z=>uG (wZ P fs) z.length parts z λcs=>k (.agg cs)
 |_,_=>False
def JH(P:Program)(nw:Lay)(t:TypeId)(len:Nat)(parts:List (Nat×AV))(k:AV→AH→Prop):Prop:=
 match P.underlying t with
 |some (.slice e)=>(match P.info? e,zeroCells P e with
  |some i,some z=>bT (Nat.ble 1 i.size) (bT (Nat.beq z.length i.size) (bT (Nat.ble (Nat.mul len i.size) 16777216) (uG (zh i.size (!(sW P e))) (Nat.mul len i.size) parts (nk len z) λcs=>aN nw len i.size cs k)))
  |_,_=>False)
 |_=>False
def ako(P:Program)(t:TypeId)(a:AV)(i:Nat)(k:AV→Prop):Prop:=
 match P.underlying t with
 |some (.struct fs)=>(match fs[i]? with
  |some fd=>(match P.info? fd.type with|some inf=>bT (Nat.ble 1 inf.size) (al fd.offset a k)|none=>False)
  |none=>False)
 |_=>False
def Ex(P:Program)(t:TypeId)(a i:AV)(k:AV→Prop):Prop:=
 match P.underlying t with
 |some (.slice e)=>(match P.info? e with|some inf=>cK inf.size a i k|none=>False)
 |some (.array n e)=>(match P.info? e with|some inf=>BK n inf.size a i k|none=>False)
 |_=>False
def eA(a:AV)(k:List AV→Prop):Prop:=match a with|.aY cs=>k cs|_=>False
def cX(l:List AV):Nat→(AV→Prop)→Prop:=@List.rec AV (λ_=>Nat→(AV→Prop)→Prop) (λ_ _=>False) (λa _ ih n k=>@Nat.rec (λ_=>Prop) (k a) (λm _=>ih m k) n) l
def OE(a:AV)(i:Nat)(k:AV→Prop):Prop:=eA a λl=>cX l i k
def akp:Nat→Nat→List AV→(List AV→Prop)→Prop
 |0,_,_,k=>k []
 |n+1,o,l,k=>cX l o λa=>akp n (Nat.succ o) l λr=>k (a::r)
def NS(P:Program)(t:TypeId)(l:List AV)(o:Nat)(k:AV→Prop):Prop:=
 match P.underlying t,P.info? t with
 |some _,some i=>bI (sW P t) (akp i.size o l λr=>k (.agg r)) (cX l o k)
 |_,_=>False
def OF(P:Program)(t:TypeId)(a:AV)(i:Nat)(k:AV→Prop):Prop:=
 match P.underlying t with
 |some (.struct fs)=>(match fs[i]? with|some fd=>gz a λl=>NS P fd.type l fd.offset k|none=>False)
 |_=>False
def OG(P:Program)(t:TypeId)(a i:AV)(k:AV→Prop):Prop:=
 match P.underlying t with
 |some .string=>dE a i k
 |some (.array n e)=>(match P.info? e with|some inf=>nZ i λ_ j=>bT (Nat.ble (Nat.succ j) n) (gz a λl=>bM (Nat.mul j inf.size) λo=>NS P e l o k)|none=>False)
 |_=>False
def lW(x:Option AV)(d:Nat)(k:Nat→Prop):Prop:=match x with|none=>k d|some a=>nZ a λ_ n=>k n
def ac4(sz:Nat)(a:AV)(lo hi mx:Option AV)(k:AV→Prop):Prop:=
 qQ a
  (λk=>lW lo 0 λl=>lW hi 0 λh=>lW mx 0 λm=>bT (Nat.beq l 0) (bT (Nat.beq h 0) (bT (Nat.beq m 0) (k .ab))))
  (λb o len cap sz' ex k=>bT (Nat.beq sz sz') (lW mx cap λm=>lW hi len λh=>lW lo 0 λl=>
   bT (Nat.ble l h) (bT (Nat.ble h m) (bT (Nat.ble m cap) (bM (Nat.add o (Nat.mul l sz)) λo'=>bM (Nat.sub h l) λn=>bM (Nat.sub m l) λc=>k (.slice b o' n c sz (ex||mx.isSome))))))) k
def Ux(n sz:Nat)(a:AV)(lo hi mx:Option AV)(k:AV→Prop):Prop:=
 oc a λb o=>lW mx n λm=>lW hi n λh=>lW lo 0 λl=>
   bT (Nat.ble l h) (bT (Nat.ble h m) (bT (Nat.ble m n) (bM (Nat.add o (Nat.mul l sz)) λo'=>bM (Nat.sub h l) λn=>bM (Nat.sub m l) λc=>k (.slice b o' n c sz true))))
def eO(a:AV)(lo hi:Option AV)(k:AV→Prop):Prop:=gy a λn _=>lW hi n λh=>lW lo 0 λl=>aqK a l h k
def OH(P:Program)(t:TypeId)(a:AV)(lo hi mx:Option AV)(k:AV→Prop):Prop:=
 match P.underlying t with
 |some .string=>bT mx.isNone (eO a lo hi k)
 |some (.slice e)=>(match P.info? e with|some inf=>bT (mx.isNone||hi.isSome) (ac4 inf.size a lo hi mx k)|none=>False)
 |some (.array n e)=>(match P.info? e with|some inf=>bT (mx.isNone||hi.isSome) (Ux n inf.size a lo hi mx k)|none=>False)
 |_=>False
end
theorem qR{P:Program}{t:TypeId}{d:TypeDesc}(h:P.underlying t=some d)(w:World):(isAgg t).run P w=.ok (sW P t) w:=by
 unfold isAgg sW;rw[h];cases d<;>simp[run_underlying h]
theorem OI:∀(l:List AV) (n:Nat) (x:Prop),dV l n x→l.length=n∧x
 |[],n,x,h=>by obtain⟨h1,h2⟩:=aI h;exact⟨(Nat.eq_of_beq_eq_true h1).symm,h2⟩
 |a::l,n,x,h=>by
  cases n with
  |zero=>exact h.elim
  |succ n=>obtain⟨h1,h2⟩:=OI l n x h;exact⟨by simp[h1],h2⟩
theorem qS:∀(l:List AV) (n:Nat) (k:AV→Prop),cX l n k→∃a,l[n]? = some a∧k a
 |[],n,k,h=>h.elim
 |a::l,n,k,h=>by
  cases n with
  |zero=>exact⟨a,rfl,h⟩
  |succ n=>obtain⟨b,h1,h2⟩:=qS l n k h;exact⟨b,by simpa using h1,h2⟩
theorem OJ:∀(n o:Nat) (l:List AV) (k:List AV→Prop),akp n o l k→∃r,r=(l.drop o).take n∧r.length=n∧k r
 |0,o,l,k,h=>⟨[],by simp,rfl,h⟩
 |n+1,o,l,k,h=>by
  obtain⟨a,ha,h⟩:=qS _ _ _ h;obtain⟨r,h1,h2,h3⟩:=OJ n (o+1) l _ h;refine⟨a::r,?_,by simp[h2],h3⟩;rw[h1];have hlt:o<l.length:=by
   rcases Nat.lt_or_ge o l.length with h|h
   ·exact h
   ·rw[List.getElem?_eq_none h]at ha;cases ha
  rw[List.drop_eq_getElem_cons hlt,List.take_succ_cons];rw[List.getElem?_eq_getElem hlt]at ha;injection ha with ha;rw[ha]
theorem vU{x:Option AV}{d:Nat}{k:Nat→Prop}(h:lW x d k):(x=none∧k d)∨∃c n,x=some (.int c (.ofNat n))∧k n:=by
 cases x with
 |none=>exact .inl ⟨rfl,h⟩
 |some a=>obtain⟨c,n,rfl,h⟩:=jL h;exact .inr ⟨c,n,rfl,h⟩
theorem ac5{a:AV}{k:List AV→Prop}(h:eA a k):∃cs,a=.aY cs∧k cs:=by
 cases a with
 |aY cs=>exact⟨cs,rfl,h⟩
 |_=>exact h.elim
theorem Fx:∀(l cs:List AV) (o:Nat),(spl l cs o).length=cs.length
 |[],_,_=>rfl
 |a::l,cs,o=>by rw[spl,Fx l];simp
section
variable {P:Program}
theorem OK{t:TypeId}{a:AV}{H:AH}{k:AV→Prop}(h:NR P t a H k) :
  ∃v,k v∧∀f w u,HRQ f H.sem w→VR f a u→∃r,(Instr.loadAt t u).run P w=.ok r w∧VR f v r:=by
 unfold NR at h;split at h
 ·rename_i d i hd hi;rcases dW h with⟨hg,h⟩|⟨hg,h⟩
  ·obtain⟨b,o,rfl,h⟩:=nF h;obtain⟨c,n,m,hb,h⟩:=ef h;obtain⟨l,h1,h2,h3⟩:=pG _ _ _ _ h;refine⟨_,h3,λf w u hr hu=>?_⟩;obtain⟨vs,g1,g2,g3,g4⟩:=vP (P:=P) hr hu.fw.2 hb h2;refine⟨.agg vs.toArray,?_,.agg _ _ g1⟩;rw[hu.fw.1];rw[h1]at g4;simp[Instr.loadAt,Instr.sureAddr,loadVar,qR hd,hg,sizeOf,typeInfo,hi,g4]
  ·obtain⟨b,o,rfl,h⟩:=nF h;obtain⟨c,n,m,hb,h⟩:=ef h;obtain⟨v,h1,h2⟩:=Bt.ef _ _ _ h;refine⟨_,h2,λf w u hr hu=>?_⟩;obtain⟨r,g1,g2⟩:=hr.cell hu.fw.2 hb h1;refine⟨r,?_,g2⟩;rw[hu.fw.1];simp[Instr.loadAt,Instr.sureAddr,loadVar,qR hd,hg,g1]
 ·exact h.elim
theorem oe{f:aO}{H:AH}{w:World}(hr:HR f H w){b:Nat}(hd:f.dom b){c:Bt AV}{n m:Nat}(hb:H.at b=.cells c n m)(hm:m<2){o:Nat}{l:List AV}(hl:o+l.length≤n){vs:List Value}(hv:VL f l vs)(h1:∀a∈l,a.one=true) :
  (storeCells ⟨f.blk b,f.off b+o,none⟩ vs).run P w=.ok () (Go.X.setCells w (f.blk b) (f.off b+o) vs):=by
 have hlen:=hv.length;have:=uC P vs w (f.blk b) (f.off b+o) 0 (hv.oneCell h1) (λj hj=>by
  rw[Nat.add_zero,Nat.add_assoc];exact⟨hr.toHRQ.there hd hb (by omega),hr.toHRQ.notFrozen hd hb hm (by omega)⟩)
 simpa using this
structure xo(P:Program)(t:TypeId)(p v:AV)(H H':AH):Prop where
 n:H'.n=H.n
 at':∃b o inf c m q c',p=.ptr b o∧P.info? t=some inf∧H.at b=.cells c m q∧H'.at b=.cells c' m q∧v.cells.length=inf.size∧
  (∀k,k<inf.size→c'.get? (o+k)=v.cells[k]?)∧(∀k,(k<o∨o+inf.size≤k)→c'.get? k=c.get? k)∧∀b',b'≠b→H'.at b'=H.at b'
theorem MT{t:TypeId}{a v:AV}{H:AH}{k:AH→Prop}(h:rU P t a v H k) :
  ∃H',k H'∧xo P t a v H H'∧∀f w u x,HR f H w→VR f a u→VR f v x→∃w',(Instr.storeAt t u x).run P w=.ok () w'∧Step f H w f H' w':=by
 unfold rU at h;split at h
 ·rename_i i hi;obtain⟨b,o,rfl,h⟩:=nF h;obtain⟨h,hp,ht⟩:=vO h;obtain⟨c,n,m,hb,h⟩:=ef h;obtain⟨hm,h⟩:=aI h;obtain⟨c',h,h1,h2,h3⟩:=fX _ _ _ _ h;obtain⟨h4,h⟩:=aI h;obtain⟨h5,h⟩:=aI h;have e4:o+v.cells.length=o+i.size:=Nat.eq_of_beq_eq_true h4;have e5:=Nat.le_of_ble_eq_true h5;have em:=Nat.le_of_ble_eq_true hm;obtain⟨H',g1,g2,g3,g4⟩:=hH h;refine⟨H',g1,⟨g2,b,o,i,c,n,m,c',rfl,hi,hb,g3,by omega,λk hk=>h2 k (by omega),λk hk=>h3 k (by omega),g4⟩,λf w u x hr hu hx=>?_⟩;have hv:=hx.cells hp;refine⟨_,?_,hr.setCells hu.fw.2 hb (by omega) e5 hv H' g2 g3 g4 h2 h3⟩;rw[hu.fw.1];have hlen:=hv.length;have hsz:x.cells.size=i.size:=by rw[←Array.length_toList,←hlen];omega
  have:=oe (P:=P) hr hu.fw.2 hb (by omega) e5 hv h1;simp[Instr.storeAt,Instr.sureAddr,storeVar,sizeOf,typeInfo,hi,hsz,this]
 ·exact h.elim
theorem Uy{nw:Lay}{l:List AV}{k:AV→AH→Prop}(h:gE nw l k) :
  ∃o,nw o (λb H'=>k (.ptr b 0) H')∧o.sem.own=true∧∀f w vs e,VL f l vs→nG f w o (λb=>.ptr b 0) (.pointer (some ⟨w.heap.size,0,none⟩)) (.cells vs.toArray e):=by
 obtain⟨c,h,h1,h2,h3⟩:=fX _ _ _ _ h;simp only[Nat.zero_add]at h h2 h3;refine⟨_,h,rfl,λf w vs e hv=>?_⟩;have:=ze (w:=w) hv h2 (λj hj=>by rw[h3 j (by omega)];rfl) [] e (vf:=λb=>.ptr b 0) (r:=.pointer (some ⟨w.heap.size,0,none⟩)) (λi hi=>VR.MP (aO.pC _ _ _ _ _) (by rw[aO.iC,aO.jB]));simpa using this
theorem ac6{nw:Lay}{t:TypeId}{k:AV→AH→Prop}(h:cx P nw t k) :
  ∃o vf,nw o (λb H'=>k (vf b) H')∧o.sem.own=true∧∀(f:aO) w,∃r obj,(Instr.alloc t true (.tuple #[])).run P w=.ok r (w.alloc obj)∧nG f w o vf r obj:=by
 unfold cx at h;split at h
 ·rename_i i hi;split at h
  ·rename_i z hz;obtain⟨h,hp,_⟩:=vO h;obtain⟨o,g1,g0,g2⟩:=Uy h;refine⟨o,_,g1,g0,λf w=>?_⟩;refine⟨_,_,?_,g2 f w z.cells.toList t ((pH f z).cells hp)⟩;simp[Instr.alloc,zeroValue,typeInfo,hi,hz,newVar,newRow]
  ·exact h.elim
 ·exact h.elim
theorem anW{nw:Lay}{t:TypeId}{a:AV}{k:AV→AH→Prop}(h:JG nw a k) :
  ∃o vf,nw o (λb H'=>k (vf b) H')∧o.sem.own=true∧∀(f:aO) w u,VR f a u→∃r obj,(Instr.box t u).run P w=.ok r (w.alloc obj)∧nG f w o vf r obj:=by
 obtain⟨h,hp,_⟩:=vO h;obtain⟨o,g1,g0,g2⟩:=Uy h;refine⟨o,_,g1,g0,λf w u hu=>?_⟩;refine⟨_,_,?_,g2 f w u.cells.toList t (hu.cells hp)⟩;simp[Instr.box,newVar,newRow]
theorem anX{t:TypeId}{a:AV}{i:Nat}{k:AV→Prop}(h:ako P t a i k) :
  ∃v,k v∧∀f u,VR f a u→∃r,(∀w,(Instr.fieldAt t u i).run P w=.ok r w)∧VR f v r:=by
 unfold ako at h;split at h
 ·rename_i fs ht;split at h
  ·rename_i fd hfd;split at h
   ·rename_i inf hi;obtain⟨h0,h⟩:=aI h;have e0:=Nat.le_of_ble_eq_true h0;have e1:¬(inf.size=0):=by omega
    obtain⟨b,o,rfl,g⟩:=nF h;rw[bw]at g;refine⟨_,g,λf u hu=>?_⟩;obtain⟨rfl,hb⟩:=hu.fw;refine⟨.pointer (some ⟨f.blk b,f.off b+(o+fd.offset),none⟩),λw=>?_,.ptr b _ hb⟩;simp[Instr.fieldAt,run_underlying ht,hfd,Instr.sureAddr,fieldPlace,sizeOf,typeInfo,hi,e1,addr_add,Nat.add_assoc]
   ·exact h.elim
  ·exact h.elim
 ·exact h.elim
theorem TE{a:AV}{i:Nat}{k:AV→Prop}(h:OE a i k) :
  ∃v,k v∧∀f u,VR f a u→∃r,(∀w,(Instr.extract u i).run P w=.ok r w)∧VR f v r:=by
 obtain⟨cs,rfl,h⟩:=ac5 h;obtain⟨v,h1,h2⟩:=qS _ _ _ h;refine⟨v,h2,λf u hu=>?_⟩;cases hu with
 |aY as vs hv=>
  obtain⟨r,g1,g2⟩:=hv.get i v h1;exact⟨r,λw=>by simp[Instr.extract,g1],g2⟩
theorem OL{t:TypeId}{l:List AV}{o:Nat}{k:AV→Prop}(h:NS P t l o k) :
  ∃v,k v∧∀f vs,VL f l vs→∃r,(∀w,(part t vs.toArray o).run P w=.ok r w)∧VR f v r:=by
 unfold NS at h;split at h
 ·rename_i d i hd hi;rcases dW h with⟨hg,h⟩|⟨hg,h⟩
  ·obtain⟨r,h1,h2,h3⟩:=OJ _ _ _ _ h;refine⟨_,h3,λf vs hv=>⟨.agg (vs.toArray.extract o (o+i.size)),λw=>?_,?_⟩⟩
   ·simp[part,qR hd,hg,sizeOf,typeInfo,hi]
   ·have e:vs.toArray.extract o (o+i.size)=((vs.drop o).take i.size).toArray:=by
     apply Array.ext';simp
    rw[e,h1];exact .agg _ _ ((hv.drop o).take i.size)
  ·obtain⟨v,h1,h2⟩:=qS _ _ _ h;refine⟨v,h2,λf vs hv=>?_⟩;obtain⟨r,g1,g2⟩:=hv.get o v h1;exact⟨r,λw=>by simp[part,qR hd,hg,g1],g2⟩
 ·exact h.elim
theorem ac7{t:TypeId}{a:AV}{i:Nat}{k:AV→Prop}(h:OF P t a i k) :
  ∃v,k v∧∀f u,VR f a u→∃r,(∀w,(Instr.field t u i).run P w=.ok r w)∧VR f v r:=by
 unfold OF at h;split at h
 ·rename_i fs ht;split at h
  ·rename_i fd hfd;obtain⟨l,rfl,h⟩:=ML h;obtain⟨v,g1,g2⟩:=OL h;refine⟨v,g1,λf u hu=>?_⟩;cases hu with
   |agg as vs hv=>
    obtain⟨r,g3,g4⟩:=g2 f vs hv;exact⟨r,λw=>by simp[Instr.field,run_underlying ht,hfd,asAgg,g3 w],g4⟩
  ·exact h.elim
 ·exact h.elim
theorem ac8{t:TypeId}{a i:AV}{k:AV→Prop}(h:OG P t a i k) :
  ∃v,k v∧∀f u x,VR f a u→VR f i x→∃r,(∀w,(Instr.index t u x).run P w=.ok r w)∧VR f v r:=by
 unfold OG at h;split at h
 ·rename_i ht;obtain⟨n,y,rfl,h⟩:=hV h;obtain⟨c,j,rfl,h⟩:=jL h;obtain⟨hj,h⟩:=aI h;have ej:=Nat.le_of_ble_eq_true hj;rw[bw]at h;refine⟨_,h,λf u x hu hx=>?_⟩;obtain⟨rfl,hy⟩:=hu.jC;rw[hx.bO];have hb:=MN y j;refine⟨.int .u8 (.ofNat (byteAt y j)),λw=>?_,?_⟩
  ·have e1:(fu n y)[j]? = some (UInt8.ofNat (byteAt y j)):=Ou (by omega);simp[Instr.index,asIntOf,run_underlying ht,e1];omega
  ·exact VR.int 1 _
 ·rename_i n e ht;split at h
  ·rename_i inf hi;obtain⟨c,j,rfl,h⟩:=jL h;obtain⟨hj,h⟩:=aI h;have ej:=Nat.le_of_ble_eq_true hj;obtain⟨l,rfl,g⟩:=ML h;rw[bw]at g;obtain⟨v,g1,g2⟩:=OL g;refine⟨v,g1,λf u x hu hx=>?_⟩;rw[hx.bO];cases hu with
   |agg as vs hv=>
    obtain⟨r,g3,g4⟩:=g2 f vs hv;refine⟨r,λw=>?_,g4⟩;have e0:(0:Int)≤Int.ofNat j∧Int.ofNat j<(n:Int):=⟨Int.natCast_nonneg j,by have:j<n:=ej;exact Int.ofNat_lt.2 this⟩
    have e1:(Int.ofNat j).toNat=j:=rfl;have e2:j*inf.size=Nat.mul j inf.size:=rfl;simp only[Instr.index,asIntOf,Sem.run_bind,Sem.run_pure,Result.andThen_ok,run_underlying ht,Sem.run_ite,if_pos e0,sizeOf,typeInfo,run_program,hi,e1,e2,g3 w]
  ·exact h.elim
 ·exact h.elim
theorem anY{t e:TypeId}{inf:TypeInfo}(ht:P.underlying t=some (.slice e))(hi:P.info? e=some inf){a i:AV}{k:AV→Prop}(h:cK inf.size a i k) :
  ∃v,k v∧∀f u x,VR f a u→VR f i x→∃r,(∀w,(Instr.indexAt t u x).run P w=.ok r w)∧VR f v r:=by
 rcases im h with⟨_,h⟩|⟨b,o,len,cap,sz,ex,rfl,h⟩
 ·exact h.elim
 ·obtain⟨c,j,rfl,h⟩:=jL h;obtain⟨hj,h⟩:=aI h;obtain⟨_,h⟩:=aI h;have ej:=Nat.le_of_ble_eq_true hj;rw[bw]at h;refine⟨_,h,λf u x hu hx=>?_⟩;rw[hx.bO];cases hu with
  |slice _ _ _ _ _ _ cap' y hb h1 h2 h3 h4=>
   have hy:=h3 (by omega);subst hy;refine⟨.pointer (some ⟨f.blk b,f.off b+(o+j*inf.size),none⟩),λw=>?_,.ptr b _ hb⟩;have e0:(0:Int)≤Int.ofNat j∧Int.ofNat j<(len:Int):=⟨Int.natCast_nonneg j,Int.ofNat_lt.2 ej⟩
   have e1:(Int.ofNat j).toNat=j:=rfl;simp only[Instr.indexAt,asIntOf,Sem.run_bind,Sem.run_pure,Result.andThen_ok,run_underlying ht,Sem.run_ite,if_pos e0,sizeOf,typeInfo,run_program,hi,e1,addr_add,Nat.add_assoc]
theorem akq{t e:TypeId}{n:Nat}{inf:TypeInfo}(ht:P.underlying t=some (.array n e))(hi:P.info? e=some inf){a i:AV}{k:AV→Prop}(h:BK n inf.size a i k) :
  ∃v,k v∧∀f u x,VR f a u→VR f i x→∃r,(∀w,(Instr.indexAt t u x).run P w=.ok r w)∧VR f v r:=by
 obtain⟨b,o,rfl,h⟩:=nF h;obtain⟨c,j,rfl,h⟩:=jL h;obtain⟨hj,h⟩:=aI h;have ej:=Nat.le_of_ble_eq_true hj;rw[bw]at h;refine⟨_,h,λf u x hu hx=>?_⟩;rw[hx.bO];obtain⟨rfl,hb⟩:=hu.fw;refine⟨.pointer (some ⟨f.blk b,f.off b+(o+j*inf.size),none⟩),λw=>?_,.ptr b _ hb⟩;have e0:(0:Int)≤Int.ofNat j∧Int.ofNat j<(n:Int):=⟨Int.natCast_nonneg j,Int.ofNat_lt.2 ej⟩
 have e1:(Int.ofNat j).toNat=j:=rfl;simp only[Instr.indexAt,Instr.sureAddr,asIntOf,Sem.run_bind,Sem.run_pure,Result.andThen_ok,run_underlying ht,Sem.run_ite,if_pos e0,sizeOf,typeInfo,run_program,hi,e1,addr_add,Nat.add_assoc]
theorem TF{t:TypeId}{a i:AV}{k:AV→Prop}(h:Ex P t a i k) :
  ∃v,k v∧∀f u x,VR f a u→VR f i x→∃r,(∀w,(Instr.indexAt t u x).run P w=.ok r w)∧VR f v r:=by
 unfold Ex at h;split at h
 ·rename_i e ht;split at h
  ·rename_i inf hi;exact anY ht hi h
  ·exact h.elim
 ·rename_i n e ht;split at h
  ·rename_i inf hi;exact akq ht hi h
  ·exact h.elim
 ·exact h.elim
inductive BR(f:aO):Option AV→Option Value→Prop
 |none:BR f none none
 |some (a:AV) (v:Value):VR f a v→BR f (some a) (some v)
theorem lr{c:IntKind}{n y:Nat}{code:BoundsCode}(h:n≤y)(w:World):(Instr.sliceBound (.int c (n:Int)) y code).run P w=.ok n w:=by
 have e0:(0:Int)≤(n:Int)∧(n:Int)≤(y:Int):=⟨Int.natCast_nonneg n,Int.ofNat_le.2 h⟩
 simp only[Instr.sliceBound,asIntOf,Sem.run_bind,Sem.run_pure,Result.andThen_ok,Sem.run_ite,if_pos e0];rfl
theorem tj{f:aO}{s:Bool}{len cap l h m:Nat}{lo hi mx:Option AV}{lo' hi' mx':Option Value}(bl:BR f lo lo')(bh:BR f hi hi')(bm:BR f mx mx')
  (el:(lo=none∧l=0)∨∃c,lo=some (.int c (.ofNat l))) (eh:(hi=none∧h=len)∨∃c,hi=some (.int c (.ofNat h))) (em:(mx=none∧m=cap)∨∃c,mx=some (.int c (.ofNat m)))
  (Uz:mx.isNone=true∨hi.isSome=true) (h1:l≤h) (h2:h≤m) (h3:m≤cap) (w:World) :
  (Instr.sliceBounds s len cap lo' hi' mx').run P w=.ok (l,h,m) w:=by
 have inv:∀{a:AV}{v:Value} {c n},VR f a v→a=.int c (.ofNat n)→v=.int (kd c) (n:Int):=λhv e=>by subst e;exact hv.bO
 unfold Instr.sliceBounds;rcases em with⟨rfl,rfl⟩|⟨c3,rfl⟩
 ·cases bm;rcases eh with⟨rfl,rfl⟩|⟨c2,rfl⟩
  ·cases bh;rcases el with⟨rfl,rfl⟩|⟨c1,rfl⟩
   ·cases bl;rfl
   ·cases bl with
    |some a v hv=>have e:=inv hv rfl;subst e;simp[lr h1]
  ·cases bh with
   |some a v hv=>
    have e:=inv hv rfl;subst e;rcases el with⟨rfl,rfl⟩|⟨c1,rfl⟩
    ·cases bl;simp[lr h2]
    ·cases bl with
     |some a v hv=>have e:=inv hv rfl;subst e;simp[lr h1,lr h2]
 ·cases bm with
  |some a v hv=>
   have e:=inv hv rfl;subst e;rcases eh with⟨rfl,rfl⟩|⟨c2,rfl⟩
   ·simp at Uz
   ·cases bh with
    |some a v hv=>
     have e:=inv hv rfl;subst e;rcases el with⟨rfl,rfl⟩|⟨c1,rfl⟩
     ·cases bl;simp[lr h2,lr h3]
     ·cases bl with
      |some a v hv=>have e:=inv hv rfl;subst e;simp[lr h1,lr h2,lr h3]
theorem ac9{t e:TypeId}{inf:TypeInfo}(ht:P.underlying t=some (.slice e))(hi:P.info? e=some inf){a:AV}{lo hi0 mx:Option AV}{k:AV→Prop}(Uz:mx.isNone=true∨hi0.isSome=true)(h:ac4 inf.size a lo hi0 mx k) :
  ∃v,k v∧∀f u lo' hi' mx',VR f a u→BR f lo lo'→BR f hi0 hi'→BR f mx mx'→∃r,(∀w,(Instr.sliceAt t u lo' hi' mx').run P w=.ok r w)∧VR f v r:=by
 rcases lY h with⟨rfl,g⟩|⟨b,o,len,cap,sz,ex,rfl,g⟩
 ·have z:∀{x:Option AV}{k:Nat→Prop},lW x 0 k→∃n,k n∧((x=none∧n=0)∨∃c,x=some (.int c (.ofNat n))):=λh=>by
   rcases vU h with⟨e,h⟩|⟨c,n,e,h⟩
   ·exact⟨0,h,.inl ⟨e,rfl⟩⟩
   ·exact⟨n,h,.inr ⟨c,e⟩⟩
  obtain⟨l,g,el⟩:=z g;obtain⟨h',g,eh⟩:=z g;obtain⟨m,g,em⟩:=z g;obtain⟨z1,g⟩:=aI g;obtain⟨z2,g⟩:=aI g;obtain⟨z3,g⟩:=aI g;have z1:=Nat.eq_of_beq_eq_true z1;have z2:=Nat.eq_of_beq_eq_true z2;have z3:=Nat.eq_of_beq_eq_true z3;subst z1;subst z2;subst z3;refine⟨_,g,λf u lo' hi' mx' hu bl bh bm=>?_⟩;cases hu;refine⟨.slice none 0 0,λw=>?_,.ab⟩;have:=tj (P:=P) (s:=true) (len:=0) (cap:=0) bl bh bm el eh em Uz (Nat.le_refl _) (Nat.le_refl _) (Nat.le_refl _) w;simp[Instr.sliceAt,run_underlying ht,Instr.slice,this,sizeOf,typeInfo,hi]
 ·obtain⟨zs,g0⟩:=aI g;have zs:=Nat.eq_of_beq_eq_true zs;clear h g;subst zs;have g:=g0;have z:∀{x:Option AV}{d:Nat}{k:Nat→Prop},lW x d k→∃n,k n∧((x=none∧n=d)∨∃c,x=some (.int c (.ofNat n))):=λ{x d k} h=>by
   rcases vU h with⟨e,h⟩|⟨c,n,e,h⟩
   ·exact⟨d,h,.inl ⟨e,rfl⟩⟩
   ·exact⟨n,h,.inr ⟨c,e⟩⟩
  obtain⟨m,g,em⟩:=z g;obtain⟨h',g,eh⟩:=z g;obtain⟨l,g,el⟩:=z g;obtain⟨z1,g⟩:=aI g;obtain⟨z2,g⟩:=aI g;obtain⟨z3,g⟩:=aI g;have z1:=Nat.le_of_ble_eq_true z1;have z2:=Nat.le_of_ble_eq_true z2;have z3:=Nat.le_of_ble_eq_true z3;rw[bw,bw,bw]at g;refine⟨_,g,λf u lo' hi' mx' hu bl bh bm=>?_⟩;cases hu with
  |slice _ _ _ _ _ _ cap' y hb h1 h2 h3 h4=>
   obtain⟨m',em',hm1,hm2,hm3⟩:∃m',((mx=none∧m'=cap')∨∃c,mx=some (.int c (.ofNat m')))∧m≤m'∧m'≤cap'∧(mx.isSome=true→m'=m):=by
    rcases em with⟨rfl,rfl⟩|⟨c,rfl⟩
    ·exact⟨cap',.inl ⟨rfl,rfl⟩,h2,Nat.le_refl _,λh=>by cases h⟩
    ·exact⟨m,.inr ⟨c,rfl⟩,Nat.le_refl _,by omega,λ_=>rfl⟩
   have hb2:=λw=>tj (P:=P) (s:=true) (len:=len) (cap:=cap') bl bh bm el eh em' Uz z1 (by omega) hm2 w;refine⟨.slice (some (if m'=l then ⟨f.blk b,y,none⟩ else ⟨f.blk b,y+l*inf.size,none⟩)) (h'-l) (m'-l),λw=>?_,?_⟩
   ·simp only[Instr.sliceAt,Sem.run_bind,run_underlying ht,Result.andThen_ok,Instr.slice,hb2 w,sizeOf,typeInfo,run_program,hi,Sem.run_pure,Option.map_some,addr_add];split<;>rfl
   ·have hadd:(if m'=l then (⟨f.blk b,y,none⟩:Addr) else ⟨f.blk b,y+l*inf.size,none⟩)=⟨f.blk b,if m'=l then y else y+l*inf.size,none⟩:=by split<;>rfl
    rw[hadd];refine .slice b _ _ _ _ _ _ _ hb (Nat.sub_le_sub_right z2 l) (Nat.sub_le_sub_right hm1 l) (λhpos=>?_) (λhlt=>?_)
    ·have hne:¬(m'=l):=by omega
     rw[if_neg hne,h3 (by omega)];exact Nat.add_assoc _ _ _
    ·have hlt':m<m':=by
      have hq:m-l<m'-l:=hlt;omega
     have hmx:mx=none:=by
      rcases em with⟨rfl,_⟩|⟨c,rfl⟩
      ·rfl
      ·have:=hm3 rfl;omega
     subst hmx;have aqT:m=cap:=by rcases em with⟨_,e⟩|⟨c,e⟩;exact e;cases e
     have axj:m'=cap':=by rcases em' with⟨_,e⟩|⟨c,e⟩;exact e;cases e
     obtain⟨hex,hlim⟩:=h4 (by omega);refine⟨by simp[hex],?_⟩
     change o+l*inf.size+(m'-l)*inf.size≤f.lim b
     rw[Nat.add_assoc,←Nat.add_mul,show l+(m'-l)=cap' by omega];exact hlim
theorem WW{t e:TypeId}{n0:Nat}{inf:TypeInfo}(ht:P.underlying t=some (.array n0 e))(hi:P.info? e=some inf){a:AV}{lo hi0 mx:Option AV}{k:AV→Prop}(Uz:mx.isNone=true∨hi0.isSome=true)(h:Ux n0 inf.size a lo hi0 mx k) :
  ∃v,k v∧∀f u lo' hi' mx',VR f a u→BR f lo lo'→BR f hi0 hi'→BR f mx mx'→∃r,(∀w,(Instr.sliceAt t u lo' hi' mx').run P w=.ok r w)∧VR f v r:=by
 obtain⟨b,o,rfl,g⟩:=nF h;have z:∀{x:Option AV}{d:Nat}{k:Nat→Prop},lW x d k→∃n,k n∧((x=none∧n=d)∨∃c,x=some (.int c (.ofNat n))):=λ{x d k} h=>by
  rcases vU h with⟨e,h⟩|⟨c,n,e,h⟩
  ·exact⟨d,h,.inl ⟨e,rfl⟩⟩
  ·exact⟨n,h,.inr ⟨c,e⟩⟩
 obtain⟨m,g,em⟩:=z g;obtain⟨h',g,eh⟩:=z g;obtain⟨l,g,el⟩:=z g;obtain⟨z1,g⟩:=aI g;obtain⟨z2,g⟩:=aI g;obtain⟨z3,g⟩:=aI g;have z1:=Nat.le_of_ble_eq_true z1;have z2:=Nat.le_of_ble_eq_true z2;have z3:=Nat.le_of_ble_eq_true z3;rw[bw,bw,bw]at g;refine⟨_,g,λf u lo' hi' mx' hu bl bh bm=>?_⟩;obtain⟨rfl,hb⟩:=hu.fw;have hb2:=λw=>tj (P:=P) (s:=false) (len:=n0) (cap:=n0) bl bh bm el eh em Uz z1 z2 z3 w;refine⟨.slice (some (if m=l then ⟨f.blk b,f.off b+o,none⟩ else ⟨f.blk b,f.off b+o+l*inf.size,none⟩)) (h'-l) (m-l),λw=>?_,?_⟩
 ·simp only[Instr.sliceAt,Instr.sureAddr,Sem.run_bind,run_underlying ht,Result.andThen_ok,hb2 w,sizeOf,typeInfo,run_program,hi,Sem.run_pure,addr_add]
 ·have hadd:(if m=l then (⟨f.blk b,f.off b+o,none⟩:Addr) else ⟨f.blk b,f.off b+o+l*inf.size,none⟩)=⟨f.blk b,if m=l then f.off b+o else f.off b+o+l*inf.size,none⟩:=by split<;>rfl
  rw[hadd];refine .slice b _ _ _ _ _ _ _ hb (Nat.sub_le_sub_right z2 l) (Nat.le_refl _) (λhpos=>?_) (λhlt=>absurd hlt (Nat.lt_irrefl _));have hne:¬(m=l):=by omega
  rw[if_neg hne];exact Nat.add_assoc _ _ _
theorem WX{t:TypeId}(ht:P.underlying t=some .string){a:AV}{lo hi0:Option AV}{k:AV→Prop}(h:eO a lo hi0 k) :
  ∃v,k v∧∀f u lo' hi',VR f a u→BR f lo lo'→BR f hi0 hi'→∃r,(∀w,(Instr.sliceAt t u lo' hi' none).run P w=.ok r w)∧VR f v r:=by
 obtain⟨n,x,rfl,g⟩:=hV h;have z:∀{x:Option AV}{d:Nat}{k:Nat→Prop},lW x d k→∃n,k n∧((x=none∧n=d)∨∃c,x=some (.int c (.ofNat n))):=λ{x d k} h=>by
  rcases vU h with⟨e,h⟩|⟨c,n,e,h⟩
  ·exact⟨d,h,.inl ⟨e,rfl⟩⟩
  ·exact⟨n,h,.inr ⟨c,e⟩⟩
 obtain⟨h',g,eh⟩:=z g;obtain⟨l,g,el⟩:=z g;obtain⟨n2,x2,e,g⟩:=hV g;injection e with e1 e2;subst e1;subst e2;obtain⟨z1,g⟩:=aI g;obtain⟨z2,g⟩:=aI g;have z1:=Nat.le_of_ble_eq_true z1;have z2:=Nat.le_of_ble_eq_true z2;rw[bw,bw]at g;refine⟨_,g,λf u lo' hi' hu bl bh=>?_⟩;obtain⟨rfl,hx⟩:=hu.jC;have hb2:=λw=>tj (P:=P) (s:=false) (len:=n) (cap:=n) (m:=n) (mx:=none) bl bh .none el eh (.inl ⟨rfl,rfl⟩) (.inl rfl) z1 z2 (Nat.le_refl _) w;refine⟨.string ((fu n x).extract l h'),λw=>?_,?_⟩
 ·simp[Instr.sliceAt,run_underlying ht,Instr.slice,hb2 w]
 ·rw[Ov n x l h' z1 z2];exact .str _ _ (anN _ _ _)
theorem ada{t:TypeId}{a:AV}{lo hi0 mx:Option AV}{k:AV→Prop}(h:OH P t a lo hi0 mx k) :
  ∃v,k v∧∀f u lo' hi' mx',VR f a u→BR f lo lo'→BR f hi0 hi'→BR f mx mx'→∃r,(∀w,(Instr.sliceAt t u lo' hi' mx').run P w=.ok r w)∧VR f v r:=by
 unfold OH at h;split at h
 ·rename_i ht;obtain⟨hm,h⟩:=aI h;cases mx with
  |some _=>cases hm
  |none=>
   obtain⟨v,g1,g2⟩:=WX ht h;exact⟨v,g1,λf u lo' hi' mx' hu bl bh bm=>by cases bm;exact g2 f u lo' hi' hu bl bh⟩
 ·rename_i e ht;split at h
  ·rename_i inf hi;obtain⟨hm,h⟩:=aI h;exact ac9 ht hi (by simpa using hm) h
  ·exact h.elim
 ·rename_i n e ht;split at h
  ·rename_i inf hi;obtain⟨hm,h⟩:=aI h;exact WW ht hi (by simpa using hm) h
  ·exact h.elim
 ·exact h.elim
end
section
variable {P:Program}
theorem AV.cells_one{a:AV}(h:a.one=true):a.cells=[a]:=by cases a<;>first|rfl|cases h
theorem Fy:∀(vs:List Value) (c:Array Value) (o k:Nat),(vs.zipIdx k).foldl (λcs (x:Value×Nat)=>cs.setIfInBounds (o+x.2) x.1) c=pt c (o+k) vs
 |[],_,_,_=>rfl
 |v::vs,c,o,k=>by
  rw[List.zipIdx_cons,List.foldl_cons,Fy vs _ o (k+1),pt];rfl
theorem akr(v:Array Value)(c:Array Value)(o:Nat):(v.zipIdx.foldl (λcs (x:Value×Nat)=>cs.setIfInBounds (o+x.2) x.1) c)=pt c o v.toList:=by
 rw[←Array.foldl_toList,Array.toList_zipIdx,Fy];simp
theorem VL.spl{f:aO}:∀{l:List AV}{us:List Value}{cs:List AV}{c:Array Value}(o:Nat),VL f l us→VL f cs c.toList→VL f (Go.X.spl l cs o) (pt c o us).toList
 |_,_,_,_,_,.nil,h=>h
 |_,_,_,_,o,.cons a v as vs h1 h2,h=>by
  rw[Go.X.spl,pt];exact VL.spl (o+1) h2 (by rw[Array.toList_setIfInBounds];exact h.set o a v h1)
theorem zi{place:Nat→Option (Nat×Nat×Bool)}{place':Nat→Option (Nat×Nat)}{n:Nat}(hp:∀i o sz sc,place i=some (o,sz,sc)→place' i=some (o,sz)){ρ:Operand→AV} :
  ∀(ps:List (Nat×Operand)) (cs:List AV) (k:List AV→Prop),uG place n (ps.map λx=>(x.1,ρ x.2)) cs k→cs.length=n→∃cs',k cs'∧cs'.length=n∧
   ∀(f:aO) (ev:Operand→Value) (c:Array Value),VL f cs c.toList→(∀x∈ps,VR f (ρ x.2) (ev x.2))→∃c',Instr.fill place' c (ps.map λx=>(x.1,ev x.2))=some c'∧VL f cs' c'.toList
 |[],cs,k,h,hn=>⟨cs,h,hn,λf ev c hc _=>⟨c,rfl,hc⟩⟩
 |(i,x)::ps,cs,k,h,hn=>by
  simp only[List.map_cons,uG]at h;split at h
  ·rename_i o sz sc hpl;obtain⟨h0,h⟩:=aI h;have e0:o+sz≤n:=Nat.le_of_ble_eq_true h0;have key:∀(l:List AV),l.length=sz→(∀f u,VR f (ρ x) u→VL f l u.cells.toList)→uG place n (ps.map λx=>(x.1,ρ x.2)) (Go.X.spl l cs o) k→
     ∃cs',k cs'∧cs'.length=n∧∀(f:aO) (ev:Operand→Value) (c:Array Value),VL f cs c.toList→(∀x'∈(i,x)::ps,VR f (ρ x'.2) (ev x'.2))→
      ∃c',Instr.fill place' c (((i,x)::ps).map λx=>(x.1,ev x.2))=some c'∧VL f cs' c'.toList:=λl hl hlv h=>by
    obtain⟨cs',g1,g2,g3⟩:=zi hp ps _ k h (by rw[Fx];exact hn);refine⟨cs',g1,g2,λf ev c hc hx=>?_⟩;have hu:=hlv f (ev x) (hx (i,x) (by simp));have hlen:=hu.length;obtain⟨c',g4,g5⟩:=g3 f ev (pt c o (ev x).cells.toList) (VL.spl o hu hc) (λy hy=>hx y (by simp[hy]));refine⟨c',?_,g5⟩;have hcl:=hc.length;have s1:(ev x).cells.size=sz:=by rw[←Array.length_toList,←hlen,hl]
    have s2:¬(o+(ev x).cells.size>c.size):=by rw[s1,←Array.length_toList,←hcl,hn];omega
    simp only[List.map_cons,Instr.fill,hp _ _ _ _ hpl];rw[if_neg (by simp only[Bool.or_eq_true,decide_eq_true_eq,not_or];exact⟨by simp[s1],s2⟩)];rw[akr];exact g4
   rcases dW h with⟨_,h⟩|⟨_,h⟩
   ·obtain⟨h1,h⟩:=aI h;obtain⟨h2,h⟩:=Ul h;refine key [ρ x] (Nat.eq_of_beq_eq_true h1).symm (λf u hu=>?_) h;have:=hu.cells (by intro e;rw[e]at h2;cases h2)
    rwa [AV.cells_one h2]at this
   ·obtain⟨h,hp1,hp2⟩:=vO h;obtain⟨h3,h⟩:=OI _ _ _ h;exact key _ h3 (λf u hu=>hu.cells hp1) h
  ·exact h.elim
theorem lh{t:TypeId}{l:List AV}(h:zeroCells P t=some l):∃i z,P.info? t=some i∧i.zero=some z∧∀f,VL f l z.cells.toList:=by
 unfold zeroCells at h;split at h
 ·rename_i i hi;split at h
  ·rename_i z hz;refine⟨i,z,hi,hz,λf=>?_⟩;have hv:=pH f z;split at h
   ·cases h
   ·cases h
   ·rename_i hp ht;injection h with h;subst h;exact hv.cells hp
  ·cases h
 ·cases h
theorem uH{fs:Array Field}(w:World):∀(l:List Field),(∀fd∈l,∃i,P.info? fd.type=some i)→
  (l.mapM λf=>(do pure (f.offset,←sizeOf f.type):Sem (Nat×Nat))).run P w=.ok (l.map λfd=>(fd.offset,((P.info? fd.type).map (·.size)).getD 0)) w
 |[],_=>by simp
 |fd::l,h=>by
  obtain⟨i,hi⟩:=h fd (by simp);have ih:=uH (fs:=fs) w l (λx hx=>h x (by simp[hx]));simp only[List.mapM_cons,Sem.run_bind,sizeOf,typeInfo,run_program,Result.andThen_ok,hi,Sem.run_pure];simp only[sizeOf,typeInfo]at ih;rw[ih];simp[hi]
def OM(P:Program)(fs:Array Field):Bool:=fs.toList.all λfd=>(P.info? fd.type).isSome
theorem adb{t:TypeId}{ps:List (Nat×Operand)}{ρ:Operand→AV}{fs:Array Field}(ht:P.underlying t=some (.struct fs))(hf:OM P fs=true){k:AV→Prop}(h:OD P t (ps.map λx=>(x.1,ρ x.2)) k) :
  ∃v,k v∧∀(f:aO) (ev:Operand→Value),(∀x∈ps,VR f (ρ x.2) (ev x.2))→∃r,(∀w,(Instr.build t (ps.map λx=>(x.1,ev x.2)).toArray).run P w=.ok r w)∧VR f v r:=by
 unfold OD at h;rw[ht]at h;split at h
 ·rename_i fs' z e hz;injection e with e;injection e with e;subst e;obtain⟨i,zv,hi,hzv,hzl⟩:=lh hz;have hall:∀fd∈fs.toList,∃i,P.info? fd.type=some i:=λfd hfd=>by
   have:=List.all_eq_true.1 hf fd hfd;exact Option.isSome_iff_exists.1 this
  have ON:∀i o sz sc,wZ P fs i=some (o,sz,sc)→(fs.toList.map λfd=>(fd.offset,((P.info? fd.type).map (·.size)).getD 0))[i]? = some (o,sz):=λi o sz sc hp=>by
   unfold wZ at hp;split at hp
   ·rename_i fd hfd;split at hp
    ·rename_i inf avd;injection hp with hp;injection hp with e1 e2;injection e2 with e2 e3;subst e1;subst e2;rw[List.getElem?_map];have:fs.toList[i]? = some fd:=by simpa using hfd
     simp[this,avd]
    ·cases hp
   ·cases hp
  obtain⟨cs',g1,g2,g3⟩:=zi ON ps z _ h rfl;refine⟨_,g1,λf ev hev=>?_⟩;obtain⟨c',g4,g5⟩:=g3 f ev zv.cells (hzl f) hev;refine⟨.agg c',λw=>?_,?_⟩
  ·have hm:(fs.mapM λf=>(do pure (f.offset,←sizeOf f.type):Sem (Nat×Nat))).run P w=.ok (fs.toList.map λfd=>(fd.offset,((P.info? fd.type).map (·.size)).getD 0)).toArray w:=by
    have:=uH (P:=P) (fs:=fs) w fs.toList hall;rw[Array.mapM_eq_mapM_toList];simp only[Sem.run_map,this,Result.andThen_ok]
   simp only[Instr.build,Sem.run_bind,zeroValue,typeInfo,run_program,Result.andThen_ok,hi,Sem.run_pure,hzv,run_underlying ht,hm,List.getElem?_toArray,g4]
  ·have:c'=c'.toList.toArray:=rfl;rw[this];exact .agg _ _ g5
 ·exact h.elim
end
section
variable {P:Program}
theorem VL.nk{f:aO}{z:List AV}{u:List Value}(h:VL f z u):∀n,VL f (nk n z) (List.flatten (List.replicate n u))
 |0=>.nil
 |n+1=>by
  rw[Go.X.nk,List.replicate_succ,List.flatten_cons];exact h.append (VL.nk h n)
theorem w6(z:List AV):∀n,(nk n z).length=n*z.length
 |0=>by simp[nk]
 |n+1=>by rw[nk,List.length_append,w6 z n,Nat.add_mul];omega
theorem flat_get{α:Type}(u:List α)(n i:Nat)(h:i<n*u.length):(List.flatten (List.replicate n u))[i]? = u[i%u.length]?:=by
 induction n generalizing i with
 |zero=>simp at h
 |succ n ih=>
  rw[List.replicate_succ,List.flatten_cons];by_cases hi:i<u.length
  ·rw[List.getElem?_append_left hi,Nat.mod_eq_of_lt hi]
  ·rw[List.getElem?_append_right (by omega),ih _ (by rw[Nat.add_mul]at h;omega)];congr 1
   conv=>rhs;rw[show i=(i-u.length)+u.length by omega]
   rw[Nat.add_mod_right]
theorem og(u:Array Value)(n:Nat)(h:0<u.size):((Array.range (n*u.size)).map (λi=>u[i%u.size]!))=(List.flatten (List.replicate n u.toList)).toArray:=by
 apply Array.ext';simp only[Array.toList_map,Array.toList_range];apply List.ext_getElem?;intro i;by_cases hi:i<n*u.size
 ·rw[List.getElem?_map,List.getElem?_range hi];have:=flat_get u.toList n i (by simpa using hi);rw[this];have hm:i%u.size<u.size:=Nat.mod_lt _ h;simp[hm]
 ·rw[List.getElem?_eq_none (by simp;omega),List.getElem?_eq_none (by simp;omega)]
theorem aks{nw:Lay}{n sz:Nat}{l:List AV}{k:AV→AH→Prop}(h:aN nw n sz l k) :
  ∃o,nw o (λb H'=>k (.slice b 0 n n sz true) H')∧o.sem.own=true∧l.length=n*sz∧∀f w vs e,VL f l vs→nG f w o (λb=>.slice b 0 n n sz true) (.slice (some ⟨w.heap.size,0,none⟩) n n) (.cells vs.toArray e):=by
 obtain⟨c,h,h1,h2,h3⟩:=fX _ _ _ _ h;obtain⟨hm,h⟩:=aI h;have em:0+l.length=n*sz:=Nat.eq_of_beq_eq_true hm;simp only[Nat.zero_add]at h h2 h3 em;refine⟨_,h,rfl,em,λf w vs e hv=>?_⟩;have:=ze (w:=w) hv h2 (λj hj=>by rw[h3 j (by omega)];rfl) [] e (vf:=λb=>.slice b 0 n n sz true) (r:=.slice (some ⟨w.heap.size,0,none⟩) n n) (λi hi=>by
  have:=VR.slice (f:=f.ext i w.heap.size 0 (vs++[]).length) i 0 n n sz true n 0 (aO.pC _ _ _ _ _) (Nat.le_refl _) (Nat.le_refl _) (λ_=>by rw[aO.jB]) (λh=>absurd h (Nat.lt_irrefl _));rw[aO.iC]at this;exact this)
 simpa using this
theorem WY{nw:Lay}{t:TypeId}{len:Nat}{ps:List (Nat×Operand)}{ρ:Operand→AV}{k:AV→AH→Prop}(h:JH P nw t len (ps.map λx=>(x.1,ρ x.2)) k) :
  ∃o vf,nw o (λb H'=>k (vf b) H')∧o.sem.own=true∧∀(f:aO) (w:World) (ev:Operand→Value),(∀x∈ps,VR f (ρ x.2) (ev x.2))→∃r obj,(Instr.buildSlice t len (ps.map λx=>(x.1,ev x.2)).toArray).run P w=.ok r (w.alloc obj)∧nG f w o vf r obj:=by
 unfold JH at h;split at h
 ·rename_i e ht;split at h
  ·rename_i i z hi hz;obtain⟨h1,h⟩:=aI h;obtain⟨h2,h⟩:=aI h;obtain⟨h3,h⟩:=aI h;have e1:=Nat.le_of_ble_eq_true h1;have e2:=Nat.eq_of_beq_eq_true h2;have e3:len*i.size≤16777216:=Nat.le_of_ble_eq_true h3;obtain⟨i',zv,hi',hzv,hzl⟩:=lh hz;rw[hi]at hi';injection hi' with hi';subst hi';have ON:∀j o sz sc,zh i.size (!(sW P e)) j=some (o,sz,sc)→(λj=>some (j*i.size,i.size):Nat→Option (Nat×Nat)) j=some (o,sz):=λj o sz sc hp=>by
    unfold zh at hp;injection hp with hp;injection hp with a1 a2;injection a2 with a2 a3;subst a1;subst a2;rfl
   have hlen:(nk len z).length=len*i.size:=by rw[w6,e2]
   obtain⟨cs',g1,g2,g3⟩:=zi ON ps (nk len z) _ h hlen;obtain⟨o',g4,g0,g5,g6⟩:=aks g1;refine⟨o',_,g4,g0,λf w ev hev=>?_⟩;have ave:zv.cells.size=i.size:=by
    have h1:=(hzl f).length;have h2:zv.cells.toList.length=zv.cells.size:=Array.length_toList;omega
   obtain⟨c',g7,g8⟩:=g3 f ev ((Array.range (len*i.size)).map (λj=>zv.cells[j%zv.cells.size]!)) (by
    rw[←ave,og zv.cells len (by omega)];exact(hzl f).nk len) hev
   refine⟨_,_,?_,g6 f w c'.toList e g8⟩;by_cases hl0:len=0
   ·subst hl0;have hc0:c'.size=0:=by
     have:=g8.length;rw[g2,Array.length_toList]at this;simp at this;omega
    have hc1:c' = #[]:=Array.eq_empty_of_size_eq_zero hc0;subst hc1;have hr0:(Array.range (0*i.size)) = #[]:=by rw[Nat.zero_mul];rfl
    rw[hr0]at g7;have g7':Instr.fill (λj=>some (j*i.size,i.size)) #[] (ps.map λx=>(x.1,ev x.2))=some #[]:=by simpa using g7
    have hr1:(Array.range 0) = #[]:=rfl;simp[Instr.buildSlice,run_underlying ht,sizeOf,typeInfo,hi,hr1,g7',newRow]
   ·have n1:¬(2^24<len*i.size):=by omega
    have n2:¬(len*i.size=0):=by
     rw[Nat.mul_eq_zero];omega
    have n3:¬(len=0∨i.size=0):=by omega
    simp only[Instr.buildSlice,Sem.run_bind,run_underlying ht,Result.andThen_ok,sizeOf,typeInfo,run_program,hi,Sem.run_pure,gt_iff_lt,n1,if_false,n2,zeroValue,hzv,g7,newRow,run_newObj];rfl
  ·exact h.elim
 ·exact h.elim
theorem Fz{sz n:Nat}{s:AV}{H:AH}{k:List AV→Prop}(h:cellsOf sz n s H k) :
  ∃l,k l∧(s=.ab→l=[])∧(s≠.ab→l.length=n*sz)∧∀f w u,HRQ f H.sem w→VR f s u→∃vs,VL f l vs∧∀w':World,w'.heap=w.heap→(Builtin.firstCells sz n u).run P w'=.ok vs.toArray w':=by
 rcases lY h with⟨rfl,h⟩|⟨b,o,len,cap,sz',ex,rfl,h⟩
 ·exact⟨[],h,λ_=>rfl,λh=>absurd rfl h,λf w u hr hu=>by cases hu;exact⟨[],.nil,λw' _=>by simp[Builtin.firstCells]⟩⟩
 ·obtain⟨hn,h⟩:=aI h;have en:=Nat.le_of_ble_eq_true hn;obtain⟨_,h⟩:=aI h;obtain⟨c,m,q,hb,h⟩:=ef h;obtain⟨l,h1,h2,h3⟩:=pG _ _ _ _ h;have h1':l.length=n*sz:=h1;refine⟨l,h3,λe=>(by cases e),λ_=>h1',λf w u hr hu=>?_⟩;cases hu with
  |slice _ _ _ _ _ _ cap' y hb1 a1 a2 a3 a4=>
   by_cases hl:l.length=0
   ·have:l=[]:=List.eq_nil_of_length_eq_zero hl;subst this;have hz:n*sz=0:=by omega
    exact⟨[],.nil,λw' _=>by simp[Builtin.firstCells,hz,loadCells,loadCellsFrom]⟩
   ·have hn0:n≠0:=λe=>by subst e;rw[Nat.zero_mul]at h1';exact hl h1'
    have hy:=a3 (by omega);subst hy;obtain⟨vs,g1,g2,g3,g4⟩:=vP (P:=P) hr hb1 hb h2;refine⟨vs,g1,λw' hw'=>?_⟩;simp only[Builtin.firstCells];rw[←h1',←g2];exact run_loadCells_list (P:=P) w' _ vs (λj v hj=>by
     have:=g3 j v hj;simp only[World.cell?,hw']at this ⊢;exact this)
theorem Ey{s:AV}{k:Nat→Prop}(h:lenOf s k):∃n,k n∧(s=.ab→n=0)∧∀f u,VR f s u→∃p c,u=.slice p n c:=by
 rcases lY h with⟨rfl,h⟩|⟨b,o,len,cap,sz',ex,rfl,h⟩
 ·exact⟨0,h,λ_=>rfl,λf u hu=>by cases hu;exact⟨_,_,rfl⟩⟩
 ·exact⟨len,h,λe=>(by cases e),λf u hu=>by cases hu;exact⟨_,_,rfl⟩⟩
theorem NM{t u ty e:TypeId}{i:TypeInfo}(ht:P.underlying t=some (.slice e))(hi:P.info? e=some i)(hu:∀q,P.underlying u≠some (.int q)){du:TypeDesc}(xp:P.underlying u=some du)
  {w w':World}{base:Addr}{sLen sCap n:Nat}{x:Value}{news:List Value}(hx:(Builtin.lenOf x).run P w=.ok n w) (hf:(Builtin.firstCells i.size n x).run P w=.ok news.toArray w)
  (hroom:sLen+n≤sCap) (hst:(storeCells (base.add (sLen*i.size)) news).run P w=.ok () w') :
  (Builtin.append_ #[t,u] ty #[.slice (some base) sLen sCap,x]).run P w=.ok (.slice (some base) (sLen+n) sCap) w':=by
 have e0:(#[t,u]:Array TypeId)[0]? = some t:=rfl;have e1:(#[t,u]:Array TypeId)[1]? = some u:=rfl;cases du with
 |int q=>exact absurd xp (hu q)
 |_=>
  simp only[Builtin.append_,e0,e1,List.getElem?_toArray,List.getElem?_cons_zero,List.getElem?_cons_succ,Sem.run_bind,run_underlying ht,Result.andThen_ok,sizeOf,typeInfo,run_program,hi,Sem.run_pure,run_underlying xp,Bool.false_eq_true,if_false,hx,hroom,if_true,Bool.not_false,hf,hst]
theorem JI{t u ty e:TypeId}{i:TypeInfo}{z:Value}(ht:P.underlying t=some (.slice e))(hi:P.info? e=some i)(hz0:i.zero=some z)(hu:∀q,P.underlying u≠some (.int q)){du:TypeDesc}(xp:P.underlying u=some du)
  {w:World}{base:Option Addr}{sLen sCap n:Nat}{x:Value}{olds news:List Value}(hx:(Builtin.lenOf x).run P w=.ok n w) (hf:(Builtin.firstCells i.size n x).run P w.drew=.ok news.toArray w.drew)
  (ho:(Builtin.firstCells i.size sLen (.slice base sLen sCap)).run P w.drew=.ok olds.toArray w.drew)
  (hroom:sCap<sLen+n) (hb:1≤i.bytes) (h48:(sLen+n)*i.bytes≤140737488355328) :
  (Builtin.append_ #[t,u] ty #[.slice base sLen sCap,x]).run P w=.ok (.slice (some ⟨w.heap.size,0,none⟩) (sLen+n) (grownCap w (sLen+n) sCap e))
   (w.drew.alloc (.cells (olds++news++(Builtin.zeroCells z.cells (grownCap w (sLen+n) sCap e-(sLen+n))).toList).toArray e)):=by
 have e0:(#[t,u]:Array TypeId)[0]? = some t:=rfl;have e1:(#[t,u]:Array TypeId)[1]? = some u:=rfl;have hn:¬(sLen+n≤sCap):=by omega
 have hb0:i.bytes≠0:=by omega
 have h48':¬(281474976710656<Builtin.nextslicecap (sLen+n) sCap*i.bytes):=by
  have:=growslice_fits hroom h48;omega
 cases du with
 |int q=>exact absurd xp (hu q)
 |_=>
  simp only[Builtin.append_,e0,e1,List.getElem?_toArray,List.getElem?_cons_zero,List.getElem?_cons_succ,Sem.run_bind,run_underlying ht,Result.andThen_ok,sizeOf,typeInfo,run_program,hi,Sem.run_pure,run_underlying xp,Bool.false_eq_true,if_false,hx,hn];simp[hb0,h48',Question.forced,hf,ho,newRow,grownCap,zeroValue,typeInfo,hi,hz0];congr 1;congr 1;apply Array.ext';simp
theorem HR.there'{f:aO}{H:AH}{w:World}(h:HR f H w){b:Nat}(hd:f.dom b){c:Bt AV}{n m:Nat}(hb:H.at b=.cells c n m){o:Nat}(ho:o<f.lim b):(w.cell? ⟨f.blk b,f.off b+o,none⟩).isSome=true:=by
 have:=h.toHRQ.cells hd hb;obtain⟨cur,e,lo,hi,h1,h2,h3,_⟩:=this;simp[World.cell?,h1];omega
theorem HR.WZ{f:aO}{H:AH}{w:World}(h:HR f H w){b:Nat}(hd:f.dom b){c:Bt AV}{n m:Nat}(hb:H.at b=.cells c n m)(hm:m<2){o:Nat}(ho:o<f.lim b) :
  w.frozen? ⟨f.blk b,f.off b+o,none⟩=false:=by
 have:=h.toHRQ.cells hd hb;obtain⟨cur,e,lo,hi,h1,_,h3,_,h5,_⟩:=this;have:=h5 hm o ho;simp only[World.frozen?,h1];simpa using this
theorem Step.forget{f:aO}{H:AH}{w:World}(h:HR f H w){H':AH}(hn:H'.n=H.n)(ho':∀b,(f.dom b∧H'.at b=.dead)∨H'.at b=H.at b):Step f H w f H' w where
 rel:=h.forget H' hn (λb=>(ho' b).imp And.right id)
 le:=.refl f
 n:=by simp[hn]
 size:=Nat.le_refl _
 keep:=λ_ _ _=>rfl
 src:=λb hbd je=>by
  rcases ho' b with⟨_,e⟩|e
  ·rw[AH.bX,e]at je;cases je
  ·rw[AH.bX,e]at je;exact .inl ⟨b,hbd,je,rfl⟩
 ro:=λb ha je=>by
  rcases ho' b with⟨_,e⟩|e
  ·rw[AH.bX,e]at ha;cases ha
  ·rw[AH.bX,AH.bX,e]
 dead:=λb _ ha=>by
  rcases ho' b with⟨_,e⟩|e
  ·rw[AH.bX,e];rfl
  ·rw[AH.bX,e];exact ha
 new:=λ_ _ h=>h
 rest:=λb _ hd=>by
  rcases ho' b with⟨h1,_⟩|e
  ·exact absurd h1 hd
  ·rw[AH.bX,e,AH.bX]
 os:=rfl
 tape:=rfl
 output:=rfl
theorem qT(z:Array Value)(n:Nat):(Builtin.zeroCells z n).toList.length=n*z.size:=by simp[Builtin.zeroCells]
theorem MU{f:aO}{H:AH}{w:World}(hr:HR f H w){n:Nat}{vs:List Value}(hlen:vs.length=n){c:Bt AV}(hc:∀j a,c.get? j=some a→j<n∧∃v,vs[j]? = some v∧VR f a v)
  {H':AH}{q:Nat}(hn:H'.n=H.n+1) (hnew:H'.at H.n=.cells c n q) (hq:q<2) (hold:∀b,b≠H.n→H'.at b=H.at b){need sz cap':Nat}(hl:n=need*sz) (hcap:need≤cap'){rest:List Value}(hrest:rest.length=(cap'-need)*sz) (e:TypeId) :
  ∃f',Step f H w f' H' (w.alloc (.cells (vs++rest).toArray e))∧VR f' (.slice H.n 0 need need sz false) (.slice (some ⟨w.heap.size,0,none⟩) need cap'):=by
 refine zf hr hn hnew hold (by simpa[eS.sem,ik.own]using hq) (vf:=λb=>.slice b 0 need need sz false) ⟨(vs++rest).length,λi hi=>⟨?_,?_⟩⟩
 ·have hle:=f.pZ hi w.heap.size 0 (vs++rest).length;refine⟨_,e,0,0,rfl,by simp,by simp[hlen],λj a hj=>?_,λ_ j _=>by omega,λ_=>⟨rfl,rfl⟩⟩;obtain⟨h1,v,h2,h3⟩:=hc j a hj;refine⟨h1,v,?_,h3.up hle⟩;rw[aO.jB,Nat.zero_add];simp only[List.getElem?_toArray];rw[List.getElem?_append_left (by omega),h2]
 ·have:=VR.slice (f:=f.ext i w.heap.size 0 (vs++rest).length) i 0 need need sz false cap' 0 (aO.pC _ _ _ _ _) (Nat.le_refl _) hcap (λ_=>by rw[aO.jB]) (λ_=>⟨rfl,by
   rw[aO.qO,List.length_append,hlen,hl,hrest,←Nat.add_mul,Nat.zero_add];exact Nat.mul_le_mul_right _ (by omega)⟩)
  rw[aO.iC]at this;exact this
theorem TG{f:aO}{H:AH}{w:World}(hr:HR f H w){b:Nat}(hd:f.dom b){c:Bt AV}{n m:Nat}(hb:H.at b=.cells c n m){o L:Nat}(ho:o+L≤f.lim b) :
  ∃vs:List Value,vs.length=L∧(∀j,j<L→w.cell? ⟨f.blk b,f.off b+(o+j),none⟩=vs[j]?):=by
 refine⟨(List.range L).map λj=>(w.cell? ⟨f.blk b,f.off b+(o+j),none⟩).getD undef,by simp,λj hj=>?_⟩;have:=hr.there' hd hb (o:=o+j) (by omega);obtain⟨v,hv⟩:=Option.isSome_iff_exists.1 this;simp[hj,hv]
theorem OO{f:aO}{H:AH}{w:World}(hr:HR f H w){l:List AV}{vs:List Value}(hv:VL f l vs){c:Bt AV}(hc:∀i,i<l.length→c.get? i=l[i]?)(hc2:∀j,l.length≤j→c.get? j=none)
  {H':AH}(hn:H'.n=H.n+1) (hnew:H'.at H.n=.cells c l.length 0) (hold:∀b,b≠H.n→H'.at b=H.at b){need sz cap':Nat}(hl:l.length=need*sz) (hcap:need≤cap'){rest:List Value}(hrest:rest.length=(cap'-need)*sz) (e:TypeId) :
  ∃f',Step f H w f' H' (w.alloc (.cells (vs++rest).toArray e))∧VR f' (.slice H.n 0 need need sz false) (.slice (some ⟨w.heap.size,0,none⟩) need cap'):=by
 refine MU hr hv.length.symm (λj a hj=>?_) hn hnew (by omega) hold hl hcap hrest e;have hj':j<l.length:=by
  rcases Nat.lt_or_ge j l.length with h1|h1
  ·exact h1
  ·rw[hc2 j h1]at hj;cases hj
 rw[hc j hj']at hj;obtain⟨v,h1,h2⟩:=hv.get j a hj;exact⟨hj',v,h1,h2⟩
end
section
variable {P:Program}
structure Src(P:Program)(sz n:Nat)(x:Value)(w:World)(vs:List Value):Prop where
 len:(Builtin.lenOf x).run P w=.ok n w
 here:(Builtin.firstCells sz n x).run P w=.ok vs.toArray w
 drew:(Builtin.firstCells sz n x).run P w.drew=.ok vs.toArray w.drew
structure akt(P:Program)(t u ty e:TypeId)(i:TypeInfo)(z:Value)(n:Nat)(x:Value)(w:World)(vs:List Value):Prop where
 nil0:n=0→(Builtin.append_ #[t,u] ty #[.slice none 0 0,x]).run P w=.ok (.slice none 0 0) w
 inp:∀{base:Addr}{sLen sCap:Nat}{w':World},sLen+n≤sCap→(storeCells (base.add (sLen*i.size)) vs).run P w=.ok () w'→(Builtin.append_ #[t,u] ty #[.slice (some base) sLen sCap,x]).run P w=.ok (.slice (some base) (sLen+n) sCap) w'
 out:∀{base:Option Addr}{sLen sCap:Nat}{olds:List Value},(Builtin.firstCells i.size sLen (.slice base sLen sCap)).run P w.drew=.ok olds.toArray w.drew→sLen≤sCap→sCap<sLen+n→(sLen+n)*i.bytes≤140737488355328→
  (Builtin.append_ #[t,u] ty #[.slice base sLen sCap,x]).run P w=.ok (.slice (some ⟨w.heap.size,0,none⟩) (sLen+n) (grownCap w (sLen+n) sCap e))
   (w.drew.alloc (.cells (olds++vs++(Builtin.zeroCells z.cells (grownCap w (sLen+n) sCap e-(sLen+n))).toList).toArray e))
theorem Src.run{t u ty e:TypeId}{i:TypeInfo}{z:Value}(ht:P.underlying t=some (.slice e))(hi:P.info? e=some i)(hz:i.zero=some z)(hby:1≤i.bytes)(hu:∀q,P.underlying u≠some (.int q)){du:TypeDesc}(xp:P.underlying u=some du)
  {n:Nat}{x:Value}{w:World}{vs:List Value}(hx:Src P i.size n x w vs) (hvs:n=0→vs=[]):akt P t u ty e i z n x w vs where
 nil0:=λh0=>by
  have e0:(#[t,u]:Array TypeId)[0]? = some t:=rfl;have e1:(#[t,u]:Array TypeId)[1]? = some u:=rfl;have hl0:=hx.len;have hf0:=hx.here;rw[h0]at hl0 hf0;have:=hvs h0;subst this;cases du with
  |int q=>exact absurd xp (hu q)
  |_=>
   simp only[Builtin.append_,e0,e1,List.getElem?_toArray,List.getElem?_cons_zero,List.getElem?_cons_succ,Sem.run_bind,run_underlying ht,Result.andThen_ok,sizeOf,typeInfo,run_program,hi,Sem.run_pure,run_underlying xp,Bool.false_eq_true,if_false,hl0,Nat.zero_add,Nat.le_refl,if_true,Bool.not_false,hf0]
 inp:=λh1 h2=>NM (P:=P) (ty:=ty) ht hi hu xp hx.len hx.here h1 h2
 out:=λh1 _ h2 h3=>JI (P:=P) (ty:=ty) ht hi hz hu xp hx.len hx.drew h1 h2 hby h3
theorem UA{t u ty e:TypeId}{i:TypeInfo}{z:Value}(hzs:z.cells.size=i.size)
  {n:Nat}{s:AV}{l:List AV}{H:AH}{k:AV→AH→Prop}(h:wX i.size i.bytes n s l H k) (hl:l.length=n*i.size) :
  ∃v H',k v H'∧∀f w su x vs,HR f H w→VR f s su→VL f l vs→akt P t u ty e i z n x w vs→∃r w' f',(Builtin.append_ #[t,u] ty #[su,x]).run P w=.ok r w'∧Step f H w f' H' w'∧VR f' v r:=by
 obtain⟨hs,h⟩:=aI h;have hs1:1≤i.size:=Nat.le_of_ble_eq_true hs;rcases im h with⟨rfl,h⟩|⟨b,o,len,cap,sz,ex,rfl,h⟩
 ·rcases dW h with⟨h0,h⟩|⟨h0,h⟩
  ·have h0:=Nat.eq_of_beq_eq_true h0;refine⟨_,_,h,λf w su x vs hr hsu hv hx=>?_⟩;cases hsu;exact⟨.slice none 0 0,w,f,hx.nil0 h0,Step.refl hr,.ab⟩
  ·have hn0:n≠0:=λe=>by subst e;cases h0
   obtain⟨hb,h⟩:=aI h;have hb:n*i.bytes≤1099511627776:=Nat.le_of_ble_eq_true hb;obtain⟨c,h,h1,h2,h3⟩:=fX _ _ _ _ h;obtain⟨H',g1,g2,g3,g4⟩:=mH h;simp only[Nat.zero_add]at g3 h2 h3;refine⟨_,H',g1,λf w su x vs hr hsu hv hx=>?_⟩;cases hsu;have hro:=hx.out (base:=none) (sLen:=0) (sCap:=0) (olds:=[]) (by simp[Builtin.firstCells]) (Nat.le_refl _) (by omega) (by rw[Nat.zero_add];omega);rw[Nat.zero_add]at hro;obtain⟨f',s1,s2⟩:=OO (gp.drew hr (w.drawn+1)) hv h2 (λj hj=>by rw[h3 j (by omega)];rfl) g2 g3 g4 hl (grownCap_ge w n 0 e) (rest:=(Builtin.zeroCells z.cells (grownCap w n 0 e-n)).toList) (by rw[qT,hzs]) e;exact⟨_,_,f',hro,Step.trans hr (Step.drew hr (w.drawn+1)) s1,s2⟩
 ·obtain⟨hsz,h⟩:=aI h;have hsz:=Nat.eq_of_beq_eq_true hsz;rw[bw]at h;have hh:=h;subst hsz;rcases dW hh with⟨hc,h⟩|⟨hc,h⟩
  ·have hc:len+n≤cap:=Nat.le_of_ble_eq_true hc;obtain⟨c,m,q,hb,h⟩:=ef h;obtain⟨hq,h⟩:=aI h;have hq:=Nat.le_of_ble_eq_true hq;obtain⟨c',h,h1,h2,h3⟩:=fX _ _ _ _ h;obtain⟨hm,h⟩:=aI h;have hm:o+len*i.size+l.length≤m:=Nat.le_of_ble_eq_true hm;obtain⟨H',g1,g2,g3,g4⟩:=hH h;refine⟨_,H',g1,λf w su x vs hr hsu hv hx=>?_⟩;cases hsu with
   |slice _ _ _ _ _ _ cap' y hb1 a1 a2 a3 a4=>
    have hv':=hv;have hst:∃w',(storeCells ((⟨f.blk b,y,none⟩:Addr).add (len*i.size)) vs).run P w=.ok () w'∧Step f H w f H' w':=by
     by_cases hne:vs=[]
     ·subst hne;refine⟨w,rfl,?_⟩;have:=hr.setCells hb1 hb (by omega) hm hv H' g2 g3 g4 h2 h3;exact this
     ·have hn0:n≠0:=λe=>hne (List.eq_nil_of_length_eq_zero (by rw[←hv.length,hl,e,Nat.zero_mul]));have hy:=a3 (by omega);subst hy;rw[addr_add,Nat.add_assoc];exact⟨_,oe (P:=P) hr hb1 hb (by omega) hm hv h1,hr.setCells hb1 hb (by omega) hm hv H' g2 g3 g4 h2 h3⟩
    obtain⟨w',r1,r2⟩:=hst;refine⟨_,w',f,hx.inp (by omega) r1,r2,?_⟩;exact .slice b o (len+n) cap i.size ex cap' y hb1 hc a2 a3 a4
  ·have hc:¬(len+n≤cap):=λhle=>by
    have hq:Nat.ble (Nat.add len n) cap=true:=Nat.ble_eq_true_of_le hle;rw[hq]at hc;cases hc
   obtain⟨hbt,h⟩:=aI h;have hbt:(len+n)*i.bytes≤1099511627776:=Nat.le_of_ble_eq_true hbt;rcases dW h with⟨hex,h⟩|⟨hex,h⟩
   ·obtain⟨c,m,q,hb,h⟩:=ef h;obtain⟨old,o1,o2,h⟩:=pG _ _ _ _ h;have o1:old.length=len*i.size:=o1;obtain⟨c1,h,p1,p2,p3⟩:=fX _ _ _ _ h;obtain⟨c2,h,q1,q2,q3⟩:=fX _ _ _ _ h;obtain⟨H',g1,g2,g3,g4⟩:=mH h;simp only[Nat.zero_add]at g3 q2 q3 p2 p3;refine⟨_,H',g1,λf w su x vs hr hsu hv hx=>?_⟩;cases hsu with
    |slice _ _ _ _ _ _ cap' y hb1 a1 a2 a3 a4=>
     have aqT:cap'=cap:=by
      rcases Nat.lt_or_ge cap cap' with hlt|hge
      ·have:=(a4 hlt).1;rw[this]at hex;cases hex
      ·omega
     subst aqT;have hrd:HR f H w.drew:=gp.drew hr (w.drawn+1);obtain⟨os,u1,u2,u3⟩:∃os,VL f old os∧(Builtin.firstCells i.size len (.slice (some ⟨f.blk b,y,none⟩) len cap')).run P w.drew=.ok os.toArray w.drew∧os.length=old.length:=by
      by_cases h0:len=0
      ·have:old=[]:=List.eq_nil_of_length_eq_zero (by rw[o1,h0,Nat.zero_mul]);subst this;exact⟨[],.nil,by simp[Builtin.firstCells,h0,loadCells,loadCellsFrom],rfl⟩
      ·have hy:=a3 (by omega);subst hy;obtain⟨os,w1,w2,w3,w4⟩:=vP (P:=P) hrd.toHRQ hb1 hb o2;rw[o1]at w4;exact⟨os,w1,by simp only[Builtin.firstCells];exact w4,w2⟩
     have hro:=hx.out (sLen:=len) (sCap:=cap') u2 (by omega) (by omega) (by omega);have hvv:VL f (old++l) (os++vs):=u1.append hv;have hll:(old++l).length=(len+n)*i.size:=by rw[List.length_append,o1,hl,Nat.add_mul]
     obtain⟨f',s1,s2⟩:=OO hrd hvv (c:=c2) (λj hj=>by
       rw[List.length_append]at hj;by_cases hjo:j<old.length
       ·rw[q3 j (by omega),p2 j hjo,List.getElem?_append_left hjo]
       ·rw[show j=old.length+(j-old.length) by omega,q2 (j-old.length) (by omega),List.getElem?_append_right (by omega)];congr 1;omega) (λj hj=>by rw[List.length_append]at hj;rw[q3 j (by omega),p3 j (by omega)];rfl) g2 (by rw[List.length_append];exact g3) g4 hll (grownCap_ge w (len+n) cap' e)
       (rest:=(Builtin.zeroCells z.cells (grownCap w (len+n) cap' e-(len+n))).toList) (by rw[qT,hzs]) e
     exact⟨_,_,f',hro,Step.trans hr (Step.drew hr (w.drawn+1)) s1,s2⟩
   ·obtain⟨c,m,q,hb,h⟩:=ef h;obtain⟨hq,h⟩:=aI h;have hq:=Nat.le_of_ble_eq_true hq;obtain⟨c2,H1,H',g0,g1,g2,g3,t1,t2,t3,t4,q2,q1⟩:∃(c2:Bt AV) (H1 H':AH),((o=0∧m=len*i.size)∨(∀p,p<len*i.size→∃a,c.get? (o+p)=some a))∧k (.slice H.n 0 (len+n) (len+n) i.size false) H'∧H'.n=H.n+1∧
      H'.at H.n=.cells c2 (len*i.size+l.length) q∧H1.n=H.n∧H1.at b=.dead∧(∀x,x≠b→H1.at x=H.at x)∧(∀x,x≠H.n→H'.at x=H1.at x)∧
      (∀j a,c2.get? j=some a→(c.get? (o+j)=some a∧(j<len*i.size∨(o=0∧m=len*i.size)))∨∃p,p<l.length∧j=len*i.size+p∧l[p]? = some a)∧(∀a∈l,a.one=true):=by
     rcases dW h with⟨hf,h⟩|⟨_,h⟩
     ·rw[Bool.and_eq_true]at hf;have f1:o=0:=Nat.eq_of_beq_eq_true hf.1;have f2:m=len*i.size:=Nat.eq_of_beq_eq_true hf.2;obtain⟨c2,h,q1,q2,q3⟩:=fX _ _ _ _ h;obtain⟨H1,h,r1,r2,r3⟩:=hH h;obtain⟨H',g1,g2,g3,g4⟩:=mH h;rw[r1]at g1 g2 g3;have g4:∀x,x≠H.n→H'.at x=H1.at x:=λx hx=>g4 x (by rw[r1];exact hx);refine⟨c2,H1,H',.inl ⟨f1,f2⟩,g1,g2,by rw[g3,f2],r1,r2,r3,g4,λj a hj=>?_,q1⟩;by_cases h1:j<m
      ·rw[q3 j (.inl h1)]at hj;exact .inl ⟨by rw[f1,Nat.zero_add];exact hj,.inr ⟨f1,f2⟩⟩
      ·by_cases h2:j<m+l.length
       ·rw[show j=m+(j-m) by omega,q2 (j-m) (by omega)]at hj;exact .inr ⟨j-m,by omega,by omega,hj⟩
       ·rw[q3 j (.inr (by omega))]at hj;exact .inl ⟨by rw[f1,Nat.zero_add];exact hj,.inr ⟨f1,f2⟩⟩
     ·obtain⟨old,o1,o2,h⟩:=pG _ _ _ _ h;have o1:old.length=len*i.size:=o1;obtain⟨c1,h,p1,p2,p3⟩:=fX _ _ _ _ h;obtain⟨c2,h,q1,q2,q3⟩:=fX _ _ _ _ h;obtain⟨H1,h,r1,r2,r3⟩:=hH h;obtain⟨H',g1,g2,g3,g4⟩:=mH h;simp only[Nat.zero_add]at g3 q2 q3 p2 p3;rw[r1]at g1 g2 g3;have g4:∀x,x≠H.n→H'.at x=H1.at x:=λx hx=>g4 x (by rw[r1];exact hx);refine⟨c2,H1,H',.inr (λp hp=>⟨old[p]'(by omega),o2 p _ (List.getElem?_eq_getElem (by omega))⟩),g1,g2,by rw[←o1];exact g3,r1,r2,r3,g4,λj a hj=>?_,q1⟩;by_cases h1:j<old.length
      ·rw[q3 j (.inl h1),p2 j h1]at hj;exact .inl ⟨o2 j a hj,.inl (by omega)⟩
      ·by_cases h2:j<old.length+l.length
       ·rw[show j=old.length+(j-old.length) by omega,q2 (j-old.length) (by omega)]at hj;exact .inr ⟨j-old.length,by omega,by omega,hj⟩
       ·rw[q3 j (.inr (by omega)),p3 j (.inr (by omega))]at hj;cases hj
    refine⟨_,H',g1,λf w su x vs hr hsu hv hx=>?_⟩;have hd:f.dom b:=by cases hsu;assumption
    have hblt:b<H.n:=hr.dom b hd;have hown:(H.at b).sem.own=true:=by rw[hb];simp[eS.sem,ik.own];omega
    have hbn:b≠H.n:=by omega
    have hob:=hr.toHRQ.cells hd hb;obtain⟨cur,e',lo,hi',z1,z2,z3,z4,z5,z6⟩:=hob;have hlen:=hv.length;have q2:∀j a,c2.get? j=some a→(j<len*i.size∧c.get? (o+j)=some a)∨∃p,p<l.length∧j=len*i.size+p∧l[p]? = some a:=λj a hj=>by
     rcases q2 j a hj with⟨h1,h2⟩|h
     ·refine .inl ⟨?_,h1⟩;rcases h2 with h2|⟨e1,e2⟩
      ·exact h2
      ·have:=(z4 _ a h1).1;omega
     ·exact .inr h
    have hL:o+len*i.size≤f.lim b∨len*i.size=0:=by
     rcases g0 with⟨e1,e2⟩|g0
     ·exact .inl (by omega)
     ·by_cases h0:len*i.size=0
      ·exact .inr h0
      ·obtain⟨a,ha⟩:=g0 (len*i.size-1) (by omega);have:=(z4 _ a ha).1;exact .inl (by omega)
    cases hsu with
    |slice _ _ _ _ _ _ cap' y hb1 a1 a2 a3 a4=>
     by_cases hroom:len+n≤cap'
     ·
      obtain⟨_,hlim⟩:=a4 (by omega);have hy:=a3 (by omega);subst hy;have hfit:o+len*i.size+l.length≤f.lim b:=by
       have:(len+n)*i.size≤cap'*i.size:=Nat.mul_le_mul_right _ hroom;rw[Nat.add_mul]at this;omega
      have hst:(storeCells ((⟨f.blk b,f.off b+o,none⟩:Addr).add (len*i.size)) vs).run P w=.ok () (Go.X.setCells w (f.blk b) (f.off b+o+len*i.size) vs):=by
       rw[addr_add];have:=uC P vs w (f.blk b) (f.off b+o+len*i.size) 0 (hv.oneCell q1) (λj hj=>by
        rw[Nat.add_zero,Nat.add_assoc,Nat.add_assoc];exact⟨hr.there' hd hb (by omega),hr.WZ hd hb (by omega) (by omega)⟩)
       simpa using this
      obtain⟨y1,y2,y3,y4,y5,y6⟩:=qP vs w (f.blk b) (f.off b+o+len*i.size) z1;refine⟨_,_,f.ext H.n (f.blk b) (f.off b+o) (cap'*i.size),hx.inp hroom hst,?_,?_⟩
      ·refine HR.move hr hd hown H' _ _ _ (f.off b+o) (cap'*i.size) g2 g3 (by rw[t4 b hbn];exact t2) (λx h1 h2=>by rw[t4 x h2,t3 x h1]) (by simp[eS.sem,ik.own];omega) ?_ y1 y2 y3 y4 y5 y6;have hle:=f.pZ (gp.fresh hr) (f.blk b) (f.off b+o) (cap'*i.size);refine⟨_,e',lo,hi',rfl,?_,?_,λj a hj=>?_,λhq2 j hj=>?_,z6⟩
       ·rw[aO.jB,aO.qO,At];omega
       ·rw[aO.qO];have:(len+n)*i.size≤cap'*i.size:=Nat.mul_le_mul_right _ hroom;rw[Nat.add_mul]at this;omega
       ·rw[aO.jB];rcases q2 j a hj with⟨h1,h2⟩|⟨p,h1,h2,h3⟩
        ·obtain⟨_,v,w1,w2⟩:=z4 _ a h2;refine⟨by omega,v,?_,w2.up hle⟩;rw[qa _ _ _ _ (.inl (by omega)),Nat.add_assoc];exact w1
        ·obtain⟨v,w1,w2⟩:=hv.get p a h3;refine⟨by omega,v,?_,w2.up hle⟩;rw[h2,←Nat.add_assoc,wW vs cur _ p (by omega) (by omega),w1]
       ·rw[aO.jB,aO.qO]at *;have:=z5 hq2 (o+j) (by omega);rw[Nat.add_assoc];exact this
      ·have:=VR.slice (f:=f.ext H.n (f.blk b) (f.off b+o) (cap'*i.size)) H.n 0 (len+n) (len+n) i.size false cap' (f.off b+o) (aO.pC _ _ _ _ _) (Nat.le_refl _) hroom (λ_=>by rw[aO.jB];rfl) (λ_=>⟨rfl,by rw[aO.qO,Nat.zero_add];exact Nat.le_refl _⟩);rw[aO.iC]at this;exact this
     ·
      have hrd:HR f H w.drew:=gp.drew hr (w.drawn+1);obtain⟨os,u1,u2⟩:∃vs:List Value,vs.length=len*i.size∧(∀j,j<len*i.size→w.cell? ⟨f.blk b,f.off b+(o+j),none⟩=vs[j]?):=by
       rcases hL with hL|h0
       ·exact TG hr hd hb hL
       ·exact⟨[],by rw[h0];rfl,λj hj=>by omega⟩
      have hfirst:(Builtin.firstCells i.size len (.slice (some ⟨f.blk b,y,none⟩) len cap')).run P w.drew=.ok os.toArray w.drew:=by
       by_cases h0:len*i.size=0
       ·have:os=[]:=List.eq_nil_of_length_eq_zero (by rw[u1,h0]);subst this;simp[Builtin.firstCells,h0,loadCells,loadCellsFrom]
       ·have hl0:len≠0:=λe=>h0 (by rw[e,Nat.zero_mul]);have hy:=a3 (by omega);subst hy;simp only[Builtin.firstCells];rw[←u1];exact run_loadCells_list (P:=P) w.drew ⟨f.blk b,f.off b+o,none⟩ os (λj v hj=>by
         have hjl:j<os.length:=by
          rcases Nat.lt_or_ge j os.length with h|h
          ·exact h
          ·rw[List.getElem?_eq_none h]at hj;cases hj
         rw[addr_add,Nat.add_assoc];exact(u2 j (by omega)).trans hj)
      have hro:=hx.out (sLen:=len) (sCap:=cap') hfirst (by omega) (by omega) (by omega);have hrf:=hrd.forget H1 t1 (λx=>by by_cases e:x=b;subst e;exact .inl t2;exact .inr (t3 x e));obtain⟨f',s1,s2⟩:=MU hrf (H':=H') (q:=q) (n:=len*i.size+l.length) (vs:=os++vs) (by rw[List.length_append,u1,hlen]) (c:=c2) (λj a hj=>by
        rcases q2 j a hj with⟨h1,h2⟩|⟨p,h1,h2,h3⟩
        ·obtain⟨v,w1,w2⟩:=hr.toHRQ.cell hd hb h2;rw[u2 j h1]at w1;exact⟨by omega,v,by rw[List.getElem?_append_left (by omega)];exact w1,w2⟩
        ·obtain⟨v,w1,w2⟩:=hv.get p a h3;exact⟨by omega,v,by rw[List.getElem?_append_right (by omega),h2,u1,Nat.add_sub_cancel_left];exact w1,w2⟩)
       (by rw[t1];exact g2) (by rw[t1];exact g3) (by omega) (λx hx=>t4 x (by rw[t1]at hx;exact hx)) (need:=len+n) (sz:=i.size) (by rw[Nat.add_mul,hl]) (grownCap_ge w (len+n) cap' e)
       (rest:=(Builtin.zeroCells z.cells (grownCap w (len+n) cap' e-(len+n))).toList) (by rw[qT,hzs]) e
      rw[t1]at s2;exact⟨_,_,f',hro,Step.trans hr (Step.drew hr (w.drawn+1)) (Step.trans hrd (Step.forget hrd t1 (λx=>by by_cases e:x=b;subst e;exact .inl ⟨hd,t2⟩;exact .inr (t3 x e))) s1),s2⟩
end
noncomputable section
def avf(sz:Nat)(x:AV)(H:AH)(k:Nat→List AV→Prop):Prop:=lenOf x λn=>cellsOf sz n x H λl=>k n l
def amu(sz bytes:Nat)(z:List AV)(s x:AV)(H:AH)(k:AV→AH→Prop):Prop:=nZ x λ_ n=>bT (Nat.ble 1 sz) (bT (Nat.ble (Nat.mul n bytes) 1099511627776) (wX sz bytes n s (nk n z) H k))
def aku(P:Program)(t u:TypeId)(s x:AV)(H:AH)(k:AV→AH→Prop):Prop:=
 match P.underlying t,P.underlying u with
 |some (.slice e),some (.slice _)=>(match P.info? e,zeroCells P e with
  |some i,some z=>bT (Nat.beq z.length i.size) (bT (Nat.ble 1 i.bytes) (dh i.size i.bytes s x H k))
  |_,_=>False)
 |some (.slice e),some (.int _)=>(match P.info? e,zeroCells P e with
  |some i,some z=>bT (Nat.beq z.length i.size) (bT (Nat.ble 1 i.bytes) (amu i.size i.bytes z s x H k))
  |_,_=>False)
 |_,_=>False
def W0(P:Program)(t:TypeId)(d s:AV)(H:AH)(k:AV→AH→Prop):Prop:=
 match P.underlying t with
 |some (.slice e)=>(match P.info? e with|some i=>bT (Nat.ble 1 i.size) (auh i.size d s H k)|none=>False)
 |_=>False
def JJ:List AV→(Nat→Nat→Prop)→Prop
 |[],k=>k 0 0
 |a::l,k=>nZ a λc b=>bT (Nat.beq c 1) (bT (Nat.ble b 255) (JJ l λn x=>bM (Nat.succ n) λn'=>bM (Nat.add b (Nat.mul 256 x)) λx'=>k n' x'))
def xq:Nat→Nat→List AV
 |0,_=>[]
 |n+1,x=>.int 1 (.ofNat (Nat.mod x 256))::xq n (Nat.div x 256)
def xr(a:AV)(H:AH)(k:AV→Prop):Prop:=qQ a (λk=>k (.str 0 0)) (λb o len _ sz _ k=>bT (Nat.beq sz 1) (gD H b λc _ _=>vN c len o λl=>JJ l λn x=>k (.str n x))) k
def Ez(nw:Lay)(a:AV)(k:AV→AH→Prop):Prop:=gy a λn x=>jm (xq n x) .e 0 λc m=>bT (Nat.beq m n) (nw (.cells c m 1) λb H'=>k (.slice b 0 n n 1 false) H')
def W1(P:Program)(s d:TypeId)(a:AV)(H:AH)(k:AV→AH→Prop):Prop:=
 match P.underlying s,P.underlying d with
 |some (.int _),some (.int q)=>WT (kn q) a λv=>k v H
 |some .string,some .string=>gy a λ_ _=>k a H
 |some (.slice e),some .string=>(match P.underlying e with|some (.int .u8)=>xr a H λv=>k v H|_=>False)
 |_,_=>False
def xUn(P:Program)(op:UnOp)(t:TypeId)(a:AV)(k:AV→Prop):Prop:=
 match op,P.underlying t with
 |.neg,some (.int q)=>avc (kn q) a k
 |.not,_=>aqJ a k
 |.xor,some (.int q)=>WS (kn q) (.int (kn q) (if q.signed then -1 else q.max)) a k
 |_,_=>False
def zj(P:Program)(t:TypeId):Bool:=match P.underlying t with|some (.interface _)=>false|some _=>true|none=>false
def ade(P:Program)(t:TypeId)(a:AV)(k:AV→Prop):Prop:=bT (zj P t) (k (.iface t a))
def xt(u:Nat)(z:AV)(ok:Bool)(a:AV)(k:AV→Prop):Prop:=
 (match a with
 |.iface t v=>λk=>bI (Nat.beq t u) (bI ok (k (.aY [v,.bool true])) (k v)) (bT ok (k (.aY [z,.bool false])))
 |.fl=>λk=>bT ok (k (.aY [z,.bool false]))
 |_=>λ_=>False:(AV→Prop)→Prop) k
def UB(P:Program)(u:TypeId)(ok:Bool)(a:AV)(k:AV→Prop):Prop:=
 bT (zj P u) (match P.info? u with|some i=>(match i.zero with|some z=>xt u (iO z) ok a k|none=>False)|none=>False)
def OP(P:Program)(t:TypeId)(a:AV)(H:AH)(k:AV→AH→Prop):Prop:=
 match P.underlying t with
 |some .string=>gy a λn x=>aA H (.iter n x 0) λb H'=>k (.ptr b 0) H'
 |_=>False
def adf(o:eS)(k:Nat→Nat→Nat→Prop):Prop:=match o with|.iter n x p=>k n x p|_=>False
def amv(a:AV)(H:AH)(k:AV→AH→Prop):Prop:=oc a λb o=>bT (Nat.beq o 0) (H.t.gD b λob=>adf ob λn x p=>
 bI (Nat.ble (Nat.succ p) n)
  (bM (byteAt x p) λc=>bT (Nat.ble c 127) (bM (Nat.succ p) λp'=>ij H b (.iter n x p') λH'=>k (.aY [.bool true,.int 0 (.ofNat p),.int 2 (.ofNat c)]) H'))
  (k (.aY [.bool false]) H))
def amw(a b:AV)(k:AV→Prop):Prop:=ky a λc x=>ky b λ_ y=>bI (cg x y) (k (.int c y)) (k (.int c x))
def NT(a b:AV)(k:AV→Prop):Prop:=ky a λc x=>ky b λ_ y=>bI (cg y x) (k (.int c y)) (k (.int c x))
def BM(g:AV→AV→(AV→Prop)→Prop):List AV→AV→(AV→Prop)→Prop
 |[],a,k=>k a
 |b::l,a,k=>g a b λc=>BM g l c k
def adg(a:AV)(H:AH)(k:AV→Prop):Prop:=(match a with
 |.qN=>λk=>k (.int 0 (.ofNat 0))
 |.map b=>λk=>H.t.gD b λo=>(match o with|.map es _=>bM es.length λn=>k (.int 0 (.ofNat n))|_=>False)
 |_=>λ_=>False:(AV→Prop)→Prop) k
def akv(P:Program)(t:TypeId)(a:AV)(H:AH)(k:AV→Prop):Prop:=
 match P.underlying t with
 |some .string=>sLen a k
 |some (.slice _)=>dp a k
 |some (.array n _)=>k (.int 0 (.ofNat n))
 |some (.map _ _)=>adg a H k
 |_=>False
def adh(nw:Lay)(sz bytes:Nat)(z:List AV)(l c:AV)(k:AV→AH→Prop):Prop:=
 nZ l λ_ n=>nZ c λ_ m=>bT (Nat.ble n m) (bT (Nat.ble (Nat.mul m bytes) 1099511627776) (bT (Nat.ble m 1099511627776)
  (jm (nk m z) .e 0 λt q=>bT (Nat.beq q (Nat.mul m sz)) (nw (.cells t q 0) λb H'=>k (.slice b 0 n m sz true) H'))))
def OQ(P:Program)(nw:Lay)(t:TypeId)(l c:AV)(k:AV→AH→Prop):Prop:=
 match P.underlying t with
 |some (.slice e)=>(match P.info? e,zeroCells P e with
  |some i,some z=>bT (Nat.ble 1 i.size) (bT (Nat.beq z.length i.size) (adh nw i.size i.bytes z l c k))
  |_,_=>False)
 |_=>False
end
section
variable {P:Program}
theorem src_ok{sz:Nat}{x:AV}{H:AH}{k:Nat→List AV→Prop}(h:avf sz x H k):∃n l,k n l∧l.length=n*sz∧∀f w u,HR f H w→VR f x u→∃vs,VL f l vs∧Src P sz n u w vs:=by
 obtain⟨n,h,h1,h2⟩:=Ey h;obtain⟨l,h,h3,h4,h5⟩:=Fz (P:=P) h;have hll:l.length=n*sz:=by
  by_cases hx:x=.ab
  ·rw[h3 hx,h1 hx,Nat.zero_mul];rfl
  ·exact h4 hx
 refine⟨n,l,h,hll,λf w u hr hu=>?_⟩;obtain⟨p,c,rfl⟩:=h2 f u hu;obtain⟨vs,g1,g2⟩:=h5 f w _ hr.toHRQ hu;exact⟨vs,g1,⟨by simp[Builtin.lenOf],g2 w rfl,g2 w.drew rfl⟩⟩
theorem adi{t u ty e:TypeId}{kn kq:IntKind}{i:TypeInfo}{z:Value}(ht:P.underlying t=some (.slice e))(hu:P.underlying u=some (.int kn))(hi:P.info? e=some i)(hz:i.zero=some z)(hzs:z.cells.size=i.size)(hby:1≤i.bytes)(hpos:1≤i.size){n:Nat}(hn:n*i.bytes≤1099511627776){w:World} :
  akt P t u ty e i z n (.int kq (.ofNat n)) w (List.flatten (List.replicate n z.cells.toList)):=by
 have hnb:n≤1099511627776:=Nat.le_trans (Nat.le_mul_of_pos_right n hby) hn;have hw:IntKind.i64.wrap (Int.ofNat n)=Int.ofNat n:=by rw[IntKind.wrap_i64];simp only[Int.ofNat_eq_natCast];omega
 have hneg:¬(Int.ofNat n<0):=by simp
 have h48i:¬((2:Int)^48<Int.ofNat n*(i.bytes:Int)):=by
  have:Int.ofNat n*(i.bytes:Int)=((n*i.bytes:Nat):Int):=by simp
  rw[this];omega
 have e0:(#[t,u]:Array TypeId)[0]? = some t:=rfl;have e1:(#[t,u]:Array TypeId)[1]? = some u:=rfl;have happ:∀w:World,(if n*i.size=0 then (pure #[]:Sem (Array Value)) else do pure (Builtin.zeroCells (←zeroValue e).cells n)).run P w=.ok (List.flatten (List.replicate n z.cells.toList)).toArray w:=λw=>by
  have hzv:(zeroValue e).run P w=.ok z w:=by simp[zeroValue,typeInfo,hi,hz]
  by_cases h0:n*i.size=0
  ·rw[if_pos h0];rcases Nat.mul_eq_zero.1 h0 with g|g
   ·subst g;simp
   ·have:z.cells = #[]:=by rw[←Array.size_eq_zero_iff,hzs,g]
    rw[this];simp
  ·rw[if_neg h0];have:Builtin.zeroCells z.cells n=(List.flatten (List.replicate n z.cells.toList)).toArray:=by
    unfold Builtin.zeroCells;exact og z.cells n (by rw[hzs];exact Nat.pos_of_ne_zero λg=>h0 (by rw[g,Nat.mul_zero]))
   simp only[Sem.run_bind,hzv,Result.andThen_ok,Sem.run_pure,this]
 refine⟨λh0=>?_,λ{base sLen sCap w'} h1 h2=>?_,λ{base sLen sCap olds} h1 hle h2 h3=>?_⟩
 ·subst h0;have hw0:IntKind.i64.wrap 0=0:=by decide
  simp[Builtin.append_,run_underlying ht,run_underlying hu,sizeOf,typeInfo,hi,asInt,asIntOf,hw0]
 ·rw[show(Int.ofNat n)=(n:Int)from rfl];have hw':IntKind.i64.wrap (n:Int)=(n:Int):=hw;have hneg':¬((n:Int)<0):=by omega
  have h48':¬(281474976710656<(n:Int)*(i.bytes:Int)):=by
   have:(n:Int)*(i.bytes:Int)=((n*i.bytes:Nat):Int):=by simp
   rw[this];omega
  by_cases h0:n*i.size=0
  ·have hv:List.flatten (List.replicate n z.cells.toList)=[]:=by
    rcases Nat.mul_eq_zero.1 h0 with g|g
    ·subst g;simp
    ·have:z.cells = #[]:=by rw[←Array.size_eq_zero_iff,hzs,g]
     rw[this];simp
   rw[hv]at h2;simp[Builtin.append_,run_underlying ht,run_underlying hu,sizeOf,typeInfo,zeroValue,hi,hz,asInt,asIntOf,hw',hneg',h48',h0,h1,h2]
  ·have hzc:Builtin.zeroCells z.cells n=(List.flatten (List.replicate n z.cells.toList)).toArray:=by
    unfold Builtin.zeroCells;exact og z.cells n (by rw[hzs];exact Nat.pos_of_ne_zero λg=>h0 (by rw[g,Nat.mul_zero]))
   simp[Builtin.append_,run_underlying ht,run_underlying hu,sizeOf,typeInfo,zeroValue,hi,hz,asInt,asIntOf,hw',hneg',h48',h0,h1,hzc,h2]
 ·have hmax:IntKind.max .i64=9223372036854775807:=by decide
  have hle2:(sLen+n)≤(sLen+n)*i.bytes:=Nat.le_mul_of_pos_right _ hby;have hfit:=growslice_fits h2 h3;have h:=Lib.run_append_grow_zeros (P:=P) w t u ty e i z kq kn ht hu hi hz base sLen sCap olds h1 n (by omega) hpos h2 (by omega) (by omega) (by omega);rw[show(Int.ofNat n)=(n:Int)from rfl,h];congr 2;apply congrArg (λa=>Obj.cells a e);apply Array.ext';have hzc:(Builtin.zeroCells z.cells n)=(List.flatten (List.replicate n z.cells.toList)).toArray:=by
   unfold Builtin.zeroCells;exact og z.cells n (by rw[hzs];exact hpos)
  rw[hzc];simp
theorem anZ{t u ty:TypeId}{s x:AV}{H:AH}{k:AV→AH→Prop}(h:aku P t u s x H k) :
  ∃v H',k v H'∧∀f w su xu,HR f H w→VR f s su→VR f x xu→∃r w' f',(Builtin.append_ #[t,u] ty #[su,xu]).run P w=.ok r w'∧Step f H w f' H' w'∧VR f' v r:=by
 unfold aku at h;split at h
 ·rename_i e e2 ht hu;split at h
  ·rename_i i z hi hz;obtain⟨h1,h⟩:=aI h;obtain⟨h2,h⟩:=aI h;have e1:=Nat.eq_of_beq_eq_true h1;have e2:=Nat.le_of_ble_eq_true h2;obtain⟨i',zv,hi',hzv,hzl⟩:=lh hz;rw[hi]at hi';injection hi' with hi';subst hi';obtain⟨n,l,h,hl,hs⟩:=src_ok (P:=P) h;have hzs:zv.cells.size=i.size:=by
    have h1:=(hzl ⟨λ_=>False,id,id,id⟩).length;have h2:zv.cells.toList.length=zv.cells.size:=Array.length_toList;omega
   obtain⟨v,H',g1,g2⟩:=UA (P:=P) (t:=t) (u:=u) (ty:=ty) (e:=e) hzs h hl;refine⟨v,H',g1,λf w su xu hr h1 h2=>?_⟩;obtain⟨vs,s1,s2⟩:=hs f w xu hr h2;exact g2 f w su xu vs hr h1 s1 (s2.run ht hi hzv (by omega) (λq hq=>by rw[hu]at hq;cases hq) hu λe0=>List.eq_nil_of_length_eq_zero (by rw[←s1.length,hl,e0,Nat.zero_mul]))
  ·exact h.elim
 ·rename_i e kn ht hu;split at h
  ·rename_i i z hi hz;obtain⟨h1,h⟩:=aI h;obtain⟨h2,h⟩:=aI h;have e1:=Nat.eq_of_beq_eq_true h1;have e2:=Nat.le_of_ble_eq_true h2;obtain⟨i',zv,hi',hzv,hzl⟩:=lh hz;rw[hi]at hi';injection hi' with hi';subst hi';have hzs:zv.cells.size=i.size:=by
    have h1:=(hzl ⟨λ_=>False,id,id,id⟩).length;have h2:zv.cells.toList.length=zv.cells.size:=Array.length_toList;omega
   unfold amu at h;obtain⟨q,n,rfl,h⟩:=jL h;obtain⟨h4,h⟩:=aI h;have e4:1≤i.size:=Nat.le_of_ble_eq_true h4;obtain⟨h3,h⟩:=aI h;have e3:n*i.bytes≤1099511627776:=Nat.le_of_ble_eq_true h3;obtain⟨v,H',g1,g2⟩:=UA (P:=P) (t:=t) (u:=u) (ty:=ty) (e:=e) hzs h (by rw[w6,e1]);refine⟨v,H',g1,λf w su xu hr h1 h2=>?_⟩;have hx:=h2.bO;subst hx;exact g2 f w su _ _ hr h1 (VL.nk (hzl f) n) (adi ht hu hi hzv hzs e2 e4 e3)
  ·exact h.elim
 ·exact h.elim
theorem akw{t u ty:TypeId}{d s:AV}{H:AH}{k:AV→AH→Prop}(h:W0 P t d s H k) :
  ∃v H',k v H'∧∀f w du su,HR f H w→VR f d du→VR f s su→∃r w' f',(Builtin.copy_ #[t,u] ty #[du,su]).run P w=.ok r w'∧Step f H w f' H' w'∧VR f' v r:=by
 unfold W0 at h;split at h
 ·rename_i e ht;split at h
  ·rename_i i hi;obtain⟨h0,h⟩:=aI h;have e0:=Nat.le_of_ble_eq_true h0;obtain⟨n,h,n1,n2⟩:=Ey h;obtain⟨m,h,m1,m2⟩:=Ey h;rw[bw]at h;obtain⟨l,h,l1,l2,l3⟩:=Fz (P:=P) h;have hll:l.length=Nat.min n m*i.size:=by
    by_cases hx:s=.ab
    ·rw[l1 hx,n1 hx];simp
    ·exact l2 hx
   have e0':(#[t,u]:Array TypeId)[0]? = some t:=rfl;have hrun:∀{w:World} {p c}{su:Value}{q:Option Addr}{vs:List Value}{w':World},su=.slice q n c→(Builtin.firstCells i.size (Nat.min n m) su).run P w=.ok vs.toArray w→
     (match p with|some a=>(storeCells a vs).run P w=.ok () w'|none=>w'=w)→∀c',(Builtin.copy_ #[t,u] ty #[.slice p m c',su]).run P w=.ok (goInt (Nat.min n m)) w':=by
    intro w p c su q vs w' hsu hf hst c';subst hsu;cases p with
    |none=>
     subst hst;simp[Builtin.copy_,run_underlying ht,Builtin.lenOf,sizeOf,typeInfo,hi,hf]
    |some a=>simp[Builtin.copy_,run_underlying ht,Builtin.lenOf,sizeOf,typeInfo,hi,hf,hst]
   rcases im h with⟨rfl,h⟩|⟨b,o,len,cap,sz,ex,rfl,h⟩
   ·refine⟨_,_,h,λf w du su hr h1 h2=>?_⟩;cases h1;have hm:=m1 rfl;subst hm;obtain⟨p,c,rfl⟩:=n2 f su h2;obtain⟨vs,g1,g2⟩:=l3 f w _ hr.toHRQ h2;exact⟨_,w,f,hrun rfl (g2 w rfl) rfl 0,Step.refl hr,.int 0 _⟩
   ·obtain⟨_,h⟩:=aI h;obtain⟨c,mm,q,hb,h⟩:=ef h;obtain⟨hq,h⟩:=aI h;have hq:=Nat.le_of_ble_eq_true hq;obtain⟨c',h,p1,p2,p3⟩:=fX _ _ _ _ h;obtain⟨hm,h⟩:=aI h;have hm:=Nat.le_of_ble_eq_true hm;obtain⟨H',g1,g2,g3,g4⟩:=hH h;refine⟨_,H',g1,λf w du su hr h1 h2=>?_⟩;obtain⟨pp,cc,rfl⟩:=n2 f su h2;obtain⟨vs,s1,s2⟩:=l3 f w _ hr.toHRQ h2;have hd:=m2 f du h1;cases h1 with
    |slice _ _ _ _ _ _ cap' y hb1 a1 a2 a3 a4=>
     obtain⟨_,_,hd⟩:=hd;injection hd with d1 d2 d3;have hst:∃w',(storeCells (⟨f.blk b,y,none⟩:Addr) vs).run P w=.ok () w'∧Step f H w f H' w':=by
      by_cases hne:vs=[]
      ·subst hne;exact⟨w,rfl,hr.setCells hb1 hb (by omega) hm s1 H' g2 g3 g4 p2 p3⟩
      ·have hn0:m≠0:=λe=>hne (List.eq_nil_of_length_eq_zero (by rw[←s1.length,hll,e];simp));have hy:=a3 (by omega);subst hy;exact⟨_,oe (P:=P) hr hb1 hb (by omega) hm s1 p1,hr.setCells hb1 hb (by omega) hm s1 H' g2 g3 g4 p2 p3⟩
     obtain⟨w',r1,r2⟩:=hst;rw[d2];exact⟨_,w',f,hrun rfl (s2 w rfl) r1 cap',r2,.int 0 _⟩
  ·exact h.elim
 ·exact h.elim
end
section
variable {P:Program}
theorem FA:∀n x,(xq n x).length=n
 |0,_=>rfl
 |n+1,x=>by simp[xq,FA n]
theorem MV(f:aO):∀n x,VL f (xq n x) ((jl n x).map λb=>Value.int .u8 b.toNat)
 |0,_=>.nil
 |n+1,x=>by
  simp only[xq,jl,List.map_cons];refine .cons _ _ _ _ ?_ (MV f n (x/256));have:((UInt8.ofNat (x%256)).toNat:Int)=.ofNat (Nat.mod x 256):=by
   change ((UInt8.ofNat (x%256)).toNat:Int)=((x%256:Nat):Int)
   simp
  rw[this];exact VR.int 1 _
theorem OS:∀(l:List AV) (k:Nat→Nat→Prop),JJ l k→∃x,k l.length x∧x<256^l.length∧∃ns:List Int,(∀f vs,VL f l vs→vs=ns.map (Value.int .u8))∧∀r:ByteArray,ns.foldl (λr n=>r.push (UInt8.ofNat n.toNat)) r=⟨(r.data.toList++jl l.length x).toArray⟩
 |[],k,h=>⟨0,h,by simp,[],λf vs hv=>by cases hv;rfl,λr=>by simp[jl]⟩
 |a::l,k,h=>by
  obtain⟨c,b,rfl,h⟩:=jL h;obtain⟨h1,h⟩:=aI h;obtain⟨h2,h⟩:=aI h;have e1:=Nat.eq_of_beq_eq_true h1;have e2:=Nat.le_of_ble_eq_true h2;have hh:=h;subst e1;obtain⟨x,h3,h4,ns,h5,h6⟩:=OS l _ hh;rw[bw,bw]at h3;have hx:Nat.add b (Nat.mul 256 x)=b+256*x:=rfl;refine⟨b+256*x,h3,?_,(b:Int)::ns,λf vs hv=>?_,λr=>?_⟩
  ·rw[List.length_cons,Nat.pow_succ];omega
  ·cases hv with
   |cons _ v _ vs hr hl=>
    rw[h5 f vs hl,hr.bO];rfl
  ·rw[List.foldl_cons,h6];apply ByteArray.ext;apply Array.ext';simp only[List.length_cons,jl];rw[show(b+256*x)%256=b by omega,show(b+256*x)/256=x by omega];simp
theorem W2{a:AV}{H:AH}{k:AV→Prop}(h:xr a H k) :
  ∃v,k v∧∀f w u,HRQ f H.sem w→VR f a u→∃r,(Conv.bytesToString u).run P w=.ok r w∧VR f v r:=by
 rcases lY h with⟨rfl,h⟩|⟨b,o,len,cap,sz,ex,rfl,h⟩
 ·refine⟨_,h,λf w u hr hu=>?_⟩;cases hu;exact⟨.string .empty,by simp[Conv.bytesToString],VR.str 0 0 (by decide)⟩
 ·obtain⟨_,h⟩:=aI h;obtain⟨c,n,m,hb,h⟩:=ef h;obtain⟨l,l1,l2,h⟩:=pG _ _ _ _ h;obtain⟨x,h,hx,ns,h1,h2⟩:=OS _ _ h;refine⟨_,h,λf w u hr hu=>?_⟩;cases hu with
  |slice _ _ _ _ _ _ cap' y hb1 a1 a2 a3 a4=>
   obtain⟨vs,g1,g4⟩:∃vs,VL f l vs∧(loadCells ⟨f.blk b,y,none⟩ len).run P w=.ok vs.toArray w:=by
    by_cases h0:len=0
    ·have:l=[]:=List.eq_nil_of_length_eq_zero (by rw[l1,h0]);subst this;exact⟨[],.nil,by simp[h0,loadCells,loadCellsFrom]⟩
    ·have hy:=a3 (by omega);subst hy;obtain⟨vs,g1,g2,g3,g4⟩:=vP (P:=P) hr hb1 hb l2;rw[l1]at g4;exact⟨vs,g1,g4⟩
   rw[h1 f vs g1]at g4;refine⟨_,run_bytesToString w _ len cap' ns g4,?_⟩;rw[h2];exact VR.str _ _ hx
theorem akx{s d:TypeId}{a:AV}{H:AH}{k:AV→AH→Prop}(h:W1 P s d a H k) :
  ∃v,k v H∧∀f w u,HRQ f H.sem w→VR f a u→∃r,(convert s d u).run P w=.ok r w∧VR f v r:=by
 unfold W1 at h;split at h
 ·rename_i q1 q hs hd;rcases acZ h with h|⟨m,r,rfl,hc,h⟩
  case inr=>
   refine⟨_,h,λf w u hr hu=>?_⟩;cases hu with
   |Ev _ _ z hz=>
    have hq:q=.u64:=by cases q<;>first|rfl|(simp[kn]at hc)
    subst hq;refine⟨.int .u64 (IntKind.u64.wrap z),?_,.wV m r _ ?_ ?_⟩
    ·simp[convert,run_underlying hs,run_underlying hd,Conv.intToInt]
    ·simp[IntKind.wrap,IntKind.bits,IntKind.signed];omega
    ·simpa[IntKind.wrap,IntKind.bits,IntKind.signed]using hz
  obtain⟨c,x,rfl,h⟩:=fC h;refine⟨_,jM h,λf w u hr hu=>⟨_,?_,.int _ _⟩⟩;rw[hu.bO];simp[convert,run_underlying hs,run_underlying hd,Conv.intToInt,Fp]
 ·rename_i hs hd;obtain⟨n,x,rfl,h⟩:=hV h;refine⟨_,h,λf w u hr hu=>⟨u,?_,hu⟩⟩;rw[hu.jC.1];simp[convert,run_underlying hs,run_underlying hd]
 ·rename_i e hs hd;split at h
  ·rename_i he;obtain⟨v,g1,g2⟩:=W2 (P:=P) h;refine⟨v,g1,λf w u hr hu=>?_⟩;obtain⟨r,g3,g4⟩:=g2 f w u hr hu;refine⟨r,?_,g4⟩;have hsl:∃p l c,u=.slice p l c:=by
    rcases lY h with⟨rfl,_⟩|⟨b,o,len,cap,sz,ex,rfl,_⟩<;>cases hu<;>exact⟨_,_,_,rfl⟩
   obtain⟨p,l,c,rfl⟩:=hsl;rw[run_convert_bytes_string w s d e p l c hs he hd];exact g3
  ·exact h.elim
 ·exact h.elim
theorem aqU{op:UnOp}{t:TypeId}{a:AV}{k:AV→Prop}(h:xUn P op t a k) :
  ∃v,k v∧∀f u,VR f a u→∃r,(∀w,(Op.unary op u).run P w=.ok r w)∧VR f v r:=by
 unfold xUn at h;split at h
 ·rename_i q ht;obtain⟨c,x,rfl,h⟩:=fC h;obtain⟨h1,h⟩:=aI h;have e:=Nat.eq_of_beq_eq_true h1;refine⟨_,jM h,λf u hu=>⟨_,λw=>?_,.int _ _⟩⟩;rw[hu.bO,e];simp[Op.unary,Op.intArith];rfl
 ·obtain⟨b,rfl,h⟩:=akg h;exact⟨_,h,λf u hu=>⟨.bool (!b),λw=>by rw[hu.pw];rfl,.bool _⟩⟩
 ·rename_i q ht;obtain⟨v,g1,g2⟩:=Ut (P:=P) (op:=.xor) (t:=t) h;refine⟨v,g1,λf u hu=>?_⟩;have ha:∃n,u=.int q n:=by
   obtain⟨x,y,e1,rfl,_⟩:=gj h;rw[hu.bO,Fp];exact⟨y,rfl⟩
  obtain⟨n,rfl⟩:=ha;have h0:=VR.int (f:=f) (kn q) (if q.signed then -1 else q.max);rw[Fp]at h0;obtain⟨r,g3,g4⟩:=g2 f _ _ h0 hu;refine⟨r,λw=>?_,g4⟩;have:=g3 w;simp only[binOp,ne_eq,not_true_eq_false,if_false]at this;simpa[Op.unary]using this
 ·exact h.elim
theorem Aw{t:TypeId}(h:zj P t=true):∃d,P.underlying t=some d∧∀ms,d≠.interface ms:=by
 unfold zj at h;split at h
 ·cases h
 ·rename_i d hd hn;exact⟨d,hn,λms e=>by subst e;exact hd ms rfl⟩
 ·cases h
theorem adj{t:TypeId}{a:AV}{k:AV→Prop}(h:ade P t a k) :
  ∃v,k v∧∀f u,VR f a u→∃r,(∀w,(Instr.makeInterface t u).run P w=.ok r w)∧VR f v r:=by
 obtain⟨h0,h⟩:=aI h;obtain⟨d,hd,hn⟩:=Aw h0;refine⟨_,h,λf u hu=>⟨.iface t u,λw=>?_,.iface t _ _ hu⟩⟩;cases d<;>first|exact absurd rfl (hn _)|simp[Instr.makeInterface,run_underlying hd]
theorem W3{t u:TypeId}{ok:Bool}{a:AV}{k:AV→Prop}(h:UB P u ok a k) :
  ∃v,k v∧∀f x,VR f a x→∃r,(∀w,(Instr.typeAssert x t u ok).run P w=.ok r w)∧VR f v r:=by
 obtain⟨h0,h⟩:=aI h;obtain⟨d,hd,hn⟩:=Aw h0;split at h
 ·rename_i i hi;split at h
  ·rename_i z hz;unfold xt at h;have hzero:∀w,(zeroValue u).run P w=.ok z w:=λw=>by simp[zeroValue,typeInfo,hi,hz]
   split at h
   ·rename_i t' v hold;clear hold;rcases dW h with⟨he,h⟩|⟨he,h⟩
    ·have e:=Nat.eq_of_beq_eq_true he;have hh:=h;subst e;rcases dW hh with⟨hok,g⟩|⟨hok,g⟩
     ·refine⟨_,g,λf x hx=>?_⟩;cases hx with
      |iface _ _ y hy=>
       refine⟨.tuple #[y,.bool true],λw=>?_,.aY _ [y,.bool true] (.cons _ _ _ _ hy (.cons _ _ _ _ (.bool true) .nil))⟩;cases d<;>first|exact absurd rfl (hn _)|simp[Instr.typeAssert,run_underlying hd,hok]
     ·refine⟨_,g,λf x hx=>?_⟩;cases hx with
      |iface _ _ y hy=>
       refine⟨y,λw=>?_,hy⟩;cases d<;>first|exact absurd rfl (hn _)|simp[Instr.typeAssert,run_underlying hd,hok]
    ·have hne:¬(t'=u):=λe=>by subst e;rw[Nat.beq_refl]at he;cases he
     obtain⟨hok,h⟩:=aI h;refine⟨_,h,λf x hx=>?_⟩;cases hx with
     |iface _ _ y hy=>
      refine⟨.tuple #[z,.bool false],λw=>?_,.aY _ [z,.bool false] (.cons _ _ _ _ (pH f z) (.cons _ _ _ _ (.bool false) .nil))⟩;cases d<;>first|exact absurd rfl (hn _)|simp[Instr.typeAssert,run_underlying hd,hok,hne,hzero]
   ·obtain⟨hok,h⟩:=aI h;refine⟨_,h,λf x hx=>?_⟩;cases hx;refine⟨.tuple #[z,.bool false],λw=>?_,.aY _ [z,.bool false] (.cons _ _ _ _ (pH f z) (.cons _ _ _ _ (.bool false) .nil))⟩;cases d<;>first|exact absurd rfl (hn _)|simp[Instr.typeAssert,run_underlying hd,hok,hzero]
   ·exact h.elim
  ·exact h.elim
 ·exact h.elim
theorem adk{t:TypeId}{a:AV}{H:AH}{k:AV→AH→Prop}(h:OP P t a H k) :
  ∃v H',k v H'∧∀f w u,HR f H w→VR f a u→∃r w' f',(Instr.range t u).run P w=.ok r w'∧Step f H w f' H' w'∧VR f' v r:=by
 unfold OP at h;split at h
 ·rename_i ht;obtain⟨n,x,rfl,hh⟩:=hV h;obtain⟨H',g1,g2,g3,g4⟩:=mH hh;refine⟨_,H',g1,λf w u hr hu=>?_⟩;obtain⟨rfl,hx⟩:=hu.jC;refine⟨_,_,f.ext H.n w.heap.size 0 0,run_range_string w t _ ht,HR.push hr H' _ _ 0 0 g2 g3 g4 ⟨hx,aO.jB _ _ _ _ _,rfl⟩ (λ_=>rfl),?_⟩;refine VR.MP (aO.pC _ _ _ _ _) ?_;rw[aO.iC,aO.jB]
 ·exact h.elim
theorem W4{o:eS}{k:Nat→Nat→Nat→Prop}(h:adf o k):∃n x p,o=.iter n x p∧k n x p:=by
 cases o with
 |iter n x p=>exact⟨n,x,p,rfl,h⟩
 |_=>exact h.elim
theorem aky{ty:TypeId}{a:AV}{H:AH}{k:AV→AH→Prop}(h:amv a H k) :
  ∃v H',k v H'∧∀f w u,HR f H w→VR f a u→∃r w' f',(Instr.next u true ty).run P w=.ok r w'∧Step f H w f' H' w'∧VR f' v r:=by
 obtain⟨b,o,rfl,h⟩:=nF h;obtain⟨ho,h⟩:=aI h;have ho:=Nat.eq_of_beq_eq_true ho;obtain⟨ob,hob,h⟩:=Bt.ef _ _ _ h;obtain⟨n,x,p,rfl,h⟩:=W4 h;have hat:=AH.rT hob;have aqV:∀{f:aO}{w:World},HR f H w→f.dom b→b<H.n∧x<256^n∧f.off b=0∧w.heap[f.blk b]? = some (.stringIter (fu n x) p):=λ{f w} hr hd=>by
  have hlt:b<H.n:=hr.dom b hd;have:=hr.obj b hd (by rw[AH.bX,hat];rfl);rw[AH.bX,hat]at this;exact⟨hlt,this.1,this.2.1,this.2.2⟩
 rcases dW h with⟨hp,h⟩|⟨hp,h⟩
 ·have hp:p<n:=Nat.le_of_ble_eq_true hp;rw[bw]at h;obtain⟨hc,h⟩:=aI h;have hc:=Nat.le_of_ble_eq_true hc;rw[bw]at h;obtain⟨H',g1,g2,g3,g4⟩:=hH h;refine⟨_,H',g1,λf w u hr hu=>?_⟩;obtain⟨hlt,hx,h0,hw⟩:=aqV hr hu.fw.2;obtain⟨rfl,hb⟩:=hu.fw;have hsz:p<(fu n x).size:=by simpa using hp
  have hby:((fu n x)[p]'hsz)=UInt8.ofNat (byteAt x p):=by
   have:=Ou (x:=x) hp;rw[getElem?_pos (fu n x) p hsz]at this;injection this
  have aqW:((fu n x)[p]'hsz).toNat=byteAt x p:=by
   rw[hby];have:byteAt x p<256:=MN x p;simp;omega
  have hdec:=decode_ascii (fu n x) p hsz (by rw[aqW];omega);rw[aqW]at hdec;have hblt:f.blk b<w.heap.size:=(Array.getElem?_eq_some_iff.1 hw).1;refine⟨.tuple #[.bool true,.int .i64 p,.int .i32 (byteAt x p)],{ w with heap:=w.heap.setIfInBounds (f.blk b) (.stringIter (fu n x) (p+1)) },f,?_,?_,?_⟩
  ·rw[h0,ho];simp[Instr.next,getObj,setObj,Sem.run,hw,hp,hdec,goInt]
  ·refine HR.update hr (b:=b) hb (by rw[hat];rfl) H' _ (.stringIter (fu n x) (p+1)) _ g2 g3 g4 rfl ⟨hx,h0,rfl⟩ ?_ (by simp) (λk hk=>?_) rfl rfl rfl
   ·simp[hblt]
   ·exact Array.getElem?_setIfInBounds_ne (λe=>hk e.symm)
  ·exact .aY _ [.bool true,.int .i64 p,.int .i32 (byteAt x p)] (.cons _ _ _ _ (.bool true) (.cons _ _ _ _ (.int 0 _) (.cons _ _ _ _ (.int 2 _) .nil)))
 ·have hp:¬p<n:=λhle=>by rw[Nat.ble_eq_true_of_le (show Nat.succ p≤n from hle)]at hp;cases hp
  refine⟨_,H,h,λf w u hr hu=>?_⟩;obtain⟨hlt,hx,h0,hw⟩:=aqV hr hu.fw.2;obtain⟨rfl,hb⟩:=hu.fw;refine⟨.tuple #[.bool false],w,f,?_,Step.refl hr,.aY _ [.bool false] (.cons _ _ _ _ (.bool false) .nil)⟩;rw[h0,ho];simp[Instr.next,getObj,Sem.run,hw,hp]
theorem an0{a b:AV}{k:AV→Prop}(h:amw a b k):∃v,k v∧∀f u x,VR f a u→VR f b x→∃r,(∀w,(Builtin.max2 u x).run P w=.ok r w)∧VR f v r:=by
 obtain⟨c,x,rfl,h1⟩:=fC h;obtain⟨d,y,rfl,h2⟩:=fC h1;rcases dW h2 with⟨hl,h⟩|⟨hl,h⟩<;>rw[xn]at hl
 ·exact⟨_,h,λf u z hu hz=>⟨.int (kd c) y,λw=>by rw[hu.bO,hz.bO];simp at hl;simp[Builtin.max2,hl],.int c y⟩⟩
 ·exact⟨_,h,λf u z hu hz=>⟨.int (kd c) x,λw=>by rw[hu.bO,hz.bO];simp at hl;simp[Builtin.max2];omega,.int c x⟩⟩
theorem an1{a b:AV}{k:AV→Prop}(h:NT a b k):∃v,k v∧∀f u x,VR f a u→VR f b x→∃r,(∀w,(Builtin.min2 u x).run P w=.ok r w)∧VR f v r:=by
 obtain⟨c,x,rfl,h1⟩:=fC h;obtain⟨d,y,rfl,h2⟩:=fC h1;rcases dW h2 with⟨hl,h⟩|⟨hl,h⟩<;>rw[xn]at hl
 ·exact⟨_,h,λf u z hu hz=>⟨.int (kd c) y,λw=>by rw[hu.bO,hz.bO];simp at hl;simp[Builtin.min2,hl],.int c y⟩⟩
 ·exact⟨_,h,λf u z hu hz=>⟨.int (kd c) x,λw=>by rw[hu.bO,hz.bO];simp at hl;simp[Builtin.min2];omega,.int c x⟩⟩
theorem EA{g:AV→AV→(AV→Prop)→Prop}{m:Value→Value→Sem Value}(hg:∀a b k,g a b k→∃v,k v∧∀f u x,VR f a u→VR f b x→∃r,(∀w,(m u x).run P w=.ok r w)∧VR f v r) :
  ∀(l:List AV) (a:AV) (k:AV→Prop),BM g l a k→∃v,k v∧∀f u us,VR f a u→VL f l us→∃r,(∀w,(us.foldlM m u).run P w=.ok r w)∧VR f v r
 |[],a,k,h=>⟨a,h,λf u us hu hus=>by cases hus;exact⟨u,λw=>by simp,hu⟩⟩
 |b::l,a,k,h=>by
  obtain⟨v,h1,h2⟩:=hg a b _ h;obtain⟨v',h3,h4⟩:=EA hg l v k h1;refine⟨v',h3,λf u us hu hus=>?_⟩;cases hus with
  |cons _ x _ xs hx hxs=>
   obtain⟨r,r1,r2⟩:=h2 f u x hu hx;obtain⟨r',r3,r4⟩:=h4 f r xs r2 hxs;exact⟨r',λw=>by simp[r1,r3],r4⟩
theorem an2{t u ty:TypeId}{ts:Array TypeId}{a:AV}{H:AH}{k:AV→Prop}(hts:ts[0]? = some t)(h:akv P t a H k) :
  ∃v,k v∧∀f w u,HRQ f H.sem w→VR f a u→∃r,(Builtin.len_ ts ty #[u]).run P w=.ok r w∧VR f v r:=by
 unfold akv at h;split at h
 ·rename_i ht;obtain⟨n,x,rfl,hh⟩:=hV h;exact⟨_,hh,λf w u hr hu=>⟨.int .i64 n,by rw[hu.jC.1];simp[Builtin.len_,hts,run_underlying ht,goInt],.int 0 _⟩⟩
 ·rename_i e ht;rcases lY h with⟨rfl,hh⟩|⟨b,o,len,cap,sz,ex,rfl,hh⟩
  ·exact⟨_,hh,λf w u hr hu=>⟨.int .i64 0,by cases hu;simp[Builtin.len_,hts,run_underlying ht,goInt],.int 0 _⟩⟩
  ·exact⟨_,hh,λf w u hr hu=>⟨.int .i64 len,by cases hu;simp[Builtin.len_,hts,run_underlying ht,goInt],.int 0 _⟩⟩
 ·rename_i n e ht;exact⟨_,h,λf w u hr hu=>⟨.int .i64 n,by simp[Builtin.len_,hts,run_underlying ht,goInt],.int 0 _⟩⟩
 ·rename_i q e ht;unfold adg at h;split at h
  ·exact⟨_,h,λf w u hr hu=>⟨.int .i64 0,by cases hu;simp[Builtin.len_,hts,run_underlying ht,goInt],.int 0 _⟩⟩
  ·rename_i b;obtain⟨ob,hob,h⟩:=Bt.ef _ _ _ h;split at h
   ·rename_i es cl;rw[bw]at h;refine⟨_,h,λf w u hr hu=>?_⟩;have hat:=AH.rT hob;have hd:f.dom b:=by cases hu;assumption
    have:=hr.obj b hd (by rw[AH.bX,hat];rfl);rw[AH.bX,hat]at this;obtain⟨es',e1,e2⟩:=this;have hlen:∀{as:List fE}{bs:List MapEntry},kH f as bs→as.length=bs.length:=λh=>by
     induction h with
     |nil=>rfl
     |cons _ _ _ _ _ _ ih=>simp[ih]
    have hl:=hlen e2;cases hu;refine⟨.int .i64 (es'.size),?_,?_⟩
    ·simp[Builtin.len_,hts,run_underlying ht,goInt,getObj,Sem.run,e1]
    ·have:((es'.size:Nat):Int)=.ofNat es.length:=by rw[hl];simp
     rw[this];exact .int 0 _
   ·exact h.elim
  ·exact h.elim
 ·exact h.elim
theorem adl{nw:Lay}{t:TypeId}{l c:AV}{k:AV→AH→Prop}(h:OQ P nw t l c k) :
  ∃o vf,nw o (λb H'=>k (vf b) H')∧o.sem.own=true∧∀(f:aO) w lu cu,VR f l lu→VR f c cu→∃r obj,(Instr.makeSlice t lu cu).run P w=.ok r (w.alloc obj)∧nG f w o vf r obj:=by
 unfold OQ at h;split at h
 ·rename_i e ht;split at h
  ·rename_i i z hi hz;obtain⟨h1,h⟩:=aI h;obtain⟨h2,h⟩:=aI h;have e1:=Nat.le_of_ble_eq_true h1;have e2:=Nat.eq_of_beq_eq_true h2;obtain⟨i',zv,hi',hzv,hzl⟩:=lh hz;rw[hi]at hi';injection hi' with hi';subst hi';obtain⟨c1,n,rfl,ha⟩:=jL h;obtain⟨c2,m,rfl,hb⟩:=jL ha;obtain⟨h3,hb⟩:=aI hb;obtain⟨h4,hb⟩:=aI hb;obtain⟨h5,hb⟩:=aI hb;have e3:=Nat.le_of_ble_eq_true h3;have e4:m*i.bytes≤1099511627776:=Nat.le_of_ble_eq_true h4;have e5:=Nat.le_of_ble_eq_true h5;obtain⟨tr,hb,p1,p2,p3⟩:=fX _ _ _ _ hb;obtain⟨h6,hb⟩:=aI hb;simp only[Nat.zero_add]at hb p2 p3;refine⟨_,λb=>.slice b 0 n m i.size true,hb,rfl,λf w lu cu hl hc=>?_⟩;rw[hl.bO,hc.bO];have hzs:zv.cells.size=i.size:=by
    have h1:=(hzl f).length;have h2:zv.cells.toList.length=zv.cells.size:=Array.length_toList;omega
   have hrun:=run_make (P:=P) w t e i zv ht hi hzv (kd c1) (kd c2) (.ofNat n) (.ofNat m) (Int.natCast_nonneg n) (Int.ofNat_le.2 e3) (by
    have:(i.bytes:Int)*(m:Int)=((m*i.bytes:Nat):Int):=by rw[Int.natCast_mul,Int.mul_comm]
    change (i.bytes:Int)*(m:Int)≤_
    rw[this];omega) (by change (m:Int)≤_;omega)
   have hcells:madeCells zv.cells ((Int.ofNat m).toNat*i.size)=(List.flatten (List.replicate m zv.cells.toList)).toArray:=by
    change madeCells zv.cells (m*i.size)=_
    rw[←hzs];unfold madeCells;by_cases h0:m*zv.cells.size=0
    ·have:m=0:=by
      rcases Nat.mul_eq_zero.1 h0 with h|h
      ·exact h
      ·omega
     subst this;simp
    ·simpa[h0]using og zv.cells m (by omega)
   rw[hcells]at hrun;have hv:=VL.nk (hzl f) m;have hpush:=ze (w:=w) hv p2 (λj hj=>by rw[p3 j (.inr hj)];rfl) [] e (vf:=λb=>.slice b 0 n m i.size true) (r:=.slice (some ⟨w.heap.size,0,none⟩) n m) (λx hx=>by
    have:=VR.slice (f:=f.ext x w.heap.size 0 (List.flatten (List.replicate m zv.cells.toList)++[]).length) x 0 n m i.size true m 0 (aO.pC _ _ _ _ _) e3 (Nat.le_refl _) (λ_=>by rw[aO.jB]) (λh=>absurd h (Nat.lt_irrefl _));rw[aO.iC]at this;exact this)
   rw[List.append_nil]at hpush;exact⟨_,_,hrun,hpush⟩
  ·exact h.elim
 ·exact h.elim
end
mutual
def aU:AV→AV→Bool
 |.bool a,.bool b=>a == b
 |.int k x,.int k' y=>Nat.beq k k'&&bj x y
 |.str n x,.str m y=>Nat.beq n m&&Nat.beq x y
 |.jA,.jA=>true
 |.ptr b o,.ptr b' o'=>Nat.beq b b'&&Nat.beq o o'
 |.ab,.ab=>true
 |.slice b o l c s x,.slice b' o' l' c' s' x'=>Nat.beq b b'&&(Nat.beq o o'&&(Nat.beq l l'&&(Nat.beq c c'&&(Nat.beq s s'&&(x == x')))))
 |.qN,.qN=>true
 |.map b,.map b'=>Nat.beq b b'
 |.rP,.rP=>true
 |.func g a b,.func g' a' b'=>Nat.beq g g'&&(mN a a'&&mN b b')
 |.fl,.fl=>true
 |.iface t v,.iface t' v'=>Nat.beq t t'&&aU v v'
 |.agg l,.agg l'=>mN l l'
 |_,_=>false
def mN:List AV→List AV→Bool
 |[],[]=>true
 |a::l,b::m=>aU a b&&mN l m
 |_,_=>false
end
mutual
theorem vV:∀{a b:AV},aU a b=true→a=b
 |.bool a,b,h=>by cases b<;>simp[aU]at h;subst h;rfl
 |.int k x,b,h=>by
  cases b<;>simp[aU,oL]at h
  obtain⟨rfl,rfl⟩:=h;rfl
 |.str n x,b,h=>by cases b<;>simp[aU]at h;obtain⟨rfl,rfl⟩:=h;rfl
 |.jA,b,h=>by cases b<;>simp[aU]at h;rfl
 |.ptr _ _,b,h=>by cases b<;>simp[aU]at h;obtain⟨rfl,rfl⟩:=h;rfl
 |.ab,b,h=>by cases b<;>simp[aU]at h;rfl
 |.slice ..,b,h=>by cases b<;>simp[aU]at h;obtain⟨rfl,rfl,rfl,rfl,rfl,rfl⟩:=h;rfl
 |.qN,b,h=>by cases b<;>simp[aU]at h;rfl
 |.map _,b,h=>by cases b<;>simp[aU]at h;subst h;rfl
 |.rP,b,h=>by cases b<;>simp[aU]at h;rfl
 |.func g x y,b,h=>by
  cases b<;>simp[aU]at h
  obtain⟨rfl,h1,h2⟩:=h;rw[vW h1,vW h2]
 |.fl,b,h=>by cases b<;>simp[aU]at h;rfl
 |.iface t v,b,h=>by
  cases b<;>simp[aU]at h
  obtain⟨rfl,h1⟩:=h;rw[vV h1]
 |.agg l,b,h=>by
  cases b<;>simp[aU]at h
  rw[vW h]
 |.aY _,b,h=>by cases b<;>simp[aU]at h
 |.df,b,h=>by cases b<;>simp[aU]at h
theorem vW:∀{a b:List AV},mN a b=true→a=b
 |[],b,h=>by cases b<;>simp[mN]at h;rfl
 |a::l,b,h=>by
  cases b with
  |nil=>simp[mN]at h
  |cons x m=>
   simp[mN]at h;rw[vV h.1,vW h.2]
end
end Go.X
namespace Go.X
open Go.WideMaps
def oM(P:Program)(t:TypeId)(a:AV):Bool:=
 match P.underlying t,a with
 |some .bool,.bool _=>true
 |some (.int q),.int c n=>Nat.beq c (kn q)&&(Lit.int q n).wf
 |some .string,.str n _=>Nat.ble n maxLen
 |_,_=>false
def lZ(P:Program):List Field→List AV→Bool
 |[],[]=>true
 |f::fs,a::as=>oM P f.type a&&lZ P fs as
 |_,_=>false
def zl(P:Program)(k:TypeId)(a:AV):Bool:=
 match P.underlying k with
 |some (.struct fs)=>(match a with|.agg cs=>lZ P fs.toList cs|_=>false)
 |some .string=>oM P k a
 |_=>false
def NU(P:Program):List Field→Nat→Bool
 |[],_=>true
 |f::fs,i=>Nat.beq f.offset i&&(Nat.beq (P.cellsOf f.type) 1&&NU P fs (i+1))
def uI(P:Program)(k:TypeId):Bool:=
 match P.underlying k with
 |some .string=>true
 |some (.struct fs)=>laidOutB P&&(Nat.ble (P.types.size+2) 10000&&(Nat.blt k P.types.size&&(P.keyType k&&(NU P fs.toList 0&&(Nat.beq (P.cellsOf k) fs.size&&fs.all (·.name != "_"))))))
 |_=>false
theorem akz{P:Program}{k:TypeId}(h:uI P k=true):KeyLaw P k:=by
 unfold uI at h;split at h
 ·rename_i e;exact string_law e
 ·rename_i fs e;simp only[Bool.and_eq_true]at h;obtain⟨h1,h2,h3,h4,h5,h6,h7⟩:=h;exact deep_law_gate h1 (Nat.le_of_ble_eq_true h2) (Nat.le_of_ble_eq_true h3) h4 (by rw[e])
 ·cases h
theorem TH{P:Program}{t:TypeId}{a:AV}{f:aO}{v:Value}(h:oM P t a=true)(hv:VR f a v)(n:Nat):∃l,P.keyLits (n+1) t [v]=some l:=by
 unfold oM at h;split at h
 ·rename_i b e;cases hv;exact⟨_,by simp[Program.keyLits,e];rfl⟩
 ·rename_i q c z e;simp only[Bool.and_eq_true]at h;obtain⟨h1,h2⟩:=h;have:=Nat.eq_of_beq_eq_true h1;subst this;cases hv;exact⟨[.int q z],by simp[Program.keyLits,e,Fp,h2]⟩
 ·rename_i m x e;cases hv;exact⟨_,by simp[Program.keyLits,e,Nat.le_of_ble_eq_true h];rfl⟩
 ·cases h
theorem Ax{P:Program}{f:aO}(n:Nat){UC:List Value}:∀{fs:List Field}{as:List AV}{vs:List Value}{i:Nat},lZ P fs as=true→VL f as vs→NU P fs i=true→UC.drop i=vs→
  ∃l,(fs.mapM λg=>P.keyLits (n+1) g.type ((UC.drop g.offset).take (P.cellsOf g.type)))=some l
 |[],as,vs,i,_,_,_,_=>⟨[],rfl⟩
 |g::fs,[],_,_,h,_,_,_=>by cases h
 |g::fs,a::as,_,i,h,.cons _ v _ vs h1 h2,hf,hd=>by
  simp only[lZ,Bool.and_eq_true]at h;simp only[NU,Bool.and_eq_true]at hf;obtain⟨f1,f2,f3⟩:=hf;have e1:=Nat.eq_of_beq_eq_true f1;have e2:=Nat.eq_of_beq_eq_true f2;obtain⟨l1,g1⟩:=TH h.1 h1 n;obtain⟨l2,g2⟩:=Ax n (UC:=UC) (i:=i+1) h.2 h2 f3 (by rw[←List.tail_drop,hd];rfl);refine⟨l1::l2,?_⟩;rw[List.mapM_cons,e1,e2,hd];simp[g1,g2]
theorem xv{P:Program}:∀{fs:List Field}{as:List AV},lZ P fs as=true→as.length=fs.length
 |[],[],_=>rfl
 |[],_::_,h=>by cases h
 |_::_,[],h=>by cases h
 |g::fs,a::as,h=>by
  simp only[lZ,Bool.and_eq_true]at h;simp[xv h.2]
theorem UD{P:Program}{k:TypeId}{a:AV}{f:aO}{v:Value}(hl:uI P k=true)(h:zl P k a=true)(hv:VR f a v):∃l,keyOf P k v=some l:=by
 unfold zl at h;unfold uI at hl;split at h
 ·rename_i fs e;rw[e]at hl;simp only[Bool.and_eq_true]at hl;obtain⟨h1,h2,h3,h4,h5,h6,h7⟩:=hl;split at h
  ·rename_i cs;cases hv with
   |agg _ vs hvs=>
    have hlen:=xv h;have hvl:=hvs.length;have e6:=Nat.eq_of_beq_eq_true h6;obtain⟨l,hm⟩:=Ax (P.types.size-1) (UC:=vs) (i:=0) h hvs h5 rfl;have hsz:P.types.size=P.types.size-1+1:=by have:=Nat.le_of_ble_eq_true h3;omega
    rw[←hsz]at hm;refine⟨.string (keyBytes l.flatten),?_⟩
    ·have hc:vs.length=P.cellsOf k:=by rw[e6,←hvl,hlen];simp
     have hk:P.keyLits (P.types.size+1) k vs=some l.flatten:=by
      unfold Program.keyLits;split
      ·rename_i he;rw[e]at he;cases he
      ·rename_i he;rw[e]at he;cases he
      ·rename_i he;rw[e]at he;cases he
      ·rename_i he;rw[e]at he;cases he
      ·rename_i he;rw[e]at he;cases he;rw[if_pos ⟨hc,h7⟩,hm];rfl
      ·exact absurd e (‹∀fs,P.underlying k=some (TypeDesc.struct fs)→False› fs)
     unfold keyOf;simp only[e,h4,Value.formed,Value.cells,Bool.true_and];rw[if_pos (by simpa using hc)];show(P.keyLits (P.types.size+1) k vs).map _=_;rw[hk];rfl
  ·cases h
 ·rename_i e;unfold oM at h;rw[e]at h;cases a<;>simp at h
  cases hv;exact⟨_,keyOf_string_mk e (by simpa using h)⟩
 ·cases h
def pl(a:AV):Bool:=match a with|.bool _=>true|.int ..=>true|.str ..=>true|_=>false
theorem MW{P:Program}{t:TypeId}{a:AV}(h:oM P t a=true):pl a=true:=by
 unfold oM at h;split at h<;>first|rfl|cases h
theorem adm{f:aO}{a:AV}{u v:Value}(h:pl a=true)(h1:VR f a u)(h2:VR f a v):u=v:=by
 cases a<;>first|cases h|skip
 ·cases h1 with|bool=>cases h2 with|bool=>rfl
 ·cases h1 with|int=>cases h2 with|int=>rfl
 ·cases h1 with|str=>cases h2 with|str=>rfl
theorem Ec{P:Program}{f:aO}:∀{fs:List Field}{as:List AV}{us vs:List Value},lZ P fs as=true→VL f as us→VL f as vs→us=vs
 |[],[],_,_,_,.nil,.nil=>rfl
 |[],_::_,_,_,h,_,_=>by cases h
 |_::_,[],_,_,h,_,_=>by cases h
 |g::fs,a::as,_,_,h,.cons _ u _ us h1 h2,.cons _ v _ vs h3 h4=>by
  simp only[lZ,Bool.and_eq_true]at h;rw[adm (MW h.1) h1 h3,Ec h.2 h2 h4]
theorem akA{P:Program}{k:TypeId}{f:aO}{a:AV}{u v:Value}(h:zl P k a=true)(h1:VR f a u)(h2:VR f a v):u=v:=by
 unfold zl at h;split at h
 ·split at h
  ·cases h1 with|agg _ us g1=>cases h2 with|agg _ vs g2=>rw[Ec h g1 g2]
  ·cases h
 ·exact adm (MW h) h1 h2
 ·cases h
theorem MX{P:Program}{t:TypeId}{f:aO}{a b:AV}{u:Value}(ha:oM P t a=true)(hb:oM P t b=true)(h1:VR f a u)(h2:VR f b u):aU a b=true:=by
 unfold oM at ha hb;split at ha
 ·rename_i x e;rw[e]at hb;cases h1 with|bool=>cases b<;>simp at hb;cases h2 with|bool=>simp[aU]
 ·rename_i q c z e;rw[e]at hb;simp only[Bool.and_eq_true]at ha;have ec:=Nat.eq_of_beq_eq_true ha.1;subst ec;cases b<;>simp at hb
  rename_i c2 z2;obtain⟨rfl,_⟩:=hb;generalize hc:AV.int (kn q) z=aa at h1;cases h1<;>cases hc
  generalize hc:AV.int (kn q) z2=aa at h2;generalize hv:Value.int (kd (kn q)) z=vv at h2;cases h2<;>cases hc
  cases hv;simp[aU,oL]
 ·rename_i n x e;rw[e]at hb;cases b<;>simp at hb
  rename_i m y;generalize hc:AV.str n x=aa at h1;cases h1<;>cases hc
  rename_i hx;generalize hc:AV.str m y=aa at h2;generalize hv:Value.string (fu n x)=vv at h2;cases h2<;>cases hc
  rename_i hy;simp only[Value.string.injEq]at hv;have:=Jw hx hy;have e2:jl n x=jl m y:=by
   have:=congrArg (λb:ByteArray=>b.toList) hv;simpa using this
  rw[e2]at this;simpa[aU]using this.symm
 ·cases ha
theorem FB{P:Program}{f:aO}:∀{fs:List Field}{as bs:List AV}{us:List Value},lZ P fs as=true→lZ P fs bs=true→VL f as us→VL f bs us→mN as bs=true
 |[],[],[],_,_,_,_,_=>rfl
 |[],_::_,_,_,h,_,_,_=>by cases h
 |[],[],_::_,_,_,h,_,_=>by cases h
 |_::_,[],_,_,h,_,_,_=>by cases h
 |_::_,_::_,[],_,_,h,_,_=>by cases h
 |g::fs,a::as,b::bs,_,h,h',.cons _ u _ us h1 h2,.cons _ _ _ _ h3 h4=>by
  simp only[lZ,Bool.and_eq_true]at h h';simp only[mN,Bool.and_eq_true];exact⟨MX h.1 h'.1 h1 h3,FB h.2 h'.2 h2 h4⟩
theorem akB{P:Program}{k:TypeId}{f:aO}{a b:AV}{u:Value}(ha:zl P k a=true)(hb:zl P k b=true)(h1:VR f a u)(h2:VR f b u):aU a b=true:=by
 unfold zl at ha hb;split at ha
 ·rename_i fs e;rw[e]at hb;cases a<;>simp at ha
  cases b<;>simp at hb
  rename_i as bs;generalize hc:AV.agg as=aa at h1;cases h1<;>cases hc
  rename_i us g1;generalize hc:AV.agg bs=aa at h2;generalize hv:Value.agg us.toArray=vv at h2;cases h2<;>cases hc
  rename_i vs g2;have:us=vs:=by simpa using hv
  subst this;exact FB ha hb g1 g2
 ·rename_i e;rw[e]at hb;exact MX ha hb h1 h2
 ·cases ha
def idxs(x:AV):List fE→Nat→List Nat
 |[],_=>[]
 |e::es,i=>match aU e.key x with|true=>i::idxs x es (i+1)|false=>idxs x es (i+1)
theorem EB{x:AV}:∀{es:List fE}{i j:Nat},j∈idxs x es i↔∃e,i≤j∧es[j-i]? = some e∧aU e.key x=true
 |[],i,j=>by simp[idxs]
 |e::es,i,j=>by
  have ih:=EB (x:=x) (es:=es) (i:=i+1) (j:=j);have key:(∃e',i≤j∧(e::es)[j-i]? = some e'∧aU e'.key x=true)↔(j=i∧aU e.key x=true)∨∃e',i+1≤j∧es[j-(i+1)]? = some e'∧aU e'.key x=true:=by
   constructor
   ·rintro⟨e',h1,h2,h3⟩;rcases Nat.lt_or_ge i j with h|h
    ·right;refine⟨e',h,?_,h3⟩;rw[show j-i=(j-(i+1))+1 by omega]at h2;simpa using h2
    ·have:j=i:=by omega
     subst this;simp at h2;subst h2;exact .inl ⟨rfl,h3⟩
   ·rintro(⟨rfl,h⟩|⟨e',h1,h2,h3⟩)
    ·exact⟨e,Nat.le_refl _,by simp,h⟩
    ·refine⟨e',by omega,?_,h3⟩;rw[show j-i=(j-(i+1))+1 by omega];simpa using h2
  rw[key];simp only[idxs];split
  ·rename_i h;simp[ih,h]
  ·rename_i h;simp[ih,h]
def tm(P:Program)(k:TypeId)(x:AV)(es:List fE):Option (Option Nat):=
 match zl P k x&&es.all (λe=>zl P k e.key)with
 |true=>(match idxs x es 0 with|[]=>some none|[i]=>some (some i)|_=>none)
 |false=>none
theorem kH.get{f:aO}:∀{as:List fE}{es:List MapEntry},kH f as es→∀{i:Nat}{a:fE},as[i]? = some a→∃e,es[i]? = some e∧ER f a e
 |_,_,.nil,i,a,h=>by simp at h
 |_,_,.cons a e as es h1 h2,0,b,h=>by simp at h;subst h;exact⟨e,by simp,h1⟩
 |_,_,.cons a e as es h1 h2,i+1,b,h=>by simpa using h2.get (by simpa using h)
theorem kH.get'{f:aO}:∀{as:List fE}{es:List MapEntry},kH f as es→∀{i:Nat}{e:MapEntry},es[i]? = some e→∃a,as[i]? = some a∧ER f a e
 |_,_,.nil,i,a,h=>by simp at h
 |_,_,.cons a e as es h1 h2,0,b,h=>by simp at h;subst h;exact⟨a,by simp,h1⟩
 |_,_,.cons a e as es h1 h2,i+1,b,h=>by simpa using h2.get' (by simpa using h)
theorem zm{P:Program}{k:TypeId}{x:AV}{es:List fE}{r:Option Nat}(hl:uI P k=true)(h:tm P k x es=some r){f:aO}{u:Value}{es':List MapEntry}(hx:VR f x u)(hes:kH f es es')(w:World) :
  (∀b,(Instr.checkKey b 10000 k u).run P w=.ok () w)∧(Instr.keyThatStays u u).run P w=.ok u w∧
  (match r with
  |none=>(Instr.findKey k u es').run P w=.ok none w
  |some i=>∃a e,es[i]? = some a∧es'[i]? = some e∧ER f a e∧e.key=u∧(Instr.findKey k u es').run P w=.ok (some (i,e.val)) w):=by
 have K:=akz hl;unfold tm at h;split at h
 case h_2=>cases h
 rename_i hk;simp only[Bool.and_eq_true,List.all_eq_true]at hk;obtain⟨hkx,hks⟩:=hk;obtain⟨lx,hlx⟩:=UD hl hkx hx;refine⟨λb=>K.check w b hlx,K.stays w hlx,?_⟩;have hkeys:∀e∈es',∃l,keyOf P k e.key=some l:=λe he=>by
  obtain⟨i,hi⟩:=List.getElem?_of_mem he;obtain⟨a,h1,h2⟩:=hes.get' hi;exact UD hl (hks a (List.mem_of_getElem? h1)) h2.1
 rcases K.find w hlx es' hkeys with⟨h1,h2⟩|⟨j,e,h1,h2,h3⟩
 ·have none_:idxs x es 0=[]:=by
   cases e:idxs x es 0 with
   |nil=>rfl
   |cons i l=>
    have:=(EB (x:=x) (es:=es) (i:=0) (j:=i)).1 (by rw[e];simp);obtain⟨a,_,g1,g2⟩:=this;rw[Nat.sub_zero]at g1;obtain⟨e',g3,g4⟩:=hes.get g1;have:=vV g2;have hy:VR f x e'.key:=this ▸ g4.1;exact absurd (akA hkx hy hx) (h2 e' (List.mem_of_getElem? g3))
  rw[none_]at h;cases h;exact h1
 ·obtain⟨a,g1,g2⟩:=hes.get' h2;have hs:aU a.key x=true:=akB (hks a (List.mem_of_getElem? g1)) hkx (h3 ▸ g2.1) hx;have hm:j∈idxs x es 0:=EB.2 ⟨a,Nat.zero_le _,by simpa using g1,hs⟩;split at h
  ·rename_i e0;rw[e0]at hm;cases hm
  ·rename_i i e0;rw[e0]at hm;simp at hm;subst hm;cases h;exact⟨a,e,g1,h2,g2,h3,h1⟩
  ·cases h
end Go.X
namespace Go.X
open Go.WideMaps Go.MapKept
theorem allocMap(f:aO)(w:World):nG f w (.map [] 0) (λb=>.map b) (.map (some w.heap.size)) (.map #[] 0):=by
 refine⟨0,λi hi=>⟨⟨#[],rfl,.nil⟩,?_⟩⟩;have:=VR.map (f:=f.ext i w.heap.size 0 0) i (aO.pC ..)
 rwa [aO.iC]at this
theorem TI{P:Program}{t:TypeId}(w:World):(Instr.makeMap t none).run P w=.ok (.map (some w.heap.size)) (w.alloc (.map #[] 0)):=by
 simp[Instr.makeMap,run_newObj]
def MapAt(H:AH)(m:AV)(es:List fE):Prop:=(m=.qN∧es=[])∨∃b cl,m=.map b∧H.at b=.map es cl
theorem MapAt.run{H:AH}{m:AV}{es:List fE}(h:MapAt H m es){f:aO}{w:World}{u:Value}(hr:HRQ f H.sem w)(hu:VR f m u) :
  (u=.map none∧es=[])∨∃r es' cl,u=.map (some r)∧w.heap[r]? = some (.map es' cl)∧kH f es es'.toList:=by
 rcases h with⟨rfl,rfl⟩|⟨b,cl,rfl,hb⟩
 ·cases hu;exact .inl ⟨rfl,rfl⟩
 ·right;cases hu with
  |map _ hd=>
   have:=hr.obj b hd (by rw[AH.bX,hb];rfl);rw[AH.bX,hb]at this;obtain⟨es',h1,h2⟩:=this;exact⟨_,es',cl,rfl,h1,h2⟩
def W5(ok:Bool)(z:AV)(es:List fE)(r:Option Nat):AV:=
 match r with
 |none=>(match ok with|true=>.aY [z,.bool false]|false=>z)
 |some i=>(match es[i]? with
  |some e=>(match ok with|true=>.aY [e.val,.bool true]|false=>e.val)
  |none=>.df)
theorem W6{P:Program}{t kt et:TypeId}{m key:AV}{es:List fE}{r:Option Nat}{inf:TypeInfo}{z:Value}{H:AH}(ht:P.underlying t=some (.map kt et))(hi:P.info? et=some inf)(hz:inf.zero=some z)
  (hl:uI P kt=true) (hm:MapAt H m es) (hf:tm P kt key es=some r) (ok:Bool){f:aO}{w:World}{um uk:Value}(hr:HRQ f H.sem w) (hum:VR f m um) (MY:VR f key uk) :
  ∃v,(Instr.lookup t um uk ok).run P w=.ok v w∧VR f (W5 ok (iO z) es r) v:=by
 have hzero:(zeroValue et).run P w=.ok z w:=by simp[zeroValue,typeInfo,hi,hz]
 have hzv:=pH f z;rcases hm.run hr hum with⟨rfl,rfl⟩|⟨q,es',cl,rfl,hb,hes⟩
 ·obtain⟨h1,_,h3⟩:=zm hl hf MY .nil w;cases r with
  |none=>
   refine⟨if ok then .tuple #[z,.bool false] else z,?_,?_⟩
   ·simp[Instr.lookup,run_underlying ht,h1,h3,hzero,Result.andThen]
   ·cases ok
    ·exact hzv
    ·exact .aY _ [_,_] (.cons _ _ _ _ hzv (.cons _ _ _ _ (.bool _) .nil))
  |some i=>obtain⟨a,e,g1,_⟩:=h3;simp at g1
 ·obtain⟨h1,_,h3⟩:=zm hl hf MY hes w;cases r with
  |none=>
   refine⟨if ok then .tuple #[z,.bool false] else z,?_,?_⟩
   ·simp[Instr.lookup,run_underlying ht,MapKept.run_getObj_map hb,h1,h3,hzero,Result.andThen]
   ·cases ok
    ·exact hzv
    ·exact .aY _ [_,_] (.cons _ _ _ _ hzv (.cons _ _ _ _ (.bool _) .nil))
  |some i=>
   obtain⟨a,e,g1,g2,g3,g4,g5⟩:=h3;refine⟨if ok then .tuple #[e.val,.bool true] else e.val,?_,?_⟩
   ·simp[Instr.lookup,run_underlying ht,MapKept.run_getObj_map hb,h1,g5,Result.andThen]
   ·simp only[W5,g1];cases ok
    ·exact g3.2.1
    ·exact .aY _ [_,_] (.cons _ _ _ _ g3.2.1 (.cons _ _ _ _ (.bool _) .nil))
def OT(es:List fE)(cl:Nat)(key val:AV)(r:Option Nat):List fE:=match r with
 |none=>es++[⟨key,val,cl⟩]
 |some i=>es.modify i λe=>⟨key,val,e.born⟩
def W7(cl:Nat)(r:Option Nat):Nat:=match r with|none=>cl+1|some _=>cl
theorem kH.append{f:aO}{as bs:List fE}{es gs:List MapEntry}(h:kH f as es)(h2:kH f bs gs):kH f (as++bs) (es++gs):=by
 induction h with
 |nil=>exact h2
 |cons a e as es h1 _ ih=>exact .cons a e _ _ h1 ih
theorem kH.modify{f:aO}{g:fE→fE}{g':MapEntry→MapEntry}:∀{as:List fE}{es:List MapEntry}(i:Nat),kH f as es→(∀a e,as[i]? = some a→es[i]? = some e→ER f a e→ER f (g a) (g' e))→kH f (as.modify i g) (es.modify i g')
 |_,_,i,.nil,_=>by simpa using kH.nil
 |_,_,0,.cons a e as es h1 h2,h=>by simpa using kH.cons _ _ _ _ (h a e (by simp) (by simp) h1) h2
 |_,_,i+1,.cons a e as es h1 h2,h=>by
  have:=h2.modify i λa e ha he=>h a e (by simpa using ha) (by simpa using he);simpa using kH.cons _ _ _ _ h1 this
theorem kH.eraseIdx{f:aO}:∀{as:List fE}{es:List MapEntry}(i:Nat),kH f as es→kH f (as.eraseIdx i) (es.eraseIdx i)
 |_,_,_,.nil=>by simpa using kH.nil
 |_,_,0,.cons a e as es h1 h2=>by simpa using h2
 |_,_,i+1,.cons a e as es h1 h2=>by simpa using kH.cons _ _ _ _ h1 (h2.eraseIdx i)
theorem zn{f:aO}{H H':AH}{w:World}{b cl cl':Nat}{es es':List fE}{gs:Array MapEntry}(hr:HR f H w)(hd:f.dom b)(hb:H.at b=.map es cl)(hn:H'.n=H.n)(hnew:H'.at b=.map es' cl')(hold:∀c,c≠b→H'.at c=H.at c)
  (hes:kH f es' gs.toList):Step f H w f H' { w with heap:=w.heap.setIfInBounds (f.blk b) (.map gs cl') }:=by
 have hin:f.blk b<w.heap.size:=by
  have:=hr.obj b hd (by rw[AH.bX,hb];rfl);rw[AH.bX,hb]at this;obtain⟨es0,h1,_⟩:=this;rcases Nat.lt_or_ge (f.blk b) w.heap.size with h|h
  ·exact h
  ·rw[Array.getElem?_eq_none h]at h1;cases h1
 refine HR.update hr hd (by rw[hb];rfl) H' (.map es' cl') (.map gs cl') _ hn hnew hold rfl ⟨gs,rfl,hes⟩ ?_ (by simp) (λk hk=>?_) rfl rfl rfl
 ·simp[hin]
 ·simp[Array.getElem?_setIfInBounds_ne (Ne.symm hk)]
theorem NN{P:Program}{t kt et:TypeId}{key val:AV}{b cl:Nat}{es:List fE}{r:Option Nat}{H H':AH}(ht:P.underlying t=some (.map kt et))(hl:uI P kt=true)(hb:H.at b=.map es cl)(hf:tm P kt key es=some r)
  (hn:H'.n=H.n) (hnew:H'.at b=.map (OT es cl key val r) (W7 cl r)) (hold:∀c,c≠b→H'.at c=H.at c){f:aO}{w:World}{um uk uv:Value}(hr:HR f H w) (hum:VR f (.map b) um) (MY:VR f key uk) (huv:VR f val uv) :
  ∃w',(Instr.mapUpdate t um uk uv).run P w=.ok () w'∧Step f H w f H' w':=by
 cases hum with
 |map _ hd=>
 have hob:=hr.obj b hd (by rw[AH.bX,hb];rfl);rw[AH.bX,hb]at hob;obtain⟨gs,g1,hes⟩:=hob;obtain⟨h1,h2,h3⟩:=zm hl hf MY hes w;cases r with
 |none=>
  refine⟨{ w with heap:=w.heap.setIfInBounds (f.blk b) (.map (gs.push { key:=uk,val:=uv,born:=cl }) (cl+1)) },?_,?_⟩
  ·simp[Instr.mapUpdate,run_underlying ht,MapKept.run_getObj_map g1,h1,h3,MapKept.run_setObj_map _ g1,Result.andThen]
  ·exact zn hr hd hb hn hnew hold (by simpa[OT]using hes.append (.cons _ _ _ _ ⟨MY,huv,rfl⟩ .nil))
 |some i=>
  obtain⟨a,e,k1,k2,k3,k4,k5⟩:=h3;refine⟨{ w with heap:=w.heap.setIfInBounds (f.blk b) (.map (gs.modify i λe=>{ e with key:=uk,val:=uv }) cl) },?_,?_⟩
  ·have k2':gs[i]? = some e:=by simpa using k2
   simp[Instr.mapUpdate,run_underlying ht,MapKept.run_getObj_map g1,h1,k5,k2',k4,h2,MapKept.run_setObj_map _ g1,Result.andThen]
  ·exact zn hr hd hb hn hnew hold (by
    simpa[OT]using hes.modify (g:=λe=>⟨key,val,e.born⟩) (g':=λe=>{ e with key:=uk,val:=uv }) i λa e _ _ h=>⟨MY,huv,h.2.2⟩)
def akC(es:List fE)(r:Option Nat):List fE:=match r with|none=>es|some i=>es.eraseIdx i
theorem W8{P:Program}{t kt et ty:TypeId}{ts:Array TypeId}{key:AV}{b cl:Nat}{es:List fE}{r:Option Nat}{H H':AH}(hts:ts[0]? = some t)(ht:P.underlying t=some (.map kt et))(hl:uI P kt=true)(hb:H.at b=.map es cl)(hf:tm P kt key es=some r)
  (hn:H'.n=H.n) (hnew:H'.at b=.map (akC es r) cl) (hold:∀c,c≠b→H'.at c=H.at c){f:aO}{w:World}{um uk:Value}(hr:HR f H w) (hum:VR f (.map b) um) (MY:VR f key uk) :
  ∃w',(Builtin.delete_ ts ty #[um,uk]).run P w=.ok (.tuple #[]) w'∧Step f H w f H' w':=by
 cases hum with
 |map _ hd=>
 have hob:=hr.obj b hd (by rw[AH.bX,hb];rfl);rw[AH.bX,hb]at hob;obtain⟨gs,g1,hes⟩:=hob;obtain⟨h1,h2,h3⟩:=zm hl hf MY hes w;cases r with
 |none=>
  refine⟨{ w with heap:=w.heap.setIfInBounds (f.blk b) (.map gs cl) },?_,?_⟩
  ·simp[Builtin.delete_,hts,run_underlying ht,MapKept.run_getObj_map g1,h1,h3,MapKept.run_setObj_map _ g1,Result.andThen]
  ·exact zn hr hd hb hn hnew hold hes
 |some i=>
  obtain⟨a,e,k1,k2,k3,k4,k5⟩:=h3;refine⟨{ w with heap:=w.heap.setIfInBounds (f.blk b) (.map (gs.eraseIdxIfInBounds i) cl) },?_,?_⟩
  ·simp[Builtin.delete_,hts,run_underlying ht,MapKept.run_getObj_map g1,h1,k5,MapKept.run_setObj_map _ g1,Result.andThen]
  ·refine zn hr hd hb hn hnew hold ?_;have:(gs.eraseIdxIfInBounds i).toList=gs.toList.eraseIdx i:=by
    have hi:i<gs.size:=by
     have:i<gs.toList.length:=by
      rcases Nat.lt_or_ge i gs.toList.length with h|h
      ·exact h
      ·rw[List.getElem?_eq_none h]at k2;cases k2
     simpa using this
    simp[Array.eraseIdxIfInBounds,hi]
   rw[this];exact hes.eraseIdx i
end Go.X
namespace Go.X
def bf(v:AV)(k:Bool→Prop):Prop:=match v with|.bool z=>k z|_=>False
def avg(q:Nat)(x y:AV)(k:Bool→Prop):Prop:=ky x λc a=>ky y λc' b=>bT (Nat.beq c q) (bT (Nat.beq c' q) (k (bj a b)))
def avh(x y:AV)(k:Bool→Prop):Prop:=gy x λn a=>gy y λm b=>k (Nat.beq n m&&Nat.beq a b)
def avi(x y:AV)(k:Bool→Prop):Prop:=bf x λa=>bf y λb=>k (a == b)
def NV(P:Program)(t:TypeId)(x y:AV)(H:AH)(k:Bool→Prop):Prop:=match P.underlying t with
 |some (.int q)=>avg (kn q) x y k
 |some .string=>avh x y k
 |some .bool=>avi x y k
 |some (.pointer e)=>(match P.info? e with|some i=>bT (Nat.ble 1 i.size) (zg true x y H λv=>bf v k)|none=>False)
 |_=>False
def akD(P:Program)(l1 l2:List AV)(H:AH):List Field→(Bool→Prop)→Prop
 |[],k=>k true
 |f::fs,k=>bT (f.name != "_") (cX l1 f.offset λx=>cX l2 f.offset λy=>NV P f.type x y H λe=>akD P l1 l2 H fs λe2=>k (e&&e2))
def aqX(P:Program)(op:BinOp)(t:TypeId)(fs:Array Field)(a b:AV)(H:AH)(k:AV→Prop):Prop:=
 bT (!(P.stoodInHeld t) && !(P.eqGuardType P.depth t)) (gz a λl1=>gz b λl2=>MQ op λr=>akD P l1 l2 H fs.toList λe=>k (.bool (match r with|true=>e|false=>!e)))
def W9(P:Program)(op:BinOp)(t:TypeId)(x y:Operand)(a b:AV)(H:AH)(k:AV→Prop):Prop:=match P.underlying t with
 |some (.struct fs)=>aqX P op t fs a b H k
 |_=>akk P op t x y a b H k
section
variable {P:Program}
theorem OU{v:AV}{k:Bool→Prop}(h:bf v k):∃z,v=.bool z∧k z:=by
 cases v<;>first|exact h.elim|exact⟨_,rfl,h⟩
theorem akE{t:TypeId}{x y:AV}{H:AH}{k:Bool→Prop}(h:NV P t x y H k):∃e,k e∧∀f u v d w,HRQ f H.sem w→VR f x u→VR f y v→(Op.equalIn (d+1) t u v).run P w=.ok e w:=by
 unfold NV at h;split at h
 ·rename_i q ht;obtain⟨c,a,rfl,h1⟩:=fC h;obtain⟨c',b,rfl,h2⟩:=fC h1;obtain⟨e1,h3⟩:=aI h2;obtain⟨e2,h4⟩:=aI h3;have e1:=Nat.eq_of_beq_eq_true e1;have e2:=Nat.eq_of_beq_eq_true e2;subst e1;subst e2;refine⟨_,h4,λf u v d w _ hu hv=>?_⟩;cases hu;cases hv;rw[run_equalIn_int w d t _ q _ _ ht,oL]
 ·rename_i ht;obtain⟨n,a,rfl,h1⟩:=hV h;obtain⟨m,b,rfl,h2⟩:=hV h1;refine⟨_,h2,λf u v d w _ hu hv=>?_⟩;obtain⟨rfl,hx⟩:=hu.jC;obtain⟨rfl,hy⟩:=hv.jC;rw[run_equalIn_string w d t _ _ ht];rw[←Jw hx hy];simp[fu,ByteArray.toList_eq]
 ·rename_i ht;obtain⟨a,rfl,h1⟩:=OU h;obtain⟨b,rfl,h2⟩:=OU h1;refine⟨_,h2,λf u v d w _ hu hv=>?_⟩;cases hu;cases hv;rw[run_equalIn_bool' w d t _ _ ht]
 ·rename_i el ht;split at h
  ·rename_i i hi;obtain⟨hs,h1⟩:=aI h;obtain⟨z,h2,g⟩:=Uv (P:=P) (t:=t) ht hi (Nat.le_of_ble_eq_true hs) h1;refine⟨z,by cases z<;>exact h2,λf u v d w hr hu hv=>g f w u v hr hu hv d⟩
  ·exact h.elim
 ·exact h.elim
theorem FC{a:AV}{k:List AV→Prop}(h:gz a k):∃l,a=.agg l∧k l:=by
 cases a<;>first|exact h.elim|exact⟨_,rfl,h⟩
theorem UE{l1 l2:List AV}{H:AH}:∀{fs:List Field}{k:Bool→Prop},akD P l1 l2 H fs k→∃e,k e∧∀f us vs d w,HRQ f H.sem w→VL f l1 us→VL f l2 vs→(Op.eqFields (d+1) us.toArray vs.toArray fs).run P w=.ok e w
 |[],k,h=>⟨true,h,λ_ _ _ _ _ _ _ _=>by simp[Op.eqFields]⟩
 |g::fs,k,h=>by
  obtain⟨hn,h⟩:=aI h;obtain⟨x,h1,h⟩:=qS _ _ _ h;obtain⟨y,h2,h⟩:=qS _ _ _ h;have hs:sW P g.type=false∧∃d,P.underlying g.type=some d:=by
   unfold NV at h;split at h
   ·rename_i q e;exact⟨by simp[sW,e],_,e⟩
   ·rename_i e;exact⟨by simp[sW,e],_,e⟩
   ·rename_i e;exact⟨by simp[sW,e],_,e⟩
   ·rename_i e;exact⟨by simp[sW,e],_,e⟩
   ·exact h.elim
  obtain⟨ha,du,xp⟩:=hs;obtain⟨e,h,g1⟩:=akE h;obtain⟨e2,h,g2⟩:=UE h;refine⟨_,h,λf us vs d w hr hu hv=>?_⟩;obtain⟨r1,y1,y2⟩:=hu.get _ _ h1;obtain⟨r2,z1,z2⟩:=hv.get _ _ h2;have p1:∀w,(part g.type us.toArray g.offset).run P w=.ok r1 w:=λw=>by simp[part,qR xp,ha,y1]
  have p2:∀w,(part g.type vs.toArray g.offset).run P w=.ok r2 w:=λw=>by simp[part,qR xp,ha,z1]
  have hne:g.name ≠ "_" := by simpa using hn
  simp only[Op.eqFields,if_pos hne,Sem.run_bind,p1,p2,g1 f r1 r2 d w hr y2 z2,Result.andThen_ok,Sem.run_ite];cases e
  ·simp
  ·simpa using g2 f us vs d w hr hu hv
theorem an3{op:BinOp}{t:TypeId}{fs:Array Field}{x y:Operand}{a b:AV}{H:AH}{k:AV→Prop}(ht:P.underlying t=some (.struct fs))(h:aqX P op t fs a b H k):∃v,k v∧nd P op t x y a b H v:=by
 obtain⟨hc,h⟩:=aI h;simp only[Bool.and_eq_true,Bool.not_eq_true']at hc;obtain⟨l1,rfl,h1⟩:=FC h;obtain⟨l2,rfl,h2⟩:=FC h1;obtain⟨r,hop,h⟩:=tI h2;obtain⟨e,h,g⟩:=UE h;have hf:P.fieldsOf t=fs:=by simp[Program.fieldsOf,ht]
 refine⟨_,h,λf w u1 u2 hr h1 h2 _ _=>?_⟩;cases h1 with
 |agg _ us hu=>
  cases h2 with
  |agg _ vs hv=>
   have hrun:(Op.equalIn 10000 t (.agg us.toArray) (.agg vs.toArray)).run P w=.ok e w:=by
    rw[show(10000:Nat)=9999+1 from rfl,run_equalIn_struct w 9999 t _ _ (by rw[hf];exact ht) hc.1,hf];exact g f us vs 9998 w hr hu hv
   rw[Sem.run_bind,run_eqGuard_agg w op t x y _ _ hc.2,Result.andThen_ok];rcases hop with⟨rfl,rfl⟩|⟨rfl,rfl⟩
   ·exact⟨.bool e,by rw[run_eql_struct,hrun];rfl,.bool e⟩
   ·exact⟨.bool (!e),by rw[run_neq_struct,hrun];rfl,.bool (!e)⟩
theorem akF{op:BinOp}{t:TypeId}{x y:Operand}{a b:AV}{H:AH}{k:AV→Prop}(h:W9 P op t x y a b H k):∃v,k v∧nd P op t x y a b H v:=by
 unfold W9 at h;split at h
 ·exact an3 (by assumption) h
 ·exact anV h
end
noncomputable section
def aqY(a:AV)(k:AV→Prop):Prop:=od a (k (.int 0 (.ofNat 0))) λ_ _ _ c _ ex=>bT ex (k (.int 0 (.ofNat c)))
def akG(P:Program)(t:TypeId)(a:AV)(k:AV→Prop):Prop:=match P.underlying t with|some (.slice _)=>aqY a k|_=>False
def adn(sz:Nat)(z:List AV)(a:AV)(H:AH)(k:AH→Prop):Prop:=
 od a (k H) λb o len _ sz' _=>bT (Nat.beq sz' sz) (gD H b λc m w=>bT (Nat.ble w 1) (jm (nk len z) c o λc' o'=>bT (Nat.ble o' m) (ij H b (.cells c' m w) k)))
def OV(P:Program)(t:TypeId)(a:AV)(H:AH)(k:AH→Prop):Prop:=match P.underlying t with
 |some (.slice e)=>(match P.info? e,zeroCells P e with
  |some i,some z=>bT (Nat.beq z.length i.size) (adn i.size z a H k)
  |_,_=>False)
 |_=>False
def NW(a b:AV)(H:AH)(k:AV→Prop):Prop:=
 od a (od b (k (.bool false)) λ_ _ _ _ _ _=>k (.bool false)) λb1 _ _ _ _ _=>od b (k (.bool false)) λb2 _ _ _ _ _=>
  bT (!(Nat.beq b1 b2)) (gD H b1 λ_ _ m1=>bT (Nat.beq m1 0) (gD H b2 λ_ n2 _=>bT (Nat.ble 1 n2) (k (.bool false))))
end
section
variable {P:Program}
theorem an4{t ty:TypeId}{ts:Array TypeId}{a:AV}{k:AV→Prop}(hts:ts[0]? = some t)(h:akG P t a k) :
  ∃v,k v∧∀f w u,VR f a u→∃r,(Builtin.cap_ ts ty #[u]).run P w=.ok r w∧VR f v r:=by
 unfold akG at h;split at h
 ·rename_i e ht;unfold aqY at h;rcases im h with⟨rfl,h⟩|⟨b,o,len,cap,sz,ex,rfl,h⟩
  ·exact⟨_,h,λf w u hu=>⟨.int .i64 0,by cases hu;simp[Builtin.cap_,hts,run_underlying ht,goInt],.int 0 _⟩⟩
  ·obtain⟨rfl,h⟩:=aI h;refine⟨_,h,λf w u hu=>⟨.int .i64 cap,?_,.int 0 _⟩⟩;cases hu with
   |slice _ _ _ _ _ _ cap' x h1 h2 h3 h4 h5=>
    have:cap'=cap:=by
     rcases Nat.lt_or_ge cap cap' with g|g
     ·exact absurd (h5 g).1 (by simp)
     ·omega
    subst this;simp[Builtin.cap_,hts,run_underlying ht,goInt]
 ·exact h.elim
theorem xw(z:Array Value)(n:Nat):(Builtin.zeroCells z n).toList=List.flatten (List.replicate n z.toList):=by
 by_cases h0:n*z.size=0
 ·rcases Nat.mul_eq_zero.1 h0 with h|h
  ·subst h;simp[Builtin.zeroCells]
  ·have:z = #[]:=by simpa using h
   subst this;simp[Builtin.zeroCells]
 ·have hz:0<z.size:=Nat.pos_of_ne_zero λe=>h0 (by rw[e,Nat.mul_zero]);have:=og z n hz;unfold Builtin.zeroCells;rw[this]
theorem ado{t ty:TypeId}{a:AV}{H:AH}{k:AH→Prop}(h:OV P t a H k) :
  ∃H',k H'∧∀f w u,HR f H w→VR f a u→∃w',(Builtin.clear_ #[t] ty #[u]).run P w=.ok undef w'∧Step f H w f H' w':=by
 unfold OV at h;split at h
 ·rename_i e ht;split at h
  ·rename_i i z hi hz;obtain⟨axq,h⟩:=aI h;obtain⟨i',zv,hi',hzv,hzl⟩:=lh hz;rw[hi]at hi';injection hi' with hi';subst hi';unfold adn at h;rcases im h with⟨rfl,h⟩|⟨b,o,len,cap,sz,ex,rfl,h⟩
   ·refine⟨H,h,λf w u hr hu=>⟨w,?_,Step.refl hr⟩⟩;cases hu;simp[Builtin.clear_,run_underlying ht,undef]
   ·obtain⟨_,h⟩:=aI h;obtain⟨c,m,q,hb,h⟩:=ef h;obtain⟨hq,h⟩:=aI h;have hq:=Nat.le_of_ble_eq_true hq;obtain⟨c',h,p1,p2,p3⟩:=fX _ _ _ _ h;obtain⟨hm,h⟩:=aI h;have hm:=Nat.le_of_ble_eq_true hm;obtain⟨H',g1,g2,g3,g4⟩:=hH h;refine⟨H',g1,λf w u hr hu=>?_⟩;cases hu with
    |slice _ _ _ _ _ _ cap' y hb1 a1 a2 a3 a4=>
     have hv:=VL.nk (hzl f) len;have hstep:=hr.setCells hb1 hb (by omega) hm hv H' g2 g3 g4 p2 p3;cases len with
     |zero=>
      refine⟨w,by simp[Builtin.clear_,run_underlying ht,undef],?_⟩;exact hstep
     |succ len=>
      have hy:=a3 (by omega);subst hy;refine⟨_,?_,hstep⟩;have hst:=oe (P:=P) hr hb1 hb (by omega) hm hv p1;rw[←xw]at hst;have hzr:∀w,(zeroValue e).run P w=.ok zv w:=λw=>by simp[zeroValue,typeInfo,hi,hzv]
      simp[Builtin.clear_,run_underlying ht,hzr,hst,undef];rw[xw]
  ·exact h.elim
 ·exact h.elim
end
end Go.X
