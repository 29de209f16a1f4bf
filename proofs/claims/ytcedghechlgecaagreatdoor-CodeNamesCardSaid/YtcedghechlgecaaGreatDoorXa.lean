/- A machine over values and memory of its own, and that what it does the model does (a tool of this claim; names are shortened by a program). No condition: definitions and lemmas. -/
import Derived.Calls
import Derived.OrdersHeld
import Derived.Recover
import Derived.Laws.Sem
import Derived.Laws.World
import Derived.KernelRfl
import Derived.Laws.Concat
import Derived.Laws.Strings
import Derived.Laws.Append
import Derived.Laws.Cells
import Derived.Laws.Entries
import Derived.Laws.AppendOwn
import Derived.Laws.RangeString
import Derived.Lib.AppendZerosOnto
import Derived.Laws.BytesString
import Derived.Laws.MakeOwn
import Derived.StringKeys
import Derived.DeepKeys5
import Derived.MapFrom
import Derived.Laws.StructEq
import Derived.Laws.Externs
import Derived.Lib.Overlaps
set_option maxRecDepth 100000
set_option maxHeartbeats 0
set_option linter.unusedVariables false
set_option linter.unusedSimpArgs false
namespace Go.X
inductive AV where
 |bool (b:Bool)
 |int (k:Nat) (n:Int)
 |str (n x:Nat)
 |eH
 |ptr (b o:Nat)
 |ab
 |slice (b o len cap sz:Nat) (ex:Bool)
 |rN
 |map (b:Nat)
 |sX
 |func (f:Nat) (first cap:List AV)
 |dS
 |iface (t:Nat) (v:AV)
 |agg (cs:List AV)
 |aE (vs:List AV)
 |cH
 |FA (m:Nat) (r:Int)
 |FB (m r:Nat)
 |yL (m r:Nat)
def kd:Nat→IntKind
 |0=>.i64
 |1=>.u8
 |2=>.i32
 |3=>.u64
 |4=>.u32
 |5=>.i8
 |6=>.i16
 |_=>.u16
def kn:IntKind→Nat
 |.i64=>0
 |.u8=>1
 |.i32=>2
 |.u64=>3
 |.u32=>4
 |.i8=>5
 |.i16=>6
 |.u16=>7
theorem Gz(k:IntKind):kd (kn k)=k:=by cases k<;>rfl
inductive Bt(α:Type) where
 |e
 |n (v:α) (l r:Bt α)
structure eW where
 key:AV
 val:AV
 born:Nat
inductive dM where
 |cells (c:Bt AV) (n m:Nat)
 |map (es:List eW) (clock:Nat)
 |iter (n x pos:Nat)
 |dead
structure AH where
 t:Bt dM
 n:Nat
def Bt.get?{α:Type}:Bt α→Nat→Option α
 |.e,_=>none
 |.n v _ _,0=>some v
 |.n _ l r,i+1=>if i%2=0 then l.get? (i/2) else r.get? (i/2)
noncomputable section
def bj(n:Nat)(k:Nat→Prop):Prop:=@Nat.rec (λ_=>(Nat→Prop)→Prop) (λk=>k 0) (λm _ k=>k (Nat.succ m)) n k
theorem aY(n:Nat)(k:Nat→Prop):bj n k=k n:=by cases n<;>rfl
def Bt.fH{α:Type}(t:Bt α):Nat→(α→Prop)→Prop:=
 @Bt.rec α (λ_=>Nat→(α→Prop)→Prop) (λ_ _=>False)
 (λv _ _ il ir i k=>@Nat.rec (λ_=>Prop) (k v) (λj _=>@Nat.rec (λ_=>Prop) (il (j/2) k) (λ_ _=>ir (j/2) k) (j%2)) i) t
def Bt.jx{α:Type}(t:Bt α):Nat→α→(Bt α→Prop)→Prop:=
 @Bt.rec α (λ_=>Nat→α→(Bt α→Prop)→Prop) (λi v k=>@Nat.rec (λ_=>Prop) (k (.n v .e .e)) (λ_ _=>False) i)
 (λu l r il ir i v k=>@Nat.rec (λ_=>Prop) (k (.n v l r)) (λj _=>@Nat.rec (λ_=>Prop) (il (j/2) v (λl'=>k (.n u l' r))) (λ_ _=>ir (j/2) v (λr'=>k (.n u l r'))) (j%2)) i) t
theorem Bt.dx{α:Type}(t:Bt α):∀(i:Nat) (k:α→Prop),t.fH i k→∃v,t.get? i=some v∧k v:=by
 induction t with
 |e=>intro i k h;exact h.elim
 |n v l r il ir=>
  intro i k h;cases i with
  |zero=>exact⟨v,rfl,h⟩
  |succ j=>
   change @Nat.rec (λ_=>Prop) (l.fH (j/2) k) (λ_ _=>r.fH (j/2) k) (j%2)at h
   rcases Nat.mod_two_eq_zero_or_one j with e|e
   ·rw[e]at h;simp only[Bt.get?,e,if_true];exact il _ _ h
   ·rw[e]at h;simp only[Bt.get?,e];exact ir _ _ h
theorem Db{i j:Nat}(h:i+1≠j+1)(e:i%2=j%2):i/2≠j/2:=by omega
theorem Bt.gA{α:Type}(t:Bt α):∀(i:Nat) (v:α) (k:Bt α→Prop),t.jx i v k→
  ∃t',k t'∧t'.get? i=some v∧∀j,j≠i→t'.get? j=t.get? j:=by
 induction t with
 |e=>
  intro i v k h;cases i with
  |zero=>exact⟨_,h,rfl,λj hj=>by cases j with|zero=>exact absurd rfl hj|succ j=>simp only[Bt.get?,ite_self]⟩
  |succ j=>exact h.elim
 |n u l r il ir=>
  intro i v k h;cases i with
  |zero=>exact⟨_,h,rfl,λj hj=>by cases j with|zero=>exact absurd rfl hj|succ j=>simp only[Bt.get?]⟩
  |succ i=>
   change @Nat.rec (λ_=>Prop) (l.jx (i/2) v (λl'=>k (.n u l' r))) (λ_ _=>r.jx (i/2) v (λr'=>k (.n u l r'))) (i%2)at h
   rcases Nat.mod_two_eq_zero_or_one i with e|e
   ·rw[e]at h;obtain⟨l',hk,h1,h2⟩:=il _ _ _ h;refine⟨_,hk,by simp only[Bt.get?,e,if_true];exact h1,λj hj=>?_⟩;cases j with
    |zero=>rfl
    |succ j=>
     simp only[Bt.get?];split
     ·rename_i ej;exact h2 _ (Db hj (by omega))
     ·rfl
   ·rw[e]at h;obtain⟨r',hk,h1,h2⟩:=ir _ _ _ h;refine⟨_,hk,by simp only[Bt.get?,e];exact h1,λj hj=>?_⟩;cases j with
    |zero=>rfl
    |succ j=>
     simp only[Bt.get?];split
     ·rfl
     ·rename_i ej;exact h2 _ (Db hj (by omega))
end
def iK:Nat→Nat→List UInt8
 |0,_=>[]
 |n+1,x=>UInt8.ofNat (x%256)::iK n (x/256)
def eS(n x:Nat):ByteArray:=⟨(iK n x).toArray⟩
structure aI where
 dom:Nat→Prop
 blk:Nat→Nat
 off:Nat→Nat
 lim:Nat→Nat
mutual
inductive VR(f:aI):AV→Value→Prop
 |bool (b:Bool):VR f (.bool b) (.bool b)
 |int (k:Nat) (n:Int):VR f (.int k n) (.int (kd k) n)
 |str (n x:Nat):x<256^n→VR f (.str n x) (.string (eS n x))
 |eH:VR f .eH (.pointer none)
 |ptr (b o:Nat):f.dom b→VR f (.ptr b o) (.pointer (some ⟨f.blk b,f.off b+o,none⟩))
 |ab:VR f .ab (.slice none 0 0)
 |slice (b o len cap sz:Nat) (ex:Bool) (cap' x:Nat):f.dom b→len≤cap→cap≤cap'→(0<cap'→x=f.off b+o)→(cap<cap'→ex=false∧o+cap'*sz≤f.lim b)→
   VR f (.slice b o len cap sz ex) (.slice (some ⟨f.blk b,x,none⟩) len cap')
 |rN:VR f .rN (.map none)
 |map (b:Nat):f.dom b→VR f (.map b) (.map (some (f.blk b)))
 |sX:VR f .sX .nilFunc
 |func (g:Nat) (as bs:List AV) (vs ws:List Value):VL f as vs→VL f bs ws→VR f (.func g as bs) (.func (.func g) vs.toArray ws.toArray)
 |dS:VR f .dS .nilIface
 |iface (t:Nat) (a:AV) (v:Value):VR f a v→VR f (.iface t a) (.iface t v)
 |agg (as:List AV) (vs:List Value):VL f as vs→VR f (.agg as) (.agg vs.toArray)
 |aE (as:List AV) (vs:List Value):VL f as vs→VR f (.aE as) (.tuple vs.toArray)
 |cH (v:Value):VR f .cH v
 |FA (m:Nat) (r z:Int):Int.tmod z m=r→VR f (.FA m r) (.int .i64 z)
 |FB (m r:Nat) (z:Int):z%18446744073709551616%m=r→VR f (.FB m r) (.int .i64 z)
 |yL (m r:Nat) (z:Int):0≤z→z%m=r→VR f (.yL m r) (.int .u64 z)
inductive VL(f:aI):List AV→List Value→Prop
 |nil:VL f [] []
 |cons (a:AV) (v:Value) (as:List AV) (vs:List Value):VR f a v→VL f as vs→VL f (a::as) (v::vs)
end
structure aI.le(f f':aI):Prop where
 dom:∀b,f.dom b→f'.dom b
 blk:∀b,f.dom b→f'.blk b=f.blk b
 off:∀b,f.dom b→f'.off b=f.off b
 lim:∀b,f.dom b→f'.lim b=f.lim b
theorem aI.le.refl(f:aI):f.le f:=⟨λ_ h=>h,λ_ _=>rfl,λ_ _=>rfl,λ_ _=>rfl⟩
theorem aI.le.trans{f g h:aI}(a:f.le g)(b:g.le h):f.le h:=
 ⟨λx hx=>b.dom x (a.dom x hx),λx hx=>(b.blk x (a.dom x hx)).trans (a.blk x hx),
 λx hx=>(b.off x (a.dom x hx)).trans (a.off x hx),λx hx=>(b.lim x (a.dom x hx)).trans (a.lim x hx)⟩
mutual
theorem VR.up{f f':aI}(h:f.le f'):∀{a:AV}{v:Value},VR f a v→VR f' a v
 |_,_,.bool b=>.bool b
 |_,_,.int k n=>.int k n
 |_,_,.str n x hx=>.str n x hx
 |_,_,.eH=>.eH
 |_,_,.ptr b o hb=>by rw[←h.blk b hb,←h.off b hb];exact .ptr b o (h.dom b hb)
 |_,_,.ab=>.ab
 |_,_,.slice b o len cap sz ex cap' x hb h1 h2 h3 h4=>by
  rw[←h.blk b hb];exact .slice b o len cap sz ex cap' x (h.dom b hb) h1 h2 (λy=>by rw[h.off b hb];exact h3 y) (λy=>by rw[h.lim b hb];exact h4 y)
 |_,_,.rN=>.rN
 |_,_,.map b hb=>by rw[←h.blk b hb];exact .map b (h.dom b hb)
 |_,_,.sX=>.sX
 |_,_,.func g as bs vs ws h1 h2=>.func g as bs vs ws (VL.up h h1) (VL.up h h2)
 |_,_,.dS=>.dS
 |_,_,.iface t a v h1=>.iface t a v (VR.up h h1)
 |_,_,.agg as vs h1=>.agg as vs (VL.up h h1)
 |_,_,.aE as vs h1=>.aE as vs (VL.up h h1)
 |_,_,.cH v=>.cH v
 |_,_,.FA m r z h1=>.FA m r z h1
 |_,_,.FB m r z h1=>.FB m r z h1
 |_,_,.yL m r z h1 h2=>.yL m r z h1 h2
theorem VL.up{f f':aI}(h:f.le f'):∀{as:List AV}{vs:List Value},VL f as vs→VL f' as vs
 |_,_,.nil=>.nil
 |_,_,.cons a v as vs h1 h2=>.cons a v as vs (VR.up h h1) (VL.up h h2)
end
theorem VL.length{f:aI}:∀{as:List AV}{vs:List Value},VL f as vs→as.length=vs.length
 |_,_,.nil=>rfl
 |_,_,.cons _ _ _ _ _ h=>congrArg (· + 1) (VL.length h)
theorem VL.append{f:aI}:∀{as:List AV}{vs:List Value}{bs:List AV}{ws:List Value},VL f as vs→VL f bs ws→VL f (as++bs) (vs++ws)
 |_,_,_,_,.nil,h=>h
 |_,_,_,_,.cons a v as vs h1 h2,h=>.cons a v _ _ h1 (VL.append h2 h)
theorem VL.get{f:aI}:∀{as:List AV}{vs:List Value},VL f as vs→∀(i:Nat) (a:AV),as[i]? = some a→∃v,vs[i]? = some v∧VR f a v
 |_,_,.nil,i,a,h=>by simp at h
 |_,_,.cons a v as vs h1 h2,0,x,h=>by simp at h;subst h;exact⟨v,by simp,h1⟩
 |_,_,.cons a v as vs h1 h2,i+1,x,h=>by
  simp at h;obtain⟨u,hu,hr⟩:=VL.get h2 i x h;exact⟨u,by simpa using hu,hr⟩
theorem VL.set{f:aI}:∀{as:List AV}{vs:List Value},VL f as vs→∀(i:Nat) (a:AV) (v:Value),VR f a v→VL f (as.set i a) (vs.set i v)
 |_,_,.nil,i,a,v,h=>.nil
 |_,_,.cons a v as vs h1 h2,0,x,y,h=>.cons x y as vs h h2
 |_,_,.cons a v as vs h1 h2,i+1,x,y,h=>.cons a v _ _ h1 (VL.set h2 i x y h)
theorem VL.map{f:aI}{α:Type}{g:α→AV}{h:α→Value}{l:List α}(H:∀x∈l,VR f (g x) (h x)):VL f (l.map g) (l.map h):=by
 induction l with
 |nil=>exact .nil
 |cons x l ih=>exact .cons _ _ _ _ (H x (by simp)) (ih λy hy=>H y (by simp[hy]))
theorem VL.take{f:aI}{as:List AV}{vs:List Value}(h:VL f as vs):∀n,VL f (as.take n) (vs.take n):=by
 intro n
 induction n generalizing as vs with
 |zero=>simpa using VL.nil
 |succ n ih=>cases h with
  |nil=>simpa using VL.nil
  |cons a v as vs h1 h2=>simpa using VL.cons a v _ _ h1 (ih h2)
theorem VL.drop{f:aI}{as:List AV}{vs:List Value}(h:VL f as vs):∀n,VL f (as.drop n) (vs.drop n):=by
 intro n
 induction n generalizing as vs with
 |zero=>simpa using h
 |succ n ih=>cases h with
  |nil=>simpa using VL.nil
  |cons a v as vs h1 h2=>simpa using ih h2
theorem VL.replicate{f:aI}{a:AV}{v:Value}(h:VR f a v):∀n,VL f (List.replicate n a) (List.replicate n v)
 |0=>.nil
 |n+1=>.cons _ _ _ _ h (VL.replicate h n)
def ER(f:aI)(a:eW)(e:MapEntry):Prop:=VR f a.key e.key∧VR f a.val e.val∧e.born=a.born
inductive kj(f:aI):List eW→List MapEntry→Prop
 |nil:kj f [] []
 |cons (a:eW) (e:MapEntry) (as:List eW) (es:List MapEntry):ER f a e→kj f as es→kj f (a::as) (e::es)
theorem kj.up{f f':aI}(h:f.le f'):∀{as:List eW}{es:List MapEntry},kj f as es→kj f' as es
 |_,_,.nil=>.nil
 |_,_,.cons a e as es h1 h2=>.cons a e as es ⟨h1.1.up h,h1.2.1.up h,h1.2.2⟩ (kj.up h h2)
inductive gL where
 |cells (c:Nat→Option AV) (n m:Nat)
 |map (es:List eW) (clock:Nat)
 |iter (n x pos:Nat)
 |dead
def OR(f:aI)(b:Nat):gL→Option Obj→Prop
 |.cells c n m,o=>∃cur e lo hi,o=some (.cells cur e (lo,hi))∧f.off b+f.lim b≤cur.size∧n≤f.lim b∧
   (∀j a,c j=some a→j<n∧∃v,cur[f.off b+j]? = some v∧VR f a v)∧
   (m<2→∀j,j<f.lim b→¬(lo≤f.off b+j∧f.off b+j<hi))∧(m=0→lo=0∧hi=0)
 |.map es clock,o=>∃es',o=some (.map es' clock)∧kj f es es'.toList
 |.iter n x pos,o=>x<256^n∧f.off b=0∧o=some (.stringIter (eS n x) pos)
 |.dead,_=>True
def gL.alive:gL→Bool
 |.dead=>false
 |_=>true
def gL.own:gL→Bool
 |.dead=>false
 |.cells _ _ m=>m<2
 |_=>true
theorem gL.ny{o:gL}(h:o.own=true):o.alive=true:=by cases o<;>first|rfl|simp[gL.own]at h
def dM.sem:dM→gL
 |.cells c n m=>.cells c.get? n m
 |.map es cl=>.map es cl
 |.iter n x p=>.iter n x p
 |.dead=>.dead
structure SH where
 n:Nat
 ob:Nat→gL
def AH.at(H:AH)(b:Nat):dM:=(H.t.get? b).getD .dead
def AH.sem(H:AH):SH:=⟨H.n,λb=>(H.at b).sem⟩
@[simp] theorem AH.nW(H:AH):H.sem.n=H.n:=rfl
@[simp] theorem AH.bN(H:AH)(b:Nat):H.sem.ob b=(H.at b).sem:=rfl
structure HRQ(f:aI)(S:SH)(w:World):Prop where
 obj:∀b,f.dom b→(S.ob b).alive=true→OR f b (S.ob b) w.heap[f.blk b]?
 inj:∀b c,f.dom b→f.dom c→(S.ob b).own=true→(S.ob c).alive=true→f.blk b=f.blk c→b=c
structure fK(f:aI)(S:SH)(w:World):Prop extends HRQ f S w where
 dom:∀b,f.dom b→b<S.n
theorem fK.mk'{f:aI}{S:SH}{w:World}(h1:∀b,f.dom b→b<S.n)(h3:∀b,f.dom b→(S.ob b).alive=true→OR f b (S.ob b) w.heap[f.blk b]?)
  (h4:∀b c,f.dom b→f.dom c→(S.ob b).own=true→(S.ob c).alive=true→f.blk b=f.blk c→b=c):fK f S w:=⟨⟨h3,h4⟩,h1⟩
abbrev HR(f:aI)(H:AH)(w:World):Prop:=fK f H.sem w
structure gn(f:aI)(S:SH)(w:World)(f':aI)(S':SH)(w':World):Prop where
 rel:fK f' S' w'
 le:f.le f'
 n:S.n≤S'.n
 size:w.heap.size≤w'.heap.size
 keep:∀k,k<w.heap.size→(∀b,f.dom b→(S.ob b).own=true→f.blk b≠k)→w'.heap[k]? = w.heap[k]?
 src:∀b,f'.dom b→(S'.ob b).own=true→(∃c,f.dom c∧(S.ob c).own=true∧f'.blk b=f.blk c)∨w.heap.size≤f'.blk b
 ro:∀b,(S'.ob b).alive=true→(S'.ob b).own=false→S.ob b=S'.ob b
 dead:∀b,b<S.n→(S.ob b).alive=false→(S'.ob b).alive=false
 new:∀b,b<S.n→¬f.dom b→¬f'.dom b
 rest:∀b,b<S.n→¬f.dom b→S'.ob b=S.ob b
 os:w'.os=w.os
 tape:w'.tape=w.tape
 output:w'.output=w.output
abbrev Step(f:aI)(H:AH)(w:World)(f':aI)(H':AH)(w':World):Prop:=gn f H.sem w f' H'.sem w'
theorem gn.refl{f:aI}{S:SH}{w:World}(h:fK f S w):gn f S w f S w:=
 ⟨h,.refl f,Nat.le_refl _,Nat.le_refl _,λ_ _ _=>rfl,λb hd ho=>.inl ⟨b,hd,ho,rfl⟩,λb _ _=>rfl,λ_ _ h=>h,λ_ _ h=>h,λ_ _ _=>rfl,rfl,rfl,rfl⟩
theorem Step.refl{f:aI}{H:AH}{w:World}(h:HR f H w):Step f H w f H w:=gn.refl h
theorem HRQ.block_lt{f:aI}{S:SH}{w:World}(h:HRQ f S w){b:Nat}(hd:f.dom b)(ha:(S.ob b).alive=true):f.blk b<w.heap.size:=by
 have ho:=h.obj b hd ha;cases hc:S.ob b with
 |dead=>simp[hc,gL.alive]at ha
 |cells c n m=>
  rw[hc]at ho;obtain⟨cur,e,lo,hi,h1,_⟩:=ho;exact(Array.getElem?_eq_some_iff.1 h1).1
 |map es cl=>
  rw[hc]at ho;obtain⟨es',h1,_⟩:=ho;exact(Array.getElem?_eq_some_iff.1 h1).1
 |iter n x p=>
  rw[hc]at ho;exact(Array.getElem?_eq_some_iff.1 ho.2.2).1
theorem gn.trans{f g h:aI}{S1 S2 S3:SH}{w1 w2 w3:World}(a:gn f S1 w1 g S2 w2)(b:gn g S2 w2 h S3 w3):gn f S1 w1 h S3 w3 where
 rel:=b.rel
 le:=a.le.trans b.le
 n:=Nat.le_trans a.n b.n
 size:=Nat.le_trans a.size b.size
 keep:=λk hk hn=>by
  rw[b.keep k (Nat.lt_of_lt_of_le hk a.size) ?_]
  ·exact a.keep k hk hn
  ·intro c hc ho e;rcases a.src c hc ho with⟨d,hd,hdo,e'⟩|hge
   ·exact hn d hd hdo (e'.symm.trans e)
   ·rw[e]at hge;omega
 src:=λc hc ho=>by
  rcases b.src c hc ho with⟨d,hd,hdo,e⟩|hge
  ·rcases a.src d hd hdo with⟨d',hd',ayP,e'⟩|hge
   ·exact .inl ⟨d',hd',ayP,e.trans e'⟩
   ·exact .inr (by rw[e];exact hge)
  ·exact .inr (Nat.le_trans a.size hge)
 ro:=λc h1 h2=>by
  have e:=b.ro c h1 h2;rw[←e]at h1 h2;exact(a.ro c h1 h2).trans e
 dead:=λc hc h=>b.dead c (Nat.lt_of_lt_of_le hc a.n) (a.dead c hc h)
 new:=λc hc h=>b.new c (Nat.lt_of_lt_of_le hc a.n) (a.new c hc h)
 rest:=λc hc h=>(b.rest c (Nat.lt_of_lt_of_le hc a.n) (a.new c hc h)).trans (a.rest c hc h)
 os:=b.os.trans a.os
 tape:=b.tape.trans a.tape
 output:=b.output.trans a.output
theorem Step.trans{f g h:aI}{H1 H2 H3:AH}{w1 w2 w3:World}(_:HR f H1 w1)(a:Step f H1 w1 g H2 w2)(b:Step g H2 w2 h H3 w3):Step f H1 w1 h H3 w3:=gn.trans a b
section
variable {f:aI}{H:AH}{w:World}
def aI.ext(f:aI)(i b o l:Nat):aI:=
 { dom:=λx=>x=i∨f.dom x,blk:=λx=>if x=i then b else f.blk x,off:=λx=>if x=i then o else f.off x,lim:=λx=>if x=i then l else f.lim x }
theorem aI.qL(f:aI){i:Nat}(h:¬f.dom i)(b o l:Nat):f.le (f.ext i b o l):=
 ⟨λx hx=>.inr hx,λx hx=>by simp only[aI.ext];exact if_neg (λe=>h (by rw[←e];exact hx)),λx hx=>by simp only[aI.ext];exact if_neg (λe=>h (by rw[←e];exact hx)),λx hx=>by simp only[aI.ext];exact if_neg (λe=>h (by rw[←e];exact hx))⟩
@[simp] theorem aI.qg(f:aI)(i b o l:Nat):(f.ext i b o l).dom i:=.inl rfl
@[simp] theorem aI.gZ(f:aI)(i b o l:Nat):(f.ext i b o l).blk i=b:=by simp[aI.ext]
@[simp] theorem aI.jj(f:aI)(i b o l:Nat):(f.ext i b o l).off i=o:=by simp[aI.ext]
@[simp] theorem aI.rO(f:aI)(i b o l:Nat):(f.ext i b o l).lim i=l:=by simp[aI.ext]
theorem OR.up{f f':aI}(h:f.le f'){b:Nat}(hb:f.dom b){o:gL}{x:Option Obj}(r:OR f b o x):OR f' b o x:=by
 cases o with
 |dead=>trivial
 |cells c n m=>
  obtain⟨cur,e,lo,hi,h1,h2,h3,h4,h5,h6⟩:=r;refine⟨cur,e,lo,hi,h1,by rw[h.off b hb,h.lim b hb];exact h2,by rw[h.lim b hb];exact h3,?_,?_,h6⟩
  ·rw[h.off b hb];exact λj a hj=>let ⟨x0,v,x2,x3⟩:=h4 j a hj;⟨x0,v,x2,x3.up h⟩
  ·rw[h.off b hb,h.lim b hb];exact h5
 |map es cl=>obtain⟨es',h1,h2⟩:=r;exact⟨es',h1,h2.up h⟩
 |iter n x p=>exact⟨r.1,by rw[h.off b hb];exact r.2.1,r.2.2⟩
theorem fK.fresh{S:SH}(h:fK f S w):¬f.dom S.n:=λhd=>Nat.lt_irrefl _ (h.dom _ hd)
theorem fK.push{S:SH}(h:fK f S w)(S':SH)(i:Nat)(o:gL)(obj:Obj)(off lim:Nat)(hi:¬f.dom i)(hin:i<S'.n)(hn:S.n≤S'.n)(hnew:S'.ob i=o)(hold:∀b,b≠i→S'.ob b=S.ob b)
  (hob:OR (f.ext i w.heap.size off lim) i o (some obj)):fK (f.ext i w.heap.size off lim) S' (w.alloc obj)∧∀k,k<w.heap.size→(w.alloc obj).heap[k]? = w.heap[k]?:=by
 have hle:=f.qL hi w.heap.size off lim;have hget:∀k,k<w.heap.size→(w.alloc obj).heap[k]? = w.heap[k]?:=λk hk=>by
  simp only[World.alloc,Array.getElem?_push];rw[if_neg (Nat.ne_of_lt hk)]
 have axS:(w.alloc obj).heap[w.heap.size]? = some obj:=by
  simp only[World.alloc,Array.getElem?_push];rw[if_pos trivial]
 refine⟨fK.mk' (λb hb=>?_) (λb hb ha=>?_) (λb c hb hc kR hca e=>?_),hget⟩
 ·rcases hb with rfl|hb
  ·exact hin
  ·exact Nat.lt_of_lt_of_le (h.dom b hb) hn
 ·by_cases e:b=i
  ·subst e;rw[hnew,aI.gZ,axS];exact hob
  ·have hd:f.dom b:=hb.resolve_left e;rw[hold b e]at ha ⊢;rw[hle.blk b hd,hget _ (h.block_lt hd ha)];exact(h.obj b hd ha).up hle hd
 ·by_cases e1:b=i<;>by_cases e2:c=i
  ·exact e1.trans e2.symm
  ·have hd:=hc.resolve_left e2;rw[hold c e2]at hca;rw[e1,aI.gZ,hle.blk c hd]at e;have:=h.block_lt hd hca;omega
  ·have hd:=hb.resolve_left e1;rw[hold b e1]at kR;rw[e2,aI.gZ,hle.blk b hd]at e;have:=h.block_lt hd (gL.ny kR);omega
  ·have hd:=hb.resolve_left e1;have hd':=hc.resolve_left e2;rw[hold b e1]at kR;rw[hold c e2]at hca;rw[hle.blk b hd,hle.blk c hd']at e;exact h.inj b c hd hd' kR hca e
theorem fK.amp{S:SH}(h:fK f S w)(S':SH)(o:gL)(obj:Obj)(off lim:Nat)(hn:S'.n=S.n+1)(hnew:S'.ob S.n=o)(hold:∀b,b≠S.n→S'.ob b=S.ob b)
  (hob:OR (f.ext S.n w.heap.size off lim) S.n o (some obj)) (hown:o.alive=true→o.own=true):gn f S w (f.ext S.n w.heap.size off lim) S' (w.alloc obj):=by
 obtain⟨hr,hget⟩:=h.push S' S.n o obj off lim h.fresh (by omega) (by omega) hnew hold hob;have hle:=f.qL h.fresh w.heap.size off lim;refine⟨hr,hle,by omega,by simp,λk hk _=>hget k hk,λb hd ho=>?_,λb ha ho=>?_,λb hb ha=>?_,λb hb hd=>?_,λb hb _=>hold b (by omega),rfl,rfl,rfl⟩
 ·by_cases e:b=S.n
  ·subst e;exact .inr (by rw[aI.gZ];exact Nat.le_refl _)
  ·have hd':=hd.resolve_left e;rw[hold b e]at ho;exact .inl ⟨b,hd',ho,hle.blk b hd'⟩
 ·by_cases e:b=S.n
  ·subst e;rw[hnew]at ha ho;rw[hown ha]at ho;cases ho
  ·exact(hold b e).symm
 ·rw[hold b (by omega)];exact ha
 ·rintro(e|hd')
  ·omega
  ·exact hd hd'
theorem HR.push(h:HR f H w)(H':AH)(o:dM)(obj:Obj)(off lim:Nat)(hn:H'.n=H.n+1)(hnew:H'.at H.n=o)(hold:∀b,b≠H.n→H'.at b=H.at b)
  (hob:OR (f.ext H.n w.heap.size off lim) H.n o.sem (some obj)) (hown:o.sem.alive=true→o.sem.own=true):Step f H w (f.ext H.n w.heap.size off lim) H' (w.alloc obj):=
 fK.amp h H'.sem o.sem obj off lim hn (congrArg dM.sem hnew) (λb hb=>congrArg dM.sem (hold b hb)) hob hown
theorem fK.drew{S:SH}(h:fK f S w)(n:Nat):fK f S { w with drawn:=n }:=fK.mk' h.dom h.obj h.inj
theorem HR.drew{S:SH}(h:fK f S w)(n:Nat):fK f S { w with drawn:=n }:=fK.mk' h.dom h.obj h.inj
theorem gn.drew{S:SH}(h:fK f S w)(n:Nat):gn f S w f S { w with drawn:=n }:=
 ⟨h.drew n,.refl f,Nat.le_refl _,Nat.le_refl _,λ_ _ _=>rfl,λb hd ho=>.inl ⟨b,hd,ho,rfl⟩,λb _ _=>rfl,λ_ _ h=>h,λ_ _ h=>h,λ_ _ _=>rfl,rfl,rfl,rfl⟩
theorem Step.drew(h:HR f H w)(n:Nat):Step f H w f H { w with drawn:=n }:=gn.drew h n
theorem fK.update{S:SH}(h:fK f S w){b:Nat}(hbd:f.dom b)(kR:(S.ob b).own=true)(S':SH)(o:gL)(obj:Obj)(w':World)(hn:S'.n=S.n)(hnew:S'.ob b=o)
  (hold:∀c,c≠b→S'.ob c=S.ob c) (hoo:o.own=true) (hob:OR f b o (some obj)) (hw:w'.heap[f.blk b]? = some obj) (hws:w'.heap.size=w.heap.size)
  (hwo:∀k,k≠f.blk b→w'.heap[k]? = w.heap[k]?) (h1:w'.os=w.os) (h2:w'.tape=w.tape) (h3:w'.output=w.output):gn f S w f S' w':=by
 have hba:=gL.ny kR;refine⟨fK.mk' (λc hc=>by rw[hn];exact h.dom c hc) (λc hcd hc=>?_) (λc d hcd hdd hco hda e=>?_),.refl f,by omega,by omega,λk hk hk'=>hwo k (λe=>hk' b hbd kR e.symm),λc hcd ho=>?_,λc ha ho=>?_,λc hc ha=>?_,λ_ _ h=>h,λc _ hcd=>hold c (λe=>hcd (e ▸ hbd)),h1,h2,h3⟩
 ·by_cases e:c=b
  ·subst e;rw[hnew,hw];exact hob
  ·rw[hold c e]at hc ⊢;rw[hwo _ (λe'=>e (h.inj b c hbd hcd kR hc e'.symm).symm)];exact h.obj c hcd hc
 ·have OB:(S.ob d).alive=true:=by
   by_cases e:d=b
   ·subst e;exact hba
   ·rw[←hold d e];exact hda
  have OC:(S.ob c).own=true:=by
   by_cases e:c=b
   ·subst e;exact kR
   ·rw[←hold c e];exact hco
  exact h.inj c d hcd hdd OC OB e
 ·refine .inl ⟨c,hcd,?_,rfl⟩;by_cases e:c=b
  ·subst e;exact kR
  ·rw[←hold c e];exact ho
 ·by_cases e:c=b
  ·subst e;rw[hnew,hoo]at ho;cases ho
  ·exact(hold c e).symm
 ·by_cases e:c=b
  ·subst e;rw[hba]at ha;cases ha
  ·rw[hold c e];exact ha
theorem HR.update(h:HR f H w){b:Nat}(hbd:f.dom b)(kR:(H.at b).sem.own=true)(H':AH)(o:dM)(obj:Obj)(w':World)(hn:H'.n=H.n)(hnew:H'.at b=o)
  (hold:∀c,c≠b→H'.at c=H.at c) (hoo:o.sem.own=true) (hob:OR f b o.sem (some obj)) (hw:w'.heap[f.blk b]? = some obj) (hws:w'.heap.size=w.heap.size)
  (hwo:∀k,k≠f.blk b→w'.heap[k]? = w.heap[k]?) (h1:w'.os=w.os) (h2:w'.tape=w.tape) (h3:w'.output=w.output):Step f H w f H' w':=
 fK.update h hbd kR H'.sem o.sem obj w' hn (congrArg dM.sem hnew) (λc hc=>congrArg dM.sem (hold c hc)) hoo hob hw hws hwo h1 h2 h3
theorem HR.move(h:HR f H w){b:Nat}(hbd:f.dom b)(kR:(H.at b).sem.own=true)(H':AH)(o:dM)(obj:Obj)(w':World)(off lim:Nat)(hn:H'.n=H.n+1)(hnew:H'.at H.n=o)(Dc:H'.at b=.dead)
  (hold:∀c,c≠b→c≠H.n→H'.at c=H.at c) (hoo:o.sem.own=true) (hob:OR (f.ext H.n (f.blk b) off lim) H.n o.sem (some obj)) (hw:w'.heap[f.blk b]? = some obj) (hws:w'.heap.size=w.heap.size)
  (hwo:∀k,k≠f.blk b→w'.heap[k]? = w.heap[k]?) (h1:w'.os=w.os) (h2:w'.tape=w.tape) (h3:w'.output=w.output):Step f H w (f.ext H.n (f.blk b) off lim) H' w':=by
 have hfr:¬f.dom H.n:=fK.fresh h;have hle:=f.qL hfr (f.blk b) off lim;have hba:=gL.ny kR;have hbn:b<H.n:=h.dom b hbd;have key:∀c,(f.ext H.n (f.blk b) off lim).dom c→(H'.at c).sem.alive=true→c=H.n∨(c≠b∧H.at c=H'.at c∧c≠H.n∧f.dom c):=λc hcd ha=>by
  by_cases e:c=b
  ·subst e;rw[Dc]at ha;cases ha
  ·by_cases e2:c=H.n
   ·exact .inl e2
   ·exact .inr ⟨e,(hold c e e2).symm,e2,hcd.resolve_left e2⟩
 refine⟨fK.mk' (λc hc=>?_) (λc hcd hc=>?_) (λc d hcd hdd hco hda e=>?_),hle,by simp[hn],by omega,λk hk hk'=>hwo k (λe=>hk' b hbd kR e.symm),λc hcd ho=>?_,λc ha ho=>?_,λc hc ha=>?_,λc hc hd=>?_,λc hc hcd=>?_,h1,h2,h3⟩
 ·rw[AH.nW,hn];rcases hc with rfl|hc
  ·omega
  ·have:=h.dom c hc;simp at this;omega
 ·rcases key c hcd hc with e|⟨e1,e2,e3,hd⟩
  ·subst e;rw[AH.bN,hnew,aI.gZ,hw];exact hob
  ·have hca:(H.at c).sem.alive=true:=by rw[e2];exact hc
   rw[AH.bN,←e2,hle.blk c hd,hwo _ (λe'=>e1 (h.inj b c hbd hd kR hca e'.symm).symm)];exact(h.obj c hd hca).up hle hd
 ·rcases key c hcd (gL.ny hco)with e1|⟨c1,c2,c3,c4⟩<;>rcases key d hdd hda with e2|⟨d1,d2,d3,d4⟩
  ·omega
  ·have OB:(H.at d).sem.alive=true:=by rw[d2];exact hda
   rw[e1,aI.gZ,hle.blk d d4]at e;exact absurd (h.inj b d hbd d4 kR OB e).symm d1
  ·have OC:(H.at c).sem.own=true:=by rw[c2];exact hco
   rw[e2,aI.gZ,hle.blk c c4]at e;exact absurd (h.inj c b c4 hbd OC hba e) c1
  ·have OB:(H.at d).sem.alive=true:=by rw[d2];exact hda
   have OC:(H.at c).sem.own=true:=by rw[c2];exact hco
   rw[hle.blk d d4,hle.blk c c4]at e;exact h.inj c d c4 d4 OC OB e
 ·rcases key c hcd (gL.ny ho)with e|⟨e1,e2,e3,e4⟩
  ·subst e;exact .inl ⟨b,hbd,kR,by rw[aI.gZ]⟩
  ·have ho':(H.at c).sem.own=true:=by rw[e2];exact ho
   exact .inl ⟨c,e4,ho',hle.blk c e4⟩
 ·by_cases e:c=b
  ·subst e;rw[AH.bN,Dc]at ha;cases ha
  ·by_cases e2:c=H.n
   ·subst e2;rw[AH.bN,hnew,hoo]at ho;cases ho
   ·exact congrArg dM.sem (hold c e e2).symm
 ·simp only[AH.nW]at hc;by_cases e:c=b
  ·subst e;rw[AH.bN,Dc];rfl
  ·rw[AH.bN,hold c e (by omega)];exact ha
 ·simp only[AH.nW]at hc;rintro(e|hd')
  ·omega
  ·exact hd hd'
 ·simp only[AH.nW]at hc;exact congrArg dM.sem (hold c (λe=>hcd (e ▸ hbd)) (by omega))
theorem HRQ.forget{S:SH}(h:HRQ f S w)(S':SH)(ho:∀b,S'.ob b=.dead∨S'.ob b=S.ob b):HRQ f S' w where
 obj:=λb hd hb=>by rcases ho b with e|e<;>rw[e]at hb ⊢;cases hb;exact h.obj b hd hb
 inj:=λb c hbd hcd kR hca e=>by
  have h1:S'.ob b=S.ob b:=by rcases ho b with e|e;rw[e]at kR;cases kR;exact e
  have h2:S'.ob c=S.ob c:=by rcases ho c with e|e;rw[e]at hca;cases hca;exact e
  rw[h1]at kR;rw[h2]at hca;exact h.inj b c hbd hcd kR hca e
theorem fK.forget{S:SH}(h:fK f S w)(S':SH)(hn:S.n≤S'.n)(ho:∀b,S'.ob b=.dead∨S'.ob b=S.ob b):fK f S' w:=
 { h.toHRQ.forget S' ho with dom:=λb hb=>Nat.lt_of_lt_of_le (h.dom b hb) hn }
theorem HR.forget(h:HR f H w)(H':AH)(hn:H'.n=H.n)(ho:∀b,H'.at b=.dead∨H'.at b=H.at b):HR f H' w:=
 fK.forget h H'.sem (by simp[hn]) (λb=>(ho b).imp (λe=>by rw[AH.bN,e];rfl) (λe=>by rw[AH.bN,e,AH.bN]))
theorem AH.tt{H:AH}{b:Nat}{o:dM}(h:H.t.get? b=some o):H.at b=o:=by simp[AH.at,h]
theorem HRQ.cellsS{S:SH}(h:HRQ f S w){b:Nat}(hd:f.dom b){c:Nat→Option AV}{n m:Nat}(hb:S.ob b=.cells c n m):OR f b (.cells c n m) w.heap[f.blk b]?:=by
 have:=h.obj b hd (by rw[hb];rfl);rw[hb]at this;exact this
theorem HRQ.cellS{S:SH}(h:HRQ f S w){b:Nat}(hd:f.dom b){c:Nat→Option AV}{n m:Nat}(hb:S.ob b=.cells c n m){o:Nat}{a:AV}(ho:c o=some a) :
  ∃v,w.cell? ⟨f.blk b,f.off b+o,none⟩=some v∧VR f a v:=by
 have:=h.cellsS hd hb;obtain⟨cur,e,lo,hi,h1,_,_,h4,_⟩:=this;obtain⟨_,v,x2,x3⟩:=h4 o a ho;exact⟨v,by simp[World.cell?,h1,x2],x3⟩
theorem HRQ.YJ{S:SH}(h:HRQ f S w){b:Nat}(hd:f.dom b){c:Nat→Option AV}{n m:Nat}(hb:S.ob b=.cells c n m)(hm:m<2){o:Nat}(ho:o<n) :
  w.frozen? ⟨f.blk b,f.off b+o,none⟩=false:=by
 have:=h.cellsS hd hb;obtain⟨cur,e,lo,hi,h1,_,h3,_,h5,_⟩:=this;have:=h5 hm o (by omega);simp only[World.frozen?,h1];simpa using this
theorem HRQ.cells(h:HRQ f H.sem w){b:Nat}(hd:f.dom b){c:Bt AV}{n m:Nat}(hb:H.at b=.cells c n m):OR f b (.cells c.get? n m) w.heap[f.blk b]?:=
 h.cellsS hd (by rw[AH.bN,hb];rfl)
theorem HRQ.cell(h:HRQ f H.sem w){b:Nat}(hd:f.dom b){c:Bt AV}{n m:Nat}(hb:H.at b=.cells c n m){o:Nat}{a:AV}(ho:c.get? o=some a) :
  ∃v,w.cell? ⟨f.blk b,f.off b+o,none⟩=some v∧VR f a v:=h.cellS hd (c:=c.get?) (n:=n) (m:=m) (by rw[AH.bN,hb];rfl) ho
theorem HRQ.notFrozen(h:HRQ f H.sem w){b:Nat}(hd:f.dom b){c:Bt AV}{n m:Nat}(hb:H.at b=.cells c n m)(hm:m<2){o:Nat}(ho:o<n) :
  w.frozen? ⟨f.blk b,f.off b+o,none⟩=false:=h.YJ hd (c:=c.get?) (n:=n) (m:=m) (by rw[AH.bN,hb];rfl) hm ho
theorem GA(w:World)(a:Addr)(v:Value)(k:Nat)(h:k≠a.block):(w.setCell a v).heap[k]? = w.heap[k]?:=by
 simp only[World.setCell,Array.getElem?_modify];rw[if_neg (λx=>h x.symm)]
theorem GB(w:World)(b o:Nat)(v:Value){c:Array Value}{e:TypeId}{fr:Nat×Nat}(h:w.heap[b]? = some (.cells c e fr)) :
  (w.setCell ⟨b,o,none⟩ v).heap[b]? = some (.cells (c.setIfInBounds o v) e fr):=by
 simp[World.setCell,Array.getElem?_modify,h]
def setCells(w:World)(b o:Nat):List Value→World
 |[]=>w
 |v::vs=>setCells (w.setCell ⟨b,o,none⟩ v) b (o+1) vs
def lD(c:Array Value)(o:Nat):List Value→Array Value
 |[]=>c
 |v::vs=>lD (c.setIfInBounds o v) (o+1) vs
theorem BK:∀(vs:List Value) (c:Array Value) (o:Nat),(lD c o vs).size=c.size
 |[],_,_=>rfl
 |v::vs,c,o=>by rw[lD,BK vs];simp
theorem qM:∀(vs:List Value) (c:Array Value) (o j:Nat),(j<o∨o+vs.length≤j)→(lD c o vs)[j]? = c[j]?
 |[],_,_,_,_=>rfl
 |v::vs,c,o,j,h=>by
  rw[lD,qM vs _ _ _ (by simp at h;omega),Array.getElem?_setIfInBounds_ne (by simp at h;omega)]
theorem yM:∀(vs:List Value) (c:Array Value) (o i:Nat),i<vs.length→o+vs.length≤c.size→(lD c o vs)[o+i]? = vs[i]?
 |[],_,_,_,h,_=>absurd h (Nat.not_lt_zero _)
 |v::vs,c,o,0,_,hs=>by
  rw[lD,qM vs _ _ _ (by omega),Nat.add_zero,List.getElem?_cons_zero];simp only[List.length_cons]at hs;exact Array.getElem?_setIfInBounds_self_of_lt (by omega)
 |v::vs,c,o,i+1,h,hs=>by
  rw[lD,show o+(i+1)=o+1+i by omega,yM vs _ _ i (by simpa using h) (by simp at hs ⊢;omega)];simp
theorem rP:∀(vs:List Value) (w:World) (b o:Nat){c:Array Value}{e:TypeId}{fr:Nat×Nat},w.heap[b]? = some (.cells c e fr)→
  (setCells w b o vs).heap[b]? = some (.cells (lD c o vs) e fr)∧(setCells w b o vs).heap.size=w.heap.size∧(∀k,k≠b→(setCells w b o vs).heap[k]? = w.heap[k]?)∧
  (setCells w b o vs).os=w.os∧(setCells w b o vs).tape=w.tape∧(setCells w b o vs).output=w.output
 |[],w,b,o,c,e,fr,h=>⟨h,rfl,λ_ _=>rfl,rfl,rfl,rfl⟩
 |v::vs,w,b,o,c,e,fr,h=>by
  obtain⟨h1,h2,h3,h4,h5,h6⟩:=rP vs (w.setCell ⟨b,o,none⟩ v) b (o+1) (GB w b o v h);exact⟨h1,by rw[setCells,h2];simp,λk hk=>by rw[setCells,h3 k hk,GA w _ v k hk],h4,h5,h6⟩
theorem wk(P:Program):∀(vs:List Value) (w:World) (b o i:Nat),(∀v∈vs,v.oneCell'=true)→
  (∀j,j<vs.length→(w.cell? ⟨b,o+i+j,none⟩).isSome=true∧w.frozen? ⟨b,o+i+j,none⟩=false)→
  (storeCells ⟨b,o,none⟩ vs i).run P w=.ok () (setCells w b (o+i) vs)
 |[],w,b,o,i,_,_=>rfl
 |v::vs,w,b,o,i,h1,h2=>by
  obtain⟨h3,h4⟩:=h2 0 (by simp);obtain⟨u,hu⟩:=Option.isSome_iff_exists.1 h3;have e:(⟨b,o,none⟩:Addr).add i=⟨b,o+i,none⟩:=by unfold Addr.add;split<;>simp_all
  rw[Nat.add_zero]at hu h4;simp only[storeCells,Sem.run_bind,e,run_store P w _ v _ (h1 v (by simp)),hu,h4,Bool.false_eq_true,if_false,Result.andThen_ok];rw[wk P vs _ b o (i+1) (λx hx=>h1 x (by simp[hx])) (λj hj=>?_)]
  ·rfl
  ·obtain⟨h5,h6⟩:=h2 (j+1) (by simp;omega);rw[World.cell?_setCell_other _ _ _ _ (λe=>by simp at e;omega),World.frozen?_setCell,show o+(i+1)+j=o+i+(j+1) by omega];exact⟨h5,h6⟩
theorem fK.setCells{S:SH}(h:fK f S w){b:Nat}(hd:f.dom b){c c':Nat→Option AV}{n m:Nat}(hb:S.ob b=.cells c n m)(hm:m<2){o:Nat}{l:List AV}{vs:List Value}(ho:o+l.length≤n)(hv:VL f l vs)
  (S':SH) (hn:S'.n=S.n) (hnew:S'.ob b=.cells c' n m) (hold:∀x,x≠b→S'.ob x=S.ob x) (hc1:∀i,i<l.length→c' (o+i)=l[i]?)
  (hc2:∀j,(j<o∨o+l.length≤j)→c' j=c j) :
  gn f S w f S' (Go.X.setCells w (f.blk b) (f.off b+o) vs):=by
 have hob:=h.cellsS hd hb;obtain⟨cur,e,lo,hi,h1,h2,h3,h4,h5,h6⟩:=hob;have hlen:=hv.length;obtain⟨g1,g2,g3,g4,g5,g6⟩:=rP vs w (f.blk b) (f.off b+o) h1;refine fK.update h (b:=b) hd (by rw[hb];simpa[gL.own]using hm) S' (.cells c' n m) _ _ hn hnew hold (by simpa[gL.own]using hm) ?_ g1 g2 g3 g4 g5 g6;refine⟨_,e,lo,hi,rfl,by rw[BK];exact h2,h3,λj a hj=>?_,h5,h6⟩;by_cases hin:o≤j∧j<o+l.length
 ·obtain⟨i,rfl⟩:∃i,j=o+i:=⟨j-o,by omega⟩
  rw[hc1 i (by omega)]at hj;obtain⟨v,hv1,hv2⟩:=hv.get i a hj;refine⟨by omega,v,?_,hv2⟩;rw[←Nat.add_assoc,yM vs cur _ i (by omega) (by omega),hv1]
 ·rw[hc2 j (by omega)]at hj;obtain⟨x0,v,x1,x2⟩:=h4 j a hj;exact⟨x0,v,by rw[qM _ _ _ _ (by omega)];exact x1,x2⟩
theorem HR.setCells(h:HR f H w){b:Nat}(hd:f.dom b){c c':Bt AV}{n m:Nat}(hb:H.at b=.cells c n m)(hm:m<2){o:Nat}{l:List AV}{vs:List Value}(ho:o+l.length≤n)(hv:VL f l vs)
  (H':AH) (hn:H'.n=H.n) (hnew:H'.at b=.cells c' n m) (hold:∀x,x≠b→H'.at x=H.at x) (hc1:∀i,i<l.length→c'.get? (o+i)=l[i]?)
  (hc2:∀j,(j<o∨o+l.length≤j)→c'.get? j=c.get? j) :
  Step f H w f H' (Go.X.setCells w (f.blk b) (f.off b+o) vs):=
 fK.setCells h hd (c:=c.get?) (c':=c'.get?) (by rw[AH.bN,hb];rfl) hm ho hv H'.sem hn (by rw[AH.bN,hnew];rfl) (λx hx=>congrArg dM.sem (hold x hx)) hc1 hc2
theorem HRQ.auh{S:SH}(h:HRQ f S w){b:Nat}(hd:f.dom b){c:Nat→Option AV}{n m:Nat}(hb:S.ob b=.cells c n m){o:Nat}(ho:o<n):(w.cell? ⟨f.blk b,f.off b+o,none⟩).isSome=true:=by
 have:=h.cellsS hd hb;obtain⟨cur,e,lo,hi,h1,h2,h3,_⟩:=this;simp[World.cell?,h1];omega
theorem HRQ.there(h:HRQ f H.sem w){b:Nat}(hd:f.dom b){c:Bt AV}{n m:Nat}(hb:H.at b=.cells c n m){o:Nat}(ho:o<n):(w.cell? ⟨f.blk b,f.off b+o,none⟩).isSome=true:=
 h.auh hd (c:=c.get?) (n:=n) (m:=m) (by rw[AH.bN,hb];rfl) ho
end
noncomputable section
def bT(b:Bool)(x:Prop):Prop:=match b with|true=>x|false=>False
theorem aD{b:Bool}{x:Prop}(h:bT b x):b=true∧x:=by cases b;exact h.elim;exact⟨rfl,h⟩
def bI(b:Bool)(x y:Prop):Prop:=match b with|true=>x|false=>y
theorem dn{b:Bool}{x y:Prop}(h:bI b x y):(b=true∧x)∨(b=false∧y):=by cases b;exact .inr ⟨rfl,h⟩;exact .inl ⟨rfl,h⟩
def kT(a:AV)(x y:Prop):Prop:=match a with|.bool b=>(match b with|true=>x|false=>y)|_=>False
theorem qN{a:AV}{x y:Prop}(h:kT a x y):(a=.bool true∧x)∨(a=.bool false∧y):=by
 cases a with
 |bool b=>cases b;exact .inr ⟨rfl,h⟩;exact .inl ⟨rfl,h⟩
 |_=>exact h.elim
def j0(a:AV)(k:Nat→Int→Prop):Prop:=match a with|.int c n=>k c n|_=>False
theorem eV{a:AV}{k:Nat→Int→Prop}(h:j0 a k):∃c n,a=.int c n∧k c n:=by
 cases a with
 |int c n=>exact⟨c,n,rfl,h⟩
 |_=>exact h.elim
def nX(a:AV)(k:Nat→Nat→Prop):Prop:=match a with|.int c n=>(match n with|.ofNat m=>k c m|.negSucc _=>False)|_=>False
theorem jy{a:AV}{k:Nat→Nat→Prop}(h:nX a k):∃c n,a=.int c (.ofNat n)∧k c n:=by
 cases a with
 |int c n=>cases n with
  |ofNat m=>exact⟨c,m,rfl,h⟩
  |negSucc m=>exact h.elim
 |_=>exact h.elim
def fV(a:AV)(k:Nat→Nat→Prop):Prop:=match a with|.str n x=>k n x|_=>False
theorem gC{a:AV}{k:Nat→Nat→Prop}(h:fV a k):∃n x,a=.str n x∧k n x:=by
 cases a with
 |str n x=>exact⟨n,x,rfl,h⟩
 |_=>exact h.elim
def nY(a:AV)(k:Nat→Nat→Prop):Prop:=match a with|.ptr b o=>k b o|_=>False
theorem nz{a:AV}{k:Nat→Nat→Prop}(h:nY a k):∃b o,a=.ptr b o∧k b o:=by
 cases a with
 |ptr b o=>exact⟨b,o,rfl,h⟩
 |_=>exact h.elim
def nZ(a:AV)(z:Prop)(k:Nat→Nat→Nat→Nat→Nat→Bool→Prop):Prop:=match a with|.slice b o l c s x=>k b o l c s x|.ab=>z|_=>False
theorem gM{a:AV}{z:Prop}{k:Nat→Nat→Nat→Nat→Nat→Bool→Prop}(h:nZ a z k):(a=.ab∧z)∨∃b o l c s x,a=.slice b o l c s x∧k b o l c s x:=by
 cases a with
 |slice b o l c s x=>exact .inr ⟨b,o,l,c,s,x,rfl,h⟩
 |ab=>exact .inl ⟨rfl,h⟩
 |_=>exact h.elim
def rQ{κ:Type}(a:AV)(z:κ→Prop)(f:Nat→Nat→Nat→Nat→Nat→Bool→κ→Prop)(k:κ):Prop:=(match a with|.slice b o l c s x=>f b o l c s x|.ab=>z|_=>λ_=>False:κ→Prop) k
theorem lE{κ:Type}{a:AV}{z:κ→Prop}{f:Nat→Nat→Nat→Nat→Nat→Bool→κ→Prop}{k:κ}(h:rQ a z f k):(a=.ab∧z k)∨∃b o l c s x,a=.slice b o l c s x∧f b o l c s x k:=by
 cases a<;>first|exact h.elim|exact .inl ⟨rfl,h⟩|exact .inr ⟨_,_,_,_,_,_,rfl,h⟩
def fW(a:AV)(k:List AV→Prop):Prop:=match a with|.agg cs=>k cs|_=>False
theorem MU{a:AV}{k:List AV→Prop}(h:fW a k):∃cs,a=.agg cs∧k cs:=by
 cases a with
 |agg cs=>exact⟨cs,rfl,h⟩
 |_=>exact h.elim
def AV.one:AV→Bool
 |.agg _|.aE _|.cH=>false
 |_=>true
def one(a:AV)(x:Prop):Prop:=bT a.one x
theorem Ux{a:AV}{x:Prop}(h:one a x):a.one=true∧x:=aD h
def full:Nat→Nat
 |0=>18446744073709551616
 |1=>256
 |2=>4294967296
 |3=>18446744073709551616
 |4=>4294967296
 |5=>256
 |_=>65536
def half:Nat→Nat
 |0=>9223372036854775808
 |1=>128
 |2=>2147483648
 |3=>9223372036854775808
 |4=>2147483648
 |5=>128
 |_=>32768
def rI:Nat→Bool
 |0=>true
 |1=>false
 |2=>true
 |3=>false
 |4=>false
 |5=>true
 |6=>true
 |_=>false
def iL(z:Int)(k:Int→Prop):Prop:=(match z with|.ofNat n=>λk=>bj n λm=>k (.ofNat m)|.negSucc n=>λk=>bj n λm=>k (.negSucc m):(Int→Prop)→Prop) k
theorem iB(z:Int)(k:Int→Prop):iL z k=k z:=by cases z<;>simp[iL,aY]
def qO(c:Nat)(z:Int):Int:=
 let m:=Int.emod z (.ofNat (full c))
 if rI c&&Nat.ble (half c) m.toNat then Int.sub m (.ofNat (full c)) else m
theorem wm(c:Nat)(z:Int):qO c z=(kd c).wrap z:=by
 have hm:∀F:Nat,0<F→0≤Int.emod z (.ofNat F):=λF hF=>Int.emod_nonneg z (by simp;omega);unfold qO IntKind.wrap
 match c with
 |0=>
  have:=hm 18446744073709551616 (by decide);simp only[full,half,rI,kd,IntKind.bits,IntKind.signed]
  change (if (true&&Nat.ble 9223372036854775808 (z%18446744073709551616).toNat)=true then (z%18446744073709551616)-18446744073709551616 else z%18446744073709551616)=_
  simp;split<;>split<;>omega
 |1=>
  simp only[full,half,rI,kd,IntKind.bits,IntKind.signed];rfl
 |2=>
  have:=hm 4294967296 (by decide);simp only[full,half,rI,kd,IntKind.bits,IntKind.signed]
  change (if (true&&Nat.ble 2147483648 (z%4294967296).toNat)=true then (z%4294967296)-4294967296 else z%4294967296)=_
  simp;split<;>split<;>omega
 |3=>simp only[full,half,rI,kd,IntKind.bits,IntKind.signed];rfl
 |4=>simp only[full,half,rI,kd,IntKind.bits,IntKind.signed];rfl
 |5=>
  have:=hm 256 (by decide);simp only[full,half,rI,kd,IntKind.bits,IntKind.signed]
  change (if (true&&Nat.ble 128 (z%256).toNat)=true then (z%256)-256 else z%256)=_
  simp;split<;>split<;>omega
 |6=>
  have:=hm 65536 (by decide);simp only[full,half,rI,kd,IntKind.bits,IntKind.signed]
  change (if (true&&Nat.ble 32768 (z%65536).toNat)=true then (z%65536)-65536 else z%65536)=_
  simp;split<;>split<;>omega
 |n+7=>simp only[full,half,rI,kd,IntKind.bits,IntKind.signed];rfl
def afH(c:Nat)(z:Int)(k:Int→Prop):Prop:=
 bI (rI c)
  (match z with
   |.ofNat n=>bI (Nat.ble (half c) n) (iL (qO c z) k) (bj n λm=>k (.ofNat m))
   |.negSucc n=>bI (Nat.ble (half c) n) (iL (qO c z) k) (bj n λm=>k (.negSucc m)))
  (match z with
   |.ofNat n=>bj (n%full c) λm=>k (.ofNat m)
   |.negSucc _=>iL (qO c z) k)
theorem wrap_small{c:Nat}{z:Int}(hs:rI c=true)(h1:-(half c:Int)≤z)(h2:z<half c):(kd c).wrap z=z:=by
 unfold IntKind.wrap
 match c,hs with
 |0,_=>simp[half]at h1 h2;simp[kd,IntKind.bits,IntKind.signed];split<;>omega
 |2,_=>simp[half]at h1 h2;simp[kd,IntKind.bits,IntKind.signed];split<;>omega
 |5,_=>simp[half]at h1 h2;simp[kd,IntKind.bits,IntKind.signed];split<;>omega
 |6,_=>simp[half]at h1 h2;simp[kd,IntKind.bits,IntKind.signed];split<;>omega
theorem Bx{c:Nat}{n:Nat}(hs:rI c=false):(kd c).wrap (.ofNat n)=.ofNat (n%full c):=by
 unfold IntKind.wrap
 match c,hs with
 |1,_=>simp[kd,IntKind.bits,IntKind.signed,full]
 |3,_=>simp[kd,IntKind.bits,IntKind.signed,full]
 |4,_=>simp[kd,IntKind.bits,IntKind.signed,full]
 |n+7,_=>simp[kd,IntKind.bits,IntKind.signed,full]
theorem YK{c:Nat}{z:Int}{k:Int→Prop}(h:afH c z k):k ((kd c).wrap z):=by
 unfold afH at h;rcases dn h with⟨hs,h⟩|⟨hs,h⟩
 ·cases z with
  |ofNat n=>
   rcases dn h with⟨_,h⟩|⟨hb,h⟩
   ·rw[iB,wm]at h;exact h
   ·rw[aY]at h;have hb':¬half c≤n:=λhle=>by rw[Nat.ble_eq_true_of_le hle]at hb;cases hb
    have e:(Int.ofNat n:Int)=(n:Int):=rfl;rw[wrap_small hs (by omega) (by omega)];exact h
  |negSucc n=>
   rcases dn h with⟨_,h⟩|⟨hb,h⟩
   ·rw[iB,wm]at h;exact h
   ·rw[aY]at h;have hb':¬half c≤n:=λhle=>by rw[Nat.ble_eq_true_of_le hle]at hb;cases hb
    rw[wrap_small hs (by omega) (by omega)];exact h
 ·cases z with
  |ofNat n=>simp only[aY]at h;rw[Bx hs];exact h
  |negSucc n=>simp only[iB,wm]at h;exact h
def aJ(c:Nat)(z:Int)(k:Int→Prop):Prop:=
 (match z with
  |.ofNat n=>λk=>bI (rI c) (bI (Nat.ble (half c) n) (iL (qO c (.ofNat n)) k) (bj n λm=>k (.ofNat m))) (bj (Nat.mod n (full c)) λm=>k (.ofNat m))
  |.negSucc n=>λk=>bI (rI c) (bI (Nat.ble (half c) n) (iL (qO c (.negSucc n)) k) (bj n λm=>k (.negSucc m))) (iL (qO c (.negSucc n)) k):(Int→Prop)→Prop) k
theorem jz{c:Nat}{z:Int}{k:Int→Prop}(h:aJ c z k):k ((kd c).wrap z):=YK (by cases z<;>exact h)
def two(c:Nat)(a b:AV)(k:Int→Int→Prop):Prop:=j0 a λc1 x=>j0 b λc2 y=>bT (Nat.beq c1 c) (bT (Nat.beq c2 c) (k x y))
theorem fC{c:Nat}{a b:AV}{k:Int→Int→Prop}(h:two c a b k):∃x y,a=.int c x∧b=.int c y∧k x y:=by
 unfold two at h;obtain⟨c1,x,ea,h⟩:=eV h;obtain⟨c2,y,eb,h⟩:=eV h;obtain⟨h1,h⟩:=aD h;obtain⟨h2,h⟩:=aD h;have e1:=Nat.eq_of_beq_eq_true h1;have e2:=Nat.eq_of_beq_eq_true h2;exact⟨x,y,by rw[ea,e1],by rw[eb,e2],h⟩
def bO(x y:Int):Bool:=match x,y with
 |.ofNat a,.ofNat b=>Nat.ble (Nat.succ a) b
 |.ofNat _,.negSucc _=>false
 |.negSucc _,.ofNat _=>true
 |.negSucc a,.negSucc b=>Nat.ble (Nat.succ b) a
def aV(x y:Int):Bool:=match x,y with
 |.ofNat a,.ofNat b=>Nat.beq a b
 |.negSucc a,.negSucc b=>Nat.beq a b
 |_,_=>false
theorem y7(x y:Int):bO x y=decide (x<y):=by
 cases x<;>cases y<;>simp only[bO]<;>rw[Bool.eq_iff_iff]<;>simp<;>omega
theorem pq(x y:Int):aV x y=(x == y):=by
 cases x<;>cases y<;>simp only[aV]<;>rw[Bool.eq_iff_iff]<;>simp<;>omega
def aui(c:Nat)(a b:AV)(k:AV→Prop):Prop:=two c a b λx y=>aJ c (Int.add x y) λz=>k (.int c z)
def auj(c:Nat)(a b:AV)(k:AV→Prop):Prop:=two c a b λx y=>aJ c (Int.sub x y) λz=>k (.int c z)
def auk(c:Nat)(a b:AV)(k:AV→Prop):Prop:=two c a b λx y=>aJ c (Int.mul x y) λz=>k (.int c z)
def aul(c:Nat)(a b:AV)(k:AV→Prop):Prop:=two c a b λx y=>bI (aV y 0) False (aJ c (Int.tdiv x y) λz=>k (.int c z))
def apb(c:Nat)(a b:AV)(k:AV→Prop):Prop:=two c a b λx y=>bI (aV y 0) False (iL (Int.tmod x y) λz=>k (.int c z))
def YL(c:Nat)(a b:AV)(k:AV→Prop):Prop:=(match a with
 |.FA m r=>λk=>bT (Nat.beq c 0) (j0 b λc2 y=>bT (Nat.beq c2 0) (bT (aV y (.ofNat m)) (bT (Nat.ble 1 m) (k (.int 0 r)))))
 |.yL m r=>λk=>bT (Nat.beq c 3) (j0 b λc2 y=>bT (Nat.beq c2 3) (bT (aV y (.ofNat m)) (bT (Nat.ble 1 m) (k (.int 3 (.ofNat r))))))
 |a=>λk=>apb c a b k:(AV→Prop)→Prop) k
theorem OD{c:Nat}{a b:AV}{k:AV→Prop}(h:YL c a b k):apb c a b k∨(∃m r,a = .FA m r∧c=0∧b=.int 0 (.ofNat m)∧1≤m∧k (.int 0 r))∨∃m r,a=.yL m r∧c=3∧b=.int 3 (.ofNat m)∧1≤m∧k (.int 3 (.ofNat r)):=by
 unfold YL at h;split at h
 ·rename_i m r;obtain⟨h1,h⟩:=aD h;obtain⟨c2,y,rfl,h⟩:=eV h;obtain⟨h2,h⟩:=aD h;obtain⟨h3,h⟩:=aD h;obtain⟨h4,h⟩:=aD h;rw[pq]at h3;exact .inr (.inl ⟨m,r,rfl,Nat.eq_of_beq_eq_true h1,by rw[Nat.eq_of_beq_eq_true h2,eq_of_beq h3],Nat.le_of_ble_eq_true h4,h⟩)
 ·rename_i m r;obtain⟨h1,h⟩:=aD h;obtain⟨c2,y,rfl,h⟩:=eV h;obtain⟨h2,h⟩:=aD h;obtain⟨h3,h⟩:=aD h;obtain⟨h4,h⟩:=aD h;rw[pq]at h3;exact .inr (.inr ⟨m,r,rfl,Nat.eq_of_beq_eq_true h1,by rw[Nat.eq_of_beq_eq_true h2,eq_of_beq h3],Nat.le_of_ble_eq_true h4,h⟩)
 ·exact .inl h
def pLt(c:Nat)(a b:AV)(k:AV→Prop):Prop:=two c a b λx y=>k (.bool (bO x y))
def pLe(c:Nat)(a b:AV)(k:AV→Prop):Prop:=two c a b λx y=>k (.bool (!(bO y x)))
def pEq(c:Nat)(a b:AV)(k:AV→Prop):Prop:=two c a b λx y=>k (.bool (aV x y))
def pNe(c:Nat)(a b:AV)(k:AV→Prop):Prop:=two c a b λx y=>k (.bool (!(aV x y)))
def kK(c:Nat)(x:Int):Nat:=match x with|.ofNat n=>n|.negSucc n=>full c-1-n%full c
def aum(c:Nat)(a b:AV)(k:AV→Prop):Prop:=two c a b λx y=>bj (kK c x) λu=>bj (kK c y) λv=>aJ c (.ofNat (Nat.land u v)) λz=>k (.int c z)
def pOr(c:Nat)(a b:AV)(k:AV→Prop):Prop:=two c a b λx y=>bj (kK c x) λu=>bj (kK c y) λv=>aJ c (.ofNat (Nat.lor u v)) λz=>k (.int c z)
def YM(c:Nat)(a b:AV)(k:AV→Prop):Prop:=two c a b λx y=>bj (kK c x) λu=>bj (kK c y) λv=>aJ c (.ofNat (Nat.xor u v)) λz=>k (.int c z)
def Uy(c:Nat)(a b:AV)(k:AV→Prop):Prop:=two c a b λx y=>bj (kK c x) λu=>bj (kK c y) λv=>aJ c (.ofNat (Nat.land u (full c-1-v%full c))) λz=>k (.int c z)
def bits:Nat→Nat
 |0=>64
 |1=>8
 |2=>32
 |3=>64
 |4=>32
 |5=>8
 |_=>16
def amq(c:Nat)(a b:AV)(k:AV→Prop):Prop:=j0 a λc1 x=>nX b λ_ y=>bT (Nat.beq c1 c) (aJ c (Int.mul x (.ofNat (Nat.pow 2 (Nat.min y (bits c))))) λz=>k (.int c z))
def aun(x:Int)(n:Nat):Int:=match x with|.ofNat m=>.ofNat (Nat.shiftRight m n)|.negSucc m=>.negSucc (Nat.shiftRight m n)
def auo(c:Nat)(a b:AV)(k:AV→Prop):Prop:=j0 a λc1 x=>nX b λ_ y=>bT (Nat.beq c1 c) (iL (aun x (Nat.min y (bits c))) λz=>k (.int c z))
def ayQ(c:Nat)(a:AV)(k:AV→Prop):Prop:=j0 a λc1 x=>bT (Nat.beq c1 c) (aJ c (Int.neg x) λz=>k (.int c z))
def aup(a:AV)(k:AV→Prop):Prop:=match a with|.bool b=>k (.bool (!b))|_=>False
theorem amr{a:AV}{k:AV→Prop}(h:aup a k):∃b,a=.bool b∧k (.bool (!b)):=by cases a<;>first|exact h.elim|exact⟨_,rfl,h⟩
def afI(c:Nat)(a:AV)(k:AV→Prop):Prop:=j0 a λ_ x=>aJ c x λz=>k (.int c z)
def YN(c:Nat)(a:AV)(k:AV→Prop):Prop:=(match a with
 |.FB m r=>λk=>bT (Nat.beq c 3) (k (.yL m r))
 |a=>λk=>afI c a k:(AV→Prop)→Prop) k
theorem afJ{c:Nat}{a:AV}{k:AV→Prop}(h:YN c a k):afI c a k∨∃m r,a = .FB m r∧c=3∧k (.yL m r):=by
 unfold YN at h;split at h
 ·rename_i m r;obtain⟨h1,h⟩:=aD h;exact .inr ⟨m,r,rfl,Nat.eq_of_beq_eq_true h1,h⟩
 ·exact .inl h
end
theorem gS:∀(n x:Nat),(iK n x).length=n
 |0,_=>rfl
 |n+1,x=>congrArg (· + 1) (gS n (x/256))
theorem qh:∀(n x i:Nat),i<n→(iK n x)[i]? = some (UInt8.ofNat (x/256^i%256))
 |0,_,_,h=>absurd h (Nat.not_lt_zero _)
 |n+1,x,0,_=>by simp[iK]
 |n+1,x,i+1,h=>by
  simp only[iK,List.getElem?_cons_succ];rw[qh n (x/256) i (by omega),Nat.div_div_eq_div_mul,Nat.pow_succ,Nat.mul_comm]
theorem Uz:∀(n x y:Nat),x<256^n→y<256^n→iK n x=iK n y→x=y
 |0,x,y,hx,hy,_=>by simp at hx hy;omega
 |n+1,x,y,hx,hy,h=>by
  simp only[iK,List.cons.injEq]at h;have h1:x%256=y%256:=by
   have:=congrArg UInt8.toNat h.1;simpa using this
  have h2:=Uz n (x/256) (y/256) (by rw[Nat.pow_succ]at hx;omega) (by rw[Nat.pow_succ]at hy;omega) h.2;omega
@[simp] theorem MV(n x:Nat):(eS n x).size=n:=by simp[eS,ByteArray.size,gS]
@[simp] theorem TE(n x:Nat):(eS n x).toList=iK n x:=by simp[eS]
@[simp] theorem qi(n x:Nat):(eS n x).data=(iK n x).toArray:=rfl
theorem Jp{n x m y:Nat}(hx:x<256^n)(hy:y<256^m):(iK n x == iK m y)=(Nat.beq n m&&Nat.beq x y):=by
 rw[Bool.eq_iff_iff];simp only[beq_iff_eq,Bool.and_eq_true];have hb:∀a b:Nat,Nat.beq a b=true↔a=b:=λa b=>⟨Nat.eq_of_beq_eq_true,λh=>by subst h;exact Nat.beq_refl a⟩
 rw[hb,hb];constructor
 ·intro h;have hn:n=m:=by rw[←gS n x,←gS m y,h]
  subst hn;exact⟨rfl,Uz n x y hx hy h⟩
 ·rintro⟨rfl,rfl⟩;rfl
def byteAt(x i:Nat):Nat:=Nat.mod (Nat.shiftRight x (Nat.mul 8 i)) 256
def Jq(x l n:Nat):Nat:=Nat.mod (Nat.shiftRight x (Nat.mul 8 l)) (Nat.pow 2 (Nat.mul 8 n))
def Jr(n x y:Nat):Nat:=Nat.add x (Nat.shiftLeft y (Nat.mul 8 n))
theorem FC(i:Nat):2^(8*i)=256^i:=by rw[Nat.pow_mul]
theorem BL(x i:Nat):byteAt x i=x/256^i%256:=by
 change (x >>> (8*i))%256=_
 rw[Nat.shiftRight_eq_div_pow,FC]
theorem UA(x l n:Nat):Jq x l n=x/256^l%256^n:=by
 change (x >>> (8*l))%(2^(8*n))=_
 rw[Nat.shiftRight_eq_div_pow,FC,FC]
theorem UB(n x y:Nat):Jr n x y=x+y*256^n:=by
 change x+(y <<< (8*n))=_
 rw[Nat.shiftLeft_eq,FC]
theorem aqx(x l n:Nat):Jq x l n<256^n:=by rw[UA];exact Nat.mod_lt _ (Nat.pow_pos (by omega))
theorem MW(x i:Nat):byteAt x i<256:=by rw[BL];exact Nat.mod_lt _ (by omega)
theorem aqy{n m x y:Nat}(hx:x<256^n)(hy:y<256^m):Jr n x y<256^(n+m):=by
 rw[UB,Nat.pow_add,Nat.mul_comm (256^n)]
 calc x+y*256^n<256^n+y*256^n:=by omega
  _=(y+1)*256^n:=by rw[Nat.add_mul];omega
  _≤256^m*256^n:=Nat.mul_le_mul_right _ hy
theorem OE{n x i:Nat}(h:i<n):(eS n x)[i]? = some (UInt8.ofNat (byteAt x i)):=by
 have h1:=qh n x i h;rw[BL];have hs:i<(eS n x).size:=by simpa using h
 rw[getElem?_pos (eS n x) i hs];have:(iK n x)[i]? = some ((eS n x)[i]):=by
  rw[List.getElem?_eq_getElem (by rw[gS];exact h)];rfl
 rw[←this,h1]
theorem TF(x a i n:Nat)(h:i<n):(x/256^a%256^n)/256^i%256=x/256^(a+i)%256:=by
 rw[Nat.AD x a i n h]
 where
 Nat.AD (x a i n:Nat) (h:i<n):(x/256^a%256^n)/256^i%256=x/256^(a+i)%256:=by
  obtain⟨m,rfl⟩:∃m,n=i+1+m:=⟨n-(i+1),by omega⟩
  have:256^(i+1+m)=256^i*(256*256^m):=by rw[Nat.pow_add,Nat.pow_succ,Nat.mul_assoc]
  rw[this,Nat.mod_mul_right_div_self,Nat.mod_mul_right_mod,Nat.div_div_eq_div_mul,←Nat.pow_add]
theorem OF(n x l h:Nat)(hlh:l≤h)(hn:h≤n):(eS n x).extract l h=eS (h-l) (Jq x l (h-l)):=by
 apply ByteArray.ext;rw[ByteArray.data_extract,qi,qi];apply Array.ext';rw[Array.toList_extract];simp only[List.extract];apply List.ext_getElem?;intro i;rw[List.getElem?_take,List.getElem?_drop];by_cases hi:i<h-l
 ·rw[if_pos hi,qh n x (l+i) (by omega),qh _ _ i hi,UA,TF x l i (h-l) hi]
 ·rw[if_neg hi,List.getElem?_eq_none (by rw[gS];omega)]
theorem TG{n x y i:Nat}(hx:x<256^n)(h:i<n):(x+y*256^n)/256^i%256=x/256^i%256:=by
 obtain⟨m,rfl⟩:∃m,n=i+1+m:=⟨n-(i+1),by omega⟩
 have:y*256^(i+1+m)=256^i*(256*(256^m*y)):=by rw[Nat.pow_add,Nat.pow_succ];ac_rfl
 rw[this,Nat.add_mul_div_left _ _ (Nat.pow_pos (by omega)),Nat.add_mul_mod_self_left]
theorem TH{n x y i:Nat}(hx:x<256^n)(h:n≤i):(x+y*256^n)/256^i%256=y/256^(i-n)%256:=by
 obtain⟨m,rfl⟩:∃m,i=n+m:=⟨i-n,by omega⟩
 rw[Nat.add_sub_cancel_left,Nat.pow_add,←Nat.div_div_eq_div_mul,Nat.add_mul_div_right _ _ (Nat.pow_pos (by omega)),Nat.div_eq_of_lt hx,Nat.zero_add]
theorem TJ{n x m y:Nat}(hx:x<256^n):eS n x++eS m y=eS (n+m) (Jr n x y):=by
 apply ByteArray.ext;rw[ByteArray.data_append,qi,qi,qi];apply Array.ext';rw[Array.toList_append];simp only[];apply List.ext_getElem?;intro i;rw[UB];by_cases h1:i<n
 ·rw[List.getElem?_append_left (by rw[gS];exact h1),qh n x i h1,qh _ _ i (by omega),TG hx h1]
 ·rw[List.getElem?_append_right (by rw[gS];omega),gS];by_cases h2:i<n+m
  ·rw[qh m y (i-n) (by omega),qh _ _ i h2,TH hx (by omega)]
  ·rw[List.getElem?_eq_none (by rw[gS];omega),List.getElem?_eq_none (by rw[gS];omega)]
def uE:List UInt8→Nat
 |[]=>0
 |b::l=>Nat.add b.toNat (Nat.mul 256 (uE l))
theorem UC:∀l:List UInt8,uE l<256^l.length
 |[]=>by simp[uE]
 |b::l=>by
  have h1:=UC l;have h2:=b.toNat_lt
  change b.toNat+256*uE l<256^(l.length+1)
  rw[Nat.pow_succ];omega
theorem OG:∀l:List UInt8,iK l.length (uE l)=l
 |[]=>rfl
 |b::l=>by
  have h2:=b.toNat_lt;have e:uE (b::l)=b.toNat+256*uE l:=rfl;simp only[List.length_cons,iK];rw[show uE (b::l)%256=b.toNat by rw[e];omega,show uE (b::l)/256=uE l by rw[e];omega,OG l];simp
theorem afK(s:ByteArray):eS s.data.toList.length (uE s.data.toList)=s:=by
 apply ByteArray.ext;rw[qi,OG]
noncomputable section
def sLen(a:AV)(k:AV→Prop):Prop:=fV a λn _=>k (.int 0 (.ofNat n))
def gN(a i:AV)(k:AV→Prop):Prop:=fV a λn x=>nX i λ_ j=>bT (Nat.ble (Nat.succ j) n) (bj (byteAt x j) λb=>k (.int 1 (.ofNat b)))
def auq(a:AV)(l h:Nat)(k:AV→Prop):Prop:=fV a λn x=>bT (Nat.ble l h) (bT (Nat.ble h n) (bj (Nat.sub h l) λm=>bj (Jq x l m) λy=>k (.str m y)))
def oT(a b:AV)(k:AV→Prop):Prop:=fV a λn x=>fV b λm y=>bj (Nat.add n m) λp=>bT (Nat.ble p 1099511627776) (bj (Jr n x y) λz=>k (.str p z))
def wo(a b:AV)(k:AV→Prop):Prop:=fV a λn x=>fV b λm y=>k (.bool (Nat.beq n m&&Nat.beq x y))
def sNe(a b:AV)(k:AV→Prop):Prop:=fV a λn x=>fV b λm y=>k (.bool (!(Nat.beq n m&&Nat.beq x y)))
def xO:Nat→Nat→Nat→Nat→Bool
 |_,_,0,_=>false
 |0,_,_+1,_=>true
 |n+1,x,m+1,y=>Nat.ble (Nat.succ (Nat.mod x 256)) (Nat.mod y 256)||(Nat.beq (Nat.mod x 256) (Nat.mod y 256)&&xO n (Nat.div x 256) m (Nat.div y 256))
def aur(a b:AV)(k:AV→Prop):Prop:=fV a λn x=>fV b λm y=>k (.bool (xO n x m y))
def aus(a b:AV)(k:AV→Prop):Prop:=fV a λn x=>fV b λm y=>k (.bool (xO n x m y||(Nat.beq n m&&Nat.beq x y)))
def aut(a b:AV)(k:AV→Prop):Prop:=fV a λn x=>fV b λm y=>k (.bool (!(xO n x m y||(Nat.beq n m&&Nat.beq x y))))
def auu(a b:AV)(k:AV→Prop):Prop:=fV a λn x=>fV b λm y=>k (.bool (!(xO n x m y)))
end
theorem afL:∀n x m y,xO n x m y=Op.bytesLess (iK n x) (iK m y)
 |n,_,0,_=>by cases n<;>simp[xO,iK,Op.bytesLess]
 |0,_,m+1,_=>by simp[xO,iK,Op.bytesLess]
 |n+1,x,m+1,y=>by
  have hlt:∀a b:Nat,a<256→b<256→(Nat.ble (Nat.succ a) b=decide (UInt8.ofNat a<UInt8.ofNat b)):=λa b ha hb=>by
   rw[Bool.eq_iff_iff];simp[UInt8.lt_iff_toNat_lt];omega
  have heq:∀a b:Nat,a<256→b<256→(Nat.beq a b=(UInt8.ofNat a == UInt8.ofNat b)):=λa b ha hb=>by
   rw[Bool.eq_iff_iff];simp[←UInt8.toNat_inj];omega
  have hx:=Nat.mod_lt x (show 256>0 by omega);have hy:=Nat.mod_lt y (show 256>0 by omega);have e1:=hlt _ _ hx hy;have e2:=heq _ _ hx hy
  change (Nat.ble (Nat.succ (x%256)) (y%256)||(Nat.beq (x%256) (y%256)&&xO n (x/256) m (y/256)))=_
  rw[e1,e2,afL n];simp only[iK,Op.bytesLess]
noncomputable section
def onCells(o:dM)(k:Bt AV→Nat→Nat→Prop):Prop:=match o with|.cells c n m=>k c n m|_=>False
theorem TK{o:dM}{k:Bt AV→Nat→Nat→Prop}(h:onCells o k):∃c n m,o=.cells c n m∧k c n m:=by
 cases o with
 |cells c n m=>exact⟨c,n,m,rfl,h⟩
 |_=>exact h.elim
def xP(c:Bt AV)(n:Nat):Nat→(List AV→Prop)→Prop:=
 @Nat.rec (λ_=>Nat→(List AV→Prop)→Prop) (λ_ k=>k []) (λ_ ih o k=>c.fH o λa=>bj (Nat.succ o) λo'=>ih o' λl=>k (a::l)) n
def iM(l:List AV):Bt AV→Nat→(Bt AV→Nat→Prop)→Prop:=
 @List.rec AV (λ_=>Bt AV→Nat→(Bt AV→Nat→Prop)→Prop) (λc o k=>k c o) (λa _ ih c o k=>one a (c.jx o a λc'=>bj (Nat.succ o) λo'=>ih c' o' k)) l
def aA(H:AH)(o:dM)(k:Nat→AH→Prop):Prop:=H.t.jx H.n o λt'=>bj (Nat.succ H.n) λn'=>k H.n ⟨t',n'⟩
def jx(H:AH)(b:Nat)(o:dM)(k:AH→Prop):Prop:=H.t.jx b o λt'=>k ⟨t',H.n⟩
def fH(H:AH)(b:Nat)(k:Bt AV→Nat→Nat→Prop):Prop:=H.t.fH b λo=>onCells o k
def onVal(a:AV)(k:List AV→Prop):Prop:=(match a with|.agg cs=>λk=>k cs|.aE _=>λ_=>False|.cH=>λ_=>False|v=>λk=>k [v]:(List AV→Prop)→Prop) k
def af(p:AV)(H:AH)(k:AV→Prop):Prop:=nY p λb o=>fH H b λc _ _=>c.fH o k
def aM(n:Nat)(p:AV)(H:AH)(k:AV→Prop):Prop:=nY p λb o=>fH H b λc _ _=>xP c n o λl=>k (.agg l)
def ag(n:Nat)(p v:AV)(H:AH)(k:AH→Prop):Prop:=nY p λb o=>onVal v λl=>fH H b λc m w=>bT (Nat.ble w 1) (iM l c o λc' o'=>bT (Nat.beq o' (Nat.add o n)) (bT (Nat.ble o' m) (jx H b (.cells c' m w) k)))
abbrev Lay:=dM→(Nat→AH→Prop)→Prop
def dC(nw:Lay)(l:List AV)(k:AV→AH→Prop):Prop:=iM l .e 0 λc n=>nw (.cells c n 0) λb H'=>k (.ptr b 0) H'
def bG(nw:Lay)(n sz:Nat)(l:List AV)(k:AV→AH→Prop):Prop:=iM l .e 0 λc m=>bT (Nat.beq m (Nat.mul n sz)) (nw (.cells c m 0) λb H'=>k (.slice b 0 n n sz true) H')
def ah(n:Nat)(p:AV)(k:AV→Prop):Prop:=nY p λb o=>bj (Nat.add o n) λo'=>k (.ptr b o')
def cw(sz:Nat)(s i:AV)(k:AV→Prop):Prop:=nZ s False λb o len _ sz' _=>nX i λ_ j=>bT (Nat.ble (Nat.succ j) len) (bT (Nat.beq sz sz') (bj (Nat.add o (Nat.mul j sz)) λo'=>k (.ptr b o')))
def Dd(n sz:Nat)(p i:AV)(k:AV→Prop):Prop:=nY p λb o=>nX i λ_ j=>bT (Nat.ble (Nat.succ j) n) (bj (Nat.add o (Nat.mul j sz)) λo'=>k (.ptr b o'))
def aC(p:AV)(k:Prop):Prop:=(match p with|.ptr _ _=>λk=>k|.func _ _ _=>λk=>k|.iface _ _=>λk=>k|_=>λ_=>False:Prop→Prop) k
def bR(s:AV)(k:AV→Prop):Prop:=rQ s (λk=>k (.int 0 (.ofNat 0))) (λ_ _ len _ _ _ k=>k (.int 0 (.ofNat len))) k
def cellsOf(sz n:Nat)(s:AV)(H:AH)(k:List AV→Prop):Prop:=rQ s (λk=>k []) (λb o len _ sz' _ k=>bT (Nat.ble n len) <| bT (Nat.beq sz sz') (fH H b λc _ _=>xP c (Nat.mul n sz) o k)) k
def lenOf(s:AV)(k:Nat→Prop):Prop:=rQ s (λk=>k 0) (λ_ _ len _ _ _ k=>k len) k
def qP(sz bytes n:Nat)(s:AV)(l:List AV)(H:AH)(k:AV→AH→Prop):Prop:=
 bT (Nat.ble (Nat.succ 0) sz) <|
 nZ s
  (bI (Nat.beq n 0) (k .ab H) (bT (Nat.ble (Nat.mul n bytes) 1099511627776) (iM l .e 0 λc m=>aA H (.cells c m 0) λb H'=>k (.slice b 0 n n sz false) H')))
  λb o len cap sz' ex=>bT (Nat.beq sz sz') <| bj (Nat.add len n) λneed=>
   bI (Nat.ble need cap)
    (fH H b λc m w=>bT (Nat.ble w 1) (iM l c (Nat.add o (Nat.mul len sz)) λc' o'=>bT (Nat.ble o' m) (jx H b (.cells c' m w) λH'=>k (.slice b o need cap sz ex) H')))
    (bT (Nat.ble (Nat.mul need bytes) 1099511627776) <| bI ex
     (fH H b λc _ _=>xP c (Nat.mul len sz) o λold=>iM old .e 0 λc1 o1=>iM l c1 o1 λc2 o2=>aA H (.cells c2 o2 0) λb' H'=>k (.slice b' 0 need need sz false) H')
     (fH H b λc m w=>bT (Nat.ble w 1) (bI (Nat.beq o 0&&Nat.beq m (Nat.mul len sz))
      (iM l c m λc2 o2=>jx H b .dead λH1=>aA H1 (.cells c2 o2 w) λb' H'=>k (.slice b' 0 need need sz false) H')
      (xP c (Nat.mul len sz) o λold=>iM old .e 0 λc1 o1=>iM l c1 o1 λc2 o2=>jx H b .dead λH1=>aA H1 (.cells c2 o2 w) λb' H'=>k (.slice b' 0 need need sz false) H'))))
def cV(sz bytes:Nat)(s x:AV)(H:AH)(k:AV→AH→Prop):Prop:=lenOf x λn=>cellsOf sz n x H λl=>qP sz bytes n s l H k
def axT(sz:Nat)(d s:AV)(H:AH)(k:AV→AH→Prop):Prop:=
 lenOf s λn=>lenOf d λm=>bj (Nat.min n m) λq=>cellsOf sz q s H λl=>
  nZ d (k (.int 0 (.ofNat q)) H) λb o _ _ sz' _=>bT (Nat.beq sz sz') (fH H b λc m w=>bT (Nat.ble w 1) (iM l c o λc' o'=>bT (Nat.ble o' m) (jx H b (.cells c' m w) λH'=>k (.int 0 (.ofNat q)) H')))
end
theorem qj(c:Bt AV):∀(n o:Nat) (k:List AV→Prop),xP c n o k→∃l,l.length=n∧(∀i a,l[i]? = some a→c.get? (o+i)=some a)∧k l
 |0,_,k,h=>⟨[],rfl,λi a hi=>by simp at hi,h⟩
 |n+1,o,k,h=>by
  obtain⟨a,ha,h⟩:=Bt.dx c o _ h;rw[aY]at h;obtain⟨l,h1,h2,h3⟩:=qj c n (o+1) _ h;refine⟨a::l,by simp[h1],λi x hi=>?_,h3⟩;cases i with
  |zero=>simp at hi;subst hi;exact ha
  |succ i=>rw[show o+(i+1)=o+1+i by omega];exact h2 i x (by simpa using hi)
theorem fm:∀(l:List AV) (c:Bt AV) (o:Nat) (k:Bt AV→Nat→Prop),iM l c o k→
  ∃c',k c' (o+l.length)∧(∀a∈l,a.one=true)∧(∀i,i<l.length→c'.get? (o+i)=l[i]?)∧(∀j,(j<o∨o+l.length≤j)→c'.get? j=c.get? j)
 |[],c,o,k,h=>⟨c,h,by simp,λi hi=>by simp at hi,λ_ _=>rfl⟩
 |a::l,c,o,k,h=>by
  obtain⟨h1,h⟩:=Ux h;obtain⟨c1,h,g1,g2⟩:=Bt.gA c o a _ h;rw[aY]at h;obtain⟨c2,h2,h3,h4,h5⟩:=fm l c1 (o+1) k h;refine⟨c2,by rw[show o+(a::l).length=o+1+l.length by simp;omega];exact h2,by simp;exact⟨h1,h3⟩,λi hi=>?_,λj hj=>?_⟩
  ·cases i with
   |zero=>rw[Nat.add_zero,h5 o (by omega),g1];rfl
   |succ i=>rw[show o+(i+1)=o+1+i by omega,h4 i (by simpa using hi)];rfl
  ·simp only[List.length_cons]at hj;rw[h5 j (by omega),g2 j (by omega)]
theorem mr{H:AH}{o:dM}{k:Nat→AH→Prop}(h:aA H o k):∃H',k H.n H'∧H'.n=H.n+1∧H'.at H.n=o∧∀b,b≠H.n→H'.at b=H.at b:=by
 obtain⟨t',h,g1,g2⟩:=Bt.gA _ _ _ _ h;rw[aY]at h;exact⟨_,h,rfl,by simp[AH.at,g1],λb hb=>by simp only[AH.at];rw[g2 b hb]⟩
theorem gA{H:AH}{b:Nat}{o:dM}{k:AH→Prop}(h:jx H b o k):∃H',k H'∧H'.n=H.n∧H'.at b=o∧∀c,c≠b→H'.at c=H.at c:=by
 obtain⟨t',h,g1,g2⟩:=Bt.gA _ _ _ _ h;exact⟨_,h,rfl,by simp[AH.at,g1],λc hc=>by simp only[AH.at];rw[g2 c hc]⟩
theorem dx{H:AH}{b:Nat}{k:Bt AV→Nat→Nat→Prop}(h:fH H b k):∃c n m,H.at b=.cells c n m∧k c n m:=by
 obtain⟨o,ho,h⟩:=Bt.dx _ _ _ h;obtain⟨c,n,m,rfl,h⟩:=TK h;exact⟨c,n,m,AH.tt ho,h⟩
def AV.cells:AV→List AV
 |.agg cs=>cs
 |v=>[v]
theorem xQ{a:AV}{k:List AV→Prop}(h:onVal a k):k a.cells∧a≠.cH∧(∀vs,a≠.aE vs):=by
 cases a<;>first|exact h.elim|exact⟨h,by simp,by simp⟩
theorem VR.cells{f:aI}{a:AV}{v:Value}(h:VR f a v)(hp:a≠.cH):VL f a.cells v.cells.toList:=by
 cases h<;>first|exact absurd rfl hp|(simp only[AV.cells,Value.cells];exact .cons _ _ _ _ (by constructor<;>assumption) .nil)|simpa[AV.cells,Value.cells]
theorem VR.oneCell{f:aI}{a:AV}{v:Value}(h:VR f a v)(h1:a.one=true):v.oneCell'=true:=by
 cases h<;>first|rfl|cases h1
theorem VL.oneCell{f:aI}:∀{l:List AV}{vs:List Value},VL f l vs→(∀a∈l,a.one=true)→∀v∈vs,v.oneCell'=true
 |_,_,.nil,_=>by simp
 |_,_,.cons a v as vs h1 h2,h=>by
  simp only[List.mem_cons,forall_eq_or_imp]at h ⊢;exact⟨h1.oneCell h.1,VL.oneCell h2 h.2⟩
theorem addr_add(b o n:Nat):(⟨b,o,none⟩:Addr).add n=⟨b,o+n,none⟩:=by unfold Addr.add;split<;>simp_all
section
variable {P:Program}{f:aI}{H:AH}{w:World}
theorem xR(h:HRQ f H.sem w){b:Nat}(hd:f.dom b){c:Bt AV}{n m:Nat}(hb:H.at b=.cells c n m){o:Nat}{l:List AV}(hl:∀i a,l[i]? = some a→c.get? (o+i)=some a) :
  ∃vs,VL f l vs∧vs.length=l.length∧(∀j v,vs[j]? = some v→w.cell? ((⟨f.blk b,f.off b+o,none⟩:Addr).add j)=some v)∧(loadCells ⟨f.blk b,f.off b+o,none⟩ l.length).run P w=.ok vs.toArray w:=by
 have key:∀(l:List AV) (o:Nat),(∀i a,l[i]? = some a→c.get? (o+i)=some a)→∃vs,VL f l vs∧∀j v,vs[j]? = some v→w.cell? ⟨f.blk b,f.off b+(o+j),none⟩=some v:=by
  intro l
  induction l with
  |nil=>exact λo _=>⟨[],.nil,λj v hj=>by simp at hj⟩
  |cons a l ih=>
   intro o ho;obtain⟨v,hv,hr⟩:=h.cell hd hb (ho 0 a rfl);obtain⟨vs,h1,h2⟩:=ih (o+1) (λi x hi=>by rw[show o+1+i=o+(i+1) by omega];exact ho (i+1) x (by simpa using hi));refine⟨v::vs,.cons _ _ _ _ hr h1,λj u hj=>?_⟩;cases j with
   |zero=>simp at hj;subst hj;simpa using hv
   |succ j=>rw[show o+(j+1)=o+1+j by omega];exact h2 j u (by simpa using hj)
 obtain⟨vs,h1,h2⟩:=key l o hl;have hlen:=h1.length;have hc:∀j v,vs[j]? = some v→w.cell? ((⟨f.blk b,f.off b+o,none⟩:Addr).add j)=some v:=λj v hj=>by rw[addr_add,Nat.add_assoc];exact h2 j v hj
 exact⟨vs,h1,hlen.symm,hc,by rw[hlen];exact run_loadCells_list (P:=P) w ⟨f.blk b,f.off b+o,none⟩ vs hc⟩
def nA(f:aI)(w:World)(o:dM)(vf:Nat→AV)(r:Value)(obj:Obj):Prop:=
 ∃lim,∀i,¬f.dom i→OR (f.ext i w.heap.size 0 lim) i o.sem (some obj)∧VR (f.ext i w.heap.size 0 lim) (vf i) r
theorem AE{f:aI}{w:World}{l:List AV}{vs:List Value}(hv:VL f l vs){c:Bt AV}(hc:∀i,i<l.length→c.get? i=l[i]?)(hc2:∀j,l.length≤j→c.get? j=none)(rest:List Value)(e:TypeId)
  {vf:Nat→AV}{r:Value}(hr:∀i,¬f.dom i→VR (f.ext i w.heap.size 0 (vs++rest).length) (vf i) r):nA f w (.cells c l.length 0) vf r (.cells (vs++rest).toArray e):=by
 refine⟨(vs++rest).length,λi hi=>⟨?_,hr i hi⟩⟩;have hle:=f.qL hi w.heap.size 0 (vs++rest).length;have hlen:=hv.length;refine⟨_,e,0,0,rfl,by simp,by simp[hlen],λj a hj=>?_,λ_ j _=>by omega,λ_=>⟨rfl,rfl⟩⟩;have hj':j<l.length:=by
  rcases Nat.lt_or_ge j l.length with h1|h1
  ·exact h1
  ·rw[hc2 j h1]at hj;cases hj
 rw[hc j hj']at hj;obtain⟨v,h1,h2⟩:=hv.get j a hj;refine⟨hj',v,?_,h2.up hle⟩;rw[aI.jj,Nat.zero_add];simp only[List.getElem?_toArray];rw[List.getElem?_append_left (by omega),h1]
theorem AF{H':AH}{o:dM}{vf:Nat→AV}{r:Value}{obj:Obj}(h:HR f H w)(hn:H'.n=H.n+1)(hnew:H'.at H.n=o)(hold:∀b,b≠H.n→H'.at b=H.at b)(ho:o.sem.own=true)(ha:nA f w o vf r obj) :
  ∃f',Step f H w f' H' (w.alloc obj)∧VR f' (vf H.n) r:=by
 obtain⟨lim,ha⟩:=ha;obtain⟨h1,h2⟩:=ha H.n (fK.fresh h);exact⟨_,h.push H' o obj 0 lim hn hnew hold h1 (λ_=>ho),h2⟩
theorem Bt.BM{α:Type}(i:Nat):(Bt.e:Bt α).get? i=none:=rfl
theorem VR.MX{f:aI}{b o:Nat}{a:Addr}(hb:f.dom b)(h:a=⟨f.blk b,f.off b+o,none⟩):VR f (.ptr b o) (.pointer (some a)):=by subst h;exact .ptr b o hb
end
mutual
def ig:Value→AV
 |.bool b=>.bool b
 |.int k n=>.int (kn k) n
 |.string s=>.str s.data.toList.length (uE s.data.toList)
 |.pointer none=>.eH
 |.slice none 0 0=>.ab
 |.map none=>.rN
 |.nilFunc=>.sX
 |.nilIface=>.dS
 |.func (.func g) as bs=>.func g (Js as) (Js bs)
 |.iface t v=>.iface t (ig v)
 |.agg cs=>.agg (Js cs)
 |.tuple cs=>.aE (Js cs)
 |_=>.cH
def Js:Array Value→List AV
 |⟨l⟩=>OH l
def OH:List Value→List AV
 |[]=>[]
 |v::l=>ig v::OH l
end
mutual
theorem qk(f:aI):∀v:Value,VR f (ig v) v
 |.bool b=>by simp only[ig];exact .bool b
 |.int k n=>by simp only[ig];have:=VR.int (f:=f) (kn k) n;rwa [Gz]at this
 |.float _ _=>by simp only[ig];exact .cH _
 |.complex _ _ _=>by simp only[ig];exact .cH _
 |.string s=>by simp only[ig];have:=VR.str (f:=f) _ _ (UC s.data.toList);rwa [afK]at this
 |.pointer none=>by simp only[ig];exact .eH
 |.pointer (some _)=>by simp only[ig];exact .cH _
 |.slice a l c=>by
  unfold ig;split<;>first|exact .cH _|(rename_i h;simp at h;obtain⟨rfl,rfl,rfl⟩:=h;exact .ab)|(rename_i h;simp at h)
 |.map none=>by simp only[ig];exact .rN
 |.map (some _)=>by simp only[ig];exact .cH _
 |.chan _=>by simp only[ig];exact .cH _
 |.nilFunc=>by simp only[ig];exact .sX
 |.nilIface=>by simp only[ig];exact .dS
 |.func (.func g) as bs=>by simp only[ig];exact .func g _ _ _ _ (De f as) (De f bs)
 |.func (.method _) as bs=>by simp only[ig];exact .cH _
 |.func (.methodOf _ _) as bs=>by simp only[ig];exact .cH _
 |.func (.via _ _ _ _) as bs=>by simp only[ig];exact .cH _
 |.func (.yield _) as bs=>by simp only[ig];exact .cH _
 |.iface t v=>by simp only[ig];exact .iface t _ _ (qk f v)
 |.agg cs=>by simp only[ig];exact .agg _ _ (De f cs)
 |.tuple cs=>by simp only[ig];exact .aE _ _ (De f cs)
theorem De(f:aI):∀a:Array Value,VL f (Js a) a.toList
 |⟨l⟩=>by simp only[Js];exact UD f l
theorem UD(f:aI):∀l:List Value,VL f (OH l) l
 |[]=>by simp only[OH];exact .nil
 |v::l=>by simp only[OH];exact .cons _ _ _ _ (qk f v) (UD f l)
end
noncomputable section
def OI(a b:AV)(k:AV→Prop):Prop:=kT a (kT b (k (.bool true)) (k (.bool false))) (kT b (k (.bool false)) (k (.bool true)))
def auv(a b:AV)(k:AV→Prop):Prop:=kT a (kT b (k (.bool false)) (k (.bool true))) (kT b (k (.bool true)) (k (.bool false)))
def ams(H:AH)(b c:Nat)(x:Prop):Prop:=fH H b λ_ _ m=>bT (Nat.beq m 0) (fH H c λ_ _ m'=>bT (Nat.beq m' 0) x)
def oU(r:Bool)(a b:AV)(H:AH)(k:AV→Prop):Prop:=
 (match a,b with
 |.eH,.eH=>λk=>k (.bool r)
 |.eH,.ptr _ _=>λk=>k (.bool (!r))
 |.ptr _ _,.eH=>λk=>k (.bool (!r))
 |.ptr b o,.ptr b' o'=>λk=>bI (Nat.beq b b') (bI (Nat.beq o o') (k (.bool r)) (k (.bool (!r)))) (ams H b b' (k (.bool (!r))))
 |_,_=>λ_=>False:(AV→Prop)→Prop) k
def xS(r:Bool)(a:AV)(k:AV→Prop):Prop:=(match a with|.dS=>λk=>k (.bool r)|.iface _ _=>λk=>k (.bool (!r))|_=>λ_=>False:(AV→Prop)→Prop) k
def N1(r:Bool)(a:AV)(k:AV→Prop):Prop:=(match a with|.sX=>λk=>k (.bool r)|.func _ _ _=>λk=>k (.bool (!r))|_=>λ_=>False:(AV→Prop)→Prop) k
def AG(r:Bool)(a:AV)(k:AV→Prop):Prop:=(match a with|.ab=>λk=>k (.bool r)|.slice _ _ _ _ _ _=>λk=>k (.bool (!r))|_=>λ_=>False:(AV→Prop)→Prop) k
def N3(r:Bool)(a:AV)(k:AV→Prop):Prop:=(match a with|.rN=>λk=>k (.bool r)|.map _=>λk=>k (.bool (!r))|_=>λ_=>False:(AV→Prop)→Prop) k
def MY(op:BinOp)(k:Bool→Prop):Prop:=match op with|.eql=>k true|.neq=>k false|_=>False
def yN(x:Operand):Bool:=match x with|.const .nilIface=>true|_=>false
def Jt(x:Operand):Bool:=match x with|.const .nilFunc=>true|_=>false
def Ju(x:Operand):Bool:=match x with|.const (.slice none _ _)=>true|_=>false
def Jv(x:Operand):Bool:=match x with|.const (.map none)=>true|_=>false
def amt(c:Nat)(op:BinOp)(a b:AV)(k:AV→Prop):Prop:=
 match op with
 |.add=>aui c a b k
 |.sub=>auj c a b k
 |.mul=>auk c a b k
 |.quo=>aul c a b k
 |.rem=>YL c a b k
 |.and=>aum c a b k
 |.or=>pOr c a b k
 |.xor=>YM c a b k
 |.andNot=>Uy c a b k
 |.shl=>amq c a b k
 |.shr=>auo c a b k
 |.eql=>pEq c a b k
 |.neq=>pNe c a b k
 |.lss=>pLt c a b k
 |.leq=>pLe c a b k
 |.gtr=>pLt c b a k
 |.geq=>pLe c b a k
def amu(op:BinOp)(a b:AV)(k:AV→Prop):Prop:=
 match op with
 |.add=>oT a b k
 |.eql=>wo a b k
 |.neq=>sNe a b k
 |.lss=>aur a b k
 |.leq=>aus a b k
 |.gtr=>aut a b k
 |.geq=>auu a b k
 |_=>False
def amv(P:Program)(op:BinOp)(t:TypeId)(x y:Operand)(a b:AV)(H:AH)(k:AV→Prop):Prop:=
 match P.underlying t with
 |some (.int q)=>amt (kn q) op a b k
 |some .string=>amu op a b k
 |some .bool=>(match op with|.eql=>OI a b k|.neq=>auv a b k|_=>False)
 |some (.pointer e)=>(match P.info? e with|some i=>bT (Nat.ble 1 i.size) (MY op λr=>oU r a b H k)|none=>False)
 |some (.interface _)=>MY op λr=>bI (yN y) (xS r a k) (bT (yN x) (xS r b k))
 |some (.func _ _ _)=>MY op λr=>bI (Jt y) (N1 r a k) (bT (Jt x) (N1 r b k))
 |some (.slice _)=>MY op λr=>bI (Ju y) (AG r a k) (bT (Ju x) (AG r b k))
 |some (.map _ _)=>MY op λr=>bI (Jv y) (N3 r a k) (bT (Jv x) (N3 r b k))
 |_=>False
end
theorem VR.bB{f:aI}{c:Nat}{n:Int}{v:Value}(h:VR f (.int c n) v):v=.int (kd c) n:=by cases h;rfl
theorem VR.pX{f:aI}{b:Bool}{v:Value}(h:VR f (.bool b) v):v=.bool b:=by cases h;rfl
theorem VR.jl{f:aI}{n x:Nat}{v:Value}(h:VR f (.str n x) v):v=.string (eS n x)∧x<256^n:=by cases h;exact⟨rfl,by assumption⟩
theorem VR.wq{f:aI}{v:Value}(h:VR f .eH v):v=.pointer none:=by cases h;rfl
theorem VR.eI{f:aI}{b o:Nat}{v:Value}(h:VR f (.ptr b o) v):v=.pointer (some ⟨f.blk b,f.off b+o,none⟩)∧f.dom b:=by cases h;exact⟨rfl,by assumption⟩
section
variable {P:Program}{f:aI}{H:AH}{w:World}
theorem wu(c:Nat):2^(kd c).bits=full c:=by
 match c with
 |0|1|2|3|4|5|6=>rfl
 |n+7=>rfl
theorem UE(c:Nat):(kd c).bits=bits c:=by
 match c with
 |0|1|2|3|4|5|6=>rfl
 |n+7=>rfl
theorem amw(k:IntKind)(n m:Nat)(h:n%2^k.bits=m%2^k.bits):k.wrap (.ofNat n)=k.wrap (.ofNat m):=by
 unfold IntKind.wrap;have:((.ofNat n:Int))%(2^k.bits:Int)=(.ofNat m:Int)%(2^k.bits:Int):=by
  have e:(2^k.bits:Int)=((2^k.bits:Nat):Int):=by simp
  rw[e]
  change ((n:Int))%_=(m:Int)%_
  rw[←Int.natCast_emod,←Int.natCast_emod,h]
 rw[this]
theorem xT(c:Nat)(x:Int):BitVec.ofInt (kd c).bits x=BitVec.ofNat (kd c).bits (kK c x):=by
 cases x with
 |ofNat n=>rfl
 |negSucc n=>
  apply BitVec.eq_of_toNat_eq;rw[BitVec.toNat_ofInt,BitVec.toNat_ofNat,wu];simp only[kK];have hp:0<full c:=by rw[←wu];exact Nat.pow_pos (by omega)
  have:=Nat.mod_lt n hp;rw[Int.negSucc_emod n (by omega:(0:Int)<(full c:Int))];rw[Nat.mod_eq_of_lt (by omega:full c-1-n%full c<full c)];omega
theorem GC(c:Nat)(x y:Int)(g:Nat→Nat→Nat)(r:BitVec (kd c).bits)(hr:∀a b:Nat,x=x→r.toNat%2^(kd c).bits=g (kK c x) (kK c y)%2^(kd c).bits) :
  (kd c).wrap r.toNat=(kd c).wrap (.ofNat (g (kK c x) (kK c y))):=amw _ _ _ (hr 0 0 rfl)
theorem UF{c:Nat}{op:BinOp}{t:TypeId}{a b:AV}{k:AV→Prop}(h:amt c op a b k) :
  ∃v,k v∧∀f u1 u2,VR f a u1→VR f b u2→∃u,(∀w,(binOp op t u1 u2).run P w=.ok u w)∧VR f v u:=by
 cases op
 case add=>
  obtain⟨x,y,rfl,rfl,g⟩:=fC h;exact⟨_,jz g,λf u1 u2 h1 h2=>⟨_,λw=>by rw[h1.bB,h2.bB];simp[binOp,Op.intArith];all_goals rfl,.int c _⟩⟩
 case sub=>
  obtain⟨x,y,rfl,rfl,g⟩:=fC h;exact⟨_,jz g,λf u1 u2 h1 h2=>⟨_,λw=>by rw[h1.bB,h2.bB];simp[binOp,Op.intArith];all_goals rfl,.int c _⟩⟩
 case mul=>
  obtain⟨x,y,rfl,rfl,g⟩:=fC h;exact⟨_,jz g,λf u1 u2 h1 h2=>⟨_,λw=>by rw[h1.bB,h2.bB];simp[binOp,Op.intArith];all_goals rfl,.int c _⟩⟩
 case quo=>
  obtain⟨x,y,rfl,rfl,g⟩:=fC h;rcases dn g with⟨_,g⟩|⟨h0,g⟩
  ·exact g.elim
  ·rw[pq]at h0;exact⟨_,jz g,λf u1 u2 h1 h2=>⟨_,λw=>by rw[h1.bB,h2.bB];simp at h0;simp[binOp,Op.intDiv,h0];all_goals rfl,.int c _⟩⟩
 case rem=>
  rcases OD h with h|⟨m,r,rfl,rfl,rfl,hm,h⟩|⟨m,r,rfl,rfl,rfl,hm,h⟩
  case inr.inl=>
   refine⟨_,h,λf u1 u2 h1 h2=>?_⟩;cases h1 with
   |FA _ _ z hz=>
    refine⟨.int .i64 r,λw=>?_,.int 0 r⟩;rw[h2.bB];have h0:¬(m=0):=by omega
    simp[binOp,Op.intDiv,h0,kd,hz]
  case inr.inr=>
   refine⟨_,h,λf u1 u2 h1 h2=>?_⟩;cases h1 with
   |yL _ _ z h0 hz=>
    refine⟨.int .u64 (.ofNat r),λw=>?_,.int 3 _⟩;rw[h2.bB];have hm0:¬(m=0):=by omega
    have hz':Int.tmod z m=r:=by rw[Int.tmod_eq_emod_of_nonneg h0];exact hz
    simp[binOp,Op.intDiv,hm0,kd,hz']
  obtain⟨x,y,rfl,rfl,g⟩:=fC h;rcases dn g with⟨_,g⟩|⟨h0,g⟩
  ·exact g.elim
  ·rw[pq]at h0;rw[iB]at g;exact⟨_,g,λf u1 u2 h1 h2=>⟨_,λw=>by rw[h1.bB,h2.bB];simp at h0;simp[binOp,Op.intDiv,h0];all_goals rfl,.int c _⟩⟩
 case and=>
  obtain⟨x,y,rfl,rfl,g⟩:=fC h;simp only[aY]at g;refine⟨_,jz g,λf u1 u2 h1 h2=>⟨_,λw=>?_,.int c _⟩⟩;rw[h1.bB,h2.bB];simp only[binOp,Op.intBits,ne_eq,not_true_eq_false,if_false,Sem.run_pure,xT];congr 2;exact GC c x y Nat.land _ (λ_ _ _=>by simp[BitVec.toNat_and,Nat.and_mod_two_pow];all_goals rfl)
 case or=>
  obtain⟨x,y,rfl,rfl,g⟩:=fC h;simp only[aY]at g;refine⟨_,jz g,λf u1 u2 h1 h2=>⟨_,λw=>?_,.int c _⟩⟩;rw[h1.bB,h2.bB];simp only[binOp,Op.intBits,ne_eq,not_true_eq_false,if_false,Sem.run_pure,xT];congr 2;exact GC c x y Nat.lor _ (λ_ _ _=>by simp[BitVec.toNat_or,Nat.or_mod_two_pow];all_goals rfl)
 case xor=>
  obtain⟨x,y,rfl,rfl,g⟩:=fC h;simp only[aY]at g;refine⟨_,jz g,λf u1 u2 h1 h2=>⟨_,λw=>?_,.int c _⟩⟩;rw[h1.bB,h2.bB];simp only[binOp,Op.intBits,ne_eq,not_true_eq_false,if_false,Sem.run_pure,xT];congr 2;exact GC c x y Nat.xor _ (λ_ _ _=>by simp[BitVec.toNat_xor,Nat.xor_mod_two_pow];all_goals rfl)
 case andNot=>
  obtain⟨x,y,rfl,rfl,g⟩:=fC h;simp only[aY]at g;refine⟨_,jz g,λf u1 u2 h1 h2=>⟨_,λw=>?_,.int c _⟩⟩;rw[h1.bB,h2.bB];simp only[binOp,Op.intBits,ne_eq,not_true_eq_false,if_false,Sem.run_pure,xT];congr 2;refine GC c x y (λp q=>Nat.land p (full c-1-q%full c)) _ (λ_ _ _=>?_);simp[BitVec.toNat_and,BitVec.toNat_not,wu];have hp:0<full c:=by rw[←wu];exact Nat.pow_pos (by omega)
  rw[←wu,Nat.and_mod_two_pow,Nat.and_mod_two_pow,Nat.mod_mod]
 case shl=>
  obtain⟨c1,x,rfl,g1⟩:=eV h;obtain⟨c2,y,rfl,g2⟩:=jy g1;obtain⟨h0,g⟩:=aD g2;have e:=Nat.eq_of_beq_eq_true h0;subst e;refine⟨_,jz g,λf u1 u2 h1 h2=>⟨_,λw=>?_,.int c1 _⟩⟩;rw[h1.bB,h2.bB];have hy:¬((.ofNat y:Int)<0):=by simp
  simp only[binOp,Op.shift,hy,if_false,Sem.run_pure];congr 3;simp[UE]
  all_goals rfl
 case shr=>
  obtain⟨c1,x,rfl,g1⟩:=eV h;obtain⟨c2,y,rfl,g2⟩:=jy g1;obtain⟨h0,g⟩:=aD g2;have e:=Nat.eq_of_beq_eq_true h0;subst e;rw[iB]at g;refine⟨_,g,λf u1 u2 h1 h2=>⟨_,λw=>?_,.int c1 _⟩⟩;rw[h1.bB,h2.bB];have hy:¬((.ofNat y:Int)<0):=by simp
  simp only[binOp,Op.shift,hy,if_false,Sem.run_pure];congr 2;have e1:(Int.ofNat y).toNat=y:=rfl;rw[e1,UE]
  change x.fdiv (2^min y (bits c1))=aun x (min y (bits c1))
  generalize min y (bits c1)=q;cases x with
  |ofNat m=>
   change Int.fdiv (m:Int) (2^q)=(((m >>> q:Nat)):Int)
   rw[Nat.shiftRight_eq_div_pow,Int.fdiv_eq_ediv_of_nonneg _ (Int.le_of_lt (Int.pow_pos (by decide)))];simp
  |negSucc m=>
   change Int.fdiv (Int.negSucc m) (2^q)=Int.negSucc (m >>> q)
   rw[Nat.shiftRight_eq_div_pow,Int.fdiv_eq_ediv_of_nonneg _ (Int.le_of_lt (Int.pow_pos (by decide))),Int.negSucc_ediv _ (Int.pow_pos (by decide)),Int.negSucc_eq];simp
   all_goals rfl
 case eql=>
  obtain⟨x,y,rfl,rfl,g⟩:=fC h;exact⟨_,g,λf u1 u2 h1 h2=>⟨_,λw=>by rw[h1.bB,h2.bB,pq];simp[binOp,Op.intCmp];all_goals rfl,.bool _⟩⟩
 case neq=>
  obtain⟨x,y,rfl,rfl,g⟩:=fC h;exact⟨_,g,λf u1 u2 h1 h2=>⟨_,λw=>by rw[h1.bB,h2.bB,pq];simp[binOp,Op.intCmp,bne];all_goals rfl,.bool _⟩⟩
 case lss=>
  obtain⟨x,y,rfl,rfl,g⟩:=fC h;exact⟨_,g,λf u1 u2 h1 h2=>⟨_,λw=>by rw[h1.bB,h2.bB,y7];simp[binOp,Op.intCmp];all_goals rfl,.bool _⟩⟩
 case leq=>
  obtain⟨x,y,rfl,rfl,g⟩:=fC h;exact⟨_,g,λf u1 u2 h1 h2=>⟨.bool (decide (x≤y)),λw=>by rw[h1.bB,h2.bB];simp[binOp,Op.intCmp],by
   rw[y7,show(!decide (y<x))=decide (x≤y) by rw[Bool.eq_iff_iff];simp];exact .bool _⟩⟩
 case gtr=>
  obtain⟨x,y,rfl,rfl,g⟩:=fC h;exact⟨_,g,λf u1 u2 h1 h2=>⟨_,λw=>by rw[h1.bB,h2.bB,y7];simp[binOp,Op.intCmp];all_goals rfl,.bool _⟩⟩
 case geq=>
  obtain⟨x,y,rfl,rfl,g⟩:=fC h;exact⟨_,g,λf u1 u2 h1 h2=>⟨.bool (decide (y≥x)),λw=>by rw[h1.bB,h2.bB];simp[binOp,Op.intCmp],by
   rw[y7,show(!decide (y<x))=decide (y≥x) by rw[Bool.eq_iff_iff];simp];exact .bool _⟩⟩
theorem UG{a b:AV}{k:Nat→Nat→Nat→Nat→Prop}(h:fV a λn x=>fV b λm y=>k n x m y):∃n x m y,a=.str n x∧b=.str m y∧k n x m y:=by
 obtain⟨n,x,ea,h⟩:=gC h;obtain⟨m,y,eb,h⟩:=gC h;exact⟨n,x,m,y,ea,eb,h⟩
theorem aqz{op:BinOp}{t:TypeId}{a b:AV}{k:AV→Prop}(h:amu op a b k) :
  ∃v,k v∧∀f u1 u2,VR f a u1→VR f b u2→∃u,(∀w,(binOp op t u1 u2).run P w=.ok u w)∧VR f v u:=by
 cases op<;>try exact h.elim
 case add=>
  obtain⟨n,x,m,y,rfl,rfl,g⟩:=UG h;rw[aY]at g;obtain⟨g0,g⟩:=aD g;rw[aY]at g;have hle:=Nat.le_of_ble_eq_true g0;refine⟨_,g,λf u1 u2 h1 h2=>?_⟩;obtain⟨rfl,hx⟩:=h1.jl;obtain⟨rfl,hy⟩:=h2.jl;refine⟨.string (eS n x++eS m y),λw=>?_,?_⟩
  ·have:n+m≤1099511627776:=hle;simp[binOp,Op.stringOp];omega
  ·rw[TJ hx];exact .str _ _ (aqy hx hy)
 all_goals
  obtain⟨n,x,m,y,rfl,rfl,g⟩:=UG h;refine⟨_,g,λf u1 u2 h1 h2=>?_⟩;obtain⟨rfl,hx⟩:=h1.jl;obtain⟨rfl,hy⟩:=h2.jl;refine⟨_,λw=>?_,.bool _⟩;simp only[binOp,Op.stringOp,Sem.run_pure,TE,Jp hx hy,afL]
theorem MZ(h:HRQ f H.sem w){b:Nat}(hd:f.dom b){c:Bt AV}{n:Nat}(hb:H.at b=.cells c n 0):∃cur e,w.heap[f.blk b]? = some (.cells cur e (0,0)):=by
 have:=h.cells hd hb;obtain⟨cur,e,lo,hi,h1,_,_,_,_,h6⟩:=this;obtain⟨rfl,rfl⟩:=h6 rfl;exact⟨cur,e,h1⟩
theorem GD(h:HRQ f H.sem w){b c:Nat}(hd1:f.dom b)(hd2:f.dom c)(hne:b≠c){t1 t2:Bt AV}{n1 n2:Nat}(h1:H.at b=.cells t1 n1 0)(h2:H.at c=.cells t2 n2 0)(o1 o2:Nat) :
  (sameAddr ⟨f.blk b,o1,none⟩ ⟨f.blk c,o2,none⟩).run P w=.ok false w:=by
 obtain⟨u1,e1,g1⟩:=MZ h hd1 h1;obtain⟨u2,e2,g2⟩:=MZ h hd2 h2;have hbl:f.blk b≠f.blk c:=λe=>hne (h.inj b c hd1 hd2 (by rw[AH.bN,h1];rfl) (by rw[AH.bN,h2];rfl) e);simp[sameAddr,hbl,World.frozen?,g1,g2,noView,viewAt,World.shape?,mayBeOne,stringish]
theorem UH{r:Bool}{e:TypeId}{t:TypeId}{i:TypeInfo}(ht:P.underlying t=some (.pointer e))(hi:P.info? e=some i)(hs:1≤i.size){a b:AV}{k:AV→Prop}(h:oU r a b H k) :
  ∃z,k (.bool (if z then r else !r))∧∀f w u1 u2,HRQ f H.sem w→VR f a u1→VR f b u2→∀d,(Op.equalIn (d+1) t u1 u2).run P w=.ok z w:=by
 have hs':¬(i.size=0):=by omega
 have hnn:∀w d,(Op.equalIn (d+1) t (.pointer none) (.pointer none)).run P w=.ok true w:=λw d=>by simp[Op.equalIn,run_underlying ht]
 unfold oU at h;split at h
 ·exact⟨true,h,λf w u1 u2 _ h1 h2 d=>by rw[h1.wq,h2.wq];exact hnn w d⟩
 ·exact⟨false,h,λf w u1 u2 _ h1 h2 d=>by rw[h1.wq,h2.eI.1];simp[Op.equalIn,run_underlying ht]⟩
 ·exact⟨false,h,λf w u1 u2 _ h1 h2 d=>by rw[h2.wq,h1.eI.1];simp[Op.equalIn,run_underlying ht]⟩
 ·rename_i b o b' o';rcases dn h with⟨hb,g⟩|⟨hb,g⟩
  ·have e:=Nat.eq_of_beq_eq_true hb;subst e;refine⟨Nat.beq o o',by cases hz:Nat.beq o o'<;>rw[hz]at g<;>exact g,λf w u1 u2 hr h1 h2 d=>?_⟩;rw[h1.eI.1,h2.eI.1];have hbq:Nat.beq o o'=((⟨f.blk b,f.off b+o,none⟩:Addr) == ⟨f.blk b,f.off b+o',none⟩):=by
    rw[Bool.eq_iff_iff];simp only[beq_iff_eq,Addr.mk.injEq,true_and,and_true,Nat.add_left_cancel_iff];exact⟨Nat.eq_of_beq_eq_true,λh=>by subst h;exact Nat.beq_refl o⟩
   simp[Op.equalIn,run_underlying ht,sizeOf,typeInfo,hi,hs',sameAddr,hbq]
  ·have hne:b≠b':=λe=>by subst e;rw[Nat.beq_refl]at hb;cases hb
   obtain⟨c1,n1,m1,e1,g⟩:=dx g;obtain⟨x1,g⟩:=aD g;obtain⟨c2,n2,m2,e2,g⟩:=dx g;obtain⟨x2,g⟩:=aD g;have y1:=Nat.eq_of_beq_eq_true x1;have y2:=Nat.eq_of_beq_eq_true x2;subst y1;subst y2;refine⟨false,g,λf w u1 u2 hr h1 h2 d=>?_⟩;have hd1:=h1.eI.2;have hd2:=h2.eI.2;rw[h1.eI.1,h2.eI.1];have:=GD (P:=P) hr hd1 hd2 hne e1 e2 (f.off b+o) (f.off b'+o');simp[Op.equalIn,run_underlying ht,sizeOf,typeInfo,hi,hs',this]
 ·exact h.elim
end
section
variable {P:Program}
theorem dX{op:BinOp}{t:TypeId}{x y:Operand}{a b:Value}{w:World}(h1:a≠.nilIface∨b≠.nilIface)(h2:∀cs,a≠.agg cs):(eqGuard op t x y a b).run P w=.ok () w:=by
 cases a<;>cases b<;>first|(simp at h1;done)|(exact absurd rfl (h2 _))|(cases op<;>rfl)
theorem By{op:BinOp}{t:TypeId}{x y:Operand}{w:World}(h:yN y=true∨yN x=true):(eqGuard op t x y .nilIface .nilIface).run P w=.ok () w:=by
 rcases h with h|h
 ·cases y<;>first|(cases op<;>cases x<;>rfl)|(simp[yN]at h;done)
 ·cases x<;>first|(cases op<;>cases y<;>rfl)|(simp[yN]at h;done)
theorem OJ{x:Operand}(h:yN x=true):x=.const .nilIface:=by
 unfold yN at h;split at h;rfl;cases h
theorem OK{x:Operand}(h:Jt x=true):x=.const .nilFunc:=by
 unfold Jt at h;split at h;rfl;cases h
theorem OL{x:Operand}(h:Ju x=true):∃l c,x=.const (.slice none l c):=by
 unfold Ju at h;split at h;exact⟨_,_,rfl⟩;cases h
theorem OM{x:Operand}(h:Jv x=true):x=.const (.map none):=by
 unfold Jv at h;split at h;rfl;cases h
theorem aqA{op:BinOp}{k:Bool→Prop}(h:MY op k):(op=.eql∧k true)∨(op=.neq∧k false):=by
 cases op<;>first|exact .inl ⟨rfl,h⟩|exact .inr ⟨rfl,h⟩|exact h.elim
theorem amx{t:TypeId}{u1 u2:Value}(h:∀s,u1≠.string s)(h2:∀k n,u1≠.int k n)(h3:∀k n,u1≠.float k n)(h4:∀k n m,u1≠.complex k n m):binOp .eql t u1 u2=(do pure (.bool (←Op.equal t u1 u2))):=by
 cases u1<;>cases u2<;>first|rfl|(simp at h;done)|(simp at h2;done)|(simp at h3;done)|(simp at h4;done)
theorem amy{t:TypeId}{u1 u2:Value}(h:∀s,u1≠.string s)(h2:∀k n,u1≠.int k n)(h3:∀k n,u1≠.float k n)(h4:∀k n m,u1≠.complex k n m):binOp .neq t u1 u2=(do pure (.bool (!(←Op.equal t u1 u2)))):=by
 cases u1<;>cases u2<;>first|rfl|(simp at h;done)|(simp at h2;done)|(simp at h3;done)|(simp at h4;done)
theorem afM(op:BinOp)(t:TypeId)(x y:Operand)(c:IntKind)(n:Int)(b:Value)(w:World):(eqGuard op t x y (.int c n) b).run P w=.ok () w:=dX (.inl (by simp)) (by simp)
theorem afN(op:BinOp)(t:TypeId)(x y:Operand)(s:ByteArray)(b:Value)(w:World):(eqGuard op t x y (.string s) b).run P w=.ok () w:=dX (.inl (by simp)) (by simp)
theorem GF(op:BinOp)(t:TypeId)(x y:Operand)(s:Bool)(b:Value)(w:World):(eqGuard op t x y (.bool s) b).run P w=.ok () w:=dX (.inl (by simp)) (by simp)
theorem afO(op:BinOp)(t:TypeId)(x y:Operand)(s:Option Addr)(b:Value)(w:World):(eqGuard op t x y (.pointer s) b).run P w=.ok () w:=dX (.inl (by simp)) (by simp)
theorem sY(op:BinOp)(t:TypeId)(x y:Operand)(s:Option Addr)(l c:Nat)(b:Value)(w:World):(eqGuard op t x y (.slice s l c) b).run P w=.ok () w:=dX (.inl (by simp)) (by simp)
theorem xU(op:BinOp)(t:TypeId)(x y:Operand)(s:Option Nat)(b:Value)(w:World):(eqGuard op t x y (.map s) b).run P w=.ok () w:=dX (.inl (by simp)) (by simp)
theorem FD(op:BinOp)(t:TypeId)(x y:Operand)(b:Value)(w:World):(eqGuard op t x y .nilFunc b).run P w=.ok () w:=dX (.inl (by simp)) (by simp)
theorem YO(op:BinOp)(t:TypeId)(x y:Operand)(g:Fn)(c d:Array Value)(b:Value)(w:World):(eqGuard op t x y (.func g c d) b).run P w=.ok () w:=dX (.inl (by simp)) (by simp)
theorem TL(op:BinOp)(t:TypeId)(x y:Operand)(u:TypeId)(v b:Value)(w:World):(eqGuard op t x y (.iface u v) b).run P w=.ok () w:=dX (.inl (by simp)) (by simp)
theorem ON(op:BinOp)(t:TypeId)(x y:Operand)(u:TypeId)(v:Value)(w:World):(eqGuard op t x y .nilIface (.iface u v)).run P w=.ok () w:=dX (.inr (by simp)) (by simp)
def mO(P:Program)(op:BinOp)(t:TypeId)(x y:Operand)(a b:AV)(H:AH)(v:AV):Prop:=
 ∀f w u1 u2,HRQ f H.sem w→VR f a u1→VR f b u2→(∀v,x=.const v→u1=v)→(∀v,y=.const v→u2=v)→
  ∃u,(do eqGuard op t x y u1 u2;binOp op t u1 u2:Sem Value).run P w=.ok u w∧VR f v u
theorem Jw{t:TypeId}{u1 u2:Value}{w:World}{z:Bool}(h:∀d,(Op.equalIn (d+1) t u1 u2).run P w=.ok z w)(h0:∀s,u1≠.string s)(h2:∀k n,u1≠.int k n)(h3:∀k n,u1≠.float k n)(h4:∀k n m,u1≠.complex k n m) :
  (binOp .eql t u1 u2).run P w=.ok (.bool z) w:=by
 have he:(Op.equal t u1 u2).run P w=.ok z w:=h 9999;rw[amx h0 h2 h3 h4];simp only[Sem.run_bind,he,Result.andThen_ok,Sem.run_pure]
theorem Jx{t:TypeId}{u1 u2:Value}{w:World}{z:Bool}(h:∀d,(Op.equalIn (d+1) t u1 u2).run P w=.ok z w)(h0:∀s,u1≠.string s)(h2:∀k n,u1≠.int k n)(h3:∀k n,u1≠.float k n)(h4:∀k n m,u1≠.complex k n m) :
  (binOp .neq t u1 u2).run P w=.ok (.bool (!z)) w:=by
 have he:(Op.equal t u1 u2).run P w=.ok z w:=h 9999;rw[amy h0 h2 h3 h4];simp only[Sem.run_bind,he,Result.andThen_ok,Sem.run_pure]
theorem UI{op:BinOp}{t:TypeId}{x y:Operand}{a b:AV}{H:AH}{k:AV→Prop}(ht:P.underlying t=some .bool)(h:(op=.eql∧OI a b k)∨(op=.neq∧auv a b k)):∃v,k v∧mO P op t x y a b H v:=by
 have key:∀(z1 z2:Bool) (w:World) (d:Nat),(Op.equalIn (d+1) t (.bool z1) (.bool z2)).run P w=.ok (z1 == z2) w:=λz1 z2 w d=>by
  simp[Op.equalIn,run_underlying ht]
 rcases h with⟨rfl,h⟩|⟨rfl,h⟩
 ·rcases qN h with⟨rfl,h'⟩|⟨rfl,h'⟩<;>rcases qN h' with⟨rfl,g⟩|⟨rfl,g⟩ <;>
  ·refine⟨_,g,λf w u1 u2 hr h1 h2 _ _=>⟨_,?_,.bool _⟩⟩;rw[h1.pX,h2.pX,Sem.run_bind,GF,Result.andThen_ok,Jw (key _ _ w) (by simp) (by simp) (by simp) (by simp)];rfl
 ·rcases qN h with⟨rfl,h'⟩|⟨rfl,h'⟩<;>rcases qN h' with⟨rfl,g⟩|⟨rfl,g⟩ <;>
  ·refine⟨_,g,λf w u1 u2 hr h1 h2 _ _=>⟨_,?_,.bool _⟩⟩;rw[h1.pX,h2.pX,Sem.run_bind,GF,Result.andThen_ok,Jx (key _ _ w) (by simp) (by simp) (by simp) (by simp)];rfl
theorem auw{op:BinOp}{r:Bool}{t e:TypeId}{i:TypeInfo}{x y:Operand}{a b:AV}{H:AH}{k:AV→Prop}(ht:P.underlying t=some (.pointer e))(hi:P.info? e=some i)(hs:1≤i.size)(hop:(op=.eql∧r=true)∨(op=.neq∧r=false))
  (h:oU r a b H k):∃v,k v∧mO P op t x y a b H v:=by
 obtain⟨z,g1,g2⟩:=UH (P:=P) ht hi hs h;refine⟨_,g1,λf w u1 u2 hr h1 h2 _ _=>?_⟩;have hp:∃p,u1=.pointer p:=by
  unfold oU at h;split at h<;>first|exact⟨_,h1.wq⟩|exact⟨_,h1.eI.1⟩|exact h.elim
 obtain⟨p,rfl⟩:=hp;refine⟨_,?_,.bool _⟩;rw[Sem.run_bind,afO,Result.andThen_ok];rcases hop with⟨rfl,rfl⟩|⟨rfl,rfl⟩
 ·rw[Jw (g2 f w _ _ hr h1 h2) (by simp) (by simp) (by simp) (by simp)];cases z<;>rfl
 ·rw[Jx (g2 f w _ _ hr h1 h2) (by simp) (by simp) (by simp) (by simp)];cases z<;>rfl
theorem jP{op:BinOp}{r z:Bool}{t:TypeId}{x y:Operand}{a b:AV}{H:AH}{k:AV→Prop}(hop:(op=.eql∧r=true)∨(op=.neq∧r=false))(hk:k (.bool (if z then r else !r)))
  (h:∀f w u1 u2,HRQ f H.sem w→VR f a u1→VR f b u2→(∀v,x=.const v→u1=v)→(∀v,y=.const v→u2=v)→((eqGuard op t x y u1 u2).run P w=.ok () w∧(∀d,(Op.equalIn (d+1) t u1 u2).run P w=.ok z w)∧
   (∀s,u1≠.string s)∧(∀k n,u1≠.int k n)∧(∀k n,u1≠.float k n)∧(∀k n m,u1≠.complex k n m))):∃v,k v∧mO P op t x y a b H v:=by
 refine⟨_,hk,λf w u1 u2 hr h1 h2 c1 c2=>⟨_,?_,.bool _⟩⟩;obtain⟨g0,g1,g2,g3,g4,g5⟩:=h f w u1 u2 hr h1 h2 c1 c2;rw[Sem.run_bind,g0,Result.andThen_ok];rcases hop with⟨rfl,rfl⟩|⟨rfl,rfl⟩
 ·rw[Jw g1 g2 g3 g4 g5];cases z<;>rfl
 ·rw[Jx g1 g2 g3 g4 g5];cases z<;>rfl
theorem aqB{op:BinOp}{r:Bool}{t:TypeId}{ms:Array (String×TypeId)}{x y:Operand}{a b:AV}{H:AH}{k:AV→Prop}(hop:(op=.eql∧r=true)∨(op=.neq∧r=false))(ht:P.underlying t=some (.interface ms))
  (h:bI (yN y) (xS r a k) (bT (yN x) (xS r b k))):∃v,k v∧mO P op t x y a b H v:=by
 rcases dn h with⟨hy,h⟩|⟨_,h⟩
 ·have e:=OJ hy;cases a<;>try exact h.elim
  ·refine jP (z:=true) hop h (λf w u1 u2 hr h1 h2 c1 c2=>?_);have:=c2 _ e;subst this;cases h1;exact⟨By (.inl hy),λd=>by simp[Op.equalIn,run_underlying ht],by simp,by simp,by simp,by simp⟩
  ·refine jP (z:=false) hop h (λf w u1 u2 hr h1 h2 c1 c2=>?_);have:=c2 _ e;subst this;cases h1;exact⟨TL ..,λd=>by simp[Op.equalIn,run_underlying ht],by simp,by simp,by simp,by simp⟩
 ·obtain⟨hx,h⟩:=aD h;have e:=OJ hx;cases b<;>try exact h.elim
  ·refine jP (z:=true) hop h (λf w u1 u2 hr h1 h2 c1 c2=>?_);have:=c1 _ e;subst this;cases h2;exact⟨By (.inr hx),λd=>by simp[Op.equalIn,run_underlying ht],by simp,by simp,by simp,by simp⟩
  ·refine jP (z:=false) hop h (λf w u1 u2 hr h1 h2 c1 c2=>?_);have:=c1 _ e;subst this;cases h2;exact⟨ON ..,λd=>by simp[Op.equalIn,run_underlying ht],by simp,by simp,by simp,by simp⟩
theorem aqC{op:BinOp}{r:Bool}{t:TypeId}{p q:Array TypeId}{v:Bool}{x y:Operand}{a b:AV}{H:AH}{k:AV→Prop}(hop:(op=.eql∧r=true)∨(op=.neq∧r=false))(ht:P.underlying t=some (.func p q v))
  (h:bI (Jt y) (N1 r a k) (bT (Jt x) (N1 r b k))):∃v,k v∧mO P op t x y a b H v:=by
 rcases dn h with⟨hy,h⟩|⟨_,h⟩
 ·have e:=OK hy;cases a<;>try exact h.elim
  ·refine jP (z:=true) hop h (λf w u1 u2 hr h1 h2 c1 c2=>?_);have:=c2 _ e;subst this;cases h1;exact⟨FD ..,λd=>by simp[Op.equalIn,run_underlying ht],by simp,by simp,by simp,by simp⟩
  ·refine jP (z:=false) hop h (λf w u1 u2 hr h1 h2 c1 c2=>?_);have:=c2 _ e;subst this;cases h1;exact⟨YO ..,λd=>by simp[Op.equalIn,run_underlying ht],by simp,by simp,by simp,by simp⟩
 ·obtain⟨hx,h⟩:=aD h;have e:=OK hx;cases b<;>try exact h.elim
  ·refine jP (z:=true) hop h (λf w u1 u2 hr h1 h2 c1 c2=>?_);have:=c1 _ e;subst this;cases h2;exact⟨FD ..,λd=>by simp[Op.equalIn,run_underlying ht],by simp,by simp,by simp,by simp⟩
  ·refine jP (z:=false) hop h (λf w u1 u2 hr h1 h2 c1 c2=>?_);have:=c1 _ e;subst this;cases h2;exact⟨FD ..,λd=>by simp[Op.equalIn,run_underlying ht],by simp,by simp,by simp,by simp⟩
theorem aqD{op:BinOp}{r:Bool}{t e0:TypeId}{x y:Operand}{a b:AV}{H:AH}{k:AV→Prop}(hop:(op=.eql∧r=true)∨(op=.neq∧r=false))(ht:P.underlying t=some (.slice e0))
  (h:bI (Ju y) (AG r a k) (bT (Ju x) (AG r b k))):∃v,k v∧mO P op t x y a b H v:=by
 rcases dn h with⟨hy,h⟩|⟨_,h⟩
 ·obtain⟨l,c,e⟩:=OL hy;cases a<;>try exact h.elim
  ·refine jP (z:=true) hop h (λf w u1 u2 hr h1 h2 c1 c2=>?_);have:=c2 _ e;subst this;cases h1;exact⟨sY ..,λd=>by simp[Op.equalIn,run_underlying ht],by simp,by simp,by simp,by simp⟩
  ·refine jP (z:=false) hop h (λf w u1 u2 hr h1 h2 c1 c2=>?_);have:=c2 _ e;subst this;cases h1;exact⟨sY ..,λd=>by simp[Op.equalIn,run_underlying ht],by simp,by simp,by simp,by simp⟩
 ·obtain⟨hx,h⟩:=aD h;obtain⟨l,c,e⟩:=OL hx;cases b<;>try exact h.elim
  ·refine jP (z:=true) hop h (λf w u1 u2 hr h1 h2 c1 c2=>?_);have:=c1 _ e;subst this;cases h2;exact⟨sY ..,λd=>by simp[Op.equalIn,run_underlying ht],by simp,by simp,by simp,by simp⟩
  ·refine jP (z:=false) hop h (λf w u1 u2 hr h1 h2 c1 c2=>?_);have:=c1 _ e;subst this;cases h2;exact⟨sY ..,λd=>by simp[Op.equalIn,run_underlying ht],by simp,by simp,by simp,by simp⟩
theorem aqE{op:BinOp}{r:Bool}{t k0 e0:TypeId}{x y:Operand}{a b:AV}{H:AH}{k:AV→Prop}(hop:(op=.eql∧r=true)∨(op=.neq∧r=false))(ht:P.underlying t=some (.map k0 e0))
  (h:bI (Jv y) (N3 r a k) (bT (Jv x) (N3 r b k))):∃v,k v∧mO P op t x y a b H v:=by
 rcases dn h with⟨hy,h⟩|⟨_,h⟩
 ·have e:=OM hy;cases a<;>try exact h.elim
  ·refine jP (z:=true) hop h (λf w u1 u2 hr h1 h2 c1 c2=>?_);have:=c2 _ e;subst this;cases h1;exact⟨xU ..,λd=>by simp[Op.equalIn,run_underlying ht],by simp,by simp,by simp,by simp⟩
  ·refine jP (z:=false) hop h (λf w u1 u2 hr h1 h2 c1 c2=>?_);have:=c2 _ e;subst this;cases h1;exact⟨xU ..,λd=>by simp[Op.equalIn,run_underlying ht],by simp,by simp,by simp,by simp⟩
 ·obtain⟨hx,h⟩:=aD h;have e:=OM hx;cases b<;>try exact h.elim
  ·refine jP (z:=true) hop h (λf w u1 u2 hr h1 h2 c1 c2=>?_);have:=c1 _ e;subst this;cases h2;exact⟨xU ..,λd=>by simp[Op.equalIn,run_underlying ht],by simp,by simp,by simp,by simp⟩
  ·refine jP (z:=false) hop h (λf w u1 u2 hr h1 h2 c1 c2=>?_);have:=c1 _ e;subst this;cases h2;exact⟨xU ..,λd=>by simp[Op.equalIn,run_underlying ht],by simp,by simp,by simp,by simp⟩
theorem u4{op:BinOp}{k:Bool→Prop}(h:MY op k):∃r,((op=.eql∧r=true)∨(op=.neq∧r=false))∧k r:=by
 rcases aqA h with⟨e,h⟩|⟨e,h⟩
 ·exact⟨true,.inl ⟨e,rfl⟩,h⟩
 ·exact⟨false,.inr ⟨e,rfl⟩,h⟩
theorem aqF{op:BinOp}{t:TypeId}{x y:Operand}{a b:AV}{H:AH}{k:AV→Prop}(h:amv P op t x y a b H k):∃v,k v∧mO P op t x y a b H v:=by
 unfold amv at h;split at h
 ·rename_i q ht;obtain⟨v,g1,g2⟩:=UF (P:=P) (t:=t) h;refine⟨v,g1,λf w u1 u2 hr h1 h2 _ _=>?_⟩;obtain⟨u,g3,g4⟩:=g2 f u1 u2 h1 h2;refine⟨u,?_,g4⟩;have hu:∃c n,u1=.int c n:=by
   by_cases hq:∃c n,a=.int c n
   ·obtain⟨c,n,rfl⟩:=hq;exact⟨_,_,h1.bB⟩
   ·by_cases hop:op=.rem
    ·subst hop;rcases OD h with h|⟨m,r,e1,_⟩|⟨m,r,e1,_⟩
     ·obtain⟨x,y,e,_⟩:=fC h;exact absurd ⟨_,_,e⟩ hq
     ·rw[e1]at h1;cases h1;exact⟨_,_,rfl⟩
     ·rw[e1]at h1;cases h1;exact⟨_,_,rfl⟩
    exfalso;cases op<;>try exact absurd rfl hop
    all_goals simp only[amt,aui,auj,auk,aul,YL,aum,pOr,YM,Uy,amq,auo,pEq,pNe,pLt,pLe,two]at h
    all_goals
     obtain⟨c,n,e,h'⟩:=eV h
     first
      |exact hq ⟨c,n,e⟩
      |(obtain⟨c,n,e,_⟩:=eV h';exact hq ⟨c,n,e⟩)
  obtain⟨c,n,rfl⟩:=hu;rw[Sem.run_bind,afM,Result.andThen_ok,g3 w]
 ·rename_i ht;obtain⟨v,g1,g2⟩:=aqz (P:=P) (t:=t) h;refine⟨v,g1,λf w u1 u2 hr h1 h2 _ _=>?_⟩;obtain⟨u,g3,g4⟩:=g2 f u1 u2 h1 h2;refine⟨u,?_,g4⟩;have hu:∃s,u1=.string s:=by
   by_cases hq:∃c n,a=.str c n
   ·obtain⟨c,n,rfl⟩:=hq;exact⟨_,h1.jl.1⟩
   ·exfalso;cases op<;>simp only[amu,oT,wo,sNe,aur,aus,aut,auu]at h
    all_goals
     obtain⟨c,n,e,h'⟩:=gC h;exact hq ⟨c,n,e⟩
  obtain⟨s,rfl⟩:=hu;rw[Sem.run_bind,afN,Result.andThen_ok,g3 w]
 ·rename_i ht;cases op<;>try exact h.elim
  ·exact UI ht (.inl ⟨rfl,h⟩)
  ·exact UI ht (.inr ⟨rfl,h⟩)
 ·rename_i e ht;split at h
  ·rename_i i hi;obtain⟨hs,h⟩:=aD h;obtain⟨r,hop,h⟩:=u4 h;exact auw ht hi (Nat.le_of_ble_eq_true hs) hop h
  ·exact h.elim
 ·rename_i ms ht;obtain⟨r,hop,h⟩:=u4 h;exact aqB hop ht h
 ·rename_i ht;obtain⟨r,hop,h⟩:=u4 h;exact aqC hop ht h
 ·rename_i ht;obtain⟨r,hop,h⟩:=u4 h;exact aqD hop ht h
 ·rename_i ht;obtain⟨r,hop,h⟩:=u4 h;exact aqE hop ht h
 ·exact h.elim
end
noncomputable section
def uF(P:Program)(t:TypeId):Bool:=match P.underlying t with|some (.struct _)=>true|some (.array _ _)=>true|_=>false
def N4(P:Program)(t:TypeId)(a:AV)(H:AH)(k:AV→Prop):Prop:=
 match P.underlying t,P.info? t with
 |some _,some i=>bI (uF P t) (aM i.size a H k) (af a H k)
 |_,_=>False
def tu(P:Program)(t:TypeId)(a v:AV)(H:AH)(k:AH→Prop):Prop:=
 match P.info? t with
 |some i=>ag i.size a v H k
 |none=>False
def cW(P:Program)(nw:Lay)(t:TypeId)(k:AV→AH→Prop):Prop:=
 match P.info? t with
 |some i=>(match i.zero with|some z=>onVal (ig z) λl=>dC nw l k|none=>False)
 |none=>False
def kc(nw:Lay)(v:AV)(k:AV→AH→Prop):Prop:=onVal v λl=>dC nw l k
def iE(l:List AV)(n:Nat)(x:Prop):Prop:=@List.rec AV (λ_=>Nat→Prop) (λn=>bT (Nat.beq n 0) x) (λ_ _ ih n=>@Nat.rec (λ_=>Prop) False (λm _=>ih m) n) l n
def spl:List AV→List AV→Nat→List AV
 |[],cs,_=>cs
 |a::l,cs,o=>spl l (cs.set o a) (Nat.succ o)
def wv(place:Nat→Option (Nat×Nat×Bool))(n:Nat):List (Nat×AV)→List AV→(List AV→Prop)→Prop
 |[],cs,k=>k cs
 |(i,v)::r,cs,k=>
  match place i with
  |some (o,sz,sc)=>bT (Nat.ble (Nat.add o sz) n) (bI sc (bT (Nat.beq sz 1) (one v (wv place n r (cs.set o v) k))) (onVal v λl=>iE l sz (wv place n r (spl l cs o) k)))
  |none=>False
def yO(P:Program)(fs:Array Field)(i:Nat):Option (Nat×Nat×Bool):=
 match fs[i]? with
 |some fd=>(match P.info? fd.type with|some inf=>some (fd.offset,inf.size,!(uF P fd.type))|none=>none)
 |none=>none
def AI(sz:Nat)(sc:Bool)(i:Nat):Option (Nat×Nat×Bool):=some (Nat.mul i sz,sz,sc)
def mV:Nat→List AV→List AV
 |0,_=>[]
 |n+1,z=>z++mV n z
def zeroCells(P:Program)(t:TypeId):Option (List AV):=
 match P.info? t with
 |some i=>(match i.zero with|some z=>(match ig z with|.cH=>none|.aE _=>none|a=>some a.cells)|none=>none)
 |none=>none
def OO(P:Program)(t:TypeId)(parts:List (Nat×AV))(k:AV→Prop):Prop:=
 match P.underlying t,zeroCells P t with
 |some (.struct fs),some z=>wv (yO P fs) z.length parts z λcs=>k (.agg cs)
 |_,_=>False
def Jy(P:Program)(nw:Lay)(t:TypeId)(len:Nat)(parts:List (Nat×AV))(k:AV→AH→Prop):Prop:=
 match P.underlying t with
 |some (.slice e)=>(match P.info? e,zeroCells P e with
  |some i,some z=>bT (Nat.ble 1 i.size) (bT (Nat.beq z.length i.size) (bT (Nat.ble (Nat.mul len i.size) 16777216) (wv (AI i.size (!(uF P e))) (Nat.mul len i.size) parts (mV len z) λcs=>bG nw len i.size cs k)))
  |_,_=>False)
 |_=>False
def amz(P:Program)(t:TypeId)(a:AV)(i:Nat)(k:AV→Prop):Prop:=
 match P.underlying t with
 |some (.struct fs)=>(match fs[i]? with
  |some fd=>(match P.info? fd.type with|some inf=>bT (Nat.ble 1 inf.size) (ah fd.offset a k)|none=>False)
  |none=>False)
 |_=>False
def FE(P:Program)(t:TypeId)(a i:AV)(k:AV→Prop):Prop:=
 match P.underlying t with
 |some (.slice e)=>(match P.info? e with|some inf=>cw inf.size a i k|none=>False)
 |some (.array n e)=>(match P.info? e with|some inf=>Dd n inf.size a i k|none=>False)
 |_=>False
def dv(a:AV)(k:List AV→Prop):Prop:=match a with|.aE cs=>k cs|_=>False
def cE(l:List AV):Nat→(AV→Prop)→Prop:=@List.rec AV (λ_=>Nat→(AV→Prop)→Prop) (λ_ _=>False) (λa _ ih n k=>@Nat.rec (λ_=>Prop) (k a) (λm _=>ih m k) n) l
def OP(a:AV)(i:Nat)(k:AV→Prop):Prop:=dv a λl=>cE l i k
def amA:Nat→Nat→List AV→(List AV→Prop)→Prop
 |0,_,_,k=>k []
 |n+1,o,l,k=>cE l o λa=>amA n (Nat.succ o) l λr=>k (a::r)
def N6(P:Program)(t:TypeId)(l:List AV)(o:Nat)(k:AV→Prop):Prop:=
 match P.underlying t,P.info? t with
 |some _,some i=>bI (uF P t) (amA i.size o l λr=>k (.agg r)) (cE l o k)
 |_,_=>False
def OQ(P:Program)(t:TypeId)(a:AV)(i:Nat)(k:AV→Prop):Prop:=
 match P.underlying t with
 |some (.struct fs)=>(match fs[i]? with|some fd=>fW a λl=>N6 P fd.type l fd.offset k|none=>False)
 |_=>False
def OS(P:Program)(t:TypeId)(a i:AV)(k:AV→Prop):Prop:=
 match P.underlying t with
 |some .string=>gN a i k
 |some (.array n e)=>(match P.info? e with|some inf=>nX i λ_ j=>bT (Nat.ble (Nat.succ j) n) (fW a λl=>bj (Nat.mul j inf.size) λo=>N6 P e l o k)|none=>False)
 |_=>False
def lB(x:Option AV)(d:Nat)(k:Nat→Prop):Prop:=match x with|none=>k d|some a=>nX a λ_ n=>k n
def kU(sz:Nat)(a:AV)(lo hi mx:Option AV)(k:AV→Prop):Prop:=
 rQ a
  (λk=>lB lo 0 λl=>lB hi 0 λh=>lB mx 0 λm=>bT (Nat.beq l 0) (bT (Nat.beq h 0) (bT (Nat.beq m 0) (k .ab))))
  (λb o len cap sz' ex k=>bT (Nat.beq sz sz') (lB mx cap λm=>lB hi len λh=>lB lo 0 λl=>
   bT (Nat.ble l h) (bT (Nat.ble h m) (bT (Nat.ble m cap) (bj (Nat.add o (Nat.mul l sz)) λo'=>bj (Nat.sub h l) λn=>bj (Nat.sub m l) λc=>k (.slice b o' n c sz (ex||mx.isSome))))))) k
def UJ(n sz:Nat)(a:AV)(lo hi mx:Option AV)(k:AV→Prop):Prop:=
 nY a λb o=>lB mx n λm=>lB hi n λh=>lB lo 0 λl=>
   bT (Nat.ble l h) (bT (Nat.ble h m) (bT (Nat.ble m n) (bj (Nat.add o (Nat.mul l sz)) λo'=>bj (Nat.sub h l) λn=>bj (Nat.sub m l) λc=>k (.slice b o' n c sz true))))
def eX(a:AV)(lo hi:Option AV)(k:AV→Prop):Prop:=fV a λn _=>lB hi n λh=>lB lo 0 λl=>auq a l h k
def OT(P:Program)(t:TypeId)(a:AV)(lo hi mx:Option AV)(k:AV→Prop):Prop:=
 match P.underlying t with
 |some .string=>bT mx.isNone (eX a lo hi k)
 |some (.slice e)=>(match P.info? e with|some inf=>bT (mx.isNone||hi.isSome) (kU inf.size a lo hi mx k)|none=>False)
 |some (.array n e)=>(match P.info? e with|some inf=>bT (mx.isNone||hi.isSome) (UJ n inf.size a lo hi mx k)|none=>False)
 |_=>False
end
theorem rR{P:Program}{t:TypeId}{d:TypeDesc}(h:P.underlying t=some d)(w:World):(isAgg t).run P w=.ok (uF P t) w:=by
 unfold isAgg uF;rw[h];cases d<;>simp[run_underlying h]
theorem OU:∀(l:List AV) (n:Nat) (x:Prop),iE l n x→l.length=n∧x
 |[],n,x,h=>by obtain⟨h1,h2⟩:=aD h;exact⟨(Nat.eq_of_beq_eq_true h1).symm,h2⟩
 |a::l,n,x,h=>by
  cases n with
  |zero=>exact h.elim
  |succ n=>obtain⟨h1,h2⟩:=OU l n x h;exact⟨by simp[h1],h2⟩
theorem rS:∀(l:List AV) (n:Nat) (k:AV→Prop),cE l n k→∃a,l[n]? = some a∧k a
 |[],n,k,h=>h.elim
 |a::l,n,k,h=>by
  cases n with
  |zero=>exact⟨a,rfl,h⟩
  |succ n=>obtain⟨b,h1,h2⟩:=rS l n k h;exact⟨b,by simpa using h1,h2⟩
theorem OV:∀(n o:Nat) (l:List AV) (k:List AV→Prop),amA n o l k→∃r,r=(l.drop o).take n∧r.length=n∧k r
 |0,o,l,k,h=>⟨[],by simp,rfl,h⟩
 |n+1,o,l,k,h=>by
  obtain⟨a,ha,h⟩:=rS _ _ _ h;obtain⟨r,h1,h2,h3⟩:=OV n (o+1) l _ h;refine⟨a::r,?_,by simp[h2],h3⟩;rw[h1];have hlt:o<l.length:=by
   rcases Nat.lt_or_ge o l.length with h|h
   ·exact h
   ·rw[List.getElem?_eq_none h]at ha;cases ha
  rw[List.drop_eq_getElem_cons hlt,List.take_succ_cons];rw[List.getElem?_eq_getElem hlt]at ha;injection ha with ha;rw[ha]
theorem xV{x:Option AV}{d:Nat}{k:Nat→Prop}(h:lB x d k):(x=none∧k d)∨∃c n,x=some (.int c (.ofNat n))∧k n:=by
 cases x with
 |none=>exact .inl ⟨rfl,h⟩
 |some a=>obtain⟨c,n,rfl,h⟩:=jy h;exact .inr ⟨c,n,rfl,h⟩
theorem afP{a:AV}{k:List AV→Prop}(h:dv a k):∃cs,a=.aE cs∧k cs:=by
 cases a with
 |aE cs=>exact⟨cs,rfl,h⟩
 |_=>exact h.elim
theorem GG:∀(l cs:List AV) (o:Nat),(spl l cs o).length=cs.length
 |[],_,_=>rfl
 |a::l,cs,o=>by rw[spl,GG l];simp
section
variable {P:Program}
theorem OW{t:TypeId}{a:AV}{H:AH}{k:AV→Prop}(h:N4 P t a H k) :
  ∃v,k v∧∀f w u,HRQ f H.sem w→VR f a u→∃r,(Instr.loadAt t u).run P w=.ok r w∧VR f v r:=by
 unfold N4 at h;split at h
 ·rename_i d i hd hi;rcases dn h with⟨hg,h⟩|⟨hg,h⟩
  ·obtain⟨b,o,rfl,h⟩:=nz h;obtain⟨c,n,m,hb,h⟩:=dx h;obtain⟨l,h1,h2,h3⟩:=qj _ _ _ _ h;refine⟨_,h3,λf w u hr hu=>?_⟩;obtain⟨vs,g1,g2,g3,g4⟩:=xR (P:=P) hr hu.eI.2 hb h2;refine⟨.agg vs.toArray,?_,.agg _ _ g1⟩;rw[hu.eI.1];rw[h1]at g4;simp[Instr.loadAt,Instr.sureAddr,loadVar,rR hd,hg,sizeOf,typeInfo,hi,g4]
  ·obtain⟨b,o,rfl,h⟩:=nz h;obtain⟨c,n,m,hb,h⟩:=dx h;obtain⟨v,h1,h2⟩:=Bt.dx _ _ _ h;refine⟨_,h2,λf w u hr hu=>?_⟩;obtain⟨r,g1,g2⟩:=hr.cell hu.eI.2 hb h1;refine⟨r,?_,g2⟩;rw[hu.eI.1];simp[Instr.loadAt,Instr.sureAddr,loadVar,rR hd,hg,g1]
 ·exact h.elim
theorem oe{f:aI}{H:AH}{w:World}(hr:HR f H w){b:Nat}(hd:f.dom b){c:Bt AV}{n m:Nat}(hb:H.at b=.cells c n m)(hm:m<2){o:Nat}{l:List AV}(hl:o+l.length≤n){vs:List Value}(hv:VL f l vs)(h1:∀a∈l,a.one=true) :
  (storeCells ⟨f.blk b,f.off b+o,none⟩ vs).run P w=.ok () (Go.X.setCells w (f.blk b) (f.off b+o) vs):=by
 have hlen:=hv.length;have:=wk P vs w (f.blk b) (f.off b+o) 0 (hv.oneCell h1) (λj hj=>by
  rw[Nat.add_zero,Nat.add_assoc];exact⟨hr.toHRQ.there hd hb (by omega),hr.toHRQ.notFrozen hd hb hm (by omega)⟩)
 simpa using this
structure y8(P:Program)(t:TypeId)(p v:AV)(H H':AH):Prop where
 n:H'.n=H.n
 at':∃b o inf c m q c',p=.ptr b o∧P.info? t=some inf∧H.at b=.cells c m q∧H'.at b=.cells c' m q∧v.cells.length=inf.size∧
  (∀k,k<inf.size→c'.get? (o+k)=v.cells[k]?)∧(∀k,(k<o∨o+inf.size≤k)→c'.get? k=c.get? k)∧∀b',b'≠b→H'.at b'=H.at b'
theorem M0{t:TypeId}{a v:AV}{H:AH}{k:AH→Prop}(h:tu P t a v H k) :
  ∃H',k H'∧y8 P t a v H H'∧∀f w u x,HR f H w→VR f a u→VR f v x→∃w',(Instr.storeAt t u x).run P w=.ok () w'∧Step f H w f H' w':=by
 unfold tu at h;split at h
 ·rename_i i hi;obtain⟨b,o,rfl,h⟩:=nz h;obtain⟨h,hp,ht⟩:=xQ h;obtain⟨c,n,m,hb,h⟩:=dx h;obtain⟨hm,h⟩:=aD h;obtain⟨c',h,h1,h2,h3⟩:=fm _ _ _ _ h;obtain⟨h4,h⟩:=aD h;obtain⟨h5,h⟩:=aD h;have e4:o+v.cells.length=o+i.size:=Nat.eq_of_beq_eq_true h4;have e5:=Nat.le_of_ble_eq_true h5;have em:=Nat.le_of_ble_eq_true hm;obtain⟨H',g1,g2,g3,g4⟩:=gA h;refine⟨H',g1,⟨g2,b,o,i,c,n,m,c',rfl,hi,hb,g3,by omega,λk hk=>h2 k (by omega),λk hk=>h3 k (by omega),g4⟩,λf w u x hr hu hx=>?_⟩;have hv:=hx.cells hp;refine⟨_,?_,hr.setCells hu.eI.2 hb (by omega) e5 hv H' g2 g3 g4 h2 h3⟩;rw[hu.eI.1];have hlen:=hv.length;have hsz:x.cells.size=i.size:=by rw[←Array.length_toList,←hlen];omega
  have:=oe (P:=P) hr hu.eI.2 hb (by omega) e5 hv h1;simp[Instr.storeAt,Instr.sureAddr,storeVar,sizeOf,typeInfo,hi,hsz,this]
 ·exact h.elim
theorem UK{nw:Lay}{l:List AV}{k:AV→AH→Prop}(h:dC nw l k) :
  ∃o,nw o (λb H'=>k (.ptr b 0) H')∧o.sem.own=true∧∀f w vs e,VL f l vs→nA f w o (λb=>.ptr b 0) (.pointer (some ⟨w.heap.size,0,none⟩)) (.cells vs.toArray e):=by
 obtain⟨c,h,h1,h2,h3⟩:=fm _ _ _ _ h;simp only[Nat.zero_add]at h h2 h3;refine⟨_,h,rfl,λf w vs e hv=>?_⟩;have:=AE (w:=w) hv h2 (λj hj=>by rw[h3 j (by omega)];rfl) [] e (vf:=λb=>.ptr b 0) (r:=.pointer (some ⟨w.heap.size,0,none⟩)) (λi hi=>VR.MX (aI.qg _ _ _ _ _) (by rw[aI.gZ,aI.jj]));simpa using this
theorem afQ{nw:Lay}{t:TypeId}{k:AV→AH→Prop}(h:cW P nw t k) :
  ∃o vf,nw o (λb H'=>k (vf b) H')∧o.sem.own=true∧∀(f:aI) w,∃r obj,(Instr.alloc t true (.tuple #[])).run P w=.ok r (w.alloc obj)∧nA f w o vf r obj:=by
 unfold cW at h;split at h
 ·rename_i i hi;split at h
  ·rename_i z hz;obtain⟨h,hp,_⟩:=xQ h;obtain⟨o,g1,g0,g2⟩:=UK h;refine⟨o,_,g1,g0,λf w=>?_⟩;refine⟨_,_,?_,g2 f w z.cells.toList t ((qk f z).cells hp)⟩;simp[Instr.alloc,zeroValue,typeInfo,hi,hz,newVar,newRow]
  ·exact h.elim
 ·exact h.elim
theorem aqG{nw:Lay}{t:TypeId}{a:AV}{k:AV→AH→Prop}(h:kc nw a k) :
  ∃o vf,nw o (λb H'=>k (vf b) H')∧o.sem.own=true∧∀(f:aI) w u,VR f a u→∃r obj,(Instr.box t u).run P w=.ok r (w.alloc obj)∧nA f w o vf r obj:=by
 obtain⟨h,hp,_⟩:=xQ h;obtain⟨o,g1,g0,g2⟩:=UK h;refine⟨o,_,g1,g0,λf w u hu=>?_⟩;refine⟨_,_,?_,g2 f w u.cells.toList t (hu.cells hp)⟩;simp[Instr.box,newVar,newRow]
theorem aqH{t:TypeId}{a:AV}{i:Nat}{k:AV→Prop}(h:amz P t a i k) :
  ∃v,k v∧∀f u,VR f a u→∃r,(∀w,(Instr.fieldAt t u i).run P w=.ok r w)∧VR f v r:=by
 unfold amz at h;split at h
 ·rename_i fs ht;split at h
  ·rename_i fd hfd;split at h
   ·rename_i inf hi;obtain⟨h0,h⟩:=aD h;have e0:=Nat.le_of_ble_eq_true h0;have e1:¬(inf.size=0):=by omega
    obtain⟨b,o,rfl,g⟩:=nz h;rw[aY]at g;refine⟨_,g,λf u hu=>?_⟩;obtain⟨rfl,hb⟩:=hu.eI;refine⟨.pointer (some ⟨f.blk b,f.off b+(o+fd.offset),none⟩),λw=>?_,.ptr b _ hb⟩;simp[Instr.fieldAt,run_underlying ht,hfd,Instr.sureAddr,fieldPlace,sizeOf,typeInfo,hi,e1,addr_add,Nat.add_assoc]
   ·exact h.elim
  ·exact h.elim
 ·exact h.elim
theorem TM{a:AV}{i:Nat}{k:AV→Prop}(h:OP a i k) :
  ∃v,k v∧∀f u,VR f a u→∃r,(∀w,(Instr.extract u i).run P w=.ok r w)∧VR f v r:=by
 obtain⟨cs,rfl,h⟩:=afP h;obtain⟨v,h1,h2⟩:=rS _ _ _ h;refine⟨v,h2,λf u hu=>?_⟩;cases hu with
 |aE as vs hv=>
  obtain⟨r,g1,g2⟩:=hv.get i v h1;exact⟨r,λw=>by simp[Instr.extract,g1],g2⟩
theorem OX{t:TypeId}{l:List AV}{o:Nat}{k:AV→Prop}(h:N6 P t l o k) :
  ∃v,k v∧∀f vs,VL f l vs→∃r,(∀w,(part t vs.toArray o).run P w=.ok r w)∧VR f v r:=by
 unfold N6 at h;split at h
 ·rename_i d i hd hi;rcases dn h with⟨hg,h⟩|⟨hg,h⟩
  ·obtain⟨r,h1,h2,h3⟩:=OV _ _ _ _ h;refine⟨_,h3,λf vs hv=>⟨.agg (vs.toArray.extract o (o+i.size)),λw=>?_,?_⟩⟩
   ·simp[part,rR hd,hg,sizeOf,typeInfo,hi]
   ·have e:vs.toArray.extract o (o+i.size)=((vs.drop o).take i.size).toArray:=by
     apply Array.ext';simp
    rw[e,h1];exact .agg _ _ ((hv.drop o).take i.size)
  ·obtain⟨v,h1,h2⟩:=rS _ _ _ h;refine⟨v,h2,λf vs hv=>?_⟩;obtain⟨r,g1,g2⟩:=hv.get o v h1;exact⟨r,λw=>by simp[part,rR hd,hg,g1],g2⟩
 ·exact h.elim
theorem afR{t:TypeId}{a:AV}{i:Nat}{k:AV→Prop}(h:OQ P t a i k) :
  ∃v,k v∧∀f u,VR f a u→∃r,(∀w,(Instr.field t u i).run P w=.ok r w)∧VR f v r:=by
 unfold OQ at h;split at h
 ·rename_i fs ht;split at h
  ·rename_i fd hfd;obtain⟨l,rfl,h⟩:=MU h;obtain⟨v,g1,g2⟩:=OX h;refine⟨v,g1,λf u hu=>?_⟩;cases hu with
   |agg as vs hv=>
    obtain⟨r,g3,g4⟩:=g2 f vs hv;exact⟨r,λw=>by simp[Instr.field,run_underlying ht,hfd,asAgg,g3 w],g4⟩
  ·exact h.elim
 ·exact h.elim
theorem afS{t:TypeId}{a i:AV}{k:AV→Prop}(h:OS P t a i k) :
  ∃v,k v∧∀f u x,VR f a u→VR f i x→∃r,(∀w,(Instr.index t u x).run P w=.ok r w)∧VR f v r:=by
 unfold OS at h;split at h
 ·rename_i ht;obtain⟨n,y,rfl,h⟩:=gC h;obtain⟨c,j,rfl,h⟩:=jy h;obtain⟨hj,h⟩:=aD h;have ej:=Nat.le_of_ble_eq_true hj;rw[aY]at h;refine⟨_,h,λf u x hu hx=>?_⟩;obtain⟨rfl,hy⟩:=hu.jl;rw[hx.bB];have hb:=MW y j;refine⟨.int .u8 (.ofNat (byteAt y j)),λw=>?_,?_⟩
  ·have e1:(eS n y)[j]? = some (UInt8.ofNat (byteAt y j)):=OE (by omega);simp[Instr.index,asIntOf,run_underlying ht,e1];omega
  ·exact VR.int 1 _
 ·rename_i n e ht;split at h
  ·rename_i inf hi;obtain⟨c,j,rfl,h⟩:=jy h;obtain⟨hj,h⟩:=aD h;have ej:=Nat.le_of_ble_eq_true hj;obtain⟨l,rfl,g⟩:=MU h;rw[aY]at g;obtain⟨v,g1,g2⟩:=OX g;refine⟨v,g1,λf u x hu hx=>?_⟩;rw[hx.bB];cases hu with
   |agg as vs hv=>
    obtain⟨r,g3,g4⟩:=g2 f vs hv;refine⟨r,λw=>?_,g4⟩;have e0:(0:Int)≤Int.ofNat j∧Int.ofNat j<(n:Int):=⟨Int.natCast_nonneg j,by have:j<n:=ej;exact Int.ofNat_lt.2 this⟩
    have e1:(Int.ofNat j).toNat=j:=rfl;have e2:j*inf.size=Nat.mul j inf.size:=rfl;simp only[Instr.index,asIntOf,Sem.run_bind,Sem.run_pure,Result.andThen_ok,run_underlying ht,Sem.run_ite,if_pos e0,sizeOf,typeInfo,run_program,hi,e1,e2,g3 w]
  ·exact h.elim
 ·exact h.elim
theorem aqI{t e:TypeId}{inf:TypeInfo}(ht:P.underlying t=some (.slice e))(hi:P.info? e=some inf){a i:AV}{k:AV→Prop}(h:cw inf.size a i k) :
  ∃v,k v∧∀f u x,VR f a u→VR f i x→∃r,(∀w,(Instr.indexAt t u x).run P w=.ok r w)∧VR f v r:=by
 rcases gM h with⟨_,h⟩|⟨b,o,len,cap,sz,ex,rfl,h⟩
 ·exact h.elim
 ·obtain⟨c,j,rfl,h⟩:=jy h;obtain⟨hj,h⟩:=aD h;obtain⟨_,h⟩:=aD h;have ej:=Nat.le_of_ble_eq_true hj;rw[aY]at h;refine⟨_,h,λf u x hu hx=>?_⟩;rw[hx.bB];cases hu with
  |slice _ _ _ _ _ _ cap' y hb h1 h2 h3 h4=>
   have hy:=h3 (by omega);subst hy;refine⟨.pointer (some ⟨f.blk b,f.off b+(o+j*inf.size),none⟩),λw=>?_,.ptr b _ hb⟩;have e0:(0:Int)≤Int.ofNat j∧Int.ofNat j<(len:Int):=⟨Int.natCast_nonneg j,Int.ofNat_lt.2 ej⟩
   have e1:(Int.ofNat j).toNat=j:=rfl;simp only[Instr.indexAt,asIntOf,Sem.run_bind,Sem.run_pure,Result.andThen_ok,run_underlying ht,Sem.run_ite,if_pos e0,sizeOf,typeInfo,run_program,hi,e1,addr_add,Nat.add_assoc]
theorem amB{t e:TypeId}{n:Nat}{inf:TypeInfo}(ht:P.underlying t=some (.array n e))(hi:P.info? e=some inf){a i:AV}{k:AV→Prop}(h:Dd n inf.size a i k) :
  ∃v,k v∧∀f u x,VR f a u→VR f i x→∃r,(∀w,(Instr.indexAt t u x).run P w=.ok r w)∧VR f v r:=by
 obtain⟨b,o,rfl,h⟩:=nz h;obtain⟨c,j,rfl,h⟩:=jy h;obtain⟨hj,h⟩:=aD h;have ej:=Nat.le_of_ble_eq_true hj;rw[aY]at h;refine⟨_,h,λf u x hu hx=>?_⟩;rw[hx.bB];obtain⟨rfl,hb⟩:=hu.eI;refine⟨.pointer (some ⟨f.blk b,f.off b+(o+j*inf.size),none⟩),λw=>?_,.ptr b _ hb⟩;have e0:(0:Int)≤Int.ofNat j∧Int.ofNat j<(n:Int):=⟨Int.natCast_nonneg j,Int.ofNat_lt.2 ej⟩
 have e1:(Int.ofNat j).toNat=j:=rfl;simp only[Instr.indexAt,Instr.sureAddr,asIntOf,Sem.run_bind,Sem.run_pure,Result.andThen_ok,run_underlying ht,Sem.run_ite,if_pos e0,sizeOf,typeInfo,run_program,hi,e1,addr_add,Nat.add_assoc]
theorem TN{t:TypeId}{a i:AV}{k:AV→Prop}(h:FE P t a i k) :
  ∃v,k v∧∀f u x,VR f a u→VR f i x→∃r,(∀w,(Instr.indexAt t u x).run P w=.ok r w)∧VR f v r:=by
 unfold FE at h;split at h
 ·rename_i e ht;split at h
  ·rename_i inf hi;exact aqI ht hi h
  ·exact h.elim
 ·rename_i n e ht;split at h
  ·rename_i inf hi;exact amB ht hi h
  ·exact h.elim
 ·exact h.elim
inductive BR(f:aI):Option AV→Option Value→Prop
 |none:BR f none none
 |some (a:AV) (v:Value):VR f a v→BR f (some a) (some v)
theorem kV{c:IntKind}{n y:Nat}{code:BoundsCode}(h:n≤y)(w:World):(Instr.sliceBound (.int c (n:Int)) y code).run P w=.ok n w:=by
 have e0:(0:Int)≤(n:Int)∧(n:Int)≤(y:Int):=⟨Int.natCast_nonneg n,Int.ofNat_le.2 h⟩
 simp only[Instr.sliceBound,asIntOf,Sem.run_bind,Sem.run_pure,Result.andThen_ok,Sem.run_ite,if_pos e0];rfl
theorem uO{f:aI}{s:Bool}{len cap l h m:Nat}{lo hi mx:Option AV}{lo' hi' mx':Option Value}(bl:BR f lo lo')(bh:BR f hi hi')(bm:BR f mx mx')
  (el:(lo=none∧l=0)∨∃c,lo=some (.int c (.ofNat l))) (eh:(hi=none∧h=len)∨∃c,hi=some (.int c (.ofNat h))) (em:(mx=none∧m=cap)∨∃c,mx=some (.int c (.ofNat m)))
  (UL:mx.isNone=true∨hi.isSome=true) (h1:l≤h) (h2:h≤m) (h3:m≤cap) (w:World) :
  (Instr.sliceBounds s len cap lo' hi' mx').run P w=.ok (l,h,m) w:=by
 have inv:∀{a:AV}{v:Value} {c n},VR f a v→a=.int c (.ofNat n)→v=.int (kd c) (n:Int):=λhv e=>by subst e;exact hv.bB
 unfold Instr.sliceBounds;rcases em with⟨rfl,rfl⟩|⟨c3,rfl⟩
 ·cases bm;rcases eh with⟨rfl,rfl⟩|⟨c2,rfl⟩
  ·cases bh;rcases el with⟨rfl,rfl⟩|⟨c1,rfl⟩
   ·cases bl;rfl
   ·cases bl with
    |some a v hv=>have e:=inv hv rfl;subst e;simp[kV h1]
  ·cases bh with
   |some a v hv=>
    have e:=inv hv rfl;subst e;rcases el with⟨rfl,rfl⟩|⟨c1,rfl⟩
    ·cases bl;simp[kV h2]
    ·cases bl with
     |some a v hv=>have e:=inv hv rfl;subst e;simp[kV h1,kV h2]
 ·cases bm with
  |some a v hv=>
   have e:=inv hv rfl;subst e;rcases eh with⟨rfl,rfl⟩|⟨c2,rfl⟩
   ·simp at UL
   ·cases bh with
    |some a v hv=>
     have e:=inv hv rfl;subst e;rcases el with⟨rfl,rfl⟩|⟨c1,rfl⟩
     ·cases bl;simp[kV h2,kV h3]
     ·cases bl with
      |some a v hv=>have e:=inv hv rfl;subst e;simp[kV h1,kV h2,kV h3]
theorem afT{t e:TypeId}{inf:TypeInfo}(ht:P.underlying t=some (.slice e))(hi:P.info? e=some inf){a:AV}{lo hi0 mx:Option AV}{k:AV→Prop}(UL:mx.isNone=true∨hi0.isSome=true)(h:kU inf.size a lo hi0 mx k) :
  ∃v,k v∧∀f u lo' hi' mx',VR f a u→BR f lo lo'→BR f hi0 hi'→BR f mx mx'→∃r,(∀w,(Instr.sliceAt t u lo' hi' mx').run P w=.ok r w)∧VR f v r:=by
 rcases lE h with⟨rfl,g⟩|⟨b,o,len,cap,sz,ex,rfl,g⟩
 ·have z:∀{x:Option AV}{k:Nat→Prop},lB x 0 k→∃n,k n∧((x=none∧n=0)∨∃c,x=some (.int c (.ofNat n))):=λh=>by
   rcases xV h with⟨e,h⟩|⟨c,n,e,h⟩
   ·exact⟨0,h,.inl ⟨e,rfl⟩⟩
   ·exact⟨n,h,.inr ⟨c,e⟩⟩
  obtain⟨l,g,el⟩:=z g;obtain⟨h',g,eh⟩:=z g;obtain⟨m,g,em⟩:=z g;obtain⟨z1,g⟩:=aD g;obtain⟨z2,g⟩:=aD g;obtain⟨z3,g⟩:=aD g;have z1:=Nat.eq_of_beq_eq_true z1;have z2:=Nat.eq_of_beq_eq_true z2;have z3:=Nat.eq_of_beq_eq_true z3;subst z1;subst z2;subst z3;refine⟨_,g,λf u lo' hi' mx' hu bl bh bm=>?_⟩;cases hu;refine⟨.slice none 0 0,λw=>?_,.ab⟩;have:=uO (P:=P) (s:=true) (len:=0) (cap:=0) bl bh bm el eh em UL (Nat.le_refl _) (Nat.le_refl _) (Nat.le_refl _) w;simp[Instr.sliceAt,run_underlying ht,Instr.slice,this,sizeOf,typeInfo,hi]
 ·obtain⟨zs,g0⟩:=aD g;have zs:=Nat.eq_of_beq_eq_true zs;clear h g;subst zs;have g:=g0;have z:∀{x:Option AV}{d:Nat}{k:Nat→Prop},lB x d k→∃n,k n∧((x=none∧n=d)∨∃c,x=some (.int c (.ofNat n))):=λ{x d k} h=>by
   rcases xV h with⟨e,h⟩|⟨c,n,e,h⟩
   ·exact⟨d,h,.inl ⟨e,rfl⟩⟩
   ·exact⟨n,h,.inr ⟨c,e⟩⟩
  obtain⟨m,g,em⟩:=z g;obtain⟨h',g,eh⟩:=z g;obtain⟨l,g,el⟩:=z g;obtain⟨z1,g⟩:=aD g;obtain⟨z2,g⟩:=aD g;obtain⟨z3,g⟩:=aD g;have z1:=Nat.le_of_ble_eq_true z1;have z2:=Nat.le_of_ble_eq_true z2;have z3:=Nat.le_of_ble_eq_true z3;rw[aY,aY,aY]at g;refine⟨_,g,λf u lo' hi' mx' hu bl bh bm=>?_⟩;cases hu with
  |slice _ _ _ _ _ _ cap' y hb h1 h2 h3 h4=>
   obtain⟨m',em',hm1,hm2,hm3⟩:∃m',((mx=none∧m'=cap')∨∃c,mx=some (.int c (.ofNat m')))∧m≤m'∧m'≤cap'∧(mx.isSome=true→m'=m):=by
    rcases em with⟨rfl,rfl⟩|⟨c,rfl⟩
    ·exact⟨cap',.inl ⟨rfl,rfl⟩,h2,Nat.le_refl _,λh=>by cases h⟩
    ·exact⟨m,.inr ⟨c,rfl⟩,Nat.le_refl _,by omega,λ_=>rfl⟩
   have hb2:=λw=>uO (P:=P) (s:=true) (len:=len) (cap:=cap') bl bh bm el eh em' UL z1 (by omega) hm2 w;refine⟨.slice (some (if m'=l then ⟨f.blk b,y,none⟩ else ⟨f.blk b,y+l*inf.size,none⟩)) (h'-l) (m'-l),λw=>?_,?_⟩
   ·simp only[Instr.sliceAt,Sem.run_bind,run_underlying ht,Result.andThen_ok,Instr.slice,hb2 w,sizeOf,typeInfo,run_program,hi,Sem.run_pure,Option.map_some,addr_add];split<;>rfl
   ·have hadd:(if m'=l then (⟨f.blk b,y,none⟩:Addr) else ⟨f.blk b,y+l*inf.size,none⟩)=⟨f.blk b,if m'=l then y else y+l*inf.size,none⟩:=by split<;>rfl
    rw[hadd];refine .slice b _ _ _ _ _ _ _ hb (Nat.sub_le_sub_right z2 l) (Nat.sub_le_sub_right hm1 l) (λhpos=>?_) (λhlt=>?_)
    ·have hne:¬(m'=l):=by omega
     rw[if_neg hne,h3 (by omega)];exact Nat.add_assoc _ _ _
    ·have hlt':m<m':=by
      have hq:m-l<m'-l:=hlt;omega
     have hmx:mx=none:=by
      rcases em with⟨rfl,_⟩|⟨c,rfl⟩
      ·rfl
      ·have:=hm3 rfl;omega
     subst hmx;have auy:m=cap:=by rcases em with⟨_,e⟩|⟨c,e⟩;exact e;cases e
     have aA7:m'=cap':=by rcases em' with⟨_,e⟩|⟨c,e⟩;exact e;cases e
     obtain⟨hex,hlim⟩:=h4 (by omega);refine⟨by simp[hex],?_⟩
     change o+l*inf.size+(m'-l)*inf.size≤f.lim b
     rw[Nat.add_assoc,←Nat.add_mul,show l+(m'-l)=cap' by omega];exact hlim
theorem YP{t e:TypeId}{n0:Nat}{inf:TypeInfo}(ht:P.underlying t=some (.array n0 e))(hi:P.info? e=some inf){a:AV}{lo hi0 mx:Option AV}{k:AV→Prop}(UL:mx.isNone=true∨hi0.isSome=true)(h:UJ n0 inf.size a lo hi0 mx k) :
  ∃v,k v∧∀f u lo' hi' mx',VR f a u→BR f lo lo'→BR f hi0 hi'→BR f mx mx'→∃r,(∀w,(Instr.sliceAt t u lo' hi' mx').run P w=.ok r w)∧VR f v r:=by
 obtain⟨b,o,rfl,g⟩:=nz h;have z:∀{x:Option AV}{d:Nat}{k:Nat→Prop},lB x d k→∃n,k n∧((x=none∧n=d)∨∃c,x=some (.int c (.ofNat n))):=λ{x d k} h=>by
  rcases xV h with⟨e,h⟩|⟨c,n,e,h⟩
  ·exact⟨d,h,.inl ⟨e,rfl⟩⟩
  ·exact⟨n,h,.inr ⟨c,e⟩⟩
 obtain⟨m,g,em⟩:=z g;obtain⟨h',g,eh⟩:=z g;obtain⟨l,g,el⟩:=z g;obtain⟨z1,g⟩:=aD g;obtain⟨z2,g⟩:=aD g;obtain⟨z3,g⟩:=aD g;have z1:=Nat.le_of_ble_eq_true z1;have z2:=Nat.le_of_ble_eq_true z2;have z3:=Nat.le_of_ble_eq_true z3;rw[aY,aY,aY]at g;refine⟨_,g,λf u lo' hi' mx' hu bl bh bm=>?_⟩;obtain⟨rfl,hb⟩:=hu.eI;have hb2:=λw=>uO (P:=P) (s:=false) (len:=n0) (cap:=n0) bl bh bm el eh em UL z1 z2 z3 w;refine⟨.slice (some (if m=l then ⟨f.blk b,f.off b+o,none⟩ else ⟨f.blk b,f.off b+o+l*inf.size,none⟩)) (h'-l) (m-l),λw=>?_,?_⟩
 ·simp only[Instr.sliceAt,Instr.sureAddr,Sem.run_bind,run_underlying ht,Result.andThen_ok,hb2 w,sizeOf,typeInfo,run_program,hi,Sem.run_pure,addr_add]
 ·have hadd:(if m=l then (⟨f.blk b,f.off b+o,none⟩:Addr) else ⟨f.blk b,f.off b+o+l*inf.size,none⟩)=⟨f.blk b,if m=l then f.off b+o else f.off b+o+l*inf.size,none⟩:=by split<;>rfl
  rw[hadd];refine .slice b _ _ _ _ _ _ _ hb (Nat.sub_le_sub_right z2 l) (Nat.le_refl _) (λhpos=>?_) (λhlt=>absurd hlt (Nat.lt_irrefl _));have hne:¬(m=l):=by omega
  rw[if_neg hne];exact Nat.add_assoc _ _ _
theorem YQ{t:TypeId}(ht:P.underlying t=some .string){a:AV}{lo hi0:Option AV}{k:AV→Prop}(h:eX a lo hi0 k) :
  ∃v,k v∧∀f u lo' hi',VR f a u→BR f lo lo'→BR f hi0 hi'→∃r,(∀w,(Instr.sliceAt t u lo' hi' none).run P w=.ok r w)∧VR f v r:=by
 obtain⟨n,x,rfl,g⟩:=gC h;have z:∀{x:Option AV}{d:Nat}{k:Nat→Prop},lB x d k→∃n,k n∧((x=none∧n=d)∨∃c,x=some (.int c (.ofNat n))):=λ{x d k} h=>by
  rcases xV h with⟨e,h⟩|⟨c,n,e,h⟩
  ·exact⟨d,h,.inl ⟨e,rfl⟩⟩
  ·exact⟨n,h,.inr ⟨c,e⟩⟩
 obtain⟨h',g,eh⟩:=z g;obtain⟨l,g,el⟩:=z g;obtain⟨n2,x2,e,g⟩:=gC g;injection e with e1 e2;subst e1;subst e2;obtain⟨z1,g⟩:=aD g;obtain⟨z2,g⟩:=aD g;have z1:=Nat.le_of_ble_eq_true z1;have z2:=Nat.le_of_ble_eq_true z2;rw[aY,aY]at g;refine⟨_,g,λf u lo' hi' hu bl bh=>?_⟩;obtain⟨rfl,hx⟩:=hu.jl;have hb2:=λw=>uO (P:=P) (s:=false) (len:=n) (cap:=n) (m:=n) (mx:=none) bl bh .none el eh (.inl ⟨rfl,rfl⟩) (.inl rfl) z1 z2 (Nat.le_refl _) w;refine⟨.string ((eS n x).extract l h'),λw=>?_,?_⟩
 ·simp[Instr.sliceAt,run_underlying ht,Instr.slice,hb2 w]
 ·rw[OF n x l h' z1 z2];exact .str _ _ (aqx _ _ _)
theorem afU{t:TypeId}{a:AV}{lo hi0 mx:Option AV}{k:AV→Prop}(h:OT P t a lo hi0 mx k) :
  ∃v,k v∧∀f u lo' hi' mx',VR f a u→BR f lo lo'→BR f hi0 hi'→BR f mx mx'→∃r,(∀w,(Instr.sliceAt t u lo' hi' mx').run P w=.ok r w)∧VR f v r:=by
 unfold OT at h;split at h
 ·rename_i ht;obtain⟨hm,h⟩:=aD h;cases mx with
  |some _=>cases hm
  |none=>
   obtain⟨v,g1,g2⟩:=YQ ht h;exact⟨v,g1,λf u lo' hi' mx' hu bl bh bm=>by cases bm;exact g2 f u lo' hi' hu bl bh⟩
 ·rename_i e ht;split at h
  ·rename_i inf hi;obtain⟨hm,h⟩:=aD h;exact afT ht hi (by simpa using hm) h
  ·exact h.elim
 ·rename_i n e ht;split at h
  ·rename_i inf hi;obtain⟨hm,h⟩:=aD h;exact YP ht hi (by simpa using hm) h
  ·exact h.elim
 ·exact h.elim
end
section
variable {P:Program}
theorem AV.cells_one{a:AV}(h:a.one=true):a.cells=[a]:=by cases a<;>first|rfl|cases h
theorem GH:∀(vs:List Value) (c:Array Value) (o k:Nat),(vs.zipIdx k).foldl (λcs (x:Value×Nat)=>cs.setIfInBounds (o+x.2) x.1) c=lD c (o+k) vs
 |[],_,_,_=>rfl
 |v::vs,c,o,k=>by
  rw[List.zipIdx_cons,List.foldl_cons,GH vs _ o (k+1),lD];rfl
theorem amC(v:Array Value)(c:Array Value)(o:Nat):(v.zipIdx.foldl (λcs (x:Value×Nat)=>cs.setIfInBounds (o+x.2) x.1) c)=lD c o v.toList:=by
 rw[←Array.foldl_toList,Array.toList_zipIdx,GH];simp
theorem VL.spl{f:aI}:∀{l:List AV}{us:List Value}{cs:List AV}{c:Array Value}(o:Nat),VL f l us→VL f cs c.toList→VL f (Go.X.spl l cs o) (lD c o us).toList
 |_,_,_,_,_,.nil,h=>h
 |_,_,_,_,o,.cons a v as vs h1 h2,h=>by
  rw[Go.X.spl,lD];exact VL.spl (o+1) h2 (by rw[Array.toList_setIfInBounds];exact h.set o a v h1)
theorem AJ{place:Nat→Option (Nat×Nat×Bool)}{place':Nat→Option (Nat×Nat)}{n:Nat}(hp:∀i o sz sc,place i=some (o,sz,sc)→place' i=some (o,sz)){ρ:Operand→AV} :
  ∀(ps:List (Nat×Operand)) (cs:List AV) (k:List AV→Prop),wv place n (ps.map λx=>(x.1,ρ x.2)) cs k→cs.length=n→∃cs',k cs'∧cs'.length=n∧
   ∀(f:aI) (ev:Operand→Value) (c:Array Value),VL f cs c.toList→(∀x∈ps,VR f (ρ x.2) (ev x.2))→∃c',Instr.fill place' c (ps.map λx=>(x.1,ev x.2))=some c'∧VL f cs' c'.toList
 |[],cs,k,h,hn=>⟨cs,h,hn,λf ev c hc _=>⟨c,rfl,hc⟩⟩
 |(i,x)::ps,cs,k,h,hn=>by
  simp only[List.map_cons,wv]at h;split at h
  ·rename_i o sz sc hpl;obtain⟨h0,h⟩:=aD h;have e0:o+sz≤n:=Nat.le_of_ble_eq_true h0;have key:∀(l:List AV),l.length=sz→(∀f u,VR f (ρ x) u→VL f l u.cells.toList)→wv place n (ps.map λx=>(x.1,ρ x.2)) (Go.X.spl l cs o) k→
     ∃cs',k cs'∧cs'.length=n∧∀(f:aI) (ev:Operand→Value) (c:Array Value),VL f cs c.toList→(∀x'∈(i,x)::ps,VR f (ρ x'.2) (ev x'.2))→
      ∃c',Instr.fill place' c (((i,x)::ps).map λx=>(x.1,ev x.2))=some c'∧VL f cs' c'.toList:=λl hl hlv h=>by
    obtain⟨cs',g1,g2,g3⟩:=AJ hp ps _ k h (by rw[GG];exact hn);refine⟨cs',g1,g2,λf ev c hc hx=>?_⟩;have hu:=hlv f (ev x) (hx (i,x) (by simp));have hlen:=hu.length;obtain⟨c',g4,g5⟩:=g3 f ev (lD c o (ev x).cells.toList) (VL.spl o hu hc) (λy hy=>hx y (by simp[hy]));refine⟨c',?_,g5⟩;have hcl:=hc.length;have s1:(ev x).cells.size=sz:=by rw[←Array.length_toList,←hlen,hl]
    have s2:¬(o+(ev x).cells.size>c.size):=by rw[s1,←Array.length_toList,←hcl,hn];omega
    simp only[List.map_cons,Instr.fill,hp _ _ _ _ hpl];rw[if_neg (by simp only[Bool.or_eq_true,decide_eq_true_eq,not_or];exact⟨by simp[s1],s2⟩)];rw[amC];exact g4
   rcases dn h with⟨_,h⟩|⟨_,h⟩
   ·obtain⟨h1,h⟩:=aD h;obtain⟨h2,h⟩:=Ux h;refine key [ρ x] (Nat.eq_of_beq_eq_true h1).symm (λf u hu=>?_) h;have:=hu.cells (by intro e;rw[e]at h2;cases h2)
    rwa [AV.cells_one h2]at this
   ·obtain⟨h,hp1,hp2⟩:=xQ h;obtain⟨h3,h⟩:=OU _ _ _ h;exact key _ h3 (λf u hu=>hu.cells hp1) h
  ·exact h.elim
theorem kO{t:TypeId}{l:List AV}(h:zeroCells P t=some l):∃i z,P.info? t=some i∧i.zero=some z∧∀f,VL f l z.cells.toList:=by
 unfold zeroCells at h;split at h
 ·rename_i i hi;split at h
  ·rename_i z hz;refine⟨i,z,hi,hz,λf=>?_⟩;have hv:=qk f z;split at h
   ·cases h
   ·cases h
   ·rename_i hp ht;injection h with h;subst h;exact hv.cells hp
  ·cases h
 ·cases h
theorem wx{fs:Array Field}(w:World):∀(l:List Field),(∀fd∈l,∃i,P.info? fd.type=some i)→
  (l.mapM λf=>(do pure (f.offset,←sizeOf f.type):Sem (Nat×Nat))).run P w=.ok (l.map λfd=>(fd.offset,((P.info? fd.type).map (·.size)).getD 0)) w
 |[],_=>by simp
 |fd::l,h=>by
  obtain⟨i,hi⟩:=h fd (by simp);have ih:=wx (fs:=fs) w l (λx hx=>h x (by simp[hx]));simp only[List.mapM_cons,Sem.run_bind,sizeOf,typeInfo,run_program,Result.andThen_ok,hi,Sem.run_pure];simp only[sizeOf,typeInfo]at ih;rw[ih];simp[hi]
def OY(P:Program)(fs:Array Field):Bool:=fs.toList.all λfd=>(P.info? fd.type).isSome
theorem afV{t:TypeId}{ps:List (Nat×Operand)}{ρ:Operand→AV}{fs:Array Field}(ht:P.underlying t=some (.struct fs))(hf:OY P fs=true){k:AV→Prop}(h:OO P t (ps.map λx=>(x.1,ρ x.2)) k) :
  ∃v,k v∧∀(f:aI) (ev:Operand→Value),(∀x∈ps,VR f (ρ x.2) (ev x.2))→∃r,(∀w,(Instr.build t (ps.map λx=>(x.1,ev x.2)).toArray).run P w=.ok r w)∧VR f v r:=by
 unfold OO at h;rw[ht]at h;split at h
 ·rename_i fs' z e hz;injection e with e;injection e with e;subst e;obtain⟨i,zv,hi,hzv,hzl⟩:=kO hz;have hall:∀fd∈fs.toList,∃i,P.info? fd.type=some i:=λfd hfd=>by
   have:=List.all_eq_true.1 hf fd hfd;exact Option.isSome_iff_exists.1 this
  have OZ:∀i o sz sc,yO P fs i=some (o,sz,sc)→(fs.toList.map λfd=>(fd.offset,((P.info? fd.type).map (·.size)).getD 0))[i]? = some (o,sz):=λi o sz sc hp=>by
   unfold yO at hp;split at hp
   ·rename_i fd hfd;split at hp
    ·rename_i inf ayR;injection hp with hp;injection hp with e1 e2;injection e2 with e2 e3;subst e1;subst e2;rw[List.getElem?_map];have:fs.toList[i]? = some fd:=by simpa using hfd
     simp[this,ayR]
    ·cases hp
   ·cases hp
  obtain⟨cs',g1,g2,g3⟩:=AJ OZ ps z _ h rfl;refine⟨_,g1,λf ev hev=>?_⟩;obtain⟨c',g4,g5⟩:=g3 f ev zv.cells (hzl f) hev;refine⟨.agg c',λw=>?_,?_⟩
  ·have hm:(fs.mapM λf=>(do pure (f.offset,←sizeOf f.type):Sem (Nat×Nat))).run P w=.ok (fs.toList.map λfd=>(fd.offset,((P.info? fd.type).map (·.size)).getD 0)).toArray w:=by
    have:=wx (P:=P) (fs:=fs) w fs.toList hall;rw[Array.mapM_eq_mapM_toList];simp only[Sem.run_map,this,Result.andThen_ok]
   simp only[Instr.build,Sem.run_bind,zeroValue,typeInfo,run_program,Result.andThen_ok,hi,Sem.run_pure,hzv,run_underlying ht,hm,List.getElem?_toArray,g4]
  ·have:c'=c'.toList.toArray:=rfl;rw[this];exact .agg _ _ g5
 ·exact h.elim
end
section
variable {P:Program}
theorem VL.mV{f:aI}{z:List AV}{u:List Value}(h:VL f z u):∀n,VL f (mV n z) (List.flatten (List.replicate n u))
 |0=>.nil
 |n+1=>by
  rw[Go.X.mV,List.replicate_succ,List.flatten_cons];exact h.append (VL.mV h n)
theorem yP(z:List AV):∀n,(mV n z).length=n*z.length
 |0=>by simp[mV]
 |n+1=>by rw[mV,List.length_append,yP z n,Nat.add_mul];omega
theorem flat_get{α:Type}(u:List α)(n i:Nat)(h:i<n*u.length):(List.flatten (List.replicate n u))[i]? = u[i%u.length]?:=by
 induction n generalizing i with
 |zero=>simp at h
 |succ n ih=>
  rw[List.replicate_succ,List.flatten_cons];by_cases hi:i<u.length
  ·rw[List.getElem?_append_left hi,Nat.mod_eq_of_lt hi]
  ·rw[List.getElem?_append_right (by omega),ih _ (by rw[Nat.add_mul]at h;omega)];congr 1
   conv=>rhs;rw[show i=(i-u.length)+u.length by omega]
   rw[Nat.add_mod_right]
theorem og(u:Array Value)(n:Nat)(h:0<u.size):((Array.range (n*u.size)).map (λi=>u[i%u.size]!))=(List.flatten (List.replicate n u.toList)).toArray:=by
 apply Array.ext';simp only[Array.toList_map,Array.toList_range];apply List.ext_getElem?;intro i;by_cases hi:i<n*u.size
 ·rw[List.getElem?_map,List.getElem?_range hi];have:=flat_get u.toList n i (by simpa using hi);rw[this];have hm:i%u.size<u.size:=Nat.mod_lt _ h;simp[hm]
 ·rw[List.getElem?_eq_none (by simp;omega),List.getElem?_eq_none (by simp;omega)]
theorem amD{nw:Lay}{n sz:Nat}{l:List AV}{k:AV→AH→Prop}(h:bG nw n sz l k) :
  ∃o,nw o (λb H'=>k (.slice b 0 n n sz true) H')∧o.sem.own=true∧l.length=n*sz∧∀f w vs e,VL f l vs→nA f w o (λb=>.slice b 0 n n sz true) (.slice (some ⟨w.heap.size,0,none⟩) n n) (.cells vs.toArray e):=by
 obtain⟨c,h,h1,h2,h3⟩:=fm _ _ _ _ h;obtain⟨hm,h⟩:=aD h;have em:0+l.length=n*sz:=Nat.eq_of_beq_eq_true hm;simp only[Nat.zero_add]at h h2 h3 em;refine⟨_,h,rfl,em,λf w vs e hv=>?_⟩;have:=AE (w:=w) hv h2 (λj hj=>by rw[h3 j (by omega)];rfl) [] e (vf:=λb=>.slice b 0 n n sz true) (r:=.slice (some ⟨w.heap.size,0,none⟩) n n) (λi hi=>by
  have:=VR.slice (f:=f.ext i w.heap.size 0 (vs++[]).length) i 0 n n sz true n 0 (aI.qg _ _ _ _ _) (Nat.le_refl _) (Nat.le_refl _) (λ_=>by rw[aI.jj]) (λh=>absurd h (Nat.lt_irrefl _));rw[aI.gZ]at this;exact this)
 simpa using this
theorem YR{nw:Lay}{t:TypeId}{len:Nat}{ps:List (Nat×Operand)}{ρ:Operand→AV}{k:AV→AH→Prop}(h:Jy P nw t len (ps.map λx=>(x.1,ρ x.2)) k) :
  ∃o vf,nw o (λb H'=>k (vf b) H')∧o.sem.own=true∧∀(f:aI) (w:World) (ev:Operand→Value),(∀x∈ps,VR f (ρ x.2) (ev x.2))→∃r obj,(Instr.buildSlice t len (ps.map λx=>(x.1,ev x.2)).toArray).run P w=.ok r (w.alloc obj)∧nA f w o vf r obj:=by
 unfold Jy at h;split at h
 ·rename_i e ht;split at h
  ·rename_i i z hi hz;obtain⟨h1,h⟩:=aD h;obtain⟨h2,h⟩:=aD h;obtain⟨h3,h⟩:=aD h;have e1:=Nat.le_of_ble_eq_true h1;have e2:=Nat.eq_of_beq_eq_true h2;have e3:len*i.size≤16777216:=Nat.le_of_ble_eq_true h3;obtain⟨i',zv,hi',hzv,hzl⟩:=kO hz;rw[hi]at hi';injection hi' with hi';subst hi';have OZ:∀j o sz sc,AI i.size (!(uF P e)) j=some (o,sz,sc)→(λj=>some (j*i.size,i.size):Nat→Option (Nat×Nat)) j=some (o,sz):=λj o sz sc hp=>by
    unfold AI at hp;injection hp with hp;injection hp with a1 a2;injection a2 with a2 a3;subst a1;subst a2;rfl
   have hlen:(mV len z).length=len*i.size:=by rw[yP,e2]
   obtain⟨cs',g1,g2,g3⟩:=AJ OZ ps (mV len z) _ h hlen;obtain⟨o',g4,g0,g5,g6⟩:=amD g1;refine⟨o',_,g4,g0,λf w ev hev=>?_⟩;have ayS:zv.cells.size=i.size:=by
    have h1:=(hzl f).length;have h2:zv.cells.toList.length=zv.cells.size:=Array.length_toList;omega
   obtain⟨c',g7,g8⟩:=g3 f ev ((Array.range (len*i.size)).map (λj=>zv.cells[j%zv.cells.size]!)) (by
    rw[←ayS,og zv.cells len (by omega)];exact(hzl f).mV len) hev
   refine⟨_,_,?_,g6 f w c'.toList e g8⟩;by_cases hl0:len=0
   ·subst hl0;have hc0:c'.size=0:=by
     have:=g8.length;rw[g2,Array.length_toList]at this;simp at this;omega
    have hc1:c' = #[]:=Array.eq_empty_of_size_eq_zero hc0;subst hc1;have hr0:(Array.range (0*i.size)) = #[]:=by rw[Nat.zero_mul];rfl
    rw[hr0]at g7;have g7':Instr.fill (λj=>some (j*i.size,i.size)) #[] (ps.map λx=>(x.1,ev x.2))=some #[]:=by simpa using g7
    have hr1:(Array.range 0) = #[]:=rfl;simp[Instr.buildSlice,run_underlying ht,sizeOf,typeInfo,hi,hr1,g7',newRow]
   ·have n1:¬(2^24<len*i.size):=by omega
    have n2:¬(len*i.size=0):=by
     rw[Nat.mul_eq_zero];omega
    have n3:¬(len=0∨i.size=0):=by omega
    simp only[Instr.buildSlice,Sem.run_bind,run_underlying ht,Result.andThen_ok,sizeOf,typeInfo,run_program,hi,Sem.run_pure,gt_iff_lt,n1,if_false,n2,zeroValue,hzv,g7,newRow,run_newObj];rfl
  ·exact h.elim
 ·exact h.elim
theorem GI{sz n:Nat}{s:AV}{H:AH}{k:List AV→Prop}(h:cellsOf sz n s H k) :
  ∃l,k l∧(s=.ab→l=[])∧(s≠.ab→l.length=n*sz)∧∀f w u,HRQ f H.sem w→VR f s u→∃vs,VL f l vs∧∀w':World,w'.heap=w.heap→(Builtin.firstCells sz n u).run P w'=.ok vs.toArray w':=by
 rcases lE h with⟨rfl,h⟩|⟨b,o,len,cap,sz',ex,rfl,h⟩
 ·exact⟨[],h,λ_=>rfl,λh=>absurd rfl h,λf w u hr hu=>by cases hu;exact⟨[],.nil,λw' _=>by simp[Builtin.firstCells]⟩⟩
 ·obtain⟨hn,h⟩:=aD h;have en:=Nat.le_of_ble_eq_true hn;obtain⟨_,h⟩:=aD h;obtain⟨c,m,q,hb,h⟩:=dx h;obtain⟨l,h1,h2,h3⟩:=qj _ _ _ _ h;have h1':l.length=n*sz:=h1;refine⟨l,h3,λe=>(by cases e),λ_=>h1',λf w u hr hu=>?_⟩;cases hu with
  |slice _ _ _ _ _ _ cap' y hb1 a1 a2 a3 a4=>
   by_cases hl:l.length=0
   ·have:l=[]:=List.eq_nil_of_length_eq_zero hl;subst this;have hz:n*sz=0:=by omega
    exact⟨[],.nil,λw' _=>by simp[Builtin.firstCells,hz,loadCells,loadCellsFrom]⟩
   ·have hn0:n≠0:=λe=>by subst e;rw[Nat.zero_mul]at h1';exact hl h1'
    have hy:=a3 (by omega);subst hy;obtain⟨vs,g1,g2,g3,g4⟩:=xR (P:=P) hr hb1 hb h2;refine⟨vs,g1,λw' hw'=>?_⟩;simp only[Builtin.firstCells];rw[←h1',←g2];exact run_loadCells_list (P:=P) w' _ vs (λj v hj=>by
     have:=g3 j v hj;simp only[World.cell?,hw']at this ⊢;exact this)
theorem FF{s:AV}{k:Nat→Prop}(h:lenOf s k):∃n,k n∧(s=.ab→n=0)∧∀f u,VR f s u→∃p c,u=.slice p n c:=by
 rcases lE h with⟨rfl,h⟩|⟨b,o,len,cap,sz',ex,rfl,h⟩
 ·exact⟨0,h,λ_=>rfl,λf u hu=>by cases hu;exact⟨_,_,rfl⟩⟩
 ·exact⟨len,h,λe=>(by cases e),λf u hu=>by cases hu;exact⟨_,_,rfl⟩⟩
theorem NY{t u ty e:TypeId}{i:TypeInfo}(ht:P.underlying t=some (.slice e))(hi:P.info? e=some i)(hu:∀q,P.underlying u≠some (.int q)){du:TypeDesc}(y9:P.underlying u=some du)
  {w w':World}{base:Addr}{sLen sCap n:Nat}{x:Value}{news:List Value}(hx:(Builtin.lenOf x).run P w=.ok n w) (hf:(Builtin.firstCells i.size n x).run P w=.ok news.toArray w)
  (hroom:sLen+n≤sCap) (hst:(storeCells (base.add (sLen*i.size)) news).run P w=.ok () w') :
  (Builtin.append_ #[t,u] ty #[.slice (some base) sLen sCap,x]).run P w=.ok (.slice (some base) (sLen+n) sCap) w':=by
 have e0:(#[t,u]:Array TypeId)[0]? = some t:=rfl;have e1:(#[t,u]:Array TypeId)[1]? = some u:=rfl;cases du with
 |int q=>exact absurd y9 (hu q)
 |_=>
  simp only[Builtin.append_,e0,e1,List.getElem?_toArray,List.getElem?_cons_zero,List.getElem?_cons_succ,Sem.run_bind,run_underlying ht,Result.andThen_ok,sizeOf,typeInfo,run_program,hi,Sem.run_pure,run_underlying y9,Bool.false_eq_true,if_false,hx,hroom,if_true,Bool.not_false,hf,hst]
theorem Jz{t u ty e:TypeId}{i:TypeInfo}{z:Value}(ht:P.underlying t=some (.slice e))(hi:P.info? e=some i)(hz0:i.zero=some z)(hu:∀q,P.underlying u≠some (.int q)){du:TypeDesc}(y9:P.underlying u=some du)
  {w:World}{base:Option Addr}{sLen sCap n:Nat}{x:Value}{olds news:List Value}(hx:(Builtin.lenOf x).run P w=.ok n w) (hf:(Builtin.firstCells i.size n x).run P w.drew=.ok news.toArray w.drew)
  (ho:(Builtin.firstCells i.size sLen (.slice base sLen sCap)).run P w.drew=.ok olds.toArray w.drew)
  (hroom:sCap<sLen+n) (hb:1≤i.bytes) (h48:(sLen+n)*i.bytes≤140737488355328) :
  (Builtin.append_ #[t,u] ty #[.slice base sLen sCap,x]).run P w=.ok (.slice (some ⟨w.heap.size,0,none⟩) (sLen+n) (grownCap w (sLen+n) sCap e))
   (w.drew.alloc (.cells (olds++news++(Builtin.zeroCells z.cells (grownCap w (sLen+n) sCap e-(sLen+n))).toList).toArray e)):=by
 have e0:(#[t,u]:Array TypeId)[0]? = some t:=rfl;have e1:(#[t,u]:Array TypeId)[1]? = some u:=rfl;have hn:¬(sLen+n≤sCap):=by omega
 have hb0:i.bytes≠0:=by omega
 have h48':¬(281474976710656<Builtin.nextslicecap (sLen+n) sCap*i.bytes):=by
  have:=growslice_fits hroom h48;omega
 cases du with
 |int q=>exact absurd y9 (hu q)
 |_=>
  simp only[Builtin.append_,e0,e1,List.getElem?_toArray,List.getElem?_cons_zero,List.getElem?_cons_succ,Sem.run_bind,run_underlying ht,Result.andThen_ok,sizeOf,typeInfo,run_program,hi,Sem.run_pure,run_underlying y9,Bool.false_eq_true,if_false,hx,hn];simp[hb0,h48',Question.forced,hf,ho,newRow,grownCap,zeroValue,typeInfo,hi,hz0];congr 1;congr 1;apply Array.ext';simp
theorem HR.there'{f:aI}{H:AH}{w:World}(h:HR f H w){b:Nat}(hd:f.dom b){c:Bt AV}{n m:Nat}(hb:H.at b=.cells c n m){o:Nat}(ho:o<f.lim b):(w.cell? ⟨f.blk b,f.off b+o,none⟩).isSome=true:=by
 have:=h.toHRQ.cells hd hb;obtain⟨cur,e,lo,hi,h1,h2,h3,_⟩:=this;simp[World.cell?,h1];omega
theorem HR.YS{f:aI}{H:AH}{w:World}(h:HR f H w){b:Nat}(hd:f.dom b){c:Bt AV}{n m:Nat}(hb:H.at b=.cells c n m)(hm:m<2){o:Nat}(ho:o<f.lim b) :
  w.frozen? ⟨f.blk b,f.off b+o,none⟩=false:=by
 have:=h.toHRQ.cells hd hb;obtain⟨cur,e,lo,hi,h1,_,h3,_,h5,_⟩:=this;have:=h5 hm o ho;simp only[World.frozen?,h1];simpa using this
theorem Step.forget{f:aI}{H:AH}{w:World}(h:HR f H w){H':AH}(hn:H'.n=H.n)(ho':∀b,(f.dom b∧H'.at b=.dead)∨H'.at b=H.at b):Step f H w f H' w where
 rel:=h.forget H' hn (λb=>(ho' b).imp And.right id)
 le:=.refl f
 n:=by simp[hn]
 size:=Nat.le_refl _
 keep:=λ_ _ _=>rfl
 src:=λb hbd kR=>by
  rcases ho' b with⟨_,e⟩|e
  ·rw[AH.bN,e]at kR;cases kR
  ·rw[AH.bN,e]at kR;exact .inl ⟨b,hbd,kR,rfl⟩
 ro:=λb ha kR=>by
  rcases ho' b with⟨_,e⟩|e
  ·rw[AH.bN,e]at ha;cases ha
  ·rw[AH.bN,AH.bN,e]
 dead:=λb _ ha=>by
  rcases ho' b with⟨_,e⟩|e
  ·rw[AH.bN,e];rfl
  ·rw[AH.bN,e];exact ha
 new:=λ_ _ h=>h
 rest:=λb _ hd=>by
  rcases ho' b with⟨h1,_⟩|e
  ·exact absurd h1 hd
  ·rw[AH.bN,e,AH.bN]
 os:=rfl
 tape:=rfl
 output:=rfl
theorem rT(z:Array Value)(n:Nat):(Builtin.zeroCells z n).toList.length=n*z.size:=by simp[Builtin.zeroCells]
theorem M3{f:aI}{H:AH}{w:World}(hr:HR f H w){n:Nat}{vs:List Value}(hlen:vs.length=n){c:Bt AV}(hc:∀j a,c.get? j=some a→j<n∧∃v,vs[j]? = some v∧VR f a v)
  {H':AH}{q:Nat}(hn:H'.n=H.n+1) (hnew:H'.at H.n=.cells c n q) (hq:q<2) (hold:∀b,b≠H.n→H'.at b=H.at b){need sz cap':Nat}(hl:n=need*sz) (hcap:need≤cap'){rest:List Value}(hrest:rest.length=(cap'-need)*sz) (e:TypeId) :
  ∃f',Step f H w f' H' (w.alloc (.cells (vs++rest).toArray e))∧VR f' (.slice H.n 0 need need sz false) (.slice (some ⟨w.heap.size,0,none⟩) need cap'):=by
 refine AF hr hn hnew hold (by simpa[dM.sem,gL.own]using hq) (vf:=λb=>.slice b 0 need need sz false) ⟨(vs++rest).length,λi hi=>⟨?_,?_⟩⟩
 ·have hle:=f.qL hi w.heap.size 0 (vs++rest).length;refine⟨_,e,0,0,rfl,by simp,by simp[hlen],λj a hj=>?_,λ_ j _=>by omega,λ_=>⟨rfl,rfl⟩⟩;obtain⟨h1,v,h2,h3⟩:=hc j a hj;refine⟨h1,v,?_,h3.up hle⟩;rw[aI.jj,Nat.zero_add];simp only[List.getElem?_toArray];rw[List.getElem?_append_left (by omega),h2]
 ·have:=VR.slice (f:=f.ext i w.heap.size 0 (vs++rest).length) i 0 need need sz false cap' 0 (aI.qg _ _ _ _ _) (Nat.le_refl _) hcap (λ_=>by rw[aI.jj]) (λ_=>⟨rfl,by
   rw[aI.rO,List.length_append,hlen,hl,hrest,←Nat.add_mul,Nat.zero_add];exact Nat.mul_le_mul_right _ (by omega)⟩)
  rw[aI.gZ]at this;exact this
theorem TO{f:aI}{H:AH}{w:World}(hr:HR f H w){b:Nat}(hd:f.dom b){c:Bt AV}{n m:Nat}(hb:H.at b=.cells c n m){o L:Nat}(ho:o+L≤f.lim b) :
  ∃vs:List Value,vs.length=L∧(∀j,j<L→w.cell? ⟨f.blk b,f.off b+(o+j),none⟩=vs[j]?):=by
 refine⟨(List.range L).map λj=>(w.cell? ⟨f.blk b,f.off b+(o+j),none⟩).getD undef,by simp,λj hj=>?_⟩;have:=hr.there' hd hb (o:=o+j) (by omega);obtain⟨v,hv⟩:=Option.isSome_iff_exists.1 this;simp[hj,hv]
theorem O0{f:aI}{H:AH}{w:World}(hr:HR f H w){l:List AV}{vs:List Value}(hv:VL f l vs){c:Bt AV}(hc:∀i,i<l.length→c.get? i=l[i]?)(hc2:∀j,l.length≤j→c.get? j=none)
  {H':AH}(hn:H'.n=H.n+1) (hnew:H'.at H.n=.cells c l.length 0) (hold:∀b,b≠H.n→H'.at b=H.at b){need sz cap':Nat}(hl:l.length=need*sz) (hcap:need≤cap'){rest:List Value}(hrest:rest.length=(cap'-need)*sz) (e:TypeId) :
  ∃f',Step f H w f' H' (w.alloc (.cells (vs++rest).toArray e))∧VR f' (.slice H.n 0 need need sz false) (.slice (some ⟨w.heap.size,0,none⟩) need cap'):=by
 refine M3 hr hv.length.symm (λj a hj=>?_) hn hnew (by omega) hold hl hcap hrest e;have hj':j<l.length:=by
  rcases Nat.lt_or_ge j l.length with h1|h1
  ·exact h1
  ·rw[hc2 j h1]at hj;cases hj
 rw[hc j hj']at hj;obtain⟨v,h1,h2⟩:=hv.get j a hj;exact⟨hj',v,h1,h2⟩
end
section
variable {P:Program}
structure Src(P:Program)(sz n:Nat)(x:Value)(w:World)(vs:List Value):Prop where
 len:(Builtin.lenOf x).run P w=.ok n w
 here:(Builtin.firstCells sz n x).run P w=.ok vs.toArray w
 drew:(Builtin.firstCells sz n x).run P w.drew=.ok vs.toArray w.drew
structure amE(P:Program)(t u ty e:TypeId)(i:TypeInfo)(z:Value)(n:Nat)(x:Value)(w:World)(vs:List Value):Prop where
 nil0:n=0→(Builtin.append_ #[t,u] ty #[.slice none 0 0,x]).run P w=.ok (.slice none 0 0) w
 inp:∀{base:Addr}{sLen sCap:Nat}{w':World},sLen+n≤sCap→(storeCells (base.add (sLen*i.size)) vs).run P w=.ok () w'→(Builtin.append_ #[t,u] ty #[.slice (some base) sLen sCap,x]).run P w=.ok (.slice (some base) (sLen+n) sCap) w'
 out:∀{base:Option Addr}{sLen sCap:Nat}{olds:List Value},(Builtin.firstCells i.size sLen (.slice base sLen sCap)).run P w.drew=.ok olds.toArray w.drew→sLen≤sCap→sCap<sLen+n→(sLen+n)*i.bytes≤140737488355328→
  (Builtin.append_ #[t,u] ty #[.slice base sLen sCap,x]).run P w=.ok (.slice (some ⟨w.heap.size,0,none⟩) (sLen+n) (grownCap w (sLen+n) sCap e))
   (w.drew.alloc (.cells (olds++vs++(Builtin.zeroCells z.cells (grownCap w (sLen+n) sCap e-(sLen+n))).toList).toArray e))
theorem Src.run{t u ty e:TypeId}{i:TypeInfo}{z:Value}(ht:P.underlying t=some (.slice e))(hi:P.info? e=some i)(hz:i.zero=some z)(hby:1≤i.bytes)(hu:∀q,P.underlying u≠some (.int q)){du:TypeDesc}(y9:P.underlying u=some du)
  {n:Nat}{x:Value}{w:World}{vs:List Value}(hx:Src P i.size n x w vs) (hvs:n=0→vs=[]):amE P t u ty e i z n x w vs where
 nil0:=λh0=>by
  have e0:(#[t,u]:Array TypeId)[0]? = some t:=rfl;have e1:(#[t,u]:Array TypeId)[1]? = some u:=rfl;have hl0:=hx.len;have hf0:=hx.here;rw[h0]at hl0 hf0;have:=hvs h0;subst this;cases du with
  |int q=>exact absurd y9 (hu q)
  |_=>
   simp only[Builtin.append_,e0,e1,List.getElem?_toArray,List.getElem?_cons_zero,List.getElem?_cons_succ,Sem.run_bind,run_underlying ht,Result.andThen_ok,sizeOf,typeInfo,run_program,hi,Sem.run_pure,run_underlying y9,Bool.false_eq_true,if_false,hl0,Nat.zero_add,Nat.le_refl,if_true,Bool.not_false,hf0]
 inp:=λh1 h2=>NY (P:=P) (ty:=ty) ht hi hu y9 hx.len hx.here h1 h2
 out:=λh1 _ h2 h3=>Jz (P:=P) (ty:=ty) ht hi hz hu y9 hx.len hx.drew h1 h2 hby h3
theorem UM{t u ty e:TypeId}{i:TypeInfo}{z:Value}(hzs:z.cells.size=i.size)
  {n:Nat}{s:AV}{l:List AV}{H:AH}{k:AV→AH→Prop}(h:qP i.size i.bytes n s l H k) (hl:l.length=n*i.size) :
  ∃v H',k v H'∧∀f w su x vs,HR f H w→VR f s su→VL f l vs→amE P t u ty e i z n x w vs→∃r w' f',(Builtin.append_ #[t,u] ty #[su,x]).run P w=.ok r w'∧Step f H w f' H' w'∧VR f' v r:=by
 obtain⟨hs,h⟩:=aD h;have hs1:1≤i.size:=Nat.le_of_ble_eq_true hs;rcases gM h with⟨rfl,h⟩|⟨b,o,len,cap,sz,ex,rfl,h⟩
 ·rcases dn h with⟨h0,h⟩|⟨h0,h⟩
  ·have h0:=Nat.eq_of_beq_eq_true h0;refine⟨_,_,h,λf w su x vs hr hsu hv hx=>?_⟩;cases hsu;exact⟨.slice none 0 0,w,f,hx.nil0 h0,Step.refl hr,.ab⟩
  ·have hn0:n≠0:=λe=>by subst e;cases h0
   obtain⟨hb,h⟩:=aD h;have hb:n*i.bytes≤1099511627776:=Nat.le_of_ble_eq_true hb;obtain⟨c,h,h1,h2,h3⟩:=fm _ _ _ _ h;obtain⟨H',g1,g2,g3,g4⟩:=mr h;simp only[Nat.zero_add]at g3 h2 h3;refine⟨_,H',g1,λf w su x vs hr hsu hv hx=>?_⟩;cases hsu;have hro:=hx.out (base:=none) (sLen:=0) (sCap:=0) (olds:=[]) (by simp[Builtin.firstCells]) (Nat.le_refl _) (by omega) (by rw[Nat.zero_add];omega);rw[Nat.zero_add]at hro;obtain⟨f',s1,s2⟩:=O0 (fK.drew hr (w.drawn+1)) hv h2 (λj hj=>by rw[h3 j (by omega)];rfl) g2 g3 g4 hl (grownCap_ge w n 0 e) (rest:=(Builtin.zeroCells z.cells (grownCap w n 0 e-n)).toList) (by rw[rT,hzs]) e;exact⟨_,_,f',hro,Step.trans hr (Step.drew hr (w.drawn+1)) s1,s2⟩
 ·obtain⟨hsz,h⟩:=aD h;have hsz:=Nat.eq_of_beq_eq_true hsz;rw[aY]at h;have hh:=h;subst hsz;rcases dn hh with⟨hc,h⟩|⟨hc,h⟩
  ·have hc:len+n≤cap:=Nat.le_of_ble_eq_true hc;obtain⟨c,m,q,hb,h⟩:=dx h;obtain⟨hq,h⟩:=aD h;have hq:=Nat.le_of_ble_eq_true hq;obtain⟨c',h,h1,h2,h3⟩:=fm _ _ _ _ h;obtain⟨hm,h⟩:=aD h;have hm:o+len*i.size+l.length≤m:=Nat.le_of_ble_eq_true hm;obtain⟨H',g1,g2,g3,g4⟩:=gA h;refine⟨_,H',g1,λf w su x vs hr hsu hv hx=>?_⟩;cases hsu with
   |slice _ _ _ _ _ _ cap' y hb1 a1 a2 a3 a4=>
    have hv':=hv;have hst:∃w',(storeCells ((⟨f.blk b,y,none⟩:Addr).add (len*i.size)) vs).run P w=.ok () w'∧Step f H w f H' w':=by
     by_cases hne:vs=[]
     ·subst hne;refine⟨w,rfl,?_⟩;have:=hr.setCells hb1 hb (by omega) hm hv H' g2 g3 g4 h2 h3;exact this
     ·have hn0:n≠0:=λe=>hne (List.eq_nil_of_length_eq_zero (by rw[←hv.length,hl,e,Nat.zero_mul]));have hy:=a3 (by omega);subst hy;rw[addr_add,Nat.add_assoc];exact⟨_,oe (P:=P) hr hb1 hb (by omega) hm hv h1,hr.setCells hb1 hb (by omega) hm hv H' g2 g3 g4 h2 h3⟩
    obtain⟨w',r1,r2⟩:=hst;refine⟨_,w',f,hx.inp (by omega) r1,r2,?_⟩;exact .slice b o (len+n) cap i.size ex cap' y hb1 hc a2 a3 a4
  ·have hc:¬(len+n≤cap):=λhle=>by
    have hq:Nat.ble (Nat.add len n) cap=true:=Nat.ble_eq_true_of_le hle;rw[hq]at hc;cases hc
   obtain⟨hbt,h⟩:=aD h;have hbt:(len+n)*i.bytes≤1099511627776:=Nat.le_of_ble_eq_true hbt;rcases dn h with⟨hex,h⟩|⟨hex,h⟩
   ·obtain⟨c,m,q,hb,h⟩:=dx h;obtain⟨old,o1,o2,h⟩:=qj _ _ _ _ h;have o1:old.length=len*i.size:=o1;obtain⟨c1,h,p1,p2,p3⟩:=fm _ _ _ _ h;obtain⟨c2,h,q1,q2,q3⟩:=fm _ _ _ _ h;obtain⟨H',g1,g2,g3,g4⟩:=mr h;simp only[Nat.zero_add]at g3 q2 q3 p2 p3;refine⟨_,H',g1,λf w su x vs hr hsu hv hx=>?_⟩;cases hsu with
    |slice _ _ _ _ _ _ cap' y hb1 a1 a2 a3 a4=>
     have auy:cap'=cap:=by
      rcases Nat.lt_or_ge cap cap' with hlt|hge
      ·have:=(a4 hlt).1;rw[this]at hex;cases hex
      ·omega
     subst auy;have hrd:HR f H w.drew:=fK.drew hr (w.drawn+1);obtain⟨os,u1,u2,u3⟩:∃os,VL f old os∧(Builtin.firstCells i.size len (.slice (some ⟨f.blk b,y,none⟩) len cap')).run P w.drew=.ok os.toArray w.drew∧os.length=old.length:=by
      by_cases h0:len=0
      ·have:old=[]:=List.eq_nil_of_length_eq_zero (by rw[o1,h0,Nat.zero_mul]);subst this;exact⟨[],.nil,by simp[Builtin.firstCells,h0,loadCells,loadCellsFrom],rfl⟩
      ·have hy:=a3 (by omega);subst hy;obtain⟨os,w1,w2,w3,w4⟩:=xR (P:=P) hrd.toHRQ hb1 hb o2;rw[o1]at w4;exact⟨os,w1,by simp only[Builtin.firstCells];exact w4,w2⟩
     have hro:=hx.out (sLen:=len) (sCap:=cap') u2 (by omega) (by omega) (by omega);have hvv:VL f (old++l) (os++vs):=u1.append hv;have hll:(old++l).length=(len+n)*i.size:=by rw[List.length_append,o1,hl,Nat.add_mul]
     obtain⟨f',s1,s2⟩:=O0 hrd hvv (c:=c2) (λj hj=>by
       rw[List.length_append]at hj;by_cases hjo:j<old.length
       ·rw[q3 j (by omega),p2 j hjo,List.getElem?_append_left hjo]
       ·rw[show j=old.length+(j-old.length) by omega,q2 (j-old.length) (by omega),List.getElem?_append_right (by omega)];congr 1;omega) (λj hj=>by rw[List.length_append]at hj;rw[q3 j (by omega),p3 j (by omega)];rfl) g2 (by rw[List.length_append];exact g3) g4 hll (grownCap_ge w (len+n) cap' e)
       (rest:=(Builtin.zeroCells z.cells (grownCap w (len+n) cap' e-(len+n))).toList) (by rw[rT,hzs]) e
     exact⟨_,_,f',hro,Step.trans hr (Step.drew hr (w.drawn+1)) s1,s2⟩
   ·obtain⟨c,m,q,hb,h⟩:=dx h;obtain⟨hq,h⟩:=aD h;have hq:=Nat.le_of_ble_eq_true hq;obtain⟨c2,H1,H',g0,g1,g2,g3,t1,t2,t3,t4,q2,q1⟩:∃(c2:Bt AV) (H1 H':AH),((o=0∧m=len*i.size)∨(∀p,p<len*i.size→∃a,c.get? (o+p)=some a))∧k (.slice H.n 0 (len+n) (len+n) i.size false) H'∧H'.n=H.n+1∧
      H'.at H.n=.cells c2 (len*i.size+l.length) q∧H1.n=H.n∧H1.at b=.dead∧(∀x,x≠b→H1.at x=H.at x)∧(∀x,x≠H.n→H'.at x=H1.at x)∧
      (∀j a,c2.get? j=some a→(c.get? (o+j)=some a∧(j<len*i.size∨(o=0∧m=len*i.size)))∨∃p,p<l.length∧j=len*i.size+p∧l[p]? = some a)∧(∀a∈l,a.one=true):=by
     rcases dn h with⟨hf,h⟩|⟨_,h⟩
     ·rw[Bool.and_eq_true]at hf;have f1:o=0:=Nat.eq_of_beq_eq_true hf.1;have f2:m=len*i.size:=Nat.eq_of_beq_eq_true hf.2;obtain⟨c2,h,q1,q2,q3⟩:=fm _ _ _ _ h;obtain⟨H1,h,r1,r2,r3⟩:=gA h;obtain⟨H',g1,g2,g3,g4⟩:=mr h;rw[r1]at g1 g2 g3;have g4:∀x,x≠H.n→H'.at x=H1.at x:=λx hx=>g4 x (by rw[r1];exact hx);refine⟨c2,H1,H',.inl ⟨f1,f2⟩,g1,g2,by rw[g3,f2],r1,r2,r3,g4,λj a hj=>?_,q1⟩;by_cases h1:j<m
      ·rw[q3 j (.inl h1)]at hj;exact .inl ⟨by rw[f1,Nat.zero_add];exact hj,.inr ⟨f1,f2⟩⟩
      ·by_cases h2:j<m+l.length
       ·rw[show j=m+(j-m) by omega,q2 (j-m) (by omega)]at hj;exact .inr ⟨j-m,by omega,by omega,hj⟩
       ·rw[q3 j (.inr (by omega))]at hj;exact .inl ⟨by rw[f1,Nat.zero_add];exact hj,.inr ⟨f1,f2⟩⟩
     ·obtain⟨old,o1,o2,h⟩:=qj _ _ _ _ h;have o1:old.length=len*i.size:=o1;obtain⟨c1,h,p1,p2,p3⟩:=fm _ _ _ _ h;obtain⟨c2,h,q1,q2,q3⟩:=fm _ _ _ _ h;obtain⟨H1,h,r1,r2,r3⟩:=gA h;obtain⟨H',g1,g2,g3,g4⟩:=mr h;simp only[Nat.zero_add]at g3 q2 q3 p2 p3;rw[r1]at g1 g2 g3;have g4:∀x,x≠H.n→H'.at x=H1.at x:=λx hx=>g4 x (by rw[r1];exact hx);refine⟨c2,H1,H',.inr (λp hp=>⟨old[p]'(by omega),o2 p _ (List.getElem?_eq_getElem (by omega))⟩),g1,g2,by rw[←o1];exact g3,r1,r2,r3,g4,λj a hj=>?_,q1⟩;by_cases h1:j<old.length
      ·rw[q3 j (.inl h1),p2 j h1]at hj;exact .inl ⟨o2 j a hj,.inl (by omega)⟩
      ·by_cases h2:j<old.length+l.length
       ·rw[show j=old.length+(j-old.length) by omega,q2 (j-old.length) (by omega)]at hj;exact .inr ⟨j-old.length,by omega,by omega,hj⟩
       ·rw[q3 j (.inr (by omega)),p3 j (.inr (by omega))]at hj;cases hj
    refine⟨_,H',g1,λf w su x vs hr hsu hv hx=>?_⟩;have hd:f.dom b:=by cases hsu;assumption
    have hblt:b<H.n:=hr.dom b hd;have hown:(H.at b).sem.own=true:=by rw[hb];simp[dM.sem,gL.own];omega
    have hbn:b≠H.n:=by omega
    have hob:=hr.toHRQ.cells hd hb;obtain⟨cur,e',lo,hi',z1,z2,z3,z4,z5,z6⟩:=hob;have hlen:=hv.length;have q2:∀j a,c2.get? j=some a→(j<len*i.size∧c.get? (o+j)=some a)∨∃p,p<l.length∧j=len*i.size+p∧l[p]? = some a:=λj a hj=>by
     rcases q2 j a hj with⟨h1,h2⟩|h
     ·refine .inl ⟨?_,h1⟩;rcases h2 with h2|⟨e1,e2⟩
      ·exact h2
      ·have:=(z4 _ a h1).1;omega
     ·exact .inr h
    have hL:o+len*i.size≤f.lim b∨len*i.size=0:=by
     rcases g0 with⟨e1,e2⟩|g0
     ·exact .inl (by omega)
     ·by_cases h0:len*i.size=0
      ·exact .inr h0
      ·obtain⟨a,ha⟩:=g0 (len*i.size-1) (by omega);have:=(z4 _ a ha).1;exact .inl (by omega)
    cases hsu with
    |slice _ _ _ _ _ _ cap' y hb1 a1 a2 a3 a4=>
     by_cases hroom:len+n≤cap'
     ·
      obtain⟨_,hlim⟩:=a4 (by omega);have hy:=a3 (by omega);subst hy;have hfit:o+len*i.size+l.length≤f.lim b:=by
       have:(len+n)*i.size≤cap'*i.size:=Nat.mul_le_mul_right _ hroom;rw[Nat.add_mul]at this;omega
      have hst:(storeCells ((⟨f.blk b,f.off b+o,none⟩:Addr).add (len*i.size)) vs).run P w=.ok () (Go.X.setCells w (f.blk b) (f.off b+o+len*i.size) vs):=by
       rw[addr_add];have:=wk P vs w (f.blk b) (f.off b+o+len*i.size) 0 (hv.oneCell q1) (λj hj=>by
        rw[Nat.add_zero,Nat.add_assoc,Nat.add_assoc];exact⟨hr.there' hd hb (by omega),hr.YS hd hb (by omega) (by omega)⟩)
       simpa using this
      obtain⟨y1,y2,y3,y4,y5,y6⟩:=rP vs w (f.blk b) (f.off b+o+len*i.size) z1;refine⟨_,_,f.ext H.n (f.blk b) (f.off b+o) (cap'*i.size),hx.inp hroom hst,?_,?_⟩
      ·refine HR.move hr hd hown H' _ _ _ (f.off b+o) (cap'*i.size) g2 g3 (by rw[t4 b hbn];exact t2) (λx h1 h2=>by rw[t4 x h2,t3 x h1]) (by simp[dM.sem,gL.own];omega) ?_ y1 y2 y3 y4 y5 y6;have hle:=f.qL (fK.fresh hr) (f.blk b) (f.off b+o) (cap'*i.size);refine⟨_,e',lo,hi',rfl,?_,?_,λj a hj=>?_,λhq2 j hj=>?_,z6⟩
       ·rw[aI.jj,aI.rO,BK];omega
       ·rw[aI.rO];have:(len+n)*i.size≤cap'*i.size:=Nat.mul_le_mul_right _ hroom;rw[Nat.add_mul]at this;omega
       ·rw[aI.jj];rcases q2 j a hj with⟨h1,h2⟩|⟨p,h1,h2,h3⟩
        ·obtain⟨_,v,w1,w2⟩:=z4 _ a h2;refine⟨by omega,v,?_,w2.up hle⟩;rw[qM _ _ _ _ (.inl (by omega)),Nat.add_assoc];exact w1
        ·obtain⟨v,w1,w2⟩:=hv.get p a h3;refine⟨by omega,v,?_,w2.up hle⟩;rw[h2,←Nat.add_assoc,yM vs cur _ p (by omega) (by omega),w1]
       ·rw[aI.jj,aI.rO]at *;have:=z5 hq2 (o+j) (by omega);rw[Nat.add_assoc];exact this
      ·have:=VR.slice (f:=f.ext H.n (f.blk b) (f.off b+o) (cap'*i.size)) H.n 0 (len+n) (len+n) i.size false cap' (f.off b+o) (aI.qg _ _ _ _ _) (Nat.le_refl _) hroom (λ_=>by rw[aI.jj];rfl) (λ_=>⟨rfl,by rw[aI.rO,Nat.zero_add];exact Nat.le_refl _⟩);rw[aI.gZ]at this;exact this
     ·
      have hrd:HR f H w.drew:=fK.drew hr (w.drawn+1);obtain⟨os,u1,u2⟩:∃vs:List Value,vs.length=len*i.size∧(∀j,j<len*i.size→w.cell? ⟨f.blk b,f.off b+(o+j),none⟩=vs[j]?):=by
       rcases hL with hL|h0
       ·exact TO hr hd hb hL
       ·exact⟨[],by rw[h0];rfl,λj hj=>by omega⟩
      have hfirst:(Builtin.firstCells i.size len (.slice (some ⟨f.blk b,y,none⟩) len cap')).run P w.drew=.ok os.toArray w.drew:=by
       by_cases h0:len*i.size=0
       ·have:os=[]:=List.eq_nil_of_length_eq_zero (by rw[u1,h0]);subst this;simp[Builtin.firstCells,h0,loadCells,loadCellsFrom]
       ·have hl0:len≠0:=λe=>h0 (by rw[e,Nat.zero_mul]);have hy:=a3 (by omega);subst hy;simp only[Builtin.firstCells];rw[←u1];exact run_loadCells_list (P:=P) w.drew ⟨f.blk b,f.off b+o,none⟩ os (λj v hj=>by
         have hjl:j<os.length:=by
          rcases Nat.lt_or_ge j os.length with h|h
          ·exact h
          ·rw[List.getElem?_eq_none h]at hj;cases hj
         rw[addr_add,Nat.add_assoc];exact(u2 j (by omega)).trans hj)
      have hro:=hx.out (sLen:=len) (sCap:=cap') hfirst (by omega) (by omega) (by omega);have hrf:=hrd.forget H1 t1 (λx=>by by_cases e:x=b;subst e;exact .inl t2;exact .inr (t3 x e));obtain⟨f',s1,s2⟩:=M3 hrf (H':=H') (q:=q) (n:=len*i.size+l.length) (vs:=os++vs) (by rw[List.length_append,u1,hlen]) (c:=c2) (λj a hj=>by
        rcases q2 j a hj with⟨h1,h2⟩|⟨p,h1,h2,h3⟩
        ·obtain⟨v,w1,w2⟩:=hr.toHRQ.cell hd hb h2;rw[u2 j h1]at w1;exact⟨by omega,v,by rw[List.getElem?_append_left (by omega)];exact w1,w2⟩
        ·obtain⟨v,w1,w2⟩:=hv.get p a h3;exact⟨by omega,v,by rw[List.getElem?_append_right (by omega),h2,u1,Nat.add_sub_cancel_left];exact w1,w2⟩)
       (by rw[t1];exact g2) (by rw[t1];exact g3) (by omega) (λx hx=>t4 x (by rw[t1]at hx;exact hx)) (need:=len+n) (sz:=i.size) (by rw[Nat.add_mul,hl]) (grownCap_ge w (len+n) cap' e)
       (rest:=(Builtin.zeroCells z.cells (grownCap w (len+n) cap' e-(len+n))).toList) (by rw[rT,hzs]) e
      rw[t1]at s2;exact⟨_,_,f',hro,Step.trans hr (Step.drew hr (w.drawn+1)) (Step.trans hrd (Step.forget hrd t1 (λx=>by by_cases e:x=b;subst e;exact .inl ⟨hd,t2⟩;exact .inr (t3 x e))) s1),s2⟩
end
noncomputable section
def ayT(sz:Nat)(x:AV)(H:AH)(k:Nat→List AV→Prop):Prop:=lenOf x λn=>cellsOf sz n x H λl=>k n l
def apc(sz bytes:Nat)(z:List AV)(s x:AV)(H:AH)(k:AV→AH→Prop):Prop:=nX x λ_ n=>bT (Nat.ble 1 sz) (bT (Nat.ble (Nat.mul n bytes) 1099511627776) (qP sz bytes n s (mV n z) H k))
def amF(P:Program)(t u:TypeId)(s x:AV)(H:AH)(k:AV→AH→Prop):Prop:=
 match P.underlying t,P.underlying u with
 |some (.slice e),some (.slice _)=>(match P.info? e,zeroCells P e with
  |some i,some z=>bT (Nat.beq z.length i.size) (bT (Nat.ble 1 i.bytes) (cV i.size i.bytes s x H k))
  |_,_=>False)
 |some (.slice e),some (.int _)=>(match P.info? e,zeroCells P e with
  |some i,some z=>bT (Nat.beq z.length i.size) (bT (Nat.ble 1 i.bytes) (apc i.size i.bytes z s x H k))
  |_,_=>False)
 |_,_=>False
def YT(P:Program)(t:TypeId)(d s:AV)(H:AH)(k:AV→AH→Prop):Prop:=
 match P.underlying t with
 |some (.slice e)=>(match P.info? e with|some i=>bT (Nat.ble 1 i.size) (axT i.size d s H k)|none=>False)
 |_=>False
def JA:List AV→(Nat→Nat→Prop)→Prop
 |[],k=>k 0 0
 |a::l,k=>nX a λc b=>bT (Nat.beq c 1) (bT (Nat.ble b 255) (JA l λn x=>bj (Nat.succ n) λn'=>bj (Nat.add b (Nat.mul 256 x)) λx'=>k n' x'))
def za:Nat→Nat→List AV
 |0,_=>[]
 |n+1,x=>.int 1 (.ofNat (Nat.mod x 256))::za n (Nat.div x 256)
def Df(a:AV)(H:AH)(k:AV→Prop):Prop:=rQ a (λk=>k (.str 0 0)) (λb o len _ sz _ k=>bT (Nat.beq sz 1) (fH H b λc _ _=>xP c len o λl=>JA l λn x=>k (.str n x))) k
def FG(nw:Lay)(a:AV)(k:AV→AH→Prop):Prop:=fV a λn x=>iM (za n x) .e 0 λc m=>bT (Nat.beq m n) (nw (.cells c m 1) λb H'=>k (.slice b 0 n n 1 false) H')
def YU(P:Program)(s d:TypeId)(a:AV)(H:AH)(k:AV→AH→Prop):Prop:=
 match P.underlying s,P.underlying d with
 |some (.int _),some (.int q)=>YN (kn q) a λv=>k v H
 |some .string,some .string=>fV a λ_ _=>k a H
 |some (.slice e),some .string=>(match P.underlying e with|some (.int .u8)=>Df a H λv=>k v H|_=>False)
 |_,_=>False
def xUn(P:Program)(op:UnOp)(t:TypeId)(a:AV)(k:AV→Prop):Prop:=
 match op,P.underlying t with
 |.neg,some (.int q)=>ayQ (kn q) a k
 |.not,_=>aup a k
 |.xor,some (.int q)=>YM (kn q) (.int (kn q) (if q.signed then -1 else q.max)) a k
 |_,_=>False
def AK(P:Program)(t:TypeId):Bool:=match P.underlying t with|some (.interface _)=>false|some _=>true|none=>false
def afW(P:Program)(t:TypeId)(a:AV)(k:AV→Prop):Prop:=bT (AK P t) (k (.iface t a))
def u7(u:Nat)(z:AV)(ok:Bool)(a:AV)(k:AV→Prop):Prop:=
 (match a with
 |.iface t v=>λk=>bI (Nat.beq t u) (bI ok (k (.aE [v,.bool true])) (k v)) (bT ok (k (.aE [z,.bool false])))
 |.dS=>λk=>bT ok (k (.aE [z,.bool false]))
 |_=>λ_=>False:(AV→Prop)→Prop) k
def UN(P:Program)(u:TypeId)(ok:Bool)(a:AV)(k:AV→Prop):Prop:=
 bT (AK P u) (match P.info? u with|some i=>(match i.zero with|some z=>u7 u (ig z) ok a k|none=>False)|none=>False)
def O1(P:Program)(t:TypeId)(a:AV)(H:AH)(k:AV→AH→Prop):Prop:=
 match P.underlying t with
 |some .string=>fV a λn x=>aA H (.iter n x 0) λb H'=>k (.ptr b 0) H'
 |_=>False
def afX(o:dM)(k:Nat→Nat→Nat→Prop):Prop:=match o with|.iter n x p=>k n x p|_=>False
def apd(a:AV)(H:AH)(k:AV→AH→Prop):Prop:=nY a λb o=>bT (Nat.beq o 0) (H.t.fH b λob=>afX ob λn x p=>
 bI (Nat.ble (Nat.succ p) n)
  (bj (byteAt x p) λc=>bT (Nat.ble c 127) (bj (Nat.succ p) λp'=>jx H b (.iter n x p') λH'=>k (.aE [.bool true,.int 0 (.ofNat p),.int 2 (.ofNat c)]) H'))
  (k (.aE [.bool false]) H))
def GJ(a b:AV)(k:AV→Prop):Prop:=j0 a λc x=>j0 b λ_ y=>bI (bO x y) (k (.int c y)) (k (.int c x))
def xW(a b:AV)(k:AV→Prop):Prop:=j0 a λc x=>j0 b λ_ y=>bI (bO y x) (k (.int c y)) (k (.int c x))
def oh(g:AV→AV→(AV→Prop)→Prop):List AV→AV→(AV→Prop)→Prop
 |[],a,k=>k a
 |b::l,a,k=>g a b λc=>oh g l c k
def afY(a:AV)(H:AH)(k:AV→Prop):Prop:=(match a with
 |.rN=>λk=>k (.int 0 (.ofNat 0))
 |.map b=>λk=>H.t.fH b λo=>(match o with|.map es _=>bj es.length λn=>k (.int 0 (.ofNat n))|_=>False)
 |_=>λ_=>False:(AV→Prop)→Prop) k
def amG(P:Program)(t:TypeId)(a:AV)(H:AH)(k:AV→Prop):Prop:=
 match P.underlying t with
 |some .string=>sLen a k
 |some (.slice _)=>bR a k
 |some (.array n _)=>k (.int 0 (.ofNat n))
 |some (.map _ _)=>afY a H k
 |_=>False
def afZ(nw:Lay)(sz bytes:Nat)(z:List AV)(l c:AV)(k:AV→AH→Prop):Prop:=
 nX l λ_ n=>nX c λ_ m=>bT (Nat.ble n m) (bT (Nat.ble (Nat.mul m bytes) 1099511627776) (bT (Nat.ble m 1099511627776)
  (iM (mV m z) .e 0 λt q=>bT (Nat.beq q (Nat.mul m sz)) (nw (.cells t q 0) λb H'=>k (.slice b 0 n m sz true) H'))))
def O2(P:Program)(nw:Lay)(t:TypeId)(l c:AV)(k:AV→AH→Prop):Prop:=
 match P.underlying t with
 |some (.slice e)=>(match P.info? e,zeroCells P e with
  |some i,some z=>bT (Nat.ble 1 i.size) (bT (Nat.beq z.length i.size) (afZ nw i.size i.bytes z l c k))
  |_,_=>False)
 |_=>False
end
section
variable {P:Program}
theorem src_ok{sz:Nat}{x:AV}{H:AH}{k:Nat→List AV→Prop}(h:ayT sz x H k):∃n l,k n l∧l.length=n*sz∧∀f w u,HR f H w→VR f x u→∃vs,VL f l vs∧Src P sz n u w vs:=by
 obtain⟨n,h,h1,h2⟩:=FF h;obtain⟨l,h,h3,h4,h5⟩:=GI (P:=P) h;have hll:l.length=n*sz:=by
  by_cases hx:x=.ab
  ·rw[h3 hx,h1 hx,Nat.zero_mul];rfl
  ·exact h4 hx
 refine⟨n,l,h,hll,λf w u hr hu=>?_⟩;obtain⟨p,c,rfl⟩:=h2 f u hu;obtain⟨vs,g1,g2⟩:=h5 f w _ hr.toHRQ hu;exact⟨vs,g1,⟨by simp[Builtin.lenOf],g2 w rfl,g2 w.drew rfl⟩⟩
theorem af0{t u ty e:TypeId}{kn kq:IntKind}{i:TypeInfo}{z:Value}(ht:P.underlying t=some (.slice e))(hu:P.underlying u=some (.int kn))(hi:P.info? e=some i)(hz:i.zero=some z)(hzs:z.cells.size=i.size)(hby:1≤i.bytes)(hpos:1≤i.size){n:Nat}(hn:n*i.bytes≤1099511627776){w:World} :
  amE P t u ty e i z n (.int kq (.ofNat n)) w (List.flatten (List.replicate n z.cells.toList)):=by
 have hnb:n≤1099511627776:=Nat.le_trans (Nat.le_mul_of_pos_right n hby) hn;have hw:IntKind.i64.wrap (Int.ofNat n)=Int.ofNat n:=by rw[IntKind.wrap_i64];simp only[Int.ofNat_eq_natCast];omega
 have hneg:¬(Int.ofNat n<0):=by simp
 have h48i:¬((2:Int)^48<Int.ofNat n*(i.bytes:Int)):=by
  have:Int.ofNat n*(i.bytes:Int)=((n*i.bytes:Nat):Int):=by simp
  rw[this];omega
 have e0:(#[t,u]:Array TypeId)[0]? = some t:=rfl;have e1:(#[t,u]:Array TypeId)[1]? = some u:=rfl;have happ:∀w:World,(if n*i.size=0 then (pure #[]:Sem (Array Value)) else do pure (Builtin.zeroCells (←zeroValue e).cells n)).run P w=.ok (List.flatten (List.replicate n z.cells.toList)).toArray w:=λw=>by
  have hzv:(zeroValue e).run P w=.ok z w:=by simp[zeroValue,typeInfo,hi,hz]
  by_cases h0:n*i.size=0
  ·rw[if_pos h0];rcases Nat.mul_eq_zero.1 h0 with g|g
   ·subst g;simp
   ·have:z.cells = #[]:=by rw[←Array.size_eq_zero_iff,hzs,g]
    rw[this];simp
  ·rw[if_neg h0];have:Builtin.zeroCells z.cells n=(List.flatten (List.replicate n z.cells.toList)).toArray:=by
    unfold Builtin.zeroCells;exact og z.cells n (by rw[hzs];exact Nat.pos_of_ne_zero λg=>h0 (by rw[g,Nat.mul_zero]))
   simp only[Sem.run_bind,hzv,Result.andThen_ok,Sem.run_pure,this]
 refine⟨λh0=>?_,λ{base sLen sCap w'} h1 h2=>?_,λ{base sLen sCap olds} h1 hle h2 h3=>?_⟩
 ·subst h0;have hw0:IntKind.i64.wrap 0=0:=by decide
  simp[Builtin.append_,run_underlying ht,run_underlying hu,sizeOf,typeInfo,hi,asInt,asIntOf,hw0]
 ·rw[show(Int.ofNat n)=(n:Int)from rfl];have hw':IntKind.i64.wrap (n:Int)=(n:Int):=hw;have hneg':¬((n:Int)<0):=by omega
  have h48':¬(281474976710656<(n:Int)*(i.bytes:Int)):=by
   have:(n:Int)*(i.bytes:Int)=((n*i.bytes:Nat):Int):=by simp
   rw[this];omega
  by_cases h0:n*i.size=0
  ·have hv:List.flatten (List.replicate n z.cells.toList)=[]:=by
    rcases Nat.mul_eq_zero.1 h0 with g|g
    ·subst g;simp
    ·have:z.cells = #[]:=by rw[←Array.size_eq_zero_iff,hzs,g]
     rw[this];simp
   rw[hv]at h2;simp[Builtin.append_,run_underlying ht,run_underlying hu,sizeOf,typeInfo,zeroValue,hi,hz,asInt,asIntOf,hw',hneg',h48',h0,h1,h2]
  ·have hzc:Builtin.zeroCells z.cells n=(List.flatten (List.replicate n z.cells.toList)).toArray:=by
    unfold Builtin.zeroCells;exact og z.cells n (by rw[hzs];exact Nat.pos_of_ne_zero λg=>h0 (by rw[g,Nat.mul_zero]))
   simp[Builtin.append_,run_underlying ht,run_underlying hu,sizeOf,typeInfo,zeroValue,hi,hz,asInt,asIntOf,hw',hneg',h48',h0,h1,hzc,h2]
 ·have hmax:IntKind.max .i64=9223372036854775807:=by decide
  have hle2:(sLen+n)≤(sLen+n)*i.bytes:=Nat.le_mul_of_pos_right _ hby;have hfit:=growslice_fits h2 h3;have h:=Lib.run_append_grow_zeros (P:=P) w t u ty e i z kq kn ht hu hi hz base sLen sCap olds h1 n (by omega) hpos h2 (by omega) (by omega) (by omega);rw[show(Int.ofNat n)=(n:Int)from rfl,h];congr 2;apply congrArg (λa=>Obj.cells a e);apply Array.ext';have hzc:(Builtin.zeroCells z.cells n)=(List.flatten (List.replicate n z.cells.toList)).toArray:=by
   unfold Builtin.zeroCells;exact og z.cells n (by rw[hzs];exact hpos)
  rw[hzc];simp
theorem aqJ{t u ty:TypeId}{s x:AV}{H:AH}{k:AV→AH→Prop}(h:amF P t u s x H k) :
  ∃v H',k v H'∧∀f w su xu,HR f H w→VR f s su→VR f x xu→∃r w' f',(Builtin.append_ #[t,u] ty #[su,xu]).run P w=.ok r w'∧Step f H w f' H' w'∧VR f' v r:=by
 unfold amF at h;split at h
 ·rename_i e e2 ht hu;split at h
  ·rename_i i z hi hz;obtain⟨h1,h⟩:=aD h;obtain⟨h2,h⟩:=aD h;have e1:=Nat.eq_of_beq_eq_true h1;have e2:=Nat.le_of_ble_eq_true h2;obtain⟨i',zv,hi',hzv,hzl⟩:=kO hz;rw[hi]at hi';injection hi' with hi';subst hi';obtain⟨n,l,h,hl,hs⟩:=src_ok (P:=P) h;have hzs:zv.cells.size=i.size:=by
    have h1:=(hzl ⟨λ_=>False,id,id,id⟩).length;have h2:zv.cells.toList.length=zv.cells.size:=Array.length_toList;omega
   obtain⟨v,H',g1,g2⟩:=UM (P:=P) (t:=t) (u:=u) (ty:=ty) (e:=e) hzs h hl;refine⟨v,H',g1,λf w su xu hr h1 h2=>?_⟩;obtain⟨vs,s1,s2⟩:=hs f w xu hr h2;exact g2 f w su xu vs hr h1 s1 (s2.run ht hi hzv (by omega) (λq hq=>by rw[hu]at hq;cases hq) hu λe0=>List.eq_nil_of_length_eq_zero (by rw[←s1.length,hl,e0,Nat.zero_mul]))
  ·exact h.elim
 ·rename_i e kn ht hu;split at h
  ·rename_i i z hi hz;obtain⟨h1,h⟩:=aD h;obtain⟨h2,h⟩:=aD h;have e1:=Nat.eq_of_beq_eq_true h1;have e2:=Nat.le_of_ble_eq_true h2;obtain⟨i',zv,hi',hzv,hzl⟩:=kO hz;rw[hi]at hi';injection hi' with hi';subst hi';have hzs:zv.cells.size=i.size:=by
    have h1:=(hzl ⟨λ_=>False,id,id,id⟩).length;have h2:zv.cells.toList.length=zv.cells.size:=Array.length_toList;omega
   unfold apc at h;obtain⟨q,n,rfl,h⟩:=jy h;obtain⟨h4,h⟩:=aD h;have e4:1≤i.size:=Nat.le_of_ble_eq_true h4;obtain⟨h3,h⟩:=aD h;have e3:n*i.bytes≤1099511627776:=Nat.le_of_ble_eq_true h3;obtain⟨v,H',g1,g2⟩:=UM (P:=P) (t:=t) (u:=u) (ty:=ty) (e:=e) hzs h (by rw[yP,e1]);refine⟨v,H',g1,λf w su xu hr h1 h2=>?_⟩;have hx:=h2.bB;subst hx;exact g2 f w su _ _ hr h1 (VL.mV (hzl f) n) (af0 ht hu hi hzv hzs e2 e4 e3)
  ·exact h.elim
 ·exact h.elim
theorem amH{t u ty:TypeId}{d s:AV}{H:AH}{k:AV→AH→Prop}(h:YT P t d s H k) :
  ∃v H',k v H'∧∀f w du su,HR f H w→VR f d du→VR f s su→∃r w' f',(Builtin.copy_ #[t,u] ty #[du,su]).run P w=.ok r w'∧Step f H w f' H' w'∧VR f' v r:=by
 unfold YT at h;split at h
 ·rename_i e ht;split at h
  ·rename_i i hi;obtain⟨h0,h⟩:=aD h;have e0:=Nat.le_of_ble_eq_true h0;obtain⟨n,h,n1,n2⟩:=FF h;obtain⟨m,h,m1,m2⟩:=FF h;rw[aY]at h;obtain⟨l,h,l1,l2,l3⟩:=GI (P:=P) h;have hll:l.length=Nat.min n m*i.size:=by
    by_cases hx:s=.ab
    ·rw[l1 hx,n1 hx];simp
    ·exact l2 hx
   have e0':(#[t,u]:Array TypeId)[0]? = some t:=rfl;have hrun:∀{w:World} {p c}{su:Value}{q:Option Addr}{vs:List Value}{w':World},su=.slice q n c→(Builtin.firstCells i.size (Nat.min n m) su).run P w=.ok vs.toArray w→
     (match p with|some a=>(storeCells a vs).run P w=.ok () w'|none=>w'=w)→∀c',(Builtin.copy_ #[t,u] ty #[.slice p m c',su]).run P w=.ok (goInt (Nat.min n m)) w':=by
    intro w p c su q vs w' hsu hf hst c';subst hsu;cases p with
    |none=>
     subst hst;simp[Builtin.copy_,run_underlying ht,Builtin.lenOf,sizeOf,typeInfo,hi,hf]
    |some a=>simp[Builtin.copy_,run_underlying ht,Builtin.lenOf,sizeOf,typeInfo,hi,hf,hst]
   rcases gM h with⟨rfl,h⟩|⟨b,o,len,cap,sz,ex,rfl,h⟩
   ·refine⟨_,_,h,λf w du su hr h1 h2=>?_⟩;cases h1;have hm:=m1 rfl;subst hm;obtain⟨p,c,rfl⟩:=n2 f su h2;obtain⟨vs,g1,g2⟩:=l3 f w _ hr.toHRQ h2;exact⟨_,w,f,hrun rfl (g2 w rfl) rfl 0,Step.refl hr,.int 0 _⟩
   ·obtain⟨_,h⟩:=aD h;obtain⟨c,mm,q,hb,h⟩:=dx h;obtain⟨hq,h⟩:=aD h;have hq:=Nat.le_of_ble_eq_true hq;obtain⟨c',h,p1,p2,p3⟩:=fm _ _ _ _ h;obtain⟨hm,h⟩:=aD h;have hm:=Nat.le_of_ble_eq_true hm;obtain⟨H',g1,g2,g3,g4⟩:=gA h;refine⟨_,H',g1,λf w du su hr h1 h2=>?_⟩;obtain⟨pp,cc,rfl⟩:=n2 f su h2;obtain⟨vs,s1,s2⟩:=l3 f w _ hr.toHRQ h2;have hd:=m2 f du h1;cases h1 with
    |slice _ _ _ _ _ _ cap' y hb1 a1 a2 a3 a4=>
     obtain⟨_,_,hd⟩:=hd;injection hd with d1 d2 d3;have hst:∃w',(storeCells (⟨f.blk b,y,none⟩:Addr) vs).run P w=.ok () w'∧Step f H w f H' w':=by
      by_cases hne:vs=[]
      ·subst hne;exact⟨w,rfl,hr.setCells hb1 hb (by omega) hm s1 H' g2 g3 g4 p2 p3⟩
      ·have hn0:m≠0:=λe=>hne (List.eq_nil_of_length_eq_zero (by rw[←s1.length,hll,e];simp));have hy:=a3 (by omega);subst hy;exact⟨_,oe (P:=P) hr hb1 hb (by omega) hm s1 p1,hr.setCells hb1 hb (by omega) hm s1 H' g2 g3 g4 p2 p3⟩
     obtain⟨w',r1,r2⟩:=hst;rw[d2];exact⟨_,w',f,hrun rfl (s2 w rfl) r1 cap',r2,.int 0 _⟩
  ·exact h.elim
 ·exact h.elim
end
section
variable {P:Program}
theorem GK:∀n x,(za n x).length=n
 |0,_=>rfl
 |n+1,x=>by simp[za,GK n]
theorem M4(f:aI):∀n x,VL f (za n x) ((iK n x).map λb=>Value.int .u8 b.toNat)
 |0,_=>.nil
 |n+1,x=>by
  simp only[za,iK,List.map_cons];refine .cons _ _ _ _ ?_ (M4 f n (x/256));have:((UInt8.ofNat (x%256)).toNat:Int)=.ofNat (Nat.mod x 256):=by
   change ((UInt8.ofNat (x%256)).toNat:Int)=((x%256:Nat):Int)
   simp
  rw[this];exact VR.int 1 _
theorem O3:∀(l:List AV) (k:Nat→Nat→Prop),JA l k→∃x,k l.length x∧x<256^l.length∧∃ns:List Int,(∀f vs,VL f l vs→vs=ns.map (Value.int .u8))∧∀r:ByteArray,ns.foldl (λr n=>r.push (UInt8.ofNat n.toNat)) r=⟨(r.data.toList++iK l.length x).toArray⟩
 |[],k,h=>⟨0,h,by simp,[],λf vs hv=>by cases hv;rfl,λr=>by simp[iK]⟩
 |a::l,k,h=>by
  obtain⟨c,b,rfl,h⟩:=jy h;obtain⟨h1,h⟩:=aD h;obtain⟨h2,h⟩:=aD h;have e1:=Nat.eq_of_beq_eq_true h1;have e2:=Nat.le_of_ble_eq_true h2;have hh:=h;subst e1;obtain⟨x,h3,h4,ns,h5,h6⟩:=O3 l _ hh;rw[aY,aY]at h3;have hx:Nat.add b (Nat.mul 256 x)=b+256*x:=rfl;refine⟨b+256*x,h3,?_,(b:Int)::ns,λf vs hv=>?_,λr=>?_⟩
  ·rw[List.length_cons,Nat.pow_succ];omega
  ·cases hv with
   |cons _ v _ vs hr hl=>
    rw[h5 f vs hl,hr.bB];rfl
  ·rw[List.foldl_cons,h6];apply ByteArray.ext;apply Array.ext';simp only[List.length_cons,iK];rw[show(b+256*x)%256=b by omega,show(b+256*x)/256=x by omega];simp
theorem YV{a:AV}{H:AH}{k:AV→Prop}(h:Df a H k) :
  ∃v,k v∧∀f w u,HRQ f H.sem w→VR f a u→∃r,(Conv.bytesToString u).run P w=.ok r w∧VR f v r:=by
 rcases lE h with⟨rfl,h⟩|⟨b,o,len,cap,sz,ex,rfl,h⟩
 ·refine⟨_,h,λf w u hr hu=>?_⟩;cases hu;exact⟨.string .empty,by simp[Conv.bytesToString],VR.str 0 0 (by decide)⟩
 ·obtain⟨_,h⟩:=aD h;obtain⟨c,n,m,hb,h⟩:=dx h;obtain⟨l,l1,l2,h⟩:=qj _ _ _ _ h;obtain⟨x,h,hx,ns,h1,h2⟩:=O3 _ _ h;refine⟨_,h,λf w u hr hu=>?_⟩;cases hu with
  |slice _ _ _ _ _ _ cap' y hb1 a1 a2 a3 a4=>
   obtain⟨vs,g1,g4⟩:∃vs,VL f l vs∧(loadCells ⟨f.blk b,y,none⟩ len).run P w=.ok vs.toArray w:=by
    by_cases h0:len=0
    ·have:l=[]:=List.eq_nil_of_length_eq_zero (by rw[l1,h0]);subst this;exact⟨[],.nil,by simp[h0,loadCells,loadCellsFrom]⟩
    ·have hy:=a3 (by omega);subst hy;obtain⟨vs,g1,g2,g3,g4⟩:=xR (P:=P) hr hb1 hb l2;rw[l1]at g4;exact⟨vs,g1,g4⟩
   rw[h1 f vs g1]at g4;refine⟨_,run_bytesToString w _ len cap' ns g4,?_⟩;rw[h2];exact VR.str _ _ hx
theorem amI{s d:TypeId}{a:AV}{H:AH}{k:AV→AH→Prop}(h:YU P s d a H k) :
  ∃v,k v H∧∀f w u,HRQ f H.sem w→VR f a u→∃r,(convert s d u).run P w=.ok r w∧VR f v r:=by
 unfold YU at h;split at h
 ·rename_i q1 q hs hd;rcases afJ h with h|⟨m,r,rfl,hc,h⟩
  case inr=>
   refine⟨_,h,λf w u hr hu=>?_⟩;cases hu with
   |FB _ _ z hz=>
    have hq:q=.u64:=by cases q<;>first|rfl|(simp[kn]at hc)
    subst hq;refine⟨.int .u64 (IntKind.u64.wrap z),?_,.yL m r _ ?_ ?_⟩
    ·simp[convert,run_underlying hs,run_underlying hd,Conv.intToInt]
    ·simp[IntKind.wrap,IntKind.bits,IntKind.signed];omega
    ·simpa[IntKind.wrap,IntKind.bits,IntKind.signed]using hz
  obtain⟨c,x,rfl,h⟩:=eV h;refine⟨_,jz h,λf w u hr hu=>⟨_,?_,.int _ _⟩⟩;rw[hu.bB];simp[convert,run_underlying hs,run_underlying hd,Conv.intToInt,Gz]
 ·rename_i hs hd;obtain⟨n,x,rfl,h⟩:=gC h;refine⟨_,h,λf w u hr hu=>⟨u,?_,hu⟩⟩;rw[hu.jl.1];simp[convert,run_underlying hs,run_underlying hd]
 ·rename_i e hs hd;split at h
  ·rename_i he;obtain⟨v,g1,g2⟩:=YV (P:=P) h;refine⟨v,g1,λf w u hr hu=>?_⟩;obtain⟨r,g3,g4⟩:=g2 f w u hr hu;refine⟨r,?_,g4⟩;have hsl:∃p l c,u=.slice p l c:=by
    rcases lE h with⟨rfl,_⟩|⟨b,o,len,cap,sz,ex,rfl,_⟩<;>cases hu<;>exact⟨_,_,_,rfl⟩
   obtain⟨p,l,c,rfl⟩:=hsl;rw[run_convert_bytes_string w s d e p l c hs he hd];exact g3
  ·exact h.elim
 ·exact h.elim
theorem auz{op:UnOp}{t:TypeId}{a:AV}{k:AV→Prop}(h:xUn P op t a k) :
  ∃v,k v∧∀f u,VR f a u→∃r,(∀w,(Op.unary op u).run P w=.ok r w)∧VR f v r:=by
 unfold xUn at h;split at h
 ·rename_i q ht;obtain⟨c,x,rfl,h⟩:=eV h;obtain⟨h1,h⟩:=aD h;have e:=Nat.eq_of_beq_eq_true h1;refine⟨_,jz h,λf u hu=>⟨_,λw=>?_,.int _ _⟩⟩;rw[hu.bB,e];simp[Op.unary,Op.intArith];rfl
 ·obtain⟨b,rfl,h⟩:=amr h;exact⟨_,h,λf u hu=>⟨.bool (!b),λw=>by rw[hu.pX];rfl,.bool _⟩⟩
 ·rename_i q ht;obtain⟨v,g1,g2⟩:=UF (P:=P) (op:=.xor) (t:=t) h;refine⟨v,g1,λf u hu=>?_⟩;have ha:∃n,u=.int q n:=by
   obtain⟨x,y,e1,rfl,_⟩:=fC h;rw[hu.bB,Gz];exact⟨y,rfl⟩
  obtain⟨n,rfl⟩:=ha;have h0:=VR.int (f:=f) (kn q) (if q.signed then -1 else q.max);rw[Gz]at h0;obtain⟨r,g3,g4⟩:=g2 f _ _ h0 hu;refine⟨r,λw=>?_,g4⟩;have:=g3 w;simp only[binOp,ne_eq,not_true_eq_false,if_false]at this;simpa[Op.unary]using this
 ·exact h.elim
theorem BN{t:TypeId}(h:AK P t=true):∃d,P.underlying t=some d∧∀ms,d≠.interface ms:=by
 unfold AK at h;split at h
 ·cases h
 ·rename_i d hd hn;exact⟨d,hn,λms e=>by subst e;exact hd ms rfl⟩
 ·cases h
theorem af1{t:TypeId}{a:AV}{k:AV→Prop}(h:afW P t a k) :
  ∃v,k v∧∀f u,VR f a u→∃r,(∀w,(Instr.makeInterface t u).run P w=.ok r w)∧VR f v r:=by
 obtain⟨h0,h⟩:=aD h;obtain⟨d,hd,hn⟩:=BN h0;refine⟨_,h,λf u hu=>⟨.iface t u,λw=>?_,.iface t _ _ hu⟩⟩;cases d<;>first|exact absurd rfl (hn _)|simp[Instr.makeInterface,run_underlying hd]
theorem YW{t u:TypeId}{ok:Bool}{a:AV}{k:AV→Prop}(h:UN P u ok a k) :
  ∃v,k v∧∀f x,VR f a x→∃r,(∀w,(Instr.typeAssert x t u ok).run P w=.ok r w)∧VR f v r:=by
 obtain⟨h0,h⟩:=aD h;obtain⟨d,hd,hn⟩:=BN h0;split at h
 ·rename_i i hi;split at h
  ·rename_i z hz;unfold u7 at h;have hzero:∀w,(zeroValue u).run P w=.ok z w:=λw=>by simp[zeroValue,typeInfo,hi,hz]
   split at h
   ·rename_i t' v hold;clear hold;rcases dn h with⟨he,h⟩|⟨he,h⟩
    ·have e:=Nat.eq_of_beq_eq_true he;have hh:=h;subst e;rcases dn hh with⟨hok,g⟩|⟨hok,g⟩
     ·refine⟨_,g,λf x hx=>?_⟩;cases hx with
      |iface _ _ y hy=>
       refine⟨.tuple #[y,.bool true],λw=>?_,.aE _ [y,.bool true] (.cons _ _ _ _ hy (.cons _ _ _ _ (.bool true) .nil))⟩;cases d<;>first|exact absurd rfl (hn _)|simp[Instr.typeAssert,run_underlying hd,hok]
     ·refine⟨_,g,λf x hx=>?_⟩;cases hx with
      |iface _ _ y hy=>
       refine⟨y,λw=>?_,hy⟩;cases d<;>first|exact absurd rfl (hn _)|simp[Instr.typeAssert,run_underlying hd,hok]
    ·have hne:¬(t'=u):=λe=>by subst e;rw[Nat.beq_refl]at he;cases he
     obtain⟨hok,h⟩:=aD h;refine⟨_,h,λf x hx=>?_⟩;cases hx with
     |iface _ _ y hy=>
      refine⟨.tuple #[z,.bool false],λw=>?_,.aE _ [z,.bool false] (.cons _ _ _ _ (qk f z) (.cons _ _ _ _ (.bool false) .nil))⟩;cases d<;>first|exact absurd rfl (hn _)|simp[Instr.typeAssert,run_underlying hd,hok,hne,hzero]
   ·obtain⟨hok,h⟩:=aD h;refine⟨_,h,λf x hx=>?_⟩;cases hx;refine⟨.tuple #[z,.bool false],λw=>?_,.aE _ [z,.bool false] (.cons _ _ _ _ (qk f z) (.cons _ _ _ _ (.bool false) .nil))⟩;cases d<;>first|exact absurd rfl (hn _)|simp[Instr.typeAssert,run_underlying hd,hok,hzero]
   ·exact h.elim
  ·exact h.elim
 ·exact h.elim
theorem af2{t:TypeId}{a:AV}{H:AH}{k:AV→AH→Prop}(h:O1 P t a H k) :
  ∃v H',k v H'∧∀f w u,HR f H w→VR f a u→∃r w' f',(Instr.range t u).run P w=.ok r w'∧Step f H w f' H' w'∧VR f' v r:=by
 unfold O1 at h;split at h
 ·rename_i ht;obtain⟨n,x,rfl,hh⟩:=gC h;obtain⟨H',g1,g2,g3,g4⟩:=mr hh;refine⟨_,H',g1,λf w u hr hu=>?_⟩;obtain⟨rfl,hx⟩:=hu.jl;refine⟨_,_,f.ext H.n w.heap.size 0 0,run_range_string w t _ ht,HR.push hr H' _ _ 0 0 g2 g3 g4 ⟨hx,aI.jj _ _ _ _ _,rfl⟩ (λ_=>rfl),?_⟩;refine VR.MX (aI.qg _ _ _ _ _) ?_;rw[aI.gZ,aI.jj]
 ·exact h.elim
theorem YX{o:dM}{k:Nat→Nat→Nat→Prop}(h:afX o k):∃n x p,o=.iter n x p∧k n x p:=by
 cases o with
 |iter n x p=>exact⟨n,x,p,rfl,h⟩
 |_=>exact h.elim
theorem amJ{ty:TypeId}{a:AV}{H:AH}{k:AV→AH→Prop}(h:apd a H k) :
  ∃v H',k v H'∧∀f w u,HR f H w→VR f a u→∃r w' f',(Instr.next u true ty).run P w=.ok r w'∧Step f H w f' H' w'∧VR f' v r:=by
 obtain⟨b,o,rfl,h⟩:=nz h;obtain⟨ho,h⟩:=aD h;have ho:=Nat.eq_of_beq_eq_true ho;obtain⟨ob,hob,h⟩:=Bt.dx _ _ _ h;obtain⟨n,x,p,rfl,h⟩:=YX h;have hat:=AH.tt hob;have auA:∀{f:aI}{w:World},HR f H w→f.dom b→b<H.n∧x<256^n∧f.off b=0∧w.heap[f.blk b]? = some (.stringIter (eS n x) p):=λ{f w} hr hd=>by
  have hlt:b<H.n:=hr.dom b hd;have:=hr.obj b hd (by rw[AH.bN,hat];rfl);rw[AH.bN,hat]at this;exact⟨hlt,this.1,this.2.1,this.2.2⟩
 rcases dn h with⟨hp,h⟩|⟨hp,h⟩
 ·have hp:p<n:=Nat.le_of_ble_eq_true hp;rw[aY]at h;obtain⟨hc,h⟩:=aD h;have hc:=Nat.le_of_ble_eq_true hc;rw[aY]at h;obtain⟨H',g1,g2,g3,g4⟩:=gA h;refine⟨_,H',g1,λf w u hr hu=>?_⟩;obtain⟨hlt,hx,h0,hw⟩:=auA hr hu.eI.2;obtain⟨rfl,hb⟩:=hu.eI;have hsz:p<(eS n x).size:=by simpa using hp
  have hby:((eS n x)[p]'hsz)=UInt8.ofNat (byteAt x p):=by
   have:=OE (x:=x) hp;rw[getElem?_pos (eS n x) p hsz]at this;injection this
  have auB:((eS n x)[p]'hsz).toNat=byteAt x p:=by
   rw[hby];have:byteAt x p<256:=MW x p;simp;omega
  have hdec:=decode_ascii (eS n x) p hsz (by rw[auB];omega);rw[auB]at hdec;have hblt:f.blk b<w.heap.size:=(Array.getElem?_eq_some_iff.1 hw).1;refine⟨.tuple #[.bool true,.int .i64 p,.int .i32 (byteAt x p)],{ w with heap:=w.heap.setIfInBounds (f.blk b) (.stringIter (eS n x) (p+1)) },f,?_,?_,?_⟩
  ·rw[h0,ho];simp[Instr.next,getObj,setObj,Sem.run,hw,hp,hdec,goInt]
  ·refine HR.update hr (b:=b) hb (by rw[hat];rfl) H' _ (.stringIter (eS n x) (p+1)) _ g2 g3 g4 rfl ⟨hx,h0,rfl⟩ ?_ (by simp) (λk hk=>?_) rfl rfl rfl
   ·simp[hblt]
   ·exact Array.getElem?_setIfInBounds_ne (λe=>hk e.symm)
  ·exact .aE _ [.bool true,.int .i64 p,.int .i32 (byteAt x p)] (.cons _ _ _ _ (.bool true) (.cons _ _ _ _ (.int 0 _) (.cons _ _ _ _ (.int 2 _) .nil)))
 ·have hp:¬p<n:=λhle=>by rw[Nat.ble_eq_true_of_le (show Nat.succ p≤n from hle)]at hp;cases hp
  refine⟨_,H,h,λf w u hr hu=>?_⟩;obtain⟨hlt,hx,h0,hw⟩:=auA hr hu.eI.2;obtain⟨rfl,hb⟩:=hu.eI;refine⟨.tuple #[.bool false],w,f,?_,Step.refl hr,.aE _ [.bool false] (.cons _ _ _ _ (.bool false) .nil)⟩;rw[h0,ho];simp[Instr.next,getObj,Sem.run,hw,hp]
theorem aqK{a b:AV}{k:AV→Prop}(h:GJ a b k):∃v,k v∧∀f u x,VR f a u→VR f b x→∃r,(∀w,(Builtin.max2 u x).run P w=.ok r w)∧VR f v r:=by
 obtain⟨c,x,rfl,h1⟩:=eV h;obtain⟨d,y,rfl,h2⟩:=eV h1;rcases dn h2 with⟨hl,h⟩|⟨hl,h⟩<;>rw[y7]at hl
 ·exact⟨_,h,λf u z hu hz=>⟨.int (kd c) y,λw=>by rw[hu.bB,hz.bB];simp at hl;simp[Builtin.max2,hl],.int c y⟩⟩
 ·exact⟨_,h,λf u z hu hz=>⟨.int (kd c) x,λw=>by rw[hu.bB,hz.bB];simp at hl;simp[Builtin.max2];omega,.int c x⟩⟩
theorem aqL{a b:AV}{k:AV→Prop}(h:xW a b k):∃v,k v∧∀f u x,VR f a u→VR f b x→∃r,(∀w,(Builtin.min2 u x).run P w=.ok r w)∧VR f v r:=by
 obtain⟨c,x,rfl,h1⟩:=eV h;obtain⟨d,y,rfl,h2⟩:=eV h1;rcases dn h2 with⟨hl,h⟩|⟨hl,h⟩<;>rw[y7]at hl
 ·exact⟨_,h,λf u z hu hz=>⟨.int (kd c) y,λw=>by rw[hu.bB,hz.bB];simp at hl;simp[Builtin.min2,hl],.int c y⟩⟩
 ·exact⟨_,h,λf u z hu hz=>⟨.int (kd c) x,λw=>by rw[hu.bB,hz.bB];simp at hl;simp[Builtin.min2];omega,.int c x⟩⟩
theorem FH{g:AV→AV→(AV→Prop)→Prop}{m:Value→Value→Sem Value}(hg:∀a b k,g a b k→∃v,k v∧∀f u x,VR f a u→VR f b x→∃r,(∀w,(m u x).run P w=.ok r w)∧VR f v r) :
  ∀(l:List AV) (a:AV) (k:AV→Prop),oh g l a k→∃v,k v∧∀f u us,VR f a u→VL f l us→∃r,(∀w,(us.foldlM m u).run P w=.ok r w)∧VR f v r
 |[],a,k,h=>⟨a,h,λf u us hu hus=>by cases hus;exact⟨u,λw=>by simp,hu⟩⟩
 |b::l,a,k,h=>by
  obtain⟨v,h1,h2⟩:=hg a b _ h;obtain⟨v',h3,h4⟩:=FH hg l v k h1;refine⟨v',h3,λf u us hu hus=>?_⟩;cases hus with
  |cons _ x _ xs hx hxs=>
   obtain⟨r,r1,r2⟩:=h2 f u x hu hx;obtain⟨r',r3,r4⟩:=h4 f r xs r2 hxs;exact⟨r',λw=>by simp[r1,r3],r4⟩
theorem aqM{t u ty:TypeId}{ts:Array TypeId}{a:AV}{H:AH}{k:AV→Prop}(hts:ts[0]? = some t)(h:amG P t a H k) :
  ∃v,k v∧∀f w u,HRQ f H.sem w→VR f a u→∃r,(Builtin.len_ ts ty #[u]).run P w=.ok r w∧VR f v r:=by
 unfold amG at h;split at h
 ·rename_i ht;obtain⟨n,x,rfl,hh⟩:=gC h;exact⟨_,hh,λf w u hr hu=>⟨.int .i64 n,by rw[hu.jl.1];simp[Builtin.len_,hts,run_underlying ht,goInt],.int 0 _⟩⟩
 ·rename_i e ht;rcases lE h with⟨rfl,hh⟩|⟨b,o,len,cap,sz,ex,rfl,hh⟩
  ·exact⟨_,hh,λf w u hr hu=>⟨.int .i64 0,by cases hu;simp[Builtin.len_,hts,run_underlying ht,goInt],.int 0 _⟩⟩
  ·exact⟨_,hh,λf w u hr hu=>⟨.int .i64 len,by cases hu;simp[Builtin.len_,hts,run_underlying ht,goInt],.int 0 _⟩⟩
 ·rename_i n e ht;exact⟨_,h,λf w u hr hu=>⟨.int .i64 n,by simp[Builtin.len_,hts,run_underlying ht,goInt],.int 0 _⟩⟩
 ·rename_i q e ht;unfold afY at h;split at h
  ·exact⟨_,h,λf w u hr hu=>⟨.int .i64 0,by cases hu;simp[Builtin.len_,hts,run_underlying ht,goInt],.int 0 _⟩⟩
  ·rename_i b;obtain⟨ob,hob,h⟩:=Bt.dx _ _ _ h;split at h
   ·rename_i es cl;rw[aY]at h;refine⟨_,h,λf w u hr hu=>?_⟩;have hat:=AH.tt hob;have hd:f.dom b:=by cases hu;assumption
    have:=hr.obj b hd (by rw[AH.bN,hat];rfl);rw[AH.bN,hat]at this;obtain⟨es',e1,e2⟩:=this;have hlen:∀{as:List eW}{bs:List MapEntry},kj f as bs→as.length=bs.length:=λh=>by
     induction h with
     |nil=>rfl
     |cons _ _ _ _ _ _ ih=>simp[ih]
    have hl:=hlen e2;cases hu;refine⟨.int .i64 (es'.size),?_,?_⟩
    ·simp[Builtin.len_,hts,run_underlying ht,goInt,getObj,Sem.run,e1]
    ·have:((es'.size:Nat):Int)=.ofNat es.length:=by rw[hl];simp
     rw[this];exact .int 0 _
   ·exact h.elim
  ·exact h.elim
 ·exact h.elim
theorem af3{nw:Lay}{t:TypeId}{l c:AV}{k:AV→AH→Prop}(h:O2 P nw t l c k) :
  ∃o vf,nw o (λb H'=>k (vf b) H')∧o.sem.own=true∧∀(f:aI) w lu cu,VR f l lu→VR f c cu→∃r obj,(Instr.makeSlice t lu cu).run P w=.ok r (w.alloc obj)∧nA f w o vf r obj:=by
 unfold O2 at h;split at h
 ·rename_i e ht;split at h
  ·rename_i i z hi hz;obtain⟨h1,h⟩:=aD h;obtain⟨h2,h⟩:=aD h;have e1:=Nat.le_of_ble_eq_true h1;have e2:=Nat.eq_of_beq_eq_true h2;obtain⟨i',zv,hi',hzv,hzl⟩:=kO hz;rw[hi]at hi';injection hi' with hi';subst hi';obtain⟨c1,n,rfl,ha⟩:=jy h;obtain⟨c2,m,rfl,hb⟩:=jy ha;obtain⟨h3,hb⟩:=aD hb;obtain⟨h4,hb⟩:=aD hb;obtain⟨h5,hb⟩:=aD hb;have e3:=Nat.le_of_ble_eq_true h3;have e4:m*i.bytes≤1099511627776:=Nat.le_of_ble_eq_true h4;have e5:=Nat.le_of_ble_eq_true h5;obtain⟨tr,hb,p1,p2,p3⟩:=fm _ _ _ _ hb;obtain⟨h6,hb⟩:=aD hb;simp only[Nat.zero_add]at hb p2 p3;refine⟨_,λb=>.slice b 0 n m i.size true,hb,rfl,λf w lu cu hl hc=>?_⟩;rw[hl.bB,hc.bB];have hzs:zv.cells.size=i.size:=by
    have h1:=(hzl f).length;have h2:zv.cells.toList.length=zv.cells.size:=Array.length_toList;omega
   have hrun:=run_make (P:=P) w t e i zv ht hi hzv (kd c1) (kd c2) (.ofNat n) (.ofNat m) (Int.natCast_nonneg n) (Int.ofNat_le.2 e3) (by
    have:(i.bytes:Int)*(m:Int)=((m*i.bytes:Nat):Int):=by rw[Int.natCast_mul,Int.mul_comm]
    change (i.bytes:Int)*(m:Int)≤_
    rw[this];omega) (by change (m:Int)≤_;omega)
   have hcells:madeCells zv.cells ((Int.ofNat m).toNat*i.size)=(List.flatten (List.replicate m zv.cells.toList)).toArray:=by
    change madeCells zv.cells (m*i.size)=_
    rw[←hzs];unfold madeCells;by_cases h0:m*zv.cells.size=0
    ·have:m=0:=by
      rcases Nat.mul_eq_zero.1 h0 with h|h
      ·exact h
      ·omega
     subst this;simp
    ·simpa[h0]using og zv.cells m (by omega)
   rw[hcells]at hrun;have hv:=VL.mV (hzl f) m;have hpush:=AE (w:=w) hv p2 (λj hj=>by rw[p3 j (.inr hj)];rfl) [] e (vf:=λb=>.slice b 0 n m i.size true) (r:=.slice (some ⟨w.heap.size,0,none⟩) n m) (λx hx=>by
    have:=VR.slice (f:=f.ext x w.heap.size 0 (List.flatten (List.replicate m zv.cells.toList)++[]).length) x 0 n m i.size true m 0 (aI.qg _ _ _ _ _) e3 (Nat.le_refl _) (λ_=>by rw[aI.jj]) (λh=>absurd h (Nat.lt_irrefl _));rw[aI.gZ]at this;exact this)
   rw[List.append_nil]at hpush;exact⟨_,_,hrun,hpush⟩
  ·exact h.elim
 ·exact h.elim
end
mutual
def aH:AV→AV→Bool
 |.bool a,.bool b=>a == b
 |.int k x,.int k' y=>Nat.beq k k'&&aV x y
 |.str n x,.str m y=>Nat.beq n m&&Nat.beq x y
 |.eH,.eH=>true
 |.ptr b o,.ptr b' o'=>Nat.beq b b'&&Nat.beq o o'
 |.ab,.ab=>true
 |.slice b o l c s x,.slice b' o' l' c' s' x'=>Nat.beq b b'&&(Nat.beq o o'&&(Nat.beq l l'&&(Nat.beq c c'&&(Nat.beq s s'&&(x == x')))))
 |.rN,.rN=>true
 |.map b,.map b'=>Nat.beq b b'
 |.sX,.sX=>true
 |.func g a b,.func g' a' b'=>Nat.beq g g'&&(lF a a'&&lF b b')
 |.dS,.dS=>true
 |.iface t v,.iface t' v'=>Nat.beq t t'&&aH v v'
 |.agg l,.agg l'=>lF l l'
 |_,_=>false
def lF:List AV→List AV→Bool
 |[],[]=>true
 |a::l,b::m=>aH a b&&lF l m
 |_,_=>false
end
mutual
theorem xX:∀{a b:AV},aH a b=true→a=b
 |.bool a,b,h=>by cases b<;>simp[aH]at h;subst h;rfl
 |.int k x,b,h=>by
  cases b<;>simp[aH,pq]at h
  obtain⟨rfl,rfl⟩:=h;rfl
 |.str n x,b,h=>by cases b<;>simp[aH]at h;obtain⟨rfl,rfl⟩:=h;rfl
 |.eH,b,h=>by cases b<;>simp[aH]at h;rfl
 |.ptr _ _,b,h=>by cases b<;>simp[aH]at h;obtain⟨rfl,rfl⟩:=h;rfl
 |.ab,b,h=>by cases b<;>simp[aH]at h;rfl
 |.slice ..,b,h=>by cases b<;>simp[aH]at h;obtain⟨rfl,rfl,rfl,rfl,rfl,rfl⟩:=h;rfl
 |.rN,b,h=>by cases b<;>simp[aH]at h;rfl
 |.map _,b,h=>by cases b<;>simp[aH]at h;subst h;rfl
 |.sX,b,h=>by cases b<;>simp[aH]at h;rfl
 |.func g x y,b,h=>by
  cases b<;>simp[aH]at h
  obtain⟨rfl,h1,h2⟩:=h;rw[xY h1,xY h2]
 |.dS,b,h=>by cases b<;>simp[aH]at h;rfl
 |.iface t v,b,h=>by
  cases b<;>simp[aH]at h
  obtain⟨rfl,h1⟩:=h;rw[xX h1]
 |.agg l,b,h=>by
  cases b<;>simp[aH]at h
  rw[xY h]
 |.aE _,b,h=>by cases b<;>simp[aH]at h
 |.cH,b,h=>by cases b<;>simp[aH]at h
theorem xY:∀{a b:List AV},lF a b=true→a=b
 |[],b,h=>by cases b<;>simp[lF]at h;rfl
 |a::l,b,h=>by
  cases b with
  |nil=>simp[lF]at h
  |cons x m=>
   simp[lF]at h;rw[xX h.1,xY h.2]
end
end Go.X
namespace Go.X
open Go.WideMaps
def pw(P:Program)(t:TypeId)(a:AV):Bool:=
 match P.underlying t,a with
 |some .bool,.bool _=>true
 |some (.int q),.int c n=>Nat.beq c (kn q)&&(Lit.int q n).wf
 |some .string,.str n _=>Nat.ble n maxLen
 |_,_=>false
def lG(P:Program):List Field→List AV→Bool
 |[],[]=>true
 |f::fs,a::as=>pw P f.type a&&lG P fs as
 |_,_=>false
def AL(P:Program)(k:TypeId)(a:AV):Bool:=
 match P.underlying k with
 |some (.struct fs)=>(match a with|.agg cs=>lG P fs.toList cs|_=>false)
 |some .string=>pw P k a
 |_=>false
def N7(P:Program):List Field→Nat→Bool
 |[],_=>true
 |f::fs,i=>Nat.beq f.offset i&&(Nat.beq (P.cellsOf f.type) 1&&N7 P fs (i+1))
def wy(P:Program)(k:TypeId):Bool:=
 match P.underlying k with
 |some .string=>true
 |some (.struct fs)=>laidOutB P&&(Nat.ble (P.types.size+2) 10000&&(Nat.blt k P.types.size&&(P.keyType k&&(N7 P fs.toList 0&&(Nat.beq (P.cellsOf k) fs.size&&fs.all (·.name != "_"))))))
 |_=>false
theorem amK{P:Program}{k:TypeId}(h:wy P k=true):KeyLaw P k:=by
 unfold wy at h;split at h
 ·rename_i e;exact string_law e
 ·rename_i fs e;simp only[Bool.and_eq_true]at h;obtain⟨h1,h2,h3,h4,h5,h6,h7⟩:=h;exact deep_law_gate h1 (Nat.le_of_ble_eq_true h2) (Nat.le_of_ble_eq_true h3) h4 (by rw[e])
 ·cases h
theorem TP{P:Program}{t:TypeId}{a:AV}{f:aI}{v:Value}(h:pw P t a=true)(hv:VR f a v)(n:Nat):∃l,P.keyLits (n+1) t [v]=some l:=by
 unfold pw at h;split at h
 ·rename_i b e;cases hv;exact⟨_,by simp[Program.keyLits,e];rfl⟩
 ·rename_i q c z e;simp only[Bool.and_eq_true]at h;obtain⟨h1,h2⟩:=h;have:=Nat.eq_of_beq_eq_true h1;subst this;cases hv;exact⟨[.int q z],by simp[Program.keyLits,e,Gz,h2]⟩
 ·rename_i m x e;cases hv;exact⟨_,by simp[Program.keyLits,e,Nat.le_of_ble_eq_true h];rfl⟩
 ·cases h
theorem BO{P:Program}{f:aI}(n:Nat){UO:List Value}:∀{fs:List Field}{as:List AV}{vs:List Value}{i:Nat},lG P fs as=true→VL f as vs→N7 P fs i=true→UO.drop i=vs→
  ∃l,(fs.mapM λg=>P.keyLits (n+1) g.type ((UO.drop g.offset).take (P.cellsOf g.type)))=some l
 |[],as,vs,i,_,_,_,_=>⟨[],rfl⟩
 |g::fs,[],_,_,h,_,_,_=>by cases h
 |g::fs,a::as,_,i,h,.cons _ v _ vs h1 h2,hf,hd=>by
  simp only[lG,Bool.and_eq_true]at h;simp only[N7,Bool.and_eq_true]at hf;obtain⟨f1,f2,f3⟩:=hf;have e1:=Nat.eq_of_beq_eq_true f1;have e2:=Nat.eq_of_beq_eq_true f2;obtain⟨l1,g1⟩:=TP h.1 h1 n;obtain⟨l2,g2⟩:=BO n (UO:=UO) (i:=i+1) h.2 h2 f3 (by rw[←List.tail_drop,hd];rfl);refine⟨l1::l2,?_⟩;rw[List.mapM_cons,e1,e2,hd];simp[g1,g2]
theorem zb{P:Program}:∀{fs:List Field}{as:List AV},lG P fs as=true→as.length=fs.length
 |[],[],_=>rfl
 |[],_::_,h=>by cases h
 |_::_,[],h=>by cases h
 |g::fs,a::as,h=>by
  simp only[lG,Bool.and_eq_true]at h;simp[zb h.2]
theorem UP{P:Program}{k:TypeId}{a:AV}{f:aI}{v:Value}(hl:wy P k=true)(h:AL P k a=true)(hv:VR f a v):∃l,keyOf P k v=some l:=by
 unfold AL at h;unfold wy at hl;split at h
 ·rename_i fs e;rw[e]at hl;simp only[Bool.and_eq_true]at hl;obtain⟨h1,h2,h3,h4,h5,h6,h7⟩:=hl;split at h
  ·rename_i cs;cases hv with
   |agg _ vs hvs=>
    have hlen:=zb h;have hvl:=hvs.length;have e6:=Nat.eq_of_beq_eq_true h6;obtain⟨l,hm⟩:=BO (P.types.size-1) (UO:=vs) (i:=0) h hvs h5 rfl;have hsz:P.types.size=P.types.size-1+1:=by have:=Nat.le_of_ble_eq_true h3;omega
    rw[←hsz]at hm;refine⟨.string (keyBytes l.flatten),?_⟩
    ·have hc:vs.length=P.cellsOf k:=by rw[e6,←hvl,hlen];simp
     have hk:P.keyLits (P.types.size+1) k vs=some l.flatten:=by
      unfold Program.keyLits;split
      ·rename_i he;rw[e]at he;cases he
      ·rename_i he;rw[e]at he;cases he
      ·rename_i he;rw[e]at he;cases he
      ·rename_i he;rw[e]at he;cases he
      ·rename_i he;rw[e]at he;cases he;rw[if_pos ⟨hc,h7⟩,hm];rfl
      ·exact absurd e (‹∀fs,P.underlying k=some (TypeDesc.struct fs)→False› fs)
     unfold keyOf;simp only[e,h4,Value.formed,Value.cells,Bool.true_and];rw[if_pos (by simpa using hc)];show(P.keyLits (P.types.size+1) k vs).map _=_;rw[hk];rfl
  ·cases h
 ·rename_i e;unfold pw at h;rw[e]at h;cases a<;>simp at h
  cases hv;exact⟨_,keyOf_string_mk e (by simpa using h)⟩
 ·cases h
def pl(a:AV):Bool:=match a with|.bool _=>true|.int ..=>true|.str ..=>true|_=>false
theorem M5{P:Program}{t:TypeId}{a:AV}(h:pw P t a=true):pl a=true:=by
 unfold pw at h;split at h<;>first|rfl|cases h
theorem af4{f:aI}{a:AV}{u v:Value}(h:pl a=true)(h1:VR f a u)(h2:VR f a v):u=v:=by
 cases a<;>first|cases h|skip
 ·cases h1 with|bool=>cases h2 with|bool=>rfl
 ·cases h1 with|int=>cases h2 with|int=>rfl
 ·cases h1 with|str=>cases h2 with|str=>rfl
theorem E9{P:Program}{f:aI}:∀{fs:List Field}{as:List AV}{us vs:List Value},lG P fs as=true→VL f as us→VL f as vs→us=vs
 |[],[],_,_,_,.nil,.nil=>rfl
 |[],_::_,_,_,h,_,_=>by cases h
 |_::_,[],_,_,h,_,_=>by cases h
 |g::fs,a::as,_,_,h,.cons _ u _ us h1 h2,.cons _ v _ vs h3 h4=>by
  simp only[lG,Bool.and_eq_true]at h;rw[af4 (M5 h.1) h1 h3,E9 h.2 h2 h4]
theorem amL{P:Program}{k:TypeId}{f:aI}{a:AV}{u v:Value}(h:AL P k a=true)(h1:VR f a u)(h2:VR f a v):u=v:=by
 unfold AL at h;split at h
 ·split at h
  ·cases h1 with|agg _ us g1=>cases h2 with|agg _ vs g2=>rw[E9 h g1 g2]
  ·cases h
 ·exact af4 (M5 h) h1 h2
 ·cases h
theorem M6{P:Program}{t:TypeId}{f:aI}{a b:AV}{u:Value}(ha:pw P t a=true)(hb:pw P t b=true)(h1:VR f a u)(h2:VR f b u):aH a b=true:=by
 unfold pw at ha hb;split at ha
 ·rename_i x e;rw[e]at hb;cases h1 with|bool=>cases b<;>simp at hb;cases h2 with|bool=>simp[aH]
 ·rename_i q c z e;rw[e]at hb;simp only[Bool.and_eq_true]at ha;have ec:=Nat.eq_of_beq_eq_true ha.1;subst ec;cases b<;>simp at hb
  rename_i c2 z2;obtain⟨rfl,_⟩:=hb;generalize hc:AV.int (kn q) z=aa at h1;cases h1<;>cases hc
  generalize hc:AV.int (kn q) z2=aa at h2;generalize hv:Value.int (kd (kn q)) z=vv at h2;cases h2<;>cases hc
  cases hv;simp[aH,pq]
 ·rename_i n x e;rw[e]at hb;cases b<;>simp at hb
  rename_i m y;generalize hc:AV.str n x=aa at h1;cases h1<;>cases hc
  rename_i hx;generalize hc:AV.str m y=aa at h2;generalize hv:Value.string (eS n x)=vv at h2;cases h2<;>cases hc
  rename_i hy;simp only[Value.string.injEq]at hv;have:=Jp hx hy;have e2:iK n x=iK m y:=by
   have:=congrArg (λb:ByteArray=>b.toList) hv;simpa using this
  rw[e2]at this;simpa[aH]using this.symm
 ·cases ha
theorem GL{P:Program}{f:aI}:∀{fs:List Field}{as bs:List AV}{us:List Value},lG P fs as=true→lG P fs bs=true→VL f as us→VL f bs us→lF as bs=true
 |[],[],[],_,_,_,_,_=>rfl
 |[],_::_,_,_,h,_,_,_=>by cases h
 |[],[],_::_,_,_,h,_,_=>by cases h
 |_::_,[],_,_,h,_,_,_=>by cases h
 |_::_,_::_,[],_,_,h,_,_=>by cases h
 |g::fs,a::as,b::bs,_,h,h',.cons _ u _ us h1 h2,.cons _ _ _ _ h3 h4=>by
  simp only[lG,Bool.and_eq_true]at h h';simp only[lF,Bool.and_eq_true];exact⟨M6 h.1 h'.1 h1 h3,GL h.2 h'.2 h2 h4⟩
theorem amM{P:Program}{k:TypeId}{f:aI}{a b:AV}{u:Value}(ha:AL P k a=true)(hb:AL P k b=true)(h1:VR f a u)(h2:VR f b u):aH a b=true:=by
 unfold AL at ha hb;split at ha
 ·rename_i fs e;rw[e]at hb;cases a<;>simp at ha
  cases b<;>simp at hb
  rename_i as bs;generalize hc:AV.agg as=aa at h1;cases h1<;>cases hc
  rename_i us g1;generalize hc:AV.agg bs=aa at h2;generalize hv:Value.agg us.toArray=vv at h2;cases h2<;>cases hc
  rename_i vs g2;have:us=vs:=by simpa using hv
  subst this;exact GL ha hb g1 g2
 ·rename_i e;rw[e]at hb;exact M6 ha hb h1 h2
 ·cases ha
def idxs(x:AV):List eW→Nat→List Nat
 |[],_=>[]
 |e::es,i=>match aH e.key x with|true=>i::idxs x es (i+1)|false=>idxs x es (i+1)
theorem FI{x:AV}:∀{es:List eW}{i j:Nat},j∈idxs x es i↔∃e,i≤j∧es[j-i]? = some e∧aH e.key x=true
 |[],i,j=>by simp[idxs]
 |e::es,i,j=>by
  have ih:=FI (x:=x) (es:=es) (i:=i+1) (j:=j);have key:(∃e',i≤j∧(e::es)[j-i]? = some e'∧aH e'.key x=true)↔(j=i∧aH e.key x=true)∨∃e',i+1≤j∧es[j-(i+1)]? = some e'∧aH e'.key x=true:=by
   constructor
   ·rintro⟨e',h1,h2,h3⟩;rcases Nat.lt_or_ge i j with h|h
    ·right;refine⟨e',h,?_,h3⟩;rw[show j-i=(j-(i+1))+1 by omega]at h2;simpa using h2
    ·have:j=i:=by omega
     subst this;simp at h2;subst h2;exact .inl ⟨rfl,h3⟩
   ·rintro(⟨rfl,h⟩|⟨e',h1,h2,h3⟩)
    ·exact⟨e,Nat.le_refl _,by simp,h⟩
    ·refine⟨e',by omega,?_,h3⟩;rw[show j-i=(j-(i+1))+1 by omega];simpa using h2
  rw[key];simp only[idxs];split
  ·rename_i h;simp[ih,h]
  ·rename_i h;simp[ih,h]
def uP(P:Program)(k:TypeId)(x:AV)(es:List eW):Option (Option Nat):=
 match AL P k x&&es.all (λe=>AL P k e.key)with
 |true=>(match idxs x es 0 with|[]=>some none|[i]=>some (some i)|_=>none)
 |false=>none
theorem kj.get{f:aI}:∀{as:List eW}{es:List MapEntry},kj f as es→∀{i:Nat}{a:eW},as[i]? = some a→∃e,es[i]? = some e∧ER f a e
 |_,_,.nil,i,a,h=>by simp at h
 |_,_,.cons a e as es h1 h2,0,b,h=>by simp at h;subst h;exact⟨e,by simp,h1⟩
 |_,_,.cons a e as es h1 h2,i+1,b,h=>by simpa using h2.get (by simpa using h)
theorem kj.get'{f:aI}:∀{as:List eW}{es:List MapEntry},kj f as es→∀{i:Nat}{e:MapEntry},es[i]? = some e→∃a,as[i]? = some a∧ER f a e
 |_,_,.nil,i,a,h=>by simp at h
 |_,_,.cons a e as es h1 h2,0,b,h=>by simp at h;subst h;exact⟨a,by simp,h1⟩
 |_,_,.cons a e as es h1 h2,i+1,b,h=>by simpa using h2.get' (by simpa using h)
theorem AM{P:Program}{k:TypeId}{x:AV}{es:List eW}{r:Option Nat}(hl:wy P k=true)(h:uP P k x es=some r){f:aI}{u:Value}{es':List MapEntry}(hx:VR f x u)(hes:kj f es es')(w:World) :
  (∀b,(Instr.checkKey b 10000 k u).run P w=.ok () w)∧(Instr.keyThatStays u u).run P w=.ok u w∧
  (match r with
  |none=>(Instr.findKey k u es').run P w=.ok none w
  |some i=>∃a e,es[i]? = some a∧es'[i]? = some e∧ER f a e∧e.key=u∧(Instr.findKey k u es').run P w=.ok (some (i,e.val)) w):=by
 have K:=amK hl;unfold uP at h;split at h
 case h_2=>cases h
 rename_i hk;simp only[Bool.and_eq_true,List.all_eq_true]at hk;obtain⟨hkx,hks⟩:=hk;obtain⟨lx,hlx⟩:=UP hl hkx hx;refine⟨λb=>K.check w b hlx,K.stays w hlx,?_⟩;have hkeys:∀e∈es',∃l,keyOf P k e.key=some l:=λe he=>by
  obtain⟨i,hi⟩:=List.getElem?_of_mem he;obtain⟨a,h1,h2⟩:=hes.get' hi;exact UP hl (hks a (List.mem_of_getElem? h1)) h2.1
 rcases K.find w hlx es' hkeys with⟨h1,h2⟩|⟨j,e,h1,h2,h3⟩
 ·have none_:idxs x es 0=[]:=by
   cases e:idxs x es 0 with
   |nil=>rfl
   |cons i l=>
    have:=(FI (x:=x) (es:=es) (i:=0) (j:=i)).1 (by rw[e];simp);obtain⟨a,_,g1,g2⟩:=this;rw[Nat.sub_zero]at g1;obtain⟨e',g3,g4⟩:=hes.get g1;have:=xX g2;have hy:VR f x e'.key:=this ▸ g4.1;exact absurd (amL hkx hy hx) (h2 e' (List.mem_of_getElem? g3))
  rw[none_]at h;cases h;exact h1
 ·obtain⟨a,g1,g2⟩:=hes.get' h2;have hs:aH a.key x=true:=amM (hks a (List.mem_of_getElem? g1)) hkx (h3 ▸ g2.1) hx;have hm:j∈idxs x es 0:=FI.2 ⟨a,Nat.zero_le _,by simpa using g1,hs⟩;split at h
  ·rename_i e0;rw[e0]at hm;cases hm
  ·rename_i i e0;rw[e0]at hm;simp at hm;subst hm;cases h;exact⟨a,e,g1,h2,g2,h3,h1⟩
  ·cases h
end Go.X
namespace Go.X
open Go.WideMaps Go.MapKept
theorem allocMap(f:aI)(w:World):nA f w (.map [] 0) (λb=>.map b) (.map (some w.heap.size)) (.map #[] 0):=by
 refine⟨0,λi hi=>⟨⟨#[],rfl,.nil⟩,?_⟩⟩;have:=VR.map (f:=f.ext i w.heap.size 0 0) i (aI.qg ..)
 rwa [aI.gZ]at this
theorem TQ{P:Program}{t:TypeId}(w:World):(Instr.makeMap t none).run P w=.ok (.map (some w.heap.size)) (w.alloc (.map #[] 0)):=by
 simp[Instr.makeMap,run_newObj]
def MapAt(H:AH)(m:AV)(es:List eW):Prop:=(m=.rN∧es=[])∨∃b cl,m=.map b∧H.at b=.map es cl
theorem MapAt.run{H:AH}{m:AV}{es:List eW}(h:MapAt H m es){f:aI}{w:World}{u:Value}(hr:HRQ f H.sem w)(hu:VR f m u) :
  (u=.map none∧es=[])∨∃r es' cl,u=.map (some r)∧w.heap[r]? = some (.map es' cl)∧kj f es es'.toList:=by
 rcases h with⟨rfl,rfl⟩|⟨b,cl,rfl,hb⟩
 ·cases hu;exact .inl ⟨rfl,rfl⟩
 ·right;cases hu with
  |map _ hd=>
   have:=hr.obj b hd (by rw[AH.bN,hb];rfl);rw[AH.bN,hb]at this;obtain⟨es',h1,h2⟩:=this;exact⟨_,es',cl,rfl,h1,h2⟩
def YY(ok:Bool)(z:AV)(es:List eW)(r:Option Nat):AV:=
 match r with
 |none=>(match ok with|true=>.aE [z,.bool false]|false=>z)
 |some i=>(match es[i]? with
  |some e=>(match ok with|true=>.aE [e.val,.bool true]|false=>e.val)
  |none=>.cH)
theorem YZ{P:Program}{t kt et:TypeId}{m key:AV}{es:List eW}{r:Option Nat}{inf:TypeInfo}{z:Value}{H:AH}(ht:P.underlying t=some (.map kt et))(hi:P.info? et=some inf)(hz:inf.zero=some z)
  (hl:wy P kt=true) (hm:MapAt H m es) (hf:uP P kt key es=some r) (ok:Bool){f:aI}{w:World}{um uk:Value}(hr:HRQ f H.sem w) (hum:VR f m um) (M7:VR f key uk) :
  ∃v,(Instr.lookup t um uk ok).run P w=.ok v w∧VR f (YY ok (ig z) es r) v:=by
 have hzero:(zeroValue et).run P w=.ok z w:=by simp[zeroValue,typeInfo,hi,hz]
 have hzv:=qk f z;rcases hm.run hr hum with⟨rfl,rfl⟩|⟨q,es',cl,rfl,hb,hes⟩
 ·obtain⟨h1,_,h3⟩:=AM hl hf M7 .nil w;cases r with
  |none=>
   refine⟨if ok then .tuple #[z,.bool false] else z,?_,?_⟩
   ·simp[Instr.lookup,run_underlying ht,h1,h3,hzero,Result.andThen]
   ·cases ok
    ·exact hzv
    ·exact .aE _ [_,_] (.cons _ _ _ _ hzv (.cons _ _ _ _ (.bool _) .nil))
  |some i=>obtain⟨a,e,g1,_⟩:=h3;simp at g1
 ·obtain⟨h1,_,h3⟩:=AM hl hf M7 hes w;cases r with
  |none=>
   refine⟨if ok then .tuple #[z,.bool false] else z,?_,?_⟩
   ·simp[Instr.lookup,run_underlying ht,MapKept.run_getObj_map hb,h1,h3,hzero,Result.andThen]
   ·cases ok
    ·exact hzv
    ·exact .aE _ [_,_] (.cons _ _ _ _ hzv (.cons _ _ _ _ (.bool _) .nil))
  |some i=>
   obtain⟨a,e,g1,g2,g3,g4,g5⟩:=h3;refine⟨if ok then .tuple #[e.val,.bool true] else e.val,?_,?_⟩
   ·simp[Instr.lookup,run_underlying ht,MapKept.run_getObj_map hb,h1,g5,Result.andThen]
   ·simp only[YY,g1];cases ok
    ·exact g3.2.1
    ·exact .aE _ [_,_] (.cons _ _ _ _ g3.2.1 (.cons _ _ _ _ (.bool _) .nil))
def O4(es:List eW)(cl:Nat)(key val:AV)(r:Option Nat):List eW:=match r with
 |none=>es++[⟨key,val,cl⟩]
 |some i=>es.modify i λe=>⟨key,val,e.born⟩
def Y0(cl:Nat)(r:Option Nat):Nat:=match r with|none=>cl+1|some _=>cl
theorem kj.append{f:aI}{as bs:List eW}{es gs:List MapEntry}(h:kj f as es)(h2:kj f bs gs):kj f (as++bs) (es++gs):=by
 induction h with
 |nil=>exact h2
 |cons a e as es h1 _ ih=>exact .cons a e _ _ h1 ih
theorem kj.modify{f:aI}{g:eW→eW}{g':MapEntry→MapEntry}:∀{as:List eW}{es:List MapEntry}(i:Nat),kj f as es→(∀a e,as[i]? = some a→es[i]? = some e→ER f a e→ER f (g a) (g' e))→kj f (as.modify i g) (es.modify i g')
 |_,_,i,.nil,_=>by simpa using kj.nil
 |_,_,0,.cons a e as es h1 h2,h=>by simpa using kj.cons _ _ _ _ (h a e (by simp) (by simp) h1) h2
 |_,_,i+1,.cons a e as es h1 h2,h=>by
  have:=h2.modify i λa e ha he=>h a e (by simpa using ha) (by simpa using he);simpa using kj.cons _ _ _ _ h1 this
theorem kj.eraseIdx{f:aI}:∀{as:List eW}{es:List MapEntry}(i:Nat),kj f as es→kj f (as.eraseIdx i) (es.eraseIdx i)
 |_,_,_,.nil=>by simpa using kj.nil
 |_,_,0,.cons a e as es h1 h2=>by simpa using h2
 |_,_,i+1,.cons a e as es h1 h2=>by simpa using kj.cons _ _ _ _ h1 (h2.eraseIdx i)
theorem AN{f:aI}{H H':AH}{w:World}{b cl cl':Nat}{es es':List eW}{gs:Array MapEntry}(hr:HR f H w)(hd:f.dom b)(hb:H.at b=.map es cl)(hn:H'.n=H.n)(hnew:H'.at b=.map es' cl')(hold:∀c,c≠b→H'.at c=H.at c)
  (hes:kj f es' gs.toList):Step f H w f H' { w with heap:=w.heap.setIfInBounds (f.blk b) (.map gs cl') }:=by
 have hin:f.blk b<w.heap.size:=by
  have:=hr.obj b hd (by rw[AH.bN,hb];rfl);rw[AH.bN,hb]at this;obtain⟨es0,h1,_⟩:=this;rcases Nat.lt_or_ge (f.blk b) w.heap.size with h|h
  ·exact h
  ·rw[Array.getElem?_eq_none h]at h1;cases h1
 refine HR.update hr hd (by rw[hb];rfl) H' (.map es' cl') (.map gs cl') _ hn hnew hold rfl ⟨gs,rfl,hes⟩ ?_ (by simp) (λk hk=>?_) rfl rfl rfl
 ·simp[hin]
 ·simp[Array.getElem?_setIfInBounds_ne (Ne.symm hk)]
theorem NZ{P:Program}{t kt et:TypeId}{key val:AV}{b cl:Nat}{es:List eW}{r:Option Nat}{H H':AH}(ht:P.underlying t=some (.map kt et))(hl:wy P kt=true)(hb:H.at b=.map es cl)(hf:uP P kt key es=some r)
  (hn:H'.n=H.n) (hnew:H'.at b=.map (O4 es cl key val r) (Y0 cl r)) (hold:∀c,c≠b→H'.at c=H.at c){f:aI}{w:World}{um uk uv:Value}(hr:HR f H w) (hum:VR f (.map b) um) (M7:VR f key uk) (huv:VR f val uv) :
  ∃w',(Instr.mapUpdate t um uk uv).run P w=.ok () w'∧Step f H w f H' w':=by
 cases hum with
 |map _ hd=>
 have hob:=hr.obj b hd (by rw[AH.bN,hb];rfl);rw[AH.bN,hb]at hob;obtain⟨gs,g1,hes⟩:=hob;obtain⟨h1,h2,h3⟩:=AM hl hf M7 hes w;cases r with
 |none=>
  refine⟨{ w with heap:=w.heap.setIfInBounds (f.blk b) (.map (gs.push { key:=uk,val:=uv,born:=cl }) (cl+1)) },?_,?_⟩
  ·simp[Instr.mapUpdate,run_underlying ht,MapKept.run_getObj_map g1,h1,h3,MapKept.run_setObj_map _ g1,Result.andThen]
  ·exact AN hr hd hb hn hnew hold (by simpa[O4]using hes.append (.cons _ _ _ _ ⟨M7,huv,rfl⟩ .nil))
 |some i=>
  obtain⟨a,e,k1,k2,k3,k4,k5⟩:=h3;refine⟨{ w with heap:=w.heap.setIfInBounds (f.blk b) (.map (gs.modify i λe=>{ e with key:=uk,val:=uv }) cl) },?_,?_⟩
  ·have k2':gs[i]? = some e:=by simpa using k2
   simp[Instr.mapUpdate,run_underlying ht,MapKept.run_getObj_map g1,h1,k5,k2',k4,h2,MapKept.run_setObj_map _ g1,Result.andThen]
  ·exact AN hr hd hb hn hnew hold (by
    simpa[O4]using hes.modify (g:=λe=>⟨key,val,e.born⟩) (g':=λe=>{ e with key:=uk,val:=uv }) i λa e _ _ h=>⟨M7,huv,h.2.2⟩)
def amN(es:List eW)(r:Option Nat):List eW:=match r with|none=>es|some i=>es.eraseIdx i
theorem Y1{P:Program}{t kt et ty:TypeId}{ts:Array TypeId}{key:AV}{b cl:Nat}{es:List eW}{r:Option Nat}{H H':AH}(hts:ts[0]? = some t)(ht:P.underlying t=some (.map kt et))(hl:wy P kt=true)(hb:H.at b=.map es cl)(hf:uP P kt key es=some r)
  (hn:H'.n=H.n) (hnew:H'.at b=.map (amN es r) cl) (hold:∀c,c≠b→H'.at c=H.at c){f:aI}{w:World}{um uk:Value}(hr:HR f H w) (hum:VR f (.map b) um) (M7:VR f key uk) :
  ∃w',(Builtin.delete_ ts ty #[um,uk]).run P w=.ok (.tuple #[]) w'∧Step f H w f H' w':=by
 cases hum with
 |map _ hd=>
 have hob:=hr.obj b hd (by rw[AH.bN,hb];rfl);rw[AH.bN,hb]at hob;obtain⟨gs,g1,hes⟩:=hob;obtain⟨h1,h2,h3⟩:=AM hl hf M7 hes w;cases r with
 |none=>
  refine⟨{ w with heap:=w.heap.setIfInBounds (f.blk b) (.map gs cl) },?_,?_⟩
  ·simp[Builtin.delete_,hts,run_underlying ht,MapKept.run_getObj_map g1,h1,h3,MapKept.run_setObj_map _ g1,Result.andThen]
  ·exact AN hr hd hb hn hnew hold hes
 |some i=>
  obtain⟨a,e,k1,k2,k3,k4,k5⟩:=h3;refine⟨{ w with heap:=w.heap.setIfInBounds (f.blk b) (.map (gs.eraseIdxIfInBounds i) cl) },?_,?_⟩
  ·simp[Builtin.delete_,hts,run_underlying ht,MapKept.run_getObj_map g1,h1,k5,MapKept.run_setObj_map _ g1,Result.andThen]
  ·refine AN hr hd hb hn hnew hold ?_;have:(gs.eraseIdxIfInBounds i).toList=gs.toList.eraseIdx i:=by
    have hi:i<gs.size:=by
     have:i<gs.toList.length:=by
      rcases Nat.lt_or_ge i gs.toList.length with h|h
      ·exact h
      ·rw[List.getElem?_eq_none h]at k2;cases k2
     simpa using this
    simp[Array.eraseIdxIfInBounds,hi]
   rw[this];exact hes.eraseIdx i
end Go.X
namespace Go.X
def bC(v:AV)(k:Bool→Prop):Prop:=match v with|.bool z=>k z|_=>False
def ayU(q:Nat)(x y:AV)(k:Bool→Prop):Prop:=j0 x λc a=>j0 y λc' b=>bT (Nat.beq c q) (bT (Nat.beq c' q) (k (aV a b)))
def ayV(x y:AV)(k:Bool→Prop):Prop:=fV x λn a=>fV y λm b=>k (Nat.beq n m&&Nat.beq a b)
def ayW(x y:AV)(k:Bool→Prop):Prop:=bC x λa=>bC y λb=>k (a == b)
def N8(P:Program)(t:TypeId)(x y:AV)(H:AH)(k:Bool→Prop):Prop:=match P.underlying t with
 |some (.int q)=>ayU (kn q) x y k
 |some .string=>ayV x y k
 |some .bool=>ayW x y k
 |some (.pointer e)=>(match P.info? e with|some i=>bT (Nat.ble 1 i.size) (oU true x y H λv=>bC v k)|none=>False)
 |_=>False
def amO(P:Program)(l1 l2:List AV)(H:AH):List Field→(Bool→Prop)→Prop
 |[],k=>k true
 |f::fs,k=>bT (f.name != "_") (cE l1 f.offset λx=>cE l2 f.offset λy=>N8 P f.type x y H λe=>amO P l1 l2 H fs λe2=>k (e&&e2))
def auC(P:Program)(op:BinOp)(t:TypeId)(fs:Array Field)(a b:AV)(H:AH)(k:AV→Prop):Prop:=
 bT (!(P.stoodInHeld t) && !(P.eqGuardType P.depth t)) (fW a λl1=>fW b λl2=>MY op λr=>amO P l1 l2 H fs.toList λe=>k (.bool (match r with|true=>e|false=>!e)))
def Y2(P:Program)(op:BinOp)(t:TypeId)(x y:Operand)(a b:AV)(H:AH)(k:AV→Prop):Prop:=match P.underlying t with
 |some (.struct fs)=>auC P op t fs a b H k
 |_=>amv P op t x y a b H k
section
variable {P:Program}
theorem O5{v:AV}{k:Bool→Prop}(h:bC v k):∃z,v=.bool z∧k z:=by
 cases v<;>first|exact h.elim|exact⟨_,rfl,h⟩
theorem amP{t:TypeId}{x y:AV}{H:AH}{k:Bool→Prop}(h:N8 P t x y H k):∃e,k e∧∀f u v d w,HRQ f H.sem w→VR f x u→VR f y v→(Op.equalIn (d+1) t u v).run P w=.ok e w:=by
 unfold N8 at h;split at h
 ·rename_i q ht;obtain⟨c,a,rfl,h1⟩:=eV h;obtain⟨c',b,rfl,h2⟩:=eV h1;obtain⟨e1,h3⟩:=aD h2;obtain⟨e2,h4⟩:=aD h3;have e1:=Nat.eq_of_beq_eq_true e1;have e2:=Nat.eq_of_beq_eq_true e2;subst e1;subst e2;refine⟨_,h4,λf u v d w _ hu hv=>?_⟩;cases hu;cases hv;rw[run_equalIn_int w d t _ q _ _ ht,pq]
 ·rename_i ht;obtain⟨n,a,rfl,h1⟩:=gC h;obtain⟨m,b,rfl,h2⟩:=gC h1;refine⟨_,h2,λf u v d w _ hu hv=>?_⟩;obtain⟨rfl,hx⟩:=hu.jl;obtain⟨rfl,hy⟩:=hv.jl;rw[run_equalIn_string w d t _ _ ht];rw[←Jp hx hy];simp[eS,ByteArray.toList_eq]
 ·rename_i ht;obtain⟨a,rfl,h1⟩:=O5 h;obtain⟨b,rfl,h2⟩:=O5 h1;refine⟨_,h2,λf u v d w _ hu hv=>?_⟩;cases hu;cases hv;rw[run_equalIn_bool' w d t _ _ ht]
 ·rename_i el ht;split at h
  ·rename_i i hi;obtain⟨hs,h1⟩:=aD h;obtain⟨z,h2,g⟩:=UH (P:=P) (t:=t) ht hi (Nat.le_of_ble_eq_true hs) h1;refine⟨z,by cases z<;>exact h2,λf u v d w hr hu hv=>g f w u v hr hu hv d⟩
  ·exact h.elim
 ·exact h.elim
theorem GM{a:AV}{k:List AV→Prop}(h:fW a k):∃l,a=.agg l∧k l:=by
 cases a<;>first|exact h.elim|exact⟨_,rfl,h⟩
theorem UQ{l1 l2:List AV}{H:AH}:∀{fs:List Field}{k:Bool→Prop},amO P l1 l2 H fs k→∃e,k e∧∀f us vs d w,HRQ f H.sem w→VL f l1 us→VL f l2 vs→(Op.eqFields (d+1) us.toArray vs.toArray fs).run P w=.ok e w
 |[],k,h=>⟨true,h,λ_ _ _ _ _ _ _ _=>by simp[Op.eqFields]⟩
 |g::fs,k,h=>by
  obtain⟨hn,h⟩:=aD h;obtain⟨x,h1,h⟩:=rS _ _ _ h;obtain⟨y,h2,h⟩:=rS _ _ _ h;have hs:uF P g.type=false∧∃d,P.underlying g.type=some d:=by
   unfold N8 at h;split at h
   ·rename_i q e;exact⟨by simp[uF,e],_,e⟩
   ·rename_i e;exact⟨by simp[uF,e],_,e⟩
   ·rename_i e;exact⟨by simp[uF,e],_,e⟩
   ·rename_i e;exact⟨by simp[uF,e],_,e⟩
   ·exact h.elim
  obtain⟨ha,du,y9⟩:=hs;obtain⟨e,h,g1⟩:=amP h;obtain⟨e2,h,g2⟩:=UQ h;refine⟨_,h,λf us vs d w hr hu hv=>?_⟩;obtain⟨r1,y1,y2⟩:=hu.get _ _ h1;obtain⟨r2,z1,z2⟩:=hv.get _ _ h2;have p1:∀w,(part g.type us.toArray g.offset).run P w=.ok r1 w:=λw=>by simp[part,rR y9,ha,y1]
  have p2:∀w,(part g.type vs.toArray g.offset).run P w=.ok r2 w:=λw=>by simp[part,rR y9,ha,z1]
  have hne:g.name ≠ "_" := by simpa using hn
  simp only[Op.eqFields,if_pos hne,Sem.run_bind,p1,p2,g1 f r1 r2 d w hr y2 z2,Result.andThen_ok,Sem.run_ite];cases e
  ·simp
  ·simpa using g2 f us vs d w hr hu hv
theorem aqN{op:BinOp}{t:TypeId}{fs:Array Field}{x y:Operand}{a b:AV}{H:AH}{k:AV→Prop}(ht:P.underlying t=some (.struct fs))(h:auC P op t fs a b H k):∃v,k v∧mO P op t x y a b H v:=by
 obtain⟨hc,h⟩:=aD h;simp only[Bool.and_eq_true,Bool.not_eq_true']at hc;obtain⟨l1,rfl,h1⟩:=GM h;obtain⟨l2,rfl,h2⟩:=GM h1;obtain⟨r,hop,h⟩:=u4 h2;obtain⟨e,h,g⟩:=UQ h;have hf:P.fieldsOf t=fs:=by simp[Program.fieldsOf,ht]
 refine⟨_,h,λf w u1 u2 hr h1 h2 _ _=>?_⟩;cases h1 with
 |agg _ us hu=>
  cases h2 with
  |agg _ vs hv=>
   have hrun:(Op.equalIn 10000 t (.agg us.toArray) (.agg vs.toArray)).run P w=.ok e w:=by
    rw[show(10000:Nat)=9999+1 from rfl,run_equalIn_struct w 9999 t _ _ (by rw[hf];exact ht) hc.1,hf];exact g f us vs 9998 w hr hu hv
   rw[Sem.run_bind,run_eqGuard_agg w op t x y _ _ hc.2,Result.andThen_ok];rcases hop with⟨rfl,rfl⟩|⟨rfl,rfl⟩
   ·exact⟨.bool e,by rw[run_eql_struct,hrun];rfl,.bool e⟩
   ·exact⟨.bool (!e),by rw[run_neq_struct,hrun];rfl,.bool (!e)⟩
theorem amQ{op:BinOp}{t:TypeId}{x y:Operand}{a b:AV}{H:AH}{k:AV→Prop}(h:Y2 P op t x y a b H k):∃v,k v∧mO P op t x y a b H v:=by
 unfold Y2 at h;split at h
 ·exact aqN (by assumption) h
 ·exact aqF h
end
noncomputable section
def auD(a:AV)(k:AV→Prop):Prop:=nZ a (k (.int 0 (.ofNat 0))) λ_ _ _ c _ ex=>bT ex (k (.int 0 (.ofNat c)))
def amR(P:Program)(t:TypeId)(a:AV)(k:AV→Prop):Prop:=match P.underlying t with|some (.slice _)=>auD a k|_=>False
def af5(sz:Nat)(z:List AV)(a:AV)(H:AH)(k:AH→Prop):Prop:=
 nZ a (k H) λb o len _ sz' _=>bT (Nat.beq sz' sz) (fH H b λc m w=>bT (Nat.ble w 1) (iM (mV len z) c o λc' o'=>bT (Nat.ble o' m) (jx H b (.cells c' m w) k)))
def O6(P:Program)(t:TypeId)(a:AV)(H:AH)(k:AH→Prop):Prop:=match P.underlying t with
 |some (.slice e)=>(match P.info? e,zeroCells P e with
  |some i,some z=>bT (Nat.beq z.length i.size) (af5 i.size z a H k)
  |_,_=>False)
 |_=>False
def N9(a b:AV)(H:AH)(k:AV→Prop):Prop:=
 nZ a (nZ b (k (.bool false)) λ_ _ _ _ _ _=>k (.bool false)) λb1 _ _ _ _ _=>nZ b (k (.bool false)) λb2 _ _ _ _ _=>
  bT (!(Nat.beq b1 b2)) (fH H b1 λ_ _ m1=>bT (Nat.beq m1 0) (fH H b2 λ_ n2 _=>bT (Nat.ble 1 n2) (k (.bool false))))
end
section
variable {P:Program}
theorem aqO{t ty:TypeId}{ts:Array TypeId}{a:AV}{k:AV→Prop}(hts:ts[0]? = some t)(h:amR P t a k) :
  ∃v,k v∧∀f w u,VR f a u→∃r,(Builtin.cap_ ts ty #[u]).run P w=.ok r w∧VR f v r:=by
 unfold amR at h;split at h
 ·rename_i e ht;unfold auD at h;rcases gM h with⟨rfl,h⟩|⟨b,o,len,cap,sz,ex,rfl,h⟩
  ·exact⟨_,h,λf w u hu=>⟨.int .i64 0,by cases hu;simp[Builtin.cap_,hts,run_underlying ht,goInt],.int 0 _⟩⟩
  ·obtain⟨rfl,h⟩:=aD h;refine⟨_,h,λf w u hu=>⟨.int .i64 cap,?_,.int 0 _⟩⟩;cases hu with
   |slice _ _ _ _ _ _ cap' x h1 h2 h3 h4 h5=>
    have:cap'=cap:=by
     rcases Nat.lt_or_ge cap cap' with g|g
     ·exact absurd (h5 g).1 (by simp)
     ·omega
    subst this;simp[Builtin.cap_,hts,run_underlying ht,goInt]
 ·exact h.elim
theorem zc(z:Array Value)(n:Nat):(Builtin.zeroCells z n).toList=List.flatten (List.replicate n z.toList):=by
 by_cases h0:n*z.size=0
 ·rcases Nat.mul_eq_zero.1 h0 with h|h
  ·subst h;simp[Builtin.zeroCells]
  ·have:z = #[]:=by simpa using h
   subst this;simp[Builtin.zeroCells]
 ·have hz:0<z.size:=Nat.pos_of_ne_zero λe=>h0 (by rw[e,Nat.mul_zero]);have:=og z n hz;unfold Builtin.zeroCells;rw[this]
theorem af6{t ty:TypeId}{a:AV}{H:AH}{k:AH→Prop}(h:O6 P t a H k) :
  ∃H',k H'∧∀f w u,HR f H w→VR f a u→∃w',(Builtin.clear_ #[t] ty #[u]).run P w=.ok undef w'∧Step f H w f H' w':=by
 unfold O6 at h;split at h
 ·rename_i e ht;split at h
  ·rename_i i z hi hz;obtain⟨aBe,h⟩:=aD h;obtain⟨i',zv,hi',hzv,hzl⟩:=kO hz;rw[hi]at hi';injection hi' with hi';subst hi';unfold af5 at h;rcases gM h with⟨rfl,h⟩|⟨b,o,len,cap,sz,ex,rfl,h⟩
   ·refine⟨H,h,λf w u hr hu=>⟨w,?_,Step.refl hr⟩⟩;cases hu;simp[Builtin.clear_,run_underlying ht,undef]
   ·obtain⟨_,h⟩:=aD h;obtain⟨c,m,q,hb,h⟩:=dx h;obtain⟨hq,h⟩:=aD h;have hq:=Nat.le_of_ble_eq_true hq;obtain⟨c',h,p1,p2,p3⟩:=fm _ _ _ _ h;obtain⟨hm,h⟩:=aD h;have hm:=Nat.le_of_ble_eq_true hm;obtain⟨H',g1,g2,g3,g4⟩:=gA h;refine⟨H',g1,λf w u hr hu=>?_⟩;cases hu with
    |slice _ _ _ _ _ _ cap' y hb1 a1 a2 a3 a4=>
     have hv:=VL.mV (hzl f) len;have hstep:=hr.setCells hb1 hb (by omega) hm hv H' g2 g3 g4 p2 p3;cases len with
     |zero=>
      refine⟨w,by simp[Builtin.clear_,run_underlying ht,undef],?_⟩;exact hstep
     |succ len=>
      have hy:=a3 (by omega);subst hy;refine⟨_,?_,hstep⟩;have hst:=oe (P:=P) hr hb1 hb (by omega) hm hv p1;rw[←zc]at hst;have hzr:∀w,(zeroValue e).run P w=.ok zv w:=λw=>by simp[zeroValue,typeInfo,hi,hzv]
      simp[Builtin.clear_,run_underlying ht,hzr,hst,undef];rw[zc]
  ·exact h.elim
 ·exact h.elim
end
end Go.X
