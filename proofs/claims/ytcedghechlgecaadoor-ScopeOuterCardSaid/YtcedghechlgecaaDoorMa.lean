/- A machine for the kernel, and that it does what the model does. No condition: definitions and lemmas. -/
import Derived.Test.YtcedghechlgecaaDoorYa
import Derived.Laws.StandIn
import Derived.Laws.IdiomStrings
import Derived.Below
set_option maxRecDepth 100000
set_option maxHeartbeats 0
set_option linter.unusedVariables false
set_option linter.unusedSimpArgs false
namespace Go.X
noncomputable section
def sE(α:Type)(d:Nat):Type:=Nat.rec (motive:=λ_=>Type) α (λ_ T=>(T→T→T→T→T→T→T→T→Prop)→Prop) d
abbrev ym(T:Type):Type:=(T→T→T→T→T→T→T→T→Prop)→Prop
structure Acc(α T:Type) where
 get:(α→Prop)→T→Prop
 mod:(α→(α→Prop)→Prop)→(T→Prop)→T→Prop
def ai9(α T:Type):Acc α T:=⟨λ_ _=>False,λ_ _ _=>False⟩
section
variable {α T:Type}
def LF(a:Acc α T)(j:Nat):Acc α (ym T):=
 @Nat.rec (λ_=>Acc α (ym T)) ⟨λk t=>t λc _ _ _ _ _ _ _=>a.get k c,λf k t=>t λc0 c1 c2 c3 c4 c5 c6 c7=>a.mod f (λc=>k λs=>s c c1 c2 c3 c4 c5 c6 c7) c0⟩ (λj _=>
 @Nat.rec (λ_=>Acc α (ym T)) ⟨λk t=>t λ_ c _ _ _ _ _ _=>a.get k c,λf k t=>t λc0 c1 c2 c3 c4 c5 c6 c7=>a.mod f (λc=>k λs=>s c0 c c2 c3 c4 c5 c6 c7) c1⟩ (λj _=>
 @Nat.rec (λ_=>Acc α (ym T)) ⟨λk t=>t λ_ _ c _ _ _ _ _=>a.get k c,λf k t=>t λc0 c1 c2 c3 c4 c5 c6 c7=>a.mod f (λc=>k λs=>s c0 c1 c c3 c4 c5 c6 c7) c2⟩ (λj _=>
 @Nat.rec (λ_=>Acc α (ym T)) ⟨λk t=>t λ_ _ _ c _ _ _ _=>a.get k c,λf k t=>t λc0 c1 c2 c3 c4 c5 c6 c7=>a.mod f (λc=>k λs=>s c0 c1 c2 c c4 c5 c6 c7) c3⟩ (λj _=>
 @Nat.rec (λ_=>Acc α (ym T)) ⟨λk t=>t λ_ _ _ _ c _ _ _=>a.get k c,λf k t=>t λc0 c1 c2 c3 c4 c5 c6 c7=>a.mod f (λc=>k λs=>s c0 c1 c2 c3 c c5 c6 c7) c4⟩ (λj _=>
 @Nat.rec (λ_=>Acc α (ym T)) ⟨λk t=>t λ_ _ _ _ _ c _ _=>a.get k c,λf k t=>t λc0 c1 c2 c3 c4 c5 c6 c7=>a.mod f (λc=>k λs=>s c0 c1 c2 c3 c4 c c6 c7) c5⟩ (λj _=>
 @Nat.rec (λ_=>Acc α (ym T)) ⟨λk t=>t λ_ _ _ _ _ _ c _=>a.get k c,λf k t=>t λc0 c1 c2 c3 c4 c5 c6 c7=>a.mod f (λc=>k λs=>s c0 c1 c2 c3 c4 c5 c c7) c6⟩ (λj _=>
 @Nat.rec (λ_=>Acc α (ym T)) ⟨λk t=>t λ_ _ _ _ _ _ _ c=>a.get k c,λf k t=>t λc0 c1 c2 c3 c4 c5 c6 c7=>a.mod f (λc=>k λs=>s c0 c1 c2 c3 c4 c5 c6 c) c7⟩ (λ_ _=>ai9 α (ym T)) j) j) j) j) j) j) j) j
end
def acc(α:Type)(d:Nat):Nat→Acc α (sE α d):=
 @Nat.rec (λd=>Nat→Acc α (sE α d)) (λi=>@Nat.rec (λ_=>Acc α α) ⟨λk t=>k t,λf k t=>f t k⟩ (λ_ _=>ai9 α α) i)
  (λd ih i=>LF (ih (Nat.mod i (Nat.pow 8 d))) (Nat.div i (Nat.pow 8 d))) d
end
def nd{T:Type}(c:Nat→T):ym T:=λs=>s (c 0) (c 1) (c 2) (c 3) (c 4) (c 5) (c 6) (c 7)
def sv{β:Type}(m:Nat→β)(i:Nat)(b:β):Nat→β:=λx=>if x=i then b else m x
theorem pQ{β:Type}(m:Nat→β)(i:Nat)(b:β):sv m i b i=b:=by simp[sv]
theorem sX{β:Type}(m:Nat→β){i x:Nat}(h:x≠i)(b:β):sv m i b x=m x:=by simp[sv,h]
def TR{α β:Type}(r:α→β→Prop):(d:Nat)→sE α d→(Nat→β)→Prop
 |0,t,m=>r t (m 0)
 |d+1,t,m=>∃c:Nat→sE α d,t=nd c∧∀j,j<8→TR r d (c j) (λi=>m (j*8^d+i))
section
variable {α β T:Type}{r:α→β→Prop}
theorem aee{a:Acc α T}{j:Nat}{k:α→Prop}{c:Nat→T}(h:(LF a j).get k (nd c)):j<8∧a.get k (c j):=by
 match j,h with
 |0,h=>exact⟨by decide,h⟩
 |1,h=>exact⟨by decide,h⟩
 |2,h=>exact⟨by decide,h⟩
 |3,h=>exact⟨by decide,h⟩
 |4,h=>exact⟨by decide,h⟩
 |5,h=>exact⟨by decide,h⟩
 |6,h=>exact⟨by decide,h⟩
 |7,h=>exact⟨by decide,h⟩
 |n+8,h=>exact(show False from h).elim
theorem aef{a:Acc α T}{j:Nat}{f:α→(α→Prop)→Prop}{k:ym T→Prop}{c:Nat→T}(h:(LF a j).mod f k (nd c)):j<8∧a.mod f (λx=>k (nd (sv c j x))) (c j):=by
 match j,h with
 |0,h=>exact⟨by decide,h⟩
 |1,h=>exact⟨by decide,h⟩
 |2,h=>exact⟨by decide,h⟩
 |3,h=>exact⟨by decide,h⟩
 |4,h=>exact⟨by decide,h⟩
 |5,h=>exact⟨by decide,h⟩
 |6,h=>exact⟨by decide,h⟩
 |7,h=>exact⟨by decide,h⟩
 |n+8,h=>exact(show False from h).elim
theorem mS:∀(d:Nat){t:sE α d}{m:Nat→β}{i:Nat}{k:α→Prop},TR r d t m→(acc α d i).get k t→i<8^d∧∃v,r v (m i)∧k v
 |0,t,m,0,k,ht,h=>⟨by decide,t,ht,h⟩
 |0,t,m,i+1,k,ht,h=>(show False from h).elim
 |d+1,t,m,i,k,ht,h=>by
  obtain⟨c,rfl,hc⟩:=ht;have h':(LF (acc α d (i%8^d)) (i/8^d)).get k (nd c):=h;obtain⟨hj,h'⟩:=aee h';obtain⟨hl,v,hv,hk⟩:=mS d (hc _ hj) h';refine⟨?_,v,?_,hk⟩
  ·rw[Nat.pow_succ,Nat.mul_comm];exact(Nat.div_lt_iff_lt_mul (Nat.pow_pos (by decide))).1 hj |> λx=>by rwa [Nat.mul_comm]at x ⊢
  ·have:i/8^d*8^d+i%8^d=i:=by rw[Nat.mul_comm];exact Nat.div_add_mod i (8^d)
   rwa [this]at hv
theorem pR:∀(d:Nat){t:sE α d}{m:Nat→β}{i:Nat}{f:α→(α→Prop)→Prop}{k:sE α d→Prop},TR r d t m→(acc α d i).mod f k t→
  i<8^d∧∃v k',r v (m i)∧f v k'∧∀v' b',k' v'→r v' b'→∃t',TR r d t' (sv m i b')∧k t'
 |0,t,m,0,f,k,ht,h=>⟨by decide,t,k,ht,h,λv' b' h1 h2=>⟨v',(by show r v' (sv m 0 b' 0);rw[pQ];exact h2),h1⟩⟩
 |0,t,m,i+1,f,k,ht,h=>(show False from h).elim
 |d+1,t,m,i,f,k,ht,h=>by
  obtain⟨c,rfl,hc⟩:=ht;have h':(LF (acc α d (i%8^d)) (i/8^d)).mod f k (nd c):=h;obtain⟨hj,h'⟩:=aef h';obtain⟨hl,v,k',hv,hf,hk⟩:=pR d (hc _ hj) h';have hi:i/8^d*8^d+i%8^d=i:=by rw[Nat.mul_comm];exact Nat.div_add_mod i (8^d)
  refine⟨?_,v,k',by rwa [hi]at hv,hf,λv' b' h1 h2=>?_⟩
  ·rw[Nat.pow_succ,Nat.mul_comm];exact(Nat.div_lt_iff_lt_mul (Nat.pow_pos (by decide))).1 hj |> λx=>by rwa [Nat.mul_comm]at x ⊢
  ·obtain⟨t',g1,g2⟩:=hk v' b' h1 h2;refine⟨_,⟨sv c (i/8^d) t',rfl,λj hj'=>?_⟩,g2⟩;by_cases e:j=i/8^d
   ·subst e;rw[pQ];have:(λx=>sv m i b' (i/8^d*8^d+x))=sv (λx=>m (i/8^d*8^d+x)) (i%8^d) b':=by
     funext x;unfold sv;by_cases ex:x=i%8^d
     ·rw[if_pos ex,if_pos (by rw[ex,hi])]
     ·rw[if_neg ex,if_neg (by omega)]
    rw[this];exact g1
   ·rw[sX _ e];have hne:∀x,x<8^d→j*8^d+x≠i:=λx hx e2=>e (by
     rw[←e2,Nat.mul_comm,Nat.mul_add_div (Nat.pow_pos (by decide)),Nat.div_eq_of_lt hx,Nat.add_zero])
    exact TR.congr d (hc j hj') λx hx=>(sX _ (hne x hx) b').symm
 where
 TR.congr:∀(d:Nat){t:sE α d}{m m':Nat→β},TR r d t m→(∀i,i<8^d→m i=m' i)→TR r d t m'
 |0,t,m,m',h,e=>by unfold TR at h ⊢;rw[←e 0 (by decide)];exact h
 |d+1,t,m,m',h,e=>by
  obtain⟨c,rfl,hc⟩:=h;refine⟨c,rfl,λj hj=>TR.congr d (hc j hj) λi hi=>e _ ?_⟩;rw[Nat.pow_succ];have:j*8^d≤7*8^d:=Nat.mul_le_mul_right _ (by omega);omega
theorem TR.congr'{d:Nat}{t:sE α d}{m m':Nat→β}(h:TR r d t m)(e:∀i,i<8^d→m i=m' i):TR r d t m':=pR.TR.congr d h e
end
noncomputable section
abbrev V:Type:=Prop→Prop→(Nat→Prop)→(Nat→Prop)→(Nat→Nat→Prop)→(Nat→Nat→Prop)→(Nat→Nat→Prop)→(Nat→Nat→Nat→Nat→Nat→Bool→Prop)→(List AV→Prop)→(List AV→Prop)→(AV→Prop)→Prop
def N1:Nat→Prop:=λ_=>False
def N2:Nat→Nat→Prop:=λ_ _=>False
def N6:Nat→Nat→Nat→Nat→Nat→Bool→Prop:=λ_ _ _ _ _ _=>False
def NL:List AV→Prop:=λ_=>False
def NO:AV→Prop:=λ_=>False
structure VB where
 v:V
def kA(a:AV):VB:=
 @AV.casesOn (λ_=>VB) a (λb=>@Bool.rec (λ_=>VB) ⟨(λ_ h _ _ _ _ _ _ _ _ _=>h)⟩ ⟨(λh _ _ _ _ _ _ _ _ _ _=>h)⟩ b)
  (λk z=>@Int.rec (λ_=>VB) (λn=>@Nat.rec (λ_=>VB) ⟨(λ_ _ h _ _ _ _ _ _ _ _=>h n)⟩ (λc _=>⟨(λ_ _ _ _ h _ _ _ _ _ _=>h (Nat.succ c) n)⟩) k) (λn=>@Nat.rec (λ_=>VB) ⟨(λ_ _ _ h _ _ _ _ _ _ _=>h n)⟩ (λc _=>⟨(λ_ _ _ _ _ _ _ _ _ _ h=>h (.int (Nat.succ c) (.negSucc n)))⟩) k) z)
  (λn x=>⟨(λ_ _ _ _ _ h _ _ _ _ _=>h n x)⟩) ⟨(λ_ _ _ _ _ _ _ _ _ _ h=>h .jQ)⟩ (λb o=>⟨(λ_ _ _ _ _ _ h _ _ _ _=>h b o)⟩) ⟨(λ_ _ _ _ _ _ _ _ _ _ h=>h .ab)⟩ (λb o l c s x=>⟨(λ_ _ _ _ _ _ _ h _ _ _=>h b o l c s x)⟩) ⟨(λ_ _ _ _ _ _ _ _ _ _ h=>h .pr)⟩ (λb=>⟨(λ_ _ _ _ _ _ _ _ _ _ h=>h (.map b))⟩) ⟨(λ_ _ _ _ _ _ _ _ _ _ h=>h .p4)⟩
  (λg x y=>⟨(λ_ _ _ _ _ _ _ _ _ _ h=>h (.func g x y))⟩) ⟨(λ_ _ _ _ _ _ _ _ _ _ h=>h .jD)⟩ (λt v=>⟨(λ_ _ _ _ _ _ _ _ _ _ h=>h (.iface t v))⟩) (λl=>⟨(λ_ _ _ _ _ _ _ _ h _ _=>h l)⟩) (λl=>⟨(λ_ _ _ _ _ _ _ _ _ h _=>h l)⟩) ⟨(λ_ _ _ _ _ _ _ _ _ _ h=>h .cU)⟩ (λm r=>⟨(λ_ _ _ _ _ _ _ _ _ _ h=>h (.yv m r))⟩) (λm r=>⟨(λ_ _ _ _ _ _ _ _ _ _ h=>h (.yw m r))⟩) (λm r=>⟨(λ_ _ _ _ _ _ _ _ _ _ h=>h (.s6 m r))⟩)
def enc(a:AV):V:=(kA a).v
def dec(v:V)(k:AV→Prop):Prop:=v (k (.bool true)) (k (.bool false)) (λn=>k (.int 0 (.ofNat n))) (λn=>k (.int 0 (.negSucc n))) (λc n=>k (.int c (.ofNat n))) (λn x=>k (.str n x)) (λb o=>k (.ptr b o)) (λb o l c s x=>k (.slice b o l c s x)) (λl=>k (.agg l)) (λl=>k (.bF l)) k
end
def AV.odd:AV→Bool
 |.bool _=>false
 |.int 0 _=>false
 |.int (_+1) (.ofNat _)=>false
 |.str _ _=>false
 |.ptr _ _=>false
 |.slice _ _ _ _ _ _=>false
 |.agg _=>false
 |.bF _=>false
 |_=>true
section
variable {T F:Prop}{I M:Nat→Prop}{U S P:Nat→Nat→Prop}{L:Nat→Nat→Nat→Nat→Nat→Bool→Prop}{A Q:List AV→Prop}{O:AV→Prop}
theorem dk{a:AV}(h:enc a T F I M U S P L A Q O) :
  (a=.bool true∧T)∨(a=.bool false∧F)∨(∃n,a=.int 0 (.ofNat n)∧I n)∨(∃n,a=.int 0 (.negSucc n)∧M n)∨(∃c n,0<c∧a=.int c (.ofNat n)∧U c n)∨(∃n x,a=.str n x∧S n x)∨
  (∃b o,a=.ptr b o∧P b o)∨(∃b o l c s x,a=.slice b o l c s x∧L b o l c s x)∨(∃l,a=.agg l∧A l)∨(∃l,a=.bF l∧Q l)∨(a.odd=true∧O a):=by
 cases a with
 |bool b=>cases b;exact .inr (.inl ⟨rfl,h⟩);exact .inl ⟨rfl,h⟩
 |int k z=>
  cases k with
  |zero=>cases z with
   |ofNat n=>exact .inr (.inr (.inl ⟨n,rfl,h⟩))
   |negSucc n=>exact .inr (.inr (.inr (.inl ⟨n,rfl,h⟩)))
  |succ k=>cases z with
   |ofNat n=>exact .inr (.inr (.inr (.inr (.inl ⟨k+1,n,by omega,rfl,h⟩))))
   |negSucc n=>exact .inr (.inr (.inr (.inr (.inr (.inr (.inr (.inr (.inr (.inr ⟨rfl,h⟩)))))))))
 |str n x=>exact .inr (.inr (.inr (.inr (.inr (.inl ⟨n,x,rfl,h⟩)))))
 |ptr b o=>exact .inr (.inr (.inr (.inr (.inr (.inr (.inl ⟨b,o,rfl,h⟩))))))
 |slice b o l c s x=>exact .inr (.inr (.inr (.inr (.inr (.inr (.inr (.inl ⟨b,o,l,c,s,x,rfl,h⟩)))))))
 |agg l=>exact .inr (.inr (.inr (.inr (.inr (.inr (.inr (.inr (.inl ⟨l,rfl,h⟩))))))))
 |bF l=>exact .inr (.inr (.inr (.inr (.inr (.inr (.inr (.inr (.inr (.inl ⟨l,rfl,h⟩)))))))))
 |_=>exact .inr (.inr (.inr (.inr (.inr (.inr (.inr (.inr (.inr (.inr ⟨rfl,h⟩)))))))))
theorem eJ{a:AV}{k:AV→Prop}(h:dec (enc a) k):k a:=by
 have g:=dk h;clear h;rcases g with⟨rfl,h⟩|⟨rfl,h⟩|⟨n,rfl,h⟩|⟨n,rfl,h⟩|⟨c,n,_,rfl,h⟩|⟨n,x,rfl,h⟩|⟨b,o,rfl,h⟩|⟨b,o,l,c,s,x,rfl,h⟩|⟨l,rfl,h⟩|⟨l,rfl,h⟩|⟨_,h⟩<;>exact h
end
theorem Bt.eK{α:Type}:∀{t:Bt α}{i:Nat}{v:α}{k:α→Prop},t.get? i=some v→k v→t.ez i k
 |.e,_,_,_,h,_=>by simp[Bt.get?]at h
 |.n u l r,0,v,k,h,hk=>by
  simp only[Bt.get?,Option.some.injEq]at h;subst h;exact hk
 |.n u l r,i+1,v,k,h,hk=>by
  simp only[Bt.get?]at h;show @Nat.rec (λ_=>Prop) (l.ez (i/2) k) (λ_ _=>r.ez (i/2) k) (i%2);rcases Nat.mod_two_eq_zero_or_one i with e|e
  ·rw[e]at h ⊢;exact Bt.eK (by simpa using h) hk
  ·rw[e]at h ⊢;exact Bt.eK (by simpa using h) hk
def Full{α:Type}(t:Bt α)(n:Nat):Prop:=∀i,(t.get? i).isSome=true↔i<n
theorem Full.e{α:Type}:Full (.e:Bt α) 0:=λi=>by simp[Bt.get?]
theorem Full.sub{α:Type}{v:α}{l r:Bt α}{n:Nat}(h:Full (.n v l r) n):0<n∧Full l (n/2)∧Full r ((n-1)/2):=by
 have h0:=(h 0).1 rfl;refine⟨h0,λi=>?_,λi=>?_⟩
 ·have:=h (2*i+1);simp only[Bt.get?,show 2*i%2=0 by omega,if_true,show 2*i/2=i by omega]at this;rw[this];omega
 ·have:=h (2*i+1+1);simp only[Bt.get?,show(2*i+1)%2=1 by omega,show(2*i+1)/2=i by omega]at this;simp only[Nat.succ_ne_zero,if_false]at this;rw[this];omega
theorem Bt.tA{α:Type}:∀{t:Bt α}{N i:Nat},Full t N→i≤N→∀v,∃t',(∀k:Bt α→Prop,k t'→t.cP i v k)∧t'.get? i=some v∧∀j,j≠i→t'.get? j=t.get? j
 |.e,N,i,hf,hi,v=>by
  have hn:N=0:=by
   rcases Nat.eq_zero_or_pos N with h|h
   ·exact h
   ·have:=(hf 0).2 h;simp[Bt.get?]at this
  obtain rfl:i=0:=by omega
  exact⟨.n v .e .e,λk h=>h,rfl,λj hj=>by cases j with|zero=>exact absurd rfl hj|succ j=>simp only[Bt.get?,ite_self]⟩
 |.n u l r,N,0,hf,hi,v=>⟨.n v l r,λk h=>h,rfl,λj hj=>by cases j with|zero=>exact absurd rfl hj|succ j=>simp only[Bt.get?]⟩
 |.n u l r,N,i+1,hf,hi,v=>by
  obtain⟨h0,hl,hr⟩:=hf.sub;rcases Nat.mod_two_eq_zero_or_one i with e|e
  ·obtain⟨l',g1,g2,g3⟩:=Bt.tA hl (show i/2≤N/2 by omega) v;refine⟨.n u l' r,λk h=>?_,by simp only[Bt.get?,e,if_true];exact g2,λj hj=>?_⟩
   ·show @Nat.rec (λ_=>Prop) (l.cP (i/2) v (λl'=>k (.n u l' r))) (λ_ _=>r.cP (i/2) v (λr'=>k (.n u l r'))) (i%2);rw[e];exact g1 _ h
   ·cases j with
    |zero=>rfl
    |succ j=>
     simp only[Bt.get?];split
     ·rename_i ej;exact g3 _ (sV hj (by omega))
     ·rfl
  ·obtain⟨r',g1,g2,g3⟩:=Bt.tA hr (show i/2≤(N-1)/2 by omega) v;refine⟨.n u l r',λk h=>?_,by simp only[Bt.get?,e];exact g2,λj hj=>?_⟩
   ·show @Nat.rec (λ_=>Prop) (l.cP (i/2) v (λl'=>k (.n u l' r))) (λ_ _=>r.cP (i/2) v (λr'=>k (.n u l r'))) (i%2);rw[e];exact g1 _ h
   ·cases j with
    |zero=>rfl
    |succ j=>
     simp only[Bt.get?];split
     ·rfl
     ·rename_i ej;exact g3 _ (sV hj (by omega))
theorem Full.set{α:Type}{t t':Bt α}{n i:Nat}{v:α}(h:Full t n)(hi:i≤n)(h1:t'.get? i=some v)(h2:∀j,j≠i→t'.get? j=t.get? j):Full t' (max n (i+1)):=λj=>by
 by_cases e:j=i
 ·subst e;rw[h1];simp;omega
 ·rw[h2 j e,h j];omega
noncomputable section
abbrev LV:Type:=(V→Prop)→Prop
def oH:LV:=λ_=>False
abbrev CT(d:Nat):Type:=sE LV d
abbrev SO:Type:=((d:Nat)→CT d→Nat→Prop)→((d:Nat)→CT d→Nat→Nat→Prop)→(cF→Prop)→Prop
abbrev Hs(D:Nat):Type:=(sE SO D→Nat→Prop)→Prop
def NB:cF→Prop:=λ_=>False
end
def rL(lv:LV)(o:Option AV):Prop:=match o with|none=>lv=oH|some a=>lv=λk=>k (enc a)
structure iQ(d:Nat)(t:CT d)(c:Bt AV)(n:Nat):Prop where
 le:n≤8^d
 full:Full c n
 tr:TR rL d t (λi=>c.get? i)
def rO(so:SO)(o:cF):Prop:=match o with
 |.cells c n 0=>∃d t,so=(λC _ _=>C d t n)∧iQ d t c n
 |.cells c n (m+1)=>∃d t,so=(λ_ C _=>C d t n (m+1))∧iQ d t c n
 |o=>so=λ_ _ O=>O o
structure aY{D:Nat}(hs:Hs D)(H:AH):Prop where
 tr:∃ht,hs=(λs=>s ht H.n)∧TR rO D ht (λi=>H.at i)
 le:H.n≤8^D
 full:Full H.t H.n
theorem AH.y9{H:AH}{b:Nat}{o:cF}(h:H.at b=o)(hd:o≠.dead):H.t.get? b=some o:=by
 unfold AH.at at h;cases e:H.t.get? b with
 |none=>rw[e]at h;exact absurd h.symm hd
 |some x=>rw[e]at h;exact congrArg some h
theorem eK{H:AH}{b:Nat}{c:Bt AV}{n m:Nat}{k:Bt AV→Nat→Nat→Prop}(h:H.at b=.cells c n m)(hk:k c n m):ez H b k:=
 Bt.eK (AH.y9 h (by simp)) hk
theorem Full.dead{H:AH}(h:Full H.t H.n){b:Nat}(hb:H.n≤b):H.at b=.dead:=by
 unfold AH.at
 have:=h b;cases e:H.t.get? b with
 |none=>rfl
 |some x=>rw[e]at this;simp at this;omega
section
variable {D:Nat}{hs:Hs D}{H:AH}
theorem qP{so:SO}{o:cF}(h:rO so o){C:(d:Nat)→CT d→Nat→Prop}{C':(d:Nat)→CT d→Nat→Nat→Prop}{O:cF→Prop}(hh:so C C' O) :
  (∃c n d t,o=.cells c n 0∧iQ d t c n∧C d t n)∨(∃c n m d t,o=.cells c n (m+1)∧iQ d t c n∧C' d t n (m+1))∨(O o∧∀c n m,o≠.cells c n m):=by
 cases o with
 |cells c n m=>
  cases m with
  |zero=>obtain⟨d,t,rfl,ht⟩:=h;exact .inl ⟨c,n,d,t,rfl,ht,hh⟩
  |succ m=>obtain⟨d,t,rfl,ht⟩:=h;exact .inr (.inl ⟨c,n,m,d,t,rfl,ht,hh⟩)
 |_=>have h:=(show so=_ from h);subst h;exact .inr (.inr ⟨hh,by simp⟩)
theorem LG{d:Nat}{t:CT d}{c:Bt AV}{n:Nat}(ht:iQ d t c n){o:Nat}{k:V→Prop}(h:(acc LV d o).get (λlv=>lv k) t):∃a,c.get? o=some a∧o<n∧k (enc a):=by
 obtain⟨_,lv,hl,hk⟩:=mS d ht.tr h;cases e:c.get? o with
 |none=>rw[e]at hl;have hl:=(show lv=oH from hl);subst hl;exact hk.elim
 |some a=>
  rw[e]at hl;have hl:=(show lv=λk=>k (enc a)from hl)
  subst hl;exact⟨a,rfl,(ht.full o).1 (by rw[e];rfl),hk⟩
end
noncomputable section
variable (D:Nat)
def vR(b:Nat)(hs:Hs D)(k:(d:Nat)→CT d→Nat→Prop):Prop:=hs λht _=>(acc SO D b).get (λso=>so k (λd t n _=>k d t n) NB) ht
def Sy(v:V)(hs:Hs D)(k:V→Prop):Prop:=
 v False False N1 N1 N2 N2 (λb o=>hs λht _=>(acc SO D b).get (λso=>so (λd t _=>(acc LV d o).get (λlv=>lv k) t) (λd t _ _=>(acc LV d o).get (λlv=>lv k) t) NB) ht) N6 NL NL NO
def lJ(d:Nat)(t:CT d)(n:Nat):Nat→(List AV→Prop)→Prop:=
 @Nat.rec (λ_=>Nat→(List AV→Prop)→Prop) (λ_ k=>k []) (λ_ ih o k=>(acc LV d o).get (λlv=>lv λv=>dec v λa=>aB (Nat.succ o) λo'=>ih o' λl=>k (a::l)) t) n
def LH(n:Nat)(v:V)(hs:Hs D)(k:V→Prop):Prop:=
 v False False N1 N1 N2 N2 (λb o=>vR D b hs λd t _=>lJ d t n o λl=>k (λ_ _ _ _ _ _ _ _ h _ _=>h l)) N6 NL NL NO
end
section
variable {D:Nat}{hs:Hs D}{H:AH}
theorem ow{b:Nat}{k:(d:Nat)→CT d→Nat→Prop}(hr:aY hs H)(h:vR D b hs k):∃c n m d t,H.at b=.cells c n m∧iQ d t c n∧k d t n:=by
 obtain⟨ht,rfl,htr⟩:=hr.tr;obtain⟨_,so,hso,hk⟩:=mS D htr h;rcases qP hso hk with⟨c,n,d,t,e,h1,h2⟩|⟨c,n,m,d,t,e,h1,h2⟩|⟨h,_⟩
 ·exact⟨c,n,0,d,t,e,h1,h2⟩
 ·exact⟨c,n,m+1,d,t,e,h1,h2⟩
 ·exact h.elim
theorem xE{a:AV}{P:Nat→Nat→Prop}(h:enc a False False N1 N1 N2 N2 P N6 NL NL NO):∃b o,a=.ptr b o∧P b o:=by
 have g:=dk h;clear h;rcases g with⟨rfl,h⟩|⟨rfl,h⟩|⟨n,rfl,h⟩|⟨n,rfl,h⟩|⟨c,n,_,rfl,h⟩|⟨n,x,rfl,h⟩|⟨b,o,rfl,h⟩|⟨b,o,l,c,s,x,rfl,h⟩|⟨l,rfl,h⟩|⟨l,rfl,h⟩|⟨_,h⟩<;>first|exact h.elim|exact⟨_,_,rfl,h⟩
theorem Jj(hr:aY hs H){a:AV}{k:V→Prop}(h:Sy D (enc a) hs k):af a H λx=>k (enc x):=by
 obtain⟨b,o,rfl,h⟩:=xE h;obtain⟨c,n,m,d,t,e,h1,h2⟩:=ow (k:=λd t _=>(acc LV d o).get (λlv=>lv k) t) hr h;obtain⟨x,g1,_,g2⟩:=LG h1 h2;exact eK e (Bt.eK g1 g2)
theorem mn{d:Nat}{t:CT d}{c:Bt AV}{m:Nat}(ht:iQ d t c m):∀(n o:Nat) (k:List AV→Prop),lJ d t n o k→lr c n o k
 |0,_,_,h=>h
 |n+1,o,k,h=>by
  obtain⟨a,g1,_,g2⟩:=LG ht h;have g2:=eJ g2;rw[ae]at g2;refine Bt.eK g1 ?_;rw[ae];exact mn ht n _ _ g2
theorem De(hr:aY hs H){n:Nat}{a:AV}{k:V→Prop}(h:LH D n (enc a) hs k):aZ n a H λx=>k (enc x):=by
 obtain⟨b,o,rfl,h⟩:=xE h;obtain⟨c,n',m,d,t,e,h1,h2⟩:=ow hr h;exact eK e (mn h1 _ _ _ h2)
end
noncomputable section
def afB(x:V)(k:Prop):Prop:=x k k (λ_=>k) (λ_=>k) (λ_ _=>k) (λ_ _=>k) (λ_ _=>k) (λ_ _ _ _ _ _=>k) NL NL (λa=>one a k)
structure TB(T:Type) where
 t:T
def rv(d:Nat):TB (CT d):=@Nat.rec (λd=>TB (CT d)) ⟨oH⟩ (λ_ ih=>⟨λs=>s ih.t ih.t ih.t ih.t ih.t ih.t ih.t ih.t⟩) d
def Df(d:Nat)(l:List AV):CT d→Nat→(CT d→Nat→Prop)→Prop:=
 @List.rec AV (λ_=>CT d→Nat→(CT d→Nat→Prop)→Prop) (λt o k=>k t o) (λa _ ih t o k=>one a ((acc LV d o).mod (λlv kl=>lv λ_=>kl λk=>k (kA a).v) (λt'=>aB (Nat.succ o) λo'=>ih t' o' k) t)) l
def fL(l:List AV):(d:Nat)→CT d→Nat→((d:Nat)→CT d→Nat→Prop)→Prop:=
 @List.rec AV (λ_=>(d:Nat)→CT d→Nat→((d:Nat)→CT d→Nat→Prop)→Prop) (λd t o K=>K d t o)
  (λa _ ih d t o K=>one a (bI (Nat.ble (Nat.succ o) (Nat.pow 8 d)) ((acc LV d o).mod (λ_ kl=>kl λk=>k (kA a).v) (λt'=>aB (Nat.succ o) λo'=>ih d t' o' K) t)
   ((acc LV (Nat.succ d) o).mod (λ_ kl=>kl λk=>k (kA a).v) (λt'=>aB (Nat.succ o) λo'=>ih (Nat.succ d) t' o' K) (λs=>s t (rv d).t (rv d).t (rv d).t (rv d).t (rv d).t (rv d).t (rv d).t)))) l
variable (D:Nat)
def Ib(v x:V)(hs:Hs D)(k:Hs D→Prop):Prop:=
 afB x (v False False N1 N1 N2 N2 (λb o=>hs λht hn=>(acc SO D b).mod (λso ks=>so
  (λd t n=>(acc LV d o).mod (λlv kl=>lv λ_=>kl λk=>k x) (λt'=>ks λC _ _=>C d t' n) t)
  (λd t n m=>bT (Nat.ble m 1) ((acc LV d o).mod (λlv kl=>lv λ_=>kl λk=>k x) (λt'=>ks λ_ C _=>C d t' n m) t)) NB)
  (λht'=>k λs=>s ht' hn) ht) N6 NL NL NO)
def Dg(b:Nat)(f:(d:Nat)→CT d→Nat→(CT d→Prop)→Prop)(hs:Hs D)(k:Hs D→Prop):Prop:=
 hs λht hn=>(acc SO D b).mod (λso ks=>so
  (λd t n=>f d t n λt'=>ks λC _ _=>C d t' n)
  (λd t n m=>bT (Nat.ble m 1) (f d t n λt'=>ks λ_ C _=>C d t' n m)) NB)
  (λht'=>k λs=>s ht' hn) ht
def aja(b o n:Nat)(l:List AV)(hs:Hs D)(k:Hs D→Prop):Prop:=
 Dg D b (λd t m kt=>Df d l t o λt' o'=>bT (Nat.beq o' (Nat.add o n)) (bT (Nat.ble o' m) (kt t'))) hs k
def Ic(n:Nat)(v x:V)(hs:Hs D)(k:Hs D→Prop):Prop:=
 v False False N1 N1 N2 N2 (λb o=>dec x λa=>onVal a λl=>aja D b o n l hs k) N6 NL NL NO
def sNew(so:SO)(hs:Hs D)(k:Nat→Hs D→Prop):Prop:=
 hs λht hn=>(acc SO D hn).mod (λ_ ks=>ks so) (λht'=>aB (Nat.succ hn) λn'=>k hn λs=>s ht' n') ht
def ox(b:Nat)(hs:Hs D)(k:Hs D→Prop):Prop:=hs λht hn=>(acc SO D b).mod (λso ks=>so (λ_ _ _=>ks λ_ _ O=>O .dead) (λ_ _ _ _=>ks λ_ _ O=>O .dead) NB) (λht'=>k λs=>s ht' hn) ht
def sN(l:List AV)(hs:Hs D)(k:Nat→Nat→Hs D→Prop):Prop:=fL l 0 oH 0 λd t n=>sNew D (λC _ _=>C d t n) hs λb hs'=>k b n hs'
end
theorem Vd{a:AV}{k:Prop}(h:afB (enc a) k):a.one=true∧k:=by
 have g:=dk h;clear h;rcases g with⟨rfl,h⟩|⟨rfl,h⟩|⟨n,rfl,h⟩|⟨n,rfl,h⟩|⟨c,n,_,rfl,h⟩|⟨n,x,rfl,h⟩|⟨b,o,rfl,h⟩|⟨b,o,l,c,s,x,rfl,h⟩|⟨l,rfl,h⟩|⟨l,rfl,h⟩|⟨_,h⟩<;>first|exact h.elim|exact⟨rfl,h⟩|exact pF h
theorem vS{a:AV}{x:Prop}(h:a.one=true)(hx:x):one a x:=by unfold one bT;rw[h];exact hx
theorem dv{b:Bool}{x:Prop}(h:b=true)(hx:x):bT b x:=by subst h;exact hx
theorem Jk{a:AV}{k:List AV→Prop}(h:a.one=true)(hk:k [a]):onVal a k:=by cases a<;>first|exact hk|cases h
theorem iQ.set{d:Nat}{t t':CT d}{c:Bt AV}{n o:Nat}{a:AV}(h:iQ d t c n)(ho:o≤n)(hl:o<8^d)(ht:TR rL d t' (sv (λi=>c.get? i) o (some a))) :
  ∃c',(∀k:Bt AV→Prop,k c'→c.cP o a k)∧iQ d t' c' (max n (o+1)):=by
 obtain⟨c',g1,g2,g3⟩:=Bt.tA h.full ho a;refine⟨c',g1,⟨by have:=h.le;omega,h.full.set ho g2 g3,ht.congr' λi _=>?_⟩⟩;by_cases e:i=o
 ·subst e;rw[pQ,g2]
 ·rw[sX _ e,g3 i e]
theorem ajb(d:Nat)(m:Nat→Option AV)(hm:∀i,m i=none):TR rL d (rv d).t m:=by
 induction d generalizing m with
 |zero=>show rL oH (m 0);rw[hm];rfl
 |succ d ih=>exact⟨λ_=>(rv d).t,rfl,λj _=>ih _ λi=>hm _⟩
theorem iQ.e:iQ 0 oH .e 0:=⟨by decide,Full.e,rfl⟩
theorem iQ.grow{d:Nat}{t:CT d}{c:Bt AV}{n:Nat}(h:iQ d t c n):iQ (d+1) (λs=>s t (rv d).t (rv d).t (rv d).t (rv d).t (rv d).t (rv d).t (rv d).t:CT (d+1)) c n:=by
 refine⟨Nat.le_trans h.le (Nat.pow_le_pow_right (by decide) (by omega)),h.full,⟨λj=>match j with|0=>t|_+1=>(rv d).t,rfl,λj hj=>?_⟩⟩;cases j with
 |zero=>exact h.tr.congr' λi _=>by rw[Nat.zero_mul,Nat.zero_add]
 |succ j=>
  refine ajb d _ λi=>?_;have:¬((j+1)*8^d+i<n):=by
   have h1:1*8^d≤(j+1)*8^d:=Nat.mul_le_mul_right _ (by omega);have:=h.le;omega
  have hn:=(h.full ((j+1)*8^d+i))
  cases e:c.get? ((j+1)*8^d+i)with
  |none=>exact e
  |some x=>rw[e]at hn;exact absurd (hn.1 rfl) this
theorem za{d:Nat}:∀(l:List AV){t:CT d}{c:Bt AV}{n o:Nat}{k:CT d→Nat→Prop},iQ d t c n→Df d l t o k→
  (l≠[]→o+l.length≤n)∧∃c' t',(∀K:Bt AV→Nat→Prop,K c' (o+l.length)→dj l c o K)∧iQ d t' c' n∧k t' (o+l.length)
 |[],t,c,n,o,k,ht,h=>⟨λh=>absurd rfl h,c,t,λK h=>h,ht,h⟩
 |a::l,t,c,n,o,k,ht,h=>by
  obtain⟨h1,h⟩:=pF h;obtain⟨hl,lv,kl,g1,g2,g3⟩:=pR d ht.tr h;cases e:c.get? o with
  |none=>rw[e]at g1;have g1:=(show lv=oH from g1);subst g1;exact g2.elim
  |some a0=>
   rw[e]at g1;have g1:=(show lv=λk=>k (enc a0)from g1)
   subst g1;have hon:o<n:=(ht.full o).1 (by rw[e];rfl);obtain⟨t',g4,g5⟩:=g3 _ (some a) g2 (show rL _ (some a)from rfl);obtain⟨c1,g6,g7⟩:=ht.set (Nat.le_of_lt hon) hl g4;rw[show max n (o+1)=n by omega]at g7;rw[ae]at g5;obtain⟨y1,c',t2,y2,y3,y4⟩:=za l g7 g5;have el:o+(a::l).length=o+1+l.length:=by simp;omega
   refine⟨λ_=>?_,c',t2,λK hK=>vS h1 (g6 _ (by rw[ae];exact y2 K (by rw[←el];exact hK))),y3,by rw[el];exact y4⟩;rw[el];cases l with
   |nil=>exact hon
   |cons b l=>exact y1 (by simp)
theorem iY:∀(l:List AV){d:Nat}{t:CT d}{c:Bt AV}{o:Nat}{K:(d:Nat)→CT d→Nat→Prop},iQ d t c o→fL l d t o K→
  ∃d' t' c',(∀K':Bt AV→Nat→Prop,K' c' (o+l.length)→dj l c o K')∧iQ d' t' c' (o+l.length)∧K d' t' (o+l.length)∧∀a∈l,a.one=true
 |[],d,t,c,o,K,ht,h=>⟨d,t,c,λK h=>h,ht,h,by simp⟩
 |a::l,d,t,c,o,K,ht,h=>by
  obtain⟨h1,h⟩:=pF h;have el:o+(a::l).length=o+1+l.length:=by simp;omega
  have key:∀{d:Nat}{t:CT d},iQ d t c o→(acc LV d o).mod (λ_ kl=>kl λk=>k (kA a).v) (λt'=>aB (Nat.succ o) λo'=>fL l d t' o' K) t→
    ∃d' t' c',(∀K':Bt AV→Nat→Prop,K' c' (o+(a::l).length)→dj (a::l) c o K')∧iQ d' t' c' (o+(a::l).length)∧K d' t' (o+(a::l).length)∧∀x∈a::l,x.one=true:=λ{d t} ht h=>by
   obtain⟨hl,lv,kl,g1,g2,g3⟩:=pR d ht.tr h;obtain⟨t',g4,g5⟩:=g3 _ (some a) g2 (show rL _ (some a)from rfl);obtain⟨c1,g6,g7⟩:=ht.set (Nat.le_refl _) hl g4;rw[show max o (o+1)=o+1 by omega]at g7;rw[ae]at g5;obtain⟨d',t2,c',y1,y2,y3,y4⟩:=iY l g7 g5;exact⟨d',t2,c',λK hK=>vS h1 (g6 _ (by rw[ae];exact y1 K (by rw[←el];exact hK))),by rw[el];exact y2,by rw[el];exact y3,by simp only[List.mem_cons,forall_eq_or_imp];exact⟨h1,y4⟩⟩
  rcases bZ h with⟨_,h⟩|⟨_,h⟩
  ·exact key ht h
  ·exact key ht.grow h
section
variable {D:Nat}{hs:Hs D}{H:AH}
theorem ag9{H:AH}(hf:Full H.t H.n){b:Nat}(hb:b<H.n)(o:cF):∃H',(∀K:AH→Prop,K H'→cP H b o K)∧H'.n=H.n∧Full H'.t H'.n∧H'.at b=o∧∀i,i≠b→H'.at i=H.at i:=by
 obtain⟨t',g1,g2,g3⟩:=Bt.tA hf (Nat.le_of_lt hb) o;have hf':=hf.set (Nat.le_of_lt hb) g2 g3;rw[show max H.n (b+1)=H.n by omega]at hf';exact⟨⟨t',H.n⟩,λK h=>g1 _ h,rfl,hf',by simp[AH.at,g2],λi hi=>by simp[AH.at,g3 i hi]⟩
theorem aha{H:AH}(hf:Full H.t H.n)(o:cF):∃H',(∀K:Nat→AH→Prop,K H.n H'→ay H o K)∧H'.n=H.n+1∧Full H'.t H'.n∧H'.at H.n=o∧∀i,i≠H.n→H'.at i=H.at i:=by
 obtain⟨t',g1,g2,g3⟩:=Bt.tA hf (Nat.le_refl _) o;have hf':=hf.set (Nat.le_refl _) g2 g3;rw[show max H.n (H.n+1)=H.n+1 by omega]at hf';exact⟨⟨t',H.n+1⟩,λK h=>g1 _ (by rw[ae];exact h),rfl,hf',by simp[AH.at,g2],λi hi=>by simp[AH.at,g3 i hi]⟩
theorem aY.lt(hr:aY hs H){b:Nat}(h:H.at b≠.dead):b<H.n:=by
 rcases Nat.lt_or_ge b H.n with h1|h1
 ·exact h1
 ·exact absurd (hr.full.dead h1) h
theorem xF(hr:aY hs H){b:Nat}{f:SO→(SO→Prop)→Prop}{k:Hs D→Prop}(h:hs λht hn=>(acc SO D b).mod f (λht'=>k λs=>s ht' hn) ht) :
  ∃so ks,rO so (H.at b)∧f so ks∧∀so' o',ks so'→rO so' o'→b<H.n→∃hs' H',(∀K:AH→Prop,K H'→cP H b o' K)∧aY hs' H'∧H'.n=H.n∧H'.at b=o'∧(∀i,i≠b→H'.at i=H.at i)∧k hs':=by
 obtain⟨ht,rfl,htr⟩:=hr.tr;obtain⟨_,so,ks,g1,g2,g3⟩:=pR D htr h;refine⟨so,ks,g1,g2,λso' o' h1 h2 hb=>?_⟩;obtain⟨ht',g4,g5⟩:=g3 so' o' h1 h2;obtain⟨H',x1,x2,x3,x4,x5⟩:=ag9 hr.full hb o';refine⟨_,H',x1,⟨⟨ht',by rw[x2],g4.congr' λi _=>?_⟩,by rw[x2];exact hr.le,x3⟩,x2,x4,x5,g5⟩;by_cases e:i=b
 ·subst e;rw[pQ,x4]
 ·rw[sX _ e,x5 i e]
theorem jY(hr:aY hs H){so:SO}{o:cF}(ho:rO so o){k:Nat→Hs D→Prop}(h:sNew D so hs k):∃hs' H',(∀K:Nat→AH→Prop,K H.n H'→ay H o K)∧aY hs' H'∧H'.n=H.n+1∧H'.at H.n=o∧(∀i,i≠H.n→H'.at i=H.at i)∧k H.n hs':=by
 obtain⟨ht,rfl,htr⟩:=hr.tr;obtain⟨hl,so0,ks,g1,g2,g3⟩:=pR D htr h;obtain⟨ht',g4,g5⟩:=g3 so o g2 ho;rw[ae]at g5;obtain⟨H',x1,x2,x3,x4,x5⟩:=aha hr.full o;refine⟨_,H',x1,⟨⟨ht',by rw[x2],g4.congr' λi _=>?_⟩,by rw[x2];omega,x3⟩,x2,x4,x5,g5⟩;by_cases e:i=H.n
 ·subst e;rw[pQ,x4]
 ·rw[sX _ e,x5 i e]
theorem zb(hr:aY hs H){b:Nat}{f:(d:Nat)→CT d→Nat→(CT d→Prop)→Prop}{k:Hs D→Prop}(h:Dg D b f hs k) :
  ∃c n m d t kt,H.at b=.cells c n m∧m≤1∧iQ d t c n∧f d t n kt∧∀c' t',kt t'→iQ d t' c' n→∃hs' H',(∀K:AH→Prop,K H'→cP H b (.cells c' n m) K)∧aY hs' H'∧H'.n=H.n∧k hs':=by
 obtain⟨so,ks,g1,g2,g3⟩:=xF hr h;rcases qP g1 g2 with⟨c,n,d,t,e,h1,h2⟩|⟨c,n,m,d,t,e,h1,h2⟩|⟨h,_⟩
 ·refine⟨c,n,0,d,t,_,e,by omega,h1,h2,λc' t' y1 y2=>?_⟩;obtain⟨hs',H',z1,z2,z3,z4,z5,z6⟩:=g3 _ (.cells c' n 0) y1 ⟨d,t',rfl,y2⟩ (hr.lt (by rw[e];simp));exact⟨hs',H',z1,z2,z3,z6⟩
 ·obtain⟨hm,h2⟩:=an h2;refine⟨c,n,m+1,d,t,_,e,Nat.le_of_ble_eq_true hm,h1,h2,λc' t' y1 y2=>?_⟩;obtain⟨hs',H',z1,z2,z3,z4,z5,z6⟩:=g3 _ (.cells c' n (m+1)) y1 ⟨d,t',rfl,y2⟩ (hr.lt (by rw[e];simp));exact⟨hs',H',z1,z2,z3,z6⟩
 ·exact h.elim
theorem aeg(hr:aY hs H){b o n:Nat}{l:List AV}{k:Hs D→Prop}(h:aja D b o n l hs k) :
  ez H b λc m w=>bT (Nat.ble w 1) (dj l c o λc' o'=>bT (Nat.beq o' (Nat.add o n)) (bT (Nat.ble o' m) (cP H b (.cells c' m w) λH'=>∃hs',aY hs' H'∧k hs'))):=by
 obtain⟨c,m,w,d,t,kt,e,hw,h1,h2,h3⟩:=zb hr h;obtain⟨y1,c',t',y2,y3,y4⟩:=za l h1 h2;obtain⟨y5,y4⟩:=an y4;obtain⟨y6,y4⟩:=an y4;obtain⟨hs',H',z1,z2,z3,z4⟩:=h3 c' t' y4 y3;exact eK e (dv (Nat.ble_eq_true_of_le hw) (y2 _ (dv y5 (dv y6 (z1 _ ⟨hs',z2,z4⟩)))))
theorem Qn(hr:aY hs H){n:Nat}{a x:AV}{k:Hs D→Prop}(h:Ic D n (enc a) (enc x) hs k):ak n a x H λH'=>∃hs',aY hs' H'∧k hs':=by
 have g:=xE h;clear h;obtain⟨b,o,rfl,g⟩:=g;have g:=eJ g;obtain⟨h,h1,h2⟩:=pJ g;have h:=aeg hr h;show onVal x _;cases x<;>first|exact h|exact absurd rfl h1|exact absurd rfl (h2 _)
theorem Qo(hr:aY hs H){a x:AV}{k:Hs D→Prop}(h:Ib D (enc a) (enc x) hs k):ak 1 a x H λH'=>∃hs',aY hs' H'∧k hs':=by
 obtain⟨hx,h⟩:=Vd h;obtain⟨b,o,rfl,h⟩:=xE h;obtain⟨c,n,m,d,t,kt,e,hm,h1,h2,h3⟩:=zb (f:=λd t _ kt=>(acc LV d o).mod (λlv kl=>lv λ_=>kl λk=>k (enc x)) kt t) hr h;obtain⟨hl,lv,kl,g1,g2,g3⟩:=pR d h1.tr h2;cases ec:c.get? o with
 |none=>rw[ec]at g1;have g1:=(show lv=oH from g1);subst g1;exact g2.elim
 |some a0=>
  rw[ec]at g1;have g1:=(show lv=λk=>k (enc a0)from g1)
  subst g1;have hon:o<n:=(h1.full o).1 (by rw[ec];rfl);obtain⟨t',g4,g5⟩:=g3 _ (some x) g2 (show rL _ (some x)from rfl);obtain⟨c1,g6,g7⟩:=h1.set (Nat.le_of_lt hon) hl g4;rw[show max n (o+1)=n by omega]at g7;obtain⟨hs',H',z1,z2,z3,z4⟩:=h3 c1 t' g5 g7;exact Jk hx (eK e (dv (Nat.ble_eq_true_of_le hm) (vS hx (g6 _ (by
   rw[ae];exact dv (Nat.beq_refl _) (dv (Nat.ble_eq_true_of_le hon) (z1 _ ⟨hs',z2,z4⟩)))))))
theorem Jl(hr:aY hs H){l:List AV}{k:Nat→Nat→Hs D→Prop}(h:sN D l hs k) :
  dj l .e 0 λc n=>ay H (.cells c n 0) λb H'=>n=l.length∧∃hs',aY hs' H'∧k b n hs':=by
 obtain⟨d',t',c',y1,y2,y3,_⟩:=iY l iQ.e h;refine y1 _ ?_;obtain⟨hs',H',z1,z2,_,_,_,z3⟩:=jY hr (o:=.cells c' (0+l.length) 0) ⟨d',t',rfl,y2⟩ y3;exact z1 _ ⟨by omega,hs',z2,z3⟩
end
noncomputable section
def xG(a:AV)(k:Prop):Prop:=match a with|.ab=>k|_=>False
variable (D:Nat)
def ajc(sz:Nat)(x:V)(hs:Hs D)(k:Nat→List AV→Prop):Prop:=
 x False False N1 N1 N2 N2 N2 (λb o len _ sz' _=>bT (Nat.beq sz sz') (vR D b hs λd t _=>lJ d t (Nat.mul len sz) o λl=>k len l)) NL NL (λa=>xG a (k 0 []))
def afC(sz n:Nat)(x:V)(hs:Hs D)(k:List AV→Prop):Prop:=
 x False False N1 N1 N2 N2 N2 (λb o len _ sz' _=>bT (Nat.ble n len) (bT (Nat.beq sz sz') (vR D b hs λd t _=>lJ d t (Nat.mul n sz) o k))) NL NL (λa=>xG a (k []))
def J9(x:V)(k:Nat→Prop):Prop:=x False False N1 N1 N2 N2 N2 (λ_ _ len _ _ _=>k len) NL NL (λa=>xG a (k 0))
def SA(b o len sz:Nat)(l:List AV)(hs:Hs D)(k:Nat→Hs D→Prop):Prop:=
 hs λht _=>(acc SO D b).get (λso=>so
  (λd t m=>bI (Nat.beq o 0) (bI (Nat.beq m (Nat.mul len sz))
    (fL l d t m λd2 t2 o2=>ox D b hs λh1=>sNew D (λC _ _=>C d2 t2 o2) h1 k)
    (lJ d t (Nat.mul len sz) o λold=>fL old 0 oH 0 λd1 t1 o1=>fL l d1 t1 o1 λd2 t2 o2=>ox D b hs λh1=>sNew D (λC _ _=>C d2 t2 o2) h1 k))
   (lJ d t (Nat.mul len sz) o λold=>fL old 0 oH 0 λd1 t1 o1=>fL l d1 t1 o1 λd2 t2 o2=>ox D b hs λh1=>sNew D (λC _ _=>C d2 t2 o2) h1 k))
  (λd t m w=>bT (Nat.ble w 1) (bI (Nat.beq o 0) (bI (Nat.beq m (Nat.mul len sz))
    (fL l d t m λd2 t2 o2=>ox D b hs λh1=>sNew D (λ_ C _=>C d2 t2 o2 w) h1 k)
    (lJ d t (Nat.mul len sz) o λold=>fL old 0 oH 0 λd1 t1 o1=>fL l d1 t1 o1 λd2 t2 o2=>ox D b hs λh1=>sNew D (λ_ C _=>C d2 t2 o2 w) h1 k))
   (lJ d t (Nat.mul len sz) o λold=>fL old 0 oH 0 λd1 t1 o1=>fL l d1 t1 o1 λd2 t2 o2=>ox D b hs λh1=>sNew D (λ_ C _=>C d2 t2 o2 w) h1 k))) NB) ht
def afD(sz bytes n:Nat)(s:V)(l:List AV)(hs:Hs D)(k:V→Hs D→Prop):Prop:=
 bT (Nat.ble 1 sz) (s False False N1 N1 N2 N2 N2
  (λb o len cap sz' ex=>bT (Nat.beq sz sz') (aB (Nat.add len n) λneed=>bI (Nat.ble need cap)
   (Dg D b (λd t m kt=>Df d l t (Nat.add o (Nat.mul len sz)) λt' o'=>bT (Nat.ble o' m) (kt t')) hs λhs'=>k (λ_ _ _ _ _ _ _ h _ _ _=>h b o need cap sz ex) hs')
   (bT (Nat.ble (Nat.mul need bytes) 1099511627776) (bI ex
    (vR D b hs λd t _=>lJ d t (Nat.mul len sz) o λold=>fL old 0 oH 0 λd1 t1 o1=>fL l d1 t1 o1 λd2 t2 o2=>sNew D (λC _ _=>C d2 t2 o2) hs λb' hs'=>k (λ_ _ _ _ _ _ _ h _ _ _=>h b' 0 need need sz false) hs')
    (SA D b o len sz l hs λb' hs'=>k (λ_ _ _ _ _ _ _ h _ _ _=>h b' 0 need need sz false) hs')))))
  NL NL (λa=>xG a (bI (Nat.beq n 0) (k (λ_ _ _ _ _ _ _ _ _ _ h=>h .ab) hs) (bT (Nat.ble (Nat.mul n bytes) 1099511627776) (sN D l hs λb' _ hs'=>k (λ_ _ _ _ _ _ _ h _ _ _=>h b' 0 n n sz false) hs')))))
def aeh(sz bytes:Nat)(s x:V)(hs:Hs D)(k:V→Hs D→Prop):Prop:=ajc D sz x hs λn l=>afD D sz bytes n s l hs k
def Ka(sz:Nat)(d s:V)(hs:Hs D)(k:V→Hs D→Prop):Prop:=
 J9 s λn=>J9 d λm=>aB (Nat.min n m) λq=>afC D sz q s hs λl=>
  d False False N1 N1 N2 N2 N2 (λb o _ _ sz' _=>bT (Nat.beq sz sz') (Dg D b (λd t m kt=>Df d l t o λt' o'=>bT (Nat.ble o' m) (kt t')) hs λhs'=>k (λ_ _ h _ _ _ _ _ _ _ _=>h q) hs')) NL NL (λa=>xG a (k (λ_ _ h _ _ _ _ _ _ _ _=>h q) hs))
def Ra(a:V)(hs:Hs D)(k:V→Prop):Prop:=
 a False False N1 N1 N2 N2 N2 (λb o len _ sz _=>bT (Nat.beq sz 1) (vR D b hs λd t _=>lJ d t len o λl=>ve l λn x=>k (λ_ _ _ _ _ h _ _ _ _ _=>h n x))) NL NL (λa=>xG a (k (λ_ _ _ _ _ h _ _ _ _ _=>h 0 0)))
def BU(a:V)(hs:Hs D)(k:V→Hs D→Prop):Prop:=
 a False False N1 N1 N2 (λn x=>fL (rj n x) 0 oH 0 λd t m=>bT (Nat.beq m n) (sNew D (λ_ C _=>C d t m 1) hs λb hs'=>k (λ_ _ _ _ _ _ _ h _ _ _=>h b 0 n n 1 false) hs')) N2 N6 NL NL NO
end
theorem aei{a:AV}{k:Prop}(h:xG a k):a=.ab∧k:=by cases a<;>first|exact h.elim|exact⟨rfl,h⟩
theorem uD{a:AV}{L:Nat→Nat→Nat→Nat→Nat→Bool→Prop}{k:Prop}(h:enc a False False N1 N1 N2 N2 N2 L NL NL (λa=>xG a k)):(∃b o l c s x,a=.slice b o l c s x∧L b o l c s x)∨(a=.ab∧k):=by
 have g:=dk h;clear h;rcases g with⟨rfl,h⟩|⟨rfl,h⟩|⟨n,rfl,h⟩|⟨n,rfl,h⟩|⟨c,n,_,rfl,h⟩|⟨n,x,rfl,h⟩|⟨b,o,rfl,h⟩|⟨b,o,l,c,s,x,rfl,h⟩|⟨l,rfl,h⟩|⟨l,rfl,h⟩|⟨_,h⟩ <;>
  first|exact h.elim|exact .inl ⟨_,_,_,_,_,_,rfl,h⟩|exact .inr (aei h)
theorem encS{a:AV}{S:Nat→Nat→Prop}(h:enc a False False N1 N1 N2 S N2 N6 NL NL NO):∃n x,a=.str n x∧S n x:=by
 have g:=dk h;clear h;rcases g with⟨rfl,h⟩|⟨rfl,h⟩|⟨n,rfl,h⟩|⟨n,rfl,h⟩|⟨c,n,_,rfl,h⟩|⟨n,x,rfl,h⟩|⟨b,o,rfl,h⟩|⟨b,o,l,c,s,x,rfl,h⟩|⟨l,rfl,h⟩|⟨l,rfl,h⟩|⟨_,h⟩<;>first|exact h.elim|exact⟨_,_,rfl,h⟩
section
variable {D:Nat}{hs:Hs D}{H:AH}
theorem Jm{a:AV}{k:Nat→Prop}(h:J9 (enc a) k):lenOf a k:=by
 rcases uD h with⟨b,o,l,c,s,x,rfl,h⟩|⟨rfl,h⟩<;>exact h
theorem aej(hr:aY hs H){sz:Nat}{a:AV}{k:Nat→List AV→Prop}(h:ajc D sz (enc a) hs k):lenOf a λn=>cellsOf sz n a H λl=>k n l:=by
 rcases uD h with⟨b,o,len,c,s,x,rfl,g⟩|⟨rfl,g⟩
 ·obtain⟨h1,h2⟩:=an g;obtain⟨c,n',m,d,t,e,y1,y2⟩:=ow hr h2;exact dv (Nat.ble_eq_true_of_le (Nat.le_refl _)) (dv h1 (eK e (mn y1 _ _ _ y2)))
 ·exact g
theorem Ve(hr:aY hs H){sz n:Nat}{a:AV}{k:List AV→Prop}(h:afC D sz n (enc a) hs k):cellsOf sz n a H k:=by
 rcases uD h with⟨b,o,len,c,s,x,rfl,g⟩|⟨rfl,g⟩
 ·obtain⟨h0,g⟩:=an g;obtain⟨h1,h2⟩:=an g;obtain⟨c,n',m,d,t,e,y1,y2⟩:=ow hr h2;exact dv h0 (dv h1 (eK e (mn y1 _ _ _ y2)))
 ·exact g
theorem Vf(hr:aY hs H){b:Nat}{k:Hs D→Prop}(h:ox D b hs k):∃hs' H',(∀K:AH→Prop,K H'→cP H b .dead K)∧aY hs' H'∧k hs':=by
 obtain⟨so,ks,g1,g2,g3⟩:=xF hr h;rcases qP g1 g2 with⟨c,n,d,t,e,_,h2⟩|⟨c,n,m,d,t,e,_,h2⟩|⟨h,_⟩
 ·obtain⟨hs',H',z1,z2,_,_,_,z6⟩:=g3 _ .dead h2 rfl (hr.lt (by rw[e];simp));exact⟨hs',H',z1,z2,z6⟩
 ·obtain⟨hs',H',z1,z2,_,_,_,z6⟩:=g3 _ .dead h2 rfl (hr.lt (by rw[e];simp));exact⟨hs',H',z1,z2,z6⟩
 ·exact h.elim
theorem mo{b:Bool}{x y:Prop}(h:(b=true∧x)∨(b=false∧y)):bI b x y:=by rcases h with⟨rfl,h⟩|⟨rfl,h⟩<;>exact h
theorem ry(hr:aY hs H){b o len sz:Nat}{l:List AV}{k:Nat→Hs D→Prop}(h:SA D b o len sz l hs k) :
  ez H b λc m w=>bT (Nat.ble w 1) (bI (Nat.beq o 0&&Nat.beq m (Nat.mul len sz))
   (dj l c m λc2 o2=>cP H b .dead λH1=>ay H1 (.cells c2 o2 w) λb' H'=>∃hs',aY hs' H'∧k b' hs')
   (lr c (Nat.mul len sz) o λold=>dj old .e 0 λc1 o1=>dj l c1 o1 λc2 o2=>cP H b .dead λH1=>ay H1 (.cells c2 o2 w) λb' H'=>∃hs',aY hs' H'∧k b' hs')):=by
 obtain⟨ht,e1,htr⟩:=hr.tr;have h':=h;unfold SA at h';rw[e1]at h';obtain⟨_,so,hso,hk⟩:=mS D htr h';have fin:∀{d2:Nat}{t2:CT d2}{c2:Bt AV}{o2 w:Nat}{so:SO},rO so (.cells c2 o2 w)→(ox D b (λs=>s ht H.n) λh1=>sNew D so h1 k)→
   cP H b .dead λH1=>ay H1 (.cells c2 o2 w) λb' H'=>∃hs',aY hs' H'∧k b' hs':=λ{d2 t2 c2 o2 w so} h1 h2=>by
  obtain⟨hs1,H1,z1,z2,z3⟩:=Vf (by rw[e1]at hr;exact hr) h2;obtain⟨hs',H',y1,y2,_,_,_,y3⟩:=jY z2 h1 z3;exact z1 _ (y1 _ ⟨hs',y2,y3⟩)
 have copy:∀{d:Nat}{t:CT d}{c:Bt AV}{m w:Nat}{mk:(d2:Nat)→CT d2→Nat→SO},iQ d t c m→(∀d2 t2 c2 o2,iQ d2 t2 c2 o2→rO (mk d2 t2 o2) (.cells c2 o2 w))→
   (lJ d t (Nat.mul len sz) o λold=>fL old 0 oH 0 λd1 t1 o1=>fL l d1 t1 o1 λd2 t2 o2=>ox D b (λs=>s ht H.n) λh1=>sNew D (mk d2 t2 o2) h1 k)→
   (lr c (Nat.mul len sz) o λold=>dj old .e 0 λc1 o1=>dj l c1 o1 λc2 o2=>cP H b .dead λH1=>ay H1 (.cells c2 o2 w) λb' H'=>∃hs',aY hs' H'∧k b' hs'):=λ{d t c m w mk} ht1 hmk h=>by
  have h:=mn ht1 _ _ _ h;refine oy (λold h=>?_) h;obtain⟨d1,t1,c1,x1,x2,x3,_⟩:=iY old iQ.e h;obtain⟨d2,t2,c2,w1,w2,w3,_⟩:=iY l x2 x3;exact x1 _ (w1 _ (fin (d2:=d2) (t2:=t2) (hmk _ _ _ _ w2) w3))
 have push:∀{d:Nat}{t:CT d}{c:Bt AV}{m w:Nat}{mk:(d2:Nat)→CT d2→Nat→SO},iQ d t c m→(∀d2 t2 c2 o2,iQ d2 t2 c2 o2→rO (mk d2 t2 o2) (.cells c2 o2 w))→
   (fL l d t m λd2 t2 o2=>ox D b (λs=>s ht H.n) λh1=>sNew D (mk d2 t2 o2) h1 k)→
   (dj l c m λc2 o2=>cP H b .dead λH1=>ay H1 (.cells c2 o2 w) λb' H'=>∃hs',aY hs' H'∧k b' hs'):=λ{d t c m w mk} ht1 hmk h=>by
  obtain⟨d2,t2,c2,w1,w2,w3,_⟩:=iY l ht1 h;exact w1 _ (fin (d2:=d2) (t2:=t2) (hmk _ _ _ _ w2) w3)
 have all:∀{d:Nat}{t:CT d}{c:Bt AV}{m w:Nat}{mk:(d2:Nat)→CT d2→Nat→SO},iQ d t c m→(∀d2 t2 c2 o2,iQ d2 t2 c2 o2→rO (mk d2 t2 o2) (.cells c2 o2 w))→
   (bI (Nat.beq o 0) (bI (Nat.beq m (Nat.mul len sz)) (fL l d t m λd2 t2 o2=>ox D b (λs=>s ht H.n) λh1=>sNew D (mk d2 t2 o2) h1 k)
    (lJ d t (Nat.mul len sz) o λold=>fL old 0 oH 0 λd1 t1 o1=>fL l d1 t1 o1 λd2 t2 o2=>ox D b (λs=>s ht H.n) λh1=>sNew D (mk d2 t2 o2) h1 k))
    (lJ d t (Nat.mul len sz) o λold=>fL old 0 oH 0 λd1 t1 o1=>fL l d1 t1 o1 λd2 t2 o2=>ox D b (λs=>s ht H.n) λh1=>sNew D (mk d2 t2 o2) h1 k))→
   bI (Nat.beq o 0&&Nat.beq m (Nat.mul len sz))
   (dj l c m λc2 o2=>cP H b .dead λH1=>ay H1 (.cells c2 o2 w) λb' H'=>∃hs',aY hs' H'∧k b' hs')
   (lr c (Nat.mul len sz) o λold=>dj old .e 0 λc1 o1=>dj l c1 o1 λc2 o2=>cP H b .dead λH1=>ay H1 (.cells c2 o2 w) λb' H'=>∃hs',aY hs' H'∧k b' hs'):=λ{d t c m w mk} ht1 hmk h=>by
  rcases bZ h with⟨g1,h⟩|⟨g1,h⟩
  ·rcases bZ h with⟨g2,h⟩|⟨g2,h⟩
   ·exact mo (.inl ⟨by rw[g1,g2];rfl,push ht1 hmk h⟩)
   ·exact mo (.inr ⟨by rw[g1,g2];rfl,copy ht1 hmk h⟩)
  ·exact mo (.inr ⟨by rw[g1];rfl,copy ht1 hmk h⟩)
 rcases qP hso hk with⟨c,n,d,t,e,h1,h2⟩|⟨c,n,m,d,t,e,h1,h2⟩|⟨h,_⟩
 ·exact eK e (dv rfl (all (mk:=λd2 t2 o2=>λC _ _=>C d2 t2 o2) h1 (λd2 t2 c2 o2 h=>⟨d2,t2,rfl,h⟩) h2))
 ·obtain⟨hm,h2⟩:=an h2;exact eK e (dv hm (all (mk:=λd2 t2 o2=>λ_ C _=>C d2 t2 o2 (m+1)) h1 (λd2 t2 c2 o2 h=>⟨d2,t2,rfl,h⟩) h2))
 ·exact h.elim
 where
 oy:∀{n:Nat}{c:Bt AV}{o:Nat}{k k':List AV→Prop},(∀l,k l→k' l)→lr c n o k→lr c n o k'
 |0,_,_,_,_,hk,h=>hk _ h
 |n+1,c,o,k,k',hk,h=>by
  obtain⟨a,ha,h⟩:=Bt.cQ c o _ h;rw[ae]at h;refine Bt.eK ha ?_;rw[ae];exact oy (λl h=>hk _ h) h
theorem Jn(hr:aY hs H){b o:Nat}{l:List AV}{k:Hs D→Prop}(h:Dg D b (λd t m kt=>Df d l t o λt' o'=>bT (Nat.ble o' m) (kt t')) hs k) :
  ez H b λc m w=>bT (Nat.ble w 1) (dj l c o λc' o'=>bT (Nat.ble o' m) (cP H b (.cells c' m w) λH'=>∃hs',aY hs' H'∧k hs')):=by
 obtain⟨c,m,w,d,t,kt,e,hw,h1,h2,h3⟩:=zb hr h;obtain⟨_,c',t',y2,y3,y4⟩:=za l h1 h2;obtain⟨y5,y4⟩:=an y4;obtain⟨hs',H',z1,z2,z3,z4⟩:=h3 c' t' y4 y3;exact eK e (dv (Nat.ble_eq_true_of_le hw) (y2 _ (dv y5 (z1 _ ⟨hs',z2,z4⟩))))
theorem fx:∀{l:List AV}{c:Bt AV}{o:Nat}{k k':Bt AV→Nat→Prop},(∀c o,k c o→k' c o)→dj l c o k→dj l c o k'
 |[],_,_,_,_,hk,h=>hk _ _ h
 |a::l,c,o,k,k',hk,h=>by
  obtain⟨h1,h⟩:=pF h;exact vS h1 (Bt.je (λc' h=>by rw[ae]at h ⊢;exact fx hk h) h)
 where
 Bt.je {α:Type}:∀{t:Bt α}{i:Nat}{v:α}{k k':Bt α→Prop},(∀t,k t→k' t)→t.cP i v k→t.cP i v k'
 |.e,0,_,_,_,hk,h=>hk _ h
 |.e,i+1,_,_,_,_,h=>(show False from h).elim
 |.n u l r,0,v,_,_,hk,h=>hk _ h
 |.n u l r,i+1,v,k,k',hk,h=>by
  have h:=(show @Nat.rec (λ_=>Prop) (l.cP (i/2) v (λl'=>k (.n u l' r))) (λ_ _=>r.cP (i/2) v (λr'=>k (.n u l r'))) (i%2)from h)
  show @Nat.rec (λ_=>Prop) (l.cP (i/2) v (λl'=>k' (.n u l' r))) (λ_ _=>r.cP (i/2) v (λr'=>k' (.n u l r'))) (i%2);rcases Nat.mod_two_eq_zero_or_one i with e|e
  ·rw[e]at h ⊢;exact Bt.je (λt h=>hk _ h) h
  ·rw[e]at h ⊢;exact Bt.je (λt h=>hk _ h) h
theorem kS{b:Nat}{k k':Bt AV→Nat→Nat→Prop}(hk:∀c n m,k c n m→k' c n m)(h:ez H b k):ez H b k':=by
 obtain⟨c,n,m,e,h⟩:=cQ h;exact eK e (hk _ _ _ h)
theorem bM{b:Bool}{x y:Prop}(hk:x→y)(h:bT b x):bT b y:=by obtain⟨h1,h2⟩:=an h;exact dv h1 (hk h2)
theorem lh{b:Bool}{x y x' y':Prop}(h1:x→x')(h2:y→y')(h:bI b x y):bI b x' y':=by
 rcases bZ h with⟨e,h⟩|⟨e,h⟩
 ·exact mo (.inl ⟨e,h1 h⟩)
 ·exact mo (.inr ⟨e,h2 h⟩)
theorem je{b:Nat}{o:cF}{k k':AH→Prop}(hk:∀H,k H→k' H)(h:cP H b o k):cP H b o k':=fx.Bt.je (λt h=>hk _ h) h
theorem oz{o:cF}{k k':Nat→AH→Prop}(hk:∀b H,k b H→k' b H)(h:ay H o k):ay H o k':=fx.Bt.je (λt h=>by rw[ae]at h ⊢;exact hk _ _ h) h
theorem LJ(hr:aY hs H){sz bytes:Nat}{s x:AV}{k:V→Hs D→Prop}(h:aeh D sz bytes (enc s) (enc x) hs k):dw sz bytes s x H λv H'=>∃hs',aY hs' H'∧k (enc v) hs':=by
 have h:=aej hr h;unfold dw;obtain⟨n,hn,h⟩:∃n,(∀k:Nat→Prop,k n→lenOf x k)∧cellsOf sz n x H λl=>afD D sz bytes n (enc s) l hs k:=by
  cases x<;>first|exact h.elim|exact⟨_,λk h=>h,h⟩
 refine hn _ ?_;refine zc (λl h=>?_) h;obtain⟨h1,h⟩:=an h;refine dv h1 ?_;rcases uD h with⟨b,o,len,cap,sz',ex,rfl,g⟩|⟨rfl,g⟩
 ·obtain⟨h2,g⟩:=an g;refine dv h2 ?_;rw[ae]at g ⊢;refine lh (λg=>?_) (λg=>?_) g
  ·refine kS (λc m w g=>bM (λg=>fx (λc' o' g=>bM (λg=>je (λH' g=>?_) g) g) g) g) (Jn hr g);exact g
  ·refine bM (λg=>lh (λg=>?_) (λg=>?_) g) g
   ·obtain⟨c,n',m,d,t,e,y1,y2⟩:=ow hr g;refine eK e ?_;refine ry.oy (λold h=>?_) (mn y1 _ _ _ y2);obtain⟨d1,t1,c1,x1,x2,x3,_⟩:=iY old iQ.e h;obtain⟨d2,t2,c2,w1,w2,w3,_⟩:=iY l x2 x3;obtain⟨hs',H',u1,u2,_,_,_,u3⟩:=jY hr (o:=.cells c2 (0+old.length+l.length) 0) ⟨d2,t2,rfl,w2⟩ w3;exact x1 _ (w1 _ (u1 _ ⟨hs',u2,u3⟩))
   ·refine kS (λc m w g=>bM (λg=>lh (λg=>?_) (λg=>?_) g) g) (ry hr g)
    ·exact fx (λc' o' g=>je (λH1 g=>oz (λb' H' g=>g) g) g) g
    ·exact ry.oy (λold g=>fx (λc1 o1 g=>fx (λc' o' g=>je (λH1 g=>oz (λb' H' g=>g) g) g) g) g) g
 ·refine lh (λg=>⟨hs,hr,g⟩) (λg=>bM (λg=>?_) g) g;refine fx (λc m g=>oz (λb H' g=>?_) g) (Jl hr g);obtain⟨_,hs',y1,y2⟩:=g;exact⟨hs',y1,y2⟩
 where
 zc {sz n:Nat}{x:AV}{k k':List AV→Prop}(hk:∀l,k l→k' l) (h:cellsOf sz n x H k):cellsOf sz n x H k':=by
  cases x<;>first|exact h.elim|exact hk _ h|exact bM (bM (kS λc _ _ h=>ry.oy hk h)) h
theorem Vg(hr:aY hs H){sz:Nat}{d s:AV}{k:V→Hs D→Prop}(h:Ka D sz (enc d) (enc s) hs k):RX sz d s H λv H'=>∃hs',aY hs' H'∧k (enc v) hs':=by
 unfold RX;have lm:∀{a:AV}{k k':Nat→Prop},(∀n,k n→k' n)→lenOf a k→lenOf a k':=λ{a k k'} hk h=>by cases a<;>first|exact h.elim|exact hk _ h
 refine lm (λn h=>lm (λm h=>?_) (Jm h)) (Jm h);rw[ae]at h ⊢;refine LJ.zc (λl h=>?_) (Ve hr h);rcases uD h with⟨b,o,len,cap,sz',ex,rfl,g⟩|⟨rfl,g⟩
 ·refine bM (λg=>?_) g;exact kS (λc m w g=>bM (λg=>fx (λc' o' g=>bM (λg=>je (λH' g=>g) g) g) g) g) (Jn hr g)
 ·exact⟨hs,hr,g⟩
theorem Qp(hr:aY hs H){a:AV}{k:V→Prop}(h:Ra D (enc a) hs k):vE a H λv=>k (enc v):=by
 rcases uD h with⟨b,o,len,cap,sz',ex,rfl,g⟩|⟨rfl,g⟩
 ·refine bM (λg=>?_) g;obtain⟨c,n',m,d,t,e,y1,y2⟩:=ow hr g;exact eK e (mn y1 _ _ _ y2)
 ·exact g
theorem LK(hr:aY hs H){a:AV}{k:V→Hs D→Prop}(h:BU D (enc a) hs k):BA (ay H) a λv H'=>∃hs',aY hs' H'∧k (enc v) hs':=by
 obtain⟨n,x,rfl,g⟩:=encS h;obtain⟨d',t',c',y1,y2,y3,_⟩:=iY _ iQ.e g;refine y1 _ ?_;refine bM (λg=>?_) y3;obtain⟨hs',H',z1,z2,_,_,_,z3⟩:=jY hr (o:=.cells c' (0+(rj n x).length) 1) ⟨d',t',rfl,y2⟩ g;exact z1 _ ⟨hs',z2,z3⟩
end
theorem xH{c:Nat}{z:Int}{k:Int→Prop}(h:k ((kd c).wrap z)):aN c z k:=by
 have key:Co c z k:=by
  unfold Co;cases hs:mv c with
  |true=>
   refine mo (.inl ⟨rfl,?_⟩);cases z with
   |ofNat n=>
    cases hb:Nat.ble (half c) n with
    |true=>exact mo (.inl ⟨hb,by rw[gT,ny];exact h⟩)
    |false=>
     refine mo (.inr ⟨hb,?_⟩);rw[ae];have hb':¬half c≤n:=λhle=>by rw[Nat.ble_eq_true_of_le hle]at hb;cases hb
     have e:(Int.ofNat n:Int)=(n:Int):=rfl;rw[wrap_small hs (by omega) (by omega)]at h;exact h
   |negSucc n=>
    cases hb:Nat.ble (half c) n with
    |true=>exact mo (.inl ⟨hb,by rw[gT,ny];exact h⟩)
    |false=>
     refine mo (.inr ⟨hb,?_⟩);rw[ae];have hb':¬half c≤n:=λhle=>by rw[Nat.ble_eq_true_of_le hle]at hb;cases hb
     rw[wrap_small hs (by omega) (by omega)]at h;exact h
  |false=>
   refine mo (.inr ⟨rfl,?_⟩);cases z with
   |ofNat n=>rw[mw hs]at h;simp only[ae];exact h
   |negSucc n=>simp only[gT,ny];exact h
 cases z<;>exact key
noncomputable section
def ii(a b:V)(f:Nat→Nat→Prop)(slow:Prop):Prop:=a False False (λm=>b False False (f m) (λ_=>slow) N2 N2 N2 N6 NL NL (λ_=>slow)) (λ_=>slow) N2 N2 N2 N6 NL NL (λ_=>slow)
def uu(c:Nat)(a b:V)(f:Nat→Nat→Prop)(slow:Prop):Prop:=a False False N1 N1 (λc1 m=>b False False N1 N1 (λc2 n=>bT (Nat.beq c1 c) (bT (Nat.beq c2 c) (f m n))) N2 N2 N6 NL NL (λ_=>slow)) N2 N2 N6 NL NL (λ_=>slow)
def g1(f:AV→(AV→Prop)→Prop)(a:V)(k:V→Prop):Prop:=dec a λx=>f x λr=>k (kA r).v
def g2(f:AV→AV→(AV→Prop)→Prop)(a b:V)(k:V→Prop):Prop:=dec a λx=>dec b λy=>f x y λr=>k (kA r).v
structure B2 where
 run:V→V→(V→Prop)→Prop
def Kb(f:AV→AV→(AV→Prop)→Prop):B2:=⟨λa b k=>g2 f a b k⟩
def cmpK(b:Bool)(k:V→Prop):Prop:=@Bool.rec (λ_=>Prop) (k (λ_ h _ _ _ _ _ _ _ _ _=>h)) (k (λh _ _ _ _ _ _ _ _ _ _=>h)) b
def sw(b:Bool)(k:V→Prop):Prop:=@Bool.rec (λ_=>Prop) (k (λh _ _ _ _ _ _ _ _ _ _=>h)) (k (λ_ h _ _ _ _ _ _ _ _ _=>h)) b
def aek(op:BinOp):B2:=
 match op with
 |.add=>⟨λa b k=>ii a b (λm n=>aB (Nat.add m n) λr=>bI (Nat.ble 9223372036854775808 r) (g2 (cY 0 .add) a b k) (k (λ_ _ h _ _ _ _ _ _ _ _=>h r))) (g2 (cY 0 .add) a b k)⟩
 |.sub=>⟨λa b k=>ii a b (λm n=>bI (Nat.ble n m) (aB (Nat.sub m n) λr=>bI (Nat.ble 9223372036854775808 r) (g2 (cY 0 .sub) a b k) (k (λ_ _ h _ _ _ _ _ _ _ _=>h r))) (g2 (cY 0 .sub) a b k)) (g2 (cY 0 .sub) a b k)⟩
 |.mul=>⟨λa b k=>ii a b (λm n=>aB (Nat.mul m n) λr=>bI (Nat.ble 9223372036854775808 r) (g2 (cY 0 .mul) a b k) (k (λ_ _ h _ _ _ _ _ _ _ _=>h r))) (g2 (cY 0 .mul) a b k)⟩
 |.quo=>⟨λa b k=>ii a b (λm n=>bI (Nat.ble 1 n) (aB (Nat.div m n) λr=>bI (Nat.ble 9223372036854775808 r) (g2 (cY 0 .quo) a b k) (k (λ_ _ h _ _ _ _ _ _ _ _=>h r))) False) (g2 (cY 0 .quo) a b k)⟩
 |.rem=>⟨λa b k=>ii a b (λm n=>bI (Nat.ble 1 n) (aB (Nat.mod m n) λr=>k (λ_ _ h _ _ _ _ _ _ _ _=>h r)) False) (g2 (cY 0 .rem) a b k)⟩
 |.eql=>⟨λa b k=>ii a b (λm n=>cmpK (Nat.beq m n) k) (g2 (cY 0 .eql) a b k)⟩
 |.neq=>⟨λa b k=>ii a b (λm n=>sw (Nat.beq m n) k) (g2 (cY 0 .neq) a b k)⟩
 |.lss=>⟨λa b k=>ii a b (λm n=>sw (Nat.ble n m) k) (g2 (cY 0 .lss) a b k)⟩
 |.leq=>⟨λa b k=>ii a b (λm n=>cmpK (Nat.ble m n) k) (g2 (cY 0 .leq) a b k)⟩
 |.gtr=>⟨λa b k=>ii a b (λm n=>sw (Nat.ble m n) k) (g2 (cY 0 .gtr) a b k)⟩
 |.geq=>⟨λa b k=>ii a b (λm n=>cmpK (Nat.ble n m) k) (g2 (cY 0 .geq) a b k)⟩
 |op=>Kb (cY 0 op)
def Dh(b:V)(f:Nat→Prop):Prop:=b False False f N1 (λ_ n=>f n) N2 N2 N6 NL NL NO
def ael(c:Nat)(op:BinOp):B2:=
 match op with
 |.eql=>⟨λa b k=>uu c a b (λm n=>cmpK (Nat.beq m n) k) (g2 (cY c .eql) a b k)⟩
 |.neq=>⟨λa b k=>uu c a b (λm n=>sw (Nat.beq m n) k) (g2 (cY c .neq) a b k)⟩
 |.lss=>⟨λa b k=>uu c a b (λm n=>sw (Nat.ble n m) k) (g2 (cY c .lss) a b k)⟩
 |.leq=>⟨λa b k=>uu c a b (λm n=>cmpK (Nat.ble m n) k) (g2 (cY c .leq) a b k)⟩
 |.gtr=>⟨λa b k=>uu c a b (λm n=>sw (Nat.ble m n) k) (g2 (cY c .gtr) a b k)⟩
 |.geq=>⟨λa b k=>uu c a b (λm n=>cmpK (Nat.ble n m) k) (g2 (cY c .geq) a b k)⟩
 |op=>@Bool.rec (λ_=>B2) (match op with
   |.add=>⟨λa b k=>uu c a b (λm n=>aB (Nat.mod (Nat.add m n) (full c)) λr=>k (λ_ _ _ _ h _ _ _ _ _ _=>h c r)) (g2 (cY c .add) a b k)⟩
   |.sub=>⟨λa b k=>uu c a b (λm n=>bI (Nat.ble n m) (aB (Nat.sub m n) λr=>bI (Nat.ble (full c) r) (g2 (cY c .sub) a b k) (k (λ_ _ _ _ h _ _ _ _ _ _=>h c r))) (g2 (cY c .sub) a b k)) (g2 (cY c .sub) a b k)⟩
   |.mul=>⟨λa b k=>uu c a b (λm n=>aB (Nat.mod (Nat.mul m n) (full c)) λr=>k (λ_ _ _ _ h _ _ _ _ _ _=>h c r)) (g2 (cY c .mul) a b k)⟩
   |.and=>⟨λa b k=>uu c a b (λm n=>aB (Nat.mod (Nat.land m n) (full c)) λr=>k (λ_ _ _ _ h _ _ _ _ _ _=>h c r)) (g2 (cY c .and) a b k)⟩
   |.or=>⟨λa b k=>uu c a b (λm n=>aB (Nat.mod (Nat.lor m n) (full c)) λr=>k (λ_ _ _ _ h _ _ _ _ _ _=>h c r)) (g2 (cY c .or) a b k)⟩
   |.xor=>⟨λa b k=>uu c a b (λm n=>aB (Nat.mod (Nat.xor m n) (full c)) λr=>k (λ_ _ _ _ h _ _ _ _ _ _=>h c r)) (g2 (cY c .xor) a b k)⟩
   |.shl=>⟨λa b k=>a False False N1 N1 (λc1 m=>Dh b λn=>bT (Nat.beq c1 c) (aB (Nat.mod (Nat.mul m (Nat.pow 2 (Nat.min n (bits c)))) (full c)) λr=>k (λ_ _ _ _ h _ _ _ _ _ _=>h c r))) N2 N2 N6 NL NL NO⟩
   |.shr=>⟨λa b k=>a False False N1 N1 (λc1 m=>Dh b λn=>bT (Nat.beq c1 c) (aB (Nat.shiftRight m (Nat.min n (bits c))) λr=>k (λ_ _ _ _ h _ _ _ _ _ _=>h c r))) N2 N2 N6 NL NL NO⟩
   |op=>Kb (cY c op)) (Kb (cY c op)) (mv c)
def aem(c:Nat)(op:BinOp):B2:=@Nat.rec (λ_=>B2) (aek op) (λc' _=>ael (Nat.succ c') op) c
def ss(a b:V)(f:Nat→Nat→Nat→Nat→Prop):Prop:=a False False N1 N1 N2 (λn x=>b False False N1 N1 N2 (λm y=>f n x m y) N2 N6 NL NL NO) N2 N6 NL NL NO
def SC(op:BinOp):B2:=
 match op with
 |.add=>⟨λa b k=>ss a b λn x m y=>aB (Nat.add n m) λp=>bT (Nat.ble p 1099511627776) (aB (KH n x y) λz=>k (λ_ _ _ _ _ h _ _ _ _ _=>h p z))⟩
 |.eql=>⟨λa b k=>ss a b λn x m y=>bI (Nat.beq n m) (cmpK (Nat.beq x y) k) (k (λ_ h _ _ _ _ _ _ _ _ _=>h))⟩
 |.neq=>⟨λa b k=>ss a b λn x m y=>bI (Nat.beq n m) (sw (Nat.beq x y) k) (k (λh _ _ _ _ _ _ _ _ _ _=>h))⟩
 |op=>Kb (KL op)
structure G1 where
 run:V→(V→Prop)→Prop
def cvC(c:Nat):G1:=
 @Nat.rec (λ_=>G1)
  ⟨λa k=>a False False (λn=>bI (Nat.ble 9223372036854775808 n) (g1 (jI 0) a k) (k (λ_ _ h _ _ _ _ _ _ _ _=>h n))) (λ_=>g1 (jI 0) a k) (λ_ n=>bI (Nat.ble 9223372036854775808 n) (g1 (jI 0) a k) (k (λ_ _ h _ _ _ _ _ _ _ _=>h n))) N2 N2 N6 NL NL (λ_=>g1 (jI 0) a k)⟩
  (λc' _=>@Bool.rec (λ_=>G1)
   ⟨λa k=>a False False (λn=>aB (Nat.mod n (full (Nat.succ c'))) λr=>k (λ_ _ _ _ h _ _ _ _ _ _=>h (Nat.succ c') r)) (λ_=>g1 (jI (Nat.succ c')) a k) (λ_ n=>aB (Nat.mod n (full (Nat.succ c'))) λr=>k (λ_ _ _ _ h _ _ _ _ _ _=>h (Nat.succ c') r)) N2 N2 N6 NL NL (λ_=>g1 (jI (Nat.succ c')) a k)⟩
   ⟨λa k=>g1 (jI (Nat.succ c')) a k⟩ (mv (Nat.succ c'))) c
def SD(a i:V)(k:V→Prop):Prop:=a False False N1 N1 N2 (λn x=>Dh i λj=>bT (Nat.ble (Nat.succ j) n) (aB (byteAt x j) λb=>k (λ_ _ _ _ h _ _ _ _ _ _=>h 1 b))) N2 N6 NL NL NO
def LL(a:AV)(k:Prop):Prop:=match a with|.jQ=>k|_=>False
variable (D:Nat)
def SE(b:Nat)(h:Hs D)(x:Prop):Prop:=h λht _=>(acc SO D b).get (λso=>so (λ_ _ _=>x) (λ_ _ _ _=>False) NB) ht
def ptrEq(r:Bool)(a b:V)(h:Hs D)(k:V→Prop):Prop:=
 a False False N1 N1 N2 N2 (λb1 o1=>b False False N1 N1 N2 N2 (λb2 o2=>bI (Nat.beq b1 b2) (bI (Nat.beq o1 o2) (cmpK r k) (sw r k)) (SE D b1 h (SE D b2 h (sw r k)))) N6 NL NL (λy=>LL y (sw r k))) N6 NL NL
  (λx=>LL x (b False False N1 N1 N2 N2 (λ_ _=>sw r k) N6 NL NL (λy=>LL y (cmpK r k))))
end
theorem rz{f:AV→(AV→Prop)→Prop}{a:AV}{k:V→Prop}(h:g1 f (enc a) k):f a λr=>k (enc r):=eJ (k:=λx=>f x λr=>k (enc r)) h
theorem dF{f:AV→AV→(AV→Prop)→Prop}{a b:AV}{k:V→Prop}(h:g2 f (enc a) (enc b) k):f a b λr=>k (enc r):=
 eJ (k:=λy=>f a y λr=>k (enc r)) (eJ (k:=λx=>dec (enc b) λy=>f x y λr=>k (enc r)) h)
theorem nH{a b:AV}{f:Nat→Nat→Prop}{slow:Prop}(h:ii (enc a) (enc b) f slow):(∃m n,a=.int 0 (.ofNat m)∧b=.int 0 (.ofNat n)∧f m n)∨slow:=by
 have g:=dk h;rcases g with⟨_,g⟩|⟨_,g⟩|⟨m,e,g⟩|⟨m,_,g⟩|⟨c,n,_,_,g⟩|⟨n,x,_,g⟩|⟨b,o,_,g⟩|⟨b,o,l,c,s,x,_,g⟩|⟨l,_,g⟩|⟨l,_,g⟩|⟨_,g⟩<;>try exact g.elim
 ·have g':=dk g;rcases g' with⟨_,g⟩|⟨_,g⟩|⟨n,e',g⟩|⟨n,_,g⟩|⟨c,n,_,_,g⟩|⟨n,x,_,g⟩|⟨b,o,_,g⟩|⟨b,o,l,c,s,x,_,g⟩|⟨l,_,g⟩|⟨l,_,g⟩|⟨_,g⟩<;>try exact g.elim
  ·exact .inl ⟨m,n,e,e',g⟩
  ·exact .inr g
  ·exact .inr g
 ·exact .inr g
 ·exact .inr g
theorem LM{a:AV}{U:Nat→Nat→Prop}{O:AV→Prop}(h:enc a False False N1 N1 U N2 N2 N6 NL NL O):(∃c n,0<c∧a=.int c (.ofNat n)∧U c n)∨(a.odd=true∧O a):=by
 have g:=dk h;clear h;rcases g with⟨rfl,h⟩|⟨rfl,h⟩|⟨n,rfl,h⟩|⟨n,rfl,h⟩|⟨c,n,h0,rfl,h⟩|⟨n,x,rfl,h⟩|⟨b,o,rfl,h⟩|⟨b,o,l,c,s,x,rfl,h⟩|⟨l,rfl,h⟩|⟨l,rfl,h⟩|⟨h0,h⟩<;>first|exact h.elim|exact .inl ⟨_,_,h0,rfl,h⟩|exact .inr ⟨h0,h⟩
theorem afE{a:AV}{I M:Nat→Prop}{U:Nat→Nat→Prop}{O:AV→Prop}(h:enc a False False I M U N2 N2 N6 NL NL O):(∃n,a=.int 0 (.ofNat n)∧I n)∨(∃n,a=.int 0 (.negSucc n)∧M n)∨(∃c n,0<c∧a=.int c (.ofNat n)∧U c n)∨(a.odd=true∧O a):=by
 have g:=dk h;clear h;rcases g with⟨rfl,h⟩|⟨rfl,h⟩|⟨n,rfl,h⟩|⟨n,rfl,h⟩|⟨c,n,h0,rfl,h⟩|⟨n,x,rfl,h⟩|⟨b,o,rfl,h⟩|⟨b,o,l,c,s,x,rfl,h⟩|⟨l,rfl,h⟩|⟨l,rfl,h⟩|⟨h0,h⟩ <;>
  first|exact h.elim|exact .inl ⟨_,rfl,h⟩|exact .inr (.inl ⟨_,rfl,h⟩)|exact .inr (.inr (.inl ⟨_,_,h0,rfl,h⟩))|exact .inr (.inr (.inr ⟨h0,h⟩))
theorem mD{c:Nat}{a b:AV}{f:Nat→Nat→Prop}{slow:Prop}(h:uu c (enc a) (enc b) f slow):(∃m n,a=.int c (.ofNat m)∧b=.int c (.ofNat n)∧f m n)∨slow:=by
 rcases LM h with⟨c1,m,_,e1,h⟩|⟨_,h⟩
 ·rcases LM h with⟨c2,n,_,e2,h⟩|⟨_,h⟩
  ·obtain⟨x1,h⟩:=an h;obtain⟨x2,h⟩:=an h;rw[Nat.eq_of_beq_eq_true x1]at e1;rw[Nat.eq_of_beq_eq_true x2]at e2;exact .inl ⟨m,n,e1,e2,h⟩
  ·exact .inr h
 ·exact .inr h
theorem mq{b:Bool}{k:V→Prop}(h:cmpK b k):k (enc (.bool b)):=by cases b<;>exact h
theorem jZ{b:Bool}{k:V→Prop}(h:sw b k):k (enc (.bool (!b))):=by cases b<;>exact h
theorem jh{c:Nat}{x y:Int}{k:Int→Int→Prop}(h:k x y):two c (.int c x) (.int c y) k:=dv (Nat.beq_refl c) (dv (Nat.beq_refl c) h)
theorem lW{a b:Nat}(h:Nat.ble a b=false):¬a≤b:=λhle=>by rw[Nat.ble_eq_true_of_le hle]at h;cases h
theorem zd{z:Int}{k:Int→Prop}(h1:-9223372036854775808≤z)(h2:z<9223372036854775808)(h:k z):aN 0 z k:=xH (by rw[wrap_small (c:=0) rfl h1 h2];exact h)
theorem xI{c n:Nat}{k:Int→Prop}(hs:mv c=false)(h:k (.ofNat (n%full c))):aN c (.ofNat n) k:=xH (by rw[mw hs];exact h)
theorem Aq(m n:Nat):df (.ofNat m) (.ofNat n) = !(Nat.ble n m):=by
 rw[s8];cases e:Nat.ble n m with
 |false=>have:=lW e;simp;omega
 |true=>have:=Nat.le_of_ble_eq_true e;simp;omega
theorem mE{c:Nat}{op:BinOp}{m n:Nat}{k:AV→Prop} :
  (op=.eql→k (.bool (Nat.beq m n))→cY c op (.int c (.ofNat m)) (.int c (.ofNat n)) k)∧(op=.neq→k (.bool (!(Nat.beq m n)))→cY c op (.int c (.ofNat m)) (.int c (.ofNat n)) k)∧
  (op=.lss→k (.bool (!(Nat.ble n m)))→cY c op (.int c (.ofNat m)) (.int c (.ofNat n)) k)∧(op=.leq→k (.bool (Nat.ble m n))→cY c op (.int c (.ofNat m)) (.int c (.ofNat n)) k)∧
  (op=.gtr→k (.bool (!(Nat.ble m n)))→cY c op (.int c (.ofNat m)) (.int c (.ofNat n)) k)∧(op=.geq→k (.bool (Nat.ble n m))→cY c op (.int c (.ofNat m)) (.int c (.ofNat n)) k):=by
 refine⟨?_,?_,?_,?_,?_,?_⟩<;>rintro rfl h
 ·simp only[cY,IQ,IS,Cp,Cq];refine jh ?_;exact h
 ·simp only[cY,IQ,IS,Cp,Cq];refine jh ?_;exact h
 ·simp only[cY,IQ,IS,Cp,Cq];refine jh ?_;rw[Aq];exact h
 ·simp only[cY,IQ,IS,Cp,Cq];refine jh ?_;rw[Aq,Bool.not_not];exact h
 ·simp only[cY,IQ,IS,Cp,Cq];refine jh ?_;rw[Aq];exact h
 ·simp only[cY,IQ,IS,Cp,Cq];refine jh ?_;rw[Aq,Bool.not_not];exact h
theorem aen{op:BinOp}{a b:AV}{k:V→Prop}(h:(aek op).run (enc a) (enc b) k):cY 0 op a b λr=>k (enc r):=by
 unfold aek at h;split at h
 ·rcases nH h with⟨m,n,ea,eb,g⟩|h
  ·clear h;subst ea;subst eb;have h:=g;clear g;rw[ae]at h;rcases bZ h with⟨_,h⟩|⟨e,h⟩
   ·exact dF h
   ·have:=lW e;simp only[cY,qC,qD,qE,qF,pw,qG,vA,px];refine jh ?_;exact zd (z:=Int.add (.ofNat m) (.ofNat n)) (by show _≤(m:Int)+n;omega) (by show(m:Int)+n<_;have:(Nat.add m n:Nat)=m+n:=rfl;omega) h
  ·exact dF h
 ·rcases nH h with⟨m,n,ea,eb,g⟩|h
  ·clear h;subst ea;subst eb;have h:=g;clear g;rcases bZ h with⟨e0,h⟩|⟨e,h⟩
   ·rw[ae]at h;rcases bZ h with⟨_,h⟩|⟨e,h⟩
    ·exact dF h
    ·have:=lW e;have h0:=Nat.le_of_ble_eq_true e0;have hh:(Int.sub (.ofNat m) (.ofNat n):Int)=.ofNat (Nat.sub m n):=by show(m:Int)-n=((m-n:Nat):Int);omega
     have h1:(Nat.sub m n:Nat)=m-n:=rfl;simp only[cY,qC,qD,qE,qF,pw,qG,vA,px];refine jh ?_;rw[hh];exact zd (by show _≤((m-n:Nat):Int);omega) (by show((m-n:Nat):Int)<_;omega) h
   ·exact dF h
  ·exact dF h
 ·rcases nH h with⟨m,n,ea,eb,g⟩|h
  ·clear h;subst ea;subst eb;have h:=g;clear g;rw[ae]at h;rcases bZ h with⟨_,h⟩|⟨e,h⟩
   ·exact dF h
   ·have:=lW e;have hh:(Int.mul (.ofNat m) (.ofNat n):Int)=.ofNat (Nat.mul m n):=rfl;simp only[cY,qC,qD,qE,qF,pw,qG,vA,px];refine jh ?_;rw[hh];exact zd (by show _≤((Nat.mul m n:Nat):Int);omega) (by show((Nat.mul m n:Nat):Int)<_;omega) h
  ·exact dF h
 ·rcases nH h with⟨m,n,ea,eb,g⟩|h
  ·clear h;subst ea;subst eb;have h:=g;clear g;rcases bZ h with⟨e0,h⟩|⟨_,h⟩
   ·rw[ae]at h;rcases bZ h with⟨_,h⟩|⟨e,h⟩
    ·exact dF h
    ·have:=lW e;have h0:=Nat.le_of_ble_eq_true e0;have hn:cA (.ofNat n) 0=false:=by rw[my];simp;omega
     simp only[cY,qC,qD,qE,qF,pw,qG,vA,px];refine jh ?_;refine mo (.inr ⟨hn,?_⟩);have hh:(Int.tdiv (.ofNat m) (.ofNat n):Int)=.ofNat (Nat.div m n):=rfl;rw[hh];exact zd (by show _≤((Nat.div m n:Nat):Int);omega) (by show((Nat.div m n:Nat):Int)<_;omega) h
   ·exact h.elim
  ·exact dF h
 ·rcases nH h with⟨m,n,ea,eb,g⟩|h
  ·clear h;subst ea;subst eb;have h:=g;clear g;rcases bZ h with⟨e0,h⟩|⟨_,h⟩
   ·rw[ae]at h;have h0:=Nat.le_of_ble_eq_true e0;have hn:cA (.ofNat n) 0=false:=by rw[my];simp;omega
    simp only[cY,qC,qD,qE,qF,pw,qG,vA,px];refine jh ?_;refine mo (.inr ⟨hn,?_⟩);rw[gT];exact h
   ·exact h.elim
  ·exact dF h
 ·rcases nH h with⟨m,n,ea,eb,g⟩|h
  ·clear h;subst ea;subst eb;have h:=g;clear g;exact mE.1 rfl (mq h)
  ·exact dF h
 ·rcases nH h with⟨m,n,ea,eb,g⟩|h
  ·clear h;subst ea;subst eb;have h:=g;clear g;exact mE.2.1 rfl (jZ h)
  ·exact dF h
 ·rcases nH h with⟨m,n,ea,eb,g⟩|h
  ·clear h;subst ea;subst eb;have h:=g;clear g;exact mE.2.2.1 rfl (jZ h)
  ·exact dF h
 ·rcases nH h with⟨m,n,ea,eb,g⟩|h
  ·clear h;subst ea;subst eb;have h:=g;clear g;exact mE.2.2.2.1 rfl (mq h)
  ·exact dF h
 ·rcases nH h with⟨m,n,ea,eb,g⟩|h
  ·clear h;subst ea;subst eb;have h:=g;clear g;exact mE.2.2.2.2.1 rfl (jZ h)
  ·exact dF h
 ·rcases nH h with⟨m,n,ea,eb,g⟩|h
  ·clear h;subst ea;subst eb;have h:=g;clear g;exact mE.2.2.2.2.2 rfl (mq h)
  ·exact dF h
 ·exact dF h
theorem pS{b:AV}{f:Nat→Prop}(h:Dh (enc b) f):∃c n,b=.int c (.ofNat n)∧f n:=by
 have g:=dk h;clear h;rcases g with⟨rfl,h⟩|⟨rfl,h⟩|⟨n,rfl,h⟩|⟨n,rfl,h⟩|⟨c,n,h0,rfl,h⟩|⟨n,x,rfl,h⟩|⟨b,o,rfl,h⟩|⟨b,o,l,c,s,x,rfl,h⟩|⟨l,rfl,h⟩|⟨l,rfl,h⟩|⟨h0,h⟩<;>first|exact h.elim|exact⟨_,_,rfl,h⟩
theorem amd{c r:Nat}(hc:0<c):enc (.int c (.ofNat r))=(λ_ _ _ _ h _ _ _ _ _ _=>h c r):=by
 cases c with
 |zero=>omega
 |succ c=>rfl
theorem aeo{c:Nat}(hc:0<c){op:BinOp}{a b:AV}{k:V→Prop}(h:(ael c op).run (enc a) (enc b) k):cY c op a b λr=>k (enc r):=by
 have fin:∀{r:Nat},k (λ_ _ _ _ h _ _ _ _ _ _=>h c r)→k (enc (.int c (.ofNat r))):=λh=>by rw[amd hc];exact h
 unfold ael at h;split at h
 ·rcases mD h with⟨m,n,ea,eb,g⟩|h
  ·clear h;subst ea;subst eb;have h:=g;clear g;exact mE.1 rfl (mq h)
  ·exact dF h
 ·rcases mD h with⟨m,n,ea,eb,g⟩|h
  ·clear h;subst ea;subst eb;have h:=g;clear g;exact mE.2.1 rfl (jZ h)
  ·exact dF h
 ·rcases mD h with⟨m,n,ea,eb,g⟩|h
  ·clear h;subst ea;subst eb;have h:=g;clear g;exact mE.2.2.1 rfl (jZ h)
  ·exact dF h
 ·rcases mD h with⟨m,n,ea,eb,g⟩|h
  ·clear h;subst ea;subst eb;have h:=g;clear g;exact mE.2.2.2.1 rfl (mq h)
  ·exact dF h
 ·rcases mD h with⟨m,n,ea,eb,g⟩|h
  ·clear h;subst ea;subst eb;have h:=g;clear g;exact mE.2.2.2.2.1 rfl (jZ h)
  ·exact dF h
 ·rcases mD h with⟨m,n,ea,eb,g⟩|h
  ·clear h;subst ea;subst eb;have h:=g;clear g;exact mE.2.2.2.2.2 rfl (mq h)
  ·exact dF h
 ·cases hs:mv c with
  |true=>rw[hs]at h;exact dF h
  |false=>
   rw[hs]at h;simp only at h;split at h
   ·rcases mD h with⟨m,n,ea,eb,g⟩|h
    ·clear h;subst ea;subst eb;have h:=g;clear g;rw[ae]at h;simp only[cY,qC,qD,qE,qF,pw,qG,vA,px];refine jh ?_;exact xI (n:=m+n) hs (fin h)
    ·exact dF h
   ·rcases mD h with⟨m,n,ea,eb,g⟩|h
    ·clear h;subst ea;subst eb;have h:=g;clear g;rcases bZ h with⟨e0,h⟩|⟨e,h⟩
     ·rw[ae]at h;rcases bZ h with⟨_,h⟩|⟨e,h⟩
      ·exact dF h
      ·have:=lW e;have h0:=Nat.le_of_ble_eq_true e0;have hh:(Int.sub (.ofNat m) (.ofNat n):Int)=.ofNat (Nat.sub m n):=by show(m:Int)-n=((m-n:Nat):Int);omega
       simp only[cY,qC,qD,qE,qF,pw,qG,vA,px];refine jh ?_;rw[hh];exact xI hs (by rw[Nat.mod_eq_of_lt (by omega)];exact fin h)
     ·exact dF h
    ·exact dF h
   ·rcases mD h with⟨m,n,ea,eb,g⟩|h
    ·clear h;subst ea;subst eb;have h:=g;clear g;rw[ae]at h;simp only[cY,qC,qD,qE,qF,pw,qG,vA,px];refine jh ?_;exact xI (n:=m*n) hs (fin h)
    ·exact dF h
   ·rcases mD h with⟨m,n,ea,eb,g⟩|h
    ·clear h;subst ea;subst eb;have h:=g;clear g;rw[ae]at h;simp only[cY,qC,qD,qE,qF,pw,qG,vA,px];refine jh ?_;simp only[ae,mz];exact xI hs (fin h)
    ·exact dF h
   ·rcases mD h with⟨m,n,ea,eb,g⟩|h
    ·clear h;subst ea;subst eb;have h:=g;clear g;rw[ae]at h;simp only[cY,qC,qD,qE,qF,pw,qG,vA,px];refine jh ?_;simp only[ae,mz];exact xI hs (fin h)
    ·exact dF h
   ·rcases mD h with⟨m,n,ea,eb,g⟩|h
    ·clear h;subst ea;subst eb;have h:=g;clear g;rw[ae]at h;simp only[cY,qC,qD,qE,qF,pw,qG,vA,px];refine jh ?_;simp only[ae,mz];exact xI hs (fin h)
    ·exact dF h
   ·rcases LM h with⟨c1,m,_,ea,g⟩|⟨_,g⟩
    ·obtain⟨c2,n,eb,g'⟩:=pS g;clear g h;subst ea;subst eb;obtain⟨e,g⟩:=an g';rw[ae]at g;refine dv e (xH ?_);have hh:(Int.mul (.ofNat m) (.ofNat (Nat.pow 2 (Nat.min n (bits c)))):Int)=.ofNat (Nat.mul m (Nat.pow 2 (Nat.min n (bits c)))):=rfl;rw[hh,mw hs];exact fin g
    ·exact g.elim
   ·rcases LM h with⟨c1,m,_,ea,g⟩|⟨_,g⟩
    ·obtain⟨c2,n,eb,g'⟩:=pS g;clear g h;subst ea;subst eb;obtain⟨e,g⟩:=an g';rw[ae]at g;refine dv e ?_;rw[gT];exact fin g
    ·exact g.elim
   ·exact dF h
theorem aep{c:Nat}{op:BinOp}{a b:AV}{k:V→Prop}(h:(aem c op).run (enc a) (enc b) k):cY c op a b λr=>k (enc r):=by
 cases c with
 |zero=>exact aen h
 |succ c=>exact aeo (by omega) h
theorem LN{a b:AV}{f:Nat→Nat→Nat→Nat→Prop}(h:ss (enc a) (enc b) f):∃n x m y,a=.str n x∧b=.str m y∧f n x m y:=by
 obtain⟨n,x,e,h⟩:=encS h;obtain⟨m,y,e',h⟩:=encS h;exact⟨n,x,m,y,e,e',h⟩
theorem aeq{op:BinOp}{a b:AV}{k:V→Prop}(h:(SC op).run (enc a) (enc b) k):KL op a b λr=>k (enc r):=by
 unfold SC at h;split at h
 ·obtain⟨n,x,m,y,ea,eb,g⟩:=LN h;clear h;subst ea;subst eb;have h:=g;clear g;rw[ae]at h;obtain⟨h1,h⟩:=an h;rw[ae]at h;show aB _ _;rw[ae];refine dv h1 ?_;rw[ae];exact h
 ·obtain⟨n,x,m,y,ea,eb,g⟩:=LN h;clear h;subst ea;subst eb;have h:=g;clear g;show k (enc (.bool _));rcases bZ h with⟨e,h⟩|⟨e,h⟩
  ·rw[e];exact mq h
  ·rw[e];exact h
 ·obtain⟨n,x,m,y,ea,eb,g⟩:=LN h;clear h;subst ea;subst eb;have h:=g;clear g;show k (enc (.bool _));rcases bZ h with⟨e,h⟩|⟨e,h⟩
  ·rw[e];exact jZ h
  ·rw[e];exact h
 ·exact dF h
theorem ahb{c:Nat}{a:AV}{k:V→Prop}(h:(cvC c).run (enc a) k):jI c a λr=>k (enc r):=by
 cases c with
 |zero=>
  have key:∀{c1 n:Nat},a=.int c1 (.ofNat n)→bI (Nat.ble 9223372036854775808 n) (g1 (jI 0) (enc a) k) (k (λ_ _ h _ _ _ _ _ _ _ _=>h n))→jI 0 a λr=>k (enc r):=λ{c1 n} e h=>by
   rcases bZ h with⟨_,g⟩|⟨e',g⟩
   ·exact rz g
   ·have hb:=lW e';rw[e];exact zd (z:=.ofNat n) (k:=λz=>k (enc (.int 0 z))) (by show _≤(n:Int);omega) (by show(n:Int)<_;omega) g
  rcases afE h with⟨n,e,h⟩|⟨n,_,h⟩|⟨c1,n,_,e,h⟩|⟨_,h⟩
  ·exact key e h
  ·exact rz h
  ·exact key e h
  ·exact rz h
 |succ c=>
  have h:(@Bool.rec (λ_=>G1)
   ⟨λa k=>a False False (λn=>aB (Nat.mod n (full (Nat.succ c))) λr=>k (λ_ _ _ _ h _ _ _ _ _ _=>h (Nat.succ c) r)) (λ_=>g1 (jI (Nat.succ c)) a k) (λ_ n=>aB (Nat.mod n (full (Nat.succ c))) λr=>k (λ_ _ _ _ h _ _ _ _ _ _=>h (Nat.succ c) r)) N2 N2 N6 NL NL (λ_=>g1 (jI (Nat.succ c)) a k)⟩
   ⟨λa k=>g1 (jI (Nat.succ c)) a k⟩ (mv (Nat.succ c))).run (enc a) k:=h
  cases hs:mv (Nat.succ c)with
  |true=>rw[hs]at h;exact rz h
  |false=>
   rw[hs]at h;have key:∀{c1 n:Nat},a=.int c1 (.ofNat n)→(aB (Nat.mod n (full (Nat.succ c))) λr=>k (λ_ _ _ _ h _ _ _ _ _ _=>h (Nat.succ c) r))→jI (Nat.succ c) a λr=>k (enc r):=λ{c1 n} e h=>by
    rw[ae]at h;rw[e];exact xI hs h
   rcases afE h with⟨n,e,h⟩|⟨n,_,h⟩|⟨c1,n,_,e,h⟩|⟨_,h⟩
   ·exact key e h
   ·exact rz h
   ·exact key e h
   ·exact rz h
theorem Vh{a i:AV}{k:V→Prop}(h:SD (enc a) (enc i) k):gC a i λr=>k (enc r):=by
 obtain⟨n,x,ea,g⟩:=encS h;obtain⟨c,j,eb,g'⟩:=pS g;rw[ea,eb];exact g'
section
variable {D:Nat}{hs:Hs D}{H:AH}
theorem aer{a:AV}{k:Prop}(h:LL a k):a=.jQ∧k:=by cases a<;>first|exact h.elim|exact⟨rfl,h⟩
theorem SF{a:AV}{P:Nat→Nat→Prop}{k:Prop}(h:enc a False False N1 N1 N2 N2 P N6 NL NL (λx=>LL x k)):(∃b o,a=.ptr b o∧P b o)∨(a=.jQ∧k):=by
 have g:=dk h;clear h;rcases g with⟨rfl,h⟩|⟨rfl,h⟩|⟨n,rfl,h⟩|⟨n,rfl,h⟩|⟨c,n,h0,rfl,h⟩|⟨n,x,rfl,h⟩|⟨b,o,rfl,h⟩|⟨b,o,l,c,s,x,rfl,h⟩|⟨l,rfl,h⟩|⟨l,rfl,h⟩|⟨h0,h⟩<;>first|exact h.elim|exact .inl ⟨_,_,rfl,h⟩|exact .inr (aer h)
theorem Jo(hr:aY hs H){b:Nat}{x:Prop}(h:SE D b hs x):ez H b λ_ _ m=>bT (Nat.beq m 0) x:=by
 obtain⟨ht,rfl,htr⟩:=hr.tr;obtain⟨_,so,hso,hk⟩:=mS D htr h;rcases qP hso hk with⟨c,n,d,t,e,h1,h2⟩|⟨c,n,m,d,t,e,h1,h2⟩|⟨h,_⟩
 ·exact eK e h2
 ·exact h2.elim
 ·exact h.elim
theorem ze(hr:aY hs H){r:Bool}{a b:AV}{k:V→Prop}(h:ptrEq D r (enc a) (enc b) hs k):qH r a b H λv=>k (enc v):=by
 rcases SF h with⟨b1,o1,rfl,g⟩|⟨rfl,g⟩
 ·rcases SF g with⟨b2,o2,rfl,g'⟩|⟨rfl,g'⟩
  ·refine lh (λg=>lh mq jZ g) (λg=>?_) g';refine kS (λ_ _ m g=>bM (λg=>?_) g) (Jo hr g);exact kS (λ_ _ m g=>bM jZ g) (Jo hr g)
  ·exact jZ g'
 ·rcases SF g with⟨b2,o2,rfl,g'⟩|⟨rfl,g'⟩
  ·exact jZ g'
  ·exact mq g'
end
noncomputable section
abbrev cS(d:Nat):Type:=sE V d
def aV(G d:Nat)(x:Operand):Acc V (cS d):=
 match x with
 |.tmp t=>acc V d t
 |.const v=>⟨λk _=>k (kA (fj v)).v,λ_ _ _=>False⟩
 |.global g=>@Bool.rec (λ_=>Acc V (cS d)) ⟨λk _=>k (λ_ _ _ _ _ _ _ _ _ _ h=>h .cU),λ_ _ _=>False⟩ ⟨λk _=>k (λ_ _ _ _ _ _ h _ _ _ _=>h g 0),λ_ _ _=>False⟩ (Nat.ble (Nat.succ g) G)
 |.func f=>⟨λk _=>k (λ_ _ _ _ _ _ _ _ _ _ h=>h (.func f [] [])),λ_ _ _=>False⟩
structure aes(d:Nat) where
 run:V→(cS d→Prop)→cS d→Prop
def ik(N d:Nat)(dst:Option Tmp):aes d:=
 match dst with
 |none=>⟨λ_ k e=>k e⟩
 |some t=>@Bool.rec (λ_=>aes d) ⟨λ_ _ _=>False⟩ ⟨λv k e=>(acc V d t).mod (λ_ k=>k v) k e⟩ (Nat.ble (Nat.succ t) N)
structure LC(d:Nat) where
 run:(List AV→Prop)→cS d→Prop
def kT(G d:Nat)(l:List Operand):LC d:=@List.rec Operand (λ_=>LC d) ⟨λk _=>k []⟩ (λx _ ih=>⟨λk e=>(aV G d x).get (λv=>dec v λa=>ih.run (λl=>k (a::l)) e) e⟩) l
def ajd(v:V)(k:AV→Prop):Prop:=v (k (.bool true)) (k (.bool false)) (λn=>k (.int 0 (.ofNat n))) (λn=>k (.int 0 (.negSucc n))) (λc n=>k (.int c (.ofNat n))) (λn x=>k (.str n x)) (λb o=>k (.ptr b o)) (λb o l c s x=>k (.slice b o l c s x)) NL NL (λa=>one a (k a))
def Di(G d:Nat)(l:List (AV ⊕ Operand)):LC d:=@List.rec (AV ⊕ Operand) (λ_=>LC d) ⟨λk _=>k []⟩ (λx _ ih=>@Sum.rec AV Operand (λ_=>LC d) (λa=>⟨λk e=>ih.run (λl=>k (a::l)) e⟩) (λx=>⟨λk e=>(aV G d x).get (λv=>ajd v λa=>ih.run (λl=>k (a::l)) e) e⟩) x) l
def zf(z:List (AV ⊕ Operand))(l:List (Nat×Operand)):List (AV ⊕ Operand):=l.foldl (λt p=>t.set p.1 (.inr p.2)) z
def oT(place:Nat→Option (Nat×Nat×Bool))(n:Nat):List (Nat×Operand)→Option (List (Nat×Operand))
 |[]=>some []
 |(i,x)::r=>match place i with
  |some (o,sz,sc)=>bif sc&&(Nat.beq sz 1&&Nat.ble (Nat.add o sz) n) then (match oT place n r with|some l=>some ((o,x)::l)|none=>none) else none
  |none=>none
def LO(z:List AV)(m:Nat)(d:Nat):Nat→TB (CT d):=
 @Nat.rec (λd=>Nat→TB (CT d)) (λi=>@Bool.rec (λ_=>TB LV) ⟨oH⟩ (match z[Nat.mod i z.length]? with|some a=>⟨λk=>k (kA a).v⟩|none=>⟨oH⟩) (Nat.ble (Nat.succ i) m))
  (λ_ ih i=>⟨λs=>s (ih (Nat.mul 8 i)).t (ih (Nat.add (Nat.mul 8 i) 1)).t (ih (Nat.add (Nat.mul 8 i) 2)).t (ih (Nat.add (Nat.mul 8 i) 3)).t (ih (Nat.add (Nat.mul 8 i) 4)).t (ih (Nat.add (Nat.mul 8 i) 5)).t (ih (Nat.add (Nat.mul 8 i) 6)).t (ih (Nat.add (Nat.mul 8 i) 7)).t⟩) d
def tB(n:Nat):Nat:=@Nat.rec (λ_=>Nat) 0 (λm _=>@Nat.rec (λ_=>Nat) 0 (λ_ _=>Nat.succ (Nat.div (Nat.log2 m) 3)) m) n
variable (D:Nat)
def SG(z:List AV)(m:Nat)(hs:Hs D)(k:Nat→Hs D→Prop):Prop:=bT (Nat.ble m (Nat.pow 8 (tB m))) (sNew D (λC _ _=>C (tB m) (LO z m (tB m) 0).t m) hs k)
def aje(v:V)(hs:Hs D)(k:V→Hs D→Prop):Prop:=
 v (sNew D (λC _ _=>C 0 (λk=>k v) 1) hs λb h=>k (λ_ _ _ _ _ _ h _ _ _ _=>h b 0) h) (sNew D (λC _ _=>C 0 (λk=>k v) 1) hs λb h=>k (λ_ _ _ _ _ _ h _ _ _ _=>h b 0) h)
  (λ_=>sNew D (λC _ _=>C 0 (λk=>k v) 1) hs λb h=>k (λ_ _ _ _ _ _ h _ _ _ _=>h b 0) h) (λ_=>sNew D (λC _ _=>C 0 (λk=>k v) 1) hs λb h=>k (λ_ _ _ _ _ _ h _ _ _ _=>h b 0) h) (λ_ _=>sNew D (λC _ _=>C 0 (λk=>k v) 1) hs λb h=>k (λ_ _ _ _ _ _ h _ _ _ _=>h b 0) h)
  (λ_ _=>sNew D (λC _ _=>C 0 (λk=>k v) 1) hs λb h=>k (λ_ _ _ _ _ _ h _ _ _ _=>h b 0) h) (λ_ _=>sNew D (λC _ _=>C 0 (λk=>k v) 1) hs λb h=>k (λ_ _ _ _ _ _ h _ _ _ _=>h b 0) h) (λ_ _ _ _ _ _=>sNew D (λC _ _=>C 0 (λk=>k v) 1) hs λb h=>k (λ_ _ _ _ _ _ h _ _ _ _=>h b 0) h)
  (λl=>sN D l hs λb _ h=>k (λ_ _ _ _ _ _ h _ _ _ _=>h b 0) h) NL (λa=>one a (sNew D (λC _ _=>C 0 (λk=>k v) 1) hs λb h=>k (λ_ _ _ _ _ _ h _ _ _ _=>h b 0) h))
end
structure dU(N d:Nat)(e:cS d)(env:List AV):Prop where
 lo:N≤env.length
 hi:env.length≤8^d
 tr:TR (λv a=>v=enc a) d e (λi=>env.getD i bN)
section
variable {N d:Nat}{e:cS d}{env:List AV}{G:Nat}
theorem al(he:dU N d e env){x:Operand}{k:V→Prop}(h:(aV G d x).get k e):k (enc (bu G env x)):=by
 cases x with
 |tmp t=>
  obtain⟨_,v,rfl,hk⟩:=mS d he.tr h;exact hk
 |const v=>exact h
 |global g=>
  have h:(@Bool.rec (λ_=>Acc V (cS d)) ⟨λk _=>k (λ_ _ _ _ _ _ _ _ _ _ h=>h .cU),λ_ _ _=>False⟩ ⟨λk _=>k (λ_ _ _ _ _ _ h _ _ _ _=>h g 0),λ_ _ _=>False⟩ (Nat.ble (Nat.succ g) G)).get k e:=h;simp only[bu];cases hb:Nat.ble (Nat.succ g) G with
  |true=>rw[hb]at h;rw[if_pos rfl];exact h
  |false=>rw[hb]at h;rw[if_neg (by simp)];exact h
 |func f=>exact h
theorem jz(he:dU N d e env){dst:Option Tmp}{a:AV}{k:cS d→Prop}(h:(ik N d dst).run (enc a) k e):∃e',dU N d e' (bU env dst a)∧k e':=by
 cases dst with
 |none=>exact⟨e,he,h⟩
 |some t=>
  have h:(@Bool.rec (λ_=>aes d) ⟨λ_ _ _=>False⟩ ⟨λv k e=>(acc V d t).mod (λ_ k=>k v) k e⟩ (Nat.ble (Nat.succ t) N)).run (enc a) k e:=h;cases hb:Nat.ble (Nat.succ t) N with
  |false=>rw[hb]at h;exact(show False from h).elim
  |true=>
   rw[hb]at h;have ht:t<env.length:=Nat.lt_of_lt_of_le (Nat.le_of_ble_eq_true hb) he.lo;obtain⟨_,v,k',_,g2,g3⟩:=pR d he.tr h;obtain⟨t',g4,g5⟩:=g3 _ a g2 rfl;refine⟨t',⟨by simpa[bU]using he.lo,by simpa[bU]using he.hi,g4.congr' λi _=>?_⟩,g5⟩;simp only[bU];by_cases e:i=t
   ·subst e;rw[pQ];simp[List.getD_eq_getElem?_getD,ht]
   ·rw[sX _ e];simp[List.getD_eq_getElem?_getD,List.getElem?_set_ne (Ne.symm e)]
theorem kU(he:dU N d e env):∀(l:List Operand){k:List AV→Prop},(kT G d l).run k e→k (l.map (bu G env))
 |[],k,h=>h
 |x::r,k,h=>kU he r (k:=λl=>k (bu G env x::l)) (eJ (k:=λa=>(kT G d r).run (λl=>k (a::l)) e) (al he h))
theorem aet{a:AV}{k:AV→Prop}(h:ajd (enc a) k):a.one=true∧k a:=by
 have g:=dk h;rcases g with⟨e,g⟩|⟨e,g⟩|⟨n,e,g⟩|⟨n,e,g⟩|⟨c,n,_,e,g⟩|⟨n,x,e,g⟩|⟨b,o,e,g⟩|⟨b,o,l,c,s,x,e,g⟩|⟨l,e,g⟩|⟨l,e,g⟩|⟨_,g⟩<;>first|exact pF g|exact g.elim|(subst e;exact⟨rfl,g⟩)
def evT(ρ:Operand→AV):AV ⊕ Operand→AV
 |.inl a=>a
 |.inr x=>ρ x
theorem zg(he:dU N d e env):∀(l:List (AV ⊕ Operand)){k:List AV→Prop},(Di G d l).run k e→k (l.map (evT (bu G env)))∧∀x,.inr x∈l→(bu G env x).one=true
 |[],k,h=>⟨h,by simp⟩
 |.inl a::r,k,h=>by
  obtain⟨g1,g2⟩:=zg he r (k:=λl=>k (a::l)) h;exact⟨g1,λx hx=>g2 x (by simpa using hx)⟩
 |.inr x::r,k,h=>by
  obtain⟨h1,h2⟩:=aet (k:=λa=>(Di G d r).run (λl=>k (a::l)) e) (al he h);obtain⟨g1,g2⟩:=zg he r (k:=λl=>k (bu G env x::l)) h2;refine⟨g1,λy hy=>?_⟩;rcases List.mem_cons.1 hy with e|hy
  ·cases e;exact h1
  ·exact g2 y hy
theorem Rb:∀(l:List (Nat×Operand)) (z:List (AV ⊕ Operand)) (j:Nat),(∀p∈l,p.1≠j)→(zf z l)[j]? = z[j]?
 |[],z,j,_=>rfl
 |p::r,z,j,h=>by
  show(zf (z.set p.1 (.inr p.2)) r)[j]? = _;rw[Rb r _ j λq hq=>h q (by simp[hq])];exact List.getElem?_set_ne (h p (by simp))
theorem LQ:∀(l:List (Nat×Operand)) (z:List (AV ⊕ Operand)),(l.map (·.1)).Nodup→(∀p∈l,p.1<z.length)→∀p∈l,.inr p.2∈zf z l
 |[],_,_,_,p,hp=>by simp at hp
 |q::r,z,hn,hl,p,hp=>by
  simp only[List.map_cons,List.nodup_cons]at hn;show _∈zf (z.set q.1 (.inr q.2)) r;rcases List.mem_cons.1 hp with rfl|hp
  ·have:=Rb r (z.set p.1 (.inr p.2)) p.1 λq hq e=>hn.1 (by rw[←e];exact List.mem_map_of_mem hq);rw[List.getElem?_set_self (hl p (by simp))]at this;exact List.mem_of_getElem? this
  ·exact LQ r _ hn.2 (λp hp=>by simpa using hl p (by simp[hp])) p hp
theorem zh{place:Nat→Option (Nat×Nat×Bool)}{n:Nat}{ρ:Operand→AV}:∀{ps l:List (Nat×Operand)}{cs:List (AV ⊕ Operand)}{k:List AV→Prop},oT place n ps=some l→(∀p∈l,(ρ p.2).one=true)→
  k ((zf cs l).map (evT ρ))→gb place n (ps.map λx=>(x.1,ρ x.2)) (cs.map (evT ρ)) k
 |[],l,cs,k,h,_,hk=>by
  simp only[oT,Option.some.injEq]at h;subst h;exact hk
 |(i,x)::r,l,cs,k,h,ho,hk=>by
  simp only[oT]at h;simp only[List.map_cons,gb];split at h
  ·rename_i o sz sc hp;rw[hp];cases hb:(sc&&(Nat.beq sz 1&&Nat.ble (Nat.add o sz) n))with
   |false=>rw[hb]at h;cases h
   |true=>
    rw[hb]at h;simp only[cond_true]at h;split at h
    ·rename_i l' hl';simp only[Option.some.injEq]at h;subst h;simp only[Bool.and_eq_true]at hb;obtain⟨rfl,h1,h2⟩:=hb;refine dv h2 (dv h1 (vS (ho (o,x) (by simp)) ?_));have:=zh (cs:=cs.set o (.inr x)) (k:=k) hl' (λp hp=>ho p (by simp[hp])) hk;rw[List.map_set]at this;exact this
    ·cases h
  ·cases h
theorem Jp{place:Nat→Option (Nat×Nat×Bool)}{n:Nat}:∀{ps l:List (Nat×Operand)},oT place n ps=some l→∀p∈l,p.1<n
 |[],l,h,p,hp=>by
  simp only[oT,Option.some.injEq]at h;subst h;simp at hp
 |(i,x)::r,l,h,p,hp=>by
  simp only[oT]at h;split at h
  ·rename_i o sz sc hp';cases hb:(sc&&(Nat.beq sz 1&&Nat.ble (Nat.add o sz) n))with
   |false=>rw[hb]at h;cases h
   |true=>
    rw[hb]at h;simp only[cond_true]at h;split at h
    ·rename_i l' hl';simp only[Option.some.injEq]at h;subst h;simp only[Bool.and_eq_true]at hb;obtain⟨_,h1,h2⟩:=hb;rcases List.mem_cons.1 hp with rfl|hp
     ·have h1:=Nat.eq_of_beq_eq_true h1;have h2:o+sz≤n:=Nat.le_of_ble_eq_true h2;show o<n;omega
     ·exact Jp hl' p hp
    ·cases h
  ·cases h
theorem map_inl(z:List AV)(ρ:Operand→AV):(z.map Sum.inl).map (evT ρ)=z:=by
 rw[List.map_map]
 conv=>rhs;rw[←List.map_id z]
 rfl
theorem Dj(he:dU N d e env){place:Nat→Option (Nat×Nat×Bool)}{ps l:List (Nat×Operand)}{z:List AV}(h1:oT place z.length ps=some l)(h2:nodupB (l.map (·.1))=true){k:List AV→Prop}
  (h:(Di G d (zf (z.map Sum.inl) l)).run k e):gb place z.length (ps.map λx=>(x.1,bu G env x.2)) z k:=by
 obtain⟨g1,g2⟩:=zg he _ h;have hm:=LQ l (z.map Sum.inl) (yW h2) (λp hp=>by simpa using Jp h1 p hp);have:=zh (ρ:=bu G env) (cs:=z.map Sum.inl) (k:=k) h1 (λp hp=>g2 _ (hm p hp)) g1
 rwa [map_inl]at this
end
theorem zi:∀(l:List AV){c:Bt AV}{o:Nat},Full c o→(∀a∈l,a.one=true)→∃c',(∀K:Bt AV→Nat→Prop,K c' (o+l.length)→dj l c o K)∧Full c' (o+l.length)∧(∀i,i<l.length→c'.get? (o+i)=l[i]?)∧∀j,j<o→c'.get? j=c.get? j
 |[],c,o,hf,_=>⟨c,λK h=>h,hf,λi hi=>by simp at hi,λ_ _=>rfl⟩
 |a::l,c,o,hf,h1=>by
  obtain⟨c1,g1,g2,g3⟩:=Bt.tA hf (Nat.le_refl _) a;have hf1:=hf.set (Nat.le_refl _) g2 g3;rw[show max o (o+1)=o+1 by omega]at hf1;obtain⟨c',y1,y2,y3,y4⟩:=zi l hf1 λx hx=>h1 x (by simp[hx]);have el:o+(a::l).length=o+1+l.length:=by simp;omega
  refine⟨c',λK hK=>vS (h1 a (by simp)) (g1 _ (by rw[ae];exact y1 K (by rw[←el];exact hK))),by rw[el];exact y2,λi hi=>?_,λj hj=>?_⟩
  ·cases i with
   |zero=>rw[Nat.add_zero,y4 o (by omega),g2];rfl
   |succ i=>rw[show o+(i+1)=o+1+i by omega,y3 i (by simpa using hi)];rfl
  ·rw[y4 j (by omega),g3 j (by omega)]
theorem LU(z:List AV):∀(n i:Nat),i<n*z.length→(gd n z)[i]? = z[i%z.length]?
 |0,i,h=>by omega
 |n+1,i,h=>by
  simp only[gd];by_cases hi:i<z.length
  ·rw[List.getElem?_append_left hi,Nat.mod_eq_of_lt hi]
  ·rw[List.getElem?_append_right (by omega),LU z n (i-z.length) (by rw[Nat.succ_mul]at h;omega)];rw[Nat.mod_eq_sub_mod (by omega:i≥z.length)]
theorem Ie(z:List AV)(m:Nat)(m0:Nat→Option AV)(hm:∀i,m0 i=if i<m then z[i%z.length]? else none):∀(d i:Nat),TR rL d (LO z m d i).t (λj=>m0 (i*8^d+j))
 |0,i=>by
  show rL (@Bool.rec (λ_=>TB LV) ⟨oH⟩ (match z[Nat.mod i z.length]? with|some a=>⟨λk=>k (kA a).v⟩|none=>⟨oH⟩) (Nat.ble (Nat.succ i) m)).t (m0 (i*1+0));rw[Nat.mul_one,Nat.add_zero,hm];cases hb:Nat.ble (Nat.succ i) m with
  |false=>rw[if_neg (show ¬i<m from lW hb)];rfl
  |true=>
   rw[if_pos (show i<m from Nat.le_of_ble_eq_true hb)];show rL (match z[i%z.length]? with|some a=>(⟨λk=>k (kA a).v⟩:TB LV)|none=>⟨oH⟩).t _;cases z[i%z.length]?<;>rfl
 |d+1,i=>by
  refine⟨λj=>(LO z m d (8*i+j)).t,rfl,λj hj=>?_⟩;refine(Ie z m m0 hm d (8*i+j)).congr' λx _=>?_;congr 1;rw[Nat.pow_succ,Nat.add_mul,Nat.mul_comm 8 i,Nat.mul_assoc,Nat.mul_comm 8 (8^d),Nat.add_assoc]
section
variable {D:Nat}{hs:Hs D}{H:AH}
theorem Jq(hr:aY hs H){z:List AV}(hz:∀a∈z,a.one=true){n m:Nat}(hm:m=n*z.length){k:Nat→Hs D→Prop}(h:SG D z m hs k) :
  dj (gd n z) .e 0 λc q=>ay H (.cells c q 0) λb H'=>q=m∧∃hs',aY hs' H'∧k b hs':=by
 obtain⟨hle,h⟩:=an h;have hone:∀n,∀a∈gd n z,a.one=true:=by
  intro n
  induction n with
  |zero=>simp[gd]
  |succ n ih=>
   intro a ha;simp only[gd,List.mem_append]at ha;exact ha.elim (hz a) (ih a)
 obtain⟨c,g1,g2,g3,_⟩:=zi (gd n z) Full.e (hone n);rw[Nat.zero_add,mO,←hm]at g1 g2;refine g1 _ ?_;have ht:iQ (tB m) (LO z m (tB m) 0).t c m:=⟨Nat.le_of_ble_eq_true hle,g2,(Ie z m (λi=>c.get? i) (λi=>by
  split
  ·rename_i hi;have:=g3 i (by rw[mO,←hm];exact hi);rw[Nat.zero_add]at this;rw[this,LU z n i (by rw[←hm];exact hi)]
  ·rename_i hi;have:=g2 i;cases e:c.get? i with
   |none=>rfl
   |some x=>rw[e]at this;exact absurd (this.1 rfl) hi) (tB m) 0).congr' λi _=>by rw[Nat.zero_mul,Nat.zero_add]⟩
 obtain⟨hs',H',z1,z2,_,_,_,z3⟩:=jY hr (o:=.cells c m 0) ⟨_,_,rfl,ht⟩ h;exact z1 _ ⟨rfl,hs',z2,z3⟩
theorem aeu(hr:aY hs H){a:AV}(ha:a.one=true){k:V→Hs D→Prop}(h:sNew D (λC _ _=>C 0 (λk=>k (enc a)) 1) hs λb h=>k (λ_ _ _ _ _ _ h _ _ _ _=>h b 0) h):lA (ay H) [a] λv H'=>∃hs',aY hs' H'∧k (enc v) hs':=by
 obtain⟨c,g1,g2,g3,_⟩:=zi [a] Full.e (by simpa using ha);refine g1 _ ?_;have ht:iQ 0 (λk=>k (enc a):LV) c 1:=⟨by decide,g2,by
  show rL _ (c.get? 0);have:=g3 0 (by simp);rw[Nat.zero_add]at this;rw[this];rfl⟩
 obtain⟨hs',H',z1,z2,_,_,_,z3⟩:=jY hr (o:=.cells c 1 0) ⟨_,_,rfl,ht⟩ h;exact z1 _ ⟨hs',z2,z3⟩
theorem LW(hr:aY hs H){a:AV}{k:V→Hs D→Prop}(h:aje D (enc a) hs k):vd (ay H) a λv H'=>∃hs',aY hs' H'∧k (enc v) hs':=by
 have key:a.one=true→sNew D (λC _ _=>C 0 (λk=>k (enc a)) 1) hs (λb h=>k (λ_ _ _ _ _ _ h _ _ _ _=>h b 0) h)→vd (ay H) a λv H'=>∃hs',aY hs' H'∧k (enc v) hs':=λh1 h2=>Jk h1 (aeu hr h1 h2);have g:=dk h;rcases g with⟨e,g⟩|⟨e,g⟩|⟨n,e,g⟩|⟨n,e,g⟩|⟨c,n,_,e,g⟩|⟨n,x,e,g⟩|⟨b,o,e,g⟩|⟨b,o,l,c,s,x,e,g⟩|⟨l,e,g⟩|⟨l,e,g⟩|⟨_,g⟩
 ·exact key (by rw[e];rfl) g
 ·exact key (by rw[e];rfl) g
 ·exact key (by rw[e];rfl) g
 ·exact key (by rw[e];rfl) g
 ·exact key (by rw[e];rfl) g
 ·exact key (by rw[e];rfl) g
 ·exact key (by rw[e];rfl) g
 ·exact key (by rw[e];rfl) g
 ·rw[e];show lA (ay H) l (λv H'=>∃hs',aY hs' H'∧k (enc v) hs');refine fx (λc m g=>oz (λb H' g=>?_) g) (Jl hr g);obtain⟨_,hs',y1,y2⟩:=g;exact⟨hs',y1,y2⟩
 ·exact g.elim
 ·obtain⟨h1,g⟩:=pF g;exact key h1 g
end
noncomputable section
structure OpC(D d:Nat) where
 run:(V→Hs D→Prop)→cS d→Hs D→Prop
structure anf(d:Nat) where
 run:Nat→(Nat→Prop)→cS d→Prop
def N3'{D:Nat}:(d:Nat)→CT d→Nat→Prop:=λ_ _ _=>False
def C3:(d:Nat)→CT d→Nat→Prop:=λ_ _ _=>False
def C4:(d:Nat)→CT d→Nat→Nat→Prop:=λ_ _ _ _=>False
def Kd(D b:Nat)(o:cF)(hs:Hs D)(k:Hs D→Prop):Prop:=hs λht hn=>(acc SO D b).mod (λ_ ks=>ks λ_ _ O=>O o) (λht'=>k λs=>s ht' hn) ht
def afF(D:Nat)(v:V)(hs:Hs D)(k:V→Hs D→Prop):Prop:=
 v False False N1 N1 N2 N2 (λb o=>bT (Nat.beq o 0) (hs λht _=>(acc SO D b).get (λso=>so C3 C4 (λob=>K3 ob λn x p=>
  bI (Nat.ble (Nat.succ p) n) (aB (byteAt x p) λc=>bT (Nat.ble c 127) (aB (Nat.succ p) λp'=>Kd D b (.iter n x p') hs λhs'=>k (λ_ _ _ _ _ _ _ _ _ h _=>h [.bool true,.int 0 (.ofNat p),.int 2 (.ofNat c)]) hs')) (k (λ_ _ _ _ _ _ _ _ _ h _=>h [.bool false]) hs))) ht)) N6 NL NL NO
def Vi(o:cF)(k:List dI→Nat→Prop):Prop:=match o with|.map es cl=>k es cl|_=>False
def LX(D b:Nat)(hs:Hs D)(k:List dI→Nat→Prop):Prop:=hs λht _=>(acc SO D b).get (λso=>so C3 C4 (λob=>Vi ob k)) ht
def Ar(D:Nat)(a:AV)(hs:Hs D)(k:List dI→Prop):Prop:=match a with|.pr=>k []|.map b=>LX D b hs λes _=>k es|_=>False
def fE(l:List dI):(List dI→Prop)→Prop:=@List.rec dI (λ_=>(List dI→Prop)→Prop) (λk=>k []) (λe _ ih k=>ih λl=>k (e::l)) l
def vU(P:Program)(kt:TypeId)(key:AV)(es:List dI)(k:Option Nat→Prop):Prop:=match oo P kt key es with|some r=>k r|none=>False
def Vj(P:Program)(D:Nat)(kt:TypeId)(m key x:AV)(h:Hs D)(k:Hs D→Prop):Prop:=match m with
 |.map b=>LX D b h λes cl=>vU P kt key es λr=>fE (BC es cl key x r) λes'=>aB (CH cl r) λcl'=>Kd D b (.map es' cl') h k
 |_=>False
def SI(P:Program)(D:Nat)(kt:TypeId)(m key:AV)(h:Hs D)(k:Hs D→Prop):Prop:=match m with
 |.map b=>LX D b h λes cl=>vU P kt key es λr=>fE (K9 es r) λes'=>Kd D b (.map es' cl) h k
 |_=>False
variable (P:Program)(G D d:Nat)
def sy(x:Option Operand):anf d:=match x with|none=>⟨λn k _=>k n⟩|some x=>⟨λ_ k e=>(aV G d x).get (λv=>Dh v k) e⟩
def dd:OpC D d:=⟨λ_ _ _=>False⟩
def qu(b:Bool)(c:OpC D d):OpC D d:=@Bool.rec (λ_=>OpC D d) ⟨λ_ _ _=>False⟩ c b
def LY(t:TypeId)(x y:AV)(h:Hs D)(k:Bool→Prop):Prop:=match P.underlying t with
 |some (.pointer el)=>(match P.info? el with|some i=>bT (Nat.ble 1 i.size) (ptrEq D true (enc x) (enc y) h λv=>dec v λv=>cH v k)|none=>False)
 |_=>p9 P t x y mC k
def As(l1 l2:List AV)(h:Hs D):List Field→(Bool→Prop)→Prop
 |[],k=>k true
 |f::fs,k=>bT (f.name != "_") (jd l1 f.offset λx=>jd l2 f.offset λy=>LY P D f.type x y h λe=>As l1 l2 h fs λe2=>k (e&&e2))
def aew(op:BinOp)(t:TypeId)(x y:Operand)(ty:TypeId):OpC D d:=
 match P.underlying t with
 |some (.int q)=>⟨λk e h=>(aV G d x).get (λa=>(aV G d y).get (λb=>(aem (kn q) op).run a b λv=>k v h) e) e⟩
 |some .string=>⟨λk e h=>(aV G d x).get (λa=>(aV G d y).get (λb=>(SC op).run a b λv=>k v h) e) e⟩
 |some (.pointer el)=>(match P.info? el with
  |some i=>qu D d (Nat.ble 1 i.size) (match op with
   |.eql=>⟨λk e h=>(aV G d x).get (λa=>(aV G d y).get (λb=>ptrEq D true a b h λv=>k v h) e) e⟩
   |.neq=>⟨λk e h=>(aV G d x).get (λa=>(aV G d y).get (λb=>ptrEq D false a b h λv=>k v h) e) e⟩
   |_=>dd D d)
  |none=>dd D d)
 |some (.struct fs)=>qu D d (!(P.stoodInHeld t) && !(P.eqGuardType P.depth t)) (match op with
   |.eql=>⟨λk e h=>(aV G d x).get (λa=>(aV G d y).get (λb=>a False False N1 N1 N2 N2 N2 N6 (λl1=>b False False N1 N1 N2 N2 N2 N6 (λl2=>As P D l1 l2 h fs.toList λz=>k (enc (.bool z)) h) NL NO) NL NO) e) e⟩
   |.neq=>⟨λk e h=>(aV G d x).get (λa=>(aV G d y).get (λb=>a False False N1 N1 N2 N2 N2 N6 (λl1=>b False False N1 N1 N2 N2 N2 N6 (λl2=>As P D l1 l2 h fs.toList λz=>k (enc (.bool (!z))) h) NL NO) NL NO) e) e⟩
   |_=>dd D d)
 |some _=>⟨λk e h=>(aV G d x).get (λa=>(aV G d y).get (λb=>g2 (λa b k=>xg P op t x y a b mC k) a b λv=>k v h) e) e⟩
 |none=>dd D d
def aex(t:TypeId)(x:Operand)(ty:TypeId):OpC D d:=
 match P.underlying t with
 |some .string=>⟨λk e h=>(aV G d x).get (λa=>a False False N1 N1 N2 (λn _=>k (λ_ _ h _ _ _ _ _ _ _ _=>h n) h) N2 N6 NL NL NO) e⟩
 |some (.slice _)=>⟨λk e h=>(aV G d x).get (λa=>J9 a λn=>k (λ_ _ h _ _ _ _ _ _ _ _=>h n) h) e⟩
 |some (.array n _)=>⟨λk _ h=>k (λ_ _ h _ _ _ _ _ _ _ _=>h n) h⟩
 |some (.map _ _)=>⟨λk e h=>(aV G d x).get (λa=>dec a λa=>Ar D a h λes=>aB es.length λn=>k (λ_ _ h _ _ _ _ _ _ _ _=>h n) h) e⟩
 |_=>dd D d
def LZ(b:Builtin)(ty:TypeId)(ts:Array TypeId)(args:Array Operand):OpC D d:=
 match b,ts.toList,args.toList with
 |.len,t::_,[x]=>aex P G D d t x ty
 |.append,[t,u],[s,x]=>(match P.underlying t,P.underlying u with
  |some (.slice el),some (.slice _)=>(match P.info? el,zeroCells P el with
   |some i,some z=>qu D d (Nat.beq z.length i.size&&Nat.ble 1 i.bytes) ⟨λk e h=>(aV G d s).get (λa=>(aV G d x).get (λb=>aeh D i.size i.bytes a b h k) e) e⟩
   |_,_=>dd D d)
  |_,_=>dd D d)
 |.copy,[t,_],[x,s]=>(match P.underlying t with
  |some (.slice el)=>(match P.info? el with
   |some i=>qu D d (Nat.ble 1 i.size) ⟨λk e h=>(aV G d x).get (λa=>(aV G d s).get (λb=>Ka D i.size a b h λv h=>k v h) e) e⟩
   |none=>dd D d)
  |_=>dd D d)
 |.max,_,x::l=>⟨λk e h=>(aV G d x).get (λa=>dec a λa=>(kT G d l).run (λl=>q8 Cz l a λv=>k (kA v).v h) e) e⟩
 |.min,_,x::l=>⟨λk e h=>(aV G d x).get (λa=>dec a λa=>(kT G d l).run (λl=>q8 CA l a λv=>k (kA v).v h) e) e⟩
 |.delete,t::_,[m,x]=>(match P.underlying t with
  |some (.map kt _)=>qu D d (p8 P kt) ⟨λk e h=>(aV G d m).get (λm=>(aV G d x).get (λx=>dec m λm=>dec x λx=>SI P D kt m x h λh=>k (λ_ _ _ _ _ _ _ _ _ h _=>h []) h) e) e⟩
  |_=>dd D d)
 |_,_,_=>dd D d
def afG(t:TypeId)(x i:Operand)(ok:Bool):OpC D d:=
 match P.underlying t with
 |some (.map kt et)=>(match P.info? et with
  |some inf=>(match inf.zero with
   |some z=>qu D d (p8 P kt) ⟨λk e h=>(aV G d x).get (λm=>(aV G d i).get (λkey=>dec m λm=>dec key λkey=>Ar D m h λes=>vU P kt key es λr=>k (kA (CF ok (fj z) es r)).v h) e) e⟩
   |none=>dd D d)
  |none=>dd D d)
 |_=>dd D d
def Vk(t:TypeId)(m key x:Operand):OpC D d:=
 match P.underlying t with
 |some (.map kt _)=>qu D d (p8 P kt) ⟨λk e h=>(aV G d m).get (λm=>(aV G d key).get (λkey=>(aV G d x).get (λx=>dec m λm=>dec key λkey=>dec x λx=>Vj P D kt m key x h λh=>k (λ_ _ _ _ _ _ _ _ _ h _=>h []) h) e) e) e⟩
 |_=>dd D d
def L9(r:Option Operand):OpC D d:=
 match r with
 |none=>⟨λk _ h=>sNew D (λ_ _ O=>O (.map [] 0)) h λb h=>k (λ_ _ _ _ _ _ _ _ _ _ h=>h (.map b)) h⟩
 |some _=>dd D d
def Ma(t:TypeId)(x:Operand)(lo hi mx:Option Operand):OpC D d:=
 match P.underlying t with
 |some .string=>qu D d mx.isNone ⟨λk e h=>(aV G d x).get (λa=>a False False N1 N1 N2 (λn y=>(sy G d hi).run n (λh1=>(sy G d lo).run 0 (λl=>bT (Nat.ble l h1) (bT (Nat.ble h1 n) (aB (Nat.sub h1 l) λm=>aB (yz y l m) λz=>k (λ_ _ _ _ _ h _ _ _ _ _=>h m z) h))) e) e) N2 N6 NL NL NO) e⟩
 |some (.slice el)=>(match P.info? el with
  |some i=>qu D d (mx.isNone||hi.isSome) ⟨λk e h=>(aV G d x).get (λa=>a False False N1 N1 N2 N2 N2
    (λb o len cap sz' ex=>bT (Nat.beq i.size sz') ((sy G d mx).run cap (λm=>(sy G d hi).run len (λh1=>(sy G d lo).run 0 (λl=>
     bT (Nat.ble l h1) (bT (Nat.ble h1 m) (bT (Nat.ble m cap) (aB (Nat.add o (Nat.mul l i.size)) λo'=>aB (Nat.sub h1 l) λn=>aB (Nat.sub m l) λc=>bK (ex||mx.isSome) λex'=>k (λ_ _ _ _ _ _ _ h _ _ _=>h b o' n c i.size ex') h)))) e) e) e)) NL NL
    (λa=>xG a ((sy G d lo).run 0 (λl=>(sy G d hi).run 0 (λh1=>(sy G d mx).run 0 (λm=>bT (Nat.beq l 0) (bT (Nat.beq h1 0) (bT (Nat.beq m 0) (k (λ_ _ _ _ _ _ _ _ _ _ h=>h .ab) h)))) e) e) e))) e⟩
  |none=>dd D d)
 |some (.array n el)=>(match P.info? el with
  |some i=>qu D d (mx.isNone||hi.isSome) ⟨λk e h=>(aV G d x).get (λa=>a False False N1 N1 N2 N2
    (λb o=>(sy G d mx).run n (λm=>(sy G d hi).run n (λh1=>(sy G d lo).run 0 (λl=>
     bT (Nat.ble l h1) (bT (Nat.ble h1 m) (bT (Nat.ble m n) (aB (Nat.add o (Nat.mul l i.size)) λo'=>aB (Nat.sub h1 l) λn=>aB (Nat.sub m l) λc=>k (λ_ _ _ _ _ _ _ h _ _ _=>h b o' n c i.size true) h)))) e) e) e) N6 NL NL NO) e⟩
  |none=>dd D d)
 |_=>dd D d
def aey(t:TypeId)(x:Operand)(i:Nat):OpC D d:=
 match P.underlying t with
 |some (.struct fs)=>(match fs[i]? with
  |some fd=>(match P.info? fd.type with
   |some inf=>qu D d (Nat.ble 1 inf.size) (@Nat.rec (λ_=>OpC D d) ⟨λk e h=>(aV G d x).get (λa=>a False False N1 N1 N2 N2 (λb o=>k (λ_ _ _ _ _ _ h _ _ _ _=>h b o) h) N6 NL NL NO) e⟩
     (λn _=>⟨λk e h=>(aV G d x).get (λa=>a False False N1 N1 N2 N2 (λb o=>k (λ_ _ _ _ _ _ h _ _ _ _=>h b (Nat.add o (Nat.succ n))) h) N6 NL NL NO) e⟩) fd.offset)
   |none=>dd D d)
  |none=>dd D d)
 |_=>dd D d
def SJ(t:TypeId)(x i:Operand):OpC D d:=
 match P.underlying t with
 |some (.slice el)=>(match P.info? el with
  |some inf=>⟨λk e h=>(aV G d x).get (λa=>(aV G d i).get (λj=>a False False N1 N1 N2 N2 N2 (λb o len _ sz' _=>Dh j λj=>bT (Nat.ble (Nat.succ j) len) (bT (Nat.beq inf.size sz') (k (λ_ _ _ _ _ _ h _ _ _ _=>h b (Nat.add o (Nat.mul j inf.size))) h))) NL NL NO) e) e⟩
  |none=>dd D d)
 |some (.array n el)=>(match P.info? el with
  |some inf=>⟨λk e h=>(aV G d x).get (λa=>(aV G d i).get (λj=>a False False N1 N1 N2 N2 (λb o=>Dh j λj=>bT (Nat.ble (Nat.succ j) n) (k (λ_ _ _ _ _ _ h _ _ _ _=>h b (Nat.add o (Nat.mul j inf.size))) h)) N6 NL NL NO) e) e⟩
  |none=>dd D d)
 |_=>dd D d
def aez(t:TypeId)(x i:Operand)(ty:TypeId):OpC D d:=
 match P.underlying t with
 |some .string=>⟨λk e h=>(aV G d x).get (λa=>(aV G d i).get (λj=>SD a j λv=>k v h) e) e⟩
 |some _=>⟨λk e h=>(aV G d x).get (λa=>(aV G d i).get (λj=>g2 (λa b k=>te P t a b k) a j λv=>k v h) e) e⟩
 |none=>dd D d
def Mb(t:TypeId)(x:Operand)(i:Nat)(ty:TypeId):OpC D d:=
 match P.underlying t with
 |some (.struct fs)=>(match fs[i]? with
  |some fd=>(match P.underlying fd.type,P.info? fd.type with
   |some _,some inf=>@Bool.rec (λ_=>OpC D d)
     ⟨λk e h=>(aV G d x).get (λa=>a False False N1 N1 N2 N2 N2 N6 (λl=>jd l fd.offset λr=>k (kA r).v h) NL NO) e⟩
     ⟨λk e h=>(aV G d x).get (λa=>a False False N1 N1 N2 N2 N2 N6 (λl=>RZ inf.size fd.offset l λr=>k (λ_ _ _ _ _ _ _ _ h _ _=>h r) h) NL NO) e⟩ (jc P fd.type)
   |_,_=>dd D d)
  |none=>dd D d)
 |_=>dd D d
def SK(t:TypeId)(x:Operand)(ty:TypeId):OpC D d:=
 match P.underlying t,P.info? t with
 |some _,some i=>@Bool.rec (λ_=>OpC D d)
   ⟨λk e h=>(aV G d x).get (λa=>Sy D a h λv=>k v h) e⟩
   ⟨λk e h=>(aV G d x).get (λa=>LH D i.size a h λv=>k v h) e⟩ (jc P t)
 |_,_=>dd D d
def tC(t:TypeId)(x y:Operand):OpC D d:=
 match P.info? t with
 |some i=>@Bool.rec (λ_=>OpC D d)
   ⟨λk e h=>(aV G d x).get (λa=>(aV G d y).get (λb=>Ic D i.size a b h λh=>k (λ_ _ _ _ _ _ _ _ _ h _=>h []) h) e) e⟩
   ⟨λk e h=>(aV G d x).get (λa=>(aV G d y).get (λb=>Ib D a b h λh=>k (λ_ _ _ _ _ _ _ _ _ h _=>h []) h) e) e⟩ (Nat.beq i.size 1 && !(jc P t))
 |none=>dd D d
def Mc(t:TypeId):OpC D d:=
 match P.info? t with
 |some i=>(match i.zero with
  |some z=>(match fj z with
   |.bF _=>dd D d
   |.cU=>dd D d
   |a=>qu D d (a.cells.all AV.one) ⟨λk _ h=>SG D a.cells a.cells.length h λb h=>k (λ_ _ _ _ _ _ h _ _ _ _=>h b 0) h⟩)
  |none=>dd D d)
 |none=>dd D d
def Md(t:TypeId)(ps:List (Nat×Operand)):OpC D d:=
 match P.underlying t,zeroCells P t with
 |some (.struct fs),some z=>qu D d (xj P fs) (match oT (jM P fs) z.length ps with
  |some l=>@Bool.rec (λ_=>OpC D d) ⟨λk e h=>(kT G d (ps.map (·.2))).run (λvs=>gb (jM P fs) z.length ((ps.map (·.1)).zip vs) z λcs=>k (λ_ _ _ _ _ _ _ _ h _ _=>h cs) h) e⟩
    ⟨λk e h=>(Di G d (zf (z.map Sum.inl) l)).run (λcs=>k (λ_ _ _ _ _ _ _ _ h _ _=>h cs) h) e⟩ (nodupB (l.map (·.1)))
  |none=>⟨λk e h=>(kT G d (ps.map (·.2))).run (λvs=>gb (jM P fs) z.length ((ps.map (·.1)).zip vs) z λcs=>k (λ_ _ _ _ _ _ _ _ h _ _=>h cs) h) e⟩)
 |_,_=>dd D d
def aeA(t:TypeId)(len:Nat)(ps:List (Nat×Operand)):OpC D d:=
 match P.underlying t with
 |some (.slice el)=>(match P.info? el,zeroCells P el with
  |some i,some z=>qu D d (Nat.ble 1 i.size&&(Nat.beq z.length i.size&&Nat.ble (Nat.mul len i.size) 16777216)) (match oT (kL i.size (!(jc P el))) (gd len z).length ps with
   |some l=>@Bool.rec (λ_=>OpC D d) ⟨λk e h=>(kT G d (ps.map (·.2))).run (λvs=>gb (kL i.size (!(jc P el))) (Nat.mul len i.size) ((ps.map (·.1)).zip vs) (gd len z) λcs=>sN D cs h λb m h=>bT (Nat.beq m (Nat.mul len i.size)) (k (λ_ _ _ _ _ _ _ h _ _ _=>h b 0 len len i.size true) h)) e⟩
     ⟨λk e h=>(Di G d (zf ((gd len z).map Sum.inl) l)).run (λcs=>sN D cs h λb _ h=>k (λ_ _ _ _ _ _ _ h _ _ _=>h b 0 len len i.size true) h) e⟩ (nodupB (l.map (·.1)))
   |none=>⟨λk e h=>(kT G d (ps.map (·.2))).run (λvs=>gb (kL i.size (!(jc P el))) (Nat.mul len i.size) ((ps.map (·.1)).zip vs) (gd len z) λcs=>sN D cs h λb m h=>bT (Nat.beq m (Nat.mul len i.size)) (k (λ_ _ _ _ _ _ _ h _ _ _=>h b 0 len len i.size true) h)) e⟩)
  |_,_=>dd D d)
 |_=>dd D d
def aeB(t:TypeId)(x y:Operand):OpC D d:=
 match P.underlying t with
 |some (.slice el)=>(match P.info? el,zeroCells P el with
  |some i,some z=>qu D d (Nat.ble 1 i.size&&(Nat.beq z.length i.size&&z.all AV.one)) ⟨λk e h=>(aV G d x).get (λa=>(aV G d y).get (λb=>Dh a λn=>Dh b λm=>
    bT (Nat.ble n m) (bT (Nat.ble (Nat.mul m i.bytes) 1099511627776) (bT (Nat.ble m 1099511627776) (aB (Nat.mul m i.size) λq=>SG D z q h λb h=>k (λ_ _ _ _ _ _ _ h _ _ _=>h b 0 n m i.size true) h)))) e) e⟩
  |_,_=>dd D d)
 |_=>dd D d
def SL(s t:TypeId)(x:Operand)(ty:TypeId):OpC D d:=
 match P.underlying s,P.underlying t with
 |some (.int _),some (.int q)=>⟨λk e h=>(aV G d x).get (λa=>(cvC (kn q)).run a λv=>k v h) e⟩
 |some .string,some .string=>⟨λk e h=>(aV G d x).get (λa=>a False False N1 N1 N2 (λ_ _=>k a h) N2 N6 NL NL NO) e⟩
 |some (.slice el),some .string=>(match P.underlying el with
  |some (.int .u8)=>⟨λk e h=>(aV G d x).get (λa=>Ra D a h λv=>k v h) e⟩
  |_=>dd D d)
 |_,_=>dd D d
def unC(op:UnOp)(t:TypeId)(x:Operand)(ty:TypeId):OpC D d:=
 match op with
 |.not=>⟨λk e h=>(aV G d x).get (λa=>a (k (λ_ h _ _ _ _ _ _ _ _ _=>h) h) (k (λh _ _ _ _ _ _ _ _ _ _=>h) h) N1 N1 N2 N2 N2 N6 NL NL NO) e⟩
 |op=>⟨λk e h=>(aV G d x).get (λa=>g1 (QI P op t) a λv=>k v h) e⟩
def opC(o:Oper):OpC D d:=
 match o.op with
 |.move x=>⟨λk e h=>(aV G d x).get (λv=>k v h) e⟩
 |.assign x=>⟨λk e h=>(aV G d x).get (λv=>k v h) e⟩
 |.pick c a b=>⟨λk e h=>(aV G d c).get (λv=>v ((aV G d a).get (λv=>k v h) e) ((aV G d b).get (λv=>k v h) e) N1 N1 N2 N2 N2 N6 NL NL NO) e⟩
 |.alloc t=>Mc P D d t
 |.box _ x=>⟨λk e h=>(aV G d x).get (λv=>aje D v h k) e⟩
 |.build t ps=>Md P G D d t ps.toList
 |.buildSlice t n ps=>aeA P G D d t n ps.toList
 |.load t a=>SK P G D d t a o.type
 |.store t a x=>tC P G D d t a x
 |.nilCheck x=>⟨λk e h=>(aV G d x).get (λv=>v False False N1 N1 N2 N2 (λ_ _=>k v h) N6 NL NL (λa=>aI a (k v h))) e⟩
 |.binOp op t x y _=>aew P G D d op t x y o.type
 |.unOp op t x=>unC P G D d op t x o.type
 |.convert s t x=>SL P G D d s t x o.type
 |.makeInterface t x=>qu D d (tg P t) ⟨λk e h=>(aV G d x).get (λv=>dec v λa=>k (λ_ _ _ _ _ _ _ _ _ _ h=>h (.iface t a)) h) e⟩
 |.makeFunc fn a b=>(match fn with|.func g=>⟨λk e h=>(kT G d a.toList).run (λl=>(kT G d b.toList).run (λm=>k (λ_ _ _ _ _ _ _ _ _ _ h=>h (.func g l m)) h) e) e⟩|_=>dd D d)
 |.makeSlice t l c=>aeB P G D d t l c
 |.slice t x lo hi mx=>Ma P G D d t x lo hi mx
 |.fieldAddr t x i=>aey P G D d t x i
 |.field t x i=>Mb P G D d t x i o.type
 |.indexAddr t x i=>SJ P G D d t x i
 |.index t x i=>aez P G D d t x i o.type
 |.extract x i=>⟨λk e h=>(aV G d x).get (λv=>v False False N1 N1 N2 N2 N2 N6 NL (λl=>jd l i λr=>k (kA r).v h) NO) e⟩
 |.range t x=>(match P.underlying t with|some .string=>⟨λk e h=>(aV G d x).get (λv=>v False False N1 N1 N2 (λn y=>sNew D (λ_ _ O=>O (.iter n y 0)) h λb h=>k (λ_ _ _ _ _ _ h _ _ _ _=>h b 0) h) N2 N6 NL NL NO) e⟩|_=>dd D d)
 |.next it s=>qu D d s ⟨λk e h=>(aV G d it).get (λv=>afF D v h k) e⟩
 |.typeAssert x _ u ok=>⟨λk e h=>(aV G d x).get (λa=>g1 (HM P u ok) a λv=>k v h) e⟩
 |.makeMap _ r=>L9 D d r
 |.lookup t x i ok=>afG P G D d t x i ok
 |.mapUpdate t m key x=>Vk P G D d t m key x
 |.call c=>(match c.callee with|.builtin b=>LZ P G D d b o.type c.argTypes c.args|_=>dd D d)
 |_=>dd D d
end
section
variable {P:Program}{G D d N:Nat}{e:cS d}{env:List AV}{hs:Hs D}{H:AH}
theorem hO{b:Bool}{c:OpC D d}{k:V→Hs D→Prop}(h:(qu D d b c).run k e hs):b=true∧c.run k e hs:=by cases b;exact(show False from h).elim;exact⟨rfl,h⟩
theorem j1(he:dU N d e env){x:Option Operand}{n:Nat}{k:Nat→Prop}(h:(sy G d x).run n k e):ij (x.map (bu G env)) n k:=by
 cases x with
 |none=>exact h
 |some x=>
  obtain⟨c,m,e1,h⟩:=pS (al he h);show mZ (bu G env x) λ_ n=>k n;rw[e1];exact h
theorem iq{x:Option AV}{n:Nat}{k k':Nat→Prop}(hk:∀n,k n→k' n)(h:ij x n k):ij x n k':=by
 cases x with
 |none=>exact hk _ h
 |some a=>obtain⟨c,m,e,h⟩:=gS h;subst e;exact hk _ h
theorem Ig{a:AV}{A:List AV→Prop}(h:enc a False False N1 N1 N2 N2 N2 N6 A NL NO):∃l,a=.agg l∧A l:=by
 have g:=dk h;rcases g with⟨_,g⟩|⟨_,g⟩|⟨n,_,g⟩|⟨n,_,g⟩|⟨c,n,_,_,g⟩|⟨n,x,_,g⟩|⟨b,o,_,g⟩|⟨b,o,l,c,s,x,_,g⟩|⟨l,e,g⟩|⟨l,_,g⟩|⟨_,g⟩<;>first|exact g.elim|exact⟨_,e,g⟩
theorem Jr{r:Bool}{a b:AV}{k k':AV→Prop}(hk:∀v,k v→k' v)(h:qH r a b H k):qH r a b H k':=by
 unfold qH at h ⊢;cases a<;>try exact h.elim
 all_goals cases b<;>try exact h.elim
 ·exact hk _ h
 ·exact hk _ h
 ·exact hk _ h
 ·exact lh (λg=>lh (hk _) (hk _) g) (λg=>kS (λ_ _ m g=>bM (λg=>kS (λ_ _ m g=>bM (hk _) g) g) g) g) h
theorem zj{k k':AV→Prop}(hk:∀v,k v→k' v):∀{l:List AV}{n:Nat},jd l n k→jd l n k'
 |[],_,h=>h.elim
 |a::l,0,h=>hk _ h
 |a::l,n+1,h=>zj hk (l:=l) (n:=n) h
theorem SM{t:TypeId}{x y:AV}{k k':Bool→Prop}(hk:∀e,k e→k' e)(h:p9 P t x y H k):p9 P t x y H k':=by
 unfold p9 at h ⊢;split at h
 ·obtain⟨c,a,rfl,h1⟩:=eH h;obtain⟨c',b,rfl,h2⟩:=eH h1;exact bM (λh=>bM (λh=>hk _ h) h) h2
 ·obtain⟨n,a,rfl,h1⟩:=fk h;obtain⟨m,b,rfl,h2⟩:=fk h1;exact hk _ h2
 ·obtain⟨a,rfl,h1⟩:=ti h;obtain⟨b,rfl,h2⟩:=ti h1;exact hk _ h2
 ·split at h
  ·refine bM (λh=>Jr (λv h=>?_) h) h;obtain⟨b,rfl,h⟩:=ti h;exact hk _ h
  ·exact h.elim
 ·exact h.elim
theorem SN(hr:aY hs H){t:TypeId}{x y:AV}{k:Bool→Prop}(h:LY P D t x y hs k):p9 P t x y H k:=by
 unfold LY at h;split at h
 ·rename_i el ht;unfold p9;rw[ht];simp only;split at h
  ·rename_i i hi;rw[hi];exact bM (λh=>Jr (λv h=>eJ h) (ze hr h)) h
  ·exact h.elim
 ·rename_i hne;unfold p9 at h ⊢;split at h<;>first|exact h|exact absurd (by assumption) (hne _)|exact h.elim
theorem zl(hr:aY hs H){l1 l2:List AV}:∀{fs:List Field}{k:Bool→Prop},As P D l1 l2 hs fs k→Sf P l1 l2 H fs k
 |[],_,h=>h
 |f::fs,k,h=>by
  obtain⟨h0,h⟩:=an h;refine dv h0 ?_;exact zj (λx h=>zj (λy h=>SM (λe h=>zl hr h) (SN hr h)) h) h
theorem aeC(he:dU N d e env)(hr:aY hs H){op:BinOp}{t ty:TypeId}{x y:Operand}{k:V→Hs D→Prop}(h:(aew P G D d op t x y ty).run k e hs) :
  sJ P op t x y (bu G env x) (bu G env y) H λv=>k (enc v) hs:=by
 unfold aew at h;split at h
 ·rename_i q hq;have h:=aep (al he (k:=λb=>(aem (kn q) op).run (enc (bu G env x)) b _) (al he h));unfold sJ xg;rw[hq];exact h
 ·rename_i hq;have h:=aeq (al he (k:=λb=>(SC op).run (enc (bu G env x)) b _) (al he h));unfold sJ xg;rw[hq];exact h
 ·rename_i el hq;split at h
  ·rename_i i hi;obtain⟨h1,h⟩:=hO h;unfold sJ xg;rw[hq];simp only;rw[hi];refine dv h1 ?_;split at h
   ·exact ze hr (al he (k:=λb=>ptrEq D true (enc (bu G env x)) b hs _) (al he h))
   ·exact ze hr (al he (k:=λb=>ptrEq D false (enc (bu G env x)) b hs _) (al he h))
   ·exact(show False from h).elim
  ·exact(show False from h).elim
 ·rename_i fs hq;obtain⟨h0,h⟩:=hO h;unfold sJ;rw[hq];simp only;refine dv h0 ?_;split at h
  ·obtain⟨l1,e1,h⟩:=Ig (al he (k:=λb=>(enc (bu G env x)) False False N1 N1 N2 N2 N2 N6 (λl1=>b False False N1 N1 N2 N2 N2 N6 (λl2=>As P D l1 l2 hs fs.toList λz=>k (enc (.bool z)) hs) NL NO) NL NO) (al he h));obtain⟨l2,e2,h⟩:=Ig h;rw[e1,e2];exact zl hr h
  ·obtain⟨l1,e1,h⟩:=Ig (al he (k:=λb=>(enc (bu G env x)) False False N1 N1 N2 N2 N2 N6 (λl1=>b False False N1 N1 N2 N2 N2 N6 (λl2=>As P D l1 l2 hs fs.toList λz=>k (enc (.bool (!z))) hs) NL NO) NL NO) (al he h));obtain⟨l2,e2,h⟩:=Ig h;rw[e1,e2];exact zl hr h
  ·exact(show False from h).elim
 ·rename_i du h1 h2 h3 h4 hq;have h:=dF (al he (k:=λb=>g2 (λa b k=>xg P op t x y a b mC k) (enc (bu G env x)) b _) (al he h));unfold sJ;unfold xg at h ⊢;rw[hq]at h ⊢;cases du<;>first|exact h|exact absurd rfl (h3 _)|exact absurd rfl (h2 _)|exact absurd rfl (h4 _)
 ·exact(show False from h).elim
theorem SP(he:dU N d e env){t:TypeId}{x:Operand}{lo hi mx:Option Operand}{k:V→Hs D→Prop}(h:(Ma P G D d t x lo hi mx).run k e hs) :
  yD P t (bu G env x) (lo.map (bu G env)) (hi.map (bu G env)) (mx.map (bu G env)) λv=>k (enc v) hs:=by
 unfold Ma at h;unfold yD;split at h
 ·rename_i hq;rw[hq];obtain⟨h1,h⟩:=hO h;refine dv (by simpa using h1) ?_;obtain⟨n,y,e1,h⟩:=encS (al he h);rw[e1];show ij (Option.map (bu G env) hi) n (λh1=>ij (Option.map (bu G env) lo) 0 λl=>adJ (.str n y) l h1 λv=>k (enc v) hs);refine iq (λh1 h=>iq (λl h=>?_) (j1 he h)) (j1 he h);show bT (Nat.ble l h1) (bT (Nat.ble h1 n) (aB (Nat.sub h1 l) λm=>aB (yz y l m) λz=>k (enc (.str m z)) hs));refine bM (λh=>bM (λh=>?_) h) h;rw[ae,ae]at h;rw[ae,ae];exact h
 ·rename_i el hq;rw[hq];simp only;split at h
  ·rename_i i hi';rw[hi'];obtain⟨h1,h⟩:=hO h;refine dv (by simpa using h1) ?_;rcases uD (al he h)with⟨b,o,len,cap,sz',ex,e1,h⟩|⟨e1,h⟩
   ·rw[e1];refine bM (λh=>iq (λm h=>iq (λh1 h=>iq (λl h=>?_) (j1 he h)) (j1 he h)) (j1 he h)) h;refine bM (λh=>bM (λh=>bM (λh=>?_) h) h) h;rw[ae,ae,ae,al7]at h;rw[ae,ae,ae,Option.isSome_map];exact h
   ·rw[e1];exact iq (λl h=>iq (λh1 h=>iq (λm h=>h) (j1 he h)) (j1 he h)) (j1 he h)
  ·exact(show False from h).elim
 ·rename_i n el hq;rw[hq];simp only;split at h
  ·rename_i i hi';rw[hi'];obtain⟨h1,h⟩:=hO h;refine dv (by simpa using h1) ?_;obtain⟨b,o,e1,h⟩:=xE (al he h);rw[e1];show ij (Option.map (bu G env) mx) n (λm=>ij (Option.map (bu G env) hi) n λh=>ij (Option.map (bu G env) lo) 0 λl=>
    bT (Nat.ble l h) (bT (Nat.ble h m) (bT (Nat.ble m n) (aB (Nat.add o (Nat.mul l i.size)) λo'=>aB (Nat.sub h l) λn=>aB (Nat.sub m l) λc=>k (enc (.slice b o' n c i.size true)) hs))))
   refine iq (λm h=>iq (λh1 h=>iq (λl h=>?_) (j1 he h)) (j1 he h)) (j1 he h);refine bM (λh=>bM (λh=>bM (λh=>?_) h) h) h;rw[ae,ae,ae]at h;rw[ae,ae,ae];exact h
  ·exact(show False from h).elim
 ·exact(show False from h).elim
theorem aeD(he:dU N d e env){t:TypeId}{x:Operand}{i:Nat}{k:V→Hs D→Prop}(h:(aey P G D d t x i).run k e hs):KX P t (bu G env x) i λv=>k (enc v) hs:=by
 unfold aey at h;unfold KX;split at h
 ·rename_i fs hq;rw[hq];simp only;split at h
  ·rename_i fd hf;rw[hf];simp only;split at h
   ·rename_i inf hi;rw[hi];obtain⟨h1,h⟩:=hO h;refine dv h1 ?_;generalize fd.offset=off at h ⊢;cases off with
    |zero=>
     obtain⟨b,o,e1,h⟩:=xE (al he h);rw[e1];show aB (Nat.add o 0) (λo'=>k (enc (.ptr b o')) hs);rw[ae];exact h
    |succ n=>
     obtain⟨b,o,e1,h⟩:=xE (al he h);rw[e1];show aB (Nat.add o (Nat.succ n)) (λo'=>k (enc (.ptr b o')) hs);rw[ae];exact h
   ·exact(show False from h).elim
  ·exact(show False from h).elim
 ·exact(show False from h).elim
theorem Vl(he:dU N d e env){t:TypeId}{x i:Operand}{k:V→Hs D→Prop}(h:(SJ P G D d t x i).run k e hs):td P t (bu G env x) (bu G env i) λv=>k (enc v) hs:=by
 unfold SJ at h;unfold td;split at h
 ·rename_i el hq;rw[hq];simp only;split at h
  ·rename_i inf hi;rw[hi];have h:=al he (al he h);have g:=dk h;rcases g with⟨_,g⟩|⟨_,g⟩|⟨n,_,g⟩|⟨n,_,g⟩|⟨c,n,_,_,g⟩|⟨n,x,_,g⟩|⟨b,o,_,g⟩|⟨b,o,l,c,s,x,e1,g⟩|⟨l,_,g⟩|⟨l,_,g⟩|⟨_,g⟩<;>try exact g.elim
   obtain⟨c,j,e2,g⟩:=pS g;rw[e1,e2];refine bM (λh=>bM (λh=>?_) h) g;rw[ae];exact h
  ·exact(show False from h).elim
 ·rename_i n el hq;rw[hq];simp only;split at h
  ·rename_i inf hi;rw[hi];obtain⟨b,o,e1,h⟩:=xE (al he (al he h));obtain⟨c,j,e2,h⟩:=pS h;rw[e1,e2];refine bM (λh=>?_) h;rw[ae];exact h
  ·exact(show False from h).elim
 ·exact(show False from h).elim
theorem aeE(he:dU N d e env){t ty:TypeId}{x i:Operand}{k:V→Hs D→Prop}(h:(aez P G D d t x i ty).run k e hs):te P t (bu G env x) (bu G env i) λv=>k (enc v) hs:=by
 unfold aez at h;split at h
 ·rename_i hq;unfold te;rw[hq];exact Vh (al he (k:=λb=>SD (enc (bu G env x)) b _) (al he h))
 ·exact dF (al he (k:=λb=>g2 (λa b k=>te P t a b k) (enc (bu G env x)) b _) (al he h))
 ·exact(show False from h).elim
theorem ang{a:AV}{A:List AV→Prop}(h:enc a False False N1 N1 N2 N2 N2 N6 NL A NO):∃l,a=.bF l∧A l:=by
 have g:=dk h;rcases g with⟨_,g⟩|⟨_,g⟩|⟨n,_,g⟩|⟨n,_,g⟩|⟨c,n,_,_,g⟩|⟨n,x,_,g⟩|⟨b,o,_,g⟩|⟨b,o,l,c,s,x,_,g⟩|⟨l,_,g⟩|⟨l,e,g⟩|⟨_,g⟩<;>first|exact g.elim|exact⟨_,e,g⟩
theorem SQ(he:dU N d e env){t ty:TypeId}{x:Operand}{i:Nat}{k:V→Hs D→Prop}(h:(Mb P G D d t x i ty).run k e hs):yC P t (bu G env x) i λv=>k (enc v) hs:=by
 unfold Mb at h;unfold yC;split at h
 ·rename_i fs hq;rw[hq];simp only;split at h
  ·rename_i fd hf;rw[hf];simp only;split at h
   ·rename_i du inf hu hi;unfold Cu;rw[hu,hi];simp only;cases ha:jc P fd.type with
    |true=>
     rw[ha]at h;obtain⟨l,e1,h⟩:=Ig (al he h);rw[e1];exact h
    |false=>
     rw[ha]at h;obtain⟨l,e1,h⟩:=Ig (al he h);rw[e1];exact h
   ·exact(show False from h).elim
  ·exact(show False from h).elim
 ·exact(show False from h).elim
theorem Vm(he:dU N d e env)(hr:aY hs H){t ty:TypeId}{x:Operand}{k:V→Hs D→Prop}(h:(SK P G D d t x ty).run k e hs):oi P t (bu G env x) H λv=>k (enc v) hs:=by
 unfold SK at h;unfold oi;split at h
 ·rename_i du i hu hi;rw[hu,hi];simp only;cases ha:jc P t with
  |true=>rw[ha]at h;exact De hr (al he h)
  |false=>rw[ha]at h;exact Jj hr (al he h)
 ·exact(show False from h).elim
theorem qd(he:dU N d e env)(hr:aY hs H){t:TypeId}{x y:Operand}{k:V→Hs D→Prop}(h:(tC P G D d t x y).run k e hs):oM P t (bu G env x) (bu G env y) H λH'=>∃hs',aY hs' H'∧k (enc bN) hs':=by
 unfold tC at h;unfold oM;split at h
 ·rename_i i hi;rw[hi];simp only;cases hb:(Nat.beq i.size 1 && !(jc P t))with
  |true=>
   rw[hb]at h;rw[Bool.and_eq_true]at hb;rw[Nat.eq_of_beq_eq_true hb.1];exact Qo hr (al he (k:=λb=>Ib D (enc (bu G env x)) b hs _) (al he h))
  |false=>
   rw[hb]at h;exact Qn hr (al he (k:=λb=>Ic D i.size (enc (bu G env x)) b hs _) (al he h))
 ·exact(show False from h).elim
theorem Dk(hr:aY hs H){t:TypeId}{k:V→Hs D→Prop}(h:(Mc P D d t).run k e hs):fl P (ay H) t λv H'=>∃hs',aY hs' H'∧k (enc v) hs':=by
 unfold Mc at h;unfold fl;split at h
 ·rename_i i hi;rw[hi];simp only;split at h
  ·rename_i z hz;rw[hz];simp only;split at h
   ·exact(show False from h).elim
   ·exact(show False from h).elim
   ·rename_i h1 h2;obtain⟨h3,h⟩:=hO h;have h4:∀a∈(fj z).cells,a.one=true:=by simpa using h3
    have g:=Jq hr h4 (n:=1) (by rw[Nat.one_mul]) h;have hv:∀{k:List AV→Prop},k (fj z).cells→onVal (fj z) k:=λ{k} hk=>by
     generalize fj z=a at hk h1 h2;cases a<;>first|exact hk|exact absurd rfl (h1 _)|exact absurd rfl h2
    refine hv ?_;have e1:gd 1 (fj z).cells=(fj z).cells:=by simp[gd]
    rw[e1]at g;refine fx (λc q g=>oz (λb H' g=>?_) g) g;exact g.2
  ·exact(show False from h).elim
 ·exact(show False from h).elim
theorem zip_map(ps:List (Nat×Operand))(ρ:Operand→AV):(ps.map (·.1)).zip ((ps.map (·.2)).map ρ)=ps.map λx=>(x.1,ρ x.2):=by
 induction ps with
 |nil=>rfl
 |cons p r ih=>simp only[List.map_cons,List.zip_cons_cons,ih]
theorem SR(he:dU N d e env){t:TypeId}{ps:List (Nat×Operand)}{k:V→Hs D→Prop}(h:(Md P G D d t ps).run k e hs) :
  ∃fs,P.underlying t=some (.struct fs)∧xj P fs=true∧yB P t (ps.map λx=>(x.1,bu G env x.2)) λv=>k (enc v) hs:=by
 unfold Md at h;split at h
 ·rename_i fs z hu hz;obtain⟨h1,h⟩:=hO h;refine⟨fs,hu,h1,?_⟩;unfold yB;rw[hu,hz];simp only;have slow:(kT G d (ps.map (·.2))).run (λvs=>gb (jM P fs) z.length ((ps.map (·.1)).zip vs) z λcs=>k (λ_ _ _ _ _ _ _ _ h _ _=>h cs) hs) e→gb (jM P fs) z.length (ps.map λx=>(x.1,bu G env x.2)) z λcs=>k (enc (.agg cs)) hs:=λh=>by
   have h:=kU he _ h;rw[zip_map]at h;exact h
  split at h
  ·rename_i l hl;cases hb:nodupB (l.map (·.1))with
   |true=>rw[hb]at h;exact Dj he hl hb h
   |false=>rw[hb]at h;exact slow h
  ·exact slow h
 ·exact(show False from h).elim
theorem Me(he:dU N d e env)(hr:aY hs H){t:TypeId}{len:Nat}{ps:List (Nat×Operand)}{k:V→Hs D→Prop}(h:(aeA P G D d t len ps).run k e hs) :
  vB P (ay H) t len (ps.map λx=>(x.1,bu G env x.2)) λv H'=>∃hs',aY hs' H'∧k (enc v) hs':=by
 unfold aeA at h;unfold vB;split at h
 ·rename_i el hu;rw[hu];simp only;split at h
  ·rename_i i z hi hz;rw[hi,hz];simp only;obtain⟨h1,h⟩:=hO h;rw[Bool.and_eq_true,Bool.and_eq_true]at h1;refine dv h1.1 (dv h1.2.1 (dv h1.2.2 ?_));have hlen:(gd len z).length=Nat.mul len i.size:=by rw[mO,Nat.eq_of_beq_eq_true h1.2.1];rfl
   have slow:(kT G d (ps.map (·.2))).run (λvs=>gb (kL i.size (!(jc P el))) (Nat.mul len i.size) ((ps.map (·.1)).zip vs) (gd len z) λcs=>sN D cs hs λb m h=>bT (Nat.beq m (Nat.mul len i.size)) (k (λ_ _ _ _ _ _ _ h _ _ _=>h b 0 len len i.size true) h)) e→
     gb (kL i.size (!(jc P el))) (Nat.mul len i.size) (ps.map λx=>(x.1,bu G env x.2)) (gd len z) λcs=>sN D cs hs λb m h=>bT (Nat.beq m (Nat.mul len i.size)) (k (λ_ _ _ _ _ _ _ h _ _ _=>h b 0 len len i.size true) h):=λh=>by
    have h:=kU he _ h;rw[zip_map]at h;exact h
   have fin:∀cs:List AV,(sN D cs hs λb m h=>bT (Nat.beq m (Nat.mul len i.size)) (k (λ_ _ _ _ _ _ _ h _ _ _=>h b 0 len len i.size true) h))→aX (ay H) len i.size cs λv H'=>∃hs',aY hs' H'∧k (enc v) hs':=λcs h=>by
    obtain⟨d',t',c',y1,y2,y3,_⟩:=iY cs iQ.e h;refine y1 _ ?_;obtain⟨hs',H',z1,z2,_,_,_,z3⟩:=jY hr (o:=.cells c' (0+cs.length) 0) ⟨d',t',rfl,y2⟩ y3;obtain⟨h5,z3⟩:=an z3;exact dv h5 (z1 _ ⟨hs',z2,z3⟩)
   have afH:=λh=>Qq fin (slow h);split at h
   ·rename_i l hl;cases hb:nodupB (l.map (·.1))with
    |true=>
     rw[hb]at h;have g:=Dj he hl hb h;rw[hlen]at g;refine qe (λcs hcs g=>?_) g rfl;obtain⟨d',t',c',y1,y2,y3,y4⟩:=iY cs iQ.e g;refine y1 _ (dv ?_ ?_)
     ·rw[hcs,hlen,Nat.zero_add];exact Nat.beq_refl _
     ·obtain⟨hs',H',z1,z2,_,_,_,z3⟩:=jY hr (o:=.cells c' (0+cs.length) 0) ⟨d',t',rfl,y2⟩ y3;exact z1 _ ⟨hs',z2,z3⟩
    |false=>rw[hb]at h;exact afH h
   ·exact afH h
  ·exact(show False from h).elim
 ·exact(show False from h).elim
 where
 qe {place:Nat→Option (Nat×Nat×Bool)}{n m:Nat}{k k':List AV→Prop}:∀{ps:List (Nat×AV)}{cs:List AV},(∀l,l.length=m→k l→k' l)→gb place n ps cs k→cs.length=m→gb place n ps cs k'
  |[],cs,hk,h,hl=>hk _ hl h
  |(i,v)::r,cs,hk,h,hl=>by
   unfold gb at h ⊢;split at h
   ·rename_i o sz sc hp;refine bM (λh=>lh (λh=>bM (λh=>bM (λh=>qe hk h (by simpa using hl)) h) h) (λh=>?_) h) h;obtain⟨h,h1,h2⟩:=pJ h;obtain⟨h3,h⟩:=Bx _ _ _ h;have hv:∀{k:List AV→Prop},k v.cells→onVal v k:=λ{k} hk=>by
     cases v<;>first|exact hk|exact absurd rfl (h2 _)|exact absurd rfl h1
    refine hv ?_;refine Rc _ _ _ h3 (qe hk h (by rw[xh];exact hl))
   ·exact h.elim
 Rc:∀(l:List AV) (n:Nat) (x:Prop),l.length=n→x→gv l n x
  |[],0,x,_,h=>h
  |[],n+1,x,e,h=>by simp at e
  |a::l,0,x,e,h=>by simp at e
  |a::l,n+1,x,e,h=>Rc l n x (by simpa using e) h
 Qq {place:Nat→Option (Nat×Nat×Bool)}{n:Nat}{k k':List AV→Prop}{ps:List (Nat×AV)}{cs:List AV}(hk:∀l,k l→k' l) (h:gb place n ps cs k):gb place n ps cs k':=qe (m:=cs.length) (λl _ h=>hk l h) h rfl
end
section
variable {P:Program}{D d N:Nat}{e:cS d}{env:List AV}{hs:Hs D}{H:AH}
theorem Mf(he:dU N d e env)(hr:aY hs H){G:Nat}{t:TypeId}{x y:Operand}{k:V→Hs D→Prop}(h:(aeB P G D d t x y).run k e hs):yG P (ay H) t (bu G env x) (bu G env y) λv H'=>∃hs',aY hs' H'∧k (enc v) hs':=by
 unfold aeB at h;unfold yG;split at h
 ·rename_i el hu;rw[hu];simp only;split at h
  ·rename_i i z hi hz;rw[hi,hz];simp only;obtain⟨h1,h⟩:=hO h;rw[Bool.and_eq_true,Bool.and_eq_true]at h1;refine dv h1.1 (dv h1.2.1 ?_);obtain⟨c1,n,e1,h⟩:=pS (al he (al he h));obtain⟨c2,m,e2,h⟩:=pS h;rw[e1,e2];show bT (Nat.ble n m) (bT (Nat.ble (Nat.mul m i.bytes) 1099511627776) (bT (Nat.ble m 1099511627776)
    (dj (gd m z) .e 0 λt q=>bT (Nat.beq q (Nat.mul m i.size)) (ay H (.cells t q 0) λb H'=>∃hs',aY hs' H'∧k (enc (.slice b 0 n m i.size true)) hs'))))
   refine bM (λh=>bM (λh=>bM (λh=>?_) h) h) h;rw[ae]at h;have hz1:∀a∈z,a.one=true:=by simpa using h1.2.2
   have hsz:=Nat.eq_of_beq_eq_true h1.2.1;have g:=Jq hr hz1 (n:=m) (by rw[hsz];rfl) h;refine fx (λc q g=>?_) g;obtain⟨H',y1,y2,y3,y4⟩:=jy g;obtain⟨hq,hs',z1,z2⟩:=y1;refine dv (by rw[hq];exact Nat.beq_refl _) ?_;exact oz (λb H' g=>g.2) g
  ·exact(show False from h).elim
 ·exact(show False from h).elim
theorem Vn(he:dU N d e env)(hr:aY hs H){G:Nat}{s t ty:TypeId}{x:Operand}{k:V→Hs D→Prop}(h:(SL P G D d s t x ty).run k e hs) :
  Cx P s t (bu G env x) H λv H'=>H'=H∧k (enc v) hs:=by
 unfold SL at h;unfold Cx;split at h
 ·rename_i q0 q hs' ht';rw[hs',ht'];have h:=ahb (al he h);exact SS (λv h=>⟨rfl,h⟩) h
 ·rename_i hs' ht';rw[hs',ht'];have g:=al he h;obtain⟨n,y,e1,g⟩:=encS g;rw[e1]at g ⊢;exact⟨rfl,g⟩
 ·rename_i el hs' ht';rw[hs',ht'];simp only;split at h
  ·rename_i hel;rw[hel];have h:=Qp hr (al he h);rcases jS h with⟨e1,h⟩|⟨b,o,l,c,s,x,e1,h⟩
   ·rw[e1];exact⟨trivial,h⟩
   ·rw[e1];refine bM (λh=>kS (λc _ _ h=>ry.oy (λl h=>?_) h) h) h;exact Js (λn x h=>⟨trivial,h⟩) h
  ·exact(show False from h).elim
 ·exact(show False from h).elim
 where
 SS {c:Nat}{a:AV}{k k':AV→Prop}(hk:∀v,k v→k' v) (h:jI c a k):jI c a k':=by
  cases a<;>first|exact(show False from h).elim|exact bM (hk _) h|exact xH (hk _ (iE h))
 Js:∀{l:List AV}{k k':Nat→Nat→Prop},(∀n x,k n x→k' n x)→ve l k→ve l k'
  |[],_,_,hk,h=>hk _ _ h
  |a::l,k,k',hk,h=>by
   unfold ve at h ⊢;obtain⟨c,b,rfl,h⟩:=gS h;refine bM (λh=>bM (λh=>Js (λn x h=>?_) h) h) h;rw[ae,ae]at h ⊢;exact hk _ _ h
theorem ahc(he:dU N d e env){G:Nat}{op:UnOp}{t ty:TypeId}{x:Operand}{k:V→Hs D→Prop}(h:(unC P G D d op t x ty).run k e hs):QI P op t (bu G env x) λv=>k (enc v) hs:=by
 unfold unC at h;split at h
 ·have g:=dk (al he h);unfold QI;rcases g with⟨e1,g⟩|⟨e1,g⟩|⟨n,_,g⟩|⟨n,_,g⟩|⟨c,n,_,_,g⟩|⟨n,x,_,g⟩|⟨b,o,_,g⟩|⟨b,o,l,c,s,x,_,g⟩|⟨l,e,g⟩|⟨l,_,g⟩|⟨_,g⟩<;>first|exact g.elim|(rw[e1];exact g)
 ·exact rz (al he h)
theorem SU(hr:aY hs H){n y:Nat}{k:V→Hs D→Prop}(h:sNew D (λ_ _ O=>O (.iter n y 0)) hs λb h=>k (λ_ _ _ _ _ _ h _ _ _ _=>h b 0) h):ay H (.iter n y 0) λb H'=>∃hs',aY hs' H'∧k (enc (.ptr b 0)) hs':=by
 obtain⟨hs',H',z1,z2,_,_,_,z3⟩:=jY hr (o:=.iter n y 0) rfl h;exact z1 _ ⟨hs',z2,z3⟩
theorem Vo{so:SO}{o:cF}(h:rO so o){O:cF→Prop}(hh:so C3 C4 O):O o:=by
 rcases qP h hh with⟨c,n,d,t,_,_,h⟩|⟨c,n,m,d,t,_,_,h⟩|⟨h,_⟩
 ·exact h.elim
 ·exact h.elim
 ·exact h
theorem Vp(hr:aY hs H){a:AV}{k:V→Hs D→Prop}(h:afF D (enc a) hs k):Sd a H λv H'=>∃hs',aY hs' H'∧k (enc v) hs':=by
 obtain⟨b,o,e1,h⟩:=xE h;obtain⟨h0,h⟩:=an h;rw[e1];refine dv h0 ?_;obtain⟨ht,eh,htr⟩:=hr.tr;rw[eh]at h;obtain⟨_,so,hso,hk⟩:=mS D htr h;obtain⟨n,x,p,e2,h⟩:=CC (Vo hso hk);rw[←eh]at h;refine Bt.eK (AH.y9 e2 (by simp)) ?_;refine lh (λh=>?_) (λh=>⟨hs,hr,h⟩) h;rw[ae]at h ⊢;refine bM (λh=>?_) h;rw[ae]at h ⊢;obtain⟨so',ks,g1,g2,g3⟩:=xF hr h;obtain⟨hs',H',z1,z2,_,_,_,z3⟩:=g3 _ (.iter n x (p+1)) g2 rfl (hr.lt (by rw[e2];simp));exact z1 _ ⟨hs',z2,z3⟩
section
variable {ρ:Operand→AV}{o:Oper}{c:Call}{b:Builtin}
theorem Mg(ho:o.op=.call c)(hb:c.callee=.builtin b){f:az}{a:Act}(hs:Stand f o ρ a):VL f (c.args.toList.map ρ) (c.args.toList.map a.eval):=
 VL.iX λx hx=>hs x (by rw[ho];simp[Op.operands,Call.operands,hb];simpa using hx)
theorem sY(ho:o.op=.call c)(hb:c.callee=.builtin b)(a:Act):execOp a.eval o=builtin b c.argTypes o.type (c.args.map fun|.const _=>true|_=>false) (c.args.map a.eval):=by
 simp[execOp,ho,resolve,hb,invoke];rfl
theorem ajf(ho:o.op=.call c)(hb:c.callee=.builtin b){x:Operand}(hx:c.args.toList=[x]){f:az}{a:Act}(hs:Stand f o ρ a):∃u,c.args.map a.eval = #[u]∧VR f (ρ x) u:=by
 have hv:=Mg ho hb hs;rw[hx]at hv;generalize hgs:[x].map a.eval=us at hv;rw[←hx]at hgs;cases hv with
 |cons _ u _ us hu hl=>
  cases hl;exact⟨u,by apply Array.ext';rw[Array.toList_map,hgs],hu⟩
theorem Mh(ho:o.op=.call c)(hb:c.callee=.builtin b){x y:Operand}(hx:c.args.toList=[x,y]){f:az}{a:Act}(hs:Stand f o ρ a):∃u v,c.args.map a.eval = #[u,v]∧VR f (ρ x) u∧VR f (ρ y) v:=by
 have hv:=Mg ho hb hs;rw[hx]at hv;generalize hgs:[x,y].map a.eval=us at hv;rw[←hx]at hgs;cases hv with
 |cons _ u _ us hu hl=>
  cases hl with
  |cons _ u2 _ us hu2 hl=>
   cases hl;exact⟨u,u2,by apply Array.ext';rw[Array.toList_map,hgs],hu,hu2⟩
theorem Rd(ho:o.op=.call c)(hb:c.callee=.builtin b){x:Operand}{l:List Operand}(hx:c.args.toList=x::l){f:az}{a:Act}(hs:Stand f o ρ a):∃u us,(c.args.map a.eval).toList=u::us∧VR f (ρ x) u∧VL f (l.map ρ) us:=by
 have hv:=Mg ho hb hs;rw[hx]at hv;generalize hgs:(x::l).map a.eval=us at hv;rw[←hx]at hgs;cases hv with
 |cons _ u _ us hu hl=>exact⟨u,us,by rw[Array.toList_map,hgs],hu,hl⟩
theorem ajg(ho:o.op=.call c)(hb:c.callee=.builtin .len){t:TypeId}{ts:List TypeId}{x:Operand}(hts:c.argTypes.toList=t::ts)(hx:c.args.toList=[x]){k:AV→Prop}(h:HN P t (ρ x) H k) :
  ∃v,k v∧∀f w a,HRQ f H.sem w→Stand f o ρ a→∃u,Did P o a w u w∧VR f v u:=by
 obtain⟨v,h1,h2⟩:=QN (P:=P) (t:=t) (u:=t) (ty:=o.type) (ts:=c.argTypes) (by rw[←Array.getElem?_toList,hts];rfl) h;refine⟨v,h1,λf w a hr hs=>?_⟩;obtain⟨u,e,hu⟩:=ajf ho hb hx hs;obtain⟨r,g1,g2⟩:=h2 f w u hr hu;refine⟨r,bW (s:=Builtin.len_ c.argTypes o.type #[u]) ?_ g1,g2⟩;rw[sY ho hb,e];rfl
theorem ajh(ho:o.op=.call c)(hb:c.callee=.builtin .append){t u0:TypeId}{s x:Operand}(hts:c.argTypes.toList=[t,u0])(hx:c.args.toList=[s,x]){k:AV→AH→Prop}(h:HL P t u0 (ρ s) (ρ x) H k) :
  ∃v H',k v H'∧∀f w a,HR f H w→Stand f o ρ a→∃u w' f',Did P o a w u w'∧Step f H w f' H' w'∧VR f' v u:=by
 obtain⟨v,H',h1,h2⟩:=QK (P:=P) (ty:=o.type) h;refine⟨v,H',h1,λf w a hr hs=>?_⟩;obtain⟨u,u2,e,hu,hu2⟩:=Mh ho hb hx hs;obtain⟨r,w',f',g1,g2,g3⟩:=h2 f w u u2 hr hu hu2;refine⟨r,w',f',bW (s:=Builtin.append_ #[t,u0] o.type #[u,u2]) ?_ g1,g2,g3⟩;have e2:c.argTypes = #[t,u0]:=by
  apply Array.ext';rw[hts]
 rw[sY ho hb,e,e2];rfl
theorem ahd(ho:o.op=.call c)(hb:c.callee=.builtin .copy){t u0:TypeId}{s x:Operand}(hts:c.argTypes.toList=[t,u0])(hx:c.args.toList=[s,x]){k:AV→AH→Prop}(h:Af P t (ρ s) (ρ x) H k) :
  ∃v H',k v H'∧∀f w a,HR f H w→Stand f o ρ a→∃u w' f',Did P o a w u w'∧Step f H w f' H' w'∧VR f' v u:=by
 obtain⟨v,H',h1,h2⟩:=K4 (P:=P) (u:=u0) (ty:=o.type) h;refine⟨v,H',h1,λf w a hr hs=>?_⟩;obtain⟨u,u2,e,hu,hu2⟩:=Mh ho hb hx hs;obtain⟨r,w',f',g1,g2,g3⟩:=h2 f w u u2 hr hu hu2;refine⟨r,w',f',bW (s:=Builtin.copy_ #[t,u0] o.type #[u,u2]) ?_ g1,g2,g3⟩;have e2:c.argTypes = #[t,u0]:=by
  apply Array.ext';rw[hts]
 rw[sY ho hb,e,e2];rfl
theorem aji(ho:o.op=.call c)(hb:c.callee=.builtin .max){x:Operand}{l:List Operand}(hx:c.args.toList=x::l){k:AV→Prop}(h:q8 Cz (l.map ρ) (ρ x) k) :
  ∃v,k v∧∀f w a,HRQ f H.sem w→Stand f o ρ a→∃u,Did P o a w u w∧VR f v u:=by
 obtain⟨v,h1,h2⟩:=th (P:=P) (λa b k=>QL) _ _ _ h;refine⟨v,h1,λf w a hr hs=>?_⟩;obtain⟨u,us,e,hu,hl⟩:=Rd ho hb hx hs;obtain⟨r,g1,g2⟩:=h2 f u us hu hl;refine⟨r,bW (s:=us.foldlM Builtin.max2 u) ?_ (g1 w),g2⟩;rw[sY ho hb];simp only[builtin,Builtin.max_,e]
theorem ajj(ho:o.op=.call c)(hb:c.callee=.builtin .min){x:Operand}{l:List Operand}(hx:c.args.toList=x::l){k:AV→Prop}(h:q8 CA (l.map ρ) (ρ x) k) :
  ∃v,k v∧∀f w a,HRQ f H.sem w→Stand f o ρ a→∃u,Did P o a w u w∧VR f v u:=by
 obtain⟨v,h1,h2⟩:=th (P:=P) (λa b k=>QM) _ _ _ h;refine⟨v,h1,λf w a hr hs=>?_⟩;obtain⟨u,us,e,hu,hl⟩:=Rd ho hb hx hs;obtain⟨r,g1,g2⟩:=h2 f u us hu hl;refine⟨r,bW (s:=us.foldlM Builtin.min2 u) ?_ (g1 w),g2⟩;rw[sY ho hb];simp only[builtin,Builtin.min_,e]
end
theorem afI(l:List dI)(k:List dI→Prop):fE l k=k l:=by
 induction l generalizing k with
 |nil=>rfl
 |cons e l ih=>exact ih λl=>k (e::l)
theorem xJ{kt:TypeId}{key:AV}{es:List dI}{k:Option Nat→Prop}(h:vU P kt key es k):∃r,oo P kt key es=some r∧k r:=by
 unfold vU at h;split at h
 ·rename_i r e;exact⟨r,e,h⟩
 ·exact h.elim
theorem BV(hr:aY hs H){b:Nat}{k:List dI→Nat→Prop}(h:LX D b hs k):∃es cl,H.at b=.map es cl∧k es cl:=by
 obtain⟨ht,eh,htr⟩:=hr.tr;unfold LX at h;rw[eh]at h;obtain⟨_,so,hso,hk⟩:=mS D htr h;have h:=Vo hso hk;unfold Vi at h;split at h
 ·rename_i es cl e;exact⟨es,cl,e,h⟩
 ·exact h.elim
theorem Jt(hr:aY hs H){a:AV}{k:List dI→Prop}(h:Ar D a hs k):∃es,MapAt H a es∧k es:=by
 unfold Ar at h;split at h
 ·exact⟨[],.inl ⟨rfl,rfl⟩,h⟩
 ·rename_i b;obtain⟨es,cl,e,h⟩:=BV hr h;exact⟨es,.inr ⟨b,cl,rfl,e⟩,h⟩
 ·exact h.elim
theorem Ju(hr:aY hs H){b:Nat}{o:cF}{k:Hs D→Prop}(ho:rO (λ_ _ O=>O o) o)(hb:H.at b≠.dead)(h:Kd D b o hs k):∃hs' H',aY hs' H'∧H'.n=H.n∧H'.at b=o∧(∀i,i≠b→H'.at i=H.at i)∧k hs':=by
 obtain⟨so',ks,g1,g2,g3⟩:=xF hr h;obtain⟨hs',H',_,z2,z3,z4,z5,z6⟩:=g3 _ o g2 ho (hr.lt hb);exact⟨hs',H',z2,z3,z4,z5,z6⟩
theorem ahe(hr:aY hs H){kt:TypeId}{m key x:AV}{k:Hs D→Prop}(h:Vj P D kt m key x hs k) :
  ∃b es cl r hs' H',m=.map b∧H.at b=.map es cl∧oo P kt key es=some r∧aY hs' H'∧H'.n=H.n∧H'.at b=.map (BC es cl key x r) (CH cl r)∧(∀c,c≠b→H'.at c=H.at c)∧k hs':=by
 unfold Vj at h;split at h
 ·rename_i b;obtain⟨es,cl,e,h⟩:=BV hr h;obtain⟨r,hf,h⟩:=xJ h;rw[afI,ae]at h;obtain⟨hs',H',z1,z2,z3,z4,z5⟩:=Ju hr (by exact rfl) (by rw[e];simp) h;exact⟨b,es,cl,r,hs',H',rfl,e,hf,z1,z2,z3,z4,z5⟩
 ·exact h.elim
theorem aeF(hr:aY hs H){kt:TypeId}{m key:AV}{k:Hs D→Prop}(h:SI P D kt m key hs k) :
  ∃b es cl r hs' H',m=.map b∧H.at b=.map es cl∧oo P kt key es=some r∧aY hs' H'∧H'.n=H.n∧H'.at b=.map (K9 es r) cl∧(∀c,c≠b→H'.at c=H.at c)∧k hs':=by
 unfold SI at h;split at h
 ·rename_i b;obtain⟨es,cl,e,h⟩:=BV hr h;obtain⟨r,hf,h⟩:=xJ h;rw[afI]at h;obtain⟨hs',H',z1,z2,z3,z4,z5⟩:=Ju hr (by exact rfl) (by rw[e];simp) h;exact⟨b,es,cl,r,hs',H',rfl,e,hf,z1,z2,z3,z4,z5⟩
 ·exact h.elim
theorem aeG(he:dU N d e env)(hr:aY hs H){G:Nat}{t ty:TypeId}{x:Operand}{k:V→Hs D→Prop}(h:(aex P G D d t x ty).run k e hs):HN P t (bu G env x) H λv=>k (enc v) hs:=by
 unfold aex at h;unfold HN;split at h
 ·rename_i hu;rw[hu];obtain⟨n,y,e1,h⟩:=encS (al he h);rw[e1];exact h
 ·rename_i el hu;rw[hu];rcases uD (al he h)with⟨b,o,l,c,s,x,e1,h⟩|⟨e1,h⟩
  ·rw[e1];exact h
  ·rw[e1];exact h
 ·rename_i n el hu;rw[hu];exact h
 ·rename_i k1 e1 hu;rw[hu];obtain⟨es,hm,h⟩:=Jt hr (eJ (al he (k:=λa=>dec a λa=>Ar D a hs λes=>aB es.length λn=>k (λ_ _ h _ _ _ _ _ _ _ _=>h n) hs) h));rw[ae]at h;rcases hm with⟨e2,rfl⟩|⟨b,cl,e2,hb⟩
  ·rw[e2];exact h
  ·rw[e2];refine Bt.eK (AH.y9 hb (by simp)) ?_;show aB es.length _;rw[ae];exact h
 ·exact(show False from h).elim
theorem Vq(he:dU N d e env)(hr:aY hs H){o:Oper}{c:Call}{b:Builtin}{k:V→Hs D→Prop}(ho:o.op=.call c)(hb':c.callee=.builtin b)
  (h:(LZ P P.globals.size D d b o.type c.argTypes c.args).run k e hs):Le P o (bu P.globals.size env) (ay H) H λv H'=>∃hs',aY hs' H'∧k (enc v) hs':=by
 unfold LZ at h;split at h
 ·rename_i t ts0 x hts hx;obtain⟨v,h1,h2⟩:=ajg (ρ:=bu P.globals.size env) ho hb' hts hx (aeG he hr h);exact .same v ⟨hs,hr,h1⟩ h2
 ·rename_i t u0 s x hts hx;have key:HL P t u0 (bu P.globals.size env s) (bu P.globals.size env x) H λv H'=>∃hs',aY hs' H'∧k (enc v) hs':=by
   unfold HL;split at h
   ·rename_i el el' hu hu';rw[hu,hu'];simp only;split at h
    ·rename_i i z hi hz;rw[hi,hz];obtain⟨h1,h⟩:=hO h;rw[Bool.and_eq_true]at h1;exact dv h1.1 (dv h1.2 (LJ hr (al he (k:=λb=>aeh D i.size i.bytes (enc (bu P.globals.size env s)) b hs k) (al he h))))
    ·exact(show False from h).elim
   ·exact(show False from h).elim
  obtain⟨v,H',h1,h2⟩:=ajh (ρ:=bu P.globals.size env) ho hb' hts hx key;exact .turn v H' h1 (by simp only[turns,ho,hb']) h2
 ·rename_i t u0 x s hts hx;have key:Af P t (bu P.globals.size env x) (bu P.globals.size env s) H λv H'=>∃hs',aY hs' H'∧k (enc v) hs':=by
   unfold Af;split at h
   ·rename_i el hu;rw[hu];simp only;split at h
    ·rename_i i hi;rw[hi];obtain⟨h1,h⟩:=hO h;have h:=al he (k:=λa=>(aV P.globals.size d s).get (λb=>Ka D i.size a b hs λv h=>k v h) e) h;have h:=al he (k:=λb=>Ka D i.size (enc (bu P.globals.size env x)) b hs λv h=>k v h) h;have h:=Vg hr h;exact dv h1 h
    ·exact(show False from h).elim
   ·exact(show False from h).elim
  obtain⟨v,H',⟨hs',hr',h1⟩,h2⟩:=ahd (ρ:=bu P.globals.size env) ho hb' hts hx key;exact .turn v H' ⟨hs',hr',h1⟩ (by simp only[turns,ho,hb']) h2
 ·rename_i x l hx;have h:=kU he _ (eJ (k:=λa=>(kT P.globals.size d l).run (λl=>q8 Cz l a λv=>k (kA v).v hs) e) (al he h));obtain⟨v,h1,h2⟩:=aji (ρ:=bu P.globals.size env) ho hb' hx h;exact .same v ⟨hs,hr,h1⟩ h2
 ·rename_i x l hx;have h:=kU he _ (eJ (k:=λa=>(kT P.globals.size d l).run (λl=>q8 CA l a λv=>k (kA v).v hs) e) (al he h));obtain⟨v,h1,h2⟩:=ajj (ρ:=bu P.globals.size env) ho hb' hx h;exact .same v ⟨hs,hr,h1⟩ h2
 ·rename_i t ts0 m x hts hx;split at h
  ·rename_i kt et hu;obtain⟨hl,h⟩:=hO h;have h:=eJ (eJ (al he (k:=λx=>dec (enc (bu P.globals.size env m)) λm=>dec x λx=>SI P D kt m x hs λh=>k (λ_ _ _ _ _ _ _ _ _ h _=>h []) h) (al he h)));obtain⟨b,es,cl,r,hs',H',em,hb,hf,hr',hn,hnew,hold,h⟩:=aeF hr h;refine .turn (.bF []) H' ⟨hs',hr',h⟩ (by simp only[turns,ho,hb']) λf w a hr hs=>?_;obtain⟨um,uk,eu,K8,Bd⟩:=Mh ho hb' hx hs;obtain⟨w',g1,g2⟩:=CI (ts:=c.argTypes) (ty:=o.type) (by rw[←Array.getElem?_toList,hts];rfl) hu hl hb hf hn hnew hold hr (em ▸ K8) Bd;refine⟨.tuple #[],w',f,bW ?_ g1,g2,.bF [] [] .nil⟩;rw[sY ho hb',eu];rfl
  ·exact(show False from h).elim
 ·exact(show False from h).elim
theorem zm(he:dU N d e env)(hr:aY hs H){o:Oper}{k:V→Hs D→Prop}(h:(opC P P.globals.size D d o).run k e hs):Le P o (bu P.globals.size env) (ay H) H λv H'=>∃hs',aY hs' H'∧k (enc v) hs':=by
 unfold opC at h;split at h
 ·rename_i x ho;exact .same _ ⟨hs,hr,al he h⟩ λf w a hr hs=>⟨_,.inl (by simp[execOp,ho]),hs x (by simp[ho,Op.operands])⟩
 ·rename_i x ho;exact .same _ ⟨hs,hr,al he h⟩ λf w a hr hs=>⟨_,.inl (by simp[execOp,ho]),hs x (by simp[ho,Op.operands])⟩
 ·rename_i c x y ho;have h:=al he h;have g:=dk h;rcases g with⟨e1,g⟩|⟨e1,g⟩|⟨n,_,g⟩|⟨n,_,g⟩|⟨c,n,_,_,g⟩|⟨n,x,_,g⟩|⟨b,o,_,g⟩|⟨b,o,l,c,s,x,_,g⟩|⟨l,e,g⟩|⟨l,_,g⟩|⟨_,g⟩<;>try exact g.elim
  ·refine .same _ ⟨hs,hr,al he g⟩ λf w a hr hs=>⟨_,.inl ?_,hs x (by simp[ho,Op.operands])⟩
   have:=hs c (by simp[ho,Op.operands]);rw[e1]at this;simp[execOp,ho,this.mc,asBool]
  ·refine .same _ ⟨hs,hr,al he g⟩ λf w a hr hs=>⟨_,.inl ?_,hs y (by simp[ho,Op.operands])⟩
   have:=hs c (by simp[ho,Op.operands]);rw[e1]at this;simp[execOp,ho,this.mc,asBool]
 ·rename_i t ho;obtain⟨ob,vf,h1,h2,h3⟩:=yF (Dk hr h);refine .new ob vf (by simp[iW,ho]) h1 h2 λf w a hs=>?_;obtain⟨r,obj,g1,g2⟩:=h3 f w;exact⟨r,obj,bW (by simp only[execOp,ho]) g1,g2⟩
 ·rename_i t x ho;obtain⟨ob,vf,h1,h2,h3⟩:=HJ (P:=P) (t:=t) (LW hr (al he h));refine .new ob vf (by simp[iW,ho]) h1 h2 λf w a hs=>?_;obtain⟨r,obj,g1,g2⟩:=h3 f w _ (hs x (by simp[ho,Op.operands]));exact⟨r,obj,bW (by simp only[execOp,ho]) g1,g2⟩
 ·rename_i t ps ho;obtain⟨fs,ht,h0,h⟩:=SR he h;obtain⟨v,h1,h2⟩:=I3 ht h0 h;refine .same v ⟨hs,hr,h1⟩ λf w a hr hs=>?_;obtain⟨r,g1,g2⟩:=h2 f a.eval (λx hx=>hs x.2 (by simp only[ho,Op.operands];simp;exact⟨x.1,by simpa using hx⟩));refine⟨r,bW ?_ (g1 w),g2⟩;simp only[execOp,ho];congr 2;apply Array.ext';simp
 ·rename_i t n ps ho;obtain⟨ob,vf,h1,h2,h3⟩:=xk (Me he hr h);refine .new ob vf (by simp[iW,ho]) h1 h2 λf w a hs=>?_;obtain⟨r,obj,g1,g2⟩:=h3 f w a.eval (λx hx=>hs x.2 (by simp only[ho,Op.operands];simp;exact⟨x.1,by simpa using hx⟩));refine⟨r,obj,bW ?_ g1,g2⟩;simp only[execOp,ho];congr 2;apply Array.ext';simp
 ·rename_i t x ho;obtain⟨v,h1,h2⟩:=By (Vm he hr h);refine .same v ⟨hs,hr,h1⟩ λf w a hr hs=>?_;obtain⟨r,g1,g2⟩:=h2 f w _ hr (hs x (by simp[ho,Op.operands]));exact⟨r,bW (by simp only[execOp,ho]) g1,g2⟩
 ·rename_i t x y ho;obtain⟨H',h1,_,h2⟩:=yE (qd he hr h);refine .turn _ H' h1 (by simp[turns,ho]) λf w a hr hs=>?_;obtain⟨w',g1,g2⟩:=h2 f w _ _ hr (hs x (by simp[ho,Op.operands])) (hs y (by simp[ho,Op.operands]));exact⟨undef,w',f,.inr ⟨by simp[execOp,ho,g1],rfl⟩,g2,VR.undef f⟩
 ·rename_i x ho;have h:=al he h;have key:k (enc (bu P.globals.size env x)) hs∧((∃b o,bu P.globals.size env x=.ptr b o)∨(∃g p q,bu P.globals.size env x=.func g p q)∨(∃t v,bu P.globals.size env x=.iface t v)):=by
   have g:=dk h;rcases g with⟨_,g⟩|⟨_,g⟩|⟨n,_,g⟩|⟨n,_,g⟩|⟨c,n,_,_,g⟩|⟨n,x,_,g⟩|⟨b,o,e1,g⟩|⟨b,o,l,c,s,x,_,g⟩|⟨l,e,g⟩|⟨l,_,g⟩|⟨_,g⟩<;>try exact g.elim
   ·exact⟨g,.inl ⟨b,o,e1⟩⟩
   ·exact Ld g
  obtain⟨h1,h2⟩:=key;refine .same _ ⟨hs,hr,h1⟩ λf w a hr hs=>?_;have hx:=hs x (by simp[ho,Op.operands]);refine⟨_,.inl ?_,hx⟩;generalize hz:a.eval x=z at hx;rcases h2 with⟨b,o',e⟩|⟨g,p,q,e⟩|⟨t,v,e⟩<;>rw[e]at hx
  ·rw[hx.eO.1]at hz ⊢;simp only[execOp,ho,hz];rfl
  ·cases hx;simp only[execOp,ho,hz];rfl
  ·cases hx;simp only[execOp,ho,hz];rfl
 ·rename_i op t x y ty ho;obtain⟨v,h1,h2⟩:=La (aeC he hr h);refine .same v ⟨hs,hr,h1⟩ λf w a hr hs=>?_;obtain⟨r,g1,g2⟩:=h2 f w _ _ hr (hs x (by simp[ho,Op.operands])) (hs y (by simp[ho,Op.operands])) (λv e=>by rw[e];rfl) (λv e=>by rw[e];rfl);exact⟨r,bW (by simp only[execOp,ho]) g1,g2⟩
 ·rename_i op t x ho;obtain⟨v,h1,h2⟩:=UD (ahc he h);refine .same v ⟨hs,hr,h1⟩ λf w a hr hs=>?_;obtain⟨r,g1,g2⟩:=h2 f _ (hs x (by simp[ho,Op.operands]));exact⟨r,bW (by simp only[execOp,ho]) (g1 w),g2⟩
 ·rename_i s t x ho;obtain⟨v,h1,h2⟩:=K6 (Vn he hr h);refine .same v ⟨hs,hr,h1.2⟩ λf w a hr hs=>?_;obtain⟨r,g1,g2⟩:=h2 f w _ hr (hs x (by simp[ho,Op.operands]));exact⟨r,bW (by simp only[execOp,ho]) g1,g2⟩
 ·rename_i t x ho;obtain⟨h0,h⟩:=hO h;obtain⟨v,h1,h2⟩:=I5 (P:=P) (t:=t) (a:=bu P.globals.size env x) (k:=λv=>k (enc v) hs) (dv h0 (eJ (k:=λa=>k (enc (.iface t a)) hs) (al he h)));refine .same v ⟨hs,hr,h1⟩ λf w a hr hs=>?_;obtain⟨r,g1,g2⟩:=h2 f _ (hs x (by simp[ho,Op.operands]));exact⟨r,bW (by simp only[execOp,ho]) (g1 w),g2⟩
 ·rename_i fn x y ho;split at h
  ·rename_i g;have h:=kU he _ (k:=λm=>k (enc (.func g _ m)) hs) (kU he _ (k:=λl=>(kT P.globals.size d y.toList).run (λm=>k (enc (.func g l m)) hs) e) h);refine .same _ ⟨hs,hr,h⟩ λf w a hr hs=>?_;have h1:VL f (x.toList.map (bu P.globals.size env)) (x.toList.map a.eval):=VL.iX λz hz=>hs z (by simp[ho,Op.operands];left;simpa using hz);have h2:VL f (y.toList.map (bu P.globals.size env)) (y.toList.map a.eval):=VL.iX λz hz=>hs z (by simp[ho,Op.operands];right;simpa using hz);refine⟨.func (.func g) (x.map a.eval) (y.map a.eval),bW (s:=Instr.makeFunc (.func g) (x.map a.eval) (y.map a.eval)) (by simp only[execOp,ho]) rfl,?_⟩;have e1:x.map a.eval=(x.toList.map a.eval).toArray:=by apply Array.ext';simp
   have e2:y.map a.eval=(y.toList.map a.eval).toArray:=by apply Array.ext';simp
   rw[e1,e2];exact .func g _ _ _ _ h1 h2
  ·exact(show False from h).elim
 ·rename_i t x y ho;obtain⟨ob,vf,h1,h2,h3⟩:=yJ (Mf he hr h);refine .new ob vf (by simp[iW,ho]) h1 h2 λf w a hs=>?_;obtain⟨r,obj,g1,g2⟩:=h3 f w _ _ (hs x (by simp[ho,Op.operands])) (hs y (by simp[ho,Op.operands]));exact⟨r,obj,bW (by simp only[execOp,ho]) g1,g2⟩
 ·rename_i t x lo hi mx ho;obtain⟨v,h1,h2⟩:=I0 (SP he h);refine .same v ⟨hs,hr,h1⟩ λf w a hr hs=>?_;obtain⟨r,g1,g2⟩:=h2 f _ _ _ _ (hs x (by simp[ho,Op.operands])) (HP (a:=a) λy e=>hs y (by subst e;simp[ho,Op.operands])) (HP (a:=a) λy e=>hs y (by subst e;simp[ho,Op.operands])) (HP (a:=a) λy e=>hs y (by subst e;simp[ho,Op.operands]));exact⟨r,bW (by simp only[execOp,ho]) (g1 w),g2⟩
 ·rename_i t x i ho;obtain⟨v,h1,h2⟩:=QF (aeD he h);refine .same v ⟨hs,hr,h1⟩ λf w a hr hs=>?_;obtain⟨r,g1,g2⟩:=h2 f _ (hs x (by simp[ho,Op.operands]));exact⟨r,bW (by simp only[execOp,ho]) (g1 w),g2⟩
 ·rename_i t x i ho;obtain⟨v,h1,h2⟩:=IY (SQ he h);refine .same v ⟨hs,hr,h1⟩ λf w a hr hs=>?_;obtain⟨r,g1,g2⟩:=h2 f _ (hs x (by simp[ho,Op.operands]));exact⟨r,bW (by simp only[execOp,ho]) (g1 w),g2⟩
 ·rename_i t x i ho;obtain⟨v,h1,h2⟩:=Bb (Vl he h);refine .same v ⟨hs,hr,h1⟩ λf w a hr hs=>?_;obtain⟨r,g1,g2⟩:=h2 f _ _ (hs x (by simp[ho,Op.operands])) (hs i (by simp[ho,Op.operands]));exact⟨r,bW (by simp only[execOp,ho]) (g1 w),g2⟩
 ·rename_i t x i ho;obtain⟨v,h1,h2⟩:=IZ (aeE he h);refine .same v ⟨hs,hr,h1⟩ λf w a hr hs=>?_;obtain⟨r,g1,g2⟩:=h2 f _ _ (hs x (by simp[ho,Op.operands])) (hs i (by simp[ho,Op.operands]));exact⟨r,bW (by simp only[execOp,ho]) (g1 w),g2⟩
 ·rename_i x i ho;obtain⟨l,e1,h⟩:=ang (al he h);obtain⟨v,h1,h2⟩:=Ba (P:=P) (a:=bu P.globals.size env x) (i:=i) (k:=λv=>k (enc v) hs) (by rw[e1];exact h);refine .same v ⟨hs,hr,h1⟩ λf w a hr hs=>?_;obtain⟨r,g1,g2⟩:=h2 f _ (hs x (by simp[ho,Op.operands]));exact⟨r,bW (by simp only[execOp,ho]) (g1 w),g2⟩
 ·rename_i t x ho;split at h
  ·rename_i hu;obtain⟨n,y,e1,h⟩:=encS (al he h);obtain⟨v,H',h1,h2⟩:=I6 (P:=P) (t:=t) (a:=bu P.globals.size env x) (H:=H) (k:=λv H'=>∃hs',aY hs' H'∧k (enc v) hs') (by unfold Cy;rw[hu,e1];exact SU hr h);refine .turn v H' h1 (by simp[turns,ho]) λf w a hr hs=>?_;obtain⟨r,w',f',g1,g2,g3⟩:=h2 f w _ hr (hs x (by simp[ho,Op.operands]));exact⟨r,w',f',bW (by simp only[execOp,ho]) g1,g2,g3⟩
  ·exact(show False from h).elim
 ·rename_i x s ho;obtain⟨hs0,h⟩:=hO h;obtain⟨v,H',h1,h2⟩:=K7 (P:=P) (ty:=o.type) (Vp hr (al he h));refine .turn v H' h1 (by simp[turns,ho]) λf w a hr hs=>?_;obtain⟨r,w',f',g1,g2,g3⟩:=h2 f w _ hr (hs x (by simp[ho,Op.operands]));exact⟨r,w',f',bW (by simp only[execOp,ho,hs0]) g1,g2,g3⟩
 ·rename_i x t u ok ho;obtain⟨v,h1,h2⟩:=CB (t:=t) (rz (al he h));refine .same v ⟨hs,hr,h1⟩ λf w a hr hs=>?_;obtain⟨r,g1,g2⟩:=h2 f _ (hs x (by simp[ho,Op.operands]));exact⟨r,bW (by simp only[execOp,ho]) (g1 w),g2⟩
 ·rename_i t r ho;unfold L9 at h;split at h
  ·obtain⟨hs',H',z1,z2,_,_,_,z3⟩:=jY hr (o:=.map [] 0) rfl h;refine .new (.map [] 0) (λb=>.map b) (by simp[iW,ho]) (z1 _ ⟨hs',z2,z3⟩) rfl λf w a hs=>?_;exact⟨_,_,bW (by simp only[execOp,ho];rfl) (vg w),allocMap f w⟩
  ·exact(show False from h).elim
 ·rename_i t x i ok ho;unfold afG at h;split at h
  ·rename_i kt et hu;split at h
   ·rename_i inf hi;split at h
    ·rename_i z hz;obtain⟨hl,h⟩:=hO h;have h:=eJ (eJ (al he (k:=λkey=>dec (enc (bu P.globals.size env x)) λm=>dec key λkey=>Ar D m hs λes=>vU P kt key es λr=>k (kA (CF ok (fj z) es r)).v hs) (al he h)));obtain⟨es,hm,h⟩:=Jt hr h;obtain⟨r,hf,h⟩:=xJ h;refine .same _ ⟨hs,hr,h⟩ λf w a hr hs=>?_;obtain⟨v,g1,g2⟩:=CG hu hi hz hl hm hf ok hr (hs x (by simp[ho,Op.operands])) (hs i (by simp[ho,Op.operands]));exact⟨v,bW (by simp only[execOp,ho]) g1,g2⟩
    ·exact(show False from h).elim
   ·exact(show False from h).elim
  ·exact(show False from h).elim
 ·rename_i t m key x ho;unfold Vk at h;split at h
  ·rename_i kt et hu;obtain⟨hl,h⟩:=hO h;have h:=al he (k:=λkey'=>(aV P.globals.size d x).get (λx=>dec (enc (bu P.globals.size env m)) λm=>dec key' λkey=>dec x λx=>Vj P D kt m key x hs λh=>k (λ_ _ _ _ _ _ _ _ _ h _=>h []) h) e) (al he h);have h:=eJ (eJ (eJ (al he (k:=λx=>dec (enc (bu P.globals.size env m)) λm=>dec (enc (bu P.globals.size env key)) λkey=>dec x λx=>Vj P D kt m key x hs λh=>k (λ_ _ _ _ _ _ _ _ _ h _=>h []) h) h)));obtain⟨b,es,cl,r,hs',H',em,hb,hf,hr',hn,hnew,hold,h⟩:=ahe hr h;refine .turn (.bF []) H' ⟨hs',hr',h⟩ (by simp[turns,ho]) λf w a hr hs=>?_;obtain⟨w',g1,g2⟩:=yi hu hl hb hf hn hnew hold hr (em ▸ hs m (by simp[ho,Op.operands])) (hs key (by simp[ho,Op.operands])) (hs x (by simp[ho,Op.operands]));exact⟨undef,w',f,.inr ⟨by simp[execOp,ho,g1],rfl⟩,g2,VR.undef f⟩
  ·exact(show False from h).elim
 ·rename_i c ho;split at h
  ·rename_i b hb;exact Vq he hr ho hb h
  ·exact(show False from h).elim
 ·exact(show False from h).elim
end
noncomputable section
def ixB(b n:Nat):Nat→Nat→(Nat→Prop)→Prop→Prop:=
 @Nat.rec (λ_=>Nat→Nat→(Nat→Prop)→Prop→Prop) (λ_ _ _ z=>z) (λ_ ih i x f z=>bI (Nat.beq (Nat.mod x 256) b) (f i) (aB (Nat.succ i) λi'=>aB (Nat.div x 256) λx'=>ih i' x' f z)) n
def ixV(a b:V)(k:V→Prop):Prop:=a False False N1 N1 N2 (λn x=>b False False N1 N1 (λc m=>bT (Nat.beq c 1) (bT (Nat.ble m 255) (ixB m n 0 x (λi=>k (λ_ _ h _ _ _ _ _ _ _ _=>h i)) (k (λ_ _ _ h _ _ _ _ _ _ _=>h 0))))) N2 N2 N6 NL NL NO) N2 N6 NL NL NO
end
def Dl:String:=match Extern.BytealgIndexByte.rows with|[_,(n,_)]=>n|_ => ""
def SV(P:Program)(g:Nat):Bool:=match P.funcs[g]? with|some fn=>fn.body.isNone&&(fn.name == Dl&&fn.origin == "")|none=>false
theorem ahf(fn:Func)(h:fn.name=Dl):Extern.find fn=some Extern.BytealgIndexByte.indexByte:=by
 unfold Extern.find;rw[h]
 kernel_rfl
theorem Qr(fn:Func)(h:fn.name=Dl)(h2:fn.origin = ""):Extern.findNext fn=none:=by
 unfold Extern.findNext;rw[h,h2]
 kernel_rfl
theorem aeH{P:Program}{g:Nat}(h:SV P g=true)(args:Array Value)(w:World):(callFunc g args).run P w=((Extern.BytealgIndexByte.indexByte args).run P w).andThen λv w'=>.ok (.value v) w':=by
 unfold SV at h;split at h
 ·rename_i fn hf;rw[Bool.and_eq_true,Bool.and_eq_true]at h;have h1:fn.name=Dl:=by simpa using h.2.1
  have h2:fn.origin = "" := by simpa using h.2.2
  refine run_callFunc_indexByte hf ?_ h.1 (Qr fn h1 h2) (ahf fn h1) args w;rw[h1];decide
 ·cases h
theorem Re{b:Nat}(hb:b<256){f:Nat→Prop}{z:Prop}:∀(n i x:Nat),ixB b n i x f z→
  (∃j,j<n∧x/256^j%256=b∧(∀l,l<j→x/256^l%256≠b)∧f (i+j))∨((∀l,l<n→x/256^l%256≠b)∧z)
 |0,i,x,h=>.inr ⟨λl hl=>absurd hl (by omega),h⟩
 |n+1,i,x,h=>by
  rcases bZ h with⟨e,h⟩|⟨e,h⟩
  ·have e:=Nat.eq_of_beq_eq_true e;exact .inl ⟨0,by omega,by rw[Nat.pow_zero,Nat.div_one];exact e,λl hl=>absurd hl (by omega),h⟩
  ·rw[ae,ae]at h;have hne:x%256≠b:=λe'=>by
    have:Nat.mod x 256=b:=e';rw[this,Nat.beq_refl]at e;cases e
   have hp:∀l,x/256/256^l=x/256^(l+1):=λl=>by rw[Nat.div_div_eq_div_mul,Nat.pow_succ,Nat.mul_comm]
   rcases Re hb n (i+1) (x/256) h with⟨j,h1,h2,h3,h4⟩|⟨h1,h2⟩
   ·refine .inl ⟨j+1,by omega,by rw[←hp];exact h2,λl hl=>?_,by rw[show i+(j+1)=i+1+j by omega];exact h4⟩;cases l with
    |zero=>simpa using hne
    |succ l=>rw[←hp];exact h3 l (by omega)
   ·refine .inr ⟨λl hl=>?_,h2⟩;cases l with
    |zero=>simpa using hne
    |succ l=>rw[←hp];exact h1 l (by omega)
theorem yn{p:Nat→Bool}:∀(n:Nat),(∀j,j<n→p j=true→(∀l,l<j→p l=false)→(List.range n).find? p=some j)∧((∀l,l<n→p l=false)→(List.range n).find? p=none):=by
 intro n;refine⟨λj hj hp hl=>?_,λh=>?_⟩
 ·rw[List.find?_range_eq_some];exact⟨hp,by simpa using hj,λl hlj=>by rw[hl l hlj];rfl⟩
 ·rw[List.find?_eq_none];intro x hx;rw[h x (by simpa using hx)];simp
theorem ahg{P:Program}{a b:AV}{k:V→Prop}(h:ixV (enc a) (enc b) k):∃v,k (enc v)∧∀f w u1 u2,VR f a u1→VR f b u2→∃u,(Extern.BytealgIndexByte.indexByte #[u1,u2]).run P w=.ok u w∧VR f v u:=by
 obtain⟨n,x,e1,h⟩:=encS h;rcases LM h with⟨c,m,_,e2,h⟩|⟨_,h⟩
 ·obtain⟨hc,h⟩:=an h;obtain⟨hm,hx⟩:=an h;have hc:=Nat.eq_of_beq_eq_true hc;have hm:=Nat.le_of_ble_eq_true hm;rw[hc]at e2;have hget:∀i,i<n→((eT n x)[i]! == (Int.ofNat m).toNat.toUInt8)=(x/256^i%256 == m):=λi hi=>by
   have h1:(eT n x)[i]? = some (UInt8.ofNat (byteAt x i)):=Bv hi;have h2:(eT n x)[i]! = UInt8.ofNat (byteAt x i):=by rw[getElem!_def,h1]
   rw[h2,ui,Bool.eq_iff_iff];have hlt:x/256^i%256<256:=Nat.mod_lt _ (by omega);simp only[beq_iff_eq];constructor
   ·intro e;have:=congrArg UInt8.toNat e;simpa[UInt8.toNat_ofNat',Nat.mod_eq_of_lt hlt,Nat.mod_eq_of_lt (show m<256 by omega)]using this
   ·intro e;rw[e];rfl
  have hf:∀r,(List.range n).find? (λi=>x/256^i%256 == m)=r→(List.range (eT n x).size).find? (λi=>(eT n x)[i]! == (Int.ofNat m).toNat.toUInt8)=r:=λr hr=>by
   rw[yy,←hr];refine find_congr λi hi=>hget i (by simpa using hi)
  rcases Re (by omega) n 0 x hx with⟨j,h1,h2,h3,h4⟩|⟨h1,h2⟩
  ·refine⟨.int 0 (.ofNat j),by rw[Nat.zero_add]at h4;exact h4,λf w u1 u2 r1 r2=>?_⟩;rw[e1]at r1;rw[e2]at r2;cases r1;cases r2;refine⟨.int .i64 j,?_,.int 0 _⟩;rw[show kd 1=.u8 from rfl,run_indexByte_string];unfold firstIdx;rw[hf _ ((yn (p:=λi=>x/256^i%256 == m) n).1 j h1 (by simpa using h2) λl hl=>by simpa using h3 l hl)]
  ·refine⟨.int 0 (.negSucc 0),h2,λf w u1 u2 r1 r2=>?_⟩;rw[e1]at r1;rw[e2]at r2;cases r1;cases r2;refine⟨.int .i64 (-1),?_,.int 0 _⟩;rw[show kd 1=.u8 from rfl,run_indexByte_string];unfold firstIdx;rw[hf _ ((yn (p:=λi=>x/256^i%256 == m) n).2 λl hl=>by simpa using h1 l hl)]
 ·exact h.elim
 where
 find_congr {l:List Nat}{p q:Nat→Bool}(h:∀i∈l,p i=q i):l.find? p=l.find? q:=by
  induction l with
  |nil=>rfl
  |cons a l ih=>
   rw[List.find?_cons,List.find?_cons,h a (by simp),ih λi hi=>h i (by simp[hi])]
def Ih(P:Program)(s t:TypeId):Bool:=match P.underlying s,P.underlying t with
 |some .string,some (.slice e)=>(match P.underlying e with|some (.int .u8)=>true|_=>false)
 |_,_=>false
theorem aeI{P:Program}{s t:TypeId}(h:Ih P s t=true):∃e,P.underlying s=some .string∧P.underlying t=some (.slice e)∧P.underlying e=some (.int .u8):=by
 unfold Ih at h;split at h
 ·rename_i e hs ht;split at h
  ·rename_i he;exact⟨e,hs,ht,he⟩
  ·cases h
 ·cases h
theorem SW{f:az}{H:AH}{w:World}(hr:HR f H w){n:Nat}{vs:List Value}(hlen:vs.length=n){c:Bt AV}(hc:∀j a,c.get? j=some a→j<n∧∃v,vs[j]? = some v∧VR f a v)
  {H':AH}(hn:H'.n=H.n+1) (hnew:H'.at H.n=.cells c n 1) (hold:∀b,b≠H.n→H'.at b=H.at b){cap':Nat}(hcap:n≤cap'){rest:List Value}(hrest:rest.length=cap'-n) (e:TypeId) :
  ∃f',Step f H w f' H' (w.alloc (.cells (vs++rest).toArray e ((vs++rest).length,(vs++rest).length+1)))∧VR f' (.slice H.n 0 n n 1 false) (.slice (some ⟨w.heap.size,0,none⟩) n cap'):=by
 refine sH hr hn hnew hold (by simp[cF.sem,gB.own]) (vf:=λb=>.slice b 0 n n 1 false) ⟨(vs++rest).length,λi hi=>⟨?_,?_⟩⟩
 ·have hle:=f.oL hi w.heap.size 0 (vs++rest).length;refine⟨_,e,_,_,rfl,by simp,by simp[hlen],λj a hj=>?_,λ_ j hj=>by rw[az.oe]at hj;rw[az.gI];omega,λh=>absurd h (by omega)⟩;obtain⟨h1,v,h2,h3⟩:=hc j a hj;refine⟨h1,v,?_,h3.up hle⟩;rw[az.gI,Nat.zero_add];simp only[List.getElem?_toArray];rw[List.getElem?_append_left (by omega),h2]
 ·have:=VR.slice (f:=f.ext i w.heap.size 0 (vs++rest).length) i 0 n n 1 false cap' 0 (az.od _ _ _ _ _) (Nat.le_refl _) hcap (λ_=>by rw[az.gI]) (λ_=>⟨rfl,by
   rw[az.oe,List.length_append,hlen,hrest];omega⟩)
  rw[az.gH]at this;exact this
theorem aeJ{P:Program}{D:Nat}{hs:Hs D}{H:AH}(hr:aY hs H){o:Oper}{s t:TypeId}{x:Operand}(ho:o.op=.convert s t x)(ht:Ih P s t=true){ρ:Operand→AV}{kv:V→Hs D→Prop}{kp:AV→AH→Prop}
  (h:BU D (enc (ρ x)) hs kv):vi P o ρ H (λv H'=>∃hs',aY hs' H'∧kv (enc v) hs') kp:=by
 obtain⟨e,hs1,ht1,he1⟩:=aeI ht;have g:=LK hr h;obtain⟨n,y,e1,g⟩:=fk g;obtain⟨c,g,_,h2,h3⟩:=eV _ _ _ _ g;obtain⟨hm,g⟩:=an g;have hlen:=xl n y;rw[hlen,Nat.zero_add]at g h3;obtain⟨H',g,n1,n2,n3⟩:=jy g;refine .val _ H' g λf w a hr hg hst next Q hn=>?_;have hx:=hst x (by simp[ho,Op.operands]);rw[e1]at hx;obtain⟨ex,hlt⟩:=hx.iA;have hrun:=run_bytes_of_string (P:=P) w s t e (eT n y) hs1 ht1 he1;rw[yy]at hrun;have hvl:=yH f n y
 let vs:List Value:=(jb n y).map λ(b:UInt8)=>Value.int .u8 (b.toNat:Int)
 let rest:List Value:=List.replicate (grownCap w n 0 e-n) (Value.int .u8 0)
 have hrow:bytesRow (eT n y) (grownCap w n 0 e)=(vs++rest).toArray:=by
  apply Array.ext';simp[bytesRow,vs,rest]
 have hl1:vs.length=n:=by simp[vs,gu]
 obtain⟨f',s1,s2⟩:=SW (fG.drew hr (w.drawn+1)) (vs:=vs) hl1 (c:=c) (λj a hj=>by
  rcases Nat.lt_or_ge j n with hj'|hj'
  ·have:=h2 j (by rw[hlen];exact hj');rw[Nat.zero_add]at this;rw[this]at hj;obtain⟨v,y1,y2⟩:=hvl.get j a hj;exact⟨hj',v,y1,y2⟩
  ·rw[h3 j (by omega)]at hj;cases hj) n1 n2 n3 (grownCap_ge w n 0 e) (rest:=rest) (by simp[rest]) e
 have ad2:Did P o a w (.slice (some ⟨w.heap.size,0,none⟩) n (grownCap w n 0 e)) (({ w with drawn:=w.drawn+1 }:World).alloc (.cells (vs++rest).toArray e ((vs++rest).length,(vs++rest).length+1))):=by
  left;have e2:execOp a.eval o=(do pure (.value (←convert s t (a.eval x)))):=by simp only[execOp,ho]
  rw[e2,ex];simp only[Sem.run_bind,hrun,Result.andThen_ok,Sem.run_pure,hrow];simp only[List.size_toArray];rfl
 exact gV ad2 (hn f' _ _ (Step.trans hr (Step.drew hr (w.drawn+1)) s1) s2)
noncomputable section
abbrev fM(D:Nat):Type:=Nat→cS 1→(V→Hs D→Prop)→(V→Hs D→Prop)→Hs D→Prop
structure anh(d:Nat) where
 run:(cS 1→Prop)→cS d→Prop
def Ke(G d:Nat)(l:List Operand):anh d:=
 match l with
 |[]=>⟨λk _=>k λs=>s (λ_ _ _ _ _ _ _ _ _ h _=>h []) (λ_ _ _ _ _ _ _ _ _ h _=>h []) (λ_ _ _ _ _ _ _ _ _ h _=>h []) (λ_ _ _ _ _ _ _ _ _ h _=>h []) (λ_ _ _ _ _ _ _ _ _ h _=>h []) (λ_ _ _ _ _ _ _ _ _ h _=>h []) (λ_ _ _ _ _ _ _ _ _ h _=>h []) (λ_ _ _ _ _ _ _ _ _ h _=>h [])⟩
 |[x0]=>⟨λk e=>(aV G d x0).get (λv0=>k λs=>s v0 (λ_ _ _ _ _ _ _ _ _ h _=>h []) (λ_ _ _ _ _ _ _ _ _ h _=>h []) (λ_ _ _ _ _ _ _ _ _ h _=>h []) (λ_ _ _ _ _ _ _ _ _ h _=>h []) (λ_ _ _ _ _ _ _ _ _ h _=>h []) (λ_ _ _ _ _ _ _ _ _ h _=>h []) (λ_ _ _ _ _ _ _ _ _ h _=>h [])) e⟩
 |[x0,x1]=>⟨λk e=>(aV G d x0).get (λv0=>(aV G d x1).get (λv1=>k λs=>s v0 v1 (λ_ _ _ _ _ _ _ _ _ h _=>h []) (λ_ _ _ _ _ _ _ _ _ h _=>h []) (λ_ _ _ _ _ _ _ _ _ h _=>h []) (λ_ _ _ _ _ _ _ _ _ h _=>h []) (λ_ _ _ _ _ _ _ _ _ h _=>h []) (λ_ _ _ _ _ _ _ _ _ h _=>h [])) e) e⟩
 |[x0,x1,x2]=>⟨λk e=>(aV G d x0).get (λv0=>(aV G d x1).get (λv1=>(aV G d x2).get (λv2=>k λs=>s v0 v1 v2 (λ_ _ _ _ _ _ _ _ _ h _=>h []) (λ_ _ _ _ _ _ _ _ _ h _=>h []) (λ_ _ _ _ _ _ _ _ _ h _=>h []) (λ_ _ _ _ _ _ _ _ _ h _=>h []) (λ_ _ _ _ _ _ _ _ _ h _=>h [])) e) e) e⟩
 |[x0,x1,x2,x3]=>⟨λk e=>(aV G d x0).get (λv0=>(aV G d x1).get (λv1=>(aV G d x2).get (λv2=>(aV G d x3).get (λv3=>k λs=>s v0 v1 v2 v3 (λ_ _ _ _ _ _ _ _ _ h _=>h []) (λ_ _ _ _ _ _ _ _ _ h _=>h []) (λ_ _ _ _ _ _ _ _ _ h _=>h []) (λ_ _ _ _ _ _ _ _ _ h _=>h [])) e) e) e) e⟩
 |[x0,x1,x2,x3,x4]=>⟨λk e=>(aV G d x0).get (λv0=>(aV G d x1).get (λv1=>(aV G d x2).get (λv2=>(aV G d x3).get (λv3=>(aV G d x4).get (λv4=>k λs=>s v0 v1 v2 v3 v4 (λ_ _ _ _ _ _ _ _ _ h _=>h []) (λ_ _ _ _ _ _ _ _ _ h _=>h []) (λ_ _ _ _ _ _ _ _ _ h _=>h [])) e) e) e) e) e⟩
 |[x0,x1,x2,x3,x4,x5]=>⟨λk e=>(aV G d x0).get (λv0=>(aV G d x1).get (λv1=>(aV G d x2).get (λv2=>(aV G d x3).get (λv3=>(aV G d x4).get (λv4=>(aV G d x5).get (λv5=>k λs=>s v0 v1 v2 v3 v4 v5 (λ_ _ _ _ _ _ _ _ _ h _=>h []) (λ_ _ _ _ _ _ _ _ _ h _=>h [])) e) e) e) e) e) e⟩
 |[x0,x1,x2,x3,x4,x5,x6]=>⟨λk e=>(aV G d x0).get (λv0=>(aV G d x1).get (λv1=>(aV G d x2).get (λv2=>(aV G d x3).get (λv3=>(aV G d x4).get (λv4=>(aV G d x5).get (λv5=>(aV G d x6).get (λv6=>k λs=>s v0 v1 v2 v3 v4 v5 v6 (λ_ _ _ _ _ _ _ _ _ h _=>h [])) e) e) e) e) e) e) e⟩
 |[x0,x1,x2,x3,x4,x5,x6,x7]=>⟨λk e=>(aV G d x0).get (λv0=>(aV G d x1).get (λv1=>(aV G d x2).get (λv2=>(aV G d x3).get (λv3=>(aV G d x4).get (λv4=>(aV G d x5).get (λv5=>(aV G d x6).get (λv6=>(aV G d x7).get (λv7=>k λs=>s v0 v1 v2 v3 v4 v5 v6 v7) e) e) e) e) e) e) e) e⟩
 |_=>⟨λ_ _=>False⟩
def gA(l:List AV):Nat→VB:=@List.rec AV (λ_=>Nat→VB) (λ_=>⟨(λ_ _ _ _ _ _ _ _ _ h _=>h [])⟩) (λa _ ih n=>@Nat.rec (λ_=>VB) (kA a) (λm _=>ih m) n) l
def uE(l:List AV)(k:cS 1→Prop):Prop:=bT (Nat.ble l.length 8) (k λs=>s (gA l 0).v (gA l 1).v (gA l 2).v (gA l 3).v (gA l 4).v (gA l 5).v (gA l 6).v (gA l 7).v)
structure Vr(D d:Nat) where
 run:(V→Hs D→Prop)→(V→Hs D→Prop)→fM D→cS d→Hs D→Prop
structure GuC(d:Nat) where
 run:Prop→Prop→cS d→Prop
def Mi(ops:Array Oper)(N d:Nat)(j:Nat)(want:Bool):GuC d:=
 match (ops[j]?).bind (·.dst)with
 |some t=>@Bool.rec (λ_=>GuC d) ⟨λ_ _ _=>False⟩ (@Bool.rec (λ_=>GuC d)
   ⟨λx y e=>(acc V d t).get (λv=>v y x N1 N1 N2 N2 N2 N6 NL (λ_=>y) NO) e⟩
   ⟨λx y e=>(acc V d t).get (λv=>v x y N1 N1 N2 N2 N2 N6 NL (λ_=>y) NO) e⟩ want) (Nat.ble (Nat.succ t) N)
 |none=>⟨λ_ _ _=>False⟩
def Mj(P:Program)(o:Oper):Bool:=match o.op with|.call c=>(match c.callee with|.value _=>true|_=>false)|.panic _=>true|.convert s t _=>Ih P s t|_=>false
section
variable (P:Program)(G D d:Nat)
def afJ(f:Operand)(l:List Operand)(ty:TypeId):Vr D d:=
 match f with
 |.func g=>@Bool.rec (λ_=>Vr D d) (@Bool.rec (λ_=>Vr D d) ⟨λ_ _ _ _ _=>False⟩ (match l with
   |[x,y]=>⟨λkv _ _ e h=>(aV G d x).get (λa=>(aV G d y).get (λb=>ixV a b λv=>kv v h) e) e⟩
   |_=>⟨λ_ _ _ _ _=>False⟩) (SV P g)) ⟨λkv kp C e h=>(Ke G d l).run (λa=>C g a kv kp h) e⟩ (fm P g)
 |f=>⟨λkv kp C e h=>(aV G d f).get (λv=>v False False N1 N1 N2 N2 N2 N6 NL NL (λa=>yM a λg x y=>bT (fm P g) ((kT G d l).run (λl=>uE (x++(l++y)) λa=>C g a kv kp h) e))) e⟩
def vt(o:Oper):Vr D d:=
 match o.op with
 |.call c=>(match c.callee with
  |.value f=>afJ P G D d f c.args.toList o.type
  |_=>⟨λkv _ _ e h=>(opC P G D d o).run kv e h⟩)
 |.panic x=>⟨λ_ kp _ e h=>(aV G d x).get (λv=>v False False N1 N1 N2 N2 N2 N6 NL NL (λa=>HQ a (kp v h))) e⟩
 |.convert s t x=>@Bool.rec (λ_=>Vr D d) ⟨λkv _ _ e h=>(opC P G D d o).run kv e h⟩ ⟨λkv _ _ e h=>(aV G d x).get (λv=>BU D v h kv) e⟩ (Ih P s t)
 |_=>⟨λkv _ _ e h=>(opC P G D d o).run kv e h⟩
end
abbrev Fx(D d:Nat):Type:=(fM D→(cS d→List bO→Hs D→Prop)→(V→cS d→List bO→Hs D→Prop)→List bO→Prop)→Prop
abbrev Kn(D d:Nat):Type:=Fx D d→cS d→Hs D→Prop
def rA{D d:Nat}(C:fM D)(kr:cS d→List bO→Hs D→Prop)(kp:V→cS d→List bO→Hs D→Prop)(ds:List bO):Fx D d:=λs=>s C kr kp ds
structure rB(D d:Nat) where
 run:Kn D d→Fx D d→cS d→Hs D→Prop
section
variable (P:Program)(G D N d:Nat)
def Vs(o:Oper)(f:Operand)(l:List Operand)(rest:rB D d):rB D d:=
 ⟨λkn F e h=>F λC kr kp ds=>(aV G d f).get (λv=>v False False N1 N1 N2 N2 N2 N6 NL NL (λa=>yM a λg x y=>bT (fm P g) ((kT G d l).run (λl=>(ik N d o.dst).run (λ_ _ _ _ _ _ _ _ _ h _=>h []) (λe=>rest.run kn (λs=>s C kr kp (⟨g,x++(l++y)⟩::ds)) e h) e) e))) e⟩
def vV(ops:Array Oper)(l:List Oper):rB D d:=
 @List.rec Oper (λ_=>rB D d) ⟨λkn F e h=>kn F e h⟩
  (λo _ ih=>match o.guard with
   |none=>(match o.op with
    |.defer c=>(match c.callee with|.value f=>Vs P G D N d o f c.args.toList ih|_=>⟨λ_ _ _ _=>False⟩)
    |_=>@Bool.rec (λ_=>rB D d)
      ⟨λkn F e h=>(opC P G D d o).run (λv h=>(ik N d o.dst).run v (λe=>ih.run kn F e h) e) e h⟩
      ⟨λkn F e h=>F λC _ kp ds=>(vt P G D d o).run (λv h=>(ik N d o.dst).run v (λe=>ih.run kn F e h) e) (λv h=>kp v e ds h) C e h⟩ (Mj P o))
   |some (j,want)=>@Bool.rec (λ_=>rB D d) (@Bool.rec (λ_=>rB D d)
      ⟨λkn F e h=>(Mi ops N d j want).run ((opC P G D d o).run (λv h=>(ik N d o.dst).run v (λe=>ih.run kn F e h) e) e h) ((ik N d o.dst).run (λ_ _ _ _ _ _ _ _ _ h _=>h []) (λe=>ih.run kn F e h) e) e⟩
      ⟨λkn F e h=>(Mi ops N d j want).run (F λC _ kp ds=>(vt P G D d o).run (λv h=>(ik N d o.dst).run v (λe=>ih.run kn F e h) e) (λv h=>kp v e ds h) C e h) ((ik N d o.dst).run (λ_ _ _ _ _ _ _ _ _ h _=>h []) (λe=>ih.run kn F e h) e) e⟩ (Mj P o))
      ⟨λ_ _ _ _=>False⟩ (lE o)) l
end
end
structure qQ(a:cS 1)(args:List AV):Prop where
 le:args.length≤8
 tr:TR (λv a=>v=enc a) 1 a (λi=>args.getD i bN)
def hV(P:Program){D:Nat}(C:fM D):Prop:=∀g args a kr kp (hs:Hs D) H,fm P g=true→qQ a args→aY hs H→C g a kr kp hs→
 ∃o H',(∃hs',aY hs' H'∧match o with|.ret v=>kr (enc v) hs'|.cJ v=>kp (enc v) hs')∧∀f w (vs:Array Value),HR f H w→(∀g,g<P.globals.size→f.dom g∧f.blk g=g∧f.off g=0)→VL f args vs.toList→Calls P g vs w (pg f H w o H')
section
variable {P:Program}{D d N:Nat}{e:cS d}{env:List AV}{hs:Hs D}{H:AH}
theorem qQ.of{args:List AV}(hl:args.length≤8)(c:Nat→V)(hc:∀j,j<8→c j=enc (args.getD j bN)):qQ (nd c) args:=
 ⟨hl,c,rfl,λj hj=>(by
  show c j=enc (args.getD (j*8^0+0) bN);rw[Nat.pow_zero,Nat.mul_one,Nat.add_zero];exact hc j hj)⟩
theorem Vt{G:Nat}(he:dU N d e env){l:List Operand}{k:cS 1→Prop}(h:(Ke G d l).run k e):∃a,qQ a (l.map (bu G env))∧k a:=by
 have fin:∀(args:List AV),args.length≤8→k (nd λj=>enc (args.getD j bN))→∃a,qQ a args∧k a:=λargs hl h=>⟨_,qQ.of hl _ λj _=>rfl,h⟩
 refine fin _ ?_ ?_
 ·unfold Ke at h;split at h<;>first|exact(show False from h).elim|simp
 ·unfold Ke at h;split at h
  ·exact h
  ·exact(al he h)
  ·exact(al he (al he h))
  ·exact(al he (al he (al he h)))
  ·exact(al he (al he (al he (al he h))))
  ·exact(al he (al he (al he (al he (al he h)))))
  ·exact(al he (al he (al he (al he (al he (al he h))))))
  ·exact(al he (al he (al he (al he (al he (al he (al he h)))))))
  ·exact(al he (al he (al he (al he (al he (al he (al he (al he h))))))))
  ·exact(show False from h).elim
theorem SX:∀(l:List AV) (j:Nat),(gA l j).v=enc (l.getD j bN)
 |[],j=>by simp[gA,List.getD];rfl
 |a::l,0=>by simp[gA,List.getD];rfl
 |a::l,j+1=>by
  have:=SX l j;simpa[gA,List.getD]using this
theorem Jv{l:List AV}{k:cS 1→Prop}(h:uE l k):∃a,qQ a l∧k a:=by
 obtain⟨h1,h⟩:=an h;exact⟨nd λj=>(gA l j).v,qQ.of (Nat.le_of_ble_eq_true h1) _ λj _=>SX l j,h⟩
theorem aeK{a:AV}{O:AV→Prop}(h:enc a False False N1 N1 N2 N2 N2 N6 NL NL O):a.odd=true∧O a:=by
 have g:=dk h;rcases g with⟨_,g⟩|⟨_,g⟩|⟨n,_,g⟩|⟨n,_,g⟩|⟨c,n,_,_,g⟩|⟨n,x,_,g⟩|⟨b,o,_,g⟩|⟨b,o,l,c,s,x,_,g⟩|⟨l,_,g⟩|⟨l,_,g⟩|⟨h0,g⟩<;>first|exact g.elim|exact⟨h0,g⟩
abbrev KV(D:Nat)(kv:V→Hs D→Prop):AV→AH→Prop:=λv H'=>∃hs',aY hs' H'∧kv (enc v) hs'
theorem Ii{C:fM D}(hC:hV P C)(he:dU N d e env)(hr:aY hs H){o:Oper}{kv kp:V→Hs D→Prop}(h:(vt P P.globals.size D d o).run kv kp C e hs):vi P o (bu P.globals.size env) H (KV D kv) (KV D kp):=by
 have call:∀{c:Call}{fo:Operand}{g:Nat}{x y:List AV}{a:cS 1},o.op=.call c→c.callee=.value fo→bu P.globals.size env fo=.func g x y→fm P g=true→qQ a (x++(c.args.toList.map (bu P.globals.size env)++y))→
   C g a kv kp hs→vi P o (bu P.globals.size env) H (KV D kv) (KV D kp):=λ{c fo g x y a} ho hc hf hb ha h=>by
  have nc:∀{f:az}{act:Act}(w:World),Stand f o (bu P.globals.size env) act→∃vs:Array Value,VL f (x++(c.args.toList.map (bu P.globals.size env)++y)) vs.toList∧(execOp act.eval o).run P w=.ok (.enter g vs) w:=λ{f act} w hs=>by
   have hf':=hs fo (by simp[ho,Op.operands,Call.operands,hc]);rw[hf]at hf';have hv:VL f (c.args.toList.map (bu P.globals.size env)) (c.args.toList.map act.eval):=VL.iX λz hz=>hs z (by simp[ho,Op.operands,Call.operands,hc];right;simpa using hz);generalize hz:act.eval fo=z at hf';cases hf' with
   |func _ _ _ us ws h1 h2=>
    refine⟨us.toArray++c.args.map act.eval++ws.toArray,by simp only[Array.toList_append,Array.toList_map];rw[List.append_assoc];exact h1.append (hv.append h2),?_⟩;simp[execOp,ho,resolve,hc,hz,Deferred.ofValue,invoke,tm hb]
  obtain⟨co,H',⟨hs',y1,y2⟩,h2⟩:=hC g _ a _ _ hs H hb ha hr h;cases co with
  |ret v=>
   refine .val v H' ⟨hs',y1,y2⟩ λf w a hr hg hs next Q hn=>?_;obtain⟨vs,g1,g2⟩:=nc w hs;unfold Oper.wp;rw[g2,Oper.upon_enter];refine(h2 f w vs hr hg g1).mono λe w' hp=>?_;obtain⟨f',s,u,rfl,hu⟩:=hp;exact hn f' w' u s hu
  |cJ v=>
   refine .cJ v H' ⟨hs',y1,y2⟩ λf w a hr hg hs next Q hn=>?_;obtain⟨vs,g1,g2⟩:=nc w hs;unfold Oper.wp;rw[g2,Oper.upon_enter];refine(h2 f w vs hr hg g1).mono λe w' hp=>?_;obtain⟨f',s,ch,rfl,hu⟩:=hp;exact hn f' w' ch s hu
 unfold vt at h;split at h
 ·rename_i c ho;split at h
  ·rename_i fo hc;unfold afJ at h;split at h
   ·rename_i g;cases hb:fm P g with
    |false=>
     rw[hb]at h;cases hi:SV P g with
     |false=>rw[hi]at h;exact(show False from h).elim
     |true=>
      rw[hi]at h;simp only at h;split at h
      ·rename_i x y hl;obtain⟨v,h1,h2⟩:=ahg (P:=P) (al he (k:=λb=>ixV (enc (bu P.globals.size env x)) b λv=>kv v hs) (al he h));refine .val v H ⟨hs,hr,h1⟩ λf w a hr _ hst next Q hn=>?_;have hx:=hst x (by simp[ho,Op.operands,Call.operands,hc];right;have:x∈c.args.toList:=(by rw[hl];simp);simpa using this);have hy:=hst y (by simp[ho,Op.operands,Call.operands,hc];right;have:y∈c.args.toList:=(by rw[hl];simp);simpa using this);obtain⟨u,g1,g2⟩:=h2 f w _ _ hx hy;refine gV (.inl ?_) (hn f w u (Step.refl hr) g2);have e1:c.args.map a.eval = #[a.eval x,a.eval y]:=by apply Array.ext';rw[Array.toList_map,hl];rfl
       have e2:(execOp a.eval o).run P w=(callFunc g #[a.eval x,a.eval y]).run P w:=by
        simp[execOp,ho,resolve,hc,Act.eval,Deferred.ofValue,invoke,e1]
       rw[e2,aeH hi,g1];rfl
      ·exact(show False from h).elim
    |true=>
     rw[hb]at h;obtain⟨a,ha,h⟩:=Vt he h;exact call (x:=[]) (y:=[]) ho hc rfl hb (by simpa using ha) h
   ·rename_i fo hne;obtain⟨_,h⟩:=aeK (al he h);obtain⟨g,x,y,hf,h⟩:=sK h;obtain⟨hb,h⟩:=an h;obtain⟨a,ha,h⟩:=Jv (kU he _ h);exact call ho hc hf hb ha h
  ·exact nA (zm he hr h)
 ·rename_i x ho;have h':=al he h;obtain⟨_,h1⟩:=aeK h';refine uy (C:=λ_ _ _ _=>False) (λ_ _ _ _ _ h=>h.elim) (G:=P.globals.size) ?_;unfold tj;rw[ho];simp only;generalize bu P.globals.size env x=a at h1;cases a<;>first|exact h1.elim|exact⟨hs,hr,h1⟩
 ·rename_i s t x ho;cases hb:Ih P s t with
  |false=>rw[hb]at h;exact nA (zm he hr h)
  |true=>rw[hb]at h;exact aeJ hr ho hb (al he h)
 ·exact nA (zm he hr h)
theorem Ij(he:dU N d e env){ops:Array Oper}{j:Nat}{want:Bool}{x y:Prop}(h:(Mi ops N d j want).run x y e):yN (mf ops env j) want x y:=by
 unfold Mi at h;split at h
 ·rename_i t ht;cases hb:Nat.ble (Nat.succ t) N with
  |false=>rw[hb]at h;exact(show False from h).elim
  |true=>
   rw[hb]at h;have htl:t<env.length:=Nat.lt_of_lt_of_le (Nat.le_of_ble_eq_true hb) he.lo;have hg:mf ops env j=env.getD t bN:=by
    unfold mf;rw[ht];simp[List.getD_eq_getElem?_getD,htl]
   rw[hg];cases want with
   |true=>
    obtain⟨_,v,rfl,hk⟩:=mS d he.tr h;have g:=dk hk;rcases g with⟨e1,g⟩|⟨e1,g⟩|⟨n,_,g⟩|⟨n,_,g⟩|⟨c,n,_,_,g⟩|⟨n,x,_,g⟩|⟨b,o,_,g⟩|⟨b,o,l,c,s,x,_,g⟩|⟨l,_,g⟩|⟨l,e1,g⟩|⟨h0,g⟩<;>first|exact g.elim|(rw[e1];exact g)
   |false=>
    obtain⟨_,v,rfl,hk⟩:=mS d he.tr h;have g:=dk hk;rcases g with⟨e1,g⟩|⟨e1,g⟩|⟨n,_,g⟩|⟨n,_,g⟩|⟨c,n,_,_,g⟩|⟨n,x,_,g⟩|⟨b,o,_,g⟩|⟨b,o,l,c,s,x,_,g⟩|⟨l,_,g⟩|⟨l,e1,g⟩|⟨h0,g⟩<;>first|exact g.elim|(rw[e1];exact g)
 ·exact(show False from h).elim
def KS(N:Nat)(kn:Kn D d)(kx kg:Nat→Kn D d)(C:fM D)(kr:cS d→List bO→Hs D→Prop)(kp:V→cS d→List bO→Hs D→Prop):KT:=λo env ds H=>∃e hs,dU N d e env∧aY hs H∧match o with
 |.normal=>kn (rA C kr kp ds) e hs
 |.exit i=>kx i (rA C kr kp ds) e hs
 |.goto l=>kg l (rA C kr kp ds) e hs
 |.ret=>kr e ds hs
 |.cJ v=>kp (enc v) e ds hs
theorem Dm{C:fM D}(hC:hV P C){kn:Kn D d}{kx kg:Nat→Kn D d}{kr:cS d→List bO→Hs D→Prop}{kp:V→cS d→List bO→Hs D→Prop}{ops:Array Oper} :
  ∀(l:List Oper){e:cS d}{env:List AV}{ds:List bO}{hs:Hs D}{H:AH},dU N d e env→aY hs H→(vV P P.globals.size D N d ops l).run kn (rA C kr kp ds) e hs→
   fX P env ds H (KS N kn kx kg C kr kp) λa w Q=>wpList P ops Q l a w
 |[],e,env,ds,hs,H,he,hr,h=>⟨.normal,env,ds,H,⟨e,hs,he,hr,h⟩,λf w a hr ha hd Q hQ=>wpList_nil (hQ _ _ _ ⟨f,Step.refl hr,ha,hd,rfl⟩)⟩
 |o::rest,e,env,ds,hs,H,he,hr,h=>by
  have next:∀{v:AV}{H':AH},KV D (λv h=>(ik N d o.dst).run v (λe=>(vV P P.globals.size D N d ops rest).run kn (rA C kr kp ds) e h) e) v H'→fX P (bU env o.dst v) ds H' (KS N kn kx kg C kr kp) λa w Q=>wpList P ops Q rest a w:=λ{v H'} h=>by
   obtain⟨hs',hr',h⟩:=h;obtain⟨e',he',h⟩:=jz he h;exact Dm hC rest he' hr' h
  have cJ:∀{v:AV}{H':AH},KV D (λv h=>kp v e ds h) v H'→KS N kn kx kg C kr kp (.cJ v) env ds H':=λ{v H'} h=>by
   obtain⟨hs',hr',h⟩:=h;exact⟨e,hs',he,hr',h⟩
  have go:(@Bool.rec (λ_=>rB D d)
      ⟨λkn F e h=>(opC P P.globals.size D d o).run (λv h=>(ik N d o.dst).run v (λe=>(vV P P.globals.size D N d ops rest).run kn F e h) e) e h⟩
      ⟨λkn F e h=>F λC _ kp ds=>(vt P P.globals.size D d o).run (λv h=>(ik N d o.dst).run v (λe=>(vV P P.globals.size D N d ops rest).run kn F e h) e) (λv h=>kp v e ds h) C e h⟩ (Mj P o)).run kn (rA C kr kp ds) e hs→
     (∀f a,AR P f env a→Region.wanted o (yielded ops a.tmps)=true)→fX P env ds H (KS N kn kx kg C kr kp) λa w Q=>wpList P ops Q (o::rest) a w:=λh hw=>by
   cases hv:Mj P o with
   |false=>
    rw[hv]at h;exact fX.opV (nA (kp:=λv H=>KS N kn kx kg C kr kp (.cJ v) env ds H) (zm he hr h)) (λv H' hk=>next hk) (λf a w Q ha hh=>mP (hw f a ha) hh)
   |true=>
    rw[hv]at h;refine fX.opV (Vu (λ_ _ h=>h) (λv H' h=>cJ h) (Ii hC he hr h)) (λv H' hk=>next hk) (λf a w Q ha hh=>mP (hw f a ha) hh)
  have h:(match o.guard with
   |none=>(match o.op with
    |.defer c=>(match c.callee with|.value f=>Vs P P.globals.size D N d o f c.args.toList (vV P P.globals.size D N d ops rest)|_=>⟨λ_ _ _ _=>False⟩)
    |_=>@Bool.rec (λ_=>rB D d)
      ⟨λkn F e h=>(opC P P.globals.size D d o).run (λv h=>(ik N d o.dst).run v (λe=>(vV P P.globals.size D N d ops rest).run kn F e h) e) e h⟩
      ⟨λkn F e h=>F λC _ kp ds=>(vt P P.globals.size D d o).run (λv h=>(ik N d o.dst).run v (λe=>(vV P P.globals.size D N d ops rest).run kn F e h) e) (λv h=>kp v e ds h) C e h⟩ (Mj P o))
   |some (j,want)=>@Bool.rec (λ_=>rB D d) (@Bool.rec (λ_=>rB D d)
      ⟨λkn F e h=>(Mi ops N d j want).run ((opC P P.globals.size D d o).run (λv h=>(ik N d o.dst).run v (λe=>(vV P P.globals.size D N d ops rest).run kn F e h) e) e h) ((ik N d o.dst).run (λ_ _ _ _ _ _ _ _ _ h _=>h []) (λe=>(vV P P.globals.size D N d ops rest).run kn F e h) e) e⟩
      ⟨λkn F e h=>(Mi ops N d j want).run (F λC _ kp ds=>(vt P P.globals.size D d o).run (λv h=>(ik N d o.dst).run v (λe=>(vV P P.globals.size D N d ops rest).run kn F e h) e) (λv h=>kp v e ds h) C e h) ((ik N d o.dst).run (λ_ _ _ _ _ _ _ _ _ h _=>h []) (λe=>(vV P P.globals.size D N d ops rest).run kn F e h) e) e⟩ (Mj P o))
      ⟨λ_ _ _ _=>False⟩ (lE o):rB D d).run kn (rA C kr kp ds) e hs:=h
  split at h
  ·rename_i hg;have hw:∀t,Region.wanted o t=true:=λt=>by simp[Region.wanted,hg]
   split at h
   ·rename_i c ho;split at h
    ·rename_i fo hc;obtain⟨_,h⟩:=aeK (al he h);obtain⟨g,x,y,hf,h⟩:=sK h;obtain⟨hb,h⟩:=an h;obtain⟨e',he',h⟩:=jz (a:=bN) he (kU he _ h);obtain⟨ot,env',ds',H2,h1,h2⟩:=Dm hC (kx:=kx) (kg:=kg) rest he' hr h;refine⟨ot,env',ds',H2,h1,λf w a hr ha hd Q hQ=>mP (hw _) ?_⟩;obtain⟨d',g1,g2⟩:=Lh ho hc ha hf w;unfold Oper.wp;rw[g1,Oper.upon_defer];have ha':AR P f env { a with defers:=d'::a.defers }:=ha.defers _;refine h2 f w _ hr (ha'.put o.dst (VR.undef f)) ?_ Q hQ;rw[put_defers];exact g2 ds hd
    ·exact(show False from h).elim
   ·exact go h λf a _=>hw _
  ·rename_i j want hg;cases hd:lE o with
   |true=>rw[hd]at h;exact(show False from h).elim
   |false=>
    rw[hd]at h;have skip:((ik N d o.dst).run (λ_ _ _ _ _ _ _ _ _ h _=>h []) (λe=>(vV P P.globals.size D N d ops rest).run kn (rA C kr kp ds) e hs) e)→(∀f a,AR P f env a→Region.wanted o (yielded ops a.tmps)=false)→
      fX P env ds H (KS N kn kx kg C kr kp) λa w Q=>wpList P ops Q (o::rest) a w:=λh hw=>by
     obtain⟨e',he',h⟩:=jz (a:=bN) he h;obtain⟨ot,env',ds',H2,h1,h2⟩:=Dm hC (kx:=kx) (kg:=kg) rest he' hr h;refine⟨ot,env',ds',H2,h1,λf w a hr ha hd Q hQ=>Bg (hw f a ha) ?_⟩;exact h2 f w _ hr (ha.put o.dst (VR.undef f)) (by rw[put_defers];exact hd) Q hQ
    cases hv:Mj P o with
    |false=>
     rw[hv]at h go;rcases HS (P:=P) hg (Ij he h)with⟨h,hw⟩|⟨h,hw⟩
     ·exact go h hw
     ·exact skip h hw
    |true=>
     rw[hv]at h go;rcases HS (P:=P) hg (Ij he h)with⟨h,hw⟩|⟨h,hw⟩
     ·exact go h hw
     ·exact skip h hw
 where
 Vu {o:Oper}{ρ:Operand→AV}{H:AH}{k k' kp kp':AV→AH→Prop}(h1:∀v H,k v H→k' v H) (h2:∀v H,kp v H→kp' v H) (h:vi P o ρ H k kp):vi P o ρ H k' kp':=by
  cases h with
  |val v H' h g=>exact .val v H' (h1 _ _ h) g
  |cJ v H' h g=>exact .cJ v H' (h2 _ _ h) g
end
noncomputable section
abbrev sF(D:Nat):Type:=Hs D→Prop→Prop
structure tD(D d:Nat) where
 run:(List Nat→List (sF D)→cS d→Hs D→Prop)→fM D→(V→cS d→Hs D→Prop)→List (sF D)→cS d→Hs D→Prop
structure CkC(D:Nat) where
 run:List (sF D)→Hs D→Prop→Prop
def Jw(D:Nat)(mask:List Bool):CkC D:=
 @List.rec Bool (λ_=>CkC D) ⟨λ_ _ x=>x⟩ (λb _ ih=>@Bool.rec (λ_=>CkC D)
  ⟨λl h x=>@List.casesOn (sF D) (λ_=>Prop) l False λr rs=>r h (ih.run rs h x)⟩ ⟨λl h x=>@List.casesOn (sF D) (λ_=>Prop) l False λ_ rs=>ih.run rs h x⟩ b) mask
def rC(ms:List (Nat×List Nat))(i:Nat)(names:List Nat):List Bool:=names.map λj=>(ph ms i).contains j
def SY(D:Nat):TB (sE SO D):=@Nat.rec (λd=>TB (sE SO d)) ⟨λ_ _ O=>O .dead⟩ (λ_ ih=>⟨λs=>s ih.t ih.t ih.t ih.t ih.t ih.t ih.t ih.t⟩) D
def At(D:Nat):Hs D:=λs=>s (SY D).t 0
def afK(v w:V)(x:Prop):Prop:=dec v λa=>dec w λb=>bT (bw a b) x
section
variable (P:Program)(G D N d:Nat)(ops:Array Oper)(ms:List (Nat×List Nat))
def SZ(i:Nat)(o:Oper)(names:List Nat)(ih:List Nat→tD D d):tD D d:=
 @Bool.rec (λ_=>tD D d)
  (@Bool.rec (λ_=>tD D d)
   (@Bool.rec (λ_=>tD D d)
    (@Bool.rec (λ_=>tD D d)
     ⟨λK C kp chk e h=>(opC P G D d o).run (λv _=>(ik N d o.dst).run v (λe'=>(ih (i::names)).run K C kp ((λh1 x=>(opC P G D d o).run (λv2 _=>afK v2 v x) e h1)::chk) e' h) e) e h⟩
     ⟨λK C kp chk e h=>(opC P G D d o).run (λv _=>(ik N d o.dst).run v (λe=>(ih names).run K C kp chk e h) e) e (At D)⟩ (CS P o))
    ⟨λK C kp chk e h=>(opC P G D d o).run (λv h1=>(ik N d o.dst).run v (λe=>(ih names).run K C kp chk e h1) e) e h⟩ (iW o))
   (@Bool.rec (λ_=>tD D d)
    ⟨λK C kp chk e h=>(vt P G D d o).run (λv h1=>(Jw D (rC ms i names)).run chk h1 ((ik N d o.dst).run v (λe=>(ih names).run K C kp chk e h1) e)) (λv h1=>kp v e h1) C e h⟩
    ⟨λ_ _ _ _ _ _=>False⟩ (lE o)) (turns o))
  ⟨λK C kp chk e h=>(opC P G D d o).run (λv _=>(ik N d o.dst).run v (λe=>(ih names).run K C kp chk e h) e) e (At D)⟩ (eS ops i)
def anyS(i:Nat)(o:Oper)(names:List Nat)(ih:List Nat→tD D d):tD D d:=
 match o.guard with
 |none=>SZ P G D N d ops ms i o names ih
 |some (j,want)=>⟨λK C kp chk e h=>(Mi ops N d j want).run ((SZ P G D N d ops ms i o names ih).run K C kp chk e h) ((ik N d o.dst).run (λ_ _ _ _ _ _ _ _ _ h _=>h []) (λe=>(ih names).run K C kp chk e h) e) e⟩
def Ik(l:List Nat):List Nat→tD D d:=
 @List.rec Nat (λ_=>List Nat→tD D d) (λnames=>⟨λK _ _ chk e h=>K names chk e h⟩)
  (λi _ ih names=>match ops[i]? with|some o=>anyS P G D N d ops ms i o names ih|none=>⟨λ_ _ _ _ _ _=>False⟩) l
structure PoC(d:Nat) where
 run:(cS d→Prop)→cS d→Prop
def Tb(l:List Oper):PoC d:=@List.rec Oper (λ_=>PoC d) ⟨λk e=>k e⟩ (λo _ ih=>⟨λk e=>(ik N d o.dst).run (λ_ _ _ _ _ _ _ _ _ _ h=>h .cU) (λe=>ih.run k e) e⟩) l
structure PaC(D d:Nat) where
 run:(Hs D→Prop)→List Nat→List (sF D)→cS d→Hs D→Prop
def afL(o1 o2:Oper)(s1 s2:Nat)(ms1 ms2:List (Nat×List Nat)):PaC D d:=
 match o1.op,o2.op with
 |.store t1 a1 v1,.store t2 a2 v2=>⟨λk names chk e h=>
   (tC P G D d t1 a1 v1).run (λ_ h1=>(Jw D (rC ms1 s1 names)).run chk h1 ((tC P G D d t2 a2 v2).run (λ_ h12=>(Jw D (rC ms1 s2 names)).run chk h12
    ((tC P G D d t2 a2 v2).run (λ_ h2=>(Jw D (rC ms2 s2 names)).run chk h2 ((tC P G D d t1 a1 v1).run (λ_ h21=>(Jw D (rC ms2 s1 names)).run chk h21
     ((aV G d a1).get (λp=>dec p λp=>(aV G d a2).get (λq=>dec q λq=>vJ P t1 t2 p q (k h12)) e) e)) e h2)) e h)) e h1)) e h⟩
 |_,_=>⟨λ_ _ _ _ _=>False⟩
def Tc(pre:List Nat)(s1 s2:Nat):rB D d:=
 @Bool.rec (λ_=>rB D d) ⟨λ_ _ _ _=>False⟩ (match ops[s1]?,ops[s2]? with
  |some o1,some o2=>@Bool.rec (λ_=>rB D d) ⟨λ_ _ _ _=>False⟩ ⟨λkn F e h=>F λC _ kp ds=>(Ik P G D N d ops (tu ops) pre []).run
    (λnames chk e h=>(afL P G D d o1 o2 s1 s2 (masks (bX ops s2 s1) (pre++[s1,s2]) []) (masks (bX ops s1 s2) (pre++[s2,s1]) [])).run (λh=>kn F e h) names chk e h) C (λv e h=>(Tb N d ops.toList).run (λe=>kp v e ds h) e) [] e h⟩ (CX o1 o2)
  |_,_=>⟨λ_ _ _ _=>False⟩)
  (lF (bX ops s2 s1) (pre++[s1,s2]) (masks (bX ops s2 s1) (pre++[s1,s2]) [])&&lF (bX ops s1 s2) (pre++[s2,s1]) (masks (bX ops s1 s2) (pre++[s2,s1]) []))
def last2:List Nat→Option (List Nat×Nat×Nat)
 |[a,b]=>some ([],a,b)
 |x::l=>(match last2 l with|some (p,a,b)=>some (x::p,a,b)|none=>none)
 |[]=>none
def Td:rB D d:=
 @Bool.rec (λ_=>rB D d)
  (match last2 (canon ops)with|some (pre,s1,s2)=>Tc P G D N d ops pre s1 s2|none=>⟨λ_ _ _ _=>False⟩)
  ⟨λkn F e h=>F λC _ kp ds=>(Ik P G D N d ops (tu ops) (canon ops) []).run (λ_ _ e h=>kn F e h) C (λv e h=>(Tb N d ops.toList).run (λe=>kp v e ds h) e) [] e h⟩
  (lF ops (canon ops) (tu ops))
end
end
theorem Rf:∀(D:Nat) (m:Nat→cF),(∀i,m i=.dead)→TR rO D (SY D).t m
 |0,m,hm=>by show rO _ (m 0);rw[hm];rfl
 |D+1,m,hm=>⟨λ_=>(SY D).t,rfl,λj _=>Rf D _ λi=>hm _⟩
theorem Dn(D:Nat):aY (At D) mC:=⟨⟨(SY D).t,rfl,Rf D _ λi=>by simp[AH.at,mC,Bt.get?]⟩,Nat.zero_le _,Full.e⟩
theorem Vv{a b:AV}{x:Prop}(h:afK (enc a) (enc b) x):bw a b=true∧x:=an (eJ (k:=λb=>bT (bw a b) x) (eJ (k:=λa=>dec (enc b) λb=>bT (bw a b) x) h))
section
variable {P:Program}{D d N:Nat}{ops:Array Oper}{ms:List (Nat×List Nat)}
inductive Jx(P:Program)(ops:Array Oper){D:Nat}:List Nat→List (sF D)→List jr→Prop
 |nil:Jx P ops [] [] []
 |cons (j:Nat) (o:Oper) (env:List AV) (v:AV) (r:sF D) (ns:List Nat) (rs:List (sF D)) (cs:List jr):turns o=false→(∀hs1 H1 x,aY hs1 H1→r hs1 x→x∧gO P ops o env v H1)→Jx P ops ns rs cs→Jx P ops (j::ns) (r::rs) ((j,o,env,v)::cs)
theorem Jx.turns{ns:List Nat}{rs:List (sF D)}{cs:List jr}(h:Jx P ops ns rs cs):∀c∈cs,Go.X.turns c.2.1=false:=by
 induction h with
 |nil=>simp
 |cons j o env v r ns rs cs h1 h2 h3 ih=>
  intro c hc;rcases List.mem_cons.1 hc with rfl|hc
  ·exact h1
  ·exact ih c hc
theorem vW{ops':Array Oper}(L:Like ops ops')(hm:iH ops' ms){i:Nat}{hs1:Hs D}{H1:AH}(hr:aY hs1 H1){x:Prop}{ns:List Nat}{rs:List (sF D)}{cs:List jr}(hc:Jx P ops ns rs cs)
  (h:(Jw D (rC ms i ns)).run rs hs1 x):x∧∀c∈cs,oO ops' i c.1∨gO P ops' c.2.1 c.2.2.1 c.2.2.2 H1:=by
 induction hc with
 |nil=>exact⟨h,by simp⟩
 |cons j o env v r ns rs cs h1 h2 h3 ih=>
  have h:(@Bool.rec (λ_=>CkC D) ⟨λl h x=>@List.casesOn (sF D) (λ_=>Prop) l False λr rs=>r h ((Jw D (rC ms i ns)).run rs h x)⟩ ⟨λl h x=>@List.casesOn (sF D) (λ_=>Prop) l False λ_ rs=>(Jw D (rC ms i ns)).run rs h x⟩ ((ph ms i).contains j)).run (r::rs) hs1 x:=h;cases hb:(ph ms i).contains j with
  |true=>
   rw[hb]at h;obtain⟨g1,g2⟩:=ih h;refine⟨g1,λc hc=>?_⟩;rcases List.mem_cons.1 hc with rfl|hc
   ·exact .inl (hm _ _ (by simpa using hb))
   ·exact g2 c hc
  |false=>
   rw[hb]at h;obtain⟨h,hl⟩:=h2 _ _ _ hr h;obtain⟨g1,g2⟩:=ih h;refine⟨g1,λc hc=>?_⟩;rcases List.mem_cons.1 hc with rfl|hc
   ·exact .inr (L.look hl)
   ·exact g2 c hc
theorem ahh{e:cS d}{env:List AV}{hs:Hs D}{H:AH}(he:dU N d e env)(hr:aY hs H){o:Oper}(hl:iW o=true){k:V→Hs D→Prop}(h:(opC P P.globals.size D d o).run k e hs) :
  ∃ob vf,ay H ob (λb H'=>∃hs',aY hs' H'∧k (enc (vf b)) hs')∧ob.sem.own=true∧∀f w a,Stand f o (bu P.globals.size env) a→∃u obj,Did P o a w u (w.alloc obj)∧mA f w ob vf u obj:=by
 unfold iW at hl;split at hl
 ·rename_i t ho;unfold opC at h;rw[ho]at h;obtain⟨ob,vf,h1,h2,h3⟩:=yF (Dk hr h);refine⟨ob,vf,h1,h2,λf w a hs=>?_⟩;obtain⟨r,obj,g1,g2⟩:=h3 f w;exact⟨r,obj,bW (by simp only[execOp,ho]) g1,g2⟩
 ·rename_i t x ho;unfold opC at h;rw[ho]at h;obtain⟨ob,vf,h1,h2,h3⟩:=HJ (P:=P) (t:=t) (LW hr (al he h));refine⟨ob,vf,h1,h2,λf w a hs=>?_⟩;obtain⟨r,obj,g1,g2⟩:=h3 f w _ (hs x (by simp[ho,Op.operands]));exact⟨r,obj,bW (by simp only[execOp,ho]) g1,g2⟩
 ·rename_i t n ps ho;unfold opC at h;rw[ho]at h;obtain⟨ob,vf,h1,h2,h3⟩:=xk (Me he hr h);refine⟨ob,vf,h1,h2,λf w a hs=>?_⟩;obtain⟨r,obj,g1,g2⟩:=h3 f w a.eval (λx hx=>hs x.2 (by simp only[ho,Op.operands];simp;exact⟨x.1,by simpa using hx⟩));refine⟨r,obj,bW ?_ g1,g2⟩;simp only[execOp,ho];congr 2;apply Array.ext';simp
 ·rename_i t x y ho;unfold opC at h;rw[ho]at h;obtain⟨ob,vf,h1,h2,h3⟩:=yJ (Mf he hr h);refine⟨ob,vf,h1,h2,λf w a hs=>?_⟩;obtain⟨r,obj,g1,g2⟩:=h3 f w _ _ (hs x (by simp[ho,Op.operands])) (hs y (by simp[ho,Op.operands]));exact⟨r,obj,bW (by simp only[execOp,ho]) g1,g2⟩
 ·rename_i t r ho;unfold opC at h;rw[ho]at h;simp only at h;unfold L9 at h;split at h
  ·obtain⟨hs',H',z1,z2,_,_,_,z3⟩:=jY hr (o:=.map [] 0) rfl h;refine⟨.map [] 0,λb=>.map b,z1 _ ⟨hs',z2,z3⟩,rfl,λf w a hs=>?_⟩;exact⟨_,_,bW (by simp only[execOp,ho];rfl) (vg w),allocMap f w⟩
  ·exact(show False from h).elim
 ·cases hl
theorem xK{e:cS d}{env:List AV}{hs:Hs D}{H:AH}(he:dU N d e env)(hr:aY hs H){o:Oper}(ht:turns o=false)(hl:iW o=false){k:V→Hs D→Prop}(h:(opC P P.globals.size D d o).run k e hs) :
  ∃v,(∃hs',aY hs' H∧k (enc v) hs')∧gO P ops o env v H:=by
 cases zm he hr h with
 |same v h g=>exact⟨v,h,λf w a cG hr ha hs=>g f w a hr (hs.stand ha)⟩
 |new ob vf hl' h=>rw[hl]at hl';cases hl'
 |turn v H' h ht'=>rw[ht]at ht';cases ht'
theorem Te{i:Nat}{o:Oper}(ho:ops[i]? = some o)(h:eS ops i=true):turns o=false∧iW o=false:=by
 unfold eS at h;rw[ho]at h;simp only at h;split at h
 ·rename_i x e1 e2 e3 hop _ _;simp[turns,iW,hop]
 ·cases h
def KA(N:Nat)(P:Program)(ops:Array Oper)(K:List Nat→List (sF D)→cS d→Hs D→Prop):List jr→List AV→AH→Prop:=λcs env H=>∃ns rs e hs,Jx P ops ns rs cs∧dU N d e env∧aY hs H∧K ns rs e hs
def KPA(N:Nat)(kp:V→cS d→Hs D→Prop):AV→List AV→AH→Prop:=λv env H=>∃e hs,dU N d e env∧aY hs H∧kp (enc v) e hs
theorem nI{C:fM D}(hC:hV P C)(hm:iH ops ms){K:List Nat→List (sF D)→cS d→Hs D→Prop}{kp:V→cS d→Hs D→Prop} :
  ∀(l ns:List Nat){rs:List (sF D)}{cs:List jr}{e:cS d}{env:List AV}{hs:Hs D}{H:AH},Jx P ops ns rs cs→dU N d e env→aY hs H→(Ik P P.globals.size D N d ops ms l ns).run K C kp rs e hs→Came P ops l cs env H (KA N P ops K) (KPA N kp)
 |[],ns,rs,cs,e,env,hs,H,hc,he,hr,h=>.inl ⟨cs,env,H,⟨ns,rs,e,hs,hc,he,hr,h⟩,hc.turns,λ_ _ _ _ _ _ _ h=>h⟩
 |i::rest,ns,rs,cs,e,env,hs,H,hc,he,hr,h=>by
  have h:(match ops[i]? with|some o=>anyS P P.globals.size D N d ops ms i o ns (Ik P P.globals.size D N d ops ms rest)|none=>⟨λ_ _ _ _ _ _=>False⟩).run K C kp rs e hs:=h;split at h
  ·rename_i o ho;have key:eY P ops o env true→(SZ P P.globals.size D N d ops ms i o ns (Ik P P.globals.size D N d ops ms rest)).run K C kp rs e hs→Came P ops (i::rest) cs env H (KA N P ops K) (KPA N kp):=λhw h=>by
    unfold SZ at h;have still:(turns o=false∧iW o=false)→eS ops i=false→((opC P P.globals.size D d o).run (λv _=>(ik N d o.dst).run v (λe=>(Ik P P.globals.size D N d ops ms rest ns).run K C kp rs e hs) e) e (At D))→Came P ops (i::rest) cs env H (KA N P ops K) (KPA N kp):=λh1 hla h=>by
     obtain⟨v,⟨_,_,h⟩,g⟩:=xK (ops:=ops) he (Dn D) h1.1 h1.2 h;obtain⟨e',he',h⟩:=jz he h;exact(nI hC hm rest ns hc he' hr h).cons λops' L e l r en hh x=>.still v (e.trans ho) (by rw[L.late];exact hla) (L.want hw) (λH=>L.look λf w a cG _ ha hs=>g f w a cG (HRQ.empty f w) ha hs) x
    cases hla:eS ops i with
    |true=>
     rw[hla]at h;obtain⟨h1,h2⟩:=Te ho hla;obtain⟨v,⟨_,_,h⟩,g⟩:=xK (ops:=ops) he (Dn D) h1 h2 h;obtain⟨e',he',h⟩:=jz he h;refine(nI hC hm rest ns hc he' hr h).cons λops' L e l r en hh x=>.turn v H (e.trans ho) (by rw[L.fD e];exact yU hla) (L.want hw) (L.turn λf w a cG hr ha hs next Q hn=>?_) (.inl rfl) x;obtain⟨u,g1,g2⟩:=g f w a cG (HRQ.empty f w) ha hs;exact gV g1 (hn f w u (Step.refl hr) g2)
    |false=>
     rw[hla]at h;cases htn:turns o with
     |true=>
      rw[htn]at h;cases hd:lE o with
      |true=>rw[hd]at h;exact(show False from h).elim
      |false=>
       rw[hd]at h;cases Ii hC he hr h with
       |val v H1 h g=>
        obtain⟨hs1,hr1,h⟩:=h;obtain⟨h,hck⟩:=vW (.refl ops) hm hr1 hc h;obtain⟨e',he',h⟩:=jz he h;exact(nI hC hm rest ns hc he' hr1 h).cons λops' L e l r en hh x=>.turn v H1 (e.trans ho) (by rw[L.fD e];exact gQ ho htn) (L.want hw) (L.turn λf w a cG hr ha hs next Q hn=>g f w a hr ha.glob (hs.stand ha) next Q hn) (.inr λc hcm=>(hck c hcm).imp L.dep L.look) x
       |cJ v H1 h g=>
        obtain⟨hs1,hr1,h⟩:=h;exact .inr ⟨v,env,H1,⟨e,hs1,he,hr1,h⟩,λops' L hl tail=>.cJ v H1 ((hl i (by simp)).trans ho) (by rw[L.fD (hl i (by simp))];exact gQ ho htn) (L.want hw) (L.cJ λf w a cG hr ha hs next Q hn=>g f w a hr ha.glob (hs.stand ha) next Q hn)⟩
     |false=>
      rw[htn]at h;cases hlb:iW o with
      |true=>
       rw[hlb]at h;obtain⟨ob,vf,h,hown,g⟩:=ahh he hr hlb h;obtain⟨H1,⟨hs1,hr1,h⟩,g2,g3,g4⟩:=jy h;obtain⟨e',he',h⟩:=jz he h;exact(nI hC hm rest ns hc he' hr1 h).cons λops' L e l r en hh x=>.lay ob vf H1 (e.trans ho) (by rw[L.late];exact hla) (L.want hw) g2 g3 g4 (hr.full.dead (Nat.le_refl _)) hown (L.lay λf w a cG ha hs=>g f w a (hs.stand ha)) x
      |false=>
       rw[hlb]at h;cases hsb:CS P o with
       |true=>rw[hsb]at h;exact still ⟨htn,hlb⟩ hla h
       |false=>
        rw[hsb]at h;obtain⟨v,⟨_,_,h⟩,g⟩:=xK (ops:=ops) he hr htn hlb h;obtain⟨e',he',h⟩:=jz he h;refine(nI hC hm rest (i::ns) (.cons i o env v _ ns rs cs htn (λhs1 H1 x hr1 hx=>?_) hc) he' hr h).cons λops' L e l r en hh x=>.look v (e.trans ho) (by rw[L.late];exact hla) (L.want hw) (L.look g) x;obtain⟨v2,⟨_,_,hx⟩,g2⟩:=xK (ops:=ops) he hr1 htn hlb hx;obtain⟨h1,h2⟩:=Vv hx;rw[rl h1]at g2;exact⟨h2,g2⟩
   unfold anyS at h;split at h
   ·rename_i hg;exact key (.of_none hg) h
   ·rename_i j want hg;rcases eY.Ll hg (Ij he h)with⟨h,hw⟩|⟨h,hw⟩
    ·exact key hw h
    ·obtain⟨e',he',h⟩:=jz (a:=bN) he h;exact(nI hC hm rest ns hc he' hr h).cons λops' L e l r en hh x=>.skip (e.trans ho) (by rw[L.late];exact yV ho hg) (L.want hw) x
  ·exact(show False from h).elim
theorem zn:∀(l:List Oper){e:cS d}{env:List AV}{k:cS d→Prop},dU N d e env→(Tb N d l).run k e→∃e',dU N d e' (l.foldl (λe o=>bU e o.dst .cU) env)∧k e'
 |[],e,env,k,he,h=>⟨e,he,h⟩
 |o::r,e,env,k,he,h=>by
  obtain⟨e',he',h⟩:=jz (a:=.cU) he h;exact zn r he' h
theorem zo{ops:Array Oper}{j i:Nat}{env:List AV}:jO (bX ops j i) env=jO ops env:=by
 have h:∀(l:List Oper),l.foldl (λe o=>bU e o.dst .cU) env=(l.map Oper.dst).foldl (λe o=>bU e o .cU) env:=λl=>by rw[List.foldl_map]
 unfold jO;rw[h,h];congr 1;refine List.ext_getElem? λk=>?_;rw[List.getElem?_map,List.getElem?_map,Array.getElem?_toList,Array.getElem?_toList,dK];split
 ·cases ops[k]?<;>rfl
 ·rfl
theorem aeL(hmx:P.follows .mixedOrders=true){C:fM D}(hC:hV P C){kn:Kn D d}{kx kg:Nat→Kn D d}{kr:cS d→List bO→Hs D→Prop}{kp:V→cS d→List bO→Hs D→Prop}{pre:List Nat}{s1 s2:Nat}
  {e:cS d}{env:List AV}{ds:List bO}{hs:Hs D}{H:AH}(he:dU N d e env) (hr:aY hs H) (h:(Tc P P.globals.size D N d ops pre s1 s2).run kn (rA C kr kp ds) e hs){id:Nat} :
  fX P env ds H (KS N kn kx kg C kr kp) λa w Q=>(Code.region id ops true).wp P Q a w:=by
 unfold Tc at h;cases hok:(lF (bX ops s2 s1) (pre++[s1,s2]) (masks (bX ops s2 s1) (pre++[s1,s2]) [])&&lF (bX ops s1 s2) (pre++[s2,s1]) (masks (bX ops s1 s2) (pre++[s2,s1]) []))with
 |false=>rw[hok]at h;exact(show False from h).elim
 |true=>
  rw[hok]at h;rw[Bool.and_eq_true]at hok;obtain⟨ok1,ok2⟩:=hok;simp only at h;split at h
  case h_2=>exact(show False from h).elim
  rename_i o1 o2 ho1 ho2;cases hp:CX o1 o2 with
  |false=>rw[hp]at h;exact(show False from h).elim
  |true=>
   rw[hp]at h;have hms:iH ops (tu ops):=mh _ (iH.nil ops);have BI:iH (bX ops s2 s1) (masks (bX ops s2 s1) (pre++[s1,s2]) []):=mh _ (iH.nil _);have BJ:iH (bX ops s1 s2) (masks (bX ops s1 s2) (pre++[s2,s1]) []):=mh _ (iH.nil _);have S1:=ou BI ok1;have S2:=ou BJ ok2;have jV:s1≠s2∧s1∉pre∧s2∉pre:=by
    have:=S1.Ln;rw[List.nodup_append]at this;obtain⟨_,h2,h3⟩:=this;refine⟨by simpa using h2,λhp=>h3 s1 hp s1 (by simp) rfl,λhp=>h3 s2 hp s2 (by simp) rfl⟩
   have hl1:s1<ops.size:=by have:=S1.lt s1 (by simp);rwa [gY]at this
   have hl2:s2<ops.size:=by have:=S1.lt s2 (by simp);rwa [gY]at this
   rcases nI hC hms pre [] (.nil) he hr h with⟨chk,env',H0,hk,hct,g⟩|⟨v,env',H',hk,g⟩
   ·obtain⟨ns,rs,e',hs0,hck,he',hr0,hk⟩:=hk;simp only[CX,Bool.and_eq_true,Option.isNone_iff_eq_none]at hp;obtain⟨⟨⟨hd1,hd2⟩,hg1⟩,hg2⟩:=hp;unfold afL at hk;split at hk
    case h_2=>exact(show False from hk).elim
    rename_i t1 a1 v1 t2 a2 v2 e1 e2;have ht1:turns o1=true:=by simp[turns,e1]
    have ht2:turns o2=true:=by simp[turns,e2]
    have q11:(bX ops s2 s1)[s1]? = some o1:=by rw[dK,if_neg (Ne.symm jV.1),ho1]
    have q12:(bX ops s2 s1)[s2]? = some { o2 with after:=o2.after.push ⟨s1,.data⟩ }:=by rw[dK,if_pos rfl,ho2];rfl
    have q22:(bX ops s1 s2)[s2]? = some o2:=by rw[dK,if_neg jV.1,ho2]
    have UX:(bX ops s1 s2)[s1]? = some { o1 with after:=o1.after.push ⟨s2,.data⟩ }:=by rw[dK,if_pos rfl,ho1];rfl
    obtain⟨H1,⟨hs1,hr1,hk⟩,A1,T1⟩:=kP (ops:=bX ops s2 s1) e1 (qd he' hr0 hk);obtain⟨hk,C1⟩:=vW (gZ ops s2 s1) BI hr1 hck hk;obtain⟨bS,⟨aeM,ajk,hk⟩,A2,T2⟩:=kP (ops:=bX ops s2 s1) (o:={ o2 with after:=o2.after.push ⟨s1,.data⟩ }) e2 (qd he' hr1 hk);obtain⟨hk,C2⟩:=vW (gZ ops s2 s1) BI ajk hck hk;obtain⟨H2,⟨hs2,hr2,hk⟩,A3,T3⟩:=kP (ops:=bX ops s1 s2) e2 (qd he' hr0 hk);obtain⟨hk,C3⟩:=vW (gZ ops s1 s2) BJ hr2 hck hk;obtain⟨iO,⟨aoK,ani,hk⟩,A4,T4⟩:=kP (ops:=bX ops s1 s2) (o:={ o1 with after:=o1.after.push ⟨s2,.data⟩ }) e1 (qd he' hr2 hk);obtain⟨hk,C4⟩:=vW (gZ ops s1 s2) BJ ani hck hk;have hk:=eJ (k:=λq=>vJ P t1 t2 (bu P.globals.size env' a1) q (kn (rA C kr kp ds) e' aeM)) (al he' (eJ (k:=λp=>(aV P.globals.size d a2).get (λq=>dec q λq=>vJ P t1 t2 p q (kn (rA C kr kp ds) e' aeM)) e') (al he' hk)));obtain⟨hk,ad5⟩:=Bj hk A1 A2 A3 A4;have xv:∀i∈pre,(bX ops s2 s1)[i]? = ops[i]?:=λi hi=>by rw[dK,if_neg (λe:s2=i=>jV.2.2 (by rw[e];exact hi))]
    have xw:∀i∈pre,(bX ops s1 s2)[i]? = ops[i]?:=λi hi=>by rw[dK,if_neg (λe:s1=i=>jV.2.1 (by rw[e];exact hi))]
    have Lp:bU env' o1.dst bN=env':=by rw[hd1];rfl
    have Lq:bU env' o2.dst bN=env':=by rw[hd2];rfl
    have tr1:=g _ (gZ ops s2 s1) xv [s1,s2] none env' bS (.turn bN H1 q11 (gQ q11 ht1) (.of_none hg1) T1 (.inr C1)
     (by rw[Lp];exact .turn bN bS q12 (gQ q12 ht2) (.of_none hg2) T2 (.inr C2) (by show Tr P _ [] chk (bU env' o2.dst bN) bS none env' bS;rw[Lq];exact .nil _ _ _)))
    have tr2:=g _ (gZ ops s1 s2) xw [s2,s1] none env' iO (.turn bN H2 q22 (gQ q22 ht2) (.of_none hg2) T3 (.inr C3)
     (by rw[Lq];exact .turn bN iO UX (gQ UX ht1) (.of_none hg1) T4 (.inr C4) (by show Tr P _ [] chk (bU env' o1.dst bN) iO none env' iO;rw[Lp];exact .nil _ _ _)))
    refine⟨.normal,env',ds,bS,⟨e',aeM,he',ajk,hk⟩,λf w a hr ha hd Q hq=>wp_region_draw λt=>?_⟩;simp only[Region.schedule,hmx,Bool.true_or,if_true];have hv:=uB (ops:=ops) ops.size t (Array.replicate ops.size false);generalize hL:Region.linearise.go .any ops ops.size t (Array.replicate ops.size false) []=L at hv;show wpOps P ops Q (Region.linearise.go .any ops ops.size t (Array.replicate ops.size false) []) a _;rw[hL];rcases bef jV.1 L with hb|hb
    ·have w1:=kG S1 tr1 hr ha hd (Q:=Q) λa' w' hx=>hq _ _ _ hx;rw[gY]at w1;exact jL ((hv.bX (j:=s2) (i:=s1) hl1 (by simp) λL1 L2 e=>.inr (hb L1 L2 e)).wp _ _ w1)
    ·have w2:=kG S2 tr2 hr ha hd (Q:=Q) λa' w' hx=>hq _ _ _ (by
      unfold mg at hx ⊢;obtain⟨f',s,hx⟩:=hx;refine⟨f',?_,hx⟩;unfold Step at s ⊢;rw[ad5];exact s)
     rw[gY]at w2;exact jL ((hv.bX (j:=s1) (i:=s2) hl2 (by simp) λL1 L2 e=>.inr (hb L1 L2 e)).wp _ _ w2)
   ·obtain⟨e',hs',he',hr',hk⟩:=hk;obtain⟨e2,he2,hk⟩:=zn _ he' hk;have xv:∀i∈pre,(bX ops s2 s1)[i]? = ops[i]?:=λi hi=>by rw[dK,if_neg (λe:s2=i=>jV.2.2 (by rw[e];exact hi))]
    have xw:∀i∈pre,(bX ops s1 s2)[i]? = ops[i]?:=λi hi=>by rw[dK,if_neg (λe:s1=i=>jV.2.1 (by rw[e];exact hi))]
    have tr1:=g _ (gZ ops s2 s1) xv [s1,s2];have tr2:=g _ (gZ ops s1 s2) xw [s2,s1];refine⟨.cJ v,_,ds,H',⟨e2,hs',he2,hr',hk⟩,λf w a hr ha hd Q hq=>wp_region_draw λt=>?_⟩;simp only[Region.schedule,hmx,Bool.true_or,if_true];have hv:=uB (ops:=ops) ops.size t (Array.replicate ops.size false);generalize hL:Region.linearise.go .any ops ops.size t (Array.replicate ops.size false) []=L at hv;show wpOps P ops Q (Region.linearise.go .any ops ops.size t (Array.replicate ops.size false) []) a _;rw[hL];rcases bef jV.1 L with hb|hb
    ·have w1:=kG S1 tr1 hr ha hd (Q:=Q) λch a' w' hx=>hq _ _ _ (by rw[zo]at hx;exact hx);rw[gY]at w1;exact jL ((hv.bX (j:=s2) (i:=s1) hl1 (by simp) λL1 L2 e=>.inr (hb L1 L2 e)).wp _ _ w1)
    ·have w2:=kG S2 tr2 hr ha hd (Q:=Q) λch a' w' hx=>hq _ _ _ (by rw[zo]at hx;exact hx);rw[gY]at w2;exact jL ((hv.bX (j:=s1) (i:=s2) hl2 (by simp) λL1 L2 e=>.inr (hb L1 L2 e)).wp _ _ w2)
theorem aeN(hmx:P.follows .mixedOrders=true){C:fM D}(hC:hV P C){kn:Kn D d}{kx kg:Nat→Kn D d}{kr:cS d→List bO→Hs D→Prop}{kp:V→cS d→List bO→Hs D→Prop}
  {e:cS d}{env:List AV}{ds:List bO}{hs:Hs D}{H:AH}(he:dU N d e env) (hr:aY hs H) (h:(Td P P.globals.size D N d ops).run kn (rA C kr kp ds) e hs){id:Nat} :
  fX P env ds H (KS N kn kx kg C kr kp) λa w Q=>(Code.region id ops true).wp P Q a w:=by
 unfold Td at h;cases hok:lF ops (canon ops) (tu ops)with
 |false=>
  rw[hok]at h;simp only at h;split at h
  ·rename_i pre s1 s2 hl;exact aeL hmx hC he hr h
  ·exact(show False from h).elim
 |true=>
  rw[hok]at h;have hms:iH ops (tu ops):=mh _ (iH.nil ops);have S:=ou hms hok;rcases nI hC hms _ [] (.nil) he hr h with⟨Lm,env',H',hk,_,g⟩|⟨v,env',H',hk,g⟩
  ·obtain⟨ns,rs,e',hs',_,he',hr',hk⟩:=hk;have tr:=g ops (.refl ops) (λ_ _=>rfl) [] _ _ _ (.nil _ _ _);rw[List.append_nil]at tr;exact⟨.normal,env',ds,H',⟨e',hs',he',hr',hk⟩,λf w a hr ha hd Q hq=>wp_region_any hmx (kG S tr hr ha hd λa' w' hx=>hq _ _ _ hx)⟩
  ·obtain⟨e',hs',he',hr',hk⟩:=hk;obtain⟨e2,he2,hk⟩:=zn _ he' hk;have tr:=g ops (.refl ops) (λ_ _=>rfl) [];rw[List.append_nil]at tr;exact⟨.cJ v,_,ds,H',⟨e2,hs',he2,hr',hk⟩,λf w a hr ha hd Q hq=>wp_region_any hmx (kG S tr hr ha hd λch a' w' hx=>hq _ _ _ hx)⟩
end
noncomputable section
abbrev Xx(D d:Nat):Type:=((Nat→Kn D d)→(Nat→Kn D d)→Prop)→Prop
def Rg{D d:Nat}(kx kg:Nat→Kn D d):Xx D d:=λs=>s kx kg
structure Cl(D d:Nat) where
 run:Fx D d→Xx D d→Kn D d→cS d→Hs D→Prop
structure LbC(D d:Nat) where
 run:(Cl D d→Prop)→Prop→Prop
section
variable {D d:Nat}
def Tf(M:Nat)(c:Cl D d)(X:Xx D d):Kn D d:=@Nat.rec (λ_=>Kn D d) (λ_ _ _=>False) (λ_ ih F e h=>c.run F X ih e h) M
def lbC(f:Code→Cl D d)(r:Option Code):LbC D d:=match r with|some r=>⟨λk _=>k (f r)⟩|none=>⟨λ_ x=>x⟩
def Mk(M:Nat)(lb:Nat→LbC D d)(X:Xx D d)(kn:Kn D d):Cl D d→Kn D d:=
 @Nat.rec (λ_=>Cl D d→Kn D d) (λ_ _ _ _=>False) (λ_ ih r F e h=>r.run F (λs=>X λkx kg=>s kx (λl F e h=>(lb l).run (λr=>ih r F e h) (kg l F e h))) kn e h) M
end
variable (P:Program)(G D N d M:Nat)
def afM(ih:Code→Cl D d)(c:Code):Cl D d:=
 match c with
 |.skip=>⟨λF _ kn e h=>kn F e h⟩
 |.region _ ops draw=>@Bool.rec (λ_=>Cl D d) ⟨λF _ kn e h=>(vV P G D N d ops ops.toList).run kn F e h⟩ ⟨λF _ kn e h=>(Td P G D N d ops).run kn F e h⟩ draw
 |.seq a b=>⟨λF X kn e h=>(ih a).run F X (λF e h=>(ih b).run F X kn e h) e h⟩
 |.cond x a b=>⟨λF X kn e h=>(aV G d x).get (λv=>v ((ih a).run F X kn e h) ((ih b).run F X kn e h) N1 N1 N2 N2 N2 N6 NL NL NO) e⟩
 |.block id c=>⟨λF X kn e h=>X λkx kg=>(ih c).run F (λs=>s (λi F e h=>bI (Nat.beq i id) (kn F e h) (kx i F e h)) kg) kn e h⟩
 |.loop c=>⟨λF X _ e h=>Tf M (ih c) X F e h⟩
 |.exit id=>⟨λF X _ e h=>X λkx _=>kx id F e h⟩
 |.goto l=>⟨λF X _ e h=>X λ_ kg=>kg l F e h⟩
 |.label _=>⟨λF _ kn e h=>kn F e h⟩
 |.scope c=>⟨λF X kn e h=>Mk M (λl=>lbC ih (findLabel c l)) X kn (ih c) F e h⟩
 |.ret=>⟨λF _ _ e h=>F λ_ kr _ ds=>kr e ds h⟩
 |_=>⟨λ_ _ _ _ _=>False⟩
def Tg(n:Nat):Code→Cl D d:=@Nat.rec (λ_=>Code→Cl D d) (λ_=>⟨λ_ _ _ _ _=>False⟩) (λ_ ih=>afM P G D N d M ih) n
end
section
variable {P:Program}{D N d M:Nat}
def Ml(P:Program)(N:Nat)(C:fM D)(kr:cS d→List bO→Hs D→Prop)(kp:V→cS d→List bO→Hs D→Prop)(cl:Cl D d)(c:Code):Prop:=
 ∀(kx kg:Nat→Kn D d) (kn:Kn D d) ds e env hs H,dU N d e env→aY hs H→cl.run (rA C kr kp ds) (Rg kx kg) kn e hs→fX P env ds H (KS N kn kx kg C kr kp) λa w Q=>c.wp P Q a w
variable {C:fM D}{kr:cS d→List bO→Hs D→Prop}{kp:V→cS d→List bO→Hs D→Prop}
def KN(N:Nat)(kn:Kn D d)(C:fM D)(kr:cS d→List bO→Hs D→Prop)(kp:V→cS d→List bO→Hs D→Prop):List AV→List bO→AH→Prop:=λenv ds H=>∃e hs,dU N d e env∧aY hs H∧kn (rA C kr kp ds) e hs
theorem Rh(kn kn':Kn D d)(kx kg:Nat→Kn D d):KS N kn kx kg C kr kp=afv (KN N kn C kr kp) (KS N kn' kx kg C kr kp):=by
 funext o env ds H;cases o<;>rfl
theorem Mm{cl:Cl D d}{c:Code}(hc:Ml P N C kr kp cl c)(kx kg:Nat→Kn D d)(kn:Kn D d):∀(M:Nat) ds e env hs H,dU N d e env→aY hs H→Tf M cl (Rg kx kg) (rA C kr kp ds) e hs→fX P env ds H (KS N kn kx kg C kr kp) λa w Q=>LI P c Q M a w
 |0,_,_,_,_,_,_,_,h=>h.elim
 |M+1,ds,e,env,hs,H,he,hr,h=>by
  have g:=hc kx kg (Tf M cl (Rg kx kg)) ds e env hs H he hr h;rw[Rh _ kn]at g;exact Li g (λenv ds H ⟨e,hs,he,hr,h⟩=>Mm hc kx kg kn M ds e env hs H he hr h) (λ_ _ _ h=>h)
theorem Jy{ih:Code→Cl D d}(hi:∀c,Ml P N C kr kp (ih c) c)(c:Code)(kx kg:Nat→Kn D d)(kn:Kn D d):∀(M:Nat) (r:Code) ds e env hs H,dU N d e env→aY hs H→
  Mk M (λl=>lbC ih (findLabel c l)) (Rg kx kg) kn (ih r) (rA C kr kp ds) e hs→fX P env ds H (KS N kn kx kg C kr kp) λa w Q=>yj P c Q M r a w
 |0,_,_,_,_,_,_,_,_,h=>h.elim
 |M+1,r,ds,e,env,hs,H,he,hr,h=>by
  have g:=hi r kx (λl F e h=>(lbC ih (findLabel c l)).run (λr=>Mk M (λl=>lbC ih (findLabel c l)) (Rg kx kg) kn r F e h) (kg l F e h)) kn ds e env hs H he hr h;refine fX.bind g (λe a w Q=>match e with|.goto l=>(match findLabel c l with|some r'=>yj P c Q M r' a w|none=>Q (.goto l) a w)|e=>Q e a w) (λo dJ ds1 H1 hh=>?_) (λa w Q hh=>hh);cases o with
  |normal=>exact .inl ⟨hh,λe a w Q he hq=>by cases he;exact hq⟩
  |exit id=>exact .inl ⟨hh,λe a w Q he hq=>by cases he;exact hq⟩
  |ret=>exact .inl ⟨hh,λe a w Q he hq=>by cases he;exact hq⟩
  |cJ v=>exact .inl ⟨hh,λe a w Q he hq=>by obtain⟨ch,rfl⟩:=he;exact hq⟩
  |goto l=>
   obtain⟨e1,hs1,he1,hr1,hh⟩:=hh;simp only at hh;cases hf:findLabel c l with
   |none=>
    rw[hf]at hh;exact .inl ⟨⟨e1,hs1,he1,hr1,hh⟩,λe a w Q he hq=>by cases he;simp only[hf];exact hq⟩
   |some r'=>
    rw[hf]at hh;refine .inr ⟨.goto l,λe' h=>h,?_⟩;simp only[hf];exact Jy hi c kx kg kn M r' ds1 e1 dJ hs1 H1 he1 hr1 hh
theorem aeO(hmx:P.follows .mixedOrders=true)(hC:hV P C){ih:Code→Cl D d}(hi:∀c,Ml P N C kr kp (ih c) c)(c:Code):Ml P N C kr kp (afM P P.globals.size D N d M ih c) c:=by
 intro kx kg kn ds e env hs H he hr h;have here:kn (rA C kr kp ds) e hs→KS N kn kx kg C kr kp .normal env ds H:=λh=>⟨e,hs,he,hr,h⟩
 cases c with
 |skip=>exact fX.done (here h) .normal (.inl ⟨rfl,rfl⟩) λa w Q h=>wp_skip h
 |region id ops draw=>
  cases draw with
  |true=>exact aeN hmx hC he hr h
  |false=>exact(Dm hC _ he hr h).mono (λf a w Q _ h=>wp_region_list h) λ_ _ _ _ h=>h
 |seq a b=>
  have g:=hi a kx kg (λF e h=>(ih b).run F (Rg kx kg) kn e h) ds e env hs H he hr h;rw[Rh _ kn]at g;exact Li g (λenv ds H ⟨e,hs,he,hr,h⟩=>hi b kx kg kn ds e env hs H he hr h) λa w Q h=>wp_seq h
 |cond x a b=>
  have h:=al he h;have hc:∀{t:Bool},bu P.globals.size env x=.bool t→∀{f:az}{a:Act},AR P f env a→a.eval x=.bool t:=λ{t} hv {f act} ha=>by
   have:=vI ha x;rw[hv]at this;generalize act.eval x=u at this;cases this;rfl
  have g:=dk h;rcases g with⟨e1,g⟩|⟨e1,g⟩|⟨n,_,g⟩|⟨n,_,g⟩|⟨c,n,_,_,g⟩|⟨n,x,_,g⟩|⟨b,o,_,g⟩|⟨b,o,l,c,s,x,_,g⟩|⟨l,_,g⟩|⟨l,_,g⟩|⟨_,g⟩<;>try exact g.elim
  ·exact(hi a kx kg kn ds e env hs H he hr g).mono (λf a w Q ha h=>wp_cond (hc e1 ha) h) λ_ _ _ _ h=>h
  ·exact(hi b kx kg kn ds e env hs H he hr g).mono (λf a w Q ha h=>wp_cond (hc e1 ha) h) λ_ _ _ _ h=>h
 |block id c=>
  have g:=hi c (λi F e h=>bI (Nat.beq i id) (kn F e h) (kx i F e h)) kg kn ds e env hs H he hr h;refine fX.bind g (λe a w Q=>Exit.inBlock id Q e a w) (λo dJ ds1 H1 hh=>?_) (λa w Q hh=>wp_block hh);cases o with
  |normal=>exact .inl ⟨hh,λe a w Q he hq=>by cases he;exact hq⟩
  |exit i=>
   obtain⟨e1,hs1,he1,hr1,hh⟩:=hh;rcases bZ hh with⟨hi,hh⟩|⟨hi,hh⟩
   ·refine .inr ⟨.exit i,λe' h=>h,fX.done (o:=.normal) ⟨e1,hs1,he1,hr1,hh⟩ .normal (.inl ⟨rfl,rfl⟩) λa w Q hq=>?_⟩;simp only[Exit.inBlock];rw[if_pos (Nat.eq_of_beq_eq_true hi)];exact hq
   ·refine .inl ⟨⟨e1,hs1,he1,hr1,hh⟩,λe a w Q he hq=>?_⟩;cases he;simp only[Exit.inBlock];rw[if_neg (λe=>by subst e;simp at hi)];exact hq
  |goto l=>exact .inl ⟨hh,λe a w Q he hq=>by cases he;exact hq⟩
  |ret=>exact .inl ⟨hh,λe a w Q he hq=>by cases he;exact hq⟩
  |cJ v=>exact .inl ⟨hh,λe a w Q he hq=>by obtain⟨ch,rfl⟩:=he;exact hq⟩
 |loop c=>exact(Mm (hi c) kx kg kn M ds e env hs H he hr h).mono (λf a w Q _ h=>wp_loop_rounds h) λ_ _ _ _ h=>h
 |exit id=>exact fX.done (o:=.exit id) ⟨e,hs,he,hr,h⟩ (.exit id) (.inr (.inl ⟨id,rfl,rfl⟩)) λa w Q h=>wp_exit h
 |goto l=>exact fX.done (o:=.goto l) ⟨e,hs,he,hr,h⟩ (.goto l) (.inr (.inr (.inl ⟨l,rfl,rfl⟩))) λa w Q h=>wp_goto h
 |label l=>exact fX.done (here h) .normal (.inl ⟨rfl,rfl⟩) λa w Q h=>wp_label h
 |scope c=>exact(Jy hi c kx kg kn M c ds e env hs H he hr h).mono (λf a w Q _ h=>uz h) λ_ _ _ _ h=>h
 |ret=>exact fX.done (o:=.ret) ⟨e,hs,he,hr,h⟩ .ret (.inr (.inr (.inr ⟨rfl,rfl⟩))) λa w Q h=>wp_ret h
 |rangeFunc=>exact(show False from h).elim
 |refuse=>exact(show False from h).elim
theorem BW(hmx:P.follows .mixedOrders=true)(hC:hV P C):∀(n:Nat) (c:Code),Ml P N C kr kp (Tg P P.globals.size D N d M n c) c
 |0,_=>λ_ _ _ _ _ _ _ _ _ _ h=>(show False from h).elim
 |n+1,c=>aeO hmx hC (BW hmx hC n) c
end
noncomputable section
structure RsC(D d:Nat) where
 run:(List AV→Prop)→cS d→Hs D→Prop
structure ReC(D d:Nat) where
 run:(V→Prop)→cS d→Hs D→Prop
def fu(d:Nat):TB (cS d):=@Nat.rec (λd=>TB (cS d)) ⟨(λ_ _ _ _ _ _ _ _ _ h _=>h [])⟩ (λ_ ih=>⟨λs=>s ih.t ih.t ih.t ih.t ih.t ih.t ih.t ih.t⟩) d
def tE(n:Nat):Nat:=bif Nat.ble n 8 then 0 else bif Nat.ble n 64 then 1 else bif Nat.ble n 512 then 2 else 3
structure FrC(d:Nat) where
 run:cS 1→(cS (d+1)→Prop)→Prop
def frK(d:Nat):FrC d:=
 match d with
 |0=>⟨λa k=>k a⟩
 |1=>⟨λa k=>k λs=>s a (fu 1).t (fu 1).t (fu 1).t (fu 1).t (fu 1).t (fu 1).t (fu 1).t⟩
 |2=>⟨λa k=>k λs=>s (λs=>s a (fu 1).t (fu 1).t (fu 1).t (fu 1).t (fu 1).t (fu 1).t (fu 1).t) (fu 2).t (fu 2).t (fu 2).t (fu 2).t (fu 2).t (fu 2).t (fu 2).t⟩
 |3=>⟨λa k=>k λs=>s (λs=>s (λs=>s a (fu 1).t (fu 1).t (fu 1).t (fu 1).t (fu 1).t (fu 1).t (fu 1).t) (fu 2).t (fu 2).t (fu 2).t (fu 2).t (fu 2).t (fu 2).t (fu 2).t) (fu 3).t (fu 3).t (fu 3).t (fu 3).t (fu 3).t (fu 3).t (fu 3).t⟩
 |_=>⟨λ_ _=>False⟩
section
variable (P:Program)(G D N d M:Nat)
def ldC(t:TypeId)(x:Operand):OpC D d:=
 match P.underlying t,P.info? t with
 |some _,some i=>@Bool.rec (λ_=>OpC D d) ⟨λk e h=>(aV G d x).get (λa=>Sy D a h λv=>k v h) e⟩ ⟨λk e h=>(aV G d x).get (λa=>LH D i.size a h λv=>k v h) e⟩ (jc P t)
 |_,_=>dd D d
def rsC(l:List ResultVar):RsC D d:=
 @List.rec ResultVar (λ_=>RsC D d) ⟨λk _ _=>k []⟩ (λr _ ih=>match r with
  |.tmp t=>⟨λk e h=>(aV G d (.tmp t)).get (λv=>dec v λa=>ih.run (λl=>k (a::l)) e h) e⟩
  |.cell a t=>⟨λk e h=>(ldC P G D d t (.tmp a)).run (λv _=>dec v λa=>ih.run (λl=>k (a::l)) e h) e h⟩) l
def Mn(l:List ResultVar):ReC D d:=
 match l with
 |[.tmp t]=>⟨λk e _=>(aV G d (.tmp t)).get k e⟩
 |[.cell a t]=>⟨λk e h=>(ldC P G D d t (.tmp a)).run (λv _=>k v) e h⟩
 |l=>⟨λk e h=>(rsC P G D d l).run (λl=>k (λ_ _ _ _ _ _ _ _ _ h _=>h l)) e h⟩
structure vX(D d:Nat) where
 run:fM D→(V→dt→cS d→List bO→Hs D→Prop)→(dt→cS d→List bO→Hs D→Prop)→(dt→cS d→List bO→Hs D→Prop)→dt→cS d→List bO→Hs D→Prop
def aeP(M:dt)(k:V→dt→Prop):Prop:=match M with|.cJ v=>k (kA v).v (.caught v)|M=>k (λ_ _ _ _ _ _ _ _ _ _ h=>h .jD) M
def rgR(l:List Oper):vX D d:=
 @List.rec Oper (λ_=>vX D d) ⟨λ_ _ _ kn u e ds h=>kn u e ds h⟩
  (λo _ ih=>@Bool.rec (λ_=>vX D d) ⟨λ_ _ _ _ _ _ _ _=>False⟩ (@Bool.rec (λ_=>vX D d)
   ⟨λC kp kr kn u e ds h=>(vt P G D d o).run (λv h=>(ik N d o.dst).run v (λe=>ih.run C kp kr kn u e ds h) e) (λv h=>kp v u e ds h) C e h⟩
   ⟨λC kp kr kn u e ds h=>aeP u λv u=>(ik N d o.dst).run v (λe=>ih.run C kp kr kn u e ds h) e⟩ (isRecover o)) (o.guard.isNone && !(lE o))) l
def Dp(n:Nat)(ih:Code→vX D d)(c:Code):vX D d:=
 match c with
 |.seq a b=>⟨λC kp kr kn u e ds h=>(ih a).run C kp kr (λu e ds h=>(ih b).run C kp kr kn u e ds h) u e ds h⟩
 |.cond x a b=>⟨λC kp kr kn u e ds h=>(aV G d x).get (λv=>v ((ih a).run C kp kr kn u e ds h) ((ih b).run C kp kr kn u e ds h) N1 N1 N2 N2 N2 N6 NL NL NO) e⟩
 |.region _ ops false=>rgR P G D N d ops.toList
 |c=>⟨λC kp kr kn u e ds h=>(Tg P G D N d M n c).run (λs=>s C (λe ds h=>kr u e ds h) (λv e ds h=>kp v u e ds h) ds) (λs=>s (λ_ _ _ _=>False) (λ_ _ _ _=>False)) (λF e h=>F λ_ _ _ ds=>kn u e ds h) e h⟩
def afN(n:Nat):Code→vX D d:=@Nat.rec (λ_=>Code→vX D d) (λ_=>⟨λ_ _ _ _ _ _ _ _=>False⟩) (λ_ ih=>Dp P G D N d M n ih) n
end
def Th(ds:List bO)(x:Prop):Prop:=@List.casesOn bO (λ_=>Prop) ds x λ_ _=>False
structure DfC(D:Nat) where
 run:fM D→List AV→dt→(dt→Hs D→Prop)→(V→dt→Hs D→Prop)→Hs D→Prop
section
variable (P:Program)(G D M n:Nat)
def dfC(g:Nat):DfC D:=
 match P.funcs[g]? with
 |some fn=>(match fn.body with
  |some c=>@Bool.rec (λ_=>DfC D) ⟨λ_ _ _ _ _ _=>False⟩ ⟨λC args u kr kp h=>uE args λa=>(frK (tE fn.ntmps)).run a λe=>
    (afN P G D fn.ntmps (tE fn.ntmps+1) M n c).run C (λv u _ ds h=>Th ds (kp v u h)) (λu e ds h=>Th ds ((Mn P G D (tE fn.ntmps+1) fn.results.toList).run (λ_=>kr u h) e h))
     (λu e ds h=>Th ds ((Mn P G D (tE fn.ntmps+1) fn.results.toList).run (λ_=>kr u h) e h)) u e [] h⟩ (Nat.ble fn.ntmps (Nat.pow 8 (tE fn.ntmps+1)))
  |none=>⟨λ_ _ _ _ _ _=>False⟩)
 |none=>⟨λ_ _ _ _ _ _=>False⟩
def fH(d:Nat)(fn:Func)(C:fM D)(kr kp:V→Hs D→Prop)(e:cS d)(ds:List bO):dt→Hs D→Prop:=
 @List.rec bO (λ_=>dt→Hs D→Prop)
  (λu h=>@dt.rec (λ_=>Prop) ((Mn P G D d fn.results.toList).run (λv=>kr v h) e h) (λv=>kp (kA v).v h) (λ_=>False) u)
  (λx _ ih u h=>bT (fm P x.g) ((dfC P G D M n x.g).run C x.args u (λu h=>ih (HU u) h) (λv _ h=>dec v λv=>ih (.cJ v) h) h)) ds
structure Mo(D:Nat) where
 run:fM D→cS 1→(V→Hs D→Prop)→(V→Hs D→Prop)→Hs D→Prop
def fnC(g:Nat):Mo D:=
 match P.funcs[g]? with
 |some fn=>(match fn.body with
  |some c=>@Bool.rec (λ_=>Mo D) ⟨λ_ _ _ _ _=>False⟩ ⟨λC a kr kp h=>(frK (tE fn.ntmps)).run a λe=>
    (Tg P G D fn.ntmps (tE fn.ntmps+1) M n c).run
     (λs=>s C (λe ds h=>@List.casesOn bO (λ_=>Prop) ds ((Mn P G D (tE fn.ntmps+1) fn.results.toList).run (λv=>kr v h) e h) λx l=>fH P G D M n (tE fn.ntmps+1) fn C kr kp e (x::l) .ret h)
      (λv e ds h=>@List.casesOn bO (λ_=>Prop) ds (kp v h) λx l=>dec v λv=>fH P G D M n (tE fn.ntmps+1) fn C kr kp e (x::l) (.cJ v) h) [])
     (λs=>s (λ_ _ _ _=>False) (λ_ _ _ _=>False))
     (λF e h=>F λ_ kr _ ds=>kr e ds h) e h⟩ (Nat.ble fn.ntmps (Nat.pow 8 (tE fn.ntmps+1)))
  |none=>⟨λ_ _ _ _ _=>False⟩)
 |none=>⟨λ_ _ _ _ _=>False⟩
def Tj(known:Nat→Option (Mo D))(q:Nat):fM D:=@Nat.rec (λ_=>fM D) (λ_ _ _ _ _=>False) (λ_ ih g a kr kp h=>(match known g with|some c=>c|none=>fnC P G D M n g:Mo D).run ih a kr kp h) q
end
end
section
variable {P:Program}{D N d:Nat}
theorem Vw:∀(d:Nat) (m:Nat→AV),(∀i,m i=bN)→TR (λv a=>v=enc a) d (fu d).t m
 |0,m,hm=>by show _=enc (m 0);rw[hm];rfl
 |d+1,m,hm=>⟨λ_=>(fu d).t,rfl,λj _=>Vw d _ λi=>hm _⟩
theorem oA{d:Nat}{t:cS (d+1)}{m:Nat→AV}(h:TR (λv a=>v=enc a) (d+1) t m)(hm:∀i,8≤i→m i=bN) :
  TR (λv a=>v=enc a) (d+2) (λs=>s t (fu (d+1)).t (fu (d+1)).t (fu (d+1)).t (fu (d+1)).t (fu (d+1)).t (fu (d+1)).t (fu (d+1)).t:cS (d+2)) m:=by
 refine⟨λj=>match j with|0=>t|_+1=>(fu (d+1)).t,rfl,λj hj=>?_⟩;cases j with
 |zero=>exact h.congr' λi _=>by rw[Nat.zero_mul,Nat.zero_add]
 |succ j=>
  refine Vw (d+1) _ λi=>hm _ ?_;have h1:1*8^(d+1)≤(j+1)*8^(d+1):=Nat.mul_le_mul_right _ (by omega);have h2:8^1≤8^(d+1):=Nat.pow_le_pow_right (by decide) (by omega);omega
theorem Ri{d:Nat}{a:cS 1}{args:List AV}(ha:qQ a args){fn:Func}(hn:Nat.ble fn.ntmps (Nat.pow 8 (d+1))=true){k:cS (d+1)→Prop}(h:(frK d).run a k):∃e,dU fn.ntmps (d+1) e (bL fn args)∧k e:=by
 have hn:=Nat.le_of_ble_eq_true hn;have h8:8^1≤8^(d+1):=Nat.pow_le_pow_right (by decide) (by omega);have hl:(bL fn args).length=max args.length fn.ntmps:=by simp[bL];omega
 have hg:∀i,(bL fn args).getD i bN=args.getD i bN:=λi=>by
  simp only[bL,List.getD_eq_getElem?_getD];by_cases hi:i<args.length
  ·rw[List.getElem?_append_left hi]
  ·rw[List.getElem?_append_right (by omega),List.getElem?_eq_none (by omega:args.length≤i),List.getElem?_replicate];split<;>rfl
 have fin:∀e:cS (d+1),TR (λv a=>v=enc a) (d+1) e (λi=>args.getD i bN)→k e→∃e,dU fn.ntmps (d+1) e (bL fn args)∧k e:=λe h1 h2=>
  ⟨e,⟨by rw[hl];omega,by rw[hl];have:=ha.le;have h3:Nat.pow 8 (d+1)=8^(d+1):=rfl;omega,h1.congr' λi _=>(hg i).symm⟩,h2⟩
 have hu:∀i,8≤i→args.getD i bN=bN:=λi hi=>by
  have:=ha.le;simp[List.getD_eq_getElem?_getD,List.getElem?_eq_none (by omega:args.length≤i)]
 unfold frK at h;split at h
 ·exact fin _ ha.tr h
 ·exact fin _ (oA ha.tr hu) h
 ·exact fin _ (oA (oA ha.tr hu) hu) h
 ·exact fin _ (oA (oA (oA ha.tr hu) hu) hu) h
 ·exact(show False from h).elim
section
variable {e:cS d}{env:List AV}{hs:Hs D}{H:AH}
theorem Rj(he:dU N d e env)(hr:aY hs H){G:Nat}{t:TypeId}{x:Operand}{k:V→Prop}(h:(ldC P G D d t x).run (λv _=>k v) e hs):oi P t (bu G env x) H λv=>k (enc v):=by
 unfold ldC at h;unfold oi;split at h
 ·rename_i du i hu hi;rw[hu,hi];simp only;cases ha:jc P t with
  |true=>rw[ha]at h;exact De hr (al he h)
  |false=>rw[ha]at h;exact Jj hr (al he h)
 ·exact(show False from h).elim
theorem Au(he:dU N d e env)(hr:aY hs H){G:Nat}:∀(l:List ResultVar){k:List AV→Prop},(rsC P G D d l).run k e hs→HT P env H l k
 |[],k,h=>h
 |.tmp t::r,k,h=>Au he hr r (k:=λl=>k (bu G env (.tmp t)::l)) (eJ (k:=λa=>(rsC P G D d r).run (λl=>k (a::l)) e hs) (al he h))
 |.cell a t::r,k,h=>by
  have h:=Rj he hr (k:=λv=>dec v λa=>(rsC P G D d r).run (λl=>k (a::l)) e hs) h;obtain⟨v,h1,h2⟩:=Dq h;exact h2 _ (Au he hr r (k:=λl=>k (v::l)) (eJ h1))
 where
 Dq {t:TypeId}{a:AV}{k:AV→Prop}{H:AH}(h:oi P t a H k):∃v,k v∧∀k':AV→Prop,k' v→oi P t a H k':=by
  unfold oi at h;split at h
  ·rename_i du i hu hi;have fin:∀{v:AV},(∀k':AV→Prop,k' v→bI (jc P t) (aZ i.size a H k') (af a H k'))→∀k':AV→Prop,k' v→oi P t a H k':=λh k' hk=>by
    unfold oi;rw[hu,hi];exact h k' hk
   rcases bZ h with⟨hb,h⟩|⟨hb,h⟩
   ·obtain⟨b,o,e1,h⟩:=kJ h;obtain⟨c,n,m,e2,h⟩:=cQ h;obtain⟨l,hl,hg,h⟩:=Dr _ _ _ _ h;exact⟨_,h,fin λk' hk=>mo (.inl ⟨hb,by rw[e1];exact eK e2 (hg _ hk)⟩)⟩
   ·obtain⟨b,o,e1,h⟩:=kJ h;obtain⟨c,n,m,e2,h⟩:=cQ h;obtain⟨x,e3,h⟩:=Bt.cQ _ _ _ h;exact⟨_,h,fin λk' hk=>mo (.inr ⟨hb,by rw[e1];exact eK e2 (Bt.eK e3 hk)⟩)⟩
  ·exact h.elim
 Dr:∀(c:Bt AV) (n o:Nat) (k:List AV→Prop),lr c n o k→∃l,l.length=n∧(∀k':List AV→Prop,k' l→lr c n o k')∧k l
  |_,0,_,k,h=>⟨[],rfl,λ_ h=>h,h⟩
  |c,n+1,o,k,h=>by
   obtain⟨a,ha,h⟩:=Bt.cQ c o _ h;rw[ae]at h;obtain⟨l,h1,h2,h3⟩:=Dr c n (o+1) _ h;exact⟨a::l,by simp[h1],λk' hk=>Bt.eK ha (by rw[ae];exact h2 _ hk),h3⟩
theorem vY(he:dU N d e env)(hr:aY hs H){G:Nat}{fn:Func}{k:V→Prop}(h:(Mn P G D d fn.results.toList).run k e hs):xq P fn env H λv=>k (enc v):=by
 unfold Mn at h;unfold xq;split at h
 ·rename_i t hl;rw[hl];exact al (G:=G) he h
 ·rename_i a t hl;rw[hl];exact Rj (G:=G) (x:=.tmp a) he hr h
 ·rename_i h1 h2;have g:=Au he hr _ h;generalize fn.results.toList=l at g h1 h2;obtain⟨vs,hv,hk,hlen⟩:=xL g;refine hk _ ?_;cases l with
  |nil=>cases vs with
   |nil=>exact hv
   |cons _ _=>simp at hlen
  |cons r l=>cases l with
   |nil=>cases r with
    |tmp t=>exact absurd rfl (h1 t)
    |cell a t=>exact absurd rfl (h2 a t)
   |cons r2 l=>
    match vs,hlen,hv with
    |v1::v2::vs,_,hv=>exact hv
 where
 xL {env:List AV}{H:AH}:∀{l:List ResultVar}{k:List AV→Prop},HT P env H l k→∃vs,k vs∧(∀k':List AV→Prop,k' vs→HT P env H l k')∧vs.length=l.length
  |[],k,h=>⟨[],h,λ_ h=>h,rfl⟩
  |.tmp t::r,k,h=>by
   obtain⟨vs,h1,h2,h3⟩:=xL (l:=r) h;exact⟨_,h1,λk' hk=>h2 (λl=>k' (_::l)) hk,by simp[h3]⟩
  |.cell a t::r,k,h=>by
   obtain⟨v,h1,hx⟩:=Au.Dq h;obtain⟨vs,h1,h2,h3⟩:=xL (l:=r) h1;exact⟨_,h1,λk' hk=>hx _ (h2 (λl=>k' (_::l)) hk),by simp[h3]⟩
end
end
section
variable {P:Program}{D N d M n:Nat}
def Vx(N:Nat){d:Nat}(kp:V→dt→cS d→List bO→Hs D→Prop)(kr kn:dt→cS d→List bO→Hs D→Prop):KR:=λo u env ds H=>∃e hs,dU N d e env∧aY hs H∧match o with
 |.normal=>kn u e ds hs
 |.ret=>kr u e ds hs
 |.cJ v=>kp (enc v) u e ds hs
 |_=>False
def Kf(P:Program)(N:Nat){d:Nat}(C:fM D)(cl:vX D d)(c:Code):Prop:=∀kp kr kn u e env ds hs H,dU N d e env→aY hs H→cl.run C kp kr kn u e ds hs→vk P u env ds H (Vx N kp kr kn) λa cs w Q=>c.wpS P Q a cs w
variable {C:fM D}
theorem aeQ{u:dt}{k:V→dt→Prop}(h:aeP u k):aiU u λv u=>k (enc v) u:=by cases u<;>exact h
theorem Mp(hC:hV P C){ops:Array Oper}:∀(l:List Oper) (kp:V→dt→cS d→List bO→Hs D→Prop) (kr kn:dt→cS d→List bO→Hs D→Prop) u e env ds hs H,dU N d e env→aY hs H→(rgR P P.globals.size D N d l).run C kp kr kn u e ds hs→
  vk P u env ds H (Vx N kp kr kn) λa cs w Q=>gX P ops Q l a cs w
 |[],kp,kr,kn,u,e,env,ds,hs,H,he,hr,h=>⟨.normal,u,env,ds,H,⟨e,hs,he,hr,h⟩,λf w a c₀ cs u hr ha hd hm hc Q hQ=>by
  have:=hQ .normal a u w ⟨f,Step.refl hr,ha,hd,hm,rfl⟩;rw[rn hc]at this;exact this⟩
 |o::rest,kp,kr,kn,u,e,env,ds,hs,H,he,hr,h=>by
  have h:(@Bool.rec (λ_=>vX D d) ⟨λ_ _ _ _ _ _ _ _=>False⟩ (@Bool.rec (λ_=>vX D d)
   ⟨λC kp kr kn u e ds h=>(vt P P.globals.size D d o).run (λv h=>(ik N d o.dst).run v (λe=>(rgR P P.globals.size D N d rest).run C kp kr kn u e ds h) e) (λv h=>kp v u e ds h) C e h⟩
   ⟨λC kp kr kn u e ds h=>aeP u λv u=>(ik N d o.dst).run v (λe=>(rgR P P.globals.size D N d rest).run C kp kr kn u e ds h) e⟩ (isRecover o)) (o.guard.isNone && !(lE o))).run C kp kr kn u e ds hs:=h
  cases hg:(o.guard.isNone && !(lE o))with
  |false=>rw[hg]at h;exact(show False from h).elim
  |true=>
   rw[hg]at h;rw[Bool.and_eq_true]at hg;have hg1:o.guard=none:=by simpa using hg.1
   have hw:∀t,Region.wanted o t=true:=λt=>by simp[Region.wanted,hg1]
   cases hrec:isRecover o with
   |true=>
    rw[hrec]at h
    dsimp only at h
    obtain⟨v,M',h1,h2⟩:=ag0 (aeQ h);obtain⟨e',he',h1⟩:=jz he h1;obtain⟨ot,M2,env',ds',H2,g1,g2⟩:=Mp hC rest kp kr kn _ _ _ _ _ _ he' hr h1;refine⟨ot,M2,env',ds',H2,g1,λf w a c₀ cs u hr ha hd hm hc Q hQ=>?_⟩;obtain⟨x,u',h3,h4,h5⟩:=h2 f u c₀ cs hm hc;refine Qh (hw _) (Qi hrec _ w) ?_;exact h5 (λy cs'=>gX P ops Q rest (a.put o.dst y) cs' w) (g2 f w _ { c₀ with mode:=u' } cs u' hr (ha.put o.dst h3) (by rw[put_defers];exact hd) h4 rfl Q hQ)
   |false=>
    rw[hrec]at h;cases Ii hC he hr h with
    |val v H' h g=>
     obtain⟨hs',hr',h⟩:=h;obtain⟨e',he',h⟩:=jz he h;obtain⟨ot,M2,env',ds',H2,g1,g2⟩:=Mp hC rest kp kr kn _ _ _ _ _ _ he' hr' h;refine⟨ot,M2,env',ds',H2,g1,λf w a c₀ cs u hr ha hd hm hc Q hQ=>yS (hw _) ?_⟩;refine g f w a hr ha.glob (ha.stand o) _ _ λf' w' x s hx=>?_;exact g2 f' w' _ c₀ cs u s.rel ((ha.up s.le).put o.dst hx) (by rw[put_defers];exact hd.up s.le) (hm.up s.le) hc Q λe a' u' w'' hp=>hQ e a' u' w'' (hp.after s)
    |cJ v H' h g=>
     obtain⟨hs',hr',h⟩:=h;refine⟨.cJ v,u,env,ds,H',⟨e,hs',he,hr',h⟩,λf w a c₀ cs u hr ha hd hm hc Q hQ=>yS (hw _) ?_⟩;refine g f w a hr ha.glob (ha.stand o) _ _ λf' w' ch s hp=>?_;have:=hQ (.panic ch) a u w' ⟨f',s,ha.up s.le,hd.up s.le,hm.up s.le,ch,rfl,hp⟩;rw[rn hc]at this;exact this
theorem vk.mono{u:dt}{env:List AV}{ds:List bO}{H:AH}{K K':KR}{W:Act→List Frame→World→PS→Prop}(h:vk P u env ds H K W)(hK:∀o u env ds H,K o u env ds H→K' o u env ds H):vk P u env ds H K' W:=by
 obtain⟨o,M',env',ds',H',h1,h2⟩:=h;exact⟨o,M',env',ds',H',hK _ _ _ _ _ h1,h2⟩
theorem Vy(hmx:P.follows .mixedOrders=true)(hC:hV P C){ih:Code→vX D d}(hi:∀c,Kf P N C (ih c) c)(c:Code):Kf P N C (Dp P P.globals.size D N d M n ih c) c:=by
 intro kp kr kn u e env ds hs H he hr h;unfold Dp at h;split at h
 ·rename_i a b;obtain⟨o,M1,dJ,ds1,H1,h1,h2⟩:=hi a _ _ _ _ _ _ _ _ _ he hr h;have pass:o≠.normal→Vx N kp kr kn o M1 dJ ds1 H1→vk P u env ds H (Vx N kp kr kn) λac cs w Q=>(Code.seq a b).wpS P Q ac cs w:=λhne hk=>by
   refine⟨o,M1,dJ,ds1,H1,hk,λf w ac c₀ cs u hr ha hd hm hc Q hQ=>wpS_seq (h2 f w ac c₀ cs u hr ha hd hm hc _ λe a' u' w' hp=>?_)⟩;have hp':=hp;obtain⟨f',s,g1,g2,g3,g4⟩:=hp;cases o with
   |normal=>exact absurd rfl hne
   |exit id=>subst g4;exact hQ _ _ _ _ hp'
   |goto l=>subst g4;exact hQ _ _ _ _ hp'
   |ret=>subst g4;exact hQ _ _ _ _ hp'
   |cJ v=>obtain⟨ch,rfl,_⟩:=g4;exact hQ _ _ _ _ hp'
  cases o with
  |normal=>
   obtain⟨e1,hs1,he1,hr1,h1⟩:=h1;obtain⟨o2,M2,cG,ds2,H2,g1,g2⟩:=hi b _ _ _ _ _ _ _ _ _ he1 hr1 h1;refine⟨o2,M2,cG,ds2,H2,g1,λf w ac c₀ cs u hr ha hd hm hc Q hQ=>wpS_seq (h2 f w ac c₀ cs u hr ha hd hm hc _ λe a' u' w' hp=>?_)⟩;obtain⟨f',s,y1,y2,y3,rfl⟩:=hp;exact g2 f' w' a' { c₀ with mode:=u' } cs u' s.rel y1 y2 y3 rfl Q λe a'' u'' w'' hp=>hQ _ _ _ _ (hp.after s)
  |exit id=>exact pass (by simp) h1
  |goto l=>exact pass (by simp) h1
  |ret=>exact pass (by simp) h1
  |cJ v=>exact pass (by simp) h1
 ·rename_i x a b;have h:=al he h;have hc:∀{t:Bool},bu P.globals.size env x=.bool t→∀{f:az}{a:Act},AR P f env a→a.eval x=.bool t:=λ{t} hv {f act} ha=>by
   have:=vI ha x;rw[hv]at this;generalize act.eval x=u at this;cases this;rfl
  have g:=dk h;rcases g with⟨e1,g⟩|⟨e1,g⟩|⟨n,_,g⟩|⟨n,_,g⟩|⟨c,n,_,_,g⟩|⟨n,x,_,g⟩|⟨b,o,_,g⟩|⟨b,o,l,c,s,x,_,g⟩|⟨l,_,g⟩|⟨l,_,g⟩|⟨_,g⟩<;>try exact g.elim
  ·obtain⟨o,M1,dJ,ds1,H1,h1,h2⟩:=hi a _ _ _ _ _ _ _ _ _ he hr g;exact⟨o,M1,dJ,ds1,H1,h1,λf w ac c₀ cs u hr ha hd hm hc' Q hQ=>wpS_cond (hc e1 ha) (h2 f w ac c₀ cs u hr ha hd hm hc' Q hQ)⟩
  ·obtain⟨o,M1,dJ,ds1,H1,h1,h2⟩:=hi b _ _ _ _ _ _ _ _ _ he hr g;exact⟨o,M1,dJ,ds1,H1,h1,λf w ac c₀ cs u hr ha hd hm hc' Q hQ=>wpS_cond (hc e1 ha) (h2 f w ac c₀ cs u hr ha hd hm hc' Q hQ)⟩
 ·rename_i id ops;obtain⟨o,M1,dJ,ds1,H1,h1,h2⟩:=Mp (ops:=ops) hC _ _ _ _ _ _ _ _ _ _ he hr h;exact⟨o,M1,dJ,ds1,H1,h1,λf w a c₀ cs u hr ha hd hm hc Q hQ=>CQ (h2 f w a c₀ cs u hr ha hd hm hc Q hQ)⟩
 ·have g:=BW (kr:=λe ds h=>kr u e ds h) (kp:=λv e ds h=>kp v u e ds h) hmx hC n c (λ_ _ _ _=>False) (λ_ _ _ _=>False) (λF e h=>F λ_ _ _ ds=>kn u e ds h) ds e env hs H he hr h;refine(vk.aiV (K:=Vx N kp kr kn) (M:=u) (g.mono (λ_ _ _ _ _ h=>h) λo env ds H hk=>?_));obtain⟨e,hs,he,hr,hk⟩:=hk;cases o<;>first|exact⟨e,hs,he,hr,hk⟩|exact hk.elim
theorem aeR(hmx:P.follows .mixedOrders=true)(hC:hV P C):∀(k:Nat) (c:Code),Kf P N C (afN P P.globals.size D N d M k c) c:=by
 intro k;have key:∀(m j:Nat) (c:Code),Kf P N C (@Nat.rec (λ_=>Code→vX D d) (λ_=>⟨λ_ _ _ _ _ _ _ _=>False⟩) (λ_ ih=>Dp P P.globals.size D N d M m ih) j c) c:=by
  intro m j
  induction j with
  |zero=>exact λ_ _ _ _ _ _ _ _ _ _ _ _ h=>(show False from h).elim
  |succ j ih=>exact λc=>Vy hmx hC ih c
 exact key k k
theorem BX{ds:List bO}{x:Prop}(h:Th ds x):ds=[]∧x:=by
 cases ds with
 |nil=>exact⟨rfl,h⟩
 |cons a l=>exact(show False from h).elim
theorem Vz{g:Nat}{fn:Func}{c:Code}(hf:P.funcs[g]? = some fn)(hc:fn.body=some c){args:List AV}{u:dt}{H:AH}{K:KD}(h:vk P u (bL fn args) [] H (BE P fn K) λa cs w Q=>c.wpS P Q a cs w) :
  ∃o M' H',K o M' H'∧∀f w (vs:Array Value) v,HR f H w→(∀g,g<P.globals.size→f.dom g∧f.blk g=g∧f.off g=0)→VL f args vs.toList→MR f u v→CallsD P g vs v w (CP f H w o M' H'):=by
 obtain⟨o,M',env',ds',H',h1,h2⟩:=h;unfold BE at h1;split at h1
 ·have key:∀(co:me),(∀(f:az) (H0:AH) w e a u' w',yR P f H0 w o M' env' [] H' e a u' w'→∀c₀ cs,bodyPostS P fn c₀ cs (CP f H0 w co M' H') e a ({ c₀ with mode:=u' }::cs) w')→K co M' H'→
    ∃o M' H',K o M' H'∧∀f w (vs:Array Value) v,HR f H w→(∀g,g<P.globals.size→f.dom g∧f.blk g=g∧f.off g=0)→VL f args vs.toList→MR f u v→CallsD P g vs v w (CP f H w o M' H'):=λco h3 h4=>
   ⟨co,M',H',h4,λf w vs u hr hg hv hm=>callsD_of_wpS hf hc λc₀ cs hu=>h2 f w _ c₀ cs u hr (yT hv hg) .nil hm hu _ λe a' u' w' hp=>h3 f H w e a' u' w' hp c₀ cs⟩
  split at h1
  ·obtain⟨v,g1,g2⟩:=HV h1;refine key (.ret v) (λf H0 w e a u' w' hp c₀ cs=>?_) g1;obtain⟨f',s,y1,y2,y3,rfl⟩:=hp;obtain⟨u,z1,z2⟩:=g2 f' w' a s.rel y1;have hd:a.defers=[]:=y2.HW;exact⟨hd,u',rfl,u,z1,f',s,y3,u,rfl,z2⟩
  ·obtain⟨v,g1,g2⟩:=HV h1;refine key (.ret v) (λf H0 w e a u' w' hp c₀ cs=>?_) g1;obtain⟨f',s,y1,y2,y3,rfl⟩:=hp;obtain⟨u,z1,z2⟩:=g2 f' w' a s.rel y1;have hd:a.defers=[]:=y2.HW;exact⟨hd,u',rfl,u,z1,f',s,y3,u,rfl,z2⟩
  ·rename_i v;refine key (.cJ v) (λf H0 w e a u' w' hp c₀ cs=>?_) h1;obtain⟨f',s,y1,y2,y3,ch,rfl,hp⟩:=hp;have hd:a.defers=[]:=y2.HW;exact⟨hd,u',rfl,f',s,y3,ch,rfl,hp⟩
  ·exact h1.elim
 ·exact h1.elim
theorem aeS{CD:tp}(hCD:Ah P CD){g:Nat}{fn:Func}{c:Code}(hf:P.funcs[g]? = some fn)(hc:fn.body=some c){args:List AV}{H:AH}{K:me→AH→Prop}(h:fX P (bL fn args) [] H (Sj P CD fn K) λa w Q=>c.wp P Q a w) :
  ∃o H',K o H'∧∀f w (vs:Array Value),HR f H w→(∀g,g<P.globals.size→f.dom g∧f.blk g=g∧f.off g=0)→VL f args vs.toList→Calls P g vs w (pg f H w o H'):=by
 obtain⟨o,env',ds',H',h1,h2⟩:=h;have key:∀(M:dt),mQ P CD fn env' ds' M H' K→
   (∀(f:az) (H0:AH) w (R:Ending→World→Prop) e a w',mg P f H0 w o env' ds' H' e a w'→(∀f' u,Step f H0 w f' H' w'→AR P f' env' a→DR f' ds' a.defers→MR f' M u→Leaves P fn a.tmps R a.defers u w')→bodyPostD P fn R e a w')→
   ∃o H',K o H'∧∀f w (vs:Array Value),HR f H w→(∀g,g<P.globals.size→f.dom g∧f.blk g=g∧f.off g=0)→VL f args vs.toList→Calls P g vs w (pg f H w o H'):=λM hl hb=>by
  obtain⟨co,H2,g1,g2⟩:=xr hCD _ _ _ hl;refine⟨co,H2,g1,λf w vs hr hg hv=>calls_of_wp_defers hf hc (h2 f w _ hr (yT hv hg) .nil _ λe a' w' hp=>hb f H w _ e a' w' hp λf' u s ha hd hm=>?_)⟩;exact Leaves.mono (λe w h=>h.after s) _ _ _ (g2 f' w' a' a'.defers u s.rel ha hd hm)
 cases o with
 |normal=>exact key .ret h1 λf H0 w R e a w' hp hl=>by obtain⟨f',s,y1,y2,rfl⟩:=hp;exact hl f' _ s y1 y2 rfl
 |ret=>exact key .ret h1 λf H0 w R e a w' hp hl=>by obtain⟨f',s,y1,y2,rfl⟩:=hp;exact hl f' _ s y1 y2 rfl
 |cJ v=>exact key (.cJ v) h1 λf H0 w R e a w' hp hl=>by obtain⟨f',s,y1,y2,ch,rfl,hp⟩:=hp;exact hl f' _ s y1 y2 ⟨ch,rfl,hp⟩
 |exit=>exact h1.elim
 |goto=>exact h1.elim
def aeT(P:Program)(M n:Nat){D:Nat}(C:fM D):tp:=λg args u H K=>∃kr kp,∃hs:Hs D,aY hs H∧(dfC P P.globals.size D M n g).run C args u kr kp hs∧(∀u v hs' H',aY hs' H'→kr u hs'→K (.ret v) u H')∧∀v u hs' H',aY hs' H'→kp (enc v) u hs'→K (.cJ v) u H'
theorem Il(hmx:P.follows .mixedOrders=true)(hC:hV P C):Ah P (aeT P M n C):=by
 intro g args u H K hb h;obtain⟨kr,kp,hs,hr,h,hkr,hkp⟩:=h;unfold dfC at h;split at h
 ·rename_i fn hf;split at h
  ·rename_i c hc;cases hn:Nat.ble fn.ntmps (Nat.pow 8 (tE fn.ntmps+1))with
   |false=>rw[hn]at h;exact(show False from h).elim
   |true=>
    rw[hn]at h
    dsimp only at h
    obtain⟨a,ha,h⟩:=Jv h;obtain⟨e,he,h⟩:=Ri ha hn h;have g:=aeR hmx hC n c _ _ _ u e _ [] hs H he hr h;refine Vz hf hc (g.mono λo u env ds H hk=>?_);obtain⟨e1,hs1,he1,hr1,hk⟩:=hk;unfold BE;cases o with
    |normal=>
     obtain⟨rfl,hk⟩:=BX hk;exact uF (λv h=>hkr u v hs1 H hr1 h) (vY he1 hr1 hk)
    |ret=>
     obtain⟨rfl,hk⟩:=BX hk;exact uF (λv h=>hkr u v hs1 H hr1 h) (vY he1 hr1 hk)
    |cJ v=>
     obtain⟨rfl,hk⟩:=BX hk;exact hkp v u hs1 H hr1 hk
    |exit=>exact hk.elim
    |goto=>exact hk.elim
  ·exact(show False from h).elim
 ·exact(show False from h).elim
 where
 uF {fn:Func}{env:List AV}{H:AH}{k k':AV→Prop}(hk:∀v,k v→k' v) (h:xq P fn env H k):xq P fn env H k':=by
  unfold xq at h ⊢;obtain⟨vs,h1,h2,_⟩:=vY.xL h;refine h2 _ ?_;split at h1
  ·exact hk _ h1
  ·exact hk _ h1
theorem Ds{fn:Func}{kr kp:V→Hs D→Prop}{e:cS d}{env:List AV}(he:dU N d e env):∀(ds:List bO) (u:dt) (hs:Hs D) (H:AH),aY hs H→fH P P.globals.size D M n d fn C kr kp e ds u hs→
  mQ P (aeT P M n C) fn env ds u H λo H'=>∃hs',aY hs' H'∧match o with|.ret v=>kr (enc v) hs'|.cJ v=>kp (enc v) hs'
 |[],u,hs,H,hr,h=>by
  cases u with
  |ret=>exact Il.uF (λv h=>⟨hs,hr,h⟩) (vY he hr h)
  |cJ v=>exact⟨hs,hr,h⟩
  |caught v=>exact(show False from h).elim
 |x::ds,u,hs,H,hr,h=>by
  obtain⟨hb,h⟩:=an h;refine dv hb ⟨_,_,hs,hr,h,λu v hs' H' hr' h=>?_,λv u hs' H' hr' h=>?_⟩
  ·exact Ds he ds (HU u) hs' H' hr' h
  ·exact Ds he ds (.cJ v) hs' H' hr' (eJ h)
def afO(P:Program)(g:Nat)(F:Mo D):Prop:=∀(C:fM D),hV P C→∀args a kr kp (hs:Hs D) H,fm P g=true→qQ a args→aY hs H→F.run C a kr kp hs→
 ∃o H',(∃hs',aY hs' H'∧match o with|.ret v=>kr (enc v) hs'|.cJ v=>kp (enc v) hs')∧∀f w (vs:Array Value),HR f H w→(∀g,g<P.globals.size→f.dom g∧f.blk g=g∧f.off g=0)→VL f args vs.toList→Calls P g vs w (pg f H w o H')
theorem ajl(hmx:P.follows .mixedOrders=true)(g:Nat):afO P g (fnC P P.globals.size D M n g):=by
 intro C hC args a kr kp hs H hb ha hr h;unfold fnC at h;split at h
 ·rename_i fn hf;split at h
  ·rename_i c hc;cases hn:Nat.ble fn.ntmps (Nat.pow 8 (tE fn.ntmps+1))with
   |false=>rw[hn]at h;exact(show False from h).elim
   |true=>
    rw[hn]at h;obtain⟨e,he,h⟩:=Ri ha hn h;have g:=BW hmx hC n c _ _ _ [] e _ hs H he hr h;refine aeS (Il (M:=M) (n:=n) hmx hC) hf hc (g.mono (λ_ _ _ _ _ h=>h) λo env ds H hk=>?_);obtain⟨e1,hs1,he1,hr1,hk⟩:=hk;have ret:(@List.casesOn bO (λ_=>Prop) ds ((Mn P P.globals.size D (tE fn.ntmps+1) fn.results.toList).run (λv=>kr v hs1) e1 hs1) λx l=>fH P P.globals.size D M n (tE fn.ntmps+1) fn C kr kp e1 (x::l) .ret hs1)→
      mQ P (aeT P M n C) fn env ds .ret H λo H'=>∃hs',aY hs' H'∧match o with|.ret v=>kr (enc v) hs'|.cJ v=>kp (enc v) hs':=λh=>by
     cases ds with
     |nil=>exact Il.uF (λv h=>⟨hs1,hr1,h⟩) (vY he1 hr1 h)
     |cons x l=>exact Ds he1 (x::l) .ret hs1 H hr1 h
    cases o with
    |normal=>exact ret hk
    |ret=>exact ret hk
    |cJ v=>
     cases ds with
     |nil=>exact⟨hs1,hr1,hk⟩
     |cons x l=>exact Ds he1 (x::l) (.cJ v) hs1 H hr1 (eJ hk)
    |exit=>exact hk.elim
    |goto=>exact hk.elim
  ·exact(show False from h).elim
 ·exact(show False from h).elim
theorem BY(hmx:P.follows .mixedOrders=true){known:Nat→Option (Mo D)}(hk:∀g c,known g=some c→afO P g c):∀q,hV P (Tj P P.globals.size D M n known q)
 |0=>λ_ _ _ _ _ _ _ _ _ _ h=>(show False from h).elim
 |q+1=>λg args a kr kp hs H hb ha hr h=>by
  have h:((match known g with|some c=>c|none=>fnC P P.globals.size D M n g:Mo D).run (Tj P P.globals.size D M n known q) a kr kp hs):=h;split at h
  ·rename_i c hc;exact hk g c hc _ (BY hmx hk q) args a kr kp hs H hb ha hr h
  ·exact ajl hmx g _ (BY hmx hk q) args a kr kp hs H hb ha hr h
end
noncomputable section
structure SB where
 so:SO
def obT(l:List SB)(d:Nat):Nat→TB (sE SO d):=
 @Nat.rec (λd=>Nat→TB (sE SO d)) (λi=>match l[i]? with|some b=>⟨b.so⟩|none=>⟨λ_ _ O=>O .dead⟩)
  (λ_ ih i=>⟨λs=>s (ih (Nat.mul 8 i)).t (ih (Nat.add (Nat.mul 8 i) 1)).t (ih (Nat.add (Nat.mul 8 i) 2)).t (ih (Nat.add (Nat.mul 8 i) 3)).t (ih (Nat.add (Nat.mul 8 i) 4)).t (ih (Nat.add (Nat.mul 8 i) 5)).t (ih (Nat.add (Nat.mul 8 i) 6)).t (ih (Nat.add (Nat.mul 8 i) 7)).t⟩) d
def glB(z:Option (List AV)):SB:=match z with|some z=>⟨λ_ C _=>C (tB z.length) (LO z z.length (tB z.length) 0).t z.length 2⟩|none=>⟨λ_ _ O=>O .dead⟩
def hs0(D:Nat)(gl:List (Option (List AV))):Hs D:=λs=>s (obT (gl.map glB) D 0).t gl.length
def aL(l:List AV):cS 1:=λs=>s (gA l 0).v (gA l 1).v (gA l 2).v (gA l 3).v (gA l 4).v (gA l 5).v (gA l 6).v (gA l 7).v
end
def Mq(D:Nat)(gl:List (Option (List AV))):Bool:=Nat.ble gl.length (8^D)&&gl.all λz=>match z with|some z=>z.all AV.one&&Nat.ble z.length (8^tB z.length)|none=>true
theorem Bt.HZ{α:Type}(l:List α):∃t:Bt α,Full t l.length∧∀i,t.get? i=l[i]?:=by
 have key:∀n,n≤l.length→∃t:Bt α,Full t n∧∀i,i<n→t.get? i=l[i]?:=by
  intro n
  induction n with
  |zero=>exact λ_=>⟨.e,Full.e,λi hi=>absurd hi (by omega)⟩
  |succ n ih=>
   intro hn;obtain⟨t,h1,h2⟩:=ih (by omega);obtain⟨t',_,g2,g3⟩:=Bt.tA h1 (Nat.le_refl _) l[n];have hf:=h1.set (Nat.le_refl _) g2 g3;rw[show max n (n+1)=n+1 by omega]at hf;refine⟨t',hf,λi hi=>?_⟩;by_cases e:i=n
   ·subst e;rw[g2,List.getElem?_eq_getElem (by omega)]
   ·rw[g3 i e,h2 i (by omega)]
 obtain⟨t,h1,h2⟩:=key l.length (Nat.le_refl _);refine⟨t,h1,λi=>?_⟩;rcases Nat.lt_or_ge i l.length with hi|hi
 ·exact h2 i hi
 ·have:=h1 i;rw[List.getElem?_eq_none hi];cases e:t.get? i with
  |none=>rfl
  |some x=>rw[e]at this;have:=this.1 rfl;omega
theorem VA(l:List SB)(m:Nat→cF)(hm:∀i,rO (match l[i]? with|some b=>b.so|none=>λ_ _ O=>O .dead) (m i)):∀(d i:Nat),TR rO d (obT l d i).t (λj=>m (i*8^d+j))
 |0,i=>by
  show rO (match l[i]? with|some b=>(⟨b.so⟩:TB SO)|none=>⟨λ_ _ O=>O .dead⟩).t (m (i*1+0));have h:=hm i;rw[Nat.mul_one,Nat.add_zero];cases e:l[i]?<;>rw[e]at h<;>exact h
 |d+1,i=>by
  refine⟨λj=>(obT l d (8*i+j)).t,rfl,λj hj=>?_⟩;refine(VA l m hm d (8*i+j)).congr' λx _=>?_;congr 1;rw[Nat.pow_succ,Nat.add_mul,Nat.mul_comm 8 i,Nat.mul_assoc,Nat.mul_comm 8 (8^d),Nat.add_assoc]
def Jz(gl:List (Option (List AV)))(b:Nat):Option (List AV):=(gl[b]?).getD none
theorem ajm{D:Nat}{gl:List (Option (List AV))}(h:Mq D gl=true):∃H0:AH,aY (hs0 D gl) H0∧H0.n=gl.length∧∀b,match Jz gl b with|some z=>∃c,H0.at b=.cells c z.length 2∧∀i,c.get? i=z[i]?|none=>H0.at b=.dead:=by
 unfold Mq at h;rw[Bool.and_eq_true]at h;obtain⟨h0,h1⟩:=h;have hT:∀z:Option (List AV),∃o:cF,(z∈gl→rO (glB z).so o)∧match z with|some z=>∃c,o=.cells c z.length 2∧∀i,c.get? i=z[i]?|none=>o=.dead:=by
  intro z;cases z with
  |none=>exact⟨.dead,λ_=>rfl,rfl⟩
  |some z=>
   obtain⟨c,g1,g2⟩:=Bt.HZ z;refine⟨.cells c z.length 2,λhz=>?_,c,rfl,g2⟩;have hz':=List.all_eq_true.1 h1 _ hz;simp only[Bool.and_eq_true]at hz';refine⟨tB z.length,_,rfl,Nat.le_of_ble_eq_true hz'.2,g1,?_⟩;refine(Ie z z.length (λi=>c.get? i) (λi=>?_) (tB z.length) 0).congr' λi _=>by rw[Nat.zero_mul,Nat.zero_add]
   split
   ·rename_i hi;rw[g2,Nat.mod_eq_of_lt hi]
   ·rename_i hi;rw[g2,List.getElem?_eq_none (by omega)]
 let os:List cF:=gl.map λz=>(hT z).choose
 obtain⟨t,ht1,ht2⟩:=Bt.HZ os;have hlen:os.length=gl.length:=by simp[os]
 have hat:∀b,(⟨t,gl.length⟩:AH).at b=match gl[b]? with|some z=>(hT z).choose|none=>.dead:=λb=>by
  simp only[AH.at,ht2,os,List.getElem?_map];cases gl[b]?<;>rfl
 refine⟨⟨t,gl.length⟩,⟨⟨_,rfl,?_⟩,Nat.le_of_ble_eq_true h0,by rw[hlen]at ht1;exact ht1⟩,rfl,λb=>?_⟩
 ·refine(VA (gl.map glB) (λb=>(⟨t,gl.length⟩:AH).at b) (λi=>?_) D 0).congr' λi _=>by rw[Nat.zero_mul,Nat.zero_add]
  rw[hat,List.getElem?_map];cases e:gl[i]? with
  |none=>rfl
  |some z=>exact(hT z).choose_spec.1 (List.mem_of_getElem? e)
 ·rw[hat];unfold Jz;cases e:gl[b]? with
  |none=>rfl
  |some z=>exact(hT z).choose_spec.2
def zp(gl:List (Option (List AV))):az:=⟨λb=>b<gl.length,λb=>b,λ_=>0,λb=>((Jz gl b).getD []).length⟩
def Mr(gl:List (Option (List AV)))(W:World):Prop:=∀(b:Nat) (z:List AV),Jz gl b=some z→∃(cur:Array Value) (e:TypeId) (lo hi:Nat),W.heap[b]? = some (.cells cur e (lo,hi))∧z.length≤cur.size∧∀(i:Nat) (a:AV),z[i]? = some a→∃v,cur[i]? = some v∧VR (zp gl) a v
theorem ahi{gl:List (Option (List AV))}{H0:AH}{W:World}(hn:H0.n=gl.length)(h:∀b,match Jz gl b with|some z=>∃c,H0.at b=.cells c z.length 2∧∀i,c.get? i=z[i]?|none=>H0.at b=.dead)(ht:Mr gl W):HR (zp gl) H0 W:=by
 refine fG.mk' (λb hb=>by rw[AH.mY,hn];exact hb) (λb hb ha=>?_) (λb b' hb1 hb2 ho ha e=>e);have hb':=h b;cases e:Jz gl b with
 |none=>rw[e]at hb';rw[AH.bG,hb']at ha;cases ha
 |some z=>
  rw[e]at hb';obtain⟨c,h1,h2⟩:=hb';obtain⟨cur,ty,lo,hi,g1,g2,g3⟩:=ht b z e;rw[AH.bG,h1];have hl:(zp gl).lim b=z.length:=by simp[zp,e]
  refine⟨cur,ty,lo,hi,g1,by rw[hl];simpa[zp]using g2,by rw[hl];exact Nat.le_refl _,λj a hj=>?_,λh=>absurd h (by omega),λh=>absurd h (by omega)⟩;have hj':c.get? j=some a:=hj;rw[h2]at hj';have hjl:j<z.length:=by
   rcases Nat.lt_or_ge j z.length with hx|hx
   ·exact hx
   ·rw[List.getElem?_eq_none hx]at hj';cases hj'
  obtain⟨v,y1,y2⟩:=g3 j a hj';exact⟨hjl,v,by rw[show(zp gl).off b+j=j from Nat.zero_add j];exact y1,y2⟩
theorem JX{f f':az}{H H':AH}{w w':World}(s:Step f H w f' H' w')(hown:∀b,f.dom b→(H.sem.ob b).own=false):RowKit.Below w.heap.size w w':=
 ⟨s.os,s.tape,s.output,s.size,λk hk=>s.keep k hk λb hb ho=>by rw[hown b hb]at ho;cases ho⟩
theorem ame{l:List AV}(h:l.length≤8):qQ (aL l) l:=qQ.of h (λj=>(gA l j).v) λj _=>SX l j
noncomputable def runs{D:Nat}(C:fM D)(g:Nat)(hs:Hs D)(l:List (List AV)):Prop:=@List.rec (List AV) (λ_=>Prop) True (λa _ ih=>C g (aL a) (λv _=>v ih False N1 N1 N2 N2 N2 N6 NL NL NO) (λ_ _=>False) hs) l
theorem ajn{a:AV}{x:Prop}(h:enc a x False N1 N1 N2 N2 N2 N6 NL NL NO):a=.bool true∧x:=by
 have g:=dk h;rcases g with⟨e,g⟩|⟨_,g⟩|⟨m,e,g⟩|⟨m,_,g⟩|⟨c,n,_,_,g⟩|⟨n,x,_,g⟩|⟨b,o,_,g⟩|⟨b,o,l,c,s,x,_,g⟩|⟨l,_,g⟩|⟨l,_,g⟩|⟨_,g⟩<;>first|exact⟨e,g⟩|exact g.elim
def Dt(P:Program)(gl:List (Option (List AV)))(g:Nat)(args:List AV):Prop:=∀(W:World),Mr gl W→∀(vs:Array Value),VL (zp gl) args vs.toList→Calls P g vs W λe w'=>e=.returned (.bool true)∧RowKit.Below W.heap.size W w'
theorem Ms{P:Program}{D:Nat}{gl:List (Option (List AV))}(hG:gl.length=P.globals.size)(hgl:Mq D gl=true){C:fM D}(hC:hV P C){g:Nat}(hb:fm P g=true){args:List AV}(hl:args.length≤8){x:Prop}
  (h:C g (aL args) (λv _=>v x False N1 N1 N2 N2 N2 N6 NL NL NO) (λ_ _=>False) (hs0 D gl)):x∧Dt P gl g args:=by
 obtain⟨H0,hr,hn,hat⟩:=ajm hgl;obtain⟨o,H',h1,h2⟩:=hC g args _ _ _ _ H0 hb (ame hl) hr h;obtain⟨_,_,h1⟩:=h1;cases o with
 |cJ v=>exact h1.elim
 |ret v=>
  obtain⟨hv1,hx⟩:=ajn h1;subst hv1;refine⟨hx,λW ht vs hv=>(h2 (zp gl) W vs (ahi hn hat ht) (λg hg=>⟨by show g<gl.length;omega,rfl,rfl⟩) hv).mono λe w' hp=>?_⟩;obtain⟨f',s,u,rfl,hu⟩:=hp;cases hu;refine⟨rfl,JX s λb hb=>?_⟩;have:=hat b;cases e:Jz gl b with
  |none=>rw[e]at this;rw[AH.bG,this];rfl
  |some z=>rw[e]at this;obtain⟨c,h1,_⟩:=this;rw[AH.bG,h1];rfl
theorem Rk{P:Program}{D:Nat}{gl:List (Option (List AV))}(hG:gl.length=P.globals.size)(hgl:Mq D gl=true){C:fM D}(hC:hV P C){g:Nat}(hb:fm P g=true) :
  ∀{l:List (List AV)},(∀a∈l,a.length≤8)→runs C g (hs0 D gl) l→∀a∈l,Dt P gl g a
 |[],_,_,_,ha=>by simp at ha
 |b::l,hl,h,a,ha=>by
  obtain⟨h1,h2⟩:=Ms hG hgl hC hb (hl b (by simp)) h;rcases List.mem_cons.1 ha with rfl|ha
  ·exact h2
  ·exact Rk hG hgl hC hb (λx hx=>hl x (by simp[hx])) h1 a ha
end Go.X
