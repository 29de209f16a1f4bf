/- The parser of the document gives what the grammar says. No condition: lemmas. -/
import Derived.Test.YtcedghechlgecaaDoorPa
set_option maxRecDepth 100000
set_option maxHeartbeats 0
set_option linter.unusedVariables false
set_option linter.unusedSimpArgs false
namespace Go.X
theorem bJ{α β γ:Type}(r:aj α)(f:α→Nat→aj β)(g:β→Nat→aj γ):(r.bind f).bind g=r.bind λa j=>(f a j).bind g:=by cases r<;>rfl
def Ag{α:Type}(r:aj α)(a:α):Prop:=∀a' j,r=.ok a' j→a=a'
theorem ah7{α β:Type}{r:aj α}{a:α}(h:Ag r a)(f:α→Nat→aj β):r.bind f=r.bind λ_ j=>f a j:=by
 cases r with
 |ok b j=>rw[h b j rfl];rfl
 |err c j=>rfl
 |aO=>rfl
def aj.ix{α:Type}:aj α→Nat
 |.ok _ i=>i
 |.err _ i=>i
 |.aO=>0
def aj.cd{α:Type}:aj α→Nat
 |.err c _=>c
 |_=>0
def aj.pl{α:Type}(T:List Tok):aj α→Nat
 |.err _ i=>aq T i
 |_=>0
structure bn(C:Ctx)(S:LS){α:Type}(r:aj α):Prop where
 ob:S.ob C.bp=.ce [C.vT,.int 0 (r.ix:Int),.int 0 (r.cd:Int),.int 0 (r.pl C.T:Int)] 0
 tk:dT S 4 C.vT C.T.length (tcs C.T)
 lt:r.ix<C.T.length
 no:r≠.aO
 cd:∀c i,r=.err c i→c≠0∧c≤100
def aT{α:Type}(C:Ctx)(X:Nat→Prop)(Rp:LS→(Nat→Prop)→AV→α→Prop)(K:KF)(S:LS)(r:aj α):Prop:=
 r≠.aO∧∀H' S' v a,Mem H' S'→aJ X S S'→bn C S' r→Rp S' (iy S.n S'.n) v a→Ag r a→K (.ret v) H'
def pU{α:Type}(T:List Tok)(s:List Nat):aj α→Bool
 |.ok _ i=>isA T s i
 |_=>false
section
variable {C:Ctx}{X Y:Nat→Prop}{S S' S1:LS}{H:AH}{K:KF}{α β γ:Type}{eD:LS→(Nat→Prop)→AV→α→Prop}{Hf:LS→(Nat→Prop)→AV→β→Prop}{r:aj α}
theorem bn.nW(h:bn C S r)(hM:Mem H S):C.bp<S.n:=hM.lt (by rw[h.ob];simp)
theorem bn.keep(h:bn C S r)(hM:Mem H S)(hc:aJ X S S')(h1:¬X C.bp)(h2:∀b,au C.vT b→¬X b):bn C S' r:=
 ⟨(hc.2 C.bp (h.nW hM) h1).trans h.ob,h.tk.keep hM λb hb hlt=>hc.2 b hlt (h2 b hb),h.lt,h.no,h.cd⟩
theorem bn.ic(h:bn C S r)(hM:Mem H S)(hc:aJ bP S S'):bn C S' r:=h.keep hM hc (λg=>g) λ_ _ g=>g
theorem bn.as{r':aj β}(h:bn C S r)(h1:r'.ix=r.ix)(h2:r'.cd=r.cd)(h3:r'.pl C.T=r.pl C.T)(h4:r'≠.aO)(h5:∀c i,r'=.err c i→c≠0∧c≤100):bn C S r':=
 ⟨by rw[h1,h2,h3];exact h.ob,h.tk,by rw[h1];exact h.lt,h4,h5⟩
theorem Pv(h:dT S 4 C.vT C.T.length (tcs C.T))(o:gh):dT (S.set C.bp o) 4 C.vT C.T.length (tcs C.T):=by
 rcases h with g|⟨b,c,ex,cs,g1,g2,g3⟩
 ·exact .inl g
 ·refine .inr ⟨b,c,ex,cs,g1,?_,g3⟩;rw[LS.av _ _ λe=>C.ne (by rw[g1,←e];rfl)];exact g2
theorem bn.qT{r0:aj γ}{S0:LS}{H0:AH}(h:bn C S r)(h0:bn C S0 r0)(hM0:Mem H0 S0){b:Nat}(hb:S0.n≤b)(o:gh):bn C (S.set b o) r:=
 ⟨(LS.av _ _ (by have:=h0.nW hM0;omega)).trans h.ob,by
  have hv:=h0.tk;rcases h.tk with g|⟨b',c,ex,cs,g1,g2,g3⟩
  ·exact .inl g
  ·refine .inr ⟨b',c,ex,cs,g1,?_,g3⟩;have:b'<S0.n:=hv.lt hM0 (by rw[g1];rfl);rw[LS.av _ _ (by omega)];exact g2,h.lt,h.no,h.cd⟩
theorem bn.setB(h:bn C S r){b:Nat}(h1:b≠C.bp)(h2:∀x,au C.vT x→x≠b)(o:gh):bn C (S.set b o) r:=
 ⟨(LS.av _ _ (Ne.symm h1)).trans h.ob,by
  rcases h.tk with g|⟨b',c,ex,cs,g1,g2,g3⟩
  ·exact .inl g
  ·refine .inr ⟨b',c,ex,cs,g1,?_,g3⟩;rw[LS.av _ _ (h2 b' (by rw[g1];rfl))];exact g2,h.lt,h.no,h.cd⟩
theorem bn.ok(h:bn C S r){j:Nat}(a:β)(hj:j<C.T.length):bn C (S.set C.bp (.ce [C.vT,.int 0 (j:Int),.int 0 0,.int 0 0] 0)) (aj.ok a j):=
 ⟨LS.aC _ _ _,Pv h.tk _,hj,λe=>(by cases e),λc i e=>(by cases e)⟩
theorem aT.call{f:α→Nat→aj β}(h:aT C X Hf K S (r.bind f)){k:AV→AH→Prop}
  (hk:∀a H' S' v,Mem H' S'→aJ Y S1 S'→bn C S' r→eD S' (iy S1.n S'.n) v a→aT C X Hf K S (r.bind λ_ j=>f a j)→k v H'):aT C Y eD (λo H=>cR K o H λv=>k v H) S1 r:=
 ⟨λe=>h.1 (by rw[e];rfl),λH' S' v a m c d p g=>hk a H' S' v m c d p (by rw[←ah7 g];exact h)⟩
theorem aT.tail{r:aj β}(h:aT C X Hf K S r){eD:LS→(Nat→Prop)→AV→β→Prop}{k:AV→AH→Prop}
  (hk:∀a H' S' v,Mem H' S'→aJ Y S1 S'→bn C S' r→eD S' (iy S1.n S'.n) v a→(∀Hg pb w,Mem Hg pb→aJ X S pb→bn C pb r→Hf pb (iy S.n pb.n) w a→K (.ret w) Hg)→k v H'):aT C Y eD (λo H=>cR K o H λv=>k v H) S1 r:=
 ⟨h.1,λH' S' v a m c d p g=>hk a H' S' v m c d p λHg pb w m' c' d' p'=>h.2 Hg pb w a m' c' d' p' g⟩
theorem aT.seq{r:aj γ}{p:γ→Nat→aj α}{f:α→Nat→aj β}(h:aT C X Hf K S (r.bind λx i=>(p x i).bind f)):aT C X Hf K S ((r.bind p).bind f):=by rw[bJ];exact h
theorem Cd{s:List Nat}(h:pU C.T s r=true):∃a i,r=.ok a i∧isA C.T s i=true:=by
 cases r with
 |ok a i=>exact⟨a,i,rfl,h⟩
 |err c i=>cases h
 |aO=>cases h
theorem xW{s:List Nat}(h:pU C.T s r=false)(f g:α→Nat→aj β):(r.bind λa i=>if isA C.T s i=true then f a i else g a i)=r.bind g:=by
 cases r with
 |ok a i=>
  have h:isA C.T s i=false:=h;show(if isA C.T s i=true then f a i else g a i)=g a i;rw[h];rfl
 |err c i=>rfl
 |aO=>rfl
end
end Go.X
namespace Go.Proofs.YtcedghechlgecaaDoor
open Go Go.X Go.Proofs.YtcedghechlgecaaDoor.G
section
variable {H:AH}{S:LS}{K:KF}{C:Ctx}{i d:Nat}
def bA(C:Ctx):Nat→Prop:=λb=>b=C.bp
theorem aJ.IJ{C:Ctx}{S S':LS}(h:aJ (bA C) S S')(o:gh):aJ (bA C) S (S'.set C.bp o):=h.set (b:=C.bp) (.inl (rfl:C.bp=C.bp)) o
end
section
variable {H:AH}{S:LS}{K:KF}{C:Ctx}{i d:Nat}
def ft(C:Ctx)(c:Nat):Nat→Prop:=λb=>b=C.bp∨b=c
def iz(bs:Nat)(S:LS)(Q:Nat→Prop)(v:AV)(s:aw):Prop:=v=.bF []∧∃c,S.ob bs=.ce c 0∧gR S Q c s
def z7:List AV:=[.int 0 (.ofNat 0),.int 0 (.ofNat 0),.int 0 (.ofNat 0),.str 0 0,.int 0 (.ofNat 0),.ab,.ab]
theorem kE(nw:Lay)(k:AV→AH→Prop):fl Tryd.prog nw 41 k=lA nw z7 k:=by kernel_rfl
theorem fB:∀a∈z7,a.one=true:=by
 intro a ha;simp only[z7,List.mem_cons,List.not_mem_nil,or_false]at ha;rcases ha with rfl|rfl|rfl|rfl|rfl|rfl|rfl<;>rfl
theorem T7{z c:List AV}(h:c.length=z.length):dV z 0 c=c:=by
 unfold dV;rw[List.take_zero,List.drop_of_length_le (by omega)];simp
theorem ky{n b:Nat}{c z:List AV}{k:AH→Prop}(hM:Mem H S)(h1:S.ob b=.ce z 0)(hz:z.length=n)(hc:c.length=n)(ho:∀a∈c,a.one=true)(hk:∀H',Mem H' (S.set b (.ce c 0))→k H'):ak n (.ptr b 0) (.agg c) H k:=
 pP hM h1 (by omega) hc (by omega) ho λH' h'=>hk H' (by rw[T7 (by omega)]at h';exact h')
theorem gy{n b m:Nat}{c:List AV}{k:AV→Prop}(hM:Mem H S)(h1:S.ob b=.ce c m)(hc:c.length=n)(hk:k (.agg c)):aZ n (.ptr b 0) H k:=
 qM hM h1 (by omega) (by rw[List.drop_zero,List.take_of_length_le (by omega)];exact hk)
theorem alf{b1 b3:Nat}{c z:List AV}(hM:Mem H S)(h3:S.ob b3=.ce c 0)(hc:c.length=7)(ho:∀a∈c,a.one=true)(h1:S.ob b1=.ce z 0)(hz:z.length=7)(hK:∀H',Mem H' (S.set b1 (.ce c 0))→K (.ret (.agg c)) H'):aZ 7 (.ptr b3 0) H λv1=>ak 7 (.ptr b1 0) v1 H λH2=>aZ 7 (.ptr b1 0) H2 λv3=>K (.ret v3) H2:=by
 refine gy hM h3 hc (ky hM h1 hz hc ho λH' h'=>?_);exact gy h' (LS.aC _ _ _) hc (hK H' h')
theorem dH.two{Q:Nat→Prop}{b:Nat}{ca cb:List AV}{m:Nat}{ex:Bool}(hQ:Q b)(hb:S.ob b=.ce (ca++cb) m)(h1:ca.length=7)(h2:cb.length=7):dH S Q 7 (.slice b 0 2 2 7 ex) 2 (λi=>if i=0 then ca else cb):=
 .inr ⟨b,0,2,ex,ca++cb,m,rfl,hQ,hb,Nat.le_refl _,by rw[List.length_append];omega,λi hi=>by
  have hi2:i=0∨i=1:=by omega
  rcases hi2 with rfl|rfl
  ·show((ca++cb).drop 0).take 7=ca;rw[List.drop_zero];exact List.take_left' h1
  ·show((ca++cb).drop 7).take 7=cb;rw[List.drop_left' h1,List.take_of_length_le (by omega)]⟩
theorem RE.simple{Q:Nat→Prop}{kind at_ n op:Nat}{s:List Nat}(h:B8 s):RE S Q [.int 0 (kind:Int),.int 0 (at_:Int),.int 0 (n:Int),ah s,.int 0 (op:Int),.ab,.ab] (.mk kind at_ n s op [] []):=
 .mk kind at_ n s op [] [] .ab .ab (λ_=>[]) (λ_=>[]) h (dH.nil _ _ _ _) (λi e h=>by simp at h) (dH.nil _ _ _ _) (λi e h=>by simp at h)
theorem RE.two{Q:Nat→Prop}{kind at_ op b m:Nat}{ex:Bool}{x y:ao}{ca cb:List AV}(hQ:Q b)(hb:S.ob b=.ce (ca++cb) m)(h1:RE S Q ca x)(h2:RE S Q cb y):RE S Q [.int 0 (kind:Int),.int 0 (at_:Int),.int 0 ((0:Nat):Int),ah [],.int 0 (op:Int),.slice b 0 2 2 7 ex,.ab] (lN kind op at_ x y):=by
 refine .mk kind at_ 0 [] op [x,y] [] _ .ab _ (λ_=>[]) B8.nil (dH.two hQ hb h1.len h2.len) (λi e h=>?_) (dH.nil _ _ _ _) (λi e h=>by simp at h)
 match i,h with
 |0,h=>
  have e1:x=e:=by simpa using h
  subst e1;exact h1
 |1,h=>
  have e1:y=e:=by simpa using h
  subst e1;exact h2
 |i+2,h=>simp at h
end
section
variable {H:AH}{S:LS}{K:KF}{C:Ctx}{i d:Nat}
structure lR(C:Ctx)(S0 S:LS)(b1 b3:Nat)(c:List AV)(e:ao):Prop where
 x:aJ (bA C) S0 S
 o1:∃z,S.ob b1=.ce z 0∧z.length=7
 o3:S.ob b3=.ce c 0
 n1:S0.n≤b1
 n3:S0.n≤b3
 ne:b1≠b3
 re:∃Q,RE S Q c e∧∀b,Q b→S0.n≤b∧b<S.n∧b≠b1∧b≠b3
section
variable {S0 S':LS}{H0:AH}{i0 d0 b1 b3:Nat}{c:List AV}{e:ao}
theorem lR.keep(h:lR C S0 S b1 b3 c e)(hM:Mem H S)(hbp:C.bp<S0.n)(g:aJ (bA C) S S'):lR C S0 S' b1 b3 c e:=by
 have ne1:¬bA C b1:=λq=>by have q:b1=C.bp:=q;have:=h.n1;omega
 have ne3:¬bA C b3:=λq=>by have q:b3=C.bp:=q;have:=h.n3;omega
 obtain⟨z,hz,nZ⟩:=h.o1;obtain⟨Q,h1,h2⟩:=h.re;exact⟨h.x.trans g,⟨z,g.ob hM hz ne1,nZ⟩,g.ob hM h.o3 ne3,h.n1,h.n3,h.ne,Q,h1.go (λb hb=>g.2 b (h2 b hb).2.1 λq=>by have q:b=C.bp:=q;have:=(h2 b hb).1;omega) (λ_ h=>h),λb hb=>⟨(h2 b hb).1,Nat.lt_of_lt_of_le (h2 b hb).2.1 g.1,(h2 b hb).2.2⟩⟩
theorem lR.Pw{c':List AV}{e':ao}(h:lR C S0 S b1 b3 c e){Q:Nat→Prop}(hr:RE S Q c' e')(hQ:∀b,Q b→S0.n≤b∧b<S.n∧b≠b1∧b≠b3):lR C S0 (S.set b3 (.ce c' 0)) b1 b3 c' e':=by
 obtain⟨z,hz,nZ⟩:=h.o1;exact⟨h.x.set (.inr h.n3) _,⟨z,(LS.av _ _ h.ne).trans hz,nZ⟩,LS.aC _ _ _,h.n1,h.n3,h.ne,Q,hr.go (λb hb=>LS.av _ _ (hQ b hb).2.2.2) (λ_ h=>h),hQ⟩
theorem lR.len(h:lR C S0 S b1 b3 c e):c.length=7:=by obtain⟨Q,h1,_⟩:=h.re;exact h1.len
end
end
section
variable {H:AH}{S:LS}{K:KF}{C:Ctx}{i d:Nat}
theorem dH.single{Q:Nat→Prop}{b m sz:Nat}{c:List AV}{ex:Bool}(hQ:Q b)(hb:S.ob b=.ce c m)(hc:c.length=sz):dH S Q sz (.slice b 0 1 1 sz ex) 1 (λ_=>c):=
 .inr ⟨b,0,1,ex,c,m,rfl,hQ,hb,Nat.le_refl _,by omega,λi hi=>by
  have:i=0:=by omega
  subst this;show(c.drop (0+0*sz)).take sz=c;rw[Nat.zero_mul,Nat.add_zero,List.drop_zero,List.take_of_length_le (by omega)]⟩
theorem RE.one{Q:Nat→Prop}{kind at_ op b m:Nat}{ex:Bool}{x:ao}{c:List AV}(hQ:Q b)(hb:S.ob b=.ce c m)(h1:RE S Q c x):RE S Q [.int 0 (kind:Int),.int 0 (at_:Int),.int 0 ((0:Nat):Int),ah [],.int 0 (op:Int),.slice b 0 1 1 7 ex,.ab] (.mk kind at_ 0 [] op [x] []):=by
 refine .mk kind at_ 0 [] op [x] [] _ .ab _ (λ_=>[]) B8.nil (dH.single hQ hb h1.len) (λi e h=>?_) (dH.nil _ _ _ _) (λi e h=>by simp at h)
 match i,h with
 |0,h=>
  have e1:x=e:=by simpa using h
  subst e1;exact h1
 |i+1,h=>simp at h
theorem lR.mk0{S0 S2:LS}{H2:AH}{c:List AV}{e:ao}{z:List AV}(hbp:C.bp<S0.n)(hz:z.length=7)(h1:aJ (bA C) S0 S2)(m2:Mem H2 S2)(hb1:S2.ob S0.n=.ce z 0)(hR:RE S2 (iy (S0.n+1) S2.n) c e):lR C S0 ((S2.push (.ce z7 0)).set S2.n (.ce c 0)) S0.n S2.n c e:=by
 have n12:S0.n<S2.n:=m2.lt (by rw[hb1];simp);have c4:aJ bP S2 ((S2.push (.ce z7 0)).set S2.n (.ce c 0)):=((aJ.refl _ _).push _).set (.inr (Nat.le_refl _)) _;exact⟨h1.trans c4.no,⟨z,c4.ob m2 hb1 (λq=>q),hz⟩,LS.aC _ _ _,Nat.le_refl _,by omega,by omega,iy (S0.n+1) S2.n,hR.go (λb hb=>c4.2 b hb.2 λq=>q) (λ_ h=>h),λb hb=>⟨by have:=hb.1;omega,Nat.lt_of_lt_of_le hb.2 c4.1,by have:=hb.1;omega,by have:=hb.2;omega⟩⟩
end
end Go.Proofs.YtcedghechlgecaaDoor
namespace Go.X
section
variable {H:AH}{S:LS}
theorem iI.IK{α:Type}{R:Rep α}{lo:Nat}{v:AV}{l:List α}{k:AV→Prop}(h:iI R lo S v l)(hk:k (.int 0 l.length)):eP v k:=by
 obtain⟨cl,h1,_⟩:=h;exact h1.len hk
theorem alg{bytes sz n n':Nat}{v x:AV}{l:List AV}{Q:Nat→Prop}{cl:Nat→List AV}{k:AV→AH→Prop}(hM:Mem H S)(hs:dT S sz v n l)(hv:0<n'∨v≠.ab)(hsz:0<sz)(hx:dH S Q sz x n' cl)(hone:∀i,i<n'→∀a∈cl i,a.one=true)(hl:(n+n')*bytes≤1099511627776)
  (hK:∀H' S' v' l',Mem H' S'→l'.length=n'*sz→(∀i,i<n'→(l'.drop (i*sz)).take sz=cl i)→qN S v (n+n') sz (l++l') S' v'→k v' H'):dw sz bytes v x H k:=by
 have go:∀l':List AV,l'.length=n'*sz→(∀i,i<n'→(l'.drop (i*sz)).take sz=cl i)→py sz bytes n' v l' H k:=λl' h1 h2=>by
  refine ru hM hs hsz hv h1 hl (λa ha=>?_) λH' S' v' m' he=>hK H' S' v' l' m' h1 h2 he;obtain⟨j,hj,e⟩:=List.mem_iff_getElem.1 ha;have hi:j/sz<n':=Nat.div_lt_of_lt_mul (by rw[Nat.mul_comm];omega);refine hone (j/sz) hi a ?_;rw[←h2 _ hi];rw[List.mem_iff_getElem?];refine⟨j%sz,?_⟩;rw[List.getElem?_take,if_pos (Nat.mod_lt _ hsz),List.getElem?_drop,Nat.mul_comm,Nat.div_add_mod,List.getElem?_eq_getElem hj,e]
 rcases hx with⟨rfl,rfl⟩|⟨b,o,c,ex,cs,m,rfl,h1,h2,h3,h4,h5⟩
 ·exact go [] (by simp) (λi hi=>by omega)
 ·refine nF (ex:=ex) (cap:=c) (k:=λl=>py sz bytes n' _ l H k) hM h2 (by omega) ?_;refine go _ (by rw[List.length_take,List.length_drop];omega) λi hi=>?_;have hle:(i+1)*sz≤n'*sz:=Nat.mul_le_mul_right _ (by omega);rw[Nat.add_mul,Nat.one_mul]at hle;rw[List.drop_take,List.take_take,Nat.min_eq_left (by omega),List.drop_drop];exact h5 i hi
end
end Go.X
namespace Go.Proofs.YtcedghechlgecaaDoor
open Go Go.X Go.Proofs.YtcedghechlgecaaDoor.G
section
variable {H:AH}{S:LS}{K:KF}{C:Ctx}{i d:Nat}
end
section
variable {H:AH}{S:LS}{K:KF}{C:Ctx}{i d:Nat}
theorem ae8{T:List Tok}{i:Nat}:∀a∈nX T i,a.one=true:=by
 intro a ha;simp only[nX,List.mem_cons,List.not_mem_nil,or_false]at ha;rcases ha with rfl|rfl|rfl|rfl<;>rfl
end
end Go.Proofs.YtcedghechlgecaaDoor
namespace Go.X
section
variable {H:AH}{S:LS}
theorem iI.same{α:Type}{R:Rep α}{lo:Nat}{v:AV}{l:List α}(h:iI R lo S v l):bw v v=true:=by
 obtain⟨cl,h1,_⟩:=h;rcases h1 with⟨rfl,_⟩|⟨b,c,ex,cs,rfl,_⟩
 ·rfl
 ·simp[bw]
theorem iI.one{α:Type}{R:Rep α}{lo:Nat}{v:AV}{l:List α}(h:iI R lo S v l):v.one=true:=by
 obtain⟨cl,h1,_⟩:=h;rcases h1 with⟨rfl,_⟩|⟨b,c,ex,cs,rfl,_⟩<;>rfl
theorem bind_ok{α β:Type}{r:aj α}{f:α→Nat→aj β}{b:β}{j:Nat}(h:r.bind f=.ok b j):∃a i,r=.ok a i∧f a i=.ok b j:=by
 cases r with
 |ok a i=>exact⟨a,i,rfl,h⟩
 |err c i=>cases h
 |aO=>cases h
end
end Go.X
namespace Go.Proofs.YtcedghechlgecaaDoor
open Go Go.X Go.Proofs.YtcedghechlgecaaDoor.G
section
variable {H:AH}{S:LS}{K:KF}{C:Ctx}{i d:Nat}
def ue(a:Nat)(v:AV):List AV:=[.int 0 ((8:Nat):Int),.int 0 (a:Int),.int 0 ((0:Nat):Int),ah [],.int 0 ((0:Nat):Int),v,.ab]
theorem ae9{a:Nat}:∀x∈ue a .ab,x.one=true:=λx hx=>(RE.simple (S:=⟨0,λ_=>.ce [] 0⟩) (Q:=bP) (kind:=8) (at_:=a) (n:=0) (op:=0) B8.nil).ones x hx
end
end Go.Proofs.YtcedghechlgecaaDoor
namespace Go.X
section
variable {H:AH}{S:LS}
theorem alh{bytes sz n:Nat}{v:AV}{l l':List AV}{k:AV→AH→Prop}(hM:Mem H S)(hs:dT S sz v n l)(hsz:0<sz)(hl':l'.length=sz)(hl:(n+1)*bytes≤1099511627776)(h1:∀a∈l',a.one=true)
  (hK:∀H' S' v',Mem H' S'→qN S v (n+1) sz (l++l') S' v'→k v' H'):aX (ay H) 1 sz l' λx H'=>bT (Nat.beq H'.n (Nat.succ H.n)) (dw sz bytes v x H' k):=by
 refine eI hM (by omega) h1 λH1 m1=>cV (sr (by rw[m1.n,hM.n];rfl)) ?_;have hs1:dT (S.push (.ce l' 0)) sz v n l:=hs.keep hM λb _ hb=>LS.bC _ _ hb;have hlt1:∀b,au v b→b<S.n:=λb hb=>hs.lt hM hb;refine nF (ex:=true) (cap:=1) (o:=0) (n:=1) (l:=l') (m:=0) (b:=S.n) (k:=λl=>py sz bytes 1 _ l H1 k) m1 (LS.ax _ _) (by omega) ?_;rw[List.drop_zero,List.take_of_length_le (by omega)];refine ru m1 hs1 hsz (.inl (by omega)) (by omega) hl h1 λH' S' v' h' he=>?_;obtain⟨e1,e2,e3,e4⟩:=he;have e1':S.n+1≤S'.n:=e1;refine hK H' S' v' h' ⟨by omega,λb hb hne=>?_,e3,λb hb=>?_⟩
 ·rw[e2 b (by show b<S.n+1;omega) hne,LS.bC _ _ hb]
 ·rcases e4 b hb with g|g
  ·exact .inl g
  ·have g':S.n+1≤b:=g;exact .inr (by omega)
theorem dH.congr{Q:Nat→Prop}{sz n:Nat}{v:AV}{cl cl':Nat→List AV}(h:dH S Q sz v n cl)(he:∀i,i<n→cl i=cl' i):dH S Q sz v n cl':=by
 rcases h with h|⟨b,o,c,ex,cs,m,h1,h2,h3,h4,h5,h6⟩
 ·exact .inl h
 ·exact .inr ⟨b,o,c,ex,cs,m,h1,h2,h3,h4,h5,λi hi=>(h6 i hi).trans (he i hi)⟩
theorem iI.nm{lo:Nat}{v:AV}{l:List (List Nat)}(h:iI vu lo S v l)(hM:Mem H S):jG S (iy lo S.n) v l:=by
 obtain⟨cl,h1,h2⟩:=h.done hM;refine⟨h1.congr λi hi=>?_,λt ht=>?_⟩
 ·have g:=(h2 i _ (List.getElem?_eq_getElem hi)).1;rw[List.getElem?_eq_getElem hi];exact g
 ·obtain⟨i,hi,e⟩:=List.mem_iff_getElem.1 ht;have g:=(h2 i _ (List.getElem?_eq_getElem hi)).2;rw[e]at g;exact g
theorem T8{l z:List AV}(hl:l.length=2)(hz:z.length=2):spl l z 0=l:=by
 match l,hl,z,hz with
 |[a,b],_,[_,_],_=>rfl
end
end Go.X
namespace Go.Proofs.YtcedghechlgecaaDoor
open Go Go.X Go.Proofs.YtcedghechlgecaaDoor.G
section
variable {H:AH}{S:LS}{K:KF}{C:Ctx}{i d:Nat}
end
end Go.Proofs.YtcedghechlgecaaDoor
namespace Go.X
section
variable {H:AH}{S:LS}
end
end Go.X
namespace Go.Proofs.YtcedghechlgecaaDoor
open Go Go.X Go.Proofs.YtcedghechlgecaaDoor.G
section
variable {H:AH}{S:LS}{K:KF}{C:Ctx}{i d:Nat}
def z5:List AV:=[.int 0 (.ofNat 0),.int 0 (.ofNat 0),.ab,.ab,.ab]
theorem Px:∀a∈z5,a.one=true:=by
 intro a ha;simp only[z5,List.mem_cons,List.not_mem_nil,or_false]at ha;rcases ha with rfl|rfl|rfl|rfl|rfl<;>rfl
end
end Go.Proofs.YtcedghechlgecaaDoor
namespace Go.X
section
variable {H:AH}{S S':LS}
def aW{α:Type}(R:Rep α)(Z:Nat→Prop)(S:LS)(v:AV)(l:List α):Prop:=∃cl:List (List AV),dT S R.sz v l.length cl.flatten∧cl.length=l.length∧(∀b,au v b→Z b)∧
 ∀(i:Nat) (c:List AV) (a:α),cl[i]? = some c→l[i]? = some a→∃Q,R.rel S Q c a∧∀b,Q b→Z b∧b<S.n∧¬au v b
section
variable {α:Type}{R:Rep α}{Z Z':Nat→Prop}{v:AV}{l:List α}
theorem aW.nil(R:Rep α)(Z:Nat→Prop)(S:LS):aW R Z S .ab []:=⟨[],dT.nil _ _,rfl,λ_ h=>h.elim,λi c a h=>by simp at h⟩
theorem aW.toR{lo:Nat}(h:aW R Z S v l)(hZ:∀b,Z b→lo≤b):iI R lo S v l:=by
 obtain⟨cl,h1,h2,h3,h4⟩:=h;refine⟨cl,h1,h2,λb hb=>hZ b (h3 b hb),λi c a hc ha=>?_⟩;obtain⟨Q,g1,g2⟩:=h4 i c a hc ha;exact⟨Q,g1,λb hb=>⟨hZ b (g2 b hb).1,(g2 b hb).2⟩⟩
theorem aW.imp(h:aW R Z S v l)(hM:Mem H S)(hZ:∀b,Z b→b<S.n→Z' b):aW R Z' S v l:=by
 obtain⟨cl,h1,h2,h3,h4⟩:=h;refine⟨cl,h1,h2,λb hb=>hZ b (h3 b hb) (h1.lt hM hb),λi c a hc ha=>?_⟩;obtain⟨Q,g1,g2⟩:=h4 i c a hc ha;exact⟨Q,g1,λb hb=>⟨hZ b (g2 b hb).1 (g2 b hb).2.1,(g2 b hb).2⟩⟩
theorem aW.keep(h:aW R Z S v l)(hM:Mem H S)(hn:S.n≤S'.n)(hk:∀b,Z b→b<S.n→S'.ob b=S.ob b):aW R Z S' v l:=by
 obtain⟨cl,h1,h2,h3,h4⟩:=h;refine⟨cl,h1.keep hM λb hb hlt=>hk b (h3 b hb) hlt,h2,h3,λi c a hc ha=>?_⟩;obtain⟨Q,g1,g2⟩:=h4 i c a hc ha;exact⟨Q,R.go (λb hb=>hk b (g2 b hb).1 (g2 b hb).2.1) (λ_ h=>h) g1,λb hb=>⟨(g2 b hb).1,Nat.lt_of_lt_of_le (g2 b hb).2.1 hn,(g2 b hb).2.2⟩⟩
theorem aW.lt(h:aW R Z S v l)(hM:Mem H S){b:Nat}(hb:au v b):b<S.n:=by
 obtain⟨cl,h1,_⟩:=h;exact h1.lt hM hb
theorem aW.Hk(h:aW R Z S v l){b:Nat}(hb:au v b):Z b:=by
 obtain⟨_,_,_,h3,_⟩:=h;exact h3 b hb
theorem aW.step{a:α}{c:List AV}{Q:Nat→Prop}{v':AV}(h:aW R Z S v l)(hr:R.rel S Q c a)(hQ:∀b,Q b→Z b∧b<S.n∧¬au v b)(hnew:∀b,S.n≤b→Z b)(hs:∀cl,dT S R.sz v l.length cl→qN S v (l.length+1) R.sz (cl++c) S' v'):aW R Z S' v' (l++[a]):=by
 obtain⟨cl,h1,h2,h3,h4⟩:=h;obtain⟨a1,a2,a3,a4⟩:=hs _ h1;refine⟨cl++[c],?_,by simp[h2],λb hb'=>?_,λi c' a' hc ha=>?_⟩
 ·rw[List.flatten_append,List.length_append];show dT S' R.sz v' (l.length+1) (cl.flatten++[c].flatten);have:[c].flatten=c:=by simp
  rw[this];exact a3
 ·rcases a4 b hb' with g|g
  ·exact h3 b g
  ·exact hnew b g
 ·have fin:∀{Q:Nat→Prop}{c:List AV}{a:α},R.rel S Q c a→(∀b,Q b→Z b∧b<S.n∧¬au v b)→∃Q,R.rel S' Q c a∧∀b,Q b→Z b∧b<S'.n∧¬au v' b:=λ{Q c a} g1 g2=>
   ⟨Q,R.go (λb hb=>a2 b (g2 b hb).2.1 (g2 b hb).2.2) (λ_ h=>h) g1,λb hb=>⟨(g2 b hb).1,Nat.lt_of_lt_of_le (g2 b hb).2.1 a1,λhb'=>by
    rcases a4 b hb' with q|q
    ·exact(g2 b hb).2.2 q
    ·have:=(g2 b hb).2.1;omega⟩⟩
  by_cases hi:i<cl.length
  ·rw[List.getElem?_append_left hi]at hc;rw[List.getElem?_append_left (by omega)]at ha;obtain⟨Q,g1,g2⟩:=h4 i c' a' hc ha;exact fin g1 g2
  ·rw[List.getElem?_append_right (by omega)]at hc ha;have hi0:=(List.getElem?_eq_some_iff.1 hc).1;have e0:i-cl.length=0:=by simp at hi0;omega
   rw[e0]at hc;rw[h2]at e0;rw[e0]at ha;have ec:c=c':=by simpa using hc
   have ea:a=a':=by simpa using ha
   subst ec;subst ea;exact fin hr hQ
end
theorem dT.uniq{sz n:Nat}{v:AV}{l l':List AV}(h:dT S sz v n l)(h':dT S sz v n l'):l'=l:=by
 rcases h with⟨e1,e2,e3⟩|⟨b,c1,ex,cs,e1,e2,e3,e4,e5,e6,e7⟩
 ·rcases h' with⟨_,_,g3⟩|⟨b',c1',ex',cs',g1,_⟩
  ·rw[g3,e3]
  ·rw[e1]at g1;cases g1
 ·rcases h' with⟨g1,_⟩|⟨b',c1',ex',cs',g1,g2,g3,g4,g5,g6,g7⟩
  ·rw[e1]at g1;cases g1
  ·rw[e1]at g1;injection g1 with q1;subst q1;rw[e2]at g2;injection g2 with q2;rw[←g6,←e6,g5,e5,q2]
theorem ah8{m n b b' o o':Nat}{x:Prop}(hb:b≠b')(h:x):vN m n (.ptr b o) (.ptr b' o') x:=by
 show bT _ _;refine cV ?_ h;have:Nat.beq b b'=false:=by
  cases g:Nat.beq b b' with
  |false=>rfl
  |true=>exact absurd (Nat.eq_of_beq_eq_true g) hb
 rw[this];rfl
theorem aml{bs br n o:Nat}{v:AV}{l c cs0 z:List AV}{X:AH→Prop}(hM:Mem H S)(hs:dT S 7 v n l)(hrow:S.ob br=.ce z 0)(hz:z.length=7)(hzo:∀a∈z,a.one=true)(hc:c.length=7)(hco:∀a∈c,a.one=true)(hbs:S.ob bs=.ce cs0 0)(ho:o<cs0.length)(hne:¬au v bs)(hl:(n+1)*96≤1099511627776)
  (hK:∀H' S' v',Mem H' (S'.set bs (.ce (cs0.set o v') 0))→qN S v (n+1) 7 (l++c) S' v'→S'.ob bs=.ce cs0 0→X H') :
  dw 7 96 v (.slice br 0 1 1 7 true) H λv14 iG=>cn 7 v14 (.int 0 (n:Int)) λv16=>ak 7 v16 (.agg c) iG λju=>ak 1 (.ptr bs o) v14 ju λoI=>ak 1 (.ptr bs o) v14 iG λnf=>ak 7 v16 (.agg c) nf λiO=>vN 7 1 v16 (.ptr bs o) (X oI):=by
 refine nF (sz:=7) (ex:=true) (cap:=1) (o:=0) (n:=1) (l:=z) (m:=0) (b:=br) (k:=λl=>py 7 96 1 _ l H _) hM hrow (by omega) ?_;rw[List.drop_zero,List.take_of_length_le (by omega)];refine ru hM hs (by omega) (.inl (by omega)) (by omega) hl hzo λH1 S1 v1 m1 he=>?_;obtain⟨e1,e2,e3,e4⟩:=he;have amm:bs<S.n:=hM.lt (by rw[hbs];simp);have o1:S1.ob bs=.ce cs0 0:=(e2 bs amm hne).trans hbs;rcases e3 with⟨_,g,_⟩|⟨b,cp,ex,cs,rfl,g2,g3,g4,g5,g6,g7⟩
 ·omega
 have hbne:b≠bs:=λq=>by
  subst q;rcases e4 b rfl with g|g
  ·exact hne g
  ·omega
 refine nE (by omega) (by omega) ?_;rw[Int.toNat_natCast,Nat.zero_add];have hle:(n+1)*7≤cp*7:=Nat.mul_le_mul_right _ g4;have hone:(AV.slice b 0 (n+1) cp 7 ex).one=true:=rfl;refine pP m1 g2 (by omega) hc (by omega) hco λH2 m2=>?_;have o2:(S1.set b (.ce (dV cs (n*7) c) 0)).ob bs=.ce cs0 0:=(LS.av _ _ (Ne.symm hbne)).trans o1;refine cZ m2 o2 (by omega) ho hone λH3 m3=>?_;refine cZ m1 o1 (by omega) ho hone λH4 m4=>?_;refine pP m4 ((LS.av _ _ hbne).trans g2) (by omega) hc (by omega) hco λH5 m5=>?_;refine ah8 hbne ?_;have hll:l.length=n*7:=by
  rw[List.length_append,hz]at g5;omega
 have hsl:(dV cs (n*7) c).length=cs.length:=ov (by omega);refine hK H3 (S1.set b (.ce (dV cs (n*7) c) 0)) _ m3 ⟨e1,λx hx hn=>?_,.inr ⟨b,cp,ex,dV cs (n*7) c,rfl,LS.aC _ _ _,by rw[hsl];exact g3,g4,by rw[List.length_append,hc];omega,?_,λa ha=>?_⟩,e4⟩ o2
 ·have hxb:x≠b:=λq=>by
   subst q;rcases e4 x rfl with g|g
   ·exact hn g
   ·omega
  exact(LS.av _ _ hxb).trans (e2 x hx hn)
 ·have ht:cs.take (n*7)=l:=by
   have g:(cs.take (l++z).length).take (n*7)=(l++z).take (n*7):=by rw[g6]
   rw[List.take_take,Nat.min_eq_left (by rw[List.length_append];omega)]at g;rw[g,←hll];exact List.take_left' rfl
  unfold dV;rw[ht,List.take_append_of_le_length (by rw[List.length_append];exact Nat.le_refl _)];exact List.take_of_length_le (Nat.le_refl _)
 ·simp only[dV,List.mem_append]at ha;rcases ha with(g|g)|g
  ·exact g7 a (List.mem_of_mem_take g)
  ·exact hco a g
  ·exact g7 a (List.mem_of_mem_drop g)
end
end Go.X
namespace Go.Proofs.YtcedghechlgecaaDoor
open Go Go.X Go.Proofs.YtcedghechlgecaaDoor.G
section
variable {H:AH}{S:LS}{K:KF}{C:Ctx}{i d:Nat}
theorem gR.plain{Q:Nat→Prop}{kind a:Nat}{names:List (List Nat)}{l:List ao}{vn vl:AV}{cl:Nat→List AV}(hn:jG S Q vn names)(hl:dH S Q 7 vl l.length cl)(he:∀i e,l[i]? = some e→RE S Q (cl i) e):gR S Q [.int 0 (kind:Int),.int 0 (a:Int),vn,vl,.ab] (.mk kind a names l []):=
 .mk kind a names l [] vn vl .ab cl (λ_=>.ab) (λ_ _=>[]) hn hl he (dH.nil _ _ _ _) (λi b h=>by simp at h) (λi b j s h=>by simp at h)
theorem jG.nil{Q:Nat→Prop}:jG S Q .ab []:=⟨dH.nil _ _ _ _,λt h=>by simp at h⟩
theorem _root_.Go.X.jG.go{S S':LS}{Q Q':Nat→Prop}{v:AV}{l:List (List Nat)}(h:jG S Q v l)(hk:∀b,Q b→S'.ob b=S.ob b)(h1:∀b,Q b→Q' b):jG S' Q' v l:=⟨h.1.go hk h1,h.2⟩
end
end Go.Proofs.YtcedghechlgecaaDoor
namespace Go.X
theorem RE.k0{S:LS}{Q:Nat→Prop}{c:List AV}{e:ao}(h:RE S Q c e):∃l,c=.int 0 (e.kind:Int)::l:=by
 cases h;exact⟨_,rfl⟩
end Go.X
namespace Go.Proofs.YtcedghechlgecaaDoor
open Go Go.X Go.Proofs.YtcedghechlgecaaDoor.G
section
variable {H:AH}{S:LS}{K:KF}{C:Ctx}{i d:Nat}
end
end Go.Proofs.YtcedghechlgecaaDoor
namespace Go.X
section
variable {H:AH}{S S':LS}
theorem aW.pushB{α:Type}{R:Rep α}{Z:Nat→Prop}{bytes:Nat}{v:AV}{l:List α}{a:α}{c:List AV}{Q:Nat→Prop}{k:AV→AH→Prop}(h:aW R Z S v l)(hM:Mem H S)(hr:R.rel S Q c a)(hQ:∀b,Q b→Z b∧b<S.n∧¬au v b)(hnew:∀b,S.n≤b→Z b)(hl:(l.length+1)*bytes≤1099511627776)
  (hk:∀H' S' v',Mem H' S'→aW R Z S' v' (l++[a])→S.n≤S'.n→(∀b,b<S.n→¬au v b→S'.ob b=S.ob b)→(∀b,au v' b→au v b∨S.n≤b)→v'.one=true→k v' H'):aX (ay H) 1 R.sz c λx H'=>bT (Nat.beq H'.n (Nat.succ H.n)) (dw R.sz bytes v x H' k):=by
 obtain⟨cl,h1,h2⟩:=id h;refine alh hM h1 R.pos (R.len hr) hl (R.ones hr) λH' S' v' m' he=>?_;have g:=h.step hr hQ hnew λcl' h'=>by rw[h1.uniq h'];exact he
 exact hk H' S' v' m' g he.1 he.2.1 he.2.2.2 (g.toR (lo:=0) λb _=>Nat.zero_le _).one
end
end Go.X
namespace Go.Proofs.YtcedghechlgecaaDoor
open Go Go.X Go.Proofs.YtcedghechlgecaaDoor.G
section
variable {H:AH}{S:LS}{K:KF}{C:Ctx}{i d:Nat}
end
section
variable {H:AH}{S:LS}{K:KF}{C:Ctx}{α:Type}{r:aj α}
theorem ie{k:Int→Prop}{H:AH}(hM:Mem H S)(hd:bn C S r)(hk:k (r.cd:Int)):aI (.ptr C.bp 0) (ag 2 (.ptr C.bp 0) λv1=>af v1 H λv2=>cI 0 v2 k):=by
 simp only[dL,aU,Nat.zero_add];refine aF hM hd.ob (v:=.int 0 (r.cd:Int)) rfl ?_;rw[aQ];exact hk
theorem zU(hd:bn C S r):(r.cd=0∧∃a i,r=.ok a i)∨(r.cd≠0∧∃c i,r=.err c i):=by
 cases r with
 |ok a i=>exact .inl ⟨rfl,a,i,rfl⟩
 |err c i=>exact .inr ⟨(hd.cd c i rfl).1,c,i,rfl⟩
 |aO=>exact absurd rfl hd.no
theorem Py{j:Nat}{v:AV}{k:AV→Prop}{i:Nat}(hM:Mem H S)(tk:dT S 4 C.vT C.T.length (tcs C.T))(hi:i<C.T.length)(hj:j<4)(hv:(nX C.T i)[j]? = some v)(hk:k v):cn 4 C.vT (.int 0 (i:Int)) λp=>ag j p λq=>af q H k:=by
 refine tk.at_ hi λb cs m hb ho hc=>?_;rw[aU];refine aF hM ho (v:=v) ?_ hk;rw[hc j hj];rw[←B6 hi,List.getElem?_take,if_pos hj,List.getElem?_drop]at hv;exact hv
theorem AU{j:Nat}{v:AV}{k:AV→Prop}(hM:Mem H S)(hd:bn C S r)(hj:j<4)(hv:(nX C.T r.ix)[j]? = some v)(hk:k v) :
  aI (.ptr C.bp 0) (ag 0 (.ptr C.bp 0) λv1=>af v1 H λv2=>aI (.ptr C.bp 0) (ag 1 (.ptr C.bp 0) λv3=>af v3 H λv4=>cI 0 v4 λz5=>cn 4 v2 (.int 0 z5) λv6=>ag j v6 λv7=>af v7 H k)):=by
 simp only[dL,aU,Nat.zero_add];refine aF hM hd.ob (v:=C.vT) rfl ?_;refine aF hM hd.ob (v:=.int 0 (r.ix:Int)) rfl ?_;simp only[aQ];exact Py hM hd.tk hd.lt hj hv hk
def AW{β:Type}(c:Nat)(r:aj α):aj β:=r.bind λ_ i=>.err c i
theorem qU{c:Nat}(hc:c≠0)(hc':c≤100)(hM:Mem H S)(hd:bn C S r)(hK:∀H' S',Mem H' S'→aJ (bA C) S S'→bn C S' (AW c r:aj Unit)→K (.ret (.bF [])) H'):f18 (.ptr C.bp 0) (c:Int) H K:=by
 show Dv Mt K (.ptr C.bp 0) (c:Int) H;unfold Dv;refine ie hM hd ?_;have e0:Int.ofNat 0=((0:Nat):Int):=rfl;rw[bD,e0];rcases zU hd with⟨e,a,i,rfl⟩|⟨e,c1,i,rfl⟩
 ·rw[e,decide_eq_true rfl,aK];refine AU hM hd (j:=3) (v:=.int 0 (aq C.T i:Int)) (by omega) rfl ?_;simp only[aQ,dL,aU,Nat.zero_add];refine cZ hM hd.ob (by omega) (by show 2<4;omega) rfl λH1 m1=>?_;refine cZ m1 (LS.aC _ _ _) (by omega) (by show 3<4;omega) rfl λH2 m2=>?_;refine hK H2 _ m2 (aJ.IJ (aJ.IJ (aJ.refl _ _) _) _) ?_;exact⟨LS.aC _ _ _,Pv (Pv hd.tk _) _,hd.lt,λe=>(by cases e),λc' i' e=>(by cases e;exact⟨hc,hc'⟩)⟩
 ·rw[decide_eq_false (by omega),aG];exact hK H S hM (aJ.refl _ _) (hd.as rfl rfl rfl (λe=>by cases e) λc i e=>hd.cd c i (by cases e;rfl))
theorem sT{s:List Nat}(h8:B8 s)(hM:Mem H S)(hd:bn C S r)(hK:∀H' S',Mem H' S'→aJ bP S S'→bn C S' r→K (.ret (.bool (pU C.T s r))) H'):f41 (.ptr C.bp 0) (ah s) H K:=by
 show DA DB K (Dz DB K) (.ptr C.bp 0) (ah s) H;unfold DA;simp only[dL,aU,Nat.zero_add];refine aF hM hd.ob (v:=C.vT) rfl ?_;refine aF hM hd.ob (v:=.int 0 (r.ix:Int)) rfl ?_;simp only[aQ];refine hd.tk.load hM hd.lt ?_;rw[B6 hd.lt];refine hM.dx (eZ (eC hM (λa ha=>?_) λH2 m2=>cV (sr (by rw[m2.n,hM.n];rfl)) ?_))
 ·simp only[List.mem_cons,List.not_mem_nil,or_false]at ha;rcases ha with rfl|rfl|rfl|rfl<;>rfl
 refine pP m2 (LS.ax _ _) (by omega) rfl (by show 0+4≤4;omega) (λa ha=>?_) λH3 m3=>?_
 ·simp only[nX,List.mem_cons,List.not_mem_nil,or_false]at ha;rcases ha with rfl|rfl|rfl|rfl<;>rfl
 have m3:Mem H3 ((S.push (.ce [.int 0 (.ofNat 0),.str 0 0,.int 0 (.ofNat 0),.int 0 (.ofNat 0)] 0)).set S.n (.ce (nX C.T r.ix) 0)):=m3;have c3:aJ bP S ((S.push (.ce [.int 0 (.ofNat 0),.str 0 0,.int 0 (.ofNat 0),.int 0 (.ofNat 0)] 0)).set S.n (.ce (nX C.T r.ix) 0)):=((aJ.refl _ _).push _).set (.inr (Nat.le_refl _)) _;have d3:=hd.ic hM c3;have hk:=hK H3 _ m3 c3 d3;have e0:Int.ofNat 0=((0:Nat):Int):=rfl;have e1:Int.ofNat 1=((1:Nat):Int):=rfl;have e5:Int.ofNat 5=((5:Nat):Int):=rfl;unfold Dz;refine ie m3 d3 ?_;rw[bD,e0];rcases zU hd with⟨e,a,i,rfl⟩|⟨e,c1,i,rfl⟩
 ·rw[e,decide_eq_true rfl,aK];have hk:K (.ret (.bool (isA C.T s i))) H3:=hk;have go:(cz C.T i=1∨cz C.T i=5)→af (.ptr S.n 1) H3 λv11=>yg v11 (ah s) λv12=>cH v12 λz13=>K (.ret (.bool z13)) H3:=λhkd=>by
   refine aF m3 (LS.aC _ _ _) (v:=ah (fQ C.T i)) rfl ?_;refine An (wV C i) h8 ?_;rw[aM];have e:isA C.T s i=decide (fQ C.T i=s):=by
    unfold isA;rcases hkd with g|g<;>rw[g]<;>simp
   rw[e]at hk;exact hk
  simp only[aU,Nat.zero_add];refine aF m3 (LS.aC _ _ _) (v:=.int 0 (cz C.T i:Int)) rfl ?_;simp only[aQ,bD];rw[e1,e5];refine bH (λg=>go (.inl (by omega))) (λg=>?_);refine aF m3 (LS.aC _ _ _) (v:=.int 0 (cz C.T i:Int)) rfl ?_;simp only[aQ];refine bH (λg5=>go (.inr (by omega))) (λg5=>?_);have e:isA C.T s i=false:=by
   unfold isA;rw[decide_eq_false (by omega),decide_eq_false (by omega)];rfl
  rw[e]at hk;exact hk
 ·rw[decide_eq_false (by omega),aG];exact hk
theorem dB{s:List Nat}(h8:B8 s)(hM:Mem H S)(hd:bn C S r)(ht:∀a i,r=.ok a i→isA C.T s i=true→∀H' S',Mem H' S'→aJ (bA C) S S'→bn C S' (.ok () (i+1):aj Unit)→K (.ret (.bool true)) H')
  (hf:pU C.T s r=false→∀H' S',Mem H' S'→aJ (bA C) S S'→bn C S' r→K (.ret (.bool false)) H'):f40 (.ptr C.bp 0) (ah s) H K:=by
 have r68:DG=f41:=rfl;show DF DG K (.ptr C.bp 0) (ah s) H;unfold DF;rw[r68];refine sT h8 hM hd λH1 S1 m1 c1 d1=>?_;rw[ai,aM];cases hi:pU C.T s r with
 |false=>
  rw[aG];exact hf hi H1 S1 m1 c1.no d1
 |true=>
  obtain⟨a,i,rfl,hb⟩:=Cd hi;rw[aK];have hlt:=de C.ok hb;have hfew:=C.few;simp only[dL,aU,Nat.zero_add];refine aF m1 d1.ob (v:=.int 0 (i:Int)) rfl ?_;simp only[aQ,dp,fe];refine w0 (by omega) (by omega) ?_;refine cZ m1 d1.ob (by omega) (by show 1<4;omega) rfl λH2 m2=>?_;exact ht a i rfl hb H2 _ m2 (aJ.IJ c1.no _) (d1.ok () hlt)
theorem kH{s:List Nat}(h8:B8 s)(hM:Mem H S)(hd:bn C S r)(hP:aT C (bA C) nY K S (r.bind λ_ i=>aR C.T s i)):f59 (.ptr C.bp 0) (ah s) H K:=by
 have ra:zr.1=f18:=rfl;have rb:zr.2=f40:=rfl;show DJ zr K (.ptr C.bp 0) (ah s) H;unfold DJ;rw[ra,rb];refine dB h8 hM hd (λa i er hi H1 S1 m1 c1 d1=>?_) λhi H1 S1 m1 c1 d1=>?_
 ·simp only[ai,aM,Bool.not_true,aG];subst er;have e:(aj.ok a i).bind (λ_ i=>aR C.T s i)=.ok () (i+1):=by
   show aR C.T s i=_;unfold aR;rw[hi];rfl
  rw[e]at hP;exact hP.2 H1 S1 _ () m1 c1 d1 rfl λ_ _ e=>by cases e;rfl
 ·simp only[ai,aM,Bool.not_false,aK];refine qU (c:=14) (by omega) (by omega) m1 d1 λH2 S2 m2 c2 d2=>?_;rw[ai];have e:r.bind (λ_ i=>aR C.T s i)=AW 14 r:=by
   cases r with
   |ok a i=>
    have hi:isA C.T s i=false:=hi;show aR C.T s i=.err 14 i;unfold aR;rw[hi];rfl
   |err c i=>rfl
   |aO=>rfl
  rw[e]at hP;exact hP.2 H2 S2 _ () m2 (c1.trans c2) d2 rfl λ_ _ _=>rfl
theorem s4(hM:Mem H S)(hd:bn C S r)(hP:aT C (bA C) Ps K S (r.bind λ_ i=>dS C.T i)):f57 (.ptr C.bp 0) H K:=by
 have anv:rJ=f18:=rfl;show DH rJ K (wa rJ K (zq rJ K)) (.ptr C.bp 0) H;unfold DH;rw[anv];have e0:Int.ofNat 0=((0:Nat):Int):=rfl;have e2:Int.ofNat 2=((2:Nat):Int):=rfl;have e14:Int.ofNat 14=((14:Nat):Int):=rfl;refine ie hM hd ?_;rw[bD,e0];have dead:∀{γ:Type}{r':aj γ}{H1:AH}{S1:LS},r'.cd≠0→Mem H1 S1→aJ (bA C) S S1→bn C S1 r'→(r.bind λ_ i=>dS C.T i)=r'.bind (λ_ i=>dS C.T i)→wa rJ K (zq rJ K) (.ptr C.bp 0) H1:=by
  intro γ r' H1 S1 hc m1 c1 d1 e;unfold wa;refine ie m1 d1 ?_;rw[bD,e0,decide_eq_false (by omega)];simp only[Bool.not_false,aK];rw[e]at hP;rcases zU d1 with⟨g,_⟩|⟨g,c2,i,rfl⟩
  ·exact absurd g hc
  ·exact hP.2 H1 S1 _ [] m1 c1 (d1.as rfl rfl rfl (λe=>by cases e) λc i e=>d1.cd c i (by cases e;rfl)) ⟨rfl,B8.nil⟩ λ_ _ e=>by cases e
 rcases zU hd with⟨e,a,i,rfl⟩|⟨e,c1,i,rfl⟩
 ·rw[e,decide_eq_true rfl,aK];refine AU hM hd (j:=0) (v:=.int 0 (cz C.T i:Int)) (by omega) rfl ?_;rw[aQ,bD,e2];by_cases g:cz C.T i=2
  ·rw[decide_eq_true (by omega)];simp only[Bool.not_true,aG];unfold wa;refine ie hM hd ?_;rw[bD,e0,e,decide_eq_true rfl];simp only[Bool.not_true,aG,dL,aU,Nat.zero_add];have hlt:=lj (i:=i) C.ok (by omega);have hfew:=C.few;refine aF hM hd.ob (v:=.int 0 (i:Int)) rfl ?_;simp only[aQ,dp,fe];refine w0 (by omega) (by omega) ?_;refine cZ hM hd.ob (by omega) (by show 1<4;omega) rfl λH2 m2=>?_;have d2:=hd.ok () hlt;unfold zq;simp only[dL,aU,Nat.zero_add];refine aF m2 d2.ob (v:=C.vT) rfl ?_;refine aF m2 d2.ob (v:=.int 0 ((i+1:Nat):Int)) rfl ?_;simp only[aQ,BN,fe];refine w0 (by omega) (by omega) ?_;rw[show((i+1:Nat):Int)-1=(i:Int) by omega];have sf:=Py (j:=1) (v:=ah (fQ C.T i)) (k:=λv9=>K (.ret v9) H2) m2 d2.tk hd.lt (by omega) rfl;have e:(aj.ok a i).bind (λ_ i=>dS C.T i)=.ok (fQ C.T i) (i+1):=by
    show dS C.T i=_;unfold dS;rw[if_pos g]
   rw[e]at hP;exact sf (hP.2 H2 _ _ (fQ C.T i) m2 (aJ.IJ (aJ.refl _ _) _) (d2.as rfl rfl rfl (λe=>by cases e) λc i e=>by cases e) ⟨rfl,wV C i⟩ λ_ _ e=>by cases e;rfl)
  ·rw[decide_eq_false (by omega)];simp only[Bool.not_false,aK];refine qU (c:=14) (by omega) (by omega) hM hd λH2 S2 m2 c2 d2=>?_;rw[ai];refine dead (r':=(aj.err 14 i:aj Unit)) (by show 14≠0;omega) m2 c2 d2 ?_;show dS C.T i=.err 14 i;unfold dS;rw[if_neg g]
 ·rw[decide_eq_false (by omega),aG];exact dead (r':=(aj.err c1 i:aj α)) (by show c1≠0;exact e) hM (aJ.refl _ _) hd rfl
def dC(b:Prop)[Decidable b](i:Nat):aj Unit:=if b then .err 8 i else .ok () i
theorem capD{b:Prop}[Decidable b](hM:Mem H S)(hd:bn C S r)(hP:aT C (bA C) nY K S (r.bind λ_ i=>dC b i)){z:Bool}(hz:z=decide b):bI z (f18 (.ptr C.bp 0) ((8:Nat):Int) H λo1 H2=>cR K o1 H2 λv3=>K (.ret (.bF [])) H2) (K (.ret (.bF [])) H):=by
 subst hz;by_cases g:b
 ·rw[decide_eq_true g,aK];refine qU (c:=8) (by omega) (by omega) hM hd λH2 S2 m2 c2 d2=>?_;rw[ai];have e:r.bind (λ_ i=>dC b i)=AW 8 r:=by
   unfold AW;simp only[dC,if_pos g]
  rw[e]at hP;exact hP.2 H2 S2 _ () m2 c2 d2 rfl λ_ _ _=>rfl
 ·rw[decide_eq_false g,aG];refine hP.2 H S _ () hM (aJ.refl _ _) ?_ rfl λ_ _ _=>rfl;have e:r.bind (λ_ i=>dC b i)=r.bind λ_ i=>.ok () i:=by
   simp only[dC,if_neg g]
  rw[e];rcases zU hd with⟨e,a,i,rfl⟩|⟨e,c1,i,rfl⟩
  ·exact hd.as rfl rfl rfl (λe=>by cases e) λc i e=>by cases e
  ·exact hd.as rfl rfl rfl (λe=>by cases e) λc i e=>hd.cd c i (by cases e;rfl)
theorem AX{d:Nat}(hM:Mem H S)(hd:bn C S r)(hP:aT C (bA C) nY K S (r.bind λ_ i=>dC (100<d) i)):f37 (.ptr C.bp 0) (d:Int) H K:=by
 have r65:Dx=f18:=rfl;show Dw Dx K (.ptr C.bp 0) (d:Int) H;unfold Dw;rw[r65];refine capD hM hd hP ?_;have e:Int.ofNat 100=((100:Nat):Int):=rfl;rw[cE,e,Bool.eq_iff_iff,decide_eq_true_eq,decide_eq_true_eq];omega
theorem IL{n most:Nat}(hM:Mem H S)(hd:bn C S r)(hP:aT C (bA C) nY K S (r.bind λ_ i=>dC (most≤n) i)):f76 (.ptr C.bp 0) (n:Int) (most:Int) H K:=by
 have anw:DL=f18:=rfl;show DK DL K (.ptr C.bp 0) (n:Int) (most:Int) H;unfold DK;rw[anw];refine capD hM hd hP ?_;rw[cE];by_cases g:most≤n
 ·rw[decide_eq_true g,decide_eq_false (by omega)];rfl
 ·rw[decide_eq_false g,decide_eq_true (by omega)];rfl
theorem ll(hM:Mem H S)(hd:bn C S r)(hK:K (.ret (.int 0 (aq C.T r.ix:Int))) H):f39 (.ptr C.bp 0) H K:=by
 show DE Mx K (.ptr C.bp 0) H;unfold DE;refine AU hM hd (j:=3) (v:=.int 0 (aq C.T r.ix:Int)) (by omega) rfl ?_;rw[aQ];exact hK
def Hl(T:List Tok):aj α→Bool
 |.ok _ i=>eR T i
 |_=>true
theorem AY(hM:Mem H S)(hd:bn C S r)(hK:∀H' S',Mem H' S'→aJ bP S S'→bn C S' r→K (.ret (.bool (Hl C.T r))) H'):f38 (.ptr C.bp 0) H K:=by
 have r66:DD=f41:=rfl;show DC DD K (.ptr C.bp 0) H;unfold DC;rw[r66];have e0:Int.ofNat 0=((0:Nat):Int):=rfl;refine ie hM hd ?_;rw[bD,e0];rcases zU hd with⟨e,a,i,rfl⟩|⟨e,c1,i,rfl⟩
 ·rw[e,decide_eq_true rfl];simp only[Bool.not_true,aG];refine AU hM hd (j:=0) (v:=.int 0 (cz C.T i:Int)) (by omega) rfl ?_;rw[aQ,bD];have hK:∀H' S',Mem H' S'→aJ bP S S'→bn C S' (aj.ok a i)→K (.ret (.bool (eR C.T i))) H':=hK;unfold eR at hK;by_cases g:cz C.T i=0
  ·rw[decide_eq_true (by omega),aK];have hk:=hK H S hM (aJ.refl _ _) hd;rw[decide_eq_true g,Bool.or_true,Bool.or_true,Bool.or_true,Bool.or_true]at hk;exact hk
  rw[decide_eq_false (by omega),aG];rw[decide_eq_false g,Bool.or_false]at hK;refine sT (s:=[101,110,100]) (bj (by decide)) hM hd λH1 S1 m1 c1 d1=>?_;rw[ai,aM];have h1':pU C.T [101,110,100] (aj.ok a i)=isA C.T [101,110,100] i:=rfl;rw[h1'];cases h1:isA C.T [101,110,100] i with
  |true=>rw[h1]at hK;rw[aK];exact hK H1 S1 m1 c1 d1
  |false=>
  rw[h1,Bool.false_or]at hK;rw[aG];refine sT (s:=[101,108,115,101]) (bj (by decide)) m1 d1 λH2 S2 m2 c2 d2=>?_;rw[ai,aM];have h2':pU C.T [101,108,115,101] (aj.ok a i)=isA C.T [101,108,115,101] i:=rfl;rw[h2'];cases h2:isA C.T [101,108,115,101] i with
  |true=>rw[h2]at hK;rw[aK];exact hK H2 S2 m2 (c1.trans c2) d2
  |false=>
  rw[h2,Bool.false_or]at hK;rw[aG];refine sT (s:=[101,108,115,101,105,102]) (bj (by decide)) m2 d2 λH3 S3 m3 c3 d3=>?_;rw[ai,aM];have h3':pU C.T [101,108,115,101,105,102] (aj.ok a i)=isA C.T [101,108,115,101,105,102] i:=rfl;rw[h3'];cases h3:isA C.T [101,108,115,101,105,102] i with
  |true=>rw[h3]at hK;rw[aK];exact hK H3 S3 m3 ((c1.trans c2).trans c3) d3
  |false=>
  rw[h3,Bool.false_or]at hK;rw[aG];refine sT (s:=[117,110,116,105,108]) (bj (by decide)) m3 d3 λH4 S4 m4 c4 d4=>?_;rw[ai,aM];exact hK H4 S4 m4 (((c1.trans c2).trans c3).trans c4) d4
 ·rw[decide_eq_false (by omega)];simp only[Bool.not_false,aK];exact hK H S hM (aJ.refl _ _) hd
end
end Go.Proofs.YtcedghechlgecaaDoor
namespace Go.X
theorem kI{H:AH}{S:LS}(h:Mem H S){n sz:Nat}{l:List AV}{k:AV→AH→Prop}(hl:l.length=n*sz)(h1:∀a∈l,a.one=true)(hk:∀H' S',Mem H' S'→S'.n=S.n+1→S'.ob S.n=.ce l 0→(∀b,b<S.n→S'.ob b=S.ob b)→k (.slice S.n 0 n n sz true) H'):aX (ay H) n sz l k:=
 eI h hl h1 λH' m=>hk H' _ m rfl (LS.ax _ _) λb hb=>LS.bC _ _ hb
end Go.X
namespace Go.Proofs.YtcedghechlgecaaDoor
open Go Go.X Go.Proofs.YtcedghechlgecaaDoor.G
section
variable {H:AH}{S:LS}{K:KF}{C:Ctx}{i d:Nat}
def pFn(T:List Tok)(k i d:Nat):aj dq:=(aR T [40] i).bind λ_ j=>(bY T k true [] j).bind λps j=>(cB T k j d).bind λb j=>(aR T [101,110,100] j).bind λ_ j=>.ok (.mk ps b) j
def AZ(T:List Tok)(k i d:Nat):aj aw:=(fR T k i d).bind λs j=>if s.kind=3∧isA T [61] j=true then .err 14 j else .ok s j
def sB(S:LS)(Q:Nat→Prop)(v:AV)(f:dq):Prop:=∃c,v=.agg c∧RF S Q c f
def CtX(C:Ctx)(F:Nat→AH→KF→Prop)(p:Nat→Nat→aj ao):Prop:=∀{K:KF}{H:AH}{S:LS}{d:Nat}{γ:Type}{r:aj γ},d≤200→Mem H S→bn C S r→aT C (bA C) dW K S (r.bind λ_ i=>p i d)→F d H K
def mM(C:Ctx)(F:Nat→AH→KF→Prop)(p:Nat→Nat→aj ao):Prop:=∀{K:KF}{H:AH}{S:LS}{i d:Nat}{γ:Type}{x:γ},d≤200→Mem H S→bn C S (aj.ok x i)→aT C (bA C) dW K S (p i d)→F d H K
structure gq(C:Ctx)(m:Nat):Prop where
 block:∀k,2*k+4≤m→∀{K:KF}{H:AH}{S:LS}{d:Nat}{γ:Type}{r:aj γ},d≤200→Mem H S→bn C S r→aT C (bA C) gp K S (r.bind λ_ i=>cB C.T k i d)→(s10 m).1 (.ptr C.bp 0) (d:Int) H K
 exp:∀k,2*k+4≤m→CtX C (λd H K=>(s10 m).2.1 (.ptr C.bp 0) (d:Int) H K) (bQ C.T k)
 stat:∀k,2*k+4≤m→∀{K:KF}{H:AH}{S:LS}{i d bs:Nat}{γ:Type}{x:γ},d≤200→Mem H S→bn C S (aj.ok x i)→isA C.T [114,101,116,117,114,110] i=false→S.ob bs=.ce [.int 0 0,.int 0 (aq C.T i:Int),.ab,.ab,.ab] 0→bs≠C.bp→(∀b,au C.vT b→b≠bs)→aT C (ft C bs) (iz bs) K S (AZ C.T k i d)→(s10 m).2.2.1 (.ptr C.bp 0) (.ptr bs 0) (d:Int) H K
 lv0:∀k,2*k+4≤m→mM C (λd H K=>(s10 m).2.2.2.1 (.ptr C.bp 0) ((0:Nat):Int) (d:Int) H K) (gK C.T k)
 lv1:∀k,2*k+4≤m→mM C (λd H K=>(s10 m).2.2.2.1 (.ptr C.bp 0) ((1:Nat):Int) (d:Int) H K) (km C.T k)
 lv2:∀k,2*k+4≤m→mM C (λd H K=>(s10 m).2.2.2.1 (.ptr C.bp 0) ((2:Nat):Int) (d:Int) H K) (ko C.T k)
 lv3:∀k,2*k+5≤m→mM C (λd H K=>(s10 m).2.2.2.1 (.ptr C.bp 0) ((3:Nat):Int) (d:Int) H K) (gF C.T k)
 lv4:∀k,2*k+4≤m→mM C (λd H K=>(s10 m).2.2.2.1 (.ptr C.bp 0) ((4:Nat):Int) (d:Int) H K) (nR C.T k)
 lv5:∀k,2*k+4≤m→mM C (λd H K=>(s10 m).2.2.2.1 (.ptr C.bp 0) ((5:Nat):Int) (d:Int) H K) (ku C.T k)
 lv6:∀k,2*k+5≤m→mM C (λd H K=>(s10 m).2.2.2.1 (.ptr C.bp 0) ((6:Nat):Int) (d:Int) H K) (fA C.T k)
 body:∀k,2*k+5≤m→∀{K:KF}{H:AH}{S:LS}{d:Nat}{γ:Type}{r:aj γ},d≤200→Mem H S→bn C S r→aT C (bA C) sB K S (r.bind λ_ i=>pFn C.T k i d)→(s10 m).2.2.2.2.1 (.ptr C.bp 0) (d:Int) H K
 behind:∀k,2*k+4≤m→∀{K:KF}{H:AH}{S S0:LS}{d:Nat}{c:List AV}{e:ao}{γ:Type}{r:aj γ},d≤200→Mem H S→aJ (bA C) S0 S→C.bp<S0.n→(∀b,au C.vT b→b<S0.n)→bn C S r→RE S (iy S0.n S.n) c e→aT C (bA C) dW K S0 (r.bind λ_ i=>cK C.T k e i d)→(s10 m).2.2.2.2.2.1 (.ptr C.bp 0) (.agg c) (d:Int) H K
 join:∀k,2*k+4≤m→mM C (λd H K=>(s10 m).2.2.2.2.2.2.1 (.ptr C.bp 0) (d:Int) H K) (gF C.T k)
 unary:∀k,2*k+4≤m→mM C (λd H K=>(s10 m).2.2.2.2.2.2.2.1 (.ptr C.bp 0) (d:Int) H K) (fA C.T k)
 post:∀k,2*k+4≤m→mM C (λd H K=>(s10 m).2.2.2.2.2.2.2.2.1 (.ptr C.bp 0) (d:Int) H K) (ja C.T k)
 table:∀k,2*k+4≤m→∀{K:KF}{H:AH}{S:LS}{i d a:Nat}{γ:Type}{x:γ},d≤200→Mem H S→bn C S (aj.ok x i)→aT C (bA C) dW K S (fp C.T k [] 0 a i d)→(s10 m).2.2.2.2.2.2.2.2.2 (.ptr C.bp 0) (a:Int) (d:Int) H K
theorem A0(m:Nat):s10 (m+1)=(DY (cL (s10 m)),Tk (wv (s10 m)),Eb (bg (s10 m)),Em (dX (s10 m)),Ew (fO (s10 m)),EJ (dy (s10 m)),TD (nJ (s10 m)),TE (nK (s10 m)),TF (fP (s10 m)),Fk (cM (s10 m))):=by kernel_rfl
theorem RE.zero{S:LS}{Q:Nat→Prop}:RE S Q z7 (.mk 0 0 0 [] 0 [] []):=RE.simple (kind:=0) (at_:=0) (n:=0) (op:=0) (s:=[]) B8.nil
theorem sg{γ β:Type}{r:aj γ}{c i:Nat}(hd:bn C S r)(e:r=.err c i):bn C S (aj.err c i:aj β):=by
 subst e;exact hd.as rfl rfl rfl (λe=>by cases e) λc i e=>hd.cd c i (by cases e;rfl)
theorem ah9{m n d c i:Nat}{γ:Type}(hM:Mem H S)(hd:bn C S (aj.err c i:aj γ))(hP:aT C (bA C) dW K S (.err c i)):(s10 (m+1)).2.2.2.1 (.ptr C.bp 0) (n:Int) (d:Int) H K:=by
 show tI (dX (s10 m)) K (zy (dX (s10 m)) K) (.ptr C.bp 0) (n:Int) (d:Int) H;unfold tI;rw[kE];refine eZ (eC hM fB λH1 m1=>?_);have c1:aJ bP S (S.push (.ce z7 0)):=(aJ.refl _ _).push _;have d1:=hd.ic hM c1;have e0:Int.ofNat 0=((0:Nat):Int):=rfl;refine ie m1 d1 ?_;have hc:=(hd.cd c i rfl).1;rw[bD,e0,decide_eq_false (by show ¬((c:Nat):Int)=((0:Nat):Int);omega)];simp only[Bool.not_false,aK];refine ky (c:=z7) m1 (LS.ax _ _) rfl rfl fB λH2 m2=>?_;refine gy m2 (LS.aC _ _ _) rfl ?_;have c2:=c1.set (b:=S.n) (.inr (Nat.le_refl _)) (.ce z7 0);exact hP.2 H2 _ _ (.mk 0 0 0 [] 0 [] []) m2 c2.no (sg (hd.ic hM c2) rfl) ⟨z7,rfl,RE.zero⟩ λ_ _ e=>by cases e
theorem x70{m:Nat}(hm:1≤m)(O:gq C m):∀k,2*k+4≤m+1→CtX C (λd H K=>(s10 (m+1)).2.1 (.ptr C.bp 0) (d:Int) H K) (bQ C.T k):=by
 intro k hk K H S d γ r hd hM hs hP;have ra:(wv (s10 m)).1=f37:=rfl;have rb:(wv (s10 m)).2=(s10 m).2.2.2.1:=rfl;show DZ (wv (s10 m)) K (.ptr C.bp 0) (d:Int) H;unfold DZ;rw[ra,rb,kE];refine eZ (eC hM fB λH1 m1=>?_);have c1:aJ bP S (S.push (.ce z7 0)):=(aJ.refl _ _).push _;have d1:=hs.ic hM c1;have o1:(S.push (.ce z7 0)).ob S.n=.ce z7 0:=LS.ax _ _;rw[dp,fe];refine w0 (by omega) (by omega) ?_;have hbp:=hs.nW hM;have eU:¬bA C S.n:=λq=>by have q:S.n=C.bp:=q;omega
 have fin:∀{r':aj ao}{H3:AH}{S3:LS}{v:AV}{e:ao}{S2:LS},aT C (bA C) dW K S r'→S.n<S2.n→Mem H3 S3→aJ (bA C) S S3→bn C S3 r'→S3.ob S.n=.ce z7 0→dW S3 (iy S2.n S3.n) v e→Ag r' e→ak 7 (.ptr S.n 0) v H3 λdD=>aZ 7 (.ptr S.n 0) dD λv11=>K (.ret v11) dD:=by
  intro r' H3 S3 v e S2 hP hn m3 c3 d3 o3 ⟨c,hv,hR⟩ ha;subst hv;refine ky m3 o3 rfl hR.len hR.ones λH4 m4=>?_;refine gy m4 (LS.aC _ _ _) hR.len ?_;refine hP.2 H4 _ _ e m4 (c3.set (.inr (Nat.le_refl _)) _) (d3.qT hs hM (Nat.le_refl _) _) ⟨c,rfl,hR.go (λb hb=>LS.av _ _ (by have:=hb.1;omega)) λb hb=>⟨by have:=hb.1;omega,hb.2⟩⟩ ha
 have sp:(r.bind λ_ i=>bQ C.T k i d)=(r.bind λ_ i=>dC (100<d+1) i).bind λ_ i=>if k=0 then .aO else gK C.T (k-1) i (d+1):=by
  rw[bJ];cases k with
  |zero=>
   cases r with
   |ok a i=>
    exact absurd (show bQ C.T 0 i d=.aO by simp only[bQ]) hP.1
   |err c i=>rfl
   |aO=>rfl
  |succ k=>
   congr 1;funext a i;simp only[bQ,dC,Nat.add_one_sub_one,if_neg (Nat.succ_ne_zero k)];split<;>rfl
 rw[sp]at hP;refine AX m1 d1 (aT.call (eD:=nY) hP λ_ H2 S2 w m2 c2 d2 _ hP2=>?_);have c12:aJ (bA C) S S2:=c1.no.trans c2;have o2:=c2.ob m1 o1 eU;have n2:S.n<S2.n:=m2.lt (by rw[o2];simp);have e0:Int.ofNat 0=((0:Nat):Int):=rfl;rw[e0];cases hr:r.bind λ_ i=>dC (100<d+1) i with
 |aO=>rw[hr]at hP2;exact absurd rfl hP2.1
 |err c i=>
  rw[hr]at hP2 d2;obtain⟨m',rfl⟩:∃m',m=m'+1:=⟨m-1,by omega⟩
  refine ah9 m2 d2 ⟨λe=>(by cases e),λH3 S3 v e m3 c3 d3 p3 a3=>?_⟩;exact fin hP2 n2 m3 (c12.trans c3) d3 (c3.ob m2 o2 eU) p3 a3
 |ok x i=>
  rw[hr]at hP2 d2;have hP3:aT C (bA C) dW K S (if k=0 then .aO else gK C.T (k-1) i (d+1)):=hP2;by_cases k0:k=0
  ·rw[if_pos k0]at hP3;exact absurd rfl hP3.1
  ·rw[if_neg k0]at hP3;have afa:d+1≤200:=by
    cases r with
    |ok a j=>
     have hr:dC (100<d+1) j=.ok x i:=hr;unfold dC at hr;split at hr
     ·cases hr
     ·omega
    |err c j=>cases hr
    |aO=>cases hr
   refine O.lv0 (k-1) (by omega) afa m2 d2 ⟨hP3.1,λH3 S3 v e m3 c3 d3 p3 a3=>?_⟩;exact fin hP3 n2 m3 (c12.trans c3) d3 (c3.ob m2 o2 eU) p3 a3
end
section
variable {H:AH}{S:LS}{K:KF}{C:Ctx}{i d:Nat}
def dQ:Nat→List (List Nat)
 |0=>[[111,114]]
 |1=>[[97,110,100]]
 |2=>tests
 |4=>sums
 |5=>terms
 |_=>[]
def fH:Nat→List Nat
 |0=>[0]
 |1=>[0]
 |2=>[7,8,9,10,11,12]
 |4=>[1,2]
 |5=>[3,4,5]
 |_=>[]
def yq(n:Nat):Prop:=n=0∨n=1∨n=2∨n=4∨n=5
theorem aia{n:Nat}:(dQ n).length=(fH n).length:=by unfold dQ fH;split<;>rfl
theorem adm{n:Nat}:(dQ n).length≤6:=by unfold dQ;split<;>simp[tests,sums,terms]
theorem ali{n:Nat}:∀s∈dQ n,B8 s:=by
 intro s hs;unfold dQ at hs;split at hs<;>simp only[tests,sums,terms,List.mem_cons,List.not_mem_nil,or_false]at hs
 ·subst hs;exact bj (by decide)
 ·subst hs;exact bj (by decide)
 ·rcases hs with rfl|rfl|rfl|rfl|rfl|rfl<;>exact bj (by decide)
 ·rcases hs with rfl|rfl<;>exact bj (by decide)
 ·rcases hs with rfl|rfl|rfl<;>exact bj (by decide)
theorem si(l:List (List Nat)):∀a∈l.map ah,a.one=true:=by
 intro a ha;obtain⟨s,_,rfl⟩:=List.mem_map.1 ha;exact lf s
theorem uf(l:List Nat):∀a∈l.map (λc:Nat=>AV.int 0 (c:Int)),a.one=true:=by
 intro a ha;obtain⟨s,_,rfl⟩:=List.mem_map.1 ha;rfl
theorem amn{n:Nat}(hn:yq n){k:AV→AH→Prop}(hM:Mem H S)(hk:∀H' S' b,Mem H' S'→aJ bP S S'→S.n≤b→b<S'.n→S'.ob b=.ce ((dQ n).map ah) 0→k (.slice b 0 (dQ n).length (dQ n).length 1 true) H') :
  aX (ay H) 1 1 [(.str 2 29295)] λv18 oI=>aX (ay oI) 1 1 [(.str 3 6581857)] λv20 iO=>aX (ay iO) 6 1 [(.str 2 15677),(.str 2 15742),(.str 1 60),(.str 2 15676),(.str 1 62),(.str 2 15678)] λv22 yo=>aX (ay yo) 2 1 [(.str 1 43),(.str 1 45)] λv24 zx=>aX (ay zx) 3 1 [(.str 1 42),(.str 2 12079),(.str 1 37)] λv26 zw=>one v18 (one v20 (one v22 (one v24 (one v26 (aX (ay zw) 6 1 [v18,v20,v22,.ab,v24,v26] λv28 D8=>cn 1 v28 (.int 0 (n:Int)) λv30=>af v30 D8 λv31=>k v31 D8))))):=by
 refine kI hM rfl (si (dQ 0)) λH1 S1 m1 n1 o1 k1=>?_;refine kI m1 rfl (si (dQ 1)) λH2 S2 m2 n2 o2 k2=>?_;refine kI m2 rfl (si (dQ 2)) λH3 S3 m3 n3 o3 k3=>?_;refine kI m3 rfl (si (dQ 4)) λH4 S4 m4 n4 o4 k4=>?_;refine kI m4 rfl (si (dQ 5)) λH5 S5 m5 n5 o5 k5=>?_;refine fU rfl (fU rfl (fU rfl (fU rfl (fU rfl ?_))));refine kI m5 rfl (λa ha=>?_) λH6 S6 m6 n6 o6 k6=>?_
 ·simp only[List.mem_cons,List.not_mem_nil,or_false]at ha;rcases ha with rfl|rfl|rfl|rfl|rfl|rfl<;>rfl
 have c6:aJ bP S S6:=⟨by omega,λb hb _=>by rw[k6 b (by omega),k5 b (by omega),k4 b (by omega),k3 b (by omega),k2 b (by omega),k1 b hb]⟩
 have q1:S6.ob S.n=.ce ((dQ 0).map ah) 0:=by rw[k6 _ (by omega),k5 _ (by omega),k4 _ (by omega),k3 _ (by omega),k2 _ (by omega)];exact o1
 have q2:S6.ob S1.n=.ce ((dQ 1).map ah) 0:=by rw[k6 _ (by omega),k5 _ (by omega),k4 _ (by omega),k3 _ (by omega)];exact o2
 have q3:S6.ob S2.n=.ce ((dQ 2).map ah) 0:=by rw[k6 _ (by omega),k5 _ (by omega),k4 _ (by omega)];exact o3
 have q4:S6.ob S3.n=.ce ((dQ 4).map ah) 0:=by rw[k6 _ (by omega),k5 _ (by omega)];exact o4
 have q5:S6.ob S4.n=.ce ((dQ 5).map ah) 0:=by rw[k6 _ (by omega)];exact o5
 refine nE (by omega) (by rcases hn with rfl|rfl|rfl|rfl|rfl<;>decide) ?_;rw[Int.toNat_natCast,Nat.zero_add,Nat.mul_one];rcases hn with rfl|rfl|rfl|rfl|rfl
 ·exact aF m6 o6 (v:=.slice S.n 0 1 1 1 true) rfl (hk H6 S6 _ m6 c6 (by omega) (by omega) q1)
 ·exact aF m6 o6 (v:=.slice S1.n 0 1 1 1 true) rfl (hk H6 S6 _ m6 c6 (by omega) (by omega) q2)
 ·exact aF m6 o6 (v:=.slice S2.n 0 6 6 1 true) rfl (hk H6 S6 _ m6 c6 (by omega) (by omega) q3)
 ·exact aF m6 o6 (v:=.slice S3.n 0 2 2 1 true) rfl (hk H6 S6 _ m6 c6 (by omega) (by omega) q4)
 ·exact aF m6 o6 (v:=.slice S4.n 0 3 3 1 true) rfl (hk H6 S6 _ m6 c6 (by omega) (by omega) q5)
theorem aib{n:Nat}(hn:yq n){k:AV→AH→Prop}(hM:Mem H S)(hk:∀H' S' b,Mem H' S'→aJ bP S S'→S.n≤b→b<S'.n→S'.ob b=.ce ((fH n).map λc:Nat=>AV.int 0 (c:Int)) 0→k (.slice b 0 (fH n).length (fH n).length 1 true) H') :
  aX (ay H) 1 1 [(.int 0 (.ofNat 0))] λv1 H2=>aX (ay H2) 1 1 [(.int 0 (.ofNat 0))] λv3 H4=>aX (ay H4) 6 1 [(.int 0 (.ofNat 7)),(.int 0 (.ofNat 8)),(.int 0 (.ofNat 9)),(.int 0 (.ofNat 10)),(.int 0 (.ofNat 11)),(.int 0 (.ofNat 12))] λv5 H6=>aX (ay H6) 2 1 [(.int 0 (.ofNat 1)),(.int 0 (.ofNat 2))] λv7 H8=>aX (ay H8) 3 1 [(.int 0 (.ofNat 3)),(.int 0 (.ofNat 4)),(.int 0 (.ofNat 5))] λv9 dD=>one v1 (one v3 (one v5 (one v7 (one v9 (aX (ay dD) 6 1 [v1,v3,v5,.ab,v7,v9] λv11 bS=>cn 1 v11 (.int 0 (n:Int)) λv13=>af v13 bS λv14=>k v14 bS))))):=by
 refine kI hM rfl (uf (fH 0)) λH1 S1 m1 n1 o1 k1=>?_;refine kI m1 rfl (uf (fH 1)) λH2 S2 m2 n2 o2 k2=>?_;refine kI m2 rfl (uf (fH 2)) λH3 S3 m3 n3 o3 k3=>?_;refine kI m3 rfl (uf (fH 4)) λH4 S4 m4 n4 o4 k4=>?_;refine kI m4 rfl (uf (fH 5)) λH5 S5 m5 n5 o5 k5=>?_;refine fU rfl (fU rfl (fU rfl (fU rfl (fU rfl ?_))));refine kI m5 rfl (λa ha=>?_) λH6 S6 m6 n6 o6 k6=>?_
 ·simp only[List.mem_cons,List.not_mem_nil,or_false]at ha;rcases ha with rfl|rfl|rfl|rfl|rfl|rfl<;>rfl
 have c6:aJ bP S S6:=⟨by omega,λb hb _=>by rw[k6 b (by omega),k5 b (by omega),k4 b (by omega),k3 b (by omega),k2 b (by omega),k1 b hb]⟩
 have q1:S6.ob S.n=.ce ((fH 0).map λc:Nat=>AV.int 0 (c:Int)) 0:=by rw[k6 _ (by omega),k5 _ (by omega),k4 _ (by omega),k3 _ (by omega),k2 _ (by omega)];exact o1
 have q2:S6.ob S1.n=.ce ((fH 1).map λc:Nat=>AV.int 0 (c:Int)) 0:=by rw[k6 _ (by omega),k5 _ (by omega),k4 _ (by omega),k3 _ (by omega)];exact o2
 have q3:S6.ob S2.n=.ce ((fH 2).map λc:Nat=>AV.int 0 (c:Int)) 0:=by rw[k6 _ (by omega),k5 _ (by omega),k4 _ (by omega)];exact o3
 have q4:S6.ob S3.n=.ce ((fH 4).map λc:Nat=>AV.int 0 (c:Int)) 0:=by rw[k6 _ (by omega),k5 _ (by omega)];exact o4
 have q5:S6.ob S4.n=.ce ((fH 5).map λc:Nat=>AV.int 0 (c:Int)) 0:=by rw[k6 _ (by omega)];exact o5
 refine nE (by omega) (by rcases hn with rfl|rfl|rfl|rfl|rfl<;>decide) ?_;rw[Int.toNat_natCast,Nat.zero_add,Nat.mul_one];rcases hn with rfl|rfl|rfl|rfl|rfl
 ·exact aF m6 o6 (v:=.slice S.n 0 1 1 1 true) rfl (hk H6 S6 _ m6 c6 (by omega) (by omega) q1)
 ·exact aF m6 o6 (v:=.slice S1.n 0 1 1 1 true) rfl (hk H6 S6 _ m6 c6 (by omega) (by omega) q2)
 ·exact aF m6 o6 (v:=.slice S2.n 0 6 6 1 true) rfl (hk H6 S6 _ m6 c6 (by omega) (by omega) q3)
 ·exact aF m6 o6 (v:=.slice S3.n 0 2 2 1 true) rfl (hk H6 S6 _ m6 c6 (by omega) (by omega) q4)
 ·exact aF m6 o6 (v:=.slice S4.n 0 3 3 1 true) rfl (hk H6 S6 _ m6 c6 (by omega) (by omega) q5)
theorem Kw{S0:LS}{b1 b3 at_ kind op:Nat}{c cb:List AV}{e x:ao}(F:lR C S0 S b1 b3 c e)(hM:Mem H S)(hbp:C.bp<S0.n)(hr:RE S (λb=>S0.n≤b∧b<S.n∧b≠b1∧b≠b3) cb x) :
  RE (S.push (.ce (c++cb) 0)) (λb=>S0.n≤b∧b<S.n+1∧b≠b1∧b≠b3) [.int 0 (kind:Int),.int 0 (at_:Int),.int 0 ((0:Nat):Int),ah [],.int 0 (op:Int),.slice S.n 0 2 2 7 true,.ab] (lN kind op at_ e x):=by
 obtain⟨Q,h1,h2⟩:=F.re;have lt1:b1<S.n:=by obtain⟨z,hz,_⟩:=F.o1;exact hM.lt (by rw[hz];simp)
 have lt3:b3<S.n:=hM.lt (by rw[F.o3];simp);have n0:=F.x.1;refine RE.two (b:=S.n) (m:=0) ⟨by omega,by omega,by omega,by omega⟩ (LS.ax _ _) (h1.go (λb hb=>LS.bC _ _ (h2 b hb).2.1) λb hb=>?_) (hr.go (λb hb=>LS.bC _ _ hb.2.1) λb hb=>?_)
 ·have:=h2 b hb;exact⟨this.1,by omega,this.2.2⟩
 ·exact⟨hb.1,by omega,hb.2.2⟩
theorem Kx{γ β:Type}{x:γ}{y:β}{i:Nat}(hd:bn C S (aj.ok x i)):bn C S (aj.ok y i):=hd.as rfl rfl rfl (λe=>by cases e) λc i e=>by cases e
theorem lR.BE{S0:LS}{H0:AH}{b1 b3:Nat}{c:List AV}{e:ao}{γ:Type}{r0:aj γ}{r:aj ao}(h:lR C S0 S b1 b3 c e)(hM:Mem H S)(hM0:Mem H0 S0)(hd0:bn C S0 r0)(hd:bn C S r)(hP:aT C (bA C) dW K S0 r)(ha:Ag r e) :
  aZ 7 (.ptr b3 0) H λv1=>ak 7 (.ptr b1 0) v1 H λH2=>aZ 7 (.ptr b1 0) H2 λv3=>K (.ret v3) H2:=by
 obtain⟨z,hz,nZ⟩:=h.o1;obtain⟨Q,h1,h2⟩:=h.re;refine alf hM h.o3 h1.len h1.ones hz nZ λH' m=>?_;exact hP.2 H' _ _ e m (h.x.set (.inr h.n1) _) (hd.qT hd0 hM0 h.n1 _) ⟨c,rfl,h1.go (λb hb=>LS.av _ _ (h2 b hb).2.2.1) λb hb=>⟨(h2 b hb).1,(h2 b hb).2.1⟩⟩ ha
theorem alj{m n bo d:Nat}{γ:Type}{r:aj γ}{v1 v8 v9:AV}{X:AV→Int→Int→AV→AV→AV→AV→AH→Prop}{S0:LS} :
  ∀(q j:Nat) (H:AH) (S:LS),j≤(dQ n).length→(dQ n).length-j<q→Mem H S→bn C S r→aJ bP S0 S→S.ob bo=.ce ((dQ n).map ah) 0→(∀t,t<j→pU C.T ((dQ n)[t]?.getD []) r=false)→
  (∀H' S' w,Mem H' S'→aJ bP S0 S'→bn C S' r→w≤(dQ n).length→(∀t,t<w→pU C.T ((dQ n)[t]?.getD []) r=false)→(w<(dQ n).length→pU C.T ((dQ n)[w]?.getD []) r=true)→Ei (dX (s10 m)) K X (.ptr C.bp 0) (n:Int) (d:Int) v1 (.slice bo 0 (dQ n).length (dQ n).length 1 true) v8 v9 (w:Int) H')→
  wj (dX (s10 m)) K X q (.ptr C.bp 0) (n:Int) (d:Int) v1 (.slice bo 0 (dQ n).length (dQ n).length 1 true) v8 v9 (j:Int) H:=by
 intro q
 induction q with
 |zero=>intro j H S _ h;omega
 |succ q ih=>
  intro j H S hj hq hM hd hc ho hb hk;have rb:(dX (s10 m)).2.1=f41:=rfl;show Ej (dX (s10 m)) K (wj (dX (s10 m)) K X q) (Ei (dX (s10 m)) K X) (.ptr C.bp 0) (n:Int) (d:Int) v1 (.slice bo 0 (dQ n).length (dQ n).length 1 true) v8 v9 (j:Int) H;unfold Ej;rw[rb];rw[C6,aQ,cE];refine bH (λg=>?_) (λg=>?_)
  ·have hjl:j<(dQ n).length:=by omega
   refine nE (by omega) (by omega) ?_;rw[Int.toNat_natCast,Nat.zero_add,Nat.mul_one];have e1:(dQ n)[j]?.getD []=(dQ n)[j]:=by rw[List.getElem?_eq_getElem hjl];rfl
   refine aF hM ho (v:=ah (dQ n)[j]) (by rw[List.getElem?_map,List.getElem?_eq_getElem hjl];rfl) ?_;refine sT (ali _ (List.getElem_mem _)) hM hd λH2 S2 m2 c2 d2=>?_;rw[ai,aM];have o2:=c2.ob hM ho λq=>q;cases hi:pU C.T (dQ n)[j] r with
   |true=>
    simp only[Bool.not_true,aG];exact hk H2 S2 j m2 (hc.trans c2) d2 hj hb λ_=>by rw[e1];exact hi
   |false=>
    simp only[Bool.not_false,aK];rw[dp,fe];have hle:=adm (n:=n);refine w0 (by omega) (by omega) ?_;exact ih (j+1) H2 S2 (by omega) (by omega) m2 d2 (hc.trans c2) o2 (λt ht=>by
     by_cases g:t=j
     ·rw[g,e1];exact hi
     ·exact hb t (by omega)) hk
  ·exact hk H S j hM hc hd hj hb λh=>absurd h (by omega)
def Rv(n:Nat):Nat:=if n=0 then 16 else if n=1 then 15 else 14
structure JN(C:Ctx)(n:Nat)(p:Nat→Nat→Nat→aj ao)(gL:Nat→ao→Nat→Nat→aj ao):Prop where
 zero:∀e i d,gL 0 e i d=.aO
 stop:∀k e i d,(∀t,t<(dQ n).length→isA C.T ((dQ n)[t]?.getD []) i=false)→gL (k+1) e i d=.ok e i
 go:∀k e i d w,w<(dQ n).length→(∀t,t<w→isA C.T ((dQ n)[t]?.getD []) i=false)→isA C.T ((dQ n)[w]?.getD []) i=true→gL (k+1) e i d=(p k (i+1) d).bind λb j=>gL k (lN (Rv n) ((fH n)[w]?.getD 0) (aq C.T i) e b) j d
theorem Pz{m n:Nat}(hn:yq n){p:Nat→Nat→Nat→aj ao}{gL:Nat→ao→Nat→Nat→aj ao}(hp:∀k,2*k+5≤m→mM C (λd H K=>(s10 m).2.2.2.1 (.ptr C.bp 0) ((n+1:Nat):Int) (d:Int) H K) (p k))(hL:JN C n p gL)
  {S0:LS}{H0:AH}{γ0:Type}{r0:aj γ0}{b1 b3 bo bc:Nat}(hd:d≤200) (hM0:Mem H0 S0) (hd0:bn C S0 r0) (iD:S0.n≤bo) (hbc:S0.n≤bc) (no3:bo≠b3) (nc3:bc≠b3)
  {X:AV→Int→Int→AV→AV→AV→AV→AH→Prop}{k:Nat}(hk:2*k+4≤m+1)
  (hrec:∀k',k=k'+1→∀(e:ao) (c:List AV) (H:AH) (S:LS){γ:Type}(r:aj γ),Mem H S→bn C S r→lR C S0 S b1 b3 c e→S.ob bo=.ce ((dQ n).map ah) 0→S.ob bc=.ce ((fH n).map λc:Nat=>AV.int 0 (c:Int)) 0→aT C (bA C) dW K S0 (r.bind λ_ i=>gL k' e i d)→
   X (.ptr C.bp 0) (n:Int) (d:Int) (.ptr b1 0) (.slice bo 0 (dQ n).length (dQ n).length 1 true) (.slice bc 0 (fH n).length (fH n).length 1 true) (.ptr b3 0) H)
  (e:ao) (c:List AV) (H:AH) (S:LS){γ:Type}(r:aj γ) (hM:Mem H S) (hs:bn C S r) (hF:lR C S0 S b1 b3 c e) (ho:S.ob bo=.ce ((dQ n).map ah) 0) (hc:S.ob bc=.ce ((fH n).map λc:Nat=>AV.int 0 (c:Int)) 0) (hP:aT C (bA C) dW K S0 (r.bind λ_ i=>gL k e i d)) :
  Nb (dX (s10 m)) K X (.ptr C.bp 0) (n:Int) (d:Int) (.ptr b1 0) (.slice bo 0 (dQ n).length (dQ n).length 1 true) (.slice bc 0 (fH n).length (fH n).length 1 true) (.ptr b3 0) H:=by
 have ra:(dX (s10 m)).1=f39:=rfl;have rc:(dX (s10 m)).2.2.1=(s10 m).2.2.2.1:=rfl;have hbp:=hd0.nW hM0;have eU:∀b,S0.n≤b→¬bA C b:=λb hb q=>by have q:b=C.bp:=q;omega
 have hn6:n≤6:=by unfold yq at hn;omega
 show Ek (dX (s10 m)) K (wj (dX (s10 m)) K X G.NL) (.ptr C.bp 0) (n:Int) (d:Int) (.ptr b1 0) (.slice bo 0 (dQ n).length (dQ n).length 1 true) (.slice bc 0 (fH n).length (fH n).length 1 true) (.ptr b3 0) H;unfold Ek;have fV:G.NL=1000000:=rfl;generalize G.NL=fb at fV ⊢;have hle:=adm (n:=n);have e00:Int.ofNat 0=((0:Nat):Int):=rfl;rw[e00];refine alj fb 0 H S (Nat.zero_le _) (by omega) hM hs (aJ.refl bP S) ho (λt ht=>absurd ht (by omega)) λH1 S1 w m1 c1 d1 hw hbef hat=>?_;have F1:=hF.keep hM hbp c1.no;show Eh (dX (s10 m)) K (Na (dX (s10 m)) K X) (.ptr C.bp 0) (n:Int) (d:Int) (.ptr b1 0) (.slice bo 0 (dQ n).length (dQ n).length 1 true) (.slice bc 0 (fH n).length (fH n).length 1 true) (.ptr b3 0) (w:Int) H1;unfold Eh;rw[C6,aQ,bD,ra];by_cases g:w=(dQ n).length
 ·rw[decide_eq_true (by omega),aK];have hst:bn C S1 (r.bind λ_ i=>gL k e i d)∧Ag (r.bind λ_ i=>gL k e i d) e:=by
   cases r with
   |aO=>exact absurd rfl hs.no
   |err cc i=>exact⟨sg d1 rfl,λ_ _ q=>(by cases q)⟩
   |ok a i=>
    cases k with
    |zero=>exact absurd (hL.zero e i d) hP.1
    |succ k=>
     have es:gL (k+1) e i d=.ok e i:=hL.stop k e i d λt ht=>hbef t (by omega);have eb:((aj.ok a i).bind λ_ i=>gL (k+1) e i d)=.ok e i:=es;rw[eb];exact⟨Kx d1,λ_ _ q=>(by cases q;rfl)⟩
  exact lR.BE F1 m1 hM0 hd0 hst.1 hP hst.2
 ·have hwl:w<(dQ n).length:=by omega
  obtain⟨a,i,rfl,hi⟩:=Cd (hat hwl);rw[decide_eq_false (by omega),aG];refine ll m1 d1 ?_;rw[ai,aQ];have hlt:=de C.ok hi;have hfew:=C.few;simp only[dL,aU,Nat.zero_add];refine aF m1 d1.ob (v:=.int 0 (i:Int)) rfl ?_;simp only[aQ,dp,fe];refine w0 (by omega) (by omega) ?_;refine cZ m1 d1.ob (by omega) (by show 1<4;omega) rfl λH2 m2=>?_;have d2:=d1.ok () hlt;have c2:aJ (bA C) S1 (S1.set C.bp (.ce [C.vT,.int 0 ((i+1:Nat):Int),.int 0 0,.int 0 0] 0)):=aJ.IJ (aJ.refl _ _) _;have F2:=F1.keep m1 hbp c2;have m2:Mem H2 (S1.set C.bp (.ce [C.vT,.int 0 ((i+1:Nat):Int),.int 0 0,.int 0 0] 0)):=m2;have o1:=c1.ob hM ho λq=>q;have oc1:=c1.ob hM hc λq=>q;have o2:=c2.ob m1 o1 (eU _ iD);have oc2:=c2.ob m1 oc1 (eU _ hbc);revert F2 m2 d2 o2 oc2;generalize S1.set C.bp (.ce [C.vT,.int 0 ((i+1:Nat):Int),.int 0 0,.int 0 0] 0)=S2;intro d2 F2 m2 o2 oc2;cases k with
  |zero=>exact absurd (hL.zero e i d) hP.1
  |succ k=>
  have eg:=hL.go k e i d w hwl (λt ht=>hbef t ht) hi;have hP:aT C (bA C) dW K S0 (gL (k+1) e i d):=hP;rw[eg]at hP;show Eg (dX (s10 m)) K (Ef (dX (s10 m)) K X) (.ptr C.bp 0) (n:Int) (d:Int) (.ptr b1 0) (.slice bo 0 (dQ n).length (dQ n).length 1 true) (.slice bc 0 (fH n).length (fH n).length 1 true) (.ptr b3 0) (w:Int) (aq C.T i:Int) H2;unfold Eg;rw[rc,dp,fe];refine w0 (by omega) (by omega) ?_;refine hp k (by omega) hd m2 d2 (aT.call (eD:=dW) hP λx H3 S3 v m3 c3 d3 ⟨cb,hv,hR⟩ hP2=>?_);subst hv;rw[kE];have F3:=F2.keep m2 hbp c3;have o3:=c3.ob m2 o2 (eU _ iD);have oc3:=c3.ob m2 oc2 (eU _ hbc);have lt2:b1<S2.n∧b3<S2.n:=⟨by obtain⟨z,hz,_⟩:=F2.o1;exact m2.lt (by rw[hz];simp),m2.lt (by rw[F2.o3];simp)⟩
  have n20:=F2.x.1;refine eZ (eC m3 fB λH4 m4=>?_);refine ky m4 (LS.ax _ _) rfl hR.len hR.ones λH5 m5=>?_;have c5:aJ bP S3 ((S3.push (.ce z7 0)).set S3.n (.ce cb 0)):=((aJ.refl _ _).push _).set (.inr (Nat.le_refl _)) _;have F5:=F3.keep m3 hbp c5.no;have d5:=d3.ic m3 c5;have o5:=c5.ob m3 o3 λq=>q;have oc5:=c5.ob m3 oc3 λq=>q;have ob5:((S3.push (.ce z7 0)).set S3.n (.ce cb 0)).ob S3.n=.ce cb 0:=LS.aC _ _ _;have R5:RE ((S3.push (.ce z7 0)).set S3.n (.ce cb 0)) (λb=>S0.n≤b∧b<((S3.push (.ce z7 0)).set S3.n (.ce cb 0)).n∧b≠b1∧b≠b3) cb x:=hR.go (λb hb=>c5.2 b hb.2 λq=>q) λb hb=>⟨by have:=hb.1;omega,Nat.lt_of_lt_of_le hb.2 c5.1,by have:=hb.1;omega,by have:=hb.1;omega⟩
  have m5:Mem H5 ((S3.push (.ce z7 0)).set S3.n (.ce cb 0)):=m5;revert F5 d5 o5 oc5 ob5 R5 m5;generalize (S3.push (.ce z7 0)).set S3.n (.ce cb 0)=S5;intro F5 d5 o5 oc5 ob5 R5 m5;have key:∀kd:Nat,kd=Rv n→Ed (dX (s10 m)) K X (.ptr C.bp 0) (n:Int) (d:Int) (.ptr b1 0) (.slice bo 0 (dQ n).length (dQ n).length 1 true) (.slice bc 0 (fH n).length (fH n).length 1 true) (.ptr b3 0) (w:Int) (aq C.T i:Int) (.ptr S3.n 0) (kd:Int) H5:=by
   intro kd hkd;subst hkd;show Ec (dX (s10 m)) K X (.ptr C.bp 0) (n:Int) (d:Int) (.ptr b1 0) (.slice bo 0 (dQ n).length (dQ n).length 1 true) (.slice bc 0 (fH n).length (fH n).length 1 true) (.ptr b3 0) (w:Int) (aq C.T i:Int) (.ptr S3.n 0) (Rv n:Int) H5;unfold Ec;have hlc:=aia (n:=n);refine nE (by omega) (by omega) ?_;rw[Int.toNat_natCast,Nat.zero_add,Nat.mul_one];have hwc:w<(fH n).length:=by omega
   refine aF m5 oc5 (v:=.int 0 (((fH n)[w]?.getD 0:Nat):Int)) (by rw[List.getElem?_map,List.getElem?_eq_getElem hwc];rfl) ?_;rw[aQ];refine gy m5 F5.o3 F5.len ?_;refine gy m5 ob5 hR.len ?_;refine m5.dx ?_;simp only[ib];refine fT F5.len (fT hR.len ?_);rw[AS F5.len hR.len rfl];have PA:∀a∈c,a.one=true:=by obtain⟨Q,h1,_⟩:=F5.re;exact h1.ones
   refine eI m5 (by rw[List.length_append,F5.len,hR.len]) (λa h=>?_) λH6 m6=>cV (sr (by rw[m6.n,m5.n];rfl)) ?_
   ·rcases List.mem_append.1 h with g|g
    ·exact PA a g
    ·exact hR.ones a g
   refine fU rfl ?_;have c6:aJ bP S5 (S5.push (.ce (c++cb) 0)):=(aJ.refl _ _).push _;have F6:=F5.keep m5 hbp c6.no;have hnew:=Kw (at_:=aq C.T i) (kind:=Rv n) (op:=(fH n)[w]?.getD 0) F5 m5 hbp R5;refine ky m6 F6.o3 F6.len hnew.len hnew.ones λH7 m7=>?_;have F7:=F6.Pw hnew λb hb=>hb;refine hrec k rfl _ _ H7 _ _ m7 ((d5.ic m5 c6).qT hd0 hM0 hF.n3 _) F7 ?_ ?_ hP2
   ·rw[LS.av _ _ no3];exact c6.ob m5 o5 λq=>q
   ·rw[LS.av _ _ nc3];exact c6.ob m5 oc5 λq=>q
  have e0:Int.ofNat 0=((0:Nat):Int):=rfl;have e1:Int.ofNat 1=((1:Nat):Int):=rfl;have k7:∀kd:Nat,(if n=1 then 15 else kd)=Rv n→Ef (dX (s10 m)) K X (.ptr C.bp 0) (n:Int) (d:Int) (.ptr b1 0) (.slice bo 0 (dQ n).length (dQ n).length 1 true) (.slice bc 0 (fH n).length (fH n).length 1 true) (.ptr b3 0) (w:Int) (aq C.T i:Int) (.ptr S3.n 0) (kd:Int) H5:=by
   intro kd hkd;show Ee (dX (s10 m)) K (Ed (dX (s10 m)) K X) (.ptr C.bp 0) (n:Int) (d:Int) (.ptr b1 0) (.slice bo 0 (dQ n).length (dQ n).length 1 true) (.slice bc 0 (fH n).length (fH n).length 1 true) (.ptr b3 0) (w:Int) (aq C.T i:Int) (.ptr S3.n 0) (kd:Int) H5;unfold Ee;rw[bD,e1];by_cases g1:n=1
   ·rw[decide_eq_true (by omega),aK];exact key 15 (by rw[if_pos g1]at hkd;exact hkd)
   ·rw[decide_eq_false (by omega),aG];exact key kd (by rw[if_neg g1]at hkd;exact hkd)
  rw[bD,e0];by_cases g0:n=0
  ·rw[decide_eq_true (by omega),aK];exact k7 16 (by subst g0;rfl)
  ·rw[decide_eq_false (by omega),aG];exact k7 14 (by unfold Rv;rw[if_neg g0])
theorem afb{m n:Nat}(hn:yq n){p:Nat→Nat→Nat→aj ao}{gL:Nat→ao→Nat→Nat→aj ao}(hp:∀k,2*k+5≤m→mM C (λd H K=>(s10 m).2.2.2.1 (.ptr C.bp 0) ((n+1:Nat):Int) (d:Int) H K) (p k))(hL:JN C n p gL)
  {S0:LS}{H0:AH}{γ0:Type}{r0:aj γ0}{b1 b3 bo bc:Nat}(hd:d≤200) (hM0:Mem H0 S0) (hd0:bn C S0 r0) (iD:S0.n≤bo) (hbc:S0.n≤bc) (no3:bo≠b3) (nc3:bc≠b3) :
  ∀k,2*k+4≤m+1→∀(q:Nat) (e:ao) (c:List AV) (H:AH) (S:LS){γ:Type}(r:aj γ),k<q→Mem H S→bn C S r→lR C S0 S b1 b3 c e→S.ob bo=.ce ((dQ n).map ah) 0→S.ob bc=.ce ((fH n).map λc:Nat=>AV.int 0 (c:Int)) 0→aT C (bA C) dW K S0 (r.bind λ_ i=>gL k e i d)→
   El (dX (s10 m)) K q (.ptr C.bp 0) (n:Int) (d:Int) (.ptr b1 0) (.slice bo 0 (dQ n).length (dQ n).length 1 true) (.slice bc 0 (fH n).length (fH n).length 1 true) (.ptr b3 0) H:=by
 intro k
 induction k with
 |zero=>
  intro hk q e c H S γ r hq hM hs hF ho hc hP;obtain⟨q,rfl⟩:∃p,q=p+1:=⟨q-1,by omega⟩
  exact Pz hn hp hL hd hM0 hd0 iD hbc no3 nc3 hk (λk' h=>absurd h (by omega)) e c H S r hM hs hF ho hc hP
 |succ k ih=>
  intro hk q e c H S γ r hq hM hs hF ho hc hP;obtain⟨q,rfl⟩:∃p,q=p+1:=⟨q-1,by omega⟩
  exact Pz hn hp hL hd hM0 hd0 iD hbc no3 nc3 hk (λk' h e c H S γ r hM hs hF ho hc hP=>by
   obtain rfl:k=k':=by omega
   exact ih (by omega) q e c H S r (by omega) hM hs hF ho hc hP) e c H S r hM hs hF ho hc hP
theorem x103{m n:Nat}(hm:m≤1000000)(hn:yq n){p g:Nat→Nat→Nat→aj ao}{gL:Nat→ao→Nat→Nat→aj ao}(hp:∀k,2*k+5≤m→mM C (λd H K=>(s10 m).2.2.2.1 (.ptr C.bp 0) ((n+1:Nat):Int) (d:Int) H K) (p k))(hL:JN C n p gL)
  (h0:∀i d,g 0 i d=.aO) (h1:∀k i d,g (k+1) i d=(p k i d).bind λe j=>gL k e j d):∀k,2*k+4≤m+1→mM C (λd H K=>(s10 (m+1)).2.2.2.1 (.ptr C.bp 0) (n:Int) (d:Int) H K) (g k):=by
 intro k hk K H S i d γ x hd hM hs hP;cases k with
 |zero=>exact absurd (h0 i d) hP.1
 |succ k=>
 rw[h1]at hP;have e:(s10 (m+1)).2.2.2.1=Em (dX (s10 m)):=by rw[A0]
 show(s10 (m+1)).2.2.2.1 (.ptr C.bp 0) (n:Int) (d:Int) H K;rw[e];have rc:(dX (s10 m)).2.2.1=(s10 m).2.2.2.1:=rfl;have fV:G.NL=1000000:=rfl;have hn6:n≤5∧n≠3:=by unfold yq at hn;omega
 unfold Em W3 tI;rw[kE];refine eZ (eC hM fB λH1 m1=>?_);have c1:aJ bP S (S.push (.ce z7 0)):=(aJ.refl _ _).push _;have d1:=hs.ic hM c1;have o1:(S.push (.ce z7 0)).ob S.n=.ce z7 0:=LS.ax _ _;have hbp:=hs.nW hM;have eU:∀b,S.n≤b→¬bA C b:=λb hb q=>by have q:b=C.bp:=q;omega
 have e0:Int.ofNat 0=((0:Nat):Int):=rfl;have e3:Int.ofNat 3=((3:Nat):Int):=rfl;have e6:Int.ofNat 6=((6:Nat):Int):=rfl;refine ie m1 d1 ?_;have rcd:(aj.ok x i).cd=0:=rfl;rw[rcd,bD,bD,bD,e0,decide_eq_true rfl,e3,e6,decide_eq_false (p:=(n:Int)=((3:Nat):Int)) (by omega),decide_eq_false (p:=(n:Int)=((6:Nat):Int)) (by omega)];simp only[Bool.not_true,aG];refine amn hn m1 λH2 S2 bo m2 c2 iD aoL o2=>?_;have iD:S.n+1≤bo:=iD;unfold zy Nf;refine aib hn m2 λH3 S3 bc m3 c3 hbc aoM o3=>?_;rw[rc,dp,fe];refine w0 (by omega) (by omega) ?_;have c13:=(c1.trans c2).trans c3;have d3:=hs.ic hM c13;have q1:=(c2.trans c3).ob m1 o1 λq=>q;have q2:=c3.ob m2 o2 λq=>q;refine hp k (by omega) hd m3 d3 (aT.call (eD:=dW) hP λy H4 S4 v m4 c4 d4 ⟨cy,hv,hR⟩ hP2=>?_);subst hv;have n12:S.n+1≤S2.n:=c2.1;have n23:=c3.1;refine eZ ?_;rw[kE];refine eC m4 fB λH5 m5=>?_;refine ky m5 (LS.ax _ _) rfl hR.len hR.ones λH6 m6=>?_;have F:=lR.mk0 (C:=C) hbp rfl (c13.no.trans c4) m4 (c4.ob m3 q1 (eU _ (Nat.le_refl _))) (hR.go (λ_ _=>rfl) λb hb=>⟨by have:=hb.1;omega,hb.2⟩);have c6:aJ bP S4 ((S4.push (.ce z7 0)).set S4.n (.ce cy 0)):=((aJ.refl _ _).push _).set (.inr (Nat.le_refl _)) _;unfold Nd Nc;have n34:=c4.1;exact afb hn hp hL hd hM hs (by omega) (by omega) (by omega) (by omega) k (by omega) G.NL y cy H6 _ _ (by omega) m6 (d4.ic m4 c6) F (c6.ob m4 (c4.ob m3 q2 (eU _ (by omega))) λq=>q) (c6.ob m4 (c4.ob m3 o3 (eU _ (by omega))) λq=>q) hP2
end
end Go.Proofs.YtcedghechlgecaaDoor
namespace Go.X
theorem xX{T:List Tok}{i:Nat}:∀{l:List (List Nat)}{f:Nat},(∀t,t<l.length→isA T (l[t]?.getD []) i=false)→nQ T i f l=0
 |[],f,h=>rfl
 |s::l,f,h=>by
  have h0:isA T s i=false:=h 0 (by simp);unfold nQ;rw[h0];exact xX λt ht=>by have:=h (t+1) (by simp;omega);simpa using this
theorem Hm{T:List Tok}{i:Nat}:∀{l:List (List Nat)}{f w:Nat},w<l.length→(∀t,t<w→isA T (l[t]?.getD []) i=false)→isA T (l[w]?.getD []) i=true→nQ T i f l=f+w
 |[],f,w,h,_,_=>by simp at h
 |s::l,f,0,_,_,h=>by
  have h0:isA T s i=true:=h;unfold nQ;rw[h0];rfl
 |s::l,f,w+1,hw,hb,h=>by
  have h0:isA T s i=false:=hb 0 (by omega);unfold nQ;rw[h0];have:=Hm (l:=l) (f:=f+1) (w:=w) (by simp at hw;omega) (λt ht=>by have:=hb (t+1) (by omega);simpa using this) (by simpa using h);simp only[Bool.false_eq_true,if_false];rw[this];omega
theorem bn.ret{C:Ctx}{S:LS}{α β:Type}{r:aj α}(h:bn C S r)(e:β):bn C S (r.bind λ_ j=>.ok e j):=by
 cases r with
 |ok a i=>exact h.as rfl rfl rfl (λe=>by cases e) λc i e=>by cases e
 |err c i=>exact h.as rfl rfl rfl (λe=>by cases e) λc i e=>h.cd c i (by cases e;rfl)
 |aO=>exact absurd rfl h.no
theorem qq{α β:Type}{r:aj α}{e:β}:Ag (r.bind λ_ j=>.ok e j) e:=λa j h=>by
 cases r with
 |ok a i=>cases h;rfl
 |err c i=>cases h
 |aO=>cases h
theorem T9{β:Type}{e:β}{i:Nat}:Ag (.ok e i) e:=λ_ _ h=>by cases h;rfl
theorem wY{β:Type}{e:β}{c i:Nat}:Ag (.err c i) e:=λ_ _ h=>by cases h
end Go.X
namespace Go.Proofs.YtcedghechlgecaaDoor
open Go Go.X Go.Proofs.YtcedghechlgecaaDoor.G
section
variable {H:AH}{S:LS}{K:KF}{C:Ctx}{i d:Nat}
theorem anx:JN C 0 (km C.T) (gm C.T) where
 zero e i d:=by simp only[gm]
 stop k e i d h:=by
  have h0:isA C.T [111,114] i=false:=h 0 (by decide);simp only[gm];rw[h0];rfl
 go k e i d w hw hb h:=by
  obtain rfl:w=0:=by have:(dQ 0).length=1:=rfl;omega
  have h0:isA C.T [111,114] i=true:=h;simp only[gm];rw[h0];rfl
theorem anz:JN C 1 (ko C.T) (jl C.T) where
 zero e i d:=by simp only[jl]
 stop k e i d h:=by
  have h0:isA C.T [97,110,100] i=false:=h 0 (by decide);simp only[jl];rw[h0];rfl
 go k e i d w hw hb h:=by
  obtain rfl:w=0:=by have:(dQ 1).length=1:=rfl;omega
  have h0:isA C.T [97,110,100] i=true:=h;simp only[jl];rw[h0];rfl
theorem anA:∀w,w<6→(fH 2)[w]?.getD 0=7+w:=by decide
theorem anB:∀w,w<2→(fH 4)[w]?.getD 0=1+w:=by decide
theorem anC:∀w,w<3→(fH 5)[w]?.getD 0=3+w:=by decide
theorem anD:JN C 2 (gF C.T) (jm C.T) where
 zero e i d:=by simp only[jm]
 stop k e i d h:=by
  have h0:nQ C.T i 7 tests=0:=xX h;simp only[jm];rw[h0];rfl
 go k e i d w hw hb h:=by
  have h0:nQ C.T i 7 tests=7+w:=Hm hw hb h;have e1:=anA w hw;have h1:nQ C.T i 7 tests≠0:=by omega
  simp only[jm];rw[if_neg h1,e1,h0];rfl
theorem anE:JN C 4 (ku C.T) (kY C.T) where
 zero e i d:=by simp only[kY]
 stop k e i d h:=by
  have h0:nQ C.T i 1 sums=0:=xX h;simp only[kY];rw[h0];rfl
 go k e i d w hw hb h:=by
  have h0:nQ C.T i 1 sums=1+w:=Hm hw hb h;have e1:=anB w hw;have h1:nQ C.T i 1 sums≠0:=by omega
  simp only[kY];rw[if_neg h1,e1,h0];rfl
theorem anF:JN C 5 (fA C.T) (jn C.T) where
 zero e i d:=by simp only[jn]
 stop k e i d h:=by
  have h0:nQ C.T i 3 terms=0:=xX h;simp only[jn];rw[h0];rfl
 go k e i d w hw hb h:=by
  have h0:nQ C.T i 3 terms=3+w:=Hm hw hb h;have e1:=anC w hw;have h1:nQ C.T i 3 terms≠0:=by omega
  simp only[jn];rw[if_neg h1,e1,h0];rfl
theorem alk{m:Nat}(hm:m≤1000000)(O:gq C m):∀k,2*k+4≤m+1→mM C (λd H K=>(s10 (m+1)).2.2.2.1 (.ptr C.bp 0) ((0:Nat):Int) (d:Int) H K) (gK C.T k):=
 x103 hm (by unfold yq;omega) (λk hk=>O.lv1 k (by omega)) anx (λi d=>by simp only[gK]) λk i d=>by simp only[gK]
theorem alm{m:Nat}(hm:m≤1000000)(O:gq C m):∀k,2*k+4≤m+1→mM C (λd H K=>(s10 (m+1)).2.2.2.1 (.ptr C.bp 0) ((1:Nat):Int) (d:Int) H K) (km C.T k):=
 x103 hm (by unfold yq;omega) (λk hk=>O.lv2 k (by omega)) anz (λi d=>by simp only[km]) λk i d=>by simp only[km]
theorem aln{m:Nat}(hm:m≤1000000)(O:gq C m):∀k,2*k+4≤m+1→mM C (λd H K=>(s10 (m+1)).2.2.2.1 (.ptr C.bp 0) ((2:Nat):Int) (d:Int) H K) (ko C.T k):=
 x103 hm (by unfold yq;omega) (λk hk=>O.lv3 k (by omega)) anD (λi d=>by simp only[ko]) λk i d=>by simp only[ko]
theorem alo{m:Nat}(hm:m≤1000000)(O:gq C m):∀k,2*k+4≤m+1→mM C (λd H K=>(s10 (m+1)).2.2.2.1 (.ptr C.bp 0) ((4:Nat):Int) (d:Int) H K) (nR C.T k):=
 x103 hm (by unfold yq;omega) (λk hk=>O.lv5 k (by omega)) anE (λi d=>by simp only[nR]) λk i d=>by simp only[nR]
theorem alp{m:Nat}(hm:m≤1000000)(O:gq C m):∀k,2*k+4≤m+1→mM C (λd H K=>(s10 (m+1)).2.2.2.1 (.ptr C.bp 0) ((5:Nat):Int) (d:Int) H K) (ku C.T k):=
 x103 hm (by unfold yq;omega) (λk hk=>O.lv6 k (by omega)) anF (λi d=>by simp only[ku]) λk i d=>by simp only[ku]
theorem A5{H3:AH}{S3:LS}{γ:Type}{r:aj γ}{r':aj ao}{z:List AV}{v:AV}{e:ao}{Q:Nat→Prop}(hM:Mem H S)(hs:bn C S r)(hP:aT C (bA C) dW K S r')(m3:Mem H3 S3)(c3:aJ (bA C) S S3)(d3:bn C S3 r')(o3:S3.ob S.n=.ce z 0)(hz:z.length=7)
  (hv:dW S3 Q v e) (hQ:∀b,Q b→S.n<b∧b<S3.n) (ha:Ag r' e):ak 7 (.ptr S.n 0) v H3 λdD=>aZ 7 (.ptr S.n 0) dD λv11=>K (.ret v11) dD:=by
 obtain⟨c,hv,hR⟩:=hv;subst hv;refine ky m3 o3 hz hR.len hR.ones λH4 m4=>?_;refine gy m4 (LS.aC _ _ _) hR.len ?_;exact hP.2 H4 _ _ e m4 (c3.set (.inr (Nat.le_refl _)) _) (d3.qT hs hM (Nat.le_refl _) _) ⟨c,rfl,hR.go (λb hb=>LS.av _ _ (by have:=(hQ b hb).1;omega)) λb hb=>⟨by have:=(hQ b hb).1;omega,(hQ b hb).2⟩⟩ ha
theorem Rx{m n:Nat}{p:Nat→Nat→aj ao}(hn:n=3∨n=6)(h3:n=3→mM C (λd H K=>(s10 m).2.2.2.2.2.2.1 (.ptr C.bp 0) (d:Int) H K) p)(h6:n=6→mM C (λd H K=>(s10 m).2.2.2.2.2.2.2.1 (.ptr C.bp 0) (d:Int) H K) p) :
  mM C (λd H K=>(s10 (m+1)).2.2.2.1 (.ptr C.bp 0) (n:Int) (d:Int) H K) p:=by
 intro K H S i d γ x hd hM hs hP;have rd:(dX (s10 m)).2.2.2.1=(s10 m).2.2.2.2.2.2.1:=rfl;have re:(dX (s10 m)).2.2.2.2=(s10 m).2.2.2.2.2.2.2.1:=rfl;show tI (dX (s10 m)) K (zy (dX (s10 m)) K) (.ptr C.bp 0) (n:Int) (d:Int) H;unfold tI;rw[kE,rd,re];refine eZ (eC hM fB λH1 m1=>?_);have c1:aJ bP S (S.push (.ce z7 0)):=(aJ.refl _ _).push _;have d1:=hs.ic hM c1;have o1:(S.push (.ce z7 0)).ob S.n=.ce z7 0:=LS.ax _ _;have hbp:=hs.nW hM;have eU:¬bA C S.n:=λq=>by have q:S.n=C.bp:=q;omega
 have e0:Int.ofNat 0=((0:Nat):Int):=rfl;have e3:Int.ofNat 3=((3:Nat):Int):=rfl;have e6:Int.ofNat 6=((6:Nat):Int):=rfl;refine ie m1 d1 ?_;have rcd:(aj.ok x i).cd=0:=rfl;rw[rcd,bD,bD,bD,e0,decide_eq_true rfl,e3,e6];simp only[Bool.not_true,aG];rcases hn with rfl|rfl
 ·rw[decide_eq_true rfl,aK];refine h3 rfl hd m1 d1 (aT.tail (eD:=dW) hP λe H2 S2 v m2 c2 d2 hv hfin=>?_);obtain⟨c,hv,hR⟩:=hv;subst hv;refine ky m2 (c2.ob m1 o1 eU) rfl hR.len hR.ones λH4 m4=>?_;refine gy m4 (LS.aC _ _ _) hR.len ?_;exact hfin H4 _ _ m4 ((c1.no.trans c2).set (.inr (Nat.le_refl _)) _) (d2.qT hs hM (Nat.le_refl _) _) ⟨c,rfl,hR.go (λb hb=>LS.av _ _ (by have hb:S.n+1≤b:=hb.1;omega)) λb hb=>⟨by have hb:S.n+1≤b:=hb.1;omega,hb.2⟩⟩
 ·rw[decide_eq_false (by omega),aG,decide_eq_true rfl,aK];refine h6 rfl hd m1 d1 (aT.tail (eD:=dW) hP λe H2 S2 v m2 c2 d2 hv hfin=>?_);obtain⟨c,hv,hR⟩:=hv;subst hv;refine ky m2 (c2.ob m1 o1 eU) rfl hR.len hR.ones λH4 m4=>?_;refine gy m4 (LS.aC _ _ _) hR.len ?_;exact hfin H4 _ _ m4 ((c1.no.trans c2).set (.inr (Nat.le_refl _)) _) (d2.qT hs hM (Nat.le_refl _) _) ⟨c,rfl,hR.go (λb hb=>LS.av _ _ (by have hb:S.n+1≤b:=hb.1;omega)) λb hb=>⟨by have hb:S.n+1≤b:=hb.1;omega,hb.2⟩⟩
theorem anG{m:Nat}(O:gq C m):∀k,2*k+4≤m+1→mM C (λd H K=>(s10 (m+1)).2.2.2.2.2.2.1 (.ptr C.bp 0) (d:Int) H K) (gF C.T k):=by
 intro k hk K H S i d γ x hd hM hs hP;cases k with
 |zero=>exact absurd (show gF C.T 0 i d=.aO by simp only[gF]) hP.1
 |succ k=>
 have ra:(nJ (s10 m)).1=f37:=rfl;have rb:(nJ (s10 m)).2.1=f39:=rfl;have rc:(nJ (s10 m)).2.2.1=f40:=rfl;have rd:(nJ (s10 m)).2.2.2.1=(s10 m).2.2.2.1:=rfl;have re:(nJ (s10 m)).2.2.2.2=(s10 m).2.2.2.2.2.2.1:=rfl;show EK (nJ (s10 m)) K (zE (nJ (s10 m)) K) (.ptr C.bp 0) (d:Int) H;unfold EK;rw[ra,rb,rc,rd,kE];simp only[gF]at hP;have hbp:=hs.nW hM;have eU:∀b,S.n≤b→¬bA C b:=λb hb q=>by have q:b=C.bp:=q;omega
 refine eZ (eC hM fB λH1 m1=>?_);have c1:aJ bP S (S.push (.ce z7 0)):=(aJ.refl _ _).push _;have d1:=hs.ic hM c1;have o1:(S.push (.ce z7 0)).ob S.n=.ce z7 0:=LS.ax _ _;have e4:Int.ofNat 4=((4:Nat):Int):=rfl;have e0:Int.ofNat 0=((0:Nat):Int):=rfl;rw[e4];refine O.lv4 k (by omega) hd m1 d1 (aT.call (eD:=dW) hP λe H2 S2 v m2 c2 d2 ⟨c,hv,hR⟩ hP2=>?_);subst hv;simp only[kE];refine eZ (eC m2 fB λH3 m3=>?_);refine ky m3 (LS.ax _ _) rfl hR.len hR.ones λH4 m4=>?_;have n12:S.n+1≤S2.n:=c2.1;have c4:aJ bP S2 ((S2.push (.ce z7 0)).set S2.n (.ce c 0)):=((aJ.refl _ _).push _).set (.inr (Nat.le_refl _)) _;have F4:=lR.mk0 (C:=C) hbp rfl (c1.no.trans c2) m2 (c2.ob m1 o1 (eU _ (Nat.le_refl _))) hR;have d4:=d2.ic m2 c4;refine ll m4 d4 ?_;rw[ai,aQ];refine dB (s:=[46,46]) (bj (by decide)) m4 d4 (λy j er hi H5 S5 m5 c5 d5=>?_) λhi H5 S5 m5 c5 d5=>?_
 ·simp only[ai,aM,Bool.not_true,aG];rw[er]at hP2;have hP2:aT C (bA C) dW K S (if isA C.T [46,46] j=true then (if 100<d+1 then .err 8 (j+1) else (gF C.T k (j+1) (d+1)).bind λb k=>.ok (lN 14 6 (aq C.T j) e b) k) else .ok e j):=hP2;rw[if_pos hi]at hP2;have F5:=F4.keep m4 hbp c5;rw[dp,fe];refine w0 (by omega) (by omega) ?_;have sp:(if 100<d+1 then .err 8 (j+1) else (gF C.T k (j+1) (d+1)).bind λb k=>.ok (lN 14 6 (aq C.T j) e b) k)=((aj.ok () (j+1)).bind λ_ i=>dC (100<d+1) i).bind λ_ i=>(gF C.T k i (d+1)).bind λb k=>.ok (lN 14 6 (aq C.T j) e b) k:=by
   show _=(dC (100<d+1) (j+1)).bind _;unfold dC;split<;>rfl
  rw[sp]at hP2;refine AX m5 d5 (aT.call (eD:=nY) hP2 λ_ H6 S6 w m6 c6 d6 _ hP3=>?_);have F6:=F5.keep m5 hbp c6;refine ie m6 d6 ?_;rw[er,bD,e0];have d6:bn C S6 (dC (100<d+1) (j+1)):=d6;have hP3:aT C (bA C) dW K S ((dC (100<d+1) (j+1)).bind λ_ i=>(gF C.T k i (d+1)).bind λb k=>.ok (lN 14 6 (aq C.T j) e b) k):=hP3;have ecd:((aj.ok () (j+1)).bind λ_ i=>dC (100<d+1) i)=dC (100<d+1) (j+1):=rfl;rw[ecd];by_cases g:100<d+1
  ·have ec:dC (100<d+1) (j+1)=.err 8 (j+1):=by unfold dC;rw[if_pos g]
   rw[ec]at d6 hP3 ⊢;rw[decide_eq_false (by show ¬((8:Nat):Int)=((0:Nat):Int);omega)];simp only[Bool.not_false,aK];exact F6.BE m6 hM hs (sg d6 rfl) hP3 wY
  ·have ec:dC (100<d+1) (j+1)=.ok () (j+1):=by unfold dC;rw[if_neg g]
   rw[ec]at d6 hP3 ⊢;rw[decide_eq_true (by show((0:Nat):Int)=((0:Nat):Int);rfl)];simp only[Bool.not_true,aG];have hP3:aT C (bA C) dW K S ((gF C.T k (j+1) (d+1)).bind λb k=>.ok (lN 14 6 (aq C.T j) e b) k):=hP3;have sC:aq C.T (nR C.T k i d).ix=aq C.T j:=by rw[er];rfl
   show zE (nJ (s10 m)) K (.ptr C.bp 0) (d:Int) (.ptr S.n 0) (.ptr S2.n 0) (aq C.T j:Int) H6;unfold zE;rw[re,dp,fe];refine w0 (by omega) (by omega) ?_;refine O.join k (by omega) (show d+1≤200 by omega) m6 d6 (aT.call (eD:=dW) hP3 λb H7 S7 v m7 c7 d7 ⟨cb,hv,hRb⟩ wZ=>?_);subst hv;have F7:=F6.keep m6 hbp c7;have lt6:S.n<S6.n∧S2.n<S6.n:=⟨by obtain⟨z,hz,_⟩:=F6.o1;exact m6.lt (by rw[hz];simp),m6.lt (by rw[F6.o3];simp)⟩
   refine eZ ?_;rw[kE];refine eC m7 fB λH8 m8=>?_;refine ky m8 (LS.ax _ _) rfl hRb.len hRb.ones λH9 m9=>?_;have c9:aJ bP S7 ((S7.push (.ce z7 0)).set S7.n (.ce cb 0)):=((aJ.refl _ _).push _).set (.inr (Nat.le_refl _)) _;have F9:=F7.keep m7 hbp c9.no;have d9:=d7.ic m7 c9;have ob9:((S7.push (.ce z7 0)).set S7.n (.ce cb 0)).ob S7.n=.ce cb 0:=LS.aC _ _ _;have R9:RE ((S7.push (.ce z7 0)).set S7.n (.ce cb 0)) (λb=>S.n≤b∧b<((S7.push (.ce z7 0)).set S7.n (.ce cb 0)).n∧b≠S.n∧b≠S2.n) cb b:=hRb.go (λb hb=>c9.2 b hb.2 λq=>q) λb hb=>⟨by have:=hb.1;omega,Nat.lt_of_lt_of_le hb.2 c9.1,by have:=hb.1;omega,by have:=hb.1;omega⟩
   refine gy m9 F9.o3 F9.len ?_;refine gy m9 ob9 hRb.len ?_;simp only[ib];refine fT F9.len (fT hRb.len ?_);rw[AS F9.len hRb.len rfl];have PA:∀a∈c,a.one=true:=by obtain⟨Q,h1,_⟩:=F9.re;exact h1.ones
   have hnew:=Kw (at_:=aq C.T j) (kind:=14) (op:=6) F9 m9 hbp R9;refine eI m9 (by rw[List.length_append,F9.len,hRb.len]) (λa h=>?_) λHa ma=>?_
   ·rcases List.mem_append.1 h with g|g
    ·exact PA a g
    ·exact hRb.ones a g
   refine fU rfl ?_;have ca:aJ bP _ (((S7.push (.ce z7 0)).set S7.n (.ce cb 0)).push (.ce (c++cb) 0)):=(aJ.refl bP ((S7.push (.ce z7 0)).set S7.n (.ce cb 0))).push _;obtain⟨z,hz,nZ⟩:=F9.o1;exact A5 (z:=z) hM hs wZ ma (F9.x.trans ca.no) ((d9.ic m9 ca).ret _) (ca.ob m9 hz λq=>q) nZ ⟨_,rfl,hnew⟩ (λb hb=>⟨by omega,hb.2.1⟩) qq
 ·simp only[ai,aM,Bool.not_false,aK];rw[xW hi]at hP2;exact(F4.keep m4 hbp c5).BE m5 hM hs (d5.ret e) hP2 qq
theorem anH{m:Nat}(O:gq C m):∀k,2*k+4≤m+1→mM C (λd H K=>(s10 (m+1)).2.2.2.2.2.2.2.1 (.ptr C.bp 0) (d:Int) H K) (fA C.T k):=by
 intro k hk K H S i d γ x hd hM hs hP;cases k with
 |zero=>exact absurd (show fA C.T 0 i d=.aO by simp only[fA]) hP.1
 |succ k=>
 have ra:(nK (s10 m)).1=f37:=rfl;have rb:(nK (s10 m)).2.1=f39:=rfl;have rc:(nK (s10 m)).2.2.1=f40:=rfl;have rd:(nK (s10 m)).2.2.2.1=(s10 m).2.2.2.2.2.2.2.1:=rfl;have re:(nK (s10 m)).2.2.2.2=(s10 m).2.2.2.2.2.2.2.2.1:=rfl;show EL (nK (s10 m)) K (zF (nK (s10 m)) K) (.ptr C.bp 0) (d:Int) H;unfold EL;rw[rb,rc,re,kE];simp only[fA]at hP;have hbp:=hs.nW hM;have eU:∀b,S.n≤b→¬bA C b:=λb hb q=>by have q:b=C.bp:=q;omega
 have e0:Int.ofNat 0=((0:Nat):Int):=rfl;refine eZ (eC hM fB λH1 m1=>?_);have c1:aJ bP S (S.push (.ce z7 0)):=(aJ.refl _ _).push _;have d1:=hs.ic hM c1;have o1:(S.push (.ce z7 0)).ob S.n=.ce z7 0:=LS.ax _ _;refine ll m1 d1 ?_;rw[ai,aQ];have sC:(aj.ok x i).ix=i:=rfl;rw[sC];have signed:∀{H3:AH}{S3:LS}(kd:Nat),Bp C.T i=kd→kd≠0→Mem H3 S3→aJ (bA C) S S3→bn C S3 (.ok () (i+1):aj Unit)→S3.ob S.n=.ce z7 0→zF (nK (s10 m)) K (.ptr C.bp 0) (d:Int) (.ptr S.n 0) (aq C.T i:Int) (kd:Int) H3:=by
  intro H3 S3 kd hkd hk0 m3 c3 d3 o3;rw[hkd,if_neg hk0]at hP;unfold zF;rw[ra,rd,dp,fe];refine w0 (by omega) (by omega) ?_;have sp:(if 100<d+1 then .err 8 (i+1) else (fA C.T k (i+1) (d+1)).bind λe j=>.ok (ao.mk kd (aq C.T i) 0 [] 0 [e] []) j)=((aj.ok () (i+1)).bind λ_ i=>dC (100<d+1) i).bind λ_ j=>(fA C.T k j (d+1)).bind λe j=>.ok (ao.mk kd (aq C.T i) 0 [] 0 [e] []) j:=by
   show _=(dC (100<d+1) (i+1)).bind _;unfold dC;split<;>rfl
  rw[sp]at hP;refine AX m3 d3 (aT.call (eD:=nY) hP λ_ H4 S4 w m4 c4 d4 _ hP3=>?_);have o4:=c4.ob m3 o3 (eU _ (Nat.le_refl _));have n4:S.n<S4.n:=m4.lt (by rw[o4];simp);have c34:=c3.trans c4;refine ie m4 d4 ?_;rw[bD,e0];have d4:bn C S4 (dC (100<d+1) (i+1)):=d4;have hP3:aT C (bA C) dW K S ((dC (100<d+1) (i+1)).bind λ_ j=>(fA C.T k j (d+1)).bind λe j=>.ok (ao.mk kd (aq C.T i) 0 [] 0 [e] []) j):=hP3;have ecd:((aj.ok () (i+1)).bind λ_ i=>dC (100<d+1) i)=dC (100<d+1) (i+1):=rfl;rw[ecd];by_cases g:100<d+1
  ·have ec:dC (100<d+1) (i+1)=.err 8 (i+1):=by unfold dC;rw[if_pos g]
   rw[ec]at d4 hP3 ⊢;rw[decide_eq_false (by show ¬((8:Nat):Int)=((0:Nat):Int);omega)];simp only[Bool.not_false,aK];exact A5 (z:=z7) (e:=.mk 0 0 0 [] 0 [] []) (Q:=λ_=>False) hM hs hP3 m4 c34 (sg d4 rfl) o4 rfl ⟨z7,rfl,RE.zero⟩ (λb hb=>hb.elim) wY
  ·have ec:dC (100<d+1) (i+1)=.ok () (i+1):=by unfold dC;rw[if_neg g]
   rw[ec]at d4 hP3 ⊢;rw[decide_eq_true (by show((0:Nat):Int)=((0:Nat):Int);rfl)];simp only[Bool.not_true,aG];have hP3:aT C (bA C) dW K S ((fA C.T k (i+1) (d+1)).bind λe j=>.ok (.mk kd (aq C.T i) 0 [] 0 [e] []) j):=hP3;refine w0 (by omega) (by omega) ?_;refine O.unary k (by omega) (show d+1≤200 by omega) m4 d4 (aT.call (eD:=dW) hP3 λe H5 S5 v m5 c5 d5 ⟨c,hv,hR⟩ wZ=>?_);subst hv;have o5:=c5.ob m4 o4 (eU _ (Nat.le_refl _));rw[ib];refine fT hR.len ?_;rw[II hR.len rfl];refine eI m5 (by rw[hR.len]) hR.ones λH6 m6=>?_;refine fU rfl ?_;have c6:aJ bP S5 (S5.push (.ce c 0)):=(aJ.refl _ _).push _;have n5:S4.n≤S5.n:=c5.1;have hRp:RE (S5.push (.ce c 0)) (iy (S.n+1) (S5.push (.ce c 0)).n) [.int 0 (kd:Int),.int 0 (aq C.T i:Int),.int 0 ((0:Nat):Int),ah [],.int 0 ((0:Nat):Int),.slice S5.n 0 1 1 7 true,.ab] (.mk kd (aq C.T i) 0 [] 0 [e] []):=
    RE.one (b:=S5.n) (m:=0) ⟨by omega,Nat.lt_succ_self _⟩ (LS.ax _ _) (hR.go (λb hb=>LS.bC _ _ hb.2) λb hb=>⟨by have:=hb.1;omega,Nat.lt_succ_of_lt hb.2⟩)
   exact A5 (z:=z7) hM hs wZ m6 ((c34.trans c5).trans c6.no) ((d5.ic m5 c6).ret _) (c6.ob m5 o5 λq=>q) rfl ⟨_,rfl,hRp⟩ (λb hb=>⟨by have:=hb.1;omega,hb.2⟩) qq
 refine dB (s:=[110,111,116]) (bj (by decide)) m1 d1 (λy j er hi H2 S2 m2 c2 d2=>?_) λh1 H2 S2 m2 c2 d2=>?_
 ·cases er;simp only[ai,aM,aK];exact signed 11 (by unfold Bp;rw[hi];rfl) (by omega) m2 (c1.no.trans c2) d2 (c2.ob m1 o1 (eU _ (Nat.le_refl _)))
 have h1:isA C.T [110,111,116] i=false:=h1;simp only[ai,aM,aG];have o2:=c2.ob m1 o1 (eU _ (Nat.le_refl _));have c12:=c1.no.trans c2;refine dB (s:=[45]) (bj (by decide)) m2 d2 (λy j er hi H3 S3 m3 c3 d3=>?_) λh2 H3 S3 m3 c3 d3=>?_
 ·cases er;simp only[ai,aM,aK];exact signed 12 (by unfold Bp;rw[h1,hi];rfl) (by omega) m3 (c12.trans c3) d3 (c3.ob m2 o2 (eU _ (Nat.le_refl _)))
 have h2:isA C.T [45] i=false:=h2;simp only[ai,aM,aG];have o3:=c3.ob m2 o2 (eU _ (Nat.le_refl _));have c13:=c12.trans c3;refine dB (s:=[35]) (bj (by decide)) m3 d3 (λy j er hi H4 S4 m4 c4 d4=>?_) λh3 H4 S4 m4 c4 d4=>?_
 ·cases er;simp only[ai,aM,aK];exact signed 13 (by unfold Bp;rw[h1,h2,hi];rfl) (by omega) m4 (c13.trans c4) d4 (c4.ob m3 o3 (eU _ (Nat.le_refl _)))
 have h3:isA C.T [35] i=false:=h3;simp only[ai,aM,aG];have o4:=c4.ob m3 o3 (eU _ (Nat.le_refl _));have c14:=c13.trans c4;have hu:Bp C.T i=0:=by unfold Bp;rw[h1,h2,h3];rfl
 rw[if_pos hu]at hP;have n4:S.n<S4.n:=m4.lt (by rw[o4];simp);refine O.post k (by omega) hd m4 d4 (aT.tail (eD:=dW) hP λe H5 S5 v m5 c5 d5 hv hfin=>?_);obtain⟨c,hv,hR⟩:=hv;subst hv;refine ky m5 (c5.ob m4 o4 (eU _ (Nat.le_refl _))) rfl hR.len hR.ones λH6 m6=>?_;refine gy m6 (LS.aC _ _ _) hR.len ?_;exact hfin H6 _ _ m6 ((c14.trans c5).set (.inr (Nat.le_refl _)) _) (d5.qT hs hM (Nat.le_refl _) _) ⟨c,rfl,hR.go (λb hb=>LS.av _ _ (by have:=hb.1;omega)) λb hb=>⟨by have:=hb.1;omega,hb.2⟩⟩
end
end Go.Proofs.YtcedghechlgecaaDoor
namespace Go.X
section
variable {H:AH}{S S':LS}
theorem aW.push{α:Type}{R:Rep α}{Z:Nat→Prop}{bytes:Nat}{v:AV}{l:List α}{a:α}{c:List AV}{Q:Nat→Prop}{k:AV→AH→Prop}(h:aW R Z S v l)(hM:Mem H S)(hr:R.rel S Q c a)(hQ:∀b,Q b→Z b∧b<S.n∧¬au v b)(hnew:∀b,S.n≤b→Z b)(hl:(l.length+1)*bytes≤1099511627776)
  (hk:∀H' S' v',Mem H' S'→aW R Z S' v' (l++[a])→S.n≤S'.n→(∀b,b<S.n→¬au v b→S'.ob b=S.ob b)→(∀b,au v' b→au v b∨S.n≤b)→v'.one=true→k v' H'):aX (ay H) 1 R.sz c λx H'=>dw R.sz bytes v x H' k:=by
 obtain⟨cl,h1,h2⟩:=id h;refine Db hM h1 R.pos (R.len hr) hl (R.ones hr) λH' S' v' m' he=>?_;have g:=h.step hr hQ hnew λcl' h'=>by rw[h1.uniq h'];exact he
 exact hk H' S' v' m' g he.1 he.2.1 he.2.2.2 (g.toR (lo:=0) λb _=>Nat.zero_le _).one
theorem aW.done{α:Type}{R:Rep α}{Z:Nat→Prop}{v:AV}{l:List α}(h:aW R Z S v l)(hM:Mem H S):∃cl,dH S (λb=>Z b∧b<S.n) R.sz v l.length cl∧∀i a,l[i]? = some a→R.rel S (λb=>Z b∧b<S.n) (cl i) a:=by
 obtain⟨cl,h1,h2,h3,h4⟩:=h;have hsz:∀c∈cl,c.length=R.sz:=λc hc=>by
  obtain⟨i,hi,e⟩:=List.mem_iff_getElem.1 hc;obtain⟨_,g,_⟩:=h4 i c (l[i]'(by omega)) (by rw[List.getElem?_eq_getElem hi,e]) (List.getElem?_eq_getElem _);exact R.len g
 refine⟨λi=>cl[i]?.getD [],?_,λi a ha=>?_⟩
 ·rcases h1 with⟨rfl,e,_⟩|⟨b,c,ex,cs,rfl,g2,g3,g4,g5,g6,g7⟩
  ·exact .inl ⟨rfl,e⟩
  ·refine .inr ⟨b,0,c,ex,cs,0,rfl,⟨h3 b rfl,hM.lt (by rw[g2];simp)⟩,g2,g4,by rw[g3,Nat.zero_add];exact Nat.mul_le_mul_right _ g4,λi hi=>?_⟩;have hic:i<cl.length:=by omega
   have e1:=JM hsz (List.getElem?_eq_getElem hic);show(cs.drop (0+i*R.sz)).take R.sz=cl[i]?.getD [];rw[List.getElem?_eq_getElem hic,Option.getD_some,←e1,Nat.zero_add];have hle:(i+1)*R.sz≤l.length*R.sz:=Nat.mul_le_mul_right _ (by omega);rw[Nat.add_mul,Nat.one_mul]at hle
   conv=>rhs;rw[←g6]
   rw[List.drop_take,List.take_take,Nat.min_eq_left (by omega)]
 ·have hil:=(List.getElem?_eq_some_iff.1 ha).1;have hic:i<cl.length:=by omega
  obtain⟨Q,g1,g2⟩:=h4 i _ a (List.getElem?_eq_getElem hic) ha;show R.rel S _ (cl[i]?.getD []) a;rw[List.getElem?_eq_getElem hic,Option.getD_some];exact R.go (λ_ _=>rfl) (λb hb=>⟨(g2 b hb).1,(g2 b hb).2.1⟩) g1
theorem aW.one{α:Type}{R:Rep α}{Z:Nat→Prop}{v:AV}{l:List α}(h:aW R Z S v l):v.one=true:=(h.toR (lo:=0) λb _=>Nat.zero_le _).one
theorem aW.same{α:Type}{R:Rep α}{Z:Nat→Prop}{v:AV}{l:List α}(h:aW R Z S v l):bw v v=true:=(h.toR (lo:=0) λb _=>Nat.zero_le _).same
theorem aW.IK{α:Type}{R:Rep α}{Z:Nat→Prop}{v:AV}{l:List α}{k:AV→Prop}(h:aW R Z S v l)(hk:k (.int 0 l.length)):eP v k:=(h.toR (lo:=0) λb _=>Nat.zero_le _).IK hk
theorem aW.single{α:Type}{R:Rep α}{Z Q:Nat→Prop}{b:Nat}{c:List AV}{a:α}(hb:S.ob b=.ce c 0)(hz:Z b)(hr:R.rel S Q c a)(hQ:∀x,Q x→Z x∧x<S.n∧x≠b):aW R Z S (.slice b 0 1 1 R.sz true) [a]:=by
 have hl:=R.len hr;refine⟨[c],.inr ⟨b,1,true,c,rfl,hb,by omega,Nat.le_refl _,by simp[hl],by simp,R.ones hr⟩,rfl,λx hx=>?_,λi c' a' hc ha=>?_⟩
 ·have hx:x=b:=hx;rw[hx];exact hz
 ·cases i with
  |zero=>
   have e1:c=c':=by simpa using hc
   have e2:a=a':=by simpa using ha
   subst e1;subst e2;exact⟨Q,hr,λx hx=>⟨(hQ x hx).1,(hQ x hx).2.1,λq=>(hQ x hx).2.2 (by have q:x=b:=q;exact q)⟩⟩
  |succ i=>simp at hc
end
end Go.X
namespace Go.Proofs.YtcedghechlgecaaDoor
open Go Go.X Go.Proofs.YtcedghechlgecaaDoor.G
section
variable {H:AH}{S:LS}{K:KF}{C:Ctx}{i d:Nat}
theorem lR.alq{S0:LS}{b1 b3:Nat}{c:List AV}{e:ao}{r:aj ao}(h:lR C S0 S b1 b3 c e)(hM:Mem H S)(hbp:C.bp<S0.n)(db:∀b,au C.vT b→b<S0.n)(hd:bn C S r)(hP:aT C (bA C) dW K S0 r)(ha:Ag r e) :
  aZ 7 (.ptr b3 0) H λv1=>ak 7 (.ptr b1 0) v1 H λH2=>aZ 7 (.ptr b1 0) H2 λv3=>K (.ret v3) H2:=by
 obtain⟨z,hz,nZ⟩:=h.o1;obtain⟨Q,h1,h2⟩:=h.re;have hn:=h.n1;refine alf hM h.o3 h1.len h1.ones hz nZ λH' m=>?_;exact hP.2 H' _ _ e m (h.x.set (.inr h.n1) _) (hd.setB (by omega) (λx hx=>by have:=db x hx;omega) _) ⟨c,rfl,h1.go (λb hb=>LS.av _ _ (h2 b hb).2.2.1) λb hb=>⟨(h2 b hb).1,(h2 b hb).2.1⟩⟩ ha
structure qy(C:Ctx)(S0 S:LS)(b1 b3:Nat):Prop where
 x:aJ (bA C) S0 S
 o1:∃z,S.ob b1=.ce z 0∧z.length=7
 o3:∃z,S.ob b3=.ce z 0∧z.length=7
 n1:S0.n≤b1
 n3:S0.n≤b3
 ne:b1≠b3
theorem lR.w{S0:LS}{b1 b3:Nat}{c:List AV}{e:ao}(h:lR C S0 S b1 b3 c e):qy C S0 S b1 b3:=⟨h.x,h.o1,⟨c,h.o3,h.len⟩,h.n1,h.n3,h.ne⟩
theorem qy.lt{S0:LS}{b1 b3:Nat}(h:qy C S0 S b1 b3)(hM:Mem H S):b1<S.n∧b3<S.n:=⟨by obtain⟨z,hz,_⟩:=h.o1;exact hM.lt (by rw[hz];simp),by obtain⟨z,hz,_⟩:=h.o3;exact hM.lt (by rw[hz];simp)⟩
theorem qy.Hn{S0 S':LS}{b1 b3:Nat}{Y:Nat→Prop}(h:qy C S0 S b1 b3)(hM:Mem H S)(g:aJ Y S S')(h1:∀b,Y b→b≠b1∧b≠b3∧(b=C.bp∨S0.n≤b)):qy C S0 S' b1 b3:=by
 obtain⟨z,hz,nZ⟩:=h.o1;obtain⟨y,hy,hy7⟩:=h.o3;exact⟨h.x.sS g λb hb=>(h1 b hb).2.2.elim (λq=>.inl q) .inr,⟨z,g.ob hM hz λq=>(h1 _ q).1 rfl,nZ⟩,⟨y,g.ob hM hy λq=>(h1 _ q).2.1 rfl,hy7⟩,h.n1,h.n3,h.ne⟩
theorem qy.keep{S0 S':LS}{b1 b3:Nat}(h:qy C S0 S b1 b3)(hM:Mem H S)(hbp:C.bp<S0.n)(g:aJ (bA C) S S'):qy C S0 S' b1 b3:=
 h.Hn hM g λb hb=>by
  have hb:b=C.bp:=hb;have:=h.n1;have:=h.n3;exact⟨by omega,by omega,.inl hb⟩
theorem qy.Pw{S0:LS}{b1 b3:Nat}{c':List AV}{e':ao}(h:qy C S0 S b1 b3){Q:Nat→Prop}(hr:RE S Q c' e')(hQ:∀b,Q b→S0.n≤b∧b<S.n∧b≠b1∧b≠b3):lR C S0 (S.set b3 (.ce c' 0)) b1 b3 c' e':=by
 obtain⟨z,hz,nZ⟩:=h.o1;exact⟨h.x.set (.inr h.n3) _,⟨z,(LS.av _ _ h.ne).trans hz,nZ⟩,LS.aC _ _ _,h.n1,h.n3,h.ne,Q,hr.go (λb hb=>LS.av _ _ (hQ b hb).2.2.2) (λ_ h=>h),hQ⟩
def zB(S0:LS)(b1 b3:Nat):Nat→Prop:=λb=>S0.n≤b∧b≠b1∧b≠b3
def xY(T:List Tok)(k:Nat)(out:List ao)(i d:Nat):aj (List ao):=if out.length=16 then .err 8 i else (bQ T k i d).bind λe j=>dO T k false (out++[e]) j d
section
variable {m k:Nat}{X:AV→Int→AV→AV→AH→Prop}{S0:LS}{b1 b3:Nat}
def Ry(C:Ctx)(S0:LS)(K:KF)(b1 b3 k d:Nat)(X:AV→Int→AV→AV→AH→Prop):Prop:=∀(e:ao) (c:List AV) (H:AH) (S:LS){γ:Type}(r:aj γ),Mem H S→bn C S r→lR C S0 S b1 b3 c e→aT C (bA C) dW K S0 (r.bind λ_ i=>cK C.T k e i d)→X (.ptr C.bp 0) (d:Int) (.ptr b3 0) (.ptr b1 0) H
theorem adn{pos:Nat}(hbp:C.bp<S0.n)(db:∀b,au C.vT b→b<S0.n)(hX:Ry C S0 K b1 b3 k d X){e:ao}{out:List ao}{v:AV}{γ:Type}{r:aj γ}(hM:Mem H S)(hs:bn C S r)(F:qy C S0 S b1 b3)(L:aW kD (zB S0 b1 b3) S v (e::out))(hP:aT C (bA C) dW K S0 (r.bind λ_ j=>cK C.T k (.mk 10 pos 0 [] 0 (e::out) []) j d)) :
  EB (dy (s10 m)) K X (.ptr C.bp 0) (d:Int) (.ptr b3 0) (.ptr b1 0) (pos:Int) v H:=by
 unfold EB;refine fU L.one ?_;obtain⟨cl,h1,h2⟩:=L.done hM;have hnew:RE S (λb=>zB S0 b1 b3 b∧b<S.n) [.int 0 ((10:Nat):Int),.int 0 (pos:Int),.int 0 ((0:Nat):Int),ah [],.int 0 ((0:Nat):Int),v,.ab] (.mk 10 pos 0 [] 0 (e::out) []):=
  .mk 10 pos 0 [] 0 (e::out) [] v .ab cl (λ_=>[]) B8.nil h1 h2 (dH.nil _ _ _ _) (λi e h=>by simp at h)
 obtain⟨z,hz,nZ⟩:=F.o3;refine ky hM hz nZ hnew.len hnew.ones λH1 m1=>?_;have hn3:=F.n3;exact hX _ _ H1 _ r m1 (hs.setB (by omega) (λx hx=>by have:=db x hx;omega) _) (F.Pw hnew λb hb=>⟨hb.1.1,hb.2,hb.1.2⟩) hP
theorem _root_.Go.X.aW.bp{α:Type}{R:Rep α}{v:AV}{l:List α}{S':LS}(L:aW R (zB S0 b1 b3) S v l)(hM:Mem H S)(hbp:C.bp<S0.n)(g:aJ (bA C) S S'):aW R (zB S0 b1 b3) S' v l:=
 L.keep hM g.1 λb h1 h2=>g.2 b h2 λq=>by have q:b=C.bp:=q;have:=h1.1;omega
theorem ado{pos:Nat}(hbp:C.bp<S0.n)(db:∀b,au C.vT b→b<S0.n)(hX:Ry C S0 K b1 b3 k d X){e:ao}{out:List ao}{v:AV}{γ:Type}{r:aj γ}(hM:Mem H S)(hs:bn C S r)(F:qy C S0 S b1 b3)(L:aW kD (zB S0 b1 b3) S v (e::out))(hP:aT C (bA C) dW K S0 (r.bind λ_ i=>(aR C.T [41] i).bind λ_ j=>cK C.T k (.mk 10 pos 0 [] 0 (e::out) []) j d)) :
  wo (dy (s10 m)) K X (.ptr C.bp 0) (d:Int) (.ptr b3 0) (.ptr b1 0) (pos:Int) v H:=by
 have r5:(dy (s10 m)).2.2.2.2.1=f59:=rfl;show EC (dy (s10 m)) K (zC (dy (s10 m)) K X) (.ptr C.bp 0) (d:Int) (.ptr b3 0) (.ptr b1 0) (pos:Int) v H;unfold EC;rw[r5];refine kH (s:=[41]) (bj (by decide)) hM hs (aT.call (eD:=nY) hP.seq λ_ H1 S1 w m1 c1 d1 _ hP1=>?_);exact adn hbp db hX m1 d1 (F.keep hM hbp c1) (L.bp hM hbp c1) hP1
theorem adp{pos:Nat}(O:gq C m)(hd:d≤200)(hbp:C.bp<S0.n)(db:∀b,au C.vT b→b<S0.n)(hX:Ry C S0 K b1 b3 k d X){e:ao}{Y:AV→Int→AV→AV→Int→AV→AH→Prop}{k8:Nat}(hk:2*k8+4≤m)
  (hrec:∀k',k8=k'+1→∀(out:List ao) (v:AV) (H:AH) (S:LS){γ:Type}(r:aj γ),out.length≤16→Mem H S→bn C S r→qy C S0 S b1 b3→aW kD (zB S0 b1 b3) S v (e::out)→aT C (bA C) dW K S0 ((r.bind λ_ i=>xY C.T k' out i d).bind λl j=>cK C.T k (.mk 10 pos 0 [] 0 (e::l) []) j d)→Y (.ptr C.bp 0) (d:Int) (.ptr b3 0) (.ptr b1 0) (pos:Int) v H)
  (out:List ao) (v:AV) (H:AH) (S:LS){γ:Type}(r:aj γ) (ho:out.length≤16) (hM:Mem H S) (hs:bn C S r) (F:qy C S0 S b1 b3) (L:aW kD (zB S0 b1 b3) S v (e::out))
  (hP:aT C (bA C) dW K S0 ((r.bind λ_ i=>xY C.T k8 out i d).bind λl j=>cK C.T k (.mk 10 pos 0 [] 0 (e::l) []) j d)) :
  Ns (dy (s10 m)) K X Y (.ptr C.bp 0) (d:Int) (.ptr b3 0) (.ptr b1 0) (pos:Int) v H:=by
 have r2:(dy (s10 m)).2.1=f40:=rfl;have r3:(dy (s10 m)).2.2.1=(s10 m).2.1:=rfl;have r6:(dy (s10 m)).2.2.2.2.2=f76:=rfl;have e0:Int.ofNat 0=((0:Nat):Int):=rfl;have e16:Int.ofNat 16=((16:Nat):Int):=rfl;show EF (dy (s10 m)) K (wo (dy (s10 m)) K X) (EE (dy (s10 m)) K X Y) (.ptr C.bp 0) (d:Int) (.ptr b3 0) (.ptr b1 0) (pos:Int) v H;unfold EF;rw[r3,r6];refine ie hM hs ?_;rw[bD,e0];rcases zU hs with⟨ec,a,i,rfl⟩|⟨ec,c1,i,rfl⟩
 ·rw[ec,decide_eq_true rfl,aK];refine L.IK ?_;rw[aQ,BN,fe,e16];have el:(((e::out).length:Nat):Int)-((1:Nat):Int)=(out.length:Int):=by rw[List.length_cons];omega
  have sp:((aj.ok a i).bind λ_ i=>xY C.T k8 out i d).bind (λl j=>cK C.T k (.mk 10 pos 0 [] 0 (e::l) []) j d)=(((aj.ok a i).bind λ_ i=>dC (16≤out.length) i).bind λ_ i=>(bQ C.T k8 i d).bind λx j=>(dO C.T k8 false (out++[x]) j d).bind λl j=>cK C.T k (.mk 10 pos 0 [] 0 (e::l) []) j d):=by
   show(xY C.T k8 out i d).bind _=(dC (16≤out.length) i).bind _;unfold xY dC;by_cases g:out.length=16
   ·rw[if_pos g,if_pos (by omega)];rfl
   ·rw[if_neg g,if_neg (by omega),bJ];rfl
  rw[sp]at hP;refine w0 (by omega) (by omega) ?_;have el':(((e::out).length:Nat):Int)-1=(out.length:Int):=by rw[List.length_cons];omega
  rw[show(((e::out).length:Nat):Int)-1=(out.length:Int)from el'];refine IL hM hs (aT.call (eD:=nY) hP λ_ H1 S1 w m1 c1 d1 _ hP1=>?_);have F1:=F.keep hM hbp c1;have L1:=L.bp hM hbp c1;refine O.exp k8 hk hd m1 d1 (aT.call (eD:=dW) hP1.seq λx H2 S2 v2 m2 c2 d2 ⟨cb,hv,hR⟩ hP2=>?_);subst hv;have F2:=F1.keep m1 hbp c2;have L2:=L1.bp m1 hbp c2;have lt1:=F1.lt m1;have n1:=F1.x.1;rw[ib];refine fT hR.len ?_;rw[II hR.len rfl];refine L2.push (R:=kD) (bytes:=96) m2 hR (λb hb=>⟨⟨by have:=hb.1;omega,by have:=hb.1;omega,by have:=hb.1;omega⟩,hb.2,λq=>by have:=L1.lt m1 q;have:=hb.1;omega⟩) (λb hb=>⟨by have:=c2.1;omega,by have:=c2.1;omega,by have:=c2.1;omega⟩) (by rw[List.length_cons];omega) λH3 S3 v3 m3 L3 n3 k3 bk3 ho3=>?_;have hvn:∀b,au v b→zB S0 b1 b3 b:=λb hb=>L.Hk hb;have c3:aJ (λb=>au v b) S2 S3:=⟨n3,λb hb hx=>k3 b hb hx⟩
  have d3:=d2.keep m2 c3 (λq=>by have:=(hvn _ q).1;omega) (λb hb q=>by have:=(hvn _ q).1;have:=db b hb;omega);have F3:qy C S0 S3 b1 b3:=F2.Hn m2 c3 λb hb=>⟨(hvn b hb).2.1,(hvn b hb).2.2,.inr (hvn b hb).1⟩
  show EE (dy (s10 m)) K X Y (.ptr C.bp 0) (d:Int) (.ptr b3 0) (.ptr b1 0) (pos:Int) v3 H3;show ED (dy (s10 m)) K Y (wo (dy (s10 m)) K X) (.ptr C.bp 0) (d:Int) (.ptr b3 0) (.ptr b1 0) (pos:Int) v3 H3;unfold ED;rw[r2];refine dB (s:=[44]) (bj (by decide)) m3 d3 (λy j er hi H4 S4 m4 c4 d4=>?_) λhi H4 S4 m4 c4 d4=>?_
  ·simp only[ai,aM,Bool.not_true,aG];rw[er]at hP2;have hP2:aT C (bA C) dW K S0 ((dO C.T k8 false (out++[x]) j d).bind λl j=>cK C.T k (.mk 10 pos 0 [] 0 (e::l) []) j d):=hP2;cases k8 with
   |zero=>exact absurd (show(dO C.T 0 false (out++[x]) j d).bind _=.aO by simp only[dO];rfl) hP2.1
   |succ k8=>
    have ol:out.length<16:=by
     rcases Nat.lt_or_ge out.length 16 with g|g
     ·exact g
     ·exfalso;have e1:((aj.ok a i).bind λ_ i=>dC (16≤out.length) i)=.err 8 i:=by show dC _ i=_;unfold dC;rw[if_pos g]
      rw[e1]at er;cases er
    have sp:dO C.T (k8+1) false (out++[x]) j d=xY C.T k8 (out++[x]) (j+1) d:=by
     simp only[dO,Bool.false_eq_true,if_false,hi,if_true];rfl
    rw[sp]at hP2;exact hrec k8 rfl (out++[x]) v3 H4 S4 (.ok () (j+1):aj Unit) (by simp;omega) m4 d4 (F3.keep m3 hbp c4) (by have:=L3.bp m3 hbp c4;exact this) hP2
  ·simp only[ai,aM,Bool.not_false,aK];refine ado hbp db hX m4 d4 (F3.keep m3 hbp c4) (out:=out++[x]) (by have:=L3.bp m3 hbp c4;exact this) ?_;have sp:∀r':aj ao,pU C.T [44] r'=false→(r'.bind λ_ j=>(dO C.T k8 false (out++[x]) j d).bind λl j=>cK C.T k (.mk 10 pos 0 [] 0 (e::l) []) j d)≠.aO→(r'.bind λ_ j=>(dO C.T k8 false (out++[x]) j d).bind λl j=>cK C.T k (.mk 10 pos 0 [] 0 (e::l) []) j d)=r'.bind λ_ i=>(aR C.T [41] i).bind λ_ j=>cK C.T k (.mk 10 pos 0 [] 0 (e::(out++[x])) []) j d:=by
    intro r' hi2 hno;cases r' with
    |aO=>rfl
    |err c i=>rfl
    |ok y j=>
     have hi3:isA C.T [44] j=false:=hi2;cases k8 with
     |zero=>exact absurd (show(dO C.T 0 false (out++[x]) j d).bind _=.aO by simp only[dO];rfl) hno
     |succ k8=>
      have e1:dO C.T (k8+1) false (out++[x]) j d=(aR C.T [41] j).bind λ_ j=>.ok (out++[x]) j:=by
       simp only[dO,Bool.false_eq_true,if_false];rw[hi3];rfl
      show(dO C.T (k8+1) false (out++[x]) j d).bind _=(aR C.T [41] j).bind _;rw[e1,bJ];rfl
   rw[sp _ hi hP2.1]at hP2;exact hP2
 ·rw[decide_eq_false (by omega),aG];exact ado hbp db hX hM hs F L hP
theorem alr{pos:Nat}(O:gq C m)(hd:d≤200)(hbp:C.bp<S0.n)(db:∀b,au C.vT b→b<S0.n)(hX:Ry C S0 K b1 b3 k d X){e:ao} :
  ∀k8,2*k8+4≤m→∀(q:Nat) (out:List ao) (v:AV) (H:AH) (S:LS){γ:Type}(r:aj γ),k8<q→out.length≤16→Mem H S→bn C S r→qy C S0 S b1 b3→aW kD (zB S0 b1 b3) S v (e::out)→
  aT C (bA C) dW K S0 ((r.bind λ_ i=>xY C.T k8 out i d).bind λl j=>cK C.T k (.mk 10 pos 0 [] 0 (e::l) []) j d)→
  zD (dy (s10 m)) K X q (.ptr C.bp 0) (d:Int) (.ptr b3 0) (.ptr b1 0) (pos:Int) v H:=by
 intro k8
 induction k8 with
 |zero=>
  intro hk q out v H S γ r hq ho hM hs F L hP;obtain⟨q,rfl⟩:∃p,q=p+1:=⟨q-1,by omega⟩
  exact adp O hd hbp db hX hk (λk' h=>absurd h (by omega)) out v H S r ho hM hs F L hP
 |succ k8 ih=>
  intro hk q out v H S γ r hq ho hM hs F L hP;obtain⟨q,rfl⟩:∃p,q=p+1:=⟨q-1,by omega⟩
  exact adp O hd hbp db hX hk (λk' h out v H S γ r ho hM hs F L hP=>by
   obtain rfl:k8=k':=by omega
   exact ih (by omega) q out v H S r (by omega) ho hM hs F L hP) out v H S r ho hM hs F L hP
theorem adq(hm:m≤1000000)(O:gq C m)(hd:d≤200)(hbp:C.bp<S0.n)(db:∀b,au C.vT b→b<S0.n)(hk:2*k+4≤m+1)
  (hrec:∀k',k=k'+1→Ry C S0 K b1 b3 k' d X) (e:ao) (c:List AV) (H:AH) (S:LS){γ:Type}(r:aj γ) (hM:Mem H S) (hs:bn C S r) (F:lR C S0 S b1 b3 c e) (hP:aT C (bA C) dW K S0 (r.bind λ_ i=>cK C.T k e i d)) :
  Nv (dy (s10 m)) K X (.ptr C.bp 0) (d:Int) (.ptr b3 0) (.ptr b1 0) H:=by
 have r1:(dy (s10 m)).1=f39:=rfl;have r2:(dy (s10 m)).2.1=f40:=rfl;have r3:(dy (s10 m)).2.2.1=(s10 m).2.1:=rfl;have r4:(dy (s10 m)).2.2.2.1=f57:=rfl;have r5:(dy (s10 m)).2.2.2.2.1=f59:=rfl;have e0:Int.ofNat 0=((0:Nat):Int):=rfl;have nb:∀b,S0.n≤b→b≠C.bp:=λb hb=>by omega
 have nvT:∀b,S0.n≤b→∀x,au C.vT x→x≠b:=λb hb x hx=>by have:=db x hx;omega
 show EH (dy (s10 m)) K (Nq (dy (s10 m)) K X) (Nr (dy (s10 m)) K X) (Nt (dy (s10 m)) K X) (Nu (dy (s10 m)) K) (.ptr C.bp 0) (d:Int) (.ptr b3 0) (.ptr b1 0) H;unfold EH;rw[r1,r2,r3];refine ie hM hs ?_;rw[bD,e0];rcases zU hs with⟨ec,a,i,rfl⟩|⟨ec,c1,i,rfl⟩
 ·rw[ec,decide_eq_true rfl,aK];cases k with
  |zero=>exact absurd (show cK C.T 0 e i d=.aO by simp only[cK]) hP.1
  |succ k=>
  have hX:=hrec k rfl;have hP:aT C (bA C) dW K S0 (cK C.T (k+1) e i d):=hP;simp only[cK]at hP;refine ll hM hs ?_;rw[ai,aQ];have sC:(aj.ok a i).ix=i:=rfl;rw[sC];refine dB (s:=[46]) (bj (by decide)) hM hs (λy j er hi H1 S1 m1 c1 d1=>?_) λh1 H1 S1 m1 c1 d1=>?_
  ·cases er;rw[if_pos hi]at hP;simp only[ai,aM,aK];have F1:=F.keep hM hbp c1;refine ll m1 d1 ?_;rw[ai,aQ];have amo:(aj.ok () (i+1)).ix=i+1:=rfl;rw[amo];simp only[kE];refine eZ (eC m1 fB λH2 m2=>?_);refine ky m2 (c:=[.int 0 ((5:Nat):Int),.int 0 (aq C.T (i+1):Int),.int 0 ((0:Nat):Int),ah [],.int 0 ((0:Nat):Int),.ab,.ab]) (LS.ax _ _) rfl rfl (λa h=>?_) λH3 m3=>?_
   ·simp only[List.mem_cons,List.not_mem_nil,or_false]at h;rcases h with rfl|rfl|rfl|rfl|rfl|rfl|rfl<;>rfl
   have c3:aJ bP S1 ((S1.push (.ce z7 0)).set S1.n (.ce [.int 0 ((5:Nat):Int),.int 0 (aq C.T (i+1):Int),.int 0 ((0:Nat):Int),ah [],.int 0 ((0:Nat):Int),.ab,.ab] 0)):=((aJ.refl _ _).push _).set (.inr (Nat.le_refl _)) _;have d3:=d1.ic m1 c3;have F3:=F1.keep m1 hbp c3.no;have o3:LS.ob _ S1.n=_:=LS.aC (S1.push (.ce z7 0)) S1.n (.ce [.int 0 ((5:Nat):Int),.int 0 (aq C.T (i+1):Int),.int 0 ((0:Nat):Int),ah [],.int 0 ((0:Nat):Int),.ab,.ab] 0);have n3:S0.n≤S1.n:=F1.x.1;have lt1:b1<S1.n∧b3<S1.n:=F1.w.lt m1;show Ez (dy (s10 m)) K X (.ptr C.bp 0) (d:Int) (.ptr b3 0) (.ptr b1 0) (aq C.T i:Int) (.ptr S1.n 0) H3;unfold Ez;rw[r4];refine s4 m3 d3 (aT.call (eD:=Ps) hP λs H4 S4 v m4 c4 d4 ⟨hv,h8⟩ hP2=>?_);subst hv;have F4:=F3.keep m3 hbp c4;have o4:=c4.ob m3 o3 λq=>by have q:S1.n=C.bp:=q;omega
   rw[aU,Nat.zero_add];refine cZ m4 o4 (by omega) (by show 3<7;omega) (lf s) λH5 m5=>?_;have m5:Mem H5 (S4.set S1.n (.ce [.int 0 ((5:Nat):Int),.int 0 (aq C.T (i+1):Int),.int 0 ((0:Nat):Int),ah s,.int 0 ((0:Nat):Int),.ab,.ab] 0)):=m5;have F5:lR C S0 (S4.set S1.n (.ce [.int 0 ((5:Nat):Int),.int 0 (aq C.T (i+1):Int),.int 0 ((0:Nat):Int),ah s,.int 0 ((0:Nat):Int),.ab,.ab] 0)) b1 b3 c e:=by
    obtain⟨z,hz,nZ⟩:=F4.o1;obtain⟨Q,g1,g2⟩:=F1.re;exact⟨F4.x.set (.inr n3) _,⟨z,(LS.av _ _ (by omega)).trans hz,nZ⟩,(LS.av _ _ (by omega)).trans F4.o3,F4.n1,F4.n3,F4.ne,Q,g1.go (λb hb=>by
     have h2:=g2 b hb;rw[LS.av _ _ (by omega),c4.2 b (Nat.lt_of_lt_of_le h2.2.1 c3.1) (λq=>by have q:b=C.bp:=q;omega)];exact c3.2 b h2.2.1 λq=>q) (λ_ h=>h),λb hb=>⟨(g2 b hb).1,Nat.lt_of_lt_of_le (g2 b hb).2.1 (Nat.le_trans c3.1 c4.1),(g2 b hb).2.2⟩⟩
   have d5:=d4.setB (nb _ n3) (nvT _ n3) (.ce [.int 0 ((5:Nat):Int),.int 0 (aq C.T (i+1):Int),.int 0 ((0:Nat):Int),ah s,.int 0 ((0:Nat):Int),.ab,.ab] 0);have hR:RE (S4.set S1.n (.ce [.int 0 ((5:Nat):Int),.int 0 (aq C.T (i+1):Int),.int 0 ((0:Nat):Int),ah s,.int 0 ((0:Nat):Int),.ab,.ab] 0)) (λb=>S0.n≤b∧b<S4.n∧b≠b1∧b≠b3) [.int 0 ((5:Nat):Int),.int 0 (aq C.T (i+1):Int),.int 0 ((0:Nat):Int),ah s,.int 0 ((0:Nat):Int),.ab,.ab] (.mk 5 (aq C.T (i+1)) 0 s 0 [] []):=RE.simple h8;refine gy m5 F5.o3 F5.len ?_;refine gy m5 (LS.aC _ _ _) rfl ?_;simp only[ib];refine fT F5.len (fT rfl ?_);rw[AS F5.len rfl rfl];have PA:∀a∈c,a.one=true:=by obtain⟨Q,h1,_⟩:=F5.re;exact h1.ones
   refine eI m5 (by rw[List.length_append,F5.len];rfl) (λa h=>?_) λH6 m6=>fU rfl ?_
   ·rcases List.mem_append.1 h with g|g
    ·exact PA a g
    ·exact hR.ones a g
   have hnew:=Kw (at_:=aq C.T i) (kind:=9) (op:=0) F5 m5 hbp hR;have c6:=(aJ.refl bP (S4.set S1.n (.ce [.int 0 ((5:Nat):Int),.int 0 (aq C.T (i+1):Int),.int 0 ((0:Nat):Int),ah s,.int 0 ((0:Nat):Int),.ab,.ab] 0))).push (.ce (c++[.int 0 ((5:Nat):Int),.int 0 (aq C.T (i+1):Int),.int 0 ((0:Nat):Int),ah s,.int 0 ((0:Nat):Int),.ab,.ab]) 0);have F6:=F5.keep m5 hbp c6.no;refine ky m6 F6.o3 F6.len hnew.len hnew.ones λH7 m7=>?_;exact hX _ _ H7 _ _ m7 ((d5.ic m5 c6).setB (nb _ F.n3) (nvT _ F.n3) _) (F6.Pw hnew λb hb=>hb) hP2
  have h1:isA C.T [46] i=false:=h1;rw[if_neg (by rw[h1];simp)]at hP;simp only[ai,aM,aG];have F1:=F.keep hM hbp c1;refine dB (s:=[91]) (bj (by decide)) m1 d1 (λy j er hi H2 S2 m2 c2 d2=>?_) λh2 H2 S2 m2 c2 d2=>?_
  ·cases er;rw[if_pos hi]at hP;simp only[ai,aM,aK];have F2:=F1.keep m1 hbp c2;have lt2:b1<S2.n∧b3<S2.n:=F2.w.lt m2;have n2:=F2.x.1;refine O.exp k (by omega) hd m2 d2 (aT.call (eD:=dW) hP λx H3 S3 v m3 c3 d3 ⟨cb,hv,hR⟩ hP2=>?_);subst hv;have F3:=F2.keep m2 hbp c3;simp only[kE];refine eZ (eC m3 fB λH4 m4=>?_);refine ky m4 (LS.ax _ _) rfl hR.len hR.ones λH5 m5=>?_;have c5:aJ bP S3 ((S3.push (.ce z7 0)).set S3.n (.ce cb 0)):=((aJ.refl _ _).push _).set (.inr (Nat.le_refl _)) _;have F5:=F3.keep m3 hbp c5.no;have d5:=d3.ic m3 c5;have o5:LS.ob _ S3.n=_:=LS.aC (S3.push (.ce z7 0)) S3.n (.ce cb 0);have n3:S2.n≤S3.n:=c3.1;show EA (dy (s10 m)) K X (.ptr C.bp 0) (d:Int) (.ptr b3 0) (.ptr b1 0) (aq C.T i:Int) (.ptr S3.n 0) H5;unfold EA;rw[r5];refine kH (s:=[93]) (bj (by decide)) m5 d5 (aT.call (eD:=nY) hP2.seq λ_ H6 S6 w m6 c6 d6 _ hP3=>?_);have F6:=F5.keep m5 hbp c6;have o6:=c6.ob m5 o5 λq=>by have q:S3.n=C.bp:=q;omega
   have R6:RE S6 (λb=>S0.n≤b∧b<S6.n∧b≠b1∧b≠b3) cb x:=hR.go (λb hb=>by
    rw[c6.2 b (Nat.lt_of_lt_of_le hb.2 c5.1) (λq=>by have q:b=C.bp:=q;have:=hb.1;omega)];exact c5.2 b hb.2 λq=>q) λb hb=>⟨by have:=hb.1;omega,Nat.lt_of_lt_of_le hb.2 (Nat.le_trans c5.1 c6.1),by have:=hb.1;omega,by have:=hb.1;omega⟩
   refine gy m6 F6.o3 F6.len ?_;refine gy m6 o6 hR.len ?_;simp only[ib];refine fT F6.len (fT hR.len ?_);rw[AS F6.len hR.len rfl];have PA:∀a∈c,a.one=true:=by obtain⟨Q,h1,_⟩:=F6.re;exact h1.ones
   refine eI m6 (by rw[List.length_append,F6.len,hR.len]) (λa h=>?_) λH7 m7=>fU rfl ?_
   ·rcases List.mem_append.1 h with g|g
    ·exact PA a g
    ·exact hR.ones a g
   have hnew:=Kw (at_:=aq C.T i) (kind:=9) (op:=0) F6 m6 hbp R6;have c7:=(aJ.refl bP S6).push (.ce (c++cb) 0);have F7:=F6.keep m6 hbp c7.no;refine ky m7 F7.o3 F7.len hnew.len hnew.ones λH8 m8=>?_;exact hX _ _ H8 _ _ m8 ((d6.ic m6 c7).setB (nb _ F.n3) (nvT _ F.n3) _) (F7.Pw hnew λb hb=>hb) hP3
  have h2:isA C.T [91] i=false:=h2;rw[if_neg (by rw[h2];simp)]at hP;simp only[ai,aM,aG];have F2:=F1.keep m1 hbp c2;refine dB (s:=[40]) (bj (by decide)) m2 d2 (λy j er hi H3 S3 m3 c3 d3=>?_) λh3 H3 S3 m3 c3 d3=>?_
  ·cases er;rw[if_pos hi]at hP;simp only[ai,aM,aK];have F3:=F2.keep m2 hbp c3;refine gy m3 F3.o3 F3.len ?_;rw[ib];refine fT F3.len ?_;rw[II F3.len rfl];obtain⟨Q,g1,g2⟩:=F3.re;have n3:=F3.x.1;have lt3:=F3.w.lt m3;refine eI m3 (by rw[F3.len]) g1.ones λH4 m4=>?_;have c4:aJ bP S3 (S3.push (.ce c 0)):=(aJ.refl _ _).push _;have d4:=d3.ic m3 c4;have F4:=F3.keep m3 hbp c4.no;have L4:aW kD (zB S0 b1 b3) (S3.push (.ce c 0)) (.slice S3.n 0 1 1 7 true) [e]:=
    aW.single (R:=kD) (Q:=Q) (LS.ax _ _) ⟨by omega,by omega,by omega⟩ (g1.go (λb hb=>LS.bC _ _ (g2 b hb).2.1) λ_ h=>h) λb hb=>⟨⟨(g2 b hb).1,(g2 b hb).2.2⟩,Nat.lt_succ_of_lt (g2 b hb).2.1,by have:=(g2 b hb).2.1;omega⟩
   show EG (dy (s10 m)) K (zD (dy (s10 m)) K X G.NL) (zC (dy (s10 m)) K X) (.ptr C.bp 0) (d:Int) (.ptr b3 0) (.ptr b1 0) (aq C.T i:Int) (.slice S3.n 0 1 1 7 true) H4;unfold EG;rw[r2];have fV:G.NL=1000000:=rfl;generalize G.NL=fb at fV ⊢;refine dB (s:=[41]) (bj (by decide)) m4 d4 (λy j er hi H5 S5 m5 c5 d5=>?_) λh4 H5 S5 m5 c5 d5=>?_
   ·cases er;simp only[ai,aM,Bool.not_true,aG];cases k with
    |zero=>exact absurd (show(dO C.T 0 true [] (i+1) d).bind _=.aO by simp only[dO];rfl) hP.1
    |succ k=>
    have sp:dO C.T (k+1) true [] (i+1) d=.ok [] (i+1+1):=by
     simp only[dO,if_true];rw[hi];simp only[Bool.not_true,Bool.false_eq_true,if_false,aR];rw[hi];rfl
    rw[sp]at hP;exact adn hbp db hX (r:=(.ok () (i+1+1):aj Unit)) m5 d5 (F4.w.keep m4 hbp c5) (by have:=L4.bp m4 hbp c5;exact this) hP
   ·simp only[ai,aM,Bool.not_false,aK];have h4:isA C.T [41] (i+1)=false:=h4;cases k with
    |zero=>exact absurd (show(dO C.T 0 true [] (i+1) d).bind _=.aO by simp only[dO];rfl) hP.1
    |succ k=>
    have sp:dO C.T (k+1) true [] (i+1) d=(aj.ok () (i+1)).bind λ_ i=>xY C.T k [] i d:=by
     show _=xY C.T k [] (i+1) d;simp only[dO,if_true];rw[h4];rfl
    rw[sp]at hP;exact alr O hd hbp db hX k (by omega) fb [] _ H5 S5 _ (by omega) (by simp) m5 d5 (F4.w.keep m4 hbp c5) (by have:=L4.bp m4 hbp c5;exact this) hP
  have h3:isA C.T [40] i=false:=h3;rw[if_neg (by rw[h3];simp)]at hP;simp only[ai,aM,aG];exact(F2.keep m2 hbp c3).alq m3 hbp db (Kx d3) hP T9
 ·rw[decide_eq_false (by omega),aG];exact F.alq hM hbp db (sg hs rfl) hP wY
theorem als(hm:m≤1000000)(O:gq C m)(hd:d≤200)(hbp:C.bp<S0.n)(db:∀b,au C.vT b→b<S0.n):∀k,2*k+4≤m+1→∀q,k<q→Ry C S0 K b1 b3 k d (EI (dy (s10 m)) K q):=by
 intro k
 induction k with
 |zero=>
  intro hk q hq e c H S γ r hM hs F hP;obtain⟨q,rfl⟩:∃p,q=p+1:=⟨q-1,by omega⟩
  exact adq hm O hd hbp db hk (λk' h=>absurd h (by omega)) e c H S r hM hs F hP
 |succ k ih=>
  intro hk q hq e c H S γ r hM hs F hP;obtain⟨q,rfl⟩:∃p,q=p+1:=⟨q-1,by omega⟩
  exact adq hm O hd hbp db hk (λk' h=>by
   obtain rfl:k=k':=by omega
   exact ih (by omega) q (by omega)) e c H S r hM hs F hP
end
theorem x107{m:Nat}(hm:m≤1000000)(O:gq C m):∀k,2*k+4≤m+1→∀{K:KF}{H:AH}{S S0:LS}{d:Nat}{c:List AV}{e:ao}{γ:Type}{r:aj γ},d≤200→Mem H S→aJ (bA C) S0 S→C.bp<S0.n→(∀b,au C.vT b→b<S0.n)→bn C S r→RE S (iy S0.n S.n) c e→aT C (bA C) dW K S0 (r.bind λ_ i=>cK C.T k e i d)→(s10 (m+1)).2.2.2.2.2.1 (.ptr C.bp 0) (.agg c) (d:Int) H K:=by
 intro k hk K H S S0 d c e γ r hd hM hx hbp db hs hR hP;have e7:(s10 (m+1)).2.2.2.2.2.1=EJ (dy (s10 m)):=by rw[A0]
 rw[e7];unfold EJ XA Nw;have fV:G.NL=1000000:=rfl;generalize G.NL=fb at fV ⊢;refine Lz hM hR.ones λH1 m1=>?_;rw[kE];refine eZ (eC m1 fB λH2 m2=>?_);have c2:aJ bP S ((S.push (.ce c 0)).push (.ce z7 0)):=((aJ.refl _ _).push _).push _;have n0:=hx.1;refine als hm O hd hbp db k (by omega) fb (by omega) e c H2 _ r m2 (hs.ic hM c2) ⟨hx.trans c2.no,⟨z7,LS.ax _ _,rfl⟩,?_,by show S0.n≤S.n+1;omega,n0,by show S.n+1≠S.n;omega,iy S0.n S.n,hR.go (λb hb=>c2.2 b hb.2 λq=>q) (λ_ h=>h),λb hb=>⟨hb.1,Nat.lt_of_lt_of_le hb.2 c2.1,by have:=hb.2;show b≠S.n+1;omega,by have:=hb.2;omega⟩⟩ hP;rw[LS.bC _ _ (by show S.n<S.n+1;omega)];exact LS.ax _ _
end
section
variable {H:AH}{S:LS}{K:KF}{C:Ctx}{i d:Nat}
theorem aic{T:List Tok}{s:List Nat}{i:Nat}(h:isA T s i=true):cz T i=1∨cz T i=5:=by
 unfold isA at h;simp only[Bool.and_eq_true,Bool.or_eq_true,decide_eq_true_eq]at h;exact h.1
theorem Rz(T:List Tok)(k a i d:Nat):iN T (k+1) a i d=(pFn T k i d).bind λf j=>.ok (.mk 7 a 0 [] 0 [] [f]) j:=by
 unfold pFn;simp only[iN,bJ];rfl
theorem RE.fn{Q:Nat→Prop}{at_ b m:Nat}{ex:Bool}{f:dq}{c:List AV}(hQ:Q b)(hb:S.ob b=.ce c m)(h1:RF S Q c f):RE S Q [.int 0 ((7:Nat):Int),.int 0 (at_:Int),.int 0 ((0:Nat):Int),ah [],.int 0 ((0:Nat):Int),.ab,.slice b 0 1 1 2 ex] (.mk 7 at_ 0 [] 0 [] [f]):=by
 refine .mk 7 at_ 0 [] 0 [] [f] .ab _ (λ_=>[]) (λ_=>c) B8.nil (dH.nil _ _ _ _) (λi e h=>by simp at h) (dH.single hQ hb h1.len) (λi e h=>?_);cases i with
 |zero=>
  have e1:f=e:=by simpa using h
  subst e1;exact h1
 |succ i=>simp at h
theorem Ua{k:AH→Prop}{γ:Type}{a:γ}(hM:Mem H S)(hs:bn C S (aj.ok a i))(hlt:i+1<C.T.length)(hk:∀H' S',Mem H' S'→aJ (bA C) S S'→bn C S' (.ok () (i+1):aj Unit)→k H') :
  aI (.ptr C.bp 0) (ag 1 (.ptr C.bp 0) λv9=>af v9 H λv10=>cI 0 v10 λz11=>aN 0 (Int.add z11 (.ofNat 1)) λz12=>aI (.ptr C.bp 0) (ag 1 (.ptr C.bp 0) λv13=>ak 1 v13 (.int 0 z12) H k)):=by
 have hfew:=C.few;simp only[dL,aU,Nat.zero_add];refine aF hM hs.ob (v:=.int 0 (i:Int)) rfl ?_;simp only[aQ,dp,fe];refine w0 (by omega) (by omega) ?_;refine cZ hM hs.ob (by omega) (by show 1<4;omega) rfl λH2 m2=>?_;exact hk H2 _ m2 (aJ.IJ (aJ.refl _ _) _) (hs.ok () hlt)
theorem x167{m:Nat}(hm:m≤1000000)(O:gq C m):∀k,2*k+4≤m+1→mM C (λd H K=>(s10 (m+1)).2.2.2.2.2.2.2.2.1 (.ptr C.bp 0) (d:Int) H K) (ja C.T k):=by
 intro k hk K H S i d γ x hd hM hs hP;cases k with
 |zero=>exact absurd (show ja C.T 0 i d=.aO by simp only[ja]) hP.1
 |succ k=>
 have r1:(fP (s10 m)).1=f18:=rfl;have r2:(fP (s10 m)).2.1=f39:=rfl;have r3:(fP (s10 m)).2.2.1=f40:=rfl;have r4:(fP (s10 m)).2.2.2.1=(s10 m).2.1:=rfl;have r5:(fP (s10 m)).2.2.2.2.1=(s10 m).2.2.2.2.1:=rfl;have r6:(fP (s10 m)).2.2.2.2.2.1=f59:=rfl;have r7:(fP (s10 m)).2.2.2.2.2.2.1=(s10 m).2.2.2.2.2.1:=rfl;have r8:(fP (s10 m)).2.2.2.2.2.2.2=(s10 m).2.2.2.2.2.2.2.2.2:=rfl;have e0:Int.ofNat 0=((0:Nat):Int):=rfl;have e2:Int.ofNat 2=((2:Nat):Int):=rfl;have e3:Int.ofNat 3=((3:Nat):Int):=rfl;have e4:Int.ofNat 4=((4:Nat):Int):=rfl;show EW (fP (s10 m)) K (NP (fP (s10 m)) K) (.ptr C.bp 0) (d:Int) H;unfold EW;rw[r2,kE];simp only[ja]at hP;have hbp:=hs.nW hM;have db:∀b,au C.vT b→b<S.n:=λb hb=>hs.tk.lt hM hb;have eU:∀b,S.n≤b→¬bA C b:=λb hb q=>by have q:b=C.bp:=q;omega
 refine eZ (eC hM fB λH1 m1=>?_);have c1:aJ bP S (S.push (.ce z7 0)):=(aJ.refl _ _).push _;have d1:=hs.ic hM c1;have o1:(S.push (.ce z7 0)).ob S.n=.ce z7 0:=LS.ax _ _;refine ll m1 d1 ?_;rw[ai,aQ];have sC:(aj.ok x i).ix=i:=rfl;rw[sC];simp only[dL,aU,Nat.zero_add];refine aF m1 d1.ob (v:=C.vT) rfl ?_;refine aF m1 d1.ob (v:=.int 0 (i:Int)) rfl ?_;simp only[aQ];refine d1.tk.load m1 d1.lt ?_;rw[B6 (show i<C.T.length from hs.lt)];refine m1.dx (eZ (eC m1 (λa ha=>?_) λH2 m2=>cV (sr (by rw[m2.n,m1.n];rfl)) ?_))
 ·simp only[List.mem_cons,List.not_mem_nil,or_false]at ha;rcases ha with rfl|rfl|rfl|rfl<;>rfl
 refine pP m2 (LS.ax _ _) (by omega) rfl (by show 0+4≤4;omega) ae8 λH3 m3=>?_;have m3:Mem H3 (((S.push (.ce z7 0)).push (.ce [.int 0 (.ofNat 0),.str 0 0,.int 0 (.ofNat 0),.int 0 (.ofNat 0)] 0)).set (S.n+1) (.ce (nX C.T i) 0)):=m3;have c3:aJ bP S (((S.push (.ce z7 0)).push (.ce [.int 0 (.ofNat 0),.str 0 0,.int 0 (.ofNat 0),.int 0 (.ofNat 0)] 0)).set (S.n+1) (.ce (nX C.T i) 0)):=(c1.push _).set (.inr (Nat.le_succ _)) _;have d3:=hs.ic hM c3;have o3:(((S.push (.ce z7 0)).push (.ce [.int 0 (.ofNat 0),.str 0 0,.int 0 (.ofNat 0),.int 0 (.ofNat 0)] 0)).set (S.n+1) (.ce (nX C.T i) 0)).ob S.n=.ce z7 0:=by
  rw[LS.av _ _ (by omega),LS.bC _ _ (by show S.n<S.n+1;omega)];exact o1
 have t3:(((S.push (.ce z7 0)).push (.ce [.int 0 (.ofNat 0),.str 0 0,.int 0 (.ofNat 0),.int 0 (.ofNat 0)] 0)).set (S.n+1) (.ce (nX C.T i) 0)).ob (S.n+1)=.ce (nX C.T i) 0:=LS.aC _ _ _;revert m3 c3 d3 o3 t3;generalize ((S.push (.ce z7 0)).push (.ce [.int 0 (.ofNat 0),.str 0 0,.int 0 (.ofNat 0),.int 0 (.ofNat 0)] 0)).set (S.n+1) (.ce (nX C.T i) 0)=S3;intro m3 c3 d3 o3 t3;show EV (fP (s10 m)) K (NI (fP (s10 m)) K) (NJ (fP (s10 m)) K) (NK (fP (s10 m)) K) (NM (fP (s10 m)) K) (NN (fP (s10 m)) K) (.ptr C.bp 0) (d:Int) (.ptr S.n 0) (aq C.T i:Int) (.ptr (S.n+1) 0) H3;unfold EV;rw[r3,r4,r5,r8];have n3:S.n+1<S3.n:=m3.lt (by rw[t3];simp);refine ie m3 d3 ?_;have rcd:(aj.ok x i).cd=0:=rfl;rw[rcd,bD,e0,decide_eq_true rfl];simp only[Bool.not_true,aG];have lone:∀{H4:AH}{S4:LS}{kd nn:Nat}{tx:List Nat},B8 tx→aT C (bA C) dW K S (.ok (.mk kd (aq C.T i) nn tx 0 [] []) (i+1))→Mem H4 S4→aJ (bA C) S S4→bn C S4 (.ok () (i+1):aj Unit)→S4.ob S.n=.ce z7 0→
   ak 7 (.ptr S.n 0) (.agg [.int 0 (kd:Int),.int 0 (aq C.T i:Int),.int 0 (nn:Int),ah tx,.int 0 ((0:Nat):Int),.ab,.ab]) H4 λH5=>aZ 7 (.ptr S.n 0) H5 λv48=>K (.ret v48) H5:=by
  intro H4 S4 kd nn tx h8 hP m4 c4 d4 o4;exact A5 (z:=z7) (Q:=λ_=>False) hM hs hP m4 c4 (Kx d4) o4 rfl ⟨_,rfl,RE.simple h8⟩ (λb hb=>hb.elim) T9
 have j6:∀{H4:AH}{S4:LS}{j:Int}{P Q:Prop},Mem H4 S4→S4.ob (S.n+1)=.ce (nX C.T i) 0→bI (decide ((cz C.T i:Int)=j)) P Q→ag 0 (.ptr (S.n+1) 0) λv6=>af v6 H4 λv7=>cI 0 v7 λz8=>bI (cA z8 j) P Q:=by
  intro H4 S4 j P Q m4 t4 h;rw[aU];refine aF m4 t4 (v:=.int 0 (cz C.T i:Int)) rfl ?_;rw[aQ,bD];exact h
 refine j6 m3 t3 ?_;rw[e2];by_cases g2:cz C.T i=2
 ·rw[decide_eq_true (by omega),aK];rw[if_pos (.inl g2)]at hP;cases k with
  |zero=>exact absurd (show(ep C.T 0 i d).bind _=.aO by simp only[ep];rfl) hP.1
  |succ k=>
  have sp:ep C.T (k+1) i d=.ok (.mk 6 (aq C.T i) 0 (fQ C.T i) 0 [] []) (i+1):=by
   simp only[ep];rw[if_neg (by omega),if_neg (by omega),if_pos g2]
  rw[sp]at hP;refine Ua m3 d3 (lj C.ok (by omega)) λH4 S4 m4 c4 d4=>?_;have t4:=c4.ob m3 t3 (eU _ (by omega));have o4:=c4.ob m3 o3 (eU _ (Nat.le_refl _));have Ho:=c3.no.trans c4;show EN (fP (s10 m)) K (.ptr C.bp 0) (d:Int) (.ptr S.n 0) (aq C.T i:Int) (.ptr (S.n+1) 0) H4;unfold EN;rw[r7,aU];refine aF m4 t4 (v:=ah (fQ C.T i)) rfl ?_;refine fU (lf _) ?_;have hR:RE S4 (iy S4.n S4.n) [.int 0 ((6:Nat):Int),.int 0 (aq C.T i:Int),.int 0 ((0:Nat):Int),ah (fQ C.T i),.int 0 ((0:Nat):Int),.ab,.ab] (.mk 6 (aq C.T i) 0 (fQ C.T i) 0 [] []):=RE.simple (wV C i);have n4:=Ho.1;have n34:=c4.1;refine O.behind (k+1) (by omega) hd m4 (S0:=S4) (aJ.refl _ _) (by omega) (λb hb=>by have:=db b hb;omega) d4 hR (aT.tail (eD:=dW) (show aT C (bA C) dW K S ((aj.ok () (i+1)).bind λ_ i=>_)from hP) λe H5 S5 v m5 c5 d5 hv hfin=>?_);obtain⟨c,hv,hR⟩:=hv;subst hv;refine ky m5 (c5.ob m4 o4 (eU _ (Nat.le_refl _))) rfl hR.len hR.ones λH6 m6=>?_;refine gy m6 (LS.aC _ _ _) hR.len ?_;exact hfin H6 _ _ m6 ((Ho.trans c5).set (.inr (Nat.le_refl _)) _) (d5.qT hs hM (Nat.le_refl _) _) ⟨c,rfl,hR.go (λb hb=>LS.av _ _ (by have:=hb.1;omega)) λb hb=>⟨by have:=hb.1;omega,hb.2⟩⟩
 rw[decide_eq_false (by omega),aG];refine dB (s:=[40]) (bj (by decide)) m3 d3 (λy j er hi H4 S4 m4 c4 d4=>?_) λh1 H4 S4 m4 c4 d4=>?_
 ·cases er;simp only[ai,aM,aK];rw[if_pos (.inr hi)]at hP;have k15:=aic hi;cases k with
  |zero=>exact absurd (show(ep C.T 0 i d).bind _=.aO by simp only[ep];rfl) hP.1
  |succ k=>
  have nl:np C.T i=0∧isA C.T [102,117,110,99,116,105,111,110] i=false∧isA C.T [123] i=false:=by
   have ht:fQ C.T i=[40]:=by
    unfold isA at hi;simp only[Bool.and_eq_true,decide_eq_true_eq]at hi;exact hi.2
   have ne:∀s:List Nat,s≠[40]→isA C.T s i=false:=λs hs=>by
    unfold isA;rw[ht,decide_eq_false (p:=[40]=s) λq=>hs q.symm,Bool.and_false]
   refine⟨?_,ne _ (by decide),ne _ (by decide)⟩;unfold np;rw[ne _ (by decide),ne _ (by decide),ne _ (by decide)];rfl
  have sp:ep C.T (k+1) i d=(bQ C.T k (i+1) d).bind λe j=>(aR C.T [41] j).bind λ_ j=>.ok e j:=by
   simp only[ep];rw[if_neg (by omega),if_neg (by omega),if_neg g2,if_neg (by omega),if_neg (by rw[nl.2.1];simp),if_neg (by rw[nl.2.2];simp),if_pos hi]
  rw[sp,bJ]at hP;have Ho:=c3.no.trans c4;have o4:=c4.ob m3 o3 (eU _ (Nat.le_refl _));have n4:=c4.1;refine O.exp k (by omega) hd m4 d4 (aT.call (eD:=dW) hP λe H5 S5 v m5 c5 d5 ⟨c,hv,hR⟩ hP2=>?_);subst hv;have o5:=c5.ob m4 o4 (eU _ (Nat.le_refl _));have n5:=c5.1;refine eZ ?_;rw[kE];refine eC m5 fB λH6 m6=>?_;refine ky m6 (LS.ax _ _) rfl hR.len hR.ones λH7 m7=>?_;have c7:aJ bP S5 ((S5.push (.ce z7 0)).set S5.n (.ce c 0)):=((aJ.refl _ _).push _).set (.inr (Nat.le_refl _)) _;have d7:=d5.ic m5 c7;have o7:=c7.ob m5 o5 λq=>q;have b7:LS.ob _ S5.n=_:=LS.aC (S5.push (.ce z7 0)) S5.n (.ce c 0);show EP (fP (s10 m)) K (.ptr C.bp 0) (d:Int) (.ptr S.n 0) (.ptr S5.n 0) H7;unfold EP;rw[r6,r7];have hP3:aT C (bA C) dW K S ((aj.bind (aj.bind (aj.ok () (i+1)) λ_ i=>bQ C.T k i d) λ_ j=>aR C.T [41] j).bind λ_ j=>cK C.T (k+1) e j d):=by
   have e1:(aj.bind (aj.bind (aj.ok () (i+1)) λ_ i=>bQ C.T k i d) λ_ j=>((aR C.T [41] j).bind λ_ j=>.ok e j).bind λe j=>cK C.T (k+1) e j d)=((aj.bind (aj.bind (aj.ok () (i+1)) λ_ i=>bQ C.T k i d) λ_ j=>aR C.T [41] j).bind λ_ j=>cK C.T (k+1) e j d):=by
    rw[bJ (aj.bind (aj.ok () (i+1)) λ_ i=>bQ C.T k i d) (λ_ j=>aR C.T [41] j)];congr 1;funext _ j;rw[bJ];rfl
   rw[←e1];exact hP2
  refine kH (s:=[41]) (bj (by decide)) m7 d7 (aT.call (eD:=nY) hP3 λ_ H8 S8 w m8 c8 d8 _ wZ=>?_);have b8:=c8.ob m7 b7 (eU _ (by omega));have o8:=c8.ob m7 o7 (eU _ (Nat.le_refl _));refine gy m8 b8 hR.len ?_;have R8:RE S8 (iy S4.n S8.n) c e:=hR.go (λb hb=>by
   rw[c8.2 b (Nat.lt_of_lt_of_le hb.2 c7.1) (eU _ (by have:=hb.1;omega))];exact c7.2 b hb.2 λq=>q) λb hb=>⟨hb.1,Nat.lt_of_lt_of_le hb.2 (Nat.le_trans c7.1 c8.1)⟩
  have x48:aJ (bA C) S4 S8:=(c5.trans c7.no).trans c8;refine O.behind (k+1) (by omega) hd m8 (S0:=S4) x48 (by omega) (λb hb=>by have:=db b hb;omega) d8 R8 (aT.tail (eD:=dW) wZ λe' H9 S9 v m9 c9 d9 hv hfin=>?_);obtain⟨c',hv,hR'⟩:=hv;subst hv;refine ky m9 (c9.ob m4 o4 (eU _ (Nat.le_refl _))) rfl hR'.len hR'.ones λHa ma=>?_;refine gy ma (LS.aC _ _ _) hR'.len ?_;exact hfin Ha _ _ ma ((Ho.trans c9).set (.inr (Nat.le_refl _)) _) (d9.qT hs hM (Nat.le_refl _) _) ⟨c',rfl,hR'.go (λb hb=>LS.av _ _ (by have:=hb.1;omega)) λb hb=>⟨by have:=hb.1;omega,hb.2⟩⟩
 have h1:isA C.T [40] i=false:=h1;simp only[ai,aM,aG];rw[if_neg (by rintro(q|q);exact g2 q;rw[h1]at q;cases q)]at hP;have t4:=c4.ob m3 t3 (eU _ (by omega));have o4:=c4.ob m3 o3 (eU _ (Nat.le_refl _));have Ho:=c3.no.trans c4;cases k with
 |zero=>exact absurd (show ep C.T 0 i d=.aO by simp only[ep]) hP.1
 |succ k=>
 simp only[ep]at hP;refine j6 m4 t4 ?_;rw[e3];by_cases g3:cz C.T i=3
 ·rw[decide_eq_true (by omega),aK];rw[if_pos g3]at hP;refine Ua m4 d4 (lj C.ok (by omega)) λH5 S5 m5 c5 d5=>?_;show ES (fP (s10 m)) K (.ptr S.n 0) (aq C.T i:Int) (.ptr (S.n+1) 0) H5;unfold ES;rw[aU];refine aF m5 (c5.ob m4 t4 (eU _ (by omega))) (v:=.int 0 (Pp C.T i:Int)) rfl ?_;rw[aQ];exact lone (kd:=4) B8.nil hP m5 (Ho.trans c5) d5 (c5.ob m4 o4 (eU _ (Nat.le_refl _)))
 rw[decide_eq_false (by omega),aG];rw[if_neg g3]at hP;refine j6 m4 t4 ?_;rw[e4];by_cases g4:cz C.T i=4
 ·rw[decide_eq_true (by omega),aK];rw[if_pos g4]at hP;refine Ua m4 d4 (lj C.ok (by omega)) λH5 S5 m5 c5 d5=>?_;show ET (fP (s10 m)) K (.ptr S.n 0) (aq C.T i:Int) (.ptr (S.n+1) 0) H5;unfold ET;rw[aU];refine aF m5 (c5.ob m4 t4 (eU _ (by omega))) (v:=ah (fQ C.T i)) rfl ?_;refine fU (lf _) ?_;exact lone (kd:=5) (nn:=0) (wV C i) hP m5 (Ho.trans c5) d5 (c5.ob m4 o4 (eU _ (Nat.le_refl _)))
 rw[decide_eq_false (by omega),aG];rw[if_neg g4,if_neg g2]at hP;refine dB (s:=[110,105,108]) (bj (by decide)) m4 d4 (λy j er hi H5 S5 m5 c5 d5=>?_) λh2 H5 S5 m5 c5 d5=>?_
 ·cases er;simp only[ai,aM,aK];have el:np C.T i=1:=by unfold np;rw[hi];rfl
  rw[el,if_pos (by omega)]at hP;exact lone (kd:=1) (nn:=0) (tx:=[]) B8.nil hP m5 (Ho.trans c5) d5 (c5.ob m4 o4 (eU _ (Nat.le_refl _)))
 have h2:isA C.T [110,105,108] i=false:=h2;simp only[ai,aM,aG];have o5:=c5.ob m4 o4 (eU _ (Nat.le_refl _));have c05:=Ho.trans c5;refine dB (s:=[116,114,117,101]) (bj (by decide)) m5 d5 (λy j er hi H6 S6 m6 c6 d6=>?_) λh3 H6 S6 m6 c6 d6=>?_
 ·cases er;simp only[ai,aM,aK];have el:np C.T i=2:=by unfold np;rw[h2,hi];rfl
  rw[el,if_pos (by omega)]at hP;exact lone (kd:=2) (nn:=0) (tx:=[]) B8.nil hP m6 (c05.trans c6) d6 (c6.ob m5 o5 (eU _ (Nat.le_refl _)))
 have h3:isA C.T [116,114,117,101] i=false:=h3;simp only[ai,aM,aG];have o6:=c6.ob m5 o5 (eU _ (Nat.le_refl _));have c06:=c05.trans c6;refine dB (s:=[102,97,108,115,101]) (bj (by decide)) m6 d6 (λy j er hi H7 S7 m7 c7 d7=>?_) λh4 H7 S7 m7 c7 d7=>?_
 ·cases er;simp only[ai,aM,aK];have el:np C.T i=3:=by unfold np;rw[h2,h3,hi];rfl
  rw[el,if_pos (by omega)]at hP;exact lone (kd:=3) (nn:=0) (tx:=[]) B8.nil hP m7 (c06.trans c7) d7 (c7.ob m6 o6 (eU _ (Nat.le_refl _)))
 have h4:isA C.T [102,97,108,115,101] i=false:=h4;simp only[ai,aM,aG];have o7:=c7.ob m6 o6 (eU _ (Nat.le_refl _));have c07:=c06.trans c7;have el:np C.T i=0:=by unfold np;rw[h2,h3,h4];rfl
 rw[el,if_neg (by omega)]at hP;refine dB (s:=[102,117,110,99,116,105,111,110]) (bj (by decide)) m7 d7 (λy j er hi H8 S8 m8 c8 d8=>?_) λh5 H8 S8 m8 c8 d8=>?_
 ·cases er;simp only[ai,aM,aK];rw[if_pos hi]at hP;have o8:=c8.ob m7 o7 (eU _ (Nat.le_refl _));have c08:=c07.trans c8;cases k with
  |zero=>exact absurd (show iN C.T 0 (aq C.T i) (i+1) d=.aO by simp only[iN]) hP.1
  |succ k=>
  rw[Rz]at hP;have n8:S.n<S8.n:=m8.lt (by rw[o8];simp);refine O.body k (by omega) hd m8 d8 (aT.call (eD:=sB) (show aT C (bA C) dW K S ((aj.bind (aj.ok () (i+1)) λ_ i=>pFn C.T k i d).bind λf j=>.ok (.mk 7 (aq C.T i) 0 [] 0 [] [f]) j)from hP) λf H9 S9 v m9 c9 d9 ⟨c,hv,hR⟩ hP2=>?_);subst hv;rw[ib];refine fT hR.len ?_;rw[T8 hR.len rfl];refine eI m9 (by rw[hR.len]) hR.ones λHa ma=>fU rfl ?_;have ca:aJ bP S9 (S9.push (.ce c 0)):=(aJ.refl _ _).push _;have n9:=c9.1;exact A5 (z:=z7) (Q:=λb=>S.n<b∧b<(S9.push (.ce c 0)).n) hM hs hP2 ma ((c08.trans c9).trans ca.no) ((d9.ic m9 ca).ret _) (ca.ob m9 (c9.ob m8 o8 (eU _ (Nat.le_refl _))) λq=>q) rfl ⟨_,rfl,RE.fn (b:=S9.n) (m:=0) ⟨by omega,Nat.lt_succ_self _⟩ (LS.ax _ _) (hR.go (λb hb=>LS.bC _ _ hb.2) λb hb=>⟨by have:=hb.1;omega,Nat.lt_succ_of_lt hb.2⟩)⟩ (λb hb=>hb) qq
 have h5:isA C.T [102,117,110,99,116,105,111,110] i=false:=h5;simp only[ai,aM,aG];rw[if_neg (by rw[h5];simp)]at hP;have o8:=c8.ob m7 o7 (eU _ (Nat.le_refl _));have c08:=c07.trans c8;refine dB (s:=[123]) (bj (by decide)) m8 d8 (λy j er hi H9 S9 m9 c9 d9=>?_) λh6 H9 S9 m9 c9 d9=>?_
 ·cases er;simp only[ai,aM,aK];rw[if_pos hi]at hP;have o9:=c9.ob m8 o8 (eU _ (Nat.le_refl _));have c09:=c08.trans c9;have n9:S.n<S9.n:=m9.lt (by rw[o9];simp);refine O.table k (by omega) hd m9 d9 (aT.tail (eD:=dW) hP λe Ha Sa v ma ca da hv hfin=>?_);obtain⟨c,hv,hR⟩:=hv;subst hv;refine ky ma (ca.ob m9 o9 (eU _ (Nat.le_refl _))) rfl hR.len hR.ones λHb mb=>?_;refine gy mb (LS.aC _ _ _) hR.len ?_;exact hfin Hb _ _ mb ((c09.trans ca).set (.inr (Nat.le_refl _)) _) (da.qT hs hM (Nat.le_refl _) _) ⟨c,rfl,hR.go (λb hb=>LS.av _ _ (by have:=hb.1;omega)) λb hb=>⟨by have:=hb.1;omega,hb.2⟩⟩
 have h6:isA C.T [123] i=false:=h6;simp only[ai,aM,aG];rw[if_neg (by rw[h6];simp),if_neg (by rw[h1];simp)]at hP;have o9:=c9.ob m8 o8 (eU _ (Nat.le_refl _));have c09:=c08.trans c9;show EU (fP (s10 m)) K (.ptr C.bp 0) (.ptr S.n 0) H9;unfold EU;rw[r1];refine qU (c:=14) (by omega) (by omega) m9 d9 λHa Sa ma ca da=>?_;rw[ai];exact A5 (z:=z7) (e:=.mk 0 0 0 [] 0 [] []) (Q:=λ_=>False) hM hs hP ma (c09.trans ca) (sg da rfl) (ca.ob m9 o9 (eU _ (Nat.le_refl _))) rfl ⟨z7,rfl,RE.zero⟩ (λb hb=>hb.elim) wY
end
end Go.Proofs.YtcedghechlgecaaDoor
namespace Go.X
section
variable {H:AH}{S S':LS}
theorem aW.amp{α:Type}{R:Rep α}{Z:Nat→Prop}{v v':AV}{l l2:List α}{sG:List (List AV)}(h:aW R Z S v l)(h2l:sG.length=l2.length)(hr:∀(i:Nat) (c:List AV) (a:α),sG[i]? = some c→l2[i]? = some a→∃Q,R.rel S Q c a∧∀b,Q b→Z b∧b<S.n∧¬au v b)(hnew:∀b,S.n≤b→Z b)
  (hs:∀cl,dT S R.sz v l.length cl→qN S v (l.length+l2.length) R.sz (cl++sG.flatten) S' v'):aW R Z S' v' (l++l2):=by
 obtain⟨cl,h1,h2,h3,h4⟩:=h;obtain⟨a1,a2,a3,a4⟩:=hs _ h1;refine⟨cl++sG,?_,by simp[h2,h2l],λb hb'=>?_,λi c' a' hc ha=>?_⟩
 ·rw[List.flatten_append,List.length_append];exact a3
 ·rcases a4 b hb' with g|g
  ·exact h3 b g
  ·exact hnew b g
 ·have fin:∀{Q:Nat→Prop}{c:List AV}{a:α},R.rel S Q c a→(∀b,Q b→Z b∧b<S.n∧¬au v b)→∃Q,R.rel S' Q c a∧∀b,Q b→Z b∧b<S'.n∧¬au v' b:=λ{Q c a} g1 g2=>
   ⟨Q,R.go (λb hb=>a2 b (g2 b hb).2.1 (g2 b hb).2.2) (λ_ h=>h) g1,λb hb=>⟨(g2 b hb).1,Nat.lt_of_lt_of_le (g2 b hb).2.1 a1,λhb'=>by
    rcases a4 b hb' with q|q
    ·exact(g2 b hb).2.2 q
    ·have:=(g2 b hb).2.1;omega⟩⟩
  by_cases hi:i<cl.length
  ·rw[List.getElem?_append_left hi]at hc;rw[List.getElem?_append_left (by omega)]at ha;obtain⟨Q,g1,g2⟩:=h4 i c' a' hc ha;exact fin g1 g2
  ·rw[List.getElem?_append_right (by omega)]at hc ha;rw[h2]at hc;obtain⟨Q,g1,g2⟩:=hr _ c' a' hc ha;exact fin g1 g2
theorem aW.Ub{α:Type}{R:Rep α}{Z:Nat→Prop}{bytes:Nat}{v x:AV}{l l2:List α}{sG:Nat→List AV}{Q:Nat→Prop}{k:AV→AH→Prop}(h:aW R Z S v l)(hM:Mem H S)(h2:l2.length=2)(hx:dH S Q R.sz x l2.length sG)(hr:∀i e,l2[i]? = some e→∃Q,R.rel S Q (sG i) e∧∀b,Q b→Z b∧b<S.n∧¬au v b)(hnew:∀b,S.n≤b→Z b)(hl:(l.length+2)*bytes≤1099511627776)
  (hk:∀H' S' v',Mem H' S'→aW R Z S' v' (l++l2)→S.n≤S'.n→(∀b,b<S.n→¬au v b→S'.ob b=S.ob b)→(∀b,au v' b→au v b∨S.n≤b)→k v' H'):dw R.sz bytes v x H k:=by
 obtain⟨cl,h1,hh⟩:=id h;have gt:∀i,i<l2.length→(sG i).length=R.sz∧∀a∈sG i,a.one=true:=λi hi=>by
  obtain⟨Q',g,_⟩:=hr i _ (List.getElem?_eq_getElem hi);exact⟨R.len g,R.ones g⟩
 refine alg (n':=l2.length) hM h1 (.inl (by omega)) R.pos hx (λi hi=>(gt i hi).2) (by rw[h2];exact hl) λH' S' v' l' m' hl' hcl he=>?_;have el:l'=([sG 0,sG 1]:List (List AV)).flatten:=by
  have e0:=hcl 0 (by omega);have e1:=hcl 1 (by omega);rw[Nat.zero_mul,List.drop_zero]at e0;rw[Nat.one_mul,List.take_of_length_le (by rw[List.length_drop];rw[h2]at hl';omega)]at e1;rw[←e0,←e1];simp
 refine hk H' S' v' m' (h.amp (sG:=[sG 0,sG 1]) (by rw[h2];rfl) (λi c a hc ha=>?_) hnew λcl' h'=>?_) he.1 he.2.1 he.2.2.2
 ·have hi:i<l2.length:=(List.getElem?_eq_some_iff.1 ha).1;have ec:c=sG i:=by
   have hi2:i=0∨i=1:=by omega
   rcases hi2 with rfl|rfl<;>(simp at hc;exact hc.symm)
  subst ec;exact hr i a ha
 ·rw[h1.uniq h',←el];exact he
end
end Go.X
namespace Go.Proofs.YtcedghechlgecaaDoor
open Go Go.X Go.Proofs.YtcedghechlgecaaDoor.G
section
variable {H:AH}{S:LS}{K:KF}{C:Ctx}{i d:Nat}
structure u4(C:Ctx)(S0:LS)(Z:Nat→Prop)(S:LS)(b1 b3 a:Nat)(v:AV)(out:List ao):Prop where
 w:qy C S0 S b1 b3
 o3:S.ob b3=.ce (ue a v) 0
 L:aW kD Z S v out
 hZ:∀b,Z b→zB S0 b1 b3 b
theorem u4.keep{S0 S':LS}{Z:Nat→Prop}{b1 b3 a:Nat}{v:AV}{out:List ao}(h:u4 C S0 Z S b1 b3 a v out)(hM:Mem H S)(hbp:C.bp<S0.n)(g:aJ (bA C) S S'):u4 C S0 Z S' b1 b3 a v out:=
 ⟨h.w.keep hM hbp g,g.ob hM h.o3 λq=>by have q:b3=C.bp:=q;have:=h.w.n3;omega,h.L.keep hM g.1 λb h1 h2=>g.2 b h2 λq=>by have q:b=C.bp:=q;have:=(h.hZ b h1).1;omega,h.hZ⟩
def zK(S0:LS)(b1 b3 bk:Nat):Nat→Prop:=λb=>zB S0 b1 b3 b∧b≠bk
structure w9(S0 S:LS)(b1 b3 bk:Nat)(v:AV)(ck:List AV)(kk:ao):Prop where
 o:S.ob bk=.ce ck 0
 z:zB S0 b1 b3 bk
 nv:¬au v bk
 re:∃Q,RE S Q ck kk∧∀b,Q b→zB S0 b1 b3 b∧b<S.n∧¬au v b
theorem w9.keep{S0 S':LS}{b1 b3 bk:Nat}{v:AV}{ck:List AV}{kk:ao}(h:w9 S0 S b1 b3 bk v ck kk)(hM:Mem H S)(hbp:C.bp<S0.n)(g:aJ (bA C) S S'):w9 S0 S' b1 b3 bk v ck kk:=by
 have nb:∀b,S0.n≤b→¬bA C b:=λb hb q=>by have q:b=C.bp:=q;omega
 obtain⟨Q,h1,h2⟩:=h.re;exact⟨g.ob hM h.o (nb _ h.z.1),h.z,h.nv,Q,h1.go (λb hb=>g.2 b (h2 b hb).2.1 (nb _ (h2 b hb).1.1)) (λ_ h=>h),λb hb=>⟨(h2 b hb).1,Nat.lt_of_lt_of_le (h2 b hb).2.1 g.1,(h2 b hb).2.2⟩⟩
theorem w9.len{S0:LS}{b1 b3 bk:Nat}{v:AV}{ck:List AV}{kk:ao}(h:w9 S0 S b1 b3 bk v ck kk):ck.length=7:=by obtain⟨Q,h1,_⟩:=h.re;exact h1.len
theorem w9.ones{S0:LS}{b1 b3 bk:Nat}{v:AV}{ck:List AV}{kk:ao}(h:w9 S0 S b1 b3 bk v ck kk):∀a∈ck,a.one=true:=by obtain⟨Q,h1,_⟩:=h.re;exact h1.ones
theorem w9.set{S0:LS}{b1 b3 bk kind at_ n op:Nat}{v:AV}{ck:List AV}{kk:ao}{s:List Nat}(h:w9 S0 S b1 b3 bk v ck kk)(h8:B8 s) :
  w9 S0 (S.set bk (.ce [.int 0 (kind:Int),.int 0 (at_:Int),.int 0 (n:Int),ah s,.int 0 (op:Int),.ab,.ab] 0)) b1 b3 bk v [.int 0 (kind:Int),.int 0 (at_:Int),.int 0 (n:Int),ah s,.int 0 (op:Int),.ab,.ab] (.mk kind at_ n s op [] []):=
 ⟨LS.aC _ _ _,h.z,h.nv,λ_=>False,RE.simple h8,λb hb=>hb.elim⟩
theorem u4.cP{S0:LS}{b1 b3 bk a:Nat}{v:AV}{out:List ao}(h:u4 C S0 (zK S0 b1 b3 bk) S b1 b3 a v out)(hM:Mem H S)(hz:zB S0 b1 b3 bk)(o:gh):u4 C S0 (zK S0 b1 b3 bk) (S.set bk o) b1 b3 a v out:=by
 obtain⟨z,hz1,nZ⟩:=h.w.o1;obtain⟨y,hy1,hy7⟩:=h.w.o3;exact⟨⟨h.w.x.set (.inr hz.1) _,⟨z,(LS.av _ _ (Ne.symm hz.2.1)).trans hz1,nZ⟩,⟨y,(LS.av _ _ (Ne.symm hz.2.2)).trans hy1,hy7⟩,h.w.n1,h.w.n3,h.w.ne⟩,(LS.av _ _ (Ne.symm hz.2.2)).trans h.o3,h.L.keep hM (Nat.le_refl _) λb hb _=>LS.av _ _ hb.2,h.hZ⟩
theorem aid{S0:LS}{b1 b3 a:Nat}{v:AV}{out:List ao}{Z:Nat→Prop}(h:u4 C S0 Z S b1 b3 a v out)(hM:Mem H S):RE S (λb=>zB S0 b1 b3 b∧b<S.n) (ue a v) (.mk 8 a 0 [] 0 out []):=by
 obtain⟨cl,h1,h2⟩:=h.L.done hM;exact .mk 8 a 0 [] 0 out [] v .ab cl (λ_=>[]) B8.nil (h1.go (λ_ _=>rfl) λb hb=>⟨h.hZ b hb.1,hb.2⟩) (λi e he=>RE.go (λ_ _=>rfl) (λb hb=>⟨h.hZ b hb.1,hb.2⟩) (h2 i e he)) (dH.nil _ _ _ _) (λi e h=>by simp at h)
section
variable {m k:Nat}{X:AV→Int→AV→AV→Int→AH→Prop}{S0:LS}{b1 b3 a:Nat}
theorem PB(hbp:C.bp<S0.n)(db:∀b,au C.vT b→b<S0.n){v:AV}{out:List ao}{γ:Type}{r:aj γ}(hM:Mem H S)(hs:bn C S r)(t:u4 C S0 (zB S0 b1 b3) S b1 b3 a v out)(hP:aT C (bA C) dW K S0 (r.bind λ_ i=>(aR C.T [125] i).bind λ_ j=>.ok (.mk 8 a 0 [] 0 out []) j)) :
  wu (cM (s10 m)) K (.ptr C.bp 0) (.ptr b1 0) (.ptr b3 0) H:=by
 have r6:(cM (s10 m)).2.2.2.2.2.1=f59:=rfl;show EY (cM (s10 m)) K (.ptr C.bp 0) (.ptr b1 0) (.ptr b3 0) H;unfold EY;rw[r6];refine kH (s:=[125]) (bj (by decide)) hM hs (aT.call (eD:=nY) hP.seq λ_ H1 S1 w m1 c1 d1 _ hP1=>?_);have t1:=t.keep hM hbp c1;have hR:=aid t1 m1;obtain⟨z,hz,nZ⟩:=t1.w.o1;have hn1:=t1.w.n1;refine gy m1 t1.o3 rfl ?_;refine ky m1 hz nZ rfl hR.ones λH2 m2=>?_;refine gy m2 (LS.aC _ _ _) rfl ?_;exact hP1.2 H2 _ _ _ m2 (t1.w.x.set (.inr hn1) _) ((d1.ret _).setB (by omega) (λx hx=>by have:=db x hx;omega) _) ⟨_,rfl,hR.go (λb hb=>LS.av _ _ hb.1.2.1) λb hb=>⟨hb.1.1,hb.2⟩⟩ qq
def qs(T:List Tok)(k a:Nat)(out:List ao)(c j d:Nat):aj ao:=if isA T [44] j=true∨isA T [59] j=true then fp T k out c a (j+1) d else (aR T [125] j).bind λ_ k=>.ok (.mk 8 a 0 [] 0 out []) k
def RA(C:Ctx)(S0:LS)(K:KF)(b1 b3 a k d:Nat)(X:AV→Int→AV→AV→Int→AH→Prop):Prop:=∀(c:Nat) (v:AV) (out:List ao) (H:AH) (S:LS){γ:Type}(r:aj γ),c≤out.length→out.length≤128→out.length%2=0→Mem H S→bn C S r→u4 C S0 (zB S0 b1 b3) S b1 b3 a v out→aT C (bA C) dW K S0 (r.bind λ_ i=>fp C.T k out c a i d)→X (.ptr C.bp 0) (d:Int) (.ptr b1 0) (.ptr b3 0) (c:Int) H
theorem alu(hbp:C.bp<S0.n)(db:∀b,au C.vT b→b<S0.n)(hX:RA C S0 K b1 b3 a k d X){c:Nat}{v:AV}{out:List ao}{γ:Type}{r:aj γ}(hc:c≤out.length)(ho:∀x i,r=.ok x i→out.length≤128)(ho2:out.length%2=0)(hM:Mem H S)(hs:bn C S r)(t:u4 C S0 (zB S0 b1 b3) S b1 b3 a v out)(hP:aT C (bA C) dW K S0 (r.bind λ_ j=>qs C.T k a out c j d)) :
  E8 (cM (s10 m)) K X (.ptr C.bp 0) (d:Int) (.ptr b1 0) (.ptr b3 0) (c:Int) H:=by
 have r2:(cM (s10 m)).2.1=f40:=rfl;show EZ (cM (s10 m)) K X (wu (cM (s10 m)) K) (.ptr C.bp 0) (d:Int) (.ptr b1 0) (.ptr b3 0) (c:Int) H;unfold EZ;rw[r2];refine dB (s:=[44]) (bj (by decide)) hM hs (λy j er hi H1 S1 m1 c1 d1=>?_) λh1 H1 S1 m1 c1 d1=>?_
 ·cases er;simp only[ai,aM,Bool.not_true,aG];have hP:aT C (bA C) dW K S0 (qs C.T k a out c j d):=hP;unfold qs at hP;rw[if_pos (.inl hi)]at hP;exact hX c v out H1 S1 (.ok () (j+1):aj Unit) hc (ho y j rfl) ho2 m1 d1 (t.keep hM hbp c1) hP
 simp only[ai,aM,Bool.not_false,aK];have t1:=t.keep hM hbp c1;refine dB (s:=[59]) (bj (by decide)) m1 d1 (λy j er hi H2 S2 m2 c2 d2=>?_) λh2 H2 S2 m2 c2 d2=>?_
 ·cases er;simp only[ai,aM,Bool.not_true,aG];have hP:aT C (bA C) dW K S0 (qs C.T k a out c j d):=hP;unfold qs at hP;rw[if_pos (.inr hi)]at hP;exact hX c v out H2 S2 (.ok () (j+1):aj Unit) hc (ho y j rfl) ho2 m2 d2 (t1.keep m1 hbp c2) hP
 simp only[ai,aM,Bool.not_false,aK];have sp:(r.bind λ_ j=>qs C.T k a out c j d)=r.bind λ_ i=>(aR C.T [125] i).bind λ_ j=>.ok (.mk 8 a 0 [] 0 out []) j:=by
  cases r with
  |ok y j=>
   have h1:isA C.T [44] j=false:=h1;have h2:isA C.T [59] j=false:=h2;show qs C.T k a out c j d=_;unfold qs;rw[if_neg (by rw[h1,h2];simp)];rfl
  |err c i=>rfl
  |aO=>rfl
 rw[sp]at hP;exact PB hbp db m2 d2 (t1.keep m1 hbp c2) hP
theorem Hp(O:gq C m)(hd:d≤200)(hbp:C.bp<S0.n)(db:∀b,au C.vT b→b<S0.n)(hX:RA C S0 K b1 b3 a k d X){c bk kf:Nat}(hkf:2*kf+4≤m){v:AV}{ck:List AV}{kk:ao}{out:List ao}{γ:Type}{r:aj γ}(hc:c≤out.length+1)(ho:∀x i,r=.ok x i→out.length<128)(hol:out.length≤128)(ho2:out.length%2=0)(hM:Mem H S)(hs:bn C S r)(t:u4 C S0 (zK S0 b1 b3 bk) S b1 b3 a v out)(hk:w9 S0 S b1 b3 bk v ck kk)
  (hP:aT C (bA C) dW K S0 (r.bind λ_ j=>(bQ C.T kf j d).bind λx j=>qs C.T k a (out++[kk,x]) c j d)) :
  oV (cM (s10 m)) K X (.ptr C.bp 0) (d:Int) (.ptr b1 0) (.ptr b3 0) (c:Int) (.ptr bk 0) H:=by
 have r4:(cM (s10 m)).2.2.2.1=(s10 m).2.1:=rfl;show E9 (cM (s10 m)) K (E8 (cM (s10 m)) K X) (.ptr C.bp 0) (d:Int) (.ptr b1 0) (.ptr b3 0) (c:Int) (.ptr bk 0) H;unfold E9;rw[r4];refine O.exp kf hkf hd hM hs (aT.call (eD:=dW) hP.seq λx H1 S1 w m1 c1 d1 ⟨cv,hv,hR⟩ hP1=>?_);subst hv;have t1:=t.keep hM hbp c1;have k1:=hk.keep hM hbp c1;have n0:=t.w.x.1;have RB:∀b,au v b→b<S.n:=λb hb=>t.L.lt hM hb;have lt:=t.w.lt hM;refine eZ ?_;rw[kE];refine eC m1 fB λH2 m2=>?_;refine ky m2 (LS.ax _ _) rfl hR.len hR.ones λH3 m3=>?_;have c3:aJ bP S1 ((S1.push (.ce z7 0)).set S1.n (.ce cv 0)):=((aJ.refl _ _).push _).set (.inr (Nat.le_refl _)) _;have d3:=d1.ic m1 c3;have t3:=t1.keep m1 hbp c3.no;have k3:=k1.keep m1 hbp c3.no;have b3':LS.ob _ S1.n=_:=LS.aC (S1.push (.ce z7 0)) S1.n (.ce cv 0);have R3:RE ((S1.push (.ce z7 0)).set S1.n (.ce cv 0)) (iy S.n S1.n) cv x:=hR.go (λb hb=>c3.2 b hb.2 λq=>q) λ_ h=>h;have n3:((S1.push (.ce z7 0)).set S1.n (.ce cv 0)).n=S1.n+1:=rfl;revert m3 c3 d3 t3 k3 b3' R3 n3;generalize (S1.push (.ce z7 0)).set S1.n (.ce cv 0)=S3;intro m3 c3 d3 t3 k3 b3' R3 n3;have n1:=c1.1;rw[aU];refine aF m3 t3.o3 (v:=v) rfl ?_;refine gy m3 k3.o k3.len ?_;refine gy m3 b3' hR.len ?_;simp only[ib];refine fT k3.len (fT hR.len ?_);rw[AS k3.len hR.len rfl];refine eI m3 (by rw[List.length_append,k3.len,hR.len]) (λy h=>?_) λH4 m4=>?_
 ·rcases List.mem_append.1 h with g|g
  ·exact k3.ones y g
  ·exact hR.ones y g
 have c4:aJ bP S3 (S3.push (.ce (ck++cv) 0)):=(aJ.refl _ _).push _;have t4:=t3.keep m3 hbp c4.no;have k4:=k3.keep m3 hbp c4.no;have d4:=d3.ic m3 c4;have R4:RE (S3.push (.ce (ck++cv) 0)) (iy S.n S1.n) cv x:=R3.go (λb hb=>c4.2 b (by have:=hb.2;omega) λq=>q) λ_ h=>h;have L4:aW kD (zB S0 b1 b3) (S3.push (.ce (ck++cv) 0)) v out:=t4.L.imp m4 λb hb _=>hb.1;refine L4.Ub (R:=kD) (bytes:=96) (l2:=[kk,x]) m4 rfl (dH.two (Q:=λb=>b=S3.n) rfl (LS.ax _ _) k3.len hR.len) (λix y h=>?_) (λb hb=>?_) (by omega) λH5 S5 v5 m5 L5 n5 q5 bk5=>?_
 ·match ix,h with
  |0,h=>
   have e1:kk=y:=by simpa using h
   subst e1;exact k4.re
  |1,h=>
   have e1:x=y:=by simpa using h
   subst e1;exact⟨_,R4,λb hb=>⟨⟨by have:=hb.1;omega,by have:=hb.1;omega,by have:=hb.1;omega⟩,by show b<S3.n+1;have:=hb.2;omega,λq=>by have:=RB b q;have:=hb.1;omega⟩⟩
  |ix+2,h=>simp at h
 ·have hb:S3.n+1≤b:=hb;exact⟨by omega,by omega,by omega⟩
 have RC:∀b,au v b→zB S0 b1 b3 b:=λb hb=>(t.L.Hk hb).1;have c5:aJ (λb=>au v b) (S3.push (.ce (ck++cv) 0)) S5:=⟨n5,λb hb hx=>q5 b hb hx⟩
 have d5:=d4.keep m4 c5 (λq=>by have:=(RC _ q).1;omega) (λb hb q=>by have:=(RC _ q).1;have:=db b hb;omega);have w5:=t4.w.Hn m4 c5 λb hb=>⟨(RC b hb).2.1,(RC b hb).2.2,.inr (RC b hb).1⟩
 have o5:S5.ob b3=.ce (ue a v) 0:=c5.ob m4 t4.o3 λq=>(RC _ q).2.2 rfl;rw[aU];refine cZ m5 o5 (by omega) (by show 5<7;omega) L5.one λH6 m6=>?_;have m6:Mem H6 (S5.set b3 (.ce (ue a v5) 0)):=m6;have hn3:=w5.n3;obtain⟨z,hz,nZ⟩:=w5.o1;have t6:u4 C S0 (zB S0 b1 b3) (S5.set b3 (.ce (ue a v5) 0)) b1 b3 a v5 (out++[kk,x]):=
  ⟨⟨w5.x.set (.inr hn3) _,⟨z,(LS.av _ _ w5.ne).trans hz,nZ⟩,⟨_,LS.aC _ _ _,rfl⟩,w5.n1,hn3,w5.ne⟩,LS.aC _ _ _,L5.keep m5 (Nat.le_refl _) λb hb _=>LS.av _ _ hb.2.2,λ_ h=>h⟩
 refine alu hbp db hX (out:=out++[kk,x]) (by simp;omega) (λy j er=>?_) (by simp;omega) m6 (d5.setB (by omega) (λx hx=>by have:=db x hx;omega) _) t6 hP1;have:out.length<128:=by
  cases r with
  |ok y' j'=>exact ho y' j' rfl
  |err c i=>cases er
  |aO=>cases er
 simp;omega
end
end
section
variable {H:AH}{S:LS}{K:KF}{C:Ctx}{i d:Nat}
theorem adr{j:Nat}{v:AV}{k:AV→Prop}{γ:Type}{y:γ}(hM:Mem H S)(hd:bn C S (aj.ok y i))(hlt:i+1<C.T.length)(hj:j<4)(hv:(nX C.T (i+1))[j]? = some v)(hk:k v) :
  aI (.ptr C.bp 0) (ag 0 (.ptr C.bp 0) λv1=>af v1 H λv2=>aI (.ptr C.bp 0) (ag 1 (.ptr C.bp 0) λv3=>af v3 H λv4=>cI 0 v4 λz5=>aN 0 (Int.add z5 (.ofNat 1)) λz6=>cn 4 v2 (.int 0 z6) λv6=>ag j v6 λv7=>af v7 H k)):=by
 have hfew:=C.few;simp only[dL,aU,Nat.zero_add];refine aF hM hd.ob (v:=C.vT) rfl ?_;refine aF hM hd.ob (v:=.int 0 (i:Int)) rfl ?_;simp only[aQ,dp,fe];refine w0 (by omega) (by omega) ?_;exact Py hM hd.tk hlt hj hv hk
section
variable {m k:Nat}{X:AV→Int→AV→AV→Int→AH→Prop}{S0:LS}{b1 b3 a:Nat}
theorem alv(hm:m≤1000000)(O:gq C m)(hd:d≤200)(hbp:C.bp<S0.n)(db:∀b,au C.vT b→b<S0.n)(hX:RA C S0 K b1 b3 a k d X)(hk:2*k+4≤m){c:Nat}{v:AV}{out:List ao}{γ:Type}{r:aj γ}(hc:c≤out.length)(ho:∀x i,r=.ok x i→out.length<128)(hol:out.length≤128)(ho2:out.length%2=0)(hM:Mem H S)(hs:bn C S r)(t:u4 C S0 (zB S0 b1 b3) S b1 b3 a v out)
  (hP:aT C (bA C) dW K S0 (r.bind λ_ i=>(iw C.T k c i d).bind λp j=>qs C.T k a (out++p.1) p.2 j d)) :
  Fh (cM (s10 m)) K X (.ptr C.bp 0) (d:Int) (.ptr b1 0) (.ptr b3 0) (c:Int) H:=by
 have r1:(cM (s10 m)).1=f39:=rfl;have r2:(cM (s10 m)).2.1=f40:=rfl;have r4:(cM (s10 m)).2.2.2.1=(s10 m).2.1:=rfl;have r5:(cM (s10 m)).2.2.2.2.1=f57:=rfl;have r6:(cM (s10 m)).2.2.2.2.2.1=f59:=rfl;have e0:Int.ofNat 0=((0:Nat):Int):=rfl;have e2:Int.ofNat 2=((2:Nat):Int):=rfl;have e5:Int.ofNat 5=((5:Nat):Int):=rfl;show Fg (cM (s10 m)) K (NX (cM (s10 m)) K X) (NY (cM (s10 m)) K X) (oV (cM (s10 m)) K X) (Ff (cM (s10 m)) K X) (.ptr C.bp 0) (d:Int) (.ptr b1 0) (.ptr b3 0) (c:Int) H;unfold Fg;rw[r1,r2,r4];have n0:=t.w.x.1;have lt:=t.w.lt hM;have RB:∀b,au v b→b<S.n:=λb hb=>t.L.lt hM hb;have nb:∀b,S0.n≤b→¬bA C b:=λb hb q=>by have q:b=C.bp:=q;omega
 refine ll hM hs ?_;rw[ai,aQ];refine eZ ?_;rw[kE];refine eC hM fB λH1 m1=>?_;refine ky m1 (c:=[.int 0 ((0:Nat):Int),.int 0 (aq C.T r.ix:Int),.int 0 ((0:Nat):Int),ah [],.int 0 ((1:Nat):Int),.ab,.ab]) (LS.ax _ _) rfl rfl (λa h=>?_) λH2 m2=>?_
 ·simp only[List.mem_cons,List.not_mem_nil,or_false]at h;rcases h with rfl|rfl|rfl|rfl|rfl|rfl|rfl<;>rfl
 have c2:aJ bP S ((S.push (.ce z7 0)).set S.n (.ce [.int 0 ((0:Nat):Int),.int 0 (aq C.T r.ix:Int),.int 0 ((0:Nat):Int),ah [],.int 0 ((1:Nat):Int),.ab,.ab] 0)):=((aJ.refl _ _).push _).set (.inr (Nat.le_refl _)) _;have d2:=hs.ic hM c2;have t2:=t.keep hM hbp c2.no;have o2:LS.ob _ S.n=_:=LS.aC (S.push (.ce z7 0)) S.n (.ce [.int 0 ((0:Nat):Int),.int 0 (aq C.T r.ix:Int),.int 0 ((0:Nat):Int),ah [],.int 0 ((1:Nat):Int),.ab,.ab] 0);have zk:zB S0 b1 b3 S.n:=⟨n0,by omega,by omega⟩
 have tk2:u4 C S0 (zK S0 b1 b3 S.n) ((S.push (.ce z7 0)).set S.n (.ce [.int 0 ((0:Nat):Int),.int 0 (aq C.T r.ix:Int),.int 0 ((0:Nat):Int),ah [],.int 0 ((1:Nat):Int),.ab,.ab] 0)) b1 b3 a v out:=
  ⟨t2.w,t2.o3,((t.L.imp hM λb hb hlt=>(⟨hb,by omega⟩:zK S0 b1 b3 S.n b)).keep hM c2.1 λb _ hlt=>c2.2 b hlt λq=>q),λb hb=>hb.1⟩
 have RD:w9 S0 ((S.push (.ce z7 0)).set S.n (.ce [.int 0 ((0:Nat):Int),.int 0 (aq C.T r.ix:Int),.int 0 ((0:Nat):Int),ah [],.int 0 ((1:Nat):Int),.ab,.ab] 0)) b1 b3 S.n v [.int 0 ((0:Nat):Int),.int 0 (aq C.T r.ix:Int),.int 0 ((0:Nat):Int),ah [],.int 0 ((1:Nat):Int),.ab,.ab] (.mk 0 (aq C.T r.ix) 0 [] 1 [] []):=
  ⟨o2,zk,λq=>by have:=RB _ q;omega,λ_=>False,RE.simple B8.nil,λb hb=>hb.elim⟩
 have n2:((S.push (.ce z7 0)).set S.n (.ce [.int 0 ((0:Nat):Int),.int 0 (aq C.T r.ix:Int),.int 0 ((0:Nat):Int),ah [],.int 0 ((1:Nat):Int),.ab,.ab] 0)).n=S.n+1:=rfl;revert m2 c2 d2 t2 o2 tk2 RD n2;generalize (S.push (.ce z7 0)).set S.n (.ce [.int 0 ((0:Nat):Int),.int 0 (aq C.T r.ix:Int),.int 0 ((0:Nat):Int),ah [],.int 0 ((1:Nat):Int),.ab,.ab] 0)=S2;intro m2 c2 d2 t2 o2 tk2 RD n2;refine ie m2 d2 ?_;rw[bD,e0];rcases zU hs with⟨ec,y,i,rfl⟩|⟨ec,c1,i,rfl⟩
 ·have ho:=ho y i rfl;rw[ec,decide_eq_true rfl];simp only[Bool.not_true,aG];have sC:(aj.ok y i).ix=i:=rfl;rw[sC]at RD;have hP:aT C (bA C) dW K S0 ((iw C.T k c i d).bind λp j=>qs C.T k a (out++p.1) p.2 j d):=hP;cases k with
  |zero=>exact absurd (show(iw C.T 0 c i d).bind _=.aO by simp only[iw];rfl) hP.1
  |succ k=>
  simp only[iw]at hP;refine dB (s:=[91]) (bj (by decide)) m2 d2 (λy j er hi H3 S3 m3 c3 d3=>?_) λh1 H3 S3 m3 c3 d3=>?_
  ·cases er;simp only[ai,aM,aK];rw[if_pos hi]at hP;simp only[bJ]at hP;have t3:=tk2.keep m2 hbp c3;have RG:=RD.keep m2 hbp c3;have n3:=c3.1;refine O.exp k (by omega) hd m3 d3 (aT.call (eD:=dW) hP λkk H4 S4 w m4 c4 d4 ⟨ck,hv,hR⟩ wZ=>?_);subst hv;have t4:=t3.keep m3 hbp c4;have ky4:=RG.keep m3 hbp c4;refine ky m4 ky4.o rfl hR.len hR.ones λH5 m5=>?_;have d5:=d4.setB (by omega) (λx hx=>by have:=db x hx;omega) (.ce ck 0) (b:=S.n);have t5:=t4.cP m4 zk (.ce ck 0);have RH:w9 S0 (S4.set S.n (.ce ck 0)) b1 b3 S.n v ck kk:=
    ⟨LS.aC _ _ _,zk,λq=>by have:=RB _ q;omega,_,hR.go (λb hb=>LS.av _ _ (by have:=hb.1;omega)) λ_ h=>h,λb hb=>⟨⟨by have:=hb.1;omega,by have:=hb.1;omega,by have:=hb.1;omega⟩,hb.2,λq=>by have:=RB b q;have:=hb.1;omega⟩⟩
   show Fc (cM (s10 m)) K (oV (cM (s10 m)) K X) (.ptr C.bp 0) (d:Int) (.ptr b1 0) (.ptr b3 0) (c:Int) (.ptr S.n 0) H5;unfold Fc;rw[r6];refine kH (s:=[93]) (bj (by decide)) m5 d5 (aT.call (eD:=nY) wZ.seq λ_ H6 S6 w m6 c6 d6 _ Hq=>?_);have t6:=t5.keep m5 hbp c6;have ky6:=RH.keep m5 hbp c6;refine kH (s:=[61]) (bj (by decide)) m6 d6 (aT.call (eD:=nY) Hq.seq λ_ H7 S7 w m7 c7 d7 _ yr=>?_);exact Hp O hd hbp db hX (kf:=k) (by omega) (by omega) (λ_ _ _=>ho) hol ho2 m7 d7 (t6.keep m6 hbp c7) (ky6.keep m6 hbp c7) yr
  have h1:isA C.T [91] i=false:=h1;simp only[ai,aM,aG];rw[if_neg (by rw[h1];simp)]at hP;have t3:=tk2.keep m2 hbp c3;have RG:=RD.keep m2 hbp c3;have n3:=c3.1;refine AU m3 d3 (j:=0) (v:=.int 0 (cz C.T i:Int)) (by omega) rfl ?_;rw[aQ,bD,e2];have plain:¬(cz C.T i=2∧cz C.T (i+1)=5∧fQ C.T (i+1)=[61])→Ff (cM (s10 m)) K X (.ptr C.bp 0) (d:Int) (.ptr b1 0) (.ptr b3 0) (c:Int) (.ptr S.n 0) H3:=by
   intro hne;rw[if_neg hne]at hP;simp only[bJ]at hP;show Fe (cM (s10 m)) K (IA (cM (s10 m)) K X) (.ptr C.bp 0) (d:Int) (.ptr b1 0) (.ptr b3 0) (c:Int) (.ptr S.n 0) H3;unfold Fe;rw[dp,fe];refine w0 (by omega) (by omega) ?_;show AJ (cM (s10 m)) K (oV (cM (s10 m)) K X) (.ptr C.bp 0) (d:Int) (.ptr b1 0) (.ptr b3 0) ((c+1:Nat):Int) (.ptr S.n 0) H3;unfold AJ;simp only[aU,Nat.zero_add];refine cZ (v:=.int 0 ((4:Nat):Int)) m3 RG.o (by omega) (by show 0<7;omega) rfl λH4 m4=>?_;refine cZ (v:=.int 0 ((c+1:Nat):Int)) m4 (LS.aC _ _ _) (by omega) (by show 2<7;omega) rfl λH5 m5=>?_;have m4':Mem H4 (S3.set S.n (.ce [.int 0 ((4:Nat):Int),.int 0 (aq C.T i:Int),.int 0 ((0:Nat):Int),ah [],.int 0 ((1:Nat):Int),.ab,.ab] 0)):=m4;have m5':Mem H5 ((S3.set S.n (.ce [.int 0 ((4:Nat):Int),.int 0 (aq C.T i:Int),.int 0 ((0:Nat):Int),ah [],.int 0 ((1:Nat):Int),.ab,.ab] 0)).set S.n (.ce [.int 0 ((4:Nat):Int),.int 0 (aq C.T i:Int),.int 0 ((c+1:Nat):Int),ah [],.int 0 ((1:Nat):Int),.ab,.ab] 0)):=m5;have t5:=(t3.cP m3 zk (.ce [.int 0 ((4:Nat):Int),.int 0 (aq C.T i:Int),.int 0 ((0:Nat):Int),ah [],.int 0 ((1:Nat):Int),.ab,.ab] 0)).cP m4' zk (.ce [.int 0 ((4:Nat):Int),.int 0 (aq C.T i:Int),.int 0 ((c+1:Nat):Int),ah [],.int 0 ((1:Nat):Int),.ab,.ab] 0);have RH:=(RG.set (kind:=4) (at_:=aq C.T i) (n:=0) (op:=1) (s:=[]) B8.nil).set (kind:=4) (at_:=aq C.T i) (n:=c+1) (op:=1) (s:=[]) B8.nil;have d5:=(d3.setB (b:=S.n) (by omega) (λx hx=>by have:=db x hx;omega) (.ce [.int 0 ((4:Nat):Int),.int 0 (aq C.T i:Int),.int 0 ((0:Nat):Int),ah [],.int 0 ((1:Nat):Int),.ab,.ab] 0)).setB (b:=S.n) (by omega) (λx hx=>by have:=db x hx;omega) (.ce [.int 0 ((4:Nat):Int),.int 0 (aq C.T i:Int),.int 0 ((c+1:Nat):Int),ah [],.int 0 ((1:Nat):Int),.ab,.ab] 0);exact Hp O hd hbp db hX (kf:=k) (c:=c+1) (by omega) (by omega) (λ_ _ _=>ho) hol ho2 m5' d5 t5 RH hP
  by_cases g2:cz C.T i=2
  ·rw[decide_eq_true (by omega),aK];have hlt:=lj (i:=i) C.ok (by omega);refine adr m3 d3 hlt (j:=0) (v:=.int 0 (cz C.T (i+1):Int)) (by omega) rfl ?_;rw[aQ,bD,e5];by_cases g5:cz C.T (i+1)=5
   ·rw[decide_eq_true (by omega),aK];refine adr m3 d3 hlt (j:=1) (v:=ah (fQ C.T (i+1))) (by omega) rfl ?_;refine An (m:=[61]) (wV C (i+1)) (bj (by decide)) ?_;rw[aM];by_cases gt:fQ C.T (i+1)=[61]
    ·rw[decide_eq_true gt,aK];rw[if_pos ⟨g2,g5,gt⟩]at hP;have ei:isA C.T [61] (i+1)=true:=by unfold isA;rw[g5,gt];rfl
     have sp:((bQ C.T k (i+2) d).bind λv j=>aj.ok (([.mk 5 (aq C.T i) 0 (fQ C.T i) 1 [] [],v],c):List ao×Nat) j).bind (λp j=>qs C.T (k+1) a (out++p.1) p.2 j d)=((aj.ok y i).bind λ_ i=>dS C.T i).bind λs j=>(aR C.T [61] j).bind λ_ j=>(bQ C.T k j d).bind λv j=>qs C.T (k+1) a (out++[.mk 5 (aq C.T i) 0 s 1 [] [],v]) c j d:=by
      rw[bJ];show _=(dS C.T i).bind _;unfold dS;rw[if_pos g2];show _=(aR C.T [61] (i+1)).bind _;unfold aR;rw[ei];rfl
     rw[sp]at hP;show Fb (cM (s10 m)) K (NW (cM (s10 m)) K X) (.ptr C.bp 0) (d:Int) (.ptr b1 0) (.ptr b3 0) (c:Int) (.ptr S.n 0) H3;unfold Fb;rw[aU,Nat.zero_add];refine cZ (v:=.int 0 ((5:Nat):Int)) m3 RG.o (by omega) (by show 0<7;omega) rfl λH4 m4=>?_;have m4:Mem H4 (S3.set S.n (.ce [.int 0 ((5:Nat):Int),.int 0 (aq C.T i:Int),.int 0 ((0:Nat):Int),ah [],.int 0 ((1:Nat):Int),.ab,.ab] 0)):=m4;have t4:=t3.cP m3 zk (.ce [.int 0 ((5:Nat):Int),.int 0 (aq C.T i:Int),.int 0 ((0:Nat):Int),ah [],.int 0 ((1:Nat):Int),.ab,.ab] 0);have ky4:=RG.set (kind:=5) (at_:=aq C.T i) (n:=0) (op:=1) (s:=[]) B8.nil;have d4:=d3.setB (b:=S.n) (by omega) (λx hx=>by have:=db x hx;omega) (.ce [.int 0 ((5:Nat):Int),.int 0 (aq C.T i:Int),.int 0 ((0:Nat):Int),ah [],.int 0 ((1:Nat):Int),.ab,.ab] 0);show Fa (cM (s10 m)) K (oV (cM (s10 m)) K X) (.ptr C.bp 0) (d:Int) (.ptr b1 0) (.ptr b3 0) (c:Int) (.ptr S.n 0) H4;unfold Fa;rw[r5,r6];refine s4 m4 d4 (aT.call (eD:=Ps) hP λs H5 S5 w m5 c5 d5 ⟨hv,h8⟩ u7=>?_);subst hv;have t5:=t4.keep m4 hbp c5;have RH:=ky4.keep m4 hbp c5;rw[aU,Nat.zero_add];refine cZ m5 RH.o (by omega) (by show 3<7;omega) (lf s) λH6 m6=>?_;have m6:Mem H6 (S5.set S.n (.ce [.int 0 ((5:Nat):Int),.int 0 (aq C.T i:Int),.int 0 ((0:Nat):Int),ah s,.int 0 ((1:Nat):Int),.ab,.ab] 0)):=m6;have t6:=t5.cP m5 zk (.ce [.int 0 ((5:Nat):Int),.int 0 (aq C.T i:Int),.int 0 ((0:Nat):Int),ah s,.int 0 ((1:Nat):Int),.ab,.ab] 0);have ky6:=RH.set (kind:=5) (at_:=aq C.T i) (n:=0) (op:=1) (s:=s) h8;have d6:=d5.setB (b:=S.n) (by omega) (λx hx=>by have:=db x hx;omega) (.ce [.int 0 ((5:Nat):Int),.int 0 (aq C.T i:Int),.int 0 ((0:Nat):Int),ah s,.int 0 ((1:Nat):Int),.ab,.ab] 0);refine kH (s:=[61]) (bj (by decide)) m6 d6 (aT.call (eD:=nY) u7.seq λ_ H7 S7 w m7 c7 d7 _ yr=>?_);exact Hp O hd hbp db hX (kf:=k) (by omega) (by omega) (λ_ _ _=>ho) hol ho2 m7 d7 (t6.keep m6 hbp c7) (ky6.keep m6 hbp c7) yr
    ·rw[decide_eq_false gt,aG];exact plain λq=>gt q.2.2
   ·rw[decide_eq_false (by omega),aG];exact plain λq=>g5 q.2.1
  ·rw[decide_eq_false (by omega),aG];exact plain λq=>g2 q.1
 ·rw[decide_eq_false (by omega)];simp only[Bool.not_false,aK];exact Hp O hd hbp db hX (kf:=0) (by have:=hk;omega) (by omega) ho hol ho2 m2 d2 tk2 RD hP
theorem ads(hm:m≤1000000)(O:gq C m)(hd:d≤200)(hbp:C.bp<S0.n)(db:∀b,au C.vT b→b<S0.n)(hk:2*k+4≤m+1)
  (hrec:∀k',k=k'+1→RA C S0 K b1 b3 a k' d X):RA C S0 K b1 b3 a k d (NZ (cM (s10 m)) K X):=by
 intro c v out H S γ r hc ho ho2 hM hs t hP;have r3:(cM (s10 m)).2.2.1=f41:=rfl;have r7:(cM (s10 m)).2.2.2.2.2.2=f76:=rfl;have e0:Int.ofNat 0=((0:Nat):Int):=rfl;have e64:Int.ofNat 64=((64:Nat):Int):=rfl;show Fi (cM (s10 m)) K (Fh (cM (s10 m)) K X) (wu (cM (s10 m)) K) (.ptr C.bp 0) (d:Int) (.ptr b1 0) (.ptr b3 0) (c:Int) H;unfold Fi;rw[r3,r7];refine ie hM hs ?_;rw[bD,e0];rcases zU hs with⟨ec,y,i,rfl⟩|⟨ec,c1,i,rfl⟩
 ·rw[ec,decide_eq_true rfl,aK];have hP:aT C (bA C) dW K S0 (fp C.T k out c a i d):=hP;cases k with
  |zero=>exact absurd (show fp C.T 0 out c a i d=.aO by simp only[fp]) hP.1
  |succ k=>
  simp only[fp]at hP;refine sT (s:=[125]) (bj (by decide)) hM hs λH1 S1 m1 c1 d1=>?_;rw[ai,aM];have t1:=t.keep hM hbp c1.no;have ed:pU C.T [125] (aj.ok y i)=isA C.T [125] i:=rfl;rw[ed];cases h1:isA C.T [125] i with
  |true=>
   simp only[Bool.not_true,aG];rw[if_pos h1]at hP;refine PB hbp db m1 d1 t1 ?_;have sp:((aj.ok y i).bind λ_ i=>(aR C.T [125] i).bind λ_ j=>.ok (ao.mk 8 a 0 [] 0 out []) j)=.ok (ao.mk 8 a 0 [] 0 out []) (i+1):=by
    show(aR C.T [125] i).bind _=_;unfold aR;rw[h1];rfl
   rw[sp];exact hP
  |false=>
   simp only[Bool.not_false,aK];rw[if_neg (by rw[h1];simp)]at hP;rw[aU];refine aF m1 t1.o3 (v:=v) rfl ?_;refine t1.L.IK ?_;have etd:Int.tdiv (out.length:Int) (.ofNat 2)=((out.length/2:Nat):Int):=rfl;rw[aQ,bD,etd,decide_eq_false (by decide),aG];refine w0 (by omega) (by omega) ?_;rw[e64];have sp:(if out.length=128 then .err 8 i else (iw C.T k c i d).bind λr j=>if isA C.T [44] j=true∨isA C.T [59] j=true then fp C.T k (out++r.1) r.2 a (j+1) d else (aR C.T [125] j).bind λ_ k=>.ok (.mk 8 a 0 [] 0 (out++r.1) []) k)=((aj.ok y i).bind λ_ i=>dC (64≤out.length/2) i).bind λ_ i=>(iw C.T k c i d).bind λp j=>qs C.T k a (out++p.1) p.2 j d:=by
    show _=(dC (64≤out.length/2) i).bind _;unfold dC;by_cases g:out.length=128
    ·rw[if_pos g,if_pos (by omega)];rfl
    ·rw[if_neg g,if_neg (by omega)];rfl
   rw[sp]at hP;refine IL m1 d1 (aT.call (eD:=nY) hP λ_ H2 S2 w m2 c2 d2 _ hP2=>?_);refine alv hm O hd hbp db (hrec k rfl) (by omega) hc (λx j er=>?_) ho ho2 m2 d2 (t1.keep m1 hbp c2) hP2;rcases Nat.lt_or_ge out.length 128 with g|g
   ·exact g
   ·have er:dC (64≤out.length/2) i=.ok x j:=er;unfold dC at er;rw[if_pos (by omega)]at er;cases er
 ·rw[decide_eq_false (by omega),aG];exact PB hbp db hM hs t hP
theorem alw(hm:m≤1000000)(O:gq C m)(hd:d≤200)(hbp:C.bp<S0.n)(db:∀b,au C.vT b→b<S0.n):∀k,2*k+4≤m+1→∀q,k<q→RA C S0 K b1 b3 a k d (Fj (cM (s10 m)) K q):=by
 intro k
 induction k with
 |zero=>
  intro hk q hq;obtain⟨q,rfl⟩:∃p,q=p+1:=⟨q-1,by omega⟩
  exact ads hm O hd hbp db hk (λk' h=>absurd h (by omega))
 |succ k ih=>
  intro hk q hq;obtain⟨q,rfl⟩:∃p,q=p+1:=⟨q-1,by omega⟩
  exact ads hm O hd hbp db hk (λk' h=>by
   obtain rfl:k=k':=by omega
   exact ih (by omega) q (by omega))
end
theorem anI{m:Nat}(hm:m≤1000000)(O:gq C m):∀k,2*k+4≤m+1→∀{K:KF}{H:AH}{S:LS}{i d a:Nat}{γ:Type}{x:γ},d≤200→Mem H S→bn C S (aj.ok x i)→aT C (bA C) dW K S (fp C.T k [] 0 a i d)→(s10 (m+1)).2.2.2.2.2.2.2.2.2 (.ptr C.bp 0) (a:Int) (d:Int) H K:=by
 intro k hk K H S i d a γ x hd hM hs hP;have e7:(s10 (m+1)).2.2.2.2.2.2.2.2.2=Fk (cM (s10 m)):=by rw[A0]
 rw[e7];unfold Fk Yf N8;have fV:G.NL=1000000:=rfl;generalize G.NL=fb at fV ⊢;rw[kE];refine eZ (eC hM fB λH1 m1=>?_);refine eZ ?_;rw[kE];refine eC m1 fB λH2 m2=>?_;refine ky (c:=ue a .ab) m2 (LS.ax _ _) rfl rfl ae9 λH3 m3=>?_;have c3:aJ bP S (((S.push (.ce z7 0)).push (.ce z7 0)).set (S.n+1) (.ce (ue a .ab) 0)):=(((aJ.refl _ _).push _).push _).set (.inr (Nat.le_succ _)) _;have o1:(((S.push (.ce z7 0)).push (.ce z7 0)).set (S.n+1) (.ce (ue a .ab) 0)).ob S.n=.ce z7 0:=by
  rw[LS.av _ _ (by omega),LS.bC _ _ (by show S.n<S.n+1;omega)];exact LS.ax _ _
 have o3:(((S.push (.ce z7 0)).push (.ce z7 0)).set (S.n+1) (.ce (ue a .ab) 0)).ob (S.n+1)=.ce (ue a .ab) 0:=LS.aC _ _ _;have e0:Int.ofNat 0=((0:Nat):Int):=rfl;rw[e0];have hbp:=hs.nW hM;exact alw hm O hd hbp (λb hb=>hs.tk.lt hM hb) k (by omega) fb (by omega) 0 .ab [] H3 _ (aj.ok x i) (Nat.le_refl _) (by simp) (by simp) m3 (hs.ic hM c3) ⟨⟨c3.no,⟨z7,o1,rfl⟩,⟨_,o3,rfl⟩,Nat.le_refl _,Nat.le_succ _,by show S.n≠S.n+1;omega⟩,o3,aW.nil _ _ _,λ_ h=>h⟩ hP
end
end Go.Proofs.YtcedghechlgecaaDoor
namespace Go.X
section
variable {H:AH}{S S':LS}
theorem aW.nm{Z:Nat→Prop}{v:AV}{l:List (List Nat)}(h:aW vu Z S v l)(hM:Mem H S):jG S (λb=>Z b∧b<S.n) v l:=by
 obtain⟨cl,h1,h2⟩:=h.done hM;refine⟨h1.congr λi hi=>?_,λt ht=>?_⟩
 ·have g:=(h2 i _ (List.getElem?_eq_getElem hi)).1;rw[List.getElem?_eq_getElem hi];exact g
 ·obtain⟨i,hi,e⟩:=List.mem_iff_getElem.1 ht;have g:=(h2 i _ (List.getElem?_eq_getElem hi)).2;rw[e]at g;exact g
end
end Go.X
namespace Go.Proofs.YtcedghechlgecaaDoor
open Go Go.X Go.Proofs.YtcedghechlgecaaDoor.G
section
variable {H:AH}{S:LS}{K:KF}{C:Ctx}{i d:Nat}
structure Br(C:Ctx)(S0 S:LS)(b1 b3:Nat)(v:AV)(out:List (List Nat)):Prop where
 x:aJ (bA C) S0 S
 o1:S.ob b1=.ce [.ab,.ab] 0
 o3:S.ob b3=.ce [v,.ab] 0
 n1:S0.n≤b1
 n3:S0.n≤b3
 ne:b1≠b3
 L:aW vu (zB S0 b1 b3) S v out
theorem Br.keep{S0 S':LS}{b1 b3:Nat}{v:AV}{out:List (List Nat)}(h:Br C S0 S b1 b3 v out)(hM:Mem H S)(hbp:C.bp<S0.n)(g:aJ (bA C) S S'):Br C S0 S' b1 b3 v out:=by
 have nb:∀b,S0.n≤b→¬bA C b:=λb hb q=>by have q:b=C.bp:=q;omega
 exact⟨h.x.trans g,g.ob hM h.o1 (nb _ h.n1),g.ob hM h.o3 (nb _ h.n3),h.n1,h.n3,h.ne,h.L.bp hM hbp g⟩
def xZ(T:List Tok)(k:Nat)(out:List (List Nat))(i:Nat):aj (List (List Nat)):=if out.length=16 then .err 8 i else (dS T i).bind λs j=>bY T k false (out++[s]) j
def mX(T:List Tok)(k d:Nat)(out:List (List Nat))(j:Nat):aj dq:=(cB T k j d).bind λb j=>(aR T [101,110,100] j).bind λ_ j=>.ok (.mk out b) j
section
variable {m k:Nat}{S0:LS}{b1 b3:Nat}
theorem adt(O:gq C m)(hd:d≤200)(hbp:C.bp<S0.n)(db:∀b,au C.vT b→b<S0.n)(hk:2*k+4≤m){v:AV}{out:List (List Nat)}{γ:Type}{r:aj γ}(hM:Mem H S)(hs:bn C S r)(t:Br C S0 S b1 b3 v out)(hP:aT C (bA C) sB K S0 (r.bind λ_ j=>mX C.T k d out j)) :
  zA (fO (s10 m)) K (.ptr C.bp 0) (d:Int) (.ptr b1 0) (.ptr b3 0) H:=by
 have r1:(fO (s10 m)).1=(s10 m).1:=rfl;have r4:(fO (s10 m)).2.2.2.1=f59:=rfl;show Er (fO (s10 m)) K (.ptr C.bp 0) (d:Int) (.ptr b1 0) (.ptr b3 0) H;unfold Er;rw[r1,r4];unfold mX at hP;have n0:=t.x.1;have RB:∀b,au v b→b<S.n:=λb hb=>t.L.lt hM hb;have lt1:b1<S.n:=hM.lt (by rw[t.o1];simp);have lt3:b3<S.n:=hM.lt (by rw[t.o3];simp);have hn1:=t.n1;have hn3:=t.n3;have nb:∀b,S0.n≤b→¬bA C b:=λb hb q=>by have q:b=C.bp:=q;omega
 refine O.block k hk hd hM hs (aT.call (eD:=gp) hP.seq λbl H1 S1 w m1 c1 d1 ⟨cb,hsl,hrs⟩ hP1=>?_);have t1:=t.keep hM hbp c1;rw[aU,Nat.zero_add];refine cZ m1 t1.o3 (by omega) (by show 1<2;omega) hsl.one λH2 m2=>?_;have m2:Mem H2 (S1.set b3 (.ce [v,w] 0)):=m2;have d2:=d1.setB (b:=b3) (by omega) (λx hx=>by have:=db x hx;omega) (.ce [v,w] 0);refine kH (s:=[101,110,100]) (bj (by decide)) m2 d2 (aT.call (eD:=nY) hP1.seq λ_ H3 S3 w' m3 c3 d3 _ hP3=>?_);have o3:S3.ob b3=.ce [v,w] 0:=c3.ob m2 (LS.aC _ _ _) (nb _ hn3);have kp:∀b,S0.n≤b→b<S1.n→b≠b3→S3.ob b=S1.ob b:=λb h1 h2 h3=>by rw[c3.2 b h2 (nb b h1),LS.av _ _ h3]
 have c3n:S1.n≤S3.n:=c3.1;have hn:=c1.1;have hR:RF S3 (λb=>zB S0 b1 b3 b∧b<S3.n) [v,w] (.mk out bl):=
  .mk out bl v w cb ((t1.L.nm m1).go (λb hb=>kp b hb.1.1 hb.2 hb.1.2.2) λb hb=>⟨hb.1,by have:=hb.2;omega⟩) (hsl.go (λb hb=>kp b (by have:=hb.1;omega) hb.2 (by have:=hb.1;omega)) λb hb=>⟨⟨by have:=hb.1;omega,by have:=hb.1;omega,by have:=hb.1;omega⟩,by have:=hb.2;omega⟩)
   λix s h=>(hrs ix s h).go (λb hb=>kp b (by have:=hb.1;omega) hb.2 (by have:=hb.1;omega)) λb hb=>⟨⟨by have:=hb.1;omega,by have:=hb.1;omega,by have:=hb.1;omega⟩,by have:=hb.2;omega⟩
 refine gy m3 o3 rfl ?_;have o1:S3.ob b1=.ce [.ab,.ab] 0:=by rw[kp b1 hn1 (by omega) t.ne];exact t1.o1
 refine ky m3 o1 rfl rfl hR.ones λH4 m4=>?_;refine gy m4 (LS.aC _ _ _) rfl ?_;have x3:aJ (bA C) S0 S3:=(t1.x.set (.inr hn3) (.ce [v,w] 0)).trans c3;exact hP3.2 H4 _ _ (.mk out bl) m4 (x3.set (.inr hn1) _) ((d3.ret _).setB (b:=b1) (by omega) (λx hx=>by have:=db x hx;omega) _) ⟨_,rfl,hR.go (λb hb=>LS.av _ _ hb.1.2.1) λb hb=>⟨hb.1.1,hb.2⟩⟩ qq
theorem adu(O:gq C m)(hd:d≤200)(hbp:C.bp<S0.n)(db:∀b,au C.vT b→b<S0.n)(hk:2*k+4≤m){v:AV}{out:List (List Nat)}{γ:Type}{r:aj γ}(hM:Mem H S)(hs:bn C S r)(t:Br C S0 S b1 b3 v out)(hP:aT C (bA C) sB K S0 (r.bind λ_ i=>(aR C.T [41] i).bind λ_ j=>mX C.T k d out j)) :
  wm (fO (s10 m)) K (.ptr C.bp 0) (d:Int) (.ptr b1 0) (.ptr b3 0) H:=by
 have r4:(fO (s10 m)).2.2.2.1=f59:=rfl;show Es (fO (s10 m)) K (zA (fO (s10 m)) K) (.ptr C.bp 0) (d:Int) (.ptr b1 0) (.ptr b3 0) H;unfold Es;rw[r4];refine kH (s:=[41]) (bj (by decide)) hM hs (aT.call (eD:=nY) hP.seq λ_ H1 S1 w m1 c1 d1 _ hP1=>?_);exact adt O hd hbp db hk m1 d1 (t.keep hM hbp c1) hP1
theorem adv(O:gq C m)(hd:d≤200)(hbp:C.bp<S0.n)(db:∀b,au C.vT b→b<S0.n)(hk:2*k+4≤m){Y:AV→Int→AV→AV→AH→Prop}{k8:Nat}
  (hrec:∀k',k8=k'+1→∀(out:List (List Nat)) (v:AV) (H:AH) (S:LS){γ:Type}(r:aj γ),out.length≤16→Mem H S→bn C S r→Br C S0 S b1 b3 v out→aT C (bA C) sB K S0 ((r.bind λ_ i=>xZ C.T k' out i).bind λl j=>mX C.T k d l j)→Y (.ptr C.bp 0) (d:Int) (.ptr b1 0) (.ptr b3 0) H)
  (out:List (List Nat)) (v:AV) (H:AH) (S:LS){γ:Type}(r:aj γ) (ho:out.length≤16) (hM:Mem H S) (hs:bn C S r) (t:Br C S0 S b1 b3 v out)
  (hP:aT C (bA C) sB K S0 ((r.bind λ_ i=>xZ C.T k8 out i).bind λl j=>mX C.T k d l j)) :
  Ni (fO (s10 m)) K Y (.ptr C.bp 0) (d:Int) (.ptr b1 0) (.ptr b3 0) H:=by
 have r2:(fO (s10 m)).2.1=f40:=rfl;have r3:(fO (s10 m)).2.2.1=f57:=rfl;have r5:(fO (s10 m)).2.2.2.2=f76:=rfl;have e0:Int.ofNat 0=((0:Nat):Int):=rfl;have e16:Int.ofNat 16=((16:Nat):Int):=rfl;show Eu (fO (s10 m)) K (wm (fO (s10 m)) K) (Nh (fO (s10 m)) K Y) (.ptr C.bp 0) (d:Int) (.ptr b1 0) (.ptr b3 0) H;unfold Eu;rw[r3,r5];have hn1:=t.n1;have hn3:=t.n3;refine ie hM hs ?_;rw[bD,e0];rcases zU hs with⟨ec,a,i,rfl⟩|⟨ec,c1,i,rfl⟩
 ·rw[ec,decide_eq_true rfl,aK];rw[aU,Nat.zero_add];refine aF hM t.o3 (v:=v) rfl ?_;refine t.L.IK ?_;rw[aQ,e16];have sp:((aj.ok a i).bind λ_ i=>xZ C.T k8 out i).bind (λl j=>mX C.T k d l j)=(((aj.ok a i).bind λ_ i=>dC (16≤out.length) i).bind λ_ i=>(dS C.T i).bind λx j=>(bY C.T k8 false (out++[x]) j).bind λl j=>mX C.T k d l j):=by
   show(xZ C.T k8 out i).bind _=(dC (16≤out.length) i).bind _;unfold xZ dC;by_cases g:out.length=16
   ·rw[if_pos g,if_pos (by omega)];rfl
   ·rw[if_neg g,if_neg (by omega),bJ];rfl
  rw[sp]at hP;refine IL hM hs (aT.call (eD:=nY) hP λ_ H1 S1 w m1 c1 d1 _ hP1=>?_);have t1:=t.keep hM hbp c1;rw[aU,Nat.zero_add];refine aF m1 t1.o3 (v:=v) rfl ?_;refine s4 m1 d1 (aT.call (eD:=Ps) hP1.seq λx H2 S2 v2 m2 c2 d2 ⟨hv,h8⟩ hP2=>?_);subst hv;have t2:=t1.keep m1 hbp c2;refine aF m2 t2.o3 (v:=v) rfl ?_;refine cV t2.L.same ?_;refine m2.dx ?_;refine fU (lf x) ?_;have n2:=t2.x.1;have lt1:b1<S2.n:=m2.lt (by rw[t2.o1];simp);have lt3:b3<S2.n:=m2.lt (by rw[t2.o3];simp);refine t2.L.pushB (R:=vu) (bytes:=16) (c:=[ah x]) (Q:=λ_=>False) m2 ⟨rfl,h8⟩ (λb hb=>hb.elim) (λb hb=>⟨by omega,by omega,by omega⟩) (by omega) λH3 S3 v3 m3 L3 n3 k3 bk3 ho3=>?_;have hvn:∀b,au v b→zB S0 b1 b3 b:=λb hb=>t.L.Hk hb;have c3:aJ (λb=>au v b) S2 S3:=⟨n3,λb hb hx=>k3 b hb hx⟩
  have d3:=d2.keep m2 c3 (λq=>by have:=(hvn _ q).1;omega) (λb hb q=>by have:=(hvn _ q).1;have:=db b hb;omega);have o3:S3.ob b3=.ce [v,.ab] 0:=c3.ob m2 t2.o3 λq=>(hvn _ q).2.2 rfl;have o1:S3.ob b1=.ce [.ab,.ab] 0:=c3.ob m2 t2.o1 λq=>(hvn _ q).2.1 rfl;refine cZ m3 o3 (by omega) (by show 0<2;omega) ho3 λH4 m4=>?_;have m4:Mem H4 (S3.set b3 (.ce [v3,.ab] 0)):=m4;have t4:Br C S0 (S3.set b3 (.ce [v3,.ab] 0)) b1 b3 v3 (out++[x]):=
   ⟨(t2.x.sS c3 λb hb=>.inr (hvn b hb).1).set (.inr hn3) _,(LS.av _ _ t.ne).trans o1,LS.aC _ _ _,hn1,hn3,t.ne,L3.keep m3 (Nat.le_refl _) λb hb _=>LS.av _ _ hb.2.2⟩
  have d4:=d3.setB (b:=b3) (by omega) (λx hx=>by have:=db x hx;omega) (.ce [v3,.ab] 0);show Et (fO (s10 m)) K Y (wm (fO (s10 m)) K) (.ptr C.bp 0) (d:Int) (.ptr b1 0) (.ptr b3 0) H4;unfold Et;rw[r2];refine dB (s:=[44]) (bj (by decide)) m4 d4 (λy j er hi H5 S5 m5 c5 d5=>?_) λhi H5 S5 m5 c5 d5=>?_
  ·simp only[ai,aM,Bool.not_true,aG];rw[er]at hP2;have hP2:aT C (bA C) sB K S0 ((bY C.T k8 false (out++[x]) j).bind λl j=>mX C.T k d l j):=hP2;cases k8 with
   |zero=>exact absurd (show(bY C.T 0 false (out++[x]) j).bind _=.aO by simp only[bY];rfl) hP2.1
   |succ k8=>
    have ol:out.length<16:=by
     rcases Nat.lt_or_ge out.length 16 with g|g
     ·exact g
     ·exfalso;have e1:((aj.ok a i).bind λ_ i=>dC (16≤out.length) i)=.err 8 i:=by show dC _ i=_;unfold dC;rw[if_pos g]
      rw[e1]at er;cases er
    have sp:bY C.T (k8+1) false (out++[x]) j=xZ C.T k8 (out++[x]) (j+1):=by
     simp only[bY,Bool.false_eq_true,if_false,hi,if_true];rfl
    rw[sp]at hP2;exact hrec k8 rfl (out++[x]) v3 H5 S5 (.ok () (j+1):aj Unit) (by simp;omega) m5 d5 (t4.keep m4 hbp c5) hP2
  ·simp only[ai,aM,Bool.not_false,aK];refine adu O hd hbp db hk m5 d5 (t4.keep m4 hbp c5) (out:=out++[x]) ?_;have sp:∀r':aj (List Nat),pU C.T [44] r'=false→(r'.bind λ_ j=>(bY C.T k8 false (out++[x]) j).bind λl j=>mX C.T k d l j)≠.aO→(r'.bind λ_ j=>(bY C.T k8 false (out++[x]) j).bind λl j=>mX C.T k d l j)=r'.bind λ_ i=>(aR C.T [41] i).bind λ_ j=>mX C.T k d (out++[x]) j:=by
    intro r' hi2 hno;cases r' with
    |aO=>rfl
    |err c i=>rfl
    |ok y j=>
     have hi3:isA C.T [44] j=false:=hi2;cases k8 with
     |zero=>exact absurd (show(bY C.T 0 false (out++[x]) j).bind (λl j=>mX C.T k d l j)=.aO by simp only[bY];rfl) hno
     |succ k8=>
      have e1:bY C.T (k8+1) false (out++[x]) j=(aR C.T [41] j).bind λ_ j=>.ok (out++[x]) j:=by
       simp only[bY,Bool.false_eq_true,if_false];rw[hi3];rfl
      show(bY C.T (k8+1) false (out++[x]) j).bind _=(aR C.T [41] j).bind _;rw[e1,bJ];rfl
   rw[sp _ hi hP2.1]at hP2;exact hP2
 ·rw[decide_eq_false (by omega),aG];exact adu O hd hbp db hk hM hs t hP
theorem alx(O:gq C m)(hd:d≤200)(hbp:C.bp<S0.n)(db:∀b,au C.vT b→b<S0.n)(hk:2*k+4≤m) :
  ∀k8 (q:Nat) (out:List (List Nat)) (v:AV) (H:AH) (S:LS){γ:Type}(r:aj γ),k8<q→out.length≤16→Mem H S→bn C S r→Br C S0 S b1 b3 v out→aT C (bA C) sB K S0 ((r.bind λ_ i=>xZ C.T k8 out i).bind λl j=>mX C.T k d l j)→
  Ev (fO (s10 m)) K q (.ptr C.bp 0) (d:Int) (.ptr b1 0) (.ptr b3 0) H:=by
 intro k8
 induction k8 with
 |zero=>
  intro q out v H S γ r hq ho hM hs t hP;obtain⟨q,rfl⟩:∃p,q=p+1:=⟨q-1,by omega⟩
  exact adv O hd hbp db hk (λk' h=>absurd h (by omega)) out v H S r ho hM hs t hP
 |succ k8 ih=>
  intro q out v H S γ r hq ho hM hs t hP;obtain⟨q,rfl⟩:∃p,q=p+1:=⟨q-1,by omega⟩
  exact adv O hd hbp db hk (λk' h out v H S γ r ho hM hs t hP=>by
   obtain rfl:k8=k':=by omega
   exact ih q out v H S r (by omega) ho hM hs t hP) out v H S r ho hM hs t hP
end
theorem x105{m:Nat}(hm:m≤1000000)(O:gq C m):∀k,2*k+5≤m+1→∀{K:KF}{H:AH}{S:LS}{d:Nat}{γ:Type}{r:aj γ},d≤200→Mem H S→bn C S r→aT C (bA C) sB K S (r.bind λ_ i=>pFn C.T k i d)→(s10 (m+1)).2.2.2.2.1 (.ptr C.bp 0) (d:Int) H K:=by
 intro k hk K H S d γ r hd hM hs hP;have e7:(s10 (m+1)).2.2.2.2.1=Ew (fO (s10 m)):=by rw[A0]
 rw[e7];have r2:(fO (s10 m)).2.1=f40:=rfl;have r4:(fO (s10 m)).2.2.2.1=f59:=rfl;unfold Ew Xc Nj;rw[r2,r4];have fV:G.NL=1000000:=rfl;generalize G.NL=fb at fV ⊢;have z1:∀a∈([.ab,.ab]:List AV),a.one=true:=λa ha=>by
  simp only[List.mem_cons,List.not_mem_nil,or_false]at ha;rcases ha with rfl|rfl<;>rfl
 refine eZ (eC hM z1 λH1 m1=>?_);refine eZ (eC m1 z1 λH2 m2=>?_);have c2:aJ bP S ((S.push (.ce [.ab,.ab] 0)).push (.ce [.ab,.ab] 0)):=((aJ.refl _ _).push _).push _;have d2:=hs.ic hM c2;have hbp:=hs.nW hM;have db:∀b,au C.vT b→b<S.n:=λb hb=>hs.tk.lt hM hb;have t2:Br C S ((S.push (.ce [.ab,.ab] 0)).push (.ce [.ab,.ab] 0)) S.n (S.n+1) .ab []:=
  ⟨c2.no,by rw[LS.bC _ _ (by show S.n<S.n+1;omega)];exact LS.ax _ _,LS.ax _ _,Nat.le_refl _,Nat.le_succ _,by omega,aW.nil _ _ _⟩
 have hP:aT C (bA C) sB K S ((r.bind λ_ i=>aR C.T [40] i).bind λ_ j=>(bY C.T k true [] j).bind λps j=>mX C.T k d ps j):=by
  rw[bJ];exact hP
 refine kH (s:=[40]) (bj (by decide)) m2 d2 (aT.call (eD:=nY) hP λ_ H3 S3 w m3 c3 d3 _ hP3=>?_);have t3:=t2.keep m2 hbp c3;refine dB (s:=[41]) (bj (by decide)) m3 d3 (λy j er hi H4 S4 m4 c4 d4=>?_) λh1 H4 S4 m4 c4 d4=>?_
 ·simp only[ai,aM,Bool.not_true,aG];rw[er]at hP3;have hP3:aT C (bA C) sB K S ((bY C.T k true [] j).bind λps j=>mX C.T k d ps j):=hP3;cases k with
  |zero=>exact absurd (show(bY C.T 0 true [] j).bind _=.aO by simp only[bY];rfl) hP3.1
  |succ k=>
  have sp:bY C.T (k+1) true [] j=.ok [] (j+1):=by
   simp only[bY,if_true];rw[hi];simp only[Bool.not_true,Bool.false_eq_true,if_false,aR];rw[hi];rfl
  rw[sp]at hP3;exact adt O hd hbp db (by omega) m4 d4 (t3.keep m3 hbp c4) hP3
 ·simp only[ai,aM,Bool.not_false,aK];have sp:((r.bind λ_ i=>aR C.T [40] i).bind λ_ j=>(bY C.T k true [] j).bind λps j=>mX C.T k d ps j)=(((r.bind λ_ i=>aR C.T [40] i).bind λ_ i=>xZ C.T (k-1) [] i).bind λl j=>mX C.T k d l j):=by
   cases hr:r.bind λ_ i=>aR C.T [40] i with
   |aO=>rfl
   |err c i=>rfl
   |ok y j=>
    rw[hr]at h1 hP3;have h1:isA C.T [41] j=false:=h1;cases k with
    |zero=>exact absurd (show(bY C.T 0 true [] j).bind (λl j=>mX C.T 0 d l j)=.aO by simp only[bY];rfl) hP3.1
    |succ k=>
     show(bY C.T (k+1) true [] j).bind _=(xZ C.T k [] j).bind _;simp only[bY,if_true];rw[h1];rfl
  rw[sp]at hP3;exact alx O hd hbp db (by omega) (k-1) fb [] .ab H4 S4 _ (by omega) (by simp) m4 d4 (t3.keep m3 hbp c4) hP3
end
section
variable {H:AH}{S:LS}{K:KF}{C:Ctx}{i d:Nat}
theorem gR.all{Q:Nat→Prop}{kind a:Nat}{names:List (List Nat)}{l:List ao}{B:List (List aw)}{vn vl vb:AV}{cl cb:Nat→List AV}(hn:jG S Q vn names)(hl:dH S Q 7 vl l.length cl)(he:∀i e,l[i]? = some e→RE S Q (cl i) e)(hb:dH S Q 1 vb B.length cb)(hs:∀i b,B[i]? = some b→ub.rel S Q (cb i) b):gR S Q [.int 0 (kind:Int),.int 0 (a:Int),vn,vl,vb] (.mk kind a names l B):=by
 have key:∀i,∃p:AV×(Nat→List AV),∀b,B[i]? = some b→cb i=[p.1]∧dH S Q 5 p.1 b.length p.2∧∀j s,b[j]? = some s→gR S Q (p.2 j) s:=λi=>by
  cases hi:B[i]? with
  |none=>exact⟨⟨.ab,λ_=>[]⟩,λb h=>by cases h⟩
  |some b=>
   obtain⟨v,bc,e,g1,g2⟩:=hs i b hi;exact⟨⟨v,bc⟩,λb' h=>by cases h;exact⟨e,g1,g2⟩⟩
 obtain⟨p,hp⟩:=Classical.axiomOfChoice key;exact .mk kind a names l B vn vl vb cl (λi=>(p i).1) (λi=>(p i).2) hn hl he (hb.congr λi hi=>(hp i _ (List.getElem?_eq_getElem hi)).1) (λi b h=>(hp i b h).2.1) λi b j s h h2=>(hp i b h).2.2 j s h2
def zS(S0:LS)(u w:AV)(X:Nat→Prop):Nat→Prop:=λb=>S0.n≤b∧¬au u b∧¬au w b∧¬X b
structure dn(C:Ctx)(S0 S:LS)(bs kd a:Nat)(vn:AV)(names:List (List Nat))(vl:AV)(l:List ao)(vb:AV)(B:List (List aw))(X:Nat→Prop):Prop where
 x:aJ (ft C bs) S0 S
 ob:S.ob bs=.ce [.int 0 (kd:Int),.int 0 (a:Int),vn,vl,vb] 0
 N:aW vu (zS S0 vl vb X) S vn names
 E:aW kD (zS S0 vn vb X) S vl l
 B:aW ub (zS S0 vn vl X) S vb B
structure j7(C:Ctx)(S0:LS)(bs:Nat):Prop where
 lt:bs<S0.n
 ne:bs≠C.bp
 nT:∀b,au C.vT b→b≠bs
 bp:C.bp<S0.n
 vT:∀b,au C.vT b→b<S0.n
section
variable {S0 S':LS}{bs kd a:Nat}{vn vl vb:AV}{names:List (List Nat)}{l:List ao}{B:List (List aw)}{X X':Nat→Prop}
theorem dn.Hn{Y:Nat→Prop}(t:dn C S0 S bs kd a vn names vl l vb B X)(hM:Mem H S)(g:aJ Y S S')(h:∀b,Y b→b≠bs∧(b=C.bp∨S0.n≤b))(hY:∀b,S0.n≤b→b<S.n→¬Y b):dn C S0 S' bs kd a vn names vl l vb B X:=
 ⟨t.x.sS g λb hb=>(h b hb).2.elim (λq=>.inl (.inl q)) .inr,g.ob hM t.ob λq=>(h _ q).1 rfl,t.N.keep hM g.1 λb h1 h2=>g.2 b h2 (hY b h1.1 h2),t.E.keep hM g.1 λb h1 h2=>g.2 b h2 (hY b h1.1 h2),t.B.keep hM g.1 λb h1 h2=>g.2 b h2 (hY b h1.1 h2)⟩
theorem dn.keep(W:j7 C S0 bs)(t:dn C S0 S bs kd a vn names vl l vb B X)(hM:Mem H S)(g:aJ (bA C) S S'):dn C S0 S' bs kd a vn names vl l vb B X:=
 t.Hn hM g (λb hb=>⟨λq=>W.ne (by have hb:b=C.bp:=hb;omega),.inl hb⟩) λb h1 _ q=>by have q:b=C.bp:=q;have:=W.bp;omega
theorem dn.res(t:dn C S0 S bs kd a vn names vl l vb B X)(hM:Mem H S)(h:∀b,X' b→X b∨S.n≤b):dn C S0 S bs kd a vn names vl l vb B X':=
 ⟨t.x,t.ob,t.N.imp hM λb hb hlt=>⟨hb.1,hb.2.1,hb.2.2.1,λq=>(h b q).elim hb.2.2.2 λg=>by omega⟩,t.E.imp hM λb hb hlt=>⟨hb.1,hb.2.1,hb.2.2.1,λq=>(h b q).elim hb.2.2.2 λg=>by omega⟩,t.B.imp hM λb hb hlt=>⟨hb.1,hb.2.1,hb.2.2.1,λq=>(h b q).elim hb.2.2.2 λg=>by omega⟩⟩
theorem dn.kind(W:j7 C S0 bs)(t:dn C S0 S bs kd a vn names vl l vb B X)(hM:Mem H S)(kd':Nat):dn C S0 (S.set bs (.ce [.int 0 (kd':Int),.int 0 (a:Int),vn,vl,vb] 0)) bs kd' a vn names vl l vb B X:=
 ⟨t.x.set (.inl (.inr rfl)) _,LS.aC _ _ _,t.N.keep hM (Nat.le_refl _) λb h1 _=>LS.av _ _ (by have:=W.lt;have:=h1.1;omega),t.E.keep hM (Nat.le_refl _) λb h1 _=>LS.av _ _ (by have:=W.lt;have:=h1.1;omega),t.B.keep hM (Nat.le_refl _) λb h1 _=>LS.av _ _ (by have:=W.lt;have:=h1.1;omega)⟩
theorem dn.j6(W:j7 C S0 bs)(t:dn C S0 S bs kd a vn names vl l vb B X)(hM:Mem H S){kd':Nat}{k:AH→Prop}{α:Type}{r:aj α}(hd:bn C S r)(hk:∀H' S',Mem H' S'→S'.n=S.n→bn C S' r→(∀b,b≠bs→S'.ob b=S.ob b)→dn C S0 S' bs kd' a vn names vl l vb B X→k H'):aI (.ptr bs 0) (ag 0 (.ptr bs 0) λv=>ak 1 v (.int 0 (kd':Int)) H k):=by
 simp only[dL,aU,Nat.zero_add];refine cZ (v:=.int 0 (kd':Int)) hM t.ob (by omega) (by show 0<5;omega) rfl λH1 m1=>?_;exact hk H1 _ m1 rfl (hd.setB W.ne W.nT _) (λb hb=>LS.av _ _ hb) (t.kind W hM kd')
theorem dn.PC(W:j7 C S0 bs)(t:dn C S0 S bs kd a vn names vl l vb B X)(hM:Mem H S){bV:AV}{names':List (List Nat)}(N':aW vu (zS S0 vl vb bP) S bV names')(hX:∀b,au bV b→X b){k:AH→Prop}{α:Type}{r:aj α}(hd:bn C S r)(hk:∀H' S',Mem H' S'→S'.n=S.n→bn C S' r→(∀b,b≠bs→S'.ob b=S.ob b)→dn C S0 S' bs kd a bV names' vl l vb B bP→k H'):aI (.ptr bs 0) (ag 2 (.ptr bs 0) λv=>ak 1 v bV H k):=by
 simp only[dL,aU,Nat.zero_add];refine cZ hM t.ob (by omega) (by show 2<5;omega) N'.one λH1 m1=>?_;have hlt:=W.lt;refine hk H1 _ m1 rfl (hd.setB W.ne W.nT _) (λb hb=>LS.av _ _ hb) ⟨t.x.set (.inl (.inr rfl)) _,LS.aC _ _ _,N'.keep hM (Nat.le_refl _) λb h1 _=>LS.av _ _ (by have:=h1.1;omega),?_,?_⟩
 ·exact(t.E.imp hM λb hb _=>(⟨hb.1,λq=>hb.2.2.2 (hX b q),hb.2.2.1,λq=>q⟩:zS S0 bV vb bP b)).keep hM (Nat.le_refl _) λb h1 _=>LS.av _ _ (by have:=h1.1;omega)
 ·exact(t.B.imp hM λb hb _=>(⟨hb.1,λq=>hb.2.2.2 (hX b q),hb.2.2.1,λq=>q⟩:zS S0 bV vl bP b)).keep hM (Nat.le_refl _) λb h1 _=>LS.av _ _ (by have:=h1.1;omega)
theorem dn.sj(W:j7 C S0 bs)(t:dn C S0 S bs kd a vn names vl l vb B X)(hM:Mem H S){RI:AV}{l':List ao}(E':aW kD (zS S0 vn vb bP) S RI l')(hX:∀b,au RI b→X b){k:AH→Prop}{α:Type}{r:aj α}(hd:bn C S r)(hk:∀H' S',Mem H' S'→S'.n=S.n→bn C S' r→(∀b,b≠bs→S'.ob b=S.ob b)→dn C S0 S' bs kd a vn names RI l' vb B bP→k H'):aI (.ptr bs 0) (ag 3 (.ptr bs 0) λv=>ak 1 v RI H k):=by
 simp only[dL,aU,Nat.zero_add];refine cZ hM t.ob (by omega) (by show 3<5;omega) E'.one λH1 m1=>?_;have hlt:=W.lt;refine hk H1 _ m1 rfl (hd.setB W.ne W.nT _) (λb hb=>LS.av _ _ hb) ⟨t.x.set (.inl (.inr rfl)) _,LS.aC _ _ _,?_,E'.keep hM (Nat.le_refl _) λb h1 _=>LS.av _ _ (by have:=h1.1;omega),?_⟩
 ·exact(t.N.imp hM λb hb _=>(⟨hb.1,λq=>hb.2.2.2 (hX b q),hb.2.2.1,λq=>q⟩:zS S0 RI vb bP b)).keep hM (Nat.le_refl _) λb h1 _=>LS.av _ _ (by have:=h1.1;omega)
 ·exact(t.B.imp hM λb hb _=>(⟨hb.1,hb.2.1,λq=>hb.2.2.2 (hX b q),λq=>q⟩:zS S0 vn RI bP b)).keep hM (Nat.le_refl _) λb h1 _=>LS.av _ _ (by have:=h1.1;omega)
theorem dn.Hr(W:j7 C S0 bs)(t:dn C S0 S bs kd a vn names vl l vb B X)(hM:Mem H S){RJ:AV}{B':List (List aw)}(B1:aW ub (zS S0 vn vl bP) S RJ B')(hX:∀b,au RJ b→X b){k:AH→Prop}{α:Type}{r:aj α}(hd:bn C S r)(hk:∀H' S',Mem H' S'→S'.n=S.n→bn C S' r→(∀b,b≠bs→S'.ob b=S.ob b)→dn C S0 S' bs kd a vn names vl l RJ B' bP→k H'):aI (.ptr bs 0) (ag 4 (.ptr bs 0) λv=>ak 1 v RJ H k):=by
 simp only[dL,aU,Nat.zero_add];refine cZ hM t.ob (by omega) (by show 4<5;omega) B1.one λH1 m1=>?_;have hlt:=W.lt;refine hk H1 _ m1 rfl (hd.setB W.ne W.nT _) (λb hb=>LS.av _ _ hb) ⟨t.x.set (.inl (.inr rfl)) _,LS.aC _ _ _,?_,?_,B1.keep hM (Nat.le_refl _) λb h1 _=>LS.av _ _ (by have:=h1.1;omega)⟩
 ·exact(t.N.imp hM λb hb _=>(⟨hb.1,hb.2.1,λq=>hb.2.2.2 (hX b q),λq=>q⟩:zS S0 vl RJ bP b)).keep hM (Nat.le_refl _) λb h1 _=>LS.av _ _ (by have:=h1.1;omega)
 ·exact(t.E.imp hM λb hb _=>(⟨hb.1,hb.2.1,λq=>hb.2.2.2 (hX b q),λq=>q⟩:zS S0 vn RJ bP b)).keep hM (Nat.le_refl _) λb h1 _=>LS.av _ _ (by have:=h1.1;omega)
theorem dn.zV(t:dn C S0 S bs kd a vn names vl l vb B X)(hM:Mem H S):(∀b,au vn b→S0.n≤b∧b<S.n)∧(∀b,au vl b→S0.n≤b∧b<S.n)∧(∀b,au vb b→S0.n≤b∧b<S.n):=
 ⟨λb hb=>⟨(t.N.Hk hb).1,t.N.lt hM hb⟩,λb hb=>⟨(t.E.Hk hb).1,t.E.lt hM hb⟩,λb hb=>⟨(t.B.Hk hb).1,t.B.lt hM hb⟩⟩
theorem dn.anJ(W:j7 C S0 bs)(t:dn C S0 S bs kd a vn names vl l vb B bP)(hM:Mem H S){s:List Nat}(h8:B8 s){k:AV→AH→Prop}{α:Type}{r:aj α}(hd:bn C S r)(hk:∀H' S',Mem H' S'→S'.n=S.n+1→bn C S' r→dn C S0 S' bs kd a vn names vl l vb B (λb=>b=S.n)→aW vu (zS S0 vl vb bP) S' (.slice S.n 0 1 1 1 true) [s]→k (.slice S.n 0 1 1 1 true) H'):aX (ay H) 1 1 [ah s] k:=by
 have L:=t.zV hM;have n0:=t.x.1;refine eI hM rfl (λy hy=>by simp only[List.mem_cons,List.not_mem_nil,or_false]at hy;subst hy;exact lf s) λH1 m1=>?_;have c1:aJ bP S (S.push (.ce [ah s] 0)):=(aJ.refl _ _).push _;refine hk H1 _ m1 rfl (hd.ic hM c1) ((t.res hM (X':=λb=>b=S.n) λb hb=>.inr (by have hb:b=S.n:=hb;omega)).keep W hM c1.no) ?_;exact aW.single (R:=vu) (Q:=λ_=>False) (LS.ax _ _) ⟨n0,λq=>by have:=(L.2.1 _ q).2;omega,λq=>by have:=(L.2.2 _ q).2;omega,λq=>q⟩ ⟨rfl,h8⟩ λx hx=>hx.elim
theorem dn.newE(W:j7 C S0 bs)(t:dn C S0 S bs kd a vn names vl l vb B bP)(hM:Mem H S){c:List AV}{e:ao}{Q:Nat→Prop}(hR:RE S Q c e)(hQ:∀b,Q b→S0.n≤b∧b<S.n∧¬au vn b∧¬au vb b){k:AV→AH→Prop}{α:Type}{r:aj α}(hd:bn C S r)(hk:∀H' S',Mem H' S'→S'.n=S.n+1→bn C S' r→dn C S0 S' bs kd a vn names vl l vb B (λb=>b=S.n)→aW kD (zS S0 vn vb bP) S' (.slice S.n 0 1 1 7 true) [e]→k (.slice S.n 0 1 1 7 true) H'):aX (ay H) 1 7 c k:=by
 have L:=t.zV hM;have n0:=t.x.1;refine eI hM (by rw[hR.len]) hR.ones λH1 m1=>?_;have c1:aJ bP S (S.push (.ce c 0)):=(aJ.refl _ _).push _;refine hk H1 _ m1 rfl (hd.ic hM c1) ((t.res hM (X':=λb=>b=S.n) λb hb=>.inr (by have hb:b=S.n:=hb;omega)).keep W hM c1.no) ?_;exact aW.single (R:=kD) (Q:=Q) (LS.ax _ _) ⟨n0,λq=>by have:=(L.1 _ q).2;omega,λq=>by have:=(L.2.2 _ q).2;omega,λq=>q⟩ (hR.go (λb hb=>LS.bC _ _ (hQ b hb).2.1) λ_ h=>h) λx hx=>⟨⟨(hQ x hx).1,(hQ x hx).2.2.1,(hQ x hx).2.2.2,λq=>q⟩,Nat.lt_succ_of_lt (hQ x hx).2.1,by have:=(hQ x hx).2.1;omega⟩
theorem dn.amq(W:j7 C S0 bs)(t:dn C S0 S bs kd a vn names vl l vb B bP)(hM:Mem H S){c1 c2:List AV}{e1 e2:ao}{Q:Nat→Prop}(hR1:RE S Q c1 e1)(hR2:RE S Q c2 e2)(hQ:∀b,Q b→S0.n≤b∧b<S.n∧¬au vn b∧¬au vb b){k:AV→AH→Prop}{α:Type}{r:aj α}(hd:bn C S r)(hk:∀H' S',Mem H' S'→S'.n=S.n+1→bn C S' r→dn C S0 S' bs kd a vn names vl l vb B (λb=>b=S.n)→aW kD (zS S0 vn vb bP) S' (.slice S.n 0 2 2 7 true) [e1,e2]→(∀b,b<S.n→S'.ob b=S.ob b)→k (.slice S.n 0 2 2 7 true) H'):aX (ay H) 2 7 (c1++c2) k:=by
 have L:=t.zV hM;have n0:=t.x.1;have l1:=hR1.len;have l2:=hR2.len;refine eI hM (by rw[List.length_append,l1,l2]) (λy hy=>(List.mem_append.1 hy).elim (λg=>hR1.ones y g) λg=>hR2.ones y g) λH1 m1=>?_;have g1:aJ bP S (S.push (.ce (c1++c2) 0)):=(aJ.refl _ _).push _;refine hk H1 _ m1 rfl (hd.ic hM g1) ((t.res hM (X':=λb=>b=S.n) λb hb=>.inr (by have hb:b=S.n:=hb;omega)).keep W hM g1.no) ?_ λb hb=>LS.bC _ _ hb;have zz:zS S0 vn vb bP S.n:=⟨n0,λq=>by have:=(L.1 _ q).2;omega,λq=>by have:=(L.2.2 _ q).2;omega,λq=>q⟩
 have go:∀{c:List AV}{e:ao},RE S Q c e→∃Q',RE (S.push (.ce (c1++c2) 0)) Q' c e∧∀b,Q' b→zS S0 vn vb bP b∧b<(S.push (.ce (c1++c2) 0)).n∧¬au (.slice S.n 0 2 2 7 true) b:=λhR=>⟨Q,hR.go (λb hb=>LS.bC _ _ (hQ b hb).2.1) λ_ h=>h,λx hx=>⟨⟨(hQ x hx).1,(hQ x hx).2.2.1,(hQ x hx).2.2.2,λq=>q⟩,Nat.lt_succ_of_lt (hQ x hx).2.1,λq=>by have q:x=S.n:=q;have:=(hQ x hx).2.1;omega⟩⟩
 refine⟨[c1,c2],.inr ⟨S.n,2,true,c1++c2,rfl,LS.ax _ _,by rw[List.length_append,l1,l2];rfl,Nat.le_refl _,by show [c1,c2].flatten.length=2*7;simp[l1,l2],by show(c1++c2).take ([c1,c2].flatten).length=[c1,c2].flatten;rw[show [c1,c2].flatten=c1++c2 by simp];exact List.take_of_length_le (Nat.le_refl _),λy hy=>(List.mem_append.1 hy).elim (λg=>hR1.ones y g) λg=>hR2.ones y g⟩,rfl,λx hx=>by have hx:x=S.n:=hx;rw[hx];exact zz,λi c' a' hc ha=>?_⟩
 match i,hc,ha with
 |0,hc,ha=>
  have q1:c1=c':=by simpa using hc
  have q2:e1=a':=by simpa using ha
  subst q1;subst q2;exact go hR1
 |1,hc,ha=>
  have q1:c2=c':=by simpa using hc
  have q2:e2=a':=by simpa using ha
  subst q1;subst q2;exact go hR2
 |i+2,hc,ha=>simp at hc
theorem dn.anK(W:j7 C S0 bs)(t:dn C S0 S bs kd a vn names vl l vb B bP)(hM:Mem H S){v:AV}{b0:List aw}{Q:Nat→Prop}(hR:ub.rel S Q [v] b0)(hQ:∀b,Q b→S0.n≤b∧b<S.n∧¬au vn b∧¬au vl b){k:AV→AH→Prop}{α:Type}{r:aj α}(hd:bn C S r)(hk:∀H' S',Mem H' S'→S'.n=S.n+1→bn C S' r→dn C S0 S' bs kd a vn names vl l vb B (λb=>b=S.n)→aW ub (zS S0 vn vl bP) S' (.slice S.n 0 1 1 1 true) [b0]→k (.slice S.n 0 1 1 1 true) H'):aX (ay H) 1 1 [v] k:=by
 have L:=t.zV hM;have n0:=t.x.1;refine eI hM rfl (ub.ones hR) λH1 m1=>?_;have c1:aJ bP S (S.push (.ce [v] 0)):=(aJ.refl _ _).push _;refine hk H1 _ m1 rfl (hd.ic hM c1) ((t.res hM (X':=λb=>b=S.n) λb hb=>.inr (by have hb:b=S.n:=hb;omega)).keep W hM c1.no) ?_;exact aW.single (R:=ub) (Q:=Q) (LS.ax _ _) ⟨n0,λq=>by have:=(L.1 _ q).2;omega,λq=>by have:=(L.2.1 _ q).2;omega,λq=>q⟩ (ub.go (λb hb=>LS.bC _ _ (hQ b hb).2.1) (λ_ h=>h) hR) λx hx=>⟨⟨(hQ x hx).1,(hQ x hx).2.2.1,(hQ x hx).2.2.2,λq=>q⟩,Nat.lt_succ_of_lt (hQ x hx).2.1,by have:=(hQ x hx).2.1;omega⟩
theorem dn.rst(t:dn C S0 S bs kd a vn names vl l vb B X)(hM:Mem H S):gR S (iy S0.n S.n) [.int 0 (kd:Int),.int 0 (a:Int),vn,vl,vb] (.mk kd a names l B):=by
 obtain⟨cl,g1,g2⟩:=(t.E.toR (lo:=S0.n) λb hb=>hb.1).done hM;obtain⟨cb,q1,q2⟩:=(t.B.toR (lo:=S0.n) λb hb=>hb.1).done hM;exact gR.all ((t.N.toR (lo:=S0.n) λb hb=>hb.1).nm hM) g1 g2 q1 q2
def dG(T:List Tok)(s:aw)(j:Nat):aj aw:=if s.kind=3∧isA T [61] j=true then .err 14 j else .ok s j
theorem dn.fin(t:dn C S0 S bs kd a vn names vl l vb B X)(hM:Mem H S){α:Type}{r:aj α}(hd:bn C S r)(h3:kd≠3)(hP:aT C (ft C bs) (iz bs) K S0 (r.bind λ_ j=>dG C.T (.mk kd a names l B) j)):K (.ret (.bF [])) H:=by
 have e:(r.bind λ_ j=>dG C.T (.mk kd a names l B) j)=r.bind λ_ j=>.ok (.mk kd a names l B) j:=by
  congr 1;funext _ j;unfold dG;rw[if_neg λq=>h3 q.1]
 rw[e]at hP;exact hP.2 H S _ _ hM t.x (hd.ret _) ⟨rfl,_,t.ob,t.rst hM⟩ qq
end
end
section
variable {H:AH}{S:LS}{K:KF}{C:Ctx}{i d:Nat}
section
variable {m k:Nat}{S0:LS}{bs kd a:Nat}{vn vl vb:AV}{names:List (List Nat)}{l:List ao}{B:List (List aw)}{γ:Type}{r:aj γ}
theorem dn.afc(O:gq C m)(hk:2*k+4≤m)(hd:d≤200)(W:j7 C S0 bs)(hM:Mem H S)(hs:bn C S r)(t:dn C S0 S bs kd a vn names vl l vb B bP)(hll:l.length≤1000000){X:AH→Prop}{f:ao→Nat→aj aw}
  (hP:aT C (ft C bs) (iz bs) K S0 (r.bind λ_ i=>(bQ C.T k i d).bind f))
  (hX:∀(e:ao) (v':AV) (H':AH) (S':LS),Mem H' S'→bn C S' (r.bind λ_ i=>bQ C.T k i d)→dn C S0 S' bs kd a vn names v' (l++[e]) vb B bP→aT C (ft C bs) (iz bs) K S0 ((r.bind λ_ i=>bQ C.T k i d).bind λ_ j=>f e j)→X H') :
  aI (.ptr bs 0) (ag 3 (.ptr bs 0) λv1=>af v1 H λv2=>eP v2 λv3=>cI 0 v3 λz4=>dx H (aX (ay H) 1 7 z7 λv5 H6=>bT (Nat.beq H6.n (Nat.succ H.n)) ((s10 m).2.1 (.ptr C.bp 0) (d:Int) H6 λo7 H8=>cR K o7 H8 λv9=>af v1 H8 λv10=>bT (bw v10 v2) (dw 7 96 v2 v5 H8 λv11 bS=>cn 7 v11 (.int 0 z4) λv13=>aI (.ptr bs 0) (ag 3 (.ptr bs 0) λv14=>ak 7 v13 v9 bS λiG=>ak 1 v14 v11 iG λfy=>ak 1 v14 v11 bS λoU=>ak 7 v13 v9 oU λju=>vN 7 1 v13 v14 (X fy)))))):=by
 simp only[dL,aU,Nat.zero_add];refine aF hM t.ob (v:=vl) rfl ?_;refine t.E.IK ?_;rw[aQ];refine hM.dx ?_;have n0:=t.x.1;have L:=t.zV hM;have hlt:=W.lt;have hne:=W.ne;have hbp:=W.bp;refine eI hM rfl fB λH1 m1=>cV (sr (by rw[m1.n,hM.n];rfl)) ?_;have c1:aJ bP S (S.push (.ce z7 0)):=(aJ.refl _ _).push _;have t1:=t.keep W hM c1.no;refine O.exp k hk hd m1 (hs.ic hM c1) (aT.call (eD:=dW) (bJ r _ _ ▸ hP) λe H2 S2 w m2 c2 d2 ⟨c,hw,hR⟩ hP2=>?_);subst hw;have t2:=t1.keep W m1 c2;have n2:S.n+1≤S2.n:=c2.1;have or2:S2.ob S.n=.ce z7 0:=c2.ob m1 (LS.ax _ _) λq=>by have q:S.n=C.bp:=q;omega
 refine aF m2 t2.ob (v:=vl) rfl ?_;refine cV t.E.same ?_;obtain⟨cl,hfr,hrest⟩:=id t2.E;have anL:¬au vl bs:=λq=>by have:=(L.2.1 _ q).1;omega
 refine aml m2 hfr or2 rfl fB hR.len hR.ones t2.ob (by show 3<5;omega) anL (by omega) λH3 S3 v' m3 he o3=>?_;obtain⟨e1,e2,e3,e4⟩:=id he;have c3:aJ (λb=>au vl b) S2 S3:=⟨e1,λb hb hx=>e2 b hb hx⟩
 have d3:bn C S3 _:=d2.keep m2 c3 (λq=>by have:=(L.2.1 _ q).1;omega) λb hb q=>by have:=(L.2.1 _ q).1;have:=W.vT b hb;omega
 have L3:aW kD (zS S0 vn vb bP) S3 v' (l++[e]):=t2.E.step hR (λb hb=>by
  have h1:S.n+1≤b:=hb.1;exact⟨⟨by omega,λq=>by have:=(L.1 _ q).2;omega,λq=>by have:=(L.2.2 _ q).2;omega,λq=>q⟩,hb.2,λq=>by have:=(L.2.1 _ q).2;omega⟩) (λb hb=>⟨by omega,λq=>by have:=(L.1 _ q).2;omega,λq=>by have:=(L.2.2 _ q).2;omega,λq=>q⟩) λcl' h'=>by rw[hfr.uniq h'];exact he
 have hv':∀b,au v' b→au vl b∨S2.n≤b:=e4;have kN:∀{α:Type}{R:Rep α}{u v:AV}{q:List α},aW R (λb=>S0.n≤b∧¬au vl b∧¬au u b) S2 v q→aW R (λb=>(S0.n≤b∧¬au vl b∧¬au u b)∧¬au v' b) (S3.set bs (.ce ([.int 0 (kd:Int),.int 0 (a:Int),vn,vl,vb].set 3 v') 0)) v q:=λh=>
  (h.imp m2 λb hb hb2=>(⟨hb,λq=>(hv' b q).elim hb.2.1 λg=>by omega⟩:(S0.n≤b∧¬au vl b∧¬au _ b)∧¬au v' b)).keep m2 e1 λb h1 h2=>by
   rw[LS.av _ _ (by have:=h1.1.1;omega)];exact e2 b h2 h1.1.2.1
 have L4:aW kD (zS S0 vn vb bP) (S3.set bs (.ce ([.int 0 (kd:Int),.int 0 (a:Int),vn,vl,vb].set 3 v') 0)) v' (l++[e]):=by
  obtain⟨cl3,g1,g2,g3,g4⟩:=L3;refine⟨cl3,?_,g2,g3,λi c a hc ha=>?_⟩
  ·rcases g1 with g|⟨b,cc,ex,cs',q1,q2,q3⟩
   ·exact .inl g
   ·exact .inr ⟨b,cc,ex,cs',q1,(LS.av _ _ (by have:=(g3 b (by rw[q1];rfl)).1;omega)).trans q2,q3⟩
  ·obtain⟨Q,q1,q2⟩:=g4 i c a hc ha;exact⟨Q,RE.go (λb hb=>LS.av _ _ (by have:=(q2 b hb).1.1;omega)) (λ_ h=>h) q1,q2⟩
 have fin:∀{α:Type}{R:Rep α}{Z Z':Nat→Prop}{S:LS}{v:AV}{q:List α},aW R Z S v q→(∀b,Z b→Z' b)→aW R Z' S v q:=λ{α R Z Z' S v q} h hz=>by
  obtain⟨cl,q1,q2,q3,q4⟩:=h;exact⟨cl,q1,q2,λb hb=>hz b (q3 b hb),λi c a hc ha=>by
   obtain⟨Q,w1,w2⟩:=q4 i c a hc ha;exact⟨Q,w1,λb hb=>⟨hz b (w2 b hb).1,(w2 b hb).2⟩⟩⟩
 refine hX e v' H3 _ m3 (d3.setB hne W.nT _) ⟨(t2.x.sS c3 λb hb=>.inr (L.2.1 _ hb).1).set (.inl (.inr rfl)) _,LS.aC _ _ _,?_,L4,?_⟩ hP2
 ·exact fin (kN (fin t2.N λb hb=>⟨hb.1,hb.2.1,hb.2.2.1⟩)) λb hb=>⟨hb.1.1,hb.2,hb.1.2.2,λq=>q⟩
 ·exact fin (kN (fin t2.B λb hb=>⟨hb.1,hb.2.2.1,hb.2.1⟩)) λb hb=>⟨hb.1.1,hb.1.2.2,hb.2,λq=>q⟩
theorem aW.wk{α:Type}{R:Rep α}{Z Z':Nat→Prop}{S:LS}{v:AV}{q:List α}(h:aW R Z S v q)(hz:∀b,Z b→Z' b):aW R Z' S v q:=by
 obtain⟨cl,q1,q2,q3,q4⟩:=h;exact⟨cl,q1,q2,λb hb=>hz b (q3 b hb),λi c a hc ha=>by
  obtain⟨Q,w1,w2⟩:=q4 i c a hc ha;exact⟨Q,w1,λb hb=>⟨hz b (w2 b hb).1,(w2 b hb).2⟩⟩⟩
theorem dn.aly(O:gq C m)(hk:2*k+4≤m)(hd:d≤200)(W:j7 C S0 bs)(hM:Mem H S)(hs:bn C S r)(t:dn C S0 S bs kd a vn names vl l vb B bP)(hll:B.length≤1000000){X:AH→Prop}{f:List aw→Nat→aj aw}
  (hP:aT C (ft C bs) (iz bs) K S0 (r.bind λ_ i=>(cB C.T k i d).bind f))
  (hX:∀(e:List aw) (v':AV) (H':AH) (S':LS),Mem H' S'→bn C S' (r.bind λ_ i=>cB C.T k i d)→dn C S0 S' bs kd a vn names vl l v' (B++[e]) bP→aT C (ft C bs) (iz bs) K S0 ((r.bind λ_ i=>cB C.T k i d).bind λ_ j=>f e j)→X H') :
  aI (.ptr bs 0) (ag 4 (.ptr bs 0) λv5=>af v5 H λv6=>(s10 m).1 (.ptr C.bp 0) (d:Int) H λo7 H8=>cR K o7 H8 λv9=>af v5 H8 λv10=>bT (bw v10 v6) (dx H8 (one v9 (aX (ay H8) 1 1 [v9] λv11 bS=>bT (Nat.beq bS.n (Nat.succ H8.n)) (dw 1 24 v6 v11 bS λv13 fw=>aI (.ptr bs 0) (ag 4 (.ptr bs 0) λv15=>ak 1 v15 v13 fw X)))))):=by
 simp only[dL,aU,Nat.zero_add];refine aF hM t.ob (v:=vb) rfl ?_;have n0:=t.x.1;have L:=t.zV hM;have hlt:=W.lt;have hne:=W.ne;have hbp:=W.bp;refine O.block k hk hd hM hs (aT.call (eD:=gp) (bJ r _ _ ▸ hP) λe H2 S2 w m2 c2 d2 ⟨cb,hsl,hrs⟩ hP2=>?_);have t2:=t.keep W hM c2;have n2:=c2.1;refine aF m2 t2.ob (v:=vb) rfl ?_;refine cV t.B.same ?_;refine m2.dx ?_;refine fU hsl.one ?_;refine t2.B.pushB (R:=ub) (bytes:=24) m2 (a:=e) ⟨w,cb,rfl,hsl,hrs⟩ (λb hb=>⟨⟨by have:=hb.1;omega,λq=>by have:=(L.1 _ q).2;have:=hb.1;omega,λq=>by have:=(L.2.1 _ q).2;have:=hb.1;omega,λq=>q⟩,hb.2,λq=>by have:=(L.2.2 _ q).2;have:=hb.1;omega⟩) (λb hb=>⟨by omega,λq=>by have:=(L.1 _ q).2;omega,λq=>by have:=(L.2.1 _ q).2;omega,λq=>q⟩) (by omega) λH3 S3 v' m3 B3 n3 k3 b3 afd=>?_;have c3:aJ (λb=>au vb b) S2 S3:=⟨n3,λb hb hx=>k3 b hb hx⟩
 have d3:bn C S3 _:=d2.keep m2 c3 (λq=>by have:=(L.2.2 _ q).1;omega) λb hb q=>by have:=(L.2.2 _ q).1;have:=W.vT b hb;omega
 have o3:S3.ob bs=.ce [.int 0 (kd:Int),.int 0 (a:Int),vn,vl,vb] 0:=c3.ob m2 t2.ob λq=>by have:=(L.2.2 _ q).1;omega
 refine cZ m3 o3 (by omega) (by show 4<5;omega) afd λH4 m4=>?_;have kN:∀{α:Type}{R:Rep α}{u v:AV}{q:List α},aW R (λb=>S0.n≤b∧¬au vb b∧¬au u b) S2 v q→aW R (λb=>(S0.n≤b∧¬au vb b∧¬au u b)∧¬au v' b) (S3.set bs (.ce ([.int 0 (kd:Int),.int 0 (a:Int),vn,vl,vb].set 4 v') 0)) v q:=λh=>
  (h.imp m2 λb hb hb2=>(⟨hb,λq=>(b3 b q).elim hb.2.1 λg=>by omega⟩:(S0.n≤b∧¬au vb b∧¬au _ b)∧¬au v' b)).keep m2 n3 λb h1 h2=>by
   rw[LS.av _ _ (by have:=h1.1.1;omega)];exact k3 b h2 h1.1.2.1
 refine hX e v' H4 _ m4 (d3.setB hne W.nT _) ⟨(t2.x.sS c3 λb hb=>.inr (L.2.2 _ hb).1).set (.inl (.inr rfl)) _,LS.aC _ _ _,?_,?_,B3.keep m3 (Nat.le_refl _) λb h1 _=>LS.av _ _ (by have:=h1.1;omega)⟩ hP2
 ·exact aW.wk (kN (aW.wk t2.N λb hb=>⟨hb.1,hb.2.2.1,hb.2.1⟩)) λb hb=>⟨hb.1.1,hb.1.2.2,hb.2,λq=>q⟩
 ·exact aW.wk (kN (aW.wk t2.E λb hb=>⟨hb.1,hb.2.2.1,hb.2.1⟩)) λb hb=>⟨hb.1.1,hb.1.2.2,hb.2,λq=>q⟩
theorem dn.anM(W:j7 C S0 bs)(hM:Mem H S)(hs:bn C S r)(t:dn C S0 S bs kd a vn names vl l vb B bP)(hll:names.length≤1000000){X:AH→Prop}{f:List Nat→Nat→aj aw}
  (hP:aT C (ft C bs) (iz bs) K S0 (r.bind λ_ i=>(dS C.T i).bind f))
  (hX:∀(e:List Nat) (v':AV) (H':AH) (S':LS),Mem H' S'→bn C S' (r.bind λ_ i=>dS C.T i)→dn C S0 S' bs kd a v' (names++[e]) vl l vb B bP→aT C (ft C bs) (iz bs) K S0 ((r.bind λ_ i=>dS C.T i).bind λ_ j=>f e j)→X H') :
  aI (.ptr bs 0) (ag 2 (.ptr bs 0) λv9=>af v9 H λv10=>f57 (.ptr C.bp 0) H λmG bS=>cR K mG bS λv13=>af v9 bS λv14=>bT (bw v14 v10) (dx bS (one v13 (aX (ay bS) 1 1 [v13] λv15 fy=>bT (Nat.beq fy.n (Nat.succ bS.n)) (dw 1 16 v10 v15 fy λv17 ju=>aI (.ptr bs 0) (ag 2 (.ptr bs 0) λv19=>ak 1 v19 v17 ju X)))))):=by
 simp only[dL,aU,Nat.zero_add];refine aF hM t.ob (v:=vn) rfl ?_;have n0:=t.x.1;have L:=t.zV hM;have hlt:=W.lt;have hne:=W.ne;have hbp:=W.bp;refine s4 hM hs (aT.call (eD:=Ps) (bJ r _ _ ▸ hP) λe H2 S2 w m2 c2 d2 ⟨hw,h8⟩ hP2=>?_);subst hw;have t2:=t.keep W hM c2;have n2:=c2.1;refine aF m2 t2.ob (v:=vn) rfl ?_;refine cV t.N.same ?_;refine m2.dx ?_;refine fU (lf e) ?_;refine t2.N.pushB (R:=vu) (bytes:=16) m2 (a:=e) (c:=[ah e]) (Q:=λ_=>False) ⟨rfl,h8⟩ (λb hb=>hb.elim) (λb hb=>⟨by omega,λq=>by have:=(L.2.1 _ q).2;omega,λq=>by have:=(L.2.2 _ q).2;omega,λq=>q⟩) (by omega) λH3 S3 v' m3 B3 n3 k3 b3 afd=>?_;have c3:aJ (λb=>au vn b) S2 S3:=⟨n3,λb hb hx=>k3 b hb hx⟩
 have d3:bn C S3 _:=d2.keep m2 c3 (λq=>by have:=(L.1 _ q).1;omega) λb hb q=>by have:=(L.1 _ q).1;have:=W.vT b hb;omega
 have o3:S3.ob bs=.ce [.int 0 (kd:Int),.int 0 (a:Int),vn,vl,vb] 0:=c3.ob m2 t2.ob λq=>by have:=(L.1 _ q).1;omega
 refine cZ m3 o3 (by omega) (by show 2<5;omega) afd λH4 m4=>?_;have kN:∀{α:Type}{R:Rep α}{u v:AV}{q:List α},aW R (λb=>S0.n≤b∧¬au vn b∧¬au u b) S2 v q→aW R (λb=>(S0.n≤b∧¬au vn b∧¬au u b)∧¬au v' b) (S3.set bs (.ce ([.int 0 (kd:Int),.int 0 (a:Int),vn,vl,vb].set 2 v') 0)) v q:=λh=>
  (h.imp m2 λb hb hb2=>(⟨hb,λq=>(b3 b q).elim hb.2.1 λg=>by omega⟩:(S0.n≤b∧¬au vn b∧¬au _ b)∧¬au v' b)).keep m2 n3 λb h1 h2=>by
   rw[LS.av _ _ (by have:=h1.1.1;omega)];exact k3 b h2 h1.1.2.1
 refine hX e v' H4 _ m4 (d3.setB hne W.nT _) ⟨(t2.x.sS c3 λb hb=>.inr (L.1 _ hb).1).set (.inl (.inr rfl)) _,LS.aC _ _ _,B3.keep m3 (Nat.le_refl _) λb h1 _=>LS.av _ _ (by have:=h1.1;omega),?_,?_⟩ hP2
 ·exact aW.wk (kN (aW.wk t2.E λb hb=>⟨hb.1,hb.2.1,hb.2.2.1⟩)) λb hb=>⟨hb.1.1,hb.2,hb.1.2.2,λq=>q⟩
 ·exact aW.wk (kN (aW.wk t2.B λb hb=>⟨hb.1,hb.2.1,hb.2.2.1⟩)) λb hb=>⟨hb.1.1,hb.2,hb.1.2.2,λq=>q⟩
end
end
section
variable {H:AH}{S:LS}{K:KF}{C:Ctx}{i d:Nat}
section
variable {m k:Nat}{S0:LS}{bs kd a:Nat}{vn vl vb:AV}{names:List (List Nat)}{l:List ao}{B:List (List aw)}{γ:Type}{r:aj γ}
theorem dn.PD(O:gq C m)(hk:2*k+4≤m)(hd:d≤200)(W:j7 C S0 bs)(hM:Mem H S)(hs:bn C S r)(t:dn C S0 S bs kd a vn names vl l vb B bP){X:AV→AH→Prop}{f:ao→Nat→aj aw}
  (hP:aT C (ft C bs) (iz bs) K S0 (r.bind λ_ i=>(bQ C.T k i d).bind f))
  (hX:∀(e:ao) (b:Nat) (H':AH) (S':LS),Mem H' S'→bn C S' (r.bind λ_ i=>bQ C.T k i d)→dn C S0 S' bs kd a vn names vl l vb B (λx=>x=b)→aW kD (zS S0 vn vb bP) S' (.slice b 0 1 1 7 true) [e]→aT C (ft C bs) (iz bs) K S0 ((r.bind λ_ i=>bQ C.T k i d).bind λ_ j=>f e j)→X (.slice b 0 1 1 7 true) H') :
  (s10 m).2.1 (.ptr C.bp 0) (d:Int) H λo5 H6=>cR K o5 H6 λv7=>onVal v7 λl8=>gv l8 7 (aX (ay H6) 1 7 (spl l8 z7 0) X):=by
 have L:=t.zV hM;have n0:=t.x.1;refine O.exp k hk hd hM hs (aT.call (eD:=dW) (bJ r _ _ ▸ hP) λe H2 S2 w m2 c2 d2 ⟨c,hw,hR⟩ hP2=>?_);subst hw;have t2:=t.keep W hM c2;rw[ib];refine fT hR.len ?_;rw[II hR.len rfl];exact t2.newE W m2 hR (λb hb=>⟨by have:=hb.1;omega,hb.2,λq=>by have:=(L.1 _ q).2;have:=hb.1;omega,λq=>by have:=(L.2.2 _ q).2;have:=hb.1;omega⟩) d2 λH3 S3 m3 _ d3 t3 E3=>hX e S2.n H3 S3 m3 d3 t3 E3 hP2
theorem dn.Uc(O:gq C m)(hk:2*k+4≤m)(hd:d≤200)(W:j7 C S0 bs)(hM:Mem H S)(hs:bn C S r)(t:dn C S0 S bs kd a vn names vl l vb B bP){X:AV→AH→Prop}{f:List aw→Nat→aj aw}
  (hP:aT C (ft C bs) (iz bs) K S0 (r.bind λ_ i=>(cB C.T k i d).bind f))
  (hX:∀(e:List aw) (b:Nat) (H':AH) (S':LS),Mem H' S'→bn C S' (r.bind λ_ i=>cB C.T k i d)→dn C S0 S' bs kd a vn names vl l vb B (λx=>x=b)→aW ub (zS S0 vn vl bP) S' (.slice b 0 1 1 1 true) [e]→aT C (ft C bs) (iz bs) K S0 ((r.bind λ_ i=>cB C.T k i d).bind λ_ j=>f e j)→X (.slice b 0 1 1 1 true) H') :
  (s10 m).1 (.ptr C.bp 0) (d:Int) H λo5 H6=>cR K o5 H6 λv7=>one v7 (aX (ay H6) 1 1 [v7] X):=by
 have L:=t.zV hM;have n0:=t.x.1;refine O.block k hk hd hM hs (aT.call (eD:=gp) (bJ r _ _ ▸ hP) λe H2 S2 w m2 c2 d2 ⟨cb,hsl,hrs⟩ hP2=>?_);have t2:=t.keep W hM c2;refine fU hsl.one ?_;exact t2.anK W m2 (Q:=iy S.n S2.n) ⟨w,cb,rfl,hsl,hrs⟩ (λb hb=>⟨by have:=hb.1;omega,hb.2,λq=>by have:=(L.1 _ q).2;have:=hb.1;omega,λq=>by have:=(L.2.1 _ q).2;have:=hb.1;omega⟩) d2 λH3 S3 m3 _ d3 t3 E3=>hX e S2.n H3 S3 m3 d3 t3 E3 hP2
theorem dn.afe(W:j7 C S0 bs)(hM:Mem H S)(hs:bn C S r)(t:dn C S0 S bs kd a vn names vl l vb B bP){X:AV→AH→Prop}{f:List Nat→Nat→aj aw}
  (hP:aT C (ft C bs) (iz bs) K S0 (r.bind λ_ i=>(dS C.T i).bind f))
  (hX:∀(e:List Nat) (b:Nat) (H':AH) (S':LS),Mem H' S'→bn C S' (r.bind λ_ i=>dS C.T i)→dn C S0 S' bs kd a vn names vl l vb B (λx=>x=b)→aW vu (zS S0 vl vb bP) S' (.slice b 0 1 1 1 true) [e]→aT C (ft C bs) (iz bs) K S0 ((r.bind λ_ i=>dS C.T i).bind λ_ j=>f e j)→X (.slice b 0 1 1 1 true) H') :
  f57 (.ptr C.bp 0) H λo5 H6=>cR K o5 H6 λv7=>one v7 (aX (ay H6) 1 1 [v7] X):=by
 refine s4 hM hs (aT.call (eD:=Ps) (bJ r _ _ ▸ hP) λe H2 S2 w m2 c2 d2 ⟨hw,h8⟩ hP2=>?_);subst hw;refine fU (lf e) ?_;exact(t.keep W hM c2).anJ W m2 h8 d2 λH3 S3 m3 _ d3 t3 E3=>hX e S2.n H3 S3 m3 d3 t3 E3 hP2
theorem dn.must(W:j7 C S0 bs){s:List Nat}(h8:B8 s)(hM:Mem H S)(hs:bn C S r)(t:dn C S0 S bs kd a vn names vl l vb B bP){X:AH→Prop}{f:Nat→aj aw}
  (hP:aT C (ft C bs) (iz bs) K S0 (r.bind λ_ i=>(aR C.T s i).bind λ_ j=>f j))
  (hX:∀(H':AH) (S':LS),Mem H' S'→bn C S' (r.bind λ_ i=>aR C.T s i)→dn C S0 S' bs kd a vn names vl l vb B bP→aT C (ft C bs) (iz bs) K S0 ((r.bind λ_ i=>aR C.T s i).bind λ_ j=>f j)→X H') :
  f59 (.ptr C.bp 0) (ah s) H λo5 H6=>cR K o5 H6 λv7=>X H6:=
 kH h8 hM hs (aT.call (eD:=nY) (bJ r _ _ ▸ hP) λ_ H2 S2 w m2 c2 d2 _ hP2=>hX H2 S2 m2 d2 (t.keep W hM c2) hP2)
theorem dn.last(W:j7 C S0 bs){s:List Nat}(h8:B8 s)(h3:kd≠3)(hM:Mem H S)(hs:bn C S r)(t:dn C S0 S bs kd a vn names vl l vb B bP)
  (hP:aT C (ft C bs) (iz bs) K S0 (r.bind λ_ i=>(aR C.T s i).bind λ_ j=>dG C.T (.mk kd a names l B) j)) :
  f59 (.ptr C.bp 0) (ah s) H λo5 H6=>cR K o5 H6 λv7=>K (.ret (.bF [])) H6:=
 t.must W h8 hM hs hP λH2 S2 m2 d2 t2 hP2=>t2.fin m2 d2 h3 hP2
theorem aW.kb{α:Type}{R:Rep α}{u w v:AV}{q:List α}{S':LS}(W:j7 C S0 bs)(h:aW R (zS S0 u w bP) S v q)(hM:Mem H S)(hn:S'.n=S.n)(hk:∀b,b≠bs→S'.ob b=S.ob b):aW R (zS S0 u w bP) S' v q:=
 h.keep hM (Nat.le_of_eq hn.symm) λb h1 _=>hk b (by have:=W.lt;have:=h1.1;omega)
theorem PE(O:gq C m)(hk:2*k+4≤m)(hd:d≤200)(W:j7 C S0 bs)(h3:kd≠3)(hM:Mem H S)(hs:bn C S r)(t:dn C S0 S bs kd a vn names vl l .ab [] bP)
  (hP:aT C (ft C bs) (iz bs) K S0 (r.bind λ_ i=>(aR C.T [100,111] i).bind λ_ j=>(cB C.T k j d).bind λb j=>(aR C.T [101,110,100] j).bind λ_ j=>dG C.T (.mk kd a names l [b]) j)) :
  sZ (bg (s10 m)) K (.ptr C.bp 0) (.ptr bs 0) (d:Int) H:=by
 have r1:(bg (s10 m)).1=(s10 m).1:=rfl;have r9:(bg (s10 m)).2.2.2.2.2.2.2.2.1=f59:=rfl;show Ax (bg (s10 m)) K (.ptr C.bp 0) (.ptr bs 0) (d:Int) H;unfold Ax;rw[r1,r9];refine t.must W (s:=[100,111]) (bj (by decide)) hM hs hP λH1 S1 m1 d1 t1 hP1=>?_;refine t1.Uc O hk hd W m1 d1 hP1 λb bk H2 S2 m2 d2 t2 B2 hP2=>?_;refine t2.Hr W m2 B2 (λb hb=>hb) d2 λH3 S3 m3 n3 d3 k3 t3=>?_;exact t3.last W (s:=[101,110,100]) (bj (by decide)) h3 m3 d3 hP2
theorem amr(O:gq C m)(hk:2*k+4≤m)(hd:d≤200)(W:j7 C S0 bs)(h3:kd≠3)(hM:Mem H S)(hs:bn C S r)(t:dn C S0 S bs kd a vn names vl l .ab [] bP)
  (hP:aT C (ft C bs) (iz bs) K S0 (r.bind λ_ i=>(aR C.T [100,111] i).bind λ_ j=>(cB C.T k j d).bind λb j=>(aR C.T [101,110,100] j).bind λ_ j=>dG C.T (.mk kd a names l [b]) j)) :
  MU (bg (s10 m)) K (.ptr C.bp 0) (.ptr bs 0) (d:Int) H:=by
 have r1:(bg (s10 m)).1=(s10 m).1:=rfl;have r9:(bg (s10 m)).2.2.2.2.2.2.2.2.1=f59:=rfl;show D5 (bg (s10 m)) K (.ptr C.bp 0) (.ptr bs 0) (d:Int) H;unfold D5;rw[r1,r9];refine t.must W (s:=[100,111]) (bj (by decide)) hM hs hP λH1 S1 m1 d1 t1 hP1=>?_;refine t1.Uc O hk hd W m1 d1 hP1 λb bk H2 S2 m2 d2 t2 B2 hP2=>?_;refine t2.Hr W m2 B2 (λb hb=>hb) d2 λH3 S3 m3 n3 d3 k3 t3=>?_;exact t3.last W (s:=[101,110,100]) (bj (by decide)) h3 m3 d3 hP2
theorem alz(O:gq C m)(hk:2*k+4≤m)(hd:d≤200)(W:j7 C S0 bs)(h3:kd≠3)(hM:Mem H S)(hs:bn C S r)(t:dn C S0 S bs kd a vn names vl l .ab [] bP)
  (hP:aT C (ft C bs) (iz bs) K S0 (r.bind λ_ i=>(cB C.T k i d).bind λb j=>(aR C.T [101,110,100] j).bind λ_ j=>dG C.T (.mk kd a names l [b]) j)) :
  Ix (bg (s10 m)) K (.ptr C.bp 0) (.ptr bs 0) (d:Int) H:=by
 have r1:(bg (s10 m)).1=(s10 m).1:=rfl;have r9:(bg (s10 m)).2.2.2.2.2.2.2.2.1=f59:=rfl;show AB (bg (s10 m)) K (.ptr C.bp 0) (.ptr bs 0) (d:Int) H;unfold AB;rw[r1,r9];refine t.Uc O hk hd W hM hs hP λb bk H2 S2 m2 d2 t2 B2 hP2=>?_;refine t2.Hr W m2 B2 (λb hb=>hb) d2 λH3 S3 m3 n3 d3 k3 t3=>?_;exact t3.last W (s:=[101,110,100]) (bj (by decide)) h3 m3 d3 hP2
theorem ams(O:gq C m)(hk:2*k+4≤m)(hd:d≤200)(W:j7 C S0 bs)(hM:Mem H S)(hs:bn C S r)(t:dn C S0 S bs kd a vn names .ab [] vb B bP)
  (hP:aT C (ft C bs) (iz bs) K S0 (r.bind λ_ i=>(bQ C.T k i d).bind λe j=>dG C.T (.mk 8 a names [e] B) j)) :
  MX (bg (s10 m)) K (.ptr C.bp 0) (.ptr bs 0) (d:Int) H:=by
 have r6:(bg (s10 m)).2.2.2.2.2.1=(s10 m).2.1:=rfl;show Ea (bg (s10 m)) K (.ptr C.bp 0) (.ptr bs 0) (d:Int) H;unfold Ea;rw[r6];refine t.PD O hk hd W hM hs hP λe b H2 S2 m2 d2 t2 E2 hP2=>?_;refine t2.j6 W m2 (kd':=8) d2 λH3 S3 m3 n3 d3 k3 t3=>?_;refine t3.sj W m3 (aW.kb W E2 m2 n3 k3) (λb hb=>hb) d3 λH4 S4 m4 n4 d4 k4 t4=>?_;exact t4.fin m4 d4 (by omega) hP2
theorem amt(O:gq C m)(hk:2*k+4≤m)(hd:d≤200)(W:j7 C S0 bs)(hM:Mem H S)(hs:bn C S r)(t:dn C S0 S bs 1 a vn names .ab [] vb B bP)
  (hP:aT C (ft C bs) (iz bs) K S0 (r.bind λ_ j=>if isA C.T [61] j=true then (bQ C.T k (j+1) d).bind λe k=>dG C.T (.mk 1 a names [e] B) k else dG C.T (.mk 1 a names [] B) j)) :
  MW (bg (s10 m)) K (.ptr C.bp 0) (.ptr bs 0) (d:Int) H:=by
 have r4:(bg (s10 m)).2.2.2.1=f40:=rfl;have r6:(bg (s10 m)).2.2.2.2.2.1=(s10 m).2.1:=rfl;show D9 (bg (s10 m)) K (.ptr C.bp 0) (.ptr bs 0) (d:Int) H;unfold D9;rw[r4,r6];refine dB (s:=[61]) (bj (by decide)) hM hs (λy j er hi H1 S1 m1 c1 d1=>?_) λh1 H1 S1 m1 c1 d1=>?_
 ·cases er;simp only[ai,aM,aK];have hP:aT C (ft C bs) (iz bs) K S0 (if isA C.T [61] j=true then (bQ C.T k (j+1) d).bind λe k=>dG C.T (.mk 1 a names [e] B) k else dG C.T (.mk 1 a names [] B) j):=hP;rw[if_pos hi]at hP;refine(t.keep W hM c1).PD (r:=(.ok () (j+1):aj Unit)) O hk hd W m1 d1 hP λe b H2 S2 m2 d2 t2 E2 hP2=>?_;refine t2.sj W m2 E2 (λb hb=>hb) d2 λH4 S4 m4 n4 d4 k4 t4=>?_;exact t4.fin m4 d4 (by omega) hP2
 ·simp only[ai,aM,aG];rw[xW h1]at hP;exact(t.keep W hM c1).fin m1 d1 (by omega) hP
theorem amu(O:gq C m)(hk:2*k+4≤m)(hd:d≤200)(W:j7 C S0 bs)(h3:kd≠3)(hB:B.length≤1000000)(hM:Mem H S)(hs:bn C S r)(t:dn C S0 S bs kd a vn names vl l vb B bP)
  (hP:aT C (ft C bs) (iz bs) K S0 (r.bind λ_ j=>if isA C.T [101,108,115,101] j=true then (cB C.T k (j+1) d).bind λb2 j=>(aR C.T [101,110,100] j).bind λ_ j=>dG C.T (.mk kd a names l (B++[b2])) j else (aR C.T [101,110,100] j).bind λ_ j=>dG C.T (.mk kd a names l B) j)) :
  D1 (bg (s10 m)) K (.ptr C.bp 0) (.ptr bs 0) (d:Int) H:=by
 have r1:(bg (s10 m)).1=(s10 m).1:=rfl;have r4:(bg (s10 m)).2.2.2.1=f40:=rfl;have r9:(bg (s10 m)).2.2.2.2.2.2.2.2.1=f59:=rfl;show D0 (bg (s10 m)) K (MQ (bg (s10 m)) K) (.ptr C.bp 0) (.ptr bs 0) (d:Int) H;unfold D0;rw[r1,r4];refine dB (s:=[101,108,115,101]) (bj (by decide)) hM hs (λy j er hi H1 S1 m1 c1 d1=>?_) λh1 H1 S1 m1 c1 d1=>?_
 ·cases er;simp only[ai,aM,aK];have hP:aT C (ft C bs) (iz bs) K S0 (if isA C.T [101,108,115,101] j=true then (cB C.T k (j+1) d).bind λb2 j=>(aR C.T [101,110,100] j).bind λ_ j=>dG C.T (.mk kd a names l (B++[b2])) j else (aR C.T [101,110,100] j).bind λ_ j=>dG C.T (.mk kd a names l B) j):=hP;rw[if_pos hi]at hP;refine(t.keep W hM c1).aly (r:=(.ok () (j+1):aj Unit)) O hk hd W m1 d1 hB hP λe v' H2 S2 m2 d2 t2 hP2=>?_;show wh (bg (s10 m)) K (.ptr C.bp 0) H2;unfold wh;rw[r9];exact t2.last W (s:=[101,110,100]) (bj (by decide)) h3 m2 d2 hP2
 ·simp only[ai,aM,aG];rw[xW h1]at hP;show wh (bg (s10 m)) K (.ptr C.bp 0) H1;unfold wh;rw[r9];exact(t.keep W hM c1).last W (s:=[101,110,100]) (bj (by decide)) h3 m1 d1 hP
theorem amv(O:gq C m)(hd:d≤200)(W:j7 C S0 bs):∀k,2*k+4≤m+1→∀(q:Nat){γ:Type}(r:aj γ) (vl vb:AV) (l:List ao) (B:List (List aw)) (H:AH) (S:LS),k<q→l.length+k≤1000000→B.length+k≤1000000→Mem H S→bn C S r→dn C S0 S bs 4 a .ab [] vl l vb B bP→
  (∀x i,r=.ok x i→True)→aT C (ft C bs) (iz bs) K S0 (r.bind λ_ i=>(eN C.T k a l B i d).bind λs j=>dG C.T s j)→(k=0→∃x i,r=.ok x i)→tG (bg (s10 m)) K q (.ptr C.bp 0) (.ptr bs 0) (d:Int) H:=by
 intro k
 induction k with
 |zero=>
  intro hk q γ r vl vb l B H S hq hl hB hM hs t _ hP h0;obtain⟨x,i,rfl⟩:=h0 rfl;exact absurd (show(eN C.T 0 a l B i d).bind _=.aO by simp only[eN];rfl) hP.1
 |succ k ih=>
  intro hk q γ r vl vb l B H S hq hl hB hM hs t _ hP h0;obtain⟨q,rfl⟩:∃p,q=p+1:=⟨q-1,by omega⟩
  have r1:(bg (s10 m)).1=(s10 m).1:=rfl;have r4:(bg (s10 m)).2.2.2.1=f40:=rfl;have r6:(bg (s10 m)).2.2.2.2.2.1=(s10 m).2.1:=rfl;have r9:(bg (s10 m)).2.2.2.2.2.2.2.2.1=f59:=rfl;show D4 (bg (s10 m)) K (MT (bg (s10 m)) K (tG (bg (s10 m)) K q)) (.ptr C.bp 0) (.ptr bs 0) (d:Int) H;unfold D4;rw[r6];simp only[eN,bJ]at hP;refine t.afc O (k:=k) (by omega) hd W hM hs (by omega) hP λe v' H1 S1 m1 d1 t1 hP1=>?_;show D3 (bg (s10 m)) K (MS (bg (s10 m)) K (tG (bg (s10 m)) K q)) (.ptr C.bp 0) (.ptr bs 0) (d:Int) H1;unfold D3;rw[r1,r9];refine t1.must W (s:=[116,104,101,110]) (bj (by decide)) m1 d1 hP1 λH2 S2 m2 d2 t2 hP2=>?_;refine t2.aly O (k:=k) (by omega) hd W m2 d2 (by omega) hP2 λb v2 H3 S3 m3 d3 t3 hP3=>?_;show D2 (bg (s10 m)) K (tG (bg (s10 m)) K q) (D1 (bg (s10 m)) K) (.ptr C.bp 0) (.ptr bs 0) (d:Int) H3;unfold D2;rw[r4];refine dB (s:=[101,108,115,101,105,102]) (bj (by decide)) m3 d3 (λy j er hi H4 S4 m4 c4 d4=>?_) λh1 H4 S4 m4 c4 d4=>?_
  ·rw[er]at hP3;simp only[ai,aM,Bool.not_true,aG];have hP3:aT C (ft C bs) (iz bs) K S0 ((if isA C.T [101,108,115,101,105,102] j=true then eN C.T k a (l++[e]) (B++[b]) (j+1) d else if isA C.T [101,108,115,101] j=true then (cB C.T k (j+1) d).bind λb2 j=>(aR C.T [101,110,100] j).bind λ_ j=>.ok (.mk 4 a [] (l++[e]) (B++[b]++[b2])) j else (aR C.T [101,110,100] j).bind λ_ j=>.ok (.mk 4 a [] (l++[e]) (B++[b])) j).bind λs j=>dG C.T s j):=hP3;rw[if_pos hi]at hP3;exact ih (by omega) q (.ok () (j+1):aj Unit) v' v2 (l++[e]) (B++[b]) H4 S4 (by omega) (by simp;omega) (by simp;omega) m4 d4 (t3.keep W m3 c4) (λ_ _ _=>trivial) hP3 λ_=>⟨_,_,rfl⟩
  ·simp only[ai,aM,Bool.not_false,aK];refine amu (k:=k) O (by omega) hd W (by omega) (by simp;omega) m4 d4 (t3.keep W m3 c4) ?_;have sp:∀r':aj (List aw),pU C.T [101,108,115,101,105,102] r'=false→(r'.bind λ_ j=>(if isA C.T [101,108,115,101,105,102] j=true then eN C.T k a (l++[e]) (B++[b]) (j+1) d else if isA C.T [101,108,115,101] j=true then (cB C.T k (j+1) d).bind λb2 j=>(aR C.T [101,110,100] j).bind λ_ j=>.ok (.mk 4 a [] (l++[e]) (B++[b]++[b2])) j else (aR C.T [101,110,100] j).bind λ_ j=>.ok (.mk 4 a [] (l++[e]) (B++[b])) j).bind λs j=>dG C.T s j)=r'.bind λ_ j=>if isA C.T [101,108,115,101] j=true then (cB C.T k (j+1) d).bind λb2 j=>(aR C.T [101,110,100] j).bind λ_ j=>dG C.T (.mk 4 a [] (l++[e]) (B++[b]++[b2])) j else (aR C.T [101,110,100] j).bind λ_ j=>dG C.T (.mk 4 a [] (l++[e]) (B++[b])) j:=by
    intro r' h;cases r' with
    |aO=>rfl
    |err c i=>rfl
    |ok y j=>
     have h2:isA C.T [101,108,115,101,105,102] j=false:=h;show aj.bind (if isA C.T [101,108,115,101,105,102] j=true then _ else _) _=_;rw[if_neg (by rw[h2];simp)];show aj.bind (if isA C.T [101,108,115,101] j=true then _ else _) _=if isA C.T [101,108,115,101] j=true then _ else _
     split
     ·simp only[bJ];rfl
     ·simp only[bJ];rfl
   rw[←sp _ h1];exact hP3
end
end
section
variable {H:AH}{S:LS}{K:KF}{C:Ctx}{i d:Nat}
section
variable {m k:Nat}{S0:LS}{bs kd a:Nat}{vn vl vb:AV}{names:List (List Nat)}{l:List ao}{B:List (List aw)}{γ:Type}{r:aj γ}
theorem zW{T:List Tok}(h:(r.bind λ_ j=>(cD T k kd a names l j d).bind λs j=>dG T s j)≠.aO):(r.bind λ_ j=>(cD T k kd a names l j d).bind λs j=>dG T s j)=r.bind λ_ j=>(aR T [100,111] j).bind λ_ j=>(cB T (k-1) j d).bind λb j=>(aR T [101,110,100] j).bind λ_ j=>dG T (.mk kd a names l [b]) j:=by
 cases r with
 |aO=>rfl
 |err c i=>rfl
 |ok y j=>
  cases k with
  |zero=>exact absurd (show(cD T 0 kd a names l j d).bind (λs j=>dG T s j)=.aO by simp only[cD];rfl) h
  |succ k=>
   show(cD T (k+1) kd a names l j d).bind (λs j=>dG T s j)=_;simp only[cD,bJ];rfl
theorem amw(O:gq C m)(hk:2*k+4≤m)(hd:d≤200)(W:j7 C S0 bs){s:List Nat}(hM:Mem H S)(hs:bn C S r)(t:dn C S0 S bs 0 a vn [s] .ab [] .ab [] bP)
  (hP:aT C (ft C bs) (iz bs) K S0 (r.bind λ_ j=>(if isA C.T [44] j=true then (dS C.T (j+1)).bind λRK j=>(aR C.T [105,110] j).bind λ_ j=>(bQ C.T k j d).bind λe j=>cD C.T k 7 a [s,RK] [e] j d
   else (aR C.T [61] j).bind λ_ j=>(bQ C.T k j d).bind λe j=>(aR C.T [44] j).bind λ_ j=>(bQ C.T k j d).bind λe2 j=>if isA C.T [44] j=true then (bQ C.T k (j+1) d).bind λe3 j=>cD C.T k 6 a [s] [e,e2,e3] j d else cD C.T k 6 a [s] [e,e2] j d).bind λs j=>dG C.T s j)) :
  MV (bg (s10 m)) K (.ptr C.bp 0) (.ptr bs 0) (d:Int) H:=by
 have r4:(bg (s10 m)).2.2.2.1=f40:=rfl;have r6:(bg (s10 m)).2.2.2.2.2.1=(s10 m).2.1:=rfl;have r7:(bg (s10 m)).2.2.2.2.2.2.1=f57:=rfl;have r9:(bg (s10 m)).2.2.2.2.2.2.2.2.1=f59:=rfl;show D7 (bg (s10 m)) K (Iu (bg (s10 m)) K) (Iw (bg (s10 m)) K) (.ptr C.bp 0) (.ptr bs 0) (d:Int) H;unfold D7;rw[r4,r6,r7,r9];refine t.j6 W hM (kd':=6) hs λH1 S1 m1 n1 d1 k1 t1=>?_;refine dB (s:=[44]) (bj (by decide)) m1 d1 (λy j er hi H2 S2 m2 c2 d2=>?_) λh1 H2 S2 m2 c2 d2=>?_
 ·cases er;simp only[ai,aM,aK];have t2:=t1.keep W m1 c2;have hP:aT C (ft C bs) (iz bs) K S0 ((if isA C.T [44] j=true then (dS C.T (j+1)).bind λRK j=>(aR C.T [105,110] j).bind λ_ j=>(bQ C.T k j d).bind λe j=>cD C.T k 7 a [s,RK] [e] j d
   else (aR C.T [61] j).bind λ_ j=>(bQ C.T k j d).bind λe j=>(aR C.T [44] j).bind λ_ j=>(bQ C.T k j d).bind λe2 j=>if isA C.T [44] j=true then (bQ C.T k (j+1) d).bind λe3 j=>cD C.T k 6 a [s] [e,e2,e3] j d else cD C.T k 6 a [s] [e,e2] j d).bind λs j=>dG C.T s j):=hP
  rw[if_pos hi]at hP;simp only[bJ]at hP;refine t2.j6 W m2 (kd':=7) d2 λH3 S3 m3 n3 d3 k3 t3=>?_;refine t3.anM W m3 d3 (by simp) (r:=(.ok () (j+1):aj Unit)) hP λRK v' H4 S4 m4 d4 t4 wZ=>?_;show Ay (bg (s10 m)) K (sZ (bg (s10 m)) K) (.ptr C.bp 0) (.ptr bs 0) (d:Int) H4;unfold Ay;rw[r6,r9];refine t4.must W (s:=[105,110]) (bj (by decide)) m4 d4 wZ λH5 S5 m5 d5 t5 u7=>?_;refine t5.PD O hk hd W m5 d5 u7 λe b H6 S6 m6 d6 t6 E6 Hq=>?_;refine t6.sj W m6 E6 (λb hb=>hb) d6 λH7 S7 m7 n7 d7 k7 t7=>?_;rw[zW Hq.1]at Hq;exact PE (k:=k-1) O (by omega) hd W (by omega) m7 d7 t7 Hq
 ·simp only[ai,aM,aG];have t2:=t1.keep W m1 c2;have sp:(r.bind λ_ j=>(if isA C.T [44] j=true then (dS C.T (j+1)).bind λRK j=>(aR C.T [105,110] j).bind λ_ j=>(bQ C.T k j d).bind λe j=>cD C.T k 7 a [s,RK] [e] j d
   else (aR C.T [61] j).bind λ_ j=>(bQ C.T k j d).bind λe j=>(aR C.T [44] j).bind λ_ j=>(bQ C.T k j d).bind λe2 j=>if isA C.T [44] j=true then (bQ C.T k (j+1) d).bind λe3 j=>cD C.T k 6 a [s] [e,e2,e3] j d else cD C.T k 6 a [s] [e,e2] j d).bind λs j=>dG C.T s j)=r.bind λ_ j=>(aR C.T [61] j).bind λ_ j=>(bQ C.T k j d).bind λe j=>(aR C.T [44] j).bind λ_ j=>(bQ C.T k j d).bind λe2 j=>(if isA C.T [44] j=true then (bQ C.T k (j+1) d).bind λe3 j=>cD C.T k 6 a [s] [e,e2,e3] j d else cD C.T k 6 a [s] [e,e2] j d).bind λs j=>dG C.T s j:=by
   cases r with
   |aO=>rfl
   |err c i=>rfl
   |ok y j=>
    have h2:isA C.T [44] j=false:=h1;show aj.bind (if isA C.T [44] j=true then _ else _) _=_;rw[if_neg (by rw[h2];simp)];simp only[bJ];rfl
  rw[sp]at hP;refine t2.must W (s:=[61]) (bj (by decide)) m2 d2 hP λH3 S3 m3 d3 t3 hP3=>?_;refine t3.PD O hk hd W m3 d3 hP3 λe b H4 S4 m4 d4 t4 E4 wZ=>?_;refine t4.sj W m4 E4 (λb hb=>hb) d4 λH5 S5 m5 n5 d5 k5 t5=>?_;show AA (bg (s10 m)) K (Iv (bg (s10 m)) K) (.ptr C.bp 0) (.ptr bs 0) (d:Int) H5;unfold AA;rw[r6,r9];refine t5.must W (s:=[44]) (bj (by decide)) m5 d5 wZ λH6 S6 m6 d6 t6 Hq=>?_;refine t6.afc O hk hd W m6 d6 (by simp) Hq λe2 v' H7 S7 m7 d7 t7 yr=>?_;show Az (bg (s10 m)) K (sZ (bg (s10 m)) K) (.ptr C.bp 0) (.ptr bs 0) (d:Int) H7;unfold Az;rw[r4,r6];refine dB (s:=[44]) (bj (by decide)) m7 d7 (λy j er hi H8 S8 m8 c8 d8=>?_) λh2 H8 S8 m8 c8 d8=>?_
  ·rw[er]at yr;simp only[ai,aM,aK];have yr:aT C (ft C bs) (iz bs) K S0 ((if isA C.T [44] j=true then (bQ C.T k (j+1) d).bind λe3 j=>cD C.T k 6 a [s] [e,e2,e3] j d else cD C.T k 6 a [s] [e,e2] j d).bind λs j=>dG C.T s j):=yr;rw[if_pos hi,bJ]at yr;refine(t7.keep W m7 c8).afc O hk hd W m8 d8 (by simp) (r:=(.ok () (j+1):aj Unit)) yr λe3 v3 H9 S9 m9 d9 t7 PG=>?_;have PG:aT C (ft C bs) (iz bs) K S0 (((aj.ok () (j+1)).bind λ_ i=>bQ C.T k i d).bind λ_ j=>(cD C.T k 6 a [s] [e,e2,e3] j d).bind λs j=>dG C.T s j):=PG;rw[zW PG.1]at PG;exact PE (k:=k-1) O (by omega) hd W (by omega) m9 d9 t7 PG
  ·simp only[ai,aM,aG];have sp2:∀r':aj ao,pU C.T [44] r'=false→(r'.bind λ_ j=>(if isA C.T [44] j=true then (bQ C.T k (j+1) d).bind λe3 j=>cD C.T k 6 a [s] [e,e2,e3] j d else cD C.T k 6 a [s] [e,e2] j d).bind λs j=>dG C.T s j)=r'.bind λ_ j=>(cD C.T k 6 a [s] [e,e2] j d).bind λs j=>dG C.T s j:=by
    intro r' h;cases r' with
    |aO=>rfl
    |err c i=>rfl
    |ok y j=>
     have h3:isA C.T [44] j=false:=h;show aj.bind (if isA C.T [44] j=true then _ else _) _=_;rw[if_neg (by rw[h3];simp)];rfl
   have Ht:=yr;rw[sp2 _ h2]at Ht;rw[zW Ht.1]at Ht;exact PE (k:=k-1) O (by omega) hd W (by omega) m8 d8 (t7.keep W m7 c8) Ht
theorem adw(O:gq C m)(hk:2*k+4≤m)(hd:d≤200)(W:j7 C S0 bs){b8:Nat}{c:List AV}{e:ao}{Q:Nat→Prop}(hM:Mem H S)(hs:bn C S r)(t:dn C S0 S bs 0 a .ab [] .ab [] .ab [] bP)(ho:S.ob b8=.ce c 0)(hb8:S0.n≤b8)(hR:RE S Q c e)(hQ:∀b,Q b→S0.n≤b∧b<S.n)
  (hP:aT C (ft C bs) (iz bs) K S0 (r.bind λ_ j=>(aR C.T [61] j).bind λ_ j=>(bQ C.T k j d).bind λv j=>dG C.T (.mk 2 a [] [e,v] []) j)) :
  AG (bg (s10 m)) K (.ptr C.bp 0) (.ptr bs 0) (d:Int) (.ptr b8 0) H:=by
 have r6:(bg (s10 m)).2.2.2.2.2.1=(s10 m).2.1:=rfl;have r9:(bg (s10 m)).2.2.2.2.2.2.2.2.1=f59:=rfl;show AF (bg (s10 m)) K (.ptr C.bp 0) (.ptr bs 0) (d:Int) (.ptr b8 0) H;unfold AF;rw[r6,r9];have hlt:=W.lt;have hbp:=W.bp;have n0:=t.x.1;have lt8:b8<S.n:=hM.lt (by rw[ho];simp);have nb:∀b,S0.n≤b→¬bA C b:=λb hb q=>by have q:b=C.bp:=q;omega
 refine kH (s:=[61]) (bj (by decide)) hM hs (aT.call (eD:=nY) hP.seq λ_ H1 S1 w m1 c1 d1 _ hP1=>?_);have t1:=t.keep W hM c1;have o1:=c1.ob hM ho (nb _ hb8);have R1:RE S1 Q c e:=hR.go (λb hb=>c1.2 b (hQ b hb).2 (nb b (hQ b hb).1)) λ_ h=>h;refine gy m1 o1 R1.len ?_;refine O.exp k hk hd m1 d1 (aT.call (eD:=dW) hP1.seq λv H2 S2 w m2 c2 d2 ⟨cv,hw,hRv⟩ hP2=>?_);subst hw;have t2:=t1.keep W m1 c2;have o2:=c2.ob m1 o1 (nb _ hb8);have n1:=c1.1;have R2:RE S2 Q c e:=R1.go (λb hb=>c2.2 b (Nat.lt_of_lt_of_le (hQ b hb).2 n1) (nb b (hQ b hb).1)) λ_ h=>h;have n2:=c2.1;refine gy m2 o2 R2.len ?_;refine cV R2.same ?_;refine m2.dx ?_;simp only[ib];refine fT R2.len (fT hRv.len ?_);rw[AS R2.len hRv.len rfl];refine t2.amq W m2 (Q:=λb=>S0.n≤b∧b<S2.n) (R2.go (λ_ _=>rfl) λb hb=>⟨(hQ b hb).1,by have:=(hQ b hb).2;omega⟩) (hRv.go (λ_ _=>rfl) λb hb=>⟨by have:=hb.1;omega,hb.2⟩) (λb hb=>⟨hb.1,hb.2,λq=>q,λq=>q⟩) d2 λH3 S3 m3 n3 d3 t3 E3 k3=>?_;refine cV (sr (by rw[m3.n,m2.n,n3])) ?_;have o3:S3.ob b8=.ce c 0:=(k3 b8 (by omega)).trans o2;refine t3.j6 W m3 (kd':=2) d3 λH4 S4 m4 n4 d4 k4 t4=>?_;refine gy m4 ((k4 b8 (by omega)).trans o3) R2.len ?_;refine cV R2.same ?_;refine t4.sj W m4 (aW.kb W E3 m3 n4 k4) (λb hb=>hb) d4 λH5 S5 m5 n5 d5 k5 t5=>?_;exact t5.fin m5 d5 (by omega) hP2
theorem alA(W:j7 C S0 bs){b8:Nat}{c:List AV}{e:ao}{Q:Nat→Prop}(hM:Mem H S)(hs:bn C S r)(t:dn C S0 S bs 0 a .ab [] .ab [] .ab [] bP)(ho:S.ob b8=.ce c 0)(hb8:S0.n≤b8)(hR:RE S Q c e)(hQ:∀b,Q b→S0.n≤b∧b<S.n)
  (hP:aT C (ft C bs) (iz bs) K S0 (r.bind λ_ j=>.ok (.mk 3 a [] [e] []) j)) :
  AE (bg (s10 m)) K (.ptr bs 0) (.ptr b8 0) H:=by
 show AD (bg (s10 m)) K (.ptr bs 0) (.ptr b8 0) H;unfold AD;have hlt:=W.lt;have lt8:b8<S.n:=hM.lt (by rw[ho];simp);refine gy hM ho hR.len ?_;refine hM.dx ?_;rw[ib];refine fT hR.len ?_;rw[II hR.len rfl];refine eI hM (by rw[hR.len]) hR.ones λH1 m1=>cV (sr (by rw[m1.n,hM.n];rfl)) ?_;have n0:=t.x.1;have L:=t.zV hM;have c1:aJ bP S (S.push (.ce c 0)):=(aJ.refl _ _).push _;have d1:=hs.ic hM c1;have t1:=((t.res hM (X':=λb=>b=S.n) λb hb=>.inr (by have hb:b=S.n:=hb;omega)).keep W hM c1.no)
 have E1:aW kD (zS S0 .ab .ab bP) (S.push (.ce c 0)) (.slice S.n 0 1 1 7 true) [e]:=
  aW.single (R:=kD) (Q:=Q) (LS.ax _ _) ⟨n0,λq=>q,λq=>q,λq=>q⟩ (hR.go (λb hb=>LS.bC _ _ (hQ b hb).2) λ_ h=>h) λx hx=>⟨⟨(hQ x hx).1,λq=>q,λq=>q,λq=>q⟩,Nat.lt_succ_of_lt (hQ x hx).2,by have:=(hQ x hx).2;omega⟩
 have o1:(S.push (.ce c 0)).ob b8=.ce c 0:=(LS.bC _ _ lt8).trans ho;refine t1.j6 W m1 (kd':=3) d1 λH2 S2 m2 n2 d2 k2 t2=>?_;refine gy m2 ((k2 b8 (by omega)).trans o1) hR.len ?_;refine cV hR.same ?_;refine t2.sj W m2 (aW.kb W E1 m1 n2 k2) (λb hb=>hb) d2 λH3 S3 m3 n3 d3 k3 t3=>?_;exact hP.2 H3 S3 _ _ m3 t3.x (d3.ret _) ⟨rfl,_,t3.ob,t3.rst m3⟩ qq
theorem alB(O:gq C m)(hk:2*k+4≤m)(hd:d≤200)(W:j7 C S0 bs){b8:Nat}{c:List AV}{e:ao}{Q:Nat→Prop}(hM:Mem H S)(hs:bn C S r)(t:dn C S0 S bs 0 a .ab [] .ab [] .ab [] bP)(ho:S.ob b8=.ce c 0)(hb8:S0.n≤b8)(hR:RE S Q c e)(hQ:∀b,Q b→S0.n≤b∧b<S.n)
  (hP:aT C (ft C bs) (iz bs) K S0 (r.bind λ_ j=>(if e.kind=10 then .ok (.mk 3 a [] [e] []) j else (aR C.T [61] j).bind λ_ j=>(bQ C.T k j d).bind λv j=>.ok (.mk 2 a [] [e,v] []) j).bind λs j=>dG C.T s j)) :
  Iy (bg (s10 m)) K (.ptr C.bp 0) (.ptr bs 0) (d:Int) (.ptr b8 0) H:=by
 have r2:(bg (s10 m)).2.1=f18:=rfl;have r5:(bg (s10 m)).2.2.2.2.1=f41:=rfl;have e10:Int.ofNat 10=((10:Nat):Int):=rfl;show AI (bg (s10 m)) K (AE (bg (s10 m)) K) (AG (bg (s10 m)) K) (.ptr C.bp 0) (.ptr bs 0) (d:Int) (.ptr b8 0) H;unfold AI;rw[r2,r5];have hlt:=W.lt;have hbp:=W.bp;have nb:∀b,S0.n≤b→¬bA C b:=λb hb q=>by have q:b=C.bp:=q;omega
 obtain⟨cr,hcr⟩:=hR.k0;have knd:∀{H:AH}{S:LS}{P Q:Prop},Mem H S→S.ob b8=.ce c 0→bI (decide ((e.kind:Int)=((10:Nat):Int))) P Q→ag 0 (.ptr b8 0) λv1=>af v1 H λv2=>cI 0 v2 λz3=>bI (cA z3 (.ofNat 10)) P Q:=by
  intro H S P Q hM ho h;rw[aU,Nat.zero_add];refine aF hM ho (v:=.int 0 (e.kind:Int)) (by rw[hcr];rfl) ?_;rw[aQ,bD,e10];exact h
 refine knd hM ho ?_;by_cases g:e.kind=10
 ·rw[decide_eq_true (by omega),aK];simp only[if_pos g]at hP;refine sT (s:=[61]) (bj (by decide)) hM hs λH1 S1 m1 c1 d1=>?_;rw[ai,aM];have t1:=t.keep W hM c1.no;have o1:=c1.ob hM ho λq=>q;have R1:RE S1 Q c e:=hR.go (λb hb=>c1.2 b (hQ b hb).2 λq=>q) λ_ h=>h;have Q1:∀b,Q b→S0.n≤b∧b<S1.n:=λb hb=>⟨(hQ b hb).1,Nat.lt_of_lt_of_le (hQ b hb).2 c1.1⟩
  cases hi:pU C.T [61] r with
  |false=>
   simp only[Bool.not_false,aK];refine alA W m1 d1 t1 o1 hb8 R1 Q1 ?_;have sp:(r.bind λ_ j=>(aj.ok (aw.mk 3 a [] [e] []) j).bind λs j=>dG C.T s j)=r.bind λ_ j=>.ok (.mk 3 a [] [e] []) j:=by
    cases r with
    |aO=>rfl
    |err c i=>rfl
    |ok y j=>
     have h3:isA C.T [61] j=false:=hi;show dG C.T (.mk 3 a [] [e] []) j=.ok _ j;unfold dG;rw[if_neg (by rw[h3];simp)]
   rw[←sp];exact hP
  |true=>
   obtain⟨y,j,rfl,hj⟩:=Cd hi;simp only[Bool.not_true,aG];refine knd m1 o1 ?_;rw[decide_eq_true (by omega),aK];refine qU (c:=14) (by omega) (by omega) m1 d1 λH2 S2 m2 c2 d2=>?_;rw[ai];have hP:aT C (ft C bs) (iz bs) K S0 (dG C.T (.mk 3 a [] [e] []) j):=hP;unfold dG at hP;rw[if_pos ⟨rfl,hj⟩]at hP;exact adw (r:=(aj.err 14 j:aj Unit)) O hk hd W m2 d2 (t1.keep W m1 c2) (c2.ob m1 o1 (nb _ hb8)) hb8 (R1.go (λb hb=>c2.2 b (Q1 b hb).2 (nb b (Q1 b hb).1)) λ_ h=>h) (λb hb=>⟨(Q1 b hb).1,Nat.lt_of_lt_of_le (Q1 b hb).2 c2.1⟩) hP
 ·rw[decide_eq_false (by omega),aG];refine knd hM ho ?_;rw[decide_eq_false (by omega),aG];simp only[if_neg g,bJ]at hP;exact adw O hk hd W hM hs t ho hb8 hR hQ hP
end
end
section
variable {H:AH}{S:LS}{K:KF}{C:Ctx}{i d:Nat}
theorem x71{m:Nat}(hm:m≤1000000)(O:gq C m):∀k,2*k+4≤m+1→∀{K:KF}{H:AH}{S:LS}{i d bs:Nat}{γ:Type}{x:γ},d≤200→Mem H S→bn C S (aj.ok x i)→isA C.T [114,101,116,117,114,110] i=false→S.ob bs=.ce [.int 0 0,.int 0 (aq C.T i:Int),.ab,.ab,.ab] 0→bs≠C.bp→(∀b,au C.vT b→b≠bs)→aT C (ft C bs) (iz bs) K S (AZ C.T k i d)→(s10 (m+1)).2.2.1 (.ptr C.bp 0) (.ptr bs 0) (d:Int) H K:=by
 intro k hk K H S i d bs γ x hd hM hs hret hob hne hnT hP;cases k with
 |zero=>exact absurd (show AZ C.T 0 i d=.aO by unfold AZ;simp only[fR];rfl) hP.1
 |succ k=>
 have r1:(bg (s10 m)).1=(s10 m).1:=rfl;have r3:(bg (s10 m)).2.2.1=f39:=rfl;have r4:(bg (s10 m)).2.2.2.1=f40:=rfl;have r6:(bg (s10 m)).2.2.2.2.2.1=(s10 m).2.1:=rfl;have r7:(bg (s10 m)).2.2.2.2.2.2.1=f57:=rfl;have r8:(bg (s10 m)).2.2.2.2.2.2.2.1=(s10 m).2.2.2.2.1:=rfl;have r9:(bg (s10 m)).2.2.2.2.2.2.2.2.1=f59:=rfl;have r10:(bg (s10 m)).2.2.2.2.2.2.2.2.2=(s10 m).2.2.2.2.2.1:=rfl;have e7:(s10 (m+1)).2.2.1=Eb (bg (s10 m)):=by rw[A0]
 rw[e7];unfold Eb WH MY;rw[r1,r3,r4,r6,r7,r8,r9,r10];have fV:G.NL=1000000:=rfl;generalize G.NL=fb at fV ⊢;have W:j7 C S bs:=⟨hM.lt (by rw[hob];simp),hne,hnT,hs.nW hM,λb hb=>hs.tk.lt hM hb⟩
 have hlt:=W.lt;have t:dn C S S bs 0 (aq C.T i) .ab [] .ab [] .ab [] bP:=⟨aJ.refl _ _,hob,aW.nil _ _ _,aW.nil _ _ _,aW.nil _ _ _⟩
 have hP:aT C (ft C bs) (iz bs) K S ((fR C.T (k+1) i d).bind λs j=>dG C.T s j):=hP;simp only[fR]at hP;refine dB (s:=[108,111,99,97,108]) (bj (by decide)) hM hs (λy j er hi H1 S1 m1 c1 d1=>?_) λh1 H1 S1 m1 c1 d1=>?_
 ·cases er;simp only[ai,aM,aK];rw[if_pos hi]at hP;have t1:=t.keep W hM c1;cases k with
  |zero=>exact absurd (show(iR C.T 0 (aq C.T i) (i+1) d).bind (λs j=>dG C.T s j)=.aO by simp only[iR];rfl) hP.1
  |succ k=>
  simp only[iR]at hP;refine dB (s:=[102,117,110,99,116,105,111,110]) (bj (by decide)) m1 d1 (λy j er hi2 H2 S2 m2 c2 d2=>?_) λh2 H2 S2 m2 c2 d2=>?_
  ·cases er;simp only[ai,aM,aK];rw[if_pos hi2,bJ]at hP;have t2:=t1.keep W m1 c2;refine t2.afe (r:=(.ok () (i+1+1):aj Unit)) W m2 d2 hP λs b H3 S3 m3 d3 t3 N3 hP3=>?_;refine t3.PC W m3 N3 (λb hb=>hb) d3 λH4 S4 m4 n4 d4 k4 t4=>?_;refine ll m4 d4 ?_;rw[ai,aQ];have sp:∀r':aj (List Nat),(r'.bind λ_ j=>((iN C.T k (aq C.T j) j d).bind λb j=>aj.ok (aw.mk 12 (aq C.T i) [s] [b] []) j).bind λs j=>dG C.T s j)≠.aO→(r'.bind λ_ j=>((iN C.T k (aq C.T j) j d).bind λb j=>aj.ok (aw.mk 12 (aq C.T i) [s] [b] []) j).bind λs j=>dG C.T s j)=r'.bind λ_ j=>(pFn C.T (k-1) j d).bind λf j=>dG C.T (.mk 12 (aq C.T i) [s] [.mk 7 (aq C.T r'.ix) 0 [] 0 [] [f]] []) j:=by
    intro r' h;cases r' with
    |aO=>rfl
    |err c i=>rfl
    |ok y j=>
     cases k with
     |zero=>exact absurd (show((iN C.T 0 (aq C.T j) j d).bind λb j=>aj.ok (aw.mk 12 (aq C.T i) [s] [b] []) j).bind (λs j=>dG C.T s j)=.aO by simp only[iN];rfl) h
     |succ k=>
      show((iN C.T (k+1) (aq C.T j) j d).bind λb j=>aj.ok (aw.mk 12 (aq C.T i) [s] [b] []) j).bind (λs j=>dG C.T s j)=_;rw[Rz];simp only[bJ];rfl
   rw[sp _ hP3.1]at hP3;have L4:=t4.zV m4;refine O.body (k-1) (by omega) hd m4 d4 (aT.call (eD:=sB) hP3.seq λf H5 S5 w m5 c5 d5 ⟨c,hw,hR⟩ u7=>?_);subst hw;have t5:=t4.keep W m4 c5;rw[ib];refine fT hR.len ?_;rw[T8 hR.len rfl];refine eI m5 (by rw[hR.len]) hR.ones λH6 m6=>?_;refine fU rfl ?_;have c6:aJ bP S5 (S5.push (.ce c 0)):=(aJ.refl _ _).push _;have t6:=t5.keep W m5 c6.no;have d6:=d5.ic m5 c6;have n4:=t4.x.1;have n5:=c5.1;have hRf:RE (S5.push (.ce c 0)) (λb=>S4.n≤b∧b<S5.n+1) [.int 0 ((7:Nat):Int),.int 0 (aq C.T (((aj.ok () (i+1+1)).bind λ_ i=>dS C.T i).ix):Int),.int 0 ((0:Nat):Int),ah [],.int 0 ((0:Nat):Int),.ab,.slice S5.n 0 1 1 2 true] (.mk 7 (aq C.T (((aj.ok () (i+1+1)).bind λ_ i=>dS C.T i).ix)) 0 [] 0 [] [f]):=
    RE.fn (b:=S5.n) (m:=0) ⟨by omega,by omega⟩ (LS.ax _ _) (hR.go (λb hb=>LS.bC _ _ hb.2) λb hb=>⟨hb.1,by have:=hb.2;omega⟩)
   refine t6.newE W m6 hRf (λb hb=>⟨by have:=hb.1;omega,hb.2,λq=>by have:=(L4.1 _ q).2;have:=hb.1;omega,λq=>q⟩) d6 λH7 S7 m7 n7 d7 t7 E7=>?_;refine t7.j6 W m7 (kd':=12) d7 λH8 S8 m8 n8 d8 k8 t8=>?_;refine t8.sj W m8 (aW.kb W E7 m7 n8 k8) (λb hb=>hb) d8 λH9 S9 m9 n9 d9 k9 t7=>?_;exact t7.fin m9 d9 (by omega) u7
  ·have h2:isA C.T [102,117,110,99,116,105,111,110] (i+1)=false:=h2;simp only[ai,aM,aG];rw[if_neg (by rw[h2];simp),bJ]at hP;have t2:=t1.keep W m1 c2;refine t2.afe (r:=(.ok () (i+1):aj Unit)) W m2 d2 hP λs b H3 S3 m3 d3 t3 N3 hP3=>?_;refine t3.j6 W m3 (kd':=1) d3 λH4 S4 m4 n4 d4 k4 t4=>?_;refine t4.PC W m4 (aW.kb W N3 m3 n4 k4) (λb hb=>hb) d4 λH5 S5 m5 n5 d5 k5 t5=>?_;refine amt (k:=k) O (by omega) hd W m5 d5 t5 ?_;have sp:(λ(_:List Nat) j=>(if isA C.T [61] j=true then (bQ C.T k (j+1) d).bind λe k=>aj.ok (aw.mk 1 (aq C.T i) [s] [e] []) k else aj.ok (aw.mk 1 (aq C.T i) [s] [] []) j).bind λs j=>dG C.T s j)=λ_ j=>if isA C.T [61] j=true then (bQ C.T k (j+1) d).bind λe k=>dG C.T (.mk 1 (aq C.T i) [s] [e] []) k else dG C.T (.mk 1 (aq C.T i) [s] [] []) j:=by
    funext _ j;split
    ·rw[bJ];rfl
    ·rfl
   rw[←sp];exact hP3
 have h1:isA C.T [108,111,99,97,108] i=false:=h1;simp only[ai,aM,aG];rw[if_neg (by rw[h1];simp)]at hP;have t1:=t.keep W hM c1;refine dB (s:=[105,102]) (bj (by decide)) m1 d1 (λy j er hi H2 S2 m2 c2 d2=>?_) λh2 H2 S2 m2 c2 d2=>?_
 ·cases er;simp only[ai,aM,aK];rw[if_pos hi]at hP;refine(t1.keep W m1 c2).j6 W m2 (kd':=4) d2 λH3 S3 m3 n3 d3 k3 t3=>?_;exact amv O hd W k (by omega) fb (.ok () (i+1):aj Unit) .ab .ab [] [] H3 S3 (by omega) (by simp;omega) (by simp;omega) m3 d3 t3 (λ_ _ _=>trivial) hP λ_=>⟨_,_,rfl⟩
 have h2:isA C.T [105,102] i=false:=h2;simp only[ai,aM,aG];rw[if_neg (by rw[h2];simp)]at hP;have t2:=t1.keep W m1 c2;refine dB (s:=[119,104,105,108,101]) (bj (by decide)) m2 d2 (λy j er hi H3 S3 m3 c3 d3=>?_) λh3 H3 S3 m3 c3 d3=>?_
 ·cases er;simp only[ai,aM,aK];rw[if_pos hi]at hP;cases k with
  |zero=>exact absurd (show(iS C.T 0 (aq C.T i) (i+1) d).bind (λs j=>dG C.T s j)=.aO by simp only[iS];rfl) hP.1
  |succ k=>
  simp only[iS,bJ]at hP;refine(t2.keep W m2 c3).PD (r:=(.ok () (i+1):aj Unit)) O (k:=k) (by omega) hd W m3 d3 hP λe b H4 S4 m4 d4 t4 E4 wZ=>?_;refine t4.j6 W m4 (kd':=5) d4 λH5 S5 m5 n5 d5 k5 t5=>?_;refine t5.sj W m5 (aW.kb W E4 m4 n5 k5) (λb hb=>hb) d5 λH6 S6 m6 n6 d6 k6 t6=>?_;exact amr (k:=k) O (by omega) hd W (by omega) m6 d6 t6 wZ
 have h3:isA C.T [119,104,105,108,101] i=false:=h3;simp only[ai,aM,aG];rw[if_neg (by rw[h3];simp)]at hP;have t3:=t2.keep W m2 c3;refine dB (s:=[114,101,112,101,97,116]) (bj (by decide)) m3 d3 (λy j er hi H4 S4 m4 c4 d4=>?_) λh4 H4 S4 m4 c4 d4=>?_
 ·cases er;simp only[ai,aM,aK];rw[if_pos hi]at hP;cases k with
  |zero=>exact absurd (show(gM C.T 0 (aq C.T i) (i+1) d).bind (λs j=>dG C.T s j)=.aO by simp only[gM];rfl) hP.1
  |succ k=>
  simp only[gM,bJ]at hP;refine(t3.keep W m3 c4).Uc (r:=(.ok () (i+1):aj Unit)) O (k:=k) (by omega) hd W m4 d4 hP λb bk H5 S5 m5 d5 t5 B5 u7=>?_;refine t5.Hr W m5 B5 (λb hb=>hb) d5 λH6 S6 m6 n6 d6 k6 t6=>?_;refine t6.must W (s:=[117,110,116,105,108]) (bj (by decide)) m6 d6 u7 λH7 S7 m7 d7 t7 yr=>?_;exact ams (k:=k) O (by omega) hd W m7 d7 t7 yr
 have h4:isA C.T [114,101,112,101,97,116] i=false:=h4;simp only[ai,aM,aG];rw[if_neg (by rw[h4];simp)]at hP;have t4:=t3.keep W m3 c4;refine dB (s:=[102,111,114]) (bj (by decide)) m4 d4 (λy j er hi H5 S5 m5 c5 d5=>?_) λh5 H5 S5 m5 c5 d5=>?_
 ·cases er;simp only[ai,aM,aK];rw[if_pos hi]at hP;cases k with
  |zero=>exact absurd (show(mV C.T 0 (aq C.T i) (i+1) d).bind (λs j=>dG C.T s j)=.aO by simp only[mV];rfl) hP.1
  |succ k=>
  simp only[mV]at hP;rw[bJ]at hP;refine(t4.keep W m4 c5).afe (r:=(.ok () (i+1):aj Unit)) W m5 d5 hP λs b H6 S6 m6 d6 t6 N6 Hq=>?_;refine t6.PC W m6 N6 (λb hb=>hb) d6 λH7 S7 m7 n7 d7 k7 t7=>?_;exact amw (k:=k) O (by omega) hd W m7 d7 t7 Hq
 have h5:isA C.T [102,111,114] i=false:=h5;simp only[ai,aM,aG];rw[if_neg (by rw[h5];simp)]at hP;have t5:=t4.keep W m4 c5;refine dB (s:=[98,114,101,97,107]) (bj (by decide)) m5 d5 (λy j er hi H6 S6 m6 c6 d6=>?_) λh6 H6 S6 m6 c6 d6=>?_
 ·cases er;simp only[ai,aM,aK];rw[if_pos hi]at hP;refine(t5.keep W m5 c6).j6 W m6 (kd':=9) d6 λH7 S7 m7 n7 d7 k7 t7=>?_;exact t7.fin (r:=(.ok () (i+1):aj Unit)) m7 d7 (by omega) hP
 have h6:isA C.T [98,114,101,97,107] i=false:=h6;simp only[ai,aM,aG];rw[if_neg (by rw[h6];simp)]at hP;have t6:=t5.keep W m5 c6;refine dB (s:=[100,111]) (bj (by decide)) m6 d6 (λy j er hi H7 S7 m7 c7 d7=>?_) λh7 H7 S7 m7 c7 d7=>?_
 ·cases er;simp only[ai,aM,aK];rw[if_pos hi]at hP;cases k with
  |zero=>exact absurd (show(qw C.T 0 (aq C.T i) (i+1) d).bind (λs j=>dG C.T s j)=.aO by simp only[qw];rfl) hP.1
  |succ k=>
  simp only[qw,bJ]at hP;refine(t6.keep W m6 c7).j6 W m7 (kd':=11) d7 λH8 S8 m8 n8 d8 k8 t8=>?_;exact alz (r:=(.ok () (i+1):aj Unit)) (k:=k) O (by omega) hd W (by omega) m8 d8 t8 hP
 have h7:isA C.T [100,111] i=false:=h7;simp only[ai,aM,aG];rw[if_neg (by rw[h7];simp),if_neg (by rw[hret];simp)]at hP;have t7:=t6.keep W m6 c7;refine ll m7 d7 ?_;rw[ai,aQ];have sC:(aj.ok x i).ix=i:=rfl;rw[sC];have sp:((if cz C.T i=2 then gP C.T k (aq C.T i) i d else .err 14 i).bind λs j=>dG C.T s j)=((aj.ok x i).bind λ_ i=>dS C.T i).bind λs j=>(if k=0∨k=1∨k=2 then .aO else cK C.T (k-2) (.mk 6 (aq C.T i) 0 s 0 [] []) j d).bind λe j=>(if e.kind=10 then .ok (.mk 3 (aq C.T i) [] [e] []) j else (aR C.T [61] j).bind λ_ j=>(bQ C.T (k-1) j d).bind λv j=>.ok (.mk 2 (aq C.T i) [] [e,v] []) j).bind λs j=>dG C.T s j:=by
  show _=(dS C.T i).bind _;unfold dS;by_cases g:cz C.T i=2
  ·rw[if_pos g,if_pos g];show(gP C.T k (aq C.T i) i d).bind (λs j=>dG C.T s j)=(if k=0∨k=1∨k=2 then .aO else cK C.T (k-2) (.mk 6 (aq C.T i) 0 (fQ C.T i) 0 [] []) (i+1) d).bind _
   match k with
   |0=>simp only[gP];rfl
   |1=>simp only[gP,ja];rfl
   |2=>
    simp only[gP,ja];rw[if_pos (.inl g)];simp only[ep];rfl
   |k+3=>
    rw[if_neg (by omega)];simp only[gP,ja];rw[if_pos (.inl g)];have es:ep C.T (k+1) i d=.ok (.mk 6 (aq C.T i) 0 (fQ C.T i) 0 [] []) (i+1):=by
     simp only[ep];rw[if_neg (by omega),if_neg (by omega),if_pos g]
    rw[es,bJ];rfl
  ·rw[if_neg g,if_neg g];rfl
 rw[sp]at hP;refine s4 m7 d7 (aT.call (eD:=Ps) hP λs H8 S8 w m8 c8 d8 ⟨hw,hs8⟩ Ht=>?_);subst hw;refine fU (lf s) ?_;have t8:=t7.keep W m7 c8;have PG:aT C (ft C bs) (iz bs) K S ((((aj.ok x i).bind λ_ i=>dS C.T i).bind λ_ j=>cK C.T (k-2) (.mk 6 (aq C.T i) 0 s 0 [] []) j d).bind λe j=>(if e.kind=10 then .ok (.mk 3 (aq C.T i) [] [e] []) j else (aR C.T [61] j).bind λ_ j=>(bQ C.T (k-1) j d).bind λv j=>.ok (.mk 2 (aq C.T i) [] [e,v] []) j).bind λs j=>dG C.T s j):=by
  have e1:∀r':aj (List Nat),(r'.bind λ_ j=>(if k=0∨k=1∨k=2 then .aO else cK C.T (k-2) (.mk 6 (aq C.T i) 0 s 0 [] []) j d).bind λe j=>(if e.kind=10 then .ok (.mk 3 (aq C.T i) [] [e] []) j else (aR C.T [61] j).bind λ_ j=>(bQ C.T (k-1) j d).bind λv j=>.ok (.mk 2 (aq C.T i) [] [e,v] []) j).bind λs j=>dG C.T s j)≠.aO→(r'.bind λ_ j=>(if k=0∨k=1∨k=2 then .aO else cK C.T (k-2) (.mk 6 (aq C.T i) 0 s 0 [] []) j d).bind λe j=>(if e.kind=10 then .ok (.mk 3 (aq C.T i) [] [e] []) j else (aR C.T [61] j).bind λ_ j=>(bQ C.T (k-1) j d).bind λv j=>.ok (.mk 2 (aq C.T i) [] [e,v] []) j).bind λs j=>dG C.T s j)=(r'.bind λ_ j=>cK C.T (k-2) (.mk 6 (aq C.T i) 0 s 0 [] []) j d).bind λe j=>(if e.kind=10 then .ok (.mk 3 (aq C.T i) [] [e] []) j else (aR C.T [61] j).bind λ_ j=>(bQ C.T (k-1) j d).bind λv j=>.ok (.mk 2 (aq C.T i) [] [e,v] []) j).bind λs j=>dG C.T s j:=by
   intro r' h;cases r' with
   |aO=>rfl
   |err c i=>rfl
   |ok y j=>
    by_cases g:k=0∨k=1∨k=2
    ·exact absurd (show(if k=0∨k=1∨k=2 then (.aO:aj ao) else cK C.T (k-2) (.mk 6 (aq C.T i) 0 s 0 [] []) j d).bind (λe j=>(if e.kind=10 then .ok (.mk 3 (aq C.T i) [] [e] []) j else (aR C.T [61] j).bind λ_ j=>(bQ C.T (k-1) j d).bind λv j=>.ok (.mk 2 (aq C.T i) [] [e,v] []) j).bind λs j=>dG C.T s j)=.aO by rw[if_pos g];rfl) h
    ·show(if k=0∨k=1∨k=2 then (.aO:aj ao) else cK C.T (k-2) (.mk 6 (aq C.T i) 0 s 0 [] []) j d).bind _=_;rw[if_neg g];rfl
  rw[←e1 _ Ht.1];exact Ht
 have n8:=t8.x.1;have hR:RE S8 (iy S8.n S8.n) [.int 0 ((6:Nat):Int),.int 0 (aq C.T i:Int),.int 0 ((0:Nat):Int),ah s,.int 0 ((0:Nat):Int),.ab,.ab] (.mk 6 (aq C.T i) 0 s 0 [] []):=RE.simple hs8;have hbp:=W.bp;refine O.behind (k-2) (by omega) hd m8 (S0:=S8) (aJ.refl _ _) (by omega) (λb hb=>by have:=W.vT b hb;omega) d8 hR (aT.call (eD:=dW) PG λe H9 S9 w m9 c9 d9 ⟨c,hw,hRe⟩ anN=>?_);subst hw;have t7:=t8.keep W m8 c9;refine eZ ?_;rw[kE];refine eC m9 fB λHa ma=>?_;refine ky ma (LS.ax _ _) rfl hRe.len hRe.ones λHb mb=>?_;have cb:aJ bP S9 ((S9.push (.ce z7 0)).set S9.n (.ce c 0)):=((aJ.refl _ _).push _).set (.inr (Nat.le_refl _)) _;have n9:=t7.x.1;exact alB (k:=k-1) O (by omega) hd W mb (d9.ic m9 cb) (t7.keep W m9 cb.no) (LS.aC _ _ _) n9 (hRe.go (λb hb=>cb.2 b hb.2 λq=>q) λ_ h=>h) (λb hb=>⟨by have:=hb.1;omega,Nat.lt_of_lt_of_le hb.2 cb.1⟩) anN
end
end Go.Proofs.YtcedghechlgecaaDoor
namespace Go.X
section
theorem cm{α:Type}{r:aj α}{f:α→Nat→aj aw}{P:aw→Prop}(h:∀a i s j,f a i=.ok s j→P s){s:aw}{j:Nat}(e:r.bind f=.ok s j):P s:=by
 obtain⟨a,i,_,h2⟩:=bind_ok e;exact h a i s j h2
theorem text_of{T:List Tok}{s:List Nat}{i:Nat}(h:isA T s i=true):fQ T i=s:=by
 unfold isA at h;simp only[Bool.and_eq_true,decide_eq_true_eq]at h;exact h.2
theorem ig{T:List Tok}{s t:List Nat}{i:Nat}(h:isA T s i=true)(hn:t≠s):isA T t i=false:=by
 unfold isA;rw[text_of h,decide_eq_false (p:=s=t) λq=>hn q.symm,Bool.and_false]
variable {T:List Tok}
theorem aie{k a i d:Nat}{s:aw}{j:Nat}(h:iR T k a i d=.ok s j):s.kind≠10:=by
 cases k with
 |zero=>simp only[iR]at h;cases h
 |succ k=>
  simp only[iR]at h;split at h
  ·exact cm (P:=λs=>s.kind≠10) (λ_ _ _ _ h=>cm (P:=λs=>s.kind≠10) (λ_ _ _ _ h=>by cases h;show 12≠10;omega) h) h
  ·refine cm (P:=λs=>s.kind≠10) (λ_ _ _ _ h=>?_) h;split at h
   ·exact cm (P:=λs=>s.kind≠10) (λ_ _ _ _ h=>by cases h;show 1≠10;omega) h
   ·cases h;show 1≠10;omega
theorem PH:∀{k a:Nat}{l:List ao}{B:List (List aw)}{i d:Nat}{s:aw}{j:Nat},eN T k a l B i d=.ok s j→s.kind≠10
 |0,a,l,B,i,d,s,j,h=>by simp only[eN]at h;cases h
 |k+1,a,l,B,i,d,s,j,h=>by
  simp only[eN]at h;refine cm (P:=λs=>s.kind≠10) (λ_ _ _ _ h=>cm (P:=λs=>s.kind≠10) (λ_ _ _ _ h=>cm (P:=λs=>s.kind≠10) (λ_ _ _ _ h=>?_) h) h) h;split at h
  ·exact PH h
  ·split at h
   ·exact cm (P:=λs=>s.kind≠10) (λ_ _ _ _ h=>cm (P:=λs=>s.kind≠10) (λ_ _ _ _ h=>by cases h;show 4≠10;omega) h) h
   ·exact cm (P:=λs=>s.kind≠10) (λ_ _ _ _ h=>by cases h;show 4≠10;omega) h
theorem aif{k a i d:Nat}{s:aw}{j:Nat}(h:iS T k a i d=.ok s j):s.kind≠10:=by
 cases k with
 |zero=>simp only[iS]at h;cases h
 |succ k=>
  simp only[iS]at h;exact cm (P:=λs=>s.kind≠10) (λ_ _ _ _ h=>cm (P:=λs=>s.kind≠10) (λ_ _ _ _ h=>cm (P:=λs=>s.kind≠10) (λ_ _ _ _ h=>cm (P:=λs=>s.kind≠10) (λ_ _ _ _ h=>by cases h;show 5≠10;omega) h) h) h) h
theorem aff{k a i d:Nat}{s:aw}{j:Nat}(h:gM T k a i d=.ok s j):s.kind≠10:=by
 cases k with
 |zero=>simp only[gM]at h;cases h
 |succ k=>
  simp only[gM]at h;exact cm (P:=λs=>s.kind≠10) (λ_ _ _ _ h=>cm (P:=λs=>s.kind≠10) (λ_ _ _ _ h=>cm (P:=λs=>s.kind≠10) (λ_ _ _ _ h=>by cases h;show 8≠10;omega) h) h) h
theorem anO{k a i d:Nat}{s:aw}{j:Nat}(h:qw T k a i d=.ok s j):s.kind≠10:=by
 cases k with
 |zero=>simp only[qw]at h;cases h
 |succ k=>
  simp only[qw]at h;exact cm (P:=λs=>s.kind≠10) (λ_ _ _ _ h=>cm (P:=λs=>s.kind≠10) (λ_ _ _ _ h=>by cases h;show 11≠10;omega) h) h
theorem Ce{k kd a:Nat}{ns:List (List Nat)}{l:List ao}{i d:Nat}{s:aw}{j:Nat}(hk:kd≠10)(h:cD T k kd a ns l i d=.ok s j):s.kind≠10:=by
 cases k with
 |zero=>simp only[cD]at h;cases h
 |succ k=>
  simp only[cD]at h;exact cm (P:=λs=>s.kind≠10) (λ_ _ _ _ h=>cm (P:=λs=>s.kind≠10) (λ_ _ _ _ h=>cm (P:=λs=>s.kind≠10) (λ_ _ _ _ h=>by cases h;exact hk) h) h) h
theorem amx{k a i d:Nat}{s:aw}{j:Nat}(h:mV T k a i d=.ok s j):s.kind≠10:=by
 cases k with
 |zero=>simp only[mV]at h;cases h
 |succ k=>
  simp only[mV]at h;refine cm (P:=λs=>s.kind≠10) (λ_ _ _ _ h=>?_) h;split at h
  ·exact cm (P:=λs=>s.kind≠10) (λ_ _ _ _ h=>cm (P:=λs=>s.kind≠10) (λ_ _ _ _ h=>cm (P:=λs=>s.kind≠10) (λ_ _ _ _ h=>Ce (by omega) h) h) h) h
  ·refine cm (P:=λs=>s.kind≠10) (λ_ _ _ _ h=>cm (P:=λs=>s.kind≠10) (λ_ _ _ _ h=>cm (P:=λs=>s.kind≠10) (λ_ _ _ _ h=>cm (P:=λs=>s.kind≠10) (λ_ _ _ _ h=>?_) h) h) h) h;split at h
   ·exact cm (P:=λs=>s.kind≠10) (λ_ _ _ _ h=>Ce (by omega) h) h
   ·exact Ce (by omega) h
theorem aih{k a i d:Nat}{s:aw}{j:Nat}(h:gP T k a i d=.ok s j):s.kind≠10:=by
 cases k with
 |zero=>simp only[gP]at h;cases h
 |succ k=>
  simp only[gP]at h;refine cm (P:=λs=>s.kind≠10) (λ_ _ _ _ h=>?_) h;split at h
  ·cases h;show 3≠10;omega
  ·exact cm (P:=λs=>s.kind≠10) (λ_ _ _ _ h=>cm (P:=λs=>s.kind≠10) (λ_ _ _ _ h=>by cases h;show 2≠10;omega) h) h
theorem alC{k i d:Nat}{s:aw}{j:Nat}(hr:isA T [114,101,116,117,114,110] i=false)(h:fR T k i d=.ok s j):s.kind≠10:=by
 cases k with
 |zero=>simp only[fR]at h;cases h
 |succ k=>
  simp only[fR]at h;split at h
  ·exact aie h
  split at h
  ·exact PH h
  split at h
  ·exact aif h
  split at h
  ·exact aff h
  split at h
  ·exact amx h
  split at h
  ·cases h;show 9≠10;omega
  split at h
  ·exact anO h
  rw[if_neg (by rw[hr];simp)]at h;split at h
  ·exact aih h
  ·cases h
theorem aii{k i d:Nat}(h:isA T [61] i=true):fR T (k+1) i d=.err 14 i:=by
 have hk:cz T i=1∨cz T i=5:=by
  unfold isA at h;simp only[Bool.and_eq_true,Bool.or_eq_true,decide_eq_true_eq]at h;exact h.1
 simp only[fR];rw[if_neg (by rw[ig h (by decide)];simp),if_neg (by rw[ig h (by decide)];simp),if_neg (by rw[ig h (by decide)];simp),if_neg (by rw[ig h (by decide)];simp),if_neg (by rw[ig h (by decide)];simp),if_neg (by rw[ig h (by decide)];simp),if_neg (by rw[ig h (by decide)];simp),if_neg (by rw[ig h (by decide)];simp),if_neg (by omega)]
theorem aij{i:Nat}(h:isA T [61] i=true):eR T i=false:=by
 have hk:cz T i=1∨cz T i=5:=by
  unfold isA at h;simp only[Bool.and_eq_true,Bool.or_eq_true,decide_eq_true_eq]at h;exact h.1
 unfold eR;rw[ig h (by decide),ig h (by decide),ig h (by decide),ig h (by decide),decide_eq_false (by omega)];rfl
theorem afg{k i d:Nat}(h:isA T [114,101,116,117,114,110] i=true):fR T (k+1) i d=iC T k (aq T i) (i+1) d:=by
 simp only[fR];rw[if_neg (by rw[ig h (by decide)];simp),if_neg (by rw[ig h (by decide)];simp),if_neg (by rw[ig h (by decide)];simp),if_neg (by rw[ig h (by decide)];simp),if_neg (by rw[ig h (by decide)];simp),if_neg (by rw[ig h (by decide)];simp),if_neg (by rw[ig h (by decide)];simp),if_pos h]
end
end Go.X
namespace Go.Proofs.YtcedghechlgecaaDoor
open Go Go.X Go.Proofs.YtcedghechlgecaaDoor.G
section
variable {H:AH}{S:LS}{K:KF}{C:Ctx}{i d:Nat}
section
variable {m k:Nat}{S0:LS}
theorem agG(hbp:C.bp<S0.n)(db:∀b,au C.vT b→b<S0.n){b9:Nat}{v:AV}{c:List AV}{s:aw}{out:List aw}{Q:Nat→Prop}{γ:Type}{r:aj γ}(hlen:out.length≤1000000)(hM:Mem H S)(hs:bn C S r)(hx:aJ (bA C) S0 S)(ho:S.ob b9=.ce c 0)(h9:S0.n≤b9)(hR:gR S Q c s)(L:aW mW (λb=>S0.n≤b) S v out)(hQ:∀b,Q b→S0.n≤b∧b<S.n∧¬au v b)
  (hP:aT C (bA C) gp K S0 (r.bind λ_ j=>if eR C.T (dz C.T [59] j)=false then .err 14 (dz C.T [59] j) else .ok (out++[s]) (dz C.T [59] j))) :
  rM (cL (s10 m)) K (.ptr C.bp 0) v (.ptr b9 0) H:=by
 have r1:(cL (s10 m)).1=f18:=rfl;have r3:(cL (s10 m)).2.2.1=f38:=rfl;have r5:(cL (s10 m)).2.2.2.2.1=f40:=rfl;show DO (cL (s10 m)) K (wc (cL (s10 m)) K) (.ptr C.bp 0) v (.ptr b9 0) H;unfold DO;rw[r1,r3,r5];have nb:∀b,S0.n≤b→¬bA C b:=λb hb q=>by have q:b=C.bp:=q;omega
 have n0:=hx.1;have last:∀{β:Type}{r':aj β}{H1:AH}{S1:LS},Mem H1 S1→bn C S1 r'→aJ (bA C) S S1→aT C (bA C) gp K S0 (r'.bind λ_ j=>.ok (out++[s]) j)→wc (cL (s10 m)) K v (.ptr b9 0) H1:=by
  intro β r' H1 S1 m1 d1 c1 hP;show DN (cL (s10 m)) K v (.ptr b9 0) H1;unfold DN;have o1:=c1.ob hM ho (nb _ h9);have R1:gR S1 Q c s:=hR.go (λb hb=>c1.2 b (hQ b hb).2.1 (nb b (hQ b hb).1)) λ_ h=>h;have L1:aW mW (λb=>S0.n≤b) S1 v out:=L.keep hM c1.1 λb h1 h2=>c1.2 b h2 (nb b h1);have x1:=hx.trans c1;refine gy m1 o1 R1.len ?_;rw[ib];refine fT R1.len ?_;rw[ale R1.len rfl];have n1:=x1.1;refine L1.push (R:=mW) (bytes:=88) m1 R1 (λb hb=>⟨(hQ b hb).1,Nat.lt_of_lt_of_le (hQ b hb).2.1 c1.1,(hQ b hb).2.2⟩) (λb hb=>by show S0.n≤b;omega) (by omega) λH2 S2 v2 m2 L2 n2 k2 b2 aoN=>?_;have c2:aJ (λb=>au v b) S1 S2:=⟨n2,λb hb hx=>k2 b hb hx⟩
  obtain⟨cl,g1,g2⟩:=(L2.toR (lo:=S0.n) λb hb=>hb).done m2;have hlo:∀b,au v b→S0.n≤b:=λb hb=>L.Hk hb;exact hP.2 H2 S2 v2 _ m2 (x1.sS c2 λb hb=>.inr (hlo b hb)) ((d1.ret _).keep m1 c2 (λq=>by have:=hlo _ q;omega) λb hb q=>by have:=hlo _ q;have:=db b hb;omega) ⟨cl,g1,g2⟩ qq
 have rest:∀{β:Type}{r':aj β}{H1:AH}{S1:LS},Mem H1 S1→bn C S1 r'→aJ (bA C) S S1→aT C (bA C) gp K S0 (r'.bind λ_ j=>if eR C.T j=false then .err 14 j else .ok (out++[s]) j)→f38 (.ptr C.bp 0) H1 λo5 H6=>cR K o5 H6 λv7=>cH v7 λz8=>bI (!z8) (f18 (.ptr C.bp 0) ((14:Nat):Int) H6 λo9 dD=>cR K o9 dD λv11=>wc (cL (s10 m)) K v (.ptr b9 0) dD) (wc (cL (s10 m)) K v (.ptr b9 0) H6):=by
  intro β r' H1 S1 m1 d1 c1 hP;refine AY m1 d1 λH2 S2 m2 c2 d2=>?_;rw[ai,aM];cases he:Hl C.T r' with
  |true=>
   simp only[Bool.not_true,aG];refine last m2 d2 (c1.trans c2.no) ?_;have sp:(r'.bind λ_ j=>if eR C.T j=false then .err 14 j else .ok (out++[s]) j)=r'.bind λ_ j=>.ok (out++[s]) j:=by
    cases r' with
    |aO=>rfl
    |err c i=>rfl
    |ok y j=>
     have h3:eR C.T j=true:=he;show(if eR C.T j=false then _ else _)=_;rw[if_neg (by rw[h3];simp)];rfl
   rw[←sp];exact hP
  |false=>
   simp only[Bool.not_false,aK];refine qU (c:=14) (by omega) (by omega) m2 d2 λH3 S3 m3 c3 d3=>?_;rw[ai];refine last (r':=(AW 14 r':aj Unit)) m3 d3 ((c1.trans c2.no).trans c3) ?_;have sp:((AW 14 r':aj Unit).bind λ_ j=>.ok (out++[s]) j)=(r'.bind λ_ j=>if eR C.T j=false then .err 14 j else .ok (out++[s]) j):=by
    cases r' with
    |aO=>rfl
    |err c i=>cases he
    |ok y j=>
     have h3:eR C.T j=false:=he;show aj.err 14 j=if eR C.T j=false then _ else _
     rw[if_pos h3]
   rw[sp];exact hP
 have e14:Int.ofNat 14=((14:Nat):Int):=rfl;rw[e14];refine dB (s:=[59]) (bj (by decide)) hM hs (λy j er hi H1 S1 m1 c1 d1=>?_) λhi H1 S1 m1 c1 d1=>?_
 ·cases er;rw[ai,aM];refine rest (r':=(.ok () (j+1):aj Unit)) m1 d1 c1 ?_;have hP:aT C (bA C) gp K S0 (if eR C.T (dz C.T [59] j)=false then .err 14 (dz C.T [59] j) else .ok (out++[s]) (dz C.T [59] j)):=hP;have eo:dz C.T [59] j=j+1:=by unfold dz;rw[hi];rfl
  rw[eo]at hP;exact hP
 ·rw[ai,aM];refine rest m1 d1 c1 ?_;have sp:(r.bind λ_ j=>if eR C.T (dz C.T [59] j)=false then .err 14 (dz C.T [59] j) else .ok (out++[s]) (dz C.T [59] j))=r.bind λ_ j=>if eR C.T j=false then .err 14 j else .ok (out++[s]) j:=by
   cases r with
   |aO=>rfl
   |err c i=>rfl
   |ok y j=>
    have h3:isA C.T [59] j=false:=hi;have eo:dz C.T [59] j=j:=by unfold dz;rw[h3];rfl
    show(if eR C.T (dz C.T [59] j)=false then _ else _)=_;rw[eo];rfl
  rw[←sp];exact hP
def BkX(C:Ctx)(S0:LS)(K:KF)(k d:Nat)(X:AV→Int→AV→AH→Prop):Prop:=∀(v:AV) (out:List aw) (H:AH) (S:LS){γ:Type}(r:aj γ),out.length+k≤1000000→Mem H S→bn C S r→aJ (bA C) S0 S→aW mW (λb=>S0.n≤b) S v out→aT C (bA C) gp K S0 (r.bind λ_ i=>cC C.T k out i d)→X (.ptr C.bp 0) (d:Int) v H
theorem amy(hm:m≤1000000)(O:gq C m)(hd:d≤200)(hbp:C.bp<S0.n)(db:∀b,au C.vT b→b<S0.n)(hk:2*k+4≤m+1){X:AV→Int→AV→AH→Prop}
  (hrec:∀k',k=k'+1→BkX C S0 K k' d X):BkX C S0 K k d (DX (cL (s10 m)) K X):=by
 intro v out H S γ r hl hM hs hx L hP;have r3:(cL (s10 m)).2.2.1=f38:=rfl;have r4:(cL (s10 m)).2.2.2.1=f39:=rfl;have r5:(cL (s10 m)).2.2.2.2.1=f40:=rfl;have r6:(cL (s10 m)).2.2.2.2.2.1=f41:=rfl;have r7:(cL (s10 m)).2.2.2.2.2.2.1=(s10 m).2.1:=rfl;have r8:(cL (s10 m)).2.2.2.2.2.2.2=(s10 m).2.2.1:=rfl;have nb:∀b,S0.n≤b→¬bA C b:=λb hb q=>by have q:b=C.bp:=q;omega
 have n0:=hx.1;have hlo:∀b,au v b→S0.n≤b:=λb hb=>L.Hk hb;have hlt:∀b,au v b→b<S.n:=λb hb=>L.lt hM hb;have amz:∀{S1 S2:LS}{H1:AH},Mem H1 S1→aW mW (λb=>S0.n≤b) S1 v out→aJ (bA C) S1 S2→aW mW (λb=>S0.n≤b) S2 v out:=λm1 o g=>o.keep m1 g.1 λb h1 h2=>g.2 b h2 (nb b h1);show wg (cL (s10 m)) K (DS (cL (s10 m)) K) (rM (cL (s10 m)) K) (DV (cL (s10 m)) K X) (DW (cL (s10 m)) K) (.ptr C.bp 0) (d:Int) v H;unfold wg;rw[r3,r4,r5,r6,r8];refine AY hM hs λH1 S1 m1 c1 d1=>?_;rw[ai,aM];have L1:=amz hM L c1.no;have x1:=hx.trans (c1.no (X:=bA C));cases he:Hl C.T r with
 |true=>
  simp only[Bool.not_true,aG];show we (cL (s10 m)) K v H1;unfold we;obtain⟨cl,g1,g2⟩:=(L1.toR (lo:=S0.n) λb hb=>hb).done m1;cases r with
  |aO=>exact absurd rfl hs.no
  |err c i=>exact hP.2 H1 S1 v out m1 x1 (sg d1 rfl) ⟨cl,g1,g2⟩ wY
  |ok y i=>
   have he:eR C.T i=true:=he;have hP:aT C (bA C) gp K S0 (cC C.T k out i d):=hP;cases k with
   |zero=>exact absurd (show cC C.T 0 out i d=.aO by simp only[cC]) hP.1
   |succ k=>
    simp only[cC]at hP;rw[if_pos he]at hP;exact hP.2 H1 S1 v out m1 x1 (Kx d1) ⟨cl,g1,g2⟩ T9
 |false=>
  simp only[Bool.not_false,aK];cases r with
  |aO=>exact absurd rfl hs.no
  |err c i=>cases he
  |ok y i=>
  have he:eR C.T i=false:=he;have hP:aT C (bA C) gp K S0 (cC C.T k out i d):=hP;cases k with
  |zero=>exact absurd (show cC C.T 0 out i d=.aO by simp only[cC]) hP.1
  |succ k=>
  simp only[cC]at hP;rw[if_neg (by rw[he];simp)]at hP;refine ll m1 d1 ?_;rw[ai,aQ];have sC:(aj.ok y i).ix=i:=rfl;rw[sC];refine eZ (eC m1 Px λH2 m2=>?_);refine ky m2 (c:=[.int 0 ((0:Nat):Int),.int 0 (aq C.T i:Int),.ab,.ab,.ab]) (LS.ax S1 (.ce z5 0)) rfl rfl (λa h=>?_) λH3 m3=>?_
  ·simp only[List.mem_cons,List.not_mem_nil,or_false]at h;rcases h with rfl|rfl|rfl|rfl|rfl<;>rfl
  have m3:Mem H3 ((S1.push (.ce z5 0)).set S1.n (.ce [.int 0 ((0:Nat):Int),.int 0 (aq C.T i:Int),.ab,.ab,.ab] 0)):=m3;have c3:aJ bP S1 ((S1.push (.ce z5 0)).set S1.n (.ce [.int 0 ((0:Nat):Int),.int 0 (aq C.T i:Int),.ab,.ab,.ab] 0)):=((aJ.refl _ _).push _).set (.inr (Nat.le_refl _)) _;have d3:=d1.ic m1 c3;have o3:LS.ob _ S1.n=_:=LS.aC (S1.push (.ce z5 0)) S1.n (.ce [.int 0 ((0:Nat):Int),.int 0 (aq C.T i:Int),.ab,.ab,.ab] 0);have x3:=x1.trans (c3.no (X:=bA C));have n3:((S1.push (.ce z5 0)).set S1.n (.ce [.int 0 ((0:Nat):Int),.int 0 (aq C.T i:Int),.ab,.ab,.ab] 0)).n=S1.n+1:=rfl;have L3:aW mW (λb=>S0.n≤b∧b<S1.n) ((S1.push (.ce z5 0)).set S1.n (.ce [.int 0 ((0:Nat):Int),.int 0 (aq C.T i:Int),.ab,.ab,.ab] 0)) v out:=(L1.imp m1 λb hb hlt=>(⟨hb,hlt⟩:S0.n≤b∧b<S1.n)).keep m1 c3.1 λb _ h2=>c3.2 b h2 λq=>q;revert m3 c3 d3 o3 x3 n3 L3;generalize (S1.push (.ce z5 0)).set S1.n (.ce [.int 0 ((0:Nat):Int),.int 0 (aq C.T i:Int),.ab,.ab,.ab] 0)=S3;intro m3 c3 d3 o3 x3 n3 L3;have n1:=x1.1;have hlt1:∀b,au v b→b<S1.n:=λb hb=>L1.lt m1 hb;refine dB (s:=[114,101,116,117,114,110]) (bj (by decide)) m3 d3 (λy j er hi H4 S4 m4 c4 d4=>?_) λh1 H4 S4 m4 c4 d4=>?_
  ·cases er;simp only[ai,aM,aK];have o4:=c4.ob m3 o3 (nb _ n1);have L4:aW mW (λb=>S0.n≤b∧b<S1.n) S4 v out:=L3.keep m3 c4.1 λb h1 h2=>c4.2 b h2 (nb b h1.1);rw[aU,Nat.zero_add];refine cZ (v:=.int 0 ((10:Nat):Int)) m4 o4 (by omega) (by show 0<5;omega) rfl λH5 m5=>?_;have m5:Mem H5 (S4.set S1.n (.ce [.int 0 ((10:Nat):Int),.int 0 (aq C.T i:Int),.ab,.ab,.ab] 0)):=m5;have o5:LS.ob _ S1.n=_:=LS.aC S4 S1.n (.ce [.int 0 ((10:Nat):Int),.int 0 (aq C.T i:Int),.ab,.ab,.ab] 0);have d5:=d4.setB (b:=S1.n) (by omega) (λx hx=>by have:=db x hx;omega) (.ce [.int 0 ((10:Nat):Int),.int 0 (aq C.T i:Int),.ab,.ab,.ab] 0);have x5:aJ (bA C) S0 (S4.set S1.n (.ce [.int 0 ((10:Nat):Int),.int 0 (aq C.T i:Int),.ab,.ab,.ab] 0)):=(x3.trans c4).set (.inr n1) _;have L5:aW mW (λb=>S0.n≤b∧b<S1.n) (S4.set S1.n (.ce [.int 0 ((10:Nat):Int),.int 0 (aq C.T i:Int),.ab,.ab,.ab] 0)) v out:=L4.keep m4 (Nat.le_refl _) λb h1 _=>LS.av _ _ (by have:=h1.2;omega);have n34:=c4.1;have n5:(S4.set S1.n (.ce [.int 0 ((10:Nat):Int),.int 0 (aq C.T i:Int),.ab,.ab,.ab] 0)).n=S4.n:=rfl;revert m5 o5 d5 x5 L5 n5;generalize S4.set S1.n (.ce [.int 0 ((10:Nat):Int),.int 0 (aq C.T i:Int),.ab,.ab,.ab] 0)=S5;intro m5 o5 d5 x5 L5 n5;cases k with
   |zero=>exact absurd (show(fR C.T 0 i d).bind _=.aO by simp only[fR];rfl) hP.1
   |succ k=>
   rw[afg hi]at hP;cases k with
   |zero=>exact absurd (show(iC C.T 0 (aq C.T i) (i+1) d).bind _=.aO by simp only[iC];rfl) hP.1
   |succ k=>
   simp only[iC]at hP;have after:∀(l:List ao) (j:Nat),(if (aw.mk 10 (aq C.T i) [] l []).kind=10∧eR C.T (dz C.T [59] j)=false then .err 14 (dz C.T [59] j) else cC C.T (k+1+1) (out++[.mk 10 (aq C.T i) [] l []]) (dz C.T [59] j) d)=if eR C.T (dz C.T [59] j)=false then .err 14 (dz C.T [59] j) else .ok (out++[.mk 10 (aq C.T i) [] l []]) (dz C.T [59] j):=by
    intro l j;cases hh:eR C.T (dz C.T [59] j)with
    |false=>rw[if_pos ⟨rfl,rfl⟩,if_pos rfl]
    |true=>
     rw[if_neg (λq=>by cases q.2),if_neg (λq=>by cases q)];simp only[cC];rw[if_pos hh]
   have wk:∀{S:LS},aW mW (λb=>S0.n≤b∧b<S1.n) S v out→aW mW (λb=>S0.n≤b) S v out:=λh=>aW.wk h λb hb=>hb.1;have bare:∀{H6:AH}{S6:LS},(isA C.T [59] (i+1)=true∨eR C.T (i+1)=true)→Mem H6 S6→bn C S6 (.ok () (i+1):aj Unit)→aJ bP S5 S6→rM (cL (s10 m)) K (.ptr C.bp 0) v (.ptr S1.n 0) H6:=by
    intro H6 S6 hc m6 d6 c6;rw[if_pos hc]at hP;have hP:aT C (bA C) gp K S0 (if (aw.mk 10 (aq C.T i) [] [] []).kind=10∧eR C.T (dz C.T [59] (i+1))=false then .err 14 (dz C.T [59] (i+1)) else cC C.T (k+1+1) (out++[.mk 10 (aq C.T i) [] [] []]) (dz C.T [59] (i+1)) d):=hP;rw[after]at hP;exact agG (s:=.mk 10 (aq C.T i) [] [] []) (Q:=λ_=>False) (r:=(.ok () (i+1):aj Unit)) hbp db (by omega) m6 d6 (x5.trans c6.no) (c6.ob m5 o5 λq=>q) n1 (gR.plain (cl:=λ_=>[]) jG.nil (dH.nil _ _ _ _) λi e h=>by simp at h) (wk (L5.keep m5 c6.1 λb _ h2=>c6.2 b h2 λq=>q)) (λb hb=>hb.elim) hP
   refine AY m5 d5 λH6 S6 m6 c6 d6=>?_;rw[ai,aM];have hde:Hl C.T (.ok () (i+1):aj Unit)=eR C.T (i+1):=rfl;rw[hde];cases hE:eR C.T (i+1)with
   |true=>
    simp only[Bool.not_true,aG];exact bare (.inr hE) m6 d6 c6
   |false=>
   simp only[Bool.not_false,aK];refine sT (s:=[59]) (bj (by decide)) m6 d6 λH7 S7 m7 c7 d7=>?_;rw[ai,aM];have hdi:pU C.T [59] (.ok () (i+1):aj Unit)=isA C.T [59] (i+1):=rfl;rw[hdi];cases hS:isA C.T [59] (i+1)with
   |true=>
    simp only[Bool.not_true,aG];exact bare (.inl hS) m7 d7 (c6.trans c7)
   |false=>
   simp only[Bool.not_false,aK];rw[if_neg (by rintro(q|q);rw[hS]at q;cases q;rw[hE]at q;cases q),bJ]at hP;have c57:=c6.trans c7;have L7:aW mW (λb=>S0.n≤b∧b<S1.n) S7 v out:=L5.keep m5 c57.1 λb _ h2=>c57.2 b h2 λq=>q;have o7:=c57.ob m5 o5 λq=>q;have n57:=c57.1;show DQ (cL (s10 m)) K (rM (cL (s10 m)) K) (.ptr C.bp 0) (d:Int) v (.ptr S1.n 0) H7;unfold DQ;rw[r7];refine O.exp k (by omega) hd m7 d7 (aT.call (eD:=dW) (show aT C (bA C) gp K S0 (((aj.ok () (i+1)).bind λ_ i=>bQ C.T k i d).bind _)from hP) λe H8 S8 w m8 c8 d8 ⟨c,hw,hR⟩ Ht=>?_);subst hw;have L8:aW mW (λb=>S0.n≤b∧b<S1.n) S8 v out:=L7.keep m7 c8.1 λb h1 h2=>c8.2 b h2 (nb b h1.1);have o8:=c8.ob m7 o7 (nb _ n1);have n78:=c8.1;rw[ib];refine fT hR.len ?_;rw[II hR.len rfl];refine eI m8 (by rw[hR.len]) hR.ones λH9 m9=>?_;have c9:aJ bP S8 (S8.push (.ce c 0)):=(aJ.refl _ _).push _;have o9:=c9.ob m8 o8 λq=>q;rw[aU,Nat.zero_add];refine cZ (v:=.slice S8.n 0 1 1 7 true) m9 o9 (by omega) (by show 3<5;omega) rfl λHa ma=>?_;have ma:Mem Ha ((S8.push (.ce c 0)).set S1.n (.ce [.int 0 ((10:Nat):Int),.int 0 (aq C.T i:Int),.ab,.slice S8.n 0 1 1 7 true,.ab] 0)):=ma;have xa:aJ (bA C) S0 ((S8.push (.ce c 0)).set S1.n (.ce [.int 0 ((10:Nat):Int),.int 0 (aq C.T i:Int),.ab,.slice S8.n 0 1 1 7 true,.ab] 0)):=(((x5.trans c57.no).trans c8).trans c9.no).set (.inr n1) _;have hRS:gR ((S8.push (.ce c 0)).set S1.n (.ce [.int 0 ((10:Nat):Int),.int 0 (aq C.T i:Int),.ab,.slice S8.n 0 1 1 7 true,.ab] 0)) (λb=>S7.n≤b∧b<S8.n+1) [.int 0 ((10:Nat):Int),.int 0 (aq C.T i:Int),.ab,.slice S8.n 0 1 1 7 true,.ab] (.mk 10 (aq C.T i) [] [e] []):=
    gR.plain (l:=[e]) (cl:=λ_=>c) jG.nil (dH.single (b:=S8.n) (m:=0) ⟨n78,by omega⟩ ((LS.av _ _ (by omega)).trans (LS.ax _ _)) hR.len) λix x h=>by
     cases ix with
     |zero=>
      have e1:e=x:=by simpa using h
      subst e1;exact hR.go (λb hb=>by rw[LS.av _ _ (by have:=hb.1;omega)];exact LS.bC _ _ hb.2) λb hb=>⟨hb.1,by have:=hb.2;omega⟩
     |succ ix=>simp at h
   refine agG (s:=.mk 10 (aq C.T i) [] [e] []) (Q:=λb=>S7.n≤b∧b<S8.n+1) hbp db (by omega) ma ((d8.ic m8 c9).setB (b:=S1.n) (by omega) (λx hx=>by have:=db x hx;omega) _) xa (LS.aC _ _ _) n1 hRS (wk ((L8.keep m8 c9.1 λb _ h2=>c9.2 b h2 λq=>q).keep m9 (Nat.le_refl _) λb h1 _=>LS.av _ _ (by have:=h1.2;omega))) (λb hb=>⟨by have:=hb.1;omega,hb.2,λq=>by have:=hlt1 b q;have:=hb.1;omega⟩) ?_;have sp:∀r':aj ao,(r'.bind λ_ j=>(aj.ok (aw.mk 10 (aq C.T i) [] [e] []) j).bind λs j=>if s.kind=10∧eR C.T (dz C.T [59] j)=false then .err 14 (dz C.T [59] j) else cC C.T (k+1+1) (out++[s]) (dz C.T [59] j) d)=r'.bind λ_ j=>if eR C.T (dz C.T [59] j)=false then .err 14 (dz C.T [59] j) else .ok (out++[.mk 10 (aq C.T i) [] [e] []]) (dz C.T [59] j):=by
    intro r';congr 1;funext _ j;exact after [e] j
   rw[←sp];exact Ht
  ·have h1:isA C.T [114,101,116,117,114,110] i=false:=h1;simp only[ai,aM,aG];have sp:((fR C.T k i d).bind λs j=>if s.kind=10∧eR C.T (dz C.T [59] j)=false then .err 14 (dz C.T [59] j) else cC C.T k (out++[s]) (dz C.T [59] j) d)=(AZ C.T k i d).bind λs j=>(aj.ok () (dz C.T [59] j)).bind λ_ j=>cC C.T k (out++[s]) j d:=by
    unfold AZ;cases hp:fR C.T k i d with
    |aO=>rfl
    |err c i=>rfl
    |ok s j=>
     have hk10:=alC h1 hp;show(if s.kind=10∧eR C.T (dz C.T [59] j)=false then .err 14 (dz C.T [59] j) else cC C.T k (out++[s]) (dz C.T [59] j) d)=(if s.kind=3∧isA C.T [61] j=true then .err 14 j else .ok s j:aj aw).bind _;rw[if_neg (λq=>hk10 q.1)];by_cases g:s.kind=3∧isA C.T [61] j=true
     ·rw[if_pos g];have eo:dz C.T [59] j=j:=by unfold dz;rw[ig g.2 (by decide)];rfl
      rw[eo];rw[hp]at hP;have hP:aT C (bA C) gp K S0 (if s.kind=10∧eR C.T (dz C.T [59] j)=false then .err 14 (dz C.T [59] j) else cC C.T k (out++[s]) (dz C.T [59] j) d):=hP;rw[if_neg (λq=>hk10 q.1),eo]at hP;show cC C.T k (out++[s]) j d=.err 14 j;cases k with
      |zero=>exact absurd (show cC C.T 0 (out++[s]) j d=.aO by simp only[cC]) hP.1
      |succ k=>
       simp only[cC]at hP ⊢;rw[if_neg (by rw[aij g.2];simp)]at hP ⊢;cases k with
       |zero=>exact absurd (show(fR C.T 0 j d).bind _=.aO by simp only[fR];rfl) hP.1
       |succ k=>rw[aii g.2];rfl
     ·rw[if_neg g];rfl
   rw[sp]at hP;have o4:=c4.ob m3 o3 (nb _ n1);have L4:aW mW (λb=>S0.n≤b∧b<S1.n) S4 v out:=L3.keep m3 c4.1 λb h1 h2=>c4.2 b h2 (nb b h1.1);have n34:=c4.1;refine O.stat k (by omega) hd m4 d4 h1 o4 (by omega) (λx hx=>by have:=db x hx;omega) (aT.call (eD:=iz S1.n) hP λs H5 S5 w m5 c5 d5 ⟨_,c,o5,hR⟩ u7=>?_);have L5:aW mW (λb=>S0.n≤b∧b<S1.n) S5 v out:=L4.keep m4 c5.1 λb h1 h2=>c5.2 b h2 λq=>by
    rcases q with q|q
    ·have:=h1.1;omega
    ·have:=h1.2;omega
   have x5:aJ (bA C) S0 S5:=(x3.trans c4).sS c5 λb hb=>by
    rcases hb with q|q
    ·exact .inl q
    ·exact .inr (by omega)
   have n45:=c5.1;refine gy m5 o5 hR.len ?_;rw[ib];refine fT hR.len ?_;rw[ale hR.len rfl];have L5w:aW mW (λb=>S0.n≤b) S5 v out:=aW.wk L5 λb hb=>hb.1;refine L5w.push (R:=mW) (bytes:=88) m5 hR (λb hb=>⟨by show S0.n≤b;have:=hb.1;omega,hb.2,λq=>by have:=hlt1 b q;have:=hb.1;omega⟩) (λb hb=>by show S0.n≤b;omega) (by omega) λH6 S6 v6 m6 L6 n6 k6 b6 aoO=>?_;have c6:aJ (λb=>au v b) S5 S6:=⟨n6,λb hb hx=>k6 b hb hx⟩
   have d6:=d5.keep m5 c6 (λq=>by have:=hlo _ q;omega) λb hb q=>by have:=hlo _ q;have:=db b hb;omega
   have x6:aJ (bA C) S0 S6:=x5.sS c6 λb hb=>.inr (hlo b hb);have aoP:∀b,au v6 b→S0.n≤b:=λb hb=>L6.Hk hb;show DU (cL (s10 m)) K X (.ptr C.bp 0) (d:Int) v6 H6;unfold DU;rw[r5];have hX:=hrec k rfl;refine dB (s:=[59]) (bj (by decide)) m6 d6 (λy j er hi H7 S7 m7 c7 d7=>?_) λhi H7 S7 m7 c7 d7=>?_
   ·rw[ai,aM];rw[er]at u7;have u7:aT C (bA C) gp K S0 (cC C.T k (out++[s]) (dz C.T [59] j) d):=u7;have eo:dz C.T [59] j=j+1:=by unfold dz;rw[hi];rfl
    rw[eo]at u7;exact hX v6 (out++[s]) H7 S7 (.ok () (j+1):aj Unit) (by simp;omega) m7 d7 (x6.trans c7) (L6.keep m6 c7.1 λb h1 h2=>c7.2 b h2 (nb b h1)) u7
   ·rw[ai,aM];refine hX v6 (out++[s]) H7 S7 _ (by simp;omega) m7 d7 (x6.trans c7) (L6.keep m6 c7.1 λb h1 h2=>c7.2 b h2 (nb b h1)) ?_;have sp2:∀r':aj aw,pU C.T [59] r'=false→(r'.bind λ_ j=>(aj.ok () (dz C.T [59] j)).bind λ_ j=>cC C.T k (out++[s]) j d)=r'.bind λ_ i=>cC C.T k (out++[s]) i d:=by
     intro r' h;cases r' with
     |aO=>rfl
     |err c i=>rfl
     |ok y j=>
      have h3:isA C.T [59] j=false:=h;have eo:dz C.T [59] j=j:=by unfold dz;rw[h3];rfl
      show cC C.T k (out++[s]) (dz C.T [59] j) d=_;rw[eo];rfl
    rw[←sp2 _ hi];exact u7
end
end
section
variable {H:AH}{S:LS}{K:KF}{C:Ctx}{i d:Nat}
theorem Wu{m:Nat}{S0:LS}(hm:m≤1000000)(O:gq C m)(hd:d≤200)(hbp:C.bp<S0.n)(db:∀b,au C.vT b→b<S0.n):∀(q k:Nat),k<q→2*k+4≤m+1→BkX C S0 K k d (tF (cL (s10 m)) K q)
 |0,k,h,_=>by omega
 |q+1,k,h,hk=>by
  show BkX C S0 K k d (DX (cL (s10 m)) K (tF (cL (s10 m)) K q));exact amy hm O hd hbp db hk λk' e=>Wu hm O hd hbp db q k' (by omega) (by omega)
theorem alD{m q c j:Nat}{S0:LS}{γ:Type}(hM:Mem H S)(hs:bn C S (aj.err c j:aj γ))(hx:aJ (bA C) S0 S)(hP:aT C (bA C) gp K S0 (.err c j)):tF (cL (s10 m)) K (q+1) (.ptr C.bp 0) (d:Int) .ab H:=by
 have r3:(cL (s10 m)).2.2.1=f38:=rfl;show wg (cL (s10 m)) K (DS (cL (s10 m)) K) (rM (cL (s10 m)) K) (DV (cL (s10 m)) K (tF (cL (s10 m)) K q)) (DW (cL (s10 m)) K) (.ptr C.bp 0) (d:Int) .ab H;unfold wg;rw[r3];refine AY hM hs λH1 S1 m1 c1 d1=>?_;rw[ai,aM];have e:Hl C.T (aj.err c j:aj γ)=true:=rfl;rw[e];simp only[Bool.not_true,aG];show we (cL (s10 m)) K .ab H1;unfold we;exact hP.2 H1 S1 .ab [] m1 (hx.trans c1.no) (sg d1 rfl) ⟨λ_=>[],.inl ⟨rfl,rfl⟩,λi e h=>by simp at h⟩ wY
theorem x27{m:Nat}(hm:m≤1000000)(O:gq C m):∀k,2*k+4≤m+1→∀{K:KF}{H:AH}{S:LS}{d:Nat}{γ:Type}{r:aj γ},d≤200→Mem H S→bn C S r→aT C (bA C) gp K S (r.bind λ_ i=>cB C.T k i d)→(s10 (m+1)).1 (.ptr C.bp 0) (d:Int) H K:=by
 intro k hk K H S d γ r hd hM hs hP;have r2:(cL (s10 m)).2.1=f37:=rfl;have e:(s10 (m+1)).1=DY (cL (s10 m)):=by rw[A0]
 rw[e];unfold DY Wc MH;rw[r2];have fV:G.NL=1000000:=rfl;generalize G.NL=fb at fV ⊢;rw[dp,fe];refine w0 (by omega) (by omega) ?_;have hbp:=hs.nW hM;have db:∀b,au C.vT b→b<S.n:=λb hb=>hs.tk.lt hM hb;have sp:(r.bind λ_ i=>cB C.T k i d)=(r.bind λ_ i=>dC (100<d+1) i).bind λ_ i=>if k=0 then .aO else cC C.T (k-1) [] i (d+1):=by
  rw[bJ];cases k with
  |zero=>
   cases r with
   |ok a i=>exact absurd (show cB C.T 0 i d=.aO by simp only[cB]) hP.1
   |err c i=>rfl
   |aO=>rfl
  |succ k=>
   congr 1;funext a i;simp only[cB,dC,Nat.add_one_sub_one,if_neg (Nat.succ_ne_zero k)];split<;>rfl
 rw[sp]at hP;refine AX hM hs (aT.call (eD:=nY) hP λ_ H2 S2 w m2 c2 d2 _ hP2=>?_);cases hr:r.bind λ_ i=>dC (100<d+1) i with
 |aO=>rw[hr]at hP2;exact absurd rfl hP2.1
 |err c i=>
  rw[hr]at hP2 d2;obtain⟨q,rfl⟩:∃q,fb=q+1:=⟨fb-1,by omega⟩
  exact alD (d:=d+1) m2 d2 c2 hP2
 |ok x i=>
  rw[hr]at hP2 d2;have hP3:aT C (bA C) gp K S (if k=0 then .aO else cC C.T (k-1) [] i (d+1)):=hP2;by_cases k0:k=0
  ·rw[if_pos k0]at hP3;exact absurd rfl hP3.1
  ·rw[if_neg k0]at hP3;have afa:d+1≤200:=by
    cases r with
    |ok a j=>
     have hr:dC (100<d+1) j=.ok x i:=hr;unfold dC at hr;split at hr
     ·cases hr
     ·omega
    |err c j=>cases hr
    |aO=>cases hr
   exact Wu (d:=d+1) hm O afa hbp db fb (k-1) (by omega) (by omega) .ab [] H2 S2 (aj.ok x i) (by simp;omega) m2 d2 c2 (aW.nil _ _ _) hP3
theorem anP:gq C 0 where
 block k hk:=absurd hk (by omega)
 exp k hk:=absurd hk (by omega)
 stat k hk:=absurd hk (by omega)
 lv0 k hk:=absurd hk (by omega)
 lv1 k hk:=absurd hk (by omega)
 lv2 k hk:=absurd hk (by omega)
 lv3 k hk:=absurd hk (by omega)
 lv4 k hk:=absurd hk (by omega)
 lv5 k hk:=absurd hk (by omega)
 lv6 k hk:=absurd hk (by omega)
 body k hk:=absurd hk (by omega)
 behind k hk:=absurd hk (by omega)
 join k hk:=absurd hk (by omega)
 unary k hk:=absurd hk (by omega)
 post k hk:=absurd hk (by omega)
 table k hk:=absurd hk (by omega)
theorem anQ{m:Nat}(hm:m≤1000000)(O:gq C m):gq C (m+1) where
 block:=x27 hm O
 exp k hk:=x70 (by omega) O k hk
 stat:=x71 hm O
 lv0:=alk (by omega) O
 lv1:=alm (by omega) O
 lv2:=aln (by omega) O
 lv3 k hk:=Rx (n:=3) (.inl rfl) (λ_=>O.join k (by omega)) (λh=>by cases h)
 lv4:=alo (by omega) O
 lv5:=alp (by omega) O
 lv6 k hk:=Rx (n:=6) (.inr rfl) (λh=>by cases h) (λ_=>O.unary k (by omega))
 body:=x105 (by omega) O
 behind:=x107 (by omega) O
 join:=anG O
 unary:=anH O
 post:=x167 (by omega) O
 table:=anI (by omega) O
theorem okX:∀m:Nat,m≤1000001→gq C m
 |0,_=>anP
 |m+1,h=>anQ (by omega) (okX m (by omega))
end
section
variable {H:AH}{S:LS}{K:KF}{C:Ctx}{i d:Nat}
theorem PI{R:qi}{S0:LS}{r:aj (List aw)}{v:AV}{b:List aw}{r0:List aw ⊕ Nat×Nat}(hM:Mem H S)(hd:bn C S r)(hv:∀b' j,r=.ok b' j→b=b')(hr:r0=(match r with|.ok b _=>.inl b|.err c i=>.inr (c,aq C.T i)|.aO=>.inl []))(hx:Ext S0 S)(hR:gp S (iy S0.n S.n) v b)(hP:ScP K S0 r0):TK R K (.ptr C.bp 0) v H:=by
 show Kj R K (.ptr C.bp 0) v H;unfold Kj;have e0:Int.ofNat 0=((0:Nat):Int):=rfl;refine ie hM hd ?_;rw[bD,e0];subst hr;cases r with
 |aO=>exact absurd rfl hd.no
 |ok a i=>
  rw[decide_eq_true (by show((0:Nat):Int)=_;rfl)];simp only[Bool.not_true,aG];have hP:∀H' S' v,Mem H' S'→Ext S0 S'→gp S' (iy S0.n S'.n) v a→K (.ret (.bF [v,.int 0 0,.int 0 0])) H':=hP;rw[hv a i rfl]at hR;exact hP H S v hM hx hR
 |err c i=>
  have hc:=(hd.cd c i rfl).1;rw[decide_eq_false (by show ¬((c:Nat):Int)=((0:Nat):Int);omega)];simp only[Bool.not_false,aK];refine ie hM hd ?_;simp only[dL,aU,Nat.zero_add];refine aF hM hd.ob (v:=.int 0 (aq C.T i:Int)) rfl ?_;rw[aQ];have hP:∀H' S',Mem H' S'→Ext S0 S'→K (.ret (.bF [.ab,.int 0 (c:Int),.int 0 (aq C.T i:Int)])) H':=hP;exact hP H S hM hx
theorem anR{R:qi}{F:AV→AH→KF→Prop}(q1:R.1=F)(q2:R.2.1=f17)(q3:R.2.2=f18){s:List Nat}{r:List Tok ⊕ Nat}(h8:B8 s)(hs:s.length≤5000)(hr:jg s 0 r)(hM:Mem H S)(hF:∀{K:KF},LxQ K S r→F (ah s) H K)(hP:ScP K S (vw r)):TM R (ah s) H K:=by
 unfold TM af6 TL;rw[q1];refine hF ?_;have e0:Int.ofNat 0=((0:Nat):Int):=rfl;cases r with
 |inr e=>
  intro H4 S4 m4 x4;simp only[ai,pO,rq,rr,aQ];rw[bD,decide_eq_false (by simp)];simp only[Bool.not_false,aK];exact hP H4 S4 m4 x4
 |inl ts=>
  intro H4 S4 v m4 x4 f4 b4;have n4:=x4.n;simp only[ai,pO,rq,rr,aQ];rw[bD,e0,decide_eq_true (show(0:Int)=((0:Nat):Int)from rfl)];simp only[Bool.not_true,aG];refine fU f4.one' ?_;refine eC m4 (λa ha=>?_) λH5 m5=>?_
  ·simp only[List.mem_cons,List.not_mem_nil,or_false]at ha;rcases ha with rfl|rfl|rfl|rfl
   ·exact f4.one'
   all_goals rfl
  have c5:aJ bP S4 (S4.push (.ce [v,.int 0 ((0:Nat):Int),.int 0 ((0:Nat):Int),.int 0 ((0:Nat):Int)] 0)):=(aJ.refl _ _).push _;have o5:(S4.push (.ce [v,.int 0 ((0:Nat):Int),.int 0 ((0:Nat):Int),.int 0 ((0:Nat):Int)] 0)).ob S4.n=_:=LS.ax _ _;have n5:(S4.push (.ce [v,.int 0 ((0:Nat):Int),.int 0 ((0:Nat):Int),.int 0 ((0:Nat):Int)] 0)).n=S4.n+1:=rfl;have m5:Mem H5 (S4.push (.ce [v,.int 0 ((0:Nat):Int),.int 0 ((0:Nat):Int),.int 0 ((0:Nat):Int)] 0)):=m5;revert m5 c5 o5 n5;generalize S4.push (.ce [v,.int 0 ((0:Nat):Int),.int 0 ((0:Nat):Int),.int 0 ((0:Nat):Int)] 0)=S5;intro c5 o5 n5 m5;have hlen:=hr.few ts rfl;have anS:∀b,au v b→b<S4.n:=λb hb=>f4.lt m4 hb;obtain⟨C,hC⟩:∃C:Ctx,C=⟨ts,S4.n,v,.iface 57 (.agg []),hr.AT,hr.b8 h8 ts rfl,by omega,λq=>by have:=anS _ q;omega⟩:=⟨_,rfl⟩
  have cT:C.T=ts:=by rw[hC]
  have cb:C.bp=S4.n:=by rw[hC]
  have cv:C.vT=v:=by rw[hC]
  clear hC;have d5:bn C S5 (aj.ok () 0:aj Unit):=⟨by rw[cb,cv];exact o5,by rw[cT,cv];exact f4.keep m4 λb _ hb=>c5.2 b hb λq=>q,by rw[cT];exact hr.AT.1,λq=>(by cases q),λc i q=>(by cases q)⟩
  have e27:f17=(s10 G.NL).1:=by unfold f17;rfl
  rw[q2,e27];clear e27;have fV:G.NL=1000000:=rfl;generalize G.NL=fb at fV ⊢;rw[←cb];have x5:Ext S S5:=x4.trans c5.ext;have hsc:vw (.inl ts)=(match jx ts with|.ok b _=>.inl b|.err c i=>.inr (c,aq ts i)|.aO=>.inl []):=rfl;rw[hsc]at hP;have hne:=Hh hr.AT;have hlt:=Hi hr.AT;unfold jx at hP hne;refine(okX (C:=C) fb (by omega)).block (64*ts.length+64) (by omega) (by omega) m5 d5 ?_;show aT C (bA C) gp _ S5 (cB C.T (64*ts.length+64) 0 0);rw[cT];generalize hb:cB ts (64*ts.length+64) 0 0=rb at hP hne hlt;refine⟨λq=>hne (by rw[q];rfl),λH6 S6 w b m6 c6 d6 rv6 ha=>?_⟩;show cR K (.ret w) H6 _;rw[ai];have nS:=x4.n;have x6:Ext S S6:=⟨Nat.le_trans x5.n c6.1,λb hb=>(c6.2 b (Nat.lt_of_lt_of_le hb x5.n) λq=>by
   have q:b=C.bp:=q;rw[cb]at q;omega).trans (x5.ob b hb)⟩
  have R6:gp S6 (iy S.n S6.n) w b:=rv6.go (λ_ _=>rfl) λb hb=>⟨Nat.le_trans x5.n hb.1,hb.2⟩
  have aoQ:=d6.nW m6;refine ie m6 d6 ?_;rw[bD];cases rb with
  |aO=>exact absurd rfl d6.no
  |err c i=>
   have hc:=(d6.cd c i rfl).1;rw[decide_eq_false (by show ¬((c:Nat):Int)=((0:Nat):Int);omega),aG];exact PI (r:=(aj.err c i:aj (List aw))) m6 d6 (λb' j q=>by cases q) (by rw[cT];rfl) x6 R6 hP
  |ok b' j=>
   have hbb:b=b':=ha b' j rfl;rw[decide_eq_true (by show((0:Nat):Int)=((0:Nat):Int);rfl),aK];refine AU m6 d6 (j:=0) (v:=.int 0 (cz C.T j:Int)) (by omega) rfl ?_;rw[aQ,bD,cT];by_cases hk:cz ts j=0
   ·rw[decide_eq_true (by show((cz ts j:Nat):Int)=((0:Nat):Int);rw[hk])];simp only[Bool.not_true,aG];refine PI (r:=(aj.ok b' j:aj (List aw))) m6 d6 (λb'' j' q=>by cases q;exact hbb) ?_ x6 R6 hP;show((match (if cz ts j=0 then aj.ok b' j else .err 14 j)with|.ok b _=>.inl b|.err c i=>.inr (c,aq ts i)|.aO=>.inl []):List aw ⊕ Nat×Nat)=_;rw[if_pos hk]
   ·rw[decide_eq_false (by show ¬((cz ts j:Nat):Int)=((0:Nat):Int);omega)];simp only[Bool.not_false,aK];have e14:Int.ofNat 14=((14:Nat):Int):=rfl;rw[q3,e14];refine qU (c:=14) (by omega) (by omega) m6 d6 λH7 S7 m7 c7 d7=>?_;rw[ai];have x7:Ext S S7:=⟨Nat.le_trans x6.n c7.1,λb hb=>(c7.2 b (Nat.lt_of_lt_of_le hb x6.n) λq=>by
     have q:b=C.bp:=q;rw[cb]at q;omega).trans (x6.ob b hb)⟩
    have R7:gp S7 (iy S.n S7.n) w b:=rv6.go (λb hb=>c7.2 b hb.2 λq=>by
     have q:b=C.bp:=q;have:=hb.1;rw[cb]at q;omega) λb hb=>⟨Nat.le_trans x5.n hb.1,Nat.lt_of_lt_of_le hb.2 c7.1⟩
    refine PI (r:=(aj.err 14 j:aj (List aw))) m7 (d7.as rfl rfl rfl (λq=>by cases q) λc i q=>d7.cd c i (by cases q;rfl)) (λb' j q=>by cases q) ?_ x7 R7 hP;show((match (if cz ts j=0 then aj.ok b' j else .err 14 j)with|.ok b _=>.inl b|.err c i=>.inr (c,aq ts i)|.aO=>.inl []):List aw ⊕ Nat×Nat)=_;rw[if_neg hk];show(Sum.inr (14,aq ts j):List aw ⊕ Nat×Nat)=.inr (14,aq C.T j);rw[cT]
end
end Go.Proofs.YtcedghechlgecaaDoor
