/- The parser of the document gives what the grammar says. No condition: lemmas. -/
import Derived.Test.YtcedghechlgecaaDoorPa
set_option maxRecDepth 100000
set_option maxHeartbeats 0
set_option linter.unusedVariables false
set_option linter.unusedSimpArgs false
namespace Go.X
theorem bJ{α β γ:Type}(r:ak α)(f:α→Nat→ak β)(g:β→Nat→ak γ):(r.bind f).bind g=r.bind λa j=>(f a j).bind g:=by cases r<;>rfl
def Ag{α:Type}(r:ak α)(a:α):Prop:=∀a' j,r=.ok a' j→a=a'
theorem ahH{α β:Type}{r:ak α}{a:α}(h:Ag r a)(f:α→Nat→ak β):r.bind f=r.bind λ_ j=>f a j:=by
 cases r with
 |ok b j=>rw[h b j rfl];rfl
 |err c j=>rfl
 |bb=>rfl
def ak.ix{α:Type}:ak α→Nat
 |.ok _ i=>i
 |.err _ i=>i
 |.bb=>0
def ak.cd{α:Type}:ak α→Nat
 |.err c _=>c
 |_=>0
def ak.pl{α:Type}(T:List Tok):ak α→Nat
 |.err _ i=>ay T i
 |_=>0
structure aZ(C:Ctx)(S:LS){α:Type}(r:ak α):Prop where
 ob:S.ob C.bp=.ce [C.vT,.int 0 (r.ix:Int),.int 0 (r.cd:Int),.int 0 (r.pl C.T:Int)] 0
 tk:fj S 4 C.vT C.T.length (tcs C.T)
 lt:r.ix<C.T.length
 no:r≠.bb
 cd:∀c i,r=.err c i→c≠0∧c≤100
def aU{α:Type}(C:Ctx)(X:Nat→Prop)(Rp:LS→(Nat→Prop)→AV→α→Prop)(K:KF)(S:LS)(r:ak α):Prop:=
 r≠.bb∧∀H' S' v a,Mem H' S'→aK X S S'→aZ C S' r→Rp S' (jd S.n S'.n) v a→Ag r a→K (.ret v) H'
def oG{α:Type}(T:List Tok)(s:List Nat):ak α→Bool
 |.ok _ i=>isA T s i
 |_=>false
section
variable {C:Ctx}{X Y:Nat→Prop}{S S' S1:LS}{H:AH}{K:KF}{α β γ:Type}{eT:LS→(Nat→Prop)→AV→α→Prop}{Es:LS→(Nat→Prop)→AV→β→Prop}{r:ak α}
theorem aZ.mW(h:aZ C S r)(hM:Mem H S):C.bp<S.n:=hM.lt (by rw[h.ob];simp)
theorem aZ.keep(h:aZ C S r)(hM:Mem H S)(hc:aK X S S')(h1:¬X C.bp)(h2:∀b,aj C.vT b→¬X b):aZ C S' r:=
 ⟨(hc.2 C.bp (h.mW hM) h1).trans h.ob,h.tk.keep hM λb hb hlt=>hc.2 b hlt (h2 b hb),h.lt,h.no,h.cd⟩
theorem aZ.ik(h:aZ C S r)(hM:Mem H S)(hc:aK bU S S'):aZ C S' r:=h.keep hM hc (λg=>g) λ_ _ g=>g
theorem aZ.as{r':ak β}(h:aZ C S r)(h1:r'.ix=r.ix)(h2:r'.cd=r.cd)(h3:r'.pl C.T=r.pl C.T)(h4:r'≠.bb)(h5:∀c i,r'=.err c i→c≠0∧c≤100):aZ C S r':=
 ⟨by rw[h1,h2,h3];exact h.ob,h.tk,by rw[h1];exact h.lt,h4,h5⟩
theorem Mm(h:fj S 4 C.vT C.T.length (tcs C.T))(o:gu):fj (S.set C.bp o) 4 C.vT C.T.length (tcs C.T):=by
 rcases h with g|⟨b,c,ex,cs,g1,g2,g3⟩
 ·exact .inl g
 ·refine .inr ⟨b,c,ex,cs,g1,?_,g3⟩;rw[LS.an _ _ λe=>C.ne (by rw[g1,←e];rfl)];exact g2
theorem aZ.pZ{r0:ak γ}{S0:LS}{H0:AH}(h:aZ C S r)(h0:aZ C S0 r0)(hM0:Mem H0 S0){b:Nat}(hb:S0.n≤b)(o:gu):aZ C (S.set b o) r:=
 ⟨(LS.an _ _ (by have:=h0.mW hM0;omega)).trans h.ob,by
  have hv:=h0.tk;rcases h.tk with g|⟨b',c,ex,cs,g1,g2,g3⟩
  ·exact .inl g
  ·refine .inr ⟨b',c,ex,cs,g1,?_,g3⟩;have:b'<S0.n:=hv.lt hM0 (by rw[g1];rfl);rw[LS.an _ _ (by omega)];exact g2,h.lt,h.no,h.cd⟩
theorem aZ.setB(h:aZ C S r){b:Nat}(h1:b≠C.bp)(h2:∀x,aj C.vT x→x≠b)(o:gu):aZ C (S.set b o) r:=
 ⟨(LS.an _ _ (Ne.symm h1)).trans h.ob,by
  rcases h.tk with g|⟨b',c,ex,cs,g1,g2,g3⟩
  ·exact .inl g
  ·refine .inr ⟨b',c,ex,cs,g1,?_,g3⟩;rw[LS.an _ _ (h2 b' (by rw[g1];rfl))];exact g2,h.lt,h.no,h.cd⟩
theorem aZ.ok(h:aZ C S r){j:Nat}(a:β)(hj:j<C.T.length):aZ C (S.set C.bp (.ce [C.vT,.int 0 (j:Int),.int 0 0,.int 0 0] 0)) (ak.ok a j):=
 ⟨LS.av _ _ _,Mm h.tk _,hj,λe=>(by cases e),λc i e=>(by cases e)⟩
theorem aU.call{f:α→Nat→ak β}(h:aU C X Es K S (r.bind f)){k:AV→AH→Prop}
  (hk:∀a H' S' v,Mem H' S'→aK Y S1 S'→aZ C S' r→eT S' (jd S1.n S'.n) v a→aU C X Es K S (r.bind λ_ j=>f a j)→k v H'):aU C Y eT (λo H=>cR K o H λv=>k v H) S1 r:=
 ⟨λe=>h.1 (by rw[e];rfl),λH' S' v a m c d p g=>hk a H' S' v m c d p (by rw[←ahH g];exact h)⟩
theorem aU.tail{r:ak β}(h:aU C X Es K S r){eT:LS→(Nat→Prop)→AV→β→Prop}{k:AV→AH→Prop}
  (hk:∀a H' S' v,Mem H' S'→aK Y S1 S'→aZ C S' r→eT S' (jd S1.n S'.n) v a→(∀Et lD w,Mem Et lD→aK X S lD→aZ C lD r→Es lD (jd S.n lD.n) w a→K (.ret w) Et)→k v H'):aU C Y eT (λo H=>cR K o H λv=>k v H) S1 r:=
 ⟨h.1,λH' S' v a m c d p g=>hk a H' S' v m c d p λEt lD w m' c' d' p'=>h.2 Et lD w a m' c' d' p' g⟩
theorem aU.seq{r:ak γ}{p:γ→Nat→ak α}{f:α→Nat→ak β}(h:aU C X Es K S (r.bind λx i=>(p x i).bind f)):aU C X Es K S ((r.bind p).bind f):=by rw[bJ];exact h
theorem Ap{s:List Nat}(h:oG C.T s r=true):∃a i,r=.ok a i∧isA C.T s i=true:=by
 cases r with
 |ok a i=>exact⟨a,i,rfl,h⟩
 |err c i=>cases h
 |bb=>cases h
theorem wS{s:List Nat}(h:oG C.T s r=false)(f g:α→Nat→ak β):(r.bind λa i=>if isA C.T s i=true then f a i else g a i)=r.bind g:=by
 cases r with
 |ok a i=>
  have h:isA C.T s i=false:=h;show(if isA C.T s i=true then f a i else g a i)=g a i;rw[h];rfl
 |err c i=>rfl
 |bb=>rfl
end
end Go.X
namespace Go.Proofs.YtcedghechlgecaaDoor
open Go Go.X Go.Proofs.YtcedghechlgecaaDoor.G
section
variable {H:AH}{S:LS}{K:KF}{C:Ctx}{i d:Nat}
def bE(C:Ctx):Nat→Prop:=λb=>b=C.bp
theorem aK.FJ{C:Ctx}{S S':LS}(h:aK (bE C) S S')(o:gu):aK (bE C) S (S'.set C.bp o):=h.set (b:=C.bp) (.inl (rfl:C.bp=C.bp)) o
end
section
variable {H:AH}{S:LS}{K:KF}{C:Ctx}{i d:Nat}
def fO(C:Ctx)(c:Nat):Nat→Prop:=λb=>b=C.bp∨b=c
def iK(bs:Nat)(S:LS)(Q:Nat→Prop)(v:AV)(s:az):Prop:=v=.aL []∧∃c,S.ob bs=.ce c 0∧iz S Q c s
def z7:List AV:=[.int 0 (.ofNat 0),.int 0 (.ofNat 0),.int 0 (.ofNat 0),.str 0 0,.int 0 (.ofNat 0),.ab,.ab]
theorem jK(nw:Lay)(k:AV→AH→Prop):fc Tryd.prog nw 41 k=hN nw z7 k:=by kernel_rfl
theorem fy:∀a∈z7,a.one=true:=by
 intro a ha;simp only[z7,List.mem_cons,List.not_mem_nil,or_false]at ha;rcases ha with rfl|rfl|rfl|rfl|rfl|rfl|rfl<;>rfl
theorem Rk{z c:List AV}(h:c.length=z.length):dY z 0 c=c:=by
 unfold dY;rw[List.take_zero,List.drop_of_length_le (by omega)];simp
theorem kg{n b:Nat}{c z:List AV}{k:AH→Prop}(hM:Mem H S)(h1:S.ob b=.ce z 0)(hz:z.length=n)(hc:c.length=n)(ho:∀a∈c,a.one=true)(hk:∀H',Mem H' (S.set b (.ce c 0))→k H'):ah n (.ptr b 0) (.agg c) H k:=
 oA hM h1 (by omega) hc (by omega) ho λH' h'=>hk H' (by rw[Rk (by omega)]at h';exact h')
theorem gO{n b m:Nat}{c:List AV}{k:AV→Prop}(hM:Mem H S)(h1:S.ob b=.ce c m)(hc:c.length=n)(hk:k (.agg c)):aN n (.ptr b 0) H k:=
 wD hM h1 (by omega) (by rw[List.drop_zero,List.take_of_length_le (by omega)];exact hk)
theorem anj{b1 b3:Nat}{c z:List AV}(hM:Mem H S)(h3:S.ob b3=.ce c 0)(hc:c.length=7)(ho:∀a∈c,a.one=true)(h1:S.ob b1=.ce z 0)(hz:z.length=7)(hK:∀H',Mem H' (S.set b1 (.ce c 0))→K (.ret (.agg c)) H'):aN 7 (.ptr b3 0) H λv1=>ah 7 (.ptr b1 0) v1 H λH2=>aN 7 (.ptr b1 0) H2 λv3=>K (.ret v3) H2:=by
 refine gO hM h3 hc (kg hM h1 hz hc ho λH' h'=>?_);exact gO h' (LS.av _ _ _) hc (hK H' h')
theorem dZ.two{Q:Nat→Prop}{b:Nat}{ca cb:List AV}{m:Nat}{ex:Bool}(hQ:Q b)(hb:S.ob b=.ce (ca++cb) m)(h1:ca.length=7)(h2:cb.length=7):dZ S Q 7 (.slice b 0 2 2 7 ex) 2 (λi=>if i=0 then ca else cb):=
 .inr ⟨b,0,2,ex,ca++cb,m,rfl,hQ,hb,Nat.le_refl _,by rw[List.length_append];omega,λi hi=>by
  have hi2:i=0∨i=1:=by omega
  rcases hi2 with rfl|rfl
  ·show((ca++cb).drop 0).take 7=ca;rw[List.drop_zero];exact List.take_left' h1
  ·show((ca++cb).drop 7).take 7=cb;rw[List.drop_left' h1,List.take_of_length_le (by omega)]⟩
theorem RE.simple{Q:Nat→Prop}{kind at_ n op:Nat}{s:List Nat}(h:B8 s):RE S Q [.int 0 (kind:Int),.int 0 (at_:Int),.int 0 (n:Int),ai s,.int 0 (op:Int),.ab,.ab] (.mk kind at_ n s op [] []):=
 .mk kind at_ n s op [] [] .ab .ab (λ_=>[]) (λ_=>[]) h (dZ.nil _ _ _ _) (λi e h=>by simp at h) (dZ.nil _ _ _ _) (λi e h=>by simp at h)
theorem RE.two{Q:Nat→Prop}{kind at_ op b m:Nat}{ex:Bool}{x y:au}{ca cb:List AV}(hQ:Q b)(hb:S.ob b=.ce (ca++cb) m)(h1:RE S Q ca x)(h2:RE S Q cb y):RE S Q [.int 0 (kind:Int),.int 0 (at_:Int),.int 0 ((0:Nat):Int),ai [],.int 0 (op:Int),.slice b 0 2 2 7 ex,.ab] (mV kind op at_ x y):=by
 refine .mk kind at_ 0 [] op [x,y] [] _ .ab _ (λ_=>[]) B8.nil (dZ.two hQ hb h1.len h2.len) (λi e h=>?_) (dZ.nil _ _ _ _) (λi e h=>by simp at h)
 match i,h with
 |0,h=>
  have e1:x=e:=by simpa using h
  subst e1;exact h1
 |1,h=>
  have e1:y=e:=by simpa using h
  subst e1;exact h2
 |i+2,h=>simp at h
end
section
variable {H:AH}{S:LS}{K:KF}{C:Ctx}{i d:Nat}
structure lE(C:Ctx)(S0 S:LS)(b1 b3:Nat)(c:List AV)(e:au):Prop where
 x:aK (bE C) S0 S
 o1:∃z,S.ob b1=.ce z 0∧z.length=7
 o3:S.ob b3=.ce c 0
 n1:S0.n≤b1
 n3:S0.n≤b3
 ne:b1≠b3
 re:∃Q,RE S Q c e∧∀b,Q b→S0.n≤b∧b<S.n∧b≠b1∧b≠b3
section
variable {S0 S':LS}{H0:AH}{i0 d0 b1 b3:Nat}{c:List AV}{e:au}
theorem lE.keep(h:lE C S0 S b1 b3 c e)(hM:Mem H S)(hbp:C.bp<S0.n)(g:aK (bE C) S S'):lE C S0 S' b1 b3 c e:=by
 have ne1:¬bE C b1:=λq=>by have q:b1=C.bp:=q;have:=h.n1;omega
 have ne3:¬bE C b3:=λq=>by have q:b3=C.bp:=q;have:=h.n3;omega
 obtain⟨z,hz,mZ⟩:=h.o1;obtain⟨Q,h1,h2⟩:=h.re;exact⟨h.x.trans g,⟨z,g.ob hM hz ne1,mZ⟩,g.ob hM h.o3 ne3,h.n1,h.n3,h.ne,Q,h1.go (λb hb=>g.2 b (h2 b hb).2.1 λq=>by have q:b=C.bp:=q;have:=(h2 b hb).1;omega) (λ_ h=>h),λb hb=>⟨(h2 b hb).1,Nat.lt_of_lt_of_le (h2 b hb).2.1 g.1,(h2 b hb).2.2⟩⟩
theorem lE.Mo{c':List AV}{e':au}(h:lE C S0 S b1 b3 c e){Q:Nat→Prop}(hr:RE S Q c' e')(hQ:∀b,Q b→S0.n≤b∧b<S.n∧b≠b1∧b≠b3):lE C S0 (S.set b3 (.ce c' 0)) b1 b3 c' e':=by
 obtain⟨z,hz,mZ⟩:=h.o1;exact⟨h.x.set (.inr h.n3) _,⟨z,(LS.an _ _ h.ne).trans hz,mZ⟩,LS.av _ _ _,h.n1,h.n3,h.ne,Q,hr.go (λb hb=>LS.an _ _ (hQ b hb).2.2.2) (λ_ h=>h),hQ⟩
theorem lE.len(h:lE C S0 S b1 b3 c e):c.length=7:=by obtain⟨Q,h1,_⟩:=h.re;exact h1.len
end
end
section
variable {H:AH}{S:LS}{K:KF}{C:Ctx}{i d:Nat}
theorem dZ.single{Q:Nat→Prop}{b m sz:Nat}{c:List AV}{ex:Bool}(hQ:Q b)(hb:S.ob b=.ce c m)(hc:c.length=sz):dZ S Q sz (.slice b 0 1 1 sz ex) 1 (λ_=>c):=
 .inr ⟨b,0,1,ex,c,m,rfl,hQ,hb,Nat.le_refl _,by omega,λi hi=>by
  have:i=0:=by omega
  subst this;show(c.drop (0+0*sz)).take sz=c;rw[Nat.zero_mul,Nat.add_zero,List.drop_zero,List.take_of_length_le (by omega)]⟩
theorem RE.one{Q:Nat→Prop}{kind at_ op b m:Nat}{ex:Bool}{x:au}{c:List AV}(hQ:Q b)(hb:S.ob b=.ce c m)(h1:RE S Q c x):RE S Q [.int 0 (kind:Int),.int 0 (at_:Int),.int 0 ((0:Nat):Int),ai [],.int 0 (op:Int),.slice b 0 1 1 7 ex,.ab] (.mk kind at_ 0 [] op [x] []):=by
 refine .mk kind at_ 0 [] op [x] [] _ .ab _ (λ_=>[]) B8.nil (dZ.single hQ hb h1.len) (λi e h=>?_) (dZ.nil _ _ _ _) (λi e h=>by simp at h)
 match i,h with
 |0,h=>
  have e1:x=e:=by simpa using h
  subst e1;exact h1
 |i+1,h=>simp at h
theorem lE.mk0{S0 S2:LS}{H2:AH}{c:List AV}{e:au}{z:List AV}(hbp:C.bp<S0.n)(hz:z.length=7)(h1:aK (bE C) S0 S2)(m2:Mem H2 S2)(hb1:S2.ob S0.n=.ce z 0)(hR:RE S2 (jd (S0.n+1) S2.n) c e):lE C S0 ((S2.push (.ce z7 0)).set S2.n (.ce c 0)) S0.n S2.n c e:=by
 have n12:S0.n<S2.n:=m2.lt (by rw[hb1];simp);have c4:aK bU S2 ((S2.push (.ce z7 0)).set S2.n (.ce c 0)):=((aK.refl _ _).push _).set (.inr (Nat.le_refl _)) _;exact⟨h1.trans c4.no,⟨z,c4.ob m2 hb1 (λq=>q),hz⟩,LS.av _ _ _,Nat.le_refl _,by omega,by omega,jd (S0.n+1) S2.n,hR.go (λb hb=>c4.2 b hb.2 λq=>q) (λ_ h=>h),λb hb=>⟨by have:=hb.1;omega,Nat.lt_of_lt_of_le hb.2 c4.1,by have:=hb.1;omega,by have:=hb.2;omega⟩⟩
end
end Go.Proofs.YtcedghechlgecaaDoor
namespace Go.X
section
variable {H:AH}{S:LS}
theorem iU.FK{α:Type}{R:Rep α}{lo:Nat}{v:AV}{l:List α}{k:AV→Prop}(h:iU R lo S v l)(hk:k (.int 0 l.length)):bN v k:=by
 obtain⟨cl,h1,_⟩:=h;exact h1.len hk
theorem ank{bytes sz n n':Nat}{v x:AV}{l:List AV}{Q:Nat→Prop}{cl:Nat→List AV}{k:AV→AH→Prop}(hM:Mem H S)(hs:fj S sz v n l)(hv:0<n'∨v≠.ab)(hsz:0<sz)(hx:dZ S Q sz x n' cl)(hone:∀i,i<n'→∀a∈cl i,a.one=true)(hl:(n+n')*bytes≤1099511627776)
  (hK:∀H' S' v' l',Mem H' S'→l'.length=n'*sz→(∀i,i<n'→(l'.drop (i*sz)).take sz=cl i)→qT S v (n+n') sz (l++l') S' v'→k v' H'):cQ sz bytes v x H k:=by
 have go:∀l':List AV,l'.length=n'*sz→(∀i,i<n'→(l'.drop (i*sz)).take sz=cl i)→qP sz bytes n' v l' H k:=λl' h1 h2=>by
  refine xM hM hs hsz hv h1 hl (λa ha=>?_) λH' S' v' m' he=>hK H' S' v' l' m' h1 h2 he;obtain⟨j,hj,e⟩:=List.mem_iff_getElem.1 ha;have hi:j/sz<n':=Nat.div_lt_of_lt_mul (by rw[Nat.mul_comm];omega);refine hone (j/sz) hi a ?_;rw[←h2 _ hi];rw[List.mem_iff_getElem?];refine⟨j%sz,?_⟩;rw[List.getElem?_take,if_pos (Nat.mod_lt _ hsz),List.getElem?_drop,Nat.mul_comm,Nat.div_add_mod,List.getElem?_eq_getElem hj,e]
 rcases hx with⟨rfl,rfl⟩|⟨b,o,c,ex,cs,m,rfl,h1,h2,h3,h4,h5⟩
 ·exact go [] (by simp) (λi hi=>by omega)
 ·refine oB (ex:=ex) (cap:=c) (k:=λl=>qP sz bytes n' _ l H k) hM h2 (by omega) ?_;refine go _ (by rw[List.length_take,List.length_drop];omega) λi hi=>?_;have hle:(i+1)*sz≤n'*sz:=Nat.mul_le_mul_right _ (by omega);rw[Nat.add_mul,Nat.one_mul]at hle;rw[List.drop_take,List.take_take,Nat.min_eq_left (by omega),List.drop_drop];exact h5 i hi
end
end Go.X
namespace Go.Proofs.YtcedghechlgecaaDoor
open Go Go.X Go.Proofs.YtcedghechlgecaaDoor.G
section
variable {H:AH}{S:LS}{K:KF}{C:Ctx}{i d:Nat}
end
section
variable {H:AH}{S:LS}{K:KF}{C:Ctx}{i d:Nat}
theorem aeb{T:List Tok}{i:Nat}:∀a∈mX T i,a.one=true:=by
 intro a ha;simp only[mX,List.mem_cons,List.not_mem_nil,or_false]at ha;rcases ha with rfl|rfl|rfl|rfl<;>rfl
end
end Go.Proofs.YtcedghechlgecaaDoor
namespace Go.X
section
variable {H:AH}{S:LS}
theorem iU.same{α:Type}{R:Rep α}{lo:Nat}{v:AV}{l:List α}(h:iU R lo S v l):bj v v=true:=by
 obtain⟨cl,h1,_⟩:=h;rcases h1 with⟨rfl,_⟩|⟨b,c,ex,cs,rfl,_⟩
 ·rfl
 ·simp[bj]
theorem iU.one{α:Type}{R:Rep α}{lo:Nat}{v:AV}{l:List α}(h:iU R lo S v l):v.one=true:=by
 obtain⟨cl,h1,_⟩:=h;rcases h1 with⟨rfl,_⟩|⟨b,c,ex,cs,rfl,_⟩<;>rfl
theorem bind_ok{α β:Type}{r:ak α}{f:α→Nat→ak β}{b:β}{j:Nat}(h:r.bind f=.ok b j):∃a i,r=.ok a i∧f a i=.ok b j:=by
 cases r with
 |ok a i=>exact⟨a,i,rfl,h⟩
 |err c i=>cases h
 |bb=>cases h
end
end Go.X
namespace Go.Proofs.YtcedghechlgecaaDoor
open Go Go.X Go.Proofs.YtcedghechlgecaaDoor.G
section
variable {H:AH}{S:LS}{K:KF}{C:Ctx}{i d:Nat}
def sR(a:Nat)(v:AV):List AV:=[.int 0 ((8:Nat):Int),.int 0 (a:Int),.int 0 ((0:Nat):Int),ai [],.int 0 ((0:Nat):Int),v,.ab]
theorem aec{a:Nat}:∀x∈sR a .ab,x.one=true:=λx hx=>(RE.simple (S:=⟨0,λ_=>.ce [] 0⟩) (Q:=bU) (kind:=8) (at_:=a) (n:=0) (op:=0) B8.nil).ones x hx
end
end Go.Proofs.YtcedghechlgecaaDoor
namespace Go.X
section
variable {H:AH}{S:LS}
theorem anl{bytes sz n:Nat}{v:AV}{l l':List AV}{k:AV→AH→Prop}(hM:Mem H S)(hs:fj S sz v n l)(hsz:0<sz)(hl':l'.length=sz)(hl:(n+1)*bytes≤1099511627776)(h1:∀a∈l',a.one=true)
  (hK:∀H' S' v',Mem H' S'→qT S v (n+1) sz (l++l') S' v'→k v' H'):aR (aB H) 1 sz l' λx H'=>bT (Nat.beq H'.n (Nat.succ H.n)) (cQ sz bytes v x H' k):=by
 refine dJ hM (by omega) h1 λH1 m1=>cC (qS (by rw[m1.n,hM.n];rfl)) ?_;have hs1:fj (S.push (.ce l' 0)) sz v n l:=hs.keep hM λb _ hb=>LS.bR _ _ hb;have hlt1:∀b,aj v b→b<S.n:=λb hb=>hs.lt hM hb;refine oB (ex:=true) (cap:=1) (o:=0) (n:=1) (l:=l') (m:=0) (b:=S.n) (k:=λl=>qP sz bytes 1 _ l H1 k) m1 (LS.aq _ _) (by omega) ?_;rw[List.drop_zero,List.take_of_length_le (by omega)];refine xM m1 hs1 hsz (.inl (by omega)) (by omega) hl h1 λH' S' v' h' he=>?_;obtain⟨e1,e2,e3,e4⟩:=he;have e1':S.n+1≤S'.n:=e1;refine hK H' S' v' h' ⟨by omega,λb hb hne=>?_,e3,λb hb=>?_⟩
 ·rw[e2 b (by show b<S.n+1;omega) hne,LS.bR _ _ hb]
 ·rcases e4 b hb with g|g
  ·exact .inl g
  ·have g':S.n+1≤b:=g;exact .inr (by omega)
theorem dZ.congr{Q:Nat→Prop}{sz n:Nat}{v:AV}{cl cl':Nat→List AV}(h:dZ S Q sz v n cl)(he:∀i,i<n→cl i=cl' i):dZ S Q sz v n cl':=by
 rcases h with h|⟨b,o,c,ex,cs,m,h1,h2,h3,h4,h5,h6⟩
 ·exact .inl h
 ·exact .inr ⟨b,o,c,ex,cs,m,h1,h2,h3,h4,h5,λi hi=>(h6 i hi).trans (he i hi)⟩
theorem iU.nm{lo:Nat}{v:AV}{l:List (List Nat)}(h:iU uh lo S v l)(hM:Mem H S):kK S (jd lo S.n) v l:=by
 obtain⟨cl,h1,h2⟩:=h.done hM;refine⟨h1.congr λi hi=>?_,λt ht=>?_⟩
 ·have g:=(h2 i _ (List.getElem?_eq_getElem hi)).1;rw[List.getElem?_eq_getElem hi];exact g
 ·obtain⟨i,hi,e⟩:=List.mem_iff_getElem.1 ht;have g:=(h2 i _ (List.getElem?_eq_getElem hi)).2;rw[e]at g;exact g
theorem anm{l z:List AV}(hl:l.length=2)(hz:z.length=2):spl l z 0=l:=by
 match l,hl,z,hz with
 |[a,b],_,[_,_],_=>rfl
end
end Go.X
namespace Go.Proofs.YtcedghechlgecaaDoor
open Go Go.X Go.Proofs.YtcedghechlgecaaDoor.G
section
variable {H:AH}{S:LS}{K:KF}{C:Ctx}{i d:Nat}
end
end Go.Proofs.YtcedghechlgecaaDoor
namespace Go.X
section
variable {H:AH}{S:LS}
end
end Go.X
namespace Go.Proofs.YtcedghechlgecaaDoor
open Go Go.X Go.Proofs.YtcedghechlgecaaDoor.G
section
variable {H:AH}{S:LS}{K:KF}{C:Ctx}{i d:Nat}
def z5:List AV:=[.int 0 (.ofNat 0),.int 0 (.ofNat 0),.ab,.ab,.ab]
theorem ann:∀a∈z5,a.one=true:=by
 intro a ha;simp only[z5,List.mem_cons,List.not_mem_nil,or_false]at ha;rcases ha with rfl|rfl|rfl|rfl|rfl<;>rfl
end
end Go.Proofs.YtcedghechlgecaaDoor
namespace Go.X
section
variable {H:AH}{S S':LS}
def aW{α:Type}(R:Rep α)(Z:Nat→Prop)(S:LS)(v:AV)(l:List α):Prop:=∃cl:List (List AV),fj S R.sz v l.length cl.flatten∧cl.length=l.length∧(∀b,aj v b→Z b)∧
 ∀(i:Nat) (c:List AV) (a:α),cl[i]? = some c→l[i]? = some a→∃Q,R.rel S Q c a∧∀b,Q b→Z b∧b<S.n∧¬aj v b
section
variable {α:Type}{R:Rep α}{Z Z':Nat→Prop}{v:AV}{l:List α}
theorem aW.nil(R:Rep α)(Z:Nat→Prop)(S:LS):aW R Z S .ab []:=⟨[],fj.nil _ _,rfl,λ_ h=>h.elim,λi c a h=>by simp at h⟩
theorem aW.toR{lo:Nat}(h:aW R Z S v l)(hZ:∀b,Z b→lo≤b):iU R lo S v l:=by
 obtain⟨cl,h1,h2,h3,h4⟩:=h;refine⟨cl,h1,h2,λb hb=>hZ b (h3 b hb),λi c a hc ha=>?_⟩;obtain⟨Q,g1,g2⟩:=h4 i c a hc ha;exact⟨Q,g1,λb hb=>⟨hZ b (g2 b hb).1,(g2 b hb).2⟩⟩
theorem aW.imp(h:aW R Z S v l)(hM:Mem H S)(hZ:∀b,Z b→b<S.n→Z' b):aW R Z' S v l:=by
 obtain⟨cl,h1,h2,h3,h4⟩:=h;refine⟨cl,h1,h2,λb hb=>hZ b (h3 b hb) (h1.lt hM hb),λi c a hc ha=>?_⟩;obtain⟨Q,g1,g2⟩:=h4 i c a hc ha;exact⟨Q,g1,λb hb=>⟨hZ b (g2 b hb).1 (g2 b hb).2.1,(g2 b hb).2⟩⟩
theorem aW.keep(h:aW R Z S v l)(hM:Mem H S)(hn:S.n≤S'.n)(hk:∀b,Z b→b<S.n→S'.ob b=S.ob b):aW R Z S' v l:=by
 obtain⟨cl,h1,h2,h3,h4⟩:=h;refine⟨cl,h1.keep hM λb hb hlt=>hk b (h3 b hb) hlt,h2,h3,λi c a hc ha=>?_⟩;obtain⟨Q,g1,g2⟩:=h4 i c a hc ha;exact⟨Q,R.go (λb hb=>hk b (g2 b hb).1 (g2 b hb).2.1) (λ_ h=>h) g1,λb hb=>⟨(g2 b hb).1,Nat.lt_of_lt_of_le (g2 b hb).2.1 hn,(g2 b hb).2.2⟩⟩
theorem aW.lt(h:aW R Z S v l)(hM:Mem H S){b:Nat}(hb:aj v b):b<S.n:=by
 obtain⟨cl,h1,_⟩:=h;exact h1.lt hM hb
theorem aW.Ex(h:aW R Z S v l){b:Nat}(hb:aj v b):Z b:=by
 obtain⟨_,_,_,h3,_⟩:=h;exact h3 b hb
theorem aW.step{a:α}{c:List AV}{Q:Nat→Prop}{v':AV}(h:aW R Z S v l)(hr:R.rel S Q c a)(hQ:∀b,Q b→Z b∧b<S.n∧¬aj v b)(hnew:∀b,S.n≤b→Z b)(hs:∀cl,fj S R.sz v l.length cl→qT S v (l.length+1) R.sz (cl++c) S' v'):aW R Z S' v' (l++[a]):=by
 obtain⟨cl,h1,h2,h3,h4⟩:=h;obtain⟨a1,a2,a3,a4⟩:=hs _ h1;refine⟨cl++[c],?_,by simp[h2],λb hb'=>?_,λi c' a' hc ha=>?_⟩
 ·rw[List.flatten_append,List.length_append];show fj S' R.sz v' (l.length+1) (cl.flatten++[c].flatten);have:[c].flatten=c:=by simp
  rw[this];exact a3
 ·rcases a4 b hb' with g|g
  ·exact h3 b g
  ·exact hnew b g
 ·have fin:∀{Q:Nat→Prop}{c:List AV}{a:α},R.rel S Q c a→(∀b,Q b→Z b∧b<S.n∧¬aj v b)→∃Q,R.rel S' Q c a∧∀b,Q b→Z b∧b<S'.n∧¬aj v' b:=λ{Q c a} g1 g2=>
   ⟨Q,R.go (λb hb=>a2 b (g2 b hb).2.1 (g2 b hb).2.2) (λ_ h=>h) g1,λb hb=>⟨(g2 b hb).1,Nat.lt_of_lt_of_le (g2 b hb).2.1 a1,λhb'=>by
    rcases a4 b hb' with q|q
    ·exact(g2 b hb).2.2 q
    ·have:=(g2 b hb).2.1;omega⟩⟩
  by_cases hi:i<cl.length
  ·rw[List.getElem?_append_left hi]at hc;rw[List.getElem?_append_left (by omega)]at ha;obtain⟨Q,g1,g2⟩:=h4 i c' a' hc ha;exact fin g1 g2
  ·rw[List.getElem?_append_right (by omega)]at hc ha;have hi0:=(List.getElem?_eq_some_iff.1 hc).1;have e0:i-cl.length=0:=by simp at hi0;omega
   rw[e0]at hc;rw[h2]at e0;rw[e0]at ha;have ec:c=c':=by simpa using hc
   have ea:a=a':=by simpa using ha
   subst ec;subst ea;exact fin hr hQ
end
theorem fj.uniq{sz n:Nat}{v:AV}{l l':List AV}(h:fj S sz v n l)(h':fj S sz v n l'):l'=l:=by
 rcases h with⟨e1,e2,e3⟩|⟨b,c1,ex,cs,e1,e2,e3,e4,e5,e6,e7⟩
 ·rcases h' with⟨_,_,g3⟩|⟨b',c1',ex',cs',g1,_⟩
  ·rw[g3,e3]
  ·rw[e1]at g1;cases g1
 ·rcases h' with⟨g1,_⟩|⟨b',c1',ex',cs',g1,g2,g3,g4,g5,g6,g7⟩
  ·rw[e1]at g1;cases g1
  ·rw[e1]at g1;injection g1 with q1;subst q1;rw[e2]at g2;injection g2 with q2;rw[←g6,←e6,g5,e5,q2]
theorem ahI{m n b b' o o':Nat}{x:Prop}(hb:b≠b')(h:x):uM m n (.ptr b o) (.ptr b' o') x:=by
 show bT _ _;refine cC ?_ h;have:Nat.beq b b'=false:=by
  cases g:Nat.beq b b' with
  |false=>rfl
  |true=>exact absurd (Nat.eq_of_beq_eq_true g) hb
 rw[this];rfl
theorem apb{bs br n o:Nat}{v:AV}{l c cs0 z:List AV}{X:AH→Prop}(hM:Mem H S)(hs:fj S 7 v n l)(hrow:S.ob br=.ce z 0)(hz:z.length=7)(hzo:∀a∈z,a.one=true)(hc:c.length=7)(hco:∀a∈c,a.one=true)(hbs:S.ob bs=.ce cs0 0)(ho:o<cs0.length)(hne:¬aj v bs)(hl:(n+1)*96≤1099511627776)
  (hK:∀H' S' v',Mem H' (S'.set bs (.ce (cs0.set o v') 0))→qT S v (n+1) 7 (l++c) S' v'→S'.ob bs=.ce cs0 0→X H') :
  cQ 7 96 v (.slice br 0 1 1 7 true) H λv14 eM=>bf 7 v14 (.int 0 (n:Int)) λv16=>ah 7 v16 (.agg c) eM λiy=>ah 1 (.ptr bs o) v14 iy λkc=>ah 1 (.ptr bs o) v14 eM λjs=>ah 7 v16 (.agg c) js λgZ=>uM 7 1 v16 (.ptr bs o) (X kc):=by
 refine oB (sz:=7) (ex:=true) (cap:=1) (o:=0) (n:=1) (l:=z) (m:=0) (b:=br) (k:=λl=>qP 7 96 1 _ l H _) hM hrow (by omega) ?_;rw[List.drop_zero,List.take_of_length_le (by omega)];refine xM hM hs (by omega) (.inl (by omega)) (by omega) hl hzo λH1 S1 v1 m1 he=>?_;obtain⟨e1,e2,e3,e4⟩:=he;have apc:bs<S.n:=hM.lt (by rw[hbs];simp);have o1:S1.ob bs=.ce cs0 0:=(e2 bs apc hne).trans hbs;rcases e3 with⟨_,g,_⟩|⟨b,cp,ex,cs,rfl,g2,g3,g4,g5,g6,g7⟩
 ·omega
 have hbne:b≠bs:=λq=>by
  subst q;rcases e4 b rfl with g|g
  ·exact hne g
  ·omega
 refine mN (by omega) (by omega) ?_;rw[Int.toNat_natCast,Nat.zero_add];have hle:(n+1)*7≤cp*7:=Nat.mul_le_mul_right _ g4;have hone:(AV.slice b 0 (n+1) cp 7 ex).one=true:=rfl;refine oA m1 g2 (by omega) hc (by omega) hco λH2 m2=>?_;have o2:(S1.set b (.ce (dY cs (n*7) c) 0)).ob bs=.ce cs0 0:=(LS.an _ _ (Ne.symm hbne)).trans o1;refine bH m2 o2 (by omega) ho hone λH3 m3=>?_;refine bH m1 o1 (by omega) ho hone λH4 m4=>?_;refine oA m4 ((LS.an _ _ hbne).trans g2) (by omega) hc (by omega) hco λH5 m5=>?_;refine ahI hbne ?_;have hll:l.length=n*7:=by
  rw[List.length_append,hz]at g5;omega
 have hsl:(dY cs (n*7) c).length=cs.length:=nu (by omega);refine hK H3 (S1.set b (.ce (dY cs (n*7) c) 0)) _ m3 ⟨e1,λx hx hn=>?_,.inr ⟨b,cp,ex,dY cs (n*7) c,rfl,LS.av _ _ _,by rw[hsl];exact g3,g4,by rw[List.length_append,hc];omega,?_,λa ha=>?_⟩,e4⟩ o2
 ·have hxb:x≠b:=λq=>by
   subst q;rcases e4 x rfl with g|g
   ·exact hn g
   ·omega
  exact(LS.an _ _ hxb).trans (e2 x hx hn)
 ·have ht:cs.take (n*7)=l:=by
   have g:(cs.take (l++z).length).take (n*7)=(l++z).take (n*7):=by rw[g6]
   rw[List.take_take,Nat.min_eq_left (by rw[List.length_append];omega)]at g;rw[g,←hll];exact List.take_left' rfl
  unfold dY;rw[ht,List.take_append_of_le_length (by rw[List.length_append];exact Nat.le_refl _)];exact List.take_of_length_le (Nat.le_refl _)
 ·simp only[dY,List.mem_append]at ha;rcases ha with(g|g)|g
  ·exact g7 a (List.mem_of_mem_take g)
  ·exact hco a g
  ·exact g7 a (List.mem_of_mem_drop g)
end
end Go.X
namespace Go.Proofs.YtcedghechlgecaaDoor
open Go Go.X Go.Proofs.YtcedghechlgecaaDoor.G
section
variable {H:AH}{S:LS}{K:KF}{C:Ctx}{i d:Nat}
theorem iz.plain{Q:Nat→Prop}{kind a:Nat}{names:List (List Nat)}{l:List au}{vn vl:AV}{cl:Nat→List AV}(hn:kK S Q vn names)(hl:dZ S Q 7 vl l.length cl)(he:∀i e,l[i]? = some e→RE S Q (cl i) e):iz S Q [.int 0 (kind:Int),.int 0 (a:Int),vn,vl,.ab] (.mk kind a names l []):=
 .mk kind a names l [] vn vl .ab cl (λ_=>.ab) (λ_ _=>[]) hn hl he (dZ.nil _ _ _ _) (λi b h=>by simp at h) (λi b j s h=>by simp at h)
theorem kK.nil{Q:Nat→Prop}:kK S Q .ab []:=⟨dZ.nil _ _ _ _,λt h=>by simp at h⟩
theorem _root_.Go.X.kK.go{S S':LS}{Q Q':Nat→Prop}{v:AV}{l:List (List Nat)}(h:kK S Q v l)(hk:∀b,Q b→S'.ob b=S.ob b)(h1:∀b,Q b→Q' b):kK S' Q' v l:=⟨h.1.go hk h1,h.2⟩
end
end Go.Proofs.YtcedghechlgecaaDoor
namespace Go.X
theorem RE.k0{S:LS}{Q:Nat→Prop}{c:List AV}{e:au}(h:RE S Q c e):∃l,c=.int 0 (e.kind:Int)::l:=by
 cases h;exact⟨_,rfl⟩
end Go.X
namespace Go.Proofs.YtcedghechlgecaaDoor
open Go Go.X Go.Proofs.YtcedghechlgecaaDoor.G
section
variable {H:AH}{S:LS}{K:KF}{C:Ctx}{i d:Nat}
end
end Go.Proofs.YtcedghechlgecaaDoor
namespace Go.X
section
variable {H:AH}{S S':LS}
theorem aW.pushB{α:Type}{R:Rep α}{Z:Nat→Prop}{bytes:Nat}{v:AV}{l:List α}{a:α}{c:List AV}{Q:Nat→Prop}{k:AV→AH→Prop}(h:aW R Z S v l)(hM:Mem H S)(hr:R.rel S Q c a)(hQ:∀b,Q b→Z b∧b<S.n∧¬aj v b)(hnew:∀b,S.n≤b→Z b)(hl:(l.length+1)*bytes≤1099511627776)
  (hk:∀H' S' v',Mem H' S'→aW R Z S' v' (l++[a])→S.n≤S'.n→(∀b,b<S.n→¬aj v b→S'.ob b=S.ob b)→(∀b,aj v' b→aj v b∨S.n≤b)→v'.one=true→k v' H'):aR (aB H) 1 R.sz c λx H'=>bT (Nat.beq H'.n (Nat.succ H.n)) (cQ R.sz bytes v x H' k):=by
 obtain⟨cl,h1,h2⟩:=id h;refine anl hM h1 R.pos (R.len hr) hl (R.ones hr) λH' S' v' m' he=>?_;have g:=h.step hr hQ hnew λcl' h'=>by rw[h1.uniq h'];exact he
 exact hk H' S' v' m' g he.1 he.2.1 he.2.2.2 (g.toR (lo:=0) λb _=>Nat.zero_le _).one
end
end Go.X
namespace Go.Proofs.YtcedghechlgecaaDoor
open Go Go.X Go.Proofs.YtcedghechlgecaaDoor.G
section
variable {H:AH}{S:LS}{K:KF}{C:Ctx}{i d:Nat}
end
section
variable {H:AH}{S:LS}{K:KF}{C:Ctx}{α:Type}{r:ak α}
theorem im{k:Int→Prop}{H:AH}(hM:Mem H S)(hd:aZ C S r)(hk:k (r.cd:Int)):ao (.ptr C.bp 0) (af 2 (.ptr C.bp 0) λv1=>ad v1 H λv2=>cI 0 v2 k):=by
 simp only[bY,aQ,Nat.zero_add];refine aD hM hd.ob (v:=.int 0 (r.cd:Int)) rfl ?_;rw[aO];exact hk
theorem yv(hd:aZ C S r):(r.cd=0∧∃a i,r=.ok a i)∨(r.cd≠0∧∃c i,r=.err c i):=by
 cases r with
 |ok a i=>exact .inl ⟨rfl,a,i,rfl⟩
 |err c i=>exact .inr ⟨(hd.cd c i rfl).1,c,i,rfl⟩
 |bb=>exact absurd rfl hd.no
theorem Mp{j:Nat}{v:AV}{k:AV→Prop}{i:Nat}(hM:Mem H S)(tk:fj S 4 C.vT C.T.length (tcs C.T))(hi:i<C.T.length)(hj:j<4)(hv:(mX C.T i)[j]? = some v)(hk:k v):bf 4 C.vT (.int 0 (i:Int)) λp=>af j p λq=>ad q H k:=by
 refine tk.at_ hi λb cs m hb ho hc=>?_;rw[aQ];refine aD hM ho (v:=v) ?_ hk;rw[hc j hj];rw[←An hi,List.getElem?_take,if_pos hj,List.getElem?_drop]at hv;exact hv
theorem zi{j:Nat}{v:AV}{k:AV→Prop}(hM:Mem H S)(hd:aZ C S r)(hj:j<4)(hv:(mX C.T r.ix)[j]? = some v)(hk:k v) :
  ao (.ptr C.bp 0) (af 0 (.ptr C.bp 0) λv1=>ad v1 H λv2=>ao (.ptr C.bp 0) (af 1 (.ptr C.bp 0) λv3=>ad v3 H λv4=>cI 0 v4 λz5=>bf 4 v2 (.int 0 z5) λv6=>af j v6 λv7=>ad v7 H k)):=by
 simp only[bY,aQ,Nat.zero_add];refine aD hM hd.ob (v:=C.vT) rfl ?_;refine aD hM hd.ob (v:=.int 0 (r.ix:Int)) rfl ?_;simp only[aO];exact Mp hM hd.tk hd.lt hj hv hk
def zj{β:Type}(c:Nat)(r:ak α):ak β:=r.bind λ_ i=>.err c i
theorem p5{c:Nat}(hc:c≠0)(hc':c≤100)(hM:Mem H S)(hd:aZ C S r)(hK:∀H' S',Mem H' S'→aK (bE C) S S'→aZ C S' (zj c r:ak Unit)→K (.ret (.aL [])) H'):f18 (.ptr C.bp 0) (c:Int) H K:=by
 show Bc IX K (.ptr C.bp 0) (c:Int) H;unfold Bc;refine im hM hd ?_;have e0:Int.ofNat 0=((0:Nat):Int):=rfl;rw[bu,e0];rcases yv hd with⟨e,a,i,rfl⟩|⟨e,c1,i,rfl⟩
 ·rw[e,decide_eq_true rfl,aG];refine zi hM hd (j:=3) (v:=.int 0 (ay C.T i:Int)) (by omega) rfl ?_;simp only[aO,bY,aQ,Nat.zero_add];refine bH hM hd.ob (by omega) (by show 2<4;omega) rfl λH1 m1=>?_;refine bH m1 (LS.av _ _ _) (by omega) (by show 3<4;omega) rfl λH2 m2=>?_;refine hK H2 _ m2 (aK.FJ (aK.FJ (aK.refl _ _) _) _) ?_;exact⟨LS.av _ _ _,Mm (Mm hd.tk _) _,hd.lt,λe=>(by cases e),λc' i' e=>(by cases e;exact⟨hc,hc'⟩)⟩
 ·rw[decide_eq_false (by omega),aH];exact hK H S hM (aK.refl _ _) (hd.as rfl rfl rfl (λe=>by cases e) λc i e=>hd.cd c i (by cases e;rfl))
theorem rC{s:List Nat}(h8:B8 s)(hM:Mem H S)(hd:aZ C S r)(hK:∀H' S',Mem H' S'→aK bU S S'→aZ C S' r→K (.ret (.bool (oG C.T s r))) H'):f41 (.ptr C.bp 0) (ai s) H K:=by
 show Bh Bi K (Bg Bi K) (.ptr C.bp 0) (ai s) H;unfold Bh;simp only[bY,aQ,Nat.zero_add];refine aD hM hd.ob (v:=C.vT) rfl ?_;refine aD hM hd.ob (v:=.int 0 (r.ix:Int)) rfl ?_;simp only[aO];refine hd.tk.load hM hd.lt ?_;rw[An hd.lt];refine hM.cL (e8 (dt hM (λa ha=>?_) λH2 m2=>cC (qS (by rw[m2.n,hM.n];rfl)) ?_))
 ·simp only[List.mem_cons,List.not_mem_nil,or_false]at ha;rcases ha with rfl|rfl|rfl|rfl<;>rfl
 refine oA m2 (LS.aq _ _) (by omega) rfl (by show 0+4≤4;omega) (λa ha=>?_) λH3 m3=>?_
 ·simp only[mX,List.mem_cons,List.not_mem_nil,or_false]at ha;rcases ha with rfl|rfl|rfl|rfl<;>rfl
 have m3:Mem H3 ((S.push (.ce [.int 0 (.ofNat 0),.str 0 0,.int 0 (.ofNat 0),.int 0 (.ofNat 0)] 0)).set S.n (.ce (mX C.T r.ix) 0)):=m3;have c3:aK bU S ((S.push (.ce [.int 0 (.ofNat 0),.str 0 0,.int 0 (.ofNat 0),.int 0 (.ofNat 0)] 0)).set S.n (.ce (mX C.T r.ix) 0)):=((aK.refl _ _).push _).set (.inr (Nat.le_refl _)) _;have d3:=hd.ik hM c3;have hk:=hK H3 _ m3 c3 d3;have e0:Int.ofNat 0=((0:Nat):Int):=rfl;have e1:Int.ofNat 1=((1:Nat):Int):=rfl;have e5:Int.ofNat 5=((5:Nat):Int):=rfl;unfold Bg;refine im m3 d3 ?_;rw[bu,e0];rcases yv hd with⟨e,a,i,rfl⟩|⟨e,c1,i,rfl⟩
 ·rw[e,decide_eq_true rfl,aG];have hk:K (.ret (.bool (isA C.T s i))) H3:=hk;have go:(bW C.T i=1∨bW C.T i=5)→ad (.ptr S.n 1) H3 λv11=>ux v11 (ai s) λv12=>bS v12 λz13=>K (.ret (.bool z13)) H3:=λhkd=>by
   refine aD m3 (LS.av _ _ _) (v:=ai (fM C.T i)) rfl ?_;refine wG (vM C i) h8 ?_;rw[aM];have e:isA C.T s i=decide (fM C.T i=s):=by
    unfold isA;rcases hkd with g|g<;>rw[g]<;>simp
   rw[e]at hk;exact hk
  simp only[aQ,Nat.zero_add];refine aD m3 (LS.av _ _ _) (v:=.int 0 (bW C.T i:Int)) rfl ?_;simp only[aO,bu];rw[e1,e5];refine cx (λg=>go (.inl (by omega))) (λg=>?_);refine aD m3 (LS.av _ _ _) (v:=.int 0 (bW C.T i:Int)) rfl ?_;simp only[aO];refine cx (λg5=>go (.inr (by omega))) (λg5=>?_);have e:isA C.T s i=false:=by
   unfold isA;rw[decide_eq_false (by omega),decide_eq_false (by omega)];rfl
  rw[e]at hk;exact hk
 ·rw[decide_eq_false (by omega),aH];exact hk
theorem dx{s:List Nat}(h8:B8 s)(hM:Mem H S)(hd:aZ C S r)(ht:∀a i,r=.ok a i→isA C.T s i=true→∀H' S',Mem H' S'→aK (bE C) S S'→aZ C S' (.ok () (i+1):ak Unit)→K (.ret (.bool true)) H')
  (hf:oG C.T s r=false→∀H' S',Mem H' S'→aK (bE C) S S'→aZ C S' r→K (.ret (.bool false)) H'):f40 (.ptr C.bp 0) (ai s) H K:=by
 have r68:Bn=f41:=rfl;show Bm Bn K (.ptr C.bp 0) (ai s) H;unfold Bm;rw[r68];refine rC h8 hM hd λH1 S1 m1 c1 d1=>?_;rw[al,aM];cases hi:oG C.T s r with
 |false=>
  rw[aH];exact hf hi H1 S1 m1 c1.no d1
 |true=>
  obtain⟨a,i,rfl,hb⟩:=Ap hi;rw[aG];have hlt:=df C.ok hb;have hfew:=C.few;simp only[bY,aQ,Nat.zero_add];refine aD m1 d1.ob (v:=.int 0 (i:Int)) rfl ?_;simp only[aO,dS,fz];refine w0 (by omega) (by omega) ?_;refine bH m1 d1.ob (by omega) (by show 1<4;omega) rfl λH2 m2=>?_;exact ht a i rfl hb H2 _ m2 (aK.FJ c1.no _) (d1.ok () hlt)
theorem ks{s:List Nat}(h8:B8 s)(hM:Mem H S)(hd:aZ C S r)(hP:aU C (bE C) mY K S (r.bind λ_ i=>aS C.T s i)):f59 (.ptr C.bp 0) (ai s) H K:=by
 have ra:xP.1=f18:=rfl;have rb:xP.2=f40:=rfl;show Bq xP K (.ptr C.bp 0) (ai s) H;unfold Bq;rw[ra,rb];refine dx h8 hM hd (λa i er hi H1 S1 m1 c1 d1=>?_) λhi H1 S1 m1 c1 d1=>?_
 ·simp only[al,aM,Bool.not_true,aH];subst er;have e:(ak.ok a i).bind (λ_ i=>aS C.T s i)=.ok () (i+1):=by
   show aS C.T s i=_;unfold aS;rw[hi];rfl
  rw[e]at hP;exact hP.2 H1 S1 _ () m1 c1 d1 rfl λ_ _ e=>by cases e;rfl
 ·simp only[al,aM,Bool.not_false,aG];refine p5 (c:=14) (by omega) (by omega) m1 d1 λH2 S2 m2 c2 d2=>?_;rw[al];have e:r.bind (λ_ i=>aS C.T s i)=zj 14 r:=by
   cases r with
   |ok a i=>
    have hi:isA C.T s i=false:=hi;show aS C.T s i=.err 14 i;unfold aS;rw[hi];rfl
   |err c i=>rfl
   |bb=>rfl
  rw[e]at hP;exact hP.2 H2 S2 _ () m2 (c1.trans c2) d2 rfl λ_ _ _=>rfl
theorem rL(hM:Mem H S)(hd:aZ C S r)(hP:aU C (bE C) Mk K S (r.bind λ_ i=>ey C.T i)):f57 (.ptr C.bp 0) H K:=by
 have aqm:qv=f18:=rfl;show Bo qv K (uP qv K (xO qv K)) (.ptr C.bp 0) H;unfold Bo;rw[aqm];have e0:Int.ofNat 0=((0:Nat):Int):=rfl;have e2:Int.ofNat 2=((2:Nat):Int):=rfl;have e14:Int.ofNat 14=((14:Nat):Int):=rfl;refine im hM hd ?_;rw[bu,e0];have dead:∀{γ:Type}{r':ak γ}{H1:AH}{S1:LS},r'.cd≠0→Mem H1 S1→aK (bE C) S S1→aZ C S1 r'→(r.bind λ_ i=>ey C.T i)=r'.bind (λ_ i=>ey C.T i)→uP qv K (xO qv K) (.ptr C.bp 0) H1:=by
  intro γ r' H1 S1 hc m1 c1 d1 e;unfold uP;refine im m1 d1 ?_;rw[bu,e0,decide_eq_false (by omega)];simp only[Bool.not_false,aG];rw[e]at hP;rcases yv d1 with⟨g,_⟩|⟨g,c2,i,rfl⟩
  ·exact absurd g hc
  ·exact hP.2 H1 S1 _ [] m1 c1 (d1.as rfl rfl rfl (λe=>by cases e) λc i e=>d1.cd c i (by cases e;rfl)) ⟨rfl,B8.nil⟩ λ_ _ e=>by cases e
 rcases yv hd with⟨e,a,i,rfl⟩|⟨e,c1,i,rfl⟩
 ·rw[e,decide_eq_true rfl,aG];refine zi hM hd (j:=0) (v:=.int 0 (bW C.T i:Int)) (by omega) rfl ?_;rw[aO,bu,e2];by_cases g:bW C.T i=2
  ·rw[decide_eq_true (by omega)];simp only[Bool.not_true,aH];unfold uP;refine im hM hd ?_;rw[bu,e0,e,decide_eq_true rfl];simp only[Bool.not_true,aH,bY,aQ,Nat.zero_add];have hlt:=kT (i:=i) C.ok (by omega);have hfew:=C.few;refine aD hM hd.ob (v:=.int 0 (i:Int)) rfl ?_;simp only[aO,dS,fz];refine w0 (by omega) (by omega) ?_;refine bH hM hd.ob (by omega) (by show 1<4;omega) rfl λH2 m2=>?_;have d2:=hd.ok () hlt;unfold xO;simp only[bY,aQ,Nat.zero_add];refine aD m2 d2.ob (v:=C.vT) rfl ?_;refine aD m2 d2.ob (v:=.int 0 ((i+1:Nat):Int)) rfl ?_;simp only[aO,pU,fz];refine w0 (by omega) (by omega) ?_;rw[show((i+1:Nat):Int)-1=(i:Int) by omega];have fld:=Mp (j:=1) (v:=ai (fM C.T i)) (k:=λv9=>K (.ret v9) H2) m2 d2.tk hd.lt (by omega) rfl;have e:(ak.ok a i).bind (λ_ i=>ey C.T i)=.ok (fM C.T i) (i+1):=by
    show ey C.T i=_;unfold ey;rw[if_pos g]
   rw[e]at hP;exact fld (hP.2 H2 _ _ (fM C.T i) m2 (aK.FJ (aK.refl _ _) _) (d2.as rfl rfl rfl (λe=>by cases e) λc i e=>by cases e) ⟨rfl,vM C i⟩ λ_ _ e=>by cases e;rfl)
  ·rw[decide_eq_false (by omega)];simp only[Bool.not_false,aG];refine p5 (c:=14) (by omega) (by omega) hM hd λH2 S2 m2 c2 d2=>?_;rw[al];refine dead (r':=(ak.err 14 i:ak Unit)) (by show 14≠0;omega) m2 c2 d2 ?_;show ey C.T i=.err 14 i;unfold ey;rw[if_neg g]
 ·rw[decide_eq_false (by omega),aH];exact dead (r':=(ak.err c1 i:ak α)) (by show c1≠0;exact e) hM (aK.refl _ _) hd rfl
def dy(b:Prop)[Decidable b](i:Nat):ak Unit:=if b then .err 8 i else .ok () i
theorem capD{b:Prop}[Decidable b](hM:Mem H S)(hd:aZ C S r)(hP:aU C (bE C) mY K S (r.bind λ_ i=>dy b i)){z:Bool}(hz:z=decide b):bI z (f18 (.ptr C.bp 0) ((8:Nat):Int) H λo1 H2=>cR K o1 H2 λv3=>K (.ret (.aL [])) H2) (K (.ret (.aL [])) H):=by
 subst hz;by_cases g:b
 ·rw[decide_eq_true g,aG];refine p5 (c:=8) (by omega) (by omega) hM hd λH2 S2 m2 c2 d2=>?_;rw[al];have e:r.bind (λ_ i=>dy b i)=zj 8 r:=by
   unfold zj;simp only[dy,if_pos g]
  rw[e]at hP;exact hP.2 H2 S2 _ () m2 c2 d2 rfl λ_ _ _=>rfl
 ·rw[decide_eq_false g,aH];refine hP.2 H S _ () hM (aK.refl _ _) ?_ rfl λ_ _ _=>rfl;have e:r.bind (λ_ i=>dy b i)=r.bind λ_ i=>.ok () i:=by
   simp only[dy,if_neg g]
  rw[e];rcases yv hd with⟨e,a,i,rfl⟩|⟨e,c1,i,rfl⟩
  ·exact hd.as rfl rfl rfl (λe=>by cases e) λc i e=>by cases e
  ·exact hd.as rfl rfl rfl (λe=>by cases e) λc i e=>hd.cd c i (by cases e;rfl)
theorem zl{d:Nat}(hM:Mem H S)(hd:aZ C S r)(hP:aU C (bE C) mY K S (r.bind λ_ i=>dy (100<d) i)):f37 (.ptr C.bp 0) (d:Int) H K:=by
 have r65:Be=f18:=rfl;show Bd Be K (.ptr C.bp 0) (d:Int) H;unfold Bd;rw[r65];refine capD hM hd hP ?_;have e:Int.ofNat 100=((100:Nat):Int):=rfl;rw[cK,e,Bool.eq_iff_iff,decide_eq_true_eq,decide_eq_true_eq];omega
theorem FL{n most:Nat}(hM:Mem H S)(hd:aZ C S r)(hP:aU C (bE C) mY K S (r.bind λ_ i=>dy (most≤n) i)):f76 (.ptr C.bp 0) (n:Int) (most:Int) H K:=by
 have aqn:Bs=f18:=rfl;show Br Bs K (.ptr C.bp 0) (n:Int) (most:Int) H;unfold Br;rw[aqn];refine capD hM hd hP ?_;rw[cK];by_cases g:most≤n
 ·rw[decide_eq_true g,decide_eq_false (by omega)];rfl
 ·rw[decide_eq_false g,decide_eq_true (by omega)];rfl
theorem kU(hM:Mem H S)(hd:aZ C S r)(hK:K (.ret (.int 0 (ay C.T r.ix:Int))) H):f39 (.ptr C.bp 0) H K:=by
 show Bl I0 K (.ptr C.bp 0) H;unfold Bl;refine zi hM hd (j:=3) (v:=.int 0 (ay C.T r.ix:Int)) (by omega) rfl ?_;rw[aO];exact hK
def Ey(T:List Tok):ak α→Bool
 |.ok _ i=>eP T i
 |_=>true
theorem zm(hM:Mem H S)(hd:aZ C S r)(hK:∀H' S',Mem H' S'→aK bU S S'→aZ C S' r→K (.ret (.bool (Ey C.T r))) H'):f38 (.ptr C.bp 0) H K:=by
 have r66:Bk=f41:=rfl;show Bj Bk K (.ptr C.bp 0) H;unfold Bj;rw[r66];have e0:Int.ofNat 0=((0:Nat):Int):=rfl;refine im hM hd ?_;rw[bu,e0];rcases yv hd with⟨e,a,i,rfl⟩|⟨e,c1,i,rfl⟩
 ·rw[e,decide_eq_true rfl];simp only[Bool.not_true,aH];refine zi hM hd (j:=0) (v:=.int 0 (bW C.T i:Int)) (by omega) rfl ?_;rw[aO,bu];have hK:∀H' S',Mem H' S'→aK bU S S'→aZ C S' (ak.ok a i)→K (.ret (.bool (eP C.T i))) H':=hK;unfold eP at hK;by_cases g:bW C.T i=0
  ·rw[decide_eq_true (by omega),aG];have hk:=hK H S hM (aK.refl _ _) hd;rw[decide_eq_true g,Bool.or_true,Bool.or_true,Bool.or_true,Bool.or_true]at hk;exact hk
  rw[decide_eq_false (by omega),aH];rw[decide_eq_false g,Bool.or_false]at hK;refine rC (s:=[101,110,100]) (aX (by decide)) hM hd λH1 S1 m1 c1 d1=>?_;rw[al,aM];have h1':oG C.T [101,110,100] (ak.ok a i)=isA C.T [101,110,100] i:=rfl;rw[h1'];cases h1:isA C.T [101,110,100] i with
  |true=>rw[h1]at hK;rw[aG];exact hK H1 S1 m1 c1 d1
  |false=>
  rw[h1,Bool.false_or]at hK;rw[aH];refine rC (s:=[101,108,115,101]) (aX (by decide)) m1 d1 λH2 S2 m2 c2 d2=>?_;rw[al,aM];have h2':oG C.T [101,108,115,101] (ak.ok a i)=isA C.T [101,108,115,101] i:=rfl;rw[h2'];cases h2:isA C.T [101,108,115,101] i with
  |true=>rw[h2]at hK;rw[aG];exact hK H2 S2 m2 (c1.trans c2) d2
  |false=>
  rw[h2,Bool.false_or]at hK;rw[aH];refine rC (s:=[101,108,115,101,105,102]) (aX (by decide)) m2 d2 λH3 S3 m3 c3 d3=>?_;rw[al,aM];have h3':oG C.T [101,108,115,101,105,102] (ak.ok a i)=isA C.T [101,108,115,101,105,102] i:=rfl;rw[h3'];cases h3:isA C.T [101,108,115,101,105,102] i with
  |true=>rw[h3]at hK;rw[aG];exact hK H3 S3 m3 ((c1.trans c2).trans c3) d3
  |false=>
  rw[h3,Bool.false_or]at hK;rw[aH];refine rC (s:=[117,110,116,105,108]) (aX (by decide)) m3 d3 λH4 S4 m4 c4 d4=>?_;rw[al,aM];exact hK H4 S4 m4 (((c1.trans c2).trans c3).trans c4) d4
 ·rw[decide_eq_false (by omega)];simp only[Bool.not_false,aG];exact hK H S hM (aK.refl _ _) hd
end
end Go.Proofs.YtcedghechlgecaaDoor
namespace Go.X
theorem ku{H:AH}{S:LS}(h:Mem H S){n sz:Nat}{l:List AV}{k:AV→AH→Prop}(hl:l.length=n*sz)(h1:∀a∈l,a.one=true)(hk:∀H' S',Mem H' S'→S'.n=S.n+1→S'.ob S.n=.ce l 0→(∀b,b<S.n→S'.ob b=S.ob b)→k (.slice S.n 0 n n sz true) H'):aR (aB H) n sz l k:=
 dJ h hl h1 λH' m=>hk H' _ m rfl (LS.aq _ _) λb hb=>LS.bR _ _ hb
end Go.X
namespace Go.Proofs.YtcedghechlgecaaDoor
open Go Go.X Go.Proofs.YtcedghechlgecaaDoor.G
section
variable {H:AH}{S:LS}{K:KF}{C:Ctx}{i d:Nat}
def pFn(T:List Tok)(k i d:Nat):ak fm:=(aS T [40] i).bind λ_ j=>(bQ T k true [] j).bind λps j=>(cj T k j d).bind λb j=>(aS T [101,110,100] j).bind λ_ j=>.ok (.mk ps b) j
def zn(T:List Tok)(k i d:Nat):ak az:=(eW T k i d).bind λs j=>if s.kind=3∧isA T [61] j=true then .err 14 j else .ok s j
def qX(S:LS)(Q:Nat→Prop)(v:AV)(f:fm):Prop:=∃c,v=.agg c∧RF S Q c f
def CtX(C:Ctx)(F:Nat→AH→KF→Prop)(p:Nat→Nat→ak au):Prop:=∀{K:KF}{H:AH}{S:LS}{d:Nat}{γ:Type}{r:ak γ},d≤200→Mem H S→aZ C S r→aU C (bE C) dV K S (r.bind λ_ i=>p i d)→F d H K
def mc(C:Ctx)(F:Nat→AH→KF→Prop)(p:Nat→Nat→ak au):Prop:=∀{K:KF}{H:AH}{S:LS}{i d:Nat}{γ:Type}{x:γ},d≤200→Mem H S→aZ C S (ak.ok x i)→aU C (bE C) dV K S (p i d)→F d H K
structure gA(C:Ctx)(m:Nat):Prop where
 block:∀k,2*k+4≤m→∀{K:KF}{H:AH}{S:LS}{d:Nat}{γ:Type}{r:ak γ},d≤200→Mem H S→aZ C S r→aU C (bE C) gw K S (r.bind λ_ i=>cj C.T k i d)→(s10 m).1 (.ptr C.bp 0) (d:Int) H K
 exp:∀k,2*k+4≤m→CtX C (λd H K=>(s10 m).2.1 (.ptr C.bp 0) (d:Int) H K) (bP C.T k)
 stat:∀k,2*k+4≤m→∀{K:KF}{H:AH}{S:LS}{i d bs:Nat}{γ:Type}{x:γ},d≤200→Mem H S→aZ C S (ak.ok x i)→isA C.T [114,101,116,117,114,110] i=false→S.ob bs=.ce [.int 0 0,.int 0 (ay C.T i:Int),.ab,.ab,.ab] 0→bs≠C.bp→(∀b,aj C.vT b→b≠bs)→aU C (fO C bs) (iK bs) K S (zn C.T k i d)→(s10 m).2.2.1 (.ptr C.bp 0) (.ptr bs 0) (d:Int) H K
 lv0:∀k,2*k+4≤m→mc C (λd H K=>(s10 m).2.2.2.1 (.ptr C.bp 0) ((0:Nat):Int) (d:Int) H K) (gd C.T k)
 lv1:∀k,2*k+4≤m→mc C (λd H K=>(s10 m).2.2.2.1 (.ptr C.bp 0) ((1:Nat):Int) (d:Int) H K) (jw C.T k)
 Ez:∀k,2*k+4≤m→mc C (λd H K=>(s10 m).2.2.2.1 (.ptr C.bp 0) ((2:Nat):Int) (d:Int) H K) (jx C.T k)
 EA:∀k,2*k+5≤m→mc C (λd H K=>(s10 m).2.2.2.1 (.ptr C.bp 0) ((3:Nat):Int) (d:Int) H K) (gk C.T k)
 lv4:∀k,2*k+4≤m→mc C (λd H K=>(s10 m).2.2.2.1 (.ptr C.bp 0) ((4:Nat):Int) (d:Int) H K) (lO C.T k)
 lv5:∀k,2*k+4≤m→mc C (λd H K=>(s10 m).2.2.2.1 (.ptr C.bp 0) ((5:Nat):Int) (d:Int) H K) (jy C.T k)
 zL:∀k,2*k+5≤m→mc C (λd H K=>(s10 m).2.2.2.1 (.ptr C.bp 0) ((6:Nat):Int) (d:Int) H K) (fk C.T k)
 body:∀k,2*k+5≤m→∀{K:KF}{H:AH}{S:LS}{d:Nat}{γ:Type}{r:ak γ},d≤200→Mem H S→aZ C S r→aU C (bE C) qX K S (r.bind λ_ i=>pFn C.T k i d)→(s10 m).2.2.2.2.1 (.ptr C.bp 0) (d:Int) H K
 behind:∀k,2*k+4≤m→∀{K:KF}{H:AH}{S S0:LS}{d:Nat}{c:List AV}{e:au}{γ:Type}{r:ak γ},d≤200→Mem H S→aK (bE C) S0 S→C.bp<S0.n→(∀b,aj C.vT b→b<S0.n)→aZ C S r→RE S (jd S0.n S.n) c e→aU C (bE C) dV K S0 (r.bind λ_ i=>cF C.T k e i d)→(s10 m).2.2.2.2.2.1 (.ptr C.bp 0) (.agg c) (d:Int) H K
 join:∀k,2*k+4≤m→mc C (λd H K=>(s10 m).2.2.2.2.2.2.1 (.ptr C.bp 0) (d:Int) H K) (gk C.T k)
 unary:∀k,2*k+4≤m→mc C (λd H K=>(s10 m).2.2.2.2.2.2.2.1 (.ptr C.bp 0) (d:Int) H K) (fk C.T k)
 post:∀k,2*k+4≤m→mc C (λd H K=>(s10 m).2.2.2.2.2.2.2.2.1 (.ptr C.bp 0) (d:Int) H K) (iI C.T k)
 table:∀k,2*k+4≤m→∀{K:KF}{H:AH}{S:LS}{i d a:Nat}{γ:Type}{x:γ},d≤200→Mem H S→aZ C S (ak.ok x i)→aU C (bE C) dV K S (fx C.T k [] 0 a i d)→(s10 m).2.2.2.2.2.2.2.2.2 (.ptr C.bp 0) (a:Int) (d:Int) H K
theorem zo(m:Nat):s10 (m+1)=(BD (cM (s10 m)),Qh (u7 (s10 m)),BS (aY (s10 m)),B9 (eF (s10 m)),Ch (fY (s10 m)),Cu (dv (s10 m)),Qx (mQ (s10 m)),Qy (mR (s10 m)),Qz (fZ (s10 m)),CV (cN (s10 m))):=by kernel_rfl
theorem RE.zero{S:LS}{Q:Nat→Prop}:RE S Q z7 (.mk 0 0 0 [] 0 [] []):=RE.simple (kind:=0) (at_:=0) (n:=0) (op:=0) (s:=[]) B8.nil
theorem qK{γ β:Type}{r:ak γ}{c i:Nat}(hd:aZ C S r)(e:r=.err c i):aZ C S (ak.err c i:ak β):=by
 subst e;exact hd.as rfl rfl rfl (λe=>by cases e) λc i e=>hd.cd c i (by cases e;rfl)
theorem ahJ{m n d c i:Nat}{γ:Type}(hM:Mem H S)(hd:aZ C S (ak.err c i:ak γ))(hP:aU C (bE C) dV K S (.err c i)):(s10 (m+1)).2.2.2.1 (.ptr C.bp 0) (n:Int) (d:Int) H K:=by
 show sq (eF (s10 m)) K (xR (eF (s10 m)) K) (.ptr C.bp 0) (n:Int) (d:Int) H;unfold sq;rw[jK];refine e8 (dt hM fy λH1 m1=>?_);have c1:aK bU S (S.push (.ce z7 0)):=(aK.refl _ _).push _;have d1:=hd.ik hM c1;have e0:Int.ofNat 0=((0:Nat):Int):=rfl;refine im m1 d1 ?_;have hc:=(hd.cd c i rfl).1;rw[bu,e0,decide_eq_false (by show ¬((c:Nat):Int)=((0:Nat):Int);omega)];simp only[Bool.not_false,aG];refine kg (c:=z7) m1 (LS.aq _ _) rfl rfl fy λH2 m2=>?_;refine gO m2 (LS.av _ _ _) rfl ?_;have c2:=c1.set (b:=S.n) (.inr (Nat.le_refl _)) (.ce z7 0);exact hP.2 H2 _ _ (.mk 0 0 0 [] 0 [] []) m2 c2.no (qK (hd.ik hM c2) rfl) ⟨z7,rfl,RE.zero⟩ λ_ _ e=>by cases e
theorem x70{m:Nat}(hm:1≤m)(O:gA C m):∀k,2*k+4≤m+1→CtX C (λd H K=>(s10 (m+1)).2.1 (.ptr C.bp 0) (d:Int) H K) (bP C.T k):=by
 intro k hk K H S d γ r hd hM hs hP;have ra:(u7 (s10 m)).1=f37:=rfl;have rb:(u7 (s10 m)).2=(s10 m).2.2.2.1:=rfl;show BE (u7 (s10 m)) K (.ptr C.bp 0) (d:Int) H;unfold BE;rw[ra,rb,jK];refine e8 (dt hM fy λH1 m1=>?_);have c1:aK bU S (S.push (.ce z7 0)):=(aK.refl _ _).push _;have d1:=hs.ik hM c1;have o1:(S.push (.ce z7 0)).ob S.n=.ce z7 0:=LS.aq _ _;rw[dS,fz];refine w0 (by omega) (by omega) ?_;have hbp:=hs.mW hM;have fq:¬bE C S.n:=λq=>by have q:S.n=C.bp:=q;omega
 have fin:∀{r':ak au}{H3:AH}{S3:LS}{v:AV}{e:au}{S2:LS},aU C (bE C) dV K S r'→S.n<S2.n→Mem H3 S3→aK (bE C) S S3→aZ C S3 r'→S3.ob S.n=.ce z7 0→dV S3 (jd S2.n S3.n) v e→Ag r' e→ah 7 (.ptr S.n 0) v H3 λcm=>aN 7 (.ptr S.n 0) cm λv11=>K (.ret v11) cm:=by
  intro r' H3 S3 v e S2 hP hn m3 c3 d3 o3 ⟨c,hv,hR⟩ ha;subst hv;refine kg m3 o3 rfl hR.len hR.ones λH4 m4=>?_;refine gO m4 (LS.av _ _ _) hR.len ?_;refine hP.2 H4 _ _ e m4 (c3.set (.inr (Nat.le_refl _)) _) (d3.pZ hs hM (Nat.le_refl _) _) ⟨c,rfl,hR.go (λb hb=>LS.an _ _ (by have:=hb.1;omega)) λb hb=>⟨by have:=hb.1;omega,hb.2⟩⟩ ha
 have sp:(r.bind λ_ i=>bP C.T k i d)=(r.bind λ_ i=>dy (100<d+1) i).bind λ_ i=>if k=0 then .bb else gd C.T (k-1) i (d+1):=by
  rw[bJ];cases k with
  |zero=>
   cases r with
   |ok a i=>
    exact absurd (show bP C.T 0 i d=.bb by simp only[bP]) hP.1
   |err c i=>rfl
   |bb=>rfl
  |succ k=>
   congr 1;funext a i;simp only[bP,dy,Nat.add_one_sub_one,if_neg (Nat.succ_ne_zero k)];split<;>rfl
 rw[sp]at hP;refine zl m1 d1 (aU.call (eT:=mY) hP λ_ H2 S2 w m2 c2 d2 _ hP2=>?_);have c12:aK (bE C) S S2:=c1.no.trans c2;have o2:=c2.ob m1 o1 fq;have n2:S.n<S2.n:=m2.lt (by rw[o2];simp);have e0:Int.ofNat 0=((0:Nat):Int):=rfl;rw[e0];cases hr:r.bind λ_ i=>dy (100<d+1) i with
 |bb=>rw[hr]at hP2;exact absurd rfl hP2.1
 |err c i=>
  rw[hr]at hP2 d2;obtain⟨m',rfl⟩:∃m',m=m'+1:=⟨m-1,by omega⟩
  refine ahJ m2 d2 ⟨λe=>(by cases e),λH3 S3 v e m3 c3 d3 p3 a3=>?_⟩;exact fin hP2 n2 m3 (c12.trans c3) d3 (c3.ob m2 o2 fq) p3 a3
 |ok x i=>
  rw[hr]at hP2 d2;have hP3:aU C (bE C) dV K S (if k=0 then .bb else gd C.T (k-1) i (d+1)):=hP2;by_cases k0:k=0
  ·rw[if_pos k0]at hP3;exact absurd rfl hP3.1
  ·rw[if_neg k0]at hP3;have aed:d+1≤200:=by
    cases r with
    |ok a j=>
     have hr:dy (100<d+1) j=.ok x i:=hr;unfold dy at hr;split at hr
     ·cases hr
     ·omega
    |err c j=>cases hr
    |bb=>cases hr
   refine O.lv0 (k-1) (by omega) aed m2 d2 ⟨hP3.1,λH3 S3 v e m3 c3 d3 p3 a3=>?_⟩;exact fin hP3 n2 m3 (c12.trans c3) d3 (c3.ob m2 o2 fq) p3 a3
end
section
variable {H:AH}{S:LS}{K:KF}{C:Ctx}{i d:Nat}
def dR:Nat→List (List Nat)
 |0=>[[111,114]]
 |1=>[[97,110,100]]
 |2=>tests
 |4=>sums
 |5=>terms
 |_=>[]
def gI:Nat→List Nat
 |0=>[0]
 |1=>[0]
 |2=>[7,8,9,10,11,12]
 |4=>[1,2]
 |5=>[3,4,5]
 |_=>[]
def xh(n:Nat):Prop:=n=0∨n=1∨n=2∨n=4∨n=5
theorem ahK{n:Nat}:(dR n).length=(gI n).length:=by unfold dR gI;split<;>rfl
theorem acp{n:Nat}:(dR n).length≤6:=by unfold dR;split<;>simp[tests,sums,terms]
theorem ano{n:Nat}:∀s∈dR n,B8 s:=by
 intro s hs;unfold dR at hs;split at hs<;>simp only[tests,sums,terms,List.mem_cons,List.not_mem_nil,or_false]at hs
 ·subst hs;exact aX (by decide)
 ·subst hs;exact aX (by decide)
 ·rcases hs with rfl|rfl|rfl|rfl|rfl|rfl<;>exact aX (by decide)
 ·rcases hs with rfl|rfl<;>exact aX (by decide)
 ·rcases hs with rfl|rfl|rfl<;>exact aX (by decide)
theorem qL(l:List (List Nat)):∀a∈l.map ai,a.one=true:=by
 intro a ha;obtain⟨s,_,rfl⟩:=List.mem_map.1 ha;exact kP s
theorem sS(l:List Nat):∀a∈l.map (λc:Nat=>AV.int 0 (c:Int)),a.one=true:=by
 intro a ha;obtain⟨s,_,rfl⟩:=List.mem_map.1 ha;rfl
theorem apd{n:Nat}(hn:xh n){k:AV→AH→Prop}(hM:Mem H S)(hk:∀H' S' b,Mem H' S'→aK bU S S'→S.n≤b→b<S'.n→S'.ob b=.ce ((dR n).map ai) 0→k (.slice b 0 (dR n).length (dR n).length 1 true) H') :
  aR (aB H) 1 1 [(.str 2 29295)] λv18 kc=>aR (aB kc) 1 1 [(.str 3 6581857)] λv20 gZ=>aR (aB gZ) 6 1 [(.str 2 15677),(.str 2 15742),(.str 1 60),(.str 2 15676),(.str 1 62),(.str 2 15678)] λv22 qy=>aR (aB qy) 2 1 [(.str 1 43),(.str 1 45)] λv24 rf=>aR (aB rf) 3 1 [(.str 1 42),(.str 2 12079),(.str 1 37)] λv26 sk=>one v18 (one v20 (one v22 (one v24 (one v26 (aR (aB sk) 6 1 [v18,v20,v22,.ab,v24,v26] λv28 BO=>bf 1 v28 (.int 0 (n:Int)) λv30=>ad v30 BO λv31=>k v31 BO))))):=by
 refine ku hM rfl (qL (dR 0)) λH1 S1 m1 n1 o1 k1=>?_;refine ku m1 rfl (qL (dR 1)) λH2 S2 m2 n2 o2 k2=>?_;refine ku m2 rfl (qL (dR 2)) λH3 S3 m3 n3 o3 k3=>?_;refine ku m3 rfl (qL (dR 4)) λH4 S4 m4 n4 o4 k4=>?_;refine ku m4 rfl (qL (dR 5)) λH5 S5 m5 n5 o5 k5=>?_;refine fC rfl (fC rfl (fC rfl (fC rfl (fC rfl ?_))));refine ku m5 rfl (λa ha=>?_) λH6 S6 m6 n6 o6 k6=>?_
 ·simp only[List.mem_cons,List.not_mem_nil,or_false]at ha;rcases ha with rfl|rfl|rfl|rfl|rfl|rfl<;>rfl
 have c6:aK bU S S6:=⟨by omega,λb hb _=>by rw[k6 b (by omega),k5 b (by omega),k4 b (by omega),k3 b (by omega),k2 b (by omega),k1 b hb]⟩
 have q1:S6.ob S.n=.ce ((dR 0).map ai) 0:=by rw[k6 _ (by omega),k5 _ (by omega),k4 _ (by omega),k3 _ (by omega),k2 _ (by omega)];exact o1
 have q2:S6.ob S1.n=.ce ((dR 1).map ai) 0:=by rw[k6 _ (by omega),k5 _ (by omega),k4 _ (by omega),k3 _ (by omega)];exact o2
 have q3:S6.ob S2.n=.ce ((dR 2).map ai) 0:=by rw[k6 _ (by omega),k5 _ (by omega),k4 _ (by omega)];exact o3
 have q4:S6.ob S3.n=.ce ((dR 4).map ai) 0:=by rw[k6 _ (by omega),k5 _ (by omega)];exact o4
 have q5:S6.ob S4.n=.ce ((dR 5).map ai) 0:=by rw[k6 _ (by omega)];exact o5
 refine mN (by omega) (by rcases hn with rfl|rfl|rfl|rfl|rfl<;>decide) ?_;rw[Int.toNat_natCast,Nat.zero_add,Nat.mul_one];rcases hn with rfl|rfl|rfl|rfl|rfl
 ·exact aD m6 o6 (v:=.slice S.n 0 1 1 1 true) rfl (hk H6 S6 _ m6 c6 (by omega) (by omega) q1)
 ·exact aD m6 o6 (v:=.slice S1.n 0 1 1 1 true) rfl (hk H6 S6 _ m6 c6 (by omega) (by omega) q2)
 ·exact aD m6 o6 (v:=.slice S2.n 0 6 6 1 true) rfl (hk H6 S6 _ m6 c6 (by omega) (by omega) q3)
 ·exact aD m6 o6 (v:=.slice S3.n 0 2 2 1 true) rfl (hk H6 S6 _ m6 c6 (by omega) (by omega) q4)
 ·exact aD m6 o6 (v:=.slice S4.n 0 3 3 1 true) rfl (hk H6 S6 _ m6 c6 (by omega) (by omega) q5)
theorem ahL{n:Nat}(hn:xh n){k:AV→AH→Prop}(hM:Mem H S)(hk:∀H' S' b,Mem H' S'→aK bU S S'→S.n≤b→b<S'.n→S'.ob b=.ce ((gI n).map λc:Nat=>AV.int 0 (c:Int)) 0→k (.slice b 0 (gI n).length (gI n).length 1 true) H') :
  aR (aB H) 1 1 [(.int 0 (.ofNat 0))] λv1 H2=>aR (aB H2) 1 1 [(.int 0 (.ofNat 0))] λv3 H4=>aR (aB H4) 6 1 [(.int 0 (.ofNat 7)),(.int 0 (.ofNat 8)),(.int 0 (.ofNat 9)),(.int 0 (.ofNat 10)),(.int 0 (.ofNat 11)),(.int 0 (.ofNat 12))] λv5 H6=>aR (aB H6) 2 1 [(.int 0 (.ofNat 1)),(.int 0 (.ofNat 2))] λv7 H8=>aR (aB H8) 3 1 [(.int 0 (.ofNat 3)),(.int 0 (.ofNat 4)),(.int 0 (.ofNat 5))] λv9 cm=>one v1 (one v3 (one v5 (one v7 (one v9 (aR (aB cm) 6 1 [v1,v3,v5,.ab,v7,v9] λv11 bO=>bf 1 v11 (.int 0 (n:Int)) λv13=>ad v13 bO λv14=>k v14 bO))))):=by
 refine ku hM rfl (sS (gI 0)) λH1 S1 m1 n1 o1 k1=>?_;refine ku m1 rfl (sS (gI 1)) λH2 S2 m2 n2 o2 k2=>?_;refine ku m2 rfl (sS (gI 2)) λH3 S3 m3 n3 o3 k3=>?_;refine ku m3 rfl (sS (gI 4)) λH4 S4 m4 n4 o4 k4=>?_;refine ku m4 rfl (sS (gI 5)) λH5 S5 m5 n5 o5 k5=>?_;refine fC rfl (fC rfl (fC rfl (fC rfl (fC rfl ?_))));refine ku m5 rfl (λa ha=>?_) λH6 S6 m6 n6 o6 k6=>?_
 ·simp only[List.mem_cons,List.not_mem_nil,or_false]at ha;rcases ha with rfl|rfl|rfl|rfl|rfl|rfl<;>rfl
 have c6:aK bU S S6:=⟨by omega,λb hb _=>by rw[k6 b (by omega),k5 b (by omega),k4 b (by omega),k3 b (by omega),k2 b (by omega),k1 b hb]⟩
 have q1:S6.ob S.n=.ce ((gI 0).map λc:Nat=>AV.int 0 (c:Int)) 0:=by rw[k6 _ (by omega),k5 _ (by omega),k4 _ (by omega),k3 _ (by omega),k2 _ (by omega)];exact o1
 have q2:S6.ob S1.n=.ce ((gI 1).map λc:Nat=>AV.int 0 (c:Int)) 0:=by rw[k6 _ (by omega),k5 _ (by omega),k4 _ (by omega),k3 _ (by omega)];exact o2
 have q3:S6.ob S2.n=.ce ((gI 2).map λc:Nat=>AV.int 0 (c:Int)) 0:=by rw[k6 _ (by omega),k5 _ (by omega),k4 _ (by omega)];exact o3
 have q4:S6.ob S3.n=.ce ((gI 4).map λc:Nat=>AV.int 0 (c:Int)) 0:=by rw[k6 _ (by omega),k5 _ (by omega)];exact o4
 have q5:S6.ob S4.n=.ce ((gI 5).map λc:Nat=>AV.int 0 (c:Int)) 0:=by rw[k6 _ (by omega)];exact o5
 refine mN (by omega) (by rcases hn with rfl|rfl|rfl|rfl|rfl<;>decide) ?_;rw[Int.toNat_natCast,Nat.zero_add,Nat.mul_one];rcases hn with rfl|rfl|rfl|rfl|rfl
 ·exact aD m6 o6 (v:=.slice S.n 0 1 1 1 true) rfl (hk H6 S6 _ m6 c6 (by omega) (by omega) q1)
 ·exact aD m6 o6 (v:=.slice S1.n 0 1 1 1 true) rfl (hk H6 S6 _ m6 c6 (by omega) (by omega) q2)
 ·exact aD m6 o6 (v:=.slice S2.n 0 6 6 1 true) rfl (hk H6 S6 _ m6 c6 (by omega) (by omega) q3)
 ·exact aD m6 o6 (v:=.slice S3.n 0 2 2 1 true) rfl (hk H6 S6 _ m6 c6 (by omega) (by omega) q4)
 ·exact aD m6 o6 (v:=.slice S4.n 0 3 3 1 true) rfl (hk H6 S6 _ m6 c6 (by omega) (by omega) q5)
theorem Hz{S0:LS}{b1 b3 at_ kind op:Nat}{c cb:List AV}{e x:au}(F:lE C S0 S b1 b3 c e)(hM:Mem H S)(hbp:C.bp<S0.n)(hr:RE S (λb=>S0.n≤b∧b<S.n∧b≠b1∧b≠b3) cb x) :
  RE (S.push (.ce (c++cb) 0)) (λb=>S0.n≤b∧b<S.n+1∧b≠b1∧b≠b3) [.int 0 (kind:Int),.int 0 (at_:Int),.int 0 ((0:Nat):Int),ai [],.int 0 (op:Int),.slice S.n 0 2 2 7 true,.ab] (mV kind op at_ e x):=by
 obtain⟨Q,h1,h2⟩:=F.re;have GG:b1<S.n:=by obtain⟨z,hz,_⟩:=F.o1;exact hM.lt (by rw[hz];simp)
 have lt3:b3<S.n:=hM.lt (by rw[F.o3];simp);have n0:=F.x.1;refine RE.two (b:=S.n) (m:=0) ⟨by omega,by omega,by omega,by omega⟩ (LS.aq _ _) (h1.go (λb hb=>LS.bR _ _ (h2 b hb).2.1) λb hb=>?_) (hr.go (λb hb=>LS.bR _ _ hb.2.1) λb hb=>?_)
 ·have:=h2 b hb;exact⟨this.1,by omega,this.2.2⟩
 ·exact⟨hb.1,by omega,hb.2.2⟩
theorem HA{γ β:Type}{x:γ}{y:β}{i:Nat}(hd:aZ C S (ak.ok x i)):aZ C S (ak.ok y i):=hd.as rfl rfl rfl (λe=>by cases e) λc i e=>by cases e
theorem lE.Fb{S0:LS}{H0:AH}{b1 b3:Nat}{c:List AV}{e:au}{γ:Type}{r0:ak γ}{r:ak au}(h:lE C S0 S b1 b3 c e)(hM:Mem H S)(hM0:Mem H0 S0)(hd0:aZ C S0 r0)(hd:aZ C S r)(hP:aU C (bE C) dV K S0 r)(ha:Ag r e) :
  aN 7 (.ptr b3 0) H λv1=>ah 7 (.ptr b1 0) v1 H λH2=>aN 7 (.ptr b1 0) H2 λv3=>K (.ret v3) H2:=by
 obtain⟨z,hz,mZ⟩:=h.o1;obtain⟨Q,h1,h2⟩:=h.re;refine anj hM h.o3 h1.len h1.ones hz mZ λH' m=>?_;exact hP.2 H' _ _ e m (h.x.set (.inr h.n1) _) (hd.pZ hd0 hM0 h.n1 _) ⟨c,rfl,h1.go (λb hb=>LS.an _ _ (h2 b hb).2.2.1) λb hb=>⟨(h2 b hb).1,(h2 b hb).2.1⟩⟩ ha
theorem anp{m n bo d:Nat}{γ:Type}{r:ak γ}{v1 v8 v9:AV}{X:AV→Int→Int→AV→AV→AV→AV→AH→Prop}{S0:LS} :
  ∀(q j:Nat) (H:AH) (S:LS),j≤(dR n).length→(dR n).length-j<q→Mem H S→aZ C S r→aK bU S0 S→S.ob bo=.ce ((dR n).map ai) 0→(∀t,t<j→oG C.T ((dR n)[t]?.getD []) r=false)→
  (∀H' S' w,Mem H' S'→aK bU S0 S'→aZ C S' r→w≤(dR n).length→(∀t,t<w→oG C.T ((dR n)[t]?.getD []) r=false)→(w<(dR n).length→oG C.T ((dR n)[w]?.getD []) r=true)→BZ (eF (s10 m)) K X (.ptr C.bp 0) (n:Int) (d:Int) v1 (.slice bo 0 (dR n).length (dR n).length 1 true) v8 v9 (w:Int) H')→
  uV (eF (s10 m)) K X q (.ptr C.bp 0) (n:Int) (d:Int) v1 (.slice bo 0 (dR n).length (dR n).length 1 true) v8 v9 (j:Int) H:=by
 intro q
 induction q with
 |zero=>intro j H S _ h;omega
 |succ q ih=>
  intro j H S hj hq hM hd hc ho hb hk;have rb:(eF (s10 m)).2.1=f41:=rfl;show B4 (eF (s10 m)) K (uV (eF (s10 m)) K X q) (BZ (eF (s10 m)) K X) (.ptr C.bp 0) (n:Int) (d:Int) v1 (.slice bo 0 (dR n).length (dR n).length 1 true) v8 v9 (j:Int) H;unfold B4;rw[rb];rw[A6,aO,cK];refine cx (λg=>?_) (λg=>?_)
  ·have hjl:j<(dR n).length:=by omega
   refine mN (by omega) (by omega) ?_;rw[Int.toNat_natCast,Nat.zero_add,Nat.mul_one];have e1:(dR n)[j]?.getD []=(dR n)[j]:=by rw[List.getElem?_eq_getElem hjl];rfl
   refine aD hM ho (v:=ai (dR n)[j]) (by rw[List.getElem?_map,List.getElem?_eq_getElem hjl];rfl) ?_;refine rC (ano _ (List.getElem_mem _)) hM hd λH2 S2 m2 c2 d2=>?_;rw[al,aM];have o2:=c2.ob hM ho λq=>q;cases hi:oG C.T (dR n)[j] r with
   |true=>
    simp only[Bool.not_true,aH];exact hk H2 S2 j m2 (hc.trans c2) d2 hj hb λ_=>by rw[e1];exact hi
   |false=>
    simp only[Bool.not_false,aG];rw[dS,fz];have hle:=acp (n:=n);refine w0 (by omega) (by omega) ?_;exact ih (j+1) H2 S2 (by omega) (by omega) m2 d2 (hc.trans c2) o2 (λt ht=>by
     by_cases g:t=j
     ·rw[g,e1];exact hi
     ·exact hb t (by omega)) hk
  ·exact hk H S j hM hc hd hj hb λh=>absurd h (by omega)
def Ox(n:Nat):Nat:=if n=0 then 16 else if n=1 then 15 else 14
structure GH(C:Ctx)(n:Nat)(p:Nat→Nat→Nat→ak au)(gL:Nat→au→Nat→Nat→ak au):Prop where
 zero:∀e i d,gL 0 e i d=.bb
 stop:∀k e i d,(∀t,t<(dR n).length→isA C.T ((dR n)[t]?.getD []) i=false)→gL (k+1) e i d=.ok e i
 go:∀k e i d w,w<(dR n).length→(∀t,t<w→isA C.T ((dR n)[t]?.getD []) i=false)→isA C.T ((dR n)[w]?.getD []) i=true→gL (k+1) e i d=(p k (i+1) d).bind λb j=>gL k (mV (Ox n) ((gI n)[w]?.getD 0) (ay C.T i) e b) j d
theorem Mq{m n:Nat}(hn:xh n){p:Nat→Nat→Nat→ak au}{gL:Nat→au→Nat→Nat→ak au}(hp:∀k,2*k+5≤m→mc C (λd H K=>(s10 m).2.2.2.1 (.ptr C.bp 0) ((n+1:Nat):Int) (d:Int) H K) (p k))(hL:GH C n p gL)
  {S0:LS}{H0:AH}{γ0:Type}{r0:ak γ0}{b1 b3 bo bc:Nat}(hd:d≤200) (hM0:Mem H0 S0) (hd0:aZ C S0 r0) (iO:S0.n≤bo) (hbc:S0.n≤bc) (Mr:bo≠b3) (nc3:bc≠b3)
  {X:AV→Int→Int→AV→AV→AV→AV→AH→Prop}{k:Nat}(hk:2*k+4≤m+1)
  (hrec:∀k',k=k'+1→∀(e:au) (c:List AV) (H:AH) (S:LS){γ:Type}(r:ak γ),Mem H S→aZ C S r→lE C S0 S b1 b3 c e→S.ob bo=.ce ((dR n).map ai) 0→S.ob bc=.ce ((gI n).map λc:Nat=>AV.int 0 (c:Int)) 0→aU C (bE C) dV K S0 (r.bind λ_ i=>gL k' e i d)→
   X (.ptr C.bp 0) (n:Int) (d:Int) (.ptr b1 0) (.slice bo 0 (dR n).length (dR n).length 1 true) (.slice bc 0 (gI n).length (gI n).length 1 true) (.ptr b3 0) H)
  (e:au) (c:List AV) (H:AH) (S:LS){γ:Type}(r:ak γ) (hM:Mem H S) (hs:aZ C S r) (hF:lE C S0 S b1 b3 c e) (ho:S.ob bo=.ce ((dR n).map ai) 0) (hc:S.ob bc=.ce ((gI n).map λc:Nat=>AV.int 0 (c:Int)) 0) (hP:aU C (bE C) dV K S0 (r.bind λ_ i=>gL k e i d)) :
  JB (eF (s10 m)) K X (.ptr C.bp 0) (n:Int) (d:Int) (.ptr b1 0) (.slice bo 0 (dR n).length (dR n).length 1 true) (.slice bc 0 (gI n).length (gI n).length 1 true) (.ptr b3 0) H:=by
 have ra:(eF (s10 m)).1=f39:=rfl;have rc:(eF (s10 m)).2.2.1=(s10 m).2.2.2.1:=rfl;have hbp:=hd0.mW hM0;have fq:∀b,S0.n≤b→¬bE C b:=λb hb q=>by have q:b=C.bp:=q;omega
 have hn6:n≤6:=by unfold xh at hn;omega
 show B6 (eF (s10 m)) K (uV (eF (s10 m)) K X G.NL) (.ptr C.bp 0) (n:Int) (d:Int) (.ptr b1 0) (.slice bo 0 (dR n).length (dR n).length 1 true) (.slice bc 0 (gI n).length (gI n).length 1 true) (.ptr b3 0) H;unfold B6;have iR:G.NL=1000000:=rfl;generalize G.NL=iq at iR ⊢;have hle:=acp (n:=n);have e00:Int.ofNat 0=((0:Nat):Int):=rfl;rw[e00];refine anp iq 0 H S (Nat.zero_le _) (by omega) hM hs (aK.refl bU S) ho (λt ht=>absurd ht (by omega)) λH1 S1 w m1 c1 d1 hw hbef hat=>?_;have F1:=hF.keep hM hbp c1.no;show BY (eF (s10 m)) K (JA (eF (s10 m)) K X) (.ptr C.bp 0) (n:Int) (d:Int) (.ptr b1 0) (.slice bo 0 (dR n).length (dR n).length 1 true) (.slice bc 0 (gI n).length (gI n).length 1 true) (.ptr b3 0) (w:Int) H1;unfold BY;rw[A6,aO,bu,ra];by_cases g:w=(dR n).length
 ·rw[decide_eq_true (by omega),aG];have hst:aZ C S1 (r.bind λ_ i=>gL k e i d)∧Ag (r.bind λ_ i=>gL k e i d) e:=by
   cases r with
   |bb=>exact absurd rfl hs.no
   |err cc i=>exact⟨qK d1 rfl,λ_ _ q=>(by cases q)⟩
   |ok a i=>
    cases k with
    |zero=>exact absurd (hL.zero e i d) hP.1
    |succ k=>
     have es:gL (k+1) e i d=.ok e i:=hL.stop k e i d λt ht=>hbef t (by omega);have eb:((ak.ok a i).bind λ_ i=>gL (k+1) e i d)=.ok e i:=es;rw[eb];exact⟨HA d1,λ_ _ q=>(by cases q;rfl)⟩
  exact lE.Fb F1 m1 hM0 hd0 hst.1 hP hst.2
 ·have hwl:w<(dR n).length:=by omega
  obtain⟨a,i,rfl,hi⟩:=Ap (hat hwl);rw[decide_eq_false (by omega),aH];refine kU m1 d1 ?_;rw[al,aO];have hlt:=df C.ok hi;have hfew:=C.few;simp only[bY,aQ,Nat.zero_add];refine aD m1 d1.ob (v:=.int 0 (i:Int)) rfl ?_;simp only[aO,dS,fz];refine w0 (by omega) (by omega) ?_;refine bH m1 d1.ob (by omega) (by show 1<4;omega) rfl λH2 m2=>?_;have d2:=d1.ok () hlt;have c2:aK (bE C) S1 (S1.set C.bp (.ce [C.vT,.int 0 ((i+1:Nat):Int),.int 0 0,.int 0 0] 0)):=aK.FJ (aK.refl _ _) _;have F2:=F1.keep m1 hbp c2;have m2:Mem H2 (S1.set C.bp (.ce [C.vT,.int 0 ((i+1:Nat):Int),.int 0 0,.int 0 0] 0)):=m2;have o1:=c1.ob hM ho λq=>q;have oc1:=c1.ob hM hc λq=>q;have o2:=c2.ob m1 o1 (fq _ iO);have oc2:=c2.ob m1 oc1 (fq _ hbc);revert F2 m2 d2 o2 oc2;generalize S1.set C.bp (.ce [C.vT,.int 0 ((i+1:Nat):Int),.int 0 0,.int 0 0] 0)=S2;intro d2 F2 m2 o2 oc2;cases k with
  |zero=>exact absurd (hL.zero e i d) hP.1
  |succ k=>
  have eg:=hL.go k e i d w hwl (λt ht=>hbef t ht) hi;have hP:aU C (bE C) dV K S0 (gL (k+1) e i d):=hP;rw[eg]at hP;show BX (eF (s10 m)) K (BW (eF (s10 m)) K X) (.ptr C.bp 0) (n:Int) (d:Int) (.ptr b1 0) (.slice bo 0 (dR n).length (dR n).length 1 true) (.slice bc 0 (gI n).length (gI n).length 1 true) (.ptr b3 0) (w:Int) (ay C.T i:Int) H2;unfold BX;rw[rc,dS,fz];refine w0 (by omega) (by omega) ?_;refine hp k (by omega) hd m2 d2 (aU.call (eT:=dV) hP λx H3 S3 v m3 c3 d3 ⟨cb,hv,hR⟩ hP2=>?_);subst hv;rw[jK];have F3:=F2.keep m2 hbp c3;have o3:=c3.ob m2 o2 (fq _ iO);have oc3:=c3.ob m2 oc2 (fq _ hbc);have lt2:b1<S2.n∧b3<S2.n:=⟨by obtain⟨z,hz,_⟩:=F2.o1;exact m2.lt (by rw[hz];simp),m2.lt (by rw[F2.o3];simp)⟩
  have n20:=F2.x.1;refine e8 (dt m3 fy λH4 m4=>?_);refine kg m4 (LS.aq _ _) rfl hR.len hR.ones λH5 m5=>?_;have c5:aK bU S3 ((S3.push (.ce z7 0)).set S3.n (.ce cb 0)):=((aK.refl _ _).push _).set (.inr (Nat.le_refl _)) _;have F5:=F3.keep m3 hbp c5.no;have d5:=d3.ik m3 c5;have o5:=c5.ob m3 o3 λq=>q;have oc5:=c5.ob m3 oc3 λq=>q;have ob5:((S3.push (.ce z7 0)).set S3.n (.ce cb 0)).ob S3.n=.ce cb 0:=LS.av _ _ _;have R5:RE ((S3.push (.ce z7 0)).set S3.n (.ce cb 0)) (λb=>S0.n≤b∧b<((S3.push (.ce z7 0)).set S3.n (.ce cb 0)).n∧b≠b1∧b≠b3) cb x:=hR.go (λb hb=>c5.2 b hb.2 λq=>q) λb hb=>⟨by have:=hb.1;omega,Nat.lt_of_lt_of_le hb.2 c5.1,by have:=hb.1;omega,by have:=hb.1;omega⟩
  have m5:Mem H5 ((S3.push (.ce z7 0)).set S3.n (.ce cb 0)):=m5;revert F5 d5 o5 oc5 ob5 R5 m5;generalize (S3.push (.ce z7 0)).set S3.n (.ce cb 0)=S5;intro F5 d5 o5 oc5 ob5 R5 m5;have key:∀kd:Nat,kd=Ox n→BU (eF (s10 m)) K X (.ptr C.bp 0) (n:Int) (d:Int) (.ptr b1 0) (.slice bo 0 (dR n).length (dR n).length 1 true) (.slice bc 0 (gI n).length (gI n).length 1 true) (.ptr b3 0) (w:Int) (ay C.T i:Int) (.ptr S3.n 0) (kd:Int) H5:=by
   intro kd hkd;subst hkd;show BT (eF (s10 m)) K X (.ptr C.bp 0) (n:Int) (d:Int) (.ptr b1 0) (.slice bo 0 (dR n).length (dR n).length 1 true) (.slice bc 0 (gI n).length (gI n).length 1 true) (.ptr b3 0) (w:Int) (ay C.T i:Int) (.ptr S3.n 0) (Ox n:Int) H5;unfold BT;have hlc:=ahK (n:=n);refine mN (by omega) (by omega) ?_;rw[Int.toNat_natCast,Nat.zero_add,Nat.mul_one];have hwc:w<(gI n).length:=by omega
   refine aD m5 oc5 (v:=.int 0 (((gI n)[w]?.getD 0:Nat):Int)) (by rw[List.getElem?_map,List.getElem?_eq_getElem hwc];rfl) ?_;rw[aO];refine gO m5 F5.o3 F5.len ?_;refine gO m5 ob5 hR.len ?_;refine m5.cL ?_;simp only[iN];refine gx F5.len (gx hR.len ?_);rw[zh F5.len hR.len rfl];have Ms:∀a∈c,a.one=true:=by obtain⟨Q,h1,_⟩:=F5.re;exact h1.ones
   refine dJ m5 (by rw[List.length_append,F5.len,hR.len]) (λa h=>?_) λH6 m6=>cC (qS (by rw[m6.n,m5.n];rfl)) ?_
   ·rcases List.mem_append.1 h with g|g
    ·exact Ms a g
    ·exact hR.ones a g
   refine fC rfl ?_;have c6:aK bU S5 (S5.push (.ce (c++cb) 0)):=(aK.refl _ _).push _;have F6:=F5.keep m5 hbp c6.no;have hnew:=Hz (at_:=ay C.T i) (kind:=Ox n) (op:=(gI n)[w]?.getD 0) F5 m5 hbp R5;refine kg m6 F6.o3 F6.len hnew.len hnew.ones λH7 m7=>?_;have F7:=F6.Mo hnew λb hb=>hb;refine hrec k rfl _ _ H7 _ _ m7 ((d5.ik m5 c6).pZ hd0 hM0 hF.n3 _) F7 ?_ ?_ hP2
   ·rw[LS.an _ _ Mr];exact c6.ob m5 o5 λq=>q
   ·rw[LS.an _ _ nc3];exact c6.ob m5 oc5 λq=>q
  have e0:Int.ofNat 0=((0:Nat):Int):=rfl;have e1:Int.ofNat 1=((1:Nat):Int):=rfl;have k7:∀kd:Nat,(if n=1 then 15 else kd)=Ox n→BW (eF (s10 m)) K X (.ptr C.bp 0) (n:Int) (d:Int) (.ptr b1 0) (.slice bo 0 (dR n).length (dR n).length 1 true) (.slice bc 0 (gI n).length (gI n).length 1 true) (.ptr b3 0) (w:Int) (ay C.T i:Int) (.ptr S3.n 0) (kd:Int) H5:=by
   intro kd hkd;show BV (eF (s10 m)) K (BU (eF (s10 m)) K X) (.ptr C.bp 0) (n:Int) (d:Int) (.ptr b1 0) (.slice bo 0 (dR n).length (dR n).length 1 true) (.slice bc 0 (gI n).length (gI n).length 1 true) (.ptr b3 0) (w:Int) (ay C.T i:Int) (.ptr S3.n 0) (kd:Int) H5;unfold BV;rw[bu,e1];by_cases g1:n=1
   ·rw[decide_eq_true (by omega),aG];exact key 15 (by rw[if_pos g1]at hkd;exact hkd)
   ·rw[decide_eq_false (by omega),aH];exact key kd (by rw[if_neg g1]at hkd;exact hkd)
  rw[bu,e0];by_cases g0:n=0
  ·rw[decide_eq_true (by omega),aG];exact k7 16 (by subst g0;rfl)
  ·rw[decide_eq_false (by omega),aH];exact k7 14 (by unfold Ox;rw[if_neg g0])
theorem aee{m n:Nat}(hn:xh n){p:Nat→Nat→Nat→ak au}{gL:Nat→au→Nat→Nat→ak au}(hp:∀k,2*k+5≤m→mc C (λd H K=>(s10 m).2.2.2.1 (.ptr C.bp 0) ((n+1:Nat):Int) (d:Int) H K) (p k))(hL:GH C n p gL)
  {S0:LS}{H0:AH}{γ0:Type}{r0:ak γ0}{b1 b3 bo bc:Nat}(hd:d≤200) (hM0:Mem H0 S0) (hd0:aZ C S0 r0) (iO:S0.n≤bo) (hbc:S0.n≤bc) (Mr:bo≠b3) (nc3:bc≠b3) :
  ∀k,2*k+4≤m+1→∀(q:Nat) (e:au) (c:List AV) (H:AH) (S:LS){γ:Type}(r:ak γ),k<q→Mem H S→aZ C S r→lE C S0 S b1 b3 c e→S.ob bo=.ce ((dR n).map ai) 0→S.ob bc=.ce ((gI n).map λc:Nat=>AV.int 0 (c:Int)) 0→aU C (bE C) dV K S0 (r.bind λ_ i=>gL k e i d)→
   B7 (eF (s10 m)) K q (.ptr C.bp 0) (n:Int) (d:Int) (.ptr b1 0) (.slice bo 0 (dR n).length (dR n).length 1 true) (.slice bc 0 (gI n).length (gI n).length 1 true) (.ptr b3 0) H:=by
 intro k
 induction k with
 |zero=>
  intro hk q e c H S γ r hq hM hs hF ho hc hP;obtain⟨q,rfl⟩:∃p,q=p+1:=⟨q-1,by omega⟩
  exact Mq hn hp hL hd hM0 hd0 iO hbc Mr nc3 hk (λk' h=>absurd h (by omega)) e c H S r hM hs hF ho hc hP
 |succ k ih=>
  intro hk q e c H S γ r hq hM hs hF ho hc hP;obtain⟨q,rfl⟩:∃p,q=p+1:=⟨q-1,by omega⟩
  exact Mq hn hp hL hd hM0 hd0 iO hbc Mr nc3 hk (λk' h e c H S γ r hM hs hF ho hc hP=>by
   obtain rfl:k=k':=by omega
   exact ih (by omega) q e c H S r (by omega) hM hs hF ho hc hP) e c H S r hM hs hF ho hc hP
theorem x103{m n:Nat}(hm:m≤1000000)(hn:xh n){p g:Nat→Nat→Nat→ak au}{gL:Nat→au→Nat→Nat→ak au}(hp:∀k,2*k+5≤m→mc C (λd H K=>(s10 m).2.2.2.1 (.ptr C.bp 0) ((n+1:Nat):Int) (d:Int) H K) (p k))(hL:GH C n p gL)
  (h0:∀i d,g 0 i d=.bb) (h1:∀k i d,g (k+1) i d=(p k i d).bind λe j=>gL k e j d):∀k,2*k+4≤m+1→mc C (λd H K=>(s10 (m+1)).2.2.2.1 (.ptr C.bp 0) (n:Int) (d:Int) H K) (g k):=by
 intro k hk K H S i d γ x hd hM hs hP;cases k with
 |zero=>exact absurd (h0 i d) hP.1
 |succ k=>
 rw[h1]at hP;have e:(s10 (m+1)).2.2.2.1=B9 (eF (s10 m)):=by rw[zo]
 show(s10 (m+1)).2.2.2.1 (.ptr C.bp 0) (n:Int) (d:Int) H K;rw[e];have rc:(eF (s10 m)).2.2.1=(s10 m).2.2.2.1:=rfl;have iR:G.NL=1000000:=rfl;have hn6:n≤5∧n≠3:=by unfold xh at hn;omega
 unfold B9 UA sq;rw[jK];refine e8 (dt hM fy λH1 m1=>?_);have c1:aK bU S (S.push (.ce z7 0)):=(aK.refl _ _).push _;have d1:=hs.ik hM c1;have o1:(S.push (.ce z7 0)).ob S.n=.ce z7 0:=LS.aq _ _;have hbp:=hs.mW hM;have fq:∀b,S.n≤b→¬bE C b:=λb hb q=>by have q:b=C.bp:=q;omega
 have e0:Int.ofNat 0=((0:Nat):Int):=rfl;have e3:Int.ofNat 3=((3:Nat):Int):=rfl;have e6:Int.ofNat 6=((6:Nat):Int):=rfl;refine im m1 d1 ?_;have rcd:(ak.ok x i).cd=0:=rfl;rw[rcd,bu,bu,bu,e0,decide_eq_true rfl,e3,e6,decide_eq_false (p:=(n:Int)=((3:Nat):Int)) (by omega),decide_eq_false (p:=(n:Int)=((6:Nat):Int)) (by omega)];simp only[Bool.not_true,aH];refine apd hn m1 λH2 S2 bo m2 c2 iO arM o2=>?_;have iO:S.n+1≤bo:=iO;unfold xR JE;refine ahL hn m2 λH3 S3 bc m3 c3 hbc arN o3=>?_;rw[rc,dS,fz];refine w0 (by omega) (by omega) ?_;have c13:=(c1.trans c2).trans c3;have d3:=hs.ik hM c13;have q1:=(c2.trans c3).ob m1 o1 λq=>q;have q2:=c3.ob m2 o2 λq=>q;refine hp k (by omega) hd m3 d3 (aU.call (eT:=dV) hP λy H4 S4 v m4 c4 d4 ⟨cy,hv,hR⟩ hP2=>?_);subst hv;have n12:S.n+1≤S2.n:=c2.1;have n23:=c3.1;refine e8 ?_;rw[jK];refine dt m4 fy λH5 m5=>?_;refine kg m5 (LS.aq _ _) rfl hR.len hR.ones λH6 m6=>?_;have F:=lE.mk0 (C:=C) hbp rfl (c13.no.trans c4) m4 (c4.ob m3 q1 (fq _ (Nat.le_refl _))) (hR.go (λ_ _=>rfl) λb hb=>⟨by have:=hb.1;omega,hb.2⟩);have c6:aK bU S4 ((S4.push (.ce z7 0)).set S4.n (.ce cy 0)):=((aK.refl _ _).push _).set (.inr (Nat.le_refl _)) _;unfold JD JC;have n34:=c4.1;exact aee hn hp hL hd hM hs (by omega) (by omega) (by omega) (by omega) k (by omega) G.NL y cy H6 _ _ (by omega) m6 (d4.ik m4 c6) F (c6.ob m4 (c4.ob m3 q2 (fq _ (by omega))) λq=>q) (c6.ob m4 (c4.ob m3 o3 (fq _ (by omega))) λq=>q) hP2
end
end Go.Proofs.YtcedghechlgecaaDoor
namespace Go.X
theorem wT{T:List Tok}{i:Nat}:∀{l:List (List Nat)}{f:Nat},(∀t,t<l.length→isA T (l[t]?.getD []) i=false)→lY T i f l=0
 |[],f,h=>rfl
 |s::l,f,h=>by
  have h0:isA T s i=false:=h 0 (by simp);unfold lY;rw[h0];exact wT λt ht=>by have:=h (t+1) (by simp;omega);simpa using this
theorem EB{T:List Tok}{i:Nat}:∀{l:List (List Nat)}{f w:Nat},w<l.length→(∀t,t<w→isA T (l[t]?.getD []) i=false)→isA T (l[w]?.getD []) i=true→lY T i f l=f+w
 |[],f,w,h,_,_=>by simp at h
 |s::l,f,0,_,_,h=>by
  have h0:isA T s i=true:=h;unfold lY;rw[h0];rfl
 |s::l,f,w+1,hw,hb,h=>by
  have h0:isA T s i=false:=hb 0 (by omega);unfold lY;rw[h0];have:=EB (l:=l) (f:=f+1) (w:=w) (by simp at hw;omega) (λt ht=>by have:=hb (t+1) (by omega);simpa using this) (by simpa using h);simp only[Bool.false_eq_true,if_false];rw[this];omega
theorem aZ.ret{C:Ctx}{S:LS}{α β:Type}{r:ak α}(h:aZ C S r)(e:β):aZ C S (r.bind λ_ j=>.ok e j):=by
 cases r with
 |ok a i=>exact h.as rfl rfl rfl (λe=>by cases e) λc i e=>by cases e
 |err c i=>exact h.as rfl rfl rfl (λe=>by cases e) λc i e=>h.cd c i (by cases e;rfl)
 |bb=>exact absurd rfl h.no
theorem px{α β:Type}{r:ak α}{e:β}:Ag (r.bind λ_ j=>.ok e j) e:=λa j h=>by
 cases r with
 |ok a i=>cases h;rfl
 |err c i=>cases h
 |bb=>cases h
theorem Rl{β:Type}{e:β}{i:Nat}:Ag (.ok e i) e:=λ_ _ h=>by cases h;rfl
theorem vN{β:Type}{e:β}{c i:Nat}:Ag (.err c i) e:=λ_ _ h=>by cases h
end Go.X
namespace Go.Proofs.YtcedghechlgecaaDoor
open Go Go.X Go.Proofs.YtcedghechlgecaaDoor.G
section
variable {H:AH}{S:LS}{K:KF}{C:Ctx}{i d:Nat}
theorem aqo:GH C 0 (jw C.T) (fN C.T) where
 zero e i d:=by simp only[fN]
 stop k e i d h:=by
  have h0:isA C.T [111,114] i=false:=h 0 (by decide);simp only[fN];rw[h0];rfl
 go k e i d w hw hb h:=by
  obtain rfl:w=0:=by have:(dR 0).length=1:=rfl;omega
  have h0:isA C.T [111,114] i=true:=h;simp only[fN];rw[h0];rfl
theorem aqp:GH C 1 (jx C.T) (iF C.T) where
 zero e i d:=by simp only[iF]
 stop k e i d h:=by
  have h0:isA C.T [97,110,100] i=false:=h 0 (by decide);simp only[iF];rw[h0];rfl
 go k e i d w hw hb h:=by
  obtain rfl:w=0:=by have:(dR 1).length=1:=rfl;omega
  have h0:isA C.T [97,110,100] i=true:=h;simp only[iF];rw[h0];rfl
theorem aqq:∀w,w<6→(gI 2)[w]?.getD 0=7+w:=by decide
theorem aqr:∀w,w<2→(gI 4)[w]?.getD 0=1+w:=by decide
theorem aqs:∀w,w<3→(gI 5)[w]?.getD 0=3+w:=by decide
theorem aqt:GH C 2 (gk C.T) (iG C.T) where
 zero e i d:=by simp only[iG]
 stop k e i d h:=by
  have h0:lY C.T i 7 tests=0:=wT h;simp only[iG];rw[h0];rfl
 go k e i d w hw hb h:=by
  have h0:lY C.T i 7 tests=7+w:=EB hw hb h;have e1:=aqq w hw;have h1:lY C.T i 7 tests≠0:=by omega
  simp only[iG];rw[if_neg h1,e1,h0];rfl
theorem aqu:GH C 4 (jy C.T) (jJ C.T) where
 zero e i d:=by simp only[jJ]
 stop k e i d h:=by
  have h0:lY C.T i 1 sums=0:=wT h;simp only[jJ];rw[h0];rfl
 go k e i d w hw hb h:=by
  have h0:lY C.T i 1 sums=1+w:=EB hw hb h;have e1:=aqr w hw;have h1:lY C.T i 1 sums≠0:=by omega
  simp only[jJ];rw[if_neg h1,e1,h0];rfl
theorem aqv:GH C 5 (fk C.T) (iH C.T) where
 zero e i d:=by simp only[iH]
 stop k e i d h:=by
  have h0:lY C.T i 3 terms=0:=wT h;simp only[iH];rw[h0];rfl
 go k e i d w hw hb h:=by
  have h0:lY C.T i 3 terms=3+w:=EB hw hb h;have e1:=aqs w hw;have h1:lY C.T i 3 terms≠0:=by omega
  simp only[iH];rw[if_neg h1,e1,h0];rfl
theorem anq{m:Nat}(hm:m≤1000000)(O:gA C m):∀k,2*k+4≤m+1→mc C (λd H K=>(s10 (m+1)).2.2.2.1 (.ptr C.bp 0) ((0:Nat):Int) (d:Int) H K) (gd C.T k):=
 x103 hm (by unfold xh;omega) (λk hk=>O.lv1 k (by omega)) aqo (λi d=>by simp only[gd]) λk i d=>by simp only[gd]
theorem anr{m:Nat}(hm:m≤1000000)(O:gA C m):∀k,2*k+4≤m+1→mc C (λd H K=>(s10 (m+1)).2.2.2.1 (.ptr C.bp 0) ((1:Nat):Int) (d:Int) H K) (jw C.T k):=
 x103 hm (by unfold xh;omega) (λk hk=>O.Ez k (by omega)) aqp (λi d=>by simp only[jw]) λk i d=>by simp only[jw]
theorem ans{m:Nat}(hm:m≤1000000)(O:gA C m):∀k,2*k+4≤m+1→mc C (λd H K=>(s10 (m+1)).2.2.2.1 (.ptr C.bp 0) ((2:Nat):Int) (d:Int) H K) (jx C.T k):=
 x103 hm (by unfold xh;omega) (λk hk=>O.EA k (by omega)) aqt (λi d=>by simp only[jx]) λk i d=>by simp only[jx]
theorem ant{m:Nat}(hm:m≤1000000)(O:gA C m):∀k,2*k+4≤m+1→mc C (λd H K=>(s10 (m+1)).2.2.2.1 (.ptr C.bp 0) ((4:Nat):Int) (d:Int) H K) (lO C.T k):=
 x103 hm (by unfold xh;omega) (λk hk=>O.lv5 k (by omega)) aqu (λi d=>by simp only[lO]) λk i d=>by simp only[lO]
theorem anu{m:Nat}(hm:m≤1000000)(O:gA C m):∀k,2*k+4≤m+1→mc C (λd H K=>(s10 (m+1)).2.2.2.1 (.ptr C.bp 0) ((5:Nat):Int) (d:Int) H K) (jy C.T k):=
 x103 hm (by unfold xh;omega) (λk hk=>O.zL k (by omega)) aqv (λi d=>by simp only[jy]) λk i d=>by simp only[jy]
theorem zp{H3:AH}{S3:LS}{γ:Type}{r:ak γ}{r':ak au}{z:List AV}{v:AV}{e:au}{Q:Nat→Prop}(hM:Mem H S)(hs:aZ C S r)(hP:aU C (bE C) dV K S r')(m3:Mem H3 S3)(c3:aK (bE C) S S3)(d3:aZ C S3 r')(o3:S3.ob S.n=.ce z 0)(hz:z.length=7)
  (hv:dV S3 Q v e) (hQ:∀b,Q b→S.n<b∧b<S3.n) (ha:Ag r' e):ah 7 (.ptr S.n 0) v H3 λcm=>aN 7 (.ptr S.n 0) cm λv11=>K (.ret v11) cm:=by
 obtain⟨c,hv,hR⟩:=hv;subst hv;refine kg m3 o3 hz hR.len hR.ones λH4 m4=>?_;refine gO m4 (LS.av _ _ _) hR.len ?_;exact hP.2 H4 _ _ e m4 (c3.set (.inr (Nat.le_refl _)) _) (d3.pZ hs hM (Nat.le_refl _) _) ⟨c,rfl,hR.go (λb hb=>LS.an _ _ (by have:=(hQ b hb).1;omega)) λb hb=>⟨by have:=(hQ b hb).1;omega,(hQ b hb).2⟩⟩ ha
theorem Oy{m n:Nat}{p:Nat→Nat→ak au}(hn:n=3∨n=6)(h3:n=3→mc C (λd H K=>(s10 m).2.2.2.2.2.2.1 (.ptr C.bp 0) (d:Int) H K) p)(h6:n=6→mc C (λd H K=>(s10 m).2.2.2.2.2.2.2.1 (.ptr C.bp 0) (d:Int) H K) p) :
  mc C (λd H K=>(s10 (m+1)).2.2.2.1 (.ptr C.bp 0) (n:Int) (d:Int) H K) p:=by
 intro K H S i d γ x hd hM hs hP;have rd:(eF (s10 m)).2.2.2.1=(s10 m).2.2.2.2.2.2.1:=rfl;have re:(eF (s10 m)).2.2.2.2=(s10 m).2.2.2.2.2.2.2.1:=rfl;show sq (eF (s10 m)) K (xR (eF (s10 m)) K) (.ptr C.bp 0) (n:Int) (d:Int) H;unfold sq;rw[jK,rd,re];refine e8 (dt hM fy λH1 m1=>?_);have c1:aK bU S (S.push (.ce z7 0)):=(aK.refl _ _).push _;have d1:=hs.ik hM c1;have o1:(S.push (.ce z7 0)).ob S.n=.ce z7 0:=LS.aq _ _;have hbp:=hs.mW hM;have fq:¬bE C S.n:=λq=>by have q:S.n=C.bp:=q;omega
 have e0:Int.ofNat 0=((0:Nat):Int):=rfl;have e3:Int.ofNat 3=((3:Nat):Int):=rfl;have e6:Int.ofNat 6=((6:Nat):Int):=rfl;refine im m1 d1 ?_;have rcd:(ak.ok x i).cd=0:=rfl;rw[rcd,bu,bu,bu,e0,decide_eq_true rfl,e3,e6];simp only[Bool.not_true,aH];rcases hn with rfl|rfl
 ·rw[decide_eq_true rfl,aG];refine h3 rfl hd m1 d1 (aU.tail (eT:=dV) hP λe H2 S2 v m2 c2 d2 hv hfin=>?_);obtain⟨c,hv,hR⟩:=hv;subst hv;refine kg m2 (c2.ob m1 o1 fq) rfl hR.len hR.ones λH4 m4=>?_;refine gO m4 (LS.av _ _ _) hR.len ?_;exact hfin H4 _ _ m4 ((c1.no.trans c2).set (.inr (Nat.le_refl _)) _) (d2.pZ hs hM (Nat.le_refl _) _) ⟨c,rfl,hR.go (λb hb=>LS.an _ _ (by have hb:S.n+1≤b:=hb.1;omega)) λb hb=>⟨by have hb:S.n+1≤b:=hb.1;omega,hb.2⟩⟩
 ·rw[decide_eq_false (by omega),aH,decide_eq_true rfl,aG];refine h6 rfl hd m1 d1 (aU.tail (eT:=dV) hP λe H2 S2 v m2 c2 d2 hv hfin=>?_);obtain⟨c,hv,hR⟩:=hv;subst hv;refine kg m2 (c2.ob m1 o1 fq) rfl hR.len hR.ones λH4 m4=>?_;refine gO m4 (LS.av _ _ _) hR.len ?_;exact hfin H4 _ _ m4 ((c1.no.trans c2).set (.inr (Nat.le_refl _)) _) (d2.pZ hs hM (Nat.le_refl _) _) ⟨c,rfl,hR.go (λb hb=>LS.an _ _ (by have hb:S.n+1≤b:=hb.1;omega)) λb hb=>⟨by have hb:S.n+1≤b:=hb.1;omega,hb.2⟩⟩
theorem aqw{m:Nat}(O:gA C m):∀k,2*k+4≤m+1→mc C (λd H K=>(s10 (m+1)).2.2.2.2.2.2.1 (.ptr C.bp 0) (d:Int) H K) (gk C.T k):=by
 intro k hk K H S i d γ x hd hM hs hP;cases k with
 |zero=>exact absurd (show gk C.T 0 i d=.bb by simp only[gk]) hP.1
 |succ k=>
 have ra:(mQ (s10 m)).1=f37:=rfl;have rb:(mQ (s10 m)).2.1=f39:=rfl;have rc:(mQ (s10 m)).2.2.1=f40:=rfl;have rd:(mQ (s10 m)).2.2.2.1=(s10 m).2.2.2.1:=rfl;have re:(mQ (s10 m)).2.2.2.2=(s10 m).2.2.2.2.2.2.1:=rfl;show Cv (mQ (s10 m)) K (xV (mQ (s10 m)) K) (.ptr C.bp 0) (d:Int) H;unfold Cv;rw[ra,rb,rc,rd,jK];simp only[gk]at hP;have hbp:=hs.mW hM;have fq:∀b,S.n≤b→¬bE C b:=λb hb q=>by have q:b=C.bp:=q;omega
 refine e8 (dt hM fy λH1 m1=>?_);have c1:aK bU S (S.push (.ce z7 0)):=(aK.refl _ _).push _;have d1:=hs.ik hM c1;have o1:(S.push (.ce z7 0)).ob S.n=.ce z7 0:=LS.aq _ _;have e4:Int.ofNat 4=((4:Nat):Int):=rfl;have e0:Int.ofNat 0=((0:Nat):Int):=rfl;rw[e4];refine O.lv4 k (by omega) hd m1 d1 (aU.call (eT:=dV) hP λe H2 S2 v m2 c2 d2 ⟨c,hv,hR⟩ hP2=>?_);subst hv;simp only[jK];refine e8 (dt m2 fy λH3 m3=>?_);refine kg m3 (LS.aq _ _) rfl hR.len hR.ones λH4 m4=>?_;have n12:S.n+1≤S2.n:=c2.1;have c4:aK bU S2 ((S2.push (.ce z7 0)).set S2.n (.ce c 0)):=((aK.refl _ _).push _).set (.inr (Nat.le_refl _)) _;have F4:=lE.mk0 (C:=C) hbp rfl (c1.no.trans c2) m2 (c2.ob m1 o1 (fq _ (Nat.le_refl _))) hR;have d4:=d2.ik m2 c4;refine kU m4 d4 ?_;rw[al,aO];refine dx (s:=[46,46]) (aX (by decide)) m4 d4 (λy j er hi H5 S5 m5 c5 d5=>?_) λhi H5 S5 m5 c5 d5=>?_
 ·simp only[al,aM,Bool.not_true,aH];rw[er]at hP2;have hP2:aU C (bE C) dV K S (if isA C.T [46,46] j=true then (if 100<d+1 then .err 8 (j+1) else (gk C.T k (j+1) (d+1)).bind λb k=>.ok (mV 14 6 (ay C.T j) e b) k) else .ok e j):=hP2;rw[if_pos hi]at hP2;have F5:=F4.keep m4 hbp c5;rw[dS,fz];refine w0 (by omega) (by omega) ?_;have sp:(if 100<d+1 then .err 8 (j+1) else (gk C.T k (j+1) (d+1)).bind λb k=>.ok (mV 14 6 (ay C.T j) e b) k)=((ak.ok () (j+1)).bind λ_ i=>dy (100<d+1) i).bind λ_ i=>(gk C.T k i (d+1)).bind λb k=>.ok (mV 14 6 (ay C.T j) e b) k:=by
   show _=(dy (100<d+1) (j+1)).bind _;unfold dy;split<;>rfl
  rw[sp]at hP2;refine zl m5 d5 (aU.call (eT:=mY) hP2 λ_ H6 S6 w m6 c6 d6 _ hP3=>?_);have F6:=F5.keep m5 hbp c6;refine im m6 d6 ?_;rw[er,bu,e0];have d6:aZ C S6 (dy (100<d+1) (j+1)):=d6;have hP3:aU C (bE C) dV K S ((dy (100<d+1) (j+1)).bind λ_ i=>(gk C.T k i (d+1)).bind λb k=>.ok (mV 14 6 (ay C.T j) e b) k):=hP3;have ecd:((ak.ok () (j+1)).bind λ_ i=>dy (100<d+1) i)=dy (100<d+1) (j+1):=rfl;rw[ecd];by_cases g:100<d+1
  ·have ec:dy (100<d+1) (j+1)=.err 8 (j+1):=by unfold dy;rw[if_pos g]
   rw[ec]at d6 hP3 ⊢;rw[decide_eq_false (by show ¬((8:Nat):Int)=((0:Nat):Int);omega)];simp only[Bool.not_false,aG];exact F6.Fb m6 hM hs (qK d6 rfl) hP3 vN
  ·have ec:dy (100<d+1) (j+1)=.ok () (j+1):=by unfold dy;rw[if_neg g]
   rw[ec]at d6 hP3 ⊢;rw[decide_eq_true (by show((0:Nat):Int)=((0:Nat):Int);rfl)];simp only[Bool.not_true,aH];have hP3:aU C (bE C) dV K S ((gk C.T k (j+1) (d+1)).bind λb k=>.ok (mV 14 6 (ay C.T j) e b) k):=hP3;have qY:ay C.T (lO C.T k i d).ix=ay C.T j:=by rw[er];rfl
   show xV (mQ (s10 m)) K (.ptr C.bp 0) (d:Int) (.ptr S.n 0) (.ptr S2.n 0) (ay C.T j:Int) H6;unfold xV;rw[re,dS,fz];refine w0 (by omega) (by omega) ?_;refine O.join k (by omega) (show d+1≤200 by omega) m6 d6 (aU.call (eT:=dV) hP3 λb H7 S7 v m7 c7 d7 ⟨cb,hv,hRb⟩ vO=>?_);subst hv;have F7:=F6.keep m6 hbp c7;have lt6:S.n<S6.n∧S2.n<S6.n:=⟨by obtain⟨z,hz,_⟩:=F6.o1;exact m6.lt (by rw[hz];simp),m6.lt (by rw[F6.o3];simp)⟩
   refine e8 ?_;rw[jK];refine dt m7 fy λH8 m8=>?_;refine kg m8 (LS.aq _ _) rfl hRb.len hRb.ones λH9 m9=>?_;have c9:aK bU S7 ((S7.push (.ce z7 0)).set S7.n (.ce cb 0)):=((aK.refl _ _).push _).set (.inr (Nat.le_refl _)) _;have F9:=F7.keep m7 hbp c9.no;have d9:=d7.ik m7 c9;have ob9:((S7.push (.ce z7 0)).set S7.n (.ce cb 0)).ob S7.n=.ce cb 0:=LS.av _ _ _;have R9:RE ((S7.push (.ce z7 0)).set S7.n (.ce cb 0)) (λb=>S.n≤b∧b<((S7.push (.ce z7 0)).set S7.n (.ce cb 0)).n∧b≠S.n∧b≠S2.n) cb b:=hRb.go (λb hb=>c9.2 b hb.2 λq=>q) λb hb=>⟨by have:=hb.1;omega,Nat.lt_of_lt_of_le hb.2 c9.1,by have:=hb.1;omega,by have:=hb.1;omega⟩
   refine gO m9 F9.o3 F9.len ?_;refine gO m9 ob9 hRb.len ?_;simp only[iN];refine gx F9.len (gx hRb.len ?_);rw[zh F9.len hRb.len rfl];have Ms:∀a∈c,a.one=true:=by obtain⟨Q,h1,_⟩:=F9.re;exact h1.ones
   have hnew:=Hz (at_:=ay C.T j) (kind:=14) (op:=6) F9 m9 hbp R9;refine dJ m9 (by rw[List.length_append,F9.len,hRb.len]) (λa h=>?_) λHa ma=>?_
   ·rcases List.mem_append.1 h with g|g
    ·exact Ms a g
    ·exact hRb.ones a g
   refine fC rfl ?_;have ca:aK bU _ (((S7.push (.ce z7 0)).set S7.n (.ce cb 0)).push (.ce (c++cb) 0)):=(aK.refl bU ((S7.push (.ce z7 0)).set S7.n (.ce cb 0))).push _;obtain⟨z,hz,mZ⟩:=F9.o1;exact zp (z:=z) hM hs vO ma (F9.x.trans ca.no) ((d9.ik m9 ca).ret _) (ca.ob m9 hz λq=>q) mZ ⟨_,rfl,hnew⟩ (λb hb=>⟨by omega,hb.2.1⟩) px
 ·simp only[al,aM,Bool.not_false,aG];rw[wS hi]at hP2;exact(F4.keep m4 hbp c5).Fb m5 hM hs (d5.ret e) hP2 px
theorem aqx{m:Nat}(O:gA C m):∀k,2*k+4≤m+1→mc C (λd H K=>(s10 (m+1)).2.2.2.2.2.2.2.1 (.ptr C.bp 0) (d:Int) H K) (fk C.T k):=by
 intro k hk K H S i d γ x hd hM hs hP;cases k with
 |zero=>exact absurd (show fk C.T 0 i d=.bb by simp only[fk]) hP.1
 |succ k=>
 have ra:(mR (s10 m)).1=f37:=rfl;have rb:(mR (s10 m)).2.1=f39:=rfl;have rc:(mR (s10 m)).2.2.1=f40:=rfl;have rd:(mR (s10 m)).2.2.2.1=(s10 m).2.2.2.2.2.2.2.1:=rfl;have re:(mR (s10 m)).2.2.2.2=(s10 m).2.2.2.2.2.2.2.2.1:=rfl;show Cw (mR (s10 m)) K (xW (mR (s10 m)) K) (.ptr C.bp 0) (d:Int) H;unfold Cw;rw[rb,rc,re,jK];simp only[fk]at hP;have hbp:=hs.mW hM;have fq:∀b,S.n≤b→¬bE C b:=λb hb q=>by have q:b=C.bp:=q;omega
 have e0:Int.ofNat 0=((0:Nat):Int):=rfl;refine e8 (dt hM fy λH1 m1=>?_);have c1:aK bU S (S.push (.ce z7 0)):=(aK.refl _ _).push _;have d1:=hs.ik hM c1;have o1:(S.push (.ce z7 0)).ob S.n=.ce z7 0:=LS.aq _ _;refine kU m1 d1 ?_;rw[al,aO];have qY:(ak.ok x i).ix=i:=rfl;rw[qY];have signed:∀{H3:AH}{S3:LS}(kd:Nat),tP C.T i=kd→kd≠0→Mem H3 S3→aK (bE C) S S3→aZ C S3 (.ok () (i+1):ak Unit)→S3.ob S.n=.ce z7 0→xW (mR (s10 m)) K (.ptr C.bp 0) (d:Int) (.ptr S.n 0) (ay C.T i:Int) (kd:Int) H3:=by
  intro H3 S3 kd hkd hk0 m3 c3 d3 o3;rw[hkd,if_neg hk0]at hP;unfold xW;rw[ra,rd,dS,fz];refine w0 (by omega) (by omega) ?_;have sp:(if 100<d+1 then .err 8 (i+1) else (fk C.T k (i+1) (d+1)).bind λe j=>.ok (au.mk kd (ay C.T i) 0 [] 0 [e] []) j)=((ak.ok () (i+1)).bind λ_ i=>dy (100<d+1) i).bind λ_ j=>(fk C.T k j (d+1)).bind λe j=>.ok (au.mk kd (ay C.T i) 0 [] 0 [e] []) j:=by
   show _=(dy (100<d+1) (i+1)).bind _;unfold dy;split<;>rfl
  rw[sp]at hP;refine zl m3 d3 (aU.call (eT:=mY) hP λ_ H4 S4 w m4 c4 d4 _ hP3=>?_);have o4:=c4.ob m3 o3 (fq _ (Nat.le_refl _));have n4:S.n<S4.n:=m4.lt (by rw[o4];simp);have c34:=c3.trans c4;refine im m4 d4 ?_;rw[bu,e0];have d4:aZ C S4 (dy (100<d+1) (i+1)):=d4;have hP3:aU C (bE C) dV K S ((dy (100<d+1) (i+1)).bind λ_ j=>(fk C.T k j (d+1)).bind λe j=>.ok (au.mk kd (ay C.T i) 0 [] 0 [e] []) j):=hP3;have ecd:((ak.ok () (i+1)).bind λ_ i=>dy (100<d+1) i)=dy (100<d+1) (i+1):=rfl;rw[ecd];by_cases g:100<d+1
  ·have ec:dy (100<d+1) (i+1)=.err 8 (i+1):=by unfold dy;rw[if_pos g]
   rw[ec]at d4 hP3 ⊢;rw[decide_eq_false (by show ¬((8:Nat):Int)=((0:Nat):Int);omega)];simp only[Bool.not_false,aG];exact zp (z:=z7) (e:=.mk 0 0 0 [] 0 [] []) (Q:=λ_=>False) hM hs hP3 m4 c34 (qK d4 rfl) o4 rfl ⟨z7,rfl,RE.zero⟩ (λb hb=>hb.elim) vN
  ·have ec:dy (100<d+1) (i+1)=.ok () (i+1):=by unfold dy;rw[if_neg g]
   rw[ec]at d4 hP3 ⊢;rw[decide_eq_true (by show((0:Nat):Int)=((0:Nat):Int);rfl)];simp only[Bool.not_true,aH];have hP3:aU C (bE C) dV K S ((fk C.T k (i+1) (d+1)).bind λe j=>.ok (.mk kd (ay C.T i) 0 [] 0 [e] []) j):=hP3;refine w0 (by omega) (by omega) ?_;refine O.unary k (by omega) (show d+1≤200 by omega) m4 d4 (aU.call (eT:=dV) hP3 λe H5 S5 v m5 c5 d5 ⟨c,hv,hR⟩ vO=>?_);subst hv;have o5:=c5.ob m4 o4 (fq _ (Nat.le_refl _));rw[iN];refine gx hR.len ?_;rw[FI hR.len rfl];refine dJ m5 (by rw[hR.len]) hR.ones λH6 m6=>?_;refine fC rfl ?_;have c6:aK bU S5 (S5.push (.ce c 0)):=(aK.refl _ _).push _;have n5:S4.n≤S5.n:=c5.1;have hRp:RE (S5.push (.ce c 0)) (jd (S.n+1) (S5.push (.ce c 0)).n) [.int 0 (kd:Int),.int 0 (ay C.T i:Int),.int 0 ((0:Nat):Int),ai [],.int 0 ((0:Nat):Int),.slice S5.n 0 1 1 7 true,.ab] (.mk kd (ay C.T i) 0 [] 0 [e] []):=
    RE.one (b:=S5.n) (m:=0) ⟨by omega,Nat.lt_succ_self _⟩ (LS.aq _ _) (hR.go (λb hb=>LS.bR _ _ hb.2) λb hb=>⟨by have:=hb.1;omega,Nat.lt_succ_of_lt hb.2⟩)
   exact zp (z:=z7) hM hs vO m6 ((c34.trans c5).trans c6.no) ((d5.ik m5 c6).ret _) (c6.ob m5 o5 λq=>q) rfl ⟨_,rfl,hRp⟩ (λb hb=>⟨by have:=hb.1;omega,hb.2⟩) px
 refine dx (s:=[110,111,116]) (aX (by decide)) m1 d1 (λy j er hi H2 S2 m2 c2 d2=>?_) λh1 H2 S2 m2 c2 d2=>?_
 ·cases er;simp only[al,aM,aG];exact signed 11 (by unfold tP;rw[hi];rfl) (by omega) m2 (c1.no.trans c2) d2 (c2.ob m1 o1 (fq _ (Nat.le_refl _)))
 have h1:isA C.T [110,111,116] i=false:=h1;simp only[al,aM,aH];have o2:=c2.ob m1 o1 (fq _ (Nat.le_refl _));have c12:=c1.no.trans c2;refine dx (s:=[45]) (aX (by decide)) m2 d2 (λy j er hi H3 S3 m3 c3 d3=>?_) λh2 H3 S3 m3 c3 d3=>?_
 ·cases er;simp only[al,aM,aG];exact signed 12 (by unfold tP;rw[h1,hi];rfl) (by omega) m3 (c12.trans c3) d3 (c3.ob m2 o2 (fq _ (Nat.le_refl _)))
 have h2:isA C.T [45] i=false:=h2;simp only[al,aM,aH];have o3:=c3.ob m2 o2 (fq _ (Nat.le_refl _));have c13:=c12.trans c3;refine dx (s:=[35]) (aX (by decide)) m3 d3 (λy j er hi H4 S4 m4 c4 d4=>?_) λh3 H4 S4 m4 c4 d4=>?_
 ·cases er;simp only[al,aM,aG];exact signed 13 (by unfold tP;rw[h1,h2,hi];rfl) (by omega) m4 (c13.trans c4) d4 (c4.ob m3 o3 (fq _ (Nat.le_refl _)))
 have h3:isA C.T [35] i=false:=h3;simp only[al,aM,aH];have o4:=c4.ob m3 o3 (fq _ (Nat.le_refl _));have c14:=c13.trans c4;have hu:tP C.T i=0:=by unfold tP;rw[h1,h2,h3];rfl
 rw[if_pos hu]at hP;have n4:S.n<S4.n:=m4.lt (by rw[o4];simp);refine O.post k (by omega) hd m4 d4 (aU.tail (eT:=dV) hP λe H5 S5 v m5 c5 d5 hv hfin=>?_);obtain⟨c,hv,hR⟩:=hv;subst hv;refine kg m5 (c5.ob m4 o4 (fq _ (Nat.le_refl _))) rfl hR.len hR.ones λH6 m6=>?_;refine gO m6 (LS.av _ _ _) hR.len ?_;exact hfin H6 _ _ m6 ((c14.trans c5).set (.inr (Nat.le_refl _)) _) (d5.pZ hs hM (Nat.le_refl _) _) ⟨c,rfl,hR.go (λb hb=>LS.an _ _ (by have:=hb.1;omega)) λb hb=>⟨by have:=hb.1;omega,hb.2⟩⟩
end
end Go.Proofs.YtcedghechlgecaaDoor
namespace Go.X
section
variable {H:AH}{S S':LS}
theorem aW.push{α:Type}{R:Rep α}{Z:Nat→Prop}{bytes:Nat}{v:AV}{l:List α}{a:α}{c:List AV}{Q:Nat→Prop}{k:AV→AH→Prop}(h:aW R Z S v l)(hM:Mem H S)(hr:R.rel S Q c a)(hQ:∀b,Q b→Z b∧b<S.n∧¬aj v b)(hnew:∀b,S.n≤b→Z b)(hl:(l.length+1)*bytes≤1099511627776)
  (hk:∀H' S' v',Mem H' S'→aW R Z S' v' (l++[a])→S.n≤S'.n→(∀b,b<S.n→¬aj v b→S'.ob b=S.ob b)→(∀b,aj v' b→aj v b∨S.n≤b)→v'.one=true→k v' H'):aR (aB H) 1 R.sz c λx H'=>cQ R.sz bytes v x H' k:=by
 obtain⟨cl,h1,h2⟩:=id h;refine Ba hM h1 R.pos (R.len hr) hl (R.ones hr) λH' S' v' m' he=>?_;have g:=h.step hr hQ hnew λcl' h'=>by rw[h1.uniq h'];exact he
 exact hk H' S' v' m' g he.1 he.2.1 he.2.2.2 (g.toR (lo:=0) λb _=>Nat.zero_le _).one
theorem aW.done{α:Type}{R:Rep α}{Z:Nat→Prop}{v:AV}{l:List α}(h:aW R Z S v l)(hM:Mem H S):∃cl,dZ S (λb=>Z b∧b<S.n) R.sz v l.length cl∧∀i a,l[i]? = some a→R.rel S (λb=>Z b∧b<S.n) (cl i) a:=by
 obtain⟨cl,h1,h2,h3,h4⟩:=h;have hsz:∀c∈cl,c.length=R.sz:=λc hc=>by
  obtain⟨i,hi,e⟩:=List.mem_iff_getElem.1 hc;obtain⟨_,g,_⟩:=h4 i c (l[i]'(by omega)) (by rw[List.getElem?_eq_getElem hi,e]) (List.getElem?_eq_getElem _);exact R.len g
 refine⟨λi=>cl[i]?.getD [],?_,λi a ha=>?_⟩
 ·rcases h1 with⟨rfl,e,_⟩|⟨b,c,ex,cs,rfl,g2,g3,g4,g5,g6,g7⟩
  ·exact .inl ⟨rfl,e⟩
  ·refine .inr ⟨b,0,c,ex,cs,0,rfl,⟨h3 b rfl,hM.lt (by rw[g2];simp)⟩,g2,g4,by rw[g3,Nat.zero_add];exact Nat.mul_le_mul_right _ g4,λi hi=>?_⟩;have hic:i<cl.length:=by omega
   have e1:=GF hsz (List.getElem?_eq_getElem hic);show(cs.drop (0+i*R.sz)).take R.sz=cl[i]?.getD [];rw[List.getElem?_eq_getElem hic,Option.getD_some,←e1,Nat.zero_add];have hle:(i+1)*R.sz≤l.length*R.sz:=Nat.mul_le_mul_right _ (by omega);rw[Nat.add_mul,Nat.one_mul]at hle
   conv=>rhs;rw[←g6]
   rw[List.drop_take,List.take_take,Nat.min_eq_left (by omega)]
 ·have hil:=(List.getElem?_eq_some_iff.1 ha).1;have hic:i<cl.length:=by omega
  obtain⟨Q,g1,g2⟩:=h4 i _ a (List.getElem?_eq_getElem hic) ha;show R.rel S _ (cl[i]?.getD []) a;rw[List.getElem?_eq_getElem hic,Option.getD_some];exact R.go (λ_ _=>rfl) (λb hb=>⟨(g2 b hb).1,(g2 b hb).2.1⟩) g1
theorem aW.one{α:Type}{R:Rep α}{Z:Nat→Prop}{v:AV}{l:List α}(h:aW R Z S v l):v.one=true:=(h.toR (lo:=0) λb _=>Nat.zero_le _).one
theorem aW.same{α:Type}{R:Rep α}{Z:Nat→Prop}{v:AV}{l:List α}(h:aW R Z S v l):bj v v=true:=(h.toR (lo:=0) λb _=>Nat.zero_le _).same
theorem aW.FK{α:Type}{R:Rep α}{Z:Nat→Prop}{v:AV}{l:List α}{k:AV→Prop}(h:aW R Z S v l)(hk:k (.int 0 l.length)):bN v k:=(h.toR (lo:=0) λb _=>Nat.zero_le _).FK hk
theorem aW.single{α:Type}{R:Rep α}{Z Q:Nat→Prop}{b:Nat}{c:List AV}{a:α}(hb:S.ob b=.ce c 0)(hz:Z b)(hr:R.rel S Q c a)(hQ:∀x,Q x→Z x∧x<S.n∧x≠b):aW R Z S (.slice b 0 1 1 R.sz true) [a]:=by
 have hl:=R.len hr;refine⟨[c],.inr ⟨b,1,true,c,rfl,hb,by omega,Nat.le_refl _,by simp[hl],by simp,R.ones hr⟩,rfl,λx hx=>?_,λi c' a' hc ha=>?_⟩
 ·have hx:x=b:=hx;rw[hx];exact hz
 ·cases i with
  |zero=>
   have e1:c=c':=by simpa using hc
   have e2:a=a':=by simpa using ha
   subst e1;subst e2;exact⟨Q,hr,λx hx=>⟨(hQ x hx).1,(hQ x hx).2.1,λq=>(hQ x hx).2.2 (by have q:x=b:=q;exact q)⟩⟩
  |succ i=>simp at hc
end
end Go.X
namespace Go.Proofs.YtcedghechlgecaaDoor
open Go Go.X Go.Proofs.YtcedghechlgecaaDoor.G
section
variable {H:AH}{S:LS}{K:KF}{C:Ctx}{i d:Nat}
theorem lE.anv{S0:LS}{b1 b3:Nat}{c:List AV}{e:au}{r:ak au}(h:lE C S0 S b1 b3 c e)(hM:Mem H S)(hbp:C.bp<S0.n)(dd:∀b,aj C.vT b→b<S0.n)(hd:aZ C S r)(hP:aU C (bE C) dV K S0 r)(ha:Ag r e) :
  aN 7 (.ptr b3 0) H λv1=>ah 7 (.ptr b1 0) v1 H λH2=>aN 7 (.ptr b1 0) H2 λv3=>K (.ret v3) H2:=by
 obtain⟨z,hz,mZ⟩:=h.o1;obtain⟨Q,h1,h2⟩:=h.re;have hn:=h.n1;refine anj hM h.o3 h1.len h1.ones hz mZ λH' m=>?_;exact hP.2 H' _ _ e m (h.x.set (.inr h.n1) _) (hd.setB (by omega) (λx hx=>by have:=dd x hx;omega) _) ⟨c,rfl,h1.go (λb hb=>LS.an _ _ (h2 b hb).2.2.1) λb hb=>⟨(h2 b hb).1,(h2 b hb).2.1⟩⟩ ha
structure pH(C:Ctx)(S0 S:LS)(b1 b3:Nat):Prop where
 x:aK (bE C) S0 S
 o1:∃z,S.ob b1=.ce z 0∧z.length=7
 o3:∃z,S.ob b3=.ce z 0∧z.length=7
 n1:S0.n≤b1
 n3:S0.n≤b3
 ne:b1≠b3
theorem lE.w{S0:LS}{b1 b3:Nat}{c:List AV}{e:au}(h:lE C S0 S b1 b3 c e):pH C S0 S b1 b3:=⟨h.x,h.o1,⟨c,h.o3,h.len⟩,h.n1,h.n3,h.ne⟩
theorem pH.lt{S0:LS}{b1 b3:Nat}(h:pH C S0 S b1 b3)(hM:Mem H S):b1<S.n∧b3<S.n:=⟨by obtain⟨z,hz,_⟩:=h.o1;exact hM.lt (by rw[hz];simp),by obtain⟨z,hz,_⟩:=h.o3;exact hM.lt (by rw[hz];simp)⟩
theorem pH.EC{S0 S':LS}{b1 b3:Nat}{Y:Nat→Prop}(h:pH C S0 S b1 b3)(hM:Mem H S)(g:aK Y S S')(h1:∀b,Y b→b≠b1∧b≠b3∧(b=C.bp∨S0.n≤b)):pH C S0 S' b1 b3:=by
 obtain⟨z,hz,mZ⟩:=h.o1;obtain⟨y,hy,hy7⟩:=h.o3;exact⟨h.x.rB g λb hb=>(h1 b hb).2.2.elim (λq=>.inl q) .inr,⟨z,g.ob hM hz λq=>(h1 _ q).1 rfl,mZ⟩,⟨y,g.ob hM hy λq=>(h1 _ q).2.1 rfl,hy7⟩,h.n1,h.n3,h.ne⟩
theorem pH.keep{S0 S':LS}{b1 b3:Nat}(h:pH C S0 S b1 b3)(hM:Mem H S)(hbp:C.bp<S0.n)(g:aK (bE C) S S'):pH C S0 S' b1 b3:=
 h.EC hM g λb hb=>by
  have hb:b=C.bp:=hb;have:=h.n1;have:=h.n3;exact⟨by omega,by omega,.inl hb⟩
theorem pH.Mo{S0:LS}{b1 b3:Nat}{c':List AV}{e':au}(h:pH C S0 S b1 b3){Q:Nat→Prop}(hr:RE S Q c' e')(hQ:∀b,Q b→S0.n≤b∧b<S.n∧b≠b1∧b≠b3):lE C S0 (S.set b3 (.ce c' 0)) b1 b3 c' e':=by
 obtain⟨z,hz,mZ⟩:=h.o1;exact⟨h.x.set (.inr h.n3) _,⟨z,(LS.an _ _ h.ne).trans hz,mZ⟩,LS.av _ _ _,h.n1,h.n3,h.ne,Q,hr.go (λb hb=>LS.an _ _ (hQ b hb).2.2.2) (λ_ h=>h),hQ⟩
def zB(S0:LS)(b1 b3:Nat):Nat→Prop:=λb=>S0.n≤b∧b≠b1∧b≠b3
def wU(T:List Tok)(k:Nat)(out:List au)(i d:Nat):ak (List au):=if out.length=16 then .err 8 i else (bP T k i d).bind λe j=>dH T k false (out++[e]) j d
section
variable {m k:Nat}{X:AV→Int→AV→AV→AH→Prop}{S0:LS}{b1 b3:Nat}
def Oz(C:Ctx)(S0:LS)(K:KF)(b1 b3 k d:Nat)(X:AV→Int→AV→AV→AH→Prop):Prop:=∀(e:au) (c:List AV) (H:AH) (S:LS){γ:Type}(r:ak γ),Mem H S→aZ C S r→lE C S0 S b1 b3 c e→aU C (bE C) dV K S0 (r.bind λ_ i=>cF C.T k e i d)→X (.ptr C.bp 0) (d:Int) (.ptr b3 0) (.ptr b1 0) H
theorem acq{pos:Nat}(hbp:C.bp<S0.n)(dd:∀b,aj C.vT b→b<S0.n)(hX:Oz C S0 K b1 b3 k d X){e:au}{out:List au}{v:AV}{γ:Type}{r:ak γ}(hM:Mem H S)(hs:aZ C S r)(F:pH C S0 S b1 b3)(L:aW km (zB S0 b1 b3) S v (e::out))(hP:aU C (bE C) dV K S0 (r.bind λ_ j=>cF C.T k (.mk 10 pos 0 [] 0 (e::out) []) j d)) :
  Cm (dv (s10 m)) K X (.ptr C.bp 0) (d:Int) (.ptr b3 0) (.ptr b1 0) (pos:Int) v H:=by
 unfold Cm;refine fC L.one ?_;obtain⟨cl,h1,h2⟩:=L.done hM;have hnew:RE S (λb=>zB S0 b1 b3 b∧b<S.n) [.int 0 ((10:Nat):Int),.int 0 (pos:Int),.int 0 ((0:Nat):Int),ai [],.int 0 ((0:Nat):Int),v,.ab] (.mk 10 pos 0 [] 0 (e::out) []):=
  .mk 10 pos 0 [] 0 (e::out) [] v .ab cl (λ_=>[]) B8.nil h1 h2 (dZ.nil _ _ _ _) (λi e h=>by simp at h)
 obtain⟨z,hz,mZ⟩:=F.o3;refine kg hM hz mZ hnew.len hnew.ones λH1 m1=>?_;have hn3:=F.n3;exact hX _ _ H1 _ r m1 (hs.setB (by omega) (λx hx=>by have:=dd x hx;omega) _) (F.Mo hnew λb hb=>⟨hb.1.1,hb.2,hb.1.2⟩) hP
theorem _root_.Go.X.aW.bp{α:Type}{R:Rep α}{v:AV}{l:List α}{S':LS}(L:aW R (zB S0 b1 b3) S v l)(hM:Mem H S)(hbp:C.bp<S0.n)(g:aK (bE C) S S'):aW R (zB S0 b1 b3) S' v l:=
 L.keep hM g.1 λb h1 h2=>g.2 b h2 λq=>by have q:b=C.bp:=q;have:=h1.1;omega
theorem acr{pos:Nat}(hbp:C.bp<S0.n)(dd:∀b,aj C.vT b→b<S0.n)(hX:Oz C S0 K b1 b3 k d X){e:au}{out:List au}{v:AV}{γ:Type}{r:ak γ}(hM:Mem H S)(hs:aZ C S r)(F:pH C S0 S b1 b3)(L:aW km (zB S0 b1 b3) S v (e::out))(hP:aU C (bE C) dV K S0 (r.bind λ_ i=>(aS C.T [41] i).bind λ_ j=>cF C.T k (.mk 10 pos 0 [] 0 (e::out) []) j d)) :
  uY (dv (s10 m)) K X (.ptr C.bp 0) (d:Int) (.ptr b3 0) (.ptr b1 0) (pos:Int) v H:=by
 have r5:(dv (s10 m)).2.2.2.2.1=f59:=rfl;show Cn (dv (s10 m)) K (xT (dv (s10 m)) K X) (.ptr C.bp 0) (d:Int) (.ptr b3 0) (.ptr b1 0) (pos:Int) v H;unfold Cn;rw[r5];refine ks (s:=[41]) (aX (by decide)) hM hs (aU.call (eT:=mY) hP.seq λ_ H1 S1 w m1 c1 d1 _ hP1=>?_);exact acq hbp dd hX m1 d1 (F.keep hM hbp c1) (L.bp hM hbp c1) hP1
theorem acs{pos:Nat}(O:gA C m)(hd:d≤200)(hbp:C.bp<S0.n)(dd:∀b,aj C.vT b→b<S0.n)(hX:Oz C S0 K b1 b3 k d X){e:au}{Y:AV→Int→AV→AV→Int→AV→AH→Prop}{k8:Nat}(hk:2*k8+4≤m)
  (hrec:∀k',k8=k'+1→∀(out:List au) (v:AV) (H:AH) (S:LS){γ:Type}(r:ak γ),out.length≤16→Mem H S→aZ C S r→pH C S0 S b1 b3→aW km (zB S0 b1 b3) S v (e::out)→aU C (bE C) dV K S0 ((r.bind λ_ i=>wU C.T k' out i d).bind λl j=>cF C.T k (.mk 10 pos 0 [] 0 (e::l) []) j d)→Y (.ptr C.bp 0) (d:Int) (.ptr b3 0) (.ptr b1 0) (pos:Int) v H)
  (out:List au) (v:AV) (H:AH) (S:LS){γ:Type}(r:ak γ) (ho:out.length≤16) (hM:Mem H S) (hs:aZ C S r) (F:pH C S0 S b1 b3) (L:aW km (zB S0 b1 b3) S v (e::out))
  (hP:aU C (bE C) dV K S0 ((r.bind λ_ i=>wU C.T k8 out i d).bind λl j=>cF C.T k (.mk 10 pos 0 [] 0 (e::l) []) j d)) :
  JQ (dv (s10 m)) K X Y (.ptr C.bp 0) (d:Int) (.ptr b3 0) (.ptr b1 0) (pos:Int) v H:=by
 have r2:(dv (s10 m)).2.1=f40:=rfl;have r3:(dv (s10 m)).2.2.1=(s10 m).2.1:=rfl;have r6:(dv (s10 m)).2.2.2.2.2=f76:=rfl;have e0:Int.ofNat 0=((0:Nat):Int):=rfl;have e16:Int.ofNat 16=((16:Nat):Int):=rfl;show Cq (dv (s10 m)) K (uY (dv (s10 m)) K X) (Cp (dv (s10 m)) K X Y) (.ptr C.bp 0) (d:Int) (.ptr b3 0) (.ptr b1 0) (pos:Int) v H;unfold Cq;rw[r3,r6];refine im hM hs ?_;rw[bu,e0];rcases yv hs with⟨ec,a,i,rfl⟩|⟨ec,c1,i,rfl⟩
 ·rw[ec,decide_eq_true rfl,aG];refine L.FK ?_;rw[aO,pU,fz,e16];have el:(((e::out).length:Nat):Int)-((1:Nat):Int)=(out.length:Int):=by rw[List.length_cons];omega
  have sp:((ak.ok a i).bind λ_ i=>wU C.T k8 out i d).bind (λl j=>cF C.T k (.mk 10 pos 0 [] 0 (e::l) []) j d)=(((ak.ok a i).bind λ_ i=>dy (16≤out.length) i).bind λ_ i=>(bP C.T k8 i d).bind λx j=>(dH C.T k8 false (out++[x]) j d).bind λl j=>cF C.T k (.mk 10 pos 0 [] 0 (e::l) []) j d):=by
   show(wU C.T k8 out i d).bind _=(dy (16≤out.length) i).bind _;unfold wU dy;by_cases g:out.length=16
   ·rw[if_pos g,if_pos (by omega)];rfl
   ·rw[if_neg g,if_neg (by omega),bJ];rfl
  rw[sp]at hP;refine w0 (by omega) (by omega) ?_;have el':(((e::out).length:Nat):Int)-1=(out.length:Int):=by rw[List.length_cons];omega
  rw[show(((e::out).length:Nat):Int)-1=(out.length:Int)from el'];refine FL hM hs (aU.call (eT:=mY) hP λ_ H1 S1 w m1 c1 d1 _ hP1=>?_);have F1:=F.keep hM hbp c1;have L1:=L.bp hM hbp c1;refine O.exp k8 hk hd m1 d1 (aU.call (eT:=dV) hP1.seq λx H2 S2 v2 m2 c2 d2 ⟨cb,hv,hR⟩ hP2=>?_);subst hv;have F2:=F1.keep m1 hbp c2;have L2:=L1.bp m1 hbp c2;have GG:=F1.lt m1;have n1:=F1.x.1;rw[iN];refine gx hR.len ?_;rw[FI hR.len rfl];refine L2.push (R:=km) (bytes:=96) m2 hR (λb hb=>⟨⟨by have:=hb.1;omega,by have:=hb.1;omega,by have:=hb.1;omega⟩,hb.2,λq=>by have:=L1.lt m1 q;have:=hb.1;omega⟩) (λb hb=>⟨by have:=c2.1;omega,by have:=c2.1;omega,by have:=c2.1;omega⟩) (by rw[List.length_cons];omega) λH3 S3 v3 m3 L3 n3 k3 bk3 ho3=>?_;have hvn:∀b,aj v b→zB S0 b1 b3 b:=λb hb=>L.Ex hb;have c3:aK (λb=>aj v b) S2 S3:=⟨n3,λb hb hx=>k3 b hb hx⟩
  have d3:=d2.keep m2 c3 (λq=>by have:=(hvn _ q).1;omega) (λb hb q=>by have:=(hvn _ q).1;have:=dd b hb;omega);have F3:pH C S0 S3 b1 b3:=F2.EC m2 c3 λb hb=>⟨(hvn b hb).2.1,(hvn b hb).2.2,.inr (hvn b hb).1⟩
  show Cp (dv (s10 m)) K X Y (.ptr C.bp 0) (d:Int) (.ptr b3 0) (.ptr b1 0) (pos:Int) v3 H3;show Co (dv (s10 m)) K Y (uY (dv (s10 m)) K X) (.ptr C.bp 0) (d:Int) (.ptr b3 0) (.ptr b1 0) (pos:Int) v3 H3;unfold Co;rw[r2];refine dx (s:=[44]) (aX (by decide)) m3 d3 (λy j er hi H4 S4 m4 c4 d4=>?_) λhi H4 S4 m4 c4 d4=>?_
  ·simp only[al,aM,Bool.not_true,aH];rw[er]at hP2;have hP2:aU C (bE C) dV K S0 ((dH C.T k8 false (out++[x]) j d).bind λl j=>cF C.T k (.mk 10 pos 0 [] 0 (e::l) []) j d):=hP2;cases k8 with
   |zero=>exact absurd (show(dH C.T 0 false (out++[x]) j d).bind _=.bb by simp only[dH];rfl) hP2.1
   |succ k8=>
    have ol:out.length<16:=by
     rcases Nat.lt_or_ge out.length 16 with g|g
     ·exact g
     ·exfalso;have e1:((ak.ok a i).bind λ_ i=>dy (16≤out.length) i)=.err 8 i:=by show dy _ i=_;unfold dy;rw[if_pos g]
      rw[e1]at er;cases er
    have sp:dH C.T (k8+1) false (out++[x]) j d=wU C.T k8 (out++[x]) (j+1) d:=by
     simp only[dH,Bool.false_eq_true,if_false,hi,if_true];rfl
    rw[sp]at hP2;exact hrec k8 rfl (out++[x]) v3 H4 S4 (.ok () (j+1):ak Unit) (by simp;omega) m4 d4 (F3.keep m3 hbp c4) (by have:=L3.bp m3 hbp c4;exact this) hP2
  ·simp only[al,aM,Bool.not_false,aG];refine acr hbp dd hX m4 d4 (F3.keep m3 hbp c4) (out:=out++[x]) (by have:=L3.bp m3 hbp c4;exact this) ?_;have sp:∀r':ak au,oG C.T [44] r'=false→(r'.bind λ_ j=>(dH C.T k8 false (out++[x]) j d).bind λl j=>cF C.T k (.mk 10 pos 0 [] 0 (e::l) []) j d)≠.bb→(r'.bind λ_ j=>(dH C.T k8 false (out++[x]) j d).bind λl j=>cF C.T k (.mk 10 pos 0 [] 0 (e::l) []) j d)=r'.bind λ_ i=>(aS C.T [41] i).bind λ_ j=>cF C.T k (.mk 10 pos 0 [] 0 (e::(out++[x])) []) j d:=by
    intro r' hi2 hno;cases r' with
    |bb=>rfl
    |err c i=>rfl
    |ok y j=>
     have hi3:isA C.T [44] j=false:=hi2;cases k8 with
     |zero=>exact absurd (show(dH C.T 0 false (out++[x]) j d).bind _=.bb by simp only[dH];rfl) hno
     |succ k8=>
      have e1:dH C.T (k8+1) false (out++[x]) j d=(aS C.T [41] j).bind λ_ j=>.ok (out++[x]) j:=by
       simp only[dH,Bool.false_eq_true,if_false];rw[hi3];rfl
      show(dH C.T (k8+1) false (out++[x]) j d).bind _=(aS C.T [41] j).bind _;rw[e1,bJ];rfl
   rw[sp _ hi hP2.1]at hP2;exact hP2
 ·rw[decide_eq_false (by omega),aH];exact acr hbp dd hX hM hs F L hP
theorem anw{pos:Nat}(O:gA C m)(hd:d≤200)(hbp:C.bp<S0.n)(dd:∀b,aj C.vT b→b<S0.n)(hX:Oz C S0 K b1 b3 k d X){e:au} :
  ∀k8,2*k8+4≤m→∀(q:Nat) (out:List au) (v:AV) (H:AH) (S:LS){γ:Type}(r:ak γ),k8<q→out.length≤16→Mem H S→aZ C S r→pH C S0 S b1 b3→aW km (zB S0 b1 b3) S v (e::out)→
  aU C (bE C) dV K S0 ((r.bind λ_ i=>wU C.T k8 out i d).bind λl j=>cF C.T k (.mk 10 pos 0 [] 0 (e::l) []) j d)→
  xU (dv (s10 m)) K X q (.ptr C.bp 0) (d:Int) (.ptr b3 0) (.ptr b1 0) (pos:Int) v H:=by
 intro k8
 induction k8 with
 |zero=>
  intro hk q out v H S γ r hq ho hM hs F L hP;obtain⟨q,rfl⟩:∃p,q=p+1:=⟨q-1,by omega⟩
  exact acs O hd hbp dd hX hk (λk' h=>absurd h (by omega)) out v H S r ho hM hs F L hP
 |succ k8 ih=>
  intro hk q out v H S γ r hq ho hM hs F L hP;obtain⟨q,rfl⟩:∃p,q=p+1:=⟨q-1,by omega⟩
  exact acs O hd hbp dd hX hk (λk' h out v H S γ r ho hM hs F L hP=>by
   obtain rfl:k8=k':=by omega
   exact ih (by omega) q out v H S r (by omega) ho hM hs F L hP) out v H S r ho hM hs F L hP
theorem acu(hm:m≤1000000)(O:gA C m)(hd:d≤200)(hbp:C.bp<S0.n)(dd:∀b,aj C.vT b→b<S0.n)(hk:2*k+4≤m+1)
  (hrec:∀k',k=k'+1→Oz C S0 K b1 b3 k' d X) (e:au) (c:List AV) (H:AH) (S:LS){γ:Type}(r:ak γ) (hM:Mem H S) (hs:aZ C S r) (F:lE C S0 S b1 b3 c e) (hP:aU C (bE C) dV K S0 (r.bind λ_ i=>cF C.T k e i d)) :
  JU (dv (s10 m)) K X (.ptr C.bp 0) (d:Int) (.ptr b3 0) (.ptr b1 0) H:=by
 have r1:(dv (s10 m)).1=f39:=rfl;have r2:(dv (s10 m)).2.1=f40:=rfl;have r3:(dv (s10 m)).2.2.1=(s10 m).2.1:=rfl;have r4:(dv (s10 m)).2.2.2.1=f57:=rfl;have r5:(dv (s10 m)).2.2.2.2.1=f59:=rfl;have e0:Int.ofNat 0=((0:Nat):Int):=rfl;have nb:∀b,S0.n≤b→b≠C.bp:=λb hb=>by omega
 have nvT:∀b,S0.n≤b→∀x,aj C.vT x→x≠b:=λb hb x hx=>by have:=dd x hx;omega
 show Cs (dv (s10 m)) K (JO (dv (s10 m)) K X) (JP (dv (s10 m)) K X) (JR (dv (s10 m)) K X) (JS (dv (s10 m)) K) (.ptr C.bp 0) (d:Int) (.ptr b3 0) (.ptr b1 0) H;unfold Cs;rw[r1,r2,r3];refine im hM hs ?_;rw[bu,e0];rcases yv hs with⟨ec,a,i,rfl⟩|⟨ec,c1,i,rfl⟩
 ·rw[ec,decide_eq_true rfl,aG];cases k with
  |zero=>exact absurd (show cF C.T 0 e i d=.bb by simp only[cF]) hP.1
  |succ k=>
  have hX:=hrec k rfl;have hP:aU C (bE C) dV K S0 (cF C.T (k+1) e i d):=hP;simp only[cF]at hP;refine kU hM hs ?_;rw[al,aO];have qY:(ak.ok a i).ix=i:=rfl;rw[qY];refine dx (s:=[46]) (aX (by decide)) hM hs (λy j er hi H1 S1 m1 c1 d1=>?_) λh1 H1 S1 m1 c1 d1=>?_
  ·cases er;rw[if_pos hi]at hP;simp only[al,aM,aG];have F1:=F.keep hM hbp c1;refine kU m1 d1 ?_;rw[al,aO];have ape:(ak.ok () (i+1)).ix=i+1:=rfl;rw[ape];simp only[jK];refine e8 (dt m1 fy λH2 m2=>?_);refine kg m2 (c:=[.int 0 ((5:Nat):Int),.int 0 (ay C.T (i+1):Int),.int 0 ((0:Nat):Int),ai [],.int 0 ((0:Nat):Int),.ab,.ab]) (LS.aq _ _) rfl rfl (λa h=>?_) λH3 m3=>?_
   ·simp only[List.mem_cons,List.not_mem_nil,or_false]at h;rcases h with rfl|rfl|rfl|rfl|rfl|rfl|rfl<;>rfl
   have c3:aK bU S1 ((S1.push (.ce z7 0)).set S1.n (.ce [.int 0 ((5:Nat):Int),.int 0 (ay C.T (i+1):Int),.int 0 ((0:Nat):Int),ai [],.int 0 ((0:Nat):Int),.ab,.ab] 0)):=((aK.refl _ _).push _).set (.inr (Nat.le_refl _)) _;have d3:=d1.ik m1 c3;have F3:=F1.keep m1 hbp c3.no;have o3:LS.ob _ S1.n=_:=LS.av (S1.push (.ce z7 0)) S1.n (.ce [.int 0 ((5:Nat):Int),.int 0 (ay C.T (i+1):Int),.int 0 ((0:Nat):Int),ai [],.int 0 ((0:Nat):Int),.ab,.ab] 0);have n3:S0.n≤S1.n:=F1.x.1;have GG:b1<S1.n∧b3<S1.n:=F1.w.lt m1;show Ck (dv (s10 m)) K X (.ptr C.bp 0) (d:Int) (.ptr b3 0) (.ptr b1 0) (ay C.T i:Int) (.ptr S1.n 0) H3;unfold Ck;rw[r4];refine rL m3 d3 (aU.call (eT:=Mk) hP λs H4 S4 v m4 c4 d4 ⟨hv,h8⟩ hP2=>?_);subst hv;have F4:=F3.keep m3 hbp c4;have o4:=c4.ob m3 o3 λq=>by have q:S1.n=C.bp:=q;omega
   rw[aQ,Nat.zero_add];refine bH m4 o4 (by omega) (by show 3<7;omega) (kP s) λH5 m5=>?_;have m5:Mem H5 (S4.set S1.n (.ce [.int 0 ((5:Nat):Int),.int 0 (ay C.T (i+1):Int),.int 0 ((0:Nat):Int),ai s,.int 0 ((0:Nat):Int),.ab,.ab] 0)):=m5;have F5:lE C S0 (S4.set S1.n (.ce [.int 0 ((5:Nat):Int),.int 0 (ay C.T (i+1):Int),.int 0 ((0:Nat):Int),ai s,.int 0 ((0:Nat):Int),.ab,.ab] 0)) b1 b3 c e:=by
    obtain⟨z,hz,mZ⟩:=F4.o1;obtain⟨Q,g1,g2⟩:=F1.re;exact⟨F4.x.set (.inr n3) _,⟨z,(LS.an _ _ (by omega)).trans hz,mZ⟩,(LS.an _ _ (by omega)).trans F4.o3,F4.n1,F4.n3,F4.ne,Q,g1.go (λb hb=>by
     have h2:=g2 b hb;rw[LS.an _ _ (by omega),c4.2 b (Nat.lt_of_lt_of_le h2.2.1 c3.1) (λq=>by have q:b=C.bp:=q;omega)];exact c3.2 b h2.2.1 λq=>q) (λ_ h=>h),λb hb=>⟨(g2 b hb).1,Nat.lt_of_lt_of_le (g2 b hb).2.1 (Nat.le_trans c3.1 c4.1),(g2 b hb).2.2⟩⟩
   have d5:=d4.setB (nb _ n3) (nvT _ n3) (.ce [.int 0 ((5:Nat):Int),.int 0 (ay C.T (i+1):Int),.int 0 ((0:Nat):Int),ai s,.int 0 ((0:Nat):Int),.ab,.ab] 0);have hR:RE (S4.set S1.n (.ce [.int 0 ((5:Nat):Int),.int 0 (ay C.T (i+1):Int),.int 0 ((0:Nat):Int),ai s,.int 0 ((0:Nat):Int),.ab,.ab] 0)) (λb=>S0.n≤b∧b<S4.n∧b≠b1∧b≠b3) [.int 0 ((5:Nat):Int),.int 0 (ay C.T (i+1):Int),.int 0 ((0:Nat):Int),ai s,.int 0 ((0:Nat):Int),.ab,.ab] (.mk 5 (ay C.T (i+1)) 0 s 0 [] []):=RE.simple h8;refine gO m5 F5.o3 F5.len ?_;refine gO m5 (LS.av _ _ _) rfl ?_;simp only[iN];refine gx F5.len (gx rfl ?_);rw[zh F5.len rfl rfl];have Ms:∀a∈c,a.one=true:=by obtain⟨Q,h1,_⟩:=F5.re;exact h1.ones
   refine dJ m5 (by rw[List.length_append,F5.len];rfl) (λa h=>?_) λH6 m6=>fC rfl ?_
   ·rcases List.mem_append.1 h with g|g
    ·exact Ms a g
    ·exact hR.ones a g
   have hnew:=Hz (at_:=ay C.T i) (kind:=9) (op:=0) F5 m5 hbp hR;have c6:=(aK.refl bU (S4.set S1.n (.ce [.int 0 ((5:Nat):Int),.int 0 (ay C.T (i+1):Int),.int 0 ((0:Nat):Int),ai s,.int 0 ((0:Nat):Int),.ab,.ab] 0))).push (.ce (c++[.int 0 ((5:Nat):Int),.int 0 (ay C.T (i+1):Int),.int 0 ((0:Nat):Int),ai s,.int 0 ((0:Nat):Int),.ab,.ab]) 0);have F6:=F5.keep m5 hbp c6.no;refine kg m6 F6.o3 F6.len hnew.len hnew.ones λH7 m7=>?_;exact hX _ _ H7 _ _ m7 ((d5.ik m5 c6).setB (nb _ F.n3) (nvT _ F.n3) _) (F6.Mo hnew λb hb=>hb) hP2
  have h1:isA C.T [46] i=false:=h1;rw[if_neg (by rw[h1];simp)]at hP;simp only[al,aM,aH];have F1:=F.keep hM hbp c1;refine dx (s:=[91]) (aX (by decide)) m1 d1 (λy j er hi H2 S2 m2 c2 d2=>?_) λh2 H2 S2 m2 c2 d2=>?_
  ·cases er;rw[if_pos hi]at hP;simp only[al,aM,aG];have F2:=F1.keep m1 hbp c2;have lt2:b1<S2.n∧b3<S2.n:=F2.w.lt m2;have n2:=F2.x.1;refine O.exp k (by omega) hd m2 d2 (aU.call (eT:=dV) hP λx H3 S3 v m3 c3 d3 ⟨cb,hv,hR⟩ hP2=>?_);subst hv;have F3:=F2.keep m2 hbp c3;simp only[jK];refine e8 (dt m3 fy λH4 m4=>?_);refine kg m4 (LS.aq _ _) rfl hR.len hR.ones λH5 m5=>?_;have c5:aK bU S3 ((S3.push (.ce z7 0)).set S3.n (.ce cb 0)):=((aK.refl _ _).push _).set (.inr (Nat.le_refl _)) _;have F5:=F3.keep m3 hbp c5.no;have d5:=d3.ik m3 c5;have o5:LS.ob _ S3.n=_:=LS.av (S3.push (.ce z7 0)) S3.n (.ce cb 0);have n3:S2.n≤S3.n:=c3.1;show Cl (dv (s10 m)) K X (.ptr C.bp 0) (d:Int) (.ptr b3 0) (.ptr b1 0) (ay C.T i:Int) (.ptr S3.n 0) H5;unfold Cl;rw[r5];refine ks (s:=[93]) (aX (by decide)) m5 d5 (aU.call (eT:=mY) hP2.seq λ_ H6 S6 w m6 c6 d6 _ hP3=>?_);have F6:=F5.keep m5 hbp c6;have o6:=c6.ob m5 o5 λq=>by have q:S3.n=C.bp:=q;omega
   have R6:RE S6 (λb=>S0.n≤b∧b<S6.n∧b≠b1∧b≠b3) cb x:=hR.go (λb hb=>by
    rw[c6.2 b (Nat.lt_of_lt_of_le hb.2 c5.1) (λq=>by have q:b=C.bp:=q;have:=hb.1;omega)];exact c5.2 b hb.2 λq=>q) λb hb=>⟨by have:=hb.1;omega,Nat.lt_of_lt_of_le hb.2 (Nat.le_trans c5.1 c6.1),by have:=hb.1;omega,by have:=hb.1;omega⟩
   refine gO m6 F6.o3 F6.len ?_;refine gO m6 o6 hR.len ?_;simp only[iN];refine gx F6.len (gx hR.len ?_);rw[zh F6.len hR.len rfl];have Ms:∀a∈c,a.one=true:=by obtain⟨Q,h1,_⟩:=F6.re;exact h1.ones
   refine dJ m6 (by rw[List.length_append,F6.len,hR.len]) (λa h=>?_) λH7 m7=>fC rfl ?_
   ·rcases List.mem_append.1 h with g|g
    ·exact Ms a g
    ·exact hR.ones a g
   have hnew:=Hz (at_:=ay C.T i) (kind:=9) (op:=0) F6 m6 hbp R6;have c7:=(aK.refl bU S6).push (.ce (c++cb) 0);have F7:=F6.keep m6 hbp c7.no;refine kg m7 F7.o3 F7.len hnew.len hnew.ones λH8 m8=>?_;exact hX _ _ H8 _ _ m8 ((d6.ik m6 c7).setB (nb _ F.n3) (nvT _ F.n3) _) (F7.Mo hnew λb hb=>hb) hP3
  have h2:isA C.T [91] i=false:=h2;rw[if_neg (by rw[h2];simp)]at hP;simp only[al,aM,aH];have F2:=F1.keep m1 hbp c2;refine dx (s:=[40]) (aX (by decide)) m2 d2 (λy j er hi H3 S3 m3 c3 d3=>?_) λh3 H3 S3 m3 c3 d3=>?_
  ·cases er;rw[if_pos hi]at hP;simp only[al,aM,aG];have F3:=F2.keep m2 hbp c3;refine gO m3 F3.o3 F3.len ?_;rw[iN];refine gx F3.len ?_;rw[FI F3.len rfl];obtain⟨Q,g1,g2⟩:=F3.re;have n3:=F3.x.1;have lt3:=F3.w.lt m3;refine dJ m3 (by rw[F3.len]) g1.ones λH4 m4=>?_;have c4:aK bU S3 (S3.push (.ce c 0)):=(aK.refl _ _).push _;have d4:=d3.ik m3 c4;have F4:=F3.keep m3 hbp c4.no;have L4:aW km (zB S0 b1 b3) (S3.push (.ce c 0)) (.slice S3.n 0 1 1 7 true) [e]:=
    aW.single (R:=km) (Q:=Q) (LS.aq _ _) ⟨by omega,by omega,by omega⟩ (g1.go (λb hb=>LS.bR _ _ (g2 b hb).2.1) λ_ h=>h) λb hb=>⟨⟨(g2 b hb).1,(g2 b hb).2.2⟩,Nat.lt_succ_of_lt (g2 b hb).2.1,by have:=(g2 b hb).2.1;omega⟩
   show Cr (dv (s10 m)) K (xU (dv (s10 m)) K X G.NL) (xT (dv (s10 m)) K X) (.ptr C.bp 0) (d:Int) (.ptr b3 0) (.ptr b1 0) (ay C.T i:Int) (.slice S3.n 0 1 1 7 true) H4;unfold Cr;rw[r2];have iR:G.NL=1000000:=rfl;generalize G.NL=iq at iR ⊢;refine dx (s:=[41]) (aX (by decide)) m4 d4 (λy j er hi H5 S5 m5 c5 d5=>?_) λh4 H5 S5 m5 c5 d5=>?_
   ·cases er;simp only[al,aM,Bool.not_true,aH];cases k with
    |zero=>exact absurd (show(dH C.T 0 true [] (i+1) d).bind _=.bb by simp only[dH];rfl) hP.1
    |succ k=>
    have sp:dH C.T (k+1) true [] (i+1) d=.ok [] (i+1+1):=by
     simp only[dH,if_true];rw[hi];simp only[Bool.not_true,Bool.false_eq_true,if_false,aS];rw[hi];rfl
    rw[sp]at hP;exact acq hbp dd hX (r:=(.ok () (i+1+1):ak Unit)) m5 d5 (F4.w.keep m4 hbp c5) (by have:=L4.bp m4 hbp c5;exact this) hP
   ·simp only[al,aM,Bool.not_false,aG];have h4:isA C.T [41] (i+1)=false:=h4;cases k with
    |zero=>exact absurd (show(dH C.T 0 true [] (i+1) d).bind _=.bb by simp only[dH];rfl) hP.1
    |succ k=>
    have sp:dH C.T (k+1) true [] (i+1) d=(ak.ok () (i+1)).bind λ_ i=>wU C.T k [] i d:=by
     show _=wU C.T k [] (i+1) d;simp only[dH,if_true];rw[h4];rfl
    rw[sp]at hP;exact anw O hd hbp dd hX k (by omega) iq [] _ H5 S5 _ (by omega) (by simp) m5 d5 (F4.w.keep m4 hbp c5) (by have:=L4.bp m4 hbp c5;exact this) hP
  have h3:isA C.T [40] i=false:=h3;rw[if_neg (by rw[h3];simp)]at hP;simp only[al,aM,aH];exact(F2.keep m2 hbp c3).anv m3 hbp dd (HA d3) hP Rl
 ·rw[decide_eq_false (by omega),aH];exact F.anv hM hbp dd (qK hs rfl) hP vN
theorem anx(hm:m≤1000000)(O:gA C m)(hd:d≤200)(hbp:C.bp<S0.n)(dd:∀b,aj C.vT b→b<S0.n):∀k,2*k+4≤m+1→∀q,k<q→Oz C S0 K b1 b3 k d (Ct (dv (s10 m)) K q):=by
 intro k
 induction k with
 |zero=>
  intro hk q hq e c H S γ r hM hs F hP;obtain⟨q,rfl⟩:∃p,q=p+1:=⟨q-1,by omega⟩
  exact acu hm O hd hbp dd hk (λk' h=>absurd h (by omega)) e c H S r hM hs F hP
 |succ k ih=>
  intro hk q hq e c H S γ r hM hs F hP;obtain⟨q,rfl⟩:∃p,q=p+1:=⟨q-1,by omega⟩
  exact acu hm O hd hbp dd hk (λk' h=>by
   obtain rfl:k=k':=by omega
   exact ih (by omega) q (by omega)) e c H S r hM hs F hP
end
theorem x107{m:Nat}(hm:m≤1000000)(O:gA C m):∀k,2*k+4≤m+1→∀{K:KF}{H:AH}{S S0:LS}{d:Nat}{c:List AV}{e:au}{γ:Type}{r:ak γ},d≤200→Mem H S→aK (bE C) S0 S→C.bp<S0.n→(∀b,aj C.vT b→b<S0.n)→aZ C S r→RE S (jd S0.n S.n) c e→aU C (bE C) dV K S0 (r.bind λ_ i=>cF C.T k e i d)→(s10 (m+1)).2.2.2.2.2.1 (.ptr C.bp 0) (.agg c) (d:Int) H K:=by
 intro k hk K H S S0 d c e γ r hd hM hx hbp dd hs hR hP;have e7:(s10 (m+1)).2.2.2.2.2.1=Cu (dv (s10 m)):=by rw[zo]
 rw[e7];unfold Cu U7 JV;have iR:G.NL=1000000:=rfl;generalize G.NL=iq at iR ⊢;refine IQ hM hR.ones λH1 m1=>?_;rw[jK];refine e8 (dt m1 fy λH2 m2=>?_);have c2:aK bU S ((S.push (.ce c 0)).push (.ce z7 0)):=((aK.refl _ _).push _).push _;have n0:=hx.1;refine anx hm O hd hbp dd k (by omega) iq (by omega) e c H2 _ r m2 (hs.ik hM c2) ⟨hx.trans c2.no,⟨z7,LS.aq _ _,rfl⟩,?_,by show S0.n≤S.n+1;omega,n0,by show S.n+1≠S.n;omega,jd S0.n S.n,hR.go (λb hb=>c2.2 b hb.2 λq=>q) (λ_ h=>h),λb hb=>⟨hb.1,Nat.lt_of_lt_of_le hb.2 c2.1,by have:=hb.2;show b≠S.n+1;omega,by have:=hb.2;omega⟩⟩ hP;rw[LS.bR _ _ (by show S.n<S.n+1;omega)];exact LS.aq _ _
end
section
variable {H:AH}{S:LS}{K:KF}{C:Ctx}{i d:Nat}
theorem ahM{T:List Tok}{s:List Nat}{i:Nat}(h:isA T s i=true):bW T i=1∨bW T i=5:=by
 unfold isA at h;simp only[Bool.and_eq_true,Bool.or_eq_true,decide_eq_true_eq]at h;exact h.1
theorem OA(T:List Tok)(k a i d:Nat):gY T (k+1) a i d=(pFn T k i d).bind λf j=>.ok (.mk 7 a 0 [] 0 [] [f]) j:=by
 unfold pFn;simp only[gY,bJ];rfl
theorem RE.fn{Q:Nat→Prop}{at_ b m:Nat}{ex:Bool}{f:fm}{c:List AV}(hQ:Q b)(hb:S.ob b=.ce c m)(h1:RF S Q c f):RE S Q [.int 0 ((7:Nat):Int),.int 0 (at_:Int),.int 0 ((0:Nat):Int),ai [],.int 0 ((0:Nat):Int),.ab,.slice b 0 1 1 2 ex] (.mk 7 at_ 0 [] 0 [] [f]):=by
 refine .mk 7 at_ 0 [] 0 [] [f] .ab _ (λ_=>[]) (λ_=>c) B8.nil (dZ.nil _ _ _ _) (λi e h=>by simp at h) (dZ.single hQ hb h1.len) (λi e h=>?_);cases i with
 |zero=>
  have e1:f=e:=by simpa using h
  subst e1;exact h1
 |succ i=>simp at h
theorem Rn{k:AH→Prop}{γ:Type}{a:γ}(hM:Mem H S)(hs:aZ C S (ak.ok a i))(hlt:i+1<C.T.length)(hk:∀H' S',Mem H' S'→aK (bE C) S S'→aZ C S' (.ok () (i+1):ak Unit)→k H') :
  ao (.ptr C.bp 0) (af 1 (.ptr C.bp 0) λv9=>ad v9 H λv10=>cI 0 v10 λz11=>ax 0 (Int.add z11 (.ofNat 1)) λz12=>ao (.ptr C.bp 0) (af 1 (.ptr C.bp 0) λv13=>ah 1 v13 (.int 0 z12) H k)):=by
 have hfew:=C.few;simp only[bY,aQ,Nat.zero_add];refine aD hM hs.ob (v:=.int 0 (i:Int)) rfl ?_;simp only[aO,dS,fz];refine w0 (by omega) (by omega) ?_;refine bH hM hs.ob (by omega) (by show 1<4;omega) rfl λH2 m2=>?_;exact hk H2 _ m2 (aK.FJ (aK.refl _ _) _) (hs.ok () hlt)
theorem x167{m:Nat}(hm:m≤1000000)(O:gA C m):∀k,2*k+4≤m+1→mc C (λd H K=>(s10 (m+1)).2.2.2.2.2.2.2.2.1 (.ptr C.bp 0) (d:Int) H K) (iI C.T k):=by
 intro k hk K H S i d γ x hd hM hs hP;cases k with
 |zero=>exact absurd (show iI C.T 0 i d=.bb by simp only[iI]) hP.1
 |succ k=>
 have r1:(fZ (s10 m)).1=f18:=rfl;have r2:(fZ (s10 m)).2.1=f39:=rfl;have r3:(fZ (s10 m)).2.2.1=f40:=rfl;have r4:(fZ (s10 m)).2.2.2.1=(s10 m).2.1:=rfl;have r5:(fZ (s10 m)).2.2.2.2.1=(s10 m).2.2.2.2.1:=rfl;have r6:(fZ (s10 m)).2.2.2.2.2.1=f59:=rfl;have r7:(fZ (s10 m)).2.2.2.2.2.2.1=(s10 m).2.2.2.2.2.1:=rfl;have r8:(fZ (s10 m)).2.2.2.2.2.2.2=(s10 m).2.2.2.2.2.2.2.2.2:=rfl;have e0:Int.ofNat 0=((0:Nat):Int):=rfl;have e2:Int.ofNat 2=((2:Nat):Int):=rfl;have e3:Int.ofNat 3=((3:Nat):Int):=rfl;have e4:Int.ofNat 4=((4:Nat):Int):=rfl;show CG (fZ (s10 m)) K (J9 (fZ (s10 m)) K) (.ptr C.bp 0) (d:Int) H;unfold CG;rw[r2,jK];simp only[iI]at hP;have hbp:=hs.mW hM;have dd:∀b,aj C.vT b→b<S.n:=λb hb=>hs.tk.lt hM hb;have fq:∀b,S.n≤b→¬bE C b:=λb hb q=>by have q:b=C.bp:=q;omega
 refine e8 (dt hM fy λH1 m1=>?_);have c1:aK bU S (S.push (.ce z7 0)):=(aK.refl _ _).push _;have d1:=hs.ik hM c1;have o1:(S.push (.ce z7 0)).ob S.n=.ce z7 0:=LS.aq _ _;refine kU m1 d1 ?_;rw[al,aO];have qY:(ak.ok x i).ix=i:=rfl;rw[qY];simp only[bY,aQ,Nat.zero_add];refine aD m1 d1.ob (v:=C.vT) rfl ?_;refine aD m1 d1.ob (v:=.int 0 (i:Int)) rfl ?_;simp only[aO];refine d1.tk.load m1 d1.lt ?_;rw[An (show i<C.T.length from hs.lt)];refine m1.cL (e8 (dt m1 (λa ha=>?_) λH2 m2=>cC (qS (by rw[m2.n,m1.n];rfl)) ?_))
 ·simp only[List.mem_cons,List.not_mem_nil,or_false]at ha;rcases ha with rfl|rfl|rfl|rfl<;>rfl
 refine oA m2 (LS.aq _ _) (by omega) rfl (by show 0+4≤4;omega) aeb λH3 m3=>?_;have m3:Mem H3 (((S.push (.ce z7 0)).push (.ce [.int 0 (.ofNat 0),.str 0 0,.int 0 (.ofNat 0),.int 0 (.ofNat 0)] 0)).set (S.n+1) (.ce (mX C.T i) 0)):=m3;have c3:aK bU S (((S.push (.ce z7 0)).push (.ce [.int 0 (.ofNat 0),.str 0 0,.int 0 (.ofNat 0),.int 0 (.ofNat 0)] 0)).set (S.n+1) (.ce (mX C.T i) 0)):=(c1.push _).set (.inr (Nat.le_succ _)) _;have d3:=hs.ik hM c3;have o3:(((S.push (.ce z7 0)).push (.ce [.int 0 (.ofNat 0),.str 0 0,.int 0 (.ofNat 0),.int 0 (.ofNat 0)] 0)).set (S.n+1) (.ce (mX C.T i) 0)).ob S.n=.ce z7 0:=by
  rw[LS.an _ _ (by omega),LS.bR _ _ (by show S.n<S.n+1;omega)];exact o1
 have t3:(((S.push (.ce z7 0)).push (.ce [.int 0 (.ofNat 0),.str 0 0,.int 0 (.ofNat 0),.int 0 (.ofNat 0)] 0)).set (S.n+1) (.ce (mX C.T i) 0)).ob (S.n+1)=.ce (mX C.T i) 0:=LS.av _ _ _;revert m3 c3 d3 o3 t3;generalize ((S.push (.ce z7 0)).push (.ce [.int 0 (.ofNat 0),.str 0 0,.int 0 (.ofNat 0),.int 0 (.ofNat 0)] 0)).set (S.n+1) (.ce (mX C.T i) 0)=S3;intro m3 c3 d3 o3 t3;show CF (fZ (s10 m)) K (J4 (fZ (s10 m)) K) (J5 (fZ (s10 m)) K) (J6 (fZ (s10 m)) K) (J7 (fZ (s10 m)) K) (J8 (fZ (s10 m)) K) (.ptr C.bp 0) (d:Int) (.ptr S.n 0) (ay C.T i:Int) (.ptr (S.n+1) 0) H3;unfold CF;rw[r3,r4,r5,r8];have n3:S.n+1<S3.n:=m3.lt (by rw[t3];simp);refine im m3 d3 ?_;have rcd:(ak.ok x i).cd=0:=rfl;rw[rcd,bu,e0,decide_eq_true rfl];simp only[Bool.not_true,aH];have lone:∀{H4:AH}{S4:LS}{kd nn:Nat}{tx:List Nat},B8 tx→aU C (bE C) dV K S (.ok (.mk kd (ay C.T i) nn tx 0 [] []) (i+1))→Mem H4 S4→aK (bE C) S S4→aZ C S4 (.ok () (i+1):ak Unit)→S4.ob S.n=.ce z7 0→
   ah 7 (.ptr S.n 0) (.agg [.int 0 (kd:Int),.int 0 (ay C.T i:Int),.int 0 (nn:Int),ai tx,.int 0 ((0:Nat):Int),.ab,.ab]) H4 λH5=>aN 7 (.ptr S.n 0) H5 λv48=>K (.ret v48) H5:=by
  intro H4 S4 kd nn tx h8 hP m4 c4 d4 o4;exact zp (z:=z7) (Q:=λ_=>False) hM hs hP m4 c4 (HA d4) o4 rfl ⟨_,rfl,RE.simple h8⟩ (λb hb=>hb.elim) Rl
 have jY:∀{H4:AH}{S4:LS}{j:Int}{P Q:Prop},Mem H4 S4→S4.ob (S.n+1)=.ce (mX C.T i) 0→bI (decide ((bW C.T i:Int)=j)) P Q→af 0 (.ptr (S.n+1) 0) λv6=>ad v6 H4 λv7=>cI 0 v7 λz8=>bI (bq z8 j) P Q:=by
  intro H4 S4 j P Q m4 t4 h;rw[aQ];refine aD m4 t4 (v:=.int 0 (bW C.T i:Int)) rfl ?_;rw[aO,bu];exact h
 refine jY m3 t3 ?_;rw[e2];by_cases g2:bW C.T i=2
 ·rw[decide_eq_true (by omega),aG];rw[if_pos (.inl g2)]at hP;cases k with
  |zero=>exact absurd (show(dK C.T 0 i d).bind _=.bb by simp only[dK];rfl) hP.1
  |succ k=>
  have sp:dK C.T (k+1) i d=.ok (.mk 6 (ay C.T i) 0 (fM C.T i) 0 [] []) (i+1):=by
   simp only[dK];rw[if_neg (by omega),if_neg (by omega),if_pos g2]
  rw[sp]at hP;refine Rn m3 d3 (kT C.ok (by omega)) λH4 S4 m4 c4 d4=>?_;have t4:=c4.ob m3 t3 (fq _ (by omega));have o4:=c4.ob m3 o3 (fq _ (Nat.le_refl _));have ED:=c3.no.trans c4;show Cy (fZ (s10 m)) K (.ptr C.bp 0) (d:Int) (.ptr S.n 0) (ay C.T i:Int) (.ptr (S.n+1) 0) H4;unfold Cy;rw[r7,aQ];refine aD m4 t4 (v:=ai (fM C.T i)) rfl ?_;refine fC (kP _) ?_;have hR:RE S4 (jd S4.n S4.n) [.int 0 ((6:Nat):Int),.int 0 (ay C.T i:Int),.int 0 ((0:Nat):Int),ai (fM C.T i),.int 0 ((0:Nat):Int),.ab,.ab] (.mk 6 (ay C.T i) 0 (fM C.T i) 0 [] []):=RE.simple (vM C i);have n4:=ED.1;have n34:=c4.1;refine O.behind (k+1) (by omega) hd m4 (S0:=S4) (aK.refl _ _) (by omega) (λb hb=>by have:=dd b hb;omega) d4 hR (aU.tail (eT:=dV) (show aU C (bE C) dV K S ((ak.ok () (i+1)).bind λ_ i=>_)from hP) λe H5 S5 v m5 c5 d5 hv hfin=>?_);obtain⟨c,hv,hR⟩:=hv;subst hv;refine kg m5 (c5.ob m4 o4 (fq _ (Nat.le_refl _))) rfl hR.len hR.ones λH6 m6=>?_;refine gO m6 (LS.av _ _ _) hR.len ?_;exact hfin H6 _ _ m6 ((ED.trans c5).set (.inr (Nat.le_refl _)) _) (d5.pZ hs hM (Nat.le_refl _) _) ⟨c,rfl,hR.go (λb hb=>LS.an _ _ (by have:=hb.1;omega)) λb hb=>⟨by have:=hb.1;omega,hb.2⟩⟩
 rw[decide_eq_false (by omega),aH];refine dx (s:=[40]) (aX (by decide)) m3 d3 (λy j er hi H4 S4 m4 c4 d4=>?_) λh1 H4 S4 m4 c4 d4=>?_
 ·cases er;simp only[al,aM,aG];rw[if_pos (.inr hi)]at hP;have k15:=ahM hi;cases k with
  |zero=>exact absurd (show(dK C.T 0 i d).bind _=.bb by simp only[dK];rfl) hP.1
  |succ k=>
  have nl:lj C.T i=0∧isA C.T [102,117,110,99,116,105,111,110] i=false∧isA C.T [123] i=false:=by
   have ht:fM C.T i=[40]:=by
    unfold isA at hi;simp only[Bool.and_eq_true,decide_eq_true_eq]at hi;exact hi.2
   have ne:∀s:List Nat,s≠[40]→isA C.T s i=false:=λs hs=>by
    unfold isA;rw[ht,decide_eq_false (p:=[40]=s) λq=>hs q.symm,Bool.and_false]
   refine⟨?_,ne _ (by decide),ne _ (by decide)⟩;unfold lj;rw[ne _ (by decide),ne _ (by decide),ne _ (by decide)];rfl
  have sp:dK C.T (k+1) i d=(bP C.T k (i+1) d).bind λe j=>(aS C.T [41] j).bind λ_ j=>.ok e j:=by
   simp only[dK];rw[if_neg (by omega),if_neg (by omega),if_neg g2,if_neg (by omega),if_neg (by rw[nl.2.1];simp),if_neg (by rw[nl.2.2];simp),if_pos hi]
  rw[sp,bJ]at hP;have ED:=c3.no.trans c4;have o4:=c4.ob m3 o3 (fq _ (Nat.le_refl _));have n4:=c4.1;refine O.exp k (by omega) hd m4 d4 (aU.call (eT:=dV) hP λe H5 S5 v m5 c5 d5 ⟨c,hv,hR⟩ hP2=>?_);subst hv;have o5:=c5.ob m4 o4 (fq _ (Nat.le_refl _));have n5:=c5.1;refine e8 ?_;rw[jK];refine dt m5 fy λH6 m6=>?_;refine kg m6 (LS.aq _ _) rfl hR.len hR.ones λH7 m7=>?_;have c7:aK bU S5 ((S5.push (.ce z7 0)).set S5.n (.ce c 0)):=((aK.refl _ _).push _).set (.inr (Nat.le_refl _)) _;have d7:=d5.ik m5 c7;have o7:=c7.ob m5 o5 λq=>q;have b7:LS.ob _ S5.n=_:=LS.av (S5.push (.ce z7 0)) S5.n (.ce c 0);show Cz (fZ (s10 m)) K (.ptr C.bp 0) (d:Int) (.ptr S.n 0) (.ptr S5.n 0) H7;unfold Cz;rw[r6,r7];have hP3:aU C (bE C) dV K S ((ak.bind (ak.bind (ak.ok () (i+1)) λ_ i=>bP C.T k i d) λ_ j=>aS C.T [41] j).bind λ_ j=>cF C.T (k+1) e j d):=by
   have e1:(ak.bind (ak.bind (ak.ok () (i+1)) λ_ i=>bP C.T k i d) λ_ j=>((aS C.T [41] j).bind λ_ j=>.ok e j).bind λe j=>cF C.T (k+1) e j d)=((ak.bind (ak.bind (ak.ok () (i+1)) λ_ i=>bP C.T k i d) λ_ j=>aS C.T [41] j).bind λ_ j=>cF C.T (k+1) e j d):=by
    rw[bJ (ak.bind (ak.ok () (i+1)) λ_ i=>bP C.T k i d) (λ_ j=>aS C.T [41] j)];congr 1;funext _ j;rw[bJ];rfl
   rw[←e1];exact hP2
  refine ks (s:=[41]) (aX (by decide)) m7 d7 (aU.call (eT:=mY) hP3 λ_ H8 S8 w m8 c8 d8 _ vO=>?_);have b8:=c8.ob m7 b7 (fq _ (by omega));have o8:=c8.ob m7 o7 (fq _ (Nat.le_refl _));refine gO m8 b8 hR.len ?_;have R8:RE S8 (jd S4.n S8.n) c e:=hR.go (λb hb=>by
   rw[c8.2 b (Nat.lt_of_lt_of_le hb.2 c7.1) (fq _ (by have:=hb.1;omega))];exact c7.2 b hb.2 λq=>q) λb hb=>⟨hb.1,Nat.lt_of_lt_of_le hb.2 (Nat.le_trans c7.1 c8.1)⟩
  have x48:aK (bE C) S4 S8:=(c5.trans c7.no).trans c8;refine O.behind (k+1) (by omega) hd m8 (S0:=S4) x48 (by omega) (λb hb=>by have:=dd b hb;omega) d8 R8 (aU.tail (eT:=dV) vO λe' H9 S9 v m9 c9 d9 hv hfin=>?_);obtain⟨c',hv,hR'⟩:=hv;subst hv;refine kg m9 (c9.ob m4 o4 (fq _ (Nat.le_refl _))) rfl hR'.len hR'.ones λHa ma=>?_;refine gO ma (LS.av _ _ _) hR'.len ?_;exact hfin Ha _ _ ma ((ED.trans c9).set (.inr (Nat.le_refl _)) _) (d9.pZ hs hM (Nat.le_refl _) _) ⟨c',rfl,hR'.go (λb hb=>LS.an _ _ (by have:=hb.1;omega)) λb hb=>⟨by have:=hb.1;omega,hb.2⟩⟩
 have h1:isA C.T [40] i=false:=h1;simp only[al,aM,aH];rw[if_neg (by rintro(q|q);exact g2 q;rw[h1]at q;cases q)]at hP;have t4:=c4.ob m3 t3 (fq _ (by omega));have o4:=c4.ob m3 o3 (fq _ (Nat.le_refl _));have ED:=c3.no.trans c4;cases k with
 |zero=>exact absurd (show dK C.T 0 i d=.bb by simp only[dK]) hP.1
 |succ k=>
 simp only[dK]at hP;refine jY m4 t4 ?_;rw[e3];by_cases g3:bW C.T i=3
 ·rw[decide_eq_true (by omega),aG];rw[if_pos g3]at hP;refine Rn m4 d4 (kT C.ok (by omega)) λH5 S5 m5 c5 d5=>?_;show CA (fZ (s10 m)) K (.ptr S.n 0) (ay C.T i:Int) (.ptr (S.n+1) 0) H5;unfold CA;rw[aQ];refine aD m5 (c5.ob m4 t4 (fq _ (by omega))) (v:=.int 0 (Mg C.T i:Int)) rfl ?_;rw[aO];exact lone (kd:=4) B8.nil hP m5 (ED.trans c5) d5 (c5.ob m4 o4 (fq _ (Nat.le_refl _)))
 rw[decide_eq_false (by omega),aH];rw[if_neg g3]at hP;refine jY m4 t4 ?_;rw[e4];by_cases g4:bW C.T i=4
 ·rw[decide_eq_true (by omega),aG];rw[if_pos g4]at hP;refine Rn m4 d4 (kT C.ok (by omega)) λH5 S5 m5 c5 d5=>?_;show CC (fZ (s10 m)) K (.ptr S.n 0) (ay C.T i:Int) (.ptr (S.n+1) 0) H5;unfold CC;rw[aQ];refine aD m5 (c5.ob m4 t4 (fq _ (by omega))) (v:=ai (fM C.T i)) rfl ?_;refine fC (kP _) ?_;exact lone (kd:=5) (nn:=0) (vM C i) hP m5 (ED.trans c5) d5 (c5.ob m4 o4 (fq _ (Nat.le_refl _)))
 rw[decide_eq_false (by omega),aH];rw[if_neg g4,if_neg g2]at hP;refine dx (s:=[110,105,108]) (aX (by decide)) m4 d4 (λy j er hi H5 S5 m5 c5 d5=>?_) λh2 H5 S5 m5 c5 d5=>?_
 ·cases er;simp only[al,aM,aG];have el:lj C.T i=1:=by unfold lj;rw[hi];rfl
  rw[el,if_pos (by omega)]at hP;exact lone (kd:=1) (nn:=0) (tx:=[]) B8.nil hP m5 (ED.trans c5) d5 (c5.ob m4 o4 (fq _ (Nat.le_refl _)))
 have h2:isA C.T [110,105,108] i=false:=h2;simp only[al,aM,aH];have o5:=c5.ob m4 o4 (fq _ (Nat.le_refl _));have c05:=ED.trans c5;refine dx (s:=[116,114,117,101]) (aX (by decide)) m5 d5 (λy j er hi H6 S6 m6 c6 d6=>?_) λh3 H6 S6 m6 c6 d6=>?_
 ·cases er;simp only[al,aM,aG];have el:lj C.T i=2:=by unfold lj;rw[h2,hi];rfl
  rw[el,if_pos (by omega)]at hP;exact lone (kd:=2) (nn:=0) (tx:=[]) B8.nil hP m6 (c05.trans c6) d6 (c6.ob m5 o5 (fq _ (Nat.le_refl _)))
 have h3:isA C.T [116,114,117,101] i=false:=h3;simp only[al,aM,aH];have o6:=c6.ob m5 o5 (fq _ (Nat.le_refl _));have c06:=c05.trans c6;refine dx (s:=[102,97,108,115,101]) (aX (by decide)) m6 d6 (λy j er hi H7 S7 m7 c7 d7=>?_) λh4 H7 S7 m7 c7 d7=>?_
 ·cases er;simp only[al,aM,aG];have el:lj C.T i=3:=by unfold lj;rw[h2,h3,hi];rfl
  rw[el,if_pos (by omega)]at hP;exact lone (kd:=3) (nn:=0) (tx:=[]) B8.nil hP m7 (c06.trans c7) d7 (c7.ob m6 o6 (fq _ (Nat.le_refl _)))
 have h4:isA C.T [102,97,108,115,101] i=false:=h4;simp only[al,aM,aH];have o7:=c7.ob m6 o6 (fq _ (Nat.le_refl _));have c07:=c06.trans c7;have el:lj C.T i=0:=by unfold lj;rw[h2,h3,h4];rfl
 rw[el,if_neg (by omega)]at hP;refine dx (s:=[102,117,110,99,116,105,111,110]) (aX (by decide)) m7 d7 (λy j er hi H8 S8 m8 c8 d8=>?_) λh5 H8 S8 m8 c8 d8=>?_
 ·cases er;simp only[al,aM,aG];rw[if_pos hi]at hP;have o8:=c8.ob m7 o7 (fq _ (Nat.le_refl _));have c08:=c07.trans c8;cases k with
  |zero=>exact absurd (show gY C.T 0 (ay C.T i) (i+1) d=.bb by simp only[gY]) hP.1
  |succ k=>
  rw[OA]at hP;have n8:S.n<S8.n:=m8.lt (by rw[o8];simp);refine O.body k (by omega) hd m8 d8 (aU.call (eT:=qX) (show aU C (bE C) dV K S ((ak.bind (ak.ok () (i+1)) λ_ i=>pFn C.T k i d).bind λf j=>.ok (.mk 7 (ay C.T i) 0 [] 0 [] [f]) j)from hP) λf H9 S9 v m9 c9 d9 ⟨c,hv,hR⟩ hP2=>?_);subst hv;rw[iN];refine gx hR.len ?_;rw[anm hR.len rfl];refine dJ m9 (by rw[hR.len]) hR.ones λHa ma=>fC rfl ?_;have ca:aK bU S9 (S9.push (.ce c 0)):=(aK.refl _ _).push _;have n9:=c9.1;exact zp (z:=z7) (Q:=λb=>S.n<b∧b<(S9.push (.ce c 0)).n) hM hs hP2 ma ((c08.trans c9).trans ca.no) ((d9.ik m9 ca).ret _) (ca.ob m9 (c9.ob m8 o8 (fq _ (Nat.le_refl _))) λq=>q) rfl ⟨_,rfl,RE.fn (b:=S9.n) (m:=0) ⟨by omega,Nat.lt_succ_self _⟩ (LS.aq _ _) (hR.go (λb hb=>LS.bR _ _ hb.2) λb hb=>⟨by have:=hb.1;omega,Nat.lt_succ_of_lt hb.2⟩)⟩ (λb hb=>hb) px
 have h5:isA C.T [102,117,110,99,116,105,111,110] i=false:=h5;simp only[al,aM,aH];rw[if_neg (by rw[h5];simp)]at hP;have o8:=c8.ob m7 o7 (fq _ (Nat.le_refl _));have c08:=c07.trans c8;refine dx (s:=[123]) (aX (by decide)) m8 d8 (λy j er hi H9 S9 m9 c9 d9=>?_) λh6 H9 S9 m9 c9 d9=>?_
 ·cases er;simp only[al,aM,aG];rw[if_pos hi]at hP;have o9:=c9.ob m8 o8 (fq _ (Nat.le_refl _));have c09:=c08.trans c9;have n9:S.n<S9.n:=m9.lt (by rw[o9];simp);refine O.table k (by omega) hd m9 d9 (aU.tail (eT:=dV) hP λe Ha Sa v ma ca da hv hfin=>?_);obtain⟨c,hv,hR⟩:=hv;subst hv;refine kg ma (ca.ob m9 o9 (fq _ (Nat.le_refl _))) rfl hR.len hR.ones λHb mb=>?_;refine gO mb (LS.av _ _ _) hR.len ?_;exact hfin Hb _ _ mb ((c09.trans ca).set (.inr (Nat.le_refl _)) _) (da.pZ hs hM (Nat.le_refl _) _) ⟨c,rfl,hR.go (λb hb=>LS.an _ _ (by have:=hb.1;omega)) λb hb=>⟨by have:=hb.1;omega,hb.2⟩⟩
 have h6:isA C.T [123] i=false:=h6;simp only[al,aM,aH];rw[if_neg (by rw[h6];simp),if_neg (by rw[h1];simp)]at hP;have o9:=c9.ob m8 o8 (fq _ (Nat.le_refl _));have c09:=c08.trans c9;show CE (fZ (s10 m)) K (.ptr C.bp 0) (.ptr S.n 0) H9;unfold CE;rw[r1];refine p5 (c:=14) (by omega) (by omega) m9 d9 λHa Sa ma ca da=>?_;rw[al];exact zp (z:=z7) (e:=.mk 0 0 0 [] 0 [] []) (Q:=λ_=>False) hM hs hP ma (c09.trans ca) (qK da rfl) (ca.ob m9 o9 (fq _ (Nat.le_refl _))) rfl ⟨z7,rfl,RE.zero⟩ (λb hb=>hb.elim) vN
end
end Go.Proofs.YtcedghechlgecaaDoor
namespace Go.X
section
variable {H:AH}{S S':LS}
theorem aW.apf{α:Type}{R:Rep α}{Z:Nat→Prop}{v v':AV}{l l2:List α}{sT:List (List AV)}(h:aW R Z S v l)(h2l:sT.length=l2.length)(hr:∀(i:Nat) (c:List AV) (a:α),sT[i]? = some c→l2[i]? = some a→∃Q,R.rel S Q c a∧∀b,Q b→Z b∧b<S.n∧¬aj v b)(hnew:∀b,S.n≤b→Z b)
  (hs:∀cl,fj S R.sz v l.length cl→qT S v (l.length+l2.length) R.sz (cl++sT.flatten) S' v'):aW R Z S' v' (l++l2):=by
 obtain⟨cl,h1,h2,h3,h4⟩:=h;obtain⟨a1,a2,a3,a4⟩:=hs _ h1;refine⟨cl++sT,?_,by simp[h2,h2l],λb hb'=>?_,λi c' a' hc ha=>?_⟩
 ·rw[List.flatten_append,List.length_append];exact a3
 ·rcases a4 b hb' with g|g
  ·exact h3 b g
  ·exact hnew b g
 ·have fin:∀{Q:Nat→Prop}{c:List AV}{a:α},R.rel S Q c a→(∀b,Q b→Z b∧b<S.n∧¬aj v b)→∃Q,R.rel S' Q c a∧∀b,Q b→Z b∧b<S'.n∧¬aj v' b:=λ{Q c a} g1 g2=>
   ⟨Q,R.go (λb hb=>a2 b (g2 b hb).2.1 (g2 b hb).2.2) (λ_ h=>h) g1,λb hb=>⟨(g2 b hb).1,Nat.lt_of_lt_of_le (g2 b hb).2.1 a1,λhb'=>by
    rcases a4 b hb' with q|q
    ·exact(g2 b hb).2.2 q
    ·have:=(g2 b hb).2.1;omega⟩⟩
  by_cases hi:i<cl.length
  ·rw[List.getElem?_append_left hi]at hc;rw[List.getElem?_append_left (by omega)]at ha;obtain⟨Q,g1,g2⟩:=h4 i c' a' hc ha;exact fin g1 g2
  ·rw[List.getElem?_append_right (by omega)]at hc ha;rw[h2]at hc;obtain⟨Q,g1,g2⟩:=hr _ c' a' hc ha;exact fin g1 g2
theorem aW.Ro{α:Type}{R:Rep α}{Z:Nat→Prop}{bytes:Nat}{v x:AV}{l l2:List α}{sT:Nat→List AV}{Q:Nat→Prop}{k:AV→AH→Prop}(h:aW R Z S v l)(hM:Mem H S)(h2:l2.length=2)(hx:dZ S Q R.sz x l2.length sT)(hr:∀i e,l2[i]? = some e→∃Q,R.rel S Q (sT i) e∧∀b,Q b→Z b∧b<S.n∧¬aj v b)(hnew:∀b,S.n≤b→Z b)(hl:(l.length+2)*bytes≤1099511627776)
  (hk:∀H' S' v',Mem H' S'→aW R Z S' v' (l++l2)→S.n≤S'.n→(∀b,b<S.n→¬aj v b→S'.ob b=S.ob b)→(∀b,aj v' b→aj v b∨S.n≤b)→k v' H'):cQ R.sz bytes v x H k:=by
 obtain⟨cl,h1,hh⟩:=id h;have gt:∀i,i<l2.length→(sT i).length=R.sz∧∀a∈sT i,a.one=true:=λi hi=>by
  obtain⟨Q',g,_⟩:=hr i _ (List.getElem?_eq_getElem hi);exact⟨R.len g,R.ones g⟩
 refine ank (n':=l2.length) hM h1 (.inl (by omega)) R.pos hx (λi hi=>(gt i hi).2) (by rw[h2];exact hl) λH' S' v' l' m' hl' hcl he=>?_;have el:l'=([sT 0,sT 1]:List (List AV)).flatten:=by
  have e0:=hcl 0 (by omega);have e1:=hcl 1 (by omega);rw[Nat.zero_mul,List.drop_zero]at e0;rw[Nat.one_mul,List.take_of_length_le (by rw[List.length_drop];rw[h2]at hl';omega)]at e1;rw[←e0,←e1];simp
 refine hk H' S' v' m' (h.apf (sT:=[sT 0,sT 1]) (by rw[h2];rfl) (λi c a hc ha=>?_) hnew λcl' h'=>?_) he.1 he.2.1 he.2.2.2
 ·have hi:i<l2.length:=(List.getElem?_eq_some_iff.1 ha).1;have ec:c=sT i:=by
   have hi2:i=0∨i=1:=by omega
   rcases hi2 with rfl|rfl<;>(simp at hc;exact hc.symm)
  subst ec;exact hr i a ha
 ·rw[h1.uniq h',←el];exact he
end
end Go.X
namespace Go.Proofs.YtcedghechlgecaaDoor
open Go Go.X Go.Proofs.YtcedghechlgecaaDoor.G
section
variable {H:AH}{S:LS}{K:KF}{C:Ctx}{i d:Nat}
structure tQ(C:Ctx)(S0:LS)(Z:Nat→Prop)(S:LS)(b1 b3 a:Nat)(v:AV)(out:List au):Prop where
 w:pH C S0 S b1 b3
 o3:S.ob b3=.ce (sR a v) 0
 L:aW km Z S v out
 hZ:∀b,Z b→zB S0 b1 b3 b
theorem tQ.keep{S0 S':LS}{Z:Nat→Prop}{b1 b3 a:Nat}{v:AV}{out:List au}(h:tQ C S0 Z S b1 b3 a v out)(hM:Mem H S)(hbp:C.bp<S0.n)(g:aK (bE C) S S'):tQ C S0 Z S' b1 b3 a v out:=
 ⟨h.w.keep hM hbp g,g.ob hM h.o3 λq=>by have q:b3=C.bp:=q;have:=h.w.n3;omega,h.L.keep hM g.1 λb h1 h2=>g.2 b h2 λq=>by have q:b=C.bp:=q;have:=(h.hZ b h1).1;omega,h.hZ⟩
def zK(S0:LS)(b1 b3 bk:Nat):Nat→Prop:=λb=>zB S0 b1 b3 b∧b≠bk
structure vP(S0 S:LS)(b1 b3 bk:Nat)(v:AV)(ck:List AV)(kk:au):Prop where
 o:S.ob bk=.ce ck 0
 z:zB S0 b1 b3 bk
 nv:¬aj v bk
 re:∃Q,RE S Q ck kk∧∀b,Q b→zB S0 b1 b3 b∧b<S.n∧¬aj v b
theorem vP.keep{S0 S':LS}{b1 b3 bk:Nat}{v:AV}{ck:List AV}{kk:au}(h:vP S0 S b1 b3 bk v ck kk)(hM:Mem H S)(hbp:C.bp<S0.n)(g:aK (bE C) S S'):vP S0 S' b1 b3 bk v ck kk:=by
 have nb:∀b,S0.n≤b→¬bE C b:=λb hb q=>by have q:b=C.bp:=q;omega
 obtain⟨Q,h1,h2⟩:=h.re;exact⟨g.ob hM h.o (nb _ h.z.1),h.z,h.nv,Q,h1.go (λb hb=>g.2 b (h2 b hb).2.1 (nb _ (h2 b hb).1.1)) (λ_ h=>h),λb hb=>⟨(h2 b hb).1,Nat.lt_of_lt_of_le (h2 b hb).2.1 g.1,(h2 b hb).2.2⟩⟩
theorem vP.len{S0:LS}{b1 b3 bk:Nat}{v:AV}{ck:List AV}{kk:au}(h:vP S0 S b1 b3 bk v ck kk):ck.length=7:=by obtain⟨Q,h1,_⟩:=h.re;exact h1.len
theorem vP.ones{S0:LS}{b1 b3 bk:Nat}{v:AV}{ck:List AV}{kk:au}(h:vP S0 S b1 b3 bk v ck kk):∀a∈ck,a.one=true:=by obtain⟨Q,h1,_⟩:=h.re;exact h1.ones
theorem vP.set{S0:LS}{b1 b3 bk kind at_ n op:Nat}{v:AV}{ck:List AV}{kk:au}{s:List Nat}(h:vP S0 S b1 b3 bk v ck kk)(h8:B8 s) :
  vP S0 (S.set bk (.ce [.int 0 (kind:Int),.int 0 (at_:Int),.int 0 (n:Int),ai s,.int 0 (op:Int),.ab,.ab] 0)) b1 b3 bk v [.int 0 (kind:Int),.int 0 (at_:Int),.int 0 (n:Int),ai s,.int 0 (op:Int),.ab,.ab] (.mk kind at_ n s op [] []):=
 ⟨LS.av _ _ _,h.z,h.nv,λ_=>False,RE.simple h8,λb hb=>hb.elim⟩
theorem tQ.gQ{S0:LS}{b1 b3 bk a:Nat}{v:AV}{out:List au}(h:tQ C S0 (zK S0 b1 b3 bk) S b1 b3 a v out)(hM:Mem H S)(hz:zB S0 b1 b3 bk)(o:gu):tQ C S0 (zK S0 b1 b3 bk) (S.set bk o) b1 b3 a v out:=by
 obtain⟨z,hz1,mZ⟩:=h.w.o1;obtain⟨y,hy1,hy7⟩:=h.w.o3;exact⟨⟨h.w.x.set (.inr hz.1) _,⟨z,(LS.an _ _ (Ne.symm hz.2.1)).trans hz1,mZ⟩,⟨y,(LS.an _ _ (Ne.symm hz.2.2)).trans hy1,hy7⟩,h.w.n1,h.w.n3,h.w.ne⟩,(LS.an _ _ (Ne.symm hz.2.2)).trans h.o3,h.L.keep hM (Nat.le_refl _) λb hb _=>LS.an _ _ hb.2,h.hZ⟩
theorem ahN{S0:LS}{b1 b3 a:Nat}{v:AV}{out:List au}{Z:Nat→Prop}(h:tQ C S0 Z S b1 b3 a v out)(hM:Mem H S):RE S (λb=>zB S0 b1 b3 b∧b<S.n) (sR a v) (.mk 8 a 0 [] 0 out []):=by
 obtain⟨cl,h1,h2⟩:=h.L.done hM;exact .mk 8 a 0 [] 0 out [] v .ab cl (λ_=>[]) B8.nil (h1.go (λ_ _=>rfl) λb hb=>⟨h.hZ b hb.1,hb.2⟩) (λi e he=>RE.go (λ_ _=>rfl) (λb hb=>⟨h.hZ b hb.1,hb.2⟩) (h2 i e he)) (dZ.nil _ _ _ _) (λi e h=>by simp at h)
section
variable {m k:Nat}{X:AV→Int→AV→AV→Int→AH→Prop}{S0:LS}{b1 b3 a:Nat}
theorem Mt(hbp:C.bp<S0.n)(dd:∀b,aj C.vT b→b<S0.n){v:AV}{out:List au}{γ:Type}{r:ak γ}(hM:Mem H S)(hs:aZ C S r)(t:tQ C S0 (zB S0 b1 b3) S b1 b3 a v out)(hP:aU C (bE C) dV K S0 (r.bind λ_ i=>(aS C.T [125] i).bind λ_ j=>.ok (.mk 8 a 0 [] 0 out []) j)) :
  u4 (cN (s10 m)) K (.ptr C.bp 0) (.ptr b1 0) (.ptr b3 0) H:=by
 have r6:(cN (s10 m)).2.2.2.2.2.1=f59:=rfl;show CI (cN (s10 m)) K (.ptr C.bp 0) (.ptr b1 0) (.ptr b3 0) H;unfold CI;rw[r6];refine ks (s:=[125]) (aX (by decide)) hM hs (aU.call (eT:=mY) hP.seq λ_ H1 S1 w m1 c1 d1 _ hP1=>?_);have t1:=t.keep hM hbp c1;have hR:=ahN t1 m1;obtain⟨z,hz,mZ⟩:=t1.w.o1;have hn1:=t1.w.n1;refine gO m1 t1.o3 rfl ?_;refine kg m1 hz mZ rfl hR.ones λH2 m2=>?_;refine gO m2 (LS.av _ _ _) rfl ?_;exact hP1.2 H2 _ _ _ m2 (t1.w.x.set (.inr hn1) _) ((d1.ret _).setB (by omega) (λx hx=>by have:=dd x hx;omega) _) ⟨_,rfl,hR.go (λb hb=>LS.an _ _ hb.1.2.1) λb hb=>⟨hb.1.1,hb.2⟩⟩ px
def py(T:List Tok)(k a:Nat)(out:List au)(c j d:Nat):ak au:=if isA T [44] j=true∨isA T [59] j=true then fx T k out c a (j+1) d else (aS T [125] j).bind λ_ k=>.ok (.mk 8 a 0 [] 0 out []) k
def OB(C:Ctx)(S0:LS)(K:KF)(b1 b3 a k d:Nat)(X:AV→Int→AV→AV→Int→AH→Prop):Prop:=∀(c:Nat) (v:AV) (out:List au) (H:AH) (S:LS){γ:Type}(r:ak γ),c≤out.length→out.length≤128→out.length%2=0→Mem H S→aZ C S r→tQ C S0 (zB S0 b1 b3) S b1 b3 a v out→aU C (bE C) dV K S0 (r.bind λ_ i=>fx C.T k out c a i d)→X (.ptr C.bp 0) (d:Int) (.ptr b1 0) (.ptr b3 0) (c:Int) H
theorem anz(hbp:C.bp<S0.n)(dd:∀b,aj C.vT b→b<S0.n)(hX:OB C S0 K b1 b3 a k d X){c:Nat}{v:AV}{out:List au}{γ:Type}{r:ak γ}(hc:c≤out.length)(ho:∀x i,r=.ok x i→out.length≤128)(ho2:out.length%2=0)(hM:Mem H S)(hs:aZ C S r)(t:tQ C S0 (zB S0 b1 b3) S b1 b3 a v out)(hP:aU C (bE C) dV K S0 (r.bind λ_ j=>py C.T k a out c j d)) :
  CK (cN (s10 m)) K X (.ptr C.bp 0) (d:Int) (.ptr b1 0) (.ptr b3 0) (c:Int) H:=by
 have r2:(cN (s10 m)).2.1=f40:=rfl;show CJ (cN (s10 m)) K X (u4 (cN (s10 m)) K) (.ptr C.bp 0) (d:Int) (.ptr b1 0) (.ptr b3 0) (c:Int) H;unfold CJ;rw[r2];refine dx (s:=[44]) (aX (by decide)) hM hs (λy j er hi H1 S1 m1 c1 d1=>?_) λh1 H1 S1 m1 c1 d1=>?_
 ·cases er;simp only[al,aM,Bool.not_true,aH];have hP:aU C (bE C) dV K S0 (py C.T k a out c j d):=hP;unfold py at hP;rw[if_pos (.inl hi)]at hP;exact hX c v out H1 S1 (.ok () (j+1):ak Unit) hc (ho y j rfl) ho2 m1 d1 (t.keep hM hbp c1) hP
 simp only[al,aM,Bool.not_false,aG];have t1:=t.keep hM hbp c1;refine dx (s:=[59]) (aX (by decide)) m1 d1 (λy j er hi H2 S2 m2 c2 d2=>?_) λh2 H2 S2 m2 c2 d2=>?_
 ·cases er;simp only[al,aM,Bool.not_true,aH];have hP:aU C (bE C) dV K S0 (py C.T k a out c j d):=hP;unfold py at hP;rw[if_pos (.inr hi)]at hP;exact hX c v out H2 S2 (.ok () (j+1):ak Unit) hc (ho y j rfl) ho2 m2 d2 (t1.keep m1 hbp c2) hP
 simp only[al,aM,Bool.not_false,aG];have sp:(r.bind λ_ j=>py C.T k a out c j d)=r.bind λ_ i=>(aS C.T [125] i).bind λ_ j=>.ok (.mk 8 a 0 [] 0 out []) j:=by
  cases r with
  |ok y j=>
   have h1:isA C.T [44] j=false:=h1;have h2:isA C.T [59] j=false:=h2;show py C.T k a out c j d=_;unfold py;rw[if_neg (by rw[h1,h2];simp)];rfl
  |err c i=>rfl
  |bb=>rfl
 rw[sp]at hP;exact Mt hbp dd m2 d2 (t1.keep m1 hbp c2) hP
theorem EE(O:gA C m)(hd:d≤200)(hbp:C.bp<S0.n)(dd:∀b,aj C.vT b→b<S0.n)(hX:OB C S0 K b1 b3 a k d X){c bk kf:Nat}(hkf:2*kf+4≤m){v:AV}{ck:List AV}{kk:au}{out:List au}{γ:Type}{r:ak γ}(hc:c≤out.length+1)(ho:∀x i,r=.ok x i→out.length<128)(hol:out.length≤128)(ho2:out.length%2=0)(hM:Mem H S)(hs:aZ C S r)(t:tQ C S0 (zK S0 b1 b3 bk) S b1 b3 a v out)(hk:vP S0 S b1 b3 bk v ck kk)
  (hP:aU C (bE C) dV K S0 (r.bind λ_ j=>(bP C.T kf j d).bind λx j=>py C.T k a (out++[kk,x]) c j d)) :
  nN (cN (s10 m)) K X (.ptr C.bp 0) (d:Int) (.ptr b1 0) (.ptr b3 0) (c:Int) (.ptr bk 0) H:=by
 have r4:(cN (s10 m)).2.2.2.1=(s10 m).2.1:=rfl;show CL (cN (s10 m)) K (CK (cN (s10 m)) K X) (.ptr C.bp 0) (d:Int) (.ptr b1 0) (.ptr b3 0) (c:Int) (.ptr bk 0) H;unfold CL;rw[r4];refine O.exp kf hkf hd hM hs (aU.call (eT:=dV) hP.seq λx H1 S1 w m1 c1 d1 ⟨cv,hv,hR⟩ hP1=>?_);subst hv;have t1:=t.keep hM hbp c1;have k1:=hk.keep hM hbp c1;have n0:=t.w.x.1;have OC:∀b,aj v b→b<S.n:=λb hb=>t.L.lt hM hb;have lt:=t.w.lt hM;refine e8 ?_;rw[jK];refine dt m1 fy λH2 m2=>?_;refine kg m2 (LS.aq _ _) rfl hR.len hR.ones λH3 m3=>?_;have c3:aK bU S1 ((S1.push (.ce z7 0)).set S1.n (.ce cv 0)):=((aK.refl _ _).push _).set (.inr (Nat.le_refl _)) _;have d3:=d1.ik m1 c3;have t3:=t1.keep m1 hbp c3.no;have k3:=k1.keep m1 hbp c3.no;have b3':LS.ob _ S1.n=_:=LS.av (S1.push (.ce z7 0)) S1.n (.ce cv 0);have R3:RE ((S1.push (.ce z7 0)).set S1.n (.ce cv 0)) (jd S.n S1.n) cv x:=hR.go (λb hb=>c3.2 b hb.2 λq=>q) λ_ h=>h;have n3:((S1.push (.ce z7 0)).set S1.n (.ce cv 0)).n=S1.n+1:=rfl;revert m3 c3 d3 t3 k3 b3' R3 n3;generalize (S1.push (.ce z7 0)).set S1.n (.ce cv 0)=S3;intro m3 c3 d3 t3 k3 b3' R3 n3;have n1:=c1.1;rw[aQ];refine aD m3 t3.o3 (v:=v) rfl ?_;refine gO m3 k3.o k3.len ?_;refine gO m3 b3' hR.len ?_;simp only[iN];refine gx k3.len (gx hR.len ?_);rw[zh k3.len hR.len rfl];refine dJ m3 (by rw[List.length_append,k3.len,hR.len]) (λy h=>?_) λH4 m4=>?_
 ·rcases List.mem_append.1 h with g|g
  ·exact k3.ones y g
  ·exact hR.ones y g
 have c4:aK bU S3 (S3.push (.ce (ck++cv) 0)):=(aK.refl _ _).push _;have t4:=t3.keep m3 hbp c4.no;have k4:=k3.keep m3 hbp c4.no;have d4:=d3.ik m3 c4;have R4:RE (S3.push (.ce (ck++cv) 0)) (jd S.n S1.n) cv x:=R3.go (λb hb=>c4.2 b (by have:=hb.2;omega) λq=>q) λ_ h=>h;have L4:aW km (zB S0 b1 b3) (S3.push (.ce (ck++cv) 0)) v out:=t4.L.imp m4 λb hb _=>hb.1;refine L4.Ro (R:=km) (bytes:=96) (l2:=[kk,x]) m4 rfl (dZ.two (Q:=λb=>b=S3.n) rfl (LS.aq _ _) k3.len hR.len) (λix y h=>?_) (λb hb=>?_) (by omega) λH5 S5 v5 m5 L5 n5 q5 bk5=>?_
 ·match ix,h with
  |0,h=>
   have e1:kk=y:=by simpa using h
   subst e1;exact k4.re
  |1,h=>
   have e1:x=y:=by simpa using h
   subst e1;exact⟨_,R4,λb hb=>⟨⟨by have:=hb.1;omega,by have:=hb.1;omega,by have:=hb.1;omega⟩,by show b<S3.n+1;have:=hb.2;omega,λq=>by have:=OC b q;have:=hb.1;omega⟩⟩
  |ix+2,h=>simp at h
 ·have hb:S3.n+1≤b:=hb;exact⟨by omega,by omega,by omega⟩
 have OD:∀b,aj v b→zB S0 b1 b3 b:=λb hb=>(t.L.Ex hb).1;have c5:aK (λb=>aj v b) (S3.push (.ce (ck++cv) 0)) S5:=⟨n5,λb hb hx=>q5 b hb hx⟩
 have d5:=d4.keep m4 c5 (λq=>by have:=(OD _ q).1;omega) (λb hb q=>by have:=(OD _ q).1;have:=dd b hb;omega);have w5:=t4.w.EC m4 c5 λb hb=>⟨(OD b hb).2.1,(OD b hb).2.2,.inr (OD b hb).1⟩
 have o5:S5.ob b3=.ce (sR a v) 0:=c5.ob m4 t4.o3 λq=>(OD _ q).2.2 rfl;rw[aQ];refine bH m5 o5 (by omega) (by show 5<7;omega) L5.one λH6 m6=>?_;have m6:Mem H6 (S5.set b3 (.ce (sR a v5) 0)):=m6;have hn3:=w5.n3;obtain⟨z,hz,mZ⟩:=w5.o1;have t6:tQ C S0 (zB S0 b1 b3) (S5.set b3 (.ce (sR a v5) 0)) b1 b3 a v5 (out++[kk,x]):=
  ⟨⟨w5.x.set (.inr hn3) _,⟨z,(LS.an _ _ w5.ne).trans hz,mZ⟩,⟨_,LS.av _ _ _,rfl⟩,w5.n1,hn3,w5.ne⟩,LS.av _ _ _,L5.keep m5 (Nat.le_refl _) λb hb _=>LS.an _ _ hb.2.2,λ_ h=>h⟩
 refine anz hbp dd hX (out:=out++[kk,x]) (by simp;omega) (λy j er=>?_) (by simp;omega) m6 (d5.setB (by omega) (λx hx=>by have:=dd x hx;omega) _) t6 hP1;have:out.length<128:=by
  cases r with
  |ok y' j'=>exact ho y' j' rfl
  |err c i=>cases er
  |bb=>cases er
 simp;omega
end
end
section
variable {H:AH}{S:LS}{K:KF}{C:Ctx}{i d:Nat}
theorem acv{j:Nat}{v:AV}{k:AV→Prop}{γ:Type}{y:γ}(hM:Mem H S)(hd:aZ C S (ak.ok y i))(hlt:i+1<C.T.length)(hj:j<4)(hv:(mX C.T (i+1))[j]? = some v)(hk:k v) :
  ao (.ptr C.bp 0) (af 0 (.ptr C.bp 0) λv1=>ad v1 H λv2=>ao (.ptr C.bp 0) (af 1 (.ptr C.bp 0) λv3=>ad v3 H λv4=>cI 0 v4 λz5=>ax 0 (Int.add z5 (.ofNat 1)) λz6=>bf 4 v2 (.int 0 z6) λv6=>af j v6 λv7=>ad v7 H k)):=by
 have hfew:=C.few;simp only[bY,aQ,Nat.zero_add];refine aD hM hd.ob (v:=C.vT) rfl ?_;refine aD hM hd.ob (v:=.int 0 (i:Int)) rfl ?_;simp only[aO,dS,fz];refine w0 (by omega) (by omega) ?_;exact Mp hM hd.tk hlt hj hv hk
section
variable {m k:Nat}{X:AV→Int→AV→AV→Int→AH→Prop}{S0:LS}{b1 b3 a:Nat}
theorem anA(hm:m≤1000000)(O:gA C m)(hd:d≤200)(hbp:C.bp<S0.n)(dd:∀b,aj C.vT b→b<S0.n)(hX:OB C S0 K b1 b3 a k d X)(hk:2*k+4≤m){c:Nat}{v:AV}{out:List au}{γ:Type}{r:ak γ}(hc:c≤out.length)(ho:∀x i,r=.ok x i→out.length<128)(hol:out.length≤128)(ho2:out.length%2=0)(hM:Mem H S)(hs:aZ C S r)(t:tQ C S0 (zB S0 b1 b3) S b1 b3 a v out)
  (hP:aU C (bE C) dV K S0 (r.bind λ_ i=>(ie C.T k c i d).bind λp j=>py C.T k a (out++p.1) p.2 j d)) :
  CS (cN (s10 m)) K X (.ptr C.bp 0) (d:Int) (.ptr b1 0) (.ptr b3 0) (c:Int) H:=by
 have r1:(cN (s10 m)).1=f39:=rfl;have r2:(cN (s10 m)).2.1=f40:=rfl;have r4:(cN (s10 m)).2.2.2.1=(s10 m).2.1:=rfl;have r5:(cN (s10 m)).2.2.2.2.1=f57:=rfl;have r6:(cN (s10 m)).2.2.2.2.2.1=f59:=rfl;have e0:Int.ofNat 0=((0:Nat):Int):=rfl;have e2:Int.ofNat 2=((2:Nat):Int):=rfl;have e5:Int.ofNat 5=((5:Nat):Int):=rfl;show CR (cN (s10 m)) K (Ki (cN (s10 m)) K X) (Kj (cN (s10 m)) K X) (nN (cN (s10 m)) K X) (CQ (cN (s10 m)) K X) (.ptr C.bp 0) (d:Int) (.ptr b1 0) (.ptr b3 0) (c:Int) H;unfold CR;rw[r1,r2,r4];have n0:=t.w.x.1;have lt:=t.w.lt hM;have OC:∀b,aj v b→b<S.n:=λb hb=>t.L.lt hM hb;have nb:∀b,S0.n≤b→¬bE C b:=λb hb q=>by have q:b=C.bp:=q;omega
 refine kU hM hs ?_;rw[al,aO];refine e8 ?_;rw[jK];refine dt hM fy λH1 m1=>?_;refine kg m1 (c:=[.int 0 ((0:Nat):Int),.int 0 (ay C.T r.ix:Int),.int 0 ((0:Nat):Int),ai [],.int 0 ((1:Nat):Int),.ab,.ab]) (LS.aq _ _) rfl rfl (λa h=>?_) λH2 m2=>?_
 ·simp only[List.mem_cons,List.not_mem_nil,or_false]at h;rcases h with rfl|rfl|rfl|rfl|rfl|rfl|rfl<;>rfl
 have c2:aK bU S ((S.push (.ce z7 0)).set S.n (.ce [.int 0 ((0:Nat):Int),.int 0 (ay C.T r.ix:Int),.int 0 ((0:Nat):Int),ai [],.int 0 ((1:Nat):Int),.ab,.ab] 0)):=((aK.refl _ _).push _).set (.inr (Nat.le_refl _)) _;have d2:=hs.ik hM c2;have t2:=t.keep hM hbp c2.no;have o2:LS.ob _ S.n=_:=LS.av (S.push (.ce z7 0)) S.n (.ce [.int 0 ((0:Nat):Int),.int 0 (ay C.T r.ix:Int),.int 0 ((0:Nat):Int),ai [],.int 0 ((1:Nat):Int),.ab,.ab] 0);have zk:zB S0 b1 b3 S.n:=⟨n0,by omega,by omega⟩
 have tk2:tQ C S0 (zK S0 b1 b3 S.n) ((S.push (.ce z7 0)).set S.n (.ce [.int 0 ((0:Nat):Int),.int 0 (ay C.T r.ix:Int),.int 0 ((0:Nat):Int),ai [],.int 0 ((1:Nat):Int),.ab,.ab] 0)) b1 b3 a v out:=
  ⟨t2.w,t2.o3,((t.L.imp hM λb hb hlt=>(⟨hb,by omega⟩:zK S0 b1 b3 S.n b)).keep hM c2.1 λb _ hlt=>c2.2 b hlt λq=>q),λb hb=>hb.1⟩
 have OE:vP S0 ((S.push (.ce z7 0)).set S.n (.ce [.int 0 ((0:Nat):Int),.int 0 (ay C.T r.ix:Int),.int 0 ((0:Nat):Int),ai [],.int 0 ((1:Nat):Int),.ab,.ab] 0)) b1 b3 S.n v [.int 0 ((0:Nat):Int),.int 0 (ay C.T r.ix:Int),.int 0 ((0:Nat):Int),ai [],.int 0 ((1:Nat):Int),.ab,.ab] (.mk 0 (ay C.T r.ix) 0 [] 1 [] []):=
  ⟨o2,zk,λq=>by have:=OC _ q;omega,λ_=>False,RE.simple B8.nil,λb hb=>hb.elim⟩
 have n2:((S.push (.ce z7 0)).set S.n (.ce [.int 0 ((0:Nat):Int),.int 0 (ay C.T r.ix:Int),.int 0 ((0:Nat):Int),ai [],.int 0 ((1:Nat):Int),.ab,.ab] 0)).n=S.n+1:=rfl;revert m2 c2 d2 t2 o2 tk2 OE n2;generalize (S.push (.ce z7 0)).set S.n (.ce [.int 0 ((0:Nat):Int),.int 0 (ay C.T r.ix:Int),.int 0 ((0:Nat):Int),ai [],.int 0 ((1:Nat):Int),.ab,.ab] 0)=S2;intro m2 c2 d2 t2 o2 tk2 OE n2;refine im m2 d2 ?_;rw[bu,e0];rcases yv hs with⟨ec,y,i,rfl⟩|⟨ec,c1,i,rfl⟩
 ·have ho:=ho y i rfl;rw[ec,decide_eq_true rfl];simp only[Bool.not_true,aH];have qY:(ak.ok y i).ix=i:=rfl;rw[qY]at OE;have hP:aU C (bE C) dV K S0 ((ie C.T k c i d).bind λp j=>py C.T k a (out++p.1) p.2 j d):=hP;cases k with
  |zero=>exact absurd (show(ie C.T 0 c i d).bind _=.bb by simp only[ie];rfl) hP.1
  |succ k=>
  simp only[ie]at hP;refine dx (s:=[91]) (aX (by decide)) m2 d2 (λy j er hi H3 S3 m3 c3 d3=>?_) λh1 H3 S3 m3 c3 d3=>?_
  ·cases er;simp only[al,aM,aG];rw[if_pos hi]at hP;simp only[bJ]at hP;have t3:=tk2.keep m2 hbp c3;have OF:=OE.keep m2 hbp c3;have n3:=c3.1;refine O.exp k (by omega) hd m3 d3 (aU.call (eT:=dV) hP λkk H4 S4 w m4 c4 d4 ⟨ck,hv,hR⟩ vO=>?_);subst hv;have t4:=t3.keep m3 hbp c4;have ky4:=OF.keep m3 hbp c4;refine kg m4 ky4.o rfl hR.len hR.ones λH5 m5=>?_;have d5:=d4.setB (by omega) (λx hx=>by have:=dd x hx;omega) (.ce ck 0) (b:=S.n);have t5:=t4.gQ m4 zk (.ce ck 0);have OG:vP S0 (S4.set S.n (.ce ck 0)) b1 b3 S.n v ck kk:=
    ⟨LS.av _ _ _,zk,λq=>by have:=OC _ q;omega,_,hR.go (λb hb=>LS.an _ _ (by have:=hb.1;omega)) λ_ h=>h,λb hb=>⟨⟨by have:=hb.1;omega,by have:=hb.1;omega,by have:=hb.1;omega⟩,hb.2,λq=>by have:=OC b q;have:=hb.1;omega⟩⟩
   show CO (cN (s10 m)) K (nN (cN (s10 m)) K X) (.ptr C.bp 0) (d:Int) (.ptr b1 0) (.ptr b3 0) (c:Int) (.ptr S.n 0) H5;unfold CO;rw[r6];refine ks (s:=[93]) (aX (by decide)) m5 d5 (aU.call (eT:=mY) vO.seq λ_ H6 S6 w m6 c6 d6 _ EF=>?_);have t6:=t5.keep m5 hbp c6;have ky6:=OG.keep m5 hbp c6;refine ks (s:=[61]) (aX (by decide)) m6 d6 (aU.call (eT:=mY) EF.seq λ_ H7 S7 w m7 c7 d7 _ xi=>?_);exact EE O hd hbp dd hX (kf:=k) (by omega) (by omega) (λ_ _ _=>ho) hol ho2 m7 d7 (t6.keep m6 hbp c7) (ky6.keep m6 hbp c7) xi
  have h1:isA C.T [91] i=false:=h1;simp only[al,aM,aH];rw[if_neg (by rw[h1];simp)]at hP;have t3:=tk2.keep m2 hbp c3;have OF:=OE.keep m2 hbp c3;have n3:=c3.1;refine zi m3 d3 (j:=0) (v:=.int 0 (bW C.T i:Int)) (by omega) rfl ?_;rw[aO,bu,e2];have plain:¬(bW C.T i=2∧bW C.T (i+1)=5∧fM C.T (i+1)=[61])→CQ (cN (s10 m)) K X (.ptr C.bp 0) (d:Int) (.ptr b1 0) (.ptr b3 0) (c:Int) (.ptr S.n 0) H3:=by
   intro hne;rw[if_neg hne]at hP;simp only[bJ]at hP;show CP (cN (s10 m)) K (FA (cN (s10 m)) K X) (.ptr C.bp 0) (d:Int) (.ptr b1 0) (.ptr b3 0) (c:Int) (.ptr S.n 0) H3;unfold CP;rw[dS,fz];refine w0 (by omega) (by omega) ?_;show y9 (cN (s10 m)) K (nN (cN (s10 m)) K X) (.ptr C.bp 0) (d:Int) (.ptr b1 0) (.ptr b3 0) ((c+1:Nat):Int) (.ptr S.n 0) H3;unfold y9;simp only[aQ,Nat.zero_add];refine bH (v:=.int 0 ((4:Nat):Int)) m3 OF.o (by omega) (by show 0<7;omega) rfl λH4 m4=>?_;refine bH (v:=.int 0 ((c+1:Nat):Int)) m4 (LS.av _ _ _) (by omega) (by show 2<7;omega) rfl λH5 m5=>?_;have m4':Mem H4 (S3.set S.n (.ce [.int 0 ((4:Nat):Int),.int 0 (ay C.T i:Int),.int 0 ((0:Nat):Int),ai [],.int 0 ((1:Nat):Int),.ab,.ab] 0)):=m4;have m5':Mem H5 ((S3.set S.n (.ce [.int 0 ((4:Nat):Int),.int 0 (ay C.T i:Int),.int 0 ((0:Nat):Int),ai [],.int 0 ((1:Nat):Int),.ab,.ab] 0)).set S.n (.ce [.int 0 ((4:Nat):Int),.int 0 (ay C.T i:Int),.int 0 ((c+1:Nat):Int),ai [],.int 0 ((1:Nat):Int),.ab,.ab] 0)):=m5;have t5:=(t3.gQ m3 zk (.ce [.int 0 ((4:Nat):Int),.int 0 (ay C.T i:Int),.int 0 ((0:Nat):Int),ai [],.int 0 ((1:Nat):Int),.ab,.ab] 0)).gQ m4' zk (.ce [.int 0 ((4:Nat):Int),.int 0 (ay C.T i:Int),.int 0 ((c+1:Nat):Int),ai [],.int 0 ((1:Nat):Int),.ab,.ab] 0);have OG:=(OF.set (kind:=4) (at_:=ay C.T i) (n:=0) (op:=1) (s:=[]) B8.nil).set (kind:=4) (at_:=ay C.T i) (n:=c+1) (op:=1) (s:=[]) B8.nil;have d5:=(d3.setB (b:=S.n) (by omega) (λx hx=>by have:=dd x hx;omega) (.ce [.int 0 ((4:Nat):Int),.int 0 (ay C.T i:Int),.int 0 ((0:Nat):Int),ai [],.int 0 ((1:Nat):Int),.ab,.ab] 0)).setB (b:=S.n) (by omega) (λx hx=>by have:=dd x hx;omega) (.ce [.int 0 ((4:Nat):Int),.int 0 (ay C.T i:Int),.int 0 ((c+1:Nat):Int),ai [],.int 0 ((1:Nat):Int),.ab,.ab] 0);exact EE O hd hbp dd hX (kf:=k) (c:=c+1) (by omega) (by omega) (λ_ _ _=>ho) hol ho2 m5' d5 t5 OG hP
  by_cases g2:bW C.T i=2
  ·rw[decide_eq_true (by omega),aG];have hlt:=kT (i:=i) C.ok (by omega);refine acv m3 d3 hlt (j:=0) (v:=.int 0 (bW C.T (i+1):Int)) (by omega) rfl ?_;rw[aO,bu,e5];by_cases g5:bW C.T (i+1)=5
   ·rw[decide_eq_true (by omega),aG];refine acv m3 d3 hlt (j:=1) (v:=ai (fM C.T (i+1))) (by omega) rfl ?_;refine wG (m:=[61]) (vM C (i+1)) (aX (by decide)) ?_;rw[aM];by_cases gt:fM C.T (i+1)=[61]
    ·rw[decide_eq_true gt,aG];rw[if_pos ⟨g2,g5,gt⟩]at hP;have ei:isA C.T [61] (i+1)=true:=by unfold isA;rw[g5,gt];rfl
     have sp:((bP C.T k (i+2) d).bind λv j=>ak.ok (([.mk 5 (ay C.T i) 0 (fM C.T i) 1 [] [],v],c):List au×Nat) j).bind (λp j=>py C.T (k+1) a (out++p.1) p.2 j d)=((ak.ok y i).bind λ_ i=>ey C.T i).bind λs j=>(aS C.T [61] j).bind λ_ j=>(bP C.T k j d).bind λv j=>py C.T (k+1) a (out++[.mk 5 (ay C.T i) 0 s 1 [] [],v]) c j d:=by
      rw[bJ];show _=(ey C.T i).bind _;unfold ey;rw[if_pos g2];show _=(aS C.T [61] (i+1)).bind _;unfold aS;rw[ei];rfl
     rw[sp]at hP;show CN (cN (s10 m)) K (Kh (cN (s10 m)) K X) (.ptr C.bp 0) (d:Int) (.ptr b1 0) (.ptr b3 0) (c:Int) (.ptr S.n 0) H3;unfold CN;rw[aQ,Nat.zero_add];refine bH (v:=.int 0 ((5:Nat):Int)) m3 OF.o (by omega) (by show 0<7;omega) rfl λH4 m4=>?_;have m4:Mem H4 (S3.set S.n (.ce [.int 0 ((5:Nat):Int),.int 0 (ay C.T i:Int),.int 0 ((0:Nat):Int),ai [],.int 0 ((1:Nat):Int),.ab,.ab] 0)):=m4;have t4:=t3.gQ m3 zk (.ce [.int 0 ((5:Nat):Int),.int 0 (ay C.T i:Int),.int 0 ((0:Nat):Int),ai [],.int 0 ((1:Nat):Int),.ab,.ab] 0);have ky4:=OF.set (kind:=5) (at_:=ay C.T i) (n:=0) (op:=1) (s:=[]) B8.nil;have d4:=d3.setB (b:=S.n) (by omega) (λx hx=>by have:=dd x hx;omega) (.ce [.int 0 ((5:Nat):Int),.int 0 (ay C.T i:Int),.int 0 ((0:Nat):Int),ai [],.int 0 ((1:Nat):Int),.ab,.ab] 0);show CM (cN (s10 m)) K (nN (cN (s10 m)) K X) (.ptr C.bp 0) (d:Int) (.ptr b1 0) (.ptr b3 0) (c:Int) (.ptr S.n 0) H4;unfold CM;rw[r5,r6];refine rL m4 d4 (aU.call (eT:=Mk) hP λs H5 S5 w m5 c5 d5 ⟨hv,h8⟩ tR=>?_);subst hv;have t5:=t4.keep m4 hbp c5;have OG:=ky4.keep m4 hbp c5;rw[aQ,Nat.zero_add];refine bH m5 OG.o (by omega) (by show 3<7;omega) (kP s) λH6 m6=>?_;have m6:Mem H6 (S5.set S.n (.ce [.int 0 ((5:Nat):Int),.int 0 (ay C.T i:Int),.int 0 ((0:Nat):Int),ai s,.int 0 ((1:Nat):Int),.ab,.ab] 0)):=m6;have t6:=t5.gQ m5 zk (.ce [.int 0 ((5:Nat):Int),.int 0 (ay C.T i:Int),.int 0 ((0:Nat):Int),ai s,.int 0 ((1:Nat):Int),.ab,.ab] 0);have ky6:=OG.set (kind:=5) (at_:=ay C.T i) (n:=0) (op:=1) (s:=s) h8;have d6:=d5.setB (b:=S.n) (by omega) (λx hx=>by have:=dd x hx;omega) (.ce [.int 0 ((5:Nat):Int),.int 0 (ay C.T i:Int),.int 0 ((0:Nat):Int),ai s,.int 0 ((1:Nat):Int),.ab,.ab] 0);refine ks (s:=[61]) (aX (by decide)) m6 d6 (aU.call (eT:=mY) tR.seq λ_ H7 S7 w m7 c7 d7 _ xi=>?_);exact EE O hd hbp dd hX (kf:=k) (by omega) (by omega) (λ_ _ _=>ho) hol ho2 m7 d7 (t6.keep m6 hbp c7) (ky6.keep m6 hbp c7) xi
    ·rw[decide_eq_false gt,aH];exact plain λq=>gt q.2.2
   ·rw[decide_eq_false (by omega),aH];exact plain λq=>g5 q.2.1
  ·rw[decide_eq_false (by omega),aH];exact plain λq=>g2 q.1
 ·rw[decide_eq_false (by omega)];simp only[Bool.not_false,aG];exact EE O hd hbp dd hX (kf:=0) (by have:=hk;omega) (by omega) ho hol ho2 m2 d2 tk2 OE hP
theorem acw(hm:m≤1000000)(O:gA C m)(hd:d≤200)(hbp:C.bp<S0.n)(dd:∀b,aj C.vT b→b<S0.n)(hk:2*k+4≤m+1)
  (hrec:∀k',k=k'+1→OB C S0 K b1 b3 a k' d X):OB C S0 K b1 b3 a k d (Kk (cN (s10 m)) K X):=by
 intro c v out H S γ r hc ho ho2 hM hs t hP;have r3:(cN (s10 m)).2.2.1=f41:=rfl;have r7:(cN (s10 m)).2.2.2.2.2.2=f76:=rfl;have e0:Int.ofNat 0=((0:Nat):Int):=rfl;have e64:Int.ofNat 64=((64:Nat):Int):=rfl;show CT (cN (s10 m)) K (CS (cN (s10 m)) K X) (u4 (cN (s10 m)) K) (.ptr C.bp 0) (d:Int) (.ptr b1 0) (.ptr b3 0) (c:Int) H;unfold CT;rw[r3,r7];refine im hM hs ?_;rw[bu,e0];rcases yv hs with⟨ec,y,i,rfl⟩|⟨ec,c1,i,rfl⟩
 ·rw[ec,decide_eq_true rfl,aG];have hP:aU C (bE C) dV K S0 (fx C.T k out c a i d):=hP;cases k with
  |zero=>exact absurd (show fx C.T 0 out c a i d=.bb by simp only[fx]) hP.1
  |succ k=>
  simp only[fx]at hP;refine rC (s:=[125]) (aX (by decide)) hM hs λH1 S1 m1 c1 d1=>?_;rw[al,aM];have t1:=t.keep hM hbp c1.no;have ed:oG C.T [125] (ak.ok y i)=isA C.T [125] i:=rfl;rw[ed];cases h1:isA C.T [125] i with
  |true=>
   simp only[Bool.not_true,aH];rw[if_pos h1]at hP;refine Mt hbp dd m1 d1 t1 ?_;have sp:((ak.ok y i).bind λ_ i=>(aS C.T [125] i).bind λ_ j=>.ok (au.mk 8 a 0 [] 0 out []) j)=.ok (au.mk 8 a 0 [] 0 out []) (i+1):=by
    show(aS C.T [125] i).bind _=_;unfold aS;rw[h1];rfl
   rw[sp];exact hP
  |false=>
   simp only[Bool.not_false,aG];rw[if_neg (by rw[h1];simp)]at hP;rw[aQ];refine aD m1 t1.o3 (v:=v) rfl ?_;refine t1.L.FK ?_;have etd:Int.tdiv (out.length:Int) (.ofNat 2)=((out.length/2:Nat):Int):=rfl;rw[aO,bu,etd,decide_eq_false (by decide),aH];refine w0 (by omega) (by omega) ?_;rw[e64];have sp:(if out.length=128 then .err 8 i else (ie C.T k c i d).bind λr j=>if isA C.T [44] j=true∨isA C.T [59] j=true then fx C.T k (out++r.1) r.2 a (j+1) d else (aS C.T [125] j).bind λ_ k=>.ok (.mk 8 a 0 [] 0 (out++r.1) []) k)=((ak.ok y i).bind λ_ i=>dy (64≤out.length/2) i).bind λ_ i=>(ie C.T k c i d).bind λp j=>py C.T k a (out++p.1) p.2 j d:=by
    show _=(dy (64≤out.length/2) i).bind _;unfold dy;by_cases g:out.length=128
    ·rw[if_pos g,if_pos (by omega)];rfl
    ·rw[if_neg g,if_neg (by omega)];rfl
   rw[sp]at hP;refine FL m1 d1 (aU.call (eT:=mY) hP λ_ H2 S2 w m2 c2 d2 _ hP2=>?_);refine anA hm O hd hbp dd (hrec k rfl) (by omega) hc (λx j er=>?_) ho ho2 m2 d2 (t1.keep m1 hbp c2) hP2;rcases Nat.lt_or_ge out.length 128 with g|g
   ·exact g
   ·have er:dy (64≤out.length/2) i=.ok x j:=er;unfold dy at er;rw[if_pos (by omega)]at er;cases er
 ·rw[decide_eq_false (by omega),aH];exact Mt hbp dd hM hs t hP
theorem anB(hm:m≤1000000)(O:gA C m)(hd:d≤200)(hbp:C.bp<S0.n)(dd:∀b,aj C.vT b→b<S0.n):∀k,2*k+4≤m+1→∀q,k<q→OB C S0 K b1 b3 a k d (CU (cN (s10 m)) K q):=by
 intro k
 induction k with
 |zero=>
  intro hk q hq;obtain⟨q,rfl⟩:∃p,q=p+1:=⟨q-1,by omega⟩
  exact acw hm O hd hbp dd hk (λk' h=>absurd h (by omega))
 |succ k ih=>
  intro hk q hq;obtain⟨q,rfl⟩:∃p,q=p+1:=⟨q-1,by omega⟩
  exact acw hm O hd hbp dd hk (λk' h=>by
   obtain rfl:k=k':=by omega
   exact ih (by omega) q (by omega))
end
theorem aqy{m:Nat}(hm:m≤1000000)(O:gA C m):∀k,2*k+4≤m+1→∀{K:KF}{H:AH}{S:LS}{i d a:Nat}{γ:Type}{x:γ},d≤200→Mem H S→aZ C S (ak.ok x i)→aU C (bE C) dV K S (fx C.T k [] 0 a i d)→(s10 (m+1)).2.2.2.2.2.2.2.2.2 (.ptr C.bp 0) (a:Int) (d:Int) H K:=by
 intro k hk K H S i d a γ x hd hM hs hP;have e7:(s10 (m+1)).2.2.2.2.2.2.2.2.2=CV (cN (s10 m)):=by rw[zo]
 rw[e7];unfold CV VM Kl;have iR:G.NL=1000000:=rfl;generalize G.NL=iq at iR ⊢;rw[jK];refine e8 (dt hM fy λH1 m1=>?_);refine e8 ?_;rw[jK];refine dt m1 fy λH2 m2=>?_;refine kg (c:=sR a .ab) m2 (LS.aq _ _) rfl rfl aec λH3 m3=>?_;have c3:aK bU S (((S.push (.ce z7 0)).push (.ce z7 0)).set (S.n+1) (.ce (sR a .ab) 0)):=(((aK.refl _ _).push _).push _).set (.inr (Nat.le_succ _)) _;have o1:(((S.push (.ce z7 0)).push (.ce z7 0)).set (S.n+1) (.ce (sR a .ab) 0)).ob S.n=.ce z7 0:=by
  rw[LS.an _ _ (by omega),LS.bR _ _ (by show S.n<S.n+1;omega)];exact LS.aq _ _
 have o3:(((S.push (.ce z7 0)).push (.ce z7 0)).set (S.n+1) (.ce (sR a .ab) 0)).ob (S.n+1)=.ce (sR a .ab) 0:=LS.av _ _ _;have e0:Int.ofNat 0=((0:Nat):Int):=rfl;rw[e0];have hbp:=hs.mW hM;exact anB hm O hd hbp (λb hb=>hs.tk.lt hM hb) k (by omega) iq (by omega) 0 .ab [] H3 _ (ak.ok x i) (Nat.le_refl _) (by simp) (by simp) m3 (hs.ik hM c3) ⟨⟨c3.no,⟨z7,o1,rfl⟩,⟨_,o3,rfl⟩,Nat.le_refl _,Nat.le_succ _,by show S.n≠S.n+1;omega⟩,o3,aW.nil _ _ _,λ_ h=>h⟩ hP
end
end Go.Proofs.YtcedghechlgecaaDoor
namespace Go.X
section
variable {H:AH}{S S':LS}
theorem aW.nm{Z:Nat→Prop}{v:AV}{l:List (List Nat)}(h:aW uh Z S v l)(hM:Mem H S):kK S (λb=>Z b∧b<S.n) v l:=by
 obtain⟨cl,h1,h2⟩:=h.done hM;refine⟨h1.congr λi hi=>?_,λt ht=>?_⟩
 ·have g:=(h2 i _ (List.getElem?_eq_getElem hi)).1;rw[List.getElem?_eq_getElem hi];exact g
 ·obtain⟨i,hi,e⟩:=List.mem_iff_getElem.1 ht;have g:=(h2 i _ (List.getElem?_eq_getElem hi)).2;rw[e]at g;exact g
end
end Go.X
namespace Go.Proofs.YtcedghechlgecaaDoor
open Go Go.X Go.Proofs.YtcedghechlgecaaDoor.G
section
variable {H:AH}{S:LS}{K:KF}{C:Ctx}{i d:Nat}
structure zM(C:Ctx)(S0 S:LS)(b1 b3:Nat)(v:AV)(out:List (List Nat)):Prop where
 x:aK (bE C) S0 S
 o1:S.ob b1=.ce [.ab,.ab] 0
 o3:S.ob b3=.ce [v,.ab] 0
 n1:S0.n≤b1
 n3:S0.n≤b3
 ne:b1≠b3
 L:aW uh (zB S0 b1 b3) S v out
theorem zM.keep{S0 S':LS}{b1 b3:Nat}{v:AV}{out:List (List Nat)}(h:zM C S0 S b1 b3 v out)(hM:Mem H S)(hbp:C.bp<S0.n)(g:aK (bE C) S S'):zM C S0 S' b1 b3 v out:=by
 have nb:∀b,S0.n≤b→¬bE C b:=λb hb q=>by have q:b=C.bp:=q;omega
 exact⟨h.x.trans g,g.ob hM h.o1 (nb _ h.n1),g.ob hM h.o3 (nb _ h.n3),h.n1,h.n3,h.ne,h.L.bp hM hbp g⟩
def wV(T:List Tok)(k:Nat)(out:List (List Nat))(i:Nat):ak (List (List Nat)):=if out.length=16 then .err 8 i else (ey T i).bind λs j=>bQ T k false (out++[s]) j
def mq(T:List Tok)(k d:Nat)(out:List (List Nat))(j:Nat):ak fm:=(cj T k j d).bind λb j=>(aS T [101,110,100] j).bind λ_ j=>.ok (.mk out b) j
section
variable {m k:Nat}{S0:LS}{b1 b3:Nat}
theorem acx(O:gA C m)(hd:d≤200)(hbp:C.bp<S0.n)(dd:∀b,aj C.vT b→b<S0.n)(hk:2*k+4≤m){v:AV}{out:List (List Nat)}{γ:Type}{r:ak γ}(hM:Mem H S)(hs:aZ C S r)(t:zM C S0 S b1 b3 v out)(hP:aU C (bE C) qX K S0 (r.bind λ_ j=>mq C.T k d out j)) :
  xS (fY (s10 m)) K (.ptr C.bp 0) (d:Int) (.ptr b1 0) (.ptr b3 0) H:=by
 have r1:(fY (s10 m)).1=(s10 m).1:=rfl;have r4:(fY (s10 m)).2.2.2.1=f59:=rfl;show Cc (fY (s10 m)) K (.ptr C.bp 0) (d:Int) (.ptr b1 0) (.ptr b3 0) H;unfold Cc;rw[r1,r4];unfold mq at hP;have n0:=t.x.1;have OC:∀b,aj v b→b<S.n:=λb hb=>t.L.lt hM hb;have GG:b1<S.n:=hM.lt (by rw[t.o1];simp);have lt3:b3<S.n:=hM.lt (by rw[t.o3];simp);have hn1:=t.n1;have hn3:=t.n3;have nb:∀b,S0.n≤b→¬bE C b:=λb hb q=>by have q:b=C.bp:=q;omega
 refine O.block k hk hd hM hs (aU.call (eT:=gw) hP.seq λbl H1 S1 w m1 c1 d1 ⟨cb,hsl,hrs⟩ hP1=>?_);have t1:=t.keep hM hbp c1;rw[aQ,Nat.zero_add];refine bH m1 t1.o3 (by omega) (by show 1<2;omega) hsl.one λH2 m2=>?_;have m2:Mem H2 (S1.set b3 (.ce [v,w] 0)):=m2;have d2:=d1.setB (b:=b3) (by omega) (λx hx=>by have:=dd x hx;omega) (.ce [v,w] 0);refine ks (s:=[101,110,100]) (aX (by decide)) m2 d2 (aU.call (eT:=mY) hP1.seq λ_ H3 S3 w' m3 c3 d3 _ hP3=>?_);have o3:S3.ob b3=.ce [v,w] 0:=c3.ob m2 (LS.av _ _ _) (nb _ hn3);have kp:∀b,S0.n≤b→b<S1.n→b≠b3→S3.ob b=S1.ob b:=λb h1 h2 h3=>by rw[c3.2 b h2 (nb b h1),LS.an _ _ h3]
 have c3n:S1.n≤S3.n:=c3.1;have hn:=c1.1;have hR:RF S3 (λb=>zB S0 b1 b3 b∧b<S3.n) [v,w] (.mk out bl):=
  .mk out bl v w cb ((t1.L.nm m1).go (λb hb=>kp b hb.1.1 hb.2 hb.1.2.2) λb hb=>⟨hb.1,by have:=hb.2;omega⟩) (hsl.go (λb hb=>kp b (by have:=hb.1;omega) hb.2 (by have:=hb.1;omega)) λb hb=>⟨⟨by have:=hb.1;omega,by have:=hb.1;omega,by have:=hb.1;omega⟩,by have:=hb.2;omega⟩)
   λix s h=>(hrs ix s h).go (λb hb=>kp b (by have:=hb.1;omega) hb.2 (by have:=hb.1;omega)) λb hb=>⟨⟨by have:=hb.1;omega,by have:=hb.1;omega,by have:=hb.1;omega⟩,by have:=hb.2;omega⟩
 refine gO m3 o3 rfl ?_;have o1:S3.ob b1=.ce [.ab,.ab] 0:=by rw[kp b1 hn1 (by omega) t.ne];exact t1.o1
 refine kg m3 o1 rfl rfl hR.ones λH4 m4=>?_;refine gO m4 (LS.av _ _ _) rfl ?_;have x3:aK (bE C) S0 S3:=(t1.x.set (.inr hn3) (.ce [v,w] 0)).trans c3;exact hP3.2 H4 _ _ (.mk out bl) m4 (x3.set (.inr hn1) _) ((d3.ret _).setB (b:=b1) (by omega) (λx hx=>by have:=dd x hx;omega) _) ⟨_,rfl,hR.go (λb hb=>LS.an _ _ hb.1.2.1) λb hb=>⟨hb.1.1,hb.2⟩⟩ px
theorem acy(O:gA C m)(hd:d≤200)(hbp:C.bp<S0.n)(dd:∀b,aj C.vT b→b<S0.n)(hk:2*k+4≤m){v:AV}{out:List (List Nat)}{γ:Type}{r:ak γ}(hM:Mem H S)(hs:aZ C S r)(t:zM C S0 S b1 b3 v out)(hP:aU C (bE C) qX K S0 (r.bind λ_ i=>(aS C.T [41] i).bind λ_ j=>mq C.T k d out j)) :
  uW (fY (s10 m)) K (.ptr C.bp 0) (d:Int) (.ptr b1 0) (.ptr b3 0) H:=by
 have r4:(fY (s10 m)).2.2.2.1=f59:=rfl;show Cd (fY (s10 m)) K (xS (fY (s10 m)) K) (.ptr C.bp 0) (d:Int) (.ptr b1 0) (.ptr b3 0) H;unfold Cd;rw[r4];refine ks (s:=[41]) (aX (by decide)) hM hs (aU.call (eT:=mY) hP.seq λ_ H1 S1 w m1 c1 d1 _ hP1=>?_);exact acx O hd hbp dd hk m1 d1 (t.keep hM hbp c1) hP1
theorem acz(O:gA C m)(hd:d≤200)(hbp:C.bp<S0.n)(dd:∀b,aj C.vT b→b<S0.n)(hk:2*k+4≤m){Y:AV→Int→AV→AV→AH→Prop}{k8:Nat}
  (hrec:∀k',k8=k'+1→∀(out:List (List Nat)) (v:AV) (H:AH) (S:LS){γ:Type}(r:ak γ),out.length≤16→Mem H S→aZ C S r→zM C S0 S b1 b3 v out→aU C (bE C) qX K S0 ((r.bind λ_ i=>wV C.T k' out i).bind λl j=>mq C.T k d l j)→Y (.ptr C.bp 0) (d:Int) (.ptr b1 0) (.ptr b3 0) H)
  (out:List (List Nat)) (v:AV) (H:AH) (S:LS){γ:Type}(r:ak γ) (ho:out.length≤16) (hM:Mem H S) (hs:aZ C S r) (t:zM C S0 S b1 b3 v out)
  (hP:aU C (bE C) qX K S0 ((r.bind λ_ i=>wV C.T k8 out i).bind λl j=>mq C.T k d l j)) :
  JH (fY (s10 m)) K Y (.ptr C.bp 0) (d:Int) (.ptr b1 0) (.ptr b3 0) H:=by
 have r2:(fY (s10 m)).2.1=f40:=rfl;have r3:(fY (s10 m)).2.2.1=f57:=rfl;have r5:(fY (s10 m)).2.2.2.2=f76:=rfl;have e0:Int.ofNat 0=((0:Nat):Int):=rfl;have e16:Int.ofNat 16=((16:Nat):Int):=rfl;show Cf (fY (s10 m)) K (uW (fY (s10 m)) K) (JG (fY (s10 m)) K Y) (.ptr C.bp 0) (d:Int) (.ptr b1 0) (.ptr b3 0) H;unfold Cf;rw[r3,r5];have hn1:=t.n1;have hn3:=t.n3;refine im hM hs ?_;rw[bu,e0];rcases yv hs with⟨ec,a,i,rfl⟩|⟨ec,c1,i,rfl⟩
 ·rw[ec,decide_eq_true rfl,aG];rw[aQ,Nat.zero_add];refine aD hM t.o3 (v:=v) rfl ?_;refine t.L.FK ?_;rw[aO,e16];have sp:((ak.ok a i).bind λ_ i=>wV C.T k8 out i).bind (λl j=>mq C.T k d l j)=(((ak.ok a i).bind λ_ i=>dy (16≤out.length) i).bind λ_ i=>(ey C.T i).bind λx j=>(bQ C.T k8 false (out++[x]) j).bind λl j=>mq C.T k d l j):=by
   show(wV C.T k8 out i).bind _=(dy (16≤out.length) i).bind _;unfold wV dy;by_cases g:out.length=16
   ·rw[if_pos g,if_pos (by omega)];rfl
   ·rw[if_neg g,if_neg (by omega),bJ];rfl
  rw[sp]at hP;refine FL hM hs (aU.call (eT:=mY) hP λ_ H1 S1 w m1 c1 d1 _ hP1=>?_);have t1:=t.keep hM hbp c1;rw[aQ,Nat.zero_add];refine aD m1 t1.o3 (v:=v) rfl ?_;refine rL m1 d1 (aU.call (eT:=Mk) hP1.seq λx H2 S2 v2 m2 c2 d2 ⟨hv,h8⟩ hP2=>?_);subst hv;have t2:=t1.keep m1 hbp c2;refine aD m2 t2.o3 (v:=v) rfl ?_;refine cC t2.L.same ?_;refine m2.cL ?_;refine fC (kP x) ?_;have n2:=t2.x.1;have GG:b1<S2.n:=m2.lt (by rw[t2.o1];simp);have lt3:b3<S2.n:=m2.lt (by rw[t2.o3];simp);refine t2.L.pushB (R:=uh) (bytes:=16) (c:=[ai x]) (Q:=λ_=>False) m2 ⟨rfl,h8⟩ (λb hb=>hb.elim) (λb hb=>⟨by omega,by omega,by omega⟩) (by omega) λH3 S3 v3 m3 L3 n3 k3 bk3 ho3=>?_;have hvn:∀b,aj v b→zB S0 b1 b3 b:=λb hb=>t.L.Ex hb;have c3:aK (λb=>aj v b) S2 S3:=⟨n3,λb hb hx=>k3 b hb hx⟩
  have d3:=d2.keep m2 c3 (λq=>by have:=(hvn _ q).1;omega) (λb hb q=>by have:=(hvn _ q).1;have:=dd b hb;omega);have o3:S3.ob b3=.ce [v,.ab] 0:=c3.ob m2 t2.o3 λq=>(hvn _ q).2.2 rfl;have o1:S3.ob b1=.ce [.ab,.ab] 0:=c3.ob m2 t2.o1 λq=>(hvn _ q).2.1 rfl;refine bH m3 o3 (by omega) (by show 0<2;omega) ho3 λH4 m4=>?_;have m4:Mem H4 (S3.set b3 (.ce [v3,.ab] 0)):=m4;have t4:zM C S0 (S3.set b3 (.ce [v3,.ab] 0)) b1 b3 v3 (out++[x]):=
   ⟨(t2.x.rB c3 λb hb=>.inr (hvn b hb).1).set (.inr hn3) _,(LS.an _ _ t.ne).trans o1,LS.av _ _ _,hn1,hn3,t.ne,L3.keep m3 (Nat.le_refl _) λb hb _=>LS.an _ _ hb.2.2⟩
  have d4:=d3.setB (b:=b3) (by omega) (λx hx=>by have:=dd x hx;omega) (.ce [v3,.ab] 0);show Ce (fY (s10 m)) K Y (uW (fY (s10 m)) K) (.ptr C.bp 0) (d:Int) (.ptr b1 0) (.ptr b3 0) H4;unfold Ce;rw[r2];refine dx (s:=[44]) (aX (by decide)) m4 d4 (λy j er hi H5 S5 m5 c5 d5=>?_) λhi H5 S5 m5 c5 d5=>?_
  ·simp only[al,aM,Bool.not_true,aH];rw[er]at hP2;have hP2:aU C (bE C) qX K S0 ((bQ C.T k8 false (out++[x]) j).bind λl j=>mq C.T k d l j):=hP2;cases k8 with
   |zero=>exact absurd (show(bQ C.T 0 false (out++[x]) j).bind _=.bb by simp only[bQ];rfl) hP2.1
   |succ k8=>
    have ol:out.length<16:=by
     rcases Nat.lt_or_ge out.length 16 with g|g
     ·exact g
     ·exfalso;have e1:((ak.ok a i).bind λ_ i=>dy (16≤out.length) i)=.err 8 i:=by show dy _ i=_;unfold dy;rw[if_pos g]
      rw[e1]at er;cases er
    have sp:bQ C.T (k8+1) false (out++[x]) j=wV C.T k8 (out++[x]) (j+1):=by
     simp only[bQ,Bool.false_eq_true,if_false,hi,if_true];rfl
    rw[sp]at hP2;exact hrec k8 rfl (out++[x]) v3 H5 S5 (.ok () (j+1):ak Unit) (by simp;omega) m5 d5 (t4.keep m4 hbp c5) hP2
  ·simp only[al,aM,Bool.not_false,aG];refine acy O hd hbp dd hk m5 d5 (t4.keep m4 hbp c5) (out:=out++[x]) ?_;have sp:∀r':ak (List Nat),oG C.T [44] r'=false→(r'.bind λ_ j=>(bQ C.T k8 false (out++[x]) j).bind λl j=>mq C.T k d l j)≠.bb→(r'.bind λ_ j=>(bQ C.T k8 false (out++[x]) j).bind λl j=>mq C.T k d l j)=r'.bind λ_ i=>(aS C.T [41] i).bind λ_ j=>mq C.T k d (out++[x]) j:=by
    intro r' hi2 hno;cases r' with
    |bb=>rfl
    |err c i=>rfl
    |ok y j=>
     have hi3:isA C.T [44] j=false:=hi2;cases k8 with
     |zero=>exact absurd (show(bQ C.T 0 false (out++[x]) j).bind (λl j=>mq C.T k d l j)=.bb by simp only[bQ];rfl) hno
     |succ k8=>
      have e1:bQ C.T (k8+1) false (out++[x]) j=(aS C.T [41] j).bind λ_ j=>.ok (out++[x]) j:=by
       simp only[bQ,Bool.false_eq_true,if_false];rw[hi3];rfl
      show(bQ C.T (k8+1) false (out++[x]) j).bind _=(aS C.T [41] j).bind _;rw[e1,bJ];rfl
   rw[sp _ hi hP2.1]at hP2;exact hP2
 ·rw[decide_eq_false (by omega),aH];exact acy O hd hbp dd hk hM hs t hP
theorem anC(O:gA C m)(hd:d≤200)(hbp:C.bp<S0.n)(dd:∀b,aj C.vT b→b<S0.n)(hk:2*k+4≤m) :
  ∀k8 (q:Nat) (out:List (List Nat)) (v:AV) (H:AH) (S:LS){γ:Type}(r:ak γ),k8<q→out.length≤16→Mem H S→aZ C S r→zM C S0 S b1 b3 v out→aU C (bE C) qX K S0 ((r.bind λ_ i=>wV C.T k8 out i).bind λl j=>mq C.T k d l j)→
  Cg (fY (s10 m)) K q (.ptr C.bp 0) (d:Int) (.ptr b1 0) (.ptr b3 0) H:=by
 intro k8
 induction k8 with
 |zero=>
  intro q out v H S γ r hq ho hM hs t hP;obtain⟨q,rfl⟩:∃p,q=p+1:=⟨q-1,by omega⟩
  exact acz O hd hbp dd hk (λk' h=>absurd h (by omega)) out v H S r ho hM hs t hP
 |succ k8 ih=>
  intro q out v H S γ r hq ho hM hs t hP;obtain⟨q,rfl⟩:∃p,q=p+1:=⟨q-1,by omega⟩
  exact acz O hd hbp dd hk (λk' h out v H S γ r ho hM hs t hP=>by
   obtain rfl:k8=k':=by omega
   exact ih q out v H S r (by omega) ho hM hs t hP) out v H S r ho hM hs t hP
end
theorem x105{m:Nat}(hm:m≤1000000)(O:gA C m):∀k,2*k+5≤m+1→∀{K:KF}{H:AH}{S:LS}{d:Nat}{γ:Type}{r:ak γ},d≤200→Mem H S→aZ C S r→aU C (bE C) qX K S (r.bind λ_ i=>pFn C.T k i d)→(s10 (m+1)).2.2.2.2.1 (.ptr C.bp 0) (d:Int) H K:=by
 intro k hk K H S d γ r hd hM hs hP;have e7:(s10 (m+1)).2.2.2.2.1=Ch (fY (s10 m)):=by rw[zo]
 rw[e7];have r2:(fY (s10 m)).2.1=f40:=rfl;have r4:(fY (s10 m)).2.2.2.1=f59:=rfl;unfold Ch UJ JI;rw[r2,r4];have iR:G.NL=1000000:=rfl;generalize G.NL=iq at iR ⊢;have z1:∀a∈([.ab,.ab]:List AV),a.one=true:=λa ha=>by
  simp only[List.mem_cons,List.not_mem_nil,or_false]at ha;rcases ha with rfl|rfl<;>rfl
 refine e8 (dt hM z1 λH1 m1=>?_);refine e8 (dt m1 z1 λH2 m2=>?_);have c2:aK bU S ((S.push (.ce [.ab,.ab] 0)).push (.ce [.ab,.ab] 0)):=((aK.refl _ _).push _).push _;have d2:=hs.ik hM c2;have hbp:=hs.mW hM;have dd:∀b,aj C.vT b→b<S.n:=λb hb=>hs.tk.lt hM hb;have t2:zM C S ((S.push (.ce [.ab,.ab] 0)).push (.ce [.ab,.ab] 0)) S.n (S.n+1) .ab []:=
  ⟨c2.no,by rw[LS.bR _ _ (by show S.n<S.n+1;omega)];exact LS.aq _ _,LS.aq _ _,Nat.le_refl _,Nat.le_succ _,by omega,aW.nil _ _ _⟩
 have hP:aU C (bE C) qX K S ((r.bind λ_ i=>aS C.T [40] i).bind λ_ j=>(bQ C.T k true [] j).bind λps j=>mq C.T k d ps j):=by
  rw[bJ];exact hP
 refine ks (s:=[40]) (aX (by decide)) m2 d2 (aU.call (eT:=mY) hP λ_ H3 S3 w m3 c3 d3 _ hP3=>?_);have t3:=t2.keep m2 hbp c3;refine dx (s:=[41]) (aX (by decide)) m3 d3 (λy j er hi H4 S4 m4 c4 d4=>?_) λh1 H4 S4 m4 c4 d4=>?_
 ·simp only[al,aM,Bool.not_true,aH];rw[er]at hP3;have hP3:aU C (bE C) qX K S ((bQ C.T k true [] j).bind λps j=>mq C.T k d ps j):=hP3;cases k with
  |zero=>exact absurd (show(bQ C.T 0 true [] j).bind _=.bb by simp only[bQ];rfl) hP3.1
  |succ k=>
  have sp:bQ C.T (k+1) true [] j=.ok [] (j+1):=by
   simp only[bQ,if_true];rw[hi];simp only[Bool.not_true,Bool.false_eq_true,if_false,aS];rw[hi];rfl
  rw[sp]at hP3;exact acx O hd hbp dd (by omega) m4 d4 (t3.keep m3 hbp c4) hP3
 ·simp only[al,aM,Bool.not_false,aG];have sp:((r.bind λ_ i=>aS C.T [40] i).bind λ_ j=>(bQ C.T k true [] j).bind λps j=>mq C.T k d ps j)=(((r.bind λ_ i=>aS C.T [40] i).bind λ_ i=>wV C.T (k-1) [] i).bind λl j=>mq C.T k d l j):=by
   cases hr:r.bind λ_ i=>aS C.T [40] i with
   |bb=>rfl
   |err c i=>rfl
   |ok y j=>
    rw[hr]at h1 hP3;have h1:isA C.T [41] j=false:=h1;cases k with
    |zero=>exact absurd (show(bQ C.T 0 true [] j).bind (λl j=>mq C.T 0 d l j)=.bb by simp only[bQ];rfl) hP3.1
    |succ k=>
     show(bQ C.T (k+1) true [] j).bind _=(wV C.T k [] j).bind _;simp only[bQ,if_true];rw[h1];rfl
  rw[sp]at hP3;exact anC O hd hbp dd (by omega) (k-1) iq [] .ab H4 S4 _ (by omega) (by simp) m4 d4 (t3.keep m3 hbp c4) hP3
end
section
variable {H:AH}{S:LS}{K:KF}{C:Ctx}{i d:Nat}
theorem iz.all{Q:Nat→Prop}{kind a:Nat}{names:List (List Nat)}{l:List au}{B:List (List az)}{vn vl vb:AV}{cl cb:Nat→List AV}(hn:kK S Q vn names)(hl:dZ S Q 7 vl l.length cl)(he:∀i e,l[i]? = some e→RE S Q (cl i) e)(hb:dZ S Q 1 vb B.length cb)(hs:∀i b,B[i]? = some b→sQ.rel S Q (cb i) b):iz S Q [.int 0 (kind:Int),.int 0 (a:Int),vn,vl,vb] (.mk kind a names l B):=by
 have key:∀i,∃p:AV×(Nat→List AV),∀b,B[i]? = some b→cb i=[p.1]∧dZ S Q 5 p.1 b.length p.2∧∀j s,b[j]? = some s→iz S Q (p.2 j) s:=λi=>by
  cases hi:B[i]? with
  |none=>exact⟨⟨.ab,λ_=>[]⟩,λb h=>by cases h⟩
  |some b=>
   obtain⟨v,bc,e,g1,g2⟩:=hs i b hi;exact⟨⟨v,bc⟩,λb' h=>by cases h;exact⟨e,g1,g2⟩⟩
 obtain⟨p,hp⟩:=Classical.axiomOfChoice key;exact .mk kind a names l B vn vl vb cl (λi=>(p i).1) (λi=>(p i).2) hn hl he (hb.congr λi hi=>(hp i _ (List.getElem?_eq_getElem hi)).1) (λi b h=>(hp i b h).2.1) λi b j s h h2=>(hp i b h).2.2 j s h2
def zS(S0:LS)(u w:AV)(X:Nat→Prop):Nat→Prop:=λb=>S0.n≤b∧¬aj u b∧¬aj w b∧¬X b
structure dm(C:Ctx)(S0 S:LS)(bs kd a:Nat)(vn:AV)(names:List (List Nat))(vl:AV)(l:List au)(vb:AV)(B:List (List az))(X:Nat→Prop):Prop where
 x:aK (fO C bs) S0 S
 ob:S.ob bs=.ce [.int 0 (kd:Int),.int 0 (a:Int),vn,vl,vb] 0
 N:aW uh (zS S0 vl vb X) S vn names
 E:aW km (zS S0 vn vb X) S vl l
 B:aW sQ (zS S0 vn vl X) S vb B
structure jZ(C:Ctx)(S0:LS)(bs:Nat):Prop where
 lt:bs<S0.n
 ne:bs≠C.bp
 nT:∀b,aj C.vT b→b≠bs
 bp:C.bp<S0.n
 vT:∀b,aj C.vT b→b<S0.n
section
variable {S0 S':LS}{bs kd a:Nat}{vn vl vb:AV}{names:List (List Nat)}{l:List au}{B:List (List az)}{X X':Nat→Prop}
theorem dm.EC{Y:Nat→Prop}(t:dm C S0 S bs kd a vn names vl l vb B X)(hM:Mem H S)(g:aK Y S S')(h:∀b,Y b→b≠bs∧(b=C.bp∨S0.n≤b))(hY:∀b,S0.n≤b→b<S.n→¬Y b):dm C S0 S' bs kd a vn names vl l vb B X:=
 ⟨t.x.rB g λb hb=>(h b hb).2.elim (λq=>.inl (.inl q)) .inr,g.ob hM t.ob λq=>(h _ q).1 rfl,t.N.keep hM g.1 λb h1 h2=>g.2 b h2 (hY b h1.1 h2),t.E.keep hM g.1 λb h1 h2=>g.2 b h2 (hY b h1.1 h2),t.B.keep hM g.1 λb h1 h2=>g.2 b h2 (hY b h1.1 h2)⟩
theorem dm.keep(W:jZ C S0 bs)(t:dm C S0 S bs kd a vn names vl l vb B X)(hM:Mem H S)(g:aK (bE C) S S'):dm C S0 S' bs kd a vn names vl l vb B X:=
 t.EC hM g (λb hb=>⟨λq=>W.ne (by have hb:b=C.bp:=hb;omega),.inl hb⟩) λb h1 _ q=>by have q:b=C.bp:=q;have:=W.bp;omega
theorem dm.res(t:dm C S0 S bs kd a vn names vl l vb B X)(hM:Mem H S)(h:∀b,X' b→X b∨S.n≤b):dm C S0 S bs kd a vn names vl l vb B X':=
 ⟨t.x,t.ob,t.N.imp hM λb hb hlt=>⟨hb.1,hb.2.1,hb.2.2.1,λq=>(h b q).elim hb.2.2.2 λg=>by omega⟩,t.E.imp hM λb hb hlt=>⟨hb.1,hb.2.1,hb.2.2.1,λq=>(h b q).elim hb.2.2.2 λg=>by omega⟩,t.B.imp hM λb hb hlt=>⟨hb.1,hb.2.1,hb.2.2.1,λq=>(h b q).elim hb.2.2.2 λg=>by omega⟩⟩
theorem dm.kind(W:jZ C S0 bs)(t:dm C S0 S bs kd a vn names vl l vb B X)(hM:Mem H S)(kd':Nat):dm C S0 (S.set bs (.ce [.int 0 (kd':Int),.int 0 (a:Int),vn,vl,vb] 0)) bs kd' a vn names vl l vb B X:=
 ⟨t.x.set (.inl (.inr rfl)) _,LS.av _ _ _,t.N.keep hM (Nat.le_refl _) λb h1 _=>LS.an _ _ (by have:=W.lt;have:=h1.1;omega),t.E.keep hM (Nat.le_refl _) λb h1 _=>LS.an _ _ (by have:=W.lt;have:=h1.1;omega),t.B.keep hM (Nat.le_refl _) λb h1 _=>LS.an _ _ (by have:=W.lt;have:=h1.1;omega)⟩
theorem dm.jY(W:jZ C S0 bs)(t:dm C S0 S bs kd a vn names vl l vb B X)(hM:Mem H S){kd':Nat}{k:AH→Prop}{α:Type}{r:ak α}(hd:aZ C S r)(hk:∀H' S',Mem H' S'→S'.n=S.n→aZ C S' r→(∀b,b≠bs→S'.ob b=S.ob b)→dm C S0 S' bs kd' a vn names vl l vb B X→k H'):ao (.ptr bs 0) (af 0 (.ptr bs 0) λv=>ah 1 v (.int 0 (kd':Int)) H k):=by
 simp only[bY,aQ,Nat.zero_add];refine bH (v:=.int 0 (kd':Int)) hM t.ob (by omega) (by show 0<5;omega) rfl λH1 m1=>?_;exact hk H1 _ m1 rfl (hd.setB W.ne W.nT _) (λb hb=>LS.an _ _ hb) (t.kind W hM kd')
theorem dm.Mu(W:jZ C S0 bs)(t:dm C S0 S bs kd a vn names vl l vb B X)(hM:Mem H S){eU:AV}{names':List (List Nat)}(N':aW uh (zS S0 vl vb bU) S eU names')(hX:∀b,aj eU b→X b){k:AH→Prop}{α:Type}{r:ak α}(hd:aZ C S r)(hk:∀H' S',Mem H' S'→S'.n=S.n→aZ C S' r→(∀b,b≠bs→S'.ob b=S.ob b)→dm C S0 S' bs kd a eU names' vl l vb B bU→k H'):ao (.ptr bs 0) (af 2 (.ptr bs 0) λv=>ah 1 v eU H k):=by
 simp only[bY,aQ,Nat.zero_add];refine bH hM t.ob (by omega) (by show 2<5;omega) N'.one λH1 m1=>?_;have hlt:=W.lt;refine hk H1 _ m1 rfl (hd.setB W.ne W.nT _) (λb hb=>LS.an _ _ hb) ⟨t.x.set (.inl (.inr rfl)) _,LS.av _ _ _,N'.keep hM (Nat.le_refl _) λb h1 _=>LS.an _ _ (by have:=h1.1;omega),?_,?_⟩
 ·exact(t.E.imp hM λb hb _=>(⟨hb.1,λq=>hb.2.2.2 (hX b q),hb.2.2.1,λq=>q⟩:zS S0 eU vb bU b)).keep hM (Nat.le_refl _) λb h1 _=>LS.an _ _ (by have:=h1.1;omega)
 ·exact(t.B.imp hM λb hb _=>(⟨hb.1,λq=>hb.2.2.2 (hX b q),hb.2.2.1,λq=>q⟩:zS S0 eU vl bU b)).keep hM (Nat.le_refl _) λb h1 _=>LS.an _ _ (by have:=h1.1;omega)
theorem dm.qM(W:jZ C S0 bs)(t:dm C S0 S bs kd a vn names vl l vb B X)(hM:Mem H S){fU:AV}{l':List au}(E':aW km (zS S0 vn vb bU) S fU l')(hX:∀b,aj fU b→X b){k:AH→Prop}{α:Type}{r:ak α}(hd:aZ C S r)(hk:∀H' S',Mem H' S'→S'.n=S.n→aZ C S' r→(∀b,b≠bs→S'.ob b=S.ob b)→dm C S0 S' bs kd a vn names fU l' vb B bU→k H'):ao (.ptr bs 0) (af 3 (.ptr bs 0) λv=>ah 1 v fU H k):=by
 simp only[bY,aQ,Nat.zero_add];refine bH hM t.ob (by omega) (by show 3<5;omega) E'.one λH1 m1=>?_;have hlt:=W.lt;refine hk H1 _ m1 rfl (hd.setB W.ne W.nT _) (λb hb=>LS.an _ _ hb) ⟨t.x.set (.inl (.inr rfl)) _,LS.av _ _ _,?_,E'.keep hM (Nat.le_refl _) λb h1 _=>LS.an _ _ (by have:=h1.1;omega),?_⟩
 ·exact(t.N.imp hM λb hb _=>(⟨hb.1,λq=>hb.2.2.2 (hX b q),hb.2.2.1,λq=>q⟩:zS S0 fU vb bU b)).keep hM (Nat.le_refl _) λb h1 _=>LS.an _ _ (by have:=h1.1;omega)
 ·exact(t.B.imp hM λb hb _=>(⟨hb.1,hb.2.1,λq=>hb.2.2.2 (hX b q),λq=>q⟩:zS S0 vn fU bU b)).keep hM (Nat.le_refl _) λb h1 _=>LS.an _ _ (by have:=h1.1;omega)
theorem dm.EG(W:jZ C S0 bs)(t:dm C S0 S bs kd a vn names vl l vb B X)(hM:Mem H S){OH:AV}{B':List (List az)}(B1:aW sQ (zS S0 vn vl bU) S OH B')(hX:∀b,aj OH b→X b){k:AH→Prop}{α:Type}{r:ak α}(hd:aZ C S r)(hk:∀H' S',Mem H' S'→S'.n=S.n→aZ C S' r→(∀b,b≠bs→S'.ob b=S.ob b)→dm C S0 S' bs kd a vn names vl l OH B' bU→k H'):ao (.ptr bs 0) (af 4 (.ptr bs 0) λv=>ah 1 v OH H k):=by
 simp only[bY,aQ,Nat.zero_add];refine bH hM t.ob (by omega) (by show 4<5;omega) B1.one λH1 m1=>?_;have hlt:=W.lt;refine hk H1 _ m1 rfl (hd.setB W.ne W.nT _) (λb hb=>LS.an _ _ hb) ⟨t.x.set (.inl (.inr rfl)) _,LS.av _ _ _,?_,?_,B1.keep hM (Nat.le_refl _) λb h1 _=>LS.an _ _ (by have:=h1.1;omega)⟩
 ·exact(t.N.imp hM λb hb _=>(⟨hb.1,hb.2.1,λq=>hb.2.2.2 (hX b q),λq=>q⟩:zS S0 vl OH bU b)).keep hM (Nat.le_refl _) λb h1 _=>LS.an _ _ (by have:=h1.1;omega)
 ·exact(t.E.imp hM λb hb _=>(⟨hb.1,hb.2.1,λq=>hb.2.2.2 (hX b q),λq=>q⟩:zS S0 vn OH bU b)).keep hM (Nat.le_refl _) λb h1 _=>LS.an _ _ (by have:=h1.1;omega)
theorem dm.yw(t:dm C S0 S bs kd a vn names vl l vb B X)(hM:Mem H S):(∀b,aj vn b→S0.n≤b∧b<S.n)∧(∀b,aj vl b→S0.n≤b∧b<S.n)∧(∀b,aj vb b→S0.n≤b∧b<S.n):=
 ⟨λb hb=>⟨(t.N.Ex hb).1,t.N.lt hM hb⟩,λb hb=>⟨(t.E.Ex hb).1,t.E.lt hM hb⟩,λb hb=>⟨(t.B.Ex hb).1,t.B.lt hM hb⟩⟩
theorem dm.aqz(W:jZ C S0 bs)(t:dm C S0 S bs kd a vn names vl l vb B bU)(hM:Mem H S){s:List Nat}(h8:B8 s){k:AV→AH→Prop}{α:Type}{r:ak α}(hd:aZ C S r)(hk:∀H' S',Mem H' S'→S'.n=S.n+1→aZ C S' r→dm C S0 S' bs kd a vn names vl l vb B (λb=>b=S.n)→aW uh (zS S0 vl vb bU) S' (.slice S.n 0 1 1 1 true) [s]→k (.slice S.n 0 1 1 1 true) H'):aR (aB H) 1 1 [ai s] k:=by
 have L:=t.yw hM;have n0:=t.x.1;refine dJ hM rfl (λy hy=>by simp only[List.mem_cons,List.not_mem_nil,or_false]at hy;subst hy;exact kP s) λH1 m1=>?_;have c1:aK bU S (S.push (.ce [ai s] 0)):=(aK.refl _ _).push _;refine hk H1 _ m1 rfl (hd.ik hM c1) ((t.res hM (X':=λb=>b=S.n) λb hb=>.inr (by have hb:b=S.n:=hb;omega)).keep W hM c1.no) ?_;exact aW.single (R:=uh) (Q:=λ_=>False) (LS.aq _ _) ⟨n0,λq=>by have:=(L.2.1 _ q).2;omega,λq=>by have:=(L.2.2 _ q).2;omega,λq=>q⟩ ⟨rfl,h8⟩ λx hx=>hx.elim
theorem dm.newE(W:jZ C S0 bs)(t:dm C S0 S bs kd a vn names vl l vb B bU)(hM:Mem H S){c:List AV}{e:au}{Q:Nat→Prop}(hR:RE S Q c e)(hQ:∀b,Q b→S0.n≤b∧b<S.n∧¬aj vn b∧¬aj vb b){k:AV→AH→Prop}{α:Type}{r:ak α}(hd:aZ C S r)(hk:∀H' S',Mem H' S'→S'.n=S.n+1→aZ C S' r→dm C S0 S' bs kd a vn names vl l vb B (λb=>b=S.n)→aW km (zS S0 vn vb bU) S' (.slice S.n 0 1 1 7 true) [e]→k (.slice S.n 0 1 1 7 true) H'):aR (aB H) 1 7 c k:=by
 have L:=t.yw hM;have n0:=t.x.1;refine dJ hM (by rw[hR.len]) hR.ones λH1 m1=>?_;have c1:aK bU S (S.push (.ce c 0)):=(aK.refl _ _).push _;refine hk H1 _ m1 rfl (hd.ik hM c1) ((t.res hM (X':=λb=>b=S.n) λb hb=>.inr (by have hb:b=S.n:=hb;omega)).keep W hM c1.no) ?_;exact aW.single (R:=km) (Q:=Q) (LS.aq _ _) ⟨n0,λq=>by have:=(L.1 _ q).2;omega,λq=>by have:=(L.2.2 _ q).2;omega,λq=>q⟩ (hR.go (λb hb=>LS.bR _ _ (hQ b hb).2.1) λ_ h=>h) λx hx=>⟨⟨(hQ x hx).1,(hQ x hx).2.2.1,(hQ x hx).2.2.2,λq=>q⟩,Nat.lt_succ_of_lt (hQ x hx).2.1,by have:=(hQ x hx).2.1;omega⟩
theorem dm.apg(W:jZ C S0 bs)(t:dm C S0 S bs kd a vn names vl l vb B bU)(hM:Mem H S){c1 c2:List AV}{e1 e2:au}{Q:Nat→Prop}(hR1:RE S Q c1 e1)(hR2:RE S Q c2 e2)(hQ:∀b,Q b→S0.n≤b∧b<S.n∧¬aj vn b∧¬aj vb b){k:AV→AH→Prop}{α:Type}{r:ak α}(hd:aZ C S r)(hk:∀H' S',Mem H' S'→S'.n=S.n+1→aZ C S' r→dm C S0 S' bs kd a vn names vl l vb B (λb=>b=S.n)→aW km (zS S0 vn vb bU) S' (.slice S.n 0 2 2 7 true) [e1,e2]→(∀b,b<S.n→S'.ob b=S.ob b)→k (.slice S.n 0 2 2 7 true) H'):aR (aB H) 2 7 (c1++c2) k:=by
 have L:=t.yw hM;have n0:=t.x.1;have l1:=hR1.len;have l2:=hR2.len;refine dJ hM (by rw[List.length_append,l1,l2]) (λy hy=>(List.mem_append.1 hy).elim (λg=>hR1.ones y g) λg=>hR2.ones y g) λH1 m1=>?_;have g1:aK bU S (S.push (.ce (c1++c2) 0)):=(aK.refl _ _).push _;refine hk H1 _ m1 rfl (hd.ik hM g1) ((t.res hM (X':=λb=>b=S.n) λb hb=>.inr (by have hb:b=S.n:=hb;omega)).keep W hM g1.no) ?_ λb hb=>LS.bR _ _ hb;have zz:zS S0 vn vb bU S.n:=⟨n0,λq=>by have:=(L.1 _ q).2;omega,λq=>by have:=(L.2.2 _ q).2;omega,λq=>q⟩
 have go:∀{c:List AV}{e:au},RE S Q c e→∃Q',RE (S.push (.ce (c1++c2) 0)) Q' c e∧∀b,Q' b→zS S0 vn vb bU b∧b<(S.push (.ce (c1++c2) 0)).n∧¬aj (.slice S.n 0 2 2 7 true) b:=λhR=>⟨Q,hR.go (λb hb=>LS.bR _ _ (hQ b hb).2.1) λ_ h=>h,λx hx=>⟨⟨(hQ x hx).1,(hQ x hx).2.2.1,(hQ x hx).2.2.2,λq=>q⟩,Nat.lt_succ_of_lt (hQ x hx).2.1,λq=>by have q:x=S.n:=q;have:=(hQ x hx).2.1;omega⟩⟩
 refine⟨[c1,c2],.inr ⟨S.n,2,true,c1++c2,rfl,LS.aq _ _,by rw[List.length_append,l1,l2];rfl,Nat.le_refl _,by show [c1,c2].flatten.length=2*7;simp[l1,l2],by show(c1++c2).take ([c1,c2].flatten).length=[c1,c2].flatten;rw[show [c1,c2].flatten=c1++c2 by simp];exact List.take_of_length_le (Nat.le_refl _),λy hy=>(List.mem_append.1 hy).elim (λg=>hR1.ones y g) λg=>hR2.ones y g⟩,rfl,λx hx=>by have hx:x=S.n:=hx;rw[hx];exact zz,λi c' a' hc ha=>?_⟩
 match i,hc,ha with
 |0,hc,ha=>
  have q1:c1=c':=by simpa using hc
  have q2:e1=a':=by simpa using ha
  subst q1;subst q2;exact go hR1
 |1,hc,ha=>
  have q1:c2=c':=by simpa using hc
  have q2:e2=a':=by simpa using ha
  subst q1;subst q2;exact go hR2
 |i+2,hc,ha=>simp at hc
theorem dm.aqA(W:jZ C S0 bs)(t:dm C S0 S bs kd a vn names vl l vb B bU)(hM:Mem H S){v:AV}{b0:List az}{Q:Nat→Prop}(hR:sQ.rel S Q [v] b0)(hQ:∀b,Q b→S0.n≤b∧b<S.n∧¬aj vn b∧¬aj vl b){k:AV→AH→Prop}{α:Type}{r:ak α}(hd:aZ C S r)(hk:∀H' S',Mem H' S'→S'.n=S.n+1→aZ C S' r→dm C S0 S' bs kd a vn names vl l vb B (λb=>b=S.n)→aW sQ (zS S0 vn vl bU) S' (.slice S.n 0 1 1 1 true) [b0]→k (.slice S.n 0 1 1 1 true) H'):aR (aB H) 1 1 [v] k:=by
 have L:=t.yw hM;have n0:=t.x.1;refine dJ hM rfl (sQ.ones hR) λH1 m1=>?_;have c1:aK bU S (S.push (.ce [v] 0)):=(aK.refl _ _).push _;refine hk H1 _ m1 rfl (hd.ik hM c1) ((t.res hM (X':=λb=>b=S.n) λb hb=>.inr (by have hb:b=S.n:=hb;omega)).keep W hM c1.no) ?_;exact aW.single (R:=sQ) (Q:=Q) (LS.aq _ _) ⟨n0,λq=>by have:=(L.1 _ q).2;omega,λq=>by have:=(L.2.1 _ q).2;omega,λq=>q⟩ (sQ.go (λb hb=>LS.bR _ _ (hQ b hb).2.1) (λ_ h=>h) hR) λx hx=>⟨⟨(hQ x hx).1,(hQ x hx).2.2.1,(hQ x hx).2.2.2,λq=>q⟩,Nat.lt_succ_of_lt (hQ x hx).2.1,by have:=(hQ x hx).2.1;omega⟩
theorem dm.rst(t:dm C S0 S bs kd a vn names vl l vb B X)(hM:Mem H S):iz S (jd S0.n S.n) [.int 0 (kd:Int),.int 0 (a:Int),vn,vl,vb] (.mk kd a names l B):=by
 obtain⟨cl,g1,g2⟩:=(t.E.toR (lo:=S0.n) λb hb=>hb.1).done hM;obtain⟨cb,q1,q2⟩:=(t.B.toR (lo:=S0.n) λb hb=>hb.1).done hM;exact iz.all ((t.N.toR (lo:=S0.n) λb hb=>hb.1).nm hM) g1 g2 q1 q2
def dG(T:List Tok)(s:az)(j:Nat):ak az:=if s.kind=3∧isA T [61] j=true then .err 14 j else .ok s j
theorem dm.fin(t:dm C S0 S bs kd a vn names vl l vb B X)(hM:Mem H S){α:Type}{r:ak α}(hd:aZ C S r)(h3:kd≠3)(hP:aU C (fO C bs) (iK bs) K S0 (r.bind λ_ j=>dG C.T (.mk kd a names l B) j)):K (.ret (.aL [])) H:=by
 have e:(r.bind λ_ j=>dG C.T (.mk kd a names l B) j)=r.bind λ_ j=>.ok (.mk kd a names l B) j:=by
  congr 1;funext _ j;unfold dG;rw[if_neg λq=>h3 q.1]
 rw[e]at hP;exact hP.2 H S _ _ hM t.x (hd.ret _) ⟨rfl,_,t.ob,t.rst hM⟩ px
end
end
section
variable {H:AH}{S:LS}{K:KF}{C:Ctx}{i d:Nat}
section
variable {m k:Nat}{S0:LS}{bs kd a:Nat}{vn vl vb:AV}{names:List (List Nat)}{l:List au}{B:List (List az)}{γ:Type}{r:ak γ}
theorem dm.aef(O:gA C m)(hk:2*k+4≤m)(hd:d≤200)(W:jZ C S0 bs)(hM:Mem H S)(hs:aZ C S r)(t:dm C S0 S bs kd a vn names vl l vb B bU)(hll:l.length≤1000000){X:AH→Prop}{f:au→Nat→ak az}
  (hP:aU C (fO C bs) (iK bs) K S0 (r.bind λ_ i=>(bP C.T k i d).bind f))
  (hX:∀(e:au) (v':AV) (H':AH) (S':LS),Mem H' S'→aZ C S' (r.bind λ_ i=>bP C.T k i d)→dm C S0 S' bs kd a vn names v' (l++[e]) vb B bU→aU C (fO C bs) (iK bs) K S0 ((r.bind λ_ i=>bP C.T k i d).bind λ_ j=>f e j)→X H') :
  ao (.ptr bs 0) (af 3 (.ptr bs 0) λv1=>ad v1 H λv2=>bN v2 λv3=>cI 0 v3 λz4=>cL H (aR (aB H) 1 7 z7 λv5 H6=>bT (Nat.beq H6.n (Nat.succ H.n)) ((s10 m).2.1 (.ptr C.bp 0) (d:Int) H6 λo7 H8=>cR K o7 H8 λv9=>ad v1 H8 λv10=>bT (bj v10 v2) (cQ 7 96 v2 v5 H8 λv11 bO=>bf 7 v11 (.int 0 z4) λv13=>ao (.ptr bs 0) (af 3 (.ptr bs 0) λv14=>ah 7 v13 v9 bO λeM=>ah 1 v14 v11 eM λeE=>ah 1 v14 v11 bO λjO=>ah 7 v13 v9 jO λiy=>uM 7 1 v13 v14 (X eE)))))):=by
 simp only[bY,aQ,Nat.zero_add];refine aD hM t.ob (v:=vl) rfl ?_;refine t.E.FK ?_;rw[aO];refine hM.cL ?_;have n0:=t.x.1;have L:=t.yw hM;have hlt:=W.lt;have hne:=W.ne;have hbp:=W.bp;refine dJ hM rfl fy λH1 m1=>cC (qS (by rw[m1.n,hM.n];rfl)) ?_;have c1:aK bU S (S.push (.ce z7 0)):=(aK.refl _ _).push _;have t1:=t.keep W hM c1.no;refine O.exp k hk hd m1 (hs.ik hM c1) (aU.call (eT:=dV) (bJ r _ _ ▸ hP) λe H2 S2 w m2 c2 d2 ⟨c,hw,hR⟩ hP2=>?_);subst hw;have t2:=t1.keep W m1 c2;have n2:S.n+1≤S2.n:=c2.1;have or2:S2.ob S.n=.ce z7 0:=c2.ob m1 (LS.aq _ _) λq=>by have q:S.n=C.bp:=q;omega
 refine aD m2 t2.ob (v:=vl) rfl ?_;refine cC t.E.same ?_;obtain⟨cl,hfr,hrest⟩:=id t2.E;have aqB:¬aj vl bs:=λq=>by have:=(L.2.1 _ q).1;omega
 refine apb m2 hfr or2 rfl fy hR.len hR.ones t2.ob (by show 3<5;omega) aqB (by omega) λH3 S3 v' m3 he o3=>?_;obtain⟨e1,e2,e3,e4⟩:=id he;have c3:aK (λb=>aj vl b) S2 S3:=⟨e1,λb hb hx=>e2 b hb hx⟩
 have d3:aZ C S3 _:=d2.keep m2 c3 (λq=>by have:=(L.2.1 _ q).1;omega) λb hb q=>by have:=(L.2.1 _ q).1;have:=W.vT b hb;omega
 have L3:aW km (zS S0 vn vb bU) S3 v' (l++[e]):=t2.E.step hR (λb hb=>by
  have h1:S.n+1≤b:=hb.1;exact⟨⟨by omega,λq=>by have:=(L.1 _ q).2;omega,λq=>by have:=(L.2.2 _ q).2;omega,λq=>q⟩,hb.2,λq=>by have:=(L.2.1 _ q).2;omega⟩) (λb hb=>⟨by omega,λq=>by have:=(L.1 _ q).2;omega,λq=>by have:=(L.2.2 _ q).2;omega,λq=>q⟩) λcl' h'=>by rw[hfr.uniq h'];exact he
 have hv':∀b,aj v' b→aj vl b∨S2.n≤b:=e4;have kN:∀{α:Type}{R:Rep α}{u v:AV}{q:List α},aW R (λb=>S0.n≤b∧¬aj vl b∧¬aj u b) S2 v q→aW R (λb=>(S0.n≤b∧¬aj vl b∧¬aj u b)∧¬aj v' b) (S3.set bs (.ce ([.int 0 (kd:Int),.int 0 (a:Int),vn,vl,vb].set 3 v') 0)) v q:=λh=>
  (h.imp m2 λb hb hb2=>(⟨hb,λq=>(hv' b q).elim hb.2.1 λg=>by omega⟩:(S0.n≤b∧¬aj vl b∧¬aj _ b)∧¬aj v' b)).keep m2 e1 λb h1 h2=>by
   rw[LS.an _ _ (by have:=h1.1.1;omega)];exact e2 b h2 h1.1.2.1
 have L4:aW km (zS S0 vn vb bU) (S3.set bs (.ce ([.int 0 (kd:Int),.int 0 (a:Int),vn,vl,vb].set 3 v') 0)) v' (l++[e]):=by
  obtain⟨cl3,g1,g2,g3,g4⟩:=L3;refine⟨cl3,?_,g2,g3,λi c a hc ha=>?_⟩
  ·rcases g1 with g|⟨b,cc,ex,cs',q1,q2,q3⟩
   ·exact .inl g
   ·exact .inr ⟨b,cc,ex,cs',q1,(LS.an _ _ (by have:=(g3 b (by rw[q1];rfl)).1;omega)).trans q2,q3⟩
  ·obtain⟨Q,q1,q2⟩:=g4 i c a hc ha;exact⟨Q,RE.go (λb hb=>LS.an _ _ (by have:=(q2 b hb).1.1;omega)) (λ_ h=>h) q1,q2⟩
 have fin:∀{α:Type}{R:Rep α}{Z Z':Nat→Prop}{S:LS}{v:AV}{q:List α},aW R Z S v q→(∀b,Z b→Z' b)→aW R Z' S v q:=λ{α R Z Z' S v q} h hz=>by
  obtain⟨cl,q1,q2,q3,q4⟩:=h;exact⟨cl,q1,q2,λb hb=>hz b (q3 b hb),λi c a hc ha=>by
   obtain⟨Q,w1,w2⟩:=q4 i c a hc ha;exact⟨Q,w1,λb hb=>⟨hz b (w2 b hb).1,(w2 b hb).2⟩⟩⟩
 refine hX e v' H3 _ m3 (d3.setB hne W.nT _) ⟨(t2.x.rB c3 λb hb=>.inr (L.2.1 _ hb).1).set (.inl (.inr rfl)) _,LS.av _ _ _,?_,L4,?_⟩ hP2
 ·exact fin (kN (fin t2.N λb hb=>⟨hb.1,hb.2.1,hb.2.2.1⟩)) λb hb=>⟨hb.1.1,hb.2,hb.1.2.2,λq=>q⟩
 ·exact fin (kN (fin t2.B λb hb=>⟨hb.1,hb.2.2.1,hb.2.1⟩)) λb hb=>⟨hb.1.1,hb.1.2.2,hb.2,λq=>q⟩
theorem aW.wk{α:Type}{R:Rep α}{Z Z':Nat→Prop}{S:LS}{v:AV}{q:List α}(h:aW R Z S v q)(hz:∀b,Z b→Z' b):aW R Z' S v q:=by
 obtain⟨cl,q1,q2,q3,q4⟩:=h;exact⟨cl,q1,q2,λb hb=>hz b (q3 b hb),λi c a hc ha=>by
  obtain⟨Q,w1,w2⟩:=q4 i c a hc ha;exact⟨Q,w1,λb hb=>⟨hz b (w2 b hb).1,(w2 b hb).2⟩⟩⟩
theorem dm.anD(O:gA C m)(hk:2*k+4≤m)(hd:d≤200)(W:jZ C S0 bs)(hM:Mem H S)(hs:aZ C S r)(t:dm C S0 S bs kd a vn names vl l vb B bU)(hll:B.length≤1000000){X:AH→Prop}{f:List az→Nat→ak az}
  (hP:aU C (fO C bs) (iK bs) K S0 (r.bind λ_ i=>(cj C.T k i d).bind f))
  (hX:∀(e:List az) (v':AV) (H':AH) (S':LS),Mem H' S'→aZ C S' (r.bind λ_ i=>cj C.T k i d)→dm C S0 S' bs kd a vn names vl l v' (B++[e]) bU→aU C (fO C bs) (iK bs) K S0 ((r.bind λ_ i=>cj C.T k i d).bind λ_ j=>f e j)→X H') :
  ao (.ptr bs 0) (af 4 (.ptr bs 0) λv5=>ad v5 H λv6=>(s10 m).1 (.ptr C.bp 0) (d:Int) H λo7 H8=>cR K o7 H8 λv9=>ad v5 H8 λv10=>bT (bj v10 v6) (cL H8 (one v9 (aR (aB H8) 1 1 [v9] λv11 bO=>bT (Nat.beq bO.n (Nat.succ H8.n)) (cQ 1 24 v6 v11 bO λv13 dh=>ao (.ptr bs 0) (af 4 (.ptr bs 0) λv15=>ah 1 v15 v13 dh X)))))):=by
 simp only[bY,aQ,Nat.zero_add];refine aD hM t.ob (v:=vb) rfl ?_;have n0:=t.x.1;have L:=t.yw hM;have hlt:=W.lt;have hne:=W.ne;have hbp:=W.bp;refine O.block k hk hd hM hs (aU.call (eT:=gw) (bJ r _ _ ▸ hP) λe H2 S2 w m2 c2 d2 ⟨cb,hsl,hrs⟩ hP2=>?_);have t2:=t.keep W hM c2;have n2:=c2.1;refine aD m2 t2.ob (v:=vb) rfl ?_;refine cC t.B.same ?_;refine m2.cL ?_;refine fC hsl.one ?_;refine t2.B.pushB (R:=sQ) (bytes:=24) m2 (a:=e) ⟨w,cb,rfl,hsl,hrs⟩ (λb hb=>⟨⟨by have:=hb.1;omega,λq=>by have:=(L.1 _ q).2;have:=hb.1;omega,λq=>by have:=(L.2.1 _ q).2;have:=hb.1;omega,λq=>q⟩,hb.2,λq=>by have:=(L.2.2 _ q).2;have:=hb.1;omega⟩) (λb hb=>⟨by omega,λq=>by have:=(L.1 _ q).2;omega,λq=>by have:=(L.2.1 _ q).2;omega,λq=>q⟩) (by omega) λH3 S3 v' m3 B3 n3 k3 b3 aeg=>?_;have c3:aK (λb=>aj vb b) S2 S3:=⟨n3,λb hb hx=>k3 b hb hx⟩
 have d3:aZ C S3 _:=d2.keep m2 c3 (λq=>by have:=(L.2.2 _ q).1;omega) λb hb q=>by have:=(L.2.2 _ q).1;have:=W.vT b hb;omega
 have o3:S3.ob bs=.ce [.int 0 (kd:Int),.int 0 (a:Int),vn,vl,vb] 0:=c3.ob m2 t2.ob λq=>by have:=(L.2.2 _ q).1;omega
 refine bH m3 o3 (by omega) (by show 4<5;omega) aeg λH4 m4=>?_;have kN:∀{α:Type}{R:Rep α}{u v:AV}{q:List α},aW R (λb=>S0.n≤b∧¬aj vb b∧¬aj u b) S2 v q→aW R (λb=>(S0.n≤b∧¬aj vb b∧¬aj u b)∧¬aj v' b) (S3.set bs (.ce ([.int 0 (kd:Int),.int 0 (a:Int),vn,vl,vb].set 4 v') 0)) v q:=λh=>
  (h.imp m2 λb hb hb2=>(⟨hb,λq=>(b3 b q).elim hb.2.1 λg=>by omega⟩:(S0.n≤b∧¬aj vb b∧¬aj _ b)∧¬aj v' b)).keep m2 n3 λb h1 h2=>by
   rw[LS.an _ _ (by have:=h1.1.1;omega)];exact k3 b h2 h1.1.2.1
 refine hX e v' H4 _ m4 (d3.setB hne W.nT _) ⟨(t2.x.rB c3 λb hb=>.inr (L.2.2 _ hb).1).set (.inl (.inr rfl)) _,LS.av _ _ _,?_,?_,B3.keep m3 (Nat.le_refl _) λb h1 _=>LS.an _ _ (by have:=h1.1;omega)⟩ hP2
 ·exact aW.wk (kN (aW.wk t2.N λb hb=>⟨hb.1,hb.2.2.1,hb.2.1⟩)) λb hb=>⟨hb.1.1,hb.1.2.2,hb.2,λq=>q⟩
 ·exact aW.wk (kN (aW.wk t2.E λb hb=>⟨hb.1,hb.2.2.1,hb.2.1⟩)) λb hb=>⟨hb.1.1,hb.1.2.2,hb.2,λq=>q⟩
theorem dm.aqC(W:jZ C S0 bs)(hM:Mem H S)(hs:aZ C S r)(t:dm C S0 S bs kd a vn names vl l vb B bU)(hll:names.length≤1000000){X:AH→Prop}{f:List Nat→Nat→ak az}
  (hP:aU C (fO C bs) (iK bs) K S0 (r.bind λ_ i=>(ey C.T i).bind f))
  (hX:∀(e:List Nat) (v':AV) (H':AH) (S':LS),Mem H' S'→aZ C S' (r.bind λ_ i=>ey C.T i)→dm C S0 S' bs kd a v' (names++[e]) vl l vb B bU→aU C (fO C bs) (iK bs) K S0 ((r.bind λ_ i=>ey C.T i).bind λ_ j=>f e j)→X H') :
  ao (.ptr bs 0) (af 2 (.ptr bs 0) λv9=>ad v9 H λv10=>f57 (.ptr C.bp 0) H λkC bO=>cR K kC bO λv13=>ad v9 bO λv14=>bT (bj v14 v10) (cL bO (one v13 (aR (aB bO) 1 1 [v13] λv15 eE=>bT (Nat.beq eE.n (Nat.succ bO.n)) (cQ 1 16 v10 v15 eE λv17 iy=>ao (.ptr bs 0) (af 2 (.ptr bs 0) λv19=>ah 1 v19 v17 iy X)))))):=by
 simp only[bY,aQ,Nat.zero_add];refine aD hM t.ob (v:=vn) rfl ?_;have n0:=t.x.1;have L:=t.yw hM;have hlt:=W.lt;have hne:=W.ne;have hbp:=W.bp;refine rL hM hs (aU.call (eT:=Mk) (bJ r _ _ ▸ hP) λe H2 S2 w m2 c2 d2 ⟨hw,h8⟩ hP2=>?_);subst hw;have t2:=t.keep W hM c2;have n2:=c2.1;refine aD m2 t2.ob (v:=vn) rfl ?_;refine cC t.N.same ?_;refine m2.cL ?_;refine fC (kP e) ?_;refine t2.N.pushB (R:=uh) (bytes:=16) m2 (a:=e) (c:=[ai e]) (Q:=λ_=>False) ⟨rfl,h8⟩ (λb hb=>hb.elim) (λb hb=>⟨by omega,λq=>by have:=(L.2.1 _ q).2;omega,λq=>by have:=(L.2.2 _ q).2;omega,λq=>q⟩) (by omega) λH3 S3 v' m3 B3 n3 k3 b3 aeg=>?_;have c3:aK (λb=>aj vn b) S2 S3:=⟨n3,λb hb hx=>k3 b hb hx⟩
 have d3:aZ C S3 _:=d2.keep m2 c3 (λq=>by have:=(L.1 _ q).1;omega) λb hb q=>by have:=(L.1 _ q).1;have:=W.vT b hb;omega
 have o3:S3.ob bs=.ce [.int 0 (kd:Int),.int 0 (a:Int),vn,vl,vb] 0:=c3.ob m2 t2.ob λq=>by have:=(L.1 _ q).1;omega
 refine bH m3 o3 (by omega) (by show 2<5;omega) aeg λH4 m4=>?_;have kN:∀{α:Type}{R:Rep α}{u v:AV}{q:List α},aW R (λb=>S0.n≤b∧¬aj vn b∧¬aj u b) S2 v q→aW R (λb=>(S0.n≤b∧¬aj vn b∧¬aj u b)∧¬aj v' b) (S3.set bs (.ce ([.int 0 (kd:Int),.int 0 (a:Int),vn,vl,vb].set 2 v') 0)) v q:=λh=>
  (h.imp m2 λb hb hb2=>(⟨hb,λq=>(b3 b q).elim hb.2.1 λg=>by omega⟩:(S0.n≤b∧¬aj vn b∧¬aj _ b)∧¬aj v' b)).keep m2 n3 λb h1 h2=>by
   rw[LS.an _ _ (by have:=h1.1.1;omega)];exact k3 b h2 h1.1.2.1
 refine hX e v' H4 _ m4 (d3.setB hne W.nT _) ⟨(t2.x.rB c3 λb hb=>.inr (L.1 _ hb).1).set (.inl (.inr rfl)) _,LS.av _ _ _,B3.keep m3 (Nat.le_refl _) λb h1 _=>LS.an _ _ (by have:=h1.1;omega),?_,?_⟩ hP2
 ·exact aW.wk (kN (aW.wk t2.E λb hb=>⟨hb.1,hb.2.1,hb.2.2.1⟩)) λb hb=>⟨hb.1.1,hb.2,hb.1.2.2,λq=>q⟩
 ·exact aW.wk (kN (aW.wk t2.B λb hb=>⟨hb.1,hb.2.1,hb.2.2.1⟩)) λb hb=>⟨hb.1.1,hb.2,hb.1.2.2,λq=>q⟩
end
end
section
variable {H:AH}{S:LS}{K:KF}{C:Ctx}{i d:Nat}
section
variable {m k:Nat}{S0:LS}{bs kd a:Nat}{vn vl vb:AV}{names:List (List Nat)}{l:List au}{B:List (List az)}{γ:Type}{r:ak γ}
theorem dm.Mv(O:gA C m)(hk:2*k+4≤m)(hd:d≤200)(W:jZ C S0 bs)(hM:Mem H S)(hs:aZ C S r)(t:dm C S0 S bs kd a vn names vl l vb B bU){X:AV→AH→Prop}{f:au→Nat→ak az}
  (hP:aU C (fO C bs) (iK bs) K S0 (r.bind λ_ i=>(bP C.T k i d).bind f))
  (hX:∀(e:au) (b:Nat) (H':AH) (S':LS),Mem H' S'→aZ C S' (r.bind λ_ i=>bP C.T k i d)→dm C S0 S' bs kd a vn names vl l vb B (λx=>x=b)→aW km (zS S0 vn vb bU) S' (.slice b 0 1 1 7 true) [e]→aU C (fO C bs) (iK bs) K S0 ((r.bind λ_ i=>bP C.T k i d).bind λ_ j=>f e j)→X (.slice b 0 1 1 7 true) H') :
  (s10 m).2.1 (.ptr C.bp 0) (d:Int) H λo5 H6=>cR K o5 H6 λv7=>onVal v7 λl8=>gK l8 7 (aR (aB H6) 1 7 (spl l8 z7 0) X):=by
 have L:=t.yw hM;have n0:=t.x.1;refine O.exp k hk hd hM hs (aU.call (eT:=dV) (bJ r _ _ ▸ hP) λe H2 S2 w m2 c2 d2 ⟨c,hw,hR⟩ hP2=>?_);subst hw;have t2:=t.keep W hM c2;rw[iN];refine gx hR.len ?_;rw[FI hR.len rfl];exact t2.newE W m2 hR (λb hb=>⟨by have:=hb.1;omega,hb.2,λq=>by have:=(L.1 _ q).2;have:=hb.1;omega,λq=>by have:=(L.2.2 _ q).2;have:=hb.1;omega⟩) d2 λH3 S3 m3 _ d3 t3 E3=>hX e S2.n H3 S3 m3 d3 t3 E3 hP2
theorem dm.Rq(O:gA C m)(hk:2*k+4≤m)(hd:d≤200)(W:jZ C S0 bs)(hM:Mem H S)(hs:aZ C S r)(t:dm C S0 S bs kd a vn names vl l vb B bU){X:AV→AH→Prop}{f:List az→Nat→ak az}
  (hP:aU C (fO C bs) (iK bs) K S0 (r.bind λ_ i=>(cj C.T k i d).bind f))
  (hX:∀(e:List az) (b:Nat) (H':AH) (S':LS),Mem H' S'→aZ C S' (r.bind λ_ i=>cj C.T k i d)→dm C S0 S' bs kd a vn names vl l vb B (λx=>x=b)→aW sQ (zS S0 vn vl bU) S' (.slice b 0 1 1 1 true) [e]→aU C (fO C bs) (iK bs) K S0 ((r.bind λ_ i=>cj C.T k i d).bind λ_ j=>f e j)→X (.slice b 0 1 1 1 true) H') :
  (s10 m).1 (.ptr C.bp 0) (d:Int) H λo5 H6=>cR K o5 H6 λv7=>one v7 (aR (aB H6) 1 1 [v7] X):=by
 have L:=t.yw hM;have n0:=t.x.1;refine O.block k hk hd hM hs (aU.call (eT:=gw) (bJ r _ _ ▸ hP) λe H2 S2 w m2 c2 d2 ⟨cb,hsl,hrs⟩ hP2=>?_);have t2:=t.keep W hM c2;refine fC hsl.one ?_;exact t2.aqA W m2 (Q:=jd S.n S2.n) ⟨w,cb,rfl,hsl,hrs⟩ (λb hb=>⟨by have:=hb.1;omega,hb.2,λq=>by have:=(L.1 _ q).2;have:=hb.1;omega,λq=>by have:=(L.2.1 _ q).2;have:=hb.1;omega⟩) d2 λH3 S3 m3 _ d3 t3 E3=>hX e S2.n H3 S3 m3 d3 t3 E3 hP2
theorem dm.aeh(W:jZ C S0 bs)(hM:Mem H S)(hs:aZ C S r)(t:dm C S0 S bs kd a vn names vl l vb B bU){X:AV→AH→Prop}{f:List Nat→Nat→ak az}
  (hP:aU C (fO C bs) (iK bs) K S0 (r.bind λ_ i=>(ey C.T i).bind f))
  (hX:∀(e:List Nat) (b:Nat) (H':AH) (S':LS),Mem H' S'→aZ C S' (r.bind λ_ i=>ey C.T i)→dm C S0 S' bs kd a vn names vl l vb B (λx=>x=b)→aW uh (zS S0 vl vb bU) S' (.slice b 0 1 1 1 true) [e]→aU C (fO C bs) (iK bs) K S0 ((r.bind λ_ i=>ey C.T i).bind λ_ j=>f e j)→X (.slice b 0 1 1 1 true) H') :
  f57 (.ptr C.bp 0) H λo5 H6=>cR K o5 H6 λv7=>one v7 (aR (aB H6) 1 1 [v7] X):=by
 refine rL hM hs (aU.call (eT:=Mk) (bJ r _ _ ▸ hP) λe H2 S2 w m2 c2 d2 ⟨hw,h8⟩ hP2=>?_);subst hw;refine fC (kP e) ?_;exact(t.keep W hM c2).aqz W m2 h8 d2 λH3 S3 m3 _ d3 t3 E3=>hX e S2.n H3 S3 m3 d3 t3 E3 hP2
theorem dm.must(W:jZ C S0 bs){s:List Nat}(h8:B8 s)(hM:Mem H S)(hs:aZ C S r)(t:dm C S0 S bs kd a vn names vl l vb B bU){X:AH→Prop}{f:Nat→ak az}
  (hP:aU C (fO C bs) (iK bs) K S0 (r.bind λ_ i=>(aS C.T s i).bind λ_ j=>f j))
  (hX:∀(H':AH) (S':LS),Mem H' S'→aZ C S' (r.bind λ_ i=>aS C.T s i)→dm C S0 S' bs kd a vn names vl l vb B bU→aU C (fO C bs) (iK bs) K S0 ((r.bind λ_ i=>aS C.T s i).bind λ_ j=>f j)→X H') :
  f59 (.ptr C.bp 0) (ai s) H λo5 H6=>cR K o5 H6 λv7=>X H6:=
 ks h8 hM hs (aU.call (eT:=mY) (bJ r _ _ ▸ hP) λ_ H2 S2 w m2 c2 d2 _ hP2=>hX H2 S2 m2 d2 (t.keep W hM c2) hP2)
theorem dm.last(W:jZ C S0 bs){s:List Nat}(h8:B8 s)(h3:kd≠3)(hM:Mem H S)(hs:aZ C S r)(t:dm C S0 S bs kd a vn names vl l vb B bU)
  (hP:aU C (fO C bs) (iK bs) K S0 (r.bind λ_ i=>(aS C.T s i).bind λ_ j=>dG C.T (.mk kd a names l B) j)) :
  f59 (.ptr C.bp 0) (ai s) H λo5 H6=>cR K o5 H6 λv7=>K (.ret (.aL [])) H6:=
 t.must W h8 hM hs hP λH2 S2 m2 d2 t2 hP2=>t2.fin m2 d2 h3 hP2
theorem aW.kb{α:Type}{R:Rep α}{u w v:AV}{q:List α}{S':LS}(W:jZ C S0 bs)(h:aW R (zS S0 u w bU) S v q)(hM:Mem H S)(hn:S'.n=S.n)(hk:∀b,b≠bs→S'.ob b=S.ob b):aW R (zS S0 u w bU) S' v q:=
 h.keep hM (Nat.le_of_eq hn.symm) λb h1 _=>hk b (by have:=W.lt;have:=h1.1;omega)
theorem Mw(O:gA C m)(hk:2*k+4≤m)(hd:d≤200)(W:jZ C S0 bs)(h3:kd≠3)(hM:Mem H S)(hs:aZ C S r)(t:dm C S0 S bs kd a vn names vl l .ab [] bU)
  (hP:aU C (fO C bs) (iK bs) K S0 (r.bind λ_ i=>(aS C.T [100,111] i).bind λ_ j=>(cj C.T k j d).bind λb j=>(aS C.T [101,110,100] j).bind λ_ j=>dG C.T (.mk kd a names l [b]) j)) :
  rJ (aY (s10 m)) K (.ptr C.bp 0) (.ptr bs 0) (d:Int) H:=by
 have r1:(aY (s10 m)).1=(s10 m).1:=rfl;have r9:(aY (s10 m)).2.2.2.2.2.2.2.2.1=f59:=rfl;show yT (aY (s10 m)) K (.ptr C.bp 0) (.ptr bs 0) (d:Int) H;unfold yT;rw[r1,r9];refine t.must W (s:=[100,111]) (aX (by decide)) hM hs hP λH1 S1 m1 d1 t1 hP1=>?_;refine t1.Rq O hk hd W m1 d1 hP1 λb bk H2 S2 m2 d2 t2 B2 hP2=>?_;refine t2.EG W m2 B2 (λb hb=>hb) d2 λH3 S3 m3 n3 d3 k3 t3=>?_;exact t3.last W (s:=[101,110,100]) (aX (by decide)) h3 m3 d3 hP2
theorem aph(O:gA C m)(hk:2*k+4≤m)(hd:d≤200)(W:jZ C S0 bs)(h3:kd≠3)(hM:Mem H S)(hs:aZ C S r)(t:dm C S0 S bs kd a vn names vl l .ab [] bU)
  (hP:aU C (fO C bs) (iK bs) K S0 (r.bind λ_ i=>(aS C.T [100,111] i).bind λ_ j=>(cj C.T k j d).bind λb j=>(aS C.T [101,110,100] j).bind λ_ j=>dG C.T (.mk kd a names l [b]) j)) :
  Jn (aY (s10 m)) K (.ptr C.bp 0) (.ptr bs 0) (d:Int) H:=by
 have r1:(aY (s10 m)).1=(s10 m).1:=rfl;have r9:(aY (s10 m)).2.2.2.2.2.2.2.2.1=f59:=rfl;show BK (aY (s10 m)) K (.ptr C.bp 0) (.ptr bs 0) (d:Int) H;unfold BK;rw[r1,r9];refine t.must W (s:=[100,111]) (aX (by decide)) hM hs hP λH1 S1 m1 d1 t1 hP1=>?_;refine t1.Rq O hk hd W m1 d1 hP1 λb bk H2 S2 m2 d2 t2 B2 hP2=>?_;refine t2.EG W m2 B2 (λb hb=>hb) d2 λH3 S3 m3 n3 d3 k3 t3=>?_;exact t3.last W (s:=[101,110,100]) (aX (by decide)) h3 m3 d3 hP2
theorem anE(O:gA C m)(hk:2*k+4≤m)(hd:d≤200)(W:jZ C S0 bs)(h3:kd≠3)(hM:Mem H S)(hs:aZ C S r)(t:dm C S0 S bs kd a vn names vl l .ab [] bU)
  (hP:aU C (fO C bs) (iK bs) K S0 (r.bind λ_ i=>(cj C.T k i d).bind λb j=>(aS C.T [101,110,100] j).bind λ_ j=>dG C.T (.mk kd a names l [b]) j)) :
  Fx (aY (s10 m)) K (.ptr C.bp 0) (.ptr bs 0) (d:Int) H:=by
 have r1:(aY (s10 m)).1=(s10 m).1:=rfl;have r9:(aY (s10 m)).2.2.2.2.2.2.2.2.1=f59:=rfl;show yX (aY (s10 m)) K (.ptr C.bp 0) (.ptr bs 0) (d:Int) H;unfold yX;rw[r1,r9];refine t.Rq O hk hd W hM hs hP λb bk H2 S2 m2 d2 t2 B2 hP2=>?_;refine t2.EG W m2 B2 (λb hb=>hb) d2 λH3 S3 m3 n3 d3 k3 t3=>?_;exact t3.last W (s:=[101,110,100]) (aX (by decide)) h3 m3 d3 hP2
theorem api(O:gA C m)(hk:2*k+4≤m)(hd:d≤200)(W:jZ C S0 bs)(hM:Mem H S)(hs:aZ C S r)(t:dm C S0 S bs kd a vn names .ab [] vb B bU)
  (hP:aU C (fO C bs) (iK bs) K S0 (r.bind λ_ i=>(bP C.T k i d).bind λe j=>dG C.T (.mk 8 a names [e] B) j)) :
  Jq (aY (s10 m)) K (.ptr C.bp 0) (.ptr bs 0) (d:Int) H:=by
 have r6:(aY (s10 m)).2.2.2.2.2.1=(s10 m).2.1:=rfl;show BQ (aY (s10 m)) K (.ptr C.bp 0) (.ptr bs 0) (d:Int) H;unfold BQ;rw[r6];refine t.Mv O hk hd W hM hs hP λe b H2 S2 m2 d2 t2 E2 hP2=>?_;refine t2.jY W m2 (kd':=8) d2 λH3 S3 m3 n3 d3 k3 t3=>?_;refine t3.qM W m3 (aW.kb W E2 m2 n3 k3) (λb hb=>hb) d3 λH4 S4 m4 n4 d4 k4 t4=>?_;exact t4.fin m4 d4 (by omega) hP2
theorem apj(O:gA C m)(hk:2*k+4≤m)(hd:d≤200)(W:jZ C S0 bs)(hM:Mem H S)(hs:aZ C S r)(t:dm C S0 S bs 1 a vn names .ab [] vb B bU)
  (hP:aU C (fO C bs) (iK bs) K S0 (r.bind λ_ j=>if isA C.T [61] j=true then (bP C.T k (j+1) d).bind λe k=>dG C.T (.mk 1 a names [e] B) k else dG C.T (.mk 1 a names [] B) j)) :
  Jp (aY (s10 m)) K (.ptr C.bp 0) (.ptr bs 0) (d:Int) H:=by
 have r4:(aY (s10 m)).2.2.2.1=f40:=rfl;have r6:(aY (s10 m)).2.2.2.2.2.1=(s10 m).2.1:=rfl;show BP (aY (s10 m)) K (.ptr C.bp 0) (.ptr bs 0) (d:Int) H;unfold BP;rw[r4,r6];refine dx (s:=[61]) (aX (by decide)) hM hs (λy j er hi H1 S1 m1 c1 d1=>?_) λh1 H1 S1 m1 c1 d1=>?_
 ·cases er;simp only[al,aM,aG];have hP:aU C (fO C bs) (iK bs) K S0 (if isA C.T [61] j=true then (bP C.T k (j+1) d).bind λe k=>dG C.T (.mk 1 a names [e] B) k else dG C.T (.mk 1 a names [] B) j):=hP;rw[if_pos hi]at hP;refine(t.keep W hM c1).Mv (r:=(.ok () (j+1):ak Unit)) O hk hd W m1 d1 hP λe b H2 S2 m2 d2 t2 E2 hP2=>?_;refine t2.qM W m2 E2 (λb hb=>hb) d2 λH4 S4 m4 n4 d4 k4 t4=>?_;exact t4.fin m4 d4 (by omega) hP2
 ·simp only[al,aM,aH];rw[wS h1]at hP;exact(t.keep W hM c1).fin m1 d1 (by omega) hP
theorem apk(O:gA C m)(hk:2*k+4≤m)(hd:d≤200)(W:jZ C S0 bs)(h3:kd≠3)(hB:B.length≤1000000)(hM:Mem H S)(hs:aZ C S r)(t:dm C S0 S bs kd a vn names vl l vb B bU)
  (hP:aU C (fO C bs) (iK bs) K S0 (r.bind λ_ j=>if isA C.T [101,108,115,101] j=true then (cj C.T k (j+1) d).bind λb2 j=>(aS C.T [101,110,100] j).bind λ_ j=>dG C.T (.mk kd a names l (B++[b2])) j else (aS C.T [101,110,100] j).bind λ_ j=>dG C.T (.mk kd a names l B) j)) :
  BG (aY (s10 m)) K (.ptr C.bp 0) (.ptr bs 0) (d:Int) H:=by
 have r1:(aY (s10 m)).1=(s10 m).1:=rfl;have r4:(aY (s10 m)).2.2.2.1=f40:=rfl;have r9:(aY (s10 m)).2.2.2.2.2.2.2.2.1=f59:=rfl;show BF (aY (s10 m)) K (Jk (aY (s10 m)) K) (.ptr C.bp 0) (.ptr bs 0) (d:Int) H;unfold BF;rw[r1,r4];refine dx (s:=[101,108,115,101]) (aX (by decide)) hM hs (λy j er hi H1 S1 m1 c1 d1=>?_) λh1 H1 S1 m1 c1 d1=>?_
 ·cases er;simp only[al,aM,aG];have hP:aU C (fO C bs) (iK bs) K S0 (if isA C.T [101,108,115,101] j=true then (cj C.T k (j+1) d).bind λb2 j=>(aS C.T [101,110,100] j).bind λ_ j=>dG C.T (.mk kd a names l (B++[b2])) j else (aS C.T [101,110,100] j).bind λ_ j=>dG C.T (.mk kd a names l B) j):=hP;rw[if_pos hi]at hP;refine(t.keep W hM c1).anD (r:=(.ok () (j+1):ak Unit)) O hk hd W m1 d1 hB hP λe v' H2 S2 m2 d2 t2 hP2=>?_;show uT (aY (s10 m)) K (.ptr C.bp 0) H2;unfold uT;rw[r9];exact t2.last W (s:=[101,110,100]) (aX (by decide)) h3 m2 d2 hP2
 ·simp only[al,aM,aH];rw[wS h1]at hP;show uT (aY (s10 m)) K (.ptr C.bp 0) H1;unfold uT;rw[r9];exact(t.keep W hM c1).last W (s:=[101,110,100]) (aX (by decide)) h3 m1 d1 hP
theorem apl(O:gA C m)(hd:d≤200)(W:jZ C S0 bs):∀k,2*k+4≤m+1→∀(q:Nat){γ:Type}(r:ak γ) (vl vb:AV) (l:List au) (B:List (List az)) (H:AH) (S:LS),k<q→l.length+k≤1000000→B.length+k≤1000000→Mem H S→aZ C S r→dm C S0 S bs 4 a .ab [] vl l vb B bU→
  (∀x i,r=.ok x i→True)→aU C (fO C bs) (iK bs) K S0 (r.bind λ_ i=>(eS C.T k a l B i d).bind λs j=>dG C.T s j)→(k=0→∃x i,r=.ok x i)→sn (aY (s10 m)) K q (.ptr C.bp 0) (.ptr bs 0) (d:Int) H:=by
 intro k
 induction k with
 |zero=>
  intro hk q γ r vl vb l B H S hq hl hB hM hs t _ hP h0;obtain⟨x,i,rfl⟩:=h0 rfl;exact absurd (show(eS C.T 0 a l B i d).bind _=.bb by simp only[eS];rfl) hP.1
 |succ k ih=>
  intro hk q γ r vl vb l B H S hq hl hB hM hs t _ hP h0;obtain⟨q,rfl⟩:∃p,q=p+1:=⟨q-1,by omega⟩
  have r1:(aY (s10 m)).1=(s10 m).1:=rfl;have r4:(aY (s10 m)).2.2.2.1=f40:=rfl;have r6:(aY (s10 m)).2.2.2.2.2.1=(s10 m).2.1:=rfl;have r9:(aY (s10 m)).2.2.2.2.2.2.2.2.1=f59:=rfl;show BJ (aY (s10 m)) K (Jm (aY (s10 m)) K (sn (aY (s10 m)) K q)) (.ptr C.bp 0) (.ptr bs 0) (d:Int) H;unfold BJ;rw[r6];simp only[eS,bJ]at hP;refine t.aef O (k:=k) (by omega) hd W hM hs (by omega) hP λe v' H1 S1 m1 d1 t1 hP1=>?_;show BI (aY (s10 m)) K (Jl (aY (s10 m)) K (sn (aY (s10 m)) K q)) (.ptr C.bp 0) (.ptr bs 0) (d:Int) H1;unfold BI;rw[r1,r9];refine t1.must W (s:=[116,104,101,110]) (aX (by decide)) m1 d1 hP1 λH2 S2 m2 d2 t2 hP2=>?_;refine t2.anD O (k:=k) (by omega) hd W m2 d2 (by omega) hP2 λb v2 H3 S3 m3 d3 t3 hP3=>?_;show BH (aY (s10 m)) K (sn (aY (s10 m)) K q) (BG (aY (s10 m)) K) (.ptr C.bp 0) (.ptr bs 0) (d:Int) H3;unfold BH;rw[r4];refine dx (s:=[101,108,115,101,105,102]) (aX (by decide)) m3 d3 (λy j er hi H4 S4 m4 c4 d4=>?_) λh1 H4 S4 m4 c4 d4=>?_
  ·rw[er]at hP3;simp only[al,aM,Bool.not_true,aH];have hP3:aU C (fO C bs) (iK bs) K S0 ((if isA C.T [101,108,115,101,105,102] j=true then eS C.T k a (l++[e]) (B++[b]) (j+1) d else if isA C.T [101,108,115,101] j=true then (cj C.T k (j+1) d).bind λb2 j=>(aS C.T [101,110,100] j).bind λ_ j=>.ok (.mk 4 a [] (l++[e]) (B++[b]++[b2])) j else (aS C.T [101,110,100] j).bind λ_ j=>.ok (.mk 4 a [] (l++[e]) (B++[b])) j).bind λs j=>dG C.T s j):=hP3;rw[if_pos hi]at hP3;exact ih (by omega) q (.ok () (j+1):ak Unit) v' v2 (l++[e]) (B++[b]) H4 S4 (by omega) (by simp;omega) (by simp;omega) m4 d4 (t3.keep W m3 c4) (λ_ _ _=>trivial) hP3 λ_=>⟨_,_,rfl⟩
  ·simp only[al,aM,Bool.not_false,aG];refine apk (k:=k) O (by omega) hd W (by omega) (by simp;omega) m4 d4 (t3.keep W m3 c4) ?_;have sp:∀r':ak (List az),oG C.T [101,108,115,101,105,102] r'=false→(r'.bind λ_ j=>(if isA C.T [101,108,115,101,105,102] j=true then eS C.T k a (l++[e]) (B++[b]) (j+1) d else if isA C.T [101,108,115,101] j=true then (cj C.T k (j+1) d).bind λb2 j=>(aS C.T [101,110,100] j).bind λ_ j=>.ok (.mk 4 a [] (l++[e]) (B++[b]++[b2])) j else (aS C.T [101,110,100] j).bind λ_ j=>.ok (.mk 4 a [] (l++[e]) (B++[b])) j).bind λs j=>dG C.T s j)=r'.bind λ_ j=>if isA C.T [101,108,115,101] j=true then (cj C.T k (j+1) d).bind λb2 j=>(aS C.T [101,110,100] j).bind λ_ j=>dG C.T (.mk 4 a [] (l++[e]) (B++[b]++[b2])) j else (aS C.T [101,110,100] j).bind λ_ j=>dG C.T (.mk 4 a [] (l++[e]) (B++[b])) j:=by
    intro r' h;cases r' with
    |bb=>rfl
    |err c i=>rfl
    |ok y j=>
     have h2:isA C.T [101,108,115,101,105,102] j=false:=h;show ak.bind (if isA C.T [101,108,115,101,105,102] j=true then _ else _) _=_;rw[if_neg (by rw[h2];simp)];show ak.bind (if isA C.T [101,108,115,101] j=true then _ else _) _=if isA C.T [101,108,115,101] j=true then _ else _
     split
     ·simp only[bJ];rfl
     ·simp only[bJ];rfl
   rw[←sp _ h1];exact hP3
end
end
section
variable {H:AH}{S:LS}{K:KF}{C:Ctx}{i d:Nat}
section
variable {m k:Nat}{S0:LS}{bs kd a:Nat}{vn vl vb:AV}{names:List (List Nat)}{l:List au}{B:List (List az)}{γ:Type}{r:ak γ}
theorem yx{T:List Tok}(h:(r.bind λ_ j=>(cD T k kd a names l j d).bind λs j=>dG T s j)≠.bb):(r.bind λ_ j=>(cD T k kd a names l j d).bind λs j=>dG T s j)=r.bind λ_ j=>(aS T [100,111] j).bind λ_ j=>(cj T (k-1) j d).bind λb j=>(aS T [101,110,100] j).bind λ_ j=>dG T (.mk kd a names l [b]) j:=by
 cases r with
 |bb=>rfl
 |err c i=>rfl
 |ok y j=>
  cases k with
  |zero=>exact absurd (show(cD T 0 kd a names l j d).bind (λs j=>dG T s j)=.bb by simp only[cD];rfl) h
  |succ k=>
   show(cD T (k+1) kd a names l j d).bind (λs j=>dG T s j)=_;simp only[cD,bJ];rfl
theorem apm(O:gA C m)(hk:2*k+4≤m)(hd:d≤200)(W:jZ C S0 bs){s:List Nat}(hM:Mem H S)(hs:aZ C S r)(t:dm C S0 S bs 0 a vn [s] .ab [] .ab [] bU)
  (hP:aU C (fO C bs) (iK bs) K S0 (r.bind λ_ j=>(if isA C.T [44] j=true then (ey C.T (j+1)).bind λOI j=>(aS C.T [105,110] j).bind λ_ j=>(bP C.T k j d).bind λe j=>cD C.T k 7 a [s,OI] [e] j d
   else (aS C.T [61] j).bind λ_ j=>(bP C.T k j d).bind λe j=>(aS C.T [44] j).bind λ_ j=>(bP C.T k j d).bind λe2 j=>if isA C.T [44] j=true then (bP C.T k (j+1) d).bind λe3 j=>cD C.T k 6 a [s] [e,e2,e3] j d else cD C.T k 6 a [s] [e,e2] j d).bind λs j=>dG C.T s j)) :
  Jo (aY (s10 m)) K (.ptr C.bp 0) (.ptr bs 0) (d:Int) H:=by
 have r4:(aY (s10 m)).2.2.2.1=f40:=rfl;have r6:(aY (s10 m)).2.2.2.2.2.1=(s10 m).2.1:=rfl;have r7:(aY (s10 m)).2.2.2.2.2.2.1=f57:=rfl;have r9:(aY (s10 m)).2.2.2.2.2.2.2.2.1=f59:=rfl;show BN (aY (s10 m)) K (Ft (aY (s10 m)) K) (Fw (aY (s10 m)) K) (.ptr C.bp 0) (.ptr bs 0) (d:Int) H;unfold BN;rw[r4,r6,r7,r9];refine t.jY W hM (kd':=6) hs λH1 S1 m1 n1 d1 k1 t1=>?_;refine dx (s:=[44]) (aX (by decide)) m1 d1 (λy j er hi H2 S2 m2 c2 d2=>?_) λh1 H2 S2 m2 c2 d2=>?_
 ·cases er;simp only[al,aM,aG];have t2:=t1.keep W m1 c2;have hP:aU C (fO C bs) (iK bs) K S0 ((if isA C.T [44] j=true then (ey C.T (j+1)).bind λOI j=>(aS C.T [105,110] j).bind λ_ j=>(bP C.T k j d).bind λe j=>cD C.T k 7 a [s,OI] [e] j d
   else (aS C.T [61] j).bind λ_ j=>(bP C.T k j d).bind λe j=>(aS C.T [44] j).bind λ_ j=>(bP C.T k j d).bind λe2 j=>if isA C.T [44] j=true then (bP C.T k (j+1) d).bind λe3 j=>cD C.T k 6 a [s] [e,e2,e3] j d else cD C.T k 6 a [s] [e,e2] j d).bind λs j=>dG C.T s j):=hP
  rw[if_pos hi]at hP;simp only[bJ]at hP;refine t2.jY W m2 (kd':=7) d2 λH3 S3 m3 n3 d3 k3 t3=>?_;refine t3.aqC W m3 d3 (by simp) (r:=(.ok () (j+1):ak Unit)) hP λOI v' H4 S4 m4 d4 t4 vO=>?_;show yU (aY (s10 m)) K (rJ (aY (s10 m)) K) (.ptr C.bp 0) (.ptr bs 0) (d:Int) H4;unfold yU;rw[r6,r9];refine t4.must W (s:=[105,110]) (aX (by decide)) m4 d4 vO λH5 S5 m5 d5 t5 tR=>?_;refine t5.Mv O hk hd W m5 d5 tR λe b H6 S6 m6 d6 t6 E6 EF=>?_;refine t6.qM W m6 E6 (λb hb=>hb) d6 λH7 S7 m7 n7 d7 k7 t7=>?_;rw[yx EF.1]at EF;exact Mw (k:=k-1) O (by omega) hd W (by omega) m7 d7 t7 EF
 ·simp only[al,aM,aH];have t2:=t1.keep W m1 c2;have sp:(r.bind λ_ j=>(if isA C.T [44] j=true then (ey C.T (j+1)).bind λOI j=>(aS C.T [105,110] j).bind λ_ j=>(bP C.T k j d).bind λe j=>cD C.T k 7 a [s,OI] [e] j d
   else (aS C.T [61] j).bind λ_ j=>(bP C.T k j d).bind λe j=>(aS C.T [44] j).bind λ_ j=>(bP C.T k j d).bind λe2 j=>if isA C.T [44] j=true then (bP C.T k (j+1) d).bind λe3 j=>cD C.T k 6 a [s] [e,e2,e3] j d else cD C.T k 6 a [s] [e,e2] j d).bind λs j=>dG C.T s j)=r.bind λ_ j=>(aS C.T [61] j).bind λ_ j=>(bP C.T k j d).bind λe j=>(aS C.T [44] j).bind λ_ j=>(bP C.T k j d).bind λe2 j=>(if isA C.T [44] j=true then (bP C.T k (j+1) d).bind λe3 j=>cD C.T k 6 a [s] [e,e2,e3] j d else cD C.T k 6 a [s] [e,e2] j d).bind λs j=>dG C.T s j:=by
   cases r with
   |bb=>rfl
   |err c i=>rfl
   |ok y j=>
    have h2:isA C.T [44] j=false:=h1;show ak.bind (if isA C.T [44] j=true then _ else _) _=_;rw[if_neg (by rw[h2];simp)];simp only[bJ];rfl
  rw[sp]at hP;refine t2.must W (s:=[61]) (aX (by decide)) m2 d2 hP λH3 S3 m3 d3 t3 hP3=>?_;refine t3.Mv O hk hd W m3 d3 hP3 λe b H4 S4 m4 d4 t4 E4 vO=>?_;refine t4.qM W m4 E4 (λb hb=>hb) d4 λH5 S5 m5 n5 d5 k5 t5=>?_;show yW (aY (s10 m)) K (Fv (aY (s10 m)) K) (.ptr C.bp 0) (.ptr bs 0) (d:Int) H5;unfold yW;rw[r6,r9];refine t5.must W (s:=[44]) (aX (by decide)) m5 d5 vO λH6 S6 m6 d6 t6 EF=>?_;refine t6.aef O hk hd W m6 d6 (by simp) EF λe2 v' H7 S7 m7 d7 t7 xi=>?_;show yV (aY (s10 m)) K (rJ (aY (s10 m)) K) (.ptr C.bp 0) (.ptr bs 0) (d:Int) H7;unfold yV;rw[r4,r6];refine dx (s:=[44]) (aX (by decide)) m7 d7 (λy j er hi H8 S8 m8 c8 d8=>?_) λh2 H8 S8 m8 c8 d8=>?_
  ·rw[er]at xi;simp only[al,aM,aG];have xi:aU C (fO C bs) (iK bs) K S0 ((if isA C.T [44] j=true then (bP C.T k (j+1) d).bind λe3 j=>cD C.T k 6 a [s] [e,e2,e3] j d else cD C.T k 6 a [s] [e,e2] j d).bind λs j=>dG C.T s j):=xi;rw[if_pos hi,bJ]at xi;refine(t7.keep W m7 c8).aef O hk hd W m8 d8 (by simp) (r:=(.ok () (j+1):ak Unit)) xi λe3 v3 H9 S9 m9 d9 t7 Mx=>?_;have Mx:aU C (fO C bs) (iK bs) K S0 (((ak.ok () (j+1)).bind λ_ i=>bP C.T k i d).bind λ_ j=>(cD C.T k 6 a [s] [e,e2,e3] j d).bind λs j=>dG C.T s j):=Mx;rw[yx Mx.1]at Mx;exact Mw (k:=k-1) O (by omega) hd W (by omega) m9 d9 t7 Mx
  ·simp only[al,aM,aH];have sp2:∀r':ak au,oG C.T [44] r'=false→(r'.bind λ_ j=>(if isA C.T [44] j=true then (bP C.T k (j+1) d).bind λe3 j=>cD C.T k 6 a [s] [e,e2,e3] j d else cD C.T k 6 a [s] [e,e2] j d).bind λs j=>dG C.T s j)=r'.bind λ_ j=>(cD C.T k 6 a [s] [e,e2] j d).bind λs j=>dG C.T s j:=by
    intro r' h;cases r' with
    |bb=>rfl
    |err c i=>rfl
    |ok y j=>
     have h3:isA C.T [44] j=false:=h;show ak.bind (if isA C.T [44] j=true then _ else _) _=_;rw[if_neg (by rw[h3];simp)];rfl
   have EH:=xi;rw[sp2 _ h2]at EH;rw[yx EH.1]at EH;exact Mw (k:=k-1) O (by omega) hd W (by omega) m8 d8 (t7.keep W m7 c8) EH
theorem acA(O:gA C m)(hk:2*k+4≤m)(hd:d≤200)(W:jZ C S0 bs){b8:Nat}{c:List AV}{e:au}{Q:Nat→Prop}(hM:Mem H S)(hs:aZ C S r)(t:dm C S0 S bs 0 a .ab [] .ab [] .ab [] bU)(ho:S.ob b8=.ce c 0)(hb8:S0.n≤b8)(hR:RE S Q c e)(hQ:∀b,Q b→S0.n≤b∧b<S.n)
  (hP:aU C (fO C bs) (iK bs) K S0 (r.bind λ_ j=>(aS C.T [61] j).bind λ_ j=>(bP C.T k j d).bind λv j=>dG C.T (.mk 2 a [] [e,v] []) j)) :
  y7 (aY (s10 m)) K (.ptr C.bp 0) (.ptr bs 0) (d:Int) (.ptr b8 0) H:=by
 have r6:(aY (s10 m)).2.2.2.2.2.1=(s10 m).2.1:=rfl;have r9:(aY (s10 m)).2.2.2.2.2.2.2.2.1=f59:=rfl;show y0 (aY (s10 m)) K (.ptr C.bp 0) (.ptr bs 0) (d:Int) (.ptr b8 0) H;unfold y0;rw[r6,r9];have hlt:=W.lt;have hbp:=W.bp;have n0:=t.x.1;have lt8:b8<S.n:=hM.lt (by rw[ho];simp);have nb:∀b,S0.n≤b→¬bE C b:=λb hb q=>by have q:b=C.bp:=q;omega
 refine ks (s:=[61]) (aX (by decide)) hM hs (aU.call (eT:=mY) hP.seq λ_ H1 S1 w m1 c1 d1 _ hP1=>?_);have t1:=t.keep W hM c1;have o1:=c1.ob hM ho (nb _ hb8);have R1:RE S1 Q c e:=hR.go (λb hb=>c1.2 b (hQ b hb).2 (nb b (hQ b hb).1)) λ_ h=>h;refine gO m1 o1 R1.len ?_;refine O.exp k hk hd m1 d1 (aU.call (eT:=dV) hP1.seq λv H2 S2 w m2 c2 d2 ⟨cv,hw,hRv⟩ hP2=>?_);subst hw;have t2:=t1.keep W m1 c2;have o2:=c2.ob m1 o1 (nb _ hb8);have n1:=c1.1;have R2:RE S2 Q c e:=R1.go (λb hb=>c2.2 b (Nat.lt_of_lt_of_le (hQ b hb).2 n1) (nb b (hQ b hb).1)) λ_ h=>h;have n2:=c2.1;refine gO m2 o2 R2.len ?_;refine cC R2.same ?_;refine m2.cL ?_;simp only[iN];refine gx R2.len (gx hRv.len ?_);rw[zh R2.len hRv.len rfl];refine t2.apg W m2 (Q:=λb=>S0.n≤b∧b<S2.n) (R2.go (λ_ _=>rfl) λb hb=>⟨(hQ b hb).1,by have:=(hQ b hb).2;omega⟩) (hRv.go (λ_ _=>rfl) λb hb=>⟨by have:=hb.1;omega,hb.2⟩) (λb hb=>⟨hb.1,hb.2,λq=>q,λq=>q⟩) d2 λH3 S3 m3 n3 d3 t3 E3 k3=>?_;refine cC (qS (by rw[m3.n,m2.n,n3])) ?_;have o3:S3.ob b8=.ce c 0:=(k3 b8 (by omega)).trans o2;refine t3.jY W m3 (kd':=2) d3 λH4 S4 m4 n4 d4 k4 t4=>?_;refine gO m4 ((k4 b8 (by omega)).trans o3) R2.len ?_;refine cC R2.same ?_;refine t4.qM W m4 (aW.kb W E3 m3 n4 k4) (λb hb=>hb) d4 λH5 S5 m5 n5 d5 k5 t5=>?_;exact t5.fin m5 d5 (by omega) hP2
theorem anF(W:jZ C S0 bs){b8:Nat}{c:List AV}{e:au}{Q:Nat→Prop}(hM:Mem H S)(hs:aZ C S r)(t:dm C S0 S bs 0 a .ab [] .ab [] .ab [] bU)(ho:S.ob b8=.ce c 0)(hb8:S0.n≤b8)(hR:RE S Q c e)(hQ:∀b,Q b→S0.n≤b∧b<S.n)
  (hP:aU C (fO C bs) (iK bs) K S0 (r.bind λ_ j=>.ok (.mk 3 a [] [e] []) j)) :
  yZ (aY (s10 m)) K (.ptr bs 0) (.ptr b8 0) H:=by
 show yY (aY (s10 m)) K (.ptr bs 0) (.ptr b8 0) H;unfold yY;have hlt:=W.lt;have lt8:b8<S.n:=hM.lt (by rw[ho];simp);refine gO hM ho hR.len ?_;refine hM.cL ?_;rw[iN];refine gx hR.len ?_;rw[FI hR.len rfl];refine dJ hM (by rw[hR.len]) hR.ones λH1 m1=>cC (qS (by rw[m1.n,hM.n];rfl)) ?_;have n0:=t.x.1;have L:=t.yw hM;have c1:aK bU S (S.push (.ce c 0)):=(aK.refl _ _).push _;have d1:=hs.ik hM c1;have t1:=((t.res hM (X':=λb=>b=S.n) λb hb=>.inr (by have hb:b=S.n:=hb;omega)).keep W hM c1.no)
 have E1:aW km (zS S0 .ab .ab bU) (S.push (.ce c 0)) (.slice S.n 0 1 1 7 true) [e]:=
  aW.single (R:=km) (Q:=Q) (LS.aq _ _) ⟨n0,λq=>q,λq=>q,λq=>q⟩ (hR.go (λb hb=>LS.bR _ _ (hQ b hb).2) λ_ h=>h) λx hx=>⟨⟨(hQ x hx).1,λq=>q,λq=>q,λq=>q⟩,Nat.lt_succ_of_lt (hQ x hx).2,by have:=(hQ x hx).2;omega⟩
 have o1:(S.push (.ce c 0)).ob b8=.ce c 0:=(LS.bR _ _ lt8).trans ho;refine t1.jY W m1 (kd':=3) d1 λH2 S2 m2 n2 d2 k2 t2=>?_;refine gO m2 ((k2 b8 (by omega)).trans o1) hR.len ?_;refine cC hR.same ?_;refine t2.qM W m2 (aW.kb W E1 m1 n2 k2) (λb hb=>hb) d2 λH3 S3 m3 n3 d3 k3 t3=>?_;exact hP.2 H3 S3 _ _ m3 t3.x (d3.ret _) ⟨rfl,_,t3.ob,t3.rst m3⟩ px
theorem anG(O:gA C m)(hk:2*k+4≤m)(hd:d≤200)(W:jZ C S0 bs){b8:Nat}{c:List AV}{e:au}{Q:Nat→Prop}(hM:Mem H S)(hs:aZ C S r)(t:dm C S0 S bs 0 a .ab [] .ab [] .ab [] bU)(ho:S.ob b8=.ce c 0)(hb8:S0.n≤b8)(hR:RE S Q c e)(hQ:∀b,Q b→S0.n≤b∧b<S.n)
  (hP:aU C (fO C bs) (iK bs) K S0 (r.bind λ_ j=>(if e.kind=10 then .ok (.mk 3 a [] [e] []) j else (aS C.T [61] j).bind λ_ j=>(bP C.T k j d).bind λv j=>.ok (.mk 2 a [] [e,v] []) j).bind λs j=>dG C.T s j)) :
  Fy (aY (s10 m)) K (.ptr C.bp 0) (.ptr bs 0) (d:Int) (.ptr b8 0) H:=by
 have r2:(aY (s10 m)).2.1=f18:=rfl;have r5:(aY (s10 m)).2.2.2.2.1=f41:=rfl;have e10:Int.ofNat 10=((10:Nat):Int):=rfl;show y8 (aY (s10 m)) K (yZ (aY (s10 m)) K) (y7 (aY (s10 m)) K) (.ptr C.bp 0) (.ptr bs 0) (d:Int) (.ptr b8 0) H;unfold y8;rw[r2,r5];have hlt:=W.lt;have hbp:=W.bp;have nb:∀b,S0.n≤b→¬bE C b:=λb hb q=>by have q:b=C.bp:=q;omega
 obtain⟨cr,hcr⟩:=hR.k0;have knd:∀{H:AH}{S:LS}{P Q:Prop},Mem H S→S.ob b8=.ce c 0→bI (decide ((e.kind:Int)=((10:Nat):Int))) P Q→af 0 (.ptr b8 0) λv1=>ad v1 H λv2=>cI 0 v2 λz3=>bI (bq z3 (.ofNat 10)) P Q:=by
  intro H S P Q hM ho h;rw[aQ,Nat.zero_add];refine aD hM ho (v:=.int 0 (e.kind:Int)) (by rw[hcr];rfl) ?_;rw[aO,bu,e10];exact h
 refine knd hM ho ?_;by_cases g:e.kind=10
 ·rw[decide_eq_true (by omega),aG];simp only[if_pos g]at hP;refine rC (s:=[61]) (aX (by decide)) hM hs λH1 S1 m1 c1 d1=>?_;rw[al,aM];have t1:=t.keep W hM c1.no;have o1:=c1.ob hM ho λq=>q;have R1:RE S1 Q c e:=hR.go (λb hb=>c1.2 b (hQ b hb).2 λq=>q) λ_ h=>h;have Q1:∀b,Q b→S0.n≤b∧b<S1.n:=λb hb=>⟨(hQ b hb).1,Nat.lt_of_lt_of_le (hQ b hb).2 c1.1⟩
  cases hi:oG C.T [61] r with
  |false=>
   simp only[Bool.not_false,aG];refine anF W m1 d1 t1 o1 hb8 R1 Q1 ?_;have sp:(r.bind λ_ j=>(ak.ok (az.mk 3 a [] [e] []) j).bind λs j=>dG C.T s j)=r.bind λ_ j=>.ok (.mk 3 a [] [e] []) j:=by
    cases r with
    |bb=>rfl
    |err c i=>rfl
    |ok y j=>
     have h3:isA C.T [61] j=false:=hi;show dG C.T (.mk 3 a [] [e] []) j=.ok _ j;unfold dG;rw[if_neg (by rw[h3];simp)]
   rw[←sp];exact hP
  |true=>
   obtain⟨y,j,rfl,hj⟩:=Ap hi;simp only[Bool.not_true,aH];refine knd m1 o1 ?_;rw[decide_eq_true (by omega),aG];refine p5 (c:=14) (by omega) (by omega) m1 d1 λH2 S2 m2 c2 d2=>?_;rw[al];have hP:aU C (fO C bs) (iK bs) K S0 (dG C.T (.mk 3 a [] [e] []) j):=hP;unfold dG at hP;rw[if_pos ⟨rfl,hj⟩]at hP;exact acA (r:=(ak.err 14 j:ak Unit)) O hk hd W m2 d2 (t1.keep W m1 c2) (c2.ob m1 o1 (nb _ hb8)) hb8 (R1.go (λb hb=>c2.2 b (Q1 b hb).2 (nb b (Q1 b hb).1)) λ_ h=>h) (λb hb=>⟨(Q1 b hb).1,Nat.lt_of_lt_of_le (Q1 b hb).2 c2.1⟩) hP
 ·rw[decide_eq_false (by omega),aH];refine knd hM ho ?_;rw[decide_eq_false (by omega),aH];simp only[if_neg g,bJ]at hP;exact acA O hk hd W hM hs t ho hb8 hR hQ hP
end
end
section
variable {H:AH}{S:LS}{K:KF}{C:Ctx}{i d:Nat}
theorem x71{m:Nat}(hm:m≤1000000)(O:gA C m):∀k,2*k+4≤m+1→∀{K:KF}{H:AH}{S:LS}{i d bs:Nat}{γ:Type}{x:γ},d≤200→Mem H S→aZ C S (ak.ok x i)→isA C.T [114,101,116,117,114,110] i=false→S.ob bs=.ce [.int 0 0,.int 0 (ay C.T i:Int),.ab,.ab,.ab] 0→bs≠C.bp→(∀b,aj C.vT b→b≠bs)→aU C (fO C bs) (iK bs) K S (zn C.T k i d)→(s10 (m+1)).2.2.1 (.ptr C.bp 0) (.ptr bs 0) (d:Int) H K:=by
 intro k hk K H S i d bs γ x hd hM hs hret hob hne hnT hP;cases k with
 |zero=>exact absurd (show zn C.T 0 i d=.bb by unfold zn;simp only[eW];rfl) hP.1
 |succ k=>
 have r1:(aY (s10 m)).1=(s10 m).1:=rfl;have r3:(aY (s10 m)).2.2.1=f39:=rfl;have r4:(aY (s10 m)).2.2.2.1=f40:=rfl;have r6:(aY (s10 m)).2.2.2.2.2.1=(s10 m).2.1:=rfl;have r7:(aY (s10 m)).2.2.2.2.2.2.1=f57:=rfl;have r8:(aY (s10 m)).2.2.2.2.2.2.2.1=(s10 m).2.2.2.2.1:=rfl;have r9:(aY (s10 m)).2.2.2.2.2.2.2.2.1=f59:=rfl;have r10:(aY (s10 m)).2.2.2.2.2.2.2.2.2=(s10 m).2.2.2.2.2.1:=rfl;have e7:(s10 (m+1)).2.2.1=BS (aY (s10 m)):=by rw[zo]
 rw[e7];unfold BS Uf Jr;rw[r1,r3,r4,r6,r7,r8,r9,r10];have iR:G.NL=1000000:=rfl;generalize G.NL=iq at iR ⊢;have W:jZ C S bs:=⟨hM.lt (by rw[hob];simp),hne,hnT,hs.mW hM,λb hb=>hs.tk.lt hM hb⟩
 have hlt:=W.lt;have t:dm C S S bs 0 (ay C.T i) .ab [] .ab [] .ab [] bU:=⟨aK.refl _ _,hob,aW.nil _ _ _,aW.nil _ _ _,aW.nil _ _ _⟩
 have hP:aU C (fO C bs) (iK bs) K S ((eW C.T (k+1) i d).bind λs j=>dG C.T s j):=hP;simp only[eW]at hP;refine dx (s:=[108,111,99,97,108]) (aX (by decide)) hM hs (λy j er hi H1 S1 m1 c1 d1=>?_) λh1 H1 S1 m1 c1 d1=>?_
 ·cases er;simp only[al,aM,aG];rw[if_pos hi]at hP;have t1:=t.keep W hM c1;cases k with
  |zero=>exact absurd (show(gV C.T 0 (ay C.T i) (i+1) d).bind (λs j=>dG C.T s j)=.bb by simp only[gV];rfl) hP.1
  |succ k=>
  simp only[gV]at hP;refine dx (s:=[102,117,110,99,116,105,111,110]) (aX (by decide)) m1 d1 (λy j er hi2 H2 S2 m2 c2 d2=>?_) λh2 H2 S2 m2 c2 d2=>?_
  ·cases er;simp only[al,aM,aG];rw[if_pos hi2,bJ]at hP;have t2:=t1.keep W m1 c2;refine t2.aeh (r:=(.ok () (i+1+1):ak Unit)) W m2 d2 hP λs b H3 S3 m3 d3 t3 N3 hP3=>?_;refine t3.Mu W m3 N3 (λb hb=>hb) d3 λH4 S4 m4 n4 d4 k4 t4=>?_;refine kU m4 d4 ?_;rw[al,aO];have sp:∀r':ak (List Nat),(r'.bind λ_ j=>((gY C.T k (ay C.T j) j d).bind λb j=>ak.ok (az.mk 12 (ay C.T i) [s] [b] []) j).bind λs j=>dG C.T s j)≠.bb→(r'.bind λ_ j=>((gY C.T k (ay C.T j) j d).bind λb j=>ak.ok (az.mk 12 (ay C.T i) [s] [b] []) j).bind λs j=>dG C.T s j)=r'.bind λ_ j=>(pFn C.T (k-1) j d).bind λf j=>dG C.T (.mk 12 (ay C.T i) [s] [.mk 7 (ay C.T r'.ix) 0 [] 0 [] [f]] []) j:=by
    intro r' h;cases r' with
    |bb=>rfl
    |err c i=>rfl
    |ok y j=>
     cases k with
     |zero=>exact absurd (show((gY C.T 0 (ay C.T j) j d).bind λb j=>ak.ok (az.mk 12 (ay C.T i) [s] [b] []) j).bind (λs j=>dG C.T s j)=.bb by simp only[gY];rfl) h
     |succ k=>
      show((gY C.T (k+1) (ay C.T j) j d).bind λb j=>ak.ok (az.mk 12 (ay C.T i) [s] [b] []) j).bind (λs j=>dG C.T s j)=_;rw[OA];simp only[bJ];rfl
   rw[sp _ hP3.1]at hP3;have L4:=t4.yw m4;refine O.body (k-1) (by omega) hd m4 d4 (aU.call (eT:=qX) hP3.seq λf H5 S5 w m5 c5 d5 ⟨c,hw,hR⟩ tR=>?_);subst hw;have t5:=t4.keep W m4 c5;rw[iN];refine gx hR.len ?_;rw[anm hR.len rfl];refine dJ m5 (by rw[hR.len]) hR.ones λH6 m6=>?_;refine fC rfl ?_;have c6:aK bU S5 (S5.push (.ce c 0)):=(aK.refl _ _).push _;have t6:=t5.keep W m5 c6.no;have d6:=d5.ik m5 c6;have n4:=t4.x.1;have n5:=c5.1;have hRf:RE (S5.push (.ce c 0)) (λb=>S4.n≤b∧b<S5.n+1) [.int 0 ((7:Nat):Int),.int 0 (ay C.T (((ak.ok () (i+1+1)).bind λ_ i=>ey C.T i).ix):Int),.int 0 ((0:Nat):Int),ai [],.int 0 ((0:Nat):Int),.ab,.slice S5.n 0 1 1 2 true] (.mk 7 (ay C.T (((ak.ok () (i+1+1)).bind λ_ i=>ey C.T i).ix)) 0 [] 0 [] [f]):=
    RE.fn (b:=S5.n) (m:=0) ⟨by omega,by omega⟩ (LS.aq _ _) (hR.go (λb hb=>LS.bR _ _ hb.2) λb hb=>⟨hb.1,by have:=hb.2;omega⟩)
   refine t6.newE W m6 hRf (λb hb=>⟨by have:=hb.1;omega,hb.2,λq=>by have:=(L4.1 _ q).2;have:=hb.1;omega,λq=>q⟩) d6 λH7 S7 m7 n7 d7 t7 E7=>?_;refine t7.jY W m7 (kd':=12) d7 λH8 S8 m8 n8 d8 k8 t8=>?_;refine t8.qM W m8 (aW.kb W E7 m7 n8 k8) (λb hb=>hb) d8 λH9 S9 m9 n9 d9 k9 t7=>?_;exact t7.fin m9 d9 (by omega) tR
  ·have h2:isA C.T [102,117,110,99,116,105,111,110] (i+1)=false:=h2;simp only[al,aM,aH];rw[if_neg (by rw[h2];simp),bJ]at hP;have t2:=t1.keep W m1 c2;refine t2.aeh (r:=(.ok () (i+1):ak Unit)) W m2 d2 hP λs b H3 S3 m3 d3 t3 N3 hP3=>?_;refine t3.jY W m3 (kd':=1) d3 λH4 S4 m4 n4 d4 k4 t4=>?_;refine t4.Mu W m4 (aW.kb W N3 m3 n4 k4) (λb hb=>hb) d4 λH5 S5 m5 n5 d5 k5 t5=>?_;refine apj (k:=k) O (by omega) hd W m5 d5 t5 ?_;have sp:(λ(_:List Nat) j=>(if isA C.T [61] j=true then (bP C.T k (j+1) d).bind λe k=>ak.ok (az.mk 1 (ay C.T i) [s] [e] []) k else ak.ok (az.mk 1 (ay C.T i) [s] [] []) j).bind λs j=>dG C.T s j)=λ_ j=>if isA C.T [61] j=true then (bP C.T k (j+1) d).bind λe k=>dG C.T (.mk 1 (ay C.T i) [s] [e] []) k else dG C.T (.mk 1 (ay C.T i) [s] [] []) j:=by
    funext _ j;split
    ·rw[bJ];rfl
    ·rfl
   rw[←sp];exact hP3
 have h1:isA C.T [108,111,99,97,108] i=false:=h1;simp only[al,aM,aH];rw[if_neg (by rw[h1];simp)]at hP;have t1:=t.keep W hM c1;refine dx (s:=[105,102]) (aX (by decide)) m1 d1 (λy j er hi H2 S2 m2 c2 d2=>?_) λh2 H2 S2 m2 c2 d2=>?_
 ·cases er;simp only[al,aM,aG];rw[if_pos hi]at hP;refine(t1.keep W m1 c2).jY W m2 (kd':=4) d2 λH3 S3 m3 n3 d3 k3 t3=>?_;exact apl O hd W k (by omega) iq (.ok () (i+1):ak Unit) .ab .ab [] [] H3 S3 (by omega) (by simp;omega) (by simp;omega) m3 d3 t3 (λ_ _ _=>trivial) hP λ_=>⟨_,_,rfl⟩
 have h2:isA C.T [105,102] i=false:=h2;simp only[al,aM,aH];rw[if_neg (by rw[h2];simp)]at hP;have t2:=t1.keep W m1 c2;refine dx (s:=[119,104,105,108,101]) (aX (by decide)) m2 d2 (λy j er hi H3 S3 m3 c3 d3=>?_) λh3 H3 S3 m3 c3 d3=>?_
 ·cases er;simp only[al,aM,aG];rw[if_pos hi]at hP;cases k with
  |zero=>exact absurd (show(iJ C.T 0 (ay C.T i) (i+1) d).bind (λs j=>dG C.T s j)=.bb by simp only[iJ];rfl) hP.1
  |succ k=>
  simp only[iJ,bJ]at hP;refine(t2.keep W m2 c3).Mv (r:=(.ok () (i+1):ak Unit)) O (k:=k) (by omega) hd W m3 d3 hP λe b H4 S4 m4 d4 t4 E4 vO=>?_;refine t4.jY W m4 (kd':=5) d4 λH5 S5 m5 n5 d5 k5 t5=>?_;refine t5.qM W m5 (aW.kb W E4 m4 n5 k5) (λb hb=>hb) d5 λH6 S6 m6 n6 d6 k6 t6=>?_;exact aph (k:=k) O (by omega) hd W (by omega) m6 d6 t6 vO
 have h3:isA C.T [119,104,105,108,101] i=false:=h3;simp only[al,aM,aH];rw[if_neg (by rw[h3];simp)]at hP;have t3:=t2.keep W m2 c3;refine dx (s:=[114,101,112,101,97,116]) (aX (by decide)) m3 d3 (λy j er hi H4 S4 m4 c4 d4=>?_) λh4 H4 S4 m4 c4 d4=>?_
 ·cases er;simp only[al,aM,aG];rw[if_pos hi]at hP;cases k with
  |zero=>exact absurd (show(gE C.T 0 (ay C.T i) (i+1) d).bind (λs j=>dG C.T s j)=.bb by simp only[gE];rfl) hP.1
  |succ k=>
  simp only[gE,bJ]at hP;refine(t3.keep W m3 c4).Rq (r:=(.ok () (i+1):ak Unit)) O (k:=k) (by omega) hd W m4 d4 hP λb bk H5 S5 m5 d5 t5 B5 tR=>?_;refine t5.EG W m5 B5 (λb hb=>hb) d5 λH6 S6 m6 n6 d6 k6 t6=>?_;refine t6.must W (s:=[117,110,116,105,108]) (aX (by decide)) m6 d6 tR λH7 S7 m7 d7 t7 xi=>?_;exact api (k:=k) O (by omega) hd W m7 d7 t7 xi
 have h4:isA C.T [114,101,112,101,97,116] i=false:=h4;simp only[al,aM,aH];rw[if_neg (by rw[h4];simp)]at hP;have t4:=t3.keep W m3 c4;refine dx (s:=[102,111,114]) (aX (by decide)) m4 d4 (λy j er hi H5 S5 m5 c5 d5=>?_) λh5 H5 S5 m5 c5 d5=>?_
 ·cases er;simp only[al,aM,aG];rw[if_pos hi]at hP;cases k with
  |zero=>exact absurd (show(lP C.T 0 (ay C.T i) (i+1) d).bind (λs j=>dG C.T s j)=.bb by simp only[lP];rfl) hP.1
  |succ k=>
  simp only[lP]at hP;rw[bJ]at hP;refine(t4.keep W m4 c5).aeh (r:=(.ok () (i+1):ak Unit)) W m5 d5 hP λs b H6 S6 m6 d6 t6 N6 EF=>?_;refine t6.Mu W m6 N6 (λb hb=>hb) d6 λH7 S7 m7 n7 d7 k7 t7=>?_;exact apm (k:=k) O (by omega) hd W m7 d7 t7 EF
 have h5:isA C.T [102,111,114] i=false:=h5;simp only[al,aM,aH];rw[if_neg (by rw[h5];simp)]at hP;have t5:=t4.keep W m4 c5;refine dx (s:=[98,114,101,97,107]) (aX (by decide)) m5 d5 (λy j er hi H6 S6 m6 c6 d6=>?_) λh6 H6 S6 m6 c6 d6=>?_
 ·cases er;simp only[al,aM,aG];rw[if_pos hi]at hP;refine(t5.keep W m5 c6).jY W m6 (kd':=9) d6 λH7 S7 m7 n7 d7 k7 t7=>?_;exact t7.fin (r:=(.ok () (i+1):ak Unit)) m7 d7 (by omega) hP
 have h6:isA C.T [98,114,101,97,107] i=false:=h6;simp only[al,aM,aH];rw[if_neg (by rw[h6];simp)]at hP;have t6:=t5.keep W m5 c6;refine dx (s:=[100,111]) (aX (by decide)) m6 d6 (λy j er hi H7 S7 m7 c7 d7=>?_) λh7 H7 S7 m7 c7 d7=>?_
 ·cases er;simp only[al,aM,aG];rw[if_pos hi]at hP;cases k with
  |zero=>exact absurd (show(oD C.T 0 (ay C.T i) (i+1) d).bind (λs j=>dG C.T s j)=.bb by simp only[oD];rfl) hP.1
  |succ k=>
  simp only[oD,bJ]at hP;refine(t6.keep W m6 c7).jY W m7 (kd':=11) d7 λH8 S8 m8 n8 d8 k8 t8=>?_;exact anE (r:=(.ok () (i+1):ak Unit)) (k:=k) O (by omega) hd W (by omega) m8 d8 t8 hP
 have h7:isA C.T [100,111] i=false:=h7;simp only[al,aM,aH];rw[if_neg (by rw[h7];simp),if_neg (by rw[hret];simp)]at hP;have t7:=t6.keep W m6 c7;refine kU m7 d7 ?_;rw[al,aO];have qY:(ak.ok x i).ix=i:=rfl;rw[qY];have sp:((if bW C.T i=2 then gH C.T k (ay C.T i) i d else .err 14 i).bind λs j=>dG C.T s j)=((ak.ok x i).bind λ_ i=>ey C.T i).bind λs j=>(if k=0∨k=1∨k=2 then .bb else cF C.T (k-2) (.mk 6 (ay C.T i) 0 s 0 [] []) j d).bind λe j=>(if e.kind=10 then .ok (.mk 3 (ay C.T i) [] [e] []) j else (aS C.T [61] j).bind λ_ j=>(bP C.T (k-1) j d).bind λv j=>.ok (.mk 2 (ay C.T i) [] [e,v] []) j).bind λs j=>dG C.T s j:=by
  show _=(ey C.T i).bind _;unfold ey;by_cases g:bW C.T i=2
  ·rw[if_pos g,if_pos g];show(gH C.T k (ay C.T i) i d).bind (λs j=>dG C.T s j)=(if k=0∨k=1∨k=2 then .bb else cF C.T (k-2) (.mk 6 (ay C.T i) 0 (fM C.T i) 0 [] []) (i+1) d).bind _
   match k with
   |0=>simp only[gH];rfl
   |1=>simp only[gH,iI];rfl
   |2=>
    simp only[gH,iI];rw[if_pos (.inl g)];simp only[dK];rfl
   |k+3=>
    rw[if_neg (by omega)];simp only[gH,iI];rw[if_pos (.inl g)];have es:dK C.T (k+1) i d=.ok (.mk 6 (ay C.T i) 0 (fM C.T i) 0 [] []) (i+1):=by
     simp only[dK];rw[if_neg (by omega),if_neg (by omega),if_pos g]
    rw[es,bJ];rfl
  ·rw[if_neg g,if_neg g];rfl
 rw[sp]at hP;refine rL m7 d7 (aU.call (eT:=Mk) hP λs H8 S8 w m8 c8 d8 ⟨hw,hs8⟩ EH=>?_);subst hw;refine fC (kP s) ?_;have t8:=t7.keep W m7 c8;have Mx:aU C (fO C bs) (iK bs) K S ((((ak.ok x i).bind λ_ i=>ey C.T i).bind λ_ j=>cF C.T (k-2) (.mk 6 (ay C.T i) 0 s 0 [] []) j d).bind λe j=>(if e.kind=10 then .ok (.mk 3 (ay C.T i) [] [e] []) j else (aS C.T [61] j).bind λ_ j=>(bP C.T (k-1) j d).bind λv j=>.ok (.mk 2 (ay C.T i) [] [e,v] []) j).bind λs j=>dG C.T s j):=by
  have e1:∀r':ak (List Nat),(r'.bind λ_ j=>(if k=0∨k=1∨k=2 then .bb else cF C.T (k-2) (.mk 6 (ay C.T i) 0 s 0 [] []) j d).bind λe j=>(if e.kind=10 then .ok (.mk 3 (ay C.T i) [] [e] []) j else (aS C.T [61] j).bind λ_ j=>(bP C.T (k-1) j d).bind λv j=>.ok (.mk 2 (ay C.T i) [] [e,v] []) j).bind λs j=>dG C.T s j)≠.bb→(r'.bind λ_ j=>(if k=0∨k=1∨k=2 then .bb else cF C.T (k-2) (.mk 6 (ay C.T i) 0 s 0 [] []) j d).bind λe j=>(if e.kind=10 then .ok (.mk 3 (ay C.T i) [] [e] []) j else (aS C.T [61] j).bind λ_ j=>(bP C.T (k-1) j d).bind λv j=>.ok (.mk 2 (ay C.T i) [] [e,v] []) j).bind λs j=>dG C.T s j)=(r'.bind λ_ j=>cF C.T (k-2) (.mk 6 (ay C.T i) 0 s 0 [] []) j d).bind λe j=>(if e.kind=10 then .ok (.mk 3 (ay C.T i) [] [e] []) j else (aS C.T [61] j).bind λ_ j=>(bP C.T (k-1) j d).bind λv j=>.ok (.mk 2 (ay C.T i) [] [e,v] []) j).bind λs j=>dG C.T s j:=by
   intro r' h;cases r' with
   |bb=>rfl
   |err c i=>rfl
   |ok y j=>
    by_cases g:k=0∨k=1∨k=2
    ·exact absurd (show(if k=0∨k=1∨k=2 then (.bb:ak au) else cF C.T (k-2) (.mk 6 (ay C.T i) 0 s 0 [] []) j d).bind (λe j=>(if e.kind=10 then .ok (.mk 3 (ay C.T i) [] [e] []) j else (aS C.T [61] j).bind λ_ j=>(bP C.T (k-1) j d).bind λv j=>.ok (.mk 2 (ay C.T i) [] [e,v] []) j).bind λs j=>dG C.T s j)=.bb by rw[if_pos g];rfl) h
    ·show(if k=0∨k=1∨k=2 then (.bb:ak au) else cF C.T (k-2) (.mk 6 (ay C.T i) 0 s 0 [] []) j d).bind _=_;rw[if_neg g];rfl
  rw[←e1 _ EH.1];exact EH
 have n8:=t8.x.1;have hR:RE S8 (jd S8.n S8.n) [.int 0 ((6:Nat):Int),.int 0 (ay C.T i:Int),.int 0 ((0:Nat):Int),ai s,.int 0 ((0:Nat):Int),.ab,.ab] (.mk 6 (ay C.T i) 0 s 0 [] []):=RE.simple hs8;have hbp:=W.bp;refine O.behind (k-2) (by omega) hd m8 (S0:=S8) (aK.refl _ _) (by omega) (λb hb=>by have:=W.vT b hb;omega) d8 hR (aU.call (eT:=dV) Mx λe H9 S9 w m9 c9 d9 ⟨c,hw,hRe⟩ aqD=>?_);subst hw;have t7:=t8.keep W m8 c9;refine e8 ?_;rw[jK];refine dt m9 fy λHa ma=>?_;refine kg ma (LS.aq _ _) rfl hRe.len hRe.ones λHb mb=>?_;have cb:aK bU S9 ((S9.push (.ce z7 0)).set S9.n (.ce c 0)):=((aK.refl _ _).push _).set (.inr (Nat.le_refl _)) _;have n9:=t7.x.1;exact anG (k:=k-1) O (by omega) hd W mb (d9.ik m9 cb) (t7.keep W m9 cb.no) (LS.av _ _ _) n9 (hRe.go (λb hb=>cb.2 b hb.2 λq=>q) λ_ h=>h) (λb hb=>⟨by have:=hb.1;omega,Nat.lt_of_lt_of_le hb.2 cb.1⟩) aqD
end
end Go.Proofs.YtcedghechlgecaaDoor
namespace Go.X
section
theorem b5{α:Type}{r:ak α}{f:α→Nat→ak az}{P:az→Prop}(h:∀a i s j,f a i=.ok s j→P s){s:az}{j:Nat}(e:r.bind f=.ok s j):P s:=by
 obtain⟨a,i,_,h2⟩:=bind_ok e;exact h a i s j h2
theorem text_of{T:List Tok}{s:List Nat}{i:Nat}(h:isA T s i=true):fM T i=s:=by
 unfold isA at h;simp only[Bool.and_eq_true,decide_eq_true_eq]at h;exact h.2
theorem iu{T:List Tok}{s t:List Nat}{i:Nat}(h:isA T s i=true)(hn:t≠s):isA T t i=false:=by
 unfold isA;rw[text_of h,decide_eq_false (p:=s=t) λq=>hn q.symm,Bool.and_false]
variable {T:List Tok}
theorem ahO{k a i d:Nat}{s:az}{j:Nat}(h:gV T k a i d=.ok s j):s.kind≠10:=by
 cases k with
 |zero=>simp only[gV]at h;cases h
 |succ k=>
  simp only[gV]at h;split at h
  ·exact b5 (P:=λs=>s.kind≠10) (λ_ _ _ _ h=>b5 (P:=λs=>s.kind≠10) (λ_ _ _ _ h=>by cases h;show 12≠10;omega) h) h
  ·refine b5 (P:=λs=>s.kind≠10) (λ_ _ _ _ h=>?_) h;split at h
   ·exact b5 (P:=λs=>s.kind≠10) (λ_ _ _ _ h=>by cases h;show 1≠10;omega) h
   ·cases h;show 1≠10;omega
theorem My:∀{k a:Nat}{l:List au}{B:List (List az)}{i d:Nat}{s:az}{j:Nat},eS T k a l B i d=.ok s j→s.kind≠10
 |0,a,l,B,i,d,s,j,h=>by simp only[eS]at h;cases h
 |k+1,a,l,B,i,d,s,j,h=>by
  simp only[eS]at h;refine b5 (P:=λs=>s.kind≠10) (λ_ _ _ _ h=>b5 (P:=λs=>s.kind≠10) (λ_ _ _ _ h=>b5 (P:=λs=>s.kind≠10) (λ_ _ _ _ h=>?_) h) h) h;split at h
  ·exact My h
  ·split at h
   ·exact b5 (P:=λs=>s.kind≠10) (λ_ _ _ _ h=>b5 (P:=λs=>s.kind≠10) (λ_ _ _ _ h=>by cases h;show 4≠10;omega) h) h
   ·exact b5 (P:=λs=>s.kind≠10) (λ_ _ _ _ h=>by cases h;show 4≠10;omega) h
theorem ahP{k a i d:Nat}{s:az}{j:Nat}(h:iJ T k a i d=.ok s j):s.kind≠10:=by
 cases k with
 |zero=>simp only[iJ]at h;cases h
 |succ k=>
  simp only[iJ]at h;exact b5 (P:=λs=>s.kind≠10) (λ_ _ _ _ h=>b5 (P:=λs=>s.kind≠10) (λ_ _ _ _ h=>b5 (P:=λs=>s.kind≠10) (λ_ _ _ _ h=>b5 (P:=λs=>s.kind≠10) (λ_ _ _ _ h=>by cases h;show 5≠10;omega) h) h) h) h
theorem aei{k a i d:Nat}{s:az}{j:Nat}(h:gE T k a i d=.ok s j):s.kind≠10:=by
 cases k with
 |zero=>simp only[gE]at h;cases h
 |succ k=>
  simp only[gE]at h;exact b5 (P:=λs=>s.kind≠10) (λ_ _ _ _ h=>b5 (P:=λs=>s.kind≠10) (λ_ _ _ _ h=>b5 (P:=λs=>s.kind≠10) (λ_ _ _ _ h=>by cases h;show 8≠10;omega) h) h) h
theorem aqE{k a i d:Nat}{s:az}{j:Nat}(h:oD T k a i d=.ok s j):s.kind≠10:=by
 cases k with
 |zero=>simp only[oD]at h;cases h
 |succ k=>
  simp only[oD]at h;exact b5 (P:=λs=>s.kind≠10) (λ_ _ _ _ h=>b5 (P:=λs=>s.kind≠10) (λ_ _ _ _ h=>by cases h;show 11≠10;omega) h) h
theorem Aq{k kd a:Nat}{ns:List (List Nat)}{l:List au}{i d:Nat}{s:az}{j:Nat}(hk:kd≠10)(h:cD T k kd a ns l i d=.ok s j):s.kind≠10:=by
 cases k with
 |zero=>simp only[cD]at h;cases h
 |succ k=>
  simp only[cD]at h;exact b5 (P:=λs=>s.kind≠10) (λ_ _ _ _ h=>b5 (P:=λs=>s.kind≠10) (λ_ _ _ _ h=>b5 (P:=λs=>s.kind≠10) (λ_ _ _ _ h=>by cases h;exact hk) h) h) h
theorem apn{k a i d:Nat}{s:az}{j:Nat}(h:lP T k a i d=.ok s j):s.kind≠10:=by
 cases k with
 |zero=>simp only[lP]at h;cases h
 |succ k=>
  simp only[lP]at h;refine b5 (P:=λs=>s.kind≠10) (λ_ _ _ _ h=>?_) h;split at h
  ·exact b5 (P:=λs=>s.kind≠10) (λ_ _ _ _ h=>b5 (P:=λs=>s.kind≠10) (λ_ _ _ _ h=>b5 (P:=λs=>s.kind≠10) (λ_ _ _ _ h=>Aq (by omega) h) h) h) h
  ·refine b5 (P:=λs=>s.kind≠10) (λ_ _ _ _ h=>b5 (P:=λs=>s.kind≠10) (λ_ _ _ _ h=>b5 (P:=λs=>s.kind≠10) (λ_ _ _ _ h=>b5 (P:=λs=>s.kind≠10) (λ_ _ _ _ h=>?_) h) h) h) h;split at h
   ·exact b5 (P:=λs=>s.kind≠10) (λ_ _ _ _ h=>Aq (by omega) h) h
   ·exact Aq (by omega) h
theorem ahQ{k a i d:Nat}{s:az}{j:Nat}(h:gH T k a i d=.ok s j):s.kind≠10:=by
 cases k with
 |zero=>simp only[gH]at h;cases h
 |succ k=>
  simp only[gH]at h;refine b5 (P:=λs=>s.kind≠10) (λ_ _ _ _ h=>?_) h;split at h
  ·cases h;show 3≠10;omega
  ·exact b5 (P:=λs=>s.kind≠10) (λ_ _ _ _ h=>b5 (P:=λs=>s.kind≠10) (λ_ _ _ _ h=>by cases h;show 2≠10;omega) h) h
theorem anH{k i d:Nat}{s:az}{j:Nat}(hr:isA T [114,101,116,117,114,110] i=false)(h:eW T k i d=.ok s j):s.kind≠10:=by
 cases k with
 |zero=>simp only[eW]at h;cases h
 |succ k=>
  simp only[eW]at h;split at h
  ·exact ahO h
  split at h
  ·exact My h
  split at h
  ·exact ahP h
  split at h
  ·exact aei h
  split at h
  ·exact apn h
  split at h
  ·cases h;show 9≠10;omega
  split at h
  ·exact aqE h
  rw[if_neg (by rw[hr];simp)]at h;split at h
  ·exact ahQ h
  ·cases h
theorem ahR{k i d:Nat}(h:isA T [61] i=true):eW T (k+1) i d=.err 14 i:=by
 have hk:bW T i=1∨bW T i=5:=by
  unfold isA at h;simp only[Bool.and_eq_true,Bool.or_eq_true,decide_eq_true_eq]at h;exact h.1
 simp only[eW];rw[if_neg (by rw[iu h (by decide)];simp),if_neg (by rw[iu h (by decide)];simp),if_neg (by rw[iu h (by decide)];simp),if_neg (by rw[iu h (by decide)];simp),if_neg (by rw[iu h (by decide)];simp),if_neg (by rw[iu h (by decide)];simp),if_neg (by rw[iu h (by decide)];simp),if_neg (by rw[iu h (by decide)];simp),if_neg (by omega)]
theorem ahS{i:Nat}(h:isA T [61] i=true):eP T i=false:=by
 have hk:bW T i=1∨bW T i=5:=by
  unfold isA at h;simp only[Bool.and_eq_true,Bool.or_eq_true,decide_eq_true_eq]at h;exact h.1
 unfold eP;rw[iu h (by decide),iu h (by decide),iu h (by decide),iu h (by decide),decide_eq_false (by omega)];rfl
theorem aej{k i d:Nat}(h:isA T [114,101,116,117,114,110] i=true):eW T (k+1) i d=ig T k (ay T i) (i+1) d:=by
 simp only[eW];rw[if_neg (by rw[iu h (by decide)];simp),if_neg (by rw[iu h (by decide)];simp),if_neg (by rw[iu h (by decide)];simp),if_neg (by rw[iu h (by decide)];simp),if_neg (by rw[iu h (by decide)];simp),if_neg (by rw[iu h (by decide)];simp),if_neg (by rw[iu h (by decide)];simp),if_pos h]
end
end Go.X
namespace Go.Proofs.YtcedghechlgecaaDoor
open Go Go.X Go.Proofs.YtcedghechlgecaaDoor.G
section
variable {H:AH}{S:LS}{K:KF}{C:Ctx}{i d:Nat}
section
variable {m k:Nat}{S0:LS}
theorem afY(hbp:C.bp<S0.n)(dd:∀b,aj C.vT b→b<S0.n){b9:Nat}{v:AV}{c:List AV}{s:az}{out:List az}{Q:Nat→Prop}{γ:Type}{r:ak γ}(hlen:out.length≤1000000)(hM:Mem H S)(hs:aZ C S r)(hx:aK (bE C) S0 S)(ho:S.ob b9=.ce c 0)(h9:S0.n≤b9)(hR:iz S Q c s)(L:aW mo (λb=>S0.n≤b) S v out)(hQ:∀b,Q b→S0.n≤b∧b<S.n∧¬aj v b)
  (hP:aU C (bE C) gw K S0 (r.bind λ_ j=>if eP C.T (dw C.T [59] j)=false then .err 14 (dw C.T [59] j) else .ok (out++[s]) (dw C.T [59] j))) :
  qx (cM (s10 m)) K (.ptr C.bp 0) v (.ptr b9 0) H:=by
 have r1:(cM (s10 m)).1=f18:=rfl;have r3:(cM (s10 m)).2.2.1=f38:=rfl;have r5:(cM (s10 m)).2.2.2.2.1=f40:=rfl;show Bw (cM (s10 m)) K (uQ (cM (s10 m)) K) (.ptr C.bp 0) v (.ptr b9 0) H;unfold Bw;rw[r1,r3,r5];have nb:∀b,S0.n≤b→¬bE C b:=λb hb q=>by have q:b=C.bp:=q;omega
 have n0:=hx.1;have last:∀{β:Type}{r':ak β}{H1:AH}{S1:LS},Mem H1 S1→aZ C S1 r'→aK (bE C) S S1→aU C (bE C) gw K S0 (r'.bind λ_ j=>.ok (out++[s]) j)→uQ (cM (s10 m)) K v (.ptr b9 0) H1:=by
  intro β r' H1 S1 m1 d1 c1 hP;show Bv (cM (s10 m)) K v (.ptr b9 0) H1;unfold Bv;have o1:=c1.ob hM ho (nb _ h9);have R1:iz S1 Q c s:=hR.go (λb hb=>c1.2 b (hQ b hb).2.1 (nb b (hQ b hb).1)) λ_ h=>h;have L1:aW mo (λb=>S0.n≤b) S1 v out:=L.keep hM c1.1 λb h1 h2=>c1.2 b h2 (nb b h1);have x1:=hx.trans c1;refine gO m1 o1 R1.len ?_;rw[iN];refine gx R1.len ?_;rw[anh R1.len rfl];have n1:=x1.1;refine L1.push (R:=mo) (bytes:=88) m1 R1 (λb hb=>⟨(hQ b hb).1,Nat.lt_of_lt_of_le (hQ b hb).2.1 c1.1,(hQ b hb).2.2⟩) (λb hb=>by show S0.n≤b;omega) (by omega) λH2 S2 v2 m2 L2 n2 k2 b2 arO=>?_;have c2:aK (λb=>aj v b) S1 S2:=⟨n2,λb hb hx=>k2 b hb hx⟩
  obtain⟨cl,g1,g2⟩:=(L2.toR (lo:=S0.n) λb hb=>hb).done m2;have hlo:∀b,aj v b→S0.n≤b:=λb hb=>L.Ex hb;exact hP.2 H2 S2 v2 _ m2 (x1.rB c2 λb hb=>.inr (hlo b hb)) ((d1.ret _).keep m1 c2 (λq=>by have:=hlo _ q;omega) λb hb q=>by have:=hlo _ q;have:=dd b hb;omega) ⟨cl,g1,g2⟩ px
 have rest:∀{β:Type}{r':ak β}{H1:AH}{S1:LS},Mem H1 S1→aZ C S1 r'→aK (bE C) S S1→aU C (bE C) gw K S0 (r'.bind λ_ j=>if eP C.T j=false then .err 14 j else .ok (out++[s]) j)→f38 (.ptr C.bp 0) H1 λo5 H6=>cR K o5 H6 λv7=>bS v7 λz8=>bI (!z8) (f18 (.ptr C.bp 0) ((14:Nat):Int) H6 λo9 cm=>cR K o9 cm λv11=>uQ (cM (s10 m)) K v (.ptr b9 0) cm) (uQ (cM (s10 m)) K v (.ptr b9 0) H6):=by
  intro β r' H1 S1 m1 d1 c1 hP;refine zm m1 d1 λH2 S2 m2 c2 d2=>?_;rw[al,aM];cases he:Ey C.T r' with
  |true=>
   simp only[Bool.not_true,aH];refine last m2 d2 (c1.trans c2.no) ?_;have sp:(r'.bind λ_ j=>if eP C.T j=false then .err 14 j else .ok (out++[s]) j)=r'.bind λ_ j=>.ok (out++[s]) j:=by
    cases r' with
    |bb=>rfl
    |err c i=>rfl
    |ok y j=>
     have h3:eP C.T j=true:=he;show(if eP C.T j=false then _ else _)=_;rw[if_neg (by rw[h3];simp)];rfl
   rw[←sp];exact hP
  |false=>
   simp only[Bool.not_false,aG];refine p5 (c:=14) (by omega) (by omega) m2 d2 λH3 S3 m3 c3 d3=>?_;rw[al];refine last (r':=(zj 14 r':ak Unit)) m3 d3 ((c1.trans c2.no).trans c3) ?_;have sp:((zj 14 r':ak Unit).bind λ_ j=>.ok (out++[s]) j)=(r'.bind λ_ j=>if eP C.T j=false then .err 14 j else .ok (out++[s]) j):=by
    cases r' with
    |bb=>rfl
    |err c i=>cases he
    |ok y j=>
     have h3:eP C.T j=false:=he;show ak.err 14 j=if eP C.T j=false then _ else _
     rw[if_pos h3]
   rw[sp];exact hP
 have e14:Int.ofNat 14=((14:Nat):Int):=rfl;rw[e14];refine dx (s:=[59]) (aX (by decide)) hM hs (λy j er hi H1 S1 m1 c1 d1=>?_) λhi H1 S1 m1 c1 d1=>?_
 ·cases er;rw[al,aM];refine rest (r':=(.ok () (j+1):ak Unit)) m1 d1 c1 ?_;have hP:aU C (bE C) gw K S0 (if eP C.T (dw C.T [59] j)=false then .err 14 (dw C.T [59] j) else .ok (out++[s]) (dw C.T [59] j)):=hP;have eo:dw C.T [59] j=j+1:=by unfold dw;rw[hi];rfl
  rw[eo]at hP;exact hP
 ·rw[al,aM];refine rest m1 d1 c1 ?_;have sp:(r.bind λ_ j=>if eP C.T (dw C.T [59] j)=false then .err 14 (dw C.T [59] j) else .ok (out++[s]) (dw C.T [59] j))=r.bind λ_ j=>if eP C.T j=false then .err 14 j else .ok (out++[s]) j:=by
   cases r with
   |bb=>rfl
   |err c i=>rfl
   |ok y j=>
    have h3:isA C.T [59] j=false:=hi;have eo:dw C.T [59] j=j:=by unfold dw;rw[h3];rfl
    show(if eP C.T (dw C.T [59] j)=false then _ else _)=_;rw[eo];rfl
  rw[←sp];exact hP
def BkX(C:Ctx)(S0:LS)(K:KF)(k d:Nat)(X:AV→Int→AV→AH→Prop):Prop:=∀(v:AV) (out:List az) (H:AH) (S:LS){γ:Type}(r:ak γ),out.length+k≤1000000→Mem H S→aZ C S r→aK (bE C) S0 S→aW mo (λb=>S0.n≤b) S v out→aU C (bE C) gw K S0 (r.bind λ_ i=>bA C.T k out i d)→X (.ptr C.bp 0) (d:Int) v H
theorem apo(hm:m≤1000000)(O:gA C m)(hd:d≤200)(hbp:C.bp<S0.n)(dd:∀b,aj C.vT b→b<S0.n)(hk:2*k+4≤m+1){X:AV→Int→AV→AH→Prop}
  (hrec:∀k',k=k'+1→BkX C S0 K k' d X):BkX C S0 K k d (BC (cM (s10 m)) K X):=by
 intro v out H S γ r hl hM hs hx L hP;have r3:(cM (s10 m)).2.2.1=f38:=rfl;have r4:(cM (s10 m)).2.2.2.1=f39:=rfl;have r5:(cM (s10 m)).2.2.2.2.1=f40:=rfl;have r6:(cM (s10 m)).2.2.2.2.2.1=f41:=rfl;have r7:(cM (s10 m)).2.2.2.2.2.2.1=(s10 m).2.1:=rfl;have r8:(cM (s10 m)).2.2.2.2.2.2.2=(s10 m).2.2.1:=rfl;have nb:∀b,S0.n≤b→¬bE C b:=λb hb q=>by have q:b=C.bp:=q;omega
 have n0:=hx.1;have hlo:∀b,aj v b→S0.n≤b:=λb hb=>L.Ex hb;have hlt:∀b,aj v b→b<S.n:=λb hb=>L.lt hM hb;have apq:∀{S1 S2:LS}{H1:AH},Mem H1 S1→aW mo (λb=>S0.n≤b) S1 v out→aK (bE C) S1 S2→aW mo (λb=>S0.n≤b) S2 v out:=λm1 o g=>o.keep m1 g.1 λb h1 h2=>g.2 b h2 (nb b h1);show uS (cM (s10 m)) K (By (cM (s10 m)) K) (qx (cM (s10 m)) K) (BA (cM (s10 m)) K X) (BB (cM (s10 m)) K) (.ptr C.bp 0) (d:Int) v H;unfold uS;rw[r3,r4,r5,r6,r8];refine zm hM hs λH1 S1 m1 c1 d1=>?_;rw[al,aM];have L1:=apq hM L c1.no;have x1:=hx.trans (c1.no (X:=bE C));cases he:Ey C.T r with
 |true=>
  simp only[Bool.not_true,aH];show uR (cM (s10 m)) K v H1;unfold uR;obtain⟨cl,g1,g2⟩:=(L1.toR (lo:=S0.n) λb hb=>hb).done m1;cases r with
  |bb=>exact absurd rfl hs.no
  |err c i=>exact hP.2 H1 S1 v out m1 x1 (qK d1 rfl) ⟨cl,g1,g2⟩ vN
  |ok y i=>
   have he:eP C.T i=true:=he;have hP:aU C (bE C) gw K S0 (bA C.T k out i d):=hP;cases k with
   |zero=>exact absurd (show bA C.T 0 out i d=.bb by simp only[bA]) hP.1
   |succ k=>
    simp only[bA]at hP;rw[if_pos he]at hP;exact hP.2 H1 S1 v out m1 x1 (HA d1) ⟨cl,g1,g2⟩ Rl
 |false=>
  simp only[Bool.not_false,aG];cases r with
  |bb=>exact absurd rfl hs.no
  |err c i=>cases he
  |ok y i=>
  have he:eP C.T i=false:=he;have hP:aU C (bE C) gw K S0 (bA C.T k out i d):=hP;cases k with
  |zero=>exact absurd (show bA C.T 0 out i d=.bb by simp only[bA]) hP.1
  |succ k=>
  simp only[bA]at hP;rw[if_neg (by rw[he];simp)]at hP;refine kU m1 d1 ?_;rw[al,aO];have qY:(ak.ok y i).ix=i:=rfl;rw[qY];refine e8 (dt m1 ann λH2 m2=>?_);refine kg m2 (c:=[.int 0 ((0:Nat):Int),.int 0 (ay C.T i:Int),.ab,.ab,.ab]) (LS.aq S1 (.ce z5 0)) rfl rfl (λa h=>?_) λH3 m3=>?_
  ·simp only[List.mem_cons,List.not_mem_nil,or_false]at h;rcases h with rfl|rfl|rfl|rfl|rfl<;>rfl
  have m3:Mem H3 ((S1.push (.ce z5 0)).set S1.n (.ce [.int 0 ((0:Nat):Int),.int 0 (ay C.T i:Int),.ab,.ab,.ab] 0)):=m3;have c3:aK bU S1 ((S1.push (.ce z5 0)).set S1.n (.ce [.int 0 ((0:Nat):Int),.int 0 (ay C.T i:Int),.ab,.ab,.ab] 0)):=((aK.refl _ _).push _).set (.inr (Nat.le_refl _)) _;have d3:=d1.ik m1 c3;have o3:LS.ob _ S1.n=_:=LS.av (S1.push (.ce z5 0)) S1.n (.ce [.int 0 ((0:Nat):Int),.int 0 (ay C.T i:Int),.ab,.ab,.ab] 0);have x3:=x1.trans (c3.no (X:=bE C));have n3:((S1.push (.ce z5 0)).set S1.n (.ce [.int 0 ((0:Nat):Int),.int 0 (ay C.T i:Int),.ab,.ab,.ab] 0)).n=S1.n+1:=rfl;have L3:aW mo (λb=>S0.n≤b∧b<S1.n) ((S1.push (.ce z5 0)).set S1.n (.ce [.int 0 ((0:Nat):Int),.int 0 (ay C.T i:Int),.ab,.ab,.ab] 0)) v out:=(L1.imp m1 λb hb hlt=>(⟨hb,hlt⟩:S0.n≤b∧b<S1.n)).keep m1 c3.1 λb _ h2=>c3.2 b h2 λq=>q;revert m3 c3 d3 o3 x3 n3 L3;generalize (S1.push (.ce z5 0)).set S1.n (.ce [.int 0 ((0:Nat):Int),.int 0 (ay C.T i:Int),.ab,.ab,.ab] 0)=S3;intro m3 c3 d3 o3 x3 n3 L3;have n1:=x1.1;have hlt1:∀b,aj v b→b<S1.n:=λb hb=>L1.lt m1 hb;refine dx (s:=[114,101,116,117,114,110]) (aX (by decide)) m3 d3 (λy j er hi H4 S4 m4 c4 d4=>?_) λh1 H4 S4 m4 c4 d4=>?_
  ·cases er;simp only[al,aM,aG];have o4:=c4.ob m3 o3 (nb _ n1);have L4:aW mo (λb=>S0.n≤b∧b<S1.n) S4 v out:=L3.keep m3 c4.1 λb h1 h2=>c4.2 b h2 (nb b h1.1);rw[aQ,Nat.zero_add];refine bH (v:=.int 0 ((10:Nat):Int)) m4 o4 (by omega) (by show 0<5;omega) rfl λH5 m5=>?_;have m5:Mem H5 (S4.set S1.n (.ce [.int 0 ((10:Nat):Int),.int 0 (ay C.T i:Int),.ab,.ab,.ab] 0)):=m5;have o5:LS.ob _ S1.n=_:=LS.av S4 S1.n (.ce [.int 0 ((10:Nat):Int),.int 0 (ay C.T i:Int),.ab,.ab,.ab] 0);have d5:=d4.setB (b:=S1.n) (by omega) (λx hx=>by have:=dd x hx;omega) (.ce [.int 0 ((10:Nat):Int),.int 0 (ay C.T i:Int),.ab,.ab,.ab] 0);have x5:aK (bE C) S0 (S4.set S1.n (.ce [.int 0 ((10:Nat):Int),.int 0 (ay C.T i:Int),.ab,.ab,.ab] 0)):=(x3.trans c4).set (.inr n1) _;have L5:aW mo (λb=>S0.n≤b∧b<S1.n) (S4.set S1.n (.ce [.int 0 ((10:Nat):Int),.int 0 (ay C.T i:Int),.ab,.ab,.ab] 0)) v out:=L4.keep m4 (Nat.le_refl _) λb h1 _=>LS.an _ _ (by have:=h1.2;omega);have n34:=c4.1;have n5:(S4.set S1.n (.ce [.int 0 ((10:Nat):Int),.int 0 (ay C.T i:Int),.ab,.ab,.ab] 0)).n=S4.n:=rfl;revert m5 o5 d5 x5 L5 n5;generalize S4.set S1.n (.ce [.int 0 ((10:Nat):Int),.int 0 (ay C.T i:Int),.ab,.ab,.ab] 0)=S5;intro m5 o5 d5 x5 L5 n5;cases k with
   |zero=>exact absurd (show(eW C.T 0 i d).bind _=.bb by simp only[eW];rfl) hP.1
   |succ k=>
   rw[aej hi]at hP;cases k with
   |zero=>exact absurd (show(ig C.T 0 (ay C.T i) (i+1) d).bind _=.bb by simp only[ig];rfl) hP.1
   |succ k=>
   simp only[ig]at hP;have after:∀(l:List au) (j:Nat),(if (az.mk 10 (ay C.T i) [] l []).kind=10∧eP C.T (dw C.T [59] j)=false then .err 14 (dw C.T [59] j) else bA C.T (k+1+1) (out++[.mk 10 (ay C.T i) [] l []]) (dw C.T [59] j) d)=if eP C.T (dw C.T [59] j)=false then .err 14 (dw C.T [59] j) else .ok (out++[.mk 10 (ay C.T i) [] l []]) (dw C.T [59] j):=by
    intro l j;cases hh:eP C.T (dw C.T [59] j)with
    |false=>rw[if_pos ⟨rfl,rfl⟩,if_pos rfl]
    |true=>
     rw[if_neg (λq=>by cases q.2),if_neg (λq=>by cases q)];simp only[bA];rw[if_pos hh]
   have wk:∀{S:LS},aW mo (λb=>S0.n≤b∧b<S1.n) S v out→aW mo (λb=>S0.n≤b) S v out:=λh=>aW.wk h λb hb=>hb.1;have bare:∀{H6:AH}{S6:LS},(isA C.T [59] (i+1)=true∨eP C.T (i+1)=true)→Mem H6 S6→aZ C S6 (.ok () (i+1):ak Unit)→aK bU S5 S6→qx (cM (s10 m)) K (.ptr C.bp 0) v (.ptr S1.n 0) H6:=by
    intro H6 S6 hc m6 d6 c6;rw[if_pos hc]at hP;have hP:aU C (bE C) gw K S0 (if (az.mk 10 (ay C.T i) [] [] []).kind=10∧eP C.T (dw C.T [59] (i+1))=false then .err 14 (dw C.T [59] (i+1)) else bA C.T (k+1+1) (out++[.mk 10 (ay C.T i) [] [] []]) (dw C.T [59] (i+1)) d):=hP;rw[after]at hP;exact afY (s:=.mk 10 (ay C.T i) [] [] []) (Q:=λ_=>False) (r:=(.ok () (i+1):ak Unit)) hbp dd (by omega) m6 d6 (x5.trans c6.no) (c6.ob m5 o5 λq=>q) n1 (iz.plain (cl:=λ_=>[]) kK.nil (dZ.nil _ _ _ _) λi e h=>by simp at h) (wk (L5.keep m5 c6.1 λb _ h2=>c6.2 b h2 λq=>q)) (λb hb=>hb.elim) hP
   refine zm m5 d5 λH6 S6 m6 c6 d6=>?_;rw[al,aM];have hde:Ey C.T (.ok () (i+1):ak Unit)=eP C.T (i+1):=rfl;rw[hde];cases hE:eP C.T (i+1)with
   |true=>
    simp only[Bool.not_true,aH];exact bare (.inr hE) m6 d6 c6
   |false=>
   simp only[Bool.not_false,aG];refine rC (s:=[59]) (aX (by decide)) m6 d6 λH7 S7 m7 c7 d7=>?_;rw[al,aM];have hdi:oG C.T [59] (.ok () (i+1):ak Unit)=isA C.T [59] (i+1):=rfl;rw[hdi];cases hS:isA C.T [59] (i+1)with
   |true=>
    simp only[Bool.not_true,aH];exact bare (.inl hS) m7 d7 (c6.trans c7)
   |false=>
   simp only[Bool.not_false,aG];rw[if_neg (by rintro(q|q);rw[hS]at q;cases q;rw[hE]at q;cases q),bJ]at hP;have c57:=c6.trans c7;have L7:aW mo (λb=>S0.n≤b∧b<S1.n) S7 v out:=L5.keep m5 c57.1 λb _ h2=>c57.2 b h2 λq=>q;have o7:=c57.ob m5 o5 λq=>q;have n57:=c57.1;show Bx (cM (s10 m)) K (qx (cM (s10 m)) K) (.ptr C.bp 0) (d:Int) v (.ptr S1.n 0) H7;unfold Bx;rw[r7];refine O.exp k (by omega) hd m7 d7 (aU.call (eT:=dV) (show aU C (bE C) gw K S0 (((ak.ok () (i+1)).bind λ_ i=>bP C.T k i d).bind _)from hP) λe H8 S8 w m8 c8 d8 ⟨c,hw,hR⟩ EH=>?_);subst hw;have L8:aW mo (λb=>S0.n≤b∧b<S1.n) S8 v out:=L7.keep m7 c8.1 λb h1 h2=>c8.2 b h2 (nb b h1.1);have o8:=c8.ob m7 o7 (nb _ n1);have n78:=c8.1;rw[iN];refine gx hR.len ?_;rw[FI hR.len rfl];refine dJ m8 (by rw[hR.len]) hR.ones λH9 m9=>?_;have c9:aK bU S8 (S8.push (.ce c 0)):=(aK.refl _ _).push _;have o9:=c9.ob m8 o8 λq=>q;rw[aQ,Nat.zero_add];refine bH (v:=.slice S8.n 0 1 1 7 true) m9 o9 (by omega) (by show 3<5;omega) rfl λHa ma=>?_;have ma:Mem Ha ((S8.push (.ce c 0)).set S1.n (.ce [.int 0 ((10:Nat):Int),.int 0 (ay C.T i:Int),.ab,.slice S8.n 0 1 1 7 true,.ab] 0)):=ma;have xa:aK (bE C) S0 ((S8.push (.ce c 0)).set S1.n (.ce [.int 0 ((10:Nat):Int),.int 0 (ay C.T i:Int),.ab,.slice S8.n 0 1 1 7 true,.ab] 0)):=(((x5.trans c57.no).trans c8).trans c9.no).set (.inr n1) _;have hRS:iz ((S8.push (.ce c 0)).set S1.n (.ce [.int 0 ((10:Nat):Int),.int 0 (ay C.T i:Int),.ab,.slice S8.n 0 1 1 7 true,.ab] 0)) (λb=>S7.n≤b∧b<S8.n+1) [.int 0 ((10:Nat):Int),.int 0 (ay C.T i:Int),.ab,.slice S8.n 0 1 1 7 true,.ab] (.mk 10 (ay C.T i) [] [e] []):=
    iz.plain (l:=[e]) (cl:=λ_=>c) kK.nil (dZ.single (b:=S8.n) (m:=0) ⟨n78,by omega⟩ ((LS.an _ _ (by omega)).trans (LS.aq _ _)) hR.len) λix x h=>by
     cases ix with
     |zero=>
      have e1:e=x:=by simpa using h
      subst e1;exact hR.go (λb hb=>by rw[LS.an _ _ (by have:=hb.1;omega)];exact LS.bR _ _ hb.2) λb hb=>⟨hb.1,by have:=hb.2;omega⟩
     |succ ix=>simp at h
   refine afY (s:=.mk 10 (ay C.T i) [] [e] []) (Q:=λb=>S7.n≤b∧b<S8.n+1) hbp dd (by omega) ma ((d8.ik m8 c9).setB (b:=S1.n) (by omega) (λx hx=>by have:=dd x hx;omega) _) xa (LS.av _ _ _) n1 hRS (wk ((L8.keep m8 c9.1 λb _ h2=>c9.2 b h2 λq=>q).keep m9 (Nat.le_refl _) λb h1 _=>LS.an _ _ (by have:=h1.2;omega))) (λb hb=>⟨by have:=hb.1;omega,hb.2,λq=>by have:=hlt1 b q;have:=hb.1;omega⟩) ?_;have sp:∀r':ak au,(r'.bind λ_ j=>(ak.ok (az.mk 10 (ay C.T i) [] [e] []) j).bind λs j=>if s.kind=10∧eP C.T (dw C.T [59] j)=false then .err 14 (dw C.T [59] j) else bA C.T (k+1+1) (out++[s]) (dw C.T [59] j) d)=r'.bind λ_ j=>if eP C.T (dw C.T [59] j)=false then .err 14 (dw C.T [59] j) else .ok (out++[.mk 10 (ay C.T i) [] [e] []]) (dw C.T [59] j):=by
    intro r';congr 1;funext _ j;exact after [e] j
   rw[←sp];exact EH
  ·have h1:isA C.T [114,101,116,117,114,110] i=false:=h1;simp only[al,aM,aH];have sp:((eW C.T k i d).bind λs j=>if s.kind=10∧eP C.T (dw C.T [59] j)=false then .err 14 (dw C.T [59] j) else bA C.T k (out++[s]) (dw C.T [59] j) d)=(zn C.T k i d).bind λs j=>(ak.ok () (dw C.T [59] j)).bind λ_ j=>bA C.T k (out++[s]) j d:=by
    unfold zn;cases hp:eW C.T k i d with
    |bb=>rfl
    |err c i=>rfl
    |ok s j=>
     have hk10:=anH h1 hp;show(if s.kind=10∧eP C.T (dw C.T [59] j)=false then .err 14 (dw C.T [59] j) else bA C.T k (out++[s]) (dw C.T [59] j) d)=(if s.kind=3∧isA C.T [61] j=true then .err 14 j else .ok s j:ak az).bind _;rw[if_neg (λq=>hk10 q.1)];by_cases g:s.kind=3∧isA C.T [61] j=true
     ·rw[if_pos g];have eo:dw C.T [59] j=j:=by unfold dw;rw[iu g.2 (by decide)];rfl
      rw[eo];rw[hp]at hP;have hP:aU C (bE C) gw K S0 (if s.kind=10∧eP C.T (dw C.T [59] j)=false then .err 14 (dw C.T [59] j) else bA C.T k (out++[s]) (dw C.T [59] j) d):=hP;rw[if_neg (λq=>hk10 q.1),eo]at hP;show bA C.T k (out++[s]) j d=.err 14 j;cases k with
      |zero=>exact absurd (show bA C.T 0 (out++[s]) j d=.bb by simp only[bA]) hP.1
      |succ k=>
       simp only[bA]at hP ⊢;rw[if_neg (by rw[ahS g.2];simp)]at hP ⊢;cases k with
       |zero=>exact absurd (show(eW C.T 0 j d).bind _=.bb by simp only[eW];rfl) hP.1
       |succ k=>rw[ahR g.2];rfl
     ·rw[if_neg g];rfl
   rw[sp]at hP;have o4:=c4.ob m3 o3 (nb _ n1);have L4:aW mo (λb=>S0.n≤b∧b<S1.n) S4 v out:=L3.keep m3 c4.1 λb h1 h2=>c4.2 b h2 (nb b h1.1);have n34:=c4.1;refine O.stat k (by omega) hd m4 d4 h1 o4 (by omega) (λx hx=>by have:=dd x hx;omega) (aU.call (eT:=iK S1.n) hP λs H5 S5 w m5 c5 d5 ⟨_,c,o5,hR⟩ tR=>?_);have L5:aW mo (λb=>S0.n≤b∧b<S1.n) S5 v out:=L4.keep m4 c5.1 λb h1 h2=>c5.2 b h2 λq=>by
    rcases q with q|q
    ·have:=h1.1;omega
    ·have:=h1.2;omega
   have x5:aK (bE C) S0 S5:=(x3.trans c4).rB c5 λb hb=>by
    rcases hb with q|q
    ·exact .inl q
    ·exact .inr (by omega)
   have n45:=c5.1;refine gO m5 o5 hR.len ?_;rw[iN];refine gx hR.len ?_;rw[anh hR.len rfl];have L5w:aW mo (λb=>S0.n≤b) S5 v out:=aW.wk L5 λb hb=>hb.1;refine L5w.push (R:=mo) (bytes:=88) m5 hR (λb hb=>⟨by show S0.n≤b;have:=hb.1;omega,hb.2,λq=>by have:=hlt1 b q;have:=hb.1;omega⟩) (λb hb=>by show S0.n≤b;omega) (by omega) λH6 S6 v6 m6 L6 n6 k6 b6 arP=>?_;have c6:aK (λb=>aj v b) S5 S6:=⟨n6,λb hb hx=>k6 b hb hx⟩
   have d6:=d5.keep m5 c6 (λq=>by have:=hlo _ q;omega) λb hb q=>by have:=hlo _ q;have:=dd b hb;omega
   have x6:aK (bE C) S0 S6:=x5.rB c6 λb hb=>.inr (hlo b hb);have arQ:∀b,aj v6 b→S0.n≤b:=λb hb=>L6.Ex hb;show Bz (cM (s10 m)) K X (.ptr C.bp 0) (d:Int) v6 H6;unfold Bz;rw[r5];have hX:=hrec k rfl;refine dx (s:=[59]) (aX (by decide)) m6 d6 (λy j er hi H7 S7 m7 c7 d7=>?_) λhi H7 S7 m7 c7 d7=>?_
   ·rw[al,aM];rw[er]at tR;have tR:aU C (bE C) gw K S0 (bA C.T k (out++[s]) (dw C.T [59] j) d):=tR;have eo:dw C.T [59] j=j+1:=by unfold dw;rw[hi];rfl
    rw[eo]at tR;exact hX v6 (out++[s]) H7 S7 (.ok () (j+1):ak Unit) (by simp;omega) m7 d7 (x6.trans c7) (L6.keep m6 c7.1 λb h1 h2=>c7.2 b h2 (nb b h1)) tR
   ·rw[al,aM];refine hX v6 (out++[s]) H7 S7 _ (by simp;omega) m7 d7 (x6.trans c7) (L6.keep m6 c7.1 λb h1 h2=>c7.2 b h2 (nb b h1)) ?_;have sp2:∀r':ak az,oG C.T [59] r'=false→(r'.bind λ_ j=>(ak.ok () (dw C.T [59] j)).bind λ_ j=>bA C.T k (out++[s]) j d)=r'.bind λ_ i=>bA C.T k (out++[s]) i d:=by
     intro r' h;cases r' with
     |bb=>rfl
     |err c i=>rfl
     |ok y j=>
      have h3:isA C.T [59] j=false:=h;have eo:dw C.T [59] j=j:=by unfold dw;rw[h3];rfl
      show bA C.T k (out++[s]) (dw C.T [59] j) d=_;rw[eo];rfl
    rw[←sp2 _ hi];exact tR
end
end
section
variable {H:AH}{S:LS}{K:KF}{C:Ctx}{i d:Nat}
theorem TY{m:Nat}{S0:LS}(hm:m≤1000000)(O:gA C m)(hd:d≤200)(hbp:C.bp<S0.n)(dd:∀b,aj C.vT b→b<S0.n):∀(q k:Nat),k<q→2*k+4≤m+1→BkX C S0 K k d (sl (cM (s10 m)) K q)
 |0,k,h,_=>by omega
 |q+1,k,h,hk=>by
  show BkX C S0 K k d (BC (cM (s10 m)) K (sl (cM (s10 m)) K q));exact apo hm O hd hbp dd hk λk' e=>TY hm O hd hbp dd q k' (by omega) (by omega)
theorem anI{m q c j:Nat}{S0:LS}{γ:Type}(hM:Mem H S)(hs:aZ C S (ak.err c j:ak γ))(hx:aK (bE C) S0 S)(hP:aU C (bE C) gw K S0 (.err c j)):sl (cM (s10 m)) K (q+1) (.ptr C.bp 0) (d:Int) .ab H:=by
 have r3:(cM (s10 m)).2.2.1=f38:=rfl;show uS (cM (s10 m)) K (By (cM (s10 m)) K) (qx (cM (s10 m)) K) (BA (cM (s10 m)) K (sl (cM (s10 m)) K q)) (BB (cM (s10 m)) K) (.ptr C.bp 0) (d:Int) .ab H;unfold uS;rw[r3];refine zm hM hs λH1 S1 m1 c1 d1=>?_;rw[al,aM];have e:Ey C.T (ak.err c j:ak γ)=true:=rfl;rw[e];simp only[Bool.not_true,aH];show uR (cM (s10 m)) K .ab H1;unfold uR;exact hP.2 H1 S1 .ab [] m1 (hx.trans c1.no) (qK d1 rfl) ⟨λ_=>[],.inl ⟨rfl,rfl⟩,λi e h=>by simp at h⟩ vN
theorem x27{m:Nat}(hm:m≤1000000)(O:gA C m):∀k,2*k+4≤m+1→∀{K:KF}{H:AH}{S:LS}{d:Nat}{γ:Type}{r:ak γ},d≤200→Mem H S→aZ C S r→aU C (bE C) gw K S (r.bind λ_ i=>cj C.T k i d)→(s10 (m+1)).1 (.ptr C.bp 0) (d:Int) H K:=by
 intro k hk K H S d γ r hd hM hs hP;have r2:(cM (s10 m)).2.1=f37:=rfl;have e:(s10 (m+1)).1=BD (cM (s10 m)):=by rw[zo]
 rw[e];unfold BD TH Jb;rw[r2];have iR:G.NL=1000000:=rfl;generalize G.NL=iq at iR ⊢;rw[dS,fz];refine w0 (by omega) (by omega) ?_;have hbp:=hs.mW hM;have dd:∀b,aj C.vT b→b<S.n:=λb hb=>hs.tk.lt hM hb;have sp:(r.bind λ_ i=>cj C.T k i d)=(r.bind λ_ i=>dy (100<d+1) i).bind λ_ i=>if k=0 then .bb else bA C.T (k-1) [] i (d+1):=by
  rw[bJ];cases k with
  |zero=>
   cases r with
   |ok a i=>exact absurd (show cj C.T 0 i d=.bb by simp only[cj]) hP.1
   |err c i=>rfl
   |bb=>rfl
  |succ k=>
   congr 1;funext a i;simp only[cj,dy,Nat.add_one_sub_one,if_neg (Nat.succ_ne_zero k)];split<;>rfl
 rw[sp]at hP;refine zl hM hs (aU.call (eT:=mY) hP λ_ H2 S2 w m2 c2 d2 _ hP2=>?_);cases hr:r.bind λ_ i=>dy (100<d+1) i with
 |bb=>rw[hr]at hP2;exact absurd rfl hP2.1
 |err c i=>
  rw[hr]at hP2 d2;obtain⟨q,rfl⟩:∃q,iq=q+1:=⟨iq-1,by omega⟩
  exact anI (d:=d+1) m2 d2 c2 hP2
 |ok x i=>
  rw[hr]at hP2 d2;have hP3:aU C (bE C) gw K S (if k=0 then .bb else bA C.T (k-1) [] i (d+1)):=hP2;by_cases k0:k=0
  ·rw[if_pos k0]at hP3;exact absurd rfl hP3.1
  ·rw[if_neg k0]at hP3;have aed:d+1≤200:=by
    cases r with
    |ok a j=>
     have hr:dy (100<d+1) j=.ok x i:=hr;unfold dy at hr;split at hr
     ·cases hr
     ·omega
    |err c j=>cases hr
    |bb=>cases hr
   exact TY (d:=d+1) hm O aed hbp dd iq (k-1) (by omega) (by omega) .ab [] H2 S2 (ak.ok x i) (by simp;omega) m2 d2 c2 (aW.nil _ _ _) hP3
theorem aqF:gA C 0 where
 block k hk:=absurd hk (by omega)
 exp k hk:=absurd hk (by omega)
 stat k hk:=absurd hk (by omega)
 lv0 k hk:=absurd hk (by omega)
 lv1 k hk:=absurd hk (by omega)
 Ez k hk:=absurd hk (by omega)
 EA k hk:=absurd hk (by omega)
 lv4 k hk:=absurd hk (by omega)
 lv5 k hk:=absurd hk (by omega)
 zL k hk:=absurd hk (by omega)
 body k hk:=absurd hk (by omega)
 behind k hk:=absurd hk (by omega)
 join k hk:=absurd hk (by omega)
 unary k hk:=absurd hk (by omega)
 post k hk:=absurd hk (by omega)
 table k hk:=absurd hk (by omega)
theorem aqG{m:Nat}(hm:m≤1000000)(O:gA C m):gA C (m+1) where
 block:=x27 hm O
 exp k hk:=x70 (by omega) O k hk
 stat:=x71 hm O
 lv0:=anq (by omega) O
 lv1:=anr (by omega) O
 Ez:=ans (by omega) O
 EA k hk:=Oy (n:=3) (.inl rfl) (λ_=>O.join k (by omega)) (λh=>by cases h)
 lv4:=ant (by omega) O
 lv5:=anu (by omega) O
 zL k hk:=Oy (n:=6) (.inr rfl) (λh=>by cases h) (λ_=>O.unary k (by omega))
 body:=x105 (by omega) O
 behind:=x107 (by omega) O
 join:=aqw O
 unary:=aqx O
 post:=x167 (by omega) O
 table:=aqy (by omega) O
theorem okX:∀m:Nat,m≤1000001→gA C m
 |0,_=>aqF
 |m+1,h=>aqG (by omega) (okX m (by omega))
end
section
variable {H:AH}{S:LS}{K:KF}{C:Ctx}{i d:Nat}
theorem Mz{R:pb}{S0:LS}{r:ak (List az)}{v:AV}{b:List az}{r0:List az ⊕ Nat×Nat}(hM:Mem H S)(hd:aZ C S r)(hv:∀b' j,r=.ok b' j→b=b')(hr:r0=(match r with|.ok b _=>.inl b|.err c i=>.inr (c,ay C.T i)|.bb=>.inl []))(hx:Ext S0 S)(hR:gw S (jd S0.n S.n) v b)(hP:ScP K S0 r0):QF R K (.ptr C.bp 0) v H:=by
 show He R K (.ptr C.bp 0) v H;unfold He;have e0:Int.ofNat 0=((0:Nat):Int):=rfl;refine im hM hd ?_;rw[bu,e0];subst hr;cases r with
 |bb=>exact absurd rfl hd.no
 |ok a i=>
  rw[decide_eq_true (by show((0:Nat):Int)=_;rfl)];simp only[Bool.not_true,aH];have hP:∀H' S' v,Mem H' S'→Ext S0 S'→gw S' (jd S0.n S'.n) v a→K (.ret (.aL [v,.int 0 0,.int 0 0])) H':=hP;rw[hv a i rfl]at hR;exact hP H S v hM hx hR
 |err c i=>
  have hc:=(hd.cd c i rfl).1;rw[decide_eq_false (by show ¬((c:Nat):Int)=((0:Nat):Int);omega)];simp only[Bool.not_false,aG];refine im hM hd ?_;simp only[bY,aQ,Nat.zero_add];refine aD hM hd.ob (v:=.int 0 (ay C.T i:Int)) rfl ?_;rw[aO];have hP:∀H' S',Mem H' S'→Ext S0 S'→K (.ret (.aL [.ab,.int 0 (c:Int),.int 0 (ay C.T i:Int)])) H':=hP;exact hP H S hM hx
theorem aqH{R:pb}{F:AV→AH→KF→Prop}(q1:R.1=F)(q2:R.2.1=f17)(q3:R.2.2=f18){s:List Nat}{r:List Tok ⊕ Nat}(h8:B8 s)(hs:s.length≤5000)(hr:dT s 0 r)(hM:Mem H S)(hF:∀{K:KF},LxQ K S r→F (ai s) H K)(hP:ScP K S (yr r)):QH R (ai s) H K:=by
 unfold QH ae7 QG;rw[q1];refine hF ?_;have e0:Int.ofNat 0=((0:Nat):Int):=rfl;cases r with
 |inr e=>
  intro H4 S4 m4 x4;simp only[al,mh,nJ,nK,aO];rw[bu,decide_eq_false (by simp)];simp only[Bool.not_false,aG];exact hP H4 S4 m4 x4
 |inl ts=>
  intro H4 S4 v m4 x4 f4 b4;have n4:=x4.n;simp only[al,mh,nJ,nK,aO];rw[bu,e0,decide_eq_true (show(0:Int)=((0:Nat):Int)from rfl)];simp only[Bool.not_true,aH];refine fC f4.one' ?_;refine dt m4 (λa ha=>?_) λH5 m5=>?_
  ·simp only[List.mem_cons,List.not_mem_nil,or_false]at ha;rcases ha with rfl|rfl|rfl|rfl
   ·exact f4.one'
   all_goals rfl
  have c5:aK bU S4 (S4.push (.ce [v,.int 0 ((0:Nat):Int),.int 0 ((0:Nat):Int),.int 0 ((0:Nat):Int)] 0)):=(aK.refl _ _).push _;have o5:(S4.push (.ce [v,.int 0 ((0:Nat):Int),.int 0 ((0:Nat):Int),.int 0 ((0:Nat):Int)] 0)).ob S4.n=_:=LS.aq _ _;have n5:(S4.push (.ce [v,.int 0 ((0:Nat):Int),.int 0 ((0:Nat):Int),.int 0 ((0:Nat):Int)] 0)).n=S4.n+1:=rfl;have m5:Mem H5 (S4.push (.ce [v,.int 0 ((0:Nat):Int),.int 0 ((0:Nat):Int),.int 0 ((0:Nat):Int)] 0)):=m5;revert m5 c5 o5 n5;generalize S4.push (.ce [v,.int 0 ((0:Nat):Int),.int 0 ((0:Nat):Int),.int 0 ((0:Nat):Int)] 0)=S5;intro c5 o5 n5 m5;have hlen:=hr.few ts rfl;have aqI:∀b,aj v b→b<S4.n:=λb hb=>f4.lt m4 hb;obtain⟨C,hC⟩:∃C:Ctx,C=⟨ts,S4.n,v,.iface 57 (.agg []),hr.Eu,hr.b8 h8 ts rfl,by omega,λq=>by have:=aqI _ q;omega⟩:=⟨_,rfl⟩
  have cT:C.T=ts:=by rw[hC]
  have cb:C.bp=S4.n:=by rw[hC]
  have cv:C.vT=v:=by rw[hC]
  clear hC;have d5:aZ C S5 (ak.ok () 0:ak Unit):=⟨by rw[cb,cv];exact o5,by rw[cT,cv];exact f4.keep m4 λb _ hb=>c5.2 b hb λq=>q,by rw[cT];exact hr.Eu.1,λq=>(by cases q),λc i q=>(by cases q)⟩
  have e27:f17=(s10 G.NL).1:=by unfold f17;rfl
  rw[q2,e27];clear e27;have iR:G.NL=1000000:=rfl;generalize G.NL=iq at iR ⊢;rw[←cb];have x5:Ext S S5:=x4.trans c5.ext;have hsc:yr (.inl ts)=(match kr ts with|.ok b _=>.inl b|.err c i=>.inr (c,ay ts i)|.bb=>.inl []):=rfl;rw[hsc]at hP;have hne:=Ev hr.Eu;have hlt:=Rj hr.Eu;unfold kr at hP hne;refine(okX (C:=C) iq (by omega)).block (64*ts.length+64) (by omega) (by omega) m5 d5 ?_;show aU C (bE C) gw _ S5 (cj C.T (64*ts.length+64) 0 0);rw[cT];generalize hb:cj ts (64*ts.length+64) 0 0=rb at hP hne hlt;refine⟨λq=>hne (by rw[q];rfl),λH6 S6 w b m6 c6 d6 rv6 ha=>?_⟩;show cR K (.ret w) H6 _;rw[al];have nS:=x4.n;have x6:Ext S S6:=⟨Nat.le_trans x5.n c6.1,λb hb=>(c6.2 b (Nat.lt_of_lt_of_le hb x5.n) λq=>by
   have q:b=C.bp:=q;rw[cb]at q;omega).trans (x5.ob b hb)⟩
  have R6:gw S6 (jd S.n S6.n) w b:=rv6.go (λ_ _=>rfl) λb hb=>⟨Nat.le_trans x5.n hb.1,hb.2⟩
  have arR:=d6.mW m6;refine im m6 d6 ?_;rw[bu];cases rb with
  |bb=>exact absurd rfl d6.no
  |err c i=>
   have hc:=(d6.cd c i rfl).1;rw[decide_eq_false (by show ¬((c:Nat):Int)=((0:Nat):Int);omega),aH];exact Mz (r:=(ak.err c i:ak (List az))) m6 d6 (λb' j q=>by cases q) (by rw[cT];rfl) x6 R6 hP
  |ok b' j=>
   have hbb:b=b':=ha b' j rfl;rw[decide_eq_true (by show((0:Nat):Int)=((0:Nat):Int);rfl),aG];refine zi m6 d6 (j:=0) (v:=.int 0 (bW C.T j:Int)) (by omega) rfl ?_;rw[aO,bu,cT];by_cases hk:bW ts j=0
   ·rw[decide_eq_true (by show((bW ts j:Nat):Int)=((0:Nat):Int);rw[hk])];simp only[Bool.not_true,aH];refine Mz (r:=(ak.ok b' j:ak (List az))) m6 d6 (λb'' j' q=>by cases q;exact hbb) ?_ x6 R6 hP;show((match (if bW ts j=0 then ak.ok b' j else .err 14 j)with|.ok b _=>.inl b|.err c i=>.inr (c,ay ts i)|.bb=>.inl []):List az ⊕ Nat×Nat)=_;rw[if_pos hk]
   ·rw[decide_eq_false (by show ¬((bW ts j:Nat):Int)=((0:Nat):Int);omega)];simp only[Bool.not_false,aG];have e14:Int.ofNat 14=((14:Nat):Int):=rfl;rw[q3,e14];refine p5 (c:=14) (by omega) (by omega) m6 d6 λH7 S7 m7 c7 d7=>?_;rw[al];have x7:Ext S S7:=⟨Nat.le_trans x6.n c7.1,λb hb=>(c7.2 b (Nat.lt_of_lt_of_le hb x6.n) λq=>by
     have q:b=C.bp:=q;rw[cb]at q;omega).trans (x6.ob b hb)⟩
    have R7:gw S7 (jd S.n S7.n) w b:=rv6.go (λb hb=>c7.2 b hb.2 λq=>by
     have q:b=C.bp:=q;have:=hb.1;rw[cb]at q;omega) λb hb=>⟨Nat.le_trans x5.n hb.1,Nat.lt_of_lt_of_le hb.2 c7.1⟩
    refine Mz (r:=(ak.err 14 j:ak (List az))) m7 (d7.as rfl rfl rfl (λq=>by cases q) λc i q=>d7.cd c i (by cases q;rfl)) (λb' j q=>by cases q) ?_ x7 R7 hP;show((match (if bW ts j=0 then ak.ok b' j else .err 14 j)with|.ok b _=>.inl b|.err c i=>.inr (c,ay ts i)|.bb=>.inl []):List az ⊕ Nat×Nat)=_;rw[if_neg hk];show(Sum.inr (14,ay ts j):List az ⊕ Nat×Nat)=.inr (14,ay C.T j);rw[cT]
end
end Go.Proofs.YtcedghechlgecaaDoor
