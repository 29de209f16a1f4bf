/- The parser of the document gives what the grammar says. No condition: lemmas. -/
import Derived.Test.YtcedghechlgecaaDoorPa
set_option maxRecDepth 100000
set_option maxHeartbeats 0
set_option linter.unusedVariables false
set_option linter.unusedSimpArgs false
namespace Go.X
theorem bK{α β γ:Type}(r:an α)(f:α→Nat→an β)(g:β→Nat→an γ):(r.bind f).bind g=r.bind λa j=>(f a j).bind g:=by cases r<;>rfl
def Ag{α:Type}(r:an α)(a:α):Prop:=∀a' j,r=.ok a' j→a=a'
theorem ajy{α β:Type}{r:an α}{a:α}(h:Ag r a)(f:α→Nat→an β):r.bind f=r.bind λ_ j=>f a j:=by
 cases r with
 |ok b j=>rw[h b j rfl];rfl
 |err c j=>rfl
 |aS=>rfl
def an.ix{α:Type}:an α→Nat
 |.ok _ i=>i
 |.err _ i=>i
 |.aS=>0
def an.cd{α:Type}:an α→Nat
 |.err c _=>c
 |_=>0
def an.pl{α:Type}(T:List Tok):an α→Nat
 |.err _ i=>aB T i
 |_=>0
structure bj(C:Ctx)(S:LS){α:Type}(r:an α):Prop where
 ob:S.ob C.bp=.ce [C.vT,.int 0 (r.ix:Int),.int 0 (r.cd:Int),.int 0 (r.pl C.T:Int)] 0
 tk:ff S 4 C.vT C.T.length (tcs C.T)
 lt:r.ix<C.T.length
 no:r≠.aS
 cd:∀c i,r=.err c i→c≠0∧c≤100
def aW{α:Type}(C:Ctx)(X:Nat→Prop)(Rp:LS→(Nat→Prop)→AV→α→Prop)(K:KF)(S:LS)(r:an α):Prop:=
 r≠.aS∧∀H' S' v a,Mem H' S'→aO X S S'→bj C S' r→Rp S' (jd S.n S'.n) v a→Ag r a→K (.ret v) H'
def pb{α:Type}(T:List Tok)(s:List Nat):an α→Bool
 |.ok _ i=>isA T s i
 |_=>false
section
variable {C:Ctx}{X Y:Nat→Prop}{S S' S1:LS}{H:AH}{K:KF}{α β γ:Type}{eO:LS→(Nat→Prop)→AV→α→Prop}{FU:LS→(Nat→Prop)→AV→β→Prop}{r:an α}
theorem bj.nu(h:bj C S r)(hM:Mem H S):C.bp<S.n:=hM.lt (by rw[h.ob];simp)
theorem bj.keep(h:bj C S r)(hM:Mem H S)(hc:aO X S S')(h1:¬X C.bp)(h2:∀b,ak C.vT b→¬X b):bj C S' r:=
 ⟨(hc.2 C.bp (h.nu hM) h1).trans h.ob,h.tk.keep hM λb hb hlt=>hc.2 b hlt (h2 b hb),h.lt,h.no,h.cd⟩
theorem bj.im(h:bj C S r)(hM:Mem H S)(hc:aO bU S S'):bj C S' r:=h.keep hM hc (λg=>g) λ_ _ g=>g
theorem bj.as{r':an β}(h:bj C S r)(h1:r'.ix=r.ix)(h2:r'.cd=r.cd)(h3:r'.pl C.T=r.pl C.T)(h4:r'≠.aS)(h5:∀c i,r'=.err c i→c≠0∧c≤100):bj C S r':=
 ⟨by rw[h1,h2,h3];exact h.ob,h.tk,by rw[h1];exact h.lt,h4,h5⟩
theorem NB(h:ff S 4 C.vT C.T.length (tcs C.T))(o:gm):ff (S.set C.bp o) 4 C.vT C.T.length (tcs C.T):=by
 rcases h with g|⟨b,c,ex,cs,g1,g2,g3⟩
 ·exact .inl g
 ·refine .inr ⟨b,c,ex,cs,g1,?_,g3⟩;rw[LS.aq _ _ λe=>C.ne (by rw[g1,←e];rfl)];exact g2
theorem bj.qu{r0:an γ}{S0:LS}{H0:AH}(h:bj C S r)(h0:bj C S0 r0)(hM0:Mem H0 S0){b:Nat}(hb:S0.n≤b)(o:gm):bj C (S.set b o) r:=
 ⟨(LS.aq _ _ (by have:=h0.nu hM0;omega)).trans h.ob,by
  have hv:=h0.tk;rcases h.tk with g|⟨b',c,ex,cs,g1,g2,g3⟩
  ·exact .inl g
  ·refine .inr ⟨b',c,ex,cs,g1,?_,g3⟩;have:b'<S0.n:=hv.lt hM0 (by rw[g1];rfl);rw[LS.aq _ _ (by omega)];exact g2,h.lt,h.no,h.cd⟩
theorem bj.setB(h:bj C S r){b:Nat}(h1:b≠C.bp)(h2:∀x,ak C.vT x→x≠b)(o:gm):bj C (S.set b o) r:=
 ⟨(LS.aq _ _ (Ne.symm h1)).trans h.ob,by
  rcases h.tk with g|⟨b',c,ex,cs,g1,g2,g3⟩
  ·exact .inl g
  ·refine .inr ⟨b',c,ex,cs,g1,?_,g3⟩;rw[LS.aq _ _ (h2 b' (by rw[g1];rfl))];exact g2,h.lt,h.no,h.cd⟩
theorem bj.ok(h:bj C S r){j:Nat}(a:β)(hj:j<C.T.length):bj C (S.set C.bp (.ce [C.vT,.int 0 (j:Int),.int 0 0,.int 0 0] 0)) (an.ok a j):=
 ⟨LS.ay _ _ _,NB h.tk _,hj,λe=>(by cases e),λc i e=>(by cases e)⟩
theorem aW.call{f:α→Nat→an β}(h:aW C X FU K S (r.bind f)){k:AV→AH→Prop}
  (hk:∀a H' S' v,Mem H' S'→aO Y S1 S'→bj C S' r→eO S' (jd S1.n S'.n) v a→aW C X FU K S (r.bind λ_ j=>f a j)→k v H'):aW C Y eO (λo H=>cR K o H λv=>k v H) S1 r:=
 ⟨λe=>h.1 (by rw[e];rfl),λH' S' v a m c d p g=>hk a H' S' v m c d p (by rw[←ajy g];exact h)⟩
theorem aW.tail{r:an β}(h:aW C X FU K S r){eO:LS→(Nat→Prop)→AV→β→Prop}{k:AV→AH→Prop}
  (hk:∀a H' S' v,Mem H' S'→aO Y S1 S'→bj C S' r→eO S' (jd S1.n S'.n) v a→(∀FV lL w,Mem FV lL→aO X S lL→bj C lL r→FU lL (jd S.n lL.n) w a→K (.ret w) FV)→k v H'):aW C Y eO (λo H=>cR K o H λv=>k v H) S1 r:=
 ⟨h.1,λH' S' v a m c d p g=>hk a H' S' v m c d p λFV lL w m' c' d' p'=>h.2 FV lL w a m' c' d' p' g⟩
theorem aW.seq{r:an γ}{p:γ→Nat→an α}{f:α→Nat→an β}(h:aW C X FU K S (r.bind λx i=>(p x i).bind f)):aW C X FU K S ((r.bind p).bind f):=by rw[bK];exact h
theorem AY{s:List Nat}(h:pb C.T s r=true):∃a i,r=.ok a i∧isA C.T s i=true:=by
 cases r with
 |ok a i=>exact⟨a,i,rfl,h⟩
 |err c i=>cases h
 |aS=>cases h
theorem xC{s:List Nat}(h:pb C.T s r=false)(f g:α→Nat→an β):(r.bind λa i=>if isA C.T s i=true then f a i else g a i)=r.bind g:=by
 cases r with
 |ok a i=>
  have h:isA C.T s i=false:=h;show(if isA C.T s i=true then f a i else g a i)=g a i;rw[h];rfl
 |err c i=>rfl
 |aS=>rfl
end
end Go.X
namespace Go.Proofs.YtcedghechlgecaaDoor
open Go Go.X Go.Proofs.YtcedghechlgecaaDoor.G
section
variable {H:AH}{S:LS}{K:KF}{C:Ctx}{i d:Nat}
def bE(C:Ctx):Nat→Prop:=λb=>b=C.bp
theorem aO.G8{C:Ctx}{S S':LS}(h:aO (bE C) S S')(o:gm):aO (bE C) S (S'.set C.bp o):=h.set (b:=C.bp) (.inl (rfl:C.bp=C.bp)) o
end
section
variable {H:AH}{S:LS}{K:KF}{C:Ctx}{i d:Nat}
def fF(C:Ctx)(c:Nat):Nat→Prop:=λb=>b=C.bp∨b=c
def iK(bs:Nat)(S:LS)(Q:Nat→Prop)(v:AV)(s:aA):Prop:=v=.aP []∧∃c,S.ob bs=.ce c 0∧iA S Q c s
def z7:List AV:=[.int 0 (.ofNat 0),.int 0 (.ofNat 0),.int 0 (.ofNat 0),.str 0 0,.int 0 (.ofNat 0),.ab,.ab]
theorem jy(nw:Lay)(k:AV→AH→Prop):eX Tryd.prog nw 41 k=hN nw z7 k:=by kernel_rfl
theorem fg:∀a∈z7,a.one=true:=by
 intro a ha;simp only[z7,List.mem_cons,List.not_mem_nil,or_false]at ha;rcases ha with rfl|rfl|rfl|rfl|rfl|rfl|rfl<;>rfl
theorem St{z c:List AV}(h:c.length=z.length):dV z 0 c=c:=by
 unfold dV;rw[List.take_zero,List.drop_of_length_le (by omega)];simp
theorem km{n b:Nat}{c z:List AV}{k:AH→Prop}(hM:Mem H S)(h1:S.ob b=.ce z 0)(hz:z.length=n)(hc:c.length=n)(ho:∀a∈c,a.one=true)(hk:∀H',Mem H' (S.set b (.ce c 0))→k H'):ah n (.ptr b 0) (.agg c) H k:=
 oY hM h1 (by omega) hc (by omega) ho λH' h'=>hk H' (by rw[St (by omega)]at h';exact h')
theorem gH{n b m:Nat}{c:List AV}{k:AV→Prop}(hM:Mem H S)(h1:S.ob b=.ce c m)(hc:c.length=n)(hk:k (.agg c)):aQ n (.ptr b 0) H k:=
 xl hM h1 (by omega) (by rw[List.drop_zero,List.take_of_length_le (by omega)];exact hk)
theorem aoq{b1 b3:Nat}{c z:List AV}(hM:Mem H S)(h3:S.ob b3=.ce c 0)(hc:c.length=7)(ho:∀a∈c,a.one=true)(h1:S.ob b1=.ce z 0)(hz:z.length=7)(hK:∀H',Mem H' (S.set b1 (.ce c 0))→K (.ret (.agg c)) H'):aQ 7 (.ptr b3 0) H λv1=>ah 7 (.ptr b1 0) v1 H λH2=>aQ 7 (.ptr b1 0) H2 λv3=>K (.ret v3) H2:=by
 refine gH hM h3 hc (km hM h1 hz hc ho λH' h'=>?_);exact gH h' (LS.ay _ _ _) hc (hK H' h')
theorem eu.two{Q:Nat→Prop}{b:Nat}{ca cb:List AV}{m:Nat}{ex:Bool}(hQ:Q b)(hb:S.ob b=.ce (ca++cb) m)(h1:ca.length=7)(h2:cb.length=7):eu S Q 7 (.slice b 0 2 2 7 ex) 2 (λi=>if i=0 then ca else cb):=
 .inr ⟨b,0,2,ex,ca++cb,m,rfl,hQ,hb,Nat.le_refl _,by rw[List.length_append];omega,λi hi=>by
  have hi2:i=0∨i=1:=by omega
  rcases hi2 with rfl|rfl
  ·show((ca++cb).drop 0).take 7=ca;rw[List.drop_zero];exact List.take_left' h1
  ·show((ca++cb).drop 7).take 7=cb;rw[List.drop_left' h1,List.take_of_length_le (by omega)]⟩
theorem RE.simple{Q:Nat→Prop}{kind at_ n op:Nat}{s:List Nat}(h:B8 s):RE S Q [.int 0 (kind:Int),.int 0 (at_:Int),.int 0 (n:Int),ai s,.int 0 (op:Int),.ab,.ab] (.mk kind at_ n s op [] []):=
 .mk kind at_ n s op [] [] .ab .ab (λ_=>[]) (λ_=>[]) h (eu.nil _ _ _ _) (λi e h=>by simp at h) (eu.nil _ _ _ _) (λi e h=>by simp at h)
theorem RE.two{Q:Nat→Prop}{kind at_ op b m:Nat}{ex:Bool}{x y:al}{ca cb:List AV}(hQ:Q b)(hb:S.ob b=.ce (ca++cb) m)(h1:RE S Q ca x)(h2:RE S Q cb y):RE S Q [.int 0 (kind:Int),.int 0 (at_:Int),.int 0 ((0:Nat):Int),ai [],.int 0 (op:Int),.slice b 0 2 2 7 ex,.ab] (lK kind op at_ x y):=by
 refine .mk kind at_ 0 [] op [x,y] [] _ .ab _ (λ_=>[]) B8.nil (eu.two hQ hb h1.len h2.len) (λi e h=>?_) (eu.nil _ _ _ _) (λi e h=>by simp at h)
 match i,h with
 |0,h=>
  have e1:x=e:=by simpa using h
  subst e1;exact h1
 |1,h=>
  have e1:y=e:=by simpa using h
  subst e1;exact h2
 |i+2,h=>simp at h
end
section
variable {H:AH}{S:LS}{K:KF}{C:Ctx}{i d:Nat}
structure lN(C:Ctx)(S0 S:LS)(b1 b3:Nat)(c:List AV)(e:al):Prop where
 x:aO (bE C) S0 S
 o1:∃z,S.ob b1=.ce z 0∧z.length=7
 o3:S.ob b3=.ce c 0
 n1:S0.n≤b1
 n3:S0.n≤b3
 ne:b1≠b3
 re:∃Q,RE S Q c e∧∀b,Q b→S0.n≤b∧b<S.n∧b≠b1∧b≠b3
section
variable {S0 S':LS}{H0:AH}{i0 d0 b1 b3:Nat}{c:List AV}{e:al}
theorem lN.keep(h:lN C S0 S b1 b3 c e)(hM:Mem H S)(hbp:C.bp<S0.n)(g:aO (bE C) S S'):lN C S0 S' b1 b3 c e:=by
 have ne1:¬bE C b1:=λq=>by have q:b1=C.bp:=q;have:=h.n1;omega
 have ne3:¬bE C b3:=λq=>by have q:b3=C.bp:=q;have:=h.n3;omega
 obtain⟨z,hz,nz⟩:=h.o1;obtain⟨Q,h1,h2⟩:=h.re;exact⟨h.x.trans g,⟨z,g.ob hM hz ne1,nz⟩,g.ob hM h.o3 ne3,h.n1,h.n3,h.ne,Q,h1.go (λb hb=>g.2 b (h2 b hb).2.1 λq=>by have q:b=C.bp:=q;have:=(h2 b hb).1;omega) (λ_ h=>h),λb hb=>⟨(h2 b hb).1,Nat.lt_of_lt_of_le (h2 b hb).2.1 g.1,(h2 b hb).2.2⟩⟩
theorem lN.NC{c':List AV}{e':al}(h:lN C S0 S b1 b3 c e){Q:Nat→Prop}(hr:RE S Q c' e')(hQ:∀b,Q b→S0.n≤b∧b<S.n∧b≠b1∧b≠b3):lN C S0 (S.set b3 (.ce c' 0)) b1 b3 c' e':=by
 obtain⟨z,hz,nz⟩:=h.o1;exact⟨h.x.set (.inr h.n3) _,⟨z,(LS.aq _ _ h.ne).trans hz,nz⟩,LS.ay _ _ _,h.n1,h.n3,h.ne,Q,hr.go (λb hb=>LS.aq _ _ (hQ b hb).2.2.2) (λ_ h=>h),hQ⟩
theorem lN.len(h:lN C S0 S b1 b3 c e):c.length=7:=by obtain⟨Q,h1,_⟩:=h.re;exact h1.len
end
end
section
variable {H:AH}{S:LS}{K:KF}{C:Ctx}{i d:Nat}
theorem eu.single{Q:Nat→Prop}{b m sz:Nat}{c:List AV}{ex:Bool}(hQ:Q b)(hb:S.ob b=.ce c m)(hc:c.length=sz):eu S Q sz (.slice b 0 1 1 sz ex) 1 (λ_=>c):=
 .inr ⟨b,0,1,ex,c,m,rfl,hQ,hb,Nat.le_refl _,by omega,λi hi=>by
  have:i=0:=by omega
  subst this;show(c.drop (0+0*sz)).take sz=c;rw[Nat.zero_mul,Nat.add_zero,List.drop_zero,List.take_of_length_le (by omega)]⟩
theorem RE.one{Q:Nat→Prop}{kind at_ op b m:Nat}{ex:Bool}{x:al}{c:List AV}(hQ:Q b)(hb:S.ob b=.ce c m)(h1:RE S Q c x):RE S Q [.int 0 (kind:Int),.int 0 (at_:Int),.int 0 ((0:Nat):Int),ai [],.int 0 (op:Int),.slice b 0 1 1 7 ex,.ab] (.mk kind at_ 0 [] op [x] []):=by
 refine .mk kind at_ 0 [] op [x] [] _ .ab _ (λ_=>[]) B8.nil (eu.single hQ hb h1.len) (λi e h=>?_) (eu.nil _ _ _ _) (λi e h=>by simp at h)
 match i,h with
 |0,h=>
  have e1:x=e:=by simpa using h
  subst e1;exact h1
 |i+1,h=>simp at h
theorem lN.mk0{S0 S2:LS}{H2:AH}{c:List AV}{e:al}{z:List AV}(hbp:C.bp<S0.n)(hz:z.length=7)(h1:aO (bE C) S0 S2)(m2:Mem H2 S2)(hb1:S2.ob S0.n=.ce z 0)(hR:RE S2 (jd (S0.n+1) S2.n) c e):lN C S0 ((S2.push (.ce z7 0)).set S2.n (.ce c 0)) S0.n S2.n c e:=by
 have n12:S0.n<S2.n:=m2.lt (by rw[hb1];simp);have c4:aO bU S2 ((S2.push (.ce z7 0)).set S2.n (.ce c 0)):=((aO.refl _ _).push _).set (.inr (Nat.le_refl _)) _;exact⟨h1.trans c4.no,⟨z,c4.ob m2 hb1 (λq=>q),hz⟩,LS.ay _ _ _,Nat.le_refl _,by omega,by omega,jd (S0.n+1) S2.n,hR.go (λb hb=>c4.2 b hb.2 λq=>q) (λ_ h=>h),λb hb=>⟨by have:=hb.1;omega,Nat.lt_of_lt_of_le hb.2 c4.1,by have:=hb.1;omega,by have:=hb.2;omega⟩⟩
end
end Go.Proofs.YtcedghechlgecaaDoor
namespace Go.X
section
variable {H:AH}{S:LS}
theorem iR.G9{α:Type}{R:Rep α}{lo:Nat}{v:AV}{l:List α}{k:AV→Prop}(h:iR R lo S v l)(hk:k (.int 0 l.length)):bO v k:=by
 obtain⟨cl,h1,_⟩:=h;exact h1.len hk
theorem aor{bytes sz n n':Nat}{v x:AV}{l:List AV}{Q:Nat→Prop}{cl:Nat→List AV}{k:AV→AH→Prop}(hM:Mem H S)(hs:ff S sz v n l)(hv:0<n'∨v≠.ab)(hsz:0<sz)(hx:eu S Q sz x n' cl)(hone:∀i,i<n'→∀a∈cl i,a.one=true)(hl:(n+n')*bytes≤1099511627776)
  (hK:∀H' S' v' l',Mem H' S'→l'.length=n'*sz→(∀i,i<n'→(l'.drop (i*sz)).take sz=cl i)→rz S v (n+n') sz (l++l') S' v'→k v' H'):cO sz bytes v x H k:=by
 have go:∀l':List AV,l'.length=n'*sz→(∀i,i<n'→(l'.drop (i*sz)).take sz=cl i)→rr sz bytes n' v l' H k:=λl' h1 h2=>by
  refine yr hM hs hsz hv h1 hl (λa ha=>?_) λH' S' v' m' he=>hK H' S' v' l' m' h1 h2 he;obtain⟨j,hj,e⟩:=List.mem_iff_getElem.1 ha;have hi:j/sz<n':=Nat.div_lt_of_lt_mul (by rw[Nat.mul_comm];omega);refine hone (j/sz) hi a ?_;rw[←h2 _ hi];rw[List.mem_iff_getElem?];refine⟨j%sz,?_⟩;rw[List.getElem?_take,if_pos (Nat.mod_lt _ hsz),List.getElem?_drop,Nat.mul_comm,Nat.div_add_mod,List.getElem?_eq_getElem hj,e]
 rcases hx with⟨rfl,rfl⟩|⟨b,o,c,ex,cs,m,rfl,h1,h2,h3,h4,h5⟩
 ·exact go [] (by simp) (λi hi=>by omega)
 ·refine oZ (ex:=ex) (cap:=c) (k:=λl=>rr sz bytes n' _ l H k) hM h2 (by omega) ?_;refine go _ (by rw[List.length_take,List.length_drop];omega) λi hi=>?_;have hle:(i+1)*sz≤n'*sz:=Nat.mul_le_mul_right _ (by omega);rw[Nat.add_mul,Nat.one_mul]at hle;rw[List.drop_take,List.take_take,Nat.min_eq_left (by omega),List.drop_drop];exact h5 i hi
end
end Go.X
namespace Go.Proofs.YtcedghechlgecaaDoor
open Go Go.X Go.Proofs.YtcedghechlgecaaDoor.G
section
variable {H:AH}{S:LS}{K:KF}{C:Ctx}{i d:Nat}
end
section
variable {H:AH}{S:LS}{K:KF}{C:Ctx}{i d:Nat}
theorem afW{T:List Tok}{i:Nat}:∀a∈nx T i,a.one=true:=by
 intro a ha;simp only[nx,List.mem_cons,List.not_mem_nil,or_false]at ha;rcases ha with rfl|rfl|rfl|rfl<;>rfl
end
end Go.Proofs.YtcedghechlgecaaDoor
namespace Go.X
section
variable {H:AH}{S:LS}
theorem iR.same{α:Type}{R:Rep α}{lo:Nat}{v:AV}{l:List α}(h:iR R lo S v l):bu v v=true:=by
 obtain⟨cl,h1,_⟩:=h;rcases h1 with⟨rfl,_⟩|⟨b,c,ex,cs,rfl,_⟩
 ·rfl
 ·simp[bu]
theorem iR.one{α:Type}{R:Rep α}{lo:Nat}{v:AV}{l:List α}(h:iR R lo S v l):v.one=true:=by
 obtain⟨cl,h1,_⟩:=h;rcases h1 with⟨rfl,_⟩|⟨b,c,ex,cs,rfl,_⟩<;>rfl
theorem bind_ok{α β:Type}{r:an α}{f:α→Nat→an β}{b:β}{j:Nat}(h:r.bind f=.ok b j):∃a i,r=.ok a i∧f a i=.ok b j:=by
 cases r with
 |ok a i=>exact⟨a,i,rfl,h⟩
 |err c i=>cases h
 |aS=>cases h
end
end Go.X
namespace Go.Proofs.YtcedghechlgecaaDoor
open Go Go.X Go.Proofs.YtcedghechlgecaaDoor.G
section
variable {H:AH}{S:LS}{K:KF}{C:Ctx}{i d:Nat}
def tg(a:Nat)(v:AV):List AV:=[.int 0 ((8:Nat):Int),.int 0 (a:Int),.int 0 ((0:Nat):Int),ai [],.int 0 ((0:Nat):Int),v,.ab]
theorem afX{a:Nat}:∀x∈tg a .ab,x.one=true:=λx hx=>(RE.simple (S:=⟨0,λ_=>.ce [] 0⟩) (Q:=bU) (kind:=8) (at_:=a) (n:=0) (op:=0) B8.nil).ones x hx
end
end Go.Proofs.YtcedghechlgecaaDoor
namespace Go.X
section
variable {H:AH}{S:LS}
theorem aos{bytes sz n:Nat}{v:AV}{l l':List AV}{k:AV→AH→Prop}(hM:Mem H S)(hs:ff S sz v n l)(hsz:0<sz)(hl':l'.length=sz)(hl:(n+1)*bytes≤1099511627776)(h1:∀a∈l',a.one=true)
  (hK:∀H' S' v',Mem H' S'→rz S v (n+1) sz (l++l') S' v'→k v' H'):aT (aE H) 1 sz l' λx H'=>bT (Nat.beq H'.n (Nat.succ H.n)) (cO sz bytes v x H' k):=by
 refine dj hM (by omega) h1 λH1 m1=>cG (ry (by rw[m1.n,hM.n];rfl)) ?_;have hs1:ff (S.push (.ce l' 0)) sz v n l:=hs.keep hM λb _ hb=>LS.bS _ _ hb;have hlt1:∀b,ak v b→b<S.n:=λb hb=>hs.lt hM hb;refine oZ (ex:=true) (cap:=1) (o:=0) (n:=1) (l:=l') (m:=0) (b:=S.n) (k:=λl=>rr sz bytes 1 _ l H1 k) m1 (LS.av _ _) (by omega) ?_;rw[List.drop_zero,List.take_of_length_le (by omega)];refine yr m1 hs1 hsz (.inl (by omega)) (by omega) hl h1 λH' S' v' h' he=>?_;obtain⟨e1,e2,e3,e4⟩:=he;have e1':S.n+1≤S'.n:=e1;refine hK H' S' v' h' ⟨by omega,λb hb hne=>?_,e3,λb hb=>?_⟩
 ·rw[e2 b (by show b<S.n+1;omega) hne,LS.bS _ _ hb]
 ·rcases e4 b hb with g|g
  ·exact .inl g
  ·have g':S.n+1≤b:=g;exact .inr (by omega)
theorem eu.congr{Q:Nat→Prop}{sz n:Nat}{v:AV}{cl cl':Nat→List AV}(h:eu S Q sz v n cl)(he:∀i,i<n→cl i=cl' i):eu S Q sz v n cl':=by
 rcases h with h|⟨b,o,c,ex,cs,m,h1,h2,h3,h4,h5,h6⟩
 ·exact .inl h
 ·exact .inr ⟨b,o,c,ex,cs,m,h1,h2,h3,h4,h5,λi hi=>(h6 i hi).trans (he i hi)⟩
theorem iR.nm{lo:Nat}{v:AV}{l:List (List Nat)}(h:iR uQ lo S v l)(hM:Mem H S):kl S (jd lo S.n) v l:=by
 obtain⟨cl,h1,h2⟩:=h.done hM;refine⟨h1.congr λi hi=>?_,λt ht=>?_⟩
 ·have g:=(h2 i _ (List.getElem?_eq_getElem hi)).1;rw[List.getElem?_eq_getElem hi];exact g
 ·obtain⟨i,hi,e⟩:=List.mem_iff_getElem.1 ht;have g:=(h2 i _ (List.getElem?_eq_getElem hi)).2;rw[e]at g;exact g
theorem aot{l z:List AV}(hl:l.length=2)(hz:z.length=2):spl l z 0=l:=by
 match l,hl,z,hz with
 |[a,b],_,[_,_],_=>rfl
end
end Go.X
namespace Go.Proofs.YtcedghechlgecaaDoor
open Go Go.X Go.Proofs.YtcedghechlgecaaDoor.G
section
variable {H:AH}{S:LS}{K:KF}{C:Ctx}{i d:Nat}
end
end Go.Proofs.YtcedghechlgecaaDoor
namespace Go.X
section
variable {H:AH}{S:LS}
end
end Go.X
namespace Go.Proofs.YtcedghechlgecaaDoor
open Go Go.X Go.Proofs.YtcedghechlgecaaDoor.G
section
variable {H:AH}{S:LS}{K:KF}{C:Ctx}{i d:Nat}
def z5:List AV:=[.int 0 (.ofNat 0),.int 0 (.ofNat 0),.ab,.ab,.ab]
theorem aou:∀a∈z5,a.one=true:=by
 intro a ha;simp only[z5,List.mem_cons,List.not_mem_nil,or_false]at ha;rcases ha with rfl|rfl|rfl|rfl|rfl<;>rfl
end
end Go.Proofs.YtcedghechlgecaaDoor
namespace Go.X
section
variable {H:AH}{S S':LS}
def aX{α:Type}(R:Rep α)(Z:Nat→Prop)(S:LS)(v:AV)(l:List α):Prop:=∃cl:List (List AV),ff S R.sz v l.length cl.flatten∧cl.length=l.length∧(∀b,ak v b→Z b)∧
 ∀(i:Nat) (c:List AV) (a:α),cl[i]? = some c→l[i]? = some a→∃Q,R.rel S Q c a∧∀b,Q b→Z b∧b<S.n∧¬ak v b
section
variable {α:Type}{R:Rep α}{Z Z':Nat→Prop}{v:AV}{l:List α}
theorem aX.nil(R:Rep α)(Z:Nat→Prop)(S:LS):aX R Z S .ab []:=⟨[],ff.nil _ _,rfl,λ_ h=>h.elim,λi c a h=>by simp at h⟩
theorem aX.toR{lo:Nat}(h:aX R Z S v l)(hZ:∀b,Z b→lo≤b):iR R lo S v l:=by
 obtain⟨cl,h1,h2,h3,h4⟩:=h;refine⟨cl,h1,h2,λb hb=>hZ b (h3 b hb),λi c a hc ha=>?_⟩;obtain⟨Q,g1,g2⟩:=h4 i c a hc ha;exact⟨Q,g1,λb hb=>⟨hZ b (g2 b hb).1,(g2 b hb).2⟩⟩
theorem aX.imp(h:aX R Z S v l)(hM:Mem H S)(hZ:∀b,Z b→b<S.n→Z' b):aX R Z' S v l:=by
 obtain⟨cl,h1,h2,h3,h4⟩:=h;refine⟨cl,h1,h2,λb hb=>hZ b (h3 b hb) (h1.lt hM hb),λi c a hc ha=>?_⟩;obtain⟨Q,g1,g2⟩:=h4 i c a hc ha;exact⟨Q,g1,λb hb=>⟨hZ b (g2 b hb).1 (g2 b hb).2.1,(g2 b hb).2⟩⟩
theorem aX.keep(h:aX R Z S v l)(hM:Mem H S)(hn:S.n≤S'.n)(hk:∀b,Z b→b<S.n→S'.ob b=S.ob b):aX R Z S' v l:=by
 obtain⟨cl,h1,h2,h3,h4⟩:=h;refine⟨cl,h1.keep hM λb hb hlt=>hk b (h3 b hb) hlt,h2,h3,λi c a hc ha=>?_⟩;obtain⟨Q,g1,g2⟩:=h4 i c a hc ha;exact⟨Q,R.go (λb hb=>hk b (g2 b hb).1 (g2 b hb).2.1) (λ_ h=>h) g1,λb hb=>⟨(g2 b hb).1,Nat.lt_of_lt_of_le (g2 b hb).2.1 hn,(g2 b hb).2.2⟩⟩
theorem aX.lt(h:aX R Z S v l)(hM:Mem H S){b:Nat}(hb:ak v b):b<S.n:=by
 obtain⟨cl,h1,_⟩:=h;exact h1.lt hM hb
theorem aX.FZ(h:aX R Z S v l){b:Nat}(hb:ak v b):Z b:=by
 obtain⟨_,_,_,h3,_⟩:=h;exact h3 b hb
theorem aX.step{a:α}{c:List AV}{Q:Nat→Prop}{v':AV}(h:aX R Z S v l)(hr:R.rel S Q c a)(hQ:∀b,Q b→Z b∧b<S.n∧¬ak v b)(hnew:∀b,S.n≤b→Z b)(hs:∀cl,ff S R.sz v l.length cl→rz S v (l.length+1) R.sz (cl++c) S' v'):aX R Z S' v' (l++[a]):=by
 obtain⟨cl,h1,h2,h3,h4⟩:=h;obtain⟨a1,a2,a3,a4⟩:=hs _ h1;refine⟨cl++[c],?_,by simp[h2],λb hb'=>?_,λi c' a' hc ha=>?_⟩
 ·rw[List.flatten_append,List.length_append];show ff S' R.sz v' (l.length+1) (cl.flatten++[c].flatten);have:[c].flatten=c:=by simp
  rw[this];exact a3
 ·rcases a4 b hb' with g|g
  ·exact h3 b g
  ·exact hnew b g
 ·have fin:∀{Q:Nat→Prop}{c:List AV}{a:α},R.rel S Q c a→(∀b,Q b→Z b∧b<S.n∧¬ak v b)→∃Q,R.rel S' Q c a∧∀b,Q b→Z b∧b<S'.n∧¬ak v' b:=λ{Q c a} g1 g2=>
   ⟨Q,R.go (λb hb=>a2 b (g2 b hb).2.1 (g2 b hb).2.2) (λ_ h=>h) g1,λb hb=>⟨(g2 b hb).1,Nat.lt_of_lt_of_le (g2 b hb).2.1 a1,λhb'=>by
    rcases a4 b hb' with q|q
    ·exact(g2 b hb).2.2 q
    ·have:=(g2 b hb).2.1;omega⟩⟩
  by_cases hi:i<cl.length
  ·rw[List.getElem?_append_left hi]at hc;rw[List.getElem?_append_left (by omega)]at ha;obtain⟨Q,g1,g2⟩:=h4 i c' a' hc ha;exact fin g1 g2
  ·rw[List.getElem?_append_right (by omega)]at hc ha;have hi0:=(List.getElem?_eq_some_iff.1 hc).1;have e0:i-cl.length=0:=by simp at hi0;omega
   rw[e0]at hc;rw[h2]at e0;rw[e0]at ha;have ec:c=c':=by simpa using hc
   have ea:a=a':=by simpa using ha
   subst ec;subst ea;exact fin hr hQ
end
theorem ff.uniq{sz n:Nat}{v:AV}{l l':List AV}(h:ff S sz v n l)(h':ff S sz v n l'):l'=l:=by
 rcases h with⟨e1,e2,e3⟩|⟨b,c1,ex,cs,e1,e2,e3,e4,e5,e6,e7⟩
 ·rcases h' with⟨_,_,g3⟩|⟨b',c1',ex',cs',g1,_⟩
  ·rw[g3,e3]
  ·rw[e1]at g1;cases g1
 ·rcases h' with⟨g1,_⟩|⟨b',c1',ex',cs',g1,g2,g3,g4,g5,g6,g7⟩
  ·rw[e1]at g1;cases g1
  ·rw[e1]at g1;injection g1 with q1;subst q1;rw[e2]at g2;injection g2 with q2;rw[←g6,←e6,g5,e5,q2]
theorem ajz{m n b b' o o':Nat}{x:Prop}(hb:b≠b')(h:x):vr m n (.ptr b o) (.ptr b' o') x:=by
 show bT _ _;refine cG ?_ h;have:Nat.beq b b'=false:=by
  cases g:Nat.beq b b' with
  |false=>rfl
  |true=>exact absurd (Nat.eq_of_beq_eq_true g) hb
 rw[this];rfl
theorem apW{bs br n o:Nat}{v:AV}{l c cs0 z:List AV}{X:AH→Prop}(hM:Mem H S)(hs:ff S 7 v n l)(hrow:S.ob br=.ce z 0)(hz:z.length=7)(hzo:∀a∈z,a.one=true)(hc:c.length=7)(hco:∀a∈c,a.one=true)(hbs:S.ob bs=.ce cs0 0)(ho:o<cs0.length)(hne:¬ak v bs)(hl:(n+1)*96≤1099511627776)
  (hK:∀H' S' v',Mem H' (S'.set bs (.ce (cs0.set o v') 0))→rz S v (n+1) 7 (l++c) S' v'→S'.ob bs=.ce cs0 0→X H') :
  cO 7 96 v (.slice br 0 1 1 7 true) H λv14 dZ=>bb 7 v14 (.int 0 (n:Int)) λv16=>ah 7 v16 (.agg c) dZ λiz=>ah 1 (.ptr bs o) v14 iz λkj=>ah 1 (.ptr bs o) v14 dZ λjt=>ah 7 v16 (.agg c) jt λgZ=>vr 7 1 v16 (.ptr bs o) (X kj):=by
 refine oZ (sz:=7) (ex:=true) (cap:=1) (o:=0) (n:=1) (l:=z) (m:=0) (b:=br) (k:=λl=>rr 7 96 1 _ l H _) hM hrow (by omega) ?_;rw[List.drop_zero,List.take_of_length_le (by omega)];refine yr hM hs (by omega) (.inl (by omega)) (by omega) hl hzo λH1 S1 v1 m1 he=>?_;obtain⟨e1,e2,e3,e4⟩:=he;have apX:bs<S.n:=hM.lt (by rw[hbs];simp);have o1:S1.ob bs=.ce cs0 0:=(e2 bs apX hne).trans hbs;rcases e3 with⟨_,g,_⟩|⟨b,cp,ex,cs,rfl,g2,g3,g4,g5,g6,g7⟩
 ·omega
 have hbne:b≠bs:=λq=>by
  subst q;rcases e4 b rfl with g|g
  ·exact hne g
  ·omega
 refine ng (by omega) (by omega) ?_;rw[Int.toNat_natCast,Nat.zero_add];have hle:(n+1)*7≤cp*7:=Nat.mul_le_mul_right _ g4;have hone:(AV.slice b 0 (n+1) cp 7 ex).one=true:=rfl;refine oY m1 g2 (by omega) hc (by omega) hco λH2 m2=>?_;have o2:(S1.set b (.ce (dV cs (n*7) c) 0)).ob bs=.ce cs0 0:=(LS.aq _ _ (Ne.symm hbne)).trans o1;refine bJ m2 o2 (by omega) ho hone λH3 m3=>?_;refine bJ m1 o1 (by omega) ho hone λH4 m4=>?_;refine oY m4 ((LS.aq _ _ hbne).trans g2) (by omega) hc (by omega) hco λH5 m5=>?_;refine ajz hbne ?_;have hll:l.length=n*7:=by
  rw[List.length_append,hz]at g5;omega
 have hsl:(dV cs (n*7) c).length=cs.length:=nL (by omega);refine hK H3 (S1.set b (.ce (dV cs (n*7) c) 0)) _ m3 ⟨e1,λx hx hn=>?_,.inr ⟨b,cp,ex,dV cs (n*7) c,rfl,LS.ay _ _ _,by rw[hsl];exact g3,g4,by rw[List.length_append,hc];omega,?_,λa ha=>?_⟩,e4⟩ o2
 ·have hxb:x≠b:=λq=>by
   subst q;rcases e4 x rfl with g|g
   ·exact hn g
   ·omega
  exact(LS.aq _ _ hxb).trans (e2 x hx hn)
 ·have ht:cs.take (n*7)=l:=by
   have g:(cs.take (l++z).length).take (n*7)=(l++z).take (n*7):=by rw[g6]
   rw[List.take_take,Nat.min_eq_left (by rw[List.length_append];omega)]at g;rw[g,←hll];exact List.take_left' rfl
  unfold dV;rw[ht,List.take_append_of_le_length (by rw[List.length_append];exact Nat.le_refl _)];exact List.take_of_length_le (Nat.le_refl _)
 ·simp only[dV,List.mem_append]at ha;rcases ha with(g|g)|g
  ·exact g7 a (List.mem_of_mem_take g)
  ·exact hco a g
  ·exact g7 a (List.mem_of_mem_drop g)
end
end Go.X
namespace Go.Proofs.YtcedghechlgecaaDoor
open Go Go.X Go.Proofs.YtcedghechlgecaaDoor.G
section
variable {H:AH}{S:LS}{K:KF}{C:Ctx}{i d:Nat}
theorem iA.plain{Q:Nat→Prop}{kind a:Nat}{names:List (List Nat)}{l:List al}{vn vl:AV}{cl:Nat→List AV}(hn:kl S Q vn names)(hl:eu S Q 7 vl l.length cl)(he:∀i e,l[i]? = some e→RE S Q (cl i) e):iA S Q [.int 0 (kind:Int),.int 0 (a:Int),vn,vl,.ab] (.mk kind a names l []):=
 .mk kind a names l [] vn vl .ab cl (λ_=>.ab) (λ_ _=>[]) hn hl he (eu.nil _ _ _ _) (λi b h=>by simp at h) (λi b j s h=>by simp at h)
theorem kl.nil{Q:Nat→Prop}:kl S Q .ab []:=⟨eu.nil _ _ _ _,λt h=>by simp at h⟩
theorem _root_.Go.X.kl.go{S S':LS}{Q Q':Nat→Prop}{v:AV}{l:List (List Nat)}(h:kl S Q v l)(hk:∀b,Q b→S'.ob b=S.ob b)(h1:∀b,Q b→Q' b):kl S' Q' v l:=⟨h.1.go hk h1,h.2⟩
end
end Go.Proofs.YtcedghechlgecaaDoor
namespace Go.X
theorem RE.k0{S:LS}{Q:Nat→Prop}{c:List AV}{e:al}(h:RE S Q c e):∃l,c=.int 0 (e.kind:Int)::l:=by
 cases h;exact⟨_,rfl⟩
end Go.X
namespace Go.Proofs.YtcedghechlgecaaDoor
open Go Go.X Go.Proofs.YtcedghechlgecaaDoor.G
section
variable {H:AH}{S:LS}{K:KF}{C:Ctx}{i d:Nat}
end
end Go.Proofs.YtcedghechlgecaaDoor
namespace Go.X
section
variable {H:AH}{S S':LS}
theorem aX.pushB{α:Type}{R:Rep α}{Z:Nat→Prop}{bytes:Nat}{v:AV}{l:List α}{a:α}{c:List AV}{Q:Nat→Prop}{k:AV→AH→Prop}(h:aX R Z S v l)(hM:Mem H S)(hr:R.rel S Q c a)(hQ:∀b,Q b→Z b∧b<S.n∧¬ak v b)(hnew:∀b,S.n≤b→Z b)(hl:(l.length+1)*bytes≤1099511627776)
  (hk:∀H' S' v',Mem H' S'→aX R Z S' v' (l++[a])→S.n≤S'.n→(∀b,b<S.n→¬ak v b→S'.ob b=S.ob b)→(∀b,ak v' b→ak v b∨S.n≤b)→v'.one=true→k v' H'):aT (aE H) 1 R.sz c λx H'=>bT (Nat.beq H'.n (Nat.succ H.n)) (cO R.sz bytes v x H' k):=by
 obtain⟨cl,h1,h2⟩:=id h;refine aos hM h1 R.pos (R.len hr) hl (R.ones hr) λH' S' v' m' he=>?_;have g:=h.step hr hQ hnew λcl' h'=>by rw[h1.uniq h'];exact he
 exact hk H' S' v' m' g he.1 he.2.1 he.2.2.2 (g.toR (lo:=0) λb _=>Nat.zero_le _).one
end
end Go.X
namespace Go.Proofs.YtcedghechlgecaaDoor
open Go Go.X Go.Proofs.YtcedghechlgecaaDoor.G
section
variable {H:AH}{S:LS}{K:KF}{C:Ctx}{i d:Nat}
end
section
variable {H:AH}{S:LS}{K:KF}{C:Ctx}{α:Type}{r:an α}
theorem iq{k:Int→Prop}{H:AH}(hM:Mem H S)(hd:bj C S r)(hk:k (r.cd:Int)):au (.ptr C.bp 0) (ag 2 (.ptr C.bp 0) λv1=>ad v1 H λv2=>cI 0 v2 k):=by
 simp only[bV,aM,Nat.zero_add];refine az hM hd.ob (v:=.int 0 (r.cd:Int)) rfl ?_;rw[aK];exact hk
theorem y0(hd:bj C S r):(r.cd=0∧∃a i,r=.ok a i)∨(r.cd≠0∧∃c i,r=.err c i):=by
 cases r with
 |ok a i=>exact .inl ⟨rfl,a,i,rfl⟩
 |err c i=>exact .inr ⟨(hd.cd c i rfl).1,c,i,rfl⟩
 |aS=>exact absurd rfl hd.no
theorem ND{j:Nat}{v:AV}{k:AV→Prop}{i:Nat}(hM:Mem H S)(tk:ff S 4 C.vT C.T.length (tcs C.T))(hi:i<C.T.length)(hj:j<4)(hv:(nx C.T i)[j]? = some v)(hk:k v):bb 4 C.vT (.int 0 (i:Int)) λp=>ag j p λq=>ad q H k:=by
 refine tk.at_ hi λb cs m hb ho hc=>?_;rw[aM];refine az hM ho (v:=v) ?_ hk;rw[hc j hj];rw[←AW hi,List.getElem?_take,if_pos hj,List.getElem?_drop]at hv;exact hv
theorem zW{j:Nat}{v:AV}{k:AV→Prop}(hM:Mem H S)(hd:bj C S r)(hj:j<4)(hv:(nx C.T r.ix)[j]? = some v)(hk:k v) :
  au (.ptr C.bp 0) (ag 0 (.ptr C.bp 0) λv1=>ad v1 H λv2=>au (.ptr C.bp 0) (ag 1 (.ptr C.bp 0) λv3=>ad v3 H λv4=>cI 0 v4 λz5=>bb 4 v2 (.int 0 z5) λv6=>ag j v6 λv7=>ad v7 H k)):=by
 simp only[bV,aM,Nat.zero_add];refine az hM hd.ob (v:=C.vT) rfl ?_;refine az hM hd.ob (v:=.int 0 (r.ix:Int)) rfl ?_;simp only[aK];exact ND hM hd.tk hd.lt hj hv hk
def zX{β:Type}(c:Nat)(r:an α):an β:=r.bind λ_ i=>.err c i
theorem qv{c:Nat}(hc:c≠0)(hc':c≤100)(hM:Mem H S)(hd:bj C S r)(hK:∀H' S',Mem H' S'→aO (bE C) S S'→bj C S' (zX c r:an Unit)→K (.ret (.aP [])) H'):f18 (.ptr C.bp 0) (c:Int) H K:=by
 show BO JW K (.ptr C.bp 0) (c:Int) H;unfold BO;refine iq hM hd ?_;have e0:Int.ofNat 0=((0:Nat):Int):=rfl;rw[aZ,e0];rcases y0 hd with⟨e,a,i,rfl⟩|⟨e,c1,i,rfl⟩
 ·rw[e,decide_eq_true rfl,aH];refine zW hM hd (j:=3) (v:=.int 0 (aB C.T i:Int)) (by omega) rfl ?_;simp only[aK,bV,aM,Nat.zero_add];refine bJ hM hd.ob (by omega) (by show 2<4;omega) rfl λH1 m1=>?_;refine bJ m1 (LS.ay _ _ _) (by omega) (by show 3<4;omega) rfl λH2 m2=>?_;refine hK H2 _ m2 (aO.G8 (aO.G8 (aO.refl _ _) _) _) ?_;exact⟨LS.ay _ _ _,NB (NB hd.tk _) _,hd.lt,λe=>(by cases e),λc' i' e=>(by cases e;exact⟨hc,hc'⟩)⟩
 ·rw[decide_eq_false (by omega),aI];exact hK H S hM (aO.refl _ _) (hd.as rfl rfl rfl (λe=>by cases e) λc i e=>hd.cd c i (by cases e;rfl))
theorem rX{s:List Nat}(h8:B8 s)(hM:Mem H S)(hd:bj C S r)(hK:∀H' S',Mem H' S'→aO bU S S'→bj C S' r→K (.ret (.bool (pb C.T s r))) H'):f41 (.ptr C.bp 0) (ai s) H K:=by
 show BU BV K (BT BV K) (.ptr C.bp 0) (ai s) H;unfold BU;simp only[bV,aM,Nat.zero_add];refine az hM hd.ob (v:=C.vT) rfl ?_;refine az hM hd.ob (v:=.int 0 (r.ix:Int)) rfl ?_;simp only[aK];refine hd.tk.load hM hd.lt ?_;rw[AW hd.lt];refine hM.cP (eT (dp hM (λa ha=>?_) λH2 m2=>cG (ry (by rw[m2.n,hM.n];rfl)) ?_))
 ·simp only[List.mem_cons,List.not_mem_nil,or_false]at ha;rcases ha with rfl|rfl|rfl|rfl<;>rfl
 refine oY m2 (LS.av _ _) (by omega) rfl (by show 0+4≤4;omega) (λa ha=>?_) λH3 m3=>?_
 ·simp only[nx,List.mem_cons,List.not_mem_nil,or_false]at ha;rcases ha with rfl|rfl|rfl|rfl<;>rfl
 have m3:Mem H3 ((S.push (.ce [.int 0 (.ofNat 0),.str 0 0,.int 0 (.ofNat 0),.int 0 (.ofNat 0)] 0)).set S.n (.ce (nx C.T r.ix) 0)):=m3;have c3:aO bU S ((S.push (.ce [.int 0 (.ofNat 0),.str 0 0,.int 0 (.ofNat 0),.int 0 (.ofNat 0)] 0)).set S.n (.ce (nx C.T r.ix) 0)):=((aO.refl _ _).push _).set (.inr (Nat.le_refl _)) _;have d3:=hd.im hM c3;have hk:=hK H3 _ m3 c3 d3;have e0:Int.ofNat 0=((0:Nat):Int):=rfl;have e1:Int.ofNat 1=((1:Nat):Int):=rfl;have e5:Int.ofNat 5=((5:Nat):Int):=rfl;unfold BT;refine iq m3 d3 ?_;rw[aZ,e0];rcases y0 hd with⟨e,a,i,rfl⟩|⟨e,c1,i,rfl⟩
 ·rw[e,decide_eq_true rfl,aH];have hk:K (.ret (.bool (isA C.T s i))) H3:=hk;have go:(cC C.T i=1∨cC C.T i=5)→ad (.ptr S.n 1) H3 λv11=>uZ v11 (ai s) λv12=>bY v12 λz13=>K (.ret (.bool z13)) H3:=λhkd=>by
   refine az m3 (LS.ay _ _ _) (v:=ai (fU C.T i)) rfl ?_;refine xo (wG C i) h8 ?_;rw[aN];have e:isA C.T s i=decide (fU C.T i=s):=by
    unfold isA;rcases hkd with g|g<;>rw[g]<;>simp
   rw[e]at hk;exact hk
  simp only[aM,Nat.zero_add];refine az m3 (LS.ay _ _ _) (v:=.int 0 (cC C.T i:Int)) rfl ?_;simp only[aK,aZ];rw[e1,e5];refine bR (λg=>go (.inl (by omega))) (λg=>?_);refine az m3 (LS.ay _ _ _) (v:=.int 0 (cC C.T i:Int)) rfl ?_;simp only[aK];refine bR (λg5=>go (.inr (by omega))) (λg5=>?_);have e:isA C.T s i=false:=by
   unfold isA;rw[decide_eq_false (by omega),decide_eq_false (by omega)];rfl
  rw[e]at hk;exact hk
 ·rw[decide_eq_false (by omega),aI];exact hk
theorem dC{s:List Nat}(h8:B8 s)(hM:Mem H S)(hd:bj C S r)(ht:∀a i,r=.ok a i→isA C.T s i=true→∀H' S',Mem H' S'→aO (bE C) S S'→bj C S' (.ok () (i+1):an Unit)→K (.ret (.bool true)) H')
  (hf:pb C.T s r=false→∀H' S',Mem H' S'→aO (bE C) S S'→bj C S' r→K (.ret (.bool false)) H'):f40 (.ptr C.bp 0) (ai s) H K:=by
 have r68:B4=f41:=rfl;show BZ B4 K (.ptr C.bp 0) (ai s) H;unfold BZ;rw[r68];refine rX h8 hM hd λH1 S1 m1 c1 d1=>?_;rw[aj,aN];cases hi:pb C.T s r with
 |false=>
  rw[aI];exact hf hi H1 S1 m1 c1.no d1
 |true=>
  obtain⟨a,i,rfl,hb⟩:=AY hi;rw[aH];have hlt:=di C.ok hb;have hfew:=C.few;simp only[bV,aM,Nat.zero_add];refine az m1 d1.ob (v:=.int 0 (i:Int)) rfl ?_;simp only[aK,dh,dX];refine w0 (by omega) (by omega) ?_;refine bJ m1 d1.ob (by omega) (by show 1<4;omega) rfl λH2 m2=>?_;exact ht a i rfl hb H2 _ m2 (aO.G8 c1.no _) (d1.ok () hlt)
theorem kC{s:List Nat}(h8:B8 s)(hM:Mem H S)(hd:bj C S r)(hP:aW C (bE C) ny K S (r.bind λ_ i=>aU C.T s i)):f59 (.ptr C.bp 0) (ai s) H K:=by
 have ra:yv.1=f18:=rfl;have rb:yv.2=f40:=rfl;show B9 yv K (.ptr C.bp 0) (ai s) H;unfold B9;rw[ra,rb];refine dC h8 hM hd (λa i er hi H1 S1 m1 c1 d1=>?_) λhi H1 S1 m1 c1 d1=>?_
 ·simp only[aj,aN,Bool.not_true,aI];subst er;have e:(an.ok a i).bind (λ_ i=>aU C.T s i)=.ok () (i+1):=by
   show aU C.T s i=_;unfold aU;rw[hi];rfl
  rw[e]at hP;exact hP.2 H1 S1 _ () m1 c1 d1 rfl λ_ _ e=>by cases e;rfl
 ·simp only[aj,aN,Bool.not_false,aH];refine qv (c:=14) (by omega) (by omega) m1 d1 λH2 S2 m2 c2 d2=>?_;rw[aj];have e:r.bind (λ_ i=>aU C.T s i)=zX 14 r:=by
   cases r with
   |ok a i=>
    have hi:isA C.T s i=false:=hi;show aU C.T s i=.err 14 i;unfold aU;rw[hi];rfl
   |err c i=>rfl
   |aS=>rfl
  rw[e]at hP;exact hP.2 H2 S2 _ () m2 (c1.trans c2) d2 rfl λ_ _ _=>rfl
theorem si(hM:Mem H S)(hd:bj C S r)(hP:aW C (bE C) NA K S (r.bind λ_ i=>dT C.T i)):f57 (.ptr C.bp 0) H K:=by
 have aq6:qP=f18:=rfl;show B6 qP K (vy qP K (yu qP K)) (.ptr C.bp 0) H;unfold B6;rw[aq6];have e0:Int.ofNat 0=((0:Nat):Int):=rfl;have e2:Int.ofNat 2=((2:Nat):Int):=rfl;have e14:Int.ofNat 14=((14:Nat):Int):=rfl;refine iq hM hd ?_;rw[aZ,e0];have dead:∀{γ:Type}{r':an γ}{H1:AH}{S1:LS},r'.cd≠0→Mem H1 S1→aO (bE C) S S1→bj C S1 r'→(r.bind λ_ i=>dT C.T i)=r'.bind (λ_ i=>dT C.T i)→vy qP K (yu qP K) (.ptr C.bp 0) H1:=by
  intro γ r' H1 S1 hc m1 c1 d1 e;unfold vy;refine iq m1 d1 ?_;rw[aZ,e0,decide_eq_false (by omega)];simp only[Bool.not_false,aH];rw[e]at hP;rcases y0 d1 with⟨g,_⟩|⟨g,c2,i,rfl⟩
  ·exact absurd g hc
  ·exact hP.2 H1 S1 _ [] m1 c1 (d1.as rfl rfl rfl (λe=>by cases e) λc i e=>d1.cd c i (by cases e;rfl)) ⟨rfl,B8.nil⟩ λ_ _ e=>by cases e
 rcases y0 hd with⟨e,a,i,rfl⟩|⟨e,c1,i,rfl⟩
 ·rw[e,decide_eq_true rfl,aH];refine zW hM hd (j:=0) (v:=.int 0 (cC C.T i:Int)) (by omega) rfl ?_;rw[aK,aZ,e2];by_cases g:cC C.T i=2
  ·rw[decide_eq_true (by omega)];simp only[Bool.not_true,aI];unfold vy;refine iq hM hd ?_;rw[aZ,e0,e,decide_eq_true rfl];simp only[Bool.not_true,aI,bV,aM,Nat.zero_add];have hlt:=kZ (i:=i) C.ok (by omega);have hfew:=C.few;refine az hM hd.ob (v:=.int 0 (i:Int)) rfl ?_;simp only[aK,dh,dX];refine w0 (by omega) (by omega) ?_;refine bJ hM hd.ob (by omega) (by show 1<4;omega) rfl λH2 m2=>?_;have d2:=hd.ok () hlt;unfold yu;simp only[bV,aM,Nat.zero_add];refine az m2 d2.ob (v:=C.vT) rfl ?_;refine az m2 d2.ob (v:=.int 0 ((i+1:Nat):Int)) rfl ?_;simp only[aK,kW,dX];refine w0 (by omega) (by omega) ?_;rw[show((i+1:Nat):Int)-1=(i:Int) by omega];have fld:=ND (j:=1) (v:=ai (fU C.T i)) (k:=λv9=>K (.ret v9) H2) m2 d2.tk hd.lt (by omega) rfl;have e:(an.ok a i).bind (λ_ i=>dT C.T i)=.ok (fU C.T i) (i+1):=by
    show dT C.T i=_;unfold dT;rw[if_pos g]
   rw[e]at hP;exact fld (hP.2 H2 _ _ (fU C.T i) m2 (aO.G8 (aO.refl _ _) _) (d2.as rfl rfl rfl (λe=>by cases e) λc i e=>by cases e) ⟨rfl,wG C i⟩ λ_ _ e=>by cases e;rfl)
  ·rw[decide_eq_false (by omega)];simp only[Bool.not_false,aH];refine qv (c:=14) (by omega) (by omega) hM hd λH2 S2 m2 c2 d2=>?_;rw[aj];refine dead (r':=(an.err 14 i:an Unit)) (by show 14≠0;omega) m2 c2 d2 ?_;show dT C.T i=.err 14 i;unfold dT;rw[if_neg g]
 ·rw[decide_eq_false (by omega),aI];exact dead (r':=(an.err c1 i:an α)) (by show c1≠0;exact e) hM (aO.refl _ _) hd rfl
def dD(b:Prop)[Decidable b](i:Nat):an Unit:=if b then .err 8 i else .ok () i
theorem capD{b:Prop}[Decidable b](hM:Mem H S)(hd:bj C S r)(hP:aW C (bE C) ny K S (r.bind λ_ i=>dD b i)){z:Bool}(hz:z=decide b):bI z (f18 (.ptr C.bp 0) ((8:Nat):Int) H λo1 H2=>cR K o1 H2 λv3=>K (.ret (.aP [])) H2) (K (.ret (.aP [])) H):=by
 subst hz;by_cases g:b
 ·rw[decide_eq_true g,aH];refine qv (c:=8) (by omega) (by omega) hM hd λH2 S2 m2 c2 d2=>?_;rw[aj];have e:r.bind (λ_ i=>dD b i)=zX 8 r:=by
   unfold zX;simp only[dD,if_pos g]
  rw[e]at hP;exact hP.2 H2 S2 _ () m2 c2 d2 rfl λ_ _ _=>rfl
 ·rw[decide_eq_false g,aI];refine hP.2 H S _ () hM (aO.refl _ _) ?_ rfl λ_ _ _=>rfl;have e:r.bind (λ_ i=>dD b i)=r.bind λ_ i=>.ok () i:=by
   simp only[dD,if_neg g]
  rw[e];rcases y0 hd with⟨e,a,i,rfl⟩|⟨e,c1,i,rfl⟩
  ·exact hd.as rfl rfl rfl (λe=>by cases e) λc i e=>by cases e
  ·exact hd.as rfl rfl rfl (λe=>by cases e) λc i e=>hd.cd c i (by cases e;rfl)
theorem zY{d:Nat}(hM:Mem H S)(hd:bj C S r)(hP:aW C (bE C) ny K S (r.bind λ_ i=>dD (100<d) i)):f37 (.ptr C.bp 0) (d:Int) H K:=by
 have r65:BQ=f18:=rfl;show BP BQ K (.ptr C.bp 0) (d:Int) H;unfold BP;rw[r65];refine capD hM hd hP ?_;have e:Int.ofNat 100=((100:Nat):Int):=rfl;rw[cz,e,Bool.eq_iff_iff,decide_eq_true_eq,decide_eq_true_eq];omega
theorem Hc{n most:Nat}(hM:Mem H S)(hd:bj C S r)(hP:aW C (bE C) ny K S (r.bind λ_ i=>dD (most≤n) i)):f76 (.ptr C.bp 0) (n:Int) (most:Int) H K:=by
 have aq7:Cb=f18:=rfl;show Ca Cb K (.ptr C.bp 0) (n:Int) (most:Int) H;unfold Ca;rw[aq7];refine capD hM hd hP ?_;rw[cz];by_cases g:most≤n
 ·rw[decide_eq_true g,decide_eq_false (by omega)];rfl
 ·rw[decide_eq_false g,decide_eq_true (by omega)];rfl
theorem lf(hM:Mem H S)(hd:bj C S r)(hK:K (.ret (.int 0 (aB C.T r.ix:Int))) H):f39 (.ptr C.bp 0) H K:=by
 show BY JY K (.ptr C.bp 0) H;unfold BY;refine zW hM hd (j:=3) (v:=.int 0 (aB C.T r.ix:Int)) (by omega) rfl ?_;rw[aK];exact hK
def F8(T:List Tok):an α→Bool
 |.ok _ i=>fe T i
 |_=>true
theorem zZ(hM:Mem H S)(hd:bj C S r)(hK:∀H' S',Mem H' S'→aO bU S S'→bj C S' r→K (.ret (.bool (F8 C.T r))) H'):f38 (.ptr C.bp 0) H K:=by
 have r66:BX=f41:=rfl;show BW BX K (.ptr C.bp 0) H;unfold BW;rw[r66];have e0:Int.ofNat 0=((0:Nat):Int):=rfl;refine iq hM hd ?_;rw[aZ,e0];rcases y0 hd with⟨e,a,i,rfl⟩|⟨e,c1,i,rfl⟩
 ·rw[e,decide_eq_true rfl];simp only[Bool.not_true,aI];refine zW hM hd (j:=0) (v:=.int 0 (cC C.T i:Int)) (by omega) rfl ?_;rw[aK,aZ];have hK:∀H' S',Mem H' S'→aO bU S S'→bj C S' (an.ok a i)→K (.ret (.bool (fe C.T i))) H':=hK;unfold fe at hK;by_cases g:cC C.T i=0
  ·rw[decide_eq_true (by omega),aH];have hk:=hK H S hM (aO.refl _ _) hd;rw[decide_eq_true g,Bool.or_true,Bool.or_true,Bool.or_true,Bool.or_true]at hk;exact hk
  rw[decide_eq_false (by omega),aI];rw[decide_eq_false g,Bool.or_false]at hK;refine rX (s:=[101,110,100]) (bg (by decide)) hM hd λH1 S1 m1 c1 d1=>?_;rw[aj,aN];have h1':pb C.T [101,110,100] (an.ok a i)=isA C.T [101,110,100] i:=rfl;rw[h1'];cases h1:isA C.T [101,110,100] i with
  |true=>rw[h1]at hK;rw[aH];exact hK H1 S1 m1 c1 d1
  |false=>
  rw[h1,Bool.false_or]at hK;rw[aI];refine rX (s:=[101,108,115,101]) (bg (by decide)) m1 d1 λH2 S2 m2 c2 d2=>?_;rw[aj,aN];have h2':pb C.T [101,108,115,101] (an.ok a i)=isA C.T [101,108,115,101] i:=rfl;rw[h2'];cases h2:isA C.T [101,108,115,101] i with
  |true=>rw[h2]at hK;rw[aH];exact hK H2 S2 m2 (c1.trans c2) d2
  |false=>
  rw[h2,Bool.false_or]at hK;rw[aI];refine rX (s:=[101,108,115,101,105,102]) (bg (by decide)) m2 d2 λH3 S3 m3 c3 d3=>?_;rw[aj,aN];have h3':pb C.T [101,108,115,101,105,102] (an.ok a i)=isA C.T [101,108,115,101,105,102] i:=rfl;rw[h3'];cases h3:isA C.T [101,108,115,101,105,102] i with
  |true=>rw[h3]at hK;rw[aH];exact hK H3 S3 m3 ((c1.trans c2).trans c3) d3
  |false=>
  rw[h3,Bool.false_or]at hK;rw[aI];refine rX (s:=[117,110,116,105,108]) (bg (by decide)) m3 d3 λH4 S4 m4 c4 d4=>?_;rw[aj,aN];exact hK H4 S4 m4 (((c1.trans c2).trans c3).trans c4) d4
 ·rw[decide_eq_false (by omega)];simp only[Bool.not_false,aH];exact hK H S hM (aO.refl _ _) hd
end
end Go.Proofs.YtcedghechlgecaaDoor
namespace Go.X
theorem kD{H:AH}{S:LS}(h:Mem H S){n sz:Nat}{l:List AV}{k:AV→AH→Prop}(hl:l.length=n*sz)(h1:∀a∈l,a.one=true)(hk:∀H' S',Mem H' S'→S'.n=S.n+1→S'.ob S.n=.ce l 0→(∀b,b<S.n→S'.ob b=S.ob b)→k (.slice S.n 0 n n sz true) H'):aT (aE H) n sz l k:=
 dj h hl h1 λH' m=>hk H' _ m rfl (LS.av _ _) λb hb=>LS.bS _ _ hb
end Go.X
namespace Go.Proofs.YtcedghechlgecaaDoor
open Go Go.X Go.Proofs.YtcedghechlgecaaDoor.G
section
variable {H:AH}{S:LS}{K:KF}{C:Ctx}{i d:Nat}
def pFn(T:List Tok)(k i d:Nat):an eV:=(aU T [40] i).bind λ_ j=>(cg T k true [] j).bind λps j=>(cD T k j d).bind λb j=>(aU T [101,110,100] j).bind λ_ j=>.ok (.mk ps b) j
def Aa(T:List Tok)(k i d:Nat):an aA:=(fK T k i d).bind λs j=>if s.kind=3∧isA T [61] j=true then .err 14 j else .ok s j
def rE(S:LS)(Q:Nat→Prop)(v:AV)(f:eV):Prop:=∃c,v=.agg c∧RF S Q c f
def CtX(C:Ctx)(F:Nat→AH→KF→Prop)(p:Nat→Nat→an al):Prop:=∀{K:KF}{H:AH}{S:LS}{d:Nat}{γ:Type}{r:an γ},d≤200→Mem H S→bj C S r→aW C (bE C) dS K S (r.bind λ_ i=>p i d)→F d H K
def mr(C:Ctx)(F:Nat→AH→KF→Prop)(p:Nat→Nat→an al):Prop:=∀{K:KF}{H:AH}{S:LS}{i d:Nat}{γ:Type}{x:γ},d≤200→Mem H S→bj C S (an.ok x i)→aW C (bE C) dS K S (p i d)→F d H K
structure gr(C:Ctx)(m:Nat):Prop where
 block:∀k,2*k+4≤m→∀{K:KF}{H:AH}{S:LS}{d:Nat}{γ:Type}{r:an γ},d≤200→Mem H S→bj C S r→aW C (bE C) fY K S (r.bind λ_ i=>cD C.T k i d)→(s10 m).1 (.ptr C.bp 0) (d:Int) H K
 exp:∀k,2*k+4≤m→CtX C (λd H K=>(s10 m).2.1 (.ptr C.bp 0) (d:Int) H K) (bW C.T k)
 stat:∀k,2*k+4≤m→∀{K:KF}{H:AH}{S:LS}{i d bs:Nat}{γ:Type}{x:γ},d≤200→Mem H S→bj C S (an.ok x i)→isA C.T [114,101,116,117,114,110] i=false→S.ob bs=.ce [.int 0 0,.int 0 (aB C.T i:Int),.ab,.ab,.ab] 0→bs≠C.bp→(∀b,ak C.vT b→b≠bs)→aW C (fF C bs) (iK bs) K S (Aa C.T k i d)→(s10 m).2.2.1 (.ptr C.bp 0) (.ptr bs 0) (d:Int) H K
 lv0:∀k,2*k+4≤m→mr C (λd H K=>(s10 m).2.2.2.1 (.ptr C.bp 0) ((0:Nat):Int) (d:Int) H K) (gB C.T k)
 lv1:∀k,2*k+4≤m→mr C (λd H K=>(s10 m).2.2.2.1 (.ptr C.bp 0) ((1:Nat):Int) (d:Int) H K) (jH C.T k)
 Ga:∀k,2*k+4≤m→mr C (λd H K=>(s10 m).2.2.2.1 (.ptr C.bp 0) ((2:Nat):Int) (d:Int) H K) (jI C.T k)
 Gb:∀k,2*k+5≤m→mr C (λd H K=>(s10 m).2.2.2.1 (.ptr C.bp 0) ((3:Nat):Int) (d:Int) H K) (gC C.T k)
 lv4:∀k,2*k+4≤m→mr C (λd H K=>(s10 m).2.2.2.1 (.ptr C.bp 0) ((4:Nat):Int) (d:Int) H K) (mF C.T k)
 lv5:∀k,2*k+4≤m→mr C (λd H K=>(s10 m).2.2.2.1 (.ptr C.bp 0) ((5:Nat):Int) (d:Int) H K) (jJ C.T k)
 Ar:∀k,2*k+5≤m→mr C (λd H K=>(s10 m).2.2.2.1 (.ptr C.bp 0) ((6:Nat):Int) (d:Int) H K) (fz C.T k)
 body:∀k,2*k+5≤m→∀{K:KF}{H:AH}{S:LS}{d:Nat}{γ:Type}{r:an γ},d≤200→Mem H S→bj C S r→aW C (bE C) rE K S (r.bind λ_ i=>pFn C.T k i d)→(s10 m).2.2.2.2.1 (.ptr C.bp 0) (d:Int) H K
 behind:∀k,2*k+4≤m→∀{K:KF}{H:AH}{S S0:LS}{d:Nat}{c:List AV}{e:al}{γ:Type}{r:an γ},d≤200→Mem H S→aO (bE C) S0 S→C.bp<S0.n→(∀b,ak C.vT b→b<S0.n)→bj C S r→RE S (jd S0.n S.n) c e→aW C (bE C) dS K S0 (r.bind λ_ i=>cK C.T k e i d)→(s10 m).2.2.2.2.2.1 (.ptr C.bp 0) (.agg c) (d:Int) H K
 join:∀k,2*k+4≤m→mr C (λd H K=>(s10 m).2.2.2.2.2.2.1 (.ptr C.bp 0) (d:Int) H K) (gC C.T k)
 unary:∀k,2*k+4≤m→mr C (λd H K=>(s10 m).2.2.2.2.2.2.2.1 (.ptr C.bp 0) (d:Int) H K) (fz C.T k)
 post:∀k,2*k+4≤m→mr C (λd H K=>(s10 m).2.2.2.2.2.2.2.2.1 (.ptr C.bp 0) (d:Int) H K) (iW C.T k)
 table:∀k,2*k+4≤m→∀{K:KF}{H:AH}{S:LS}{i d a:Nat}{γ:Type}{x:γ},d≤200→Mem H S→bj C S (an.ok x i)→aW C (bE C) dS K S (fq C.T k [] 0 a i d)→(s10 m).2.2.2.2.2.2.2.2.2 (.ptr C.bp 0) (a:Int) (d:Int) H K
theorem Ab(m:Nat):s10 (m+1)=(Cl (cQ (s10 m)),Rh (vJ (s10 m)),Cz (bf (s10 m)),CM (eF (s10 m)),CU (fS (s10 m)),Db (dz (s10 m)),RA (nj (s10 m)),RB (nk (s10 m)),RC (fT (s10 m)),DC (cU (s10 m))):=by kernel_rfl
theorem RE.zero{S:LS}{Q:Nat→Prop}:RE S Q z7 (.mk 0 0 0 [] 0 [] []):=RE.simple (kind:=0) (at_:=0) (n:=0) (op:=0) (s:=[]) B8.nil
theorem rj{γ β:Type}{r:an γ}{c i:Nat}(hd:bj C S r)(e:r=.err c i):bj C S (an.err c i:an β):=by
 subst e;exact hd.as rfl rfl rfl (λe=>by cases e) λc i e=>hd.cd c i (by cases e;rfl)
theorem ajA{m n d c i:Nat}{γ:Type}(hM:Mem H S)(hd:bj C S (an.err c i:an γ))(hP:aW C (bE C) dS K S (.err c i)):(s10 (m+1)).2.2.2.1 (.ptr C.bp 0) (n:Int) (d:Int) H K:=by
 show sL (eF (s10 m)) K (yy (eF (s10 m)) K) (.ptr C.bp 0) (n:Int) (d:Int) H;unfold sL;rw[jy];refine eT (dp hM fg λH1 m1=>?_);have c1:aO bU S (S.push (.ce z7 0)):=(aO.refl _ _).push _;have d1:=hd.im hM c1;have e0:Int.ofNat 0=((0:Nat):Int):=rfl;refine iq m1 d1 ?_;have hc:=(hd.cd c i rfl).1;rw[aZ,e0,decide_eq_false (by show ¬((c:Nat):Int)=((0:Nat):Int);omega)];simp only[Bool.not_false,aH];refine km (c:=z7) m1 (LS.av _ _) rfl rfl fg λH2 m2=>?_;refine gH m2 (LS.ay _ _ _) rfl ?_;have c2:=c1.set (b:=S.n) (.inr (Nat.le_refl _)) (.ce z7 0);exact hP.2 H2 _ _ (.mk 0 0 0 [] 0 [] []) m2 c2.no (rj (hd.im hM c2) rfl) ⟨z7,rfl,RE.zero⟩ λ_ _ e=>by cases e
theorem x70{m:Nat}(hm:1≤m)(O:gr C m):∀k,2*k+4≤m+1→CtX C (λd H K=>(s10 (m+1)).2.1 (.ptr C.bp 0) (d:Int) H K) (bW C.T k):=by
 intro k hk K H S d γ r hd hM hs hP;have ra:(vJ (s10 m)).1=f37:=rfl;have rb:(vJ (s10 m)).2=(s10 m).2.2.2.1:=rfl;show Cm (vJ (s10 m)) K (.ptr C.bp 0) (d:Int) H;unfold Cm;rw[ra,rb,jy];refine eT (dp hM fg λH1 m1=>?_);have c1:aO bU S (S.push (.ce z7 0)):=(aO.refl _ _).push _;have d1:=hs.im hM c1;have o1:(S.push (.ce z7 0)).ob S.n=.ce z7 0:=LS.av _ _;rw[dh,dX];refine w0 (by omega) (by omega) ?_;have hbp:=hs.nu hM;have fk:¬bE C S.n:=λq=>by have q:S.n=C.bp:=q;omega
 have fin:∀{r':an al}{H3:AH}{S3:LS}{v:AV}{e:al}{S2:LS},aW C (bE C) dS K S r'→S.n<S2.n→Mem H3 S3→aO (bE C) S S3→bj C S3 r'→S3.ob S.n=.ce z7 0→dS S3 (jd S2.n S3.n) v e→Ag r' e→ah 7 (.ptr S.n 0) v H3 λcn=>aQ 7 (.ptr S.n 0) cn λv11=>K (.ret v11) cn:=by
  intro r' H3 S3 v e S2 hP hn m3 c3 d3 o3 ⟨c,hv,hR⟩ ha;subst hv;refine km m3 o3 rfl hR.len hR.ones λH4 m4=>?_;refine gH m4 (LS.ay _ _ _) hR.len ?_;refine hP.2 H4 _ _ e m4 (c3.set (.inr (Nat.le_refl _)) _) (d3.qu hs hM (Nat.le_refl _) _) ⟨c,rfl,hR.go (λb hb=>LS.aq _ _ (by have:=hb.1;omega)) λb hb=>⟨by have:=hb.1;omega,hb.2⟩⟩ ha
 have sp:(r.bind λ_ i=>bW C.T k i d)=(r.bind λ_ i=>dD (100<d+1) i).bind λ_ i=>if k=0 then .aS else gB C.T (k-1) i (d+1):=by
  rw[bK];cases k with
  |zero=>
   cases r with
   |ok a i=>
    exact absurd (show bW C.T 0 i d=.aS by simp only[bW]) hP.1
   |err c i=>rfl
   |aS=>rfl
  |succ k=>
   congr 1;funext a i;simp only[bW,dD,Nat.add_one_sub_one,if_neg (Nat.succ_ne_zero k)];split<;>rfl
 rw[sp]at hP;refine zY m1 d1 (aW.call (eO:=ny) hP λ_ H2 S2 w m2 c2 d2 _ hP2=>?_);have c12:aO (bE C) S S2:=c1.no.trans c2;have o2:=c2.ob m1 o1 fk;have n2:S.n<S2.n:=m2.lt (by rw[o2];simp);have e0:Int.ofNat 0=((0:Nat):Int):=rfl;rw[e0];cases hr:r.bind λ_ i=>dD (100<d+1) i with
 |aS=>rw[hr]at hP2;exact absurd rfl hP2.1
 |err c i=>
  rw[hr]at hP2 d2;obtain⟨m',rfl⟩:∃m',m=m'+1:=⟨m-1,by omega⟩
  refine ajA m2 d2 ⟨λe=>(by cases e),λH3 S3 v e m3 c3 d3 p3 a3=>?_⟩;exact fin hP2 n2 m3 (c12.trans c3) d3 (c3.ob m2 o2 fk) p3 a3
 |ok x i=>
  rw[hr]at hP2 d2;have hP3:aW C (bE C) dS K S (if k=0 then .aS else gB C.T (k-1) i (d+1)):=hP2;by_cases k0:k=0
  ·rw[if_pos k0]at hP3;exact absurd rfl hP3.1
  ·rw[if_neg k0]at hP3;have afY:d+1≤200:=by
    cases r with
    |ok a j=>
     have hr:dD (100<d+1) j=.ok x i:=hr;unfold dD at hr;split at hr
     ·cases hr
     ·omega
    |err c j=>cases hr
    |aS=>cases hr
   refine O.lv0 (k-1) (by omega) afY m2 d2 ⟨hP3.1,λH3 S3 v e m3 c3 d3 p3 a3=>?_⟩;exact fin hP3 n2 m3 (c12.trans c3) d3 (c3.ob m2 o2 fk) p3 a3
end
section
variable {H:AH}{S:LS}{K:KF}{C:Ctx}{i d:Nat}
def dR:Nat→List (List Nat)
 |0=>[[111,114]]
 |1=>[[97,110,100]]
 |2=>tests
 |4=>sums
 |5=>terms
 |_=>[]
def gI:Nat→List Nat
 |0=>[0]
 |1=>[0]
 |2=>[7,8,9,10,11,12]
 |4=>[1,2]
 |5=>[3,4,5]
 |_=>[]
def xO(n:Nat):Prop:=n=0∨n=1∨n=2∨n=4∨n=5
theorem ajB{n:Nat}:(dR n).length=(gI n).length:=by unfold dR gI;split<;>rfl
theorem aeu{n:Nat}:(dR n).length≤6:=by unfold dR;split<;>simp[tests,sums,terms]
theorem aov{n:Nat}:∀s∈dR n,B8 s:=by
 intro s hs;unfold dR at hs;split at hs<;>simp only[tests,sums,terms,List.mem_cons,List.not_mem_nil,or_false]at hs
 ·subst hs;exact bg (by decide)
 ·subst hs;exact bg (by decide)
 ·rcases hs with rfl|rfl|rfl|rfl|rfl|rfl<;>exact bg (by decide)
 ·rcases hs with rfl|rfl<;>exact bg (by decide)
 ·rcases hs with rfl|rfl|rfl<;>exact bg (by decide)
theorem rl(l:List (List Nat)):∀a∈l.map ai,a.one=true:=by
 intro a ha;obtain⟨s,_,rfl⟩:=List.mem_map.1 ha;exact kX s
theorem th(l:List Nat):∀a∈l.map (λc:Nat=>AV.int 0 (c:Int)),a.one=true:=by
 intro a ha;obtain⟨s,_,rfl⟩:=List.mem_map.1 ha;rfl
theorem apY{n:Nat}(hn:xO n){k:AV→AH→Prop}(hM:Mem H S)(hk:∀H' S' b,Mem H' S'→aO bU S S'→S.n≤b→b<S'.n→S'.ob b=.ce ((dR n).map ai) 0→k (.slice b 0 (dR n).length (dR n).length 1 true) H') :
  aT (aE H) 1 1 [(.str 2 29295)] λv18 kj=>aT (aE kj) 1 1 [(.str 3 6581857)] λv20 gZ=>aT (aE gZ) 6 1 [(.str 2 15677),(.str 2 15742),(.str 1 60),(.str 2 15676),(.str 1 62),(.str 2 15678)] λv22 qT=>aT (aE qT) 2 1 [(.str 1 43),(.str 1 45)] λv24 rI=>aT (aE rI) 3 1 [(.str 1 42),(.str 2 12079),(.str 1 37)] λv26 sH=>one v18 (one v20 (one v22 (one v24 (one v26 (aT (aE sH) 6 1 [v18,v20,v22,.ab,v24,v26] λv28 Cw=>bb 1 v28 (.int 0 (n:Int)) λv30=>ad v30 Cw λv31=>k v31 Cw))))):=by
 refine kD hM rfl (rl (dR 0)) λH1 S1 m1 n1 o1 k1=>?_;refine kD m1 rfl (rl (dR 1)) λH2 S2 m2 n2 o2 k2=>?_;refine kD m2 rfl (rl (dR 2)) λH3 S3 m3 n3 o3 k3=>?_;refine kD m3 rfl (rl (dR 4)) λH4 S4 m4 n4 o4 k4=>?_;refine kD m4 rfl (rl (dR 5)) λH5 S5 m5 n5 o5 k5=>?_;refine eY rfl (eY rfl (eY rfl (eY rfl (eY rfl ?_))));refine kD m5 rfl (λa ha=>?_) λH6 S6 m6 n6 o6 k6=>?_
 ·simp only[List.mem_cons,List.not_mem_nil,or_false]at ha;rcases ha with rfl|rfl|rfl|rfl|rfl|rfl<;>rfl
 have c6:aO bU S S6:=⟨by omega,λb hb _=>by rw[k6 b (by omega),k5 b (by omega),k4 b (by omega),k3 b (by omega),k2 b (by omega),k1 b hb]⟩
 have q1:S6.ob S.n=.ce ((dR 0).map ai) 0:=by rw[k6 _ (by omega),k5 _ (by omega),k4 _ (by omega),k3 _ (by omega),k2 _ (by omega)];exact o1
 have q2:S6.ob S1.n=.ce ((dR 1).map ai) 0:=by rw[k6 _ (by omega),k5 _ (by omega),k4 _ (by omega),k3 _ (by omega)];exact o2
 have q3:S6.ob S2.n=.ce ((dR 2).map ai) 0:=by rw[k6 _ (by omega),k5 _ (by omega),k4 _ (by omega)];exact o3
 have q4:S6.ob S3.n=.ce ((dR 4).map ai) 0:=by rw[k6 _ (by omega),k5 _ (by omega)];exact o4
 have q5:S6.ob S4.n=.ce ((dR 5).map ai) 0:=by rw[k6 _ (by omega)];exact o5
 refine ng (by omega) (by rcases hn with rfl|rfl|rfl|rfl|rfl<;>decide) ?_;rw[Int.toNat_natCast,Nat.zero_add,Nat.mul_one];rcases hn with rfl|rfl|rfl|rfl|rfl
 ·exact az m6 o6 (v:=.slice S.n 0 1 1 1 true) rfl (hk H6 S6 _ m6 c6 (by omega) (by omega) q1)
 ·exact az m6 o6 (v:=.slice S1.n 0 1 1 1 true) rfl (hk H6 S6 _ m6 c6 (by omega) (by omega) q2)
 ·exact az m6 o6 (v:=.slice S2.n 0 6 6 1 true) rfl (hk H6 S6 _ m6 c6 (by omega) (by omega) q3)
 ·exact az m6 o6 (v:=.slice S3.n 0 2 2 1 true) rfl (hk H6 S6 _ m6 c6 (by omega) (by omega) q4)
 ·exact az m6 o6 (v:=.slice S4.n 0 3 3 1 true) rfl (hk H6 S6 _ m6 c6 (by omega) (by omega) q5)
theorem ajC{n:Nat}(hn:xO n){k:AV→AH→Prop}(hM:Mem H S)(hk:∀H' S' b,Mem H' S'→aO bU S S'→S.n≤b→b<S'.n→S'.ob b=.ce ((gI n).map λc:Nat=>AV.int 0 (c:Int)) 0→k (.slice b 0 (gI n).length (gI n).length 1 true) H') :
  aT (aE H) 1 1 [(.int 0 (.ofNat 0))] λv1 H2=>aT (aE H2) 1 1 [(.int 0 (.ofNat 0))] λv3 H4=>aT (aE H4) 6 1 [(.int 0 (.ofNat 7)),(.int 0 (.ofNat 8)),(.int 0 (.ofNat 9)),(.int 0 (.ofNat 10)),(.int 0 (.ofNat 11)),(.int 0 (.ofNat 12))] λv5 H6=>aT (aE H6) 2 1 [(.int 0 (.ofNat 1)),(.int 0 (.ofNat 2))] λv7 H8=>aT (aE H8) 3 1 [(.int 0 (.ofNat 3)),(.int 0 (.ofNat 4)),(.int 0 (.ofNat 5))] λv9 cn=>one v1 (one v3 (one v5 (one v7 (one v9 (aT (aE cn) 6 1 [v1,v3,v5,.ab,v7,v9] λv11 bQ=>bb 1 v11 (.int 0 (n:Int)) λv13=>ad v13 bQ λv14=>k v14 bQ))))):=by
 refine kD hM rfl (th (gI 0)) λH1 S1 m1 n1 o1 k1=>?_;refine kD m1 rfl (th (gI 1)) λH2 S2 m2 n2 o2 k2=>?_;refine kD m2 rfl (th (gI 2)) λH3 S3 m3 n3 o3 k3=>?_;refine kD m3 rfl (th (gI 4)) λH4 S4 m4 n4 o4 k4=>?_;refine kD m4 rfl (th (gI 5)) λH5 S5 m5 n5 o5 k5=>?_;refine eY rfl (eY rfl (eY rfl (eY rfl (eY rfl ?_))));refine kD m5 rfl (λa ha=>?_) λH6 S6 m6 n6 o6 k6=>?_
 ·simp only[List.mem_cons,List.not_mem_nil,or_false]at ha;rcases ha with rfl|rfl|rfl|rfl|rfl|rfl<;>rfl
 have c6:aO bU S S6:=⟨by omega,λb hb _=>by rw[k6 b (by omega),k5 b (by omega),k4 b (by omega),k3 b (by omega),k2 b (by omega),k1 b hb]⟩
 have q1:S6.ob S.n=.ce ((gI 0).map λc:Nat=>AV.int 0 (c:Int)) 0:=by rw[k6 _ (by omega),k5 _ (by omega),k4 _ (by omega),k3 _ (by omega),k2 _ (by omega)];exact o1
 have q2:S6.ob S1.n=.ce ((gI 1).map λc:Nat=>AV.int 0 (c:Int)) 0:=by rw[k6 _ (by omega),k5 _ (by omega),k4 _ (by omega),k3 _ (by omega)];exact o2
 have q3:S6.ob S2.n=.ce ((gI 2).map λc:Nat=>AV.int 0 (c:Int)) 0:=by rw[k6 _ (by omega),k5 _ (by omega),k4 _ (by omega)];exact o3
 have q4:S6.ob S3.n=.ce ((gI 4).map λc:Nat=>AV.int 0 (c:Int)) 0:=by rw[k6 _ (by omega),k5 _ (by omega)];exact o4
 have q5:S6.ob S4.n=.ce ((gI 5).map λc:Nat=>AV.int 0 (c:Int)) 0:=by rw[k6 _ (by omega)];exact o5
 refine ng (by omega) (by rcases hn with rfl|rfl|rfl|rfl|rfl<;>decide) ?_;rw[Int.toNat_natCast,Nat.zero_add,Nat.mul_one];rcases hn with rfl|rfl|rfl|rfl|rfl
 ·exact az m6 o6 (v:=.slice S.n 0 1 1 1 true) rfl (hk H6 S6 _ m6 c6 (by omega) (by omega) q1)
 ·exact az m6 o6 (v:=.slice S1.n 0 1 1 1 true) rfl (hk H6 S6 _ m6 c6 (by omega) (by omega) q2)
 ·exact az m6 o6 (v:=.slice S2.n 0 6 6 1 true) rfl (hk H6 S6 _ m6 c6 (by omega) (by omega) q3)
 ·exact az m6 o6 (v:=.slice S3.n 0 2 2 1 true) rfl (hk H6 S6 _ m6 c6 (by omega) (by omega) q4)
 ·exact az m6 o6 (v:=.slice S4.n 0 3 3 1 true) rfl (hk H6 S6 _ m6 c6 (by omega) (by omega) q5)
theorem IM{S0:LS}{b1 b3 at_ kind op:Nat}{c cb:List AV}{e x:al}(F:lN C S0 S b1 b3 c e)(hM:Mem H S)(hbp:C.bp<S0.n)(hr:RE S (λb=>S0.n≤b∧b<S.n∧b≠b1∧b≠b3) cb x) :
  RE (S.push (.ce (c++cb) 0)) (λb=>S0.n≤b∧b<S.n+1∧b≠b1∧b≠b3) [.int 0 (kind:Int),.int 0 (at_:Int),.int 0 ((0:Nat):Int),ai [],.int 0 (op:Int),.slice S.n 0 2 2 7 true,.ab] (lK kind op at_ e x):=by
 obtain⟨Q,h1,h2⟩:=F.re;have HW:b1<S.n:=by obtain⟨z,hz,_⟩:=F.o1;exact hM.lt (by rw[hz];simp)
 have lt3:b3<S.n:=hM.lt (by rw[F.o3];simp);have n0:=F.x.1;refine RE.two (b:=S.n) (m:=0) ⟨by omega,by omega,by omega,by omega⟩ (LS.av _ _) (h1.go (λb hb=>LS.bS _ _ (h2 b hb).2.1) λb hb=>?_) (hr.go (λb hb=>LS.bS _ _ hb.2.1) λb hb=>?_)
 ·have:=h2 b hb;exact⟨this.1,by omega,this.2.2⟩
 ·exact⟨hb.1,by omega,hb.2.2⟩
theorem IN{γ β:Type}{x:γ}{y:β}{i:Nat}(hd:bj C S (an.ok x i)):bj C S (an.ok y i):=hd.as rfl rfl rfl (λe=>by cases e) λc i e=>by cases e
theorem lN.GB{S0:LS}{H0:AH}{b1 b3:Nat}{c:List AV}{e:al}{γ:Type}{r0:an γ}{r:an al}(h:lN C S0 S b1 b3 c e)(hM:Mem H S)(hM0:Mem H0 S0)(hd0:bj C S0 r0)(hd:bj C S r)(hP:aW C (bE C) dS K S0 r)(ha:Ag r e) :
  aQ 7 (.ptr b3 0) H λv1=>ah 7 (.ptr b1 0) v1 H λH2=>aQ 7 (.ptr b1 0) H2 λv3=>K (.ret v3) H2:=by
 obtain⟨z,hz,nz⟩:=h.o1;obtain⟨Q,h1,h2⟩:=h.re;refine aoq hM h.o3 h1.len h1.ones hz nz λH' m=>?_;exact hP.2 H' _ _ e m (h.x.set (.inr h.n1) _) (hd.qu hd0 hM0 h.n1 _) ⟨c,rfl,h1.go (λb hb=>LS.aq _ _ (h2 b hb).2.2.1) λb hb=>⟨(h2 b hb).1,(h2 b hb).2.1⟩⟩ ha
theorem aow{m n bo d:Nat}{γ:Type}{r:an γ}{v1 v8 v9:AV}{X:AV→Int→Int→AV→AV→AV→AV→AH→Prop}{S0:LS} :
  ∀(q j:Nat) (H:AH) (S:LS),j≤(dR n).length→(dR n).length-j<q→Mem H S→bj C S r→aO bU S0 S→S.ob bo=.ce ((dR n).map ai) 0→(∀t,t<j→pb C.T ((dR n)[t]?.getD []) r=false)→
  (∀H' S' w,Mem H' S'→aO bU S0 S'→bj C S' r→w≤(dR n).length→(∀t,t<w→pb C.T ((dR n)[t]?.getD []) r=false)→(w<(dR n).length→pb C.T ((dR n)[w]?.getD []) r=true)→CI (eF (s10 m)) K X (.ptr C.bp 0) (n:Int) (d:Int) v1 (.slice bo 0 (dR n).length (dR n).length 1 true) v8 v9 (w:Int) H')→
  vE (eF (s10 m)) K X q (.ptr C.bp 0) (n:Int) (d:Int) v1 (.slice bo 0 (dR n).length (dR n).length 1 true) v8 v9 (j:Int) H:=by
 intro q
 induction q with
 |zero=>intro j H S _ h;omega
 |succ q ih=>
  intro j H S hj hq hM hd hc ho hb hk;have rb:(eF (s10 m)).2.1=f41:=rfl;show CJ (eF (s10 m)) K (vE (eF (s10 m)) K X q) (CI (eF (s10 m)) K X) (.ptr C.bp 0) (n:Int) (d:Int) v1 (.slice bo 0 (dR n).length (dR n).length 1 true) v8 v9 (j:Int) H;unfold CJ;rw[rb];rw[BG,aK,cz];refine bR (λg=>?_) (λg=>?_)
  ·have hjl:j<(dR n).length:=by omega
   refine ng (by omega) (by omega) ?_;rw[Int.toNat_natCast,Nat.zero_add,Nat.mul_one];have e1:(dR n)[j]?.getD []=(dR n)[j]:=by rw[List.getElem?_eq_getElem hjl];rfl
   refine az hM ho (v:=ai (dR n)[j]) (by rw[List.getElem?_map,List.getElem?_eq_getElem hjl];rfl) ?_;refine rX (aov _ (List.getElem_mem _)) hM hd λH2 S2 m2 c2 d2=>?_;rw[aj,aN];have o2:=c2.ob hM ho λq=>q;cases hi:pb C.T (dR n)[j] r with
   |true=>
    simp only[Bool.not_true,aI];exact hk H2 S2 j m2 (hc.trans c2) d2 hj hb λ_=>by rw[e1];exact hi
   |false=>
    simp only[Bool.not_false,aH];rw[dh,dX];have hle:=aeu (n:=n);refine w0 (by omega) (by omega) ?_;exact ih (j+1) H2 S2 (by omega) (by omega) m2 d2 (hc.trans c2) o2 (λt ht=>by
     by_cases g:t=j
     ·rw[g,e1];exact hi
     ·exact hb t (by omega)) hk
  ·exact hk H S j hM hc hd hj hb λh=>absurd h (by omega)
def PH(n:Nat):Nat:=if n=0 then 16 else if n=1 then 15 else 14
structure HX(C:Ctx)(n:Nat)(p:Nat→Nat→Nat→an al)(gL:Nat→al→Nat→Nat→an al):Prop where
 zero:∀e i d,gL 0 e i d=.aS
 stop:∀k e i d,(∀t,t<(dR n).length→isA C.T ((dR n)[t]?.getD []) i=false)→gL (k+1) e i d=.ok e i
 go:∀k e i d w,w<(dR n).length→(∀t,t<w→isA C.T ((dR n)[t]?.getD []) i=false)→isA C.T ((dR n)[w]?.getD []) i=true→gL (k+1) e i d=(p k (i+1) d).bind λb j=>gL k (lK (PH n) ((gI n)[w]?.getD 0) (aB C.T i) e b) j d
theorem NF{m n:Nat}(hn:xO n){p:Nat→Nat→Nat→an al}{gL:Nat→al→Nat→Nat→an al}(hp:∀k,2*k+5≤m→mr C (λd H K=>(s10 m).2.2.2.1 (.ptr C.bp 0) ((n+1:Nat):Int) (d:Int) H K) (p k))(hL:HX C n p gL)
  {S0:LS}{H0:AH}{γ0:Type}{r0:an γ0}{b1 b3 bo bc:Nat}(hd:d≤200) (hM0:Mem H0 S0) (hd0:bj C S0 r0) (iO:S0.n≤bo) (hbc:S0.n≤bc) (NG:bo≠b3) (nc3:bc≠b3)
  {X:AV→Int→Int→AV→AV→AV→AV→AH→Prop}{k:Nat}(hk:2*k+4≤m+1)
  (hrec:∀k',k=k'+1→∀(e:al) (c:List AV) (H:AH) (S:LS){γ:Type}(r:an γ),Mem H S→bj C S r→lN C S0 S b1 b3 c e→S.ob bo=.ce ((dR n).map ai) 0→S.ob bc=.ce ((gI n).map λc:Nat=>AV.int 0 (c:Int)) 0→aW C (bE C) dS K S0 (r.bind λ_ i=>gL k' e i d)→
   X (.ptr C.bp 0) (n:Int) (d:Int) (.ptr b1 0) (.slice bo 0 (dR n).length (dR n).length 1 true) (.slice bc 0 (gI n).length (gI n).length 1 true) (.ptr b3 0) H)
  (e:al) (c:List AV) (H:AH) (S:LS){γ:Type}(r:an γ) (hM:Mem H S) (hs:bj C S r) (hF:lN C S0 S b1 b3 c e) (ho:S.ob bo=.ce ((dR n).map ai) 0) (hc:S.ob bc=.ce ((gI n).map λc:Nat=>AV.int 0 (c:Int)) 0) (hP:aW C (bE C) dS K S0 (r.bind λ_ i=>gL k e i d)) :
  Ky (eF (s10 m)) K X (.ptr C.bp 0) (n:Int) (d:Int) (.ptr b1 0) (.slice bo 0 (dR n).length (dR n).length 1 true) (.slice bc 0 (gI n).length (gI n).length 1 true) (.ptr b3 0) H:=by
 have ra:(eF (s10 m)).1=f39:=rfl;have rc:(eF (s10 m)).2.2.1=(s10 m).2.2.2.1:=rfl;have hbp:=hd0.nu hM0;have fk:∀b,S0.n≤b→¬bE C b:=λb hb q=>by have q:b=C.bp:=q;omega
 have hn6:n≤6:=by unfold xO at hn;omega
 show CK (eF (s10 m)) K (vE (eF (s10 m)) K X G.NL) (.ptr C.bp 0) (n:Int) (d:Int) (.ptr b1 0) (.slice bo 0 (dR n).length (dR n).length 1 true) (.slice bc 0 (gI n).length (gI n).length 1 true) (.ptr b3 0) H;unfold CK;have gu:G.NL=1000000:=rfl;generalize G.NL=eW at gu ⊢;have hle:=aeu (n:=n);have e00:Int.ofNat 0=((0:Nat):Int):=rfl;rw[e00];refine aow eW 0 H S (Nat.zero_le _) (by omega) hM hs (aO.refl bU S) ho (λt ht=>absurd ht (by omega)) λH1 S1 w m1 c1 d1 hw hbef hat=>?_;have F1:=hF.keep hM hbp c1.no;show CH (eF (s10 m)) K (Kx (eF (s10 m)) K X) (.ptr C.bp 0) (n:Int) (d:Int) (.ptr b1 0) (.slice bo 0 (dR n).length (dR n).length 1 true) (.slice bc 0 (gI n).length (gI n).length 1 true) (.ptr b3 0) (w:Int) H1;unfold CH;rw[BG,aK,aZ,ra];by_cases g:w=(dR n).length
 ·rw[decide_eq_true (by omega),aH];have hst:bj C S1 (r.bind λ_ i=>gL k e i d)∧Ag (r.bind λ_ i=>gL k e i d) e:=by
   cases r with
   |aS=>exact absurd rfl hs.no
   |err cc i=>exact⟨rj d1 rfl,λ_ _ q=>(by cases q)⟩
   |ok a i=>
    cases k with
    |zero=>exact absurd (hL.zero e i d) hP.1
    |succ k=>
     have es:gL (k+1) e i d=.ok e i:=hL.stop k e i d λt ht=>hbef t (by omega);have eb:((an.ok a i).bind λ_ i=>gL (k+1) e i d)=.ok e i:=es;rw[eb];exact⟨IN d1,λ_ _ q=>(by cases q;rfl)⟩
  exact lN.GB F1 m1 hM0 hd0 hst.1 hP hst.2
 ·have hwl:w<(dR n).length:=by omega
  obtain⟨a,i,rfl,hi⟩:=AY (hat hwl);rw[decide_eq_false (by omega),aI];refine lf m1 d1 ?_;rw[aj,aK];have hlt:=di C.ok hi;have hfew:=C.few;simp only[bV,aM,Nat.zero_add];refine az m1 d1.ob (v:=.int 0 (i:Int)) rfl ?_;simp only[aK,dh,dX];refine w0 (by omega) (by omega) ?_;refine bJ m1 d1.ob (by omega) (by show 1<4;omega) rfl λH2 m2=>?_;have d2:=d1.ok () hlt;have c2:aO (bE C) S1 (S1.set C.bp (.ce [C.vT,.int 0 ((i+1:Nat):Int),.int 0 0,.int 0 0] 0)):=aO.G8 (aO.refl _ _) _;have F2:=F1.keep m1 hbp c2;have m2:Mem H2 (S1.set C.bp (.ce [C.vT,.int 0 ((i+1:Nat):Int),.int 0 0,.int 0 0] 0)):=m2;have o1:=c1.ob hM ho λq=>q;have oc1:=c1.ob hM hc λq=>q;have o2:=c2.ob m1 o1 (fk _ iO);have oc2:=c2.ob m1 oc1 (fk _ hbc);revert F2 m2 d2 o2 oc2;generalize S1.set C.bp (.ce [C.vT,.int 0 ((i+1:Nat):Int),.int 0 0,.int 0 0] 0)=S2;intro d2 F2 m2 o2 oc2;cases k with
  |zero=>exact absurd (hL.zero e i d) hP.1
  |succ k=>
  have eg:=hL.go k e i d w hwl (λt ht=>hbef t ht) hi;have hP:aW C (bE C) dS K S0 (gL (k+1) e i d):=hP;rw[eg]at hP;show CG (eF (s10 m)) K (CF (eF (s10 m)) K X) (.ptr C.bp 0) (n:Int) (d:Int) (.ptr b1 0) (.slice bo 0 (dR n).length (dR n).length 1 true) (.slice bc 0 (gI n).length (gI n).length 1 true) (.ptr b3 0) (w:Int) (aB C.T i:Int) H2;unfold CG;rw[rc,dh,dX];refine w0 (by omega) (by omega) ?_;refine hp k (by omega) hd m2 d2 (aW.call (eO:=dS) hP λx H3 S3 v m3 c3 d3 ⟨cb,hv,hR⟩ hP2=>?_);subst hv;rw[jy];have F3:=F2.keep m2 hbp c3;have o3:=c3.ob m2 o2 (fk _ iO);have oc3:=c3.ob m2 oc2 (fk _ hbc);have lt2:b1<S2.n∧b3<S2.n:=⟨by obtain⟨z,hz,_⟩:=F2.o1;exact m2.lt (by rw[hz];simp),m2.lt (by rw[F2.o3];simp)⟩
  have n20:=F2.x.1;refine eT (dp m3 fg λH4 m4=>?_);refine km m4 (LS.av _ _) rfl hR.len hR.ones λH5 m5=>?_;have c5:aO bU S3 ((S3.push (.ce z7 0)).set S3.n (.ce cb 0)):=((aO.refl _ _).push _).set (.inr (Nat.le_refl _)) _;have F5:=F3.keep m3 hbp c5.no;have d5:=d3.im m3 c5;have o5:=c5.ob m3 o3 λq=>q;have oc5:=c5.ob m3 oc3 λq=>q;have ob5:((S3.push (.ce z7 0)).set S3.n (.ce cb 0)).ob S3.n=.ce cb 0:=LS.ay _ _ _;have R5:RE ((S3.push (.ce z7 0)).set S3.n (.ce cb 0)) (λb=>S0.n≤b∧b<((S3.push (.ce z7 0)).set S3.n (.ce cb 0)).n∧b≠b1∧b≠b3) cb x:=hR.go (λb hb=>c5.2 b hb.2 λq=>q) λb hb=>⟨by have:=hb.1;omega,Nat.lt_of_lt_of_le hb.2 c5.1,by have:=hb.1;omega,by have:=hb.1;omega⟩
  have m5:Mem H5 ((S3.push (.ce z7 0)).set S3.n (.ce cb 0)):=m5;revert F5 d5 o5 oc5 ob5 R5 m5;generalize (S3.push (.ce z7 0)).set S3.n (.ce cb 0)=S5;intro F5 d5 o5 oc5 ob5 R5 m5;have key:∀kd:Nat,kd=PH n→CC (eF (s10 m)) K X (.ptr C.bp 0) (n:Int) (d:Int) (.ptr b1 0) (.slice bo 0 (dR n).length (dR n).length 1 true) (.slice bc 0 (gI n).length (gI n).length 1 true) (.ptr b3 0) (w:Int) (aB C.T i:Int) (.ptr S3.n 0) (kd:Int) H5:=by
   intro kd hkd;subst hkd;show CA (eF (s10 m)) K X (.ptr C.bp 0) (n:Int) (d:Int) (.ptr b1 0) (.slice bo 0 (dR n).length (dR n).length 1 true) (.slice bc 0 (gI n).length (gI n).length 1 true) (.ptr b3 0) (w:Int) (aB C.T i:Int) (.ptr S3.n 0) (PH n:Int) H5;unfold CA;have hlc:=ajB (n:=n);refine ng (by omega) (by omega) ?_;rw[Int.toNat_natCast,Nat.zero_add,Nat.mul_one];have hwc:w<(gI n).length:=by omega
   refine az m5 oc5 (v:=.int 0 (((gI n)[w]?.getD 0:Nat):Int)) (by rw[List.getElem?_map,List.getElem?_eq_getElem hwc];rfl) ?_;rw[aK];refine gH m5 F5.o3 F5.len ?_;refine gH m5 ob5 hR.len ?_;refine m5.cP ?_;simp only[iN];refine gq F5.len (gq hR.len ?_);rw[zU F5.len hR.len rfl];have NH:∀a∈c,a.one=true:=by obtain⟨Q,h1,_⟩:=F5.re;exact h1.ones
   refine dj m5 (by rw[List.length_append,F5.len,hR.len]) (λa h=>?_) λH6 m6=>cG (ry (by rw[m6.n,m5.n];rfl)) ?_
   ·rcases List.mem_append.1 h with g|g
    ·exact NH a g
    ·exact hR.ones a g
   refine eY rfl ?_;have c6:aO bU S5 (S5.push (.ce (c++cb) 0)):=(aO.refl _ _).push _;have F6:=F5.keep m5 hbp c6.no;have hnew:=IM (at_:=aB C.T i) (kind:=PH n) (op:=(gI n)[w]?.getD 0) F5 m5 hbp R5;refine km m6 F6.o3 F6.len hnew.len hnew.ones λH7 m7=>?_;have F7:=F6.NC hnew λb hb=>hb;refine hrec k rfl _ _ H7 _ _ m7 ((d5.im m5 c6).qu hd0 hM0 hF.n3 _) F7 ?_ ?_ hP2
   ·rw[LS.aq _ _ NG];exact c6.ob m5 o5 λq=>q
   ·rw[LS.aq _ _ nc3];exact c6.ob m5 oc5 λq=>q
  have e0:Int.ofNat 0=((0:Nat):Int):=rfl;have e1:Int.ofNat 1=((1:Nat):Int):=rfl;have k7:∀kd:Nat,(if n=1 then 15 else kd)=PH n→CF (eF (s10 m)) K X (.ptr C.bp 0) (n:Int) (d:Int) (.ptr b1 0) (.slice bo 0 (dR n).length (dR n).length 1 true) (.slice bc 0 (gI n).length (gI n).length 1 true) (.ptr b3 0) (w:Int) (aB C.T i:Int) (.ptr S3.n 0) (kd:Int) H5:=by
   intro kd hkd;show CE (eF (s10 m)) K (CC (eF (s10 m)) K X) (.ptr C.bp 0) (n:Int) (d:Int) (.ptr b1 0) (.slice bo 0 (dR n).length (dR n).length 1 true) (.slice bc 0 (gI n).length (gI n).length 1 true) (.ptr b3 0) (w:Int) (aB C.T i:Int) (.ptr S3.n 0) (kd:Int) H5;unfold CE;rw[aZ,e1];by_cases g1:n=1
   ·rw[decide_eq_true (by omega),aH];exact key 15 (by rw[if_pos g1]at hkd;exact hkd)
   ·rw[decide_eq_false (by omega),aI];exact key kd (by rw[if_neg g1]at hkd;exact hkd)
  rw[aZ,e0];by_cases g0:n=0
  ·rw[decide_eq_true (by omega),aH];exact k7 16 (by subst g0;rfl)
  ·rw[decide_eq_false (by omega),aI];exact k7 14 (by unfold PH;rw[if_neg g0])
theorem afZ{m n:Nat}(hn:xO n){p:Nat→Nat→Nat→an al}{gL:Nat→al→Nat→Nat→an al}(hp:∀k,2*k+5≤m→mr C (λd H K=>(s10 m).2.2.2.1 (.ptr C.bp 0) ((n+1:Nat):Int) (d:Int) H K) (p k))(hL:HX C n p gL)
  {S0:LS}{H0:AH}{γ0:Type}{r0:an γ0}{b1 b3 bo bc:Nat}(hd:d≤200) (hM0:Mem H0 S0) (hd0:bj C S0 r0) (iO:S0.n≤bo) (hbc:S0.n≤bc) (NG:bo≠b3) (nc3:bc≠b3) :
  ∀k,2*k+4≤m+1→∀(q:Nat) (e:al) (c:List AV) (H:AH) (S:LS){γ:Type}(r:an γ),k<q→Mem H S→bj C S r→lN C S0 S b1 b3 c e→S.ob bo=.ce ((dR n).map ai) 0→S.ob bc=.ce ((gI n).map λc:Nat=>AV.int 0 (c:Int)) 0→aW C (bE C) dS K S0 (r.bind λ_ i=>gL k e i d)→
   CL (eF (s10 m)) K q (.ptr C.bp 0) (n:Int) (d:Int) (.ptr b1 0) (.slice bo 0 (dR n).length (dR n).length 1 true) (.slice bc 0 (gI n).length (gI n).length 1 true) (.ptr b3 0) H:=by
 intro k
 induction k with
 |zero=>
  intro hk q e c H S γ r hq hM hs hF ho hc hP;obtain⟨q,rfl⟩:∃p,q=p+1:=⟨q-1,by omega⟩
  exact NF hn hp hL hd hM0 hd0 iO hbc NG nc3 hk (λk' h=>absurd h (by omega)) e c H S r hM hs hF ho hc hP
 |succ k ih=>
  intro hk q e c H S γ r hq hM hs hF ho hc hP;obtain⟨q,rfl⟩:∃p,q=p+1:=⟨q-1,by omega⟩
  exact NF hn hp hL hd hM0 hd0 iO hbc NG nc3 hk (λk' h e c H S γ r hM hs hF ho hc hP=>by
   obtain rfl:k=k':=by omega
   exact ih (by omega) q e c H S r (by omega) hM hs hF ho hc hP) e c H S r hM hs hF ho hc hP
theorem x103{m n:Nat}(hm:m≤1000000)(hn:xO n){p g:Nat→Nat→Nat→an al}{gL:Nat→al→Nat→Nat→an al}(hp:∀k,2*k+5≤m→mr C (λd H K=>(s10 m).2.2.2.1 (.ptr C.bp 0) ((n+1:Nat):Int) (d:Int) H K) (p k))(hL:HX C n p gL)
  (h0:∀i d,g 0 i d=.aS) (h1:∀k i d,g (k+1) i d=(p k i d).bind λe j=>gL k e j d):∀k,2*k+4≤m+1→mr C (λd H K=>(s10 (m+1)).2.2.2.1 (.ptr C.bp 0) (n:Int) (d:Int) H K) (g k):=by
 intro k hk K H S i d γ x hd hM hs hP;cases k with
 |zero=>exact absurd (h0 i d) hP.1
 |succ k=>
 rw[h1]at hP;have e:(s10 (m+1)).2.2.2.1=CM (eF (s10 m)):=by rw[Ab]
 show(s10 (m+1)).2.2.2.1 (.ptr C.bp 0) (n:Int) (d:Int) H K;rw[e];have rc:(eF (s10 m)).2.2.1=(s10 m).2.2.2.1:=rfl;have gu:G.NL=1000000:=rfl;have hn6:n≤5∧n≠3:=by unfold xO at hn;omega
 unfold CM Vs sL;rw[jy];refine eT (dp hM fg λH1 m1=>?_);have c1:aO bU S (S.push (.ce z7 0)):=(aO.refl _ _).push _;have d1:=hs.im hM c1;have o1:(S.push (.ce z7 0)).ob S.n=.ce z7 0:=LS.av _ _;have hbp:=hs.nu hM;have fk:∀b,S.n≤b→¬bE C b:=λb hb q=>by have q:b=C.bp:=q;omega
 have e0:Int.ofNat 0=((0:Nat):Int):=rfl;have e3:Int.ofNat 3=((3:Nat):Int):=rfl;have e6:Int.ofNat 6=((6:Nat):Int):=rfl;refine iq m1 d1 ?_;have rcd:(an.ok x i).cd=0:=rfl;rw[rcd,aZ,aZ,aZ,e0,decide_eq_true rfl,e3,e6,decide_eq_false (p:=(n:Int)=((3:Nat):Int)) (by omega),decide_eq_false (p:=(n:Int)=((6:Nat):Int)) (by omega)];simp only[Bool.not_true,aI];refine apY hn m1 λH2 S2 bo m2 c2 iO asv o2=>?_;have iO:S.n+1≤bo:=iO;unfold yy KB;refine ajC hn m2 λH3 S3 bc m3 c3 hbc asw o3=>?_;rw[rc,dh,dX];refine w0 (by omega) (by omega) ?_;have c13:=(c1.trans c2).trans c3;have d3:=hs.im hM c13;have q1:=(c2.trans c3).ob m1 o1 λq=>q;have q2:=c3.ob m2 o2 λq=>q;refine hp k (by omega) hd m3 d3 (aW.call (eO:=dS) hP λy H4 S4 v m4 c4 d4 ⟨cy,hv,hR⟩ hP2=>?_);subst hv;have n12:S.n+1≤S2.n:=c2.1;have n23:=c3.1;refine eT ?_;rw[jy];refine dp m4 fg λH5 m5=>?_;refine km m5 (LS.av _ _) rfl hR.len hR.ones λH6 m6=>?_;have F:=lN.mk0 (C:=C) hbp rfl (c13.no.trans c4) m4 (c4.ob m3 q1 (fk _ (Nat.le_refl _))) (hR.go (λ_ _=>rfl) λb hb=>⟨by have:=hb.1;omega,hb.2⟩);have c6:aO bU S4 ((S4.push (.ce z7 0)).set S4.n (.ce cy 0)):=((aO.refl _ _).push _).set (.inr (Nat.le_refl _)) _;unfold KA Kz;have n34:=c4.1;exact afZ hn hp hL hd hM hs (by omega) (by omega) (by omega) (by omega) k (by omega) G.NL y cy H6 _ _ (by omega) m6 (d4.im m4 c6) F (c6.ob m4 (c4.ob m3 q2 (fk _ (by omega))) λq=>q) (c6.ob m4 (c4.ob m3 o3 (fk _ (by omega))) λq=>q) hP2
end
end Go.Proofs.YtcedghechlgecaaDoor
namespace Go.X
theorem xD{T:List Tok}{i:Nat}:∀{l:List (List Nat)}{f:Nat},(∀t,t<l.length→isA T (l[t]?.getD []) i=false)→nt T i f l=0
 |[],f,h=>rfl
 |s::l,f,h=>by
  have h0:isA T s i=false:=h 0 (by simp);unfold nt;rw[h0];exact xD λt ht=>by have:=h (t+1) (by simp;omega);simpa using this
theorem Gc{T:List Tok}{i:Nat}:∀{l:List (List Nat)}{f w:Nat},w<l.length→(∀t,t<w→isA T (l[t]?.getD []) i=false)→isA T (l[w]?.getD []) i=true→nt T i f l=f+w
 |[],f,w,h,_,_=>by simp at h
 |s::l,f,0,_,_,h=>by
  have h0:isA T s i=true:=h;unfold nt;rw[h0];rfl
 |s::l,f,w+1,hw,hb,h=>by
  have h0:isA T s i=false:=hb 0 (by omega);unfold nt;rw[h0];have:=Gc (l:=l) (f:=f+1) (w:=w) (by simp at hw;omega) (λt ht=>by have:=hb (t+1) (by omega);simpa using this) (by simpa using h);simp only[Bool.false_eq_true,if_false];rw[this];omega
theorem bj.ret{C:Ctx}{S:LS}{α β:Type}{r:an α}(h:bj C S r)(e:β):bj C S (r.bind λ_ j=>.ok e j):=by
 cases r with
 |ok a i=>exact h.as rfl rfl rfl (λe=>by cases e) λc i e=>by cases e
 |err c i=>exact h.as rfl rfl rfl (λe=>by cases e) λc i e=>h.cd c i (by cases e;rfl)
 |aS=>exact absurd rfl h.no
theorem pT{α β:Type}{r:an α}{e:β}:Ag (r.bind λ_ j=>.ok e j) e:=λa j h=>by
 cases r with
 |ok a i=>cases h;rfl
 |err c i=>cases h
 |aS=>cases h
theorem Su{β:Type}{e:β}{i:Nat}:Ag (.ok e i) e:=λ_ _ h=>by cases h;rfl
theorem wJ{β:Type}{e:β}{c i:Nat}:Ag (.err c i) e:=λ_ _ h=>by cases h
end Go.X
namespace Go.Proofs.YtcedghechlgecaaDoor
open Go Go.X Go.Proofs.YtcedghechlgecaaDoor.G
section
variable {H:AH}{S:LS}{K:KF}{C:Ctx}{i d:Nat}
theorem aq8:HX C 0 (jH C.T) (fQ C.T) where
 zero e i d:=by simp only[fQ]
 stop k e i d h:=by
  have h0:isA C.T [111,114] i=false:=h 0 (by decide);simp only[fQ];rw[h0];rfl
 go k e i d w hw hb h:=by
  obtain rfl:w=0:=by have:(dR 0).length=1:=rfl;omega
  have h0:isA C.T [111,114] i=true:=h;simp only[fQ];rw[h0];rfl
theorem aq9:HX C 1 (jI C.T) (ja C.T) where
 zero e i d:=by simp only[ja]
 stop k e i d h:=by
  have h0:isA C.T [97,110,100] i=false:=h 0 (by decide);simp only[ja];rw[h0];rfl
 go k e i d w hw hb h:=by
  obtain rfl:w=0:=by have:(dR 1).length=1:=rfl;omega
  have h0:isA C.T [97,110,100] i=true:=h;simp only[ja];rw[h0];rfl
theorem ara:∀w,w<6→(gI 2)[w]?.getD 0=7+w:=by decide
theorem arb:∀w,w<2→(gI 4)[w]?.getD 0=1+w:=by decide
theorem arc:∀w,w<3→(gI 5)[w]?.getD 0=3+w:=by decide
theorem ard:HX C 2 (gC C.T) (jb C.T) where
 zero e i d:=by simp only[jb]
 stop k e i d h:=by
  have h0:nt C.T i 7 tests=0:=xD h;simp only[jb];rw[h0];rfl
 go k e i d w hw hb h:=by
  have h0:nt C.T i 7 tests=7+w:=Gc hw hb h;have e1:=ara w hw;have h1:nt C.T i 7 tests≠0:=by omega
  simp only[jb];rw[if_neg h1,e1,h0];rfl
theorem are:HX C 4 (jJ C.T) (kh C.T) where
 zero e i d:=by simp only[kh]
 stop k e i d h:=by
  have h0:nt C.T i 1 sums=0:=xD h;simp only[kh];rw[h0];rfl
 go k e i d w hw hb h:=by
  have h0:nt C.T i 1 sums=1+w:=Gc hw hb h;have e1:=arb w hw;have h1:nt C.T i 1 sums≠0:=by omega
  simp only[kh];rw[if_neg h1,e1,h0];rfl
theorem arf:HX C 5 (fz C.T) (jc C.T) where
 zero e i d:=by simp only[jc]
 stop k e i d h:=by
  have h0:nt C.T i 3 terms=0:=xD h;simp only[jc];rw[h0];rfl
 go k e i d w hw hb h:=by
  have h0:nt C.T i 3 terms=3+w:=Gc hw hb h;have e1:=arc w hw;have h1:nt C.T i 3 terms≠0:=by omega
  simp only[jc];rw[if_neg h1,e1,h0];rfl
theorem aox{m:Nat}(hm:m≤1000000)(O:gr C m):∀k,2*k+4≤m+1→mr C (λd H K=>(s10 (m+1)).2.2.2.1 (.ptr C.bp 0) ((0:Nat):Int) (d:Int) H K) (gB C.T k):=
 x103 hm (by unfold xO;omega) (λk hk=>O.lv1 k (by omega)) aq8 (λi d=>by simp only[gB]) λk i d=>by simp only[gB]
theorem aoy{m:Nat}(hm:m≤1000000)(O:gr C m):∀k,2*k+4≤m+1→mr C (λd H K=>(s10 (m+1)).2.2.2.1 (.ptr C.bp 0) ((1:Nat):Int) (d:Int) H K) (jH C.T k):=
 x103 hm (by unfold xO;omega) (λk hk=>O.Ga k (by omega)) aq9 (λi d=>by simp only[jH]) λk i d=>by simp only[jH]
theorem aoz{m:Nat}(hm:m≤1000000)(O:gr C m):∀k,2*k+4≤m+1→mr C (λd H K=>(s10 (m+1)).2.2.2.1 (.ptr C.bp 0) ((2:Nat):Int) (d:Int) H K) (jI C.T k):=
 x103 hm (by unfold xO;omega) (λk hk=>O.Gb k (by omega)) ard (λi d=>by simp only[jI]) λk i d=>by simp only[jI]
theorem aoA{m:Nat}(hm:m≤1000000)(O:gr C m):∀k,2*k+4≤m+1→mr C (λd H K=>(s10 (m+1)).2.2.2.1 (.ptr C.bp 0) ((4:Nat):Int) (d:Int) H K) (mF C.T k):=
 x103 hm (by unfold xO;omega) (λk hk=>O.lv5 k (by omega)) are (λi d=>by simp only[mF]) λk i d=>by simp only[mF]
theorem aoB{m:Nat}(hm:m≤1000000)(O:gr C m):∀k,2*k+4≤m+1→mr C (λd H K=>(s10 (m+1)).2.2.2.1 (.ptr C.bp 0) ((5:Nat):Int) (d:Int) H K) (jJ C.T k):=
 x103 hm (by unfold xO;omega) (λk hk=>O.Ar k (by omega)) arf (λi d=>by simp only[jJ]) λk i d=>by simp only[jJ]
theorem Ac{H3:AH}{S3:LS}{γ:Type}{r:an γ}{r':an al}{z:List AV}{v:AV}{e:al}{Q:Nat→Prop}(hM:Mem H S)(hs:bj C S r)(hP:aW C (bE C) dS K S r')(m3:Mem H3 S3)(c3:aO (bE C) S S3)(d3:bj C S3 r')(o3:S3.ob S.n=.ce z 0)(hz:z.length=7)
  (hv:dS S3 Q v e) (hQ:∀b,Q b→S.n<b∧b<S3.n) (ha:Ag r' e):ah 7 (.ptr S.n 0) v H3 λcn=>aQ 7 (.ptr S.n 0) cn λv11=>K (.ret v11) cn:=by
 obtain⟨c,hv,hR⟩:=hv;subst hv;refine km m3 o3 hz hR.len hR.ones λH4 m4=>?_;refine gH m4 (LS.ay _ _ _) hR.len ?_;exact hP.2 H4 _ _ e m4 (c3.set (.inr (Nat.le_refl _)) _) (d3.qu hs hM (Nat.le_refl _) _) ⟨c,rfl,hR.go (λb hb=>LS.aq _ _ (by have:=(hQ b hb).1;omega)) λb hb=>⟨by have:=(hQ b hb).1;omega,(hQ b hb).2⟩⟩ ha
theorem PI{m n:Nat}{p:Nat→Nat→an al}(hn:n=3∨n=6)(h3:n=3→mr C (λd H K=>(s10 m).2.2.2.2.2.2.1 (.ptr C.bp 0) (d:Int) H K) p)(h6:n=6→mr C (λd H K=>(s10 m).2.2.2.2.2.2.2.1 (.ptr C.bp 0) (d:Int) H K) p) :
  mr C (λd H K=>(s10 (m+1)).2.2.2.1 (.ptr C.bp 0) (n:Int) (d:Int) H K) p:=by
 intro K H S i d γ x hd hM hs hP;have rd:(eF (s10 m)).2.2.2.1=(s10 m).2.2.2.2.2.2.1:=rfl;have re:(eF (s10 m)).2.2.2.2=(s10 m).2.2.2.2.2.2.2.1:=rfl;show sL (eF (s10 m)) K (yy (eF (s10 m)) K) (.ptr C.bp 0) (n:Int) (d:Int) H;unfold sL;rw[jy,rd,re];refine eT (dp hM fg λH1 m1=>?_);have c1:aO bU S (S.push (.ce z7 0)):=(aO.refl _ _).push _;have d1:=hs.im hM c1;have o1:(S.push (.ce z7 0)).ob S.n=.ce z7 0:=LS.av _ _;have hbp:=hs.nu hM;have fk:¬bE C S.n:=λq=>by have q:S.n=C.bp:=q;omega
 have e0:Int.ofNat 0=((0:Nat):Int):=rfl;have e3:Int.ofNat 3=((3:Nat):Int):=rfl;have e6:Int.ofNat 6=((6:Nat):Int):=rfl;refine iq m1 d1 ?_;have rcd:(an.ok x i).cd=0:=rfl;rw[rcd,aZ,aZ,aZ,e0,decide_eq_true rfl,e3,e6];simp only[Bool.not_true,aI];rcases hn with rfl|rfl
 ·rw[decide_eq_true rfl,aH];refine h3 rfl hd m1 d1 (aW.tail (eO:=dS) hP λe H2 S2 v m2 c2 d2 hv hfin=>?_);obtain⟨c,hv,hR⟩:=hv;subst hv;refine km m2 (c2.ob m1 o1 fk) rfl hR.len hR.ones λH4 m4=>?_;refine gH m4 (LS.ay _ _ _) hR.len ?_;exact hfin H4 _ _ m4 ((c1.no.trans c2).set (.inr (Nat.le_refl _)) _) (d2.qu hs hM (Nat.le_refl _) _) ⟨c,rfl,hR.go (λb hb=>LS.aq _ _ (by have hb:S.n+1≤b:=hb.1;omega)) λb hb=>⟨by have hb:S.n+1≤b:=hb.1;omega,hb.2⟩⟩
 ·rw[decide_eq_false (by omega),aI,decide_eq_true rfl,aH];refine h6 rfl hd m1 d1 (aW.tail (eO:=dS) hP λe H2 S2 v m2 c2 d2 hv hfin=>?_);obtain⟨c,hv,hR⟩:=hv;subst hv;refine km m2 (c2.ob m1 o1 fk) rfl hR.len hR.ones λH4 m4=>?_;refine gH m4 (LS.ay _ _ _) hR.len ?_;exact hfin H4 _ _ m4 ((c1.no.trans c2).set (.inr (Nat.le_refl _)) _) (d2.qu hs hM (Nat.le_refl _) _) ⟨c,rfl,hR.go (λb hb=>LS.aq _ _ (by have hb:S.n+1≤b:=hb.1;omega)) λb hb=>⟨by have hb:S.n+1≤b:=hb.1;omega,hb.2⟩⟩
theorem arh{m:Nat}(O:gr C m):∀k,2*k+4≤m+1→mr C (λd H K=>(s10 (m+1)).2.2.2.2.2.2.1 (.ptr C.bp 0) (d:Int) H K) (gC C.T k):=by
 intro k hk K H S i d γ x hd hM hs hP;cases k with
 |zero=>exact absurd (show gC C.T 0 i d=.aS by simp only[gC]) hP.1
 |succ k=>
 have ra:(nj (s10 m)).1=f37:=rfl;have rb:(nj (s10 m)).2.1=f39:=rfl;have rc:(nj (s10 m)).2.2.1=f40:=rfl;have rd:(nj (s10 m)).2.2.2.1=(s10 m).2.2.2.1:=rfl;have re:(nj (s10 m)).2.2.2.2=(s10 m).2.2.2.2.2.2.1:=rfl;show Dc (nj (s10 m)) K (yC (nj (s10 m)) K) (.ptr C.bp 0) (d:Int) H;unfold Dc;rw[ra,rb,rc,rd,jy];simp only[gC]at hP;have hbp:=hs.nu hM;have fk:∀b,S.n≤b→¬bE C b:=λb hb q=>by have q:b=C.bp:=q;omega
 refine eT (dp hM fg λH1 m1=>?_);have c1:aO bU S (S.push (.ce z7 0)):=(aO.refl _ _).push _;have d1:=hs.im hM c1;have o1:(S.push (.ce z7 0)).ob S.n=.ce z7 0:=LS.av _ _;have e4:Int.ofNat 4=((4:Nat):Int):=rfl;have e0:Int.ofNat 0=((0:Nat):Int):=rfl;rw[e4];refine O.lv4 k (by omega) hd m1 d1 (aW.call (eO:=dS) hP λe H2 S2 v m2 c2 d2 ⟨c,hv,hR⟩ hP2=>?_);subst hv;simp only[jy];refine eT (dp m2 fg λH3 m3=>?_);refine km m3 (LS.av _ _) rfl hR.len hR.ones λH4 m4=>?_;have n12:S.n+1≤S2.n:=c2.1;have c4:aO bU S2 ((S2.push (.ce z7 0)).set S2.n (.ce c 0)):=((aO.refl _ _).push _).set (.inr (Nat.le_refl _)) _;have F4:=lN.mk0 (C:=C) hbp rfl (c1.no.trans c2) m2 (c2.ob m1 o1 (fk _ (Nat.le_refl _))) hR;have d4:=d2.im m2 c4;refine lf m4 d4 ?_;rw[aj,aK];refine dC (s:=[46,46]) (bg (by decide)) m4 d4 (λy j er hi H5 S5 m5 c5 d5=>?_) λhi H5 S5 m5 c5 d5=>?_
 ·simp only[aj,aN,Bool.not_true,aI];rw[er]at hP2;have hP2:aW C (bE C) dS K S (if isA C.T [46,46] j=true then (if 100<d+1 then .err 8 (j+1) else (gC C.T k (j+1) (d+1)).bind λb k=>.ok (lK 14 6 (aB C.T j) e b) k) else .ok e j):=hP2;rw[if_pos hi]at hP2;have F5:=F4.keep m4 hbp c5;rw[dh,dX];refine w0 (by omega) (by omega) ?_;have sp:(if 100<d+1 then .err 8 (j+1) else (gC C.T k (j+1) (d+1)).bind λb k=>.ok (lK 14 6 (aB C.T j) e b) k)=((an.ok () (j+1)).bind λ_ i=>dD (100<d+1) i).bind λ_ i=>(gC C.T k i (d+1)).bind λb k=>.ok (lK 14 6 (aB C.T j) e b) k:=by
   show _=(dD (100<d+1) (j+1)).bind _;unfold dD;split<;>rfl
  rw[sp]at hP2;refine zY m5 d5 (aW.call (eO:=ny) hP2 λ_ H6 S6 w m6 c6 d6 _ hP3=>?_);have F6:=F5.keep m5 hbp c6;refine iq m6 d6 ?_;rw[er,aZ,e0];have d6:bj C S6 (dD (100<d+1) (j+1)):=d6;have hP3:aW C (bE C) dS K S ((dD (100<d+1) (j+1)).bind λ_ i=>(gC C.T k i (d+1)).bind λb k=>.ok (lK 14 6 (aB C.T j) e b) k):=hP3;have ecd:((an.ok () (j+1)).bind λ_ i=>dD (100<d+1) i)=dD (100<d+1) (j+1):=rfl;rw[ecd];by_cases g:100<d+1
  ·have ec:dD (100<d+1) (j+1)=.err 8 (j+1):=by unfold dD;rw[if_pos g]
   rw[ec]at d6 hP3 ⊢;rw[decide_eq_false (by show ¬((8:Nat):Int)=((0:Nat):Int);omega)];simp only[Bool.not_false,aH];exact F6.GB m6 hM hs (rj d6 rfl) hP3 wJ
  ·have ec:dD (100<d+1) (j+1)=.ok () (j+1):=by unfold dD;rw[if_neg g]
   rw[ec]at d6 hP3 ⊢;rw[decide_eq_true (by show((0:Nat):Int)=((0:Nat):Int);rfl)];simp only[Bool.not_true,aI];have hP3:aW C (bE C) dS K S ((gC C.T k (j+1) (d+1)).bind λb k=>.ok (lK 14 6 (aB C.T j) e b) k):=hP3;have rF:aB C.T (mF C.T k i d).ix=aB C.T j:=by rw[er];rfl
   show yC (nj (s10 m)) K (.ptr C.bp 0) (d:Int) (.ptr S.n 0) (.ptr S2.n 0) (aB C.T j:Int) H6;unfold yC;rw[re,dh,dX];refine w0 (by omega) (by omega) ?_;refine O.join k (by omega) (show d+1≤200 by omega) m6 d6 (aW.call (eO:=dS) hP3 λb H7 S7 v m7 c7 d7 ⟨cb,hv,hRb⟩ wK=>?_);subst hv;have F7:=F6.keep m6 hbp c7;have lt6:S.n<S6.n∧S2.n<S6.n:=⟨by obtain⟨z,hz,_⟩:=F6.o1;exact m6.lt (by rw[hz];simp),m6.lt (by rw[F6.o3];simp)⟩
   refine eT ?_;rw[jy];refine dp m7 fg λH8 m8=>?_;refine km m8 (LS.av _ _) rfl hRb.len hRb.ones λH9 m9=>?_;have c9:aO bU S7 ((S7.push (.ce z7 0)).set S7.n (.ce cb 0)):=((aO.refl _ _).push _).set (.inr (Nat.le_refl _)) _;have F9:=F7.keep m7 hbp c9.no;have d9:=d7.im m7 c9;have ob9:((S7.push (.ce z7 0)).set S7.n (.ce cb 0)).ob S7.n=.ce cb 0:=LS.ay _ _ _;have R9:RE ((S7.push (.ce z7 0)).set S7.n (.ce cb 0)) (λb=>S.n≤b∧b<((S7.push (.ce z7 0)).set S7.n (.ce cb 0)).n∧b≠S.n∧b≠S2.n) cb b:=hRb.go (λb hb=>c9.2 b hb.2 λq=>q) λb hb=>⟨by have:=hb.1;omega,Nat.lt_of_lt_of_le hb.2 c9.1,by have:=hb.1;omega,by have:=hb.1;omega⟩
   refine gH m9 F9.o3 F9.len ?_;refine gH m9 ob9 hRb.len ?_;simp only[iN];refine gq F9.len (gq hRb.len ?_);rw[zU F9.len hRb.len rfl];have NH:∀a∈c,a.one=true:=by obtain⟨Q,h1,_⟩:=F9.re;exact h1.ones
   have hnew:=IM (at_:=aB C.T j) (kind:=14) (op:=6) F9 m9 hbp R9;refine dj m9 (by rw[List.length_append,F9.len,hRb.len]) (λa h=>?_) λHa ma=>?_
   ·rcases List.mem_append.1 h with g|g
    ·exact NH a g
    ·exact hRb.ones a g
   refine eY rfl ?_;have ca:aO bU _ (((S7.push (.ce z7 0)).set S7.n (.ce cb 0)).push (.ce (c++cb) 0)):=(aO.refl bU ((S7.push (.ce z7 0)).set S7.n (.ce cb 0))).push _;obtain⟨z,hz,nz⟩:=F9.o1;exact Ac (z:=z) hM hs wK ma (F9.x.trans ca.no) ((d9.im m9 ca).ret _) (ca.ob m9 hz λq=>q) nz ⟨_,rfl,hnew⟩ (λb hb=>⟨by omega,hb.2.1⟩) pT
 ·simp only[aj,aN,Bool.not_false,aH];rw[xC hi]at hP2;exact(F4.keep m4 hbp c5).GB m5 hM hs (d5.ret e) hP2 pT
theorem ari{m:Nat}(O:gr C m):∀k,2*k+4≤m+1→mr C (λd H K=>(s10 (m+1)).2.2.2.2.2.2.2.1 (.ptr C.bp 0) (d:Int) H K) (fz C.T k):=by
 intro k hk K H S i d γ x hd hM hs hP;cases k with
 |zero=>exact absurd (show fz C.T 0 i d=.aS by simp only[fz]) hP.1
 |succ k=>
 have ra:(nk (s10 m)).1=f37:=rfl;have rb:(nk (s10 m)).2.1=f39:=rfl;have rc:(nk (s10 m)).2.2.1=f40:=rfl;have rd:(nk (s10 m)).2.2.2.1=(s10 m).2.2.2.2.2.2.2.1:=rfl;have re:(nk (s10 m)).2.2.2.2=(s10 m).2.2.2.2.2.2.2.2.1:=rfl;show Dd (nk (s10 m)) K (yD (nk (s10 m)) K) (.ptr C.bp 0) (d:Int) H;unfold Dd;rw[rb,rc,re,jy];simp only[fz]at hP;have hbp:=hs.nu hM;have fk:∀b,S.n≤b→¬bE C b:=λb hb q=>by have q:b=C.bp:=q;omega
 have e0:Int.ofNat 0=((0:Nat):Int):=rfl;refine eT (dp hM fg λH1 m1=>?_);have c1:aO bU S (S.push (.ce z7 0)):=(aO.refl _ _).push _;have d1:=hs.im hM c1;have o1:(S.push (.ce z7 0)).ob S.n=.ce z7 0:=LS.av _ _;refine lf m1 d1 ?_;rw[aj,aK];have rF:(an.ok x i).ix=i:=rfl;rw[rF];have signed:∀{H3:AH}{S3:LS}(kd:Nat),xN C.T i=kd→kd≠0→Mem H3 S3→aO (bE C) S S3→bj C S3 (.ok () (i+1):an Unit)→S3.ob S.n=.ce z7 0→yD (nk (s10 m)) K (.ptr C.bp 0) (d:Int) (.ptr S.n 0) (aB C.T i:Int) (kd:Int) H3:=by
  intro H3 S3 kd hkd hk0 m3 c3 d3 o3;rw[hkd,if_neg hk0]at hP;unfold yD;rw[ra,rd,dh,dX];refine w0 (by omega) (by omega) ?_;have sp:(if 100<d+1 then .err 8 (i+1) else (fz C.T k (i+1) (d+1)).bind λe j=>.ok (al.mk kd (aB C.T i) 0 [] 0 [e] []) j)=((an.ok () (i+1)).bind λ_ i=>dD (100<d+1) i).bind λ_ j=>(fz C.T k j (d+1)).bind λe j=>.ok (al.mk kd (aB C.T i) 0 [] 0 [e] []) j:=by
   show _=(dD (100<d+1) (i+1)).bind _;unfold dD;split<;>rfl
  rw[sp]at hP;refine zY m3 d3 (aW.call (eO:=ny) hP λ_ H4 S4 w m4 c4 d4 _ hP3=>?_);have o4:=c4.ob m3 o3 (fk _ (Nat.le_refl _));have n4:S.n<S4.n:=m4.lt (by rw[o4];simp);have c34:=c3.trans c4;refine iq m4 d4 ?_;rw[aZ,e0];have d4:bj C S4 (dD (100<d+1) (i+1)):=d4;have hP3:aW C (bE C) dS K S ((dD (100<d+1) (i+1)).bind λ_ j=>(fz C.T k j (d+1)).bind λe j=>.ok (al.mk kd (aB C.T i) 0 [] 0 [e] []) j):=hP3;have ecd:((an.ok () (i+1)).bind λ_ i=>dD (100<d+1) i)=dD (100<d+1) (i+1):=rfl;rw[ecd];by_cases g:100<d+1
  ·have ec:dD (100<d+1) (i+1)=.err 8 (i+1):=by unfold dD;rw[if_pos g]
   rw[ec]at d4 hP3 ⊢;rw[decide_eq_false (by show ¬((8:Nat):Int)=((0:Nat):Int);omega)];simp only[Bool.not_false,aH];exact Ac (z:=z7) (e:=.mk 0 0 0 [] 0 [] []) (Q:=λ_=>False) hM hs hP3 m4 c34 (rj d4 rfl) o4 rfl ⟨z7,rfl,RE.zero⟩ (λb hb=>hb.elim) wJ
  ·have ec:dD (100<d+1) (i+1)=.ok () (i+1):=by unfold dD;rw[if_neg g]
   rw[ec]at d4 hP3 ⊢;rw[decide_eq_true (by show((0:Nat):Int)=((0:Nat):Int);rfl)];simp only[Bool.not_true,aI];have hP3:aW C (bE C) dS K S ((fz C.T k (i+1) (d+1)).bind λe j=>.ok (.mk kd (aB C.T i) 0 [] 0 [e] []) j):=hP3;refine w0 (by omega) (by omega) ?_;refine O.unary k (by omega) (show d+1≤200 by omega) m4 d4 (aW.call (eO:=dS) hP3 λe H5 S5 v m5 c5 d5 ⟨c,hv,hR⟩ wK=>?_);subst hv;have o5:=c5.ob m4 o4 (fk _ (Nat.le_refl _));rw[iN];refine gq hR.len ?_;rw[G7 hR.len rfl];refine dj m5 (by rw[hR.len]) hR.ones λH6 m6=>?_;refine eY rfl ?_;have c6:aO bU S5 (S5.push (.ce c 0)):=(aO.refl _ _).push _;have n5:S4.n≤S5.n:=c5.1;have hRp:RE (S5.push (.ce c 0)) (jd (S.n+1) (S5.push (.ce c 0)).n) [.int 0 (kd:Int),.int 0 (aB C.T i:Int),.int 0 ((0:Nat):Int),ai [],.int 0 ((0:Nat):Int),.slice S5.n 0 1 1 7 true,.ab] (.mk kd (aB C.T i) 0 [] 0 [e] []):=
    RE.one (b:=S5.n) (m:=0) ⟨by omega,Nat.lt_succ_self _⟩ (LS.av _ _) (hR.go (λb hb=>LS.bS _ _ hb.2) λb hb=>⟨by have:=hb.1;omega,Nat.lt_succ_of_lt hb.2⟩)
   exact Ac (z:=z7) hM hs wK m6 ((c34.trans c5).trans c6.no) ((d5.im m5 c6).ret _) (c6.ob m5 o5 λq=>q) rfl ⟨_,rfl,hRp⟩ (λb hb=>⟨by have:=hb.1;omega,hb.2⟩) pT
 refine dC (s:=[110,111,116]) (bg (by decide)) m1 d1 (λy j er hi H2 S2 m2 c2 d2=>?_) λh1 H2 S2 m2 c2 d2=>?_
 ·cases er;simp only[aj,aN,aH];exact signed 11 (by unfold xN;rw[hi];rfl) (by omega) m2 (c1.no.trans c2) d2 (c2.ob m1 o1 (fk _ (Nat.le_refl _)))
 have h1:isA C.T [110,111,116] i=false:=h1;simp only[aj,aN,aI];have o2:=c2.ob m1 o1 (fk _ (Nat.le_refl _));have c12:=c1.no.trans c2;refine dC (s:=[45]) (bg (by decide)) m2 d2 (λy j er hi H3 S3 m3 c3 d3=>?_) λh2 H3 S3 m3 c3 d3=>?_
 ·cases er;simp only[aj,aN,aH];exact signed 12 (by unfold xN;rw[h1,hi];rfl) (by omega) m3 (c12.trans c3) d3 (c3.ob m2 o2 (fk _ (Nat.le_refl _)))
 have h2:isA C.T [45] i=false:=h2;simp only[aj,aN,aI];have o3:=c3.ob m2 o2 (fk _ (Nat.le_refl _));have c13:=c12.trans c3;refine dC (s:=[35]) (bg (by decide)) m3 d3 (λy j er hi H4 S4 m4 c4 d4=>?_) λh3 H4 S4 m4 c4 d4=>?_
 ·cases er;simp only[aj,aN,aH];exact signed 13 (by unfold xN;rw[h1,h2,hi];rfl) (by omega) m4 (c13.trans c4) d4 (c4.ob m3 o3 (fk _ (Nat.le_refl _)))
 have h3:isA C.T [35] i=false:=h3;simp only[aj,aN,aI];have o4:=c4.ob m3 o3 (fk _ (Nat.le_refl _));have c14:=c13.trans c4;have hu:xN C.T i=0:=by unfold xN;rw[h1,h2,h3];rfl
 rw[if_pos hu]at hP;have n4:S.n<S4.n:=m4.lt (by rw[o4];simp);refine O.post k (by omega) hd m4 d4 (aW.tail (eO:=dS) hP λe H5 S5 v m5 c5 d5 hv hfin=>?_);obtain⟨c,hv,hR⟩:=hv;subst hv;refine km m5 (c5.ob m4 o4 (fk _ (Nat.le_refl _))) rfl hR.len hR.ones λH6 m6=>?_;refine gH m6 (LS.ay _ _ _) hR.len ?_;exact hfin H6 _ _ m6 ((c14.trans c5).set (.inr (Nat.le_refl _)) _) (d5.qu hs hM (Nat.le_refl _) _) ⟨c,rfl,hR.go (λb hb=>LS.aq _ _ (by have:=hb.1;omega)) λb hb=>⟨by have:=hb.1;omega,hb.2⟩⟩
end
end Go.Proofs.YtcedghechlgecaaDoor
namespace Go.X
section
variable {H:AH}{S S':LS}
theorem aX.push{α:Type}{R:Rep α}{Z:Nat→Prop}{bytes:Nat}{v:AV}{l:List α}{a:α}{c:List AV}{Q:Nat→Prop}{k:AV→AH→Prop}(h:aX R Z S v l)(hM:Mem H S)(hr:R.rel S Q c a)(hQ:∀b,Q b→Z b∧b<S.n∧¬ak v b)(hnew:∀b,S.n≤b→Z b)(hl:(l.length+1)*bytes≤1099511627776)
  (hk:∀H' S' v',Mem H' S'→aX R Z S' v' (l++[a])→S.n≤S'.n→(∀b,b<S.n→¬ak v b→S'.ob b=S.ob b)→(∀b,ak v' b→ak v b∨S.n≤b)→v'.one=true→k v' H'):aT (aE H) 1 R.sz c λx H'=>cO R.sz bytes v x H' k:=by
 obtain⟨cl,h1,h2⟩:=id h;refine BK hM h1 R.pos (R.len hr) hl (R.ones hr) λH' S' v' m' he=>?_;have g:=h.step hr hQ hnew λcl' h'=>by rw[h1.uniq h'];exact he
 exact hk H' S' v' m' g he.1 he.2.1 he.2.2.2 (g.toR (lo:=0) λb _=>Nat.zero_le _).one
theorem aX.done{α:Type}{R:Rep α}{Z:Nat→Prop}{v:AV}{l:List α}(h:aX R Z S v l)(hM:Mem H S):∃cl,eu S (λb=>Z b∧b<S.n) R.sz v l.length cl∧∀i a,l[i]? = some a→R.rel S (λb=>Z b∧b<S.n) (cl i) a:=by
 obtain⟨cl,h1,h2,h3,h4⟩:=h;have hsz:∀c∈cl,c.length=R.sz:=λc hc=>by
  obtain⟨i,hi,e⟩:=List.mem_iff_getElem.1 hc;obtain⟨_,g,_⟩:=h4 i c (l[i]'(by omega)) (by rw[List.getElem?_eq_getElem hi,e]) (List.getElem?_eq_getElem _);exact R.len g
 refine⟨λi=>cl[i]?.getD [],?_,λi a ha=>?_⟩
 ·rcases h1 with⟨rfl,e,_⟩|⟨b,c,ex,cs,rfl,g2,g3,g4,g5,g6,g7⟩
  ·exact .inl ⟨rfl,e⟩
  ·refine .inr ⟨b,0,c,ex,cs,0,rfl,⟨h3 b rfl,hM.lt (by rw[g2];simp)⟩,g2,g4,by rw[g3,Nat.zero_add];exact Nat.mul_le_mul_right _ g4,λi hi=>?_⟩;have hic:i<cl.length:=by omega
   have e1:=HV hsz (List.getElem?_eq_getElem hic);show(cs.drop (0+i*R.sz)).take R.sz=cl[i]?.getD [];rw[List.getElem?_eq_getElem hic,Option.getD_some,←e1,Nat.zero_add];have hle:(i+1)*R.sz≤l.length*R.sz:=Nat.mul_le_mul_right _ (by omega);rw[Nat.add_mul,Nat.one_mul]at hle
   conv=>rhs;rw[←g6]
   rw[List.drop_take,List.take_take,Nat.min_eq_left (by omega)]
 ·have hil:=(List.getElem?_eq_some_iff.1 ha).1;have hic:i<cl.length:=by omega
  obtain⟨Q,g1,g2⟩:=h4 i _ a (List.getElem?_eq_getElem hic) ha;show R.rel S _ (cl[i]?.getD []) a;rw[List.getElem?_eq_getElem hic,Option.getD_some];exact R.go (λ_ _=>rfl) (λb hb=>⟨(g2 b hb).1,(g2 b hb).2.1⟩) g1
theorem aX.one{α:Type}{R:Rep α}{Z:Nat→Prop}{v:AV}{l:List α}(h:aX R Z S v l):v.one=true:=(h.toR (lo:=0) λb _=>Nat.zero_le _).one
theorem aX.same{α:Type}{R:Rep α}{Z:Nat→Prop}{v:AV}{l:List α}(h:aX R Z S v l):bu v v=true:=(h.toR (lo:=0) λb _=>Nat.zero_le _).same
theorem aX.G9{α:Type}{R:Rep α}{Z:Nat→Prop}{v:AV}{l:List α}{k:AV→Prop}(h:aX R Z S v l)(hk:k (.int 0 l.length)):bO v k:=(h.toR (lo:=0) λb _=>Nat.zero_le _).G9 hk
theorem aX.single{α:Type}{R:Rep α}{Z Q:Nat→Prop}{b:Nat}{c:List AV}{a:α}(hb:S.ob b=.ce c 0)(hz:Z b)(hr:R.rel S Q c a)(hQ:∀x,Q x→Z x∧x<S.n∧x≠b):aX R Z S (.slice b 0 1 1 R.sz true) [a]:=by
 have hl:=R.len hr;refine⟨[c],.inr ⟨b,1,true,c,rfl,hb,by omega,Nat.le_refl _,by simp[hl],by simp,R.ones hr⟩,rfl,λx hx=>?_,λi c' a' hc ha=>?_⟩
 ·have hx:x=b:=hx;rw[hx];exact hz
 ·cases i with
  |zero=>
   have e1:c=c':=by simpa using hc
   have e2:a=a':=by simpa using ha
   subst e1;subst e2;exact⟨Q,hr,λx hx=>⟨(hQ x hx).1,(hQ x hx).2.1,λq=>(hQ x hx).2.2 (by have q:x=b:=q;exact q)⟩⟩
  |succ i=>simp at hc
end
end Go.X
namespace Go.Proofs.YtcedghechlgecaaDoor
open Go Go.X Go.Proofs.YtcedghechlgecaaDoor.G
section
variable {H:AH}{S:LS}{K:KF}{C:Ctx}{i d:Nat}
theorem lN.aoC{S0:LS}{b1 b3:Nat}{c:List AV}{e:al}{r:an al}(h:lN C S0 S b1 b3 c e)(hM:Mem H S)(hbp:C.bp<S0.n)(de:∀b,ak C.vT b→b<S0.n)(hd:bj C S r)(hP:aW C (bE C) dS K S0 r)(ha:Ag r e) :
  aQ 7 (.ptr b3 0) H λv1=>ah 7 (.ptr b1 0) v1 H λH2=>aQ 7 (.ptr b1 0) H2 λv3=>K (.ret v3) H2:=by
 obtain⟨z,hz,nz⟩:=h.o1;obtain⟨Q,h1,h2⟩:=h.re;have hn:=h.n1;refine aoq hM h.o3 h1.len h1.ones hz nz λH' m=>?_;exact hP.2 H' _ _ e m (h.x.set (.inr h.n1) _) (hd.setB (by omega) (λx hx=>by have:=de x hx;omega) _) ⟨c,rfl,h1.go (λb hb=>LS.aq _ _ (h2 b hb).2.2.1) λb hb=>⟨(h2 b hb).1,(h2 b hb).2.1⟩⟩ ha
structure qb(C:Ctx)(S0 S:LS)(b1 b3:Nat):Prop where
 x:aO (bE C) S0 S
 o1:∃z,S.ob b1=.ce z 0∧z.length=7
 o3:∃z,S.ob b3=.ce z 0∧z.length=7
 n1:S0.n≤b1
 n3:S0.n≤b3
 ne:b1≠b3
theorem lN.w{S0:LS}{b1 b3:Nat}{c:List AV}{e:al}(h:lN C S0 S b1 b3 c e):qb C S0 S b1 b3:=⟨h.x,h.o1,⟨c,h.o3,h.len⟩,h.n1,h.n3,h.ne⟩
theorem qb.lt{S0:LS}{b1 b3:Nat}(h:qb C S0 S b1 b3)(hM:Mem H S):b1<S.n∧b3<S.n:=⟨by obtain⟨z,hz,_⟩:=h.o1;exact hM.lt (by rw[hz];simp),by obtain⟨z,hz,_⟩:=h.o3;exact hM.lt (by rw[hz];simp)⟩
theorem qb.Gd{S0 S':LS}{b1 b3:Nat}{Y:Nat→Prop}(h:qb C S0 S b1 b3)(hM:Mem H S)(g:aO Y S S')(h1:∀b,Y b→b≠b1∧b≠b3∧(b=C.bp∨S0.n≤b)):qb C S0 S' b1 b3:=by
 obtain⟨z,hz,nz⟩:=h.o1;obtain⟨y,hy,hy7⟩:=h.o3;exact⟨h.x.rW g λb hb=>(h1 b hb).2.2.elim (λq=>.inl q) .inr,⟨z,g.ob hM hz λq=>(h1 _ q).1 rfl,nz⟩,⟨y,g.ob hM hy λq=>(h1 _ q).2.1 rfl,hy7⟩,h.n1,h.n3,h.ne⟩
theorem qb.keep{S0 S':LS}{b1 b3:Nat}(h:qb C S0 S b1 b3)(hM:Mem H S)(hbp:C.bp<S0.n)(g:aO (bE C) S S'):qb C S0 S' b1 b3:=
 h.Gd hM g λb hb=>by
  have hb:b=C.bp:=hb;have:=h.n1;have:=h.n3;exact⟨by omega,by omega,.inl hb⟩
theorem qb.NC{S0:LS}{b1 b3:Nat}{c':List AV}{e':al}(h:qb C S0 S b1 b3){Q:Nat→Prop}(hr:RE S Q c' e')(hQ:∀b,Q b→S0.n≤b∧b<S.n∧b≠b1∧b≠b3):lN C S0 (S.set b3 (.ce c' 0)) b1 b3 c' e':=by
 obtain⟨z,hz,nz⟩:=h.o1;exact⟨h.x.set (.inr h.n3) _,⟨z,(LS.aq _ _ h.ne).trans hz,nz⟩,LS.ay _ _ _,h.n1,h.n3,h.ne,Q,hr.go (λb hb=>LS.aq _ _ (hQ b hb).2.2.2) (λ_ h=>h),hQ⟩
def zB(S0:LS)(b1 b3:Nat):Nat→Prop:=λb=>S0.n≤b∧b≠b1∧b≠b3
def xE(T:List Tok)(k:Nat)(out:List al)(i d:Nat):an (List al):=if out.length=16 then .err 8 i else (bW T k i d).bind λe j=>dJ T k false (out++[e]) j d
section
variable {m k:Nat}{X:AV→Int→AV→AV→AH→Prop}{S0:LS}{b1 b3:Nat}
def PJ(C:Ctx)(S0:LS)(K:KF)(b1 b3 k d:Nat)(X:AV→Int→AV→AV→AH→Prop):Prop:=∀(e:al) (c:List AV) (H:AH) (S:LS){γ:Type}(r:an γ),Mem H S→bj C S r→lN C S0 S b1 b3 c e→aW C (bE C) dS K S0 (r.bind λ_ i=>cK C.T k e i d)→X (.ptr C.bp 0) (d:Int) (.ptr b3 0) (.ptr b1 0) H
theorem aew{pos:Nat}(hbp:C.bp<S0.n)(de:∀b,ak C.vT b→b<S0.n)(hX:PJ C S0 K b1 b3 k d X){e:al}{out:List al}{v:AV}{γ:Type}{r:an γ}(hM:Mem H S)(hs:bj C S r)(F:qb C S0 S b1 b3)(L:aX ku (zB S0 b1 b3) S v (e::out))(hP:aW C (bE C) dS K S0 (r.bind λ_ j=>cK C.T k (.mk 10 pos 0 [] 0 (e::out) []) j d)) :
  CZ (dz (s10 m)) K X (.ptr C.bp 0) (d:Int) (.ptr b3 0) (.ptr b1 0) (pos:Int) v H:=by
 unfold CZ;refine eY L.one ?_;obtain⟨cl,h1,h2⟩:=L.done hM;have hnew:RE S (λb=>zB S0 b1 b3 b∧b<S.n) [.int 0 ((10:Nat):Int),.int 0 (pos:Int),.int 0 ((0:Nat):Int),ai [],.int 0 ((0:Nat):Int),v,.ab] (.mk 10 pos 0 [] 0 (e::out) []):=
  .mk 10 pos 0 [] 0 (e::out) [] v .ab cl (λ_=>[]) B8.nil h1 h2 (eu.nil _ _ _ _) (λi e h=>by simp at h)
 obtain⟨z,hz,nz⟩:=F.o3;refine km hM hz nz hnew.len hnew.ones λH1 m1=>?_;have hn3:=F.n3;exact hX _ _ H1 _ r m1 (hs.setB (by omega) (λx hx=>by have:=de x hx;omega) _) (F.NC hnew λb hb=>⟨hb.1.1,hb.2,hb.1.2⟩) hP
theorem _root_.Go.X.aX.bp{α:Type}{R:Rep α}{v:AV}{l:List α}{S':LS}(L:aX R (zB S0 b1 b3) S v l)(hM:Mem H S)(hbp:C.bp<S0.n)(g:aO (bE C) S S'):aX R (zB S0 b1 b3) S' v l:=
 L.keep hM g.1 λb h1 h2=>g.2 b h2 λq=>by have q:b=C.bp:=q;have:=h1.1;omega
theorem aex{pos:Nat}(hbp:C.bp<S0.n)(de:∀b,ak C.vT b→b<S0.n)(hX:PJ C S0 K b1 b3 k d X){e:al}{out:List al}{v:AV}{γ:Type}{r:an γ}(hM:Mem H S)(hs:bj C S r)(F:qb C S0 S b1 b3)(L:aX ku (zB S0 b1 b3) S v (e::out))(hP:aW C (bE C) dS K S0 (r.bind λ_ i=>(aU C.T [41] i).bind λ_ j=>cK C.T k (.mk 10 pos 0 [] 0 (e::out) []) j d)) :
  vG (dz (s10 m)) K X (.ptr C.bp 0) (d:Int) (.ptr b3 0) (.ptr b1 0) (pos:Int) v H:=by
 have r5:(dz (s10 m)).2.2.2.2.1=f59:=rfl;show C0 (dz (s10 m)) K (yA (dz (s10 m)) K X) (.ptr C.bp 0) (d:Int) (.ptr b3 0) (.ptr b1 0) (pos:Int) v H;unfold C0;rw[r5];refine kC (s:=[41]) (bg (by decide)) hM hs (aW.call (eO:=ny) hP.seq λ_ H1 S1 w m1 c1 d1 _ hP1=>?_);exact aew hbp de hX m1 d1 (F.keep hM hbp c1) (L.bp hM hbp c1) hP1
theorem aey{pos:Nat}(O:gr C m)(hd:d≤200)(hbp:C.bp<S0.n)(de:∀b,ak C.vT b→b<S0.n)(hX:PJ C S0 K b1 b3 k d X){e:al}{Y:AV→Int→AV→AV→Int→AV→AH→Prop}{k8:Nat}(hk:2*k8+4≤m)
  (hrec:∀k',k8=k'+1→∀(out:List al) (v:AV) (H:AH) (S:LS){γ:Type}(r:an γ),out.length≤16→Mem H S→bj C S r→qb C S0 S b1 b3→aX ku (zB S0 b1 b3) S v (e::out)→aW C (bE C) dS K S0 ((r.bind λ_ i=>xE C.T k' out i d).bind λl j=>cK C.T k (.mk 10 pos 0 [] 0 (e::l) []) j d)→Y (.ptr C.bp 0) (d:Int) (.ptr b3 0) (.ptr b1 0) (pos:Int) v H)
  (out:List al) (v:AV) (H:AH) (S:LS){γ:Type}(r:an γ) (ho:out.length≤16) (hM:Mem H S) (hs:bj C S r) (F:qb C S0 S b1 b3) (L:aX ku (zB S0 b1 b3) S v (e::out))
  (hP:aW C (bE C) dS K S0 ((r.bind λ_ i=>xE C.T k8 out i d).bind λl j=>cK C.T k (.mk 10 pos 0 [] 0 (e::l) []) j d)) :
  KQ (dz (s10 m)) K X Y (.ptr C.bp 0) (d:Int) (.ptr b3 0) (.ptr b1 0) (pos:Int) v H:=by
 have r2:(dz (s10 m)).2.1=f40:=rfl;have r3:(dz (s10 m)).2.2.1=(s10 m).2.1:=rfl;have r6:(dz (s10 m)).2.2.2.2.2=f76:=rfl;have e0:Int.ofNat 0=((0:Nat):Int):=rfl;have e16:Int.ofNat 16=((16:Nat):Int):=rfl;show C7 (dz (s10 m)) K (vG (dz (s10 m)) K X) (C6 (dz (s10 m)) K X Y) (.ptr C.bp 0) (d:Int) (.ptr b3 0) (.ptr b1 0) (pos:Int) v H;unfold C7;rw[r3,r6];refine iq hM hs ?_;rw[aZ,e0];rcases y0 hs with⟨ec,a,i,rfl⟩|⟨ec,c1,i,rfl⟩
 ·rw[ec,decide_eq_true rfl,aH];refine L.G9 ?_;rw[aK,kW,dX,e16];have el:(((e::out).length:Nat):Int)-((1:Nat):Int)=(out.length:Int):=by rw[List.length_cons];omega
  have sp:((an.ok a i).bind λ_ i=>xE C.T k8 out i d).bind (λl j=>cK C.T k (.mk 10 pos 0 [] 0 (e::l) []) j d)=(((an.ok a i).bind λ_ i=>dD (16≤out.length) i).bind λ_ i=>(bW C.T k8 i d).bind λx j=>(dJ C.T k8 false (out++[x]) j d).bind λl j=>cK C.T k (.mk 10 pos 0 [] 0 (e::l) []) j d):=by
   show(xE C.T k8 out i d).bind _=(dD (16≤out.length) i).bind _;unfold xE dD;by_cases g:out.length=16
   ·rw[if_pos g,if_pos (by omega)];rfl
   ·rw[if_neg g,if_neg (by omega),bK];rfl
  rw[sp]at hP;refine w0 (by omega) (by omega) ?_;have el':(((e::out).length:Nat):Int)-1=(out.length:Int):=by rw[List.length_cons];omega
  rw[show(((e::out).length:Nat):Int)-1=(out.length:Int)from el'];refine Hc hM hs (aW.call (eO:=ny) hP λ_ H1 S1 w m1 c1 d1 _ hP1=>?_);have F1:=F.keep hM hbp c1;have L1:=L.bp hM hbp c1;refine O.exp k8 hk hd m1 d1 (aW.call (eO:=dS) hP1.seq λx H2 S2 v2 m2 c2 d2 ⟨cb,hv,hR⟩ hP2=>?_);subst hv;have F2:=F1.keep m1 hbp c2;have L2:=L1.bp m1 hbp c2;have HW:=F1.lt m1;have n1:=F1.x.1;rw[iN];refine gq hR.len ?_;rw[G7 hR.len rfl];refine L2.push (R:=ku) (bytes:=96) m2 hR (λb hb=>⟨⟨by have:=hb.1;omega,by have:=hb.1;omega,by have:=hb.1;omega⟩,hb.2,λq=>by have:=L1.lt m1 q;have:=hb.1;omega⟩) (λb hb=>⟨by have:=c2.1;omega,by have:=c2.1;omega,by have:=c2.1;omega⟩) (by rw[List.length_cons];omega) λH3 S3 v3 m3 L3 n3 k3 bk3 ho3=>?_;have hvn:∀b,ak v b→zB S0 b1 b3 b:=λb hb=>L.FZ hb;have c3:aO (λb=>ak v b) S2 S3:=⟨n3,λb hb hx=>k3 b hb hx⟩
  have d3:=d2.keep m2 c3 (λq=>by have:=(hvn _ q).1;omega) (λb hb q=>by have:=(hvn _ q).1;have:=de b hb;omega);have F3:qb C S0 S3 b1 b3:=F2.Gd m2 c3 λb hb=>⟨(hvn b hb).2.1,(hvn b hb).2.2,.inr (hvn b hb).1⟩
  show C6 (dz (s10 m)) K X Y (.ptr C.bp 0) (d:Int) (.ptr b3 0) (.ptr b1 0) (pos:Int) v3 H3;show C5 (dz (s10 m)) K Y (vG (dz (s10 m)) K X) (.ptr C.bp 0) (d:Int) (.ptr b3 0) (.ptr b1 0) (pos:Int) v3 H3;unfold C5;rw[r2];refine dC (s:=[44]) (bg (by decide)) m3 d3 (λy j er hi H4 S4 m4 c4 d4=>?_) λhi H4 S4 m4 c4 d4=>?_
  ·simp only[aj,aN,Bool.not_true,aI];rw[er]at hP2;have hP2:aW C (bE C) dS K S0 ((dJ C.T k8 false (out++[x]) j d).bind λl j=>cK C.T k (.mk 10 pos 0 [] 0 (e::l) []) j d):=hP2;cases k8 with
   |zero=>exact absurd (show(dJ C.T 0 false (out++[x]) j d).bind _=.aS by simp only[dJ];rfl) hP2.1
   |succ k8=>
    have ol:out.length<16:=by
     rcases Nat.lt_or_ge out.length 16 with g|g
     ·exact g
     ·exfalso;have e1:((an.ok a i).bind λ_ i=>dD (16≤out.length) i)=.err 8 i:=by show dD _ i=_;unfold dD;rw[if_pos g]
      rw[e1]at er;cases er
    have sp:dJ C.T (k8+1) false (out++[x]) j d=xE C.T k8 (out++[x]) (j+1) d:=by
     simp only[dJ,Bool.false_eq_true,if_false,hi,if_true];rfl
    rw[sp]at hP2;exact hrec k8 rfl (out++[x]) v3 H4 S4 (.ok () (j+1):an Unit) (by simp;omega) m4 d4 (F3.keep m3 hbp c4) (by have:=L3.bp m3 hbp c4;exact this) hP2
  ·simp only[aj,aN,Bool.not_false,aH];refine aex hbp de hX m4 d4 (F3.keep m3 hbp c4) (out:=out++[x]) (by have:=L3.bp m3 hbp c4;exact this) ?_;have sp:∀r':an al,pb C.T [44] r'=false→(r'.bind λ_ j=>(dJ C.T k8 false (out++[x]) j d).bind λl j=>cK C.T k (.mk 10 pos 0 [] 0 (e::l) []) j d)≠.aS→(r'.bind λ_ j=>(dJ C.T k8 false (out++[x]) j d).bind λl j=>cK C.T k (.mk 10 pos 0 [] 0 (e::l) []) j d)=r'.bind λ_ i=>(aU C.T [41] i).bind λ_ j=>cK C.T k (.mk 10 pos 0 [] 0 (e::(out++[x])) []) j d:=by
    intro r' hi2 hno;cases r' with
    |aS=>rfl
    |err c i=>rfl
    |ok y j=>
     have hi3:isA C.T [44] j=false:=hi2;cases k8 with
     |zero=>exact absurd (show(dJ C.T 0 false (out++[x]) j d).bind _=.aS by simp only[dJ];rfl) hno
     |succ k8=>
      have e1:dJ C.T (k8+1) false (out++[x]) j d=(aU C.T [41] j).bind λ_ j=>.ok (out++[x]) j:=by
       simp only[dJ,Bool.false_eq_true,if_false];rw[hi3];rfl
      show(dJ C.T (k8+1) false (out++[x]) j d).bind _=(aU C.T [41] j).bind _;rw[e1,bK];rfl
   rw[sp _ hi hP2.1]at hP2;exact hP2
 ·rw[decide_eq_false (by omega),aI];exact aex hbp de hX hM hs F L hP
theorem aoD{pos:Nat}(O:gr C m)(hd:d≤200)(hbp:C.bp<S0.n)(de:∀b,ak C.vT b→b<S0.n)(hX:PJ C S0 K b1 b3 k d X){e:al} :
  ∀k8,2*k8+4≤m→∀(q:Nat) (out:List al) (v:AV) (H:AH) (S:LS){γ:Type}(r:an γ),k8<q→out.length≤16→Mem H S→bj C S r→qb C S0 S b1 b3→aX ku (zB S0 b1 b3) S v (e::out)→
  aW C (bE C) dS K S0 ((r.bind λ_ i=>xE C.T k8 out i d).bind λl j=>cK C.T k (.mk 10 pos 0 [] 0 (e::l) []) j d)→
  yB (dz (s10 m)) K X q (.ptr C.bp 0) (d:Int) (.ptr b3 0) (.ptr b1 0) (pos:Int) v H:=by
 intro k8
 induction k8 with
 |zero=>
  intro hk q out v H S γ r hq ho hM hs F L hP;obtain⟨q,rfl⟩:∃p,q=p+1:=⟨q-1,by omega⟩
  exact aey O hd hbp de hX hk (λk' h=>absurd h (by omega)) out v H S r ho hM hs F L hP
 |succ k8 ih=>
  intro hk q out v H S γ r hq ho hM hs F L hP;obtain⟨q,rfl⟩:∃p,q=p+1:=⟨q-1,by omega⟩
  exact aey O hd hbp de hX hk (λk' h out v H S γ r ho hM hs F L hP=>by
   obtain rfl:k8=k':=by omega
   exact ih (by omega) q out v H S r (by omega) ho hM hs F L hP) out v H S r ho hM hs F L hP
theorem aez(hm:m≤1000000)(O:gr C m)(hd:d≤200)(hbp:C.bp<S0.n)(de:∀b,ak C.vT b→b<S0.n)(hk:2*k+4≤m+1)
  (hrec:∀k',k=k'+1→PJ C S0 K b1 b3 k' d X) (e:al) (c:List AV) (H:AH) (S:LS){γ:Type}(r:an γ) (hM:Mem H S) (hs:bj C S r) (F:lN C S0 S b1 b3 c e) (hP:aW C (bE C) dS K S0 (r.bind λ_ i=>cK C.T k e i d)) :
  KW (dz (s10 m)) K X (.ptr C.bp 0) (d:Int) (.ptr b3 0) (.ptr b1 0) H:=by
 have r1:(dz (s10 m)).1=f39:=rfl;have r2:(dz (s10 m)).2.1=f40:=rfl;have r3:(dz (s10 m)).2.2.1=(s10 m).2.1:=rfl;have r4:(dz (s10 m)).2.2.2.1=f57:=rfl;have r5:(dz (s10 m)).2.2.2.2.1=f59:=rfl;have e0:Int.ofNat 0=((0:Nat):Int):=rfl;have nb:∀b,S0.n≤b→b≠C.bp:=λb hb=>by omega
 have nvT:∀b,S0.n≤b→∀x,ak C.vT x→x≠b:=λb hb x hx=>by have:=de x hx;omega
 show C9 (dz (s10 m)) K (KN (dz (s10 m)) K X) (KO (dz (s10 m)) K X) (KS (dz (s10 m)) K X) (KU (dz (s10 m)) K) (.ptr C.bp 0) (d:Int) (.ptr b3 0) (.ptr b1 0) H;unfold C9;rw[r1,r2,r3];refine iq hM hs ?_;rw[aZ,e0];rcases y0 hs with⟨ec,a,i,rfl⟩|⟨ec,c1,i,rfl⟩
 ·rw[ec,decide_eq_true rfl,aH];cases k with
  |zero=>exact absurd (show cK C.T 0 e i d=.aS by simp only[cK]) hP.1
  |succ k=>
  have hX:=hrec k rfl;have hP:aW C (bE C) dS K S0 (cK C.T (k+1) e i d):=hP;simp only[cK]at hP;refine lf hM hs ?_;rw[aj,aK];have rF:(an.ok a i).ix=i:=rfl;rw[rF];refine dC (s:=[46]) (bg (by decide)) hM hs (λy j er hi H1 S1 m1 c1 d1=>?_) λh1 H1 S1 m1 c1 d1=>?_
  ·cases er;rw[if_pos hi]at hP;simp only[aj,aN,aH];have F1:=F.keep hM hbp c1;refine lf m1 d1 ?_;rw[aj,aK];have apZ:(an.ok () (i+1)).ix=i+1:=rfl;rw[apZ];simp only[jy];refine eT (dp m1 fg λH2 m2=>?_);refine km m2 (c:=[.int 0 ((5:Nat):Int),.int 0 (aB C.T (i+1):Int),.int 0 ((0:Nat):Int),ai [],.int 0 ((0:Nat):Int),.ab,.ab]) (LS.av _ _) rfl rfl (λa h=>?_) λH3 m3=>?_
   ·simp only[List.mem_cons,List.not_mem_nil,or_false]at h;rcases h with rfl|rfl|rfl|rfl|rfl|rfl|rfl<;>rfl
   have c3:aO bU S1 ((S1.push (.ce z7 0)).set S1.n (.ce [.int 0 ((5:Nat):Int),.int 0 (aB C.T (i+1):Int),.int 0 ((0:Nat):Int),ai [],.int 0 ((0:Nat):Int),.ab,.ab] 0)):=((aO.refl _ _).push _).set (.inr (Nat.le_refl _)) _;have d3:=d1.im m1 c3;have F3:=F1.keep m1 hbp c3.no;have o3:LS.ob _ S1.n=_:=LS.ay (S1.push (.ce z7 0)) S1.n (.ce [.int 0 ((5:Nat):Int),.int 0 (aB C.T (i+1):Int),.int 0 ((0:Nat):Int),ai [],.int 0 ((0:Nat):Int),.ab,.ab] 0);have n3:S0.n≤S1.n:=F1.x.1;have HW:b1<S1.n∧b3<S1.n:=F1.w.lt m1;show CX (dz (s10 m)) K X (.ptr C.bp 0) (d:Int) (.ptr b3 0) (.ptr b1 0) (aB C.T i:Int) (.ptr S1.n 0) H3;unfold CX;rw[r4];refine si m3 d3 (aW.call (eO:=NA) hP λs H4 S4 v m4 c4 d4 ⟨hv,h8⟩ hP2=>?_);subst hv;have F4:=F3.keep m3 hbp c4;have o4:=c4.ob m3 o3 λq=>by have q:S1.n=C.bp:=q;omega
   rw[aM,Nat.zero_add];refine bJ m4 o4 (by omega) (by show 3<7;omega) (kX s) λH5 m5=>?_;have m5:Mem H5 (S4.set S1.n (.ce [.int 0 ((5:Nat):Int),.int 0 (aB C.T (i+1):Int),.int 0 ((0:Nat):Int),ai s,.int 0 ((0:Nat):Int),.ab,.ab] 0)):=m5;have F5:lN C S0 (S4.set S1.n (.ce [.int 0 ((5:Nat):Int),.int 0 (aB C.T (i+1):Int),.int 0 ((0:Nat):Int),ai s,.int 0 ((0:Nat):Int),.ab,.ab] 0)) b1 b3 c e:=by
    obtain⟨z,hz,nz⟩:=F4.o1;obtain⟨Q,g1,g2⟩:=F1.re;exact⟨F4.x.set (.inr n3) _,⟨z,(LS.aq _ _ (by omega)).trans hz,nz⟩,(LS.aq _ _ (by omega)).trans F4.o3,F4.n1,F4.n3,F4.ne,Q,g1.go (λb hb=>by
     have h2:=g2 b hb;rw[LS.aq _ _ (by omega),c4.2 b (Nat.lt_of_lt_of_le h2.2.1 c3.1) (λq=>by have q:b=C.bp:=q;omega)];exact c3.2 b h2.2.1 λq=>q) (λ_ h=>h),λb hb=>⟨(g2 b hb).1,Nat.lt_of_lt_of_le (g2 b hb).2.1 (Nat.le_trans c3.1 c4.1),(g2 b hb).2.2⟩⟩
   have d5:=d4.setB (nb _ n3) (nvT _ n3) (.ce [.int 0 ((5:Nat):Int),.int 0 (aB C.T (i+1):Int),.int 0 ((0:Nat):Int),ai s,.int 0 ((0:Nat):Int),.ab,.ab] 0);have hR:RE (S4.set S1.n (.ce [.int 0 ((5:Nat):Int),.int 0 (aB C.T (i+1):Int),.int 0 ((0:Nat):Int),ai s,.int 0 ((0:Nat):Int),.ab,.ab] 0)) (λb=>S0.n≤b∧b<S4.n∧b≠b1∧b≠b3) [.int 0 ((5:Nat):Int),.int 0 (aB C.T (i+1):Int),.int 0 ((0:Nat):Int),ai s,.int 0 ((0:Nat):Int),.ab,.ab] (.mk 5 (aB C.T (i+1)) 0 s 0 [] []):=RE.simple h8;refine gH m5 F5.o3 F5.len ?_;refine gH m5 (LS.ay _ _ _) rfl ?_;simp only[iN];refine gq F5.len (gq rfl ?_);rw[zU F5.len rfl rfl];have NH:∀a∈c,a.one=true:=by obtain⟨Q,h1,_⟩:=F5.re;exact h1.ones
   refine dj m5 (by rw[List.length_append,F5.len];rfl) (λa h=>?_) λH6 m6=>eY rfl ?_
   ·rcases List.mem_append.1 h with g|g
    ·exact NH a g
    ·exact hR.ones a g
   have hnew:=IM (at_:=aB C.T i) (kind:=9) (op:=0) F5 m5 hbp hR;have c6:=(aO.refl bU (S4.set S1.n (.ce [.int 0 ((5:Nat):Int),.int 0 (aB C.T (i+1):Int),.int 0 ((0:Nat):Int),ai s,.int 0 ((0:Nat):Int),.ab,.ab] 0))).push (.ce (c++[.int 0 ((5:Nat):Int),.int 0 (aB C.T (i+1):Int),.int 0 ((0:Nat):Int),ai s,.int 0 ((0:Nat):Int),.ab,.ab]) 0);have F6:=F5.keep m5 hbp c6.no;refine km m6 F6.o3 F6.len hnew.len hnew.ones λH7 m7=>?_;exact hX _ _ H7 _ _ m7 ((d5.im m5 c6).setB (nb _ F.n3) (nvT _ F.n3) _) (F6.NC hnew λb hb=>hb) hP2
  have h1:isA C.T [46] i=false:=h1;rw[if_neg (by rw[h1];simp)]at hP;simp only[aj,aN,aI];have F1:=F.keep hM hbp c1;refine dC (s:=[91]) (bg (by decide)) m1 d1 (λy j er hi H2 S2 m2 c2 d2=>?_) λh2 H2 S2 m2 c2 d2=>?_
  ·cases er;rw[if_pos hi]at hP;simp only[aj,aN,aH];have F2:=F1.keep m1 hbp c2;have lt2:b1<S2.n∧b3<S2.n:=F2.w.lt m2;have n2:=F2.x.1;refine O.exp k (by omega) hd m2 d2 (aW.call (eO:=dS) hP λx H3 S3 v m3 c3 d3 ⟨cb,hv,hR⟩ hP2=>?_);subst hv;have F3:=F2.keep m2 hbp c3;simp only[jy];refine eT (dp m3 fg λH4 m4=>?_);refine km m4 (LS.av _ _) rfl hR.len hR.ones λH5 m5=>?_;have c5:aO bU S3 ((S3.push (.ce z7 0)).set S3.n (.ce cb 0)):=((aO.refl _ _).push _).set (.inr (Nat.le_refl _)) _;have F5:=F3.keep m3 hbp c5.no;have d5:=d3.im m3 c5;have o5:LS.ob _ S3.n=_:=LS.ay (S3.push (.ce z7 0)) S3.n (.ce cb 0);have n3:S2.n≤S3.n:=c3.1;show CY (dz (s10 m)) K X (.ptr C.bp 0) (d:Int) (.ptr b3 0) (.ptr b1 0) (aB C.T i:Int) (.ptr S3.n 0) H5;unfold CY;rw[r5];refine kC (s:=[93]) (bg (by decide)) m5 d5 (aW.call (eO:=ny) hP2.seq λ_ H6 S6 w m6 c6 d6 _ hP3=>?_);have F6:=F5.keep m5 hbp c6;have o6:=c6.ob m5 o5 λq=>by have q:S3.n=C.bp:=q;omega
   have R6:RE S6 (λb=>S0.n≤b∧b<S6.n∧b≠b1∧b≠b3) cb x:=hR.go (λb hb=>by
    rw[c6.2 b (Nat.lt_of_lt_of_le hb.2 c5.1) (λq=>by have q:b=C.bp:=q;have:=hb.1;omega)];exact c5.2 b hb.2 λq=>q) λb hb=>⟨by have:=hb.1;omega,Nat.lt_of_lt_of_le hb.2 (Nat.le_trans c5.1 c6.1),by have:=hb.1;omega,by have:=hb.1;omega⟩
   refine gH m6 F6.o3 F6.len ?_;refine gH m6 o6 hR.len ?_;simp only[iN];refine gq F6.len (gq hR.len ?_);rw[zU F6.len hR.len rfl];have NH:∀a∈c,a.one=true:=by obtain⟨Q,h1,_⟩:=F6.re;exact h1.ones
   refine dj m6 (by rw[List.length_append,F6.len,hR.len]) (λa h=>?_) λH7 m7=>eY rfl ?_
   ·rcases List.mem_append.1 h with g|g
    ·exact NH a g
    ·exact hR.ones a g
   have hnew:=IM (at_:=aB C.T i) (kind:=9) (op:=0) F6 m6 hbp R6;have c7:=(aO.refl bU S6).push (.ce (c++cb) 0);have F7:=F6.keep m6 hbp c7.no;refine km m7 F7.o3 F7.len hnew.len hnew.ones λH8 m8=>?_;exact hX _ _ H8 _ _ m8 ((d6.im m6 c7).setB (nb _ F.n3) (nvT _ F.n3) _) (F7.NC hnew λb hb=>hb) hP3
  have h2:isA C.T [91] i=false:=h2;rw[if_neg (by rw[h2];simp)]at hP;simp only[aj,aN,aI];have F2:=F1.keep m1 hbp c2;refine dC (s:=[40]) (bg (by decide)) m2 d2 (λy j er hi H3 S3 m3 c3 d3=>?_) λh3 H3 S3 m3 c3 d3=>?_
  ·cases er;rw[if_pos hi]at hP;simp only[aj,aN,aH];have F3:=F2.keep m2 hbp c3;refine gH m3 F3.o3 F3.len ?_;rw[iN];refine gq F3.len ?_;rw[G7 F3.len rfl];obtain⟨Q,g1,g2⟩:=F3.re;have n3:=F3.x.1;have lt3:=F3.w.lt m3;refine dj m3 (by rw[F3.len]) g1.ones λH4 m4=>?_;have c4:aO bU S3 (S3.push (.ce c 0)):=(aO.refl _ _).push _;have d4:=d3.im m3 c4;have F4:=F3.keep m3 hbp c4.no;have L4:aX ku (zB S0 b1 b3) (S3.push (.ce c 0)) (.slice S3.n 0 1 1 7 true) [e]:=
    aX.single (R:=ku) (Q:=Q) (LS.av _ _) ⟨by omega,by omega,by omega⟩ (g1.go (λb hb=>LS.bS _ _ (g2 b hb).2.1) λ_ h=>h) λb hb=>⟨⟨(g2 b hb).1,(g2 b hb).2.2⟩,Nat.lt_succ_of_lt (g2 b hb).2.1,by have:=(g2 b hb).2.1;omega⟩
   show C8 (dz (s10 m)) K (yB (dz (s10 m)) K X G.NL) (yA (dz (s10 m)) K X) (.ptr C.bp 0) (d:Int) (.ptr b3 0) (.ptr b1 0) (aB C.T i:Int) (.slice S3.n 0 1 1 7 true) H4;unfold C8;rw[r2];have gu:G.NL=1000000:=rfl;generalize G.NL=eW at gu ⊢;refine dC (s:=[41]) (bg (by decide)) m4 d4 (λy j er hi H5 S5 m5 c5 d5=>?_) λh4 H5 S5 m5 c5 d5=>?_
   ·cases er;simp only[aj,aN,Bool.not_true,aI];cases k with
    |zero=>exact absurd (show(dJ C.T 0 true [] (i+1) d).bind _=.aS by simp only[dJ];rfl) hP.1
    |succ k=>
    have sp:dJ C.T (k+1) true [] (i+1) d=.ok [] (i+1+1):=by
     simp only[dJ,if_true];rw[hi];simp only[Bool.not_true,Bool.false_eq_true,if_false,aU];rw[hi];rfl
    rw[sp]at hP;exact aew hbp de hX (r:=(.ok () (i+1+1):an Unit)) m5 d5 (F4.w.keep m4 hbp c5) (by have:=L4.bp m4 hbp c5;exact this) hP
   ·simp only[aj,aN,Bool.not_false,aH];have h4:isA C.T [41] (i+1)=false:=h4;cases k with
    |zero=>exact absurd (show(dJ C.T 0 true [] (i+1) d).bind _=.aS by simp only[dJ];rfl) hP.1
    |succ k=>
    have sp:dJ C.T (k+1) true [] (i+1) d=(an.ok () (i+1)).bind λ_ i=>xE C.T k [] i d:=by
     show _=xE C.T k [] (i+1) d;simp only[dJ,if_true];rw[h4];rfl
    rw[sp]at hP;exact aoD O hd hbp de hX k (by omega) eW [] _ H5 S5 _ (by omega) (by simp) m5 d5 (F4.w.keep m4 hbp c5) (by have:=L4.bp m4 hbp c5;exact this) hP
  have h3:isA C.T [40] i=false:=h3;rw[if_neg (by rw[h3];simp)]at hP;simp only[aj,aN,aI];exact(F2.keep m2 hbp c3).aoC m3 hbp de (IN d3) hP Su
 ·rw[decide_eq_false (by omega),aI];exact F.aoC hM hbp de (rj hs rfl) hP wJ
theorem aoE(hm:m≤1000000)(O:gr C m)(hd:d≤200)(hbp:C.bp<S0.n)(de:∀b,ak C.vT b→b<S0.n):∀k,2*k+4≤m+1→∀q,k<q→PJ C S0 K b1 b3 k d (Da (dz (s10 m)) K q):=by
 intro k
 induction k with
 |zero=>
  intro hk q hq e c H S γ r hM hs F hP;obtain⟨q,rfl⟩:∃p,q=p+1:=⟨q-1,by omega⟩
  exact aez hm O hd hbp de hk (λk' h=>absurd h (by omega)) e c H S r hM hs F hP
 |succ k ih=>
  intro hk q hq e c H S γ r hM hs F hP;obtain⟨q,rfl⟩:∃p,q=p+1:=⟨q-1,by omega⟩
  exact aez hm O hd hbp de hk (λk' h=>by
   obtain rfl:k=k':=by omega
   exact ih (by omega) q (by omega)) e c H S r hM hs F hP
end
theorem x107{m:Nat}(hm:m≤1000000)(O:gr C m):∀k,2*k+4≤m+1→∀{K:KF}{H:AH}{S S0:LS}{d:Nat}{c:List AV}{e:al}{γ:Type}{r:an γ},d≤200→Mem H S→aO (bE C) S0 S→C.bp<S0.n→(∀b,ak C.vT b→b<S0.n)→bj C S r→RE S (jd S0.n S.n) c e→aW C (bE C) dS K S0 (r.bind λ_ i=>cK C.T k e i d)→(s10 (m+1)).2.2.2.2.2.1 (.ptr C.bp 0) (.agg c) (d:Int) H K:=by
 intro k hk K H S S0 d c e γ r hd hM hx hbp de hs hR hP;have e7:(s10 (m+1)).2.2.2.2.2.1=Db (dz (s10 m)):=by rw[Ab]
 rw[e7];unfold Db V0 KX;have gu:G.NL=1000000:=rfl;generalize G.NL=eW at gu ⊢;refine JR hM hR.ones λH1 m1=>?_;rw[jy];refine eT (dp m1 fg λH2 m2=>?_);have c2:aO bU S ((S.push (.ce c 0)).push (.ce z7 0)):=((aO.refl _ _).push _).push _;have n0:=hx.1;refine aoE hm O hd hbp de k (by omega) eW (by omega) e c H2 _ r m2 (hs.im hM c2) ⟨hx.trans c2.no,⟨z7,LS.av _ _,rfl⟩,?_,by show S0.n≤S.n+1;omega,n0,by show S.n+1≠S.n;omega,jd S0.n S.n,hR.go (λb hb=>c2.2 b hb.2 λq=>q) (λ_ h=>h),λb hb=>⟨hb.1,Nat.lt_of_lt_of_le hb.2 c2.1,by have:=hb.2;show b≠S.n+1;omega,by have:=hb.2;omega⟩⟩ hP;rw[LS.bS _ _ (by show S.n<S.n+1;omega)];exact LS.av _ _
end
section
variable {H:AH}{S:LS}{K:KF}{C:Ctx}{i d:Nat}
theorem ajD{T:List Tok}{s:List Nat}{i:Nat}(h:isA T s i=true):cC T i=1∨cC T i=5:=by
 unfold isA at h;simp only[Bool.and_eq_true,Bool.or_eq_true,decide_eq_true_eq]at h;exact h.1
theorem PK(T:List Tok)(k a i d:Nat):iH T (k+1) a i d=(pFn T k i d).bind λf j=>.ok (.mk 7 a 0 [] 0 [] [f]) j:=by
 unfold pFn;simp only[iH,bK];rfl
theorem RE.fn{Q:Nat→Prop}{at_ b m:Nat}{ex:Bool}{f:eV}{c:List AV}(hQ:Q b)(hb:S.ob b=.ce c m)(h1:RF S Q c f):RE S Q [.int 0 ((7:Nat):Int),.int 0 (at_:Int),.int 0 ((0:Nat):Int),ai [],.int 0 ((0:Nat):Int),.ab,.slice b 0 1 1 2 ex] (.mk 7 at_ 0 [] 0 [] [f]):=by
 refine .mk 7 at_ 0 [] 0 [] [f] .ab _ (λ_=>[]) (λ_=>c) B8.nil (eu.nil _ _ _ _) (λi e h=>by simp at h) (eu.single hQ hb h1.len) (λi e h=>?_);cases i with
 |zero=>
  have e1:f=e:=by simpa using h
  subst e1;exact h1
 |succ i=>simp at h
theorem Sv{k:AH→Prop}{γ:Type}{a:γ}(hM:Mem H S)(hs:bj C S (an.ok a i))(hlt:i+1<C.T.length)(hk:∀H' S',Mem H' S'→aO (bE C) S S'→bj C S' (.ok () (i+1):an Unit)→k H') :
  au (.ptr C.bp 0) (ag 1 (.ptr C.bp 0) λv9=>ad v9 H λv10=>cI 0 v10 λz11=>aC 0 (Int.add z11 (.ofNat 1)) λz12=>au (.ptr C.bp 0) (ag 1 (.ptr C.bp 0) λv13=>ah 1 v13 (.int 0 z12) H k)):=by
 have hfew:=C.few;simp only[bV,aM,Nat.zero_add];refine az hM hs.ob (v:=.int 0 (i:Int)) rfl ?_;simp only[aK,dh,dX];refine w0 (by omega) (by omega) ?_;refine bJ hM hs.ob (by omega) (by show 1<4;omega) rfl λH2 m2=>?_;exact hk H2 _ m2 (aO.G8 (aO.refl _ _) _) (hs.ok () hlt)
theorem x167{m:Nat}(hm:m≤1000000)(O:gr C m):∀k,2*k+4≤m+1→mr C (λd H K=>(s10 (m+1)).2.2.2.2.2.2.2.2.1 (.ptr C.bp 0) (d:Int) H K) (iW C.T k):=by
 intro k hk K H S i d γ x hd hM hs hP;cases k with
 |zero=>exact absurd (show iW C.T 0 i d=.aS by simp only[iW]) hP.1
 |succ k=>
 have r1:(fT (s10 m)).1=f18:=rfl;have r2:(fT (s10 m)).2.1=f39:=rfl;have r3:(fT (s10 m)).2.2.1=f40:=rfl;have r4:(fT (s10 m)).2.2.2.1=(s10 m).2.1:=rfl;have r5:(fT (s10 m)).2.2.2.2.1=(s10 m).2.2.2.2.1:=rfl;have r6:(fT (s10 m)).2.2.2.2.2.1=f59:=rfl;have r7:(fT (s10 m)).2.2.2.2.2.2.1=(s10 m).2.2.2.2.2.1:=rfl;have r8:(fT (s10 m)).2.2.2.2.2.2.2=(s10 m).2.2.2.2.2.2.2.2.2:=rfl;have e0:Int.ofNat 0=((0:Nat):Int):=rfl;have e2:Int.ofNat 2=((2:Nat):Int):=rfl;have e3:Int.ofNat 3=((3:Nat):Int):=rfl;have e4:Int.ofNat 4=((4:Nat):Int):=rfl;show Dl (fT (s10 m)) K (Lb (fT (s10 m)) K) (.ptr C.bp 0) (d:Int) H;unfold Dl;rw[r2,jy];simp only[iW]at hP;have hbp:=hs.nu hM;have de:∀b,ak C.vT b→b<S.n:=λb hb=>hs.tk.lt hM hb;have fk:∀b,S.n≤b→¬bE C b:=λb hb q=>by have q:b=C.bp:=q;omega
 refine eT (dp hM fg λH1 m1=>?_);have c1:aO bU S (S.push (.ce z7 0)):=(aO.refl _ _).push _;have d1:=hs.im hM c1;have o1:(S.push (.ce z7 0)).ob S.n=.ce z7 0:=LS.av _ _;refine lf m1 d1 ?_;rw[aj,aK];have rF:(an.ok x i).ix=i:=rfl;rw[rF];simp only[bV,aM,Nat.zero_add];refine az m1 d1.ob (v:=C.vT) rfl ?_;refine az m1 d1.ob (v:=.int 0 (i:Int)) rfl ?_;simp only[aK];refine d1.tk.load m1 d1.lt ?_;rw[AW (show i<C.T.length from hs.lt)];refine m1.cP (eT (dp m1 (λa ha=>?_) λH2 m2=>cG (ry (by rw[m2.n,m1.n];rfl)) ?_))
 ·simp only[List.mem_cons,List.not_mem_nil,or_false]at ha;rcases ha with rfl|rfl|rfl|rfl<;>rfl
 refine oY m2 (LS.av _ _) (by omega) rfl (by show 0+4≤4;omega) afW λH3 m3=>?_;have m3:Mem H3 (((S.push (.ce z7 0)).push (.ce [.int 0 (.ofNat 0),.str 0 0,.int 0 (.ofNat 0),.int 0 (.ofNat 0)] 0)).set (S.n+1) (.ce (nx C.T i) 0)):=m3;have c3:aO bU S (((S.push (.ce z7 0)).push (.ce [.int 0 (.ofNat 0),.str 0 0,.int 0 (.ofNat 0),.int 0 (.ofNat 0)] 0)).set (S.n+1) (.ce (nx C.T i) 0)):=(c1.push _).set (.inr (Nat.le_succ _)) _;have d3:=hs.im hM c3;have o3:(((S.push (.ce z7 0)).push (.ce [.int 0 (.ofNat 0),.str 0 0,.int 0 (.ofNat 0),.int 0 (.ofNat 0)] 0)).set (S.n+1) (.ce (nx C.T i) 0)).ob S.n=.ce z7 0:=by
  rw[LS.aq _ _ (by omega),LS.bS _ _ (by show S.n<S.n+1;omega)];exact o1
 have t3:(((S.push (.ce z7 0)).push (.ce [.int 0 (.ofNat 0),.str 0 0,.int 0 (.ofNat 0),.int 0 (.ofNat 0)] 0)).set (S.n+1) (.ce (nx C.T i) 0)).ob (S.n+1)=.ce (nx C.T i) 0:=LS.ay _ _ _;revert m3 c3 d3 o3 t3;generalize ((S.push (.ce z7 0)).push (.ce [.int 0 (.ofNat 0),.str 0 0,.int 0 (.ofNat 0),.int 0 (.ofNat 0)] 0)).set (S.n+1) (.ce (nx C.T i) 0)=S3;intro m3 c3 d3 o3 t3;show Dk (fT (s10 m)) K (K6 (fT (s10 m)) K) (K7 (fT (s10 m)) K) (K8 (fT (s10 m)) K) (K9 (fT (s10 m)) K) (La (fT (s10 m)) K) (.ptr C.bp 0) (d:Int) (.ptr S.n 0) (aB C.T i:Int) (.ptr (S.n+1) 0) H3;unfold Dk;rw[r3,r4,r5,r8];have n3:S.n+1<S3.n:=m3.lt (by rw[t3];simp);refine iq m3 d3 ?_;have rcd:(an.ok x i).cd=0:=rfl;rw[rcd,aZ,e0,decide_eq_true rfl];simp only[Bool.not_true,aI];have lone:∀{H4:AH}{S4:LS}{kd nn:Nat}{tx:List Nat},B8 tx→aW C (bE C) dS K S (.ok (.mk kd (aB C.T i) nn tx 0 [] []) (i+1))→Mem H4 S4→aO (bE C) S S4→bj C S4 (.ok () (i+1):an Unit)→S4.ob S.n=.ce z7 0→
   ah 7 (.ptr S.n 0) (.agg [.int 0 (kd:Int),.int 0 (aB C.T i:Int),.int 0 (nn:Int),ai tx,.int 0 ((0:Nat):Int),.ab,.ab]) H4 λH5=>aQ 7 (.ptr S.n 0) H5 λv48=>K (.ret v48) H5:=by
  intro H4 S4 kd nn tx h8 hP m4 c4 d4 o4;exact Ac (z:=z7) (Q:=λ_=>False) hM hs hP m4 c4 (IN d4) o4 rfl ⟨_,rfl,RE.simple h8⟩ (λb hb=>hb.elim) Su
 have j0:∀{H4:AH}{S4:LS}{j:Int}{P Q:Prop},Mem H4 S4→S4.ob (S.n+1)=.ce (nx C.T i) 0→bI (decide ((cC C.T i:Int)=j)) P Q→ag 0 (.ptr (S.n+1) 0) λv6=>ad v6 H4 λv7=>cI 0 v7 λz8=>bI (bA z8 j) P Q:=by
  intro H4 S4 j P Q m4 t4 h;rw[aM];refine az m4 t4 (v:=.int 0 (cC C.T i:Int)) rfl ?_;rw[aK,aZ];exact h
 refine j0 m3 t3 ?_;rw[e2];by_cases g2:cC C.T i=2
 ·rw[decide_eq_true (by omega),aH];rw[if_pos (.inl g2)]at hP;cases k with
  |zero=>exact absurd (show(dW C.T 0 i d).bind _=.aS by simp only[dW];rfl) hP.1
  |succ k=>
  have sp:dW C.T (k+1) i d=.ok (.mk 6 (aB C.T i) 0 (fU C.T i) 0 [] []) (i+1):=by
   simp only[dW];rw[if_neg (by omega),if_neg (by omega),if_pos g2]
  rw[sp]at hP;refine Sv m3 d3 (kZ C.ok (by omega)) λH4 S4 m4 c4 d4=>?_;have t4:=c4.ob m3 t3 (fk _ (by omega));have o4:=c4.ob m3 o3 (fk _ (Nat.le_refl _));have Ge:=c3.no.trans c4;show Df (fT (s10 m)) K (.ptr C.bp 0) (d:Int) (.ptr S.n 0) (aB C.T i:Int) (.ptr (S.n+1) 0) H4;unfold Df;rw[r7,aM];refine az m4 t4 (v:=ai (fU C.T i)) rfl ?_;refine eY (kX _) ?_;have hR:RE S4 (jd S4.n S4.n) [.int 0 ((6:Nat):Int),.int 0 (aB C.T i:Int),.int 0 ((0:Nat):Int),ai (fU C.T i),.int 0 ((0:Nat):Int),.ab,.ab] (.mk 6 (aB C.T i) 0 (fU C.T i) 0 [] []):=RE.simple (wG C i);have n4:=Ge.1;have n34:=c4.1;refine O.behind (k+1) (by omega) hd m4 (S0:=S4) (aO.refl _ _) (by omega) (λb hb=>by have:=de b hb;omega) d4 hR (aW.tail (eO:=dS) (show aW C (bE C) dS K S ((an.ok () (i+1)).bind λ_ i=>_)from hP) λe H5 S5 v m5 c5 d5 hv hfin=>?_);obtain⟨c,hv,hR⟩:=hv;subst hv;refine km m5 (c5.ob m4 o4 (fk _ (Nat.le_refl _))) rfl hR.len hR.ones λH6 m6=>?_;refine gH m6 (LS.ay _ _ _) hR.len ?_;exact hfin H6 _ _ m6 ((Ge.trans c5).set (.inr (Nat.le_refl _)) _) (d5.qu hs hM (Nat.le_refl _) _) ⟨c,rfl,hR.go (λb hb=>LS.aq _ _ (by have:=hb.1;omega)) λb hb=>⟨by have:=hb.1;omega,hb.2⟩⟩
 rw[decide_eq_false (by omega),aI];refine dC (s:=[40]) (bg (by decide)) m3 d3 (λy j er hi H4 S4 m4 c4 d4=>?_) λh1 H4 S4 m4 c4 d4=>?_
 ·cases er;simp only[aj,aN,aH];rw[if_pos (.inr hi)]at hP;have k15:=ajD hi;cases k with
  |zero=>exact absurd (show(dW C.T 0 i d).bind _=.aS by simp only[dW];rfl) hP.1
  |succ k=>
  have nl:mQ C.T i=0∧isA C.T [102,117,110,99,116,105,111,110] i=false∧isA C.T [123] i=false:=by
   have ht:fU C.T i=[40]:=by
    unfold isA at hi;simp only[Bool.and_eq_true,decide_eq_true_eq]at hi;exact hi.2
   have ne:∀s:List Nat,s≠[40]→isA C.T s i=false:=λs hs=>by
    unfold isA;rw[ht,decide_eq_false (p:=[40]=s) λq=>hs q.symm,Bool.and_false]
   refine⟨?_,ne _ (by decide),ne _ (by decide)⟩;unfold mQ;rw[ne _ (by decide),ne _ (by decide),ne _ (by decide)];rfl
  have sp:dW C.T (k+1) i d=(bW C.T k (i+1) d).bind λe j=>(aU C.T [41] j).bind λ_ j=>.ok e j:=by
   simp only[dW];rw[if_neg (by omega),if_neg (by omega),if_neg g2,if_neg (by omega),if_neg (by rw[nl.2.1];simp),if_neg (by rw[nl.2.2];simp),if_pos hi]
  rw[sp,bK]at hP;have Ge:=c3.no.trans c4;have o4:=c4.ob m3 o3 (fk _ (Nat.le_refl _));have n4:=c4.1;refine O.exp k (by omega) hd m4 d4 (aW.call (eO:=dS) hP λe H5 S5 v m5 c5 d5 ⟨c,hv,hR⟩ hP2=>?_);subst hv;have o5:=c5.ob m4 o4 (fk _ (Nat.le_refl _));have n5:=c5.1;refine eT ?_;rw[jy];refine dp m5 fg λH6 m6=>?_;refine km m6 (LS.av _ _) rfl hR.len hR.ones λH7 m7=>?_;have c7:aO bU S5 ((S5.push (.ce z7 0)).set S5.n (.ce c 0)):=((aO.refl _ _).push _).set (.inr (Nat.le_refl _)) _;have d7:=d5.im m5 c7;have o7:=c7.ob m5 o5 λq=>q;have b7:LS.ob _ S5.n=_:=LS.ay (S5.push (.ce z7 0)) S5.n (.ce c 0);show Dg (fT (s10 m)) K (.ptr C.bp 0) (d:Int) (.ptr S.n 0) (.ptr S5.n 0) H7;unfold Dg;rw[r6,r7];have hP3:aW C (bE C) dS K S ((an.bind (an.bind (an.ok () (i+1)) λ_ i=>bW C.T k i d) λ_ j=>aU C.T [41] j).bind λ_ j=>cK C.T (k+1) e j d):=by
   have e1:(an.bind (an.bind (an.ok () (i+1)) λ_ i=>bW C.T k i d) λ_ j=>((aU C.T [41] j).bind λ_ j=>.ok e j).bind λe j=>cK C.T (k+1) e j d)=((an.bind (an.bind (an.ok () (i+1)) λ_ i=>bW C.T k i d) λ_ j=>aU C.T [41] j).bind λ_ j=>cK C.T (k+1) e j d):=by
    rw[bK (an.bind (an.ok () (i+1)) λ_ i=>bW C.T k i d) (λ_ j=>aU C.T [41] j)];congr 1;funext _ j;rw[bK];rfl
   rw[←e1];exact hP2
  refine kC (s:=[41]) (bg (by decide)) m7 d7 (aW.call (eO:=ny) hP3 λ_ H8 S8 w m8 c8 d8 _ wK=>?_);have b8:=c8.ob m7 b7 (fk _ (by omega));have o8:=c8.ob m7 o7 (fk _ (Nat.le_refl _));refine gH m8 b8 hR.len ?_;have R8:RE S8 (jd S4.n S8.n) c e:=hR.go (λb hb=>by
   rw[c8.2 b (Nat.lt_of_lt_of_le hb.2 c7.1) (fk _ (by have:=hb.1;omega))];exact c7.2 b hb.2 λq=>q) λb hb=>⟨hb.1,Nat.lt_of_lt_of_le hb.2 (Nat.le_trans c7.1 c8.1)⟩
  have x48:aO (bE C) S4 S8:=(c5.trans c7.no).trans c8;refine O.behind (k+1) (by omega) hd m8 (S0:=S4) x48 (by omega) (λb hb=>by have:=de b hb;omega) d8 R8 (aW.tail (eO:=dS) wK λe' H9 S9 v m9 c9 d9 hv hfin=>?_);obtain⟨c',hv,hR'⟩:=hv;subst hv;refine km m9 (c9.ob m4 o4 (fk _ (Nat.le_refl _))) rfl hR'.len hR'.ones λHa ma=>?_;refine gH ma (LS.ay _ _ _) hR'.len ?_;exact hfin Ha _ _ ma ((Ge.trans c9).set (.inr (Nat.le_refl _)) _) (d9.qu hs hM (Nat.le_refl _) _) ⟨c',rfl,hR'.go (λb hb=>LS.aq _ _ (by have:=hb.1;omega)) λb hb=>⟨by have:=hb.1;omega,hb.2⟩⟩
 have h1:isA C.T [40] i=false:=h1;simp only[aj,aN,aI];rw[if_neg (by rintro(q|q);exact g2 q;rw[h1]at q;cases q)]at hP;have t4:=c4.ob m3 t3 (fk _ (by omega));have o4:=c4.ob m3 o3 (fk _ (Nat.le_refl _));have Ge:=c3.no.trans c4;cases k with
 |zero=>exact absurd (show dW C.T 0 i d=.aS by simp only[dW]) hP.1
 |succ k=>
 simp only[dW]at hP;refine j0 m4 t4 ?_;rw[e3];by_cases g3:cC C.T i=3
 ·rw[decide_eq_true (by omega),aH];rw[if_pos g3]at hP;refine Sv m4 d4 (kZ C.ok (by omega)) λH5 S5 m5 c5 d5=>?_;show Dh (fT (s10 m)) K (.ptr S.n 0) (aB C.T i:Int) (.ptr (S.n+1) 0) H5;unfold Dh;rw[aM];refine az m5 (c5.ob m4 t4 (fk _ (by omega))) (v:=.int 0 (Nw C.T i:Int)) rfl ?_;rw[aK];exact lone (kd:=4) B8.nil hP m5 (Ge.trans c5) d5 (c5.ob m4 o4 (fk _ (Nat.le_refl _)))
 rw[decide_eq_false (by omega),aI];rw[if_neg g3]at hP;refine j0 m4 t4 ?_;rw[e4];by_cases g4:cC C.T i=4
 ·rw[decide_eq_true (by omega),aH];rw[if_pos g4]at hP;refine Sv m4 d4 (kZ C.ok (by omega)) λH5 S5 m5 c5 d5=>?_;show Di (fT (s10 m)) K (.ptr S.n 0) (aB C.T i:Int) (.ptr (S.n+1) 0) H5;unfold Di;rw[aM];refine az m5 (c5.ob m4 t4 (fk _ (by omega))) (v:=ai (fU C.T i)) rfl ?_;refine eY (kX _) ?_;exact lone (kd:=5) (nn:=0) (wG C i) hP m5 (Ge.trans c5) d5 (c5.ob m4 o4 (fk _ (Nat.le_refl _)))
 rw[decide_eq_false (by omega),aI];rw[if_neg g4,if_neg g2]at hP;refine dC (s:=[110,105,108]) (bg (by decide)) m4 d4 (λy j er hi H5 S5 m5 c5 d5=>?_) λh2 H5 S5 m5 c5 d5=>?_
 ·cases er;simp only[aj,aN,aH];have el:mQ C.T i=1:=by unfold mQ;rw[hi];rfl
  rw[el,if_pos (by omega)]at hP;exact lone (kd:=1) (nn:=0) (tx:=[]) B8.nil hP m5 (Ge.trans c5) d5 (c5.ob m4 o4 (fk _ (Nat.le_refl _)))
 have h2:isA C.T [110,105,108] i=false:=h2;simp only[aj,aN,aI];have o5:=c5.ob m4 o4 (fk _ (Nat.le_refl _));have c05:=Ge.trans c5;refine dC (s:=[116,114,117,101]) (bg (by decide)) m5 d5 (λy j er hi H6 S6 m6 c6 d6=>?_) λh3 H6 S6 m6 c6 d6=>?_
 ·cases er;simp only[aj,aN,aH];have el:mQ C.T i=2:=by unfold mQ;rw[h2,hi];rfl
  rw[el,if_pos (by omega)]at hP;exact lone (kd:=2) (nn:=0) (tx:=[]) B8.nil hP m6 (c05.trans c6) d6 (c6.ob m5 o5 (fk _ (Nat.le_refl _)))
 have h3:isA C.T [116,114,117,101] i=false:=h3;simp only[aj,aN,aI];have o6:=c6.ob m5 o5 (fk _ (Nat.le_refl _));have c06:=c05.trans c6;refine dC (s:=[102,97,108,115,101]) (bg (by decide)) m6 d6 (λy j er hi H7 S7 m7 c7 d7=>?_) λh4 H7 S7 m7 c7 d7=>?_
 ·cases er;simp only[aj,aN,aH];have el:mQ C.T i=3:=by unfold mQ;rw[h2,h3,hi];rfl
  rw[el,if_pos (by omega)]at hP;exact lone (kd:=3) (nn:=0) (tx:=[]) B8.nil hP m7 (c06.trans c7) d7 (c7.ob m6 o6 (fk _ (Nat.le_refl _)))
 have h4:isA C.T [102,97,108,115,101] i=false:=h4;simp only[aj,aN,aI];have o7:=c7.ob m6 o6 (fk _ (Nat.le_refl _));have c07:=c06.trans c7;have el:mQ C.T i=0:=by unfold mQ;rw[h2,h3,h4];rfl
 rw[el,if_neg (by omega)]at hP;refine dC (s:=[102,117,110,99,116,105,111,110]) (bg (by decide)) m7 d7 (λy j er hi H8 S8 m8 c8 d8=>?_) λh5 H8 S8 m8 c8 d8=>?_
 ·cases er;simp only[aj,aN,aH];rw[if_pos hi]at hP;have o8:=c8.ob m7 o7 (fk _ (Nat.le_refl _));have c08:=c07.trans c8;cases k with
  |zero=>exact absurd (show iH C.T 0 (aB C.T i) (i+1) d=.aS by simp only[iH]) hP.1
  |succ k=>
  rw[PK]at hP;have n8:S.n<S8.n:=m8.lt (by rw[o8];simp);refine O.body k (by omega) hd m8 d8 (aW.call (eO:=rE) (show aW C (bE C) dS K S ((an.bind (an.ok () (i+1)) λ_ i=>pFn C.T k i d).bind λf j=>.ok (.mk 7 (aB C.T i) 0 [] 0 [] [f]) j)from hP) λf H9 S9 v m9 c9 d9 ⟨c,hv,hR⟩ hP2=>?_);subst hv;rw[iN];refine gq hR.len ?_;rw[aot hR.len rfl];refine dj m9 (by rw[hR.len]) hR.ones λHa ma=>eY rfl ?_;have ca:aO bU S9 (S9.push (.ce c 0)):=(aO.refl _ _).push _;have n9:=c9.1;exact Ac (z:=z7) (Q:=λb=>S.n<b∧b<(S9.push (.ce c 0)).n) hM hs hP2 ma ((c08.trans c9).trans ca.no) ((d9.im m9 ca).ret _) (ca.ob m9 (c9.ob m8 o8 (fk _ (Nat.le_refl _))) λq=>q) rfl ⟨_,rfl,RE.fn (b:=S9.n) (m:=0) ⟨by omega,Nat.lt_succ_self _⟩ (LS.av _ _) (hR.go (λb hb=>LS.bS _ _ hb.2) λb hb=>⟨by have:=hb.1;omega,Nat.lt_succ_of_lt hb.2⟩)⟩ (λb hb=>hb) pT
 have h5:isA C.T [102,117,110,99,116,105,111,110] i=false:=h5;simp only[aj,aN,aI];rw[if_neg (by rw[h5];simp)]at hP;have o8:=c8.ob m7 o7 (fk _ (Nat.le_refl _));have c08:=c07.trans c8;refine dC (s:=[123]) (bg (by decide)) m8 d8 (λy j er hi H9 S9 m9 c9 d9=>?_) λh6 H9 S9 m9 c9 d9=>?_
 ·cases er;simp only[aj,aN,aH];rw[if_pos hi]at hP;have o9:=c9.ob m8 o8 (fk _ (Nat.le_refl _));have c09:=c08.trans c9;have n9:S.n<S9.n:=m9.lt (by rw[o9];simp);refine O.table k (by omega) hd m9 d9 (aW.tail (eO:=dS) hP λe Ha Sa v ma ca da hv hfin=>?_);obtain⟨c,hv,hR⟩:=hv;subst hv;refine km ma (ca.ob m9 o9 (fk _ (Nat.le_refl _))) rfl hR.len hR.ones λHb mb=>?_;refine gH mb (LS.ay _ _ _) hR.len ?_;exact hfin Hb _ _ mb ((c09.trans ca).set (.inr (Nat.le_refl _)) _) (da.qu hs hM (Nat.le_refl _) _) ⟨c,rfl,hR.go (λb hb=>LS.aq _ _ (by have:=hb.1;omega)) λb hb=>⟨by have:=hb.1;omega,hb.2⟩⟩
 have h6:isA C.T [123] i=false:=h6;simp only[aj,aN,aI];rw[if_neg (by rw[h6];simp),if_neg (by rw[h1];simp)]at hP;have o9:=c9.ob m8 o8 (fk _ (Nat.le_refl _));have c09:=c08.trans c9;show Dj (fT (s10 m)) K (.ptr C.bp 0) (.ptr S.n 0) H9;unfold Dj;rw[r1];refine qv (c:=14) (by omega) (by omega) m9 d9 λHa Sa ma ca da=>?_;rw[aj];exact Ac (z:=z7) (e:=.mk 0 0 0 [] 0 [] []) (Q:=λ_=>False) hM hs hP ma (c09.trans ca) (rj da rfl) (ca.ob m9 o9 (fk _ (Nat.le_refl _))) rfl ⟨z7,rfl,RE.zero⟩ (λb hb=>hb.elim) wJ
end
end Go.Proofs.YtcedghechlgecaaDoor
namespace Go.X
section
variable {H:AH}{S S':LS}
theorem aX.ap0{α:Type}{R:Rep α}{Z:Nat→Prop}{v v':AV}{l l2:List α}{ti:List (List AV)}(h:aX R Z S v l)(h2l:ti.length=l2.length)(hr:∀(i:Nat) (c:List AV) (a:α),ti[i]? = some c→l2[i]? = some a→∃Q,R.rel S Q c a∧∀b,Q b→Z b∧b<S.n∧¬ak v b)(hnew:∀b,S.n≤b→Z b)
  (hs:∀cl,ff S R.sz v l.length cl→rz S v (l.length+l2.length) R.sz (cl++ti.flatten) S' v'):aX R Z S' v' (l++l2):=by
 obtain⟨cl,h1,h2,h3,h4⟩:=h;obtain⟨a1,a2,a3,a4⟩:=hs _ h1;refine⟨cl++ti,?_,by simp[h2,h2l],λb hb'=>?_,λi c' a' hc ha=>?_⟩
 ·rw[List.flatten_append,List.length_append];exact a3
 ·rcases a4 b hb' with g|g
  ·exact h3 b g
  ·exact hnew b g
 ·have fin:∀{Q:Nat→Prop}{c:List AV}{a:α},R.rel S Q c a→(∀b,Q b→Z b∧b<S.n∧¬ak v b)→∃Q,R.rel S' Q c a∧∀b,Q b→Z b∧b<S'.n∧¬ak v' b:=λ{Q c a} g1 g2=>
   ⟨Q,R.go (λb hb=>a2 b (g2 b hb).2.1 (g2 b hb).2.2) (λ_ h=>h) g1,λb hb=>⟨(g2 b hb).1,Nat.lt_of_lt_of_le (g2 b hb).2.1 a1,λhb'=>by
    rcases a4 b hb' with q|q
    ·exact(g2 b hb).2.2 q
    ·have:=(g2 b hb).2.1;omega⟩⟩
  by_cases hi:i<cl.length
  ·rw[List.getElem?_append_left hi]at hc;rw[List.getElem?_append_left (by omega)]at ha;obtain⟨Q,g1,g2⟩:=h4 i c' a' hc ha;exact fin g1 g2
  ·rw[List.getElem?_append_right (by omega)]at hc ha;rw[h2]at hc;obtain⟨Q,g1,g2⟩:=hr _ c' a' hc ha;exact fin g1 g2
theorem aX.Sw{α:Type}{R:Rep α}{Z:Nat→Prop}{bytes:Nat}{v x:AV}{l l2:List α}{ti:Nat→List AV}{Q:Nat→Prop}{k:AV→AH→Prop}(h:aX R Z S v l)(hM:Mem H S)(h2:l2.length=2)(hx:eu S Q R.sz x l2.length ti)(hr:∀i e,l2[i]? = some e→∃Q,R.rel S Q (ti i) e∧∀b,Q b→Z b∧b<S.n∧¬ak v b)(hnew:∀b,S.n≤b→Z b)(hl:(l.length+2)*bytes≤1099511627776)
  (hk:∀H' S' v',Mem H' S'→aX R Z S' v' (l++l2)→S.n≤S'.n→(∀b,b<S.n→¬ak v b→S'.ob b=S.ob b)→(∀b,ak v' b→ak v b∨S.n≤b)→k v' H'):cO R.sz bytes v x H k:=by
 obtain⟨cl,h1,hh⟩:=id h;have gt:∀i,i<l2.length→(ti i).length=R.sz∧∀a∈ti i,a.one=true:=λi hi=>by
  obtain⟨Q',g,_⟩:=hr i _ (List.getElem?_eq_getElem hi);exact⟨R.len g,R.ones g⟩
 refine aor (n':=l2.length) hM h1 (.inl (by omega)) R.pos hx (λi hi=>(gt i hi).2) (by rw[h2];exact hl) λH' S' v' l' m' hl' hcl he=>?_;have el:l'=([ti 0,ti 1]:List (List AV)).flatten:=by
  have e0:=hcl 0 (by omega);have e1:=hcl 1 (by omega);rw[Nat.zero_mul,List.drop_zero]at e0;rw[Nat.one_mul,List.take_of_length_le (by rw[List.length_drop];rw[h2]at hl';omega)]at e1;rw[←e0,←e1];simp
 refine hk H' S' v' m' (h.ap0 (ti:=[ti 0,ti 1]) (by rw[h2];rfl) (λi c a hc ha=>?_) hnew λcl' h'=>?_) he.1 he.2.1 he.2.2.2
 ·have hi:i<l2.length:=(List.getElem?_eq_some_iff.1 ha).1;have ec:c=ti i:=by
   have hi2:i=0∨i=1:=by omega
   rcases hi2 with rfl|rfl<;>(simp at hc;exact hc.symm)
  subst ec;exact hr i a ha
 ·rw[h1.uniq h',←el];exact he
end
end Go.X
namespace Go.Proofs.YtcedghechlgecaaDoor
open Go Go.X Go.Proofs.YtcedghechlgecaaDoor.G
section
variable {H:AH}{S:LS}{K:KF}{C:Ctx}{i d:Nat}
structure uz(C:Ctx)(S0:LS)(Z:Nat→Prop)(S:LS)(b1 b3 a:Nat)(v:AV)(out:List al):Prop where
 w:qb C S0 S b1 b3
 o3:S.ob b3=.ce (tg a v) 0
 L:aX ku Z S v out
 hZ:∀b,Z b→zB S0 b1 b3 b
theorem uz.keep{S0 S':LS}{Z:Nat→Prop}{b1 b3 a:Nat}{v:AV}{out:List al}(h:uz C S0 Z S b1 b3 a v out)(hM:Mem H S)(hbp:C.bp<S0.n)(g:aO (bE C) S S'):uz C S0 Z S' b1 b3 a v out:=
 ⟨h.w.keep hM hbp g,g.ob hM h.o3 λq=>by have q:b3=C.bp:=q;have:=h.w.n3;omega,h.L.keep hM g.1 λb h1 h2=>g.2 b h2 λq=>by have q:b=C.bp:=q;have:=(h.hZ b h1).1;omega,h.hZ⟩
def zK(S0:LS)(b1 b3 bk:Nat):Nat→Prop:=λb=>zB S0 b1 b3 b∧b≠bk
structure wL(S0 S:LS)(b1 b3 bk:Nat)(v:AV)(ck:List AV)(kk:al):Prop where
 o:S.ob bk=.ce ck 0
 z:zB S0 b1 b3 bk
 nv:¬ak v bk
 re:∃Q,RE S Q ck kk∧∀b,Q b→zB S0 b1 b3 b∧b<S.n∧¬ak v b
theorem wL.keep{S0 S':LS}{b1 b3 bk:Nat}{v:AV}{ck:List AV}{kk:al}(h:wL S0 S b1 b3 bk v ck kk)(hM:Mem H S)(hbp:C.bp<S0.n)(g:aO (bE C) S S'):wL S0 S' b1 b3 bk v ck kk:=by
 have nb:∀b,S0.n≤b→¬bE C b:=λb hb q=>by have q:b=C.bp:=q;omega
 obtain⟨Q,h1,h2⟩:=h.re;exact⟨g.ob hM h.o (nb _ h.z.1),h.z,h.nv,Q,h1.go (λb hb=>g.2 b (h2 b hb).2.1 (nb _ (h2 b hb).1.1)) (λ_ h=>h),λb hb=>⟨(h2 b hb).1,Nat.lt_of_lt_of_le (h2 b hb).2.1 g.1,(h2 b hb).2.2⟩⟩
theorem wL.len{S0:LS}{b1 b3 bk:Nat}{v:AV}{ck:List AV}{kk:al}(h:wL S0 S b1 b3 bk v ck kk):ck.length=7:=by obtain⟨Q,h1,_⟩:=h.re;exact h1.len
theorem wL.ones{S0:LS}{b1 b3 bk:Nat}{v:AV}{ck:List AV}{kk:al}(h:wL S0 S b1 b3 bk v ck kk):∀a∈ck,a.one=true:=by obtain⟨Q,h1,_⟩:=h.re;exact h1.ones
theorem wL.set{S0:LS}{b1 b3 bk kind at_ n op:Nat}{v:AV}{ck:List AV}{kk:al}{s:List Nat}(h:wL S0 S b1 b3 bk v ck kk)(h8:B8 s) :
  wL S0 (S.set bk (.ce [.int 0 (kind:Int),.int 0 (at_:Int),.int 0 (n:Int),ai s,.int 0 (op:Int),.ab,.ab] 0)) b1 b3 bk v [.int 0 (kind:Int),.int 0 (at_:Int),.int 0 (n:Int),ai s,.int 0 (op:Int),.ab,.ab] (.mk kind at_ n s op [] []):=
 ⟨LS.ay _ _ _,h.z,h.nv,λ_=>False,RE.simple h8,λb hb=>hb.elim⟩
theorem uz.gT{S0:LS}{b1 b3 bk a:Nat}{v:AV}{out:List al}(h:uz C S0 (zK S0 b1 b3 bk) S b1 b3 a v out)(hM:Mem H S)(hz:zB S0 b1 b3 bk)(o:gm):uz C S0 (zK S0 b1 b3 bk) (S.set bk o) b1 b3 a v out:=by
 obtain⟨z,hz1,nz⟩:=h.w.o1;obtain⟨y,hy1,hy7⟩:=h.w.o3;exact⟨⟨h.w.x.set (.inr hz.1) _,⟨z,(LS.aq _ _ (Ne.symm hz.2.1)).trans hz1,nz⟩,⟨y,(LS.aq _ _ (Ne.symm hz.2.2)).trans hy1,hy7⟩,h.w.n1,h.w.n3,h.w.ne⟩,(LS.aq _ _ (Ne.symm hz.2.2)).trans h.o3,h.L.keep hM (Nat.le_refl _) λb hb _=>LS.aq _ _ hb.2,h.hZ⟩
theorem ajE{S0:LS}{b1 b3 a:Nat}{v:AV}{out:List al}{Z:Nat→Prop}(h:uz C S0 Z S b1 b3 a v out)(hM:Mem H S):RE S (λb=>zB S0 b1 b3 b∧b<S.n) (tg a v) (.mk 8 a 0 [] 0 out []):=by
 obtain⟨cl,h1,h2⟩:=h.L.done hM;exact .mk 8 a 0 [] 0 out [] v .ab cl (λ_=>[]) B8.nil (h1.go (λ_ _=>rfl) λb hb=>⟨h.hZ b hb.1,hb.2⟩) (λi e he=>RE.go (λ_ _=>rfl) (λb hb=>⟨h.hZ b hb.1,hb.2⟩) (h2 i e he)) (eu.nil _ _ _ _) (λi e h=>by simp at h)
section
variable {m k:Nat}{X:AV→Int→AV→AV→Int→AH→Prop}{S0:LS}{b1 b3 a:Nat}
theorem NI(hbp:C.bp<S0.n)(de:∀b,ak C.vT b→b<S0.n){v:AV}{out:List al}{γ:Type}{r:an γ}(hM:Mem H S)(hs:bj C S r)(t:uz C S0 (zB S0 b1 b3) S b1 b3 a v out)(hP:aW C (bE C) dS K S0 (r.bind λ_ i=>(aU C.T [125] i).bind λ_ j=>.ok (.mk 8 a 0 [] 0 out []) j)) :
  vI (cU (s10 m)) K (.ptr C.bp 0) (.ptr b1 0) (.ptr b3 0) H:=by
 have r6:(cU (s10 m)).2.2.2.2.2.1=f59:=rfl;show Dp (cU (s10 m)) K (.ptr C.bp 0) (.ptr b1 0) (.ptr b3 0) H;unfold Dp;rw[r6];refine kC (s:=[125]) (bg (by decide)) hM hs (aW.call (eO:=ny) hP.seq λ_ H1 S1 w m1 c1 d1 _ hP1=>?_);have t1:=t.keep hM hbp c1;have hR:=ajE t1 m1;obtain⟨z,hz,nz⟩:=t1.w.o1;have hn1:=t1.w.n1;refine gH m1 t1.o3 rfl ?_;refine km m1 hz nz rfl hR.ones λH2 m2=>?_;refine gH m2 (LS.ay _ _ _) rfl ?_;exact hP1.2 H2 _ _ _ m2 (t1.w.x.set (.inr hn1) _) ((d1.ret _).setB (by omega) (λx hx=>by have:=de x hx;omega) _) ⟨_,rfl,hR.go (λb hb=>LS.aq _ _ hb.1.2.1) λb hb=>⟨hb.1.1,hb.2⟩⟩ pT
def pU(T:List Tok)(k a:Nat)(out:List al)(c j d:Nat):an al:=if isA T [44] j=true∨isA T [59] j=true then fq T k out c a (j+1) d else (aU T [125] j).bind λ_ k=>.ok (.mk 8 a 0 [] 0 out []) k
def PL(C:Ctx)(S0:LS)(K:KF)(b1 b3 a k d:Nat)(X:AV→Int→AV→AV→Int→AH→Prop):Prop:=∀(c:Nat) (v:AV) (out:List al) (H:AH) (S:LS){γ:Type}(r:an γ),c≤out.length→out.length≤128→out.length%2=0→Mem H S→bj C S r→uz C S0 (zB S0 b1 b3) S b1 b3 a v out→aW C (bE C) dS K S0 (r.bind λ_ i=>fq C.T k out c a i d)→X (.ptr C.bp 0) (d:Int) (.ptr b1 0) (.ptr b3 0) (c:Int) H
theorem aoF(hbp:C.bp<S0.n)(de:∀b,ak C.vT b→b<S0.n)(hX:PL C S0 K b1 b3 a k d X){c:Nat}{v:AV}{out:List al}{γ:Type}{r:an γ}(hc:c≤out.length)(ho:∀x i,r=.ok x i→out.length≤128)(ho2:out.length%2=0)(hM:Mem H S)(hs:bj C S r)(t:uz C S0 (zB S0 b1 b3) S b1 b3 a v out)(hP:aW C (bE C) dS K S0 (r.bind λ_ j=>pU C.T k a out c j d)) :
  Dr (cU (s10 m)) K X (.ptr C.bp 0) (d:Int) (.ptr b1 0) (.ptr b3 0) (c:Int) H:=by
 have r2:(cU (s10 m)).2.1=f40:=rfl;show Dq (cU (s10 m)) K X (vI (cU (s10 m)) K) (.ptr C.bp 0) (d:Int) (.ptr b1 0) (.ptr b3 0) (c:Int) H;unfold Dq;rw[r2];refine dC (s:=[44]) (bg (by decide)) hM hs (λy j er hi H1 S1 m1 c1 d1=>?_) λh1 H1 S1 m1 c1 d1=>?_
 ·cases er;simp only[aj,aN,Bool.not_true,aI];have hP:aW C (bE C) dS K S0 (pU C.T k a out c j d):=hP;unfold pU at hP;rw[if_pos (.inl hi)]at hP;exact hX c v out H1 S1 (.ok () (j+1):an Unit) hc (ho y j rfl) ho2 m1 d1 (t.keep hM hbp c1) hP
 simp only[aj,aN,Bool.not_false,aH];have t1:=t.keep hM hbp c1;refine dC (s:=[59]) (bg (by decide)) m1 d1 (λy j er hi H2 S2 m2 c2 d2=>?_) λh2 H2 S2 m2 c2 d2=>?_
 ·cases er;simp only[aj,aN,Bool.not_true,aI];have hP:aW C (bE C) dS K S0 (pU C.T k a out c j d):=hP;unfold pU at hP;rw[if_pos (.inr hi)]at hP;exact hX c v out H2 S2 (.ok () (j+1):an Unit) hc (ho y j rfl) ho2 m2 d2 (t1.keep m1 hbp c2) hP
 simp only[aj,aN,Bool.not_false,aH];have sp:(r.bind λ_ j=>pU C.T k a out c j d)=r.bind λ_ i=>(aU C.T [125] i).bind λ_ j=>.ok (.mk 8 a 0 [] 0 out []) j:=by
  cases r with
  |ok y j=>
   have h1:isA C.T [44] j=false:=h1;have h2:isA C.T [59] j=false:=h2;show pU C.T k a out c j d=_;unfold pU;rw[if_neg (by rw[h1,h2];simp)];rfl
  |err c i=>rfl
  |aS=>rfl
 rw[sp]at hP;exact NI hbp de m2 d2 (t1.keep m1 hbp c2) hP
theorem Gf(O:gr C m)(hd:d≤200)(hbp:C.bp<S0.n)(de:∀b,ak C.vT b→b<S0.n)(hX:PL C S0 K b1 b3 a k d X){c bk kf:Nat}(hkf:2*kf+4≤m){v:AV}{ck:List AV}{kk:al}{out:List al}{γ:Type}{r:an γ}(hc:c≤out.length+1)(ho:∀x i,r=.ok x i→out.length<128)(hol:out.length≤128)(ho2:out.length%2=0)(hM:Mem H S)(hs:bj C S r)(t:uz C S0 (zK S0 b1 b3 bk) S b1 b3 a v out)(hk:wL S0 S b1 b3 bk v ck kk)
  (hP:aW C (bE C) dS K S0 (r.bind λ_ j=>(bW C.T kf j d).bind λx j=>pU C.T k a (out++[kk,x]) c j d)) :
  og (cU (s10 m)) K X (.ptr C.bp 0) (d:Int) (.ptr b1 0) (.ptr b3 0) (c:Int) (.ptr bk 0) H:=by
 have r4:(cU (s10 m)).2.2.2.1=(s10 m).2.1:=rfl;show Ds (cU (s10 m)) K (Dr (cU (s10 m)) K X) (.ptr C.bp 0) (d:Int) (.ptr b1 0) (.ptr b3 0) (c:Int) (.ptr bk 0) H;unfold Ds;rw[r4];refine O.exp kf hkf hd hM hs (aW.call (eO:=dS) hP.seq λx H1 S1 w m1 c1 d1 ⟨cv,hv,hR⟩ hP1=>?_);subst hv;have t1:=t.keep hM hbp c1;have k1:=hk.keep hM hbp c1;have n0:=t.w.x.1;have PM:∀b,ak v b→b<S.n:=λb hb=>t.L.lt hM hb;have lt:=t.w.lt hM;refine eT ?_;rw[jy];refine dp m1 fg λH2 m2=>?_;refine km m2 (LS.av _ _) rfl hR.len hR.ones λH3 m3=>?_;have c3:aO bU S1 ((S1.push (.ce z7 0)).set S1.n (.ce cv 0)):=((aO.refl _ _).push _).set (.inr (Nat.le_refl _)) _;have d3:=d1.im m1 c3;have t3:=t1.keep m1 hbp c3.no;have k3:=k1.keep m1 hbp c3.no;have b3':LS.ob _ S1.n=_:=LS.ay (S1.push (.ce z7 0)) S1.n (.ce cv 0);have R3:RE ((S1.push (.ce z7 0)).set S1.n (.ce cv 0)) (jd S.n S1.n) cv x:=hR.go (λb hb=>c3.2 b hb.2 λq=>q) λ_ h=>h;have n3:((S1.push (.ce z7 0)).set S1.n (.ce cv 0)).n=S1.n+1:=rfl;revert m3 c3 d3 t3 k3 b3' R3 n3;generalize (S1.push (.ce z7 0)).set S1.n (.ce cv 0)=S3;intro m3 c3 d3 t3 k3 b3' R3 n3;have n1:=c1.1;rw[aM];refine az m3 t3.o3 (v:=v) rfl ?_;refine gH m3 k3.o k3.len ?_;refine gH m3 b3' hR.len ?_;simp only[iN];refine gq k3.len (gq hR.len ?_);rw[zU k3.len hR.len rfl];refine dj m3 (by rw[List.length_append,k3.len,hR.len]) (λy h=>?_) λH4 m4=>?_
 ·rcases List.mem_append.1 h with g|g
  ·exact k3.ones y g
  ·exact hR.ones y g
 have c4:aO bU S3 (S3.push (.ce (ck++cv) 0)):=(aO.refl _ _).push _;have t4:=t3.keep m3 hbp c4.no;have k4:=k3.keep m3 hbp c4.no;have d4:=d3.im m3 c4;have R4:RE (S3.push (.ce (ck++cv) 0)) (jd S.n S1.n) cv x:=R3.go (λb hb=>c4.2 b (by have:=hb.2;omega) λq=>q) λ_ h=>h;have L4:aX ku (zB S0 b1 b3) (S3.push (.ce (ck++cv) 0)) v out:=t4.L.imp m4 λb hb _=>hb.1;refine L4.Sw (R:=ku) (bytes:=96) (l2:=[kk,x]) m4 rfl (eu.two (Q:=λb=>b=S3.n) rfl (LS.av _ _) k3.len hR.len) (λix y h=>?_) (λb hb=>?_) (by omega) λH5 S5 v5 m5 L5 n5 q5 bk5=>?_
 ·match ix,h with
  |0,h=>
   have e1:kk=y:=by simpa using h
   subst e1;exact k4.re
  |1,h=>
   have e1:x=y:=by simpa using h
   subst e1;exact⟨_,R4,λb hb=>⟨⟨by have:=hb.1;omega,by have:=hb.1;omega,by have:=hb.1;omega⟩,by show b<S3.n+1;have:=hb.2;omega,λq=>by have:=PM b q;have:=hb.1;omega⟩⟩
  |ix+2,h=>simp at h
 ·have hb:S3.n+1≤b:=hb;exact⟨by omega,by omega,by omega⟩
 have PN:∀b,ak v b→zB S0 b1 b3 b:=λb hb=>(t.L.FZ hb).1;have c5:aO (λb=>ak v b) (S3.push (.ce (ck++cv) 0)) S5:=⟨n5,λb hb hx=>q5 b hb hx⟩
 have d5:=d4.keep m4 c5 (λq=>by have:=(PN _ q).1;omega) (λb hb q=>by have:=(PN _ q).1;have:=de b hb;omega);have w5:=t4.w.Gd m4 c5 λb hb=>⟨(PN b hb).2.1,(PN b hb).2.2,.inr (PN b hb).1⟩
 have o5:S5.ob b3=.ce (tg a v) 0:=c5.ob m4 t4.o3 λq=>(PN _ q).2.2 rfl;rw[aM];refine bJ m5 o5 (by omega) (by show 5<7;omega) L5.one λH6 m6=>?_;have m6:Mem H6 (S5.set b3 (.ce (tg a v5) 0)):=m6;have hn3:=w5.n3;obtain⟨z,hz,nz⟩:=w5.o1;have t6:uz C S0 (zB S0 b1 b3) (S5.set b3 (.ce (tg a v5) 0)) b1 b3 a v5 (out++[kk,x]):=
  ⟨⟨w5.x.set (.inr hn3) _,⟨z,(LS.aq _ _ w5.ne).trans hz,nz⟩,⟨_,LS.ay _ _ _,rfl⟩,w5.n1,hn3,w5.ne⟩,LS.ay _ _ _,L5.keep m5 (Nat.le_refl _) λb hb _=>LS.aq _ _ hb.2.2,λ_ h=>h⟩
 refine aoF hbp de hX (out:=out++[kk,x]) (by simp;omega) (λy j er=>?_) (by simp;omega) m6 (d5.setB (by omega) (λx hx=>by have:=de x hx;omega) _) t6 hP1;have:out.length<128:=by
  cases r with
  |ok y' j'=>exact ho y' j' rfl
  |err c i=>cases er
  |aS=>cases er
 simp;omega
end
end
section
variable {H:AH}{S:LS}{K:KF}{C:Ctx}{i d:Nat}
theorem aeA{j:Nat}{v:AV}{k:AV→Prop}{γ:Type}{y:γ}(hM:Mem H S)(hd:bj C S (an.ok y i))(hlt:i+1<C.T.length)(hj:j<4)(hv:(nx C.T (i+1))[j]? = some v)(hk:k v) :
  au (.ptr C.bp 0) (ag 0 (.ptr C.bp 0) λv1=>ad v1 H λv2=>au (.ptr C.bp 0) (ag 1 (.ptr C.bp 0) λv3=>ad v3 H λv4=>cI 0 v4 λz5=>aC 0 (Int.add z5 (.ofNat 1)) λz6=>bb 4 v2 (.int 0 z6) λv6=>ag j v6 λv7=>ad v7 H k)):=by
 have hfew:=C.few;simp only[bV,aM,Nat.zero_add];refine az hM hd.ob (v:=C.vT) rfl ?_;refine az hM hd.ob (v:=.int 0 (i:Int)) rfl ?_;simp only[aK,dh,dX];refine w0 (by omega) (by omega) ?_;exact ND hM hd.tk hlt hj hv hk
section
variable {m k:Nat}{X:AV→Int→AV→AV→Int→AH→Prop}{S0:LS}{b1 b3 a:Nat}
theorem aoG(hm:m≤1000000)(O:gr C m)(hd:d≤200)(hbp:C.bp<S0.n)(de:∀b,ak C.vT b→b<S0.n)(hX:PL C S0 K b1 b3 a k d X)(hk:2*k+4≤m){c:Nat}{v:AV}{out:List al}{γ:Type}{r:an γ}(hc:c≤out.length)(ho:∀x i,r=.ok x i→out.length<128)(hol:out.length≤128)(ho2:out.length%2=0)(hM:Mem H S)(hs:bj C S r)(t:uz C S0 (zB S0 b1 b3) S b1 b3 a v out)
  (hP:aW C (bE C) dS K S0 (r.bind λ_ i=>(ig C.T k c i d).bind λp j=>pU C.T k a (out++p.1) p.2 j d)) :
  Dz (cU (s10 m)) K X (.ptr C.bp 0) (d:Int) (.ptr b1 0) (.ptr b3 0) (c:Int) H:=by
 have r1:(cU (s10 m)).1=f39:=rfl;have r2:(cU (s10 m)).2.1=f40:=rfl;have r4:(cU (s10 m)).2.2.2.1=(s10 m).2.1:=rfl;have r5:(cU (s10 m)).2.2.2.2.1=f57:=rfl;have r6:(cU (s10 m)).2.2.2.2.2.1=f59:=rfl;have e0:Int.ofNat 0=((0:Nat):Int):=rfl;have e2:Int.ofNat 2=((2:Nat):Int):=rfl;have e5:Int.ofNat 5=((5:Nat):Int):=rfl;show Dy (cU (s10 m)) K (Lj (cU (s10 m)) K X) (Lk (cU (s10 m)) K X) (og (cU (s10 m)) K X) (Dx (cU (s10 m)) K X) (.ptr C.bp 0) (d:Int) (.ptr b1 0) (.ptr b3 0) (c:Int) H;unfold Dy;rw[r1,r2,r4];have n0:=t.w.x.1;have lt:=t.w.lt hM;have PM:∀b,ak v b→b<S.n:=λb hb=>t.L.lt hM hb;have nb:∀b,S0.n≤b→¬bE C b:=λb hb q=>by have q:b=C.bp:=q;omega
 refine lf hM hs ?_;rw[aj,aK];refine eT ?_;rw[jy];refine dp hM fg λH1 m1=>?_;refine km m1 (c:=[.int 0 ((0:Nat):Int),.int 0 (aB C.T r.ix:Int),.int 0 ((0:Nat):Int),ai [],.int 0 ((1:Nat):Int),.ab,.ab]) (LS.av _ _) rfl rfl (λa h=>?_) λH2 m2=>?_
 ·simp only[List.mem_cons,List.not_mem_nil,or_false]at h;rcases h with rfl|rfl|rfl|rfl|rfl|rfl|rfl<;>rfl
 have c2:aO bU S ((S.push (.ce z7 0)).set S.n (.ce [.int 0 ((0:Nat):Int),.int 0 (aB C.T r.ix:Int),.int 0 ((0:Nat):Int),ai [],.int 0 ((1:Nat):Int),.ab,.ab] 0)):=((aO.refl _ _).push _).set (.inr (Nat.le_refl _)) _;have d2:=hs.im hM c2;have t2:=t.keep hM hbp c2.no;have o2:LS.ob _ S.n=_:=LS.ay (S.push (.ce z7 0)) S.n (.ce [.int 0 ((0:Nat):Int),.int 0 (aB C.T r.ix:Int),.int 0 ((0:Nat):Int),ai [],.int 0 ((1:Nat):Int),.ab,.ab] 0);have zk:zB S0 b1 b3 S.n:=⟨n0,by omega,by omega⟩
 have tk2:uz C S0 (zK S0 b1 b3 S.n) ((S.push (.ce z7 0)).set S.n (.ce [.int 0 ((0:Nat):Int),.int 0 (aB C.T r.ix:Int),.int 0 ((0:Nat):Int),ai [],.int 0 ((1:Nat):Int),.ab,.ab] 0)) b1 b3 a v out:=
  ⟨t2.w,t2.o3,((t.L.imp hM λb hb hlt=>(⟨hb,by omega⟩:zK S0 b1 b3 S.n b)).keep hM c2.1 λb _ hlt=>c2.2 b hlt λq=>q),λb hb=>hb.1⟩
 have PO:wL S0 ((S.push (.ce z7 0)).set S.n (.ce [.int 0 ((0:Nat):Int),.int 0 (aB C.T r.ix:Int),.int 0 ((0:Nat):Int),ai [],.int 0 ((1:Nat):Int),.ab,.ab] 0)) b1 b3 S.n v [.int 0 ((0:Nat):Int),.int 0 (aB C.T r.ix:Int),.int 0 ((0:Nat):Int),ai [],.int 0 ((1:Nat):Int),.ab,.ab] (.mk 0 (aB C.T r.ix) 0 [] 1 [] []):=
  ⟨o2,zk,λq=>by have:=PM _ q;omega,λ_=>False,RE.simple B8.nil,λb hb=>hb.elim⟩
 have n2:((S.push (.ce z7 0)).set S.n (.ce [.int 0 ((0:Nat):Int),.int 0 (aB C.T r.ix:Int),.int 0 ((0:Nat):Int),ai [],.int 0 ((1:Nat):Int),.ab,.ab] 0)).n=S.n+1:=rfl;revert m2 c2 d2 t2 o2 tk2 PO n2;generalize (S.push (.ce z7 0)).set S.n (.ce [.int 0 ((0:Nat):Int),.int 0 (aB C.T r.ix:Int),.int 0 ((0:Nat):Int),ai [],.int 0 ((1:Nat):Int),.ab,.ab] 0)=S2;intro m2 c2 d2 t2 o2 tk2 PO n2;refine iq m2 d2 ?_;rw[aZ,e0];rcases y0 hs with⟨ec,y,i,rfl⟩|⟨ec,c1,i,rfl⟩
 ·have ho:=ho y i rfl;rw[ec,decide_eq_true rfl];simp only[Bool.not_true,aI];have rF:(an.ok y i).ix=i:=rfl;rw[rF]at PO;have hP:aW C (bE C) dS K S0 ((ig C.T k c i d).bind λp j=>pU C.T k a (out++p.1) p.2 j d):=hP;cases k with
  |zero=>exact absurd (show(ig C.T 0 c i d).bind _=.aS by simp only[ig];rfl) hP.1
  |succ k=>
  simp only[ig]at hP;refine dC (s:=[91]) (bg (by decide)) m2 d2 (λy j er hi H3 S3 m3 c3 d3=>?_) λh1 H3 S3 m3 c3 d3=>?_
  ·cases er;simp only[aj,aN,aH];rw[if_pos hi]at hP;simp only[bK]at hP;have t3:=tk2.keep m2 hbp c3;have PQ:=PO.keep m2 hbp c3;have n3:=c3.1;refine O.exp k (by omega) hd m3 d3 (aW.call (eO:=dS) hP λkk H4 S4 w m4 c4 d4 ⟨ck,hv,hR⟩ wK=>?_);subst hv;have t4:=t3.keep m3 hbp c4;have ky4:=PQ.keep m3 hbp c4;refine km m4 ky4.o rfl hR.len hR.ones λH5 m5=>?_;have d5:=d4.setB (by omega) (λx hx=>by have:=de x hx;omega) (.ce ck 0) (b:=S.n);have t5:=t4.gT m4 zk (.ce ck 0);have PR:wL S0 (S4.set S.n (.ce ck 0)) b1 b3 S.n v ck kk:=
    ⟨LS.ay _ _ _,zk,λq=>by have:=PM _ q;omega,_,hR.go (λb hb=>LS.aq _ _ (by have:=hb.1;omega)) λ_ h=>h,λb hb=>⟨⟨by have:=hb.1;omega,by have:=hb.1;omega,by have:=hb.1;omega⟩,hb.2,λq=>by have:=PM b q;have:=hb.1;omega⟩⟩
   show Dv (cU (s10 m)) K (og (cU (s10 m)) K X) (.ptr C.bp 0) (d:Int) (.ptr b1 0) (.ptr b3 0) (c:Int) (.ptr S.n 0) H5;unfold Dv;rw[r6];refine kC (s:=[93]) (bg (by decide)) m5 d5 (aW.call (eO:=ny) wK.seq λ_ H6 S6 w m6 c6 d6 _ Gg=>?_);have t6:=t5.keep m5 hbp c6;have ky6:=PR.keep m5 hbp c6;refine kC (s:=[61]) (bg (by decide)) m6 d6 (aW.call (eO:=ny) Gg.seq λ_ H7 S7 w m7 c7 d7 _ xP=>?_);exact Gf O hd hbp de hX (kf:=k) (by omega) (by omega) (λ_ _ _=>ho) hol ho2 m7 d7 (t6.keep m6 hbp c7) (ky6.keep m6 hbp c7) xP
  have h1:isA C.T [91] i=false:=h1;simp only[aj,aN,aI];rw[if_neg (by rw[h1];simp)]at hP;have t3:=tk2.keep m2 hbp c3;have PQ:=PO.keep m2 hbp c3;have n3:=c3.1;refine zW m3 d3 (j:=0) (v:=.int 0 (cC C.T i:Int)) (by omega) rfl ?_;rw[aK,aZ,e2];have plain:¬(cC C.T i=2∧cC C.T (i+1)=5∧fU C.T (i+1)=[61])→Dx (cU (s10 m)) K X (.ptr C.bp 0) (d:Int) (.ptr b1 0) (.ptr b3 0) (c:Int) (.ptr S.n 0) H3:=by
   intro hne;rw[if_neg hne]at hP;simp only[bK]at hP;show Dw (cU (s10 m)) K (GY (cU (s10 m)) K X) (.ptr C.bp 0) (d:Int) (.ptr b1 0) (.ptr b3 0) (c:Int) (.ptr S.n 0) H3;unfold Dw;rw[dh,dX];refine w0 (by omega) (by omega) ?_;show zN (cU (s10 m)) K (og (cU (s10 m)) K X) (.ptr C.bp 0) (d:Int) (.ptr b1 0) (.ptr b3 0) ((c+1:Nat):Int) (.ptr S.n 0) H3;unfold zN;simp only[aM,Nat.zero_add];refine bJ (v:=.int 0 ((4:Nat):Int)) m3 PQ.o (by omega) (by show 0<7;omega) rfl λH4 m4=>?_;refine bJ (v:=.int 0 ((c+1:Nat):Int)) m4 (LS.ay _ _ _) (by omega) (by show 2<7;omega) rfl λH5 m5=>?_;have m4':Mem H4 (S3.set S.n (.ce [.int 0 ((4:Nat):Int),.int 0 (aB C.T i:Int),.int 0 ((0:Nat):Int),ai [],.int 0 ((1:Nat):Int),.ab,.ab] 0)):=m4;have m5':Mem H5 ((S3.set S.n (.ce [.int 0 ((4:Nat):Int),.int 0 (aB C.T i:Int),.int 0 ((0:Nat):Int),ai [],.int 0 ((1:Nat):Int),.ab,.ab] 0)).set S.n (.ce [.int 0 ((4:Nat):Int),.int 0 (aB C.T i:Int),.int 0 ((c+1:Nat):Int),ai [],.int 0 ((1:Nat):Int),.ab,.ab] 0)):=m5;have t5:=(t3.gT m3 zk (.ce [.int 0 ((4:Nat):Int),.int 0 (aB C.T i:Int),.int 0 ((0:Nat):Int),ai [],.int 0 ((1:Nat):Int),.ab,.ab] 0)).gT m4' zk (.ce [.int 0 ((4:Nat):Int),.int 0 (aB C.T i:Int),.int 0 ((c+1:Nat):Int),ai [],.int 0 ((1:Nat):Int),.ab,.ab] 0);have PR:=(PQ.set (kind:=4) (at_:=aB C.T i) (n:=0) (op:=1) (s:=[]) B8.nil).set (kind:=4) (at_:=aB C.T i) (n:=c+1) (op:=1) (s:=[]) B8.nil;have d5:=(d3.setB (b:=S.n) (by omega) (λx hx=>by have:=de x hx;omega) (.ce [.int 0 ((4:Nat):Int),.int 0 (aB C.T i:Int),.int 0 ((0:Nat):Int),ai [],.int 0 ((1:Nat):Int),.ab,.ab] 0)).setB (b:=S.n) (by omega) (λx hx=>by have:=de x hx;omega) (.ce [.int 0 ((4:Nat):Int),.int 0 (aB C.T i:Int),.int 0 ((c+1:Nat):Int),ai [],.int 0 ((1:Nat):Int),.ab,.ab] 0);exact Gf O hd hbp de hX (kf:=k) (c:=c+1) (by omega) (by omega) (λ_ _ _=>ho) hol ho2 m5' d5 t5 PR hP
  by_cases g2:cC C.T i=2
  ·rw[decide_eq_true (by omega),aH];have hlt:=kZ (i:=i) C.ok (by omega);refine aeA m3 d3 hlt (j:=0) (v:=.int 0 (cC C.T (i+1):Int)) (by omega) rfl ?_;rw[aK,aZ,e5];by_cases g5:cC C.T (i+1)=5
   ·rw[decide_eq_true (by omega),aH];refine aeA m3 d3 hlt (j:=1) (v:=ai (fU C.T (i+1))) (by omega) rfl ?_;refine xo (m:=[61]) (wG C (i+1)) (bg (by decide)) ?_;rw[aN];by_cases gt:fU C.T (i+1)=[61]
    ·rw[decide_eq_true gt,aH];rw[if_pos ⟨g2,g5,gt⟩]at hP;have ei:isA C.T [61] (i+1)=true:=by unfold isA;rw[g5,gt];rfl
     have sp:((bW C.T k (i+2) d).bind λv j=>an.ok (([.mk 5 (aB C.T i) 0 (fU C.T i) 1 [] [],v],c):List al×Nat) j).bind (λp j=>pU C.T (k+1) a (out++p.1) p.2 j d)=((an.ok y i).bind λ_ i=>dT C.T i).bind λs j=>(aU C.T [61] j).bind λ_ j=>(bW C.T k j d).bind λv j=>pU C.T (k+1) a (out++[.mk 5 (aB C.T i) 0 s 1 [] [],v]) c j d:=by
      rw[bK];show _=(dT C.T i).bind _;unfold dT;rw[if_pos g2];show _=(aU C.T [61] (i+1)).bind _;unfold aU;rw[ei];rfl
     rw[sp]at hP;show Du (cU (s10 m)) K (Li (cU (s10 m)) K X) (.ptr C.bp 0) (d:Int) (.ptr b1 0) (.ptr b3 0) (c:Int) (.ptr S.n 0) H3;unfold Du;rw[aM,Nat.zero_add];refine bJ (v:=.int 0 ((5:Nat):Int)) m3 PQ.o (by omega) (by show 0<7;omega) rfl λH4 m4=>?_;have m4:Mem H4 (S3.set S.n (.ce [.int 0 ((5:Nat):Int),.int 0 (aB C.T i:Int),.int 0 ((0:Nat):Int),ai [],.int 0 ((1:Nat):Int),.ab,.ab] 0)):=m4;have t4:=t3.gT m3 zk (.ce [.int 0 ((5:Nat):Int),.int 0 (aB C.T i:Int),.int 0 ((0:Nat):Int),ai [],.int 0 ((1:Nat):Int),.ab,.ab] 0);have ky4:=PQ.set (kind:=5) (at_:=aB C.T i) (n:=0) (op:=1) (s:=[]) B8.nil;have d4:=d3.setB (b:=S.n) (by omega) (λx hx=>by have:=de x hx;omega) (.ce [.int 0 ((5:Nat):Int),.int 0 (aB C.T i:Int),.int 0 ((0:Nat):Int),ai [],.int 0 ((1:Nat):Int),.ab,.ab] 0);show Dt (cU (s10 m)) K (og (cU (s10 m)) K X) (.ptr C.bp 0) (d:Int) (.ptr b1 0) (.ptr b3 0) (c:Int) (.ptr S.n 0) H4;unfold Dt;rw[r5,r6];refine si m4 d4 (aW.call (eO:=NA) hP λs H5 S5 w m5 c5 d5 ⟨hv,h8⟩ uA=>?_);subst hv;have t5:=t4.keep m4 hbp c5;have PR:=ky4.keep m4 hbp c5;rw[aM,Nat.zero_add];refine bJ m5 PR.o (by omega) (by show 3<7;omega) (kX s) λH6 m6=>?_;have m6:Mem H6 (S5.set S.n (.ce [.int 0 ((5:Nat):Int),.int 0 (aB C.T i:Int),.int 0 ((0:Nat):Int),ai s,.int 0 ((1:Nat):Int),.ab,.ab] 0)):=m6;have t6:=t5.gT m5 zk (.ce [.int 0 ((5:Nat):Int),.int 0 (aB C.T i:Int),.int 0 ((0:Nat):Int),ai s,.int 0 ((1:Nat):Int),.ab,.ab] 0);have ky6:=PR.set (kind:=5) (at_:=aB C.T i) (n:=0) (op:=1) (s:=s) h8;have d6:=d5.setB (b:=S.n) (by omega) (λx hx=>by have:=de x hx;omega) (.ce [.int 0 ((5:Nat):Int),.int 0 (aB C.T i:Int),.int 0 ((0:Nat):Int),ai s,.int 0 ((1:Nat):Int),.ab,.ab] 0);refine kC (s:=[61]) (bg (by decide)) m6 d6 (aW.call (eO:=ny) uA.seq λ_ H7 S7 w m7 c7 d7 _ xP=>?_);exact Gf O hd hbp de hX (kf:=k) (by omega) (by omega) (λ_ _ _=>ho) hol ho2 m7 d7 (t6.keep m6 hbp c7) (ky6.keep m6 hbp c7) xP
    ·rw[decide_eq_false gt,aI];exact plain λq=>gt q.2.2
   ·rw[decide_eq_false (by omega),aI];exact plain λq=>g5 q.2.1
  ·rw[decide_eq_false (by omega),aI];exact plain λq=>g2 q.1
 ·rw[decide_eq_false (by omega)];simp only[Bool.not_false,aH];exact Gf O hd hbp de hX (kf:=0) (by have:=hk;omega) (by omega) ho hol ho2 m2 d2 tk2 PO hP
theorem aeB(hm:m≤1000000)(O:gr C m)(hd:d≤200)(hbp:C.bp<S0.n)(de:∀b,ak C.vT b→b<S0.n)(hk:2*k+4≤m+1)
  (hrec:∀k',k=k'+1→PL C S0 K b1 b3 a k' d X):PL C S0 K b1 b3 a k d (Ll (cU (s10 m)) K X):=by
 intro c v out H S γ r hc ho ho2 hM hs t hP;have r3:(cU (s10 m)).2.2.1=f41:=rfl;have r7:(cU (s10 m)).2.2.2.2.2.2=f76:=rfl;have e0:Int.ofNat 0=((0:Nat):Int):=rfl;have e64:Int.ofNat 64=((64:Nat):Int):=rfl;show DA (cU (s10 m)) K (Dz (cU (s10 m)) K X) (vI (cU (s10 m)) K) (.ptr C.bp 0) (d:Int) (.ptr b1 0) (.ptr b3 0) (c:Int) H;unfold DA;rw[r3,r7];refine iq hM hs ?_;rw[aZ,e0];rcases y0 hs with⟨ec,y,i,rfl⟩|⟨ec,c1,i,rfl⟩
 ·rw[ec,decide_eq_true rfl,aH];have hP:aW C (bE C) dS K S0 (fq C.T k out c a i d):=hP;cases k with
  |zero=>exact absurd (show fq C.T 0 out c a i d=.aS by simp only[fq]) hP.1
  |succ k=>
  simp only[fq]at hP;refine rX (s:=[125]) (bg (by decide)) hM hs λH1 S1 m1 c1 d1=>?_;rw[aj,aN];have t1:=t.keep hM hbp c1.no;have ed:pb C.T [125] (an.ok y i)=isA C.T [125] i:=rfl;rw[ed];cases h1:isA C.T [125] i with
  |true=>
   simp only[Bool.not_true,aI];rw[if_pos h1]at hP;refine NI hbp de m1 d1 t1 ?_;have sp:((an.ok y i).bind λ_ i=>(aU C.T [125] i).bind λ_ j=>.ok (al.mk 8 a 0 [] 0 out []) j)=.ok (al.mk 8 a 0 [] 0 out []) (i+1):=by
    show(aU C.T [125] i).bind _=_;unfold aU;rw[h1];rfl
   rw[sp];exact hP
  |false=>
   simp only[Bool.not_false,aH];rw[if_neg (by rw[h1];simp)]at hP;rw[aM];refine az m1 t1.o3 (v:=v) rfl ?_;refine t1.L.G9 ?_;have etd:Int.tdiv (out.length:Int) (.ofNat 2)=((out.length/2:Nat):Int):=rfl;rw[aK,aZ,etd,decide_eq_false (by decide),aI];refine w0 (by omega) (by omega) ?_;rw[e64];have sp:(if out.length=128 then .err 8 i else (ig C.T k c i d).bind λr j=>if isA C.T [44] j=true∨isA C.T [59] j=true then fq C.T k (out++r.1) r.2 a (j+1) d else (aU C.T [125] j).bind λ_ k=>.ok (.mk 8 a 0 [] 0 (out++r.1) []) k)=((an.ok y i).bind λ_ i=>dD (64≤out.length/2) i).bind λ_ i=>(ig C.T k c i d).bind λp j=>pU C.T k a (out++p.1) p.2 j d:=by
    show _=(dD (64≤out.length/2) i).bind _;unfold dD;by_cases g:out.length=128
    ·rw[if_pos g,if_pos (by omega)];rfl
    ·rw[if_neg g,if_neg (by omega)];rfl
   rw[sp]at hP;refine Hc m1 d1 (aW.call (eO:=ny) hP λ_ H2 S2 w m2 c2 d2 _ hP2=>?_);refine aoG hm O hd hbp de (hrec k rfl) (by omega) hc (λx j er=>?_) ho ho2 m2 d2 (t1.keep m1 hbp c2) hP2;rcases Nat.lt_or_ge out.length 128 with g|g
   ·exact g
   ·have er:dD (64≤out.length/2) i=.ok x j:=er;unfold dD at er;rw[if_pos (by omega)]at er;cases er
 ·rw[decide_eq_false (by omega),aI];exact NI hbp de hM hs t hP
theorem aoH(hm:m≤1000000)(O:gr C m)(hd:d≤200)(hbp:C.bp<S0.n)(de:∀b,ak C.vT b→b<S0.n):∀k,2*k+4≤m+1→∀q,k<q→PL C S0 K b1 b3 a k d (DB (cU (s10 m)) K q):=by
 intro k
 induction k with
 |zero=>
  intro hk q hq;obtain⟨q,rfl⟩:∃p,q=p+1:=⟨q-1,by omega⟩
  exact aeB hm O hd hbp de hk (λk' h=>absurd h (by omega))
 |succ k ih=>
  intro hk q hq;obtain⟨q,rfl⟩:∃p,q=p+1:=⟨q-1,by omega⟩
  exact aeB hm O hd hbp de hk (λk' h=>by
   obtain rfl:k=k':=by omega
   exact ih (by omega) q (by omega))
end
theorem arj{m:Nat}(hm:m≤1000000)(O:gr C m):∀k,2*k+4≤m+1→∀{K:KF}{H:AH}{S:LS}{i d a:Nat}{γ:Type}{x:γ},d≤200→Mem H S→bj C S (an.ok x i)→aW C (bE C) dS K S (fq C.T k [] 0 a i d)→(s10 (m+1)).2.2.2.2.2.2.2.2.2 (.ptr C.bp 0) (a:Int) (d:Int) H K:=by
 intro k hk K H S i d a γ x hd hM hs hP;have e7:(s10 (m+1)).2.2.2.2.2.2.2.2.2=DC (cU (s10 m)):=by rw[Ab]
 rw[e7];unfold DC WG Lm;have gu:G.NL=1000000:=rfl;generalize G.NL=eW at gu ⊢;rw[jy];refine eT (dp hM fg λH1 m1=>?_);refine eT ?_;rw[jy];refine dp m1 fg λH2 m2=>?_;refine km (c:=tg a .ab) m2 (LS.av _ _) rfl rfl afX λH3 m3=>?_;have c3:aO bU S (((S.push (.ce z7 0)).push (.ce z7 0)).set (S.n+1) (.ce (tg a .ab) 0)):=(((aO.refl _ _).push _).push _).set (.inr (Nat.le_succ _)) _;have o1:(((S.push (.ce z7 0)).push (.ce z7 0)).set (S.n+1) (.ce (tg a .ab) 0)).ob S.n=.ce z7 0:=by
  rw[LS.aq _ _ (by omega),LS.bS _ _ (by show S.n<S.n+1;omega)];exact LS.av _ _
 have o3:(((S.push (.ce z7 0)).push (.ce z7 0)).set (S.n+1) (.ce (tg a .ab) 0)).ob (S.n+1)=.ce (tg a .ab) 0:=LS.ay _ _ _;have e0:Int.ofNat 0=((0:Nat):Int):=rfl;rw[e0];have hbp:=hs.nu hM;exact aoH hm O hd hbp (λb hb=>hs.tk.lt hM hb) k (by omega) eW (by omega) 0 .ab [] H3 _ (an.ok x i) (Nat.le_refl _) (by simp) (by simp) m3 (hs.im hM c3) ⟨⟨c3.no,⟨z7,o1,rfl⟩,⟨_,o3,rfl⟩,Nat.le_refl _,Nat.le_succ _,by show S.n≠S.n+1;omega⟩,o3,aX.nil _ _ _,λ_ h=>h⟩ hP
end
end Go.Proofs.YtcedghechlgecaaDoor
namespace Go.X
section
variable {H:AH}{S S':LS}
theorem aX.nm{Z:Nat→Prop}{v:AV}{l:List (List Nat)}(h:aX uQ Z S v l)(hM:Mem H S):kl S (λb=>Z b∧b<S.n) v l:=by
 obtain⟨cl,h1,h2⟩:=h.done hM;refine⟨h1.congr λi hi=>?_,λt ht=>?_⟩
 ·have g:=(h2 i _ (List.getElem?_eq_getElem hi)).1;rw[List.getElem?_eq_getElem hi];exact g
 ·obtain⟨i,hi,e⟩:=List.mem_iff_getElem.1 ht;have g:=(h2 i _ (List.getElem?_eq_getElem hi)).2;rw[e]at g;exact g
end
end Go.X
namespace Go.Proofs.YtcedghechlgecaaDoor
open Go Go.X Go.Proofs.YtcedghechlgecaaDoor.G
section
variable {H:AH}{S:LS}{K:KF}{C:Ctx}{i d:Nat}
structure As(C:Ctx)(S0 S:LS)(b1 b3:Nat)(v:AV)(out:List (List Nat)):Prop where
 x:aO (bE C) S0 S
 o1:S.ob b1=.ce [.ab,.ab] 0
 o3:S.ob b3=.ce [v,.ab] 0
 n1:S0.n≤b1
 n3:S0.n≤b3
 ne:b1≠b3
 L:aX uQ (zB S0 b1 b3) S v out
theorem As.keep{S0 S':LS}{b1 b3:Nat}{v:AV}{out:List (List Nat)}(h:As C S0 S b1 b3 v out)(hM:Mem H S)(hbp:C.bp<S0.n)(g:aO (bE C) S S'):As C S0 S' b1 b3 v out:=by
 have nb:∀b,S0.n≤b→¬bE C b:=λb hb q=>by have q:b=C.bp:=q;omega
 exact⟨h.x.trans g,g.ob hM h.o1 (nb _ h.n1),g.ob hM h.o3 (nb _ h.n3),h.n1,h.n3,h.ne,h.L.bp hM hbp g⟩
def xF(T:List Tok)(k:Nat)(out:List (List Nat))(i:Nat):an (List (List Nat)):=if out.length=16 then .err 8 i else (dT T i).bind λs j=>cg T k false (out++[s]) j
def mH(T:List Tok)(k d:Nat)(out:List (List Nat))(j:Nat):an eV:=(cD T k j d).bind λb j=>(aU T [101,110,100] j).bind λ_ j=>.ok (.mk out b) j
section
variable {m k:Nat}{S0:LS}{b1 b3:Nat}
theorem aeC(O:gr C m)(hd:d≤200)(hbp:C.bp<S0.n)(de:∀b,ak C.vT b→b<S0.n)(hk:2*k+4≤m){v:AV}{out:List (List Nat)}{γ:Type}{r:an γ}(hM:Mem H S)(hs:bj C S r)(t:As C S0 S b1 b3 v out)(hP:aW C (bE C) rE K S0 (r.bind λ_ j=>mH C.T k d out j)) :
  yz (fS (s10 m)) K (.ptr C.bp 0) (d:Int) (.ptr b1 0) (.ptr b3 0) H:=by
 have r1:(fS (s10 m)).1=(s10 m).1:=rfl;have r4:(fS (s10 m)).2.2.2.1=f59:=rfl;show CP (fS (s10 m)) K (.ptr C.bp 0) (d:Int) (.ptr b1 0) (.ptr b3 0) H;unfold CP;rw[r1,r4];unfold mH at hP;have n0:=t.x.1;have PM:∀b,ak v b→b<S.n:=λb hb=>t.L.lt hM hb;have HW:b1<S.n:=hM.lt (by rw[t.o1];simp);have lt3:b3<S.n:=hM.lt (by rw[t.o3];simp);have hn1:=t.n1;have hn3:=t.n3;have nb:∀b,S0.n≤b→¬bE C b:=λb hb q=>by have q:b=C.bp:=q;omega
 refine O.block k hk hd hM hs (aW.call (eO:=fY) hP.seq λbl H1 S1 w m1 c1 d1 ⟨cb,hsl,hrs⟩ hP1=>?_);have t1:=t.keep hM hbp c1;rw[aM,Nat.zero_add];refine bJ m1 t1.o3 (by omega) (by show 1<2;omega) hsl.one λH2 m2=>?_;have m2:Mem H2 (S1.set b3 (.ce [v,w] 0)):=m2;have d2:=d1.setB (b:=b3) (by omega) (λx hx=>by have:=de x hx;omega) (.ce [v,w] 0);refine kC (s:=[101,110,100]) (bg (by decide)) m2 d2 (aW.call (eO:=ny) hP1.seq λ_ H3 S3 w' m3 c3 d3 _ hP3=>?_);have o3:S3.ob b3=.ce [v,w] 0:=c3.ob m2 (LS.ay _ _ _) (nb _ hn3);have kp:∀b,S0.n≤b→b<S1.n→b≠b3→S3.ob b=S1.ob b:=λb h1 h2 h3=>by rw[c3.2 b h2 (nb b h1),LS.aq _ _ h3]
 have c3n:S1.n≤S3.n:=c3.1;have hn:=c1.1;have hR:RF S3 (λb=>zB S0 b1 b3 b∧b<S3.n) [v,w] (.mk out bl):=
  .mk out bl v w cb ((t1.L.nm m1).go (λb hb=>kp b hb.1.1 hb.2 hb.1.2.2) λb hb=>⟨hb.1,by have:=hb.2;omega⟩) (hsl.go (λb hb=>kp b (by have:=hb.1;omega) hb.2 (by have:=hb.1;omega)) λb hb=>⟨⟨by have:=hb.1;omega,by have:=hb.1;omega,by have:=hb.1;omega⟩,by have:=hb.2;omega⟩)
   λix s h=>(hrs ix s h).go (λb hb=>kp b (by have:=hb.1;omega) hb.2 (by have:=hb.1;omega)) λb hb=>⟨⟨by have:=hb.1;omega,by have:=hb.1;omega,by have:=hb.1;omega⟩,by have:=hb.2;omega⟩
 refine gH m3 o3 rfl ?_;have o1:S3.ob b1=.ce [.ab,.ab] 0:=by rw[kp b1 hn1 (by omega) t.ne];exact t1.o1
 refine km m3 o1 rfl rfl hR.ones λH4 m4=>?_;refine gH m4 (LS.ay _ _ _) rfl ?_;have x3:aO (bE C) S0 S3:=(t1.x.set (.inr hn3) (.ce [v,w] 0)).trans c3;exact hP3.2 H4 _ _ (.mk out bl) m4 (x3.set (.inr hn1) _) ((d3.ret _).setB (b:=b1) (by omega) (λx hx=>by have:=de x hx;omega) _) ⟨_,rfl,hR.go (λb hb=>LS.aq _ _ hb.1.2.1) λb hb=>⟨hb.1.1,hb.2⟩⟩ pT
theorem aeD(O:gr C m)(hd:d≤200)(hbp:C.bp<S0.n)(de:∀b,ak C.vT b→b<S0.n)(hk:2*k+4≤m){v:AV}{out:List (List Nat)}{γ:Type}{r:an γ}(hM:Mem H S)(hs:bj C S r)(t:As C S0 S b1 b3 v out)(hP:aW C (bE C) rE K S0 (r.bind λ_ i=>(aU C.T [41] i).bind λ_ j=>mH C.T k d out j)) :
  vF (fS (s10 m)) K (.ptr C.bp 0) (d:Int) (.ptr b1 0) (.ptr b3 0) H:=by
 have r4:(fS (s10 m)).2.2.2.1=f59:=rfl;show CQ (fS (s10 m)) K (yz (fS (s10 m)) K) (.ptr C.bp 0) (d:Int) (.ptr b1 0) (.ptr b3 0) H;unfold CQ;rw[r4];refine kC (s:=[41]) (bg (by decide)) hM hs (aW.call (eO:=ny) hP.seq λ_ H1 S1 w m1 c1 d1 _ hP1=>?_);exact aeC O hd hbp de hk m1 d1 (t.keep hM hbp c1) hP1
theorem aeE(O:gr C m)(hd:d≤200)(hbp:C.bp<S0.n)(de:∀b,ak C.vT b→b<S0.n)(hk:2*k+4≤m){Y:AV→Int→AV→AV→AH→Prop}{k8:Nat}
  (hrec:∀k',k8=k'+1→∀(out:List (List Nat)) (v:AV) (H:AH) (S:LS){γ:Type}(r:an γ),out.length≤16→Mem H S→bj C S r→As C S0 S b1 b3 v out→aW C (bE C) rE K S0 ((r.bind λ_ i=>xF C.T k' out i).bind λl j=>mH C.T k d l j)→Y (.ptr C.bp 0) (d:Int) (.ptr b1 0) (.ptr b3 0) H)
  (out:List (List Nat)) (v:AV) (H:AH) (S:LS){γ:Type}(r:an γ) (ho:out.length≤16) (hM:Mem H S) (hs:bj C S r) (t:As C S0 S b1 b3 v out)
  (hP:aW C (bE C) rE K S0 ((r.bind λ_ i=>xF C.T k8 out i).bind λl j=>mH C.T k d l j)) :
  KG (fS (s10 m)) K Y (.ptr C.bp 0) (d:Int) (.ptr b1 0) (.ptr b3 0) H:=by
 have r2:(fS (s10 m)).2.1=f40:=rfl;have r3:(fS (s10 m)).2.2.1=f57:=rfl;have r5:(fS (s10 m)).2.2.2.2=f76:=rfl;have e0:Int.ofNat 0=((0:Nat):Int):=rfl;have e16:Int.ofNat 16=((16:Nat):Int):=rfl;show CS (fS (s10 m)) K (vF (fS (s10 m)) K) (KE (fS (s10 m)) K Y) (.ptr C.bp 0) (d:Int) (.ptr b1 0) (.ptr b3 0) H;unfold CS;rw[r3,r5];have hn1:=t.n1;have hn3:=t.n3;refine iq hM hs ?_;rw[aZ,e0];rcases y0 hs with⟨ec,a,i,rfl⟩|⟨ec,c1,i,rfl⟩
 ·rw[ec,decide_eq_true rfl,aH];rw[aM,Nat.zero_add];refine az hM t.o3 (v:=v) rfl ?_;refine t.L.G9 ?_;rw[aK,e16];have sp:((an.ok a i).bind λ_ i=>xF C.T k8 out i).bind (λl j=>mH C.T k d l j)=(((an.ok a i).bind λ_ i=>dD (16≤out.length) i).bind λ_ i=>(dT C.T i).bind λx j=>(cg C.T k8 false (out++[x]) j).bind λl j=>mH C.T k d l j):=by
   show(xF C.T k8 out i).bind _=(dD (16≤out.length) i).bind _;unfold xF dD;by_cases g:out.length=16
   ·rw[if_pos g,if_pos (by omega)];rfl
   ·rw[if_neg g,if_neg (by omega),bK];rfl
  rw[sp]at hP;refine Hc hM hs (aW.call (eO:=ny) hP λ_ H1 S1 w m1 c1 d1 _ hP1=>?_);have t1:=t.keep hM hbp c1;rw[aM,Nat.zero_add];refine az m1 t1.o3 (v:=v) rfl ?_;refine si m1 d1 (aW.call (eO:=NA) hP1.seq λx H2 S2 v2 m2 c2 d2 ⟨hv,h8⟩ hP2=>?_);subst hv;have t2:=t1.keep m1 hbp c2;refine az m2 t2.o3 (v:=v) rfl ?_;refine cG t2.L.same ?_;refine m2.cP ?_;refine eY (kX x) ?_;have n2:=t2.x.1;have HW:b1<S2.n:=m2.lt (by rw[t2.o1];simp);have lt3:b3<S2.n:=m2.lt (by rw[t2.o3];simp);refine t2.L.pushB (R:=uQ) (bytes:=16) (c:=[ai x]) (Q:=λ_=>False) m2 ⟨rfl,h8⟩ (λb hb=>hb.elim) (λb hb=>⟨by omega,by omega,by omega⟩) (by omega) λH3 S3 v3 m3 L3 n3 k3 bk3 ho3=>?_;have hvn:∀b,ak v b→zB S0 b1 b3 b:=λb hb=>t.L.FZ hb;have c3:aO (λb=>ak v b) S2 S3:=⟨n3,λb hb hx=>k3 b hb hx⟩
  have d3:=d2.keep m2 c3 (λq=>by have:=(hvn _ q).1;omega) (λb hb q=>by have:=(hvn _ q).1;have:=de b hb;omega);have o3:S3.ob b3=.ce [v,.ab] 0:=c3.ob m2 t2.o3 λq=>(hvn _ q).2.2 rfl;have o1:S3.ob b1=.ce [.ab,.ab] 0:=c3.ob m2 t2.o1 λq=>(hvn _ q).2.1 rfl;refine bJ m3 o3 (by omega) (by show 0<2;omega) ho3 λH4 m4=>?_;have m4:Mem H4 (S3.set b3 (.ce [v3,.ab] 0)):=m4;have t4:As C S0 (S3.set b3 (.ce [v3,.ab] 0)) b1 b3 v3 (out++[x]):=
   ⟨(t2.x.rW c3 λb hb=>.inr (hvn b hb).1).set (.inr hn3) _,(LS.aq _ _ t.ne).trans o1,LS.ay _ _ _,hn1,hn3,t.ne,L3.keep m3 (Nat.le_refl _) λb hb _=>LS.aq _ _ hb.2.2⟩
  have d4:=d3.setB (b:=b3) (by omega) (λx hx=>by have:=de x hx;omega) (.ce [v3,.ab] 0);show CR (fS (s10 m)) K Y (vF (fS (s10 m)) K) (.ptr C.bp 0) (d:Int) (.ptr b1 0) (.ptr b3 0) H4;unfold CR;rw[r2];refine dC (s:=[44]) (bg (by decide)) m4 d4 (λy j er hi H5 S5 m5 c5 d5=>?_) λhi H5 S5 m5 c5 d5=>?_
  ·simp only[aj,aN,Bool.not_true,aI];rw[er]at hP2;have hP2:aW C (bE C) rE K S0 ((cg C.T k8 false (out++[x]) j).bind λl j=>mH C.T k d l j):=hP2;cases k8 with
   |zero=>exact absurd (show(cg C.T 0 false (out++[x]) j).bind _=.aS by simp only[cg];rfl) hP2.1
   |succ k8=>
    have ol:out.length<16:=by
     rcases Nat.lt_or_ge out.length 16 with g|g
     ·exact g
     ·exfalso;have e1:((an.ok a i).bind λ_ i=>dD (16≤out.length) i)=.err 8 i:=by show dD _ i=_;unfold dD;rw[if_pos g]
      rw[e1]at er;cases er
    have sp:cg C.T (k8+1) false (out++[x]) j=xF C.T k8 (out++[x]) (j+1):=by
     simp only[cg,Bool.false_eq_true,if_false,hi,if_true];rfl
    rw[sp]at hP2;exact hrec k8 rfl (out++[x]) v3 H5 S5 (.ok () (j+1):an Unit) (by simp;omega) m5 d5 (t4.keep m4 hbp c5) hP2
  ·simp only[aj,aN,Bool.not_false,aH];refine aeD O hd hbp de hk m5 d5 (t4.keep m4 hbp c5) (out:=out++[x]) ?_;have sp:∀r':an (List Nat),pb C.T [44] r'=false→(r'.bind λ_ j=>(cg C.T k8 false (out++[x]) j).bind λl j=>mH C.T k d l j)≠.aS→(r'.bind λ_ j=>(cg C.T k8 false (out++[x]) j).bind λl j=>mH C.T k d l j)=r'.bind λ_ i=>(aU C.T [41] i).bind λ_ j=>mH C.T k d (out++[x]) j:=by
    intro r' hi2 hno;cases r' with
    |aS=>rfl
    |err c i=>rfl
    |ok y j=>
     have hi3:isA C.T [44] j=false:=hi2;cases k8 with
     |zero=>exact absurd (show(cg C.T 0 false (out++[x]) j).bind (λl j=>mH C.T k d l j)=.aS by simp only[cg];rfl) hno
     |succ k8=>
      have e1:cg C.T (k8+1) false (out++[x]) j=(aU C.T [41] j).bind λ_ j=>.ok (out++[x]) j:=by
       simp only[cg,Bool.false_eq_true,if_false];rw[hi3];rfl
      show(cg C.T (k8+1) false (out++[x]) j).bind _=(aU C.T [41] j).bind _;rw[e1,bK];rfl
   rw[sp _ hi hP2.1]at hP2;exact hP2
 ·rw[decide_eq_false (by omega),aI];exact aeD O hd hbp de hk hM hs t hP
theorem aoI(O:gr C m)(hd:d≤200)(hbp:C.bp<S0.n)(de:∀b,ak C.vT b→b<S0.n)(hk:2*k+4≤m) :
  ∀k8 (q:Nat) (out:List (List Nat)) (v:AV) (H:AH) (S:LS){γ:Type}(r:an γ),k8<q→out.length≤16→Mem H S→bj C S r→As C S0 S b1 b3 v out→aW C (bE C) rE K S0 ((r.bind λ_ i=>xF C.T k8 out i).bind λl j=>mH C.T k d l j)→
  CT (fS (s10 m)) K q (.ptr C.bp 0) (d:Int) (.ptr b1 0) (.ptr b3 0) H:=by
 intro k8
 induction k8 with
 |zero=>
  intro q out v H S γ r hq ho hM hs t hP;obtain⟨q,rfl⟩:∃p,q=p+1:=⟨q-1,by omega⟩
  exact aeE O hd hbp de hk (λk' h=>absurd h (by omega)) out v H S r ho hM hs t hP
 |succ k8 ih=>
  intro q out v H S γ r hq ho hM hs t hP;obtain⟨q,rfl⟩:∃p,q=p+1:=⟨q-1,by omega⟩
  exact aeE O hd hbp de hk (λk' h out v H S γ r ho hM hs t hP=>by
   obtain rfl:k8=k':=by omega
   exact ih q out v H S r (by omega) ho hM hs t hP) out v H S r ho hM hs t hP
end
theorem x105{m:Nat}(hm:m≤1000000)(O:gr C m):∀k,2*k+5≤m+1→∀{K:KF}{H:AH}{S:LS}{d:Nat}{γ:Type}{r:an γ},d≤200→Mem H S→bj C S r→aW C (bE C) rE K S (r.bind λ_ i=>pFn C.T k i d)→(s10 (m+1)).2.2.2.2.1 (.ptr C.bp 0) (d:Int) H K:=by
 intro k hk K H S d γ r hd hM hs hP;have e7:(s10 (m+1)).2.2.2.2.1=CU (fS (s10 m)):=by rw[Ab]
 rw[e7];have r2:(fS (s10 m)).2.1=f40:=rfl;have r4:(fS (s10 m)).2.2.2.1=f59:=rfl;unfold CU VB KH;rw[r2,r4];have gu:G.NL=1000000:=rfl;generalize G.NL=eW at gu ⊢;have z1:∀a∈([.ab,.ab]:List AV),a.one=true:=λa ha=>by
  simp only[List.mem_cons,List.not_mem_nil,or_false]at ha;rcases ha with rfl|rfl<;>rfl
 refine eT (dp hM z1 λH1 m1=>?_);refine eT (dp m1 z1 λH2 m2=>?_);have c2:aO bU S ((S.push (.ce [.ab,.ab] 0)).push (.ce [.ab,.ab] 0)):=((aO.refl _ _).push _).push _;have d2:=hs.im hM c2;have hbp:=hs.nu hM;have de:∀b,ak C.vT b→b<S.n:=λb hb=>hs.tk.lt hM hb;have t2:As C S ((S.push (.ce [.ab,.ab] 0)).push (.ce [.ab,.ab] 0)) S.n (S.n+1) .ab []:=
  ⟨c2.no,by rw[LS.bS _ _ (by show S.n<S.n+1;omega)];exact LS.av _ _,LS.av _ _,Nat.le_refl _,Nat.le_succ _,by omega,aX.nil _ _ _⟩
 have hP:aW C (bE C) rE K S ((r.bind λ_ i=>aU C.T [40] i).bind λ_ j=>(cg C.T k true [] j).bind λps j=>mH C.T k d ps j):=by
  rw[bK];exact hP
 refine kC (s:=[40]) (bg (by decide)) m2 d2 (aW.call (eO:=ny) hP λ_ H3 S3 w m3 c3 d3 _ hP3=>?_);have t3:=t2.keep m2 hbp c3;refine dC (s:=[41]) (bg (by decide)) m3 d3 (λy j er hi H4 S4 m4 c4 d4=>?_) λh1 H4 S4 m4 c4 d4=>?_
 ·simp only[aj,aN,Bool.not_true,aI];rw[er]at hP3;have hP3:aW C (bE C) rE K S ((cg C.T k true [] j).bind λps j=>mH C.T k d ps j):=hP3;cases k with
  |zero=>exact absurd (show(cg C.T 0 true [] j).bind _=.aS by simp only[cg];rfl) hP3.1
  |succ k=>
  have sp:cg C.T (k+1) true [] j=.ok [] (j+1):=by
   simp only[cg,if_true];rw[hi];simp only[Bool.not_true,Bool.false_eq_true,if_false,aU];rw[hi];rfl
  rw[sp]at hP3;exact aeC O hd hbp de (by omega) m4 d4 (t3.keep m3 hbp c4) hP3
 ·simp only[aj,aN,Bool.not_false,aH];have sp:((r.bind λ_ i=>aU C.T [40] i).bind λ_ j=>(cg C.T k true [] j).bind λps j=>mH C.T k d ps j)=(((r.bind λ_ i=>aU C.T [40] i).bind λ_ i=>xF C.T (k-1) [] i).bind λl j=>mH C.T k d l j):=by
   cases hr:r.bind λ_ i=>aU C.T [40] i with
   |aS=>rfl
   |err c i=>rfl
   |ok y j=>
    rw[hr]at h1 hP3;have h1:isA C.T [41] j=false:=h1;cases k with
    |zero=>exact absurd (show(cg C.T 0 true [] j).bind (λl j=>mH C.T 0 d l j)=.aS by simp only[cg];rfl) hP3.1
    |succ k=>
     show(cg C.T (k+1) true [] j).bind _=(xF C.T k [] j).bind _;simp only[cg,if_true];rw[h1];rfl
  rw[sp]at hP3;exact aoI O hd hbp de (by omega) (k-1) eW [] .ab H4 S4 _ (by omega) (by simp) m4 d4 (t3.keep m3 hbp c4) hP3
end
section
variable {H:AH}{S:LS}{K:KF}{C:Ctx}{i d:Nat}
theorem iA.all{Q:Nat→Prop}{kind a:Nat}{names:List (List Nat)}{l:List al}{B:List (List aA)}{vn vl vb:AV}{cl cb:Nat→List AV}(hn:kl S Q vn names)(hl:eu S Q 7 vl l.length cl)(he:∀i e,l[i]? = some e→RE S Q (cl i) e)(hb:eu S Q 1 vb B.length cb)(hs:∀i b,B[i]? = some b→tf.rel S Q (cb i) b):iA S Q [.int 0 (kind:Int),.int 0 (a:Int),vn,vl,vb] (.mk kind a names l B):=by
 have key:∀i,∃p:AV×(Nat→List AV),∀b,B[i]? = some b→cb i=[p.1]∧eu S Q 5 p.1 b.length p.2∧∀j s,b[j]? = some s→iA S Q (p.2 j) s:=λi=>by
  cases hi:B[i]? with
  |none=>exact⟨⟨.ab,λ_=>[]⟩,λb h=>by cases h⟩
  |some b=>
   obtain⟨v,bc,e,g1,g2⟩:=hs i b hi;exact⟨⟨v,bc⟩,λb' h=>by cases h;exact⟨e,g1,g2⟩⟩
 obtain⟨p,hp⟩:=Classical.axiomOfChoice key;exact .mk kind a names l B vn vl vb cl (λi=>(p i).1) (λi=>(p i).2) hn hl he (hb.congr λi hi=>(hp i _ (List.getElem?_eq_getElem hi)).1) (λi b h=>(hp i b h).2.1) λi b j s h h2=>(hp i b h).2.2 j s h2
def zS(S0:LS)(u w:AV)(X:Nat→Prop):Nat→Prop:=λb=>S0.n≤b∧¬ak u b∧¬ak w b∧¬X b
structure dt(C:Ctx)(S0 S:LS)(bs kd a:Nat)(vn:AV)(names:List (List Nat))(vl:AV)(l:List al)(vb:AV)(B:List (List aA))(X:Nat→Prop):Prop where
 x:aO (fF C bs) S0 S
 ob:S.ob bs=.ce [.int 0 (kd:Int),.int 0 (a:Int),vn,vl,vb] 0
 N:aX uQ (zS S0 vl vb X) S vn names
 E:aX ku (zS S0 vn vb X) S vl l
 B:aX tf (zS S0 vn vl X) S vb B
structure j1(C:Ctx)(S0:LS)(bs:Nat):Prop where
 lt:bs<S0.n
 ne:bs≠C.bp
 nT:∀b,ak C.vT b→b≠bs
 bp:C.bp<S0.n
 vT:∀b,ak C.vT b→b<S0.n
section
variable {S0 S':LS}{bs kd a:Nat}{vn vl vb:AV}{names:List (List Nat)}{l:List al}{B:List (List aA)}{X X':Nat→Prop}
theorem dt.Gd{Y:Nat→Prop}(t:dt C S0 S bs kd a vn names vl l vb B X)(hM:Mem H S)(g:aO Y S S')(h:∀b,Y b→b≠bs∧(b=C.bp∨S0.n≤b))(hY:∀b,S0.n≤b→b<S.n→¬Y b):dt C S0 S' bs kd a vn names vl l vb B X:=
 ⟨t.x.rW g λb hb=>(h b hb).2.elim (λq=>.inl (.inl q)) .inr,g.ob hM t.ob λq=>(h _ q).1 rfl,t.N.keep hM g.1 λb h1 h2=>g.2 b h2 (hY b h1.1 h2),t.E.keep hM g.1 λb h1 h2=>g.2 b h2 (hY b h1.1 h2),t.B.keep hM g.1 λb h1 h2=>g.2 b h2 (hY b h1.1 h2)⟩
theorem dt.keep(W:j1 C S0 bs)(t:dt C S0 S bs kd a vn names vl l vb B X)(hM:Mem H S)(g:aO (bE C) S S'):dt C S0 S' bs kd a vn names vl l vb B X:=
 t.Gd hM g (λb hb=>⟨λq=>W.ne (by have hb:b=C.bp:=hb;omega),.inl hb⟩) λb h1 _ q=>by have q:b=C.bp:=q;have:=W.bp;omega
theorem dt.res(t:dt C S0 S bs kd a vn names vl l vb B X)(hM:Mem H S)(h:∀b,X' b→X b∨S.n≤b):dt C S0 S bs kd a vn names vl l vb B X':=
 ⟨t.x,t.ob,t.N.imp hM λb hb hlt=>⟨hb.1,hb.2.1,hb.2.2.1,λq=>(h b q).elim hb.2.2.2 λg=>by omega⟩,t.E.imp hM λb hb hlt=>⟨hb.1,hb.2.1,hb.2.2.1,λq=>(h b q).elim hb.2.2.2 λg=>by omega⟩,t.B.imp hM λb hb hlt=>⟨hb.1,hb.2.1,hb.2.2.1,λq=>(h b q).elim hb.2.2.2 λg=>by omega⟩⟩
theorem dt.kind(W:j1 C S0 bs)(t:dt C S0 S bs kd a vn names vl l vb B X)(hM:Mem H S)(kd':Nat):dt C S0 (S.set bs (.ce [.int 0 (kd':Int),.int 0 (a:Int),vn,vl,vb] 0)) bs kd' a vn names vl l vb B X:=
 ⟨t.x.set (.inl (.inr rfl)) _,LS.ay _ _ _,t.N.keep hM (Nat.le_refl _) λb h1 _=>LS.aq _ _ (by have:=W.lt;have:=h1.1;omega),t.E.keep hM (Nat.le_refl _) λb h1 _=>LS.aq _ _ (by have:=W.lt;have:=h1.1;omega),t.B.keep hM (Nat.le_refl _) λb h1 _=>LS.aq _ _ (by have:=W.lt;have:=h1.1;omega)⟩
theorem dt.j0(W:j1 C S0 bs)(t:dt C S0 S bs kd a vn names vl l vb B X)(hM:Mem H S){kd':Nat}{k:AH→Prop}{α:Type}{r:an α}(hd:bj C S r)(hk:∀H' S',Mem H' S'→S'.n=S.n→bj C S' r→(∀b,b≠bs→S'.ob b=S.ob b)→dt C S0 S' bs kd' a vn names vl l vb B X→k H'):au (.ptr bs 0) (ag 0 (.ptr bs 0) λv=>ah 1 v (.int 0 (kd':Int)) H k):=by
 simp only[bV,aM,Nat.zero_add];refine bJ (v:=.int 0 (kd':Int)) hM t.ob (by omega) (by show 0<5;omega) rfl λH1 m1=>?_;exact hk H1 _ m1 rfl (hd.setB W.ne W.nT _) (λb hb=>LS.aq _ _ hb) (t.kind W hM kd')
theorem dt.NJ(W:j1 C S0 bs)(t:dt C S0 S bs kd a vn names vl l vb B X)(hM:Mem H S){cL:AV}{names':List (List Nat)}(N':aX uQ (zS S0 vl vb bU) S cL names')(hX:∀b,ak cL b→X b){k:AH→Prop}{α:Type}{r:an α}(hd:bj C S r)(hk:∀H' S',Mem H' S'→S'.n=S.n→bj C S' r→(∀b,b≠bs→S'.ob b=S.ob b)→dt C S0 S' bs kd a cL names' vl l vb B bU→k H'):au (.ptr bs 0) (ag 2 (.ptr bs 0) λv=>ah 1 v cL H k):=by
 simp only[bV,aM,Nat.zero_add];refine bJ hM t.ob (by omega) (by show 2<5;omega) N'.one λH1 m1=>?_;have hlt:=W.lt;refine hk H1 _ m1 rfl (hd.setB W.ne W.nT _) (λb hb=>LS.aq _ _ hb) ⟨t.x.set (.inl (.inr rfl)) _,LS.ay _ _ _,N'.keep hM (Nat.le_refl _) λb h1 _=>LS.aq _ _ (by have:=h1.1;omega),?_,?_⟩
 ·exact(t.E.imp hM λb hb _=>(⟨hb.1,λq=>hb.2.2.2 (hX b q),hb.2.2.1,λq=>q⟩:zS S0 cL vb bU b)).keep hM (Nat.le_refl _) λb h1 _=>LS.aq _ _ (by have:=h1.1;omega)
 ·exact(t.B.imp hM λb hb _=>(⟨hb.1,λq=>hb.2.2.2 (hX b q),hb.2.2.1,λq=>q⟩:zS S0 cL vl bU b)).keep hM (Nat.le_refl _) λb h1 _=>LS.aq _ _ (by have:=h1.1;omega)
theorem dt.rm(W:j1 C S0 bs)(t:dt C S0 S bs kd a vn names vl l vb B X)(hM:Mem H S){dv:AV}{l':List al}(E':aX ku (zS S0 vn vb bU) S dv l')(hX:∀b,ak dv b→X b){k:AH→Prop}{α:Type}{r:an α}(hd:bj C S r)(hk:∀H' S',Mem H' S'→S'.n=S.n→bj C S' r→(∀b,b≠bs→S'.ob b=S.ob b)→dt C S0 S' bs kd a vn names dv l' vb B bU→k H'):au (.ptr bs 0) (ag 3 (.ptr bs 0) λv=>ah 1 v dv H k):=by
 simp only[bV,aM,Nat.zero_add];refine bJ hM t.ob (by omega) (by show 3<5;omega) E'.one λH1 m1=>?_;have hlt:=W.lt;refine hk H1 _ m1 rfl (hd.setB W.ne W.nT _) (λb hb=>LS.aq _ _ hb) ⟨t.x.set (.inl (.inr rfl)) _,LS.ay _ _ _,?_,E'.keep hM (Nat.le_refl _) λb h1 _=>LS.aq _ _ (by have:=h1.1;omega),?_⟩
 ·exact(t.N.imp hM λb hb _=>(⟨hb.1,λq=>hb.2.2.2 (hX b q),hb.2.2.1,λq=>q⟩:zS S0 dv vb bU b)).keep hM (Nat.le_refl _) λb h1 _=>LS.aq _ _ (by have:=h1.1;omega)
 ·exact(t.B.imp hM λb hb _=>(⟨hb.1,hb.2.1,λq=>hb.2.2.2 (hX b q),λq=>q⟩:zS S0 vn dv bU b)).keep hM (Nat.le_refl _) λb h1 _=>LS.aq _ _ (by have:=h1.1;omega)
theorem dt.Gh(W:j1 C S0 bs)(t:dt C S0 S bs kd a vn names vl l vb B X)(hM:Mem H S){PT:AV}{B':List (List aA)}(B1:aX tf (zS S0 vn vl bU) S PT B')(hX:∀b,ak PT b→X b){k:AH→Prop}{α:Type}{r:an α}(hd:bj C S r)(hk:∀H' S',Mem H' S'→S'.n=S.n→bj C S' r→(∀b,b≠bs→S'.ob b=S.ob b)→dt C S0 S' bs kd a vn names vl l PT B' bU→k H'):au (.ptr bs 0) (ag 4 (.ptr bs 0) λv=>ah 1 v PT H k):=by
 simp only[bV,aM,Nat.zero_add];refine bJ hM t.ob (by omega) (by show 4<5;omega) B1.one λH1 m1=>?_;have hlt:=W.lt;refine hk H1 _ m1 rfl (hd.setB W.ne W.nT _) (λb hb=>LS.aq _ _ hb) ⟨t.x.set (.inl (.inr rfl)) _,LS.ay _ _ _,?_,?_,B1.keep hM (Nat.le_refl _) λb h1 _=>LS.aq _ _ (by have:=h1.1;omega)⟩
 ·exact(t.N.imp hM λb hb _=>(⟨hb.1,hb.2.1,λq=>hb.2.2.2 (hX b q),λq=>q⟩:zS S0 vl PT bU b)).keep hM (Nat.le_refl _) λb h1 _=>LS.aq _ _ (by have:=h1.1;omega)
 ·exact(t.E.imp hM λb hb _=>(⟨hb.1,hb.2.1,λq=>hb.2.2.2 (hX b q),λq=>q⟩:zS S0 vn PT bU b)).keep hM (Nat.le_refl _) λb h1 _=>LS.aq _ _ (by have:=h1.1;omega)
theorem dt.y7(t:dt C S0 S bs kd a vn names vl l vb B X)(hM:Mem H S):(∀b,ak vn b→S0.n≤b∧b<S.n)∧(∀b,ak vl b→S0.n≤b∧b<S.n)∧(∀b,ak vb b→S0.n≤b∧b<S.n):=
 ⟨λb hb=>⟨(t.N.FZ hb).1,t.N.lt hM hb⟩,λb hb=>⟨(t.E.FZ hb).1,t.E.lt hM hb⟩,λb hb=>⟨(t.B.FZ hb).1,t.B.lt hM hb⟩⟩
theorem dt.ark(W:j1 C S0 bs)(t:dt C S0 S bs kd a vn names vl l vb B bU)(hM:Mem H S){s:List Nat}(h8:B8 s){k:AV→AH→Prop}{α:Type}{r:an α}(hd:bj C S r)(hk:∀H' S',Mem H' S'→S'.n=S.n+1→bj C S' r→dt C S0 S' bs kd a vn names vl l vb B (λb=>b=S.n)→aX uQ (zS S0 vl vb bU) S' (.slice S.n 0 1 1 1 true) [s]→k (.slice S.n 0 1 1 1 true) H'):aT (aE H) 1 1 [ai s] k:=by
 have L:=t.y7 hM;have n0:=t.x.1;refine dj hM rfl (λy hy=>by simp only[List.mem_cons,List.not_mem_nil,or_false]at hy;subst hy;exact kX s) λH1 m1=>?_;have c1:aO bU S (S.push (.ce [ai s] 0)):=(aO.refl _ _).push _;refine hk H1 _ m1 rfl (hd.im hM c1) ((t.res hM (X':=λb=>b=S.n) λb hb=>.inr (by have hb:b=S.n:=hb;omega)).keep W hM c1.no) ?_;exact aX.single (R:=uQ) (Q:=λ_=>False) (LS.av _ _) ⟨n0,λq=>by have:=(L.2.1 _ q).2;omega,λq=>by have:=(L.2.2 _ q).2;omega,λq=>q⟩ ⟨rfl,h8⟩ λx hx=>hx.elim
theorem dt.newE(W:j1 C S0 bs)(t:dt C S0 S bs kd a vn names vl l vb B bU)(hM:Mem H S){c:List AV}{e:al}{Q:Nat→Prop}(hR:RE S Q c e)(hQ:∀b,Q b→S0.n≤b∧b<S.n∧¬ak vn b∧¬ak vb b){k:AV→AH→Prop}{α:Type}{r:an α}(hd:bj C S r)(hk:∀H' S',Mem H' S'→S'.n=S.n+1→bj C S' r→dt C S0 S' bs kd a vn names vl l vb B (λb=>b=S.n)→aX ku (zS S0 vn vb bU) S' (.slice S.n 0 1 1 7 true) [e]→k (.slice S.n 0 1 1 7 true) H'):aT (aE H) 1 7 c k:=by
 have L:=t.y7 hM;have n0:=t.x.1;refine dj hM (by rw[hR.len]) hR.ones λH1 m1=>?_;have c1:aO bU S (S.push (.ce c 0)):=(aO.refl _ _).push _;refine hk H1 _ m1 rfl (hd.im hM c1) ((t.res hM (X':=λb=>b=S.n) λb hb=>.inr (by have hb:b=S.n:=hb;omega)).keep W hM c1.no) ?_;exact aX.single (R:=ku) (Q:=Q) (LS.av _ _) ⟨n0,λq=>by have:=(L.1 _ q).2;omega,λq=>by have:=(L.2.2 _ q).2;omega,λq=>q⟩ (hR.go (λb hb=>LS.bS _ _ (hQ b hb).2.1) λ_ h=>h) λx hx=>⟨⟨(hQ x hx).1,(hQ x hx).2.2.1,(hQ x hx).2.2.2,λq=>q⟩,Nat.lt_succ_of_lt (hQ x hx).2.1,by have:=(hQ x hx).2.1;omega⟩
theorem dt.ap1(W:j1 C S0 bs)(t:dt C S0 S bs kd a vn names vl l vb B bU)(hM:Mem H S){c1 c2:List AV}{e1 e2:al}{Q:Nat→Prop}(hR1:RE S Q c1 e1)(hR2:RE S Q c2 e2)(hQ:∀b,Q b→S0.n≤b∧b<S.n∧¬ak vn b∧¬ak vb b){k:AV→AH→Prop}{α:Type}{r:an α}(hd:bj C S r)(hk:∀H' S',Mem H' S'→S'.n=S.n+1→bj C S' r→dt C S0 S' bs kd a vn names vl l vb B (λb=>b=S.n)→aX ku (zS S0 vn vb bU) S' (.slice S.n 0 2 2 7 true) [e1,e2]→(∀b,b<S.n→S'.ob b=S.ob b)→k (.slice S.n 0 2 2 7 true) H'):aT (aE H) 2 7 (c1++c2) k:=by
 have L:=t.y7 hM;have n0:=t.x.1;have l1:=hR1.len;have l2:=hR2.len;refine dj hM (by rw[List.length_append,l1,l2]) (λy hy=>(List.mem_append.1 hy).elim (λg=>hR1.ones y g) λg=>hR2.ones y g) λH1 m1=>?_;have g1:aO bU S (S.push (.ce (c1++c2) 0)):=(aO.refl _ _).push _;refine hk H1 _ m1 rfl (hd.im hM g1) ((t.res hM (X':=λb=>b=S.n) λb hb=>.inr (by have hb:b=S.n:=hb;omega)).keep W hM g1.no) ?_ λb hb=>LS.bS _ _ hb;have zz:zS S0 vn vb bU S.n:=⟨n0,λq=>by have:=(L.1 _ q).2;omega,λq=>by have:=(L.2.2 _ q).2;omega,λq=>q⟩
 have go:∀{c:List AV}{e:al},RE S Q c e→∃Q',RE (S.push (.ce (c1++c2) 0)) Q' c e∧∀b,Q' b→zS S0 vn vb bU b∧b<(S.push (.ce (c1++c2) 0)).n∧¬ak (.slice S.n 0 2 2 7 true) b:=λhR=>⟨Q,hR.go (λb hb=>LS.bS _ _ (hQ b hb).2.1) λ_ h=>h,λx hx=>⟨⟨(hQ x hx).1,(hQ x hx).2.2.1,(hQ x hx).2.2.2,λq=>q⟩,Nat.lt_succ_of_lt (hQ x hx).2.1,λq=>by have q:x=S.n:=q;have:=(hQ x hx).2.1;omega⟩⟩
 refine⟨[c1,c2],.inr ⟨S.n,2,true,c1++c2,rfl,LS.av _ _,by rw[List.length_append,l1,l2];rfl,Nat.le_refl _,by show [c1,c2].flatten.length=2*7;simp[l1,l2],by show(c1++c2).take ([c1,c2].flatten).length=[c1,c2].flatten;rw[show [c1,c2].flatten=c1++c2 by simp];exact List.take_of_length_le (Nat.le_refl _),λy hy=>(List.mem_append.1 hy).elim (λg=>hR1.ones y g) λg=>hR2.ones y g⟩,rfl,λx hx=>by have hx:x=S.n:=hx;rw[hx];exact zz,λi c' a' hc ha=>?_⟩
 match i,hc,ha with
 |0,hc,ha=>
  have q1:c1=c':=by simpa using hc
  have q2:e1=a':=by simpa using ha
  subst q1;subst q2;exact go hR1
 |1,hc,ha=>
  have q1:c2=c':=by simpa using hc
  have q2:e2=a':=by simpa using ha
  subst q1;subst q2;exact go hR2
 |i+2,hc,ha=>simp at hc
theorem dt.arl(W:j1 C S0 bs)(t:dt C S0 S bs kd a vn names vl l vb B bU)(hM:Mem H S){v:AV}{b0:List aA}{Q:Nat→Prop}(hR:tf.rel S Q [v] b0)(hQ:∀b,Q b→S0.n≤b∧b<S.n∧¬ak vn b∧¬ak vl b){k:AV→AH→Prop}{α:Type}{r:an α}(hd:bj C S r)(hk:∀H' S',Mem H' S'→S'.n=S.n+1→bj C S' r→dt C S0 S' bs kd a vn names vl l vb B (λb=>b=S.n)→aX tf (zS S0 vn vl bU) S' (.slice S.n 0 1 1 1 true) [b0]→k (.slice S.n 0 1 1 1 true) H'):aT (aE H) 1 1 [v] k:=by
 have L:=t.y7 hM;have n0:=t.x.1;refine dj hM rfl (tf.ones hR) λH1 m1=>?_;have c1:aO bU S (S.push (.ce [v] 0)):=(aO.refl _ _).push _;refine hk H1 _ m1 rfl (hd.im hM c1) ((t.res hM (X':=λb=>b=S.n) λb hb=>.inr (by have hb:b=S.n:=hb;omega)).keep W hM c1.no) ?_;exact aX.single (R:=tf) (Q:=Q) (LS.av _ _) ⟨n0,λq=>by have:=(L.1 _ q).2;omega,λq=>by have:=(L.2.1 _ q).2;omega,λq=>q⟩ (tf.go (λb hb=>LS.bS _ _ (hQ b hb).2.1) (λ_ h=>h) hR) λx hx=>⟨⟨(hQ x hx).1,(hQ x hx).2.2.1,(hQ x hx).2.2.2,λq=>q⟩,Nat.lt_succ_of_lt (hQ x hx).2.1,by have:=(hQ x hx).2.1;omega⟩
theorem dt.rst(t:dt C S0 S bs kd a vn names vl l vb B X)(hM:Mem H S):iA S (jd S0.n S.n) [.int 0 (kd:Int),.int 0 (a:Int),vn,vl,vb] (.mk kd a names l B):=by
 obtain⟨cl,g1,g2⟩:=(t.E.toR (lo:=S0.n) λb hb=>hb.1).done hM;obtain⟨cb,q1,q2⟩:=(t.B.toR (lo:=S0.n) λb hb=>hb.1).done hM;exact iA.all ((t.N.toR (lo:=S0.n) λb hb=>hb.1).nm hM) g1 g2 q1 q2
def dG(T:List Tok)(s:aA)(j:Nat):an aA:=if s.kind=3∧isA T [61] j=true then .err 14 j else .ok s j
theorem dt.fin(t:dt C S0 S bs kd a vn names vl l vb B X)(hM:Mem H S){α:Type}{r:an α}(hd:bj C S r)(h3:kd≠3)(hP:aW C (fF C bs) (iK bs) K S0 (r.bind λ_ j=>dG C.T (.mk kd a names l B) j)):K (.ret (.aP [])) H:=by
 have e:(r.bind λ_ j=>dG C.T (.mk kd a names l B) j)=r.bind λ_ j=>.ok (.mk kd a names l B) j:=by
  congr 1;funext _ j;unfold dG;rw[if_neg λq=>h3 q.1]
 rw[e]at hP;exact hP.2 H S _ _ hM t.x (hd.ret _) ⟨rfl,_,t.ob,t.rst hM⟩ pT
end
end
section
variable {H:AH}{S:LS}{K:KF}{C:Ctx}{i d:Nat}
section
variable {m k:Nat}{S0:LS}{bs kd a:Nat}{vn vl vb:AV}{names:List (List Nat)}{l:List al}{B:List (List aA)}{γ:Type}{r:an γ}
theorem dt.af0(O:gr C m)(hk:2*k+4≤m)(hd:d≤200)(W:j1 C S0 bs)(hM:Mem H S)(hs:bj C S r)(t:dt C S0 S bs kd a vn names vl l vb B bU)(hll:l.length≤1000000){X:AH→Prop}{f:al→Nat→an aA}
  (hP:aW C (fF C bs) (iK bs) K S0 (r.bind λ_ i=>(bW C.T k i d).bind f))
  (hX:∀(e:al) (v':AV) (H':AH) (S':LS),Mem H' S'→bj C S' (r.bind λ_ i=>bW C.T k i d)→dt C S0 S' bs kd a vn names v' (l++[e]) vb B bU→aW C (fF C bs) (iK bs) K S0 ((r.bind λ_ i=>bW C.T k i d).bind λ_ j=>f e j)→X H') :
  au (.ptr bs 0) (ag 3 (.ptr bs 0) λv1=>ad v1 H λv2=>bO v2 λv3=>cI 0 v3 λz4=>cP H (aT (aE H) 1 7 z7 λv5 H6=>bT (Nat.beq H6.n (Nat.succ H.n)) ((s10 m).2.1 (.ptr C.bp 0) (d:Int) H6 λo7 H8=>cR K o7 H8 λv9=>ad v1 H8 λv10=>bT (bu v10 v2) (cO 7 96 v2 v5 H8 λv11 bQ=>bb 7 v11 (.int 0 z4) λv13=>au (.ptr bs 0) (ag 3 (.ptr bs 0) λv14=>ah 7 v13 v9 bQ λdZ=>ah 1 v14 v11 dZ λeE=>ah 1 v14 v11 bQ λjO=>ah 7 v13 v9 jO λiz=>vr 7 1 v13 v14 (X eE)))))):=by
 simp only[bV,aM,Nat.zero_add];refine az hM t.ob (v:=vl) rfl ?_;refine t.E.G9 ?_;rw[aK];refine hM.cP ?_;have n0:=t.x.1;have L:=t.y7 hM;have hlt:=W.lt;have hne:=W.ne;have hbp:=W.bp;refine dj hM rfl fg λH1 m1=>cG (ry (by rw[m1.n,hM.n];rfl)) ?_;have c1:aO bU S (S.push (.ce z7 0)):=(aO.refl _ _).push _;have t1:=t.keep W hM c1.no;refine O.exp k hk hd m1 (hs.im hM c1) (aW.call (eO:=dS) (bK r _ _ ▸ hP) λe H2 S2 w m2 c2 d2 ⟨c,hw,hR⟩ hP2=>?_);subst hw;have t2:=t1.keep W m1 c2;have n2:S.n+1≤S2.n:=c2.1;have or2:S2.ob S.n=.ce z7 0:=c2.ob m1 (LS.av _ _) λq=>by have q:S.n=C.bp:=q;omega
 refine az m2 t2.ob (v:=vl) rfl ?_;refine cG t.E.same ?_;obtain⟨cl,hfr,hrest⟩:=id t2.E;have arn:¬ak vl bs:=λq=>by have:=(L.2.1 _ q).1;omega
 refine apW m2 hfr or2 rfl fg hR.len hR.ones t2.ob (by show 3<5;omega) arn (by omega) λH3 S3 v' m3 he o3=>?_;obtain⟨e1,e2,e3,e4⟩:=id he;have c3:aO (λb=>ak vl b) S2 S3:=⟨e1,λb hb hx=>e2 b hb hx⟩
 have d3:bj C S3 _:=d2.keep m2 c3 (λq=>by have:=(L.2.1 _ q).1;omega) λb hb q=>by have:=(L.2.1 _ q).1;have:=W.vT b hb;omega
 have L3:aX ku (zS S0 vn vb bU) S3 v' (l++[e]):=t2.E.step hR (λb hb=>by
  have h1:S.n+1≤b:=hb.1;exact⟨⟨by omega,λq=>by have:=(L.1 _ q).2;omega,λq=>by have:=(L.2.2 _ q).2;omega,λq=>q⟩,hb.2,λq=>by have:=(L.2.1 _ q).2;omega⟩) (λb hb=>⟨by omega,λq=>by have:=(L.1 _ q).2;omega,λq=>by have:=(L.2.2 _ q).2;omega,λq=>q⟩) λcl' h'=>by rw[hfr.uniq h'];exact he
 have hv':∀b,ak v' b→ak vl b∨S2.n≤b:=e4;have kN:∀{α:Type}{R:Rep α}{u v:AV}{q:List α},aX R (λb=>S0.n≤b∧¬ak vl b∧¬ak u b) S2 v q→aX R (λb=>(S0.n≤b∧¬ak vl b∧¬ak u b)∧¬ak v' b) (S3.set bs (.ce ([.int 0 (kd:Int),.int 0 (a:Int),vn,vl,vb].set 3 v') 0)) v q:=λh=>
  (h.imp m2 λb hb hb2=>(⟨hb,λq=>(hv' b q).elim hb.2.1 λg=>by omega⟩:(S0.n≤b∧¬ak vl b∧¬ak _ b)∧¬ak v' b)).keep m2 e1 λb h1 h2=>by
   rw[LS.aq _ _ (by have:=h1.1.1;omega)];exact e2 b h2 h1.1.2.1
 have L4:aX ku (zS S0 vn vb bU) (S3.set bs (.ce ([.int 0 (kd:Int),.int 0 (a:Int),vn,vl,vb].set 3 v') 0)) v' (l++[e]):=by
  obtain⟨cl3,g1,g2,g3,g4⟩:=L3;refine⟨cl3,?_,g2,g3,λi c a hc ha=>?_⟩
  ·rcases g1 with g|⟨b,cc,ex,cs',q1,q2,q3⟩
   ·exact .inl g
   ·exact .inr ⟨b,cc,ex,cs',q1,(LS.aq _ _ (by have:=(g3 b (by rw[q1];rfl)).1;omega)).trans q2,q3⟩
  ·obtain⟨Q,q1,q2⟩:=g4 i c a hc ha;exact⟨Q,RE.go (λb hb=>LS.aq _ _ (by have:=(q2 b hb).1.1;omega)) (λ_ h=>h) q1,q2⟩
 have fin:∀{α:Type}{R:Rep α}{Z Z':Nat→Prop}{S:LS}{v:AV}{q:List α},aX R Z S v q→(∀b,Z b→Z' b)→aX R Z' S v q:=λ{α R Z Z' S v q} h hz=>by
  obtain⟨cl,q1,q2,q3,q4⟩:=h;exact⟨cl,q1,q2,λb hb=>hz b (q3 b hb),λi c a hc ha=>by
   obtain⟨Q,w1,w2⟩:=q4 i c a hc ha;exact⟨Q,w1,λb hb=>⟨hz b (w2 b hb).1,(w2 b hb).2⟩⟩⟩
 refine hX e v' H3 _ m3 (d3.setB hne W.nT _) ⟨(t2.x.rW c3 λb hb=>.inr (L.2.1 _ hb).1).set (.inl (.inr rfl)) _,LS.ay _ _ _,?_,L4,?_⟩ hP2
 ·exact fin (kN (fin t2.N λb hb=>⟨hb.1,hb.2.1,hb.2.2.1⟩)) λb hb=>⟨hb.1.1,hb.2,hb.1.2.2,λq=>q⟩
 ·exact fin (kN (fin t2.B λb hb=>⟨hb.1,hb.2.2.1,hb.2.1⟩)) λb hb=>⟨hb.1.1,hb.1.2.2,hb.2,λq=>q⟩
theorem aX.wk{α:Type}{R:Rep α}{Z Z':Nat→Prop}{S:LS}{v:AV}{q:List α}(h:aX R Z S v q)(hz:∀b,Z b→Z' b):aX R Z' S v q:=by
 obtain⟨cl,q1,q2,q3,q4⟩:=h;exact⟨cl,q1,q2,λb hb=>hz b (q3 b hb),λi c a hc ha=>by
  obtain⟨Q,w1,w2⟩:=q4 i c a hc ha;exact⟨Q,w1,λb hb=>⟨hz b (w2 b hb).1,(w2 b hb).2⟩⟩⟩
theorem dt.aoJ(O:gr C m)(hk:2*k+4≤m)(hd:d≤200)(W:j1 C S0 bs)(hM:Mem H S)(hs:bj C S r)(t:dt C S0 S bs kd a vn names vl l vb B bU)(hll:B.length≤1000000){X:AH→Prop}{f:List aA→Nat→an aA}
  (hP:aW C (fF C bs) (iK bs) K S0 (r.bind λ_ i=>(cD C.T k i d).bind f))
  (hX:∀(e:List aA) (v':AV) (H':AH) (S':LS),Mem H' S'→bj C S' (r.bind λ_ i=>cD C.T k i d)→dt C S0 S' bs kd a vn names vl l v' (B++[e]) bU→aW C (fF C bs) (iK bs) K S0 ((r.bind λ_ i=>cD C.T k i d).bind λ_ j=>f e j)→X H') :
  au (.ptr bs 0) (ag 4 (.ptr bs 0) λv5=>ad v5 H λv6=>(s10 m).1 (.ptr C.bp 0) (d:Int) H λo7 H8=>cR K o7 H8 λv9=>ad v5 H8 λv10=>bT (bu v10 v6) (cP H8 (one v9 (aT (aE H8) 1 1 [v9] λv11 bQ=>bT (Nat.beq bQ.n (Nat.succ H8.n)) (cO 1 24 v6 v11 bQ λv13 dk=>au (.ptr bs 0) (ag 4 (.ptr bs 0) λv15=>ah 1 v15 v13 dk X)))))):=by
 simp only[bV,aM,Nat.zero_add];refine az hM t.ob (v:=vb) rfl ?_;have n0:=t.x.1;have L:=t.y7 hM;have hlt:=W.lt;have hne:=W.ne;have hbp:=W.bp;refine O.block k hk hd hM hs (aW.call (eO:=fY) (bK r _ _ ▸ hP) λe H2 S2 w m2 c2 d2 ⟨cb,hsl,hrs⟩ hP2=>?_);have t2:=t.keep W hM c2;have n2:=c2.1;refine az m2 t2.ob (v:=vb) rfl ?_;refine cG t.B.same ?_;refine m2.cP ?_;refine eY hsl.one ?_;refine t2.B.pushB (R:=tf) (bytes:=24) m2 (a:=e) ⟨w,cb,rfl,hsl,hrs⟩ (λb hb=>⟨⟨by have:=hb.1;omega,λq=>by have:=(L.1 _ q).2;have:=hb.1;omega,λq=>by have:=(L.2.1 _ q).2;have:=hb.1;omega,λq=>q⟩,hb.2,λq=>by have:=(L.2.2 _ q).2;have:=hb.1;omega⟩) (λb hb=>⟨by omega,λq=>by have:=(L.1 _ q).2;omega,λq=>by have:=(L.2.1 _ q).2;omega,λq=>q⟩) (by omega) λH3 S3 v' m3 B3 n3 k3 b3 af1=>?_;have c3:aO (λb=>ak vb b) S2 S3:=⟨n3,λb hb hx=>k3 b hb hx⟩
 have d3:bj C S3 _:=d2.keep m2 c3 (λq=>by have:=(L.2.2 _ q).1;omega) λb hb q=>by have:=(L.2.2 _ q).1;have:=W.vT b hb;omega
 have o3:S3.ob bs=.ce [.int 0 (kd:Int),.int 0 (a:Int),vn,vl,vb] 0:=c3.ob m2 t2.ob λq=>by have:=(L.2.2 _ q).1;omega
 refine bJ m3 o3 (by omega) (by show 4<5;omega) af1 λH4 m4=>?_;have kN:∀{α:Type}{R:Rep α}{u v:AV}{q:List α},aX R (λb=>S0.n≤b∧¬ak vb b∧¬ak u b) S2 v q→aX R (λb=>(S0.n≤b∧¬ak vb b∧¬ak u b)∧¬ak v' b) (S3.set bs (.ce ([.int 0 (kd:Int),.int 0 (a:Int),vn,vl,vb].set 4 v') 0)) v q:=λh=>
  (h.imp m2 λb hb hb2=>(⟨hb,λq=>(b3 b q).elim hb.2.1 λg=>by omega⟩:(S0.n≤b∧¬ak vb b∧¬ak _ b)∧¬ak v' b)).keep m2 n3 λb h1 h2=>by
   rw[LS.aq _ _ (by have:=h1.1.1;omega)];exact k3 b h2 h1.1.2.1
 refine hX e v' H4 _ m4 (d3.setB hne W.nT _) ⟨(t2.x.rW c3 λb hb=>.inr (L.2.2 _ hb).1).set (.inl (.inr rfl)) _,LS.ay _ _ _,?_,?_,B3.keep m3 (Nat.le_refl _) λb h1 _=>LS.aq _ _ (by have:=h1.1;omega)⟩ hP2
 ·exact aX.wk (kN (aX.wk t2.N λb hb=>⟨hb.1,hb.2.2.1,hb.2.1⟩)) λb hb=>⟨hb.1.1,hb.1.2.2,hb.2,λq=>q⟩
 ·exact aX.wk (kN (aX.wk t2.E λb hb=>⟨hb.1,hb.2.2.1,hb.2.1⟩)) λb hb=>⟨hb.1.1,hb.1.2.2,hb.2,λq=>q⟩
theorem dt.aro(W:j1 C S0 bs)(hM:Mem H S)(hs:bj C S r)(t:dt C S0 S bs kd a vn names vl l vb B bU)(hll:names.length≤1000000){X:AH→Prop}{f:List Nat→Nat→an aA}
  (hP:aW C (fF C bs) (iK bs) K S0 (r.bind λ_ i=>(dT C.T i).bind f))
  (hX:∀(e:List Nat) (v':AV) (H':AH) (S':LS),Mem H' S'→bj C S' (r.bind λ_ i=>dT C.T i)→dt C S0 S' bs kd a v' (names++[e]) vl l vb B bU→aW C (fF C bs) (iK bs) K S0 ((r.bind λ_ i=>dT C.T i).bind λ_ j=>f e j)→X H') :
  au (.ptr bs 0) (ag 2 (.ptr bs 0) λv9=>ad v9 H λv10=>f57 (.ptr C.bp 0) H λkM bQ=>cR K kM bQ λv13=>ad v9 bQ λv14=>bT (bu v14 v10) (cP bQ (one v13 (aT (aE bQ) 1 1 [v13] λv15 eE=>bT (Nat.beq eE.n (Nat.succ bQ.n)) (cO 1 16 v10 v15 eE λv17 iz=>au (.ptr bs 0) (ag 2 (.ptr bs 0) λv19=>ah 1 v19 v17 iz X)))))):=by
 simp only[bV,aM,Nat.zero_add];refine az hM t.ob (v:=vn) rfl ?_;have n0:=t.x.1;have L:=t.y7 hM;have hlt:=W.lt;have hne:=W.ne;have hbp:=W.bp;refine si hM hs (aW.call (eO:=NA) (bK r _ _ ▸ hP) λe H2 S2 w m2 c2 d2 ⟨hw,h8⟩ hP2=>?_);subst hw;have t2:=t.keep W hM c2;have n2:=c2.1;refine az m2 t2.ob (v:=vn) rfl ?_;refine cG t.N.same ?_;refine m2.cP ?_;refine eY (kX e) ?_;refine t2.N.pushB (R:=uQ) (bytes:=16) m2 (a:=e) (c:=[ai e]) (Q:=λ_=>False) ⟨rfl,h8⟩ (λb hb=>hb.elim) (λb hb=>⟨by omega,λq=>by have:=(L.2.1 _ q).2;omega,λq=>by have:=(L.2.2 _ q).2;omega,λq=>q⟩) (by omega) λH3 S3 v' m3 B3 n3 k3 b3 af1=>?_;have c3:aO (λb=>ak vn b) S2 S3:=⟨n3,λb hb hx=>k3 b hb hx⟩
 have d3:bj C S3 _:=d2.keep m2 c3 (λq=>by have:=(L.1 _ q).1;omega) λb hb q=>by have:=(L.1 _ q).1;have:=W.vT b hb;omega
 have o3:S3.ob bs=.ce [.int 0 (kd:Int),.int 0 (a:Int),vn,vl,vb] 0:=c3.ob m2 t2.ob λq=>by have:=(L.1 _ q).1;omega
 refine bJ m3 o3 (by omega) (by show 2<5;omega) af1 λH4 m4=>?_;have kN:∀{α:Type}{R:Rep α}{u v:AV}{q:List α},aX R (λb=>S0.n≤b∧¬ak vn b∧¬ak u b) S2 v q→aX R (λb=>(S0.n≤b∧¬ak vn b∧¬ak u b)∧¬ak v' b) (S3.set bs (.ce ([.int 0 (kd:Int),.int 0 (a:Int),vn,vl,vb].set 2 v') 0)) v q:=λh=>
  (h.imp m2 λb hb hb2=>(⟨hb,λq=>(b3 b q).elim hb.2.1 λg=>by omega⟩:(S0.n≤b∧¬ak vn b∧¬ak _ b)∧¬ak v' b)).keep m2 n3 λb h1 h2=>by
   rw[LS.aq _ _ (by have:=h1.1.1;omega)];exact k3 b h2 h1.1.2.1
 refine hX e v' H4 _ m4 (d3.setB hne W.nT _) ⟨(t2.x.rW c3 λb hb=>.inr (L.1 _ hb).1).set (.inl (.inr rfl)) _,LS.ay _ _ _,B3.keep m3 (Nat.le_refl _) λb h1 _=>LS.aq _ _ (by have:=h1.1;omega),?_,?_⟩ hP2
 ·exact aX.wk (kN (aX.wk t2.E λb hb=>⟨hb.1,hb.2.1,hb.2.2.1⟩)) λb hb=>⟨hb.1.1,hb.2,hb.1.2.2,λq=>q⟩
 ·exact aX.wk (kN (aX.wk t2.B λb hb=>⟨hb.1,hb.2.1,hb.2.2.1⟩)) λb hb=>⟨hb.1.1,hb.2,hb.1.2.2,λq=>q⟩
end
end
section
variable {H:AH}{S:LS}{K:KF}{C:Ctx}{i d:Nat}
section
variable {m k:Nat}{S0:LS}{bs kd a:Nat}{vn vl vb:AV}{names:List (List Nat)}{l:List al}{B:List (List aA)}{γ:Type}{r:an γ}
theorem dt.NK(O:gr C m)(hk:2*k+4≤m)(hd:d≤200)(W:j1 C S0 bs)(hM:Mem H S)(hs:bj C S r)(t:dt C S0 S bs kd a vn names vl l vb B bU){X:AV→AH→Prop}{f:al→Nat→an aA}
  (hP:aW C (fF C bs) (iK bs) K S0 (r.bind λ_ i=>(bW C.T k i d).bind f))
  (hX:∀(e:al) (b:Nat) (H':AH) (S':LS),Mem H' S'→bj C S' (r.bind λ_ i=>bW C.T k i d)→dt C S0 S' bs kd a vn names vl l vb B (λx=>x=b)→aX ku (zS S0 vn vb bU) S' (.slice b 0 1 1 7 true) [e]→aW C (fF C bs) (iK bs) K S0 ((r.bind λ_ i=>bW C.T k i d).bind λ_ j=>f e j)→X (.slice b 0 1 1 7 true) H') :
  (s10 m).2.1 (.ptr C.bp 0) (d:Int) H λo5 H6=>cR K o5 H6 λv7=>onVal v7 λl8=>gK l8 7 (aT (aE H6) 1 7 (spl l8 z7 0) X):=by
 have L:=t.y7 hM;have n0:=t.x.1;refine O.exp k hk hd hM hs (aW.call (eO:=dS) (bK r _ _ ▸ hP) λe H2 S2 w m2 c2 d2 ⟨c,hw,hR⟩ hP2=>?_);subst hw;have t2:=t.keep W hM c2;rw[iN];refine gq hR.len ?_;rw[G7 hR.len rfl];exact t2.newE W m2 hR (λb hb=>⟨by have:=hb.1;omega,hb.2,λq=>by have:=(L.1 _ q).2;have:=hb.1;omega,λq=>by have:=(L.2.2 _ q).2;have:=hb.1;omega⟩) d2 λH3 S3 m3 _ d3 t3 E3=>hX e S2.n H3 S3 m3 d3 t3 E3 hP2
theorem dt.Sx(O:gr C m)(hk:2*k+4≤m)(hd:d≤200)(W:j1 C S0 bs)(hM:Mem H S)(hs:bj C S r)(t:dt C S0 S bs kd a vn names vl l vb B bU){X:AV→AH→Prop}{f:List aA→Nat→an aA}
  (hP:aW C (fF C bs) (iK bs) K S0 (r.bind λ_ i=>(cD C.T k i d).bind f))
  (hX:∀(e:List aA) (b:Nat) (H':AH) (S':LS),Mem H' S'→bj C S' (r.bind λ_ i=>cD C.T k i d)→dt C S0 S' bs kd a vn names vl l vb B (λx=>x=b)→aX tf (zS S0 vn vl bU) S' (.slice b 0 1 1 1 true) [e]→aW C (fF C bs) (iK bs) K S0 ((r.bind λ_ i=>cD C.T k i d).bind λ_ j=>f e j)→X (.slice b 0 1 1 1 true) H') :
  (s10 m).1 (.ptr C.bp 0) (d:Int) H λo5 H6=>cR K o5 H6 λv7=>one v7 (aT (aE H6) 1 1 [v7] X):=by
 have L:=t.y7 hM;have n0:=t.x.1;refine O.block k hk hd hM hs (aW.call (eO:=fY) (bK r _ _ ▸ hP) λe H2 S2 w m2 c2 d2 ⟨cb,hsl,hrs⟩ hP2=>?_);have t2:=t.keep W hM c2;refine eY hsl.one ?_;exact t2.arl W m2 (Q:=jd S.n S2.n) ⟨w,cb,rfl,hsl,hrs⟩ (λb hb=>⟨by have:=hb.1;omega,hb.2,λq=>by have:=(L.1 _ q).2;have:=hb.1;omega,λq=>by have:=(L.2.1 _ q).2;have:=hb.1;omega⟩) d2 λH3 S3 m3 _ d3 t3 E3=>hX e S2.n H3 S3 m3 d3 t3 E3 hP2
theorem dt.af2(W:j1 C S0 bs)(hM:Mem H S)(hs:bj C S r)(t:dt C S0 S bs kd a vn names vl l vb B bU){X:AV→AH→Prop}{f:List Nat→Nat→an aA}
  (hP:aW C (fF C bs) (iK bs) K S0 (r.bind λ_ i=>(dT C.T i).bind f))
  (hX:∀(e:List Nat) (b:Nat) (H':AH) (S':LS),Mem H' S'→bj C S' (r.bind λ_ i=>dT C.T i)→dt C S0 S' bs kd a vn names vl l vb B (λx=>x=b)→aX uQ (zS S0 vl vb bU) S' (.slice b 0 1 1 1 true) [e]→aW C (fF C bs) (iK bs) K S0 ((r.bind λ_ i=>dT C.T i).bind λ_ j=>f e j)→X (.slice b 0 1 1 1 true) H') :
  f57 (.ptr C.bp 0) H λo5 H6=>cR K o5 H6 λv7=>one v7 (aT (aE H6) 1 1 [v7] X):=by
 refine si hM hs (aW.call (eO:=NA) (bK r _ _ ▸ hP) λe H2 S2 w m2 c2 d2 ⟨hw,h8⟩ hP2=>?_);subst hw;refine eY (kX e) ?_;exact(t.keep W hM c2).ark W m2 h8 d2 λH3 S3 m3 _ d3 t3 E3=>hX e S2.n H3 S3 m3 d3 t3 E3 hP2
theorem dt.must(W:j1 C S0 bs){s:List Nat}(h8:B8 s)(hM:Mem H S)(hs:bj C S r)(t:dt C S0 S bs kd a vn names vl l vb B bU){X:AH→Prop}{f:Nat→an aA}
  (hP:aW C (fF C bs) (iK bs) K S0 (r.bind λ_ i=>(aU C.T s i).bind λ_ j=>f j))
  (hX:∀(H':AH) (S':LS),Mem H' S'→bj C S' (r.bind λ_ i=>aU C.T s i)→dt C S0 S' bs kd a vn names vl l vb B bU→aW C (fF C bs) (iK bs) K S0 ((r.bind λ_ i=>aU C.T s i).bind λ_ j=>f j)→X H') :
  f59 (.ptr C.bp 0) (ai s) H λo5 H6=>cR K o5 H6 λv7=>X H6:=
 kC h8 hM hs (aW.call (eO:=ny) (bK r _ _ ▸ hP) λ_ H2 S2 w m2 c2 d2 _ hP2=>hX H2 S2 m2 d2 (t.keep W hM c2) hP2)
theorem dt.last(W:j1 C S0 bs){s:List Nat}(h8:B8 s)(h3:kd≠3)(hM:Mem H S)(hs:bj C S r)(t:dt C S0 S bs kd a vn names vl l vb B bU)
  (hP:aW C (fF C bs) (iK bs) K S0 (r.bind λ_ i=>(aU C.T s i).bind λ_ j=>dG C.T (.mk kd a names l B) j)) :
  f59 (.ptr C.bp 0) (ai s) H λo5 H6=>cR K o5 H6 λv7=>K (.ret (.aP [])) H6:=
 t.must W h8 hM hs hP λH2 S2 m2 d2 t2 hP2=>t2.fin m2 d2 h3 hP2
theorem aX.kb{α:Type}{R:Rep α}{u w v:AV}{q:List α}{S':LS}(W:j1 C S0 bs)(h:aX R (zS S0 u w bU) S v q)(hM:Mem H S)(hn:S'.n=S.n)(hk:∀b,b≠bs→S'.ob b=S.ob b):aX R (zS S0 u w bU) S' v q:=
 h.keep hM (Nat.le_of_eq hn.symm) λb h1 _=>hk b (by have:=W.lt;have:=h1.1;omega)
theorem NM(O:gr C m)(hk:2*k+4≤m)(hd:d≤200)(W:j1 C S0 bs)(h3:kd≠3)(hM:Mem H S)(hs:bj C S r)(t:dt C S0 S bs kd a vn names vl l .ab [] bU)
  (hP:aW C (fF C bs) (iK bs) K S0 (r.bind λ_ i=>(aU C.T [100,111] i).bind λ_ j=>(cD C.T k j d).bind λb j=>(aU C.T [101,110,100] j).bind λ_ j=>dG C.T (.mk kd a names l [b]) j)) :
  sf (bf (s10 m)) K (.ptr C.bp 0) (.ptr bs 0) (d:Int) H:=by
 have r1:(bf (s10 m)).1=(s10 m).1:=rfl;have r9:(bf (s10 m)).2.2.2.2.2.2.2.2.1=f59:=rfl;show zC (bf (s10 m)) K (.ptr C.bp 0) (.ptr bs 0) (d:Int) H;unfold zC;rw[r1,r9];refine t.must W (s:=[100,111]) (bg (by decide)) hM hs hP λH1 S1 m1 d1 t1 hP1=>?_;refine t1.Sx O hk hd W m1 d1 hP1 λb bk H2 S2 m2 d2 t2 B2 hP2=>?_;refine t2.Gh W m2 B2 (λb hb=>hb) d2 λH3 S3 m3 n3 d3 k3 t3=>?_;exact t3.last W (s:=[101,110,100]) (bg (by decide)) h3 m3 d3 hP2
theorem ap3(O:gr C m)(hk:2*k+4≤m)(hd:d≤200)(W:j1 C S0 bs)(h3:kd≠3)(hM:Mem H S)(hs:bj C S r)(t:dt C S0 S bs kd a vn names vl l .ab [] bU)
  (hP:aW C (fF C bs) (iK bs) K S0 (r.bind λ_ i=>(aU C.T [100,111] i).bind λ_ j=>(cD C.T k j d).bind λb j=>(aU C.T [101,110,100] j).bind λ_ j=>dG C.T (.mk kd a names l [b]) j)) :
  Kk (bf (s10 m)) K (.ptr C.bp 0) (.ptr bs 0) (d:Int) H:=by
 have r1:(bf (s10 m)).1=(s10 m).1:=rfl;have r9:(bf (s10 m)).2.2.2.2.2.2.2.2.1=f59:=rfl;show Cs (bf (s10 m)) K (.ptr C.bp 0) (.ptr bs 0) (d:Int) H;unfold Cs;rw[r1,r9];refine t.must W (s:=[100,111]) (bg (by decide)) hM hs hP λH1 S1 m1 d1 t1 hP1=>?_;refine t1.Sx O hk hd W m1 d1 hP1 λb bk H2 S2 m2 d2 t2 B2 hP2=>?_;refine t2.Gh W m2 B2 (λb hb=>hb) d2 λH3 S3 m3 n3 d3 k3 t3=>?_;exact t3.last W (s:=[101,110,100]) (bg (by decide)) h3 m3 d3 hP2
theorem aoK(O:gr C m)(hk:2*k+4≤m)(hd:d≤200)(W:j1 C S0 bs)(h3:kd≠3)(hM:Mem H S)(hs:bj C S r)(t:dt C S0 S bs kd a vn names vl l .ab [] bU)
  (hP:aW C (fF C bs) (iK bs) K S0 (r.bind λ_ i=>(cD C.T k i d).bind λb j=>(aU C.T [101,110,100] j).bind λ_ j=>dG C.T (.mk kd a names l [b]) j)) :
  GV (bf (s10 m)) K (.ptr C.bp 0) (.ptr bs 0) (d:Int) H:=by
 have r1:(bf (s10 m)).1=(s10 m).1:=rfl;have r9:(bf (s10 m)).2.2.2.2.2.2.2.2.1=f59:=rfl;show zG (bf (s10 m)) K (.ptr C.bp 0) (.ptr bs 0) (d:Int) H;unfold zG;rw[r1,r9];refine t.Sx O hk hd W hM hs hP λb bk H2 S2 m2 d2 t2 B2 hP2=>?_;refine t2.Gh W m2 B2 (λb hb=>hb) d2 λH3 S3 m3 n3 d3 k3 t3=>?_;exact t3.last W (s:=[101,110,100]) (bg (by decide)) h3 m3 d3 hP2
theorem ap4(O:gr C m)(hk:2*k+4≤m)(hd:d≤200)(W:j1 C S0 bs)(hM:Mem H S)(hs:bj C S r)(t:dt C S0 S bs kd a vn names .ab [] vb B bU)
  (hP:aW C (fF C bs) (iK bs) K S0 (r.bind λ_ i=>(bW C.T k i d).bind λe j=>dG C.T (.mk 8 a names [e] B) j)) :
  Kn (bf (s10 m)) K (.ptr C.bp 0) (.ptr bs 0) (d:Int) H:=by
 have r6:(bf (s10 m)).2.2.2.2.2.1=(s10 m).2.1:=rfl;show Cy (bf (s10 m)) K (.ptr C.bp 0) (.ptr bs 0) (d:Int) H;unfold Cy;rw[r6];refine t.NK O hk hd W hM hs hP λe b H2 S2 m2 d2 t2 E2 hP2=>?_;refine t2.j0 W m2 (kd':=8) d2 λH3 S3 m3 n3 d3 k3 t3=>?_;refine t3.rm W m3 (aX.kb W E2 m2 n3 k3) (λb hb=>hb) d3 λH4 S4 m4 n4 d4 k4 t4=>?_;exact t4.fin m4 d4 (by omega) hP2
theorem ap5(O:gr C m)(hk:2*k+4≤m)(hd:d≤200)(W:j1 C S0 bs)(hM:Mem H S)(hs:bj C S r)(t:dt C S0 S bs 1 a vn names .ab [] vb B bU)
  (hP:aW C (fF C bs) (iK bs) K S0 (r.bind λ_ j=>if isA C.T [61] j=true then (bW C.T k (j+1) d).bind λe k=>dG C.T (.mk 1 a names [e] B) k else dG C.T (.mk 1 a names [] B) j)) :
  Km (bf (s10 m)) K (.ptr C.bp 0) (.ptr bs 0) (d:Int) H:=by
 have r4:(bf (s10 m)).2.2.2.1=f40:=rfl;have r6:(bf (s10 m)).2.2.2.2.2.1=(s10 m).2.1:=rfl;show Cx (bf (s10 m)) K (.ptr C.bp 0) (.ptr bs 0) (d:Int) H;unfold Cx;rw[r4,r6];refine dC (s:=[61]) (bg (by decide)) hM hs (λy j er hi H1 S1 m1 c1 d1=>?_) λh1 H1 S1 m1 c1 d1=>?_
 ·cases er;simp only[aj,aN,aH];have hP:aW C (fF C bs) (iK bs) K S0 (if isA C.T [61] j=true then (bW C.T k (j+1) d).bind λe k=>dG C.T (.mk 1 a names [e] B) k else dG C.T (.mk 1 a names [] B) j):=hP;rw[if_pos hi]at hP;refine(t.keep W hM c1).NK (r:=(.ok () (j+1):an Unit)) O hk hd W m1 d1 hP λe b H2 S2 m2 d2 t2 E2 hP2=>?_;refine t2.rm W m2 E2 (λb hb=>hb) d2 λH4 S4 m4 n4 d4 k4 t4=>?_;exact t4.fin m4 d4 (by omega) hP2
 ·simp only[aj,aN,aI];rw[xC h1]at hP;exact(t.keep W hM c1).fin m1 d1 (by omega) hP
theorem ap6(O:gr C m)(hk:2*k+4≤m)(hd:d≤200)(W:j1 C S0 bs)(h3:kd≠3)(hB:B.length≤1000000)(hM:Mem H S)(hs:bj C S r)(t:dt C S0 S bs kd a vn names vl l vb B bU)
  (hP:aW C (fF C bs) (iK bs) K S0 (r.bind λ_ j=>if isA C.T [101,108,115,101] j=true then (cD C.T k (j+1) d).bind λb2 j=>(aU C.T [101,110,100] j).bind λ_ j=>dG C.T (.mk kd a names l (B++[b2])) j else (aU C.T [101,110,100] j).bind λ_ j=>dG C.T (.mk kd a names l B) j)) :
  Co (bf (s10 m)) K (.ptr C.bp 0) (.ptr bs 0) (d:Int) H:=by
 have r1:(bf (s10 m)).1=(s10 m).1:=rfl;have r4:(bf (s10 m)).2.2.2.1=f40:=rfl;have r9:(bf (s10 m)).2.2.2.2.2.2.2.2.1=f59:=rfl;show Cn (bf (s10 m)) K (Kh (bf (s10 m)) K) (.ptr C.bp 0) (.ptr bs 0) (d:Int) H;unfold Cn;rw[r1,r4];refine dC (s:=[101,108,115,101]) (bg (by decide)) hM hs (λy j er hi H1 S1 m1 c1 d1=>?_) λh1 H1 S1 m1 c1 d1=>?_
 ·cases er;simp only[aj,aN,aH];have hP:aW C (fF C bs) (iK bs) K S0 (if isA C.T [101,108,115,101] j=true then (cD C.T k (j+1) d).bind λb2 j=>(aU C.T [101,110,100] j).bind λ_ j=>dG C.T (.mk kd a names l (B++[b2])) j else (aU C.T [101,110,100] j).bind λ_ j=>dG C.T (.mk kd a names l B) j):=hP;rw[if_pos hi]at hP;refine(t.keep W hM c1).aoJ (r:=(.ok () (j+1):an Unit)) O hk hd W m1 d1 hB hP λe v' H2 S2 m2 d2 t2 hP2=>?_;show vC (bf (s10 m)) K (.ptr C.bp 0) H2;unfold vC;rw[r9];exact t2.last W (s:=[101,110,100]) (bg (by decide)) h3 m2 d2 hP2
 ·simp only[aj,aN,aI];rw[xC h1]at hP;show vC (bf (s10 m)) K (.ptr C.bp 0) H1;unfold vC;rw[r9];exact(t.keep W hM c1).last W (s:=[101,110,100]) (bg (by decide)) h3 m1 d1 hP
theorem ap7(O:gr C m)(hd:d≤200)(W:j1 C S0 bs):∀k,2*k+4≤m+1→∀(q:Nat){γ:Type}(r:an γ) (vl vb:AV) (l:List al) (B:List (List aA)) (H:AH) (S:LS),k<q→l.length+k≤1000000→B.length+k≤1000000→Mem H S→bj C S r→dt C S0 S bs 4 a .ab [] vl l vb B bU→
  (∀x i,r=.ok x i→True)→aW C (fF C bs) (iK bs) K S0 (r.bind λ_ i=>(eN C.T k a l B i d).bind λs j=>dG C.T s j)→(k=0→∃x i,r=.ok x i)→sJ (bf (s10 m)) K q (.ptr C.bp 0) (.ptr bs 0) (d:Int) H:=by
 intro k
 induction k with
 |zero=>
  intro hk q γ r vl vb l B H S hq hl hB hM hs t _ hP h0;obtain⟨x,i,rfl⟩:=h0 rfl;exact absurd (show(eN C.T 0 a l B i d).bind _=.aS by simp only[eN];rfl) hP.1
 |succ k ih=>
  intro hk q γ r vl vb l B H S hq hl hB hM hs t _ hP h0;obtain⟨q,rfl⟩:∃p,q=p+1:=⟨q-1,by omega⟩
  have r1:(bf (s10 m)).1=(s10 m).1:=rfl;have r4:(bf (s10 m)).2.2.2.1=f40:=rfl;have r6:(bf (s10 m)).2.2.2.2.2.1=(s10 m).2.1:=rfl;have r9:(bf (s10 m)).2.2.2.2.2.2.2.2.1=f59:=rfl;show Cr (bf (s10 m)) K (Kj (bf (s10 m)) K (sJ (bf (s10 m)) K q)) (.ptr C.bp 0) (.ptr bs 0) (d:Int) H;unfold Cr;rw[r6];simp only[eN,bK]at hP;refine t.af0 O (k:=k) (by omega) hd W hM hs (by omega) hP λe v' H1 S1 m1 d1 t1 hP1=>?_;show Cq (bf (s10 m)) K (Ki (bf (s10 m)) K (sJ (bf (s10 m)) K q)) (.ptr C.bp 0) (.ptr bs 0) (d:Int) H1;unfold Cq;rw[r1,r9];refine t1.must W (s:=[116,104,101,110]) (bg (by decide)) m1 d1 hP1 λH2 S2 m2 d2 t2 hP2=>?_;refine t2.aoJ O (k:=k) (by omega) hd W m2 d2 (by omega) hP2 λb v2 H3 S3 m3 d3 t3 hP3=>?_;show Cp (bf (s10 m)) K (sJ (bf (s10 m)) K q) (Co (bf (s10 m)) K) (.ptr C.bp 0) (.ptr bs 0) (d:Int) H3;unfold Cp;rw[r4];refine dC (s:=[101,108,115,101,105,102]) (bg (by decide)) m3 d3 (λy j er hi H4 S4 m4 c4 d4=>?_) λh1 H4 S4 m4 c4 d4=>?_
  ·rw[er]at hP3;simp only[aj,aN,Bool.not_true,aI];have hP3:aW C (fF C bs) (iK bs) K S0 ((if isA C.T [101,108,115,101,105,102] j=true then eN C.T k a (l++[e]) (B++[b]) (j+1) d else if isA C.T [101,108,115,101] j=true then (cD C.T k (j+1) d).bind λb2 j=>(aU C.T [101,110,100] j).bind λ_ j=>.ok (.mk 4 a [] (l++[e]) (B++[b]++[b2])) j else (aU C.T [101,110,100] j).bind λ_ j=>.ok (.mk 4 a [] (l++[e]) (B++[b])) j).bind λs j=>dG C.T s j):=hP3;rw[if_pos hi]at hP3;exact ih (by omega) q (.ok () (j+1):an Unit) v' v2 (l++[e]) (B++[b]) H4 S4 (by omega) (by simp;omega) (by simp;omega) m4 d4 (t3.keep W m3 c4) (λ_ _ _=>trivial) hP3 λ_=>⟨_,_,rfl⟩
  ·simp only[aj,aN,Bool.not_false,aH];refine ap6 (k:=k) O (by omega) hd W (by omega) (by simp;omega) m4 d4 (t3.keep W m3 c4) ?_;have sp:∀r':an (List aA),pb C.T [101,108,115,101,105,102] r'=false→(r'.bind λ_ j=>(if isA C.T [101,108,115,101,105,102] j=true then eN C.T k a (l++[e]) (B++[b]) (j+1) d else if isA C.T [101,108,115,101] j=true then (cD C.T k (j+1) d).bind λb2 j=>(aU C.T [101,110,100] j).bind λ_ j=>.ok (.mk 4 a [] (l++[e]) (B++[b]++[b2])) j else (aU C.T [101,110,100] j).bind λ_ j=>.ok (.mk 4 a [] (l++[e]) (B++[b])) j).bind λs j=>dG C.T s j)=r'.bind λ_ j=>if isA C.T [101,108,115,101] j=true then (cD C.T k (j+1) d).bind λb2 j=>(aU C.T [101,110,100] j).bind λ_ j=>dG C.T (.mk 4 a [] (l++[e]) (B++[b]++[b2])) j else (aU C.T [101,110,100] j).bind λ_ j=>dG C.T (.mk 4 a [] (l++[e]) (B++[b])) j:=by
    intro r' h;cases r' with
    |aS=>rfl
    |err c i=>rfl
    |ok y j=>
     have h2:isA C.T [101,108,115,101,105,102] j=false:=h;show an.bind (if isA C.T [101,108,115,101,105,102] j=true then _ else _) _=_;rw[if_neg (by rw[h2];simp)];show an.bind (if isA C.T [101,108,115,101] j=true then _ else _) _=if isA C.T [101,108,115,101] j=true then _ else _
     split
     ·simp only[bK];rfl
     ·simp only[bK];rfl
   rw[←sp _ h1];exact hP3
end
end
section
variable {H:AH}{S:LS}{K:KF}{C:Ctx}{i d:Nat}
section
variable {m k:Nat}{S0:LS}{bs kd a:Nat}{vn vl vb:AV}{names:List (List Nat)}{l:List al}{B:List (List aA)}{γ:Type}{r:an γ}
theorem y8{T:List Tok}(h:(r.bind λ_ j=>(cF T k kd a names l j d).bind λs j=>dG T s j)≠.aS):(r.bind λ_ j=>(cF T k kd a names l j d).bind λs j=>dG T s j)=r.bind λ_ j=>(aU T [100,111] j).bind λ_ j=>(cD T (k-1) j d).bind λb j=>(aU T [101,110,100] j).bind λ_ j=>dG T (.mk kd a names l [b]) j:=by
 cases r with
 |aS=>rfl
 |err c i=>rfl
 |ok y j=>
  cases k with
  |zero=>exact absurd (show(cF T 0 kd a names l j d).bind (λs j=>dG T s j)=.aS by simp only[cF];rfl) h
  |succ k=>
   show(cF T (k+1) kd a names l j d).bind (λs j=>dG T s j)=_;simp only[cF,bK];rfl
theorem ap8(O:gr C m)(hk:2*k+4≤m)(hd:d≤200)(W:j1 C S0 bs){s:List Nat}(hM:Mem H S)(hs:bj C S r)(t:dt C S0 S bs 0 a vn [s] .ab [] .ab [] bU)
  (hP:aW C (fF C bs) (iK bs) K S0 (r.bind λ_ j=>(if isA C.T [44] j=true then (dT C.T (j+1)).bind λPU j=>(aU C.T [105,110] j).bind λ_ j=>(bW C.T k j d).bind λe j=>cF C.T k 7 a [s,PU] [e] j d
   else (aU C.T [61] j).bind λ_ j=>(bW C.T k j d).bind λe j=>(aU C.T [44] j).bind λ_ j=>(bW C.T k j d).bind λe2 j=>if isA C.T [44] j=true then (bW C.T k (j+1) d).bind λe3 j=>cF C.T k 6 a [s] [e,e2,e3] j d else cF C.T k 6 a [s] [e,e2] j d).bind λs j=>dG C.T s j)) :
  Kl (bf (s10 m)) K (.ptr C.bp 0) (.ptr bs 0) (d:Int) H:=by
 have r4:(bf (s10 m)).2.2.2.1=f40:=rfl;have r6:(bf (s10 m)).2.2.2.2.2.1=(s10 m).2.1:=rfl;have r7:(bf (s10 m)).2.2.2.2.2.2.1=f57:=rfl;have r9:(bf (s10 m)).2.2.2.2.2.2.2.2.1=f59:=rfl;show Cv (bf (s10 m)) K (GR (bf (s10 m)) K) (GU (bf (s10 m)) K) (.ptr C.bp 0) (.ptr bs 0) (d:Int) H;unfold Cv;rw[r4,r6,r7,r9];refine t.j0 W hM (kd':=6) hs λH1 S1 m1 n1 d1 k1 t1=>?_;refine dC (s:=[44]) (bg (by decide)) m1 d1 (λy j er hi H2 S2 m2 c2 d2=>?_) λh1 H2 S2 m2 c2 d2=>?_
 ·cases er;simp only[aj,aN,aH];have t2:=t1.keep W m1 c2;have hP:aW C (fF C bs) (iK bs) K S0 ((if isA C.T [44] j=true then (dT C.T (j+1)).bind λPU j=>(aU C.T [105,110] j).bind λ_ j=>(bW C.T k j d).bind λe j=>cF C.T k 7 a [s,PU] [e] j d
   else (aU C.T [61] j).bind λ_ j=>(bW C.T k j d).bind λe j=>(aU C.T [44] j).bind λ_ j=>(bW C.T k j d).bind λe2 j=>if isA C.T [44] j=true then (bW C.T k (j+1) d).bind λe3 j=>cF C.T k 6 a [s] [e,e2,e3] j d else cF C.T k 6 a [s] [e,e2] j d).bind λs j=>dG C.T s j):=hP
  rw[if_pos hi]at hP;simp only[bK]at hP;refine t2.j0 W m2 (kd':=7) d2 λH3 S3 m3 n3 d3 k3 t3=>?_;refine t3.aro W m3 d3 (by simp) (r:=(.ok () (j+1):an Unit)) hP λPU v' H4 S4 m4 d4 t4 wK=>?_;show zD (bf (s10 m)) K (sf (bf (s10 m)) K) (.ptr C.bp 0) (.ptr bs 0) (d:Int) H4;unfold zD;rw[r6,r9];refine t4.must W (s:=[105,110]) (bg (by decide)) m4 d4 wK λH5 S5 m5 d5 t5 uA=>?_;refine t5.NK O hk hd W m5 d5 uA λe b H6 S6 m6 d6 t6 E6 Gg=>?_;refine t6.rm W m6 E6 (λb hb=>hb) d6 λH7 S7 m7 n7 d7 k7 t7=>?_;rw[y8 Gg.1]at Gg;exact NM (k:=k-1) O (by omega) hd W (by omega) m7 d7 t7 Gg
 ·simp only[aj,aN,aI];have t2:=t1.keep W m1 c2;have sp:(r.bind λ_ j=>(if isA C.T [44] j=true then (dT C.T (j+1)).bind λPU j=>(aU C.T [105,110] j).bind λ_ j=>(bW C.T k j d).bind λe j=>cF C.T k 7 a [s,PU] [e] j d
   else (aU C.T [61] j).bind λ_ j=>(bW C.T k j d).bind λe j=>(aU C.T [44] j).bind λ_ j=>(bW C.T k j d).bind λe2 j=>if isA C.T [44] j=true then (bW C.T k (j+1) d).bind λe3 j=>cF C.T k 6 a [s] [e,e2,e3] j d else cF C.T k 6 a [s] [e,e2] j d).bind λs j=>dG C.T s j)=r.bind λ_ j=>(aU C.T [61] j).bind λ_ j=>(bW C.T k j d).bind λe j=>(aU C.T [44] j).bind λ_ j=>(bW C.T k j d).bind λe2 j=>(if isA C.T [44] j=true then (bW C.T k (j+1) d).bind λe3 j=>cF C.T k 6 a [s] [e,e2,e3] j d else cF C.T k 6 a [s] [e,e2] j d).bind λs j=>dG C.T s j:=by
   cases r with
   |aS=>rfl
   |err c i=>rfl
   |ok y j=>
    have h2:isA C.T [44] j=false:=h1;show an.bind (if isA C.T [44] j=true then _ else _) _=_;rw[if_neg (by rw[h2];simp)];simp only[bK];rfl
  rw[sp]at hP;refine t2.must W (s:=[61]) (bg (by decide)) m2 d2 hP λH3 S3 m3 d3 t3 hP3=>?_;refine t3.NK O hk hd W m3 d3 hP3 λe b H4 S4 m4 d4 t4 E4 wK=>?_;refine t4.rm W m4 E4 (λb hb=>hb) d4 λH5 S5 m5 n5 d5 k5 t5=>?_;show zF (bf (s10 m)) K (GS (bf (s10 m)) K) (.ptr C.bp 0) (.ptr bs 0) (d:Int) H5;unfold zF;rw[r6,r9];refine t5.must W (s:=[44]) (bg (by decide)) m5 d5 wK λH6 S6 m6 d6 t6 Gg=>?_;refine t6.af0 O hk hd W m6 d6 (by simp) Gg λe2 v' H7 S7 m7 d7 t7 xP=>?_;show zE (bf (s10 m)) K (sf (bf (s10 m)) K) (.ptr C.bp 0) (.ptr bs 0) (d:Int) H7;unfold zE;rw[r4,r6];refine dC (s:=[44]) (bg (by decide)) m7 d7 (λy j er hi H8 S8 m8 c8 d8=>?_) λh2 H8 S8 m8 c8 d8=>?_
  ·rw[er]at xP;simp only[aj,aN,aH];have xP:aW C (fF C bs) (iK bs) K S0 ((if isA C.T [44] j=true then (bW C.T k (j+1) d).bind λe3 j=>cF C.T k 6 a [s] [e,e2,e3] j d else cF C.T k 6 a [s] [e,e2] j d).bind λs j=>dG C.T s j):=xP;rw[if_pos hi,bK]at xP;refine(t7.keep W m7 c8).af0 O hk hd W m8 d8 (by simp) (r:=(.ok () (j+1):an Unit)) xP λe3 v3 H9 S9 m9 d9 t7 NN=>?_;have NN:aW C (fF C bs) (iK bs) K S0 (((an.ok () (j+1)).bind λ_ i=>bW C.T k i d).bind λ_ j=>(cF C.T k 6 a [s] [e,e2,e3] j d).bind λs j=>dG C.T s j):=NN;rw[y8 NN.1]at NN;exact NM (k:=k-1) O (by omega) hd W (by omega) m9 d9 t7 NN
  ·simp only[aj,aN,aI];have sp2:∀r':an al,pb C.T [44] r'=false→(r'.bind λ_ j=>(if isA C.T [44] j=true then (bW C.T k (j+1) d).bind λe3 j=>cF C.T k 6 a [s] [e,e2,e3] j d else cF C.T k 6 a [s] [e,e2] j d).bind λs j=>dG C.T s j)=r'.bind λ_ j=>(cF C.T k 6 a [s] [e,e2] j d).bind λs j=>dG C.T s j:=by
    intro r' h;cases r' with
    |aS=>rfl
    |err c i=>rfl
    |ok y j=>
     have h3:isA C.T [44] j=false:=h;show an.bind (if isA C.T [44] j=true then _ else _) _=_;rw[if_neg (by rw[h3];simp)];rfl
   have Gi:=xP;rw[sp2 _ h2]at Gi;rw[y8 Gi.1]at Gi;exact NM (k:=k-1) O (by omega) hd W (by omega) m8 d8 (t7.keep W m7 c8) Gi
theorem aeF(O:gr C m)(hk:2*k+4≤m)(hd:d≤200)(W:j1 C S0 bs){b8:Nat}{c:List AV}{e:al}{Q:Nat→Prop}(hM:Mem H S)(hs:bj C S r)(t:dt C S0 S bs 0 a .ab [] .ab [] .ab [] bU)(ho:S.ob b8=.ce c 0)(hb8:S0.n≤b8)(hR:RE S Q c e)(hQ:∀b,Q b→S0.n≤b∧b<S.n)
  (hP:aW C (fF C bs) (iK bs) K S0 (r.bind λ_ j=>(aU C.T [61] j).bind λ_ j=>(bW C.T k j d).bind λv j=>dG C.T (.mk 2 a [] [e,v] []) j)) :
  zL (bf (s10 m)) K (.ptr C.bp 0) (.ptr bs 0) (d:Int) (.ptr b8 0) H:=by
 have r6:(bf (s10 m)).2.2.2.2.2.1=(s10 m).2.1:=rfl;have r9:(bf (s10 m)).2.2.2.2.2.2.2.2.1=f59:=rfl;show zJ (bf (s10 m)) K (.ptr C.bp 0) (.ptr bs 0) (d:Int) (.ptr b8 0) H;unfold zJ;rw[r6,r9];have hlt:=W.lt;have hbp:=W.bp;have n0:=t.x.1;have lt8:b8<S.n:=hM.lt (by rw[ho];simp);have nb:∀b,S0.n≤b→¬bE C b:=λb hb q=>by have q:b=C.bp:=q;omega
 refine kC (s:=[61]) (bg (by decide)) hM hs (aW.call (eO:=ny) hP.seq λ_ H1 S1 w m1 c1 d1 _ hP1=>?_);have t1:=t.keep W hM c1;have o1:=c1.ob hM ho (nb _ hb8);have R1:RE S1 Q c e:=hR.go (λb hb=>c1.2 b (hQ b hb).2 (nb b (hQ b hb).1)) λ_ h=>h;refine gH m1 o1 R1.len ?_;refine O.exp k hk hd m1 d1 (aW.call (eO:=dS) hP1.seq λv H2 S2 w m2 c2 d2 ⟨cv,hw,hRv⟩ hP2=>?_);subst hw;have t2:=t1.keep W m1 c2;have o2:=c2.ob m1 o1 (nb _ hb8);have n1:=c1.1;have R2:RE S2 Q c e:=R1.go (λb hb=>c2.2 b (Nat.lt_of_lt_of_le (hQ b hb).2 n1) (nb b (hQ b hb).1)) λ_ h=>h;have n2:=c2.1;refine gH m2 o2 R2.len ?_;refine cG R2.same ?_;refine m2.cP ?_;simp only[iN];refine gq R2.len (gq hRv.len ?_);rw[zU R2.len hRv.len rfl];refine t2.ap1 W m2 (Q:=λb=>S0.n≤b∧b<S2.n) (R2.go (λ_ _=>rfl) λb hb=>⟨(hQ b hb).1,by have:=(hQ b hb).2;omega⟩) (hRv.go (λ_ _=>rfl) λb hb=>⟨by have:=hb.1;omega,hb.2⟩) (λb hb=>⟨hb.1,hb.2,λq=>q,λq=>q⟩) d2 λH3 S3 m3 n3 d3 t3 E3 k3=>?_;refine cG (ry (by rw[m3.n,m2.n,n3])) ?_;have o3:S3.ob b8=.ce c 0:=(k3 b8 (by omega)).trans o2;refine t3.j0 W m3 (kd':=2) d3 λH4 S4 m4 n4 d4 k4 t4=>?_;refine gH m4 ((k4 b8 (by omega)).trans o3) R2.len ?_;refine cG R2.same ?_;refine t4.rm W m4 (aX.kb W E3 m3 n4 k4) (λb hb=>hb) d4 λH5 S5 m5 n5 d5 k5 t5=>?_;exact t5.fin m5 d5 (by omega) hP2
theorem aoL(W:j1 C S0 bs){b8:Nat}{c:List AV}{e:al}{Q:Nat→Prop}(hM:Mem H S)(hs:bj C S r)(t:dt C S0 S bs 0 a .ab [] .ab [] .ab [] bU)(ho:S.ob b8=.ce c 0)(hb8:S0.n≤b8)(hR:RE S Q c e)(hQ:∀b,Q b→S0.n≤b∧b<S.n)
  (hP:aW C (fF C bs) (iK bs) K S0 (r.bind λ_ j=>.ok (.mk 3 a [] [e] []) j)) :
  zI (bf (s10 m)) K (.ptr bs 0) (.ptr b8 0) H:=by
 show zH (bf (s10 m)) K (.ptr bs 0) (.ptr b8 0) H;unfold zH;have hlt:=W.lt;have lt8:b8<S.n:=hM.lt (by rw[ho];simp);refine gH hM ho hR.len ?_;refine hM.cP ?_;rw[iN];refine gq hR.len ?_;rw[G7 hR.len rfl];refine dj hM (by rw[hR.len]) hR.ones λH1 m1=>cG (ry (by rw[m1.n,hM.n];rfl)) ?_;have n0:=t.x.1;have L:=t.y7 hM;have c1:aO bU S (S.push (.ce c 0)):=(aO.refl _ _).push _;have d1:=hs.im hM c1;have t1:=((t.res hM (X':=λb=>b=S.n) λb hb=>.inr (by have hb:b=S.n:=hb;omega)).keep W hM c1.no)
 have E1:aX ku (zS S0 .ab .ab bU) (S.push (.ce c 0)) (.slice S.n 0 1 1 7 true) [e]:=
  aX.single (R:=ku) (Q:=Q) (LS.av _ _) ⟨n0,λq=>q,λq=>q,λq=>q⟩ (hR.go (λb hb=>LS.bS _ _ (hQ b hb).2) λ_ h=>h) λx hx=>⟨⟨(hQ x hx).1,λq=>q,λq=>q,λq=>q⟩,Nat.lt_succ_of_lt (hQ x hx).2,by have:=(hQ x hx).2;omega⟩
 have o1:(S.push (.ce c 0)).ob b8=.ce c 0:=(LS.bS _ _ lt8).trans ho;refine t1.j0 W m1 (kd':=3) d1 λH2 S2 m2 n2 d2 k2 t2=>?_;refine gH m2 ((k2 b8 (by omega)).trans o1) hR.len ?_;refine cG hR.same ?_;refine t2.rm W m2 (aX.kb W E1 m1 n2 k2) (λb hb=>hb) d2 λH3 S3 m3 n3 d3 k3 t3=>?_;exact hP.2 H3 S3 _ _ m3 t3.x (d3.ret _) ⟨rfl,_,t3.ob,t3.rst m3⟩ pT
theorem aoM(O:gr C m)(hk:2*k+4≤m)(hd:d≤200)(W:j1 C S0 bs){b8:Nat}{c:List AV}{e:al}{Q:Nat→Prop}(hM:Mem H S)(hs:bj C S r)(t:dt C S0 S bs 0 a .ab [] .ab [] .ab [] bU)(ho:S.ob b8=.ce c 0)(hb8:S0.n≤b8)(hR:RE S Q c e)(hQ:∀b,Q b→S0.n≤b∧b<S.n)
  (hP:aW C (fF C bs) (iK bs) K S0 (r.bind λ_ j=>(if e.kind=10 then .ok (.mk 3 a [] [e] []) j else (aU C.T [61] j).bind λ_ j=>(bW C.T k j d).bind λv j=>.ok (.mk 2 a [] [e,v] []) j).bind λs j=>dG C.T s j)) :
  GW (bf (s10 m)) K (.ptr C.bp 0) (.ptr bs 0) (d:Int) (.ptr b8 0) H:=by
 have r2:(bf (s10 m)).2.1=f18:=rfl;have r5:(bf (s10 m)).2.2.2.2.1=f41:=rfl;have e10:Int.ofNat 10=((10:Nat):Int):=rfl;show zM (bf (s10 m)) K (zI (bf (s10 m)) K) (zL (bf (s10 m)) K) (.ptr C.bp 0) (.ptr bs 0) (d:Int) (.ptr b8 0) H;unfold zM;rw[r2,r5];have hlt:=W.lt;have hbp:=W.bp;have nb:∀b,S0.n≤b→¬bE C b:=λb hb q=>by have q:b=C.bp:=q;omega
 obtain⟨cr,hcr⟩:=hR.k0;have knd:∀{H:AH}{S:LS}{P Q:Prop},Mem H S→S.ob b8=.ce c 0→bI (decide ((e.kind:Int)=((10:Nat):Int))) P Q→ag 0 (.ptr b8 0) λv1=>ad v1 H λv2=>cI 0 v2 λz3=>bI (bA z3 (.ofNat 10)) P Q:=by
  intro H S P Q hM ho h;rw[aM,Nat.zero_add];refine az hM ho (v:=.int 0 (e.kind:Int)) (by rw[hcr];rfl) ?_;rw[aK,aZ,e10];exact h
 refine knd hM ho ?_;by_cases g:e.kind=10
 ·rw[decide_eq_true (by omega),aH];simp only[if_pos g]at hP;refine rX (s:=[61]) (bg (by decide)) hM hs λH1 S1 m1 c1 d1=>?_;rw[aj,aN];have t1:=t.keep W hM c1.no;have o1:=c1.ob hM ho λq=>q;have R1:RE S1 Q c e:=hR.go (λb hb=>c1.2 b (hQ b hb).2 λq=>q) λ_ h=>h;have Q1:∀b,Q b→S0.n≤b∧b<S1.n:=λb hb=>⟨(hQ b hb).1,Nat.lt_of_lt_of_le (hQ b hb).2 c1.1⟩
  cases hi:pb C.T [61] r with
  |false=>
   simp only[Bool.not_false,aH];refine aoL W m1 d1 t1 o1 hb8 R1 Q1 ?_;have sp:(r.bind λ_ j=>(an.ok (aA.mk 3 a [] [e] []) j).bind λs j=>dG C.T s j)=r.bind λ_ j=>.ok (.mk 3 a [] [e] []) j:=by
    cases r with
    |aS=>rfl
    |err c i=>rfl
    |ok y j=>
     have h3:isA C.T [61] j=false:=hi;show dG C.T (.mk 3 a [] [e] []) j=.ok _ j;unfold dG;rw[if_neg (by rw[h3];simp)]
   rw[←sp];exact hP
  |true=>
   obtain⟨y,j,rfl,hj⟩:=AY hi;simp only[Bool.not_true,aI];refine knd m1 o1 ?_;rw[decide_eq_true (by omega),aH];refine qv (c:=14) (by omega) (by omega) m1 d1 λH2 S2 m2 c2 d2=>?_;rw[aj];have hP:aW C (fF C bs) (iK bs) K S0 (dG C.T (.mk 3 a [] [e] []) j):=hP;unfold dG at hP;rw[if_pos ⟨rfl,hj⟩]at hP;exact aeF (r:=(an.err 14 j:an Unit)) O hk hd W m2 d2 (t1.keep W m1 c2) (c2.ob m1 o1 (nb _ hb8)) hb8 (R1.go (λb hb=>c2.2 b (Q1 b hb).2 (nb b (Q1 b hb).1)) λ_ h=>h) (λb hb=>⟨(Q1 b hb).1,Nat.lt_of_lt_of_le (Q1 b hb).2 c2.1⟩) hP
 ·rw[decide_eq_false (by omega),aI];refine knd hM ho ?_;rw[decide_eq_false (by omega),aI];simp only[if_neg g,bK]at hP;exact aeF O hk hd W hM hs t ho hb8 hR hQ hP
end
end
section
variable {H:AH}{S:LS}{K:KF}{C:Ctx}{i d:Nat}
theorem x71{m:Nat}(hm:m≤1000000)(O:gr C m):∀k,2*k+4≤m+1→∀{K:KF}{H:AH}{S:LS}{i d bs:Nat}{γ:Type}{x:γ},d≤200→Mem H S→bj C S (an.ok x i)→isA C.T [114,101,116,117,114,110] i=false→S.ob bs=.ce [.int 0 0,.int 0 (aB C.T i:Int),.ab,.ab,.ab] 0→bs≠C.bp→(∀b,ak C.vT b→b≠bs)→aW C (fF C bs) (iK bs) K S (Aa C.T k i d)→(s10 (m+1)).2.2.1 (.ptr C.bp 0) (.ptr bs 0) (d:Int) H K:=by
 intro k hk K H S i d bs γ x hd hM hs hret hob hne hnT hP;cases k with
 |zero=>exact absurd (show Aa C.T 0 i d=.aS by unfold Aa;simp only[fK];rfl) hP.1
 |succ k=>
 have r1:(bf (s10 m)).1=(s10 m).1:=rfl;have r3:(bf (s10 m)).2.2.1=f39:=rfl;have r4:(bf (s10 m)).2.2.2.1=f40:=rfl;have r6:(bf (s10 m)).2.2.2.2.2.1=(s10 m).2.1:=rfl;have r7:(bf (s10 m)).2.2.2.2.2.2.1=f57:=rfl;have r8:(bf (s10 m)).2.2.2.2.2.2.2.1=(s10 m).2.2.2.2.1:=rfl;have r9:(bf (s10 m)).2.2.2.2.2.2.2.2.1=f59:=rfl;have r10:(bf (s10 m)).2.2.2.2.2.2.2.2.2=(s10 m).2.2.2.2.2.1:=rfl;have e7:(s10 (m+1)).2.2.1=Cz (bf (s10 m)):=by rw[Ab]
 rw[e7];unfold Cz U7 Ko;rw[r1,r3,r4,r6,r7,r8,r9,r10];have gu:G.NL=1000000:=rfl;generalize G.NL=eW at gu ⊢;have W:j1 C S bs:=⟨hM.lt (by rw[hob];simp),hne,hnT,hs.nu hM,λb hb=>hs.tk.lt hM hb⟩
 have hlt:=W.lt;have t:dt C S S bs 0 (aB C.T i) .ab [] .ab [] .ab [] bU:=⟨aO.refl _ _,hob,aX.nil _ _ _,aX.nil _ _ _,aX.nil _ _ _⟩
 have hP:aW C (fF C bs) (iK bs) K S ((fK C.T (k+1) i d).bind λs j=>dG C.T s j):=hP;simp only[fK]at hP;refine dC (s:=[108,111,99,97,108]) (bg (by decide)) hM hs (λy j er hi H1 S1 m1 c1 d1=>?_) λh1 H1 S1 m1 c1 d1=>?_
 ·cases er;simp only[aj,aN,aH];rw[if_pos hi]at hP;have t1:=t.keep W hM c1;cases k with
  |zero=>exact absurd (show(iI C.T 0 (aB C.T i) (i+1) d).bind (λs j=>dG C.T s j)=.aS by simp only[iI];rfl) hP.1
  |succ k=>
  simp only[iI]at hP;refine dC (s:=[102,117,110,99,116,105,111,110]) (bg (by decide)) m1 d1 (λy j er hi2 H2 S2 m2 c2 d2=>?_) λh2 H2 S2 m2 c2 d2=>?_
  ·cases er;simp only[aj,aN,aH];rw[if_pos hi2,bK]at hP;have t2:=t1.keep W m1 c2;refine t2.af2 (r:=(.ok () (i+1+1):an Unit)) W m2 d2 hP λs b H3 S3 m3 d3 t3 N3 hP3=>?_;refine t3.NJ W m3 N3 (λb hb=>hb) d3 λH4 S4 m4 n4 d4 k4 t4=>?_;refine lf m4 d4 ?_;rw[aj,aK];have sp:∀r':an (List Nat),(r'.bind λ_ j=>((iH C.T k (aB C.T j) j d).bind λb j=>an.ok (aA.mk 12 (aB C.T i) [s] [b] []) j).bind λs j=>dG C.T s j)≠.aS→(r'.bind λ_ j=>((iH C.T k (aB C.T j) j d).bind λb j=>an.ok (aA.mk 12 (aB C.T i) [s] [b] []) j).bind λs j=>dG C.T s j)=r'.bind λ_ j=>(pFn C.T (k-1) j d).bind λf j=>dG C.T (.mk 12 (aB C.T i) [s] [.mk 7 (aB C.T r'.ix) 0 [] 0 [] [f]] []) j:=by
    intro r' h;cases r' with
    |aS=>rfl
    |err c i=>rfl
    |ok y j=>
     cases k with
     |zero=>exact absurd (show((iH C.T 0 (aB C.T j) j d).bind λb j=>an.ok (aA.mk 12 (aB C.T i) [s] [b] []) j).bind (λs j=>dG C.T s j)=.aS by simp only[iH];rfl) h
     |succ k=>
      show((iH C.T (k+1) (aB C.T j) j d).bind λb j=>an.ok (aA.mk 12 (aB C.T i) [s] [b] []) j).bind (λs j=>dG C.T s j)=_;rw[PK];simp only[bK];rfl
   rw[sp _ hP3.1]at hP3;have L4:=t4.y7 m4;refine O.body (k-1) (by omega) hd m4 d4 (aW.call (eO:=rE) hP3.seq λf H5 S5 w m5 c5 d5 ⟨c,hw,hR⟩ uA=>?_);subst hw;have t5:=t4.keep W m4 c5;rw[iN];refine gq hR.len ?_;rw[aot hR.len rfl];refine dj m5 (by rw[hR.len]) hR.ones λH6 m6=>?_;refine eY rfl ?_;have c6:aO bU S5 (S5.push (.ce c 0)):=(aO.refl _ _).push _;have t6:=t5.keep W m5 c6.no;have d6:=d5.im m5 c6;have n4:=t4.x.1;have n5:=c5.1;have hRf:RE (S5.push (.ce c 0)) (λb=>S4.n≤b∧b<S5.n+1) [.int 0 ((7:Nat):Int),.int 0 (aB C.T (((an.ok () (i+1+1)).bind λ_ i=>dT C.T i).ix):Int),.int 0 ((0:Nat):Int),ai [],.int 0 ((0:Nat):Int),.ab,.slice S5.n 0 1 1 2 true] (.mk 7 (aB C.T (((an.ok () (i+1+1)).bind λ_ i=>dT C.T i).ix)) 0 [] 0 [] [f]):=
    RE.fn (b:=S5.n) (m:=0) ⟨by omega,by omega⟩ (LS.av _ _) (hR.go (λb hb=>LS.bS _ _ hb.2) λb hb=>⟨hb.1,by have:=hb.2;omega⟩)
   refine t6.newE W m6 hRf (λb hb=>⟨by have:=hb.1;omega,hb.2,λq=>by have:=(L4.1 _ q).2;have:=hb.1;omega,λq=>q⟩) d6 λH7 S7 m7 n7 d7 t7 E7=>?_;refine t7.j0 W m7 (kd':=12) d7 λH8 S8 m8 n8 d8 k8 t8=>?_;refine t8.rm W m8 (aX.kb W E7 m7 n8 k8) (λb hb=>hb) d8 λH9 S9 m9 n9 d9 k9 t7=>?_;exact t7.fin m9 d9 (by omega) uA
  ·have h2:isA C.T [102,117,110,99,116,105,111,110] (i+1)=false:=h2;simp only[aj,aN,aI];rw[if_neg (by rw[h2];simp),bK]at hP;have t2:=t1.keep W m1 c2;refine t2.af2 (r:=(.ok () (i+1):an Unit)) W m2 d2 hP λs b H3 S3 m3 d3 t3 N3 hP3=>?_;refine t3.j0 W m3 (kd':=1) d3 λH4 S4 m4 n4 d4 k4 t4=>?_;refine t4.NJ W m4 (aX.kb W N3 m3 n4 k4) (λb hb=>hb) d4 λH5 S5 m5 n5 d5 k5 t5=>?_;refine ap5 (k:=k) O (by omega) hd W m5 d5 t5 ?_;have sp:(λ(_:List Nat) j=>(if isA C.T [61] j=true then (bW C.T k (j+1) d).bind λe k=>an.ok (aA.mk 1 (aB C.T i) [s] [e] []) k else an.ok (aA.mk 1 (aB C.T i) [s] [] []) j).bind λs j=>dG C.T s j)=λ_ j=>if isA C.T [61] j=true then (bW C.T k (j+1) d).bind λe k=>dG C.T (.mk 1 (aB C.T i) [s] [e] []) k else dG C.T (.mk 1 (aB C.T i) [s] [] []) j:=by
    funext _ j;split
    ·rw[bK];rfl
    ·rfl
   rw[←sp];exact hP3
 have h1:isA C.T [108,111,99,97,108] i=false:=h1;simp only[aj,aN,aI];rw[if_neg (by rw[h1];simp)]at hP;have t1:=t.keep W hM c1;refine dC (s:=[105,102]) (bg (by decide)) m1 d1 (λy j er hi H2 S2 m2 c2 d2=>?_) λh2 H2 S2 m2 c2 d2=>?_
 ·cases er;simp only[aj,aN,aH];rw[if_pos hi]at hP;refine(t1.keep W m1 c2).j0 W m2 (kd':=4) d2 λH3 S3 m3 n3 d3 k3 t3=>?_;exact ap7 O hd W k (by omega) eW (.ok () (i+1):an Unit) .ab .ab [] [] H3 S3 (by omega) (by simp;omega) (by simp;omega) m3 d3 t3 (λ_ _ _=>trivial) hP λ_=>⟨_,_,rfl⟩
 have h2:isA C.T [105,102] i=false:=h2;simp only[aj,aN,aI];rw[if_neg (by rw[h2];simp)]at hP;have t2:=t1.keep W m1 c2;refine dC (s:=[119,104,105,108,101]) (bg (by decide)) m2 d2 (λy j er hi H3 S3 m3 c3 d3=>?_) λh3 H3 S3 m3 c3 d3=>?_
 ·cases er;simp only[aj,aN,aH];rw[if_pos hi]at hP;cases k with
  |zero=>exact absurd (show(iJ C.T 0 (aB C.T i) (i+1) d).bind (λs j=>dG C.T s j)=.aS by simp only[iJ];rfl) hP.1
  |succ k=>
  simp only[iJ,bK]at hP;refine(t2.keep W m2 c3).NK (r:=(.ok () (i+1):an Unit)) O (k:=k) (by omega) hd W m3 d3 hP λe b H4 S4 m4 d4 t4 E4 wK=>?_;refine t4.j0 W m4 (kd':=5) d4 λH5 S5 m5 n5 d5 k5 t5=>?_;refine t5.rm W m5 (aX.kb W E4 m4 n5 k5) (λb hb=>hb) d5 λH6 S6 m6 n6 d6 k6 t6=>?_;exact ap3 (k:=k) O (by omega) hd W (by omega) m6 d6 t6 wK
 have h3:isA C.T [119,104,105,108,101] i=false:=h3;simp only[aj,aN,aI];rw[if_neg (by rw[h3];simp)]at hP;have t3:=t2.keep W m2 c3;refine dC (s:=[114,101,112,101,97,116]) (bg (by decide)) m3 d3 (λy j er hi H4 S4 m4 c4 d4=>?_) λh4 H4 S4 m4 c4 d4=>?_
 ·cases er;simp only[aj,aN,aH];rw[if_pos hi]at hP;cases k with
  |zero=>exact absurd (show(gD C.T 0 (aB C.T i) (i+1) d).bind (λs j=>dG C.T s j)=.aS by simp only[gD];rfl) hP.1
  |succ k=>
  simp only[gD,bK]at hP;refine(t3.keep W m3 c4).Sx (r:=(.ok () (i+1):an Unit)) O (k:=k) (by omega) hd W m4 d4 hP λb bk H5 S5 m5 d5 t5 B5 uA=>?_;refine t5.Gh W m5 B5 (λb hb=>hb) d5 λH6 S6 m6 n6 d6 k6 t6=>?_;refine t6.must W (s:=[117,110,116,105,108]) (bg (by decide)) m6 d6 uA λH7 S7 m7 d7 t7 xP=>?_;exact ap4 (k:=k) O (by omega) hd W m7 d7 t7 xP
 have h4:isA C.T [114,101,112,101,97,116] i=false:=h4;simp only[aj,aN,aI];rw[if_neg (by rw[h4];simp)]at hP;have t4:=t3.keep W m3 c4;refine dC (s:=[102,111,114]) (bg (by decide)) m4 d4 (λy j er hi H5 S5 m5 c5 d5=>?_) λh5 H5 S5 m5 c5 d5=>?_
 ·cases er;simp only[aj,aN,aH];rw[if_pos hi]at hP;cases k with
  |zero=>exact absurd (show(lX C.T 0 (aB C.T i) (i+1) d).bind (λs j=>dG C.T s j)=.aS by simp only[lX];rfl) hP.1
  |succ k=>
  simp only[lX]at hP;rw[bK]at hP;refine(t4.keep W m4 c5).af2 (r:=(.ok () (i+1):an Unit)) W m5 d5 hP λs b H6 S6 m6 d6 t6 N6 Gg=>?_;refine t6.NJ W m6 N6 (λb hb=>hb) d6 λH7 S7 m7 n7 d7 k7 t7=>?_;exact ap8 (k:=k) O (by omega) hd W m7 d7 t7 Gg
 have h5:isA C.T [102,111,114] i=false:=h5;simp only[aj,aN,aI];rw[if_neg (by rw[h5];simp)]at hP;have t5:=t4.keep W m4 c5;refine dC (s:=[98,114,101,97,107]) (bg (by decide)) m5 d5 (λy j er hi H6 S6 m6 c6 d6=>?_) λh6 H6 S6 m6 c6 d6=>?_
 ·cases er;simp only[aj,aN,aH];rw[if_pos hi]at hP;refine(t5.keep W m5 c6).j0 W m6 (kd':=9) d6 λH7 S7 m7 n7 d7 k7 t7=>?_;exact t7.fin (r:=(.ok () (i+1):an Unit)) m7 d7 (by omega) hP
 have h6:isA C.T [98,114,101,97,107] i=false:=h6;simp only[aj,aN,aI];rw[if_neg (by rw[h6];simp)]at hP;have t6:=t5.keep W m5 c6;refine dC (s:=[100,111]) (bg (by decide)) m6 d6 (λy j er hi H7 S7 m7 c7 d7=>?_) λh7 H7 S7 m7 c7 d7=>?_
 ·cases er;simp only[aj,aN,aH];rw[if_pos hi]at hP;cases k with
  |zero=>exact absurd (show(pR C.T 0 (aB C.T i) (i+1) d).bind (λs j=>dG C.T s j)=.aS by simp only[pR];rfl) hP.1
  |succ k=>
  simp only[pR,bK]at hP;refine(t6.keep W m6 c7).j0 W m7 (kd':=11) d7 λH8 S8 m8 n8 d8 k8 t8=>?_;exact aoK (r:=(.ok () (i+1):an Unit)) (k:=k) O (by omega) hd W (by omega) m8 d8 t8 hP
 have h7:isA C.T [100,111] i=false:=h7;simp only[aj,aN,aI];rw[if_neg (by rw[h7];simp),if_neg (by rw[hret];simp)]at hP;have t7:=t6.keep W m6 c7;refine lf m7 d7 ?_;rw[aj,aK];have rF:(an.ok x i).ix=i:=rfl;rw[rF];have sp:((if cC C.T i=2 then gF C.T k (aB C.T i) i d else .err 14 i).bind λs j=>dG C.T s j)=((an.ok x i).bind λ_ i=>dT C.T i).bind λs j=>(if k=0∨k=1∨k=2 then .aS else cK C.T (k-2) (.mk 6 (aB C.T i) 0 s 0 [] []) j d).bind λe j=>(if e.kind=10 then .ok (.mk 3 (aB C.T i) [] [e] []) j else (aU C.T [61] j).bind λ_ j=>(bW C.T (k-1) j d).bind λv j=>.ok (.mk 2 (aB C.T i) [] [e,v] []) j).bind λs j=>dG C.T s j:=by
  show _=(dT C.T i).bind _;unfold dT;by_cases g:cC C.T i=2
  ·rw[if_pos g,if_pos g];show(gF C.T k (aB C.T i) i d).bind (λs j=>dG C.T s j)=(if k=0∨k=1∨k=2 then .aS else cK C.T (k-2) (.mk 6 (aB C.T i) 0 (fU C.T i) 0 [] []) (i+1) d).bind _
   match k with
   |0=>simp only[gF];rfl
   |1=>simp only[gF,iW];rfl
   |2=>
    simp only[gF,iW];rw[if_pos (.inl g)];simp only[dW];rfl
   |k+3=>
    rw[if_neg (by omega)];simp only[gF,iW];rw[if_pos (.inl g)];have es:dW C.T (k+1) i d=.ok (.mk 6 (aB C.T i) 0 (fU C.T i) 0 [] []) (i+1):=by
     simp only[dW];rw[if_neg (by omega),if_neg (by omega),if_pos g]
    rw[es,bK];rfl
  ·rw[if_neg g,if_neg g];rfl
 rw[sp]at hP;refine si m7 d7 (aW.call (eO:=NA) hP λs H8 S8 w m8 c8 d8 ⟨hw,hs8⟩ Gi=>?_);subst hw;refine eY (kX s) ?_;have t8:=t7.keep W m7 c8;have NN:aW C (fF C bs) (iK bs) K S ((((an.ok x i).bind λ_ i=>dT C.T i).bind λ_ j=>cK C.T (k-2) (.mk 6 (aB C.T i) 0 s 0 [] []) j d).bind λe j=>(if e.kind=10 then .ok (.mk 3 (aB C.T i) [] [e] []) j else (aU C.T [61] j).bind λ_ j=>(bW C.T (k-1) j d).bind λv j=>.ok (.mk 2 (aB C.T i) [] [e,v] []) j).bind λs j=>dG C.T s j):=by
  have e1:∀r':an (List Nat),(r'.bind λ_ j=>(if k=0∨k=1∨k=2 then .aS else cK C.T (k-2) (.mk 6 (aB C.T i) 0 s 0 [] []) j d).bind λe j=>(if e.kind=10 then .ok (.mk 3 (aB C.T i) [] [e] []) j else (aU C.T [61] j).bind λ_ j=>(bW C.T (k-1) j d).bind λv j=>.ok (.mk 2 (aB C.T i) [] [e,v] []) j).bind λs j=>dG C.T s j)≠.aS→(r'.bind λ_ j=>(if k=0∨k=1∨k=2 then .aS else cK C.T (k-2) (.mk 6 (aB C.T i) 0 s 0 [] []) j d).bind λe j=>(if e.kind=10 then .ok (.mk 3 (aB C.T i) [] [e] []) j else (aU C.T [61] j).bind λ_ j=>(bW C.T (k-1) j d).bind λv j=>.ok (.mk 2 (aB C.T i) [] [e,v] []) j).bind λs j=>dG C.T s j)=(r'.bind λ_ j=>cK C.T (k-2) (.mk 6 (aB C.T i) 0 s 0 [] []) j d).bind λe j=>(if e.kind=10 then .ok (.mk 3 (aB C.T i) [] [e] []) j else (aU C.T [61] j).bind λ_ j=>(bW C.T (k-1) j d).bind λv j=>.ok (.mk 2 (aB C.T i) [] [e,v] []) j).bind λs j=>dG C.T s j:=by
   intro r' h;cases r' with
   |aS=>rfl
   |err c i=>rfl
   |ok y j=>
    by_cases g:k=0∨k=1∨k=2
    ·exact absurd (show(if k=0∨k=1∨k=2 then (.aS:an al) else cK C.T (k-2) (.mk 6 (aB C.T i) 0 s 0 [] []) j d).bind (λe j=>(if e.kind=10 then .ok (.mk 3 (aB C.T i) [] [e] []) j else (aU C.T [61] j).bind λ_ j=>(bW C.T (k-1) j d).bind λv j=>.ok (.mk 2 (aB C.T i) [] [e,v] []) j).bind λs j=>dG C.T s j)=.aS by rw[if_pos g];rfl) h
    ·show(if k=0∨k=1∨k=2 then (.aS:an al) else cK C.T (k-2) (.mk 6 (aB C.T i) 0 s 0 [] []) j d).bind _=_;rw[if_neg g];rfl
  rw[←e1 _ Gi.1];exact Gi
 have n8:=t8.x.1;have hR:RE S8 (jd S8.n S8.n) [.int 0 ((6:Nat):Int),.int 0 (aB C.T i:Int),.int 0 ((0:Nat):Int),ai s,.int 0 ((0:Nat):Int),.ab,.ab] (.mk 6 (aB C.T i) 0 s 0 [] []):=RE.simple hs8;have hbp:=W.bp;refine O.behind (k-2) (by omega) hd m8 (S0:=S8) (aO.refl _ _) (by omega) (λb hb=>by have:=W.vT b hb;omega) d8 hR (aW.call (eO:=dS) NN λe H9 S9 w m9 c9 d9 ⟨c,hw,hRe⟩ arp=>?_);subst hw;have t7:=t8.keep W m8 c9;refine eT ?_;rw[jy];refine dp m9 fg λHa ma=>?_;refine km ma (LS.av _ _) rfl hRe.len hRe.ones λHb mb=>?_;have cb:aO bU S9 ((S9.push (.ce z7 0)).set S9.n (.ce c 0)):=((aO.refl _ _).push _).set (.inr (Nat.le_refl _)) _;have n9:=t7.x.1;exact aoM (k:=k-1) O (by omega) hd W mb (d9.im m9 cb) (t7.keep W m9 cb.no) (LS.ay _ _ _) n9 (hRe.go (λb hb=>cb.2 b hb.2 λq=>q) λ_ h=>h) (λb hb=>⟨by have:=hb.1;omega,Nat.lt_of_lt_of_le hb.2 cb.1⟩) arp
end
end Go.Proofs.YtcedghechlgecaaDoor
namespace Go.X
section
theorem cm{α:Type}{r:an α}{f:α→Nat→an aA}{P:aA→Prop}(h:∀a i s j,f a i=.ok s j→P s){s:aA}{j:Nat}(e:r.bind f=.ok s j):P s:=by
 obtain⟨a,i,_,h2⟩:=bind_ok e;exact h a i s j h2
theorem text_of{T:List Tok}{s:List Nat}{i:Nat}(h:isA T s i=true):fU T i=s:=by
 unfold isA at h;simp only[Bool.and_eq_true,decide_eq_true_eq]at h;exact h.2
theorem iu{T:List Tok}{s t:List Nat}{i:Nat}(h:isA T s i=true)(hn:t≠s):isA T t i=false:=by
 unfold isA;rw[text_of h,decide_eq_false (p:=s=t) λq=>hn q.symm,Bool.and_false]
variable {T:List Tok}
theorem ajF{k a i d:Nat}{s:aA}{j:Nat}(h:iI T k a i d=.ok s j):s.kind≠10:=by
 cases k with
 |zero=>simp only[iI]at h;cases h
 |succ k=>
  simp only[iI]at h;split at h
  ·exact cm (P:=λs=>s.kind≠10) (λ_ _ _ _ h=>cm (P:=λs=>s.kind≠10) (λ_ _ _ _ h=>by cases h;show 12≠10;omega) h) h
  ·refine cm (P:=λs=>s.kind≠10) (λ_ _ _ _ h=>?_) h;split at h
   ·exact cm (P:=λs=>s.kind≠10) (λ_ _ _ _ h=>by cases h;show 1≠10;omega) h
   ·cases h;show 1≠10;omega
theorem NO:∀{k a:Nat}{l:List al}{B:List (List aA)}{i d:Nat}{s:aA}{j:Nat},eN T k a l B i d=.ok s j→s.kind≠10
 |0,a,l,B,i,d,s,j,h=>by simp only[eN]at h;cases h
 |k+1,a,l,B,i,d,s,j,h=>by
  simp only[eN]at h;refine cm (P:=λs=>s.kind≠10) (λ_ _ _ _ h=>cm (P:=λs=>s.kind≠10) (λ_ _ _ _ h=>cm (P:=λs=>s.kind≠10) (λ_ _ _ _ h=>?_) h) h) h;split at h
  ·exact NO h
  ·split at h
   ·exact cm (P:=λs=>s.kind≠10) (λ_ _ _ _ h=>cm (P:=λs=>s.kind≠10) (λ_ _ _ _ h=>by cases h;show 4≠10;omega) h) h
   ·exact cm (P:=λs=>s.kind≠10) (λ_ _ _ _ h=>by cases h;show 4≠10;omega) h
theorem ajG{k a i d:Nat}{s:aA}{j:Nat}(h:iJ T k a i d=.ok s j):s.kind≠10:=by
 cases k with
 |zero=>simp only[iJ]at h;cases h
 |succ k=>
  simp only[iJ]at h;exact cm (P:=λs=>s.kind≠10) (λ_ _ _ _ h=>cm (P:=λs=>s.kind≠10) (λ_ _ _ _ h=>cm (P:=λs=>s.kind≠10) (λ_ _ _ _ h=>cm (P:=λs=>s.kind≠10) (λ_ _ _ _ h=>by cases h;show 5≠10;omega) h) h) h) h
theorem af3{k a i d:Nat}{s:aA}{j:Nat}(h:gD T k a i d=.ok s j):s.kind≠10:=by
 cases k with
 |zero=>simp only[gD]at h;cases h
 |succ k=>
  simp only[gD]at h;exact cm (P:=λs=>s.kind≠10) (λ_ _ _ _ h=>cm (P:=λs=>s.kind≠10) (λ_ _ _ _ h=>cm (P:=λs=>s.kind≠10) (λ_ _ _ _ h=>by cases h;show 8≠10;omega) h) h) h
theorem arq{k a i d:Nat}{s:aA}{j:Nat}(h:pR T k a i d=.ok s j):s.kind≠10:=by
 cases k with
 |zero=>simp only[pR]at h;cases h
 |succ k=>
  simp only[pR]at h;exact cm (P:=λs=>s.kind≠10) (λ_ _ _ _ h=>cm (P:=λs=>s.kind≠10) (λ_ _ _ _ h=>by cases h;show 11≠10;omega) h) h
theorem AZ{k kd a:Nat}{ns:List (List Nat)}{l:List al}{i d:Nat}{s:aA}{j:Nat}(hk:kd≠10)(h:cF T k kd a ns l i d=.ok s j):s.kind≠10:=by
 cases k with
 |zero=>simp only[cF]at h;cases h
 |succ k=>
  simp only[cF]at h;exact cm (P:=λs=>s.kind≠10) (λ_ _ _ _ h=>cm (P:=λs=>s.kind≠10) (λ_ _ _ _ h=>cm (P:=λs=>s.kind≠10) (λ_ _ _ _ h=>by cases h;exact hk) h) h) h
theorem ap9{k a i d:Nat}{s:aA}{j:Nat}(h:lX T k a i d=.ok s j):s.kind≠10:=by
 cases k with
 |zero=>simp only[lX]at h;cases h
 |succ k=>
  simp only[lX]at h;refine cm (P:=λs=>s.kind≠10) (λ_ _ _ _ h=>?_) h;split at h
  ·exact cm (P:=λs=>s.kind≠10) (λ_ _ _ _ h=>cm (P:=λs=>s.kind≠10) (λ_ _ _ _ h=>cm (P:=λs=>s.kind≠10) (λ_ _ _ _ h=>AZ (by omega) h) h) h) h
  ·refine cm (P:=λs=>s.kind≠10) (λ_ _ _ _ h=>cm (P:=λs=>s.kind≠10) (λ_ _ _ _ h=>cm (P:=λs=>s.kind≠10) (λ_ _ _ _ h=>cm (P:=λs=>s.kind≠10) (λ_ _ _ _ h=>?_) h) h) h) h;split at h
   ·exact cm (P:=λs=>s.kind≠10) (λ_ _ _ _ h=>AZ (by omega) h) h
   ·exact AZ (by omega) h
theorem ajH{k a i d:Nat}{s:aA}{j:Nat}(h:gF T k a i d=.ok s j):s.kind≠10:=by
 cases k with
 |zero=>simp only[gF]at h;cases h
 |succ k=>
  simp only[gF]at h;refine cm (P:=λs=>s.kind≠10) (λ_ _ _ _ h=>?_) h;split at h
  ·cases h;show 3≠10;omega
  ·exact cm (P:=λs=>s.kind≠10) (λ_ _ _ _ h=>cm (P:=λs=>s.kind≠10) (λ_ _ _ _ h=>by cases h;show 2≠10;omega) h) h
theorem aoN{k i d:Nat}{s:aA}{j:Nat}(hr:isA T [114,101,116,117,114,110] i=false)(h:fK T k i d=.ok s j):s.kind≠10:=by
 cases k with
 |zero=>simp only[fK]at h;cases h
 |succ k=>
  simp only[fK]at h;split at h
  ·exact ajF h
  split at h
  ·exact NO h
  split at h
  ·exact ajG h
  split at h
  ·exact af3 h
  split at h
  ·exact ap9 h
  split at h
  ·cases h;show 9≠10;omega
  split at h
  ·exact arq h
  rw[if_neg (by rw[hr];simp)]at h;split at h
  ·exact ajH h
  ·cases h
theorem ajI{k i d:Nat}(h:isA T [61] i=true):fK T (k+1) i d=.err 14 i:=by
 have hk:cC T i=1∨cC T i=5:=by
  unfold isA at h;simp only[Bool.and_eq_true,Bool.or_eq_true,decide_eq_true_eq]at h;exact h.1
 simp only[fK];rw[if_neg (by rw[iu h (by decide)];simp),if_neg (by rw[iu h (by decide)];simp),if_neg (by rw[iu h (by decide)];simp),if_neg (by rw[iu h (by decide)];simp),if_neg (by rw[iu h (by decide)];simp),if_neg (by rw[iu h (by decide)];simp),if_neg (by rw[iu h (by decide)];simp),if_neg (by rw[iu h (by decide)];simp),if_neg (by omega)]
theorem ajJ{i:Nat}(h:isA T [61] i=true):fe T i=false:=by
 have hk:cC T i=1∨cC T i=5:=by
  unfold isA at h;simp only[Bool.and_eq_true,Bool.or_eq_true,decide_eq_true_eq]at h;exact h.1
 unfold fe;rw[iu h (by decide),iu h (by decide),iu h (by decide),iu h (by decide),decide_eq_false (by omega)];rfl
theorem af4{k i d:Nat}(h:isA T [114,101,116,117,114,110] i=true):fK T (k+1) i d=ij T k (aB T i) (i+1) d:=by
 simp only[fK];rw[if_neg (by rw[iu h (by decide)];simp),if_neg (by rw[iu h (by decide)];simp),if_neg (by rw[iu h (by decide)];simp),if_neg (by rw[iu h (by decide)];simp),if_neg (by rw[iu h (by decide)];simp),if_neg (by rw[iu h (by decide)];simp),if_neg (by rw[iu h (by decide)];simp),if_pos h]
end
end Go.X
namespace Go.Proofs.YtcedghechlgecaaDoor
open Go Go.X Go.Proofs.YtcedghechlgecaaDoor.G
section
variable {H:AH}{S:LS}{K:KF}{C:Ctx}{i d:Nat}
section
variable {m k:Nat}{S0:LS}
theorem ahJ(hbp:C.bp<S0.n)(de:∀b,ak C.vT b→b<S0.n){b9:Nat}{v:AV}{c:List AV}{s:aA}{out:List aA}{Q:Nat→Prop}{γ:Type}{r:an γ}(hlen:out.length≤1000000)(hM:Mem H S)(hs:bj C S r)(hx:aO (bE C) S0 S)(ho:S.ob b9=.ce c 0)(h9:S0.n≤b9)(hR:iA S Q c s)(L:aX mG (λb=>S0.n≤b) S v out)(hQ:∀b,Q b→S0.n≤b∧b<S.n∧¬ak v b)
  (hP:aW C (bE C) fY K S0 (r.bind λ_ j=>if fe C.T (dA C.T [59] j)=false then .err 14 (dA C.T [59] j) else .ok (out++[s]) (dA C.T [59] j))) :
  qR (cQ (s10 m)) K (.ptr C.bp 0) v (.ptr b9 0) H:=by
 have r1:(cQ (s10 m)).1=f18:=rfl;have r3:(cQ (s10 m)).2.2.1=f38:=rfl;have r5:(cQ (s10 m)).2.2.2.2.1=f40:=rfl;show Ce (cQ (s10 m)) K (vz (cQ (s10 m)) K) (.ptr C.bp 0) v (.ptr b9 0) H;unfold Ce;rw[r1,r3,r5];have nb:∀b,S0.n≤b→¬bE C b:=λb hb q=>by have q:b=C.bp:=q;omega
 have n0:=hx.1;have last:∀{β:Type}{r':an β}{H1:AH}{S1:LS},Mem H1 S1→bj C S1 r'→aO (bE C) S S1→aW C (bE C) fY K S0 (r'.bind λ_ j=>.ok (out++[s]) j)→vz (cQ (s10 m)) K v (.ptr b9 0) H1:=by
  intro β r' H1 S1 m1 d1 c1 hP;show Cd (cQ (s10 m)) K v (.ptr b9 0) H1;unfold Cd;have o1:=c1.ob hM ho (nb _ h9);have R1:iA S1 Q c s:=hR.go (λb hb=>c1.2 b (hQ b hb).2.1 (nb b (hQ b hb).1)) λ_ h=>h;have L1:aX mG (λb=>S0.n≤b) S1 v out:=L.keep hM c1.1 λb h1 h2=>c1.2 b h2 (nb b h1);have x1:=hx.trans c1;refine gH m1 o1 R1.len ?_;rw[iN];refine gq R1.len ?_;rw[aoo R1.len rfl];have n1:=x1.1;refine L1.push (R:=mG) (bytes:=88) m1 R1 (λb hb=>⟨(hQ b hb).1,Nat.lt_of_lt_of_le (hQ b hb).2.1 c1.1,(hQ b hb).2.2⟩) (λb hb=>by show S0.n≤b;omega) (by omega) λH2 S2 v2 m2 L2 n2 k2 b2 asx=>?_;have c2:aO (λb=>ak v b) S1 S2:=⟨n2,λb hb hx=>k2 b hb hx⟩
  obtain⟨cl,g1,g2⟩:=(L2.toR (lo:=S0.n) λb hb=>hb).done m2;have hlo:∀b,ak v b→S0.n≤b:=λb hb=>L.FZ hb;exact hP.2 H2 S2 v2 _ m2 (x1.rW c2 λb hb=>.inr (hlo b hb)) ((d1.ret _).keep m1 c2 (λq=>by have:=hlo _ q;omega) λb hb q=>by have:=hlo _ q;have:=de b hb;omega) ⟨cl,g1,g2⟩ pT
 have rest:∀{β:Type}{r':an β}{H1:AH}{S1:LS},Mem H1 S1→bj C S1 r'→aO (bE C) S S1→aW C (bE C) fY K S0 (r'.bind λ_ j=>if fe C.T j=false then .err 14 j else .ok (out++[s]) j)→f38 (.ptr C.bp 0) H1 λo5 H6=>cR K o5 H6 λv7=>bY v7 λz8=>bI (!z8) (f18 (.ptr C.bp 0) ((14:Nat):Int) H6 λo9 cn=>cR K o9 cn λv11=>vz (cQ (s10 m)) K v (.ptr b9 0) cn) (vz (cQ (s10 m)) K v (.ptr b9 0) H6):=by
  intro β r' H1 S1 m1 d1 c1 hP;refine zZ m1 d1 λH2 S2 m2 c2 d2=>?_;rw[aj,aN];cases he:F8 C.T r' with
  |true=>
   simp only[Bool.not_true,aI];refine last m2 d2 (c1.trans c2.no) ?_;have sp:(r'.bind λ_ j=>if fe C.T j=false then .err 14 j else .ok (out++[s]) j)=r'.bind λ_ j=>.ok (out++[s]) j:=by
    cases r' with
    |aS=>rfl
    |err c i=>rfl
    |ok y j=>
     have h3:fe C.T j=true:=he;show(if fe C.T j=false then _ else _)=_;rw[if_neg (by rw[h3];simp)];rfl
   rw[←sp];exact hP
  |false=>
   simp only[Bool.not_false,aH];refine qv (c:=14) (by omega) (by omega) m2 d2 λH3 S3 m3 c3 d3=>?_;rw[aj];refine last (r':=(zX 14 r':an Unit)) m3 d3 ((c1.trans c2.no).trans c3) ?_;have sp:((zX 14 r':an Unit).bind λ_ j=>.ok (out++[s]) j)=(r'.bind λ_ j=>if fe C.T j=false then .err 14 j else .ok (out++[s]) j):=by
    cases r' with
    |aS=>rfl
    |err c i=>cases he
    |ok y j=>
     have h3:fe C.T j=false:=he;show an.err 14 j=if fe C.T j=false then _ else _
     rw[if_pos h3]
   rw[sp];exact hP
 have e14:Int.ofNat 14=((14:Nat):Int):=rfl;rw[e14];refine dC (s:=[59]) (bg (by decide)) hM hs (λy j er hi H1 S1 m1 c1 d1=>?_) λhi H1 S1 m1 c1 d1=>?_
 ·cases er;rw[aj,aN];refine rest (r':=(.ok () (j+1):an Unit)) m1 d1 c1 ?_;have hP:aW C (bE C) fY K S0 (if fe C.T (dA C.T [59] j)=false then .err 14 (dA C.T [59] j) else .ok (out++[s]) (dA C.T [59] j)):=hP;have eo:dA C.T [59] j=j+1:=by unfold dA;rw[hi];rfl
  rw[eo]at hP;exact hP
 ·rw[aj,aN];refine rest m1 d1 c1 ?_;have sp:(r.bind λ_ j=>if fe C.T (dA C.T [59] j)=false then .err 14 (dA C.T [59] j) else .ok (out++[s]) (dA C.T [59] j))=r.bind λ_ j=>if fe C.T j=false then .err 14 j else .ok (out++[s]) j:=by
   cases r with
   |aS=>rfl
   |err c i=>rfl
   |ok y j=>
    have h3:isA C.T [59] j=false:=hi;have eo:dA C.T [59] j=j:=by unfold dA;rw[h3];rfl
    show(if fe C.T (dA C.T [59] j)=false then _ else _)=_;rw[eo];rfl
  rw[←sp];exact hP
def BkX(C:Ctx)(S0:LS)(K:KF)(k d:Nat)(X:AV→Int→AV→AH→Prop):Prop:=∀(v:AV) (out:List aA) (H:AH) (S:LS){γ:Type}(r:an γ),out.length+k≤1000000→Mem H S→bj C S r→aO (bE C) S0 S→aX mG (λb=>S0.n≤b) S v out→aW C (bE C) fY K S0 (r.bind λ_ i=>cE C.T k out i d)→X (.ptr C.bp 0) (d:Int) v H
theorem aqa(hm:m≤1000000)(O:gr C m)(hd:d≤200)(hbp:C.bp<S0.n)(de:∀b,ak C.vT b→b<S0.n)(hk:2*k+4≤m+1){X:AV→Int→AV→AH→Prop}
  (hrec:∀k',k=k'+1→BkX C S0 K k' d X):BkX C S0 K k d (Ck (cQ (s10 m)) K X):=by
 intro v out H S γ r hl hM hs hx L hP;have r3:(cQ (s10 m)).2.2.1=f38:=rfl;have r4:(cQ (s10 m)).2.2.2.1=f39:=rfl;have r5:(cQ (s10 m)).2.2.2.2.1=f40:=rfl;have r6:(cQ (s10 m)).2.2.2.2.2.1=f41:=rfl;have r7:(cQ (s10 m)).2.2.2.2.2.2.1=(s10 m).2.1:=rfl;have r8:(cQ (s10 m)).2.2.2.2.2.2.2=(s10 m).2.2.1:=rfl;have nb:∀b,S0.n≤b→¬bE C b:=λb hb q=>by have q:b=C.bp:=q;omega
 have n0:=hx.1;have hlo:∀b,ak v b→S0.n≤b:=λb hb=>L.FZ hb;have hlt:∀b,ak v b→b<S.n:=λb hb=>L.lt hM hb;have aqb:∀{S1 S2:LS}{H1:AH},Mem H1 S1→aX mG (λb=>S0.n≤b) S1 v out→aO (bE C) S1 S2→aX mG (λb=>S0.n≤b) S2 v out:=λm1 o g=>o.keep m1 g.1 λb h1 h2=>g.2 b h2 (nb b h1);show vB (cQ (s10 m)) K (Cg (cQ (s10 m)) K) (qR (cQ (s10 m)) K) (Ci (cQ (s10 m)) K X) (Cj (cQ (s10 m)) K) (.ptr C.bp 0) (d:Int) v H;unfold vB;rw[r3,r4,r5,r6,r8];refine zZ hM hs λH1 S1 m1 c1 d1=>?_;rw[aj,aN];have L1:=aqb hM L c1.no;have x1:=hx.trans (c1.no (X:=bE C));cases he:F8 C.T r with
 |true=>
  simp only[Bool.not_true,aI];show vA (cQ (s10 m)) K v H1;unfold vA;obtain⟨cl,g1,g2⟩:=(L1.toR (lo:=S0.n) λb hb=>hb).done m1;cases r with
  |aS=>exact absurd rfl hs.no
  |err c i=>exact hP.2 H1 S1 v out m1 x1 (rj d1 rfl) ⟨cl,g1,g2⟩ wJ
  |ok y i=>
   have he:fe C.T i=true:=he;have hP:aW C (bE C) fY K S0 (cE C.T k out i d):=hP;cases k with
   |zero=>exact absurd (show cE C.T 0 out i d=.aS by simp only[cE]) hP.1
   |succ k=>
    simp only[cE]at hP;rw[if_pos he]at hP;exact hP.2 H1 S1 v out m1 x1 (IN d1) ⟨cl,g1,g2⟩ Su
 |false=>
  simp only[Bool.not_false,aH];cases r with
  |aS=>exact absurd rfl hs.no
  |err c i=>cases he
  |ok y i=>
  have he:fe C.T i=false:=he;have hP:aW C (bE C) fY K S0 (cE C.T k out i d):=hP;cases k with
  |zero=>exact absurd (show cE C.T 0 out i d=.aS by simp only[cE]) hP.1
  |succ k=>
  simp only[cE]at hP;rw[if_neg (by rw[he];simp)]at hP;refine lf m1 d1 ?_;rw[aj,aK];have rF:(an.ok y i).ix=i:=rfl;rw[rF];refine eT (dp m1 aou λH2 m2=>?_);refine km m2 (c:=[.int 0 ((0:Nat):Int),.int 0 (aB C.T i:Int),.ab,.ab,.ab]) (LS.av S1 (.ce z5 0)) rfl rfl (λa h=>?_) λH3 m3=>?_
  ·simp only[List.mem_cons,List.not_mem_nil,or_false]at h;rcases h with rfl|rfl|rfl|rfl|rfl<;>rfl
  have m3:Mem H3 ((S1.push (.ce z5 0)).set S1.n (.ce [.int 0 ((0:Nat):Int),.int 0 (aB C.T i:Int),.ab,.ab,.ab] 0)):=m3;have c3:aO bU S1 ((S1.push (.ce z5 0)).set S1.n (.ce [.int 0 ((0:Nat):Int),.int 0 (aB C.T i:Int),.ab,.ab,.ab] 0)):=((aO.refl _ _).push _).set (.inr (Nat.le_refl _)) _;have d3:=d1.im m1 c3;have o3:LS.ob _ S1.n=_:=LS.ay (S1.push (.ce z5 0)) S1.n (.ce [.int 0 ((0:Nat):Int),.int 0 (aB C.T i:Int),.ab,.ab,.ab] 0);have x3:=x1.trans (c3.no (X:=bE C));have n3:((S1.push (.ce z5 0)).set S1.n (.ce [.int 0 ((0:Nat):Int),.int 0 (aB C.T i:Int),.ab,.ab,.ab] 0)).n=S1.n+1:=rfl;have L3:aX mG (λb=>S0.n≤b∧b<S1.n) ((S1.push (.ce z5 0)).set S1.n (.ce [.int 0 ((0:Nat):Int),.int 0 (aB C.T i:Int),.ab,.ab,.ab] 0)) v out:=(L1.imp m1 λb hb hlt=>(⟨hb,hlt⟩:S0.n≤b∧b<S1.n)).keep m1 c3.1 λb _ h2=>c3.2 b h2 λq=>q;revert m3 c3 d3 o3 x3 n3 L3;generalize (S1.push (.ce z5 0)).set S1.n (.ce [.int 0 ((0:Nat):Int),.int 0 (aB C.T i:Int),.ab,.ab,.ab] 0)=S3;intro m3 c3 d3 o3 x3 n3 L3;have n1:=x1.1;have hlt1:∀b,ak v b→b<S1.n:=λb hb=>L1.lt m1 hb;refine dC (s:=[114,101,116,117,114,110]) (bg (by decide)) m3 d3 (λy j er hi H4 S4 m4 c4 d4=>?_) λh1 H4 S4 m4 c4 d4=>?_
  ·cases er;simp only[aj,aN,aH];have o4:=c4.ob m3 o3 (nb _ n1);have L4:aX mG (λb=>S0.n≤b∧b<S1.n) S4 v out:=L3.keep m3 c4.1 λb h1 h2=>c4.2 b h2 (nb b h1.1);rw[aM,Nat.zero_add];refine bJ (v:=.int 0 ((10:Nat):Int)) m4 o4 (by omega) (by show 0<5;omega) rfl λH5 m5=>?_;have m5:Mem H5 (S4.set S1.n (.ce [.int 0 ((10:Nat):Int),.int 0 (aB C.T i:Int),.ab,.ab,.ab] 0)):=m5;have o5:LS.ob _ S1.n=_:=LS.ay S4 S1.n (.ce [.int 0 ((10:Nat):Int),.int 0 (aB C.T i:Int),.ab,.ab,.ab] 0);have d5:=d4.setB (b:=S1.n) (by omega) (λx hx=>by have:=de x hx;omega) (.ce [.int 0 ((10:Nat):Int),.int 0 (aB C.T i:Int),.ab,.ab,.ab] 0);have x5:aO (bE C) S0 (S4.set S1.n (.ce [.int 0 ((10:Nat):Int),.int 0 (aB C.T i:Int),.ab,.ab,.ab] 0)):=(x3.trans c4).set (.inr n1) _;have L5:aX mG (λb=>S0.n≤b∧b<S1.n) (S4.set S1.n (.ce [.int 0 ((10:Nat):Int),.int 0 (aB C.T i:Int),.ab,.ab,.ab] 0)) v out:=L4.keep m4 (Nat.le_refl _) λb h1 _=>LS.aq _ _ (by have:=h1.2;omega);have n34:=c4.1;have n5:(S4.set S1.n (.ce [.int 0 ((10:Nat):Int),.int 0 (aB C.T i:Int),.ab,.ab,.ab] 0)).n=S4.n:=rfl;revert m5 o5 d5 x5 L5 n5;generalize S4.set S1.n (.ce [.int 0 ((10:Nat):Int),.int 0 (aB C.T i:Int),.ab,.ab,.ab] 0)=S5;intro m5 o5 d5 x5 L5 n5;cases k with
   |zero=>exact absurd (show(fK C.T 0 i d).bind _=.aS by simp only[fK];rfl) hP.1
   |succ k=>
   rw[af4 hi]at hP;cases k with
   |zero=>exact absurd (show(ij C.T 0 (aB C.T i) (i+1) d).bind _=.aS by simp only[ij];rfl) hP.1
   |succ k=>
   simp only[ij]at hP;have after:∀(l:List al) (j:Nat),(if (aA.mk 10 (aB C.T i) [] l []).kind=10∧fe C.T (dA C.T [59] j)=false then .err 14 (dA C.T [59] j) else cE C.T (k+1+1) (out++[.mk 10 (aB C.T i) [] l []]) (dA C.T [59] j) d)=if fe C.T (dA C.T [59] j)=false then .err 14 (dA C.T [59] j) else .ok (out++[.mk 10 (aB C.T i) [] l []]) (dA C.T [59] j):=by
    intro l j;cases hh:fe C.T (dA C.T [59] j)with
    |false=>rw[if_pos ⟨rfl,rfl⟩,if_pos rfl]
    |true=>
     rw[if_neg (λq=>by cases q.2),if_neg (λq=>by cases q)];simp only[cE];rw[if_pos hh]
   have wk:∀{S:LS},aX mG (λb=>S0.n≤b∧b<S1.n) S v out→aX mG (λb=>S0.n≤b) S v out:=λh=>aX.wk h λb hb=>hb.1;have bare:∀{H6:AH}{S6:LS},(isA C.T [59] (i+1)=true∨fe C.T (i+1)=true)→Mem H6 S6→bj C S6 (.ok () (i+1):an Unit)→aO bU S5 S6→qR (cQ (s10 m)) K (.ptr C.bp 0) v (.ptr S1.n 0) H6:=by
    intro H6 S6 hc m6 d6 c6;rw[if_pos hc]at hP;have hP:aW C (bE C) fY K S0 (if (aA.mk 10 (aB C.T i) [] [] []).kind=10∧fe C.T (dA C.T [59] (i+1))=false then .err 14 (dA C.T [59] (i+1)) else cE C.T (k+1+1) (out++[.mk 10 (aB C.T i) [] [] []]) (dA C.T [59] (i+1)) d):=hP;rw[after]at hP;exact ahJ (s:=.mk 10 (aB C.T i) [] [] []) (Q:=λ_=>False) (r:=(.ok () (i+1):an Unit)) hbp de (by omega) m6 d6 (x5.trans c6.no) (c6.ob m5 o5 λq=>q) n1 (iA.plain (cl:=λ_=>[]) kl.nil (eu.nil _ _ _ _) λi e h=>by simp at h) (wk (L5.keep m5 c6.1 λb _ h2=>c6.2 b h2 λq=>q)) (λb hb=>hb.elim) hP
   refine zZ m5 d5 λH6 S6 m6 c6 d6=>?_;rw[aj,aN];have hde:F8 C.T (.ok () (i+1):an Unit)=fe C.T (i+1):=rfl;rw[hde];cases hE:fe C.T (i+1)with
   |true=>
    simp only[Bool.not_true,aI];exact bare (.inr hE) m6 d6 c6
   |false=>
   simp only[Bool.not_false,aH];refine rX (s:=[59]) (bg (by decide)) m6 d6 λH7 S7 m7 c7 d7=>?_;rw[aj,aN];have hdi:pb C.T [59] (.ok () (i+1):an Unit)=isA C.T [59] (i+1):=rfl;rw[hdi];cases hS:isA C.T [59] (i+1)with
   |true=>
    simp only[Bool.not_true,aI];exact bare (.inl hS) m7 d7 (c6.trans c7)
   |false=>
   simp only[Bool.not_false,aH];rw[if_neg (by rintro(q|q);rw[hS]at q;cases q;rw[hE]at q;cases q),bK]at hP;have c57:=c6.trans c7;have L7:aX mG (λb=>S0.n≤b∧b<S1.n) S7 v out:=L5.keep m5 c57.1 λb _ h2=>c57.2 b h2 λq=>q;have o7:=c57.ob m5 o5 λq=>q;have n57:=c57.1;show Cf (cQ (s10 m)) K (qR (cQ (s10 m)) K) (.ptr C.bp 0) (d:Int) v (.ptr S1.n 0) H7;unfold Cf;rw[r7];refine O.exp k (by omega) hd m7 d7 (aW.call (eO:=dS) (show aW C (bE C) fY K S0 (((an.ok () (i+1)).bind λ_ i=>bW C.T k i d).bind _)from hP) λe H8 S8 w m8 c8 d8 ⟨c,hw,hR⟩ Gi=>?_);subst hw;have L8:aX mG (λb=>S0.n≤b∧b<S1.n) S8 v out:=L7.keep m7 c8.1 λb h1 h2=>c8.2 b h2 (nb b h1.1);have o8:=c8.ob m7 o7 (nb _ n1);have n78:=c8.1;rw[iN];refine gq hR.len ?_;rw[G7 hR.len rfl];refine dj m8 (by rw[hR.len]) hR.ones λH9 m9=>?_;have c9:aO bU S8 (S8.push (.ce c 0)):=(aO.refl _ _).push _;have o9:=c9.ob m8 o8 λq=>q;rw[aM,Nat.zero_add];refine bJ (v:=.slice S8.n 0 1 1 7 true) m9 o9 (by omega) (by show 3<5;omega) rfl λHa ma=>?_;have ma:Mem Ha ((S8.push (.ce c 0)).set S1.n (.ce [.int 0 ((10:Nat):Int),.int 0 (aB C.T i:Int),.ab,.slice S8.n 0 1 1 7 true,.ab] 0)):=ma;have xa:aO (bE C) S0 ((S8.push (.ce c 0)).set S1.n (.ce [.int 0 ((10:Nat):Int),.int 0 (aB C.T i:Int),.ab,.slice S8.n 0 1 1 7 true,.ab] 0)):=(((x5.trans c57.no).trans c8).trans c9.no).set (.inr n1) _;have hRS:iA ((S8.push (.ce c 0)).set S1.n (.ce [.int 0 ((10:Nat):Int),.int 0 (aB C.T i:Int),.ab,.slice S8.n 0 1 1 7 true,.ab] 0)) (λb=>S7.n≤b∧b<S8.n+1) [.int 0 ((10:Nat):Int),.int 0 (aB C.T i:Int),.ab,.slice S8.n 0 1 1 7 true,.ab] (.mk 10 (aB C.T i) [] [e] []):=
    iA.plain (l:=[e]) (cl:=λ_=>c) kl.nil (eu.single (b:=S8.n) (m:=0) ⟨n78,by omega⟩ ((LS.aq _ _ (by omega)).trans (LS.av _ _)) hR.len) λix x h=>by
     cases ix with
     |zero=>
      have e1:e=x:=by simpa using h
      subst e1;exact hR.go (λb hb=>by rw[LS.aq _ _ (by have:=hb.1;omega)];exact LS.bS _ _ hb.2) λb hb=>⟨hb.1,by have:=hb.2;omega⟩
     |succ ix=>simp at h
   refine ahJ (s:=.mk 10 (aB C.T i) [] [e] []) (Q:=λb=>S7.n≤b∧b<S8.n+1) hbp de (by omega) ma ((d8.im m8 c9).setB (b:=S1.n) (by omega) (λx hx=>by have:=de x hx;omega) _) xa (LS.ay _ _ _) n1 hRS (wk ((L8.keep m8 c9.1 λb _ h2=>c9.2 b h2 λq=>q).keep m9 (Nat.le_refl _) λb h1 _=>LS.aq _ _ (by have:=h1.2;omega))) (λb hb=>⟨by have:=hb.1;omega,hb.2,λq=>by have:=hlt1 b q;have:=hb.1;omega⟩) ?_;have sp:∀r':an al,(r'.bind λ_ j=>(an.ok (aA.mk 10 (aB C.T i) [] [e] []) j).bind λs j=>if s.kind=10∧fe C.T (dA C.T [59] j)=false then .err 14 (dA C.T [59] j) else cE C.T (k+1+1) (out++[s]) (dA C.T [59] j) d)=r'.bind λ_ j=>if fe C.T (dA C.T [59] j)=false then .err 14 (dA C.T [59] j) else .ok (out++[.mk 10 (aB C.T i) [] [e] []]) (dA C.T [59] j):=by
    intro r';congr 1;funext _ j;exact after [e] j
   rw[←sp];exact Gi
  ·have h1:isA C.T [114,101,116,117,114,110] i=false:=h1;simp only[aj,aN,aI];have sp:((fK C.T k i d).bind λs j=>if s.kind=10∧fe C.T (dA C.T [59] j)=false then .err 14 (dA C.T [59] j) else cE C.T k (out++[s]) (dA C.T [59] j) d)=(Aa C.T k i d).bind λs j=>(an.ok () (dA C.T [59] j)).bind λ_ j=>cE C.T k (out++[s]) j d:=by
    unfold Aa;cases hp:fK C.T k i d with
    |aS=>rfl
    |err c i=>rfl
    |ok s j=>
     have hk10:=aoN h1 hp;show(if s.kind=10∧fe C.T (dA C.T [59] j)=false then .err 14 (dA C.T [59] j) else cE C.T k (out++[s]) (dA C.T [59] j) d)=(if s.kind=3∧isA C.T [61] j=true then .err 14 j else .ok s j:an aA).bind _;rw[if_neg (λq=>hk10 q.1)];by_cases g:s.kind=3∧isA C.T [61] j=true
     ·rw[if_pos g];have eo:dA C.T [59] j=j:=by unfold dA;rw[iu g.2 (by decide)];rfl
      rw[eo];rw[hp]at hP;have hP:aW C (bE C) fY K S0 (if s.kind=10∧fe C.T (dA C.T [59] j)=false then .err 14 (dA C.T [59] j) else cE C.T k (out++[s]) (dA C.T [59] j) d):=hP;rw[if_neg (λq=>hk10 q.1),eo]at hP;show cE C.T k (out++[s]) j d=.err 14 j;cases k with
      |zero=>exact absurd (show cE C.T 0 (out++[s]) j d=.aS by simp only[cE]) hP.1
      |succ k=>
       simp only[cE]at hP ⊢;rw[if_neg (by rw[ajJ g.2];simp)]at hP ⊢;cases k with
       |zero=>exact absurd (show(fK C.T 0 j d).bind _=.aS by simp only[fK];rfl) hP.1
       |succ k=>rw[ajI g.2];rfl
     ·rw[if_neg g];rfl
   rw[sp]at hP;have o4:=c4.ob m3 o3 (nb _ n1);have L4:aX mG (λb=>S0.n≤b∧b<S1.n) S4 v out:=L3.keep m3 c4.1 λb h1 h2=>c4.2 b h2 (nb b h1.1);have n34:=c4.1;refine O.stat k (by omega) hd m4 d4 h1 o4 (by omega) (λx hx=>by have:=de x hx;omega) (aW.call (eO:=iK S1.n) hP λs H5 S5 w m5 c5 d5 ⟨_,c,o5,hR⟩ uA=>?_);have L5:aX mG (λb=>S0.n≤b∧b<S1.n) S5 v out:=L4.keep m4 c5.1 λb h1 h2=>c5.2 b h2 λq=>by
    rcases q with q|q
    ·have:=h1.1;omega
    ·have:=h1.2;omega
   have x5:aO (bE C) S0 S5:=(x3.trans c4).rW c5 λb hb=>by
    rcases hb with q|q
    ·exact .inl q
    ·exact .inr (by omega)
   have n45:=c5.1;refine gH m5 o5 hR.len ?_;rw[iN];refine gq hR.len ?_;rw[aoo hR.len rfl];have L5w:aX mG (λb=>S0.n≤b) S5 v out:=aX.wk L5 λb hb=>hb.1;refine L5w.push (R:=mG) (bytes:=88) m5 hR (λb hb=>⟨by show S0.n≤b;have:=hb.1;omega,hb.2,λq=>by have:=hlt1 b q;have:=hb.1;omega⟩) (λb hb=>by show S0.n≤b;omega) (by omega) λH6 S6 v6 m6 L6 n6 k6 b6 asy=>?_;have c6:aO (λb=>ak v b) S5 S6:=⟨n6,λb hb hx=>k6 b hb hx⟩
   have d6:=d5.keep m5 c6 (λq=>by have:=hlo _ q;omega) λb hb q=>by have:=hlo _ q;have:=de b hb;omega
   have x6:aO (bE C) S0 S6:=x5.rW c6 λb hb=>.inr (hlo b hb);have asz:∀b,ak v6 b→S0.n≤b:=λb hb=>L6.FZ hb;show Ch (cQ (s10 m)) K X (.ptr C.bp 0) (d:Int) v6 H6;unfold Ch;rw[r5];have hX:=hrec k rfl;refine dC (s:=[59]) (bg (by decide)) m6 d6 (λy j er hi H7 S7 m7 c7 d7=>?_) λhi H7 S7 m7 c7 d7=>?_
   ·rw[aj,aN];rw[er]at uA;have uA:aW C (bE C) fY K S0 (cE C.T k (out++[s]) (dA C.T [59] j) d):=uA;have eo:dA C.T [59] j=j+1:=by unfold dA;rw[hi];rfl
    rw[eo]at uA;exact hX v6 (out++[s]) H7 S7 (.ok () (j+1):an Unit) (by simp;omega) m7 d7 (x6.trans c7) (L6.keep m6 c7.1 λb h1 h2=>c7.2 b h2 (nb b h1)) uA
   ·rw[aj,aN];refine hX v6 (out++[s]) H7 S7 _ (by simp;omega) m7 d7 (x6.trans c7) (L6.keep m6 c7.1 λb h1 h2=>c7.2 b h2 (nb b h1)) ?_;have sp2:∀r':an aA,pb C.T [59] r'=false→(r'.bind λ_ j=>(an.ok () (dA C.T [59] j)).bind λ_ j=>cE C.T k (out++[s]) j d)=r'.bind λ_ i=>cE C.T k (out++[s]) i d:=by
     intro r' h;cases r' with
     |aS=>rfl
     |err c i=>rfl
     |ok y j=>
      have h3:isA C.T [59] j=false:=h;have eo:dA C.T [59] j=j:=by unfold dA;rw[h3];rfl
      show cE C.T k (out++[s]) (dA C.T [59] j) d=_;rw[eo];rfl
    rw[←sp2 _ hi];exact uA
end
end
section
variable {H:AH}{S:LS}{K:KF}{C:Ctx}{i d:Nat}
theorem UT{m:Nat}{S0:LS}(hm:m≤1000000)(O:gr C m)(hd:d≤200)(hbp:C.bp<S0.n)(de:∀b,ak C.vT b→b<S0.n):∀(q k:Nat),k<q→2*k+4≤m+1→BkX C S0 K k d (sI (cQ (s10 m)) K q)
 |0,k,h,_=>by omega
 |q+1,k,h,hk=>by
  show BkX C S0 K k d (Ck (cQ (s10 m)) K (sI (cQ (s10 m)) K q));exact aqa hm O hd hbp de hk λk' e=>UT hm O hd hbp de q k' (by omega) (by omega)
theorem aoO{m q c j:Nat}{S0:LS}{γ:Type}(hM:Mem H S)(hs:bj C S (an.err c j:an γ))(hx:aO (bE C) S0 S)(hP:aW C (bE C) fY K S0 (.err c j)):sI (cQ (s10 m)) K (q+1) (.ptr C.bp 0) (d:Int) .ab H:=by
 have r3:(cQ (s10 m)).2.2.1=f38:=rfl;show vB (cQ (s10 m)) K (Cg (cQ (s10 m)) K) (qR (cQ (s10 m)) K) (Ci (cQ (s10 m)) K (sI (cQ (s10 m)) K q)) (Cj (cQ (s10 m)) K) (.ptr C.bp 0) (d:Int) .ab H;unfold vB;rw[r3];refine zZ hM hs λH1 S1 m1 c1 d1=>?_;rw[aj,aN];have e:F8 C.T (an.err c j:an γ)=true:=rfl;rw[e];simp only[Bool.not_true,aI];show vA (cQ (s10 m)) K .ab H1;unfold vA;exact hP.2 H1 S1 .ab [] m1 (hx.trans c1.no) (rj d1 rfl) ⟨λ_=>[],.inl ⟨rfl,rfl⟩,λi e h=>by simp at h⟩ wJ
theorem x27{m:Nat}(hm:m≤1000000)(O:gr C m):∀k,2*k+4≤m+1→∀{K:KF}{H:AH}{S:LS}{d:Nat}{γ:Type}{r:an γ},d≤200→Mem H S→bj C S r→aW C (bE C) fY K S (r.bind λ_ i=>cD C.T k i d)→(s10 (m+1)).1 (.ptr C.bp 0) (d:Int) H K:=by
 intro k hk K H S d γ r hd hM hs hP;have r2:(cQ (s10 m)).2.1=f37:=rfl;have e:(s10 (m+1)).1=Cl (cQ (s10 m)):=by rw[Ab]
 rw[e];unfold Cl UC J7;rw[r2];have gu:G.NL=1000000:=rfl;generalize G.NL=eW at gu ⊢;rw[dh,dX];refine w0 (by omega) (by omega) ?_;have hbp:=hs.nu hM;have de:∀b,ak C.vT b→b<S.n:=λb hb=>hs.tk.lt hM hb;have sp:(r.bind λ_ i=>cD C.T k i d)=(r.bind λ_ i=>dD (100<d+1) i).bind λ_ i=>if k=0 then .aS else cE C.T (k-1) [] i (d+1):=by
  rw[bK];cases k with
  |zero=>
   cases r with
   |ok a i=>exact absurd (show cD C.T 0 i d=.aS by simp only[cD]) hP.1
   |err c i=>rfl
   |aS=>rfl
  |succ k=>
   congr 1;funext a i;simp only[cD,dD,Nat.add_one_sub_one,if_neg (Nat.succ_ne_zero k)];split<;>rfl
 rw[sp]at hP;refine zY hM hs (aW.call (eO:=ny) hP λ_ H2 S2 w m2 c2 d2 _ hP2=>?_);cases hr:r.bind λ_ i=>dD (100<d+1) i with
 |aS=>rw[hr]at hP2;exact absurd rfl hP2.1
 |err c i=>
  rw[hr]at hP2 d2;obtain⟨q,rfl⟩:∃q,eW=q+1:=⟨eW-1,by omega⟩
  exact aoO (d:=d+1) m2 d2 c2 hP2
 |ok x i=>
  rw[hr]at hP2 d2;have hP3:aW C (bE C) fY K S (if k=0 then .aS else cE C.T (k-1) [] i (d+1)):=hP2;by_cases k0:k=0
  ·rw[if_pos k0]at hP3;exact absurd rfl hP3.1
  ·rw[if_neg k0]at hP3;have afY:d+1≤200:=by
    cases r with
    |ok a j=>
     have hr:dD (100<d+1) j=.ok x i:=hr;unfold dD at hr;split at hr
     ·cases hr
     ·omega
    |err c j=>cases hr
    |aS=>cases hr
   exact UT (d:=d+1) hm O afY hbp de eW (k-1) (by omega) (by omega) .ab [] H2 S2 (an.ok x i) (by simp;omega) m2 d2 c2 (aX.nil _ _ _) hP3
theorem ars:gr C 0 where
 block k hk:=absurd hk (by omega)
 exp k hk:=absurd hk (by omega)
 stat k hk:=absurd hk (by omega)
 lv0 k hk:=absurd hk (by omega)
 lv1 k hk:=absurd hk (by omega)
 Ga k hk:=absurd hk (by omega)
 Gb k hk:=absurd hk (by omega)
 lv4 k hk:=absurd hk (by omega)
 lv5 k hk:=absurd hk (by omega)
 Ar k hk:=absurd hk (by omega)
 body k hk:=absurd hk (by omega)
 behind k hk:=absurd hk (by omega)
 join k hk:=absurd hk (by omega)
 unary k hk:=absurd hk (by omega)
 post k hk:=absurd hk (by omega)
 table k hk:=absurd hk (by omega)
theorem art{m:Nat}(hm:m≤1000000)(O:gr C m):gr C (m+1) where
 block:=x27 hm O
 exp k hk:=x70 (by omega) O k hk
 stat:=x71 hm O
 lv0:=aox (by omega) O
 lv1:=aoy (by omega) O
 Ga:=aoz (by omega) O
 Gb k hk:=PI (n:=3) (.inl rfl) (λ_=>O.join k (by omega)) (λh=>by cases h)
 lv4:=aoA (by omega) O
 lv5:=aoB (by omega) O
 Ar k hk:=PI (n:=6) (.inr rfl) (λh=>by cases h) (λ_=>O.unary k (by omega))
 body:=x105 (by omega) O
 behind:=x107 (by omega) O
 join:=arh O
 unary:=ari O
 post:=x167 (by omega) O
 table:=arj (by omega) O
theorem okX:∀m:Nat,m≤1000001→gr C m
 |0,_=>ars
 |m+1,h=>art (by omega) (okX m (by omega))
end
section
variable {H:AH}{S:LS}{K:KF}{C:Ctx}{i d:Nat}
theorem NP{R:pA}{S0:LS}{r:an (List aA)}{v:AV}{b:List aA}{r0:List aA ⊕ Nat×Nat}(hM:Mem H S)(hd:bj C S r)(hv:∀b' j,r=.ok b' j→b=b')(hr:r0=(match r with|.ok b _=>.inl b|.err c i=>.inr (c,aB C.T i)|.aS=>.inl []))(hx:Ext S0 S)(hR:fY S (jd S0.n S.n) v b)(hP:ScP K S0 r0):RJ R K (.ptr C.bp 0) v H:=by
 show Iz R K (.ptr C.bp 0) v H;unfold Iz;have e0:Int.ofNat 0=((0:Nat):Int):=rfl;refine iq hM hd ?_;rw[aZ,e0];subst hr;cases r with
 |aS=>exact absurd rfl hd.no
 |ok a i=>
  rw[decide_eq_true (by show((0:Nat):Int)=_;rfl)];simp only[Bool.not_true,aI];have hP:∀H' S' v,Mem H' S'→Ext S0 S'→fY S' (jd S0.n S'.n) v a→K (.ret (.aP [v,.int 0 0,.int 0 0])) H':=hP;rw[hv a i rfl]at hR;exact hP H S v hM hx hR
 |err c i=>
  have hc:=(hd.cd c i rfl).1;rw[decide_eq_false (by show ¬((c:Nat):Int)=((0:Nat):Int);omega)];simp only[Bool.not_false,aH];refine iq hM hd ?_;simp only[bV,aM,Nat.zero_add];refine az hM hd.ob (v:=.int 0 (aB C.T i:Int)) rfl ?_;rw[aK];have hP:∀H' S',Mem H' S'→Ext S0 S'→K (.ret (.aP [.ab,.int 0 (c:Int),.int 0 (aB C.T i:Int)])) H':=hP;exact hP H S hM hx
theorem aru{R:pA}{F:AV→AH→KF→Prop}(q1:R.1=F)(q2:R.2.1=f17)(q3:R.2.2=f18){s:List Nat}{r:List Tok ⊕ Nat}(h8:B8 s)(hs:s.length≤5000)(hr:jl s 0 r)(hM:Mem H S)(hF:∀{K:KF},LxQ K S r→F (ai s) H K)(hP:ScP K S (uR r)):RL R (ai s) H K:=by
 unfold RL agS RK;rw[q1];refine hF ?_;have e0:Int.ofNat 0=((0:Nat):Int):=rfl;cases r with
 |inr e=>
  intro H4 S4 m4 x4;simp only[aj,ky,me,mf,aK];rw[aZ,decide_eq_false (by simp)];simp only[Bool.not_false,aH];exact hP H4 S4 m4 x4
 |inl ts=>
  intro H4 S4 v m4 x4 f4 b4;have n4:=x4.n;simp only[aj,ky,me,mf,aK];rw[aZ,e0,decide_eq_true (show(0:Int)=((0:Nat):Int)from rfl)];simp only[Bool.not_true,aI];refine eY f4.one' ?_;refine dp m4 (λa ha=>?_) λH5 m5=>?_
  ·simp only[List.mem_cons,List.not_mem_nil,or_false]at ha;rcases ha with rfl|rfl|rfl|rfl
   ·exact f4.one'
   all_goals rfl
  have c5:aO bU S4 (S4.push (.ce [v,.int 0 ((0:Nat):Int),.int 0 ((0:Nat):Int),.int 0 ((0:Nat):Int)] 0)):=(aO.refl _ _).push _;have o5:(S4.push (.ce [v,.int 0 ((0:Nat):Int),.int 0 ((0:Nat):Int),.int 0 ((0:Nat):Int)] 0)).ob S4.n=_:=LS.av _ _;have n5:(S4.push (.ce [v,.int 0 ((0:Nat):Int),.int 0 ((0:Nat):Int),.int 0 ((0:Nat):Int)] 0)).n=S4.n+1:=rfl;have m5:Mem H5 (S4.push (.ce [v,.int 0 ((0:Nat):Int),.int 0 ((0:Nat):Int),.int 0 ((0:Nat):Int)] 0)):=m5;revert m5 c5 o5 n5;generalize S4.push (.ce [v,.int 0 ((0:Nat):Int),.int 0 ((0:Nat):Int),.int 0 ((0:Nat):Int)] 0)=S5;intro c5 o5 n5 m5;have hlen:=hr.few ts rfl;have arv:∀b,ak v b→b<S4.n:=λb hb=>f4.lt m4 hb;obtain⟨C,hC⟩:∃C:Ctx,C=⟨ts,S4.n,v,.iface 57 (.agg []),hr.zV,hr.b8 h8 ts rfl,by omega,λq=>by have:=arv _ q;omega⟩:=⟨_,rfl⟩
  have cT:C.T=ts:=by rw[hC]
  have cb:C.bp=S4.n:=by rw[hC]
  have cv:C.vT=v:=by rw[hC]
  clear hC;have d5:bj C S5 (an.ok () 0:an Unit):=⟨by rw[cb,cv];exact o5,by rw[cT,cv];exact f4.keep m4 λb _ hb=>c5.2 b hb λq=>q,by rw[cT];exact hr.zV.1,λq=>(by cases q),λc i q=>(by cases q)⟩
  have e27:f17=(s10 G.NL).1:=by unfold f17;rfl
  rw[q2,e27];clear e27;have gu:G.NL=1000000:=rfl;generalize G.NL=eW at gu ⊢;rw[←cb];have x5:Ext S S5:=x4.trans c5.ext;have hsc:uR (.inl ts)=(match jx ts with|.ok b _=>.inl b|.err c i=>.inr (c,aB ts i)|.aS=>.inl []):=rfl;rw[hsc]at hP;have hne:=FW hr.zV;have hlt:=FX hr.zV;unfold jx at hP hne;refine(okX (C:=C) eW (by omega)).block (64*ts.length+64) (by omega) (by omega) m5 d5 ?_;show aW C (bE C) fY _ S5 (cD C.T (64*ts.length+64) 0 0);rw[cT];generalize hb:cD ts (64*ts.length+64) 0 0=rb at hP hne hlt;refine⟨λq=>hne (by rw[q];rfl),λH6 S6 w b m6 c6 d6 rv6 ha=>?_⟩;show cR K (.ret w) H6 _;rw[aj];have nS:=x4.n;have x6:Ext S S6:=⟨Nat.le_trans x5.n c6.1,λb hb=>(c6.2 b (Nat.lt_of_lt_of_le hb x5.n) λq=>by
   have q:b=C.bp:=q;rw[cb]at q;omega).trans (x5.ob b hb)⟩
  have R6:fY S6 (jd S.n S6.n) w b:=rv6.go (λ_ _=>rfl) λb hb=>⟨Nat.le_trans x5.n hb.1,hb.2⟩
  have asA:=d6.nu m6;refine iq m6 d6 ?_;rw[aZ];cases rb with
  |aS=>exact absurd rfl d6.no
  |err c i=>
   have hc:=(d6.cd c i rfl).1;rw[decide_eq_false (by show ¬((c:Nat):Int)=((0:Nat):Int);omega),aI];exact NP (r:=(an.err c i:an (List aA))) m6 d6 (λb' j q=>by cases q) (by rw[cT];rfl) x6 R6 hP
  |ok b' j=>
   have hbb:b=b':=ha b' j rfl;rw[decide_eq_true (by show((0:Nat):Int)=((0:Nat):Int);rfl),aH];refine zW m6 d6 (j:=0) (v:=.int 0 (cC C.T j:Int)) (by omega) rfl ?_;rw[aK,aZ,cT];by_cases hk:cC ts j=0
   ·rw[decide_eq_true (by show((cC ts j:Nat):Int)=((0:Nat):Int);rw[hk])];simp only[Bool.not_true,aI];refine NP (r:=(an.ok b' j:an (List aA))) m6 d6 (λb'' j' q=>by cases q;exact hbb) ?_ x6 R6 hP;show((match (if cC ts j=0 then an.ok b' j else .err 14 j)with|.ok b _=>.inl b|.err c i=>.inr (c,aB ts i)|.aS=>.inl []):List aA ⊕ Nat×Nat)=_;rw[if_pos hk]
   ·rw[decide_eq_false (by show ¬((cC ts j:Nat):Int)=((0:Nat):Int);omega)];simp only[Bool.not_false,aH];have e14:Int.ofNat 14=((14:Nat):Int):=rfl;rw[q3,e14];refine qv (c:=14) (by omega) (by omega) m6 d6 λH7 S7 m7 c7 d7=>?_;rw[aj];have x7:Ext S S7:=⟨Nat.le_trans x6.n c7.1,λb hb=>(c7.2 b (Nat.lt_of_lt_of_le hb x6.n) λq=>by
     have q:b=C.bp:=q;rw[cb]at q;omega).trans (x6.ob b hb)⟩
    have R7:fY S7 (jd S.n S7.n) w b:=rv6.go (λb hb=>c7.2 b hb.2 λq=>by
     have q:b=C.bp:=q;have:=hb.1;rw[cb]at q;omega) λb hb=>⟨Nat.le_trans x5.n hb.1,Nat.lt_of_lt_of_le hb.2 c7.1⟩
    refine NP (r:=(an.err 14 j:an (List aA))) m7 (d7.as rfl rfl rfl (λq=>by cases q) λc i q=>d7.cd c i (by cases q;rfl)) (λb' j q=>by cases q) ?_ x7 R7 hP;show((match (if cC ts j=0 then an.ok b' j else .err 14 j)with|.ok b _=>.inl b|.err c i=>.inr (c,aB ts i)|.aS=>.inl []):List aA ⊕ Nat×Nat)=_;rw[if_neg hk];show(Sum.inr (14,aB ts j):List aA ⊕ Nat×Nat)=.inr (14,aB C.T j);rw[cT]
end
end Go.Proofs.YtcedghechlgecaaDoor
