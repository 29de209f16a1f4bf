/- The document's parser. No condition: lemmas. -/
import Derived.Test.YtcedghechlgecaaGreatDoorQa
set_option maxRecDepth 100000
set_option maxHeartbeats 0
set_option linter.unusedVariables false
set_option linter.unusedSimpArgs false
namespace Go.Proofs.YtcedghechlgecaaGreatDoor
open Go Go.X Go.Proofs.YtcedghechlgecaaGreatDoor.G
section
variable {H:AH}{S:LS}{K:KF}{C:Ctx}{α:Type}{r:ay α}
theorem iL{k:Int→Prop}{H:AH}(hM:Mem H S)(hd:bB C S r)(hk:k (r.cd:Int)):aP (.ptr C.bp 0) (al 2 (.ptr C.bp 0) λv1=>ak v1 H λv2=>cI 0 v2 k):=by
 simp only[cj,aL,Nat.zero_add];refine aw hM hd.ob (v:=.int 0 (r.cd:Int)) rfl ?_;rw[aE];exact hk
theorem By(hd:bB C S r):(r.cd=0∧∃a i,r=.ok a i)∨(r.cd≠0∧∃c i,r=.err c i):=by
 cases r with
 |ok a i=>exact .inl ⟨rfl,a,i,rfl⟩
 |err c i=>exact .inr ⟨(hd.cd c i rfl).1,c,i,rfl⟩
 |bA=>exact absurd rfl hd.no
theorem SQ{j:Nat}{v:AV}{k:AV→Prop}{i:Nat}(hM:Mem H S)(tk:eI S 4 C.vT C.T.length (tcs C.T))(hi:i<C.T.length)(hj:j<4)(hv:(dY C.T i)[j]? = some v)(hk:k v):cK 4 C.vT (.int 0 (i:Int)) λp=>al j p λq=>ak q H k:=by
 refine tk.at_ hi λb cs m hb ho hc=>?_;rw[aL];refine aw hM ho (v:=v) ?_ hk;rw[hc j hj];rw[←rK hi,List.getElem?_take,if_pos hj,List.getElem?_drop]at hv;exact hv
theorem D2{j:Nat}{v:AV}{k:AV→Prop}(hM:Mem H S)(hd:bB C S r)(hj:j<4)(hv:(dY C.T r.ix)[j]? = some v)(hk:k v) :
  aP (.ptr C.bp 0) (al 0 (.ptr C.bp 0) λv1=>ak v1 H λv2=>aP (.ptr C.bp 0) (al 1 (.ptr C.bp 0) λv3=>ak v3 H λv4=>cI 0 v4 λz5=>cK 4 v2 (.int 0 z5) λv6=>al j v6 λv7=>ak v7 H k)):=by
 simp only[cj,aL,Nat.zero_add];refine aw hM hd.ob (v:=C.vT) rfl ?_;refine aw hM hd.ob (v:=.int 0 (r.ix:Int)) rfl ?_;simp only[aE];exact SQ hM hd.tk hd.lt hj hv hk
def D3{β:Type}(c:Nat)(r:ay α):ay β:=r.bind λ_ i=>.err c i
theorem rO{c:Nat}(hc:c≠0)(hc':c≤100)(hM:Mem H S)(hd:bB C S r)(hK:∀H' S',Mem H' S'→an (aK C) S S'→bB C S' (D3 c r:ay Unit)→K (.ret (.aY [])) H'):f28 (.ptr C.bp 0) (c:Int) H K:=by
 show GK Qi K (.ptr C.bp 0) (c:Int) H;unfold GK;refine iL hM hd ?_;have e0:Int.ofNat 0=((0:Nat):Int):=rfl;rw[bq,e0];rcases By hd with⟨e,a,i,rfl⟩|⟨e,c1,i,rfl⟩
 ·rw[e,decide_eq_true rfl,az];refine D2 hM hd (j:=3) (v:=.int 0 (aq C.T i:Int)) (by omega) rfl ?_;simp only[aE,cj,aL,Nat.zero_add];refine aT hM hd.ob (by omega) (by show 2<4;omega) rfl λH1 m1=>?_;refine aT m1 (LS.aj _ _ _) (by omega) (by show 3<4;omega) rfl λH2 m2=>?_;refine hK H2 _ m2 (an.rL (an.rL (an.refl _ _) _) _) ?_;exact⟨LS.aj _ _ _,Je (Je hd.tk _) _,hd.lt,λe=>(by cases e),λc' i' e=>(by cases e;exact⟨hc,hc'⟩)⟩
 ·rw[decide_eq_false (by omega),ax];exact hK H S hM (an.refl _ _) (hd.as rfl rfl rfl (λe=>by cases e) λc i e=>hd.cd c i (by cases e;rfl))
theorem tH{s:List Nat}(h8:B8 s)(hM:Mem H S)(hd:bB C S r)(hK:∀H' S',Mem H' S'→an aV S S'→bB C S' r→K (.ret (.bool (pW C.T s r))) H'):f69 (.ptr C.bp 0) (af s) H K:=by
 show GP GQ K (GO GQ K) (.ptr C.bp 0) (af s) H;unfold GP;simp only[cj,aL,Nat.zero_add];refine aw hM hd.ob (v:=C.vT) rfl ?_;refine aw hM hd.ob (v:=.int 0 (r.ix:Int)) rfl ?_;simp only[aE];refine hd.tk.load hM hd.lt ?_;rw[rK hd.lt];refine hM.bG (bE (bz hM (λa ha=>?_) λH2 m2=>cE (mJ (by rw[m2.n,hM.n];rfl)) ?_))
 ·simp only[List.mem_cons,List.not_mem_nil,or_false]at ha;rcases ha with rfl|rfl|rfl|rfl<;>rfl
 refine gK m2 (LS.ag _ _) (by omega) rfl (by show 0+4≤4;omega) (λa ha=>?_) λH3 m3=>?_
 ·simp only[dY,List.mem_cons,List.not_mem_nil,or_false]at ha;rcases ha with rfl|rfl|rfl|rfl<;>rfl
 have m3:Mem H3 ((S.push (.ce [.int 0 (.ofNat 0),.str 0 0,.int 0 (.ofNat 0),.int 0 (.ofNat 0)] 0)).set S.n (.ce (dY C.T r.ix) 0)):=m3;have c3:an aV S ((S.push (.ce [.int 0 (.ofNat 0),.str 0 0,.int 0 (.ofNat 0),.int 0 (.ofNat 0)] 0)).set S.n (.ce (dY C.T r.ix) 0)):=((an.refl _ _).push _).set (.inr (Nat.le_refl _)) _;have d3:=hd.iK hM c3;have hk:=hK H3 _ m3 c3 d3;have e0:Int.ofNat 0=((0:Nat):Int):=rfl;have e1:Int.ofNat 1=((1:Nat):Int):=rfl;have e5:Int.ofNat 5=((5:Nat):Int):=rfl;unfold GO;refine iL m3 d3 ?_;rw[bq,e0];rcases By hd with⟨e,a,i,rfl⟩|⟨e,c1,i,rfl⟩
 ·rw[e,decide_eq_true rfl,az];have hk:K (.ret (.bool (isA C.T s i))) H3:=hk;have go:(bH C.T i=1∨bH C.T i=5)→ak (.ptr S.n 1) H3 λv11=>pF v11 (af s) λv12=>bf v12 λz13=>K (.ret (.bool z13)) H3:=λhkd=>by
   refine aw m3 (LS.aj _ _ _) (v:=af (dR C.T i)) rfl ?_;refine wc (mz C i) h8 ?_;rw[aB];have e:isA C.T s i=decide (dR C.T i=s):=by
    unfold isA;rcases hkd with g|g<;>rw[g]<;>simp
   rw[e]at hk;exact hk
  simp only[aL,Nat.zero_add];refine aw m3 (LS.aj _ _ _) (v:=.int 0 (bH C.T i:Int)) rfl ?_;simp only[aE,bq];rw[e1,e5];refine bN (λg=>go (.inl (by omega))) (λg=>?_);refine aw m3 (LS.aj _ _ _) (v:=.int 0 (bH C.T i:Int)) rfl ?_;simp only[aE];refine bN (λg5=>go (.inr (by omega))) (λg5=>?_);have e:isA C.T s i=false:=by
   unfold isA;rw[decide_eq_false (by omega),decide_eq_false (by omega)];rfl
  rw[e]at hk;exact hk
 ·rw[decide_eq_false (by omega),ax];exact hk
theorem dT{s:List Nat}(h8:B8 s)(hM:Mem H S)(hd:bB C S r)(ht:∀a i,r=.ok a i→isA C.T s i=true→∀H' S',Mem H' S'→an (aK C) S S'→bB C S' (.ok () (i+1):ay Unit)→K (.ret (.bool true)) H')
  (hf:pW C.T s r=false→∀H' S',Mem H' S'→an (aK C) S S'→bB C S' r→K (.ret (.bool false)) H'):f68 (.ptr C.bp 0) (af s) H K:=by
 have r68:GW=f69:=rfl;show GV GW K (.ptr C.bp 0) (af s) H;unfold GV;rw[r68];refine tH h8 hM hd λH1 S1 m1 c1 d1=>?_;rw[ai,aB];cases hi:pW C.T s r with
 |false=>
  rw[ax];exact hf hi H1 S1 m1 c1.no d1
 |true=>
  obtain⟨a,i,rfl,hb⟩:=Ff hi;rw[az];have hlt:=dk C.ok hb;have hfew:=C.few;simp only[cj,aL,Nat.zero_add];refine aw m1 d1.ob (v:=.int 0 (i:Int)) rfl ?_;simp only[aE,dA,fL];refine w0 (by omega) (by omega) ?_;refine aT m1 d1.ob (by omega) (by show 1<4;omega) rfl λH2 m2=>?_;exact ht a i rfl hb H2 _ m2 (an.rL c1.no _) (d1.ok () hlt)
theorem ll{s:List Nat}(h8:B8 s)(hM:Mem H S)(hd:bB C S r)(hP:bd C (aK C) gY K S (r.bind λ_ i=>aW C.T s i)):f106 (.ptr C.bp 0) (af s) H K:=by
 have ra:ya.1=f28:=rfl;have rb:ya.2=f68:=rfl;show Cu ya K (.ptr C.bp 0) (af s) H;unfold Cu;rw[ra,rb];refine dT h8 hM hd (λa i er hi H1 S1 m1 c1 d1=>?_) λhi H1 S1 m1 c1 d1=>?_
 ·simp only[ai,aB,Bool.not_true,ax];subst er;have e:(ay.ok a i).bind (λ_ i=>aW C.T s i)=.ok () (i+1):=by
   show aW C.T s i=_;unfold aW;rw[hi];rfl
  rw[e]at hP;exact hP.2 H1 S1 _ () m1 c1 d1 rfl λ_ _ e=>by cases e;rfl
 ·simp only[ai,aB,Bool.not_false,az];refine rO (c:=14) (by omega) (by omega) m1 d1 λH2 S2 m2 c2 d2=>?_;rw[ai];have e:r.bind (λ_ i=>aW C.T s i)=D3 14 r:=by
   cases r with
   |ok a i=>
    have hi:isA C.T s i=false:=hi;show aW C.T s i=.err 14 i;unfold aW;rw[hi];rfl
   |err c i=>rfl
   |bA=>rfl
  rw[e]at hP;exact hP.2 H2 S2 _ () m2 (c1.trans c2) d2 rfl λ_ _ _=>rfl
theorem uA(hM:Mem H S)(hd:bB C S r)(hP:bd C (aK C) Nu K S (r.bind λ_ i=>eF C.T i)):f104 (.ptr C.bp 0) H K:=by
 have awk:pP=f28:=rfl;show Cs pP K (ub pP K (xZ pP K)) (.ptr C.bp 0) H;unfold Cs;rw[awk];have e0:Int.ofNat 0=((0:Nat):Int):=rfl;have e2:Int.ofNat 2=((2:Nat):Int):=rfl;have e14:Int.ofNat 14=((14:Nat):Int):=rfl;refine iL hM hd ?_;rw[bq,e0];have dead:∀{γ:Type}{r':ay γ}{H1:AH}{S1:LS},r'.cd≠0→Mem H1 S1→an (aK C) S S1→bB C S1 r'→(r.bind λ_ i=>eF C.T i)=r'.bind (λ_ i=>eF C.T i)→ub pP K (xZ pP K) (.ptr C.bp 0) H1:=by
  intro γ r' H1 S1 hc m1 c1 d1 e;unfold ub;refine iL m1 d1 ?_;rw[bq,e0,decide_eq_false (by omega)];simp only[Bool.not_false,az];rw[e]at hP;rcases By d1 with⟨g,_⟩|⟨g,c2,i,rfl⟩
  ·exact absurd g hc
  ·exact hP.2 H1 S1 _ [] m1 c1 (d1.as rfl rfl rfl (λe=>by cases e) λc i e=>d1.cd c i (by cases e;rfl)) ⟨rfl,B8.nil⟩ λ_ _ e=>by cases e
 rcases By hd with⟨e,a,i,rfl⟩|⟨e,c1,i,rfl⟩
 ·rw[e,decide_eq_true rfl,az];refine D2 hM hd (j:=0) (v:=.int 0 (bH C.T i:Int)) (by omega) rfl ?_;rw[aE,bq,e2];by_cases g:bH C.T i=2
  ·rw[decide_eq_true (by omega)];simp only[Bool.not_true,ax];unfold ub;refine iL hM hd ?_;rw[bq,e0,e,decide_eq_true rfl];simp only[Bool.not_true,ax,cj,aL,Nat.zero_add];have hlt:=iX (i:=i) C.ok (by omega);have hfew:=C.few;refine aw hM hd.ob (v:=.int 0 (i:Int)) rfl ?_;simp only[aE,dA,fL];refine w0 (by omega) (by omega) ?_;refine aT hM hd.ob (by omega) (by show 1<4;omega) rfl λH2 m2=>?_;have d2:=hd.ok () hlt;unfold xZ;simp only[cj,aL,Nat.zero_add];refine aw m2 d2.ob (v:=C.vT) rfl ?_;refine aw m2 d2.ob (v:=.int 0 ((i+1:Nat):Int)) rfl ?_;simp only[aE,zC,fL];refine w0 (by omega) (by omega) ?_;rw[show((i+1:Nat):Int)-1=(i:Int) by omega];have Bz:=SQ (j:=1) (v:=af (dR C.T i)) (k:=λv9=>K (.ret v9) H2) m2 d2.tk hd.lt (by omega) rfl;have e:(ay.ok a i).bind (λ_ i=>eF C.T i)=.ok (dR C.T i) (i+1):=by
    show eF C.T i=_;unfold eF;rw[if_pos g]
   rw[e]at hP;exact Bz (hP.2 H2 _ _ (dR C.T i) m2 (an.rL (an.refl _ _) _) (d2.as rfl rfl rfl (λe=>by cases e) λc i e=>by cases e) ⟨rfl,mz C i⟩ λ_ _ e=>by cases e;rfl)
  ·rw[decide_eq_false (by omega)];simp only[Bool.not_false,az];refine rO (c:=14) (by omega) (by omega) hM hd λH2 S2 m2 c2 d2=>?_;rw[ai];refine dead (r':=(ay.err 14 i:ay Unit)) (by show 14≠0;omega) m2 c2 d2 ?_;show eF C.T i=.err 14 i;unfold eF;rw[if_neg g]
 ·rw[decide_eq_false (by omega),ax];exact dead (r':=(ay.err c1 i:ay α)) (by show c1≠0;exact e) hM (an.refl _ _) hd rfl
def dU(b:Prop)[Decidable b](i:Nat):ay Unit:=if b then .err 8 i else .ok () i
theorem capD{b:Prop}[Decidable b](hM:Mem H S)(hd:bB C S r)(hP:bd C (aK C) gY K S (r.bind λ_ i=>dU b i)){z:Bool}(hz:z=decide b):bI z (f28 (.ptr C.bp 0) ((8:Nat):Int) H λo1 H2=>cR K o1 H2 λv3=>K (.ret (.aY [])) H2) (K (.ret (.aY [])) H):=by
 subst hz;by_cases g:b
 ·rw[decide_eq_true g,az];refine rO (c:=8) (by omega) (by omega) hM hd λH2 S2 m2 c2 d2=>?_;rw[ai];have e:r.bind (λ_ i=>dU b i)=D3 8 r:=by
   unfold D3;simp only[dU,if_pos g]
  rw[e]at hP;exact hP.2 H2 S2 _ () m2 c2 d2 rfl λ_ _ _=>rfl
 ·rw[decide_eq_false g,ax];refine hP.2 H S _ () hM (an.refl _ _) ?_ rfl λ_ _ _=>rfl;have e:r.bind (λ_ i=>dU b i)=r.bind λ_ i=>.ok () i:=by
   simp only[dU,if_neg g]
  rw[e];rcases By hd with⟨e,a,i,rfl⟩|⟨e,c1,i,rfl⟩
  ·exact hd.as rfl rfl rfl (λe=>by cases e) λc i e=>by cases e
  ·exact hd.as rfl rfl rfl (λe=>by cases e) λc i e=>hd.cd c i (by cases e;rfl)
theorem D4{d:Nat}(hM:Mem H S)(hd:bB C S r)(hP:bd C (aK C) gY K S (r.bind λ_ i=>dU (100<d) i)):f65 (.ptr C.bp 0) (d:Int) H K:=by
 have r65:GM=f28:=rfl;show GL GM K (.ptr C.bp 0) (d:Int) H;unfold GL;rw[r65];refine capD hM hd hP ?_;have e:Int.ofNat 100=((100:Nat):Int):=rfl;rw[cn,e,Bool.eq_iff_iff,decide_eq_true_eq,decide_eq_true_eq];omega
theorem MI{n most:Nat}(hM:Mem H S)(hd:bB C S r)(hP:bd C (aK C) gY K S (r.bind λ_ i=>dU (most≤n) i)):f136 (.ptr C.bp 0) (n:Int) (most:Int) H K:=by
 have awl:Cw=f28:=rfl;show Cv Cw K (.ptr C.bp 0) (n:Int) (most:Int) H;unfold Cv;rw[awl];refine capD hM hd hP ?_;rw[cn];by_cases g:most≤n
 ·rw[decide_eq_true g,decide_eq_false (by omega)];rfl
 ·rw[decide_eq_false g,decide_eq_true (by omega)];rfl
theorem lU(hM:Mem H S)(hd:bB C S r)(hK:K (.ret (.int 0 (aq C.T r.ix:Int))) H):f67 (.ptr C.bp 0) H K:=by
 show GU Qk K (.ptr C.bp 0) H;unfold GU;refine D2 hM hd (j:=3) (v:=.int 0 (aq C.T r.ix:Int)) (by omega) rfl ?_;rw[aE];exact hK
def Jk(T:List Tok):ay α→Bool
 |.ok _ i=>eG T i
 |_=>true
theorem D5(hM:Mem H S)(hd:bB C S r)(hK:∀H' S',Mem H' S'→an aV S S'→bB C S' r→K (.ret (.bool (Jk C.T r))) H'):f66 (.ptr C.bp 0) H K:=by
 have r66:GS=f69:=rfl;show GR GS K (.ptr C.bp 0) H;unfold GR;rw[r66];have e0:Int.ofNat 0=((0:Nat):Int):=rfl;refine iL hM hd ?_;rw[bq,e0];rcases By hd with⟨e,a,i,rfl⟩|⟨e,c1,i,rfl⟩
 ·rw[e,decide_eq_true rfl];simp only[Bool.not_true,ax];refine D2 hM hd (j:=0) (v:=.int 0 (bH C.T i:Int)) (by omega) rfl ?_;rw[aE,bq];have hK:∀H' S',Mem H' S'→an aV S S'→bB C S' (ay.ok a i)→K (.ret (.bool (eG C.T i))) H':=hK;unfold eG at hK;by_cases g:bH C.T i=0
  ·rw[decide_eq_true (by omega),az];have hk:=hK H S hM (an.refl _ _) hd;rw[decide_eq_true g,Bool.or_true,Bool.or_true,Bool.or_true,Bool.or_true]at hk;exact hk
  rw[decide_eq_false (by omega),ax];rw[decide_eq_false g,Bool.or_false]at hK;refine tH (s:=[101,110,100]) (aD (by decide)) hM hd λH1 S1 m1 c1 d1=>?_;rw[ai,aB];have h1':pW C.T [101,110,100] (ay.ok a i)=isA C.T [101,110,100] i:=rfl;rw[h1'];cases h1:isA C.T [101,110,100] i with
  |true=>rw[h1]at hK;rw[az];exact hK H1 S1 m1 c1 d1
  |false=>
  rw[h1,Bool.false_or]at hK;rw[ax];refine tH (s:=[101,108,115,101]) (aD (by decide)) m1 d1 λH2 S2 m2 c2 d2=>?_;rw[ai,aB];have h2':pW C.T [101,108,115,101] (ay.ok a i)=isA C.T [101,108,115,101] i:=rfl;rw[h2'];cases h2:isA C.T [101,108,115,101] i with
  |true=>rw[h2]at hK;rw[az];exact hK H2 S2 m2 (c1.trans c2) d2
  |false=>
  rw[h2,Bool.false_or]at hK;rw[ax];refine tH (s:=[101,108,115,101,105,102]) (aD (by decide)) m2 d2 λH3 S3 m3 c3 d3=>?_;rw[ai,aB];have h3':pW C.T [101,108,115,101,105,102] (ay.ok a i)=isA C.T [101,108,115,101,105,102] i:=rfl;rw[h3'];cases h3:isA C.T [101,108,115,101,105,102] i with
  |true=>rw[h3]at hK;rw[az];exact hK H3 S3 m3 ((c1.trans c2).trans c3) d3
  |false=>
  rw[h3,Bool.false_or]at hK;rw[ax];refine tH (s:=[117,110,116,105,108]) (aD (by decide)) m3 d3 λH4 S4 m4 c4 d4=>?_;rw[ai,aB];exact hK H4 S4 m4 (((c1.trans c2).trans c3).trans c4) d4
 ·rw[decide_eq_false (by omega)];simp only[Bool.not_false,az];exact hK H S hM (an.refl _ _) hd
end
end Go.Proofs.YtcedghechlgecaaGreatDoor
namespace Go.X
theorem ln{H:AH}{S:LS}(h:Mem H S){n sz:Nat}{l:List AV}{k:AV→AH→Prop}(hl:l.length=n*sz)(h1:∀a∈l,a.one=true)(hk:∀H' S',Mem H' S'→S'.n=S.n+1→S'.ob S.n=.ce l 0→(∀b,b<S.n→S'.ob b=S.ob b)→k (.slice S.n 0 n n sz true) H'):aN (aA H) n sz l k:=
 cA h hl h1 λH' m=>hk H' _ m rfl (LS.ag _ _) λb hb=>LS.aZ _ _ hb
end Go.X
namespace Go.Proofs.YtcedghechlgecaaGreatDoor
open Go Go.X Go.Proofs.YtcedghechlgecaaGreatDoor.G
section
variable {H:AH}{S:LS}{K:KF}{C:Ctx}{i d:Nat}
def pFn(T:List Tok)(k i d:Nat):ay iP:=(aW T [40] i).bind λ_ j=>(cL T k true [] j).bind λps j=>(cF T k j d).bind λb j=>(aW T [101,110,100] j).bind λ_ j=>.ok (.mk ps b) j
def D6(T:List Tok)(k i d:Nat):ay aS:=(gC T k i d).bind λs j=>if s.kind=3∧isA T [61] j=true then .err 14 j else .ok s j
def sZ(S:LS)(Q:Nat→Prop)(v:AV)(f:iP):Prop:=∃c,v=.agg c∧RF S Q c f
def CtX(C:Ctx)(F:Nat→AH→KF→Prop)(p:Nat→Nat→ay aC):Prop:=∀{K:KF}{H:AH}{S:LS}{d:Nat}{γ:Type}{r:ay γ},d≤200→Mem H S→bB C S r→bd C (aK C) dc K S (r.bind λ_ i=>p i d)→F d H K
def nc(C:Ctx)(F:Nat→AH→KF→Prop)(p:Nat→Nat→ay aC):Prop:=∀{K:KF}{H:AH}{S:LS}{i d:Nat}{γ:Type}{x:γ},d≤200→Mem H S→bB C S (ay.ok x i)→bd C (aK C) dc K S (p i d)→F d H K
structure gO(C:Ctx)(m:Nat):Prop where
 block:∀k,2*k+4≤m→∀{K:KF}{H:AH}{S:LS}{d:Nat}{γ:Type}{r:ay γ},d≤200→Mem H S→bB C S r→bd C (aK C) fK K S (r.bind λ_ i=>cF C.T k i d)→(au m).1 (.ptr C.bp 0) (d:Int) H K
 exp:∀k,2*k+4≤m→CtX C (λd H K=>(au m).2.1 (.ptr C.bp 0) (d:Int) H K) (bY C.T k)
 stat:∀k,2*k+4≤m→∀{K:KF}{H:AH}{S:LS}{i d bs:Nat}{γ:Type}{x:γ},d≤200→Mem H S→bB C S (ay.ok x i)→isA C.T [114,101,116,117,114,110] i=false→S.ob bs=.ce [.int 0 0,.int 0 (aq C.T i:Int),.ab,.ab,.ab] 0→bs≠C.bp→(∀b,aG C.vT b→b≠bs)→bd C (cG C bs) (fO bs) K S (D6 C.T k i d)→(au m).2.2.1 (.ptr C.bp 0) (.ptr bs 0) (d:Int) H K
 lv0:∀k,2*k+4≤m→nc C (λd H K=>(au m).2.2.2.1 (.ptr C.bp 0) ((0:Nat):Int) (d:Int) H K) (iI C.T k)
 lv1:∀k,2*k+4≤m→nc C (λd H K=>(au m).2.2.2.1 (.ptr C.bp 0) ((1:Nat):Int) (d:Int) H K) (lI C.T k)
 lv2:∀k,2*k+4≤m→nc C (λd H K=>(au m).2.2.2.1 (.ptr C.bp 0) ((2:Nat):Int) (d:Int) H K) (lJ C.T k)
 lv3:∀k,2*k+5≤m→nc C (λd H K=>(au m).2.2.2.1 (.ptr C.bp 0) ((3:Nat):Int) (d:Int) H K) (iy C.T k)
 lv4:∀k,2*k+4≤m→nc C (λd H K=>(au m).2.2.2.1 (.ptr C.bp 0) ((4:Nat):Int) (d:Int) H K) (oJ C.T k)
 lv5:∀k,2*k+4≤m→nc C (λd H K=>(au m).2.2.2.1 (.ptr C.bp 0) ((5:Nat):Int) (d:Int) H K) (lM C.T k)
 lv6:∀k,2*k+5≤m→nc C (λd H K=>(au m).2.2.2.1 (.ptr C.bp 0) ((6:Nat):Int) (d:Int) H K) (gv C.T k)
 body:∀k,2*k+5≤m→∀{K:KF}{H:AH}{S:LS}{d:Nat}{γ:Type}{r:ay γ},d≤200→Mem H S→bB C S r→bd C (aK C) sZ K S (r.bind λ_ i=>pFn C.T k i d)→(au m).2.2.2.2.1 (.ptr C.bp 0) (d:Int) H K
 behind:∀k,2*k+4≤m→∀{K:KF}{H:AH}{S S0:LS}{d:Nat}{c:List AV}{e:aC}{γ:Type}{r:ay γ},d≤200→Mem H S→an (aK C) S0 S→C.bp<S0.n→(∀b,aG C.vT b→b<S0.n)→bB C S r→RE S (fb S0.n S.n) c e→bd C (aK C) dc K S0 (r.bind λ_ i=>dj C.T k e i d)→(au m).2.2.2.2.2.1 (.ptr C.bp 0) (.agg c) (d:Int) H K
 join:∀k,2*k+4≤m→nc C (λd H K=>(au m).2.2.2.2.2.2.1 (.ptr C.bp 0) (d:Int) H K) (iy C.T k)
 unary:∀k,2*k+4≤m→nc C (λd H K=>(au m).2.2.2.2.2.2.2.1 (.ptr C.bp 0) (d:Int) H K) (gv C.T k)
 post:∀k,2*k+4≤m→nc C (λd H K=>(au m).2.2.2.2.2.2.2.2.1 (.ptr C.bp 0) (d:Int) H K) (jZ C.T k)
 table:∀k,2*k+4≤m→∀{K:KF}{H:AH}{S:LS}{i d a:Nat}{γ:Type}{x:γ},d≤200→Mem H S→bB C S (ay.ok x i)→bd C (aK C) dc K S (fJ C.T k [] 0 a i d)→(au m).2.2.2.2.2.2.2.2.2 (.ptr C.bp 0) (a:Int) (d:Int) H K
theorem D7(m:Nat):au (m+1)=(G6 (cZ (au m)),Zd (ym (au m)),Hs (bD (au m)),Bg (dQ (au m)),Bh (fA (au m)),Bi (dd (au m)),QI (mr (au m)),QJ (mu (au m)),QK (fB (au m)),Bj (cC (au m))):=by kernel_rfl
theorem RE.zero{S:LS}{Q:Nat→Prop}:RE S Q z7 (.mk 0 0 0 [] 0 [] []):=RE.simple (kind:=0) (at_:=0) (n:=0) (op:=0) (s:=[]) B8.nil
theorem sQ{γ β:Type}{r:ay γ}{c i:Nat}(hd:bB C S r)(e:r=.err c i):bB C S (ay.err c i:ay β):=by
 subst e;exact hd.as rfl rfl rfl (λe=>by cases e) λc i e=>hd.cd c i (by cases e;rfl)
theorem ap8{m n d c i:Nat}{γ:Type}(hM:Mem H S)(hd:bB C S (ay.err c i:ay γ))(hP:bd C (aK C) dc K S (.err c i)):(au (m+1)).2.2.2.1 (.ptr C.bp 0) (n:Int) (d:Int) H K:=by
 show ry (dQ (au m)) K (yg (dQ (au m)) K) (.ptr C.bp 0) (n:Int) (d:Int) H;unfold ry;rw[eU];refine bE (bz hM cm λH1 m1=>?_);have c1:an aV S (S.push (.ce z7 0)):=(an.refl _ _).push _;have d1:=hd.iK hM c1;have e0:Int.ofNat 0=((0:Nat):Int):=rfl;refine iL m1 d1 ?_;have hc:=(hd.cd c i rfl).1;rw[bq,e0,decide_eq_false (by show ¬((c:Nat):Int)=((0:Nat):Int);omega)];simp only[Bool.not_false,az];refine eJ (c:=z7) m1 (LS.ag _ _) rfl rfl cm λH2 m2=>?_;refine ew m2 (LS.aj _ _ _) rfl ?_;have c2:=c1.set (b:=S.n) (.inr (Nat.le_refl _)) (.ce z7 0);exact hP.2 H2 _ _ (.mk 0 0 0 [] 0 [] []) m2 c2.no (sQ (hd.iK hM c2) rfl) ⟨z7,rfl,RE.zero⟩ λ_ _ e=>by cases e
theorem x70{m:Nat}(hm:1≤m)(O:gO C m):∀k,2*k+4≤m+1→CtX C (λd H K=>(au (m+1)).2.1 (.ptr C.bp 0) (d:Int) H K) (bY C.T k):=by
 intro k hk K H S d γ r hd hM hs hP;have ra:(ym (au m)).1=f65:=rfl;have rb:(ym (au m)).2=(au m).2.2.2.1:=rfl;show G7 (ym (au m)) K (.ptr C.bp 0) (d:Int) H;unfold G7;rw[ra,rb,eU];refine bE (bz hM cm λH1 m1=>?_);have c1:an aV S (S.push (.ce z7 0)):=(an.refl _ _).push _;have d1:=hs.iK hM c1;have o1:(S.push (.ce z7 0)).ob S.n=.ce z7 0:=LS.ag _ _;rw[dA,fL];refine w0 (by omega) (by omega) ?_;have hbp:=hs.dO hM;have cO:¬aK C S.n:=λq=>by have q:S.n=C.bp:=q;omega
 have fin:∀{r':ay aC}{H3:AH}{S3:LS}{v:AV}{e:aC}{S2:LS},bd C (aK C) dc K S r'→S.n<S2.n→Mem H3 S3→an (aK C) S S3→bB C S3 r'→S3.ob S.n=.ce z7 0→dc S3 (fb S2.n S3.n) v e→Ag r' e→ae 7 (.ptr S.n 0) v H3 λbJ=>aF 7 (.ptr S.n 0) bJ λv11=>K (.ret v11) bJ:=by
  intro r' H3 S3 v e S2 hP hn m3 c3 d3 o3 ⟨c,hv,hR⟩ ha;subst hv;refine eJ m3 o3 rfl hR.len hR.ones λH4 m4=>?_;refine ew m4 (LS.aj _ _ _) hR.len ?_;refine hP.2 H4 _ _ e m4 (c3.set (.inr (Nat.le_refl _)) _) (d3.ga hs hM (Nat.le_refl _) _) ⟨c,rfl,hR.go (λb hb=>LS.ah _ _ (by have:=hb.1;omega)) λb hb=>⟨by have:=hb.1;omega,hb.2⟩⟩ ha
 have sp:(r.bind λ_ i=>bY C.T k i d)=(r.bind λ_ i=>dU (100<d+1) i).bind λ_ i=>if k=0 then .bA else iI C.T (k-1) i (d+1):=by
  rw[bV];cases k with
  |zero=>
   cases r with
   |ok a i=>
    exact absurd (show bY C.T 0 i d=.bA by simp only[bY]) hP.1
   |err c i=>rfl
   |bA=>rfl
  |succ k=>
   congr 1;funext a i;simp only[bY,dU,Nat.add_one_sub_one,if_neg (Nat.succ_ne_zero k)];split<;>rfl
 rw[sp]at hP;refine D4 m1 d1 (bd.call (cV:=gY) hP λ_ H2 S2 w m2 c2 d2 _ hP2=>?_);have c12:an (aK C) S S2:=c1.no.trans c2;have o2:=c2.ob m1 o1 cO;have n2:S.n<S2.n:=m2.lt (by rw[o2];simp);have e0:Int.ofNat 0=((0:Nat):Int):=rfl;rw[e0];cases hr:r.bind λ_ i=>dU (100<d+1) i with
 |bA=>rw[hr]at hP2;exact absurd rfl hP2.1
 |err c i=>
  rw[hr]at hP2 d2;obtain⟨m',rfl⟩:∃m',m=m'+1:=⟨m-1,by omega⟩
  refine ap8 m2 d2 ⟨λe=>(by cases e),λH3 S3 v e m3 c3 d3 p3 a3=>?_⟩;exact fin hP2 n2 m3 (c12.trans c3) d3 (c3.ob m2 o2 cO) p3 a3
 |ok x i=>
  rw[hr]at hP2 d2;have hP3:bd C (aK C) dc K S (if k=0 then .bA else iI C.T (k-1) i (d+1)):=hP2;by_cases k0:k=0
  ·rw[if_pos k0]at hP3;exact absurd rfl hP3.1
  ·rw[if_neg k0]at hP3;have Qh:d+1≤200:=by
    cases r with
    |ok a j=>
     have hr:dU (100<d+1) j=.ok x i:=hr;unfold dU at hr;split at hr
     ·cases hr
     ·omega
    |err c j=>cases hr
    |bA=>cases hr
   refine O.lv0 (k-1) (by omega) Qh m2 d2 ⟨hP3.1,λH3 S3 v e m3 c3 d3 p3 a3=>?_⟩;exact fin hP3 n2 m3 (c12.trans c3) d3 (c3.ob m2 o2 cO) p3 a3
end
section
variable {H:AH}{S:LS}{K:KF}{C:Ctx}{i d:Nat}
def ez:Nat→List (List Nat)
 |0=>[[111,114]]
 |1=>[[97,110,100]]
 |2=>tests
 |4=>sums
 |5=>terms
 |_=>[]
def gZ:Nat→List Nat
 |0=>[0]
 |1=>[0]
 |2=>[7,8,9,10,11,12]
 |4=>[1,2]
 |5=>[3,4,5]
 |_=>[]
def Ap(n:Nat):Prop:=n=0∨n=1∨n=2∨n=4∨n=5
theorem ap9{n:Nat}:(ez n).length=(gZ n).length:=by unfold ez gZ;split<;>rfl
theorem ajU{n:Nat}:(ez n).length≤6:=by unfold ez;split<;>simp[tests,sums,terms]
theorem ato{n:Nat}:∀s∈ez n,B8 s:=by
 intro s hs;unfold ez at hs;split at hs<;>simp only[tests,sums,terms,List.mem_cons,List.not_mem_nil,or_false]at hs
 ·subst hs;exact aD (by decide)
 ·subst hs;exact aD (by decide)
 ·rcases hs with rfl|rfl|rfl|rfl|rfl|rfl<;>exact aD (by decide)
 ·rcases hs with rfl|rfl<;>exact aD (by decide)
 ·rcases hs with rfl|rfl|rfl<;>exact aD (by decide)
theorem sR(l:List (List Nat)):∀a∈l.map af,a.one=true:=by
 intro a ha;obtain⟨s,_,rfl⟩:=List.mem_map.1 ha;exact fe s
theorem vI(l:List Nat):∀a∈l.map (λc:Nat=>AV.int 0 (c:Int)),a.one=true:=by
 intro a ha;obtain⟨s,_,rfl⟩:=List.mem_map.1 ha;rfl
theorem auz{n:Nat}(hn:Ap n){k:AV→AH→Prop}(hM:Mem H S)(hk:∀H' S' b,Mem H' S'→an aV S S'→S.n≤b→b<S'.n→S'.ob b=.ce ((ez n).map af) 0→k (.slice b 0 (ez n).length (ez n).length 1 true) H') :
  aN (aA H) 1 1 [(.str 2 29295)] λv18 ib=>aN (aA ib) 1 1 [(.str 3 6581857)] λv20 ia=>aN (aA ia) 6 1 [(.str 2 15677),(.str 2 15742),(.str 1 60),(.str 2 15676),(.str 1 62),(.str 2 15678)] λv22 nz=>aN (aA nz) 2 1 [(.str 1 43),(.str 1 45)] λv24 kZ=>aN (aA kZ) 3 1 [(.str 1 42),(.str 2 12079),(.str 1 37)] λv26 kB=>one v18 (one v20 (one v22 (one v24 (one v26 (aN (aA kB) 6 1 [v18,v20,v22,.ab,v24,v26] λv28 uV=>cK 1 v28 (.int 0 (n:Int)) λv30=>ak v30 uV λv31=>k v31 uV))))):=by
 refine ln hM rfl (sR (ez 0)) λH1 S1 m1 n1 o1 k1=>?_;refine ln m1 rfl (sR (ez 1)) λH2 S2 m2 n2 o2 k2=>?_;refine ln m2 rfl (sR (ez 2)) λH3 S3 m3 n3 o3 k3=>?_;refine ln m3 rfl (sR (ez 4)) λH4 S4 m4 n4 o4 k4=>?_;refine ln m4 rfl (sR (ez 5)) λH5 S5 m5 n5 o5 k5=>?_;refine ey rfl (ey rfl (ey rfl (ey rfl (ey rfl ?_))));refine ln m5 rfl (λa ha=>?_) λH6 S6 m6 n6 o6 k6=>?_
 ·simp only[List.mem_cons,List.not_mem_nil,or_false]at ha;rcases ha with rfl|rfl|rfl|rfl|rfl|rfl<;>rfl
 have c6:an aV S S6:=⟨by omega,λb hb _=>by rw[k6 b (by omega),k5 b (by omega),k4 b (by omega),k3 b (by omega),k2 b (by omega),k1 b hb]⟩
 have q1:S6.ob S.n=.ce ((ez 0).map af) 0:=by rw[k6 _ (by omega),k5 _ (by omega),k4 _ (by omega),k3 _ (by omega),k2 _ (by omega)];exact o1
 have q2:S6.ob S1.n=.ce ((ez 1).map af) 0:=by rw[k6 _ (by omega),k5 _ (by omega),k4 _ (by omega),k3 _ (by omega)];exact o2
 have q3:S6.ob S2.n=.ce ((ez 2).map af) 0:=by rw[k6 _ (by omega),k5 _ (by omega),k4 _ (by omega)];exact o3
 have q4:S6.ob S3.n=.ce ((ez 4).map af) 0:=by rw[k6 _ (by omega),k5 _ (by omega)];exact o4
 have q5:S6.ob S4.n=.ce ((ez 5).map af) 0:=by rw[k6 _ (by omega)];exact o5
 refine mj (by omega) (by rcases hn with rfl|rfl|rfl|rfl|rfl<;>decide) ?_;rw[Int.toNat_natCast,Nat.zero_add,Nat.mul_one];rcases hn with rfl|rfl|rfl|rfl|rfl
 ·exact aw m6 o6 (v:=.slice S.n 0 1 1 1 true) rfl (hk H6 S6 _ m6 c6 (by omega) (by omega) q1)
 ·exact aw m6 o6 (v:=.slice S1.n 0 1 1 1 true) rfl (hk H6 S6 _ m6 c6 (by omega) (by omega) q2)
 ·exact aw m6 o6 (v:=.slice S2.n 0 6 6 1 true) rfl (hk H6 S6 _ m6 c6 (by omega) (by omega) q3)
 ·exact aw m6 o6 (v:=.slice S3.n 0 2 2 1 true) rfl (hk H6 S6 _ m6 c6 (by omega) (by omega) q4)
 ·exact aw m6 o6 (v:=.slice S4.n 0 3 3 1 true) rfl (hk H6 S6 _ m6 c6 (by omega) (by omega) q5)
theorem aqa{n:Nat}(hn:Ap n){k:AV→AH→Prop}(hM:Mem H S)(hk:∀H' S' b,Mem H' S'→an aV S S'→S.n≤b→b<S'.n→S'.ob b=.ce ((gZ n).map λc:Nat=>AV.int 0 (c:Int)) 0→k (.slice b 0 (gZ n).length (gZ n).length 1 true) H') :
  aN (aA H) 1 1 [(.int 0 (.ofNat 0))] λv1 H2=>aN (aA H2) 1 1 [(.int 0 (.ofNat 0))] λv3 H4=>aN (aA H4) 6 1 [(.int 0 (.ofNat 7)),(.int 0 (.ofNat 8)),(.int 0 (.ofNat 9)),(.int 0 (.ofNat 10)),(.int 0 (.ofNat 11)),(.int 0 (.ofNat 12))] λv5 H6=>aN (aA H6) 2 1 [(.int 0 (.ofNat 1)),(.int 0 (.ofNat 2))] λv7 H8=>aN (aA H8) 3 1 [(.int 0 (.ofNat 3)),(.int 0 (.ofNat 4)),(.int 0 (.ofNat 5))] λv9 bJ=>one v1 (one v3 (one v5 (one v7 (one v9 (aN (aA bJ) 6 1 [v1,v3,v5,.ab,v7,v9] λv11 bL=>cK 1 v11 (.int 0 (n:Int)) λv13=>ak v13 bL λv14=>k v14 bL))))):=by
 refine ln hM rfl (vI (gZ 0)) λH1 S1 m1 n1 o1 k1=>?_;refine ln m1 rfl (vI (gZ 1)) λH2 S2 m2 n2 o2 k2=>?_;refine ln m2 rfl (vI (gZ 2)) λH3 S3 m3 n3 o3 k3=>?_;refine ln m3 rfl (vI (gZ 4)) λH4 S4 m4 n4 o4 k4=>?_;refine ln m4 rfl (vI (gZ 5)) λH5 S5 m5 n5 o5 k5=>?_;refine ey rfl (ey rfl (ey rfl (ey rfl (ey rfl ?_))));refine ln m5 rfl (λa ha=>?_) λH6 S6 m6 n6 o6 k6=>?_
 ·simp only[List.mem_cons,List.not_mem_nil,or_false]at ha;rcases ha with rfl|rfl|rfl|rfl|rfl|rfl<;>rfl
 have c6:an aV S S6:=⟨by omega,λb hb _=>by rw[k6 b (by omega),k5 b (by omega),k4 b (by omega),k3 b (by omega),k2 b (by omega),k1 b hb]⟩
 have q1:S6.ob S.n=.ce ((gZ 0).map λc:Nat=>AV.int 0 (c:Int)) 0:=by rw[k6 _ (by omega),k5 _ (by omega),k4 _ (by omega),k3 _ (by omega),k2 _ (by omega)];exact o1
 have q2:S6.ob S1.n=.ce ((gZ 1).map λc:Nat=>AV.int 0 (c:Int)) 0:=by rw[k6 _ (by omega),k5 _ (by omega),k4 _ (by omega),k3 _ (by omega)];exact o2
 have q3:S6.ob S2.n=.ce ((gZ 2).map λc:Nat=>AV.int 0 (c:Int)) 0:=by rw[k6 _ (by omega),k5 _ (by omega),k4 _ (by omega)];exact o3
 have q4:S6.ob S3.n=.ce ((gZ 4).map λc:Nat=>AV.int 0 (c:Int)) 0:=by rw[k6 _ (by omega),k5 _ (by omega)];exact o4
 have q5:S6.ob S4.n=.ce ((gZ 5).map λc:Nat=>AV.int 0 (c:Int)) 0:=by rw[k6 _ (by omega)];exact o5
 refine mj (by omega) (by rcases hn with rfl|rfl|rfl|rfl|rfl<;>decide) ?_;rw[Int.toNat_natCast,Nat.zero_add,Nat.mul_one];rcases hn with rfl|rfl|rfl|rfl|rfl
 ·exact aw m6 o6 (v:=.slice S.n 0 1 1 1 true) rfl (hk H6 S6 _ m6 c6 (by omega) (by omega) q1)
 ·exact aw m6 o6 (v:=.slice S1.n 0 1 1 1 true) rfl (hk H6 S6 _ m6 c6 (by omega) (by omega) q2)
 ·exact aw m6 o6 (v:=.slice S2.n 0 6 6 1 true) rfl (hk H6 S6 _ m6 c6 (by omega) (by omega) q3)
 ·exact aw m6 o6 (v:=.slice S3.n 0 2 2 1 true) rfl (hk H6 S6 _ m6 c6 (by omega) (by omega) q4)
 ·exact aw m6 o6 (v:=.slice S4.n 0 3 3 1 true) rfl (hk H6 S6 _ m6 c6 (by omega) (by omega) q5)
theorem Og{S0:LS}{b1 b3 at_ kind op:Nat}{c cb:List AV}{e x:aC}(F:fP C S0 S b1 b3 c e)(hM:Mem H S)(hbp:C.bp<S0.n)(hr:RE S (λb=>S0.n≤b∧b<S.n∧b≠b1∧b≠b3) cb x) :
  RE (S.push (.ce (c++cb) 0)) (λb=>S0.n≤b∧b<S.n+1∧b≠b1∧b≠b3) [.int 0 (kind:Int),.int 0 (at_:Int),.int 0 ((0:Nat):Int),af [],.int 0 (op:Int),.slice S.n 0 2 2 7 true,.ab] (lT kind op at_ e x):=by
 obtain⟨Q,h1,h2⟩:=F.re;have Nw:b1<S.n:=by obtain⟨z,hz,_⟩:=F.o1;exact hM.lt (by rw[hz];simp)
 have SJ:b3<S.n:=hM.lt (by rw[F.o3];simp);have n0:=F.x.1;refine RE.two (b:=S.n) (m:=0) ⟨by omega,by omega,by omega,by omega⟩ (LS.ag _ _) (h1.go (λb hb=>LS.aZ _ _ (h2 b hb).2.1) λb hb=>?_) (hr.go (λb hb=>LS.aZ _ _ hb.2.1) λb hb=>?_)
 ·have:=h2 b hb;exact⟨this.1,by omega,this.2.2⟩
 ·exact⟨hb.1,by omega,hb.2.2⟩
theorem Oh{γ β:Type}{x:γ}{y:β}{i:Nat}(hd:bB C S (ay.ok x i)):bB C S (ay.ok y i):=hd.as rfl rfl rfl (λe=>by cases e) λc i e=>by cases e
theorem fP.JM{S0:LS}{H0:AH}{b1 b3:Nat}{c:List AV}{e:aC}{γ:Type}{r0:ay γ}{r:ay aC}(h:fP C S0 S b1 b3 c e)(hM:Mem H S)(hM0:Mem H0 S0)(hd0:bB C S0 r0)(hd:bB C S r)(hP:bd C (aK C) dc K S0 r)(ha:Ag r e) :
  aF 7 (.ptr b3 0) H λv1=>ae 7 (.ptr b1 0) v1 H λH2=>aF 7 (.ptr b1 0) H2 λv3=>K (.ret v3) H2:=by
 obtain⟨z,hz,lP⟩:=h.o1;obtain⟨Q,h1,h2⟩:=h.re;refine acA hM h.o3 h1.len h1.ones hz lP λH' m=>?_;exact hP.2 H' _ _ e m (h.x.set (.inr h.n1) _) (hd.ga hd0 hM0 h.n1 _) ⟨c,rfl,h1.go (λb hb=>LS.ah _ _ (h2 b hb).2.2.1) λb hb=>⟨(h2 b hb).1,(h2 b hb).2.1⟩⟩ ha
theorem atp{m n bo d:Nat}{γ:Type}{r:ay γ}{v1 v8 v9:AV}{X:AV→Int→Int→AV→AV→AV→AV→AH→Prop}{S0:LS} :
  ∀(q j:Nat) (H:AH) (S:LS),j≤(ez n).length→(ez n).length-j<q→Mem H S→bB C S r→an aV S0 S→S.ob bo=.ce ((ez n).map af) 0→(∀t,t<j→pW C.T ((ez n)[t]?.getD []) r=false)→
  (∀H' S' w,Mem H' S'→an aV S0 S'→bB C S' r→w≤(ez n).length→(∀t,t<w→pW C.T ((ez n)[t]?.getD []) r=false)→(w<(ez n).length→pW C.T ((ez n)[w]?.getD []) r=true)→CP (dQ (au m)) K X (.ptr C.bp 0) (n:Int) (d:Int) v1 (.slice bo 0 (ez n).length (ez n).length 1 true) v8 v9 (w:Int) H')→
  ud (dQ (au m)) K X q (.ptr C.bp 0) (n:Int) (d:Int) v1 (.slice bo 0 (ez n).length (ez n).length 1 true) v8 v9 (j:Int) H:=by
 intro q
 induction q with
 |zero=>intro j H S _ h;omega
 |succ q ih=>
  intro j H S hj hq hM hd hc ho hb hk;have rb:(dQ (au m)).2.1=f69:=rfl;show CQ (dQ (au m)) K (ud (dQ (au m)) K X q) (CP (dQ (au m)) K X) (.ptr C.bp 0) (n:Int) (d:Int) v1 (.slice bo 0 (ez n).length (ez n).length 1 true) v8 v9 (j:Int) H;unfold CQ;rw[rb];rw[FT,aE,cn];refine bN (λg=>?_) (λg=>?_)
  ·have hjl:j<(ez n).length:=by omega
   refine mj (by omega) (by omega) ?_;rw[Int.toNat_natCast,Nat.zero_add,Nat.mul_one];have e1:(ez n)[j]?.getD []=(ez n)[j]:=by rw[List.getElem?_eq_getElem hjl];rfl
   refine aw hM ho (v:=af (ez n)[j]) (by rw[List.getElem?_map,List.getElem?_eq_getElem hjl];rfl) ?_;refine tH (ato _ (List.getElem_mem _)) hM hd λH2 S2 m2 c2 d2=>?_;rw[ai,aB];have o2:=c2.ob hM ho λq=>q;cases hi:pW C.T (ez n)[j] r with
   |true=>
    simp only[Bool.not_true,ax];exact hk H2 S2 j m2 (hc.trans c2) d2 hj hb λ_=>by rw[e1];exact hi
   |false=>
    simp only[Bool.not_false,az];rw[dA,fL];have hle:=ajU (n:=n);refine w0 (by omega) (by omega) ?_;exact ih (j+1) H2 S2 (by omega) (by omega) m2 d2 (hc.trans c2) o2 (λt ht=>by
     by_cases g:t=j
     ·rw[g,e1];exact hi
     ·exact hb t (by omega)) hk
  ·exact hk H S j hM hc hd hj hb λh=>absurd h (by omega)
def Wu(n:Nat):Nat:=if n=0 then 16 else if n=1 then 15 else 14
structure NB(C:Ctx)(n:Nat)(p:Nat→Nat→Nat→ay aC)(gL:Nat→aC→Nat→Nat→ay aC):Prop where
 zero:∀e i d,gL 0 e i d=.bA
 stop:∀k e i d,(∀t,t<(ez n).length→isA C.T ((ez n)[t]?.getD []) i=false)→gL (k+1) e i d=.ok e i
 go:∀k e i d w,w<(ez n).length→(∀t,t<w→isA C.T ((ez n)[t]?.getD []) i=false)→isA C.T ((ez n)[w]?.getD []) i=true→gL (k+1) e i d=(p k (i+1) d).bind λb j=>gL k (lT (Wu n) ((gZ n)[w]?.getD 0) (aq C.T i) e b) j d
theorem SR{m n:Nat}(hn:Ap n){p:Nat→Nat→Nat→ay aC}{gL:Nat→aC→Nat→Nat→ay aC}(hp:∀k,2*k+5≤m→nc C (λd H K=>(au m).2.2.2.1 (.ptr C.bp 0) ((n+1:Nat):Int) (d:Int) H K) (p k))(hL:NB C n p gL)
  {S0:LS}{H0:AH}{γ0:Type}{r0:ay γ0}{b1 b3 bo bc:Nat}(hd:d≤200) (hM0:Mem H0 S0) (hd0:bB C S0 r0) (je:S0.n≤bo) (hbc:S0.n≤bc) (no3:bo≠b3) (nc3:bc≠b3)
  {X:AV→Int→Int→AV→AV→AV→AV→AH→Prop}{k:Nat}(hk:2*k+4≤m+1)
  (hrec:∀k',k=k'+1→∀(e:aC) (c:List AV) (H:AH) (S:LS){γ:Type}(r:ay γ),Mem H S→bB C S r→fP C S0 S b1 b3 c e→S.ob bo=.ce ((ez n).map af) 0→S.ob bc=.ce ((gZ n).map λc:Nat=>AV.int 0 (c:Int)) 0→bd C (aK C) dc K S0 (r.bind λ_ i=>gL k' e i d)→
   X (.ptr C.bp 0) (n:Int) (d:Int) (.ptr b1 0) (.slice bo 0 (ez n).length (ez n).length 1 true) (.slice bc 0 (gZ n).length (gZ n).length 1 true) (.ptr b3 0) H)
  (e:aC) (c:List AV) (H:AH) (S:LS){γ:Type}(r:ay γ) (hM:Mem H S) (hs:bB C S r) (hF:fP C S0 S b1 b3 c e) (ho:S.ob bo=.ce ((ez n).map af) 0) (hc:S.ob bc=.ce ((gZ n).map λc:Nat=>AV.int 0 (c:Int)) 0) (hP:bd C (aK C) dc K S0 (r.bind λ_ i=>gL k e i d)) :
  K4 (dQ (au m)) K X (.ptr C.bp 0) (n:Int) (d:Int) (.ptr b1 0) (.slice bo 0 (ez n).length (ez n).length 1 true) (.slice bc 0 (gZ n).length (gZ n).length 1 true) (.ptr b3 0) H:=by
 have ra:(dQ (au m)).1=f67:=rfl;have rc:(dQ (au m)).2.2.1=(au m).2.2.2.1:=rfl;have hbp:=hd0.dO hM0;have cO:∀b,S0.n≤b→¬aK C b:=λb hb q=>by have q:b=C.bp:=q;omega
 have hn6:n≤6:=by unfold Ap at hn;omega
 show CR (dQ (au m)) K (ud (dQ (au m)) K X G.NL) (.ptr C.bp 0) (n:Int) (d:Int) (.ptr b1 0) (.slice bo 0 (ez n).length (ez n).length 1 true) (.slice bc 0 (gZ n).length (gZ n).length 1 true) (.ptr b3 0) H;unfold CR;have gf:G.NL=1000000:=rfl;generalize G.NL=iA at gf ⊢;have hle:=ajU (n:=n);have e00:Int.ofNat 0=((0:Nat):Int):=rfl;rw[e00];refine atp iA 0 H S (Nat.zero_le _) (by omega) hM hs (an.refl aV S) ho (λt ht=>absurd ht (by omega)) λH1 S1 w m1 c1 d1 hw hbef hat=>?_;have F1:=hF.keep hM hbp c1.no;show CO (dQ (au m)) K (K3 (dQ (au m)) K X) (.ptr C.bp 0) (n:Int) (d:Int) (.ptr b1 0) (.slice bo 0 (ez n).length (ez n).length 1 true) (.slice bc 0 (gZ n).length (gZ n).length 1 true) (.ptr b3 0) (w:Int) H1;unfold CO;rw[FT,aE,bq,ra];by_cases g:w=(ez n).length
 ·rw[decide_eq_true (by omega),az];have hst:bB C S1 (r.bind λ_ i=>gL k e i d)∧Ag (r.bind λ_ i=>gL k e i d) e:=by
   cases r with
   |bA=>exact absurd rfl hs.no
   |err cc i=>exact⟨sQ d1 rfl,λ_ _ q=>(by cases q)⟩
   |ok a i=>
    cases k with
    |zero=>exact absurd (hL.zero e i d) hP.1
    |succ k=>
     have es:gL (k+1) e i d=.ok e i:=hL.stop k e i d λt ht=>hbef t (by omega);have eb:((ay.ok a i).bind λ_ i=>gL (k+1) e i d)=.ok e i:=es;rw[eb];exact⟨Oh d1,λ_ _ q=>(by cases q;rfl)⟩
  exact fP.JM F1 m1 hM0 hd0 hst.1 hP hst.2
 ·have hwl:w<(ez n).length:=by omega
  obtain⟨a,i,rfl,hi⟩:=Ff (hat hwl);rw[decide_eq_false (by omega),ax];refine lU m1 d1 ?_;rw[ai,aE];have hlt:=dk C.ok hi;have hfew:=C.few;simp only[cj,aL,Nat.zero_add];refine aw m1 d1.ob (v:=.int 0 (i:Int)) rfl ?_;simp only[aE,dA,fL];refine w0 (by omega) (by omega) ?_;refine aT m1 d1.ob (by omega) (by show 1<4;omega) rfl λH2 m2=>?_;have d2:=d1.ok () hlt;have c2:an (aK C) S1 (S1.set C.bp (.ce [C.vT,.int 0 ((i+1:Nat):Int),.int 0 0,.int 0 0] 0)):=an.rL (an.refl _ _) _;have F2:=F1.keep m1 hbp c2;have m2:Mem H2 (S1.set C.bp (.ce [C.vT,.int 0 ((i+1:Nat):Int),.int 0 0,.int 0 0] 0)):=m2;have o1:=c1.ob hM ho λq=>q;have oc1:=c1.ob hM hc λq=>q;have o2:=c2.ob m1 o1 (cO _ je);have oc2:=c2.ob m1 oc1 (cO _ hbc);revert F2 m2 d2 o2 oc2;generalize S1.set C.bp (.ce [C.vT,.int 0 ((i+1:Nat):Int),.int 0 0,.int 0 0] 0)=S2;intro d2 F2 m2 o2 oc2;cases k with
  |zero=>exact absurd (hL.zero e i d) hP.1
  |succ k=>
  have eg:=hL.go k e i d w hwl (λt ht=>hbef t ht) hi;have hP:bd C (aK C) dc K S0 (gL (k+1) e i d):=hP;rw[eg]at hP;show CN (dQ (au m)) K (CM (dQ (au m)) K X) (.ptr C.bp 0) (n:Int) (d:Int) (.ptr b1 0) (.slice bo 0 (ez n).length (ez n).length 1 true) (.slice bc 0 (gZ n).length (gZ n).length 1 true) (.ptr b3 0) (w:Int) (aq C.T i:Int) H2;unfold CN;rw[rc,dA,fL];refine w0 (by omega) (by omega) ?_;refine hp k (by omega) hd m2 d2 (bd.call (cV:=dc) hP λx H3 S3 v m3 c3 d3 ⟨cb,hv,hR⟩ hP2=>?_);subst hv;rw[eU];have F3:=F2.keep m2 hbp c3;have o3:=c3.ob m2 o2 (cO _ je);have oc3:=c3.ob m2 oc2 (cO _ hbc);have lt2:b1<S2.n∧b3<S2.n:=⟨by obtain⟨z,hz,_⟩:=F2.o1;exact m2.lt (by rw[hz];simp),m2.lt (by rw[F2.o3];simp)⟩
  have n20:=F2.x.1;refine bE (bz m3 cm λH4 m4=>?_);refine eJ m4 (LS.ag _ _) rfl hR.len hR.ones λH5 m5=>?_;have c5:an aV S3 ((S3.push (.ce z7 0)).set S3.n (.ce cb 0)):=((an.refl _ _).push _).set (.inr (Nat.le_refl _)) _;have F5:=F3.keep m3 hbp c5.no;have d5:=d3.iK m3 c5;have o5:=c5.ob m3 o3 λq=>q;have oc5:=c5.ob m3 oc3 λq=>q;have Nz:((S3.push (.ce z7 0)).set S3.n (.ce cb 0)).ob S3.n=.ce cb 0:=LS.aj _ _ _;have R5:RE ((S3.push (.ce z7 0)).set S3.n (.ce cb 0)) (λb=>S0.n≤b∧b<((S3.push (.ce z7 0)).set S3.n (.ce cb 0)).n∧b≠b1∧b≠b3) cb x:=hR.go (λb hb=>c5.2 b hb.2 λq=>q) λb hb=>⟨by have:=hb.1;omega,Nat.lt_of_lt_of_le hb.2 c5.1,by have:=hb.1;omega,by have:=hb.1;omega⟩
  have m5:Mem H5 ((S3.push (.ce z7 0)).set S3.n (.ce cb 0)):=m5;revert F5 d5 o5 oc5 Nz R5 m5;generalize (S3.push (.ce z7 0)).set S3.n (.ce cb 0)=S5;intro F5 d5 o5 oc5 Nz R5 m5;have key:∀kd:Nat,kd=Wu n→CK (dQ (au m)) K X (.ptr C.bp 0) (n:Int) (d:Int) (.ptr b1 0) (.slice bo 0 (ez n).length (ez n).length 1 true) (.slice bc 0 (gZ n).length (gZ n).length 1 true) (.ptr b3 0) (w:Int) (aq C.T i:Int) (.ptr S3.n 0) (kd:Int) H5:=by
   intro kd hkd;subst hkd;show CJ (dQ (au m)) K X (.ptr C.bp 0) (n:Int) (d:Int) (.ptr b1 0) (.slice bo 0 (ez n).length (ez n).length 1 true) (.slice bc 0 (gZ n).length (gZ n).length 1 true) (.ptr b3 0) (w:Int) (aq C.T i:Int) (.ptr S3.n 0) (Wu n:Int) H5;unfold CJ;have hlc:=ap9 (n:=n);refine mj (by omega) (by omega) ?_;rw[Int.toNat_natCast,Nat.zero_add,Nat.mul_one];have hwc:w<(gZ n).length:=by omega
   refine aw m5 oc5 (v:=.int 0 (((gZ n)[w]?.getD 0:Nat):Int)) (by rw[List.getElem?_map,List.getElem?_eq_getElem hwc];rfl) ?_;rw[aE];refine ew m5 F5.o3 F5.len ?_;refine ew m5 Nz hR.len ?_;refine m5.bG ?_;simp only[dD];refine dv F5.len (dv hR.len ?_);rw[tF F5.len hR.len rfl];have SS:∀a∈c,a.one=true:=by obtain⟨Q,h1,_⟩:=F5.re;exact h1.ones
   refine cA m5 (by rw[List.length_append,F5.len,hR.len]) (λa h=>?_) λH6 m6=>cE (mJ (by rw[m6.n,m5.n];rfl)) ?_
   ·rcases List.mem_append.1 h with g|g
    ·exact SS a g
    ·exact hR.ones a g
   refine ey rfl ?_;have c6:an aV S5 (S5.push (.ce (c++cb) 0)):=(an.refl _ _).push _;have F6:=F5.keep m5 hbp c6.no;have hnew:=Og (at_:=aq C.T i) (kind:=Wu n) (op:=(gZ n)[w]?.getD 0) F5 m5 hbp R5;refine eJ m6 F6.o3 F6.len hnew.len hnew.ones λH7 m7=>?_;have F7:=F6.lf hnew λb hb=>hb;refine hrec k rfl _ _ H7 _ _ m7 ((d5.iK m5 c6).ga hd0 hM0 hF.n3 _) F7 ?_ ?_ hP2
   ·rw[LS.ah _ _ no3];exact c6.ob m5 o5 λq=>q
   ·rw[LS.ah _ _ nc3];exact c6.ob m5 oc5 λq=>q
  have e0:Int.ofNat 0=((0:Nat):Int):=rfl;have e1:Int.ofNat 1=((1:Nat):Int):=rfl;have k7:∀kd:Nat,(if n=1 then 15 else kd)=Wu n→CM (dQ (au m)) K X (.ptr C.bp 0) (n:Int) (d:Int) (.ptr b1 0) (.slice bo 0 (ez n).length (ez n).length 1 true) (.slice bc 0 (gZ n).length (gZ n).length 1 true) (.ptr b3 0) (w:Int) (aq C.T i:Int) (.ptr S3.n 0) (kd:Int) H5:=by
   intro kd hkd;show CL (dQ (au m)) K (CK (dQ (au m)) K X) (.ptr C.bp 0) (n:Int) (d:Int) (.ptr b1 0) (.slice bo 0 (ez n).length (ez n).length 1 true) (.slice bc 0 (gZ n).length (gZ n).length 1 true) (.ptr b3 0) (w:Int) (aq C.T i:Int) (.ptr S3.n 0) (kd:Int) H5;unfold CL;rw[bq,e1];by_cases g1:n=1
   ·rw[decide_eq_true (by omega),az];exact key 15 (by rw[if_pos g1]at hkd;exact hkd)
   ·rw[decide_eq_false (by omega),ax];exact key kd (by rw[if_neg g1]at hkd;exact hkd)
  rw[bq,e0];by_cases g0:n=0
  ·rw[decide_eq_true (by omega),az];exact k7 16 (by subst g0;rfl)
  ·rw[decide_eq_false (by omega),ax];exact k7 14 (by unfold Wu;rw[if_neg g0])
theorem al7{m n:Nat}(hn:Ap n){p:Nat→Nat→Nat→ay aC}{gL:Nat→aC→Nat→Nat→ay aC}(hp:∀k,2*k+5≤m→nc C (λd H K=>(au m).2.2.2.1 (.ptr C.bp 0) ((n+1:Nat):Int) (d:Int) H K) (p k))(hL:NB C n p gL)
  {S0:LS}{H0:AH}{γ0:Type}{r0:ay γ0}{b1 b3 bo bc:Nat}(hd:d≤200) (hM0:Mem H0 S0) (hd0:bB C S0 r0) (je:S0.n≤bo) (hbc:S0.n≤bc) (no3:bo≠b3) (nc3:bc≠b3) :
  ∀k,2*k+4≤m+1→∀(q:Nat) (e:aC) (c:List AV) (H:AH) (S:LS){γ:Type}(r:ay γ),k<q→Mem H S→bB C S r→fP C S0 S b1 b3 c e→S.ob bo=.ce ((ez n).map af) 0→S.ob bc=.ce ((gZ n).map λc:Nat=>AV.int 0 (c:Int)) 0→bd C (aK C) dc K S0 (r.bind λ_ i=>gL k e i d)→
   CS (dQ (au m)) K q (.ptr C.bp 0) (n:Int) (d:Int) (.ptr b1 0) (.slice bo 0 (ez n).length (ez n).length 1 true) (.slice bc 0 (gZ n).length (gZ n).length 1 true) (.ptr b3 0) H:=by
 intro k
 induction k with
 |zero=>
  intro hk q e c H S γ r hq hM hs hF ho hc hP;obtain⟨q,rfl⟩:∃p,q=p+1:=⟨q-1,by omega⟩
  exact SR hn hp hL hd hM0 hd0 je hbc no3 nc3 hk (λk' h=>absurd h (by omega)) e c H S r hM hs hF ho hc hP
 |succ k ih=>
  intro hk q e c H S γ r hq hM hs hF ho hc hP;obtain⟨q,rfl⟩:∃p,q=p+1:=⟨q-1,by omega⟩
  exact SR hn hp hL hd hM0 hd0 je hbc no3 nc3 hk (λk' h e c H S γ r hM hs hF ho hc hP=>by
   obtain rfl:k=k':=by omega
   exact ih (by omega) q e c H S r (by omega) hM hs hF ho hc hP) e c H S r hM hs hF ho hc hP
theorem x103{m n:Nat}(hm:m≤1000000)(hn:Ap n){p g:Nat→Nat→Nat→ay aC}{gL:Nat→aC→Nat→Nat→ay aC}(hp:∀k,2*k+5≤m→nc C (λd H K=>(au m).2.2.2.1 (.ptr C.bp 0) ((n+1:Nat):Int) (d:Int) H K) (p k))(hL:NB C n p gL)
  (h0:∀i d,g 0 i d=.bA) (h1:∀k i d,g (k+1) i d=(p k i d).bind λe j=>gL k e j d):∀k,2*k+4≤m+1→nc C (λd H K=>(au (m+1)).2.2.2.1 (.ptr C.bp 0) (n:Int) (d:Int) H K) (g k):=by
 intro k hk K H S i d γ x hd hM hs hP;cases k with
 |zero=>exact absurd (h0 i d) hP.1
 |succ k=>
 rw[h1]at hP;have e:(au (m+1)).2.2.2.1=Bg (dQ (au m)):=by rw[D7]
 show(au (m+1)).2.2.2.1 (.ptr C.bp 0) (n:Int) (d:Int) H K;rw[e];have rc:(dQ (au m)).2.2.1=(au m).2.2.2.1:=rfl;have gf:G.NL=1000000:=rfl;have hn6:n≤5∧n≠3:=by unfold Ap at hn;omega
 unfold Bg VC ry;rw[eU];refine bE (bz hM cm λH1 m1=>?_);have c1:an aV S (S.push (.ce z7 0)):=(an.refl _ _).push _;have d1:=hs.iK hM c1;have o1:(S.push (.ce z7 0)).ob S.n=.ce z7 0:=LS.ag _ _;have hbp:=hs.dO hM;have cO:∀b,S.n≤b→¬aK C b:=λb hb q=>by have q:b=C.bp:=q;omega
 have e0:Int.ofNat 0=((0:Nat):Int):=rfl;have e3:Int.ofNat 3=((3:Nat):Int):=rfl;have e6:Int.ofNat 6=((6:Nat):Int):=rfl;refine iL m1 d1 ?_;have rcd:(ay.ok x i).cd=0:=rfl;rw[rcd,bq,bq,bq,e0,decide_eq_true rfl,e3,e6,decide_eq_false (p:=(n:Int)=((3:Nat):Int)) (by omega),decide_eq_false (p:=(n:Int)=((6:Nat):Int)) (by omega)];simp only[Bool.not_true,ax];refine auz hn m1 λH2 S2 bo m2 c2 je axu o2=>?_;have je:S.n+1≤bo:=je;unfold yg K7;refine aqa hn m2 λH3 S3 bc m3 c3 hbc axv o3=>?_;rw[rc,dA,fL];refine w0 (by omega) (by omega) ?_;have c13:=(c1.trans c2).trans c3;have d3:=hs.iK hM c13;have q1:=(c2.trans c3).ob m1 o1 λq=>q;have q2:=c3.ob m2 o2 λq=>q;refine hp k (by omega) hd m3 d3 (bd.call (cV:=dc) hP λy H4 S4 v m4 c4 d4 ⟨cy,hv,hR⟩ hP2=>?_);subst hv;have n12:S.n+1≤S2.n:=c2.1;have n23:=c3.1;refine bE ?_;rw[eU];refine bz m4 cm λH5 m5=>?_;refine eJ m5 (LS.ag _ _) rfl hR.len hR.ones λH6 m6=>?_;have F:=fP.mk0 (C:=C) hbp rfl (c13.no.trans c4) m4 (c4.ob m3 q1 (cO _ (Nat.le_refl _))) (hR.go (λ_ _=>rfl) λb hb=>⟨by have:=hb.1;omega,hb.2⟩);have c6:an aV S4 ((S4.push (.ce z7 0)).set S4.n (.ce cy 0)):=((an.refl _ _).push _).set (.inr (Nat.le_refl _)) _;unfold K6 K5;have n34:=c4.1;exact al7 hn hp hL hd hM hs (by omega) (by omega) (by omega) (by omega) k (by omega) G.NL y cy H6 _ _ (by omega) m6 (d4.iK m4 c6) F (c6.ob m4 (c4.ob m3 q2 (cO _ (by omega))) λq=>q) (c6.ob m4 (c4.ob m3 o3 (cO _ (by omega))) λq=>q) hP2
end
end Go.Proofs.YtcedghechlgecaaGreatDoor
namespace Go.X
theorem Ac{T:List Tok}{i:Nat}:∀{l:List (List Nat)}{f:Nat},(∀t,t<l.length→isA T (l[t]?.getD []) i=false)→jz T i f l=0
 |[],f,h=>rfl
 |s::l,f,h=>by
  have h0:isA T s i=false:=h 0 (by simp);unfold jz;rw[h0];exact Ac λt ht=>by have:=h (t+1) (by simp;omega);simpa using this
theorem Jl{T:List Tok}{i:Nat}:∀{l:List (List Nat)}{f w:Nat},w<l.length→(∀t,t<w→isA T (l[t]?.getD []) i=false)→isA T (l[w]?.getD []) i=true→jz T i f l=f+w
 |[],f,w,h,_,_=>by simp at h
 |s::l,f,0,_,_,h=>by
  have h0:isA T s i=true:=h;unfold jz;rw[h0];rfl
 |s::l,f,w+1,hw,hb,h=>by
  have h0:isA T s i=false:=hb 0 (by omega);unfold jz;rw[h0];have:=Jl (l:=l) (f:=f+1) (w:=w) (by simp at hw;omega) (λt ht=>by have:=hb (t+1) (by omega);simpa using this) (by simpa using h);simp only[Bool.false_eq_true,if_false];rw[this];omega
theorem bB.ret{C:Ctx}{S:LS}{α β:Type}{r:ay α}(h:bB C S r)(e:β):bB C S (r.bind λ_ j=>.ok e j):=by
 cases r with
 |ok a i=>exact h.as rfl rfl rfl (λe=>by cases e) λc i e=>by cases e
 |err c i=>exact h.as rfl rfl rfl (λe=>by cases e) λc i e=>h.cd c i (by cases e;rfl)
 |bA=>exact absurd rfl h.no
theorem qG{α β:Type}{r:ay α}{e:β}:Ag (r.bind λ_ j=>.ok e j) e:=λa j h=>by
 cases r with
 |ok a i=>cases h;rfl
 |err c i=>cases h
 |bA=>cases h
theorem acE{β:Type}{e:β}{i:Nat}:Ag (.ok e i) e:=λ_ _ h=>by cases h;rfl
theorem y8{β:Type}{e:β}{c i:Nat}:Ag (.err c i) e:=λ_ _ h=>by cases h
end Go.X
namespace Go.Proofs.YtcedghechlgecaaGreatDoor
open Go Go.X Go.Proofs.YtcedghechlgecaaGreatDoor.G
section
variable {H:AH}{S:LS}{K:KF}{C:Ctx}{i d:Nat}
theorem awm:NB C 0 (lI C.T) (iW C.T) where
 zero e i d:=by simp only[iW]
 stop k e i d h:=by
  have h0:isA C.T [111,114] i=false:=h 0 (by decide);simp only[iW];rw[h0];rfl
 go k e i d w hw hb h:=by
  obtain rfl:w=0:=by have:(ez 0).length=1:=rfl;omega
  have h0:isA C.T [111,114] i=true:=h;simp only[iW];rw[h0];rfl
theorem awn:NB C 1 (lJ C.T) (lK C.T) where
 zero e i d:=by simp only[lK]
 stop k e i d h:=by
  have h0:isA C.T [97,110,100] i=false:=h 0 (by decide);simp only[lK];rw[h0];rfl
 go k e i d w hw hb h:=by
  obtain rfl:w=0:=by have:(ez 1).length=1:=rfl;omega
  have h0:isA C.T [97,110,100] i=true:=h;simp only[lK];rw[h0];rfl
theorem awo:∀w,w<6→(gZ 2)[w]?.getD 0=7+w:=by decide
theorem awp:∀w,w<2→(gZ 4)[w]?.getD 0=1+w:=by decide
theorem awq:∀w,w<3→(gZ 5)[w]?.getD 0=3+w:=by decide
theorem awr:NB C 2 (iy C.T) (lL C.T) where
 zero e i d:=by simp only[lL]
 stop k e i d h:=by
  have h0:jz C.T i 7 tests=0:=Ac h;simp only[lL];rw[h0];rfl
 go k e i d w hw hb h:=by
  have h0:jz C.T i 7 tests=7+w:=Jl hw hb h;have e1:=awo w hw;have h1:jz C.T i 7 tests≠0:=by omega
  simp only[lL];rw[if_neg h1,e1,h0];rfl
theorem aws:NB C 4 (lM C.T) (nC C.T) where
 zero e i d:=by simp only[nC]
 stop k e i d h:=by
  have h0:jz C.T i 1 sums=0:=Ac h;simp only[nC];rw[h0];rfl
 go k e i d w hw hb h:=by
  have h0:jz C.T i 1 sums=1+w:=Jl hw hb h;have e1:=awp w hw;have h1:jz C.T i 1 sums≠0:=by omega
  simp only[nC];rw[if_neg h1,e1,h0];rfl
theorem awt:NB C 5 (gv C.T) (lN C.T) where
 zero e i d:=by simp only[lN]
 stop k e i d h:=by
  have h0:jz C.T i 3 terms=0:=Ac h;simp only[lN];rw[h0];rfl
 go k e i d w hw hb h:=by
  have h0:jz C.T i 3 terms=3+w:=Jl hw hb h;have e1:=awq w hw;have h1:jz C.T i 3 terms≠0:=by omega
  simp only[lN];rw[if_neg h1,e1,h0];rfl
theorem atq{m:Nat}(hm:m≤1000000)(O:gO C m):∀k,2*k+4≤m+1→nc C (λd H K=>(au (m+1)).2.2.2.1 (.ptr C.bp 0) ((0:Nat):Int) (d:Int) H K) (iI C.T k):=
 x103 hm (by unfold Ap;omega) (λk hk=>O.lv1 k (by omega)) awm (λi d=>by simp only[iI]) λk i d=>by simp only[iI]
theorem atr{m:Nat}(hm:m≤1000000)(O:gO C m):∀k,2*k+4≤m+1→nc C (λd H K=>(au (m+1)).2.2.2.1 (.ptr C.bp 0) ((1:Nat):Int) (d:Int) H K) (lI C.T k):=
 x103 hm (by unfold Ap;omega) (λk hk=>O.lv2 k (by omega)) awn (λi d=>by simp only[lI]) λk i d=>by simp only[lI]
theorem ats{m:Nat}(hm:m≤1000000)(O:gO C m):∀k,2*k+4≤m+1→nc C (λd H K=>(au (m+1)).2.2.2.1 (.ptr C.bp 0) ((2:Nat):Int) (d:Int) H K) (lJ C.T k):=
 x103 hm (by unfold Ap;omega) (λk hk=>O.lv3 k (by omega)) awr (λi d=>by simp only[lJ]) λk i d=>by simp only[lJ]
theorem att{m:Nat}(hm:m≤1000000)(O:gO C m):∀k,2*k+4≤m+1→nc C (λd H K=>(au (m+1)).2.2.2.1 (.ptr C.bp 0) ((4:Nat):Int) (d:Int) H K) (oJ C.T k):=
 x103 hm (by unfold Ap;omega) (λk hk=>O.lv5 k (by omega)) aws (λi d=>by simp only[oJ]) λk i d=>by simp only[oJ]
theorem atu{m:Nat}(hm:m≤1000000)(O:gO C m):∀k,2*k+4≤m+1→nc C (λd H K=>(au (m+1)).2.2.2.1 (.ptr C.bp 0) ((5:Nat):Int) (d:Int) H K) (lM C.T k):=
 x103 hm (by unfold Ap;omega) (λk hk=>O.lv6 k (by omega)) awt (λi d=>by simp only[lM]) λk i d=>by simp only[lM]
theorem D8{H3:AH}{S3:LS}{γ:Type}{r:ay γ}{r':ay aC}{z:List AV}{v:AV}{e:aC}{Q:Nat→Prop}(hM:Mem H S)(hs:bB C S r)(hP:bd C (aK C) dc K S r')(m3:Mem H3 S3)(c3:an (aK C) S S3)(d3:bB C S3 r')(o3:S3.ob S.n=.ce z 0)(hz:z.length=7)
  (hv:dc S3 Q v e) (hQ:∀b,Q b→S.n<b∧b<S3.n) (ha:Ag r' e):ae 7 (.ptr S.n 0) v H3 λbJ=>aF 7 (.ptr S.n 0) bJ λv11=>K (.ret v11) bJ:=by
 obtain⟨c,hv,hR⟩:=hv;subst hv;refine eJ m3 o3 hz hR.len hR.ones λH4 m4=>?_;refine ew m4 (LS.aj _ _ _) hR.len ?_;exact hP.2 H4 _ _ e m4 (c3.set (.inr (Nat.le_refl _)) _) (d3.ga hs hM (Nat.le_refl _) _) ⟨c,rfl,hR.go (λb hb=>LS.ah _ _ (by have:=(hQ b hb).1;omega)) λb hb=>⟨by have:=(hQ b hb).1;omega,(hQ b hb).2⟩⟩ ha
theorem Wv{m n:Nat}{p:Nat→Nat→ay aC}(hn:n=3∨n=6)(h3:n=3→nc C (λd H K=>(au m).2.2.2.2.2.2.1 (.ptr C.bp 0) (d:Int) H K) p)(h6:n=6→nc C (λd H K=>(au m).2.2.2.2.2.2.2.1 (.ptr C.bp 0) (d:Int) H K) p) :
  nc C (λd H K=>(au (m+1)).2.2.2.1 (.ptr C.bp 0) (n:Int) (d:Int) H K) p:=by
 intro K H S i d γ x hd hM hs hP;have rd:(dQ (au m)).2.2.2.1=(au m).2.2.2.2.2.2.1:=rfl;have re:(dQ (au m)).2.2.2.2=(au m).2.2.2.2.2.2.2.1:=rfl;show ry (dQ (au m)) K (yg (dQ (au m)) K) (.ptr C.bp 0) (n:Int) (d:Int) H;unfold ry;rw[eU,rd,re];refine bE (bz hM cm λH1 m1=>?_);have c1:an aV S (S.push (.ce z7 0)):=(an.refl _ _).push _;have d1:=hs.iK hM c1;have o1:(S.push (.ce z7 0)).ob S.n=.ce z7 0:=LS.ag _ _;have hbp:=hs.dO hM;have cO:¬aK C S.n:=λq=>by have q:S.n=C.bp:=q;omega
 have e0:Int.ofNat 0=((0:Nat):Int):=rfl;have e3:Int.ofNat 3=((3:Nat):Int):=rfl;have e6:Int.ofNat 6=((6:Nat):Int):=rfl;refine iL m1 d1 ?_;have rcd:(ay.ok x i).cd=0:=rfl;rw[rcd,bq,bq,bq,e0,decide_eq_true rfl,e3,e6];simp only[Bool.not_true,ax];rcases hn with rfl|rfl
 ·rw[decide_eq_true rfl,az];refine h3 rfl hd m1 d1 (bd.tail (cV:=dc) hP λe H2 S2 v m2 c2 d2 hv hfin=>?_);obtain⟨c,hv,hR⟩:=hv;subst hv;refine eJ m2 (c2.ob m1 o1 cO) rfl hR.len hR.ones λH4 m4=>?_;refine ew m4 (LS.aj _ _ _) hR.len ?_;exact hfin H4 _ _ m4 ((c1.no.trans c2).set (.inr (Nat.le_refl _)) _) (d2.ga hs hM (Nat.le_refl _) _) ⟨c,rfl,hR.go (λb hb=>LS.ah _ _ (by have hb:S.n+1≤b:=hb.1;omega)) λb hb=>⟨by have hb:S.n+1≤b:=hb.1;omega,hb.2⟩⟩
 ·rw[decide_eq_false (by omega),ax,decide_eq_true rfl,az];refine h6 rfl hd m1 d1 (bd.tail (cV:=dc) hP λe H2 S2 v m2 c2 d2 hv hfin=>?_);obtain⟨c,hv,hR⟩:=hv;subst hv;refine eJ m2 (c2.ob m1 o1 cO) rfl hR.len hR.ones λH4 m4=>?_;refine ew m4 (LS.aj _ _ _) hR.len ?_;exact hfin H4 _ _ m4 ((c1.no.trans c2).set (.inr (Nat.le_refl _)) _) (d2.ga hs hM (Nat.le_refl _) _) ⟨c,rfl,hR.go (λb hb=>LS.ah _ _ (by have hb:S.n+1≤b:=hb.1;omega)) λb hb=>⟨by have hb:S.n+1≤b:=hb.1;omega,hb.2⟩⟩
theorem awu{m:Nat}(O:gO C m):∀k,2*k+4≤m+1→nc C (λd H K=>(au (m+1)).2.2.2.2.2.2.1 (.ptr C.bp 0) (d:Int) H K) (iy C.T k):=by
 intro k hk K H S i d γ x hd hM hs hP;cases k with
 |zero=>exact absurd (show iy C.T 0 i d=.bA by simp only[iy]) hP.1
 |succ k=>
 have ra:(mr (au m)).1=f65:=rfl;have rb:(mr (au m)).2.1=f67:=rfl;have rc:(mr (au m)).2.2.1=f68:=rfl;have rd:(mr (au m)).2.2.2.1=(au m).2.2.2.1:=rfl;have re:(mr (au m)).2.2.2.2=(au m).2.2.2.2.2.2.1:=rfl;show Dh (mr (au m)) K (yk (mr (au m)) K) (.ptr C.bp 0) (d:Int) H;unfold Dh;rw[ra,rb,rc,rd,eU];simp only[iy]at hP;have hbp:=hs.dO hM;have cO:∀b,S.n≤b→¬aK C b:=λb hb q=>by have q:b=C.bp:=q;omega
 refine bE (bz hM cm λH1 m1=>?_);have c1:an aV S (S.push (.ce z7 0)):=(an.refl _ _).push _;have d1:=hs.iK hM c1;have o1:(S.push (.ce z7 0)).ob S.n=.ce z7 0:=LS.ag _ _;have e4:Int.ofNat 4=((4:Nat):Int):=rfl;have e0:Int.ofNat 0=((0:Nat):Int):=rfl;rw[e4];refine O.lv4 k (by omega) hd m1 d1 (bd.call (cV:=dc) hP λe H2 S2 v m2 c2 d2 ⟨c,hv,hR⟩ hP2=>?_);subst hv;simp only[eU];refine bE (bz m2 cm λH3 m3=>?_);refine eJ m3 (LS.ag _ _) rfl hR.len hR.ones λH4 m4=>?_;have n12:S.n+1≤S2.n:=c2.1;have c4:an aV S2 ((S2.push (.ce z7 0)).set S2.n (.ce c 0)):=((an.refl _ _).push _).set (.inr (Nat.le_refl _)) _;have F4:=fP.mk0 (C:=C) hbp rfl (c1.no.trans c2) m2 (c2.ob m1 o1 (cO _ (Nat.le_refl _))) hR;have d4:=d2.iK m2 c4;refine lU m4 d4 ?_;rw[ai,aE];refine dT (s:=[46,46]) (aD (by decide)) m4 d4 (λy j er hi H5 S5 m5 c5 d5=>?_) λhi H5 S5 m5 c5 d5=>?_
 ·simp only[ai,aB,Bool.not_true,ax];rw[er]at hP2;have hP2:bd C (aK C) dc K S (if isA C.T [46,46] j=true then (if 100<d+1 then .err 8 (j+1) else (iy C.T k (j+1) (d+1)).bind λb k=>.ok (lT 14 6 (aq C.T j) e b) k) else .ok e j):=hP2;rw[if_pos hi]at hP2;have F5:=F4.keep m4 hbp c5;rw[dA,fL];refine w0 (by omega) (by omega) ?_;have sp:(if 100<d+1 then .err 8 (j+1) else (iy C.T k (j+1) (d+1)).bind λb k=>.ok (lT 14 6 (aq C.T j) e b) k)=((ay.ok () (j+1)).bind λ_ i=>dU (100<d+1) i).bind λ_ i=>(iy C.T k i (d+1)).bind λb k=>.ok (lT 14 6 (aq C.T j) e b) k:=by
   show _=(dU (100<d+1) (j+1)).bind _;unfold dU;split<;>rfl
  rw[sp]at hP2;refine D4 m5 d5 (bd.call (cV:=gY) hP2 λ_ H6 S6 w m6 c6 d6 _ hP3=>?_);have F6:=F5.keep m5 hbp c6;refine iL m6 d6 ?_;rw[er,bq,e0];have d6:bB C S6 (dU (100<d+1) (j+1)):=d6;have hP3:bd C (aK C) dc K S ((dU (100<d+1) (j+1)).bind λ_ i=>(iy C.T k i (d+1)).bind λb k=>.ok (lT 14 6 (aq C.T j) e b) k):=hP3;have ecd:((ay.ok () (j+1)).bind λ_ i=>dU (100<d+1) i)=dU (100<d+1) (j+1):=rfl;rw[ecd];by_cases g:100<d+1
  ·have ec:dU (100<d+1) (j+1)=.err 8 (j+1):=by unfold dU;rw[if_pos g]
   rw[ec]at d6 hP3 ⊢;rw[decide_eq_false (by show ¬((8:Nat):Int)=((0:Nat):Int);omega)];simp only[Bool.not_false,az];exact F6.JM m6 hM hs (sQ d6 rfl) hP3 y8
  ·have ec:dU (100<d+1) (j+1)=.ok () (j+1):=by unfold dU;rw[if_neg g]
   rw[ec]at d6 hP3 ⊢;rw[decide_eq_true (by show((0:Nat):Int)=((0:Nat):Int);rfl)];simp only[Bool.not_true,ax];have hP3:bd C (aK C) dc K S ((iy C.T k (j+1) (d+1)).bind λb k=>.ok (lT 14 6 (aq C.T j) e b) k):=hP3;have s0:aq C.T (oJ C.T k i d).ix=aq C.T j:=by rw[er];rfl
   show yk (mr (au m)) K (.ptr C.bp 0) (d:Int) (.ptr S.n 0) (.ptr S2.n 0) (aq C.T j:Int) H6;unfold yk;rw[re,dA,fL];refine w0 (by omega) (by omega) ?_;refine O.join k (by omega) (show d+1≤200 by omega) m6 d6 (bd.call (cV:=dc) hP3 λb H7 S7 v m7 c7 d7 ⟨cb,hv,hRb⟩ na=>?_);subst hv;have F7:=F6.keep m6 hbp c7;have lt6:S.n<S6.n∧S2.n<S6.n:=⟨by obtain⟨z,hz,_⟩:=F6.o1;exact m6.lt (by rw[hz];simp),m6.lt (by rw[F6.o3];simp)⟩
   refine bE ?_;rw[eU];refine bz m7 cm λH8 m8=>?_;refine eJ m8 (LS.ag _ _) rfl hRb.len hRb.ones λH9 m9=>?_;have c9:an aV S7 ((S7.push (.ce z7 0)).set S7.n (.ce cb 0)):=((an.refl _ _).push _).set (.inr (Nat.le_refl _)) _;have F9:=F7.keep m7 hbp c9.no;have d9:=d7.iK m7 c9;have Wt:((S7.push (.ce z7 0)).set S7.n (.ce cb 0)).ob S7.n=.ce cb 0:=LS.aj _ _ _;have R9:RE ((S7.push (.ce z7 0)).set S7.n (.ce cb 0)) (λb=>S.n≤b∧b<((S7.push (.ce z7 0)).set S7.n (.ce cb 0)).n∧b≠S.n∧b≠S2.n) cb b:=hRb.go (λb hb=>c9.2 b hb.2 λq=>q) λb hb=>⟨by have:=hb.1;omega,Nat.lt_of_lt_of_le hb.2 c9.1,by have:=hb.1;omega,by have:=hb.1;omega⟩
   refine ew m9 F9.o3 F9.len ?_;refine ew m9 Wt hRb.len ?_;simp only[dD];refine dv F9.len (dv hRb.len ?_);rw[tF F9.len hRb.len rfl];have SS:∀a∈c,a.one=true:=by obtain⟨Q,h1,_⟩:=F9.re;exact h1.ones
   have hnew:=Og (at_:=aq C.T j) (kind:=14) (op:=6) F9 m9 hbp R9;refine cA m9 (by rw[List.length_append,F9.len,hRb.len]) (λa h=>?_) λHa ma=>?_
   ·rcases List.mem_append.1 h with g|g
    ·exact SS a g
    ·exact hRb.ones a g
   refine ey rfl ?_;have ca:an aV _ (((S7.push (.ce z7 0)).set S7.n (.ce cb 0)).push (.ce (c++cb) 0)):=(an.refl aV ((S7.push (.ce z7 0)).set S7.n (.ce cb 0))).push _;obtain⟨z,hz,lP⟩:=F9.o1;exact D8 (z:=z) hM hs na ma (F9.x.trans ca.no) ((d9.iK m9 ca).ret _) (ca.ob m9 hz λq=>q) lP ⟨_,rfl,hnew⟩ (λb hb=>⟨by omega,hb.2.1⟩) qG
 ·simp only[ai,aB,Bool.not_false,az];rw[zX hi]at hP2;exact(F4.keep m4 hbp c5).JM m5 hM hs (d5.ret e) hP2 qG
theorem awv{m:Nat}(O:gO C m):∀k,2*k+4≤m+1→nc C (λd H K=>(au (m+1)).2.2.2.2.2.2.2.1 (.ptr C.bp 0) (d:Int) H K) (gv C.T k):=by
 intro k hk K H S i d γ x hd hM hs hP;cases k with
 |zero=>exact absurd (show gv C.T 0 i d=.bA by simp only[gv]) hP.1
 |succ k=>
 have ra:(mu (au m)).1=f65:=rfl;have rb:(mu (au m)).2.1=f67:=rfl;have rc:(mu (au m)).2.2.1=f68:=rfl;have rd:(mu (au m)).2.2.2.1=(au m).2.2.2.2.2.2.2.1:=rfl;have re:(mu (au m)).2.2.2.2=(au m).2.2.2.2.2.2.2.2.1:=rfl;show Di (mu (au m)) K (yl (mu (au m)) K) (.ptr C.bp 0) (d:Int) H;unfold Di;rw[rb,rc,re,eU];simp only[gv]at hP;have hbp:=hs.dO hM;have cO:∀b,S.n≤b→¬aK C b:=λb hb q=>by have q:b=C.bp:=q;omega
 have e0:Int.ofNat 0=((0:Nat):Int):=rfl;refine bE (bz hM cm λH1 m1=>?_);have c1:an aV S (S.push (.ce z7 0)):=(an.refl _ _).push _;have d1:=hs.iK hM c1;have o1:(S.push (.ce z7 0)).ob S.n=.ce z7 0:=LS.ag _ _;refine lU m1 d1 ?_;rw[ai,aE];have s0:(ay.ok x i).ix=i:=rfl;rw[s0];have signed:∀{H3:AH}{S3:LS}(kd:Nat),s7 C.T i=kd→kd≠0→Mem H3 S3→an (aK C) S S3→bB C S3 (.ok () (i+1):ay Unit)→S3.ob S.n=.ce z7 0→yl (mu (au m)) K (.ptr C.bp 0) (d:Int) (.ptr S.n 0) (aq C.T i:Int) (kd:Int) H3:=by
  intro H3 S3 kd hkd hk0 m3 c3 d3 o3;rw[hkd,if_neg hk0]at hP;unfold yl;rw[ra,rd,dA,fL];refine w0 (by omega) (by omega) ?_;have sp:(if 100<d+1 then .err 8 (i+1) else (gv C.T k (i+1) (d+1)).bind λe j=>.ok (aC.mk kd (aq C.T i) 0 [] 0 [e] []) j)=((ay.ok () (i+1)).bind λ_ i=>dU (100<d+1) i).bind λ_ j=>(gv C.T k j (d+1)).bind λe j=>.ok (aC.mk kd (aq C.T i) 0 [] 0 [e] []) j:=by
   show _=(dU (100<d+1) (i+1)).bind _;unfold dU;split<;>rfl
  rw[sp]at hP;refine D4 m3 d3 (bd.call (cV:=gY) hP λ_ H4 S4 w m4 c4 d4 _ hP3=>?_);have o4:=c4.ob m3 o3 (cO _ (Nat.le_refl _));have n4:S.n<S4.n:=m4.lt (by rw[o4];simp);have c34:=c3.trans c4;refine iL m4 d4 ?_;rw[bq,e0];have d4:bB C S4 (dU (100<d+1) (i+1)):=d4;have hP3:bd C (aK C) dc K S ((dU (100<d+1) (i+1)).bind λ_ j=>(gv C.T k j (d+1)).bind λe j=>.ok (aC.mk kd (aq C.T i) 0 [] 0 [e] []) j):=hP3;have ecd:((ay.ok () (i+1)).bind λ_ i=>dU (100<d+1) i)=dU (100<d+1) (i+1):=rfl;rw[ecd];by_cases g:100<d+1
  ·have ec:dU (100<d+1) (i+1)=.err 8 (i+1):=by unfold dU;rw[if_pos g]
   rw[ec]at d4 hP3 ⊢;rw[decide_eq_false (by show ¬((8:Nat):Int)=((0:Nat):Int);omega)];simp only[Bool.not_false,az];exact D8 (z:=z7) (e:=.mk 0 0 0 [] 0 [] []) (Q:=λ_=>False) hM hs hP3 m4 c34 (sQ d4 rfl) o4 rfl ⟨z7,rfl,RE.zero⟩ (λb hb=>hb.elim) y8
  ·have ec:dU (100<d+1) (i+1)=.ok () (i+1):=by unfold dU;rw[if_neg g]
   rw[ec]at d4 hP3 ⊢;rw[decide_eq_true (by show((0:Nat):Int)=((0:Nat):Int);rfl)];simp only[Bool.not_true,ax];have hP3:bd C (aK C) dc K S ((gv C.T k (i+1) (d+1)).bind λe j=>.ok (.mk kd (aq C.T i) 0 [] 0 [e] []) j):=hP3;refine w0 (by omega) (by omega) ?_;refine O.unary k (by omega) (show d+1≤200 by omega) m4 d4 (bd.call (cV:=dc) hP3 λe H5 S5 v m5 c5 d5 ⟨c,hv,hR⟩ na=>?_);subst hv;have o5:=c5.ob m4 o4 (cO _ (Nat.le_refl _));rw[dD];refine dv hR.len ?_;rw[qE hR.len rfl];refine cA m5 (by rw[hR.len]) hR.ones λH6 m6=>?_;refine ey rfl ?_;have c6:an aV S5 (S5.push (.ce c 0)):=(an.refl _ _).push _;have n5:S4.n≤S5.n:=c5.1;have hRp:RE (S5.push (.ce c 0)) (fb (S.n+1) (S5.push (.ce c 0)).n) [.int 0 (kd:Int),.int 0 (aq C.T i:Int),.int 0 ((0:Nat):Int),af [],.int 0 ((0:Nat):Int),.slice S5.n 0 1 1 7 true,.ab] (.mk kd (aq C.T i) 0 [] 0 [e] []):=
    RE.one (b:=S5.n) (m:=0) ⟨by omega,Nat.lt_succ_self _⟩ (LS.ag _ _) (hR.go (λb hb=>LS.aZ _ _ hb.2) λb hb=>⟨by have:=hb.1;omega,Nat.lt_succ_of_lt hb.2⟩)
   exact D8 (z:=z7) hM hs na m6 ((c34.trans c5).trans c6.no) ((d5.iK m5 c6).ret _) (c6.ob m5 o5 λq=>q) rfl ⟨_,rfl,hRp⟩ (λb hb=>⟨by have:=hb.1;omega,hb.2⟩) qG
 refine dT (s:=[110,111,116]) (aD (by decide)) m1 d1 (λy j er hi H2 S2 m2 c2 d2=>?_) λh1 H2 S2 m2 c2 d2=>?_
 ·cases er;simp only[ai,aB,az];exact signed 11 (by unfold s7;rw[hi];rfl) (by omega) m2 (c1.no.trans c2) d2 (c2.ob m1 o1 (cO _ (Nat.le_refl _)))
 have h1:isA C.T [110,111,116] i=false:=h1;simp only[ai,aB,ax];have o2:=c2.ob m1 o1 (cO _ (Nat.le_refl _));have c12:=c1.no.trans c2;refine dT (s:=[45]) (aD (by decide)) m2 d2 (λy j er hi H3 S3 m3 c3 d3=>?_) λh2 H3 S3 m3 c3 d3=>?_
 ·cases er;simp only[ai,aB,az];exact signed 12 (by unfold s7;rw[h1,hi];rfl) (by omega) m3 (c12.trans c3) d3 (c3.ob m2 o2 (cO _ (Nat.le_refl _)))
 have h2:isA C.T [45] i=false:=h2;simp only[ai,aB,ax];have o3:=c3.ob m2 o2 (cO _ (Nat.le_refl _));have c13:=c12.trans c3;refine dT (s:=[35]) (aD (by decide)) m3 d3 (λy j er hi H4 S4 m4 c4 d4=>?_) λh3 H4 S4 m4 c4 d4=>?_
 ·cases er;simp only[ai,aB,az];exact signed 13 (by unfold s7;rw[h1,h2,hi];rfl) (by omega) m4 (c13.trans c4) d4 (c4.ob m3 o3 (cO _ (Nat.le_refl _)))
 have h3:isA C.T [35] i=false:=h3;simp only[ai,aB,ax];have o4:=c4.ob m3 o3 (cO _ (Nat.le_refl _));have c14:=c13.trans c4;have hu:s7 C.T i=0:=by unfold s7;rw[h1,h2,h3];rfl
 rw[if_pos hu]at hP;have n4:S.n<S4.n:=m4.lt (by rw[o4];simp);refine O.post k (by omega) hd m4 d4 (bd.tail (cV:=dc) hP λe H5 S5 v m5 c5 d5 hv hfin=>?_);obtain⟨c,hv,hR⟩:=hv;subst hv;refine eJ m5 (c5.ob m4 o4 (cO _ (Nat.le_refl _))) rfl hR.len hR.ones λH6 m6=>?_;refine ew m6 (LS.aj _ _ _) hR.len ?_;exact hfin H6 _ _ m6 ((c14.trans c5).set (.inr (Nat.le_refl _)) _) (d5.ga hs hM (Nat.le_refl _) _) ⟨c,rfl,hR.go (λb hb=>LS.ah _ _ (by have:=hb.1;omega)) λb hb=>⟨by have:=hb.1;omega,hb.2⟩⟩
end
end Go.Proofs.YtcedghechlgecaaGreatDoor
namespace Go.X
section
variable {H:AH}{S S':LS}
theorem aX.push{α:Type}{R:Rep α}{Z:Nat→Prop}{bytes:Nat}{v:AV}{l:List α}{a:α}{c:List AV}{Q:Nat→Prop}{k:AV→AH→Prop}(h:aX R Z S v l)(hM:Mem H S)(hr:R.rel S Q c a)(hQ:∀b,Q b→Z b∧b<S.n∧¬aG v b)(hnew:∀b,S.n≤b→Z b)(hl:(l.length+1)*bytes≤1099511627776)
  (hk:∀H' S' v',Mem H' S'→aX R Z S' v' (l++[a])→S.n≤S'.n→(∀b,b<S.n→¬aG v b→S'.ob b=S.ob b)→(∀b,aG v' b→aG v b∨S.n≤b)→v'.one=true→k v' H'):aN (aA H) 1 R.sz c λx H'=>dh R.sz bytes v x H' k:=by
 obtain⟨cl,h1,h2⟩:=id h;refine AQ hM h1 R.pos (R.len hr) hl (R.ones hr) λH' S' v' m' he=>?_;have g:=h.step hr hQ hnew λcl' h'=>by rw[h1.uniq h'];exact he
 exact hk H' S' v' m' g he.1 he.2.1 he.2.2.2 (g.toR (lo:=0) λb _=>Nat.zero_le _).one
theorem aX.done{α:Type}{R:Rep α}{Z:Nat→Prop}{v:AV}{l:List α}(h:aX R Z S v l)(hM:Mem H S):∃cl,cM S (λb=>Z b∧b<S.n) R.sz v l.length cl∧∀i a,l[i]? = some a→R.rel S (λb=>Z b∧b<S.n) (cl i) a:=by
 obtain⟨cl,h1,h2,h3,h4⟩:=h;have hsz:∀c∈cl,c.length=R.sz:=λc hc=>by
  obtain⟨i,hi,e⟩:=List.mem_iff_getElem.1 hc;obtain⟨_,g,_⟩:=h4 i c (l[i]'(by omega)) (by rw[List.getElem?_eq_getElem hi,e]) (List.getElem?_eq_getElem _);exact R.len g
 refine⟨λi=>cl[i]?.getD [],?_,λi a ha=>?_⟩
 ·rcases h1 with⟨rfl,e,_⟩|⟨b,c,ex,cs,rfl,g2,g3,g4,g5,g6,g7⟩
  ·exact .inl ⟨rfl,e⟩
  ·refine .inr ⟨b,0,c,ex,cs,0,rfl,⟨h3 b rfl,hM.lt (by rw[g2];simp)⟩,g2,g4,by rw[g3,Nat.zero_add];exact Nat.mul_le_mul_right _ g4,λi hi=>?_⟩;have hic:i<cl.length:=by omega
   have e1:=Nt hsz (List.getElem?_eq_getElem hic);show(cs.drop (0+i*R.sz)).take R.sz=cl[i]?.getD [];rw[List.getElem?_eq_getElem hic,Option.getD_some,←e1,Nat.zero_add];have hle:(i+1)*R.sz≤l.length*R.sz:=Nat.mul_le_mul_right _ (by omega);rw[Nat.add_mul,Nat.one_mul]at hle
   conv=>rhs;rw[←g6]
   rw[List.drop_take,List.take_take,Nat.min_eq_left (by omega)]
 ·have hil:=(List.getElem?_eq_some_iff.1 ha).1;have hic:i<cl.length:=by omega
  obtain⟨Q,g1,g2⟩:=h4 i _ a (List.getElem?_eq_getElem hic) ha;show R.rel S _ (cl[i]?.getD []) a;rw[List.getElem?_eq_getElem hic,Option.getD_some];exact R.go (λ_ _=>rfl) (λb hb=>⟨(g2 b hb).1,(g2 b hb).2.1⟩) g1
theorem aX.one{α:Type}{R:Rep α}{Z:Nat→Prop}{v:AV}{l:List α}(h:aX R Z S v l):v.one=true:=(h.toR (lo:=0) λb _=>Nat.zero_le _).one
theorem aX.same{α:Type}{R:Rep α}{Z:Nat→Prop}{v:AV}{l:List α}(h:aX R Z S v l):aU v v=true:=(h.toR (lo:=0) λb _=>Nat.zero_le _).same
theorem aX.xk{α:Type}{R:Rep α}{Z:Nat→Prop}{v:AV}{l:List α}{k:AV→Prop}(h:aX R Z S v l)(hk:k (.int 0 l.length)):dp v k:=(h.toR (lo:=0) λb _=>Nat.zero_le _).xk hk
theorem aX.single{α:Type}{R:Rep α}{Z Q:Nat→Prop}{b:Nat}{c:List AV}{a:α}(hb:S.ob b=.ce c 0)(hz:Z b)(hr:R.rel S Q c a)(hQ:∀x,Q x→Z x∧x<S.n∧x≠b):aX R Z S (.slice b 0 1 1 R.sz true) [a]:=by
 have hl:=R.len hr;refine⟨[c],.inr ⟨b,1,true,c,rfl,hb,by omega,Nat.le_refl _,by simp[hl],by simp,R.ones hr⟩,rfl,λx hx=>?_,λi c' a' hc ha=>?_⟩
 ·have hx:x=b:=hx;rw[hx];exact hz
 ·cases i with
  |zero=>
   have e1:c=c':=by simpa using hc
   have e2:a=a':=by simpa using ha
   subst e1;subst e2;exact⟨Q,hr,λx hx=>⟨(hQ x hx).1,(hQ x hx).2.1,λq=>(hQ x hx).2.2 (by have q:x=b:=q;exact q)⟩⟩
  |succ i=>simp at hc
end
end Go.X
namespace Go.Proofs.YtcedghechlgecaaGreatDoor
open Go Go.X Go.Proofs.YtcedghechlgecaaGreatDoor.G
section
variable {H:AH}{S:LS}{K:KF}{C:Ctx}{i d:Nat}
theorem fP.atv{S0:LS}{b1 b3:Nat}{c:List AV}{e:aC}{r:ay aC}(h:fP C S0 S b1 b3 c e)(hM:Mem H S)(hbp:C.bp<S0.n)(bK:∀b,aG C.vT b→b<S0.n)(hd:bB C S r)(hP:bd C (aK C) dc K S0 r)(ha:Ag r e) :
  aF 7 (.ptr b3 0) H λv1=>ae 7 (.ptr b1 0) v1 H λH2=>aF 7 (.ptr b1 0) H2 λv3=>K (.ret v3) H2:=by
 obtain⟨z,hz,lP⟩:=h.o1;obtain⟨Q,h1,h2⟩:=h.re;have hn:=h.n1;refine acA hM h.o3 h1.len h1.ones hz lP λH' m=>?_;exact hP.2 H' _ _ e m (h.x.set (.inr h.n1) _) (hd.setB (by omega) (λx hx=>by have:=bK x hx;omega) _) ⟨c,rfl,h1.go (λb hb=>LS.ah _ _ (h2 b hb).2.2.1) λb hb=>⟨(h2 b hb).1,(h2 b hb).2.1⟩⟩ ha
structure qL(C:Ctx)(S0 S:LS)(b1 b3:Nat):Prop where
 x:an (aK C) S0 S
 o1:∃z,S.ob b1=.ce z 0∧z.length=7
 o3:∃z,S.ob b3=.ce z 0∧z.length=7
 n1:S0.n≤b1
 n3:S0.n≤b3
 ne:b1≠b3
theorem fP.w{S0:LS}{b1 b3:Nat}{c:List AV}{e:aC}(h:fP C S0 S b1 b3 c e):qL C S0 S b1 b3:=⟨h.x,h.o1,⟨c,h.o3,h.len⟩,h.n1,h.n3,h.ne⟩
theorem qL.lt{S0:LS}{b1 b3:Nat}(h:qL C S0 S b1 b3)(hM:Mem H S):b1<S.n∧b3<S.n:=⟨by obtain⟨z,hz,_⟩:=h.o1;exact hM.lt (by rw[hz];simp),by obtain⟨z,hz,_⟩:=h.o3;exact hM.lt (by rw[hz];simp)⟩
theorem qL.Jm{S0 S':LS}{b1 b3:Nat}{Y:Nat→Prop}(h:qL C S0 S b1 b3)(hM:Mem H S)(g:an Y S S')(h1:∀b,Y b→b≠b1∧b≠b3∧(b=C.bp∨S0.n≤b)):qL C S0 S' b1 b3:=by
 obtain⟨z,hz,lP⟩:=h.o1;obtain⟨y,hy,hy7⟩:=h.o3;exact⟨h.x.gi g λb hb=>(h1 b hb).2.2.elim (λq=>.inl q) .inr,⟨z,g.ob hM hz λq=>(h1 _ q).1 rfl,lP⟩,⟨y,g.ob hM hy λq=>(h1 _ q).2.1 rfl,hy7⟩,h.n1,h.n3,h.ne⟩
theorem qL.keep{S0 S':LS}{b1 b3:Nat}(h:qL C S0 S b1 b3)(hM:Mem H S)(hbp:C.bp<S0.n)(g:an (aK C) S S'):qL C S0 S' b1 b3:=
 h.Jm hM g λb hb=>by
  have hb:b=C.bp:=hb;have:=h.n1;have:=h.n3;exact⟨by omega,by omega,.inl hb⟩
theorem qL.lf{S0:LS}{b1 b3:Nat}{c':List AV}{e':aC}(h:qL C S0 S b1 b3){Q:Nat→Prop}(hr:RE S Q c' e')(hQ:∀b,Q b→S0.n≤b∧b<S.n∧b≠b1∧b≠b3):fP C S0 (S.set b3 (.ce c' 0)) b1 b3 c' e':=by
 obtain⟨z,hz,lP⟩:=h.o1;exact⟨h.x.set (.inr h.n3) _,⟨z,(LS.ah _ _ h.ne).trans hz,lP⟩,LS.aj _ _ _,h.n1,h.n3,h.ne,Q,hr.go (λb hb=>LS.ah _ _ (hQ b hb).2.2.2) (λ_ h=>h),hQ⟩
def zB(S0:LS)(b1 b3:Nat):Nat→Prop:=λb=>S0.n≤b∧b≠b1∧b≠b3
def Ad(T:List Tok)(k:Nat)(out:List aC)(i d:Nat):ay (List aC):=if out.length=16 then .err 8 i else (bY T k i d).bind λe j=>dt T k false (out++[e]) j d
section
variable {m k:Nat}{X:AV→Int→AV→AV→AH→Prop}{S0:LS}{b1 b3:Nat}
def Ww(C:Ctx)(S0:LS)(K:KF)(b1 b3 k d:Nat)(X:AV→Int→AV→AV→AH→Prop):Prop:=∀(e:aC) (c:List AV) (H:AH) (S:LS){γ:Type}(r:ay γ),Mem H S→bB C S r→fP C S0 S b1 b3 c e→bd C (aK C) dc K S0 (r.bind λ_ i=>dj C.T k e i d)→X (.ptr C.bp 0) (d:Int) (.ptr b3 0) (.ptr b1 0) H
theorem ajV{pos:Nat}(hbp:C.bp<S0.n)(bK:∀b,aG C.vT b→b<S0.n)(hX:Ww C S0 K b1 b3 k d X){e:aC}{out:List aC}{v:AV}{γ:Type}{r:ay γ}(hM:Mem H S)(hs:bB C S r)(F:qL C S0 S b1 b3)(L:aX fZ (zB S0 b1 b3) S v (e::out))(hP:bd C (aK C) dc K S0 (r.bind λ_ j=>dj C.T k (.mk 10 pos 0 [] 0 (e::out) []) j d)) :
  C9 (dd (au m)) K X (.ptr C.bp 0) (d:Int) (.ptr b3 0) (.ptr b1 0) (pos:Int) v H:=by
 unfold C9;refine ey L.one ?_;obtain⟨cl,h1,h2⟩:=L.done hM;have hnew:RE S (λb=>zB S0 b1 b3 b∧b<S.n) [.int 0 ((10:Nat):Int),.int 0 (pos:Int),.int 0 ((0:Nat):Int),af [],.int 0 ((0:Nat):Int),v,.ab] (.mk 10 pos 0 [] 0 (e::out) []):=
  .mk 10 pos 0 [] 0 (e::out) [] v .ab cl (λ_=>[]) B8.nil h1 h2 (cM.nil _ _ _ _) (λi e h=>by simp at h)
 obtain⟨z,hz,lP⟩:=F.o3;refine eJ hM hz lP hnew.len hnew.ones λH1 m1=>?_;have hn3:=F.n3;exact hX _ _ H1 _ r m1 (hs.setB (by omega) (λx hx=>by have:=bK x hx;omega) _) (F.lf hnew λb hb=>⟨hb.1.1,hb.2,hb.1.2⟩) hP
theorem _root_.Go.X.aX.bp{α:Type}{R:Rep α}{v:AV}{l:List α}{S':LS}(L:aX R (zB S0 b1 b3) S v l)(hM:Mem H S)(hbp:C.bp<S0.n)(g:an (aK C) S S'):aX R (zB S0 b1 b3) S' v l:=
 L.keep hM g.1 λb h1 h2=>g.2 b h2 λq=>by have q:b=C.bp:=q;have:=h1.1;omega
theorem ajW{pos:Nat}(hbp:C.bp<S0.n)(bK:∀b,aG C.vT b→b<S0.n)(hX:Ww C S0 K b1 b3 k d X){e:aC}{out:List aC}{v:AV}{γ:Type}{r:ay γ}(hM:Mem H S)(hs:bB C S r)(F:qL C S0 S b1 b3)(L:aX fZ (zB S0 b1 b3) S v (e::out))(hP:bd C (aK C) dc K S0 (r.bind λ_ i=>(aW C.T [41] i).bind λ_ j=>dj C.T k (.mk 10 pos 0 [] 0 (e::out) []) j d)) :
  uf (dd (au m)) K X (.ptr C.bp 0) (d:Int) (.ptr b3 0) (.ptr b1 0) (pos:Int) v H:=by
 have r5:(dd (au m)).2.2.2.2.1=f106:=rfl;show Da (dd (au m)) K (yi (dd (au m)) K X) (.ptr C.bp 0) (d:Int) (.ptr b3 0) (.ptr b1 0) (pos:Int) v H;unfold Da;rw[r5];refine ll (s:=[41]) (aD (by decide)) hM hs (bd.call (cV:=gY) hP.seq λ_ H1 S1 w m1 c1 d1 _ hP1=>?_);exact ajV hbp bK hX m1 d1 (F.keep hM hbp c1) (L.bp hM hbp c1) hP1
theorem ajX{pos:Nat}(O:gO C m)(hd:d≤200)(hbp:C.bp<S0.n)(bK:∀b,aG C.vT b→b<S0.n)(hX:Ww C S0 K b1 b3 k d X){e:aC}{Y:AV→Int→AV→AV→Int→AV→AH→Prop}{k8:Nat}(hk:2*k8+4≤m)
  (hrec:∀k',k8=k'+1→∀(out:List aC) (v:AV) (H:AH) (S:LS){γ:Type}(r:ay γ),out.length≤16→Mem H S→bB C S r→qL C S0 S b1 b3→aX fZ (zB S0 b1 b3) S v (e::out)→bd C (aK C) dc K S0 ((r.bind λ_ i=>Ad C.T k' out i d).bind λl j=>dj C.T k (.mk 10 pos 0 [] 0 (e::l) []) j d)→Y (.ptr C.bp 0) (d:Int) (.ptr b3 0) (.ptr b1 0) (pos:Int) v H)
  (out:List aC) (v:AV) (H:AH) (S:LS){γ:Type}(r:ay γ) (ho:out.length≤16) (hM:Mem H S) (hs:bB C S r) (F:qL C S0 S b1 b3) (L:aX fZ (zB S0 b1 b3) S v (e::out))
  (hP:bd C (aK C) dc K S0 ((r.bind λ_ i=>Ad C.T k8 out i d).bind λl j=>dj C.T k (.mk 10 pos 0 [] 0 (e::l) []) j d)) :
  Lj (dd (au m)) K X Y (.ptr C.bp 0) (d:Int) (.ptr b3 0) (.ptr b1 0) (pos:Int) v H:=by
 have r2:(dd (au m)).2.1=f68:=rfl;have r3:(dd (au m)).2.2.1=(au m).2.1:=rfl;have r6:(dd (au m)).2.2.2.2.2=f136:=rfl;have e0:Int.ofNat 0=((0:Nat):Int):=rfl;have e16:Int.ofNat 16=((16:Nat):Int):=rfl;show Dd (dd (au m)) K (uf (dd (au m)) K X) (Dc (dd (au m)) K X Y) (.ptr C.bp 0) (d:Int) (.ptr b3 0) (.ptr b1 0) (pos:Int) v H;unfold Dd;rw[r3,r6];refine iL hM hs ?_;rw[bq,e0];rcases By hs with⟨ec,a,i,rfl⟩|⟨ec,c1,i,rfl⟩
 ·rw[ec,decide_eq_true rfl,az];refine L.xk ?_;rw[aE,zC,fL,e16];have el:(((e::out).length:Nat):Int)-((1:Nat):Int)=(out.length:Int):=by rw[List.length_cons];omega
  have sp:((ay.ok a i).bind λ_ i=>Ad C.T k8 out i d).bind (λl j=>dj C.T k (.mk 10 pos 0 [] 0 (e::l) []) j d)=(((ay.ok a i).bind λ_ i=>dU (16≤out.length) i).bind λ_ i=>(bY C.T k8 i d).bind λx j=>(dt C.T k8 false (out++[x]) j d).bind λl j=>dj C.T k (.mk 10 pos 0 [] 0 (e::l) []) j d):=by
   show(Ad C.T k8 out i d).bind _=(dU (16≤out.length) i).bind _;unfold Ad dU;by_cases g:out.length=16
   ·rw[if_pos g,if_pos (by omega)];rfl
   ·rw[if_neg g,if_neg (by omega),bV];rfl
  rw[sp]at hP;refine w0 (by omega) (by omega) ?_;have el':(((e::out).length:Nat):Int)-1=(out.length:Int):=by rw[List.length_cons];omega
  rw[show(((e::out).length:Nat):Int)-1=(out.length:Int)from el'];refine MI hM hs (bd.call (cV:=gY) hP λ_ H1 S1 w m1 c1 d1 _ hP1=>?_);have F1:=F.keep hM hbp c1;have L1:=L.bp hM hbp c1;refine O.exp k8 hk hd m1 d1 (bd.call (cV:=dc) hP1.seq λx H2 S2 v2 m2 c2 d2 ⟨cb,hv,hR⟩ hP2=>?_);subst hv;have F2:=F1.keep m1 hbp c2;have L2:=L1.bp m1 hbp c2;have Nw:=F1.lt m1;have n1:=F1.x.1;rw[dD];refine dv hR.len ?_;rw[qE hR.len rfl];refine L2.push (R:=fZ) (bytes:=96) m2 hR (λb hb=>⟨⟨by have:=hb.1;omega,by have:=hb.1;omega,by have:=hb.1;omega⟩,hb.2,λq=>by have:=L1.lt m1 q;have:=hb.1;omega⟩) (λb hb=>⟨by have:=c2.1;omega,by have:=c2.1;omega,by have:=c2.1;omega⟩) (by rw[List.length_cons];omega) λH3 S3 v3 m3 L3 n3 k3 bk3 ho3=>?_;have hvn:∀b,aG v b→zB S0 b1 b3 b:=λb hb=>L.o0 hb;have c3:an (λb=>aG v b) S2 S3:=⟨n3,λb hb hx=>k3 b hb hx⟩
  have d3:=d2.keep m2 c3 (λq=>by have:=(hvn _ q).1;omega) (λb hb q=>by have:=(hvn _ q).1;have:=bK b hb;omega);have F3:qL C S0 S3 b1 b3:=F2.Jm m2 c3 λb hb=>⟨(hvn b hb).2.1,(hvn b hb).2.2,.inr (hvn b hb).1⟩
  show Dc (dd (au m)) K X Y (.ptr C.bp 0) (d:Int) (.ptr b3 0) (.ptr b1 0) (pos:Int) v3 H3;show Db (dd (au m)) K Y (uf (dd (au m)) K X) (.ptr C.bp 0) (d:Int) (.ptr b3 0) (.ptr b1 0) (pos:Int) v3 H3;unfold Db;rw[r2];refine dT (s:=[44]) (aD (by decide)) m3 d3 (λy j er hi H4 S4 m4 c4 d4=>?_) λhi H4 S4 m4 c4 d4=>?_
  ·simp only[ai,aB,Bool.not_true,ax];rw[er]at hP2;have hP2:bd C (aK C) dc K S0 ((dt C.T k8 false (out++[x]) j d).bind λl j=>dj C.T k (.mk 10 pos 0 [] 0 (e::l) []) j d):=hP2;cases k8 with
   |zero=>exact absurd (show(dt C.T 0 false (out++[x]) j d).bind _=.bA by simp only[dt];rfl) hP2.1
   |succ k8=>
    have ol:out.length<16:=by
     rcases Nat.lt_or_ge out.length 16 with g|g
     ·exact g
     ·exfalso;have e1:((ay.ok a i).bind λ_ i=>dU (16≤out.length) i)=.err 8 i:=by show dU _ i=_;unfold dU;rw[if_pos g]
      rw[e1]at er;cases er
    have sp:dt C.T (k8+1) false (out++[x]) j d=Ad C.T k8 (out++[x]) (j+1) d:=by
     simp only[dt,Bool.false_eq_true,if_false,hi,if_true];rfl
    rw[sp]at hP2;exact hrec k8 rfl (out++[x]) v3 H4 S4 (.ok () (j+1):ay Unit) (by simp;omega) m4 d4 (F3.keep m3 hbp c4) (by have:=L3.bp m3 hbp c4;exact this) hP2
  ·simp only[ai,aB,Bool.not_false,az];refine ajW hbp bK hX m4 d4 (F3.keep m3 hbp c4) (out:=out++[x]) (by have:=L3.bp m3 hbp c4;exact this) ?_;have sp:∀r':ay aC,pW C.T [44] r'=false→(r'.bind λ_ j=>(dt C.T k8 false (out++[x]) j d).bind λl j=>dj C.T k (.mk 10 pos 0 [] 0 (e::l) []) j d)≠.bA→(r'.bind λ_ j=>(dt C.T k8 false (out++[x]) j d).bind λl j=>dj C.T k (.mk 10 pos 0 [] 0 (e::l) []) j d)=r'.bind λ_ i=>(aW C.T [41] i).bind λ_ j=>dj C.T k (.mk 10 pos 0 [] 0 (e::(out++[x])) []) j d:=by
    intro r' hi2 hno;cases r' with
    |bA=>rfl
    |err c i=>rfl
    |ok y j=>
     have hi3:isA C.T [44] j=false:=hi2;cases k8 with
     |zero=>exact absurd (show(dt C.T 0 false (out++[x]) j d).bind _=.bA by simp only[dt];rfl) hno
     |succ k8=>
      have e1:dt C.T (k8+1) false (out++[x]) j d=(aW C.T [41] j).bind λ_ j=>.ok (out++[x]) j:=by
       simp only[dt,Bool.false_eq_true,if_false];rw[hi3];rfl
      show(dt C.T (k8+1) false (out++[x]) j d).bind _=(aW C.T [41] j).bind _;rw[e1,bV];rfl
   rw[sp _ hi hP2.1]at hP2;exact hP2
 ·rw[decide_eq_false (by omega),ax];exact ajW hbp bK hX hM hs F L hP
theorem atw{pos:Nat}(O:gO C m)(hd:d≤200)(hbp:C.bp<S0.n)(bK:∀b,aG C.vT b→b<S0.n)(hX:Ww C S0 K b1 b3 k d X){e:aC} :
  ∀k8,2*k8+4≤m→∀(q:Nat) (out:List aC) (v:AV) (H:AH) (S:LS){γ:Type}(r:ay γ),k8<q→out.length≤16→Mem H S→bB C S r→qL C S0 S b1 b3→aX fZ (zB S0 b1 b3) S v (e::out)→
  bd C (aK C) dc K S0 ((r.bind λ_ i=>Ad C.T k8 out i d).bind λl j=>dj C.T k (.mk 10 pos 0 [] 0 (e::l) []) j d)→
  yj (dd (au m)) K X q (.ptr C.bp 0) (d:Int) (.ptr b3 0) (.ptr b1 0) (pos:Int) v H:=by
 intro k8
 induction k8 with
 |zero=>
  intro hk q out v H S γ r hq ho hM hs F L hP;obtain⟨q,rfl⟩:∃p,q=p+1:=⟨q-1,by omega⟩
  exact ajX O hd hbp bK hX hk (λk' h=>absurd h (by omega)) out v H S r ho hM hs F L hP
 |succ k8 ih=>
  intro hk q out v H S γ r hq ho hM hs F L hP;obtain⟨q,rfl⟩:∃p,q=p+1:=⟨q-1,by omega⟩
  exact ajX O hd hbp bK hX hk (λk' h out v H S γ r ho hM hs F L hP=>by
   obtain rfl:k8=k':=by omega
   exact ih (by omega) q out v H S r (by omega) ho hM hs F L hP) out v H S r ho hM hs F L hP
theorem ajY(hm:m≤1000000)(O:gO C m)(hd:d≤200)(hbp:C.bp<S0.n)(bK:∀b,aG C.vT b→b<S0.n)(hk:2*k+4≤m+1)
  (hrec:∀k',k=k'+1→Ww C S0 K b1 b3 k' d X) (e:aC) (c:List AV) (H:AH) (S:LS){γ:Type}(r:ay γ) (hM:Mem H S) (hs:bB C S r) (F:fP C S0 S b1 b3 c e) (hP:bd C (aK C) dc K S0 (r.bind λ_ i=>dj C.T k e i d)) :
  Lm (dd (au m)) K X (.ptr C.bp 0) (d:Int) (.ptr b3 0) (.ptr b1 0) H:=by
 have r1:(dd (au m)).1=f67:=rfl;have r2:(dd (au m)).2.1=f68:=rfl;have r3:(dd (au m)).2.2.1=(au m).2.1:=rfl;have r4:(dd (au m)).2.2.2.1=f104:=rfl;have r5:(dd (au m)).2.2.2.2.1=f106:=rfl;have e0:Int.ofNat 0=((0:Nat):Int):=rfl;have nb:∀b,S0.n≤b→b≠C.bp:=λb hb=>by omega
 have nvT:∀b,S0.n≤b→∀x,aG C.vT x→x≠b:=λb hb x hx=>by have:=bK x hx;omega
 show Df (dd (au m)) K (Lh (dd (au m)) K X) (Li (dd (au m)) K X) (Lk (dd (au m)) K X) (Ll (dd (au m)) K) (.ptr C.bp 0) (d:Int) (.ptr b3 0) (.ptr b1 0) H;unfold Df;rw[r1,r2,r3];refine iL hM hs ?_;rw[bq,e0];rcases By hs with⟨ec,a,i,rfl⟩|⟨ec,c1,i,rfl⟩
 ·rw[ec,decide_eq_true rfl,az];cases k with
  |zero=>exact absurd (show dj C.T 0 e i d=.bA by simp only[dj]) hP.1
  |succ k=>
  have hX:=hrec k rfl;have hP:bd C (aK C) dc K S0 (dj C.T (k+1) e i d):=hP;simp only[dj]at hP;refine lU hM hs ?_;rw[ai,aE];have s0:(ay.ok a i).ix=i:=rfl;rw[s0];refine dT (s:=[46]) (aD (by decide)) hM hs (λy j er hi H1 S1 m1 c1 d1=>?_) λh1 H1 S1 m1 c1 d1=>?_
  ·cases er;rw[if_pos hi]at hP;simp only[ai,aB,az];have F1:=F.keep hM hbp c1;refine lU m1 d1 ?_;rw[ai,aE];have auA:(ay.ok () (i+1)).ix=i+1:=rfl;rw[auA];simp only[eU];refine bE (bz m1 cm λH2 m2=>?_);refine eJ m2 (c:=[.int 0 ((5:Nat):Int),.int 0 (aq C.T (i+1):Int),.int 0 ((0:Nat):Int),af [],.int 0 ((0:Nat):Int),.ab,.ab]) (LS.ag _ _) rfl rfl (λa h=>?_) λH3 m3=>?_
   ·simp only[List.mem_cons,List.not_mem_nil,or_false]at h;rcases h with rfl|rfl|rfl|rfl|rfl|rfl|rfl<;>rfl
   have c3:an aV S1 ((S1.push (.ce z7 0)).set S1.n (.ce [.int 0 ((5:Nat):Int),.int 0 (aq C.T (i+1):Int),.int 0 ((0:Nat):Int),af [],.int 0 ((0:Nat):Int),.ab,.ab] 0)):=((an.refl _ _).push _).set (.inr (Nat.le_refl _)) _;have d3:=d1.iK m1 c3;have F3:=F1.keep m1 hbp c3.no;have o3:LS.ob _ S1.n=_:=LS.aj (S1.push (.ce z7 0)) S1.n (.ce [.int 0 ((5:Nat):Int),.int 0 (aq C.T (i+1):Int),.int 0 ((0:Nat):Int),af [],.int 0 ((0:Nat):Int),.ab,.ab] 0);have n3:S0.n≤S1.n:=F1.x.1;have Nw:b1<S1.n∧b3<S1.n:=F1.w.lt m1;show C7 (dd (au m)) K X (.ptr C.bp 0) (d:Int) (.ptr b3 0) (.ptr b1 0) (aq C.T i:Int) (.ptr S1.n 0) H3;unfold C7;rw[r4];refine uA m3 d3 (bd.call (cV:=Nu) hP λs H4 S4 v m4 c4 d4 ⟨hv,h8⟩ hP2=>?_);subst hv;have F4:=F3.keep m3 hbp c4;have o4:=c4.ob m3 o3 λq=>by have q:S1.n=C.bp:=q;omega
   rw[aL,Nat.zero_add];refine aT m4 o4 (by omega) (by show 3<7;omega) (fe s) λH5 m5=>?_;have m5:Mem H5 (S4.set S1.n (.ce [.int 0 ((5:Nat):Int),.int 0 (aq C.T (i+1):Int),.int 0 ((0:Nat):Int),af s,.int 0 ((0:Nat):Int),.ab,.ab] 0)):=m5;have F5:fP C S0 (S4.set S1.n (.ce [.int 0 ((5:Nat):Int),.int 0 (aq C.T (i+1):Int),.int 0 ((0:Nat):Int),af s,.int 0 ((0:Nat):Int),.ab,.ab] 0)) b1 b3 c e:=by
    obtain⟨z,hz,lP⟩:=F4.o1;obtain⟨Q,g1,g2⟩:=F1.re;exact⟨F4.x.set (.inr n3) _,⟨z,(LS.ah _ _ (by omega)).trans hz,lP⟩,(LS.ah _ _ (by omega)).trans F4.o3,F4.n1,F4.n3,F4.ne,Q,g1.go (λb hb=>by
     have h2:=g2 b hb;rw[LS.ah _ _ (by omega),c4.2 b (Nat.lt_of_lt_of_le h2.2.1 c3.1) (λq=>by have q:b=C.bp:=q;omega)];exact c3.2 b h2.2.1 λq=>q) (λ_ h=>h),λb hb=>⟨(g2 b hb).1,Nat.lt_of_lt_of_le (g2 b hb).2.1 (Nat.le_trans c3.1 c4.1),(g2 b hb).2.2⟩⟩
   have d5:=d4.setB (nb _ n3) (nvT _ n3) (.ce [.int 0 ((5:Nat):Int),.int 0 (aq C.T (i+1):Int),.int 0 ((0:Nat):Int),af s,.int 0 ((0:Nat):Int),.ab,.ab] 0);have hR:RE (S4.set S1.n (.ce [.int 0 ((5:Nat):Int),.int 0 (aq C.T (i+1):Int),.int 0 ((0:Nat):Int),af s,.int 0 ((0:Nat):Int),.ab,.ab] 0)) (λb=>S0.n≤b∧b<S4.n∧b≠b1∧b≠b3) [.int 0 ((5:Nat):Int),.int 0 (aq C.T (i+1):Int),.int 0 ((0:Nat):Int),af s,.int 0 ((0:Nat):Int),.ab,.ab] (.mk 5 (aq C.T (i+1)) 0 s 0 [] []):=RE.simple h8;refine ew m5 F5.o3 F5.len ?_;refine ew m5 (LS.aj _ _ _) rfl ?_;simp only[dD];refine dv F5.len (dv rfl ?_);rw[tF F5.len rfl rfl];have SS:∀a∈c,a.one=true:=by obtain⟨Q,h1,_⟩:=F5.re;exact h1.ones
   refine cA m5 (by rw[List.length_append,F5.len];rfl) (λa h=>?_) λH6 m6=>ey rfl ?_
   ·rcases List.mem_append.1 h with g|g
    ·exact SS a g
    ·exact hR.ones a g
   have hnew:=Og (at_:=aq C.T i) (kind:=9) (op:=0) F5 m5 hbp hR;have c6:=(an.refl aV (S4.set S1.n (.ce [.int 0 ((5:Nat):Int),.int 0 (aq C.T (i+1):Int),.int 0 ((0:Nat):Int),af s,.int 0 ((0:Nat):Int),.ab,.ab] 0))).push (.ce (c++[.int 0 ((5:Nat):Int),.int 0 (aq C.T (i+1):Int),.int 0 ((0:Nat):Int),af s,.int 0 ((0:Nat):Int),.ab,.ab]) 0);have F6:=F5.keep m5 hbp c6.no;refine eJ m6 F6.o3 F6.len hnew.len hnew.ones λH7 m7=>?_;exact hX _ _ H7 _ _ m7 ((d5.iK m5 c6).setB (nb _ F.n3) (nvT _ F.n3) _) (F6.lf hnew λb hb=>hb) hP2
  have h1:isA C.T [46] i=false:=h1;rw[if_neg (by rw[h1];simp)]at hP;simp only[ai,aB,ax];have F1:=F.keep hM hbp c1;refine dT (s:=[91]) (aD (by decide)) m1 d1 (λy j er hi H2 S2 m2 c2 d2=>?_) λh2 H2 S2 m2 c2 d2=>?_
  ·cases er;rw[if_pos hi]at hP;simp only[ai,aB,az];have F2:=F1.keep m1 hbp c2;have lt2:b1<S2.n∧b3<S2.n:=F2.w.lt m2;have n2:=F2.x.1;refine O.exp k (by omega) hd m2 d2 (bd.call (cV:=dc) hP λx H3 S3 v m3 c3 d3 ⟨cb,hv,hR⟩ hP2=>?_);subst hv;have F3:=F2.keep m2 hbp c3;simp only[eU];refine bE (bz m3 cm λH4 m4=>?_);refine eJ m4 (LS.ag _ _) rfl hR.len hR.ones λH5 m5=>?_;have c5:an aV S3 ((S3.push (.ce z7 0)).set S3.n (.ce cb 0)):=((an.refl _ _).push _).set (.inr (Nat.le_refl _)) _;have F5:=F3.keep m3 hbp c5.no;have d5:=d3.iK m3 c5;have o5:LS.ob _ S3.n=_:=LS.aj (S3.push (.ce z7 0)) S3.n (.ce cb 0);have n3:S2.n≤S3.n:=c3.1;show C8 (dd (au m)) K X (.ptr C.bp 0) (d:Int) (.ptr b3 0) (.ptr b1 0) (aq C.T i:Int) (.ptr S3.n 0) H5;unfold C8;rw[r5];refine ll (s:=[93]) (aD (by decide)) m5 d5 (bd.call (cV:=gY) hP2.seq λ_ H6 S6 w m6 c6 d6 _ hP3=>?_);have F6:=F5.keep m5 hbp c6;have o6:=c6.ob m5 o5 λq=>by have q:S3.n=C.bp:=q;omega
   have R6:RE S6 (λb=>S0.n≤b∧b<S6.n∧b≠b1∧b≠b3) cb x:=hR.go (λb hb=>by
    rw[c6.2 b (Nat.lt_of_lt_of_le hb.2 c5.1) (λq=>by have q:b=C.bp:=q;have:=hb.1;omega)];exact c5.2 b hb.2 λq=>q) λb hb=>⟨by have:=hb.1;omega,Nat.lt_of_lt_of_le hb.2 (Nat.le_trans c5.1 c6.1),by have:=hb.1;omega,by have:=hb.1;omega⟩
   refine ew m6 F6.o3 F6.len ?_;refine ew m6 o6 hR.len ?_;simp only[dD];refine dv F6.len (dv hR.len ?_);rw[tF F6.len hR.len rfl];have SS:∀a∈c,a.one=true:=by obtain⟨Q,h1,_⟩:=F6.re;exact h1.ones
   refine cA m6 (by rw[List.length_append,F6.len,hR.len]) (λa h=>?_) λH7 m7=>ey rfl ?_
   ·rcases List.mem_append.1 h with g|g
    ·exact SS a g
    ·exact hR.ones a g
   have hnew:=Og (at_:=aq C.T i) (kind:=9) (op:=0) F6 m6 hbp R6;have c7:=(an.refl aV S6).push (.ce (c++cb) 0);have F7:=F6.keep m6 hbp c7.no;refine eJ m7 F7.o3 F7.len hnew.len hnew.ones λH8 m8=>?_;exact hX _ _ H8 _ _ m8 ((d6.iK m6 c7).setB (nb _ F.n3) (nvT _ F.n3) _) (F7.lf hnew λb hb=>hb) hP3
  have h2:isA C.T [91] i=false:=h2;rw[if_neg (by rw[h2];simp)]at hP;simp only[ai,aB,ax];have F2:=F1.keep m1 hbp c2;refine dT (s:=[40]) (aD (by decide)) m2 d2 (λy j er hi H3 S3 m3 c3 d3=>?_) λh3 H3 S3 m3 c3 d3=>?_
  ·cases er;rw[if_pos hi]at hP;simp only[ai,aB,az];have F3:=F2.keep m2 hbp c3;refine ew m3 F3.o3 F3.len ?_;rw[dD];refine dv F3.len ?_;rw[qE F3.len rfl];obtain⟨Q,g1,g2⟩:=F3.re;have n3:=F3.x.1;have SJ:=F3.w.lt m3;refine cA m3 (by rw[F3.len]) g1.ones λH4 m4=>?_;have c4:an aV S3 (S3.push (.ce c 0)):=(an.refl _ _).push _;have d4:=d3.iK m3 c4;have F4:=F3.keep m3 hbp c4.no;have L4:aX fZ (zB S0 b1 b3) (S3.push (.ce c 0)) (.slice S3.n 0 1 1 7 true) [e]:=
    aX.single (R:=fZ) (Q:=Q) (LS.ag _ _) ⟨by omega,by omega,by omega⟩ (g1.go (λb hb=>LS.aZ _ _ (g2 b hb).2.1) λ_ h=>h) λb hb=>⟨⟨(g2 b hb).1,(g2 b hb).2.2⟩,Nat.lt_succ_of_lt (g2 b hb).2.1,by have:=(g2 b hb).2.1;omega⟩
   show De (dd (au m)) K (yj (dd (au m)) K X G.NL) (yi (dd (au m)) K X) (.ptr C.bp 0) (d:Int) (.ptr b3 0) (.ptr b1 0) (aq C.T i:Int) (.slice S3.n 0 1 1 7 true) H4;unfold De;rw[r2];have gf:G.NL=1000000:=rfl;generalize G.NL=iA at gf ⊢;refine dT (s:=[41]) (aD (by decide)) m4 d4 (λy j er hi H5 S5 m5 c5 d5=>?_) λh4 H5 S5 m5 c5 d5=>?_
   ·cases er;simp only[ai,aB,Bool.not_true,ax];cases k with
    |zero=>exact absurd (show(dt C.T 0 true [] (i+1) d).bind _=.bA by simp only[dt];rfl) hP.1
    |succ k=>
    have sp:dt C.T (k+1) true [] (i+1) d=.ok [] (i+1+1):=by
     simp only[dt,if_true];rw[hi];simp only[Bool.not_true,Bool.false_eq_true,if_false,aW];rw[hi];rfl
    rw[sp]at hP;exact ajV hbp bK hX (r:=(.ok () (i+1+1):ay Unit)) m5 d5 (F4.w.keep m4 hbp c5) (by have:=L4.bp m4 hbp c5;exact this) hP
   ·simp only[ai,aB,Bool.not_false,az];have h4:isA C.T [41] (i+1)=false:=h4;cases k with
    |zero=>exact absurd (show(dt C.T 0 true [] (i+1) d).bind _=.bA by simp only[dt];rfl) hP.1
    |succ k=>
    have sp:dt C.T (k+1) true [] (i+1) d=(ay.ok () (i+1)).bind λ_ i=>Ad C.T k [] i d:=by
     show _=Ad C.T k [] (i+1) d;simp only[dt,if_true];rw[h4];rfl
    rw[sp]at hP;exact atw O hd hbp bK hX k (by omega) iA [] _ H5 S5 _ (by omega) (by simp) m5 d5 (F4.w.keep m4 hbp c5) (by have:=L4.bp m4 hbp c5;exact this) hP
  have h3:isA C.T [40] i=false:=h3;rw[if_neg (by rw[h3];simp)]at hP;simp only[ai,aB,ax];exact(F2.keep m2 hbp c3).atv m3 hbp bK (Oh d3) hP acE
 ·rw[decide_eq_false (by omega),ax];exact F.atv hM hbp bK (sQ hs rfl) hP y8
theorem atx(hm:m≤1000000)(O:gO C m)(hd:d≤200)(hbp:C.bp<S0.n)(bK:∀b,aG C.vT b→b<S0.n):∀k,2*k+4≤m+1→∀q,k<q→Ww C S0 K b1 b3 k d (Dg (dd (au m)) K q):=by
 intro k
 induction k with
 |zero=>
  intro hk q hq e c H S γ r hM hs F hP;obtain⟨q,rfl⟩:∃p,q=p+1:=⟨q-1,by omega⟩
  exact ajY hm O hd hbp bK hk (λk' h=>absurd h (by omega)) e c H S r hM hs F hP
 |succ k ih=>
  intro hk q hq e c H S γ r hM hs F hP;obtain⟨q,rfl⟩:∃p,q=p+1:=⟨q-1,by omega⟩
  exact ajY hm O hd hbp bK hk (λk' h=>by
   obtain rfl:k=k':=by omega
   exact ih (by omega) q (by omega)) e c H S r hM hs F hP
end
theorem x107{m:Nat}(hm:m≤1000000)(O:gO C m):∀k,2*k+4≤m+1→∀{K:KF}{H:AH}{S S0:LS}{d:Nat}{c:List AV}{e:aC}{γ:Type}{r:ay γ},d≤200→Mem H S→an (aK C) S0 S→C.bp<S0.n→(∀b,aG C.vT b→b<S0.n)→bB C S r→RE S (fb S0.n S.n) c e→bd C (aK C) dc K S0 (r.bind λ_ i=>dj C.T k e i d)→(au (m+1)).2.2.2.2.2.1 (.ptr C.bp 0) (.agg c) (d:Int) H K:=by
 intro k hk K H S S0 d c e γ r hd hM hx hbp bK hs hR hP;have e7:(au (m+1)).2.2.2.2.2.1=Bi (dd (au m)):=by rw[D7]
 rw[e7];unfold Bi VF Ln;have gf:G.NL=1000000:=rfl;generalize G.NL=iA at gf ⊢;refine EJ hM hR.ones λH1 m1=>?_;rw[eU];refine bE (bz m1 cm λH2 m2=>?_);have c2:an aV S ((S.push (.ce c 0)).push (.ce z7 0)):=((an.refl _ _).push _).push _;have n0:=hx.1;refine atx hm O hd hbp bK k (by omega) iA (by omega) e c H2 _ r m2 (hs.iK hM c2) ⟨hx.trans c2.no,⟨z7,LS.ag _ _,rfl⟩,?_,by show S0.n≤S.n+1;omega,n0,by show S.n+1≠S.n;omega,fb S0.n S.n,hR.go (λb hb=>c2.2 b hb.2 λq=>q) (λ_ h=>h),λb hb=>⟨hb.1,Nat.lt_of_lt_of_le hb.2 c2.1,by have:=hb.2;show b≠S.n+1;omega,by have:=hb.2;omega⟩⟩ hP;rw[LS.aZ _ _ (by show S.n<S.n+1;omega)];exact LS.ag _ _
end
section
variable {H:AH}{S:LS}{K:KF}{C:Ctx}{i d:Nat}
theorem aqb{T:List Tok}{s:List Nat}{i:Nat}(h:isA T s i=true):bH T i=1∨bH T i=5:=by
 unfold isA at h;simp only[Bool.and_eq_true,Bool.or_eq_true,decide_eq_true_eq]at h;exact h.1
theorem Wx(T:List Tok)(k a i d:Nat):jJ T (k+1) a i d=(pFn T k i d).bind λf j=>.ok (.mk 7 a 0 [] 0 [] [f]) j:=by
 unfold pFn;simp only[jJ,bV];rfl
theorem RE.fn{Q:Nat→Prop}{at_ b m:Nat}{ex:Bool}{f:iP}{c:List AV}(hQ:Q b)(hb:S.ob b=.ce c m)(h1:RF S Q c f):RE S Q [.int 0 ((7:Nat):Int),.int 0 (at_:Int),.int 0 ((0:Nat):Int),af [],.int 0 ((0:Nat):Int),.ab,.slice b 0 1 1 2 ex] (.mk 7 at_ 0 [] 0 [] [f]):=by
 refine .mk 7 at_ 0 [] 0 [] [f] .ab _ (λ_=>[]) (λ_=>c) B8.nil (cM.nil _ _ _ _) (λi e h=>by simp at h) (cM.single hQ hb h1.len) (λi e h=>?_);cases i with
 |zero=>
  have e1:f=e:=by simpa using h
  subst e1;exact h1
 |succ i=>simp at h
theorem acF{k:AH→Prop}{γ:Type}{a:γ}(hM:Mem H S)(hs:bB C S (ay.ok a i))(hlt:i+1<C.T.length)(hk:∀H' S',Mem H' S'→an (aK C) S S'→bB C S' (.ok () (i+1):ay Unit)→k H') :
  aP (.ptr C.bp 0) (al 1 (.ptr C.bp 0) λv9=>ak v9 H λv10=>cI 0 v10 λz11=>aJ 0 (Int.add z11 (.ofNat 1)) λz12=>aP (.ptr C.bp 0) (al 1 (.ptr C.bp 0) λv13=>ae 1 v13 (.int 0 z12) H k)):=by
 have hfew:=C.few;simp only[cj,aL,Nat.zero_add];refine aw hM hs.ob (v:=.int 0 (i:Int)) rfl ?_;simp only[aE,dA,fL];refine w0 (by omega) (by omega) ?_;refine aT hM hs.ob (by omega) (by show 1<4;omega) rfl λH2 m2=>?_;exact hk H2 _ m2 (an.rL (an.refl _ _) _) (hs.ok () hlt)
theorem x167{m:Nat}(hm:m≤1000000)(O:gO C m):∀k,2*k+4≤m+1→nc C (λd H K=>(au (m+1)).2.2.2.2.2.2.2.2.1 (.ptr C.bp 0) (d:Int) H K) (jZ C.T k):=by
 intro k hk K H S i d γ x hd hM hs hP;cases k with
 |zero=>exact absurd (show jZ C.T 0 i d=.bA by simp only[jZ]) hP.1
 |succ k=>
 have r1:(fB (au m)).1=f28:=rfl;have r2:(fB (au m)).2.1=f67:=rfl;have r3:(fB (au m)).2.2.1=f68:=rfl;have r4:(fB (au m)).2.2.2.1=(au m).2.1:=rfl;have r5:(fB (au m)).2.2.2.2.1=(au m).2.2.2.2.1:=rfl;have r6:(fB (au m)).2.2.2.2.2.1=f106:=rfl;have r7:(fB (au m)).2.2.2.2.2.2.1=(au m).2.2.2.2.2.1:=rfl;have r8:(fB (au m)).2.2.2.2.2.2.2=(au m).2.2.2.2.2.2.2.2.2:=rfl;have e0:Int.ofNat 0=((0:Nat):Int):=rfl;have e2:Int.ofNat 2=((2:Nat):Int):=rfl;have e3:Int.ofNat 3=((3:Nat):Int):=rfl;have e4:Int.ofNat 4=((4:Nat):Int):=rfl;show Dq (fB (au m)) K (LC (fB (au m)) K) (.ptr C.bp 0) (d:Int) H;unfold Dq;rw[r2,eU];simp only[jZ]at hP;have hbp:=hs.dO hM;have bK:∀b,aG C.vT b→b<S.n:=λb hb=>hs.tk.lt hM hb;have cO:∀b,S.n≤b→¬aK C b:=λb hb q=>by have q:b=C.bp:=q;omega
 refine bE (bz hM cm λH1 m1=>?_);have c1:an aV S (S.push (.ce z7 0)):=(an.refl _ _).push _;have d1:=hs.iK hM c1;have o1:(S.push (.ce z7 0)).ob S.n=.ce z7 0:=LS.ag _ _;refine lU m1 d1 ?_;rw[ai,aE];have s0:(ay.ok x i).ix=i:=rfl;rw[s0];simp only[cj,aL,Nat.zero_add];refine aw m1 d1.ob (v:=C.vT) rfl ?_;refine aw m1 d1.ob (v:=.int 0 (i:Int)) rfl ?_;simp only[aE];refine d1.tk.load m1 d1.lt ?_;rw[rK (show i<C.T.length from hs.lt)];refine m1.bG (bE (bz m1 (λa ha=>?_) λH2 m2=>cE (mJ (by rw[m2.n,m1.n];rfl)) ?_))
 ·simp only[List.mem_cons,List.not_mem_nil,or_false]at ha;rcases ha with rfl|rfl|rfl|rfl<;>rfl
 refine gK m2 (LS.ag _ _) (by omega) rfl (by show 0+4≤4;omega) Aa λH3 m3=>?_;have m3:Mem H3 (((S.push (.ce z7 0)).push (.ce [.int 0 (.ofNat 0),.str 0 0,.int 0 (.ofNat 0),.int 0 (.ofNat 0)] 0)).set (S.n+1) (.ce (dY C.T i) 0)):=m3;have c3:an aV S (((S.push (.ce z7 0)).push (.ce [.int 0 (.ofNat 0),.str 0 0,.int 0 (.ofNat 0),.int 0 (.ofNat 0)] 0)).set (S.n+1) (.ce (dY C.T i) 0)):=(c1.push _).set (.inr (Nat.le_succ _)) _;have d3:=hs.iK hM c3;have o3:(((S.push (.ce z7 0)).push (.ce [.int 0 (.ofNat 0),.str 0 0,.int 0 (.ofNat 0),.int 0 (.ofNat 0)] 0)).set (S.n+1) (.ce (dY C.T i) 0)).ob S.n=.ce z7 0:=by
  rw[LS.ah _ _ (by omega),LS.aZ _ _ (by show S.n<S.n+1;omega)];exact o1
 have t3:(((S.push (.ce z7 0)).push (.ce [.int 0 (.ofNat 0),.str 0 0,.int 0 (.ofNat 0),.int 0 (.ofNat 0)] 0)).set (S.n+1) (.ce (dY C.T i) 0)).ob (S.n+1)=.ce (dY C.T i) 0:=LS.aj _ _ _;revert m3 c3 d3 o3 t3;generalize ((S.push (.ce z7 0)).push (.ce [.int 0 (.ofNat 0),.str 0 0,.int 0 (.ofNat 0),.int 0 (.ofNat 0)] 0)).set (S.n+1) (.ce (dY C.T i) 0)=S3;intro m3 c3 d3 o3 t3;show Dp (fB (au m)) K (Lw (fB (au m)) K) (Ly (fB (au m)) K) (Lz (fB (au m)) K) (LA (fB (au m)) K) (LB (fB (au m)) K) (.ptr C.bp 0) (d:Int) (.ptr S.n 0) (aq C.T i:Int) (.ptr (S.n+1) 0) H3;unfold Dp;rw[r3,r4,r5,r8];have n3:S.n+1<S3.n:=m3.lt (by rw[t3];simp);refine iL m3 d3 ?_;have rcd:(ay.ok x i).cd=0:=rfl;rw[rcd,bq,e0,decide_eq_true rfl];simp only[Bool.not_true,ax];have lone:∀{H4:AH}{S4:LS}{kd nn:Nat}{tx:List Nat},B8 tx→bd C (aK C) dc K S (.ok (.mk kd (aq C.T i) nn tx 0 [] []) (i+1))→Mem H4 S4→an (aK C) S S4→bB C S4 (.ok () (i+1):ay Unit)→S4.ob S.n=.ce z7 0→
   ae 7 (.ptr S.n 0) (.agg [.int 0 (kd:Int),.int 0 (aq C.T i:Int),.int 0 (nn:Int),af tx,.int 0 ((0:Nat):Int),.ab,.ab]) H4 λH5=>aF 7 (.ptr S.n 0) H5 λv48=>K (.ret v48) H5:=by
  intro H4 S4 kd nn tx h8 hP m4 c4 d4 o4;exact D8 (z:=z7) (Q:=λ_=>False) hM hs hP m4 c4 (Oh d4) o4 rfl ⟨_,rfl,RE.simple h8⟩ (λb hb=>hb.elim) acE
 have kS:∀{H4:AH}{S4:LS}{j:Int}{P Q:Prop},Mem H4 S4→S4.ob (S.n+1)=.ce (dY C.T i) 0→bI (decide ((bH C.T i:Int)=j)) P Q→al 0 (.ptr (S.n+1) 0) λv6=>ak v6 H4 λv7=>cI 0 v7 λz8=>bI (bj z8 j) P Q:=by
  intro H4 S4 j P Q m4 t4 h;rw[aL];refine aw m4 t4 (v:=.int 0 (bH C.T i:Int)) rfl ?_;rw[aE,bq];exact h
 refine kS m3 t3 ?_;rw[e2];by_cases g2:bH C.T i=2
 ·rw[decide_eq_true (by omega),az];rw[if_pos (.inl g2)]at hP;cases k with
  |zero=>exact absurd (show(eZ C.T 0 i d).bind _=.bA by simp only[eZ];rfl) hP.1
  |succ k=>
  have sp:eZ C.T (k+1) i d=.ok (.mk 6 (aq C.T i) 0 (dR C.T i) 0 [] []) (i+1):=by
   simp only[eZ];rw[if_neg (by omega),if_neg (by omega),if_pos g2]
  rw[sp]at hP;refine acF m3 d3 (iX C.ok (by omega)) λH4 S4 m4 c4 d4=>?_;have t4:=c4.ob m3 t3 (cO _ (by omega));have o4:=c4.ob m3 o3 (cO _ (Nat.le_refl _));have Jn:=c3.no.trans c4;show Dj (fB (au m)) K (.ptr C.bp 0) (d:Int) (.ptr S.n 0) (aq C.T i:Int) (.ptr (S.n+1) 0) H4;unfold Dj;rw[r7,aL];refine aw m4 t4 (v:=af (dR C.T i)) rfl ?_;refine ey (fe _) ?_;have hR:RE S4 (fb S4.n S4.n) [.int 0 ((6:Nat):Int),.int 0 (aq C.T i:Int),.int 0 ((0:Nat):Int),af (dR C.T i),.int 0 ((0:Nat):Int),.ab,.ab] (.mk 6 (aq C.T i) 0 (dR C.T i) 0 [] []):=RE.simple (mz C i);have n4:=Jn.1;have n34:=c4.1;refine O.behind (k+1) (by omega) hd m4 (S0:=S4) (an.refl _ _) (by omega) (λb hb=>by have:=bK b hb;omega) d4 hR (bd.tail (cV:=dc) (show bd C (aK C) dc K S ((ay.ok () (i+1)).bind λ_ i=>_)from hP) λe H5 S5 v m5 c5 d5 hv hfin=>?_);obtain⟨c,hv,hR⟩:=hv;subst hv;refine eJ m5 (c5.ob m4 o4 (cO _ (Nat.le_refl _))) rfl hR.len hR.ones λH6 m6=>?_;refine ew m6 (LS.aj _ _ _) hR.len ?_;exact hfin H6 _ _ m6 ((Jn.trans c5).set (.inr (Nat.le_refl _)) _) (d5.ga hs hM (Nat.le_refl _) _) ⟨c,rfl,hR.go (λb hb=>LS.ah _ _ (by have:=hb.1;omega)) λb hb=>⟨by have:=hb.1;omega,hb.2⟩⟩
 rw[decide_eq_false (by omega),ax];refine dT (s:=[40]) (aD (by decide)) m3 d3 (λy j er hi H4 S4 m4 c4 d4=>?_) λh1 H4 S4 m4 c4 d4=>?_
 ·cases er;simp only[ai,aB,az];rw[if_pos (.inr hi)]at hP;have k15:=aqb hi;cases k with
  |zero=>exact absurd (show(eZ C.T 0 i d).bind _=.bA by simp only[eZ];rfl) hP.1
  |succ k=>
  have nl:jY C.T i=0∧isA C.T [102,117,110,99,116,105,111,110] i=false∧isA C.T [123] i=false:=by
   have ht:dR C.T i=[40]:=by
    unfold isA at hi;simp only[Bool.and_eq_true,decide_eq_true_eq]at hi;exact hi.2
   have ne:∀s:List Nat,s≠[40]→isA C.T s i=false:=λs hs=>by
    unfold isA;rw[ht,decide_eq_false (p:=[40]=s) λq=>hs q.symm,Bool.and_false]
   refine⟨?_,ne _ (by decide),ne _ (by decide)⟩;unfold jY;rw[ne _ (by decide),ne _ (by decide),ne _ (by decide)];rfl
  have sp:eZ C.T (k+1) i d=(bY C.T k (i+1) d).bind λe j=>(aW C.T [41] j).bind λ_ j=>.ok e j:=by
   simp only[eZ];rw[if_neg (by omega),if_neg (by omega),if_neg g2,if_neg (by omega),if_neg (by rw[nl.2.1];simp),if_neg (by rw[nl.2.2];simp),if_pos hi]
  rw[sp,bV]at hP;have Jn:=c3.no.trans c4;have o4:=c4.ob m3 o3 (cO _ (Nat.le_refl _));have n4:=c4.1;refine O.exp k (by omega) hd m4 d4 (bd.call (cV:=dc) hP λe H5 S5 v m5 c5 d5 ⟨c,hv,hR⟩ hP2=>?_);subst hv;have o5:=c5.ob m4 o4 (cO _ (Nat.le_refl _));have n5:=c5.1;refine bE ?_;rw[eU];refine bz m5 cm λH6 m6=>?_;refine eJ m6 (LS.ag _ _) rfl hR.len hR.ones λH7 m7=>?_;have c7:an aV S5 ((S5.push (.ce z7 0)).set S5.n (.ce c 0)):=((an.refl _ _).push _).set (.inr (Nat.le_refl _)) _;have d7:=d5.iK m5 c7;have o7:=c7.ob m5 o5 λq=>q;have b7:LS.ob _ S5.n=_:=LS.aj (S5.push (.ce z7 0)) S5.n (.ce c 0);show Dk (fB (au m)) K (.ptr C.bp 0) (d:Int) (.ptr S.n 0) (.ptr S5.n 0) H7;unfold Dk;rw[r6,r7];have hP3:bd C (aK C) dc K S ((ay.bind (ay.bind (ay.ok () (i+1)) λ_ i=>bY C.T k i d) λ_ j=>aW C.T [41] j).bind λ_ j=>dj C.T (k+1) e j d):=by
   have e1:(ay.bind (ay.bind (ay.ok () (i+1)) λ_ i=>bY C.T k i d) λ_ j=>((aW C.T [41] j).bind λ_ j=>.ok e j).bind λe j=>dj C.T (k+1) e j d)=((ay.bind (ay.bind (ay.ok () (i+1)) λ_ i=>bY C.T k i d) λ_ j=>aW C.T [41] j).bind λ_ j=>dj C.T (k+1) e j d):=by
    rw[bV (ay.bind (ay.ok () (i+1)) λ_ i=>bY C.T k i d) (λ_ j=>aW C.T [41] j)];congr 1;funext _ j;rw[bV];rfl
   rw[←e1];exact hP2
  refine ll (s:=[41]) (aD (by decide)) m7 d7 (bd.call (cV:=gY) hP3 λ_ H8 S8 w m8 c8 d8 _ na=>?_);have b8:=c8.ob m7 b7 (cO _ (by omega));have o8:=c8.ob m7 o7 (cO _ (Nat.le_refl _));refine ew m8 b8 hR.len ?_;have R8:RE S8 (fb S4.n S8.n) c e:=hR.go (λb hb=>by
   rw[c8.2 b (Nat.lt_of_lt_of_le hb.2 c7.1) (cO _ (by have:=hb.1;omega))];exact c7.2 b hb.2 λq=>q) λb hb=>⟨hb.1,Nat.lt_of_lt_of_le hb.2 (Nat.le_trans c7.1 c8.1)⟩
  have x48:an (aK C) S4 S8:=(c5.trans c7.no).trans c8;refine O.behind (k+1) (by omega) hd m8 (S0:=S4) x48 (by omega) (λb hb=>by have:=bK b hb;omega) d8 R8 (bd.tail (cV:=dc) na λe' H9 S9 v m9 c9 d9 hv hfin=>?_);obtain⟨c',hv,hR'⟩:=hv;subst hv;refine eJ m9 (c9.ob m4 o4 (cO _ (Nat.le_refl _))) rfl hR'.len hR'.ones λHa ma=>?_;refine ew ma (LS.aj _ _ _) hR'.len ?_;exact hfin Ha _ _ ma ((Jn.trans c9).set (.inr (Nat.le_refl _)) _) (d9.ga hs hM (Nat.le_refl _) _) ⟨c',rfl,hR'.go (λb hb=>LS.ah _ _ (by have:=hb.1;omega)) λb hb=>⟨by have:=hb.1;omega,hb.2⟩⟩
 have h1:isA C.T [40] i=false:=h1;simp only[ai,aB,ax];rw[if_neg (by rintro(q|q);exact g2 q;rw[h1]at q;cases q)]at hP;have t4:=c4.ob m3 t3 (cO _ (by omega));have o4:=c4.ob m3 o3 (cO _ (Nat.le_refl _));have Jn:=c3.no.trans c4;cases k with
 |zero=>exact absurd (show eZ C.T 0 i d=.bA by simp only[eZ]) hP.1
 |succ k=>
 simp only[eZ]at hP;refine kS m4 t4 ?_;rw[e3];by_cases g3:bH C.T i=3
 ·rw[decide_eq_true (by omega),az];rw[if_pos g3]at hP;refine acF m4 d4 (iX C.ok (by omega)) λH5 S5 m5 c5 d5=>?_;show Dl (fB (au m)) K (.ptr S.n 0) (aq C.T i:Int) (.ptr (S.n+1) 0) H5;unfold Dl;rw[aL];refine aw m5 (c5.ob m4 t4 (cO _ (by omega))) (v:=.int 0 (xj C.T i:Int)) rfl ?_;rw[aE];exact lone (kd:=4) B8.nil hP m5 (Jn.trans c5) d5 (c5.ob m4 o4 (cO _ (Nat.le_refl _)))
 rw[decide_eq_false (by omega),ax];rw[if_neg g3]at hP;refine kS m4 t4 ?_;rw[e4];by_cases g4:bH C.T i=4
 ·rw[decide_eq_true (by omega),az];rw[if_pos g4]at hP;refine acF m4 d4 (iX C.ok (by omega)) λH5 S5 m5 c5 d5=>?_;show Dm (fB (au m)) K (.ptr S.n 0) (aq C.T i:Int) (.ptr (S.n+1) 0) H5;unfold Dm;rw[aL];refine aw m5 (c5.ob m4 t4 (cO _ (by omega))) (v:=af (dR C.T i)) rfl ?_;refine ey (fe _) ?_;exact lone (kd:=5) (nn:=0) (mz C i) hP m5 (Jn.trans c5) d5 (c5.ob m4 o4 (cO _ (Nat.le_refl _)))
 rw[decide_eq_false (by omega),ax];rw[if_neg g4,if_neg g2]at hP;refine dT (s:=[110,105,108]) (aD (by decide)) m4 d4 (λy j er hi H5 S5 m5 c5 d5=>?_) λh2 H5 S5 m5 c5 d5=>?_
 ·cases er;simp only[ai,aB,az];have el:jY C.T i=1:=by unfold jY;rw[hi];rfl
  rw[el,if_pos (by omega)]at hP;exact lone (kd:=1) (nn:=0) (tx:=[]) B8.nil hP m5 (Jn.trans c5) d5 (c5.ob m4 o4 (cO _ (Nat.le_refl _)))
 have h2:isA C.T [110,105,108] i=false:=h2;simp only[ai,aB,ax];have o5:=c5.ob m4 o4 (cO _ (Nat.le_refl _));have c05:=Jn.trans c5;refine dT (s:=[116,114,117,101]) (aD (by decide)) m5 d5 (λy j er hi H6 S6 m6 c6 d6=>?_) λh3 H6 S6 m6 c6 d6=>?_
 ·cases er;simp only[ai,aB,az];have el:jY C.T i=2:=by unfold jY;rw[h2,hi];rfl
  rw[el,if_pos (by omega)]at hP;exact lone (kd:=2) (nn:=0) (tx:=[]) B8.nil hP m6 (c05.trans c6) d6 (c6.ob m5 o5 (cO _ (Nat.le_refl _)))
 have h3:isA C.T [116,114,117,101] i=false:=h3;simp only[ai,aB,ax];have o6:=c6.ob m5 o5 (cO _ (Nat.le_refl _));have c06:=c05.trans c6;refine dT (s:=[102,97,108,115,101]) (aD (by decide)) m6 d6 (λy j er hi H7 S7 m7 c7 d7=>?_) λh4 H7 S7 m7 c7 d7=>?_
 ·cases er;simp only[ai,aB,az];have el:jY C.T i=3:=by unfold jY;rw[h2,h3,hi];rfl
  rw[el,if_pos (by omega)]at hP;exact lone (kd:=3) (nn:=0) (tx:=[]) B8.nil hP m7 (c06.trans c7) d7 (c7.ob m6 o6 (cO _ (Nat.le_refl _)))
 have h4:isA C.T [102,97,108,115,101] i=false:=h4;simp only[ai,aB,ax];have o7:=c7.ob m6 o6 (cO _ (Nat.le_refl _));have c07:=c06.trans c7;have el:jY C.T i=0:=by unfold jY;rw[h2,h3,h4];rfl
 rw[el,if_neg (by omega)]at hP;refine dT (s:=[102,117,110,99,116,105,111,110]) (aD (by decide)) m7 d7 (λy j er hi H8 S8 m8 c8 d8=>?_) λh5 H8 S8 m8 c8 d8=>?_
 ·cases er;simp only[ai,aB,az];rw[if_pos hi]at hP;have o8:=c8.ob m7 o7 (cO _ (Nat.le_refl _));have c08:=c07.trans c8;cases k with
  |zero=>exact absurd (show jJ C.T 0 (aq C.T i) (i+1) d=.bA by simp only[jJ]) hP.1
  |succ k=>
  rw[Wx]at hP;have n8:S.n<S8.n:=m8.lt (by rw[o8];simp);refine O.body k (by omega) hd m8 d8 (bd.call (cV:=sZ) (show bd C (aK C) dc K S ((ay.bind (ay.ok () (i+1)) λ_ i=>pFn C.T k i d).bind λf j=>.ok (.mk 7 (aq C.T i) 0 [] 0 [] [f]) j)from hP) λf H9 S9 v m9 c9 d9 ⟨c,hv,hR⟩ hP2=>?_);subst hv;rw[dD];refine dv hR.len ?_;rw[al5 hR.len rfl];refine cA m9 (by rw[hR.len]) hR.ones λHa ma=>ey rfl ?_;have ca:an aV S9 (S9.push (.ce c 0)):=(an.refl _ _).push _;have n9:=c9.1;exact D8 (z:=z7) (Q:=λb=>S.n<b∧b<(S9.push (.ce c 0)).n) hM hs hP2 ma ((c08.trans c9).trans ca.no) ((d9.iK m9 ca).ret _) (ca.ob m9 (c9.ob m8 o8 (cO _ (Nat.le_refl _))) λq=>q) rfl ⟨_,rfl,RE.fn (b:=S9.n) (m:=0) ⟨by omega,Nat.lt_succ_self _⟩ (LS.ag _ _) (hR.go (λb hb=>LS.aZ _ _ hb.2) λb hb=>⟨by have:=hb.1;omega,Nat.lt_succ_of_lt hb.2⟩)⟩ (λb hb=>hb) qG
 have h5:isA C.T [102,117,110,99,116,105,111,110] i=false:=h5;simp only[ai,aB,ax];rw[if_neg (by rw[h5];simp)]at hP;have o8:=c8.ob m7 o7 (cO _ (Nat.le_refl _));have c08:=c07.trans c8;refine dT (s:=[123]) (aD (by decide)) m8 d8 (λy j er hi H9 S9 m9 c9 d9=>?_) λh6 H9 S9 m9 c9 d9=>?_
 ·cases er;simp only[ai,aB,az];rw[if_pos hi]at hP;have o9:=c9.ob m8 o8 (cO _ (Nat.le_refl _));have c09:=c08.trans c9;have n9:S.n<S9.n:=m9.lt (by rw[o9];simp);refine O.table k (by omega) hd m9 d9 (bd.tail (cV:=dc) hP λe Ha Sa v ma ca da hv hfin=>?_);obtain⟨c,hv,hR⟩:=hv;subst hv;refine eJ ma (ca.ob m9 o9 (cO _ (Nat.le_refl _))) rfl hR.len hR.ones λHb mb=>?_;refine ew mb (LS.aj _ _ _) hR.len ?_;exact hfin Hb _ _ mb ((c09.trans ca).set (.inr (Nat.le_refl _)) _) (da.ga hs hM (Nat.le_refl _) _) ⟨c,rfl,hR.go (λb hb=>LS.ah _ _ (by have:=hb.1;omega)) λb hb=>⟨by have:=hb.1;omega,hb.2⟩⟩
 have h6:isA C.T [123] i=false:=h6;simp only[ai,aB,ax];rw[if_neg (by rw[h6];simp),if_neg (by rw[h1];simp)]at hP;have o9:=c9.ob m8 o8 (cO _ (Nat.le_refl _));have c09:=c08.trans c9;show Dn (fB (au m)) K (.ptr C.bp 0) (.ptr S.n 0) H9;unfold Dn;rw[r1];refine rO (c:=14) (by omega) (by omega) m9 d9 λHa Sa ma ca da=>?_;rw[ai];exact D8 (z:=z7) (e:=.mk 0 0 0 [] 0 [] []) (Q:=λ_=>False) hM hs hP ma (c09.trans ca) (sQ da rfl) (ca.ob m9 o9 (cO _ (Nat.le_refl _))) rfl ⟨z7,rfl,RE.zero⟩ (λb hb=>hb.elim) y8
end
end Go.Proofs.YtcedghechlgecaaGreatDoor
namespace Go.X
section
variable {H:AH}{S S':LS}
theorem aX.acB{α:Type}{R:Rep α}{Z:Nat→Prop}{v v':AV}{l l2:List α}{kQ:List (List AV)}(h:aX R Z S v l)(h2l:kQ.length=l2.length)(hr:∀(i:Nat) (c:List AV) (a:α),kQ[i]? = some c→l2[i]? = some a→∃Q,R.rel S Q c a∧∀b,Q b→Z b∧b<S.n∧¬aG v b)(hnew:∀b,S.n≤b→Z b)
  (hs:∀cl,eI S R.sz v l.length cl→qY S v (l.length+l2.length) R.sz (cl++kQ.flatten) S' v'):aX R Z S' v' (l++l2):=by
 obtain⟨cl,h1,h2,h3,h4⟩:=h;obtain⟨a1,a2,a3,a4⟩:=hs _ h1;refine⟨cl++kQ,?_,by simp[h2,h2l],λb hb'=>?_,λi c' a' hc ha=>?_⟩
 ·rw[List.flatten_append,List.length_append];exact a3
 ·rcases a4 b hb' with g|g
  ·exact h3 b g
  ·exact hnew b g
 ·have fin:∀{Q:Nat→Prop}{c:List AV}{a:α},R.rel S Q c a→(∀b,Q b→Z b∧b<S.n∧¬aG v b)→∃Q,R.rel S' Q c a∧∀b,Q b→Z b∧b<S'.n∧¬aG v' b:=λ{Q c a} g1 g2=>
   ⟨Q,R.go (λb hb=>a2 b (g2 b hb).2.1 (g2 b hb).2.2) (λ_ h=>h) g1,λb hb=>⟨(g2 b hb).1,Nat.lt_of_lt_of_le (g2 b hb).2.1 a1,λhb'=>by
    rcases a4 b hb' with q|q
    ·exact(g2 b hb).2.2 q
    ·have:=(g2 b hb).2.1;omega⟩⟩
  by_cases hi:i<cl.length
  ·rw[List.getElem?_append_left hi]at hc;rw[List.getElem?_append_left (by omega)]at ha;obtain⟨Q,g1,g2⟩:=h4 i c' a' hc ha;exact fin g1 g2
  ·rw[List.getElem?_append_right (by omega)]at hc ha;rw[h2]at hc;obtain⟨Q,g1,g2⟩:=hr _ c' a' hc ha;exact fin g1 g2
theorem aX.Ji{α:Type}{R:Rep α}{Z:Nat→Prop}{bytes:Nat}{v x:AV}{l l2:List α}{kQ:Nat→List AV}{Q:Nat→Prop}{k:AV→AH→Prop}(h:aX R Z S v l)(hM:Mem H S)(h2:l2.length=2)(hx:cM S Q R.sz x l2.length kQ)(hr:∀i e,l2[i]? = some e→∃Q,R.rel S Q (kQ i) e∧∀b,Q b→Z b∧b<S.n∧¬aG v b)(hnew:∀b,S.n≤b→Z b)(hl:(l.length+2)*bytes≤1099511627776)
  (hk:∀H' S' v',Mem H' S'→aX R Z S' v' (l++l2)→S.n≤S'.n→(∀b,b<S.n→¬aG v b→S'.ob b=S.ob b)→(∀b,aG v' b→aG v b∨S.n≤b)→k v' H'):dh R.sz bytes v x H k:=by
 obtain⟨cl,h1,hh⟩:=id h;have gt:∀i,i<l2.length→(kQ i).length=R.sz∧∀a∈kQ i,a.one=true:=λi hi=>by
  obtain⟨Q',g,_⟩:=hr i _ (List.getElem?_eq_getElem hi);exact⟨R.len g,R.ones g⟩
 refine SG (n':=l2.length) hM h1 (.inl (by omega)) R.pos hx (λi hi=>(gt i hi).2) (by rw[h2];exact hl) λH' S' v' l' m' hl' hcl he=>?_;have el:l'=([kQ 0,kQ 1]:List (List AV)).flatten:=by
  have e0:=hcl 0 (by omega);have e1:=hcl 1 (by omega);rw[Nat.zero_mul,List.drop_zero]at e0;rw[Nat.one_mul,List.take_of_length_le (by rw[List.length_drop];rw[h2]at hl';omega)]at e1;rw[←e0,←e1];simp
 refine hk H' S' v' m' (h.acB (kQ:=[kQ 0,kQ 1]) (by rw[h2];rfl) (λi c a hc ha=>?_) hnew λcl' h'=>?_) he.1 he.2.1 he.2.2.2
 ·have hi:i<l2.length:=(List.getElem?_eq_some_iff.1 ha).1;have ec:c=kQ i:=by
   have hi2:i=0∨i=1:=by omega
   rcases hi2 with rfl|rfl<;>(simp at hc;exact hc.symm)
  subst ec;exact hr i a ha
 ·rw[h1.uniq h',←el];exact he
end
end Go.X
namespace Go.Proofs.YtcedghechlgecaaGreatDoor
open Go Go.X Go.Proofs.YtcedghechlgecaaGreatDoor.G
section
variable {H:AH}{S:LS}{K:KF}{C:Ctx}{i d:Nat}
structure wR(C:Ctx)(S0:LS)(Z:Nat→Prop)(S:LS)(b1 b3 a:Nat)(v:AV)(out:List aC):Prop where
 w:qL C S0 S b1 b3
 o3:S.ob b3=.ce (lg a v) 0
 L:aX fZ Z S v out
 hZ:∀b,Z b→zB S0 b1 b3 b
theorem wR.keep{S0 S':LS}{Z:Nat→Prop}{b1 b3 a:Nat}{v:AV}{out:List aC}(h:wR C S0 Z S b1 b3 a v out)(hM:Mem H S)(hbp:C.bp<S0.n)(g:an (aK C) S S'):wR C S0 Z S' b1 b3 a v out:=
 ⟨h.w.keep hM hbp g,g.ob hM h.o3 λq=>by have q:b3=C.bp:=q;have:=h.w.n3;omega,h.L.keep hM g.1 λb h1 h2=>g.2 b h2 λq=>by have q:b=C.bp:=q;have:=(h.hZ b h1).1;omega,h.hZ⟩
def zK(S0:LS)(b1 b3 bk:Nat):Nat→Prop:=λb=>zB S0 b1 b3 b∧b≠bk
structure y9(S0 S:LS)(b1 b3 bk:Nat)(v:AV)(ck:List AV)(kk:aC):Prop where
 o:S.ob bk=.ce ck 0
 z:zB S0 b1 b3 bk
 nv:¬aG v bk
 re:∃Q,RE S Q ck kk∧∀b,Q b→zB S0 b1 b3 b∧b<S.n∧¬aG v b
theorem y9.keep{S0 S':LS}{b1 b3 bk:Nat}{v:AV}{ck:List AV}{kk:aC}(h:y9 S0 S b1 b3 bk v ck kk)(hM:Mem H S)(hbp:C.bp<S0.n)(g:an (aK C) S S'):y9 S0 S' b1 b3 bk v ck kk:=by
 have nb:∀b,S0.n≤b→¬aK C b:=λb hb q=>by have q:b=C.bp:=q;omega
 obtain⟨Q,h1,h2⟩:=h.re;exact⟨g.ob hM h.o (nb _ h.z.1),h.z,h.nv,Q,h1.go (λb hb=>g.2 b (h2 b hb).2.1 (nb _ (h2 b hb).1.1)) (λ_ h=>h),λb hb=>⟨(h2 b hb).1,Nat.lt_of_lt_of_le (h2 b hb).2.1 g.1,(h2 b hb).2.2⟩⟩
theorem y9.len{S0:LS}{b1 b3 bk:Nat}{v:AV}{ck:List AV}{kk:aC}(h:y9 S0 S b1 b3 bk v ck kk):ck.length=7:=by obtain⟨Q,h1,_⟩:=h.re;exact h1.len
theorem y9.ones{S0:LS}{b1 b3 bk:Nat}{v:AV}{ck:List AV}{kk:aC}(h:y9 S0 S b1 b3 bk v ck kk):∀a∈ck,a.one=true:=by obtain⟨Q,h1,_⟩:=h.re;exact h1.ones
theorem y9.set{S0:LS}{b1 b3 bk kind at_ n op:Nat}{v:AV}{ck:List AV}{kk:aC}{s:List Nat}(h:y9 S0 S b1 b3 bk v ck kk)(h8:B8 s) :
  y9 S0 (S.set bk (.ce [.int 0 (kind:Int),.int 0 (at_:Int),.int 0 (n:Int),af s,.int 0 (op:Int),.ab,.ab] 0)) b1 b3 bk v [.int 0 (kind:Int),.int 0 (at_:Int),.int 0 (n:Int),af s,.int 0 (op:Int),.ab,.ab] (.mk kind at_ n s op [] []):=
 ⟨LS.aj _ _ _,h.z,h.nv,λ_=>False,RE.simple h8,λb hb=>hb.elim⟩
theorem wR.ij{S0:LS}{b1 b3 bk a:Nat}{v:AV}{out:List aC}(h:wR C S0 (zK S0 b1 b3 bk) S b1 b3 a v out)(hM:Mem H S)(hz:zB S0 b1 b3 bk)(o:gd):wR C S0 (zK S0 b1 b3 bk) (S.set bk o) b1 b3 a v out:=by
 obtain⟨z,hz1,lP⟩:=h.w.o1;obtain⟨y,hy1,hy7⟩:=h.w.o3;exact⟨⟨h.w.x.set (.inr hz.1) _,⟨z,(LS.ah _ _ (Ne.symm hz.2.1)).trans hz1,lP⟩,⟨y,(LS.ah _ _ (Ne.symm hz.2.2)).trans hy1,hy7⟩,h.w.n1,h.w.n3,h.w.ne⟩,(LS.ah _ _ (Ne.symm hz.2.2)).trans h.o3,h.L.keep hM (Nat.le_refl _) λb hb _=>LS.ah _ _ hb.2,h.hZ⟩
theorem aqc{S0:LS}{b1 b3 a:Nat}{v:AV}{out:List aC}{Z:Nat→Prop}(h:wR C S0 Z S b1 b3 a v out)(hM:Mem H S):RE S (λb=>zB S0 b1 b3 b∧b<S.n) (lg a v) (.mk 8 a 0 [] 0 out []):=by
 obtain⟨cl,h1,h2⟩:=h.L.done hM;exact .mk 8 a 0 [] 0 out [] v .ab cl (λ_=>[]) B8.nil (h1.go (λ_ _=>rfl) λb hb=>⟨h.hZ b hb.1,hb.2⟩) (λi e he=>RE.go (λ_ _=>rfl) (λb hb=>⟨h.hZ b hb.1,hb.2⟩) (h2 i e he)) (cM.nil _ _ _ _) (λi e h=>by simp at h)
section
variable {m k:Nat}{X:AV→Int→AV→AV→Int→AH→Prop}{S0:LS}{b1 b3 a:Nat}
theorem SU(hbp:C.bp<S0.n)(bK:∀b,aG C.vT b→b<S0.n){v:AV}{out:List aC}{γ:Type}{r:ay γ}(hM:Mem H S)(hs:bB C S r)(t:wR C S0 (zB S0 b1 b3) S b1 b3 a v out)(hP:bd C (aK C) dc K S0 (r.bind λ_ i=>(aW C.T [125] i).bind λ_ j=>.ok (.mk 8 a 0 [] 0 out []) j)) :
  uh (cC (au m)) K (.ptr C.bp 0) (.ptr b1 0) (.ptr b3 0) H:=by
 have r6:(cC (au m)).2.2.2.2.2.1=f106:=rfl;show Ds (cC (au m)) K (.ptr C.bp 0) (.ptr b1 0) (.ptr b3 0) H;unfold Ds;rw[r6];refine ll (s:=[125]) (aD (by decide)) hM hs (bd.call (cV:=gY) hP.seq λ_ H1 S1 w m1 c1 d1 _ hP1=>?_);have t1:=t.keep hM hbp c1;have hR:=aqc t1 m1;obtain⟨z,hz,lP⟩:=t1.w.o1;have hn1:=t1.w.n1;refine ew m1 t1.o3 rfl ?_;refine eJ m1 hz lP rfl hR.ones λH2 m2=>?_;refine ew m2 (LS.aj _ _ _) rfl ?_;exact hP1.2 H2 _ _ _ m2 (t1.w.x.set (.inr hn1) _) ((d1.ret _).setB (by omega) (λx hx=>by have:=bK x hx;omega) _) ⟨_,rfl,hR.go (λb hb=>LS.ah _ _ hb.1.2.1) λb hb=>⟨hb.1.1,hb.2⟩⟩ qG
def qH(T:List Tok)(k a:Nat)(out:List aC)(c j d:Nat):ay aC:=if isA T [44] j=true∨isA T [59] j=true then fJ T k out c a (j+1) d else (aW T [125] j).bind λ_ k=>.ok (.mk 8 a 0 [] 0 out []) k
def Wy(C:Ctx)(S0:LS)(K:KF)(b1 b3 a k d:Nat)(X:AV→Int→AV→AV→Int→AH→Prop):Prop:=∀(c:Nat) (v:AV) (out:List aC) (H:AH) (S:LS){γ:Type}(r:ay γ),c≤out.length→out.length≤128→out.length%2=0→Mem H S→bB C S r→wR C S0 (zB S0 b1 b3) S b1 b3 a v out→bd C (aK C) dc K S0 (r.bind λ_ i=>fJ C.T k out c a i d)→X (.ptr C.bp 0) (d:Int) (.ptr b1 0) (.ptr b3 0) (c:Int) H
theorem aty(hbp:C.bp<S0.n)(bK:∀b,aG C.vT b→b<S0.n)(hX:Wy C S0 K b1 b3 a k d X){c:Nat}{v:AV}{out:List aC}{γ:Type}{r:ay γ}(hc:c≤out.length)(ho:∀x i,r=.ok x i→out.length≤128)(ho2:out.length%2=0)(hM:Mem H S)(hs:bB C S r)(t:wR C S0 (zB S0 b1 b3) S b1 b3 a v out)(hP:bd C (aK C) dc K S0 (r.bind λ_ j=>qH C.T k a out c j d)) :
  Du (cC (au m)) K X (.ptr C.bp 0) (d:Int) (.ptr b1 0) (.ptr b3 0) (c:Int) H:=by
 have r2:(cC (au m)).2.1=f68:=rfl;show Dt (cC (au m)) K X (uh (cC (au m)) K) (.ptr C.bp 0) (d:Int) (.ptr b1 0) (.ptr b3 0) (c:Int) H;unfold Dt;rw[r2];refine dT (s:=[44]) (aD (by decide)) hM hs (λy j er hi H1 S1 m1 c1 d1=>?_) λh1 H1 S1 m1 c1 d1=>?_
 ·cases er;simp only[ai,aB,Bool.not_true,ax];have hP:bd C (aK C) dc K S0 (qH C.T k a out c j d):=hP;unfold qH at hP;rw[if_pos (.inl hi)]at hP;exact hX c v out H1 S1 (.ok () (j+1):ay Unit) hc (ho y j rfl) ho2 m1 d1 (t.keep hM hbp c1) hP
 simp only[ai,aB,Bool.not_false,az];have t1:=t.keep hM hbp c1;refine dT (s:=[59]) (aD (by decide)) m1 d1 (λy j er hi H2 S2 m2 c2 d2=>?_) λh2 H2 S2 m2 c2 d2=>?_
 ·cases er;simp only[ai,aB,Bool.not_true,ax];have hP:bd C (aK C) dc K S0 (qH C.T k a out c j d):=hP;unfold qH at hP;rw[if_pos (.inr hi)]at hP;exact hX c v out H2 S2 (.ok () (j+1):ay Unit) hc (ho y j rfl) ho2 m2 d2 (t1.keep m1 hbp c2) hP
 simp only[ai,aB,Bool.not_false,az];have sp:(r.bind λ_ j=>qH C.T k a out c j d)=r.bind λ_ i=>(aW C.T [125] i).bind λ_ j=>.ok (.mk 8 a 0 [] 0 out []) j:=by
  cases r with
  |ok y j=>
   have h1:isA C.T [44] j=false:=h1;have h2:isA C.T [59] j=false:=h2;show qH C.T k a out c j d=_;unfold qH;rw[if_neg (by rw[h1,h2];simp)];rfl
  |err c i=>rfl
  |bA=>rfl
 rw[sp]at hP;exact SU hbp bK m2 d2 (t1.keep m1 hbp c2) hP
theorem Jo(O:gO C m)(hd:d≤200)(hbp:C.bp<S0.n)(bK:∀b,aG C.vT b→b<S0.n)(hX:Wy C S0 K b1 b3 a k d X){c bk kf:Nat}(hkf:2*kf+4≤m){v:AV}{ck:List AV}{kk:aC}{out:List aC}{γ:Type}{r:ay γ}(hc:c≤out.length+1)(ho:∀x i,r=.ok x i→out.length<128)(hol:out.length≤128)(ho2:out.length%2=0)(hM:Mem H S)(hs:bB C S r)(t:wR C S0 (zK S0 b1 b3 bk) S b1 b3 a v out)(hk:y9 S0 S b1 b3 bk v ck kk)
  (hP:bd C (aK C) dc K S0 (r.bind λ_ j=>(bY C.T kf j d).bind λx j=>qH C.T k a (out++[kk,x]) c j d)) :
  nj (cC (au m)) K X (.ptr C.bp 0) (d:Int) (.ptr b1 0) (.ptr b3 0) (c:Int) (.ptr bk 0) H:=by
 have r4:(cC (au m)).2.2.2.1=(au m).2.1:=rfl;show Dv (cC (au m)) K (Du (cC (au m)) K X) (.ptr C.bp 0) (d:Int) (.ptr b1 0) (.ptr b3 0) (c:Int) (.ptr bk 0) H;unfold Dv;rw[r4];refine O.exp kf hkf hd hM hs (bd.call (cV:=dc) hP.seq λx H1 S1 w m1 c1 d1 ⟨cv,hv,hR⟩ hP1=>?_);subst hv;have t1:=t.keep hM hbp c1;have k1:=hk.keep hM hbp c1;have n0:=t.w.x.1;have Wz:∀b,aG v b→b<S.n:=λb hb=>t.L.lt hM hb;have lt:=t.w.lt hM;refine bE ?_;rw[eU];refine bz m1 cm λH2 m2=>?_;refine eJ m2 (LS.ag _ _) rfl hR.len hR.ones λH3 m3=>?_;have c3:an aV S1 ((S1.push (.ce z7 0)).set S1.n (.ce cv 0)):=((an.refl _ _).push _).set (.inr (Nat.le_refl _)) _;have d3:=d1.iK m1 c3;have t3:=t1.keep m1 hbp c3.no;have k3:=k1.keep m1 hbp c3.no;have b3':LS.ob _ S1.n=_:=LS.aj (S1.push (.ce z7 0)) S1.n (.ce cv 0);have R3:RE ((S1.push (.ce z7 0)).set S1.n (.ce cv 0)) (fb S.n S1.n) cv x:=hR.go (λb hb=>c3.2 b hb.2 λq=>q) λ_ h=>h;have n3:((S1.push (.ce z7 0)).set S1.n (.ce cv 0)).n=S1.n+1:=rfl;revert m3 c3 d3 t3 k3 b3' R3 n3;generalize (S1.push (.ce z7 0)).set S1.n (.ce cv 0)=S3;intro m3 c3 d3 t3 k3 b3' R3 n3;have n1:=c1.1;rw[aL];refine aw m3 t3.o3 (v:=v) rfl ?_;refine ew m3 k3.o k3.len ?_;refine ew m3 b3' hR.len ?_;simp only[dD];refine dv k3.len (dv hR.len ?_);rw[tF k3.len hR.len rfl];refine cA m3 (by rw[List.length_append,k3.len,hR.len]) (λy h=>?_) λH4 m4=>?_
 ·rcases List.mem_append.1 h with g|g
  ·exact k3.ones y g
  ·exact hR.ones y g
 have c4:an aV S3 (S3.push (.ce (ck++cv) 0)):=(an.refl _ _).push _;have t4:=t3.keep m3 hbp c4.no;have k4:=k3.keep m3 hbp c4.no;have d4:=d3.iK m3 c4;have R4:RE (S3.push (.ce (ck++cv) 0)) (fb S.n S1.n) cv x:=R3.go (λb hb=>c4.2 b (by have:=hb.2;omega) λq=>q) λ_ h=>h;have L4:aX fZ (zB S0 b1 b3) (S3.push (.ce (ck++cv) 0)) v out:=t4.L.imp m4 λb hb _=>hb.1;refine L4.Ji (R:=fZ) (bytes:=96) (l2:=[kk,x]) m4 rfl (cM.two (Q:=λb=>b=S3.n) rfl (LS.ag _ _) k3.len hR.len) (λix y h=>?_) (λb hb=>?_) (by omega) λH5 S5 v5 m5 L5 n5 q5 bk5=>?_
 ·match ix,h with
  |0,h=>
   have e1:kk=y:=by simpa using h
   subst e1;exact k4.re
  |1,h=>
   have e1:x=y:=by simpa using h
   subst e1;exact⟨_,R4,λb hb=>⟨⟨by have:=hb.1;omega,by have:=hb.1;omega,by have:=hb.1;omega⟩,by show b<S3.n+1;have:=hb.2;omega,λq=>by have:=Wz b q;have:=hb.1;omega⟩⟩
  |ix+2,h=>simp at h
 ·have hb:S3.n+1≤b:=hb;exact⟨by omega,by omega,by omega⟩
 have WA:∀b,aG v b→zB S0 b1 b3 b:=λb hb=>(t.L.o0 hb).1;have c5:an (λb=>aG v b) (S3.push (.ce (ck++cv) 0)) S5:=⟨n5,λb hb hx=>q5 b hb hx⟩
 have d5:=d4.keep m4 c5 (λq=>by have:=(WA _ q).1;omega) (λb hb q=>by have:=(WA _ q).1;have:=bK b hb;omega);have w5:=t4.w.Jm m4 c5 λb hb=>⟨(WA b hb).2.1,(WA b hb).2.2,.inr (WA b hb).1⟩
 have o5:S5.ob b3=.ce (lg a v) 0:=c5.ob m4 t4.o3 λq=>(WA _ q).2.2 rfl;rw[aL];refine aT m5 o5 (by omega) (by show 5<7;omega) L5.one λH6 m6=>?_;have m6:Mem H6 (S5.set b3 (.ce (lg a v5) 0)):=m6;have hn3:=w5.n3;obtain⟨z,hz,lP⟩:=w5.o1;have t6:wR C S0 (zB S0 b1 b3) (S5.set b3 (.ce (lg a v5) 0)) b1 b3 a v5 (out++[kk,x]):=
  ⟨⟨w5.x.set (.inr hn3) _,⟨z,(LS.ah _ _ w5.ne).trans hz,lP⟩,⟨_,LS.aj _ _ _,rfl⟩,w5.n1,hn3,w5.ne⟩,LS.aj _ _ _,L5.keep m5 (Nat.le_refl _) λb hb _=>LS.ah _ _ hb.2.2,λ_ h=>h⟩
 refine aty hbp bK hX (out:=out++[kk,x]) (by simp;omega) (λy j er=>?_) (by simp;omega) m6 (d5.setB (by omega) (λx hx=>by have:=bK x hx;omega) _) t6 hP1;have:out.length<128:=by
  cases r with
  |ok y' j'=>exact ho y' j' rfl
  |err c i=>cases er
  |bA=>cases er
 simp;omega
end
end
section
variable {H:AH}{S:LS}{K:KF}{C:Ctx}{i d:Nat}
theorem ajZ{j:Nat}{v:AV}{k:AV→Prop}{γ:Type}{y:γ}(hM:Mem H S)(hd:bB C S (ay.ok y i))(hlt:i+1<C.T.length)(hj:j<4)(hv:(dY C.T (i+1))[j]? = some v)(hk:k v) :
  aP (.ptr C.bp 0) (al 0 (.ptr C.bp 0) λv1=>ak v1 H λv2=>aP (.ptr C.bp 0) (al 1 (.ptr C.bp 0) λv3=>ak v3 H λv4=>cI 0 v4 λz5=>aJ 0 (Int.add z5 (.ofNat 1)) λz6=>cK 4 v2 (.int 0 z6) λv6=>al j v6 λv7=>ak v7 H k)):=by
 have hfew:=C.few;simp only[cj,aL,Nat.zero_add];refine aw hM hd.ob (v:=C.vT) rfl ?_;refine aw hM hd.ob (v:=.int 0 (i:Int)) rfl ?_;simp only[aE,dA,fL];refine w0 (by omega) (by omega) ?_;exact SQ hM hd.tk hlt hj hv hk
section
variable {m k:Nat}{X:AV→Int→AV→AV→Int→AH→Prop}{S0:LS}{b1 b3 a:Nat}
theorem atz(hm:m≤1000000)(O:gO C m)(hd:d≤200)(hbp:C.bp<S0.n)(bK:∀b,aG C.vT b→b<S0.n)(hX:Wy C S0 K b1 b3 a k d X)(hk:2*k+4≤m){c:Nat}{v:AV}{out:List aC}{γ:Type}{r:ay γ}(hc:c≤out.length)(ho:∀x i,r=.ok x i→out.length<128)(hol:out.length≤128)(ho2:out.length%2=0)(hM:Mem H S)(hs:bB C S r)(t:wR C S0 (zB S0 b1 b3) S b1 b3 a v out)
  (hP:bd C (aK C) dc K S0 (r.bind λ_ i=>(iq C.T k c i d).bind λp j=>qH C.T k a (out++p.1) p.2 j d)) :
  DC (cC (au m)) K X (.ptr C.bp 0) (d:Int) (.ptr b1 0) (.ptr b3 0) (c:Int) H:=by
 have r1:(cC (au m)).1=f67:=rfl;have r2:(cC (au m)).2.1=f68:=rfl;have r4:(cC (au m)).2.2.2.1=(au m).2.1:=rfl;have r5:(cC (au m)).2.2.2.2.1=f104:=rfl;have r6:(cC (au m)).2.2.2.2.2.1=f106:=rfl;have e0:Int.ofNat 0=((0:Nat):Int):=rfl;have e2:Int.ofNat 2=((2:Nat):Int):=rfl;have e5:Int.ofNat 5=((5:Nat):Int):=rfl;show DB (cC (au m)) K (LM (cC (au m)) K X) (LN (cC (au m)) K X) (nj (cC (au m)) K X) (DA (cC (au m)) K X) (.ptr C.bp 0) (d:Int) (.ptr b1 0) (.ptr b3 0) (c:Int) H;unfold DB;rw[r1,r2,r4];have n0:=t.w.x.1;have lt:=t.w.lt hM;have Wz:∀b,aG v b→b<S.n:=λb hb=>t.L.lt hM hb;have nb:∀b,S0.n≤b→¬aK C b:=λb hb q=>by have q:b=C.bp:=q;omega
 refine lU hM hs ?_;rw[ai,aE];refine bE ?_;rw[eU];refine bz hM cm λH1 m1=>?_;refine eJ m1 (c:=[.int 0 ((0:Nat):Int),.int 0 (aq C.T r.ix:Int),.int 0 ((0:Nat):Int),af [],.int 0 ((1:Nat):Int),.ab,.ab]) (LS.ag _ _) rfl rfl (λa h=>?_) λH2 m2=>?_
 ·simp only[List.mem_cons,List.not_mem_nil,or_false]at h;rcases h with rfl|rfl|rfl|rfl|rfl|rfl|rfl<;>rfl
 have c2:an aV S ((S.push (.ce z7 0)).set S.n (.ce [.int 0 ((0:Nat):Int),.int 0 (aq C.T r.ix:Int),.int 0 ((0:Nat):Int),af [],.int 0 ((1:Nat):Int),.ab,.ab] 0)):=((an.refl _ _).push _).set (.inr (Nat.le_refl _)) _;have d2:=hs.iK hM c2;have t2:=t.keep hM hbp c2.no;have o2:LS.ob _ S.n=_:=LS.aj (S.push (.ce z7 0)) S.n (.ce [.int 0 ((0:Nat):Int),.int 0 (aq C.T r.ix:Int),.int 0 ((0:Nat):Int),af [],.int 0 ((1:Nat):Int),.ab,.ab] 0);have zk:zB S0 b1 b3 S.n:=⟨n0,by omega,by omega⟩
 have tk2:wR C S0 (zK S0 b1 b3 S.n) ((S.push (.ce z7 0)).set S.n (.ce [.int 0 ((0:Nat):Int),.int 0 (aq C.T r.ix:Int),.int 0 ((0:Nat):Int),af [],.int 0 ((1:Nat):Int),.ab,.ab] 0)) b1 b3 a v out:=
  ⟨t2.w,t2.o3,((t.L.imp hM λb hb hlt=>(⟨hb,by omega⟩:zK S0 b1 b3 S.n b)).keep hM c2.1 λb _ hlt=>c2.2 b hlt λq=>q),λb hb=>hb.1⟩
 have WB:y9 S0 ((S.push (.ce z7 0)).set S.n (.ce [.int 0 ((0:Nat):Int),.int 0 (aq C.T r.ix:Int),.int 0 ((0:Nat):Int),af [],.int 0 ((1:Nat):Int),.ab,.ab] 0)) b1 b3 S.n v [.int 0 ((0:Nat):Int),.int 0 (aq C.T r.ix:Int),.int 0 ((0:Nat):Int),af [],.int 0 ((1:Nat):Int),.ab,.ab] (.mk 0 (aq C.T r.ix) 0 [] 1 [] []):=
  ⟨o2,zk,λq=>by have:=Wz _ q;omega,λ_=>False,RE.simple B8.nil,λb hb=>hb.elim⟩
 have n2:((S.push (.ce z7 0)).set S.n (.ce [.int 0 ((0:Nat):Int),.int 0 (aq C.T r.ix:Int),.int 0 ((0:Nat):Int),af [],.int 0 ((1:Nat):Int),.ab,.ab] 0)).n=S.n+1:=rfl;revert m2 c2 d2 t2 o2 tk2 WB n2;generalize (S.push (.ce z7 0)).set S.n (.ce [.int 0 ((0:Nat):Int),.int 0 (aq C.T r.ix:Int),.int 0 ((0:Nat):Int),af [],.int 0 ((1:Nat):Int),.ab,.ab] 0)=S2;intro m2 c2 d2 t2 o2 tk2 WB n2;refine iL m2 d2 ?_;rw[bq,e0];rcases By hs with⟨ec,y,i,rfl⟩|⟨ec,c1,i,rfl⟩
 ·have ho:=ho y i rfl;rw[ec,decide_eq_true rfl];simp only[Bool.not_true,ax];have s0:(ay.ok y i).ix=i:=rfl;rw[s0]at WB;have hP:bd C (aK C) dc K S0 ((iq C.T k c i d).bind λp j=>qH C.T k a (out++p.1) p.2 j d):=hP;cases k with
  |zero=>exact absurd (show(iq C.T 0 c i d).bind _=.bA by simp only[iq];rfl) hP.1
  |succ k=>
  simp only[iq]at hP;refine dT (s:=[91]) (aD (by decide)) m2 d2 (λy j er hi H3 S3 m3 c3 d3=>?_) λh1 H3 S3 m3 c3 d3=>?_
  ·cases er;simp only[ai,aB,az];rw[if_pos hi]at hP;simp only[bV]at hP;have t3:=tk2.keep m2 hbp c3;have WC:=WB.keep m2 hbp c3;have n3:=c3.1;refine O.exp k (by omega) hd m3 d3 (bd.call (cV:=dc) hP λkk H4 S4 w m4 c4 d4 ⟨ck,hv,hR⟩ na=>?_);subst hv;have t4:=t3.keep m3 hbp c4;have ky4:=WC.keep m3 hbp c4;refine eJ m4 ky4.o rfl hR.len hR.ones λH5 m5=>?_;have d5:=d4.setB (by omega) (λx hx=>by have:=bK x hx;omega) (.ce ck 0) (b:=S.n);have t5:=t4.ij m4 zk (.ce ck 0);have WD:y9 S0 (S4.set S.n (.ce ck 0)) b1 b3 S.n v ck kk:=
    ⟨LS.aj _ _ _,zk,λq=>by have:=Wz _ q;omega,_,hR.go (λb hb=>LS.ah _ _ (by have:=hb.1;omega)) λ_ h=>h,λb hb=>⟨⟨by have:=hb.1;omega,by have:=hb.1;omega,by have:=hb.1;omega⟩,hb.2,λq=>by have:=Wz b q;have:=hb.1;omega⟩⟩
   show Dy (cC (au m)) K (nj (cC (au m)) K X) (.ptr C.bp 0) (d:Int) (.ptr b1 0) (.ptr b3 0) (c:Int) (.ptr S.n 0) H5;unfold Dy;rw[r6];refine ll (s:=[93]) (aD (by decide)) m5 d5 (bd.call (cV:=gY) na.seq λ_ H6 S6 w m6 c6 d6 _ y7=>?_);have t6:=t5.keep m5 hbp c6;have ky6:=WD.keep m5 hbp c6;refine ll (s:=[61]) (aD (by decide)) m6 d6 (bd.call (cV:=gY) y7.seq λ_ H7 S7 w m7 c7 d7 _ Aq=>?_);exact Jo O hd hbp bK hX (kf:=k) (by omega) (by omega) (λ_ _ _=>ho) hol ho2 m7 d7 (t6.keep m6 hbp c7) (ky6.keep m6 hbp c7) Aq
  have h1:isA C.T [91] i=false:=h1;simp only[ai,aB,ax];rw[if_neg (by rw[h1];simp)]at hP;have t3:=tk2.keep m2 hbp c3;have WC:=WB.keep m2 hbp c3;have n3:=c3.1;refine D2 m3 d3 (j:=0) (v:=.int 0 (bH C.T i:Int)) (by omega) rfl ?_;rw[aE,bq,e2];have plain:¬(bH C.T i=2∧bH C.T (i+1)=5∧dR C.T (i+1)=[61])→DA (cC (au m)) K X (.ptr C.bp 0) (d:Int) (.ptr b1 0) (.ptr b3 0) (c:Int) (.ptr S.n 0) H3:=by
   intro hne;rw[if_neg hne]at hP;simp only[bV]at hP;show Dz (cC (au m)) K (EN (cC (au m)) K X) (.ptr C.bp 0) (d:Int) (.ptr b1 0) (.ptr b3 0) (c:Int) (.ptr S.n 0) H3;unfold Dz;rw[dA,fL];refine w0 (by omega) (by omega) ?_;show zM (cC (au m)) K (nj (cC (au m)) K X) (.ptr C.bp 0) (d:Int) (.ptr b1 0) (.ptr b3 0) ((c+1:Nat):Int) (.ptr S.n 0) H3;unfold zM;simp only[aL,Nat.zero_add];refine aT (v:=.int 0 ((4:Nat):Int)) m3 WC.o (by omega) (by show 0<7;omega) rfl λH4 m4=>?_;refine aT (v:=.int 0 ((c+1:Nat):Int)) m4 (LS.aj _ _ _) (by omega) (by show 2<7;omega) rfl λH5 m5=>?_;have y0:Mem H4 (S3.set S.n (.ce [.int 0 ((4:Nat):Int),.int 0 (aq C.T i:Int),.int 0 ((0:Nat):Int),af [],.int 0 ((1:Nat):Int),.ab,.ab] 0)):=m4;have SO:Mem H5 ((S3.set S.n (.ce [.int 0 ((4:Nat):Int),.int 0 (aq C.T i:Int),.int 0 ((0:Nat):Int),af [],.int 0 ((1:Nat):Int),.ab,.ab] 0)).set S.n (.ce [.int 0 ((4:Nat):Int),.int 0 (aq C.T i:Int),.int 0 ((c+1:Nat):Int),af [],.int 0 ((1:Nat):Int),.ab,.ab] 0)):=m5;have t5:=(t3.ij m3 zk (.ce [.int 0 ((4:Nat):Int),.int 0 (aq C.T i:Int),.int 0 ((0:Nat):Int),af [],.int 0 ((1:Nat):Int),.ab,.ab] 0)).ij y0 zk (.ce [.int 0 ((4:Nat):Int),.int 0 (aq C.T i:Int),.int 0 ((c+1:Nat):Int),af [],.int 0 ((1:Nat):Int),.ab,.ab] 0);have WD:=(WC.set (kind:=4) (at_:=aq C.T i) (n:=0) (op:=1) (s:=[]) B8.nil).set (kind:=4) (at_:=aq C.T i) (n:=c+1) (op:=1) (s:=[]) B8.nil;have d5:=(d3.setB (b:=S.n) (by omega) (λx hx=>by have:=bK x hx;omega) (.ce [.int 0 ((4:Nat):Int),.int 0 (aq C.T i:Int),.int 0 ((0:Nat):Int),af [],.int 0 ((1:Nat):Int),.ab,.ab] 0)).setB (b:=S.n) (by omega) (λx hx=>by have:=bK x hx;omega) (.ce [.int 0 ((4:Nat):Int),.int 0 (aq C.T i:Int),.int 0 ((c+1:Nat):Int),af [],.int 0 ((1:Nat):Int),.ab,.ab] 0);exact Jo O hd hbp bK hX (kf:=k) (c:=c+1) (by omega) (by omega) (λ_ _ _=>ho) hol ho2 SO d5 t5 WD hP
  by_cases g2:bH C.T i=2
  ·rw[decide_eq_true (by omega),az];have hlt:=iX (i:=i) C.ok (by omega);refine ajZ m3 d3 hlt (j:=0) (v:=.int 0 (bH C.T (i+1):Int)) (by omega) rfl ?_;rw[aE,bq,e5];by_cases g5:bH C.T (i+1)=5
   ·rw[decide_eq_true (by omega),az];refine ajZ m3 d3 hlt (j:=1) (v:=af (dR C.T (i+1))) (by omega) rfl ?_;refine wc (m:=[61]) (mz C (i+1)) (aD (by decide)) ?_;rw[aB];by_cases gt:dR C.T (i+1)=[61]
    ·rw[decide_eq_true gt,az];rw[if_pos ⟨g2,g5,gt⟩]at hP;have ei:isA C.T [61] (i+1)=true:=by unfold isA;rw[g5,gt];rfl
     have sp:((bY C.T k (i+2) d).bind λv j=>ay.ok (([.mk 5 (aq C.T i) 0 (dR C.T i) 1 [] [],v],c):List aC×Nat) j).bind (λp j=>qH C.T (k+1) a (out++p.1) p.2 j d)=((ay.ok y i).bind λ_ i=>eF C.T i).bind λs j=>(aW C.T [61] j).bind λ_ j=>(bY C.T k j d).bind λv j=>qH C.T (k+1) a (out++[.mk 5 (aq C.T i) 0 s 1 [] [],v]) c j d:=by
      rw[bV];show _=(eF C.T i).bind _;unfold eF;rw[if_pos g2];show _=(aW C.T [61] (i+1)).bind _;unfold aW;rw[ei];rfl
     rw[sp]at hP;show Dx (cC (au m)) K (LL (cC (au m)) K X) (.ptr C.bp 0) (d:Int) (.ptr b1 0) (.ptr b3 0) (c:Int) (.ptr S.n 0) H3;unfold Dx;rw[aL,Nat.zero_add];refine aT (v:=.int 0 ((5:Nat):Int)) m3 WC.o (by omega) (by show 0<7;omega) rfl λH4 m4=>?_;have m4:Mem H4 (S3.set S.n (.ce [.int 0 ((5:Nat):Int),.int 0 (aq C.T i:Int),.int 0 ((0:Nat):Int),af [],.int 0 ((1:Nat):Int),.ab,.ab] 0)):=m4;have t4:=t3.ij m3 zk (.ce [.int 0 ((5:Nat):Int),.int 0 (aq C.T i:Int),.int 0 ((0:Nat):Int),af [],.int 0 ((1:Nat):Int),.ab,.ab] 0);have ky4:=WC.set (kind:=5) (at_:=aq C.T i) (n:=0) (op:=1) (s:=[]) B8.nil;have d4:=d3.setB (b:=S.n) (by omega) (λx hx=>by have:=bK x hx;omega) (.ce [.int 0 ((5:Nat):Int),.int 0 (aq C.T i:Int),.int 0 ((0:Nat):Int),af [],.int 0 ((1:Nat):Int),.ab,.ab] 0);show Dw (cC (au m)) K (nj (cC (au m)) K X) (.ptr C.bp 0) (d:Int) (.ptr b1 0) (.ptr b3 0) (c:Int) (.ptr S.n 0) H4;unfold Dw;rw[r5,r6];refine uA m4 d4 (bd.call (cV:=Nu) hP λs H5 S5 w m5 c5 d5 ⟨hv,h8⟩ oZ=>?_);subst hv;have t5:=t4.keep m4 hbp c5;have WD:=ky4.keep m4 hbp c5;rw[aL,Nat.zero_add];refine aT m5 WD.o (by omega) (by show 3<7;omega) (fe s) λH6 m6=>?_;have m6:Mem H6 (S5.set S.n (.ce [.int 0 ((5:Nat):Int),.int 0 (aq C.T i:Int),.int 0 ((0:Nat):Int),af s,.int 0 ((1:Nat):Int),.ab,.ab] 0)):=m6;have t6:=t5.ij m5 zk (.ce [.int 0 ((5:Nat):Int),.int 0 (aq C.T i:Int),.int 0 ((0:Nat):Int),af s,.int 0 ((1:Nat):Int),.ab,.ab] 0);have ky6:=WD.set (kind:=5) (at_:=aq C.T i) (n:=0) (op:=1) (s:=s) h8;have d6:=d5.setB (b:=S.n) (by omega) (λx hx=>by have:=bK x hx;omega) (.ce [.int 0 ((5:Nat):Int),.int 0 (aq C.T i:Int),.int 0 ((0:Nat):Int),af s,.int 0 ((1:Nat):Int),.ab,.ab] 0);refine ll (s:=[61]) (aD (by decide)) m6 d6 (bd.call (cV:=gY) oZ.seq λ_ H7 S7 w m7 c7 d7 _ Aq=>?_);exact Jo O hd hbp bK hX (kf:=k) (by omega) (by omega) (λ_ _ _=>ho) hol ho2 m7 d7 (t6.keep m6 hbp c7) (ky6.keep m6 hbp c7) Aq
    ·rw[decide_eq_false gt,ax];exact plain λq=>gt q.2.2
   ·rw[decide_eq_false (by omega),ax];exact plain λq=>g5 q.2.1
  ·rw[decide_eq_false (by omega),ax];exact plain λq=>g2 q.1
 ·rw[decide_eq_false (by omega)];simp only[Bool.not_false,az];exact Jo O hd hbp bK hX (kf:=0) (by have:=hk;omega) (by omega) ho hol ho2 m2 d2 tk2 WB hP
theorem aj0(hm:m≤1000000)(O:gO C m)(hd:d≤200)(hbp:C.bp<S0.n)(bK:∀b,aG C.vT b→b<S0.n)(hk:2*k+4≤m+1)
  (hrec:∀k',k=k'+1→Wy C S0 K b1 b3 a k' d X):Wy C S0 K b1 b3 a k d (LO (cC (au m)) K X):=by
 intro c v out H S γ r hc ho ho2 hM hs t hP;have r3:(cC (au m)).2.2.1=f69:=rfl;have r7:(cC (au m)).2.2.2.2.2.2=f136:=rfl;have e0:Int.ofNat 0=((0:Nat):Int):=rfl;have e64:Int.ofNat 64=((64:Nat):Int):=rfl;show DD (cC (au m)) K (DC (cC (au m)) K X) (uh (cC (au m)) K) (.ptr C.bp 0) (d:Int) (.ptr b1 0) (.ptr b3 0) (c:Int) H;unfold DD;rw[r3,r7];refine iL hM hs ?_;rw[bq,e0];rcases By hs with⟨ec,y,i,rfl⟩|⟨ec,c1,i,rfl⟩
 ·rw[ec,decide_eq_true rfl,az];have hP:bd C (aK C) dc K S0 (fJ C.T k out c a i d):=hP;cases k with
  |zero=>exact absurd (show fJ C.T 0 out c a i d=.bA by simp only[fJ]) hP.1
  |succ k=>
  simp only[fJ]at hP;refine tH (s:=[125]) (aD (by decide)) hM hs λH1 S1 m1 c1 d1=>?_;rw[ai,aB];have t1:=t.keep hM hbp c1.no;have ed:pW C.T [125] (ay.ok y i)=isA C.T [125] i:=rfl;rw[ed];cases h1:isA C.T [125] i with
  |true=>
   simp only[Bool.not_true,ax];rw[if_pos h1]at hP;refine SU hbp bK m1 d1 t1 ?_;have sp:((ay.ok y i).bind λ_ i=>(aW C.T [125] i).bind λ_ j=>.ok (aC.mk 8 a 0 [] 0 out []) j)=.ok (aC.mk 8 a 0 [] 0 out []) (i+1):=by
    show(aW C.T [125] i).bind _=_;unfold aW;rw[h1];rfl
   rw[sp];exact hP
  |false=>
   simp only[Bool.not_false,az];rw[if_neg (by rw[h1];simp)]at hP;rw[aL];refine aw m1 t1.o3 (v:=v) rfl ?_;refine t1.L.xk ?_;have etd:Int.tdiv (out.length:Int) (.ofNat 2)=((out.length/2:Nat):Int):=rfl;rw[aE,bq,etd,decide_eq_false (by decide),ax];refine w0 (by omega) (by omega) ?_;rw[e64];have sp:(if out.length=128 then .err 8 i else (iq C.T k c i d).bind λr j=>if isA C.T [44] j=true∨isA C.T [59] j=true then fJ C.T k (out++r.1) r.2 a (j+1) d else (aW C.T [125] j).bind λ_ k=>.ok (.mk 8 a 0 [] 0 (out++r.1) []) k)=((ay.ok y i).bind λ_ i=>dU (64≤out.length/2) i).bind λ_ i=>(iq C.T k c i d).bind λp j=>qH C.T k a (out++p.1) p.2 j d:=by
    show _=(dU (64≤out.length/2) i).bind _;unfold dU;by_cases g:out.length=128
    ·rw[if_pos g,if_pos (by omega)];rfl
    ·rw[if_neg g,if_neg (by omega)];rfl
   rw[sp]at hP;refine MI m1 d1 (bd.call (cV:=gY) hP λ_ H2 S2 w m2 c2 d2 _ hP2=>?_);refine atz hm O hd hbp bK (hrec k rfl) (by omega) hc (λx j er=>?_) ho ho2 m2 d2 (t1.keep m1 hbp c2) hP2;rcases Nat.lt_or_ge out.length 128 with g|g
   ·exact g
   ·have er:dU (64≤out.length/2) i=.ok x j:=er;unfold dU at er;rw[if_pos (by omega)]at er;cases er
 ·rw[decide_eq_false (by omega),ax];exact SU hbp bK hM hs t hP
theorem atA(hm:m≤1000000)(O:gO C m)(hd:d≤200)(hbp:C.bp<S0.n)(bK:∀b,aG C.vT b→b<S0.n):∀k,2*k+4≤m+1→∀q,k<q→Wy C S0 K b1 b3 a k d (DE (cC (au m)) K q):=by
 intro k
 induction k with
 |zero=>
  intro hk q hq;obtain⟨q,rfl⟩:∃p,q=p+1:=⟨q-1,by omega⟩
  exact aj0 hm O hd hbp bK hk (λk' h=>absurd h (by omega))
 |succ k ih=>
  intro hk q hq;obtain⟨q,rfl⟩:∃p,q=p+1:=⟨q-1,by omega⟩
  exact aj0 hm O hd hbp bK hk (λk' h=>by
   obtain rfl:k=k':=by omega
   exact ih (by omega) q (by omega))
end
theorem aww{m:Nat}(hm:m≤1000000)(O:gO C m):∀k,2*k+4≤m+1→∀{K:KF}{H:AH}{S:LS}{i d a:Nat}{γ:Type}{x:γ},d≤200→Mem H S→bB C S (ay.ok x i)→bd C (aK C) dc K S (fJ C.T k [] 0 a i d)→(au (m+1)).2.2.2.2.2.2.2.2.2 (.ptr C.bp 0) (a:Int) (d:Int) H K:=by
 intro k hk K H S i d a γ x hd hM hs hP;have e7:(au (m+1)).2.2.2.2.2.2.2.2.2=Bj (cC (au m)):=by rw[D7]
 rw[e7];unfold Bj VI LQ;have gf:G.NL=1000000:=rfl;generalize G.NL=iA at gf ⊢;rw[eU];refine bE (bz hM cm λH1 m1=>?_);refine bE ?_;rw[eU];refine bz m1 cm λH2 m2=>?_;refine eJ (c:=lg a .ab) m2 (LS.ag _ _) rfl rfl SM λH3 m3=>?_;have c3:an aV S (((S.push (.ce z7 0)).push (.ce z7 0)).set (S.n+1) (.ce (lg a .ab) 0)):=(((an.refl _ _).push _).push _).set (.inr (Nat.le_succ _)) _;have o1:(((S.push (.ce z7 0)).push (.ce z7 0)).set (S.n+1) (.ce (lg a .ab) 0)).ob S.n=.ce z7 0:=by
  rw[LS.ah _ _ (by omega),LS.aZ _ _ (by show S.n<S.n+1;omega)];exact LS.ag _ _
 have o3:(((S.push (.ce z7 0)).push (.ce z7 0)).set (S.n+1) (.ce (lg a .ab) 0)).ob (S.n+1)=.ce (lg a .ab) 0:=LS.aj _ _ _;have e0:Int.ofNat 0=((0:Nat):Int):=rfl;rw[e0];have hbp:=hs.dO hM;exact atA hm O hd hbp (λb hb=>hs.tk.lt hM hb) k (by omega) iA (by omega) 0 .ab [] H3 _ (ay.ok x i) (Nat.le_refl _) (by simp) (by simp) m3 (hs.iK hM c3) ⟨⟨c3.no,⟨z7,o1,rfl⟩,⟨_,o3,rfl⟩,Nat.le_refl _,Nat.le_succ _,by show S.n≠S.n+1;omega⟩,o3,aX.nil _ _ _,λ_ h=>h⟩ hP
end
end Go.Proofs.YtcedghechlgecaaGreatDoor
namespace Go.X
section
variable {H:AH}{S S':LS}
theorem aX.nm{Z:Nat→Prop}{v:AV}{l:List (List Nat)}(h:aX pz Z S v l)(hM:Mem H S):ku S (λb=>Z b∧b<S.n) v l:=by
 obtain⟨cl,h1,h2⟩:=h.done hM;refine⟨h1.congr λi hi=>?_,λt ht=>?_⟩
 ·have g:=(h2 i _ (List.getElem?_eq_getElem hi)).1;rw[List.getElem?_eq_getElem hi];exact g
 ·obtain⟨i,hi,e⟩:=List.mem_iff_getElem.1 ht;have g:=(h2 i _ (List.getElem?_eq_getElem hi)).2;rw[e]at g;exact g
end
end Go.X
namespace Go.Proofs.YtcedghechlgecaaGreatDoor
open Go Go.X Go.Proofs.YtcedghechlgecaaGreatDoor.G
section
variable {H:AH}{S:LS}{K:KF}{C:Ctx}{i d:Nat}
structure Er(C:Ctx)(S0 S:LS)(b1 b3:Nat)(v:AV)(out:List (List Nat)):Prop where
 x:an (aK C) S0 S
 o1:S.ob b1=.ce [.ab,.ab] 0
 o3:S.ob b3=.ce [v,.ab] 0
 n1:S0.n≤b1
 n3:S0.n≤b3
 ne:b1≠b3
 L:aX pz (zB S0 b1 b3) S v out
theorem Er.keep{S0 S':LS}{b1 b3:Nat}{v:AV}{out:List (List Nat)}(h:Er C S0 S b1 b3 v out)(hM:Mem H S)(hbp:C.bp<S0.n)(g:an (aK C) S S'):Er C S0 S' b1 b3 v out:=by
 have nb:∀b,S0.n≤b→¬aK C b:=λb hb q=>by have q:b=C.bp:=q;omega
 exact⟨h.x.trans g,g.ob hM h.o1 (nb _ h.n1),g.ob hM h.o3 (nb _ h.n3),h.n1,h.n3,h.ne,h.L.bp hM hbp g⟩
def Ae(T:List Tok)(k:Nat)(out:List (List Nat))(i:Nat):ay (List (List Nat)):=if out.length=16 then .err 8 i else (eF T i).bind λs j=>cL T k false (out++[s]) j
def nr(T:List Tok)(k d:Nat)(out:List (List Nat))(j:Nat):ay iP:=(cF T k j d).bind λb j=>(aW T [101,110,100] j).bind λ_ j=>.ok (.mk out b) j
section
variable {m k:Nat}{S0:LS}{b1 b3:Nat}
theorem aj1(O:gO C m)(hd:d≤200)(hbp:C.bp<S0.n)(bK:∀b,aG C.vT b→b<S0.n)(hk:2*k+4≤m){v:AV}{out:List (List Nat)}{γ:Type}{r:ay γ}(hM:Mem H S)(hs:bB C S r)(t:Er C S0 S b1 b3 v out)(hP:bd C (aK C) sZ K S0 (r.bind λ_ j=>nr C.T k d out j)) :
  yh (fA (au m)) K (.ptr C.bp 0) (d:Int) (.ptr b1 0) (.ptr b3 0) H:=by
 have r1:(fA (au m)).1=(au m).1:=rfl;have r4:(fA (au m)).2.2.2.1=f106:=rfl;show CV (fA (au m)) K (.ptr C.bp 0) (d:Int) (.ptr b1 0) (.ptr b3 0) H;unfold CV;rw[r1,r4];unfold nr at hP;have n0:=t.x.1;have Wz:∀b,aG v b→b<S.n:=λb hb=>t.L.lt hM hb;have Nw:b1<S.n:=hM.lt (by rw[t.o1];simp);have SJ:b3<S.n:=hM.lt (by rw[t.o3];simp);have hn1:=t.n1;have hn3:=t.n3;have nb:∀b,S0.n≤b→¬aK C b:=λb hb q=>by have q:b=C.bp:=q;omega
 refine O.block k hk hd hM hs (bd.call (cV:=fK) hP.seq λbl H1 S1 w m1 c1 d1 ⟨cb,hsl,hrs⟩ hP1=>?_);have t1:=t.keep hM hbp c1;rw[aL,Nat.zero_add];refine aT m1 t1.o3 (by omega) (by show 1<2;omega) hsl.one λH2 m2=>?_;have m2:Mem H2 (S1.set b3 (.ce [v,w] 0)):=m2;have d2:=d1.setB (b:=b3) (by omega) (λx hx=>by have:=bK x hx;omega) (.ce [v,w] 0);refine ll (s:=[101,110,100]) (aD (by decide)) m2 d2 (bd.call (cV:=gY) hP1.seq λ_ H3 S3 w' m3 c3 d3 _ hP3=>?_);have o3:S3.ob b3=.ce [v,w] 0:=c3.ob m2 (LS.aj _ _ _) (nb _ hn3);have kp:∀b,S0.n≤b→b<S1.n→b≠b3→S3.ob b=S1.ob b:=λb h1 h2 h3=>by rw[c3.2 b h2 (nb b h1),LS.ah _ _ h3]
 have c3n:S1.n≤S3.n:=c3.1;have hn:=c1.1;have hR:RF S3 (λb=>zB S0 b1 b3 b∧b<S3.n) [v,w] (.mk out bl):=
  .mk out bl v w cb ((t1.L.nm m1).go (λb hb=>kp b hb.1.1 hb.2 hb.1.2.2) λb hb=>⟨hb.1,by have:=hb.2;omega⟩) (hsl.go (λb hb=>kp b (by have:=hb.1;omega) hb.2 (by have:=hb.1;omega)) λb hb=>⟨⟨by have:=hb.1;omega,by have:=hb.1;omega,by have:=hb.1;omega⟩,by have:=hb.2;omega⟩)
   λix s h=>(hrs ix s h).go (λb hb=>kp b (by have:=hb.1;omega) hb.2 (by have:=hb.1;omega)) λb hb=>⟨⟨by have:=hb.1;omega,by have:=hb.1;omega,by have:=hb.1;omega⟩,by have:=hb.2;omega⟩
 refine ew m3 o3 rfl ?_;have o1:S3.ob b1=.ce [.ab,.ab] 0:=by rw[kp b1 hn1 (by omega) t.ne];exact t1.o1
 refine eJ m3 o1 rfl rfl hR.ones λH4 m4=>?_;refine ew m4 (LS.aj _ _ _) rfl ?_;have x3:an (aK C) S0 S3:=(t1.x.set (.inr hn3) (.ce [v,w] 0)).trans c3;exact hP3.2 H4 _ _ (.mk out bl) m4 (x3.set (.inr hn1) _) ((d3.ret _).setB (b:=b1) (by omega) (λx hx=>by have:=bK x hx;omega) _) ⟨_,rfl,hR.go (λb hb=>LS.ah _ _ hb.1.2.1) λb hb=>⟨hb.1.1,hb.2⟩⟩ qG
theorem aj2(O:gO C m)(hd:d≤200)(hbp:C.bp<S0.n)(bK:∀b,aG C.vT b→b<S0.n)(hk:2*k+4≤m){v:AV}{out:List (List Nat)}{γ:Type}{r:ay γ}(hM:Mem H S)(hs:bB C S r)(t:Er C S0 S b1 b3 v out)(hP:bd C (aK C) sZ K S0 (r.bind λ_ i=>(aW C.T [41] i).bind λ_ j=>nr C.T k d out j)) :
  ue (fA (au m)) K (.ptr C.bp 0) (d:Int) (.ptr b1 0) (.ptr b3 0) H:=by
 have r4:(fA (au m)).2.2.2.1=f106:=rfl;show CW (fA (au m)) K (yh (fA (au m)) K) (.ptr C.bp 0) (d:Int) (.ptr b1 0) (.ptr b3 0) H;unfold CW;rw[r4];refine ll (s:=[41]) (aD (by decide)) hM hs (bd.call (cV:=gY) hP.seq λ_ H1 S1 w m1 c1 d1 _ hP1=>?_);exact aj1 O hd hbp bK hk m1 d1 (t.keep hM hbp c1) hP1
theorem aj3(O:gO C m)(hd:d≤200)(hbp:C.bp<S0.n)(bK:∀b,aG C.vT b→b<S0.n)(hk:2*k+4≤m){Y:AV→Int→AV→AV→AH→Prop}{k8:Nat}
  (hrec:∀k',k8=k'+1→∀(out:List (List Nat)) (v:AV) (H:AH) (S:LS){γ:Type}(r:ay γ),out.length≤16→Mem H S→bB C S r→Er C S0 S b1 b3 v out→bd C (aK C) sZ K S0 ((r.bind λ_ i=>Ae C.T k' out i).bind λl j=>nr C.T k d l j)→Y (.ptr C.bp 0) (d:Int) (.ptr b1 0) (.ptr b3 0) H)
  (out:List (List Nat)) (v:AV) (H:AH) (S:LS){γ:Type}(r:ay γ) (ho:out.length≤16) (hM:Mem H S) (hs:bB C S r) (t:Er C S0 S b1 b3 v out)
  (hP:bd C (aK C) sZ K S0 ((r.bind λ_ i=>Ae C.T k8 out i).bind λl j=>nr C.T k d l j)) :
  La (fA (au m)) K Y (.ptr C.bp 0) (d:Int) (.ptr b1 0) (.ptr b3 0) H:=by
 have r2:(fA (au m)).2.1=f68:=rfl;have r3:(fA (au m)).2.2.1=f104:=rfl;have r5:(fA (au m)).2.2.2.2=f136:=rfl;have e0:Int.ofNat 0=((0:Nat):Int):=rfl;have e16:Int.ofNat 16=((16:Nat):Int):=rfl;show CY (fA (au m)) K (ue (fA (au m)) K) (K9 (fA (au m)) K Y) (.ptr C.bp 0) (d:Int) (.ptr b1 0) (.ptr b3 0) H;unfold CY;rw[r3,r5];have hn1:=t.n1;have hn3:=t.n3;refine iL hM hs ?_;rw[bq,e0];rcases By hs with⟨ec,a,i,rfl⟩|⟨ec,c1,i,rfl⟩
 ·rw[ec,decide_eq_true rfl,az];rw[aL,Nat.zero_add];refine aw hM t.o3 (v:=v) rfl ?_;refine t.L.xk ?_;rw[aE,e16];have sp:((ay.ok a i).bind λ_ i=>Ae C.T k8 out i).bind (λl j=>nr C.T k d l j)=(((ay.ok a i).bind λ_ i=>dU (16≤out.length) i).bind λ_ i=>(eF C.T i).bind λx j=>(cL C.T k8 false (out++[x]) j).bind λl j=>nr C.T k d l j):=by
   show(Ae C.T k8 out i).bind _=(dU (16≤out.length) i).bind _;unfold Ae dU;by_cases g:out.length=16
   ·rw[if_pos g,if_pos (by omega)];rfl
   ·rw[if_neg g,if_neg (by omega),bV];rfl
  rw[sp]at hP;refine MI hM hs (bd.call (cV:=gY) hP λ_ H1 S1 w m1 c1 d1 _ hP1=>?_);have t1:=t.keep hM hbp c1;rw[aL,Nat.zero_add];refine aw m1 t1.o3 (v:=v) rfl ?_;refine uA m1 d1 (bd.call (cV:=Nu) hP1.seq λx H2 S2 v2 m2 c2 d2 ⟨hv,h8⟩ hP2=>?_);subst hv;have t2:=t1.keep m1 hbp c2;refine aw m2 t2.o3 (v:=v) rfl ?_;refine cE t2.L.same ?_;refine m2.bG ?_;refine ey (fe x) ?_;have n2:=t2.x.1;have Nw:b1<S2.n:=m2.lt (by rw[t2.o1];simp);have SJ:b3<S2.n:=m2.lt (by rw[t2.o3];simp);refine t2.L.pushB (R:=pz) (bytes:=16) (c:=[af x]) (Q:=λ_=>False) m2 ⟨rfl,h8⟩ (λb hb=>hb.elim) (λb hb=>⟨by omega,by omega,by omega⟩) (by omega) λH3 S3 v3 m3 L3 n3 k3 bk3 ho3=>?_;have hvn:∀b,aG v b→zB S0 b1 b3 b:=λb hb=>t.L.o0 hb;have c3:an (λb=>aG v b) S2 S3:=⟨n3,λb hb hx=>k3 b hb hx⟩
  have d3:=d2.keep m2 c3 (λq=>by have:=(hvn _ q).1;omega) (λb hb q=>by have:=(hvn _ q).1;have:=bK b hb;omega);have o3:S3.ob b3=.ce [v,.ab] 0:=c3.ob m2 t2.o3 λq=>(hvn _ q).2.2 rfl;have o1:S3.ob b1=.ce [.ab,.ab] 0:=c3.ob m2 t2.o1 λq=>(hvn _ q).2.1 rfl;refine aT m3 o3 (by omega) (by show 0<2;omega) ho3 λH4 m4=>?_;have m4:Mem H4 (S3.set b3 (.ce [v3,.ab] 0)):=m4;have t4:Er C S0 (S3.set b3 (.ce [v3,.ab] 0)) b1 b3 v3 (out++[x]):=
   ⟨(t2.x.gi c3 λb hb=>.inr (hvn b hb).1).set (.inr hn3) _,(LS.ah _ _ t.ne).trans o1,LS.aj _ _ _,hn1,hn3,t.ne,L3.keep m3 (Nat.le_refl _) λb hb _=>LS.ah _ _ hb.2.2⟩
  have d4:=d3.setB (b:=b3) (by omega) (λx hx=>by have:=bK x hx;omega) (.ce [v3,.ab] 0);show CX (fA (au m)) K Y (ue (fA (au m)) K) (.ptr C.bp 0) (d:Int) (.ptr b1 0) (.ptr b3 0) H4;unfold CX;rw[r2];refine dT (s:=[44]) (aD (by decide)) m4 d4 (λy j er hi H5 S5 m5 c5 d5=>?_) λhi H5 S5 m5 c5 d5=>?_
  ·simp only[ai,aB,Bool.not_true,ax];rw[er]at hP2;have hP2:bd C (aK C) sZ K S0 ((cL C.T k8 false (out++[x]) j).bind λl j=>nr C.T k d l j):=hP2;cases k8 with
   |zero=>exact absurd (show(cL C.T 0 false (out++[x]) j).bind _=.bA by simp only[cL];rfl) hP2.1
   |succ k8=>
    have ol:out.length<16:=by
     rcases Nat.lt_or_ge out.length 16 with g|g
     ·exact g
     ·exfalso;have e1:((ay.ok a i).bind λ_ i=>dU (16≤out.length) i)=.err 8 i:=by show dU _ i=_;unfold dU;rw[if_pos g]
      rw[e1]at er;cases er
    have sp:cL C.T (k8+1) false (out++[x]) j=Ae C.T k8 (out++[x]) (j+1):=by
     simp only[cL,Bool.false_eq_true,if_false,hi,if_true];rfl
    rw[sp]at hP2;exact hrec k8 rfl (out++[x]) v3 H5 S5 (.ok () (j+1):ay Unit) (by simp;omega) m5 d5 (t4.keep m4 hbp c5) hP2
  ·simp only[ai,aB,Bool.not_false,az];refine aj2 O hd hbp bK hk m5 d5 (t4.keep m4 hbp c5) (out:=out++[x]) ?_;have sp:∀r':ay (List Nat),pW C.T [44] r'=false→(r'.bind λ_ j=>(cL C.T k8 false (out++[x]) j).bind λl j=>nr C.T k d l j)≠.bA→(r'.bind λ_ j=>(cL C.T k8 false (out++[x]) j).bind λl j=>nr C.T k d l j)=r'.bind λ_ i=>(aW C.T [41] i).bind λ_ j=>nr C.T k d (out++[x]) j:=by
    intro r' hi2 hno;cases r' with
    |bA=>rfl
    |err c i=>rfl
    |ok y j=>
     have hi3:isA C.T [44] j=false:=hi2;cases k8 with
     |zero=>exact absurd (show(cL C.T 0 false (out++[x]) j).bind (λl j=>nr C.T k d l j)=.bA by simp only[cL];rfl) hno
     |succ k8=>
      have e1:cL C.T (k8+1) false (out++[x]) j=(aW C.T [41] j).bind λ_ j=>.ok (out++[x]) j:=by
       simp only[cL,Bool.false_eq_true,if_false];rw[hi3];rfl
      show(cL C.T (k8+1) false (out++[x]) j).bind _=(aW C.T [41] j).bind _;rw[e1,bV];rfl
   rw[sp _ hi hP2.1]at hP2;exact hP2
 ·rw[decide_eq_false (by omega),ax];exact aj2 O hd hbp bK hk hM hs t hP
theorem atB(O:gO C m)(hd:d≤200)(hbp:C.bp<S0.n)(bK:∀b,aG C.vT b→b<S0.n)(hk:2*k+4≤m) :
  ∀k8 (q:Nat) (out:List (List Nat)) (v:AV) (H:AH) (S:LS){γ:Type}(r:ay γ),k8<q→out.length≤16→Mem H S→bB C S r→Er C S0 S b1 b3 v out→bd C (aK C) sZ K S0 ((r.bind λ_ i=>Ae C.T k8 out i).bind λl j=>nr C.T k d l j)→
  CZ (fA (au m)) K q (.ptr C.bp 0) (d:Int) (.ptr b1 0) (.ptr b3 0) H:=by
 intro k8
 induction k8 with
 |zero=>
  intro q out v H S γ r hq ho hM hs t hP;obtain⟨q,rfl⟩:∃p,q=p+1:=⟨q-1,by omega⟩
  exact aj3 O hd hbp bK hk (λk' h=>absurd h (by omega)) out v H S r ho hM hs t hP
 |succ k8 ih=>
  intro q out v H S γ r hq ho hM hs t hP;obtain⟨q,rfl⟩:∃p,q=p+1:=⟨q-1,by omega⟩
  exact aj3 O hd hbp bK hk (λk' h out v H S γ r ho hM hs t hP=>by
   obtain rfl:k8=k':=by omega
   exact ih q out v H S r (by omega) ho hM hs t hP) out v H S r ho hM hs t hP
end
theorem x105{m:Nat}(hm:m≤1000000)(O:gO C m):∀k,2*k+5≤m+1→∀{K:KF}{H:AH}{S:LS}{d:Nat}{γ:Type}{r:ay γ},d≤200→Mem H S→bB C S r→bd C (aK C) sZ K S (r.bind λ_ i=>pFn C.T k i d)→(au (m+1)).2.2.2.2.1 (.ptr C.bp 0) (d:Int) H K:=by
 intro k hk K H S d γ r hd hM hs hP;have e7:(au (m+1)).2.2.2.2.1=Bh (fA (au m)):=by rw[D7]
 rw[e7];have r2:(fA (au m)).2.1=f68:=rfl;have r4:(fA (au m)).2.2.2.1=f106:=rfl;unfold Bh VD Lb;rw[r2,r4];have gf:G.NL=1000000:=rfl;generalize G.NL=iA at gf ⊢;have z1:∀a∈([.ab,.ab]:List AV),a.one=true:=λa ha=>by
  simp only[List.mem_cons,List.not_mem_nil,or_false]at ha;rcases ha with rfl|rfl<;>rfl
 refine bE (bz hM z1 λH1 m1=>?_);refine bE (bz m1 z1 λH2 m2=>?_);have c2:an aV S ((S.push (.ce [.ab,.ab] 0)).push (.ce [.ab,.ab] 0)):=((an.refl _ _).push _).push _;have d2:=hs.iK hM c2;have hbp:=hs.dO hM;have bK:∀b,aG C.vT b→b<S.n:=λb hb=>hs.tk.lt hM hb;have t2:Er C S ((S.push (.ce [.ab,.ab] 0)).push (.ce [.ab,.ab] 0)) S.n (S.n+1) .ab []:=
  ⟨c2.no,by rw[LS.aZ _ _ (by show S.n<S.n+1;omega)];exact LS.ag _ _,LS.ag _ _,Nat.le_refl _,Nat.le_succ _,by omega,aX.nil _ _ _⟩
 have hP:bd C (aK C) sZ K S ((r.bind λ_ i=>aW C.T [40] i).bind λ_ j=>(cL C.T k true [] j).bind λps j=>nr C.T k d ps j):=by
  rw[bV];exact hP
 refine ll (s:=[40]) (aD (by decide)) m2 d2 (bd.call (cV:=gY) hP λ_ H3 S3 w m3 c3 d3 _ hP3=>?_);have t3:=t2.keep m2 hbp c3;refine dT (s:=[41]) (aD (by decide)) m3 d3 (λy j er hi H4 S4 m4 c4 d4=>?_) λh1 H4 S4 m4 c4 d4=>?_
 ·simp only[ai,aB,Bool.not_true,ax];rw[er]at hP3;have hP3:bd C (aK C) sZ K S ((cL C.T k true [] j).bind λps j=>nr C.T k d ps j):=hP3;cases k with
  |zero=>exact absurd (show(cL C.T 0 true [] j).bind _=.bA by simp only[cL];rfl) hP3.1
  |succ k=>
  have sp:cL C.T (k+1) true [] j=.ok [] (j+1):=by
   simp only[cL,if_true];rw[hi];simp only[Bool.not_true,Bool.false_eq_true,if_false,aW];rw[hi];rfl
  rw[sp]at hP3;exact aj1 O hd hbp bK (by omega) m4 d4 (t3.keep m3 hbp c4) hP3
 ·simp only[ai,aB,Bool.not_false,az];have sp:((r.bind λ_ i=>aW C.T [40] i).bind λ_ j=>(cL C.T k true [] j).bind λps j=>nr C.T k d ps j)=(((r.bind λ_ i=>aW C.T [40] i).bind λ_ i=>Ae C.T (k-1) [] i).bind λl j=>nr C.T k d l j):=by
   cases hr:r.bind λ_ i=>aW C.T [40] i with
   |bA=>rfl
   |err c i=>rfl
   |ok y j=>
    rw[hr]at h1 hP3;have h1:isA C.T [41] j=false:=h1;cases k with
    |zero=>exact absurd (show(cL C.T 0 true [] j).bind (λl j=>nr C.T 0 d l j)=.bA by simp only[cL];rfl) hP3.1
    |succ k=>
     show(cL C.T (k+1) true [] j).bind _=(Ae C.T k [] j).bind _;simp only[cL,if_true];rw[h1];rfl
  rw[sp]at hP3;exact atB O hd hbp bK (by omega) (k-1) iA [] .ab H4 S4 _ (by omega) (by simp) m4 d4 (t3.keep m3 hbp c4) hP3
end
section
variable {H:AH}{S:LS}{K:KF}{C:Ctx}{i d:Nat}
theorem ft.all{Q:Nat→Prop}{kind a:Nat}{names:List (List Nat)}{l:List aC}{B:List (List aS)}{vn vl vb:AV}{cl cb:Nat→List AV}(hn:ku S Q vn names)(hl:cM S Q 7 vl l.length cl)(he:∀i e,l[i]? = some e→RE S Q (cl i) e)(hb:cM S Q 1 vb B.length cb)(hs:∀i b,B[i]? = some b→qD.rel S Q (cb i) b):ft S Q [.int 0 (kind:Int),.int 0 (a:Int),vn,vl,vb] (.mk kind a names l B):=by
 have key:∀i,∃p:AV×(Nat→List AV),∀b,B[i]? = some b→cb i=[p.1]∧cM S Q 5 p.1 b.length p.2∧∀j s,b[j]? = some s→ft S Q (p.2 j) s:=λi=>by
  cases hi:B[i]? with
  |none=>exact⟨⟨.ab,λ_=>[]⟩,λb h=>by cases h⟩
  |some b=>
   obtain⟨v,bc,e,g1,g2⟩:=hs i b hi;exact⟨⟨v,bc⟩,λb' h=>by cases h;exact⟨e,g1,g2⟩⟩
 obtain⟨p,hp⟩:=Classical.axiomOfChoice key;exact .mk kind a names l B vn vl vb cl (λi=>(p i).1) (λi=>(p i).2) hn hl he (hb.congr λi hi=>(hp i _ (List.getElem?_eq_getElem hi)).1) (λi b h=>(hp i b h).2.1) λi b j s h h2=>(hp i b h).2.2 j s h2
def zS(S0:LS)(u w:AV)(X:Nat→Prop):Nat→Prop:=λb=>S0.n≤b∧¬aG u b∧¬aG w b∧¬X b
structure dM(C:Ctx)(S0 S:LS)(bs kd a:Nat)(vn:AV)(names:List (List Nat))(vl:AV)(l:List aC)(vb:AV)(B:List (List aS))(X:Nat→Prop):Prop where
 x:an (cG C bs) S0 S
 ob:S.ob bs=.ce [.int 0 (kd:Int),.int 0 (a:Int),vn,vl,vb] 0
 N:aX pz (zS S0 vl vb X) S vn names
 E:aX fZ (zS S0 vn vb X) S vl l
 B:aX qD (zS S0 vn vl X) S vb B
structure kT(C:Ctx)(S0:LS)(bs:Nat):Prop where
 lt:bs<S0.n
 ne:bs≠C.bp
 nT:∀b,aG C.vT b→b≠bs
 bp:C.bp<S0.n
 vT:∀b,aG C.vT b→b<S0.n
section
variable {S0 S':LS}{bs kd a:Nat}{vn vl vb:AV}{names:List (List Nat)}{l:List aC}{B:List (List aS)}{X X':Nat→Prop}
theorem dM.Jm{Y:Nat→Prop}(t:dM C S0 S bs kd a vn names vl l vb B X)(hM:Mem H S)(g:an Y S S')(h:∀b,Y b→b≠bs∧(b=C.bp∨S0.n≤b))(hY:∀b,S0.n≤b→b<S.n→¬Y b):dM C S0 S' bs kd a vn names vl l vb B X:=
 ⟨t.x.gi g λb hb=>(h b hb).2.elim (λq=>.inl (.inl q)) .inr,g.ob hM t.ob λq=>(h _ q).1 rfl,t.N.keep hM g.1 λb h1 h2=>g.2 b h2 (hY b h1.1 h2),t.E.keep hM g.1 λb h1 h2=>g.2 b h2 (hY b h1.1 h2),t.B.keep hM g.1 λb h1 h2=>g.2 b h2 (hY b h1.1 h2)⟩
theorem dM.keep(W:kT C S0 bs)(t:dM C S0 S bs kd a vn names vl l vb B X)(hM:Mem H S)(g:an (aK C) S S'):dM C S0 S' bs kd a vn names vl l vb B X:=
 t.Jm hM g (λb hb=>⟨λq=>W.ne (by have hb:b=C.bp:=hb;omega),.inl hb⟩) λb h1 _ q=>by have q:b=C.bp:=q;have:=W.bp;omega
theorem dM.res(t:dM C S0 S bs kd a vn names vl l vb B X)(hM:Mem H S)(h:∀b,X' b→X b∨S.n≤b):dM C S0 S bs kd a vn names vl l vb B X':=
 ⟨t.x,t.ob,t.N.imp hM λb hb hlt=>⟨hb.1,hb.2.1,hb.2.2.1,λq=>(h b q).elim hb.2.2.2 λg=>by omega⟩,t.E.imp hM λb hb hlt=>⟨hb.1,hb.2.1,hb.2.2.1,λq=>(h b q).elim hb.2.2.2 λg=>by omega⟩,t.B.imp hM λb hb hlt=>⟨hb.1,hb.2.1,hb.2.2.1,λq=>(h b q).elim hb.2.2.2 λg=>by omega⟩⟩
theorem dM.kind(W:kT C S0 bs)(t:dM C S0 S bs kd a vn names vl l vb B X)(hM:Mem H S)(kd':Nat):dM C S0 (S.set bs (.ce [.int 0 (kd':Int),.int 0 (a:Int),vn,vl,vb] 0)) bs kd' a vn names vl l vb B X:=
 ⟨t.x.set (.inl (.inr rfl)) _,LS.aj _ _ _,t.N.keep hM (Nat.le_refl _) λb h1 _=>LS.ah _ _ (by have:=W.lt;have:=h1.1;omega),t.E.keep hM (Nat.le_refl _) λb h1 _=>LS.ah _ _ (by have:=W.lt;have:=h1.1;omega),t.B.keep hM (Nat.le_refl _) λb h1 _=>LS.ah _ _ (by have:=W.lt;have:=h1.1;omega)⟩
theorem dM.kS(W:kT C S0 bs)(t:dM C S0 S bs kd a vn names vl l vb B X)(hM:Mem H S){kd':Nat}{k:AH→Prop}{α:Type}{r:ay α}(hd:bB C S r)(hk:∀H' S',Mem H' S'→S'.n=S.n→bB C S' r→(∀b,b≠bs→S'.ob b=S.ob b)→dM C S0 S' bs kd' a vn names vl l vb B X→k H'):aP (.ptr bs 0) (al 0 (.ptr bs 0) λv=>ae 1 v (.int 0 (kd':Int)) H k):=by
 simp only[cj,aL,Nat.zero_add];refine aT (v:=.int 0 (kd':Int)) hM t.ob (by omega) (by show 0<5;omega) rfl λH1 m1=>?_;exact hk H1 _ m1 rfl (hd.setB W.ne W.nT _) (λb hb=>LS.ah _ _ hb) (t.kind W hM kd')
theorem dM.SV(W:kT C S0 bs)(t:dM C S0 S bs kd a vn names vl l vb B X)(hM:Mem H S){NC:AV}{names':List (List Nat)}(N':aX pz (zS S0 vl vb aV) S NC names')(hX:∀b,aG NC b→X b){k:AH→Prop}{α:Type}{r:ay α}(hd:bB C S r)(hk:∀H' S',Mem H' S'→S'.n=S.n→bB C S' r→(∀b,b≠bs→S'.ob b=S.ob b)→dM C S0 S' bs kd a NC names' vl l vb B aV→k H'):aP (.ptr bs 0) (al 2 (.ptr bs 0) λv=>ae 1 v NC H k):=by
 simp only[cj,aL,Nat.zero_add];refine aT hM t.ob (by omega) (by show 2<5;omega) N'.one λH1 m1=>?_;have hlt:=W.lt;refine hk H1 _ m1 rfl (hd.setB W.ne W.nT _) (λb hb=>LS.ah _ _ hb) ⟨t.x.set (.inl (.inr rfl)) _,LS.aj _ _ _,N'.keep hM (Nat.le_refl _) λb h1 _=>LS.ah _ _ (by have:=h1.1;omega),?_,?_⟩
 ·exact(t.E.imp hM λb hb _=>(⟨hb.1,λq=>hb.2.2.2 (hX b q),hb.2.2.1,λq=>q⟩:zS S0 NC vb aV b)).keep hM (Nat.le_refl _) λb h1 _=>LS.ah _ _ (by have:=h1.1;omega)
 ·exact(t.B.imp hM λb hb _=>(⟨hb.1,λq=>hb.2.2.2 (hX b q),hb.2.2.1,λq=>q⟩:zS S0 NC vl aV b)).keep hM (Nat.le_refl _) λb h1 _=>LS.ah _ _ (by have:=h1.1;omega)
theorem dM.sS(W:kT C S0 bs)(t:dM C S0 S bs kd a vn names vl l vb B X)(hM:Mem H S){Es:AV}{l':List aC}(E':aX fZ (zS S0 vn vb aV) S Es l')(hX:∀b,aG Es b→X b){k:AH→Prop}{α:Type}{r:ay α}(hd:bB C S r)(hk:∀H' S',Mem H' S'→S'.n=S.n→bB C S' r→(∀b,b≠bs→S'.ob b=S.ob b)→dM C S0 S' bs kd a vn names Es l' vb B aV→k H'):aP (.ptr bs 0) (al 3 (.ptr bs 0) λv=>ae 1 v Es H k):=by
 simp only[cj,aL,Nat.zero_add];refine aT hM t.ob (by omega) (by show 3<5;omega) E'.one λH1 m1=>?_;have hlt:=W.lt;refine hk H1 _ m1 rfl (hd.setB W.ne W.nT _) (λb hb=>LS.ah _ _ hb) ⟨t.x.set (.inl (.inr rfl)) _,LS.aj _ _ _,?_,E'.keep hM (Nat.le_refl _) λb h1 _=>LS.ah _ _ (by have:=h1.1;omega),?_⟩
 ·exact(t.N.imp hM λb hb _=>(⟨hb.1,λq=>hb.2.2.2 (hX b q),hb.2.2.1,λq=>q⟩:zS S0 Es vb aV b)).keep hM (Nat.le_refl _) λb h1 _=>LS.ah _ _ (by have:=h1.1;omega)
 ·exact(t.B.imp hM λb hb _=>(⟨hb.1,hb.2.1,λq=>hb.2.2.2 (hX b q),λq=>q⟩:zS S0 vn Es aV b)).keep hM (Nat.le_refl _) λb h1 _=>LS.ah _ _ (by have:=h1.1;omega)
theorem dM.Jp(W:kT C S0 bs)(t:dM C S0 S bs kd a vn names vl l vb B X)(hM:Mem H S){Et:AV}{B':List (List aS)}(B1:aX qD (zS S0 vn vl aV) S Et B')(hX:∀b,aG Et b→X b){k:AH→Prop}{α:Type}{r:ay α}(hd:bB C S r)(hk:∀H' S',Mem H' S'→S'.n=S.n→bB C S' r→(∀b,b≠bs→S'.ob b=S.ob b)→dM C S0 S' bs kd a vn names vl l Et B' aV→k H'):aP (.ptr bs 0) (al 4 (.ptr bs 0) λv=>ae 1 v Et H k):=by
 simp only[cj,aL,Nat.zero_add];refine aT hM t.ob (by omega) (by show 4<5;omega) B1.one λH1 m1=>?_;have hlt:=W.lt;refine hk H1 _ m1 rfl (hd.setB W.ne W.nT _) (λb hb=>LS.ah _ _ hb) ⟨t.x.set (.inl (.inr rfl)) _,LS.aj _ _ _,?_,?_,B1.keep hM (Nat.le_refl _) λb h1 _=>LS.ah _ _ (by have:=h1.1;omega)⟩
 ·exact(t.N.imp hM λb hb _=>(⟨hb.1,hb.2.1,λq=>hb.2.2.2 (hX b q),λq=>q⟩:zS S0 vl Et aV b)).keep hM (Nat.le_refl _) λb h1 _=>LS.ah _ _ (by have:=h1.1;omega)
 ·exact(t.E.imp hM λb hb _=>(⟨hb.1,hb.2.1,λq=>hb.2.2.2 (hX b q),λq=>q⟩:zS S0 vn Et aV b)).keep hM (Nat.le_refl _) λb h1 _=>LS.ah _ _ (by have:=h1.1;omega)
theorem dM.BA(t:dM C S0 S bs kd a vn names vl l vb B X)(hM:Mem H S):(∀b,aG vn b→S0.n≤b∧b<S.n)∧(∀b,aG vl b→S0.n≤b∧b<S.n)∧(∀b,aG vb b→S0.n≤b∧b<S.n):=
 ⟨λb hb=>⟨(t.N.o0 hb).1,t.N.lt hM hb⟩,λb hb=>⟨(t.E.o0 hb).1,t.E.lt hM hb⟩,λb hb=>⟨(t.B.o0 hb).1,t.B.lt hM hb⟩⟩
theorem dM.awx(W:kT C S0 bs)(t:dM C S0 S bs kd a vn names vl l vb B aV)(hM:Mem H S){s:List Nat}(h8:B8 s){k:AV→AH→Prop}{α:Type}{r:ay α}(hd:bB C S r)(hk:∀H' S',Mem H' S'→S'.n=S.n+1→bB C S' r→dM C S0 S' bs kd a vn names vl l vb B (λb=>b=S.n)→aX pz (zS S0 vl vb aV) S' (.slice S.n 0 1 1 1 true) [s]→k (.slice S.n 0 1 1 1 true) H'):aN (aA H) 1 1 [af s] k:=by
 have L:=t.BA hM;have n0:=t.x.1;refine cA hM rfl (λy hy=>by simp only[List.mem_cons,List.not_mem_nil,or_false]at hy;subst hy;exact fe s) λH1 m1=>?_;have c1:an aV S (S.push (.ce [af s] 0)):=(an.refl _ _).push _;refine hk H1 _ m1 rfl (hd.iK hM c1) ((t.res hM (X':=λb=>b=S.n) λb hb=>.inr (by have hb:b=S.n:=hb;omega)).keep W hM c1.no) ?_;exact aX.single (R:=pz) (Q:=λ_=>False) (LS.ag _ _) ⟨n0,λq=>by have:=(L.2.1 _ q).2;omega,λq=>by have:=(L.2.2 _ q).2;omega,λq=>q⟩ ⟨rfl,h8⟩ λx hx=>hx.elim
theorem dM.newE(W:kT C S0 bs)(t:dM C S0 S bs kd a vn names vl l vb B aV)(hM:Mem H S){c:List AV}{e:aC}{Q:Nat→Prop}(hR:RE S Q c e)(hQ:∀b,Q b→S0.n≤b∧b<S.n∧¬aG vn b∧¬aG vb b){k:AV→AH→Prop}{α:Type}{r:ay α}(hd:bB C S r)(hk:∀H' S',Mem H' S'→S'.n=S.n+1→bB C S' r→dM C S0 S' bs kd a vn names vl l vb B (λb=>b=S.n)→aX fZ (zS S0 vn vb aV) S' (.slice S.n 0 1 1 7 true) [e]→k (.slice S.n 0 1 1 7 true) H'):aN (aA H) 1 7 c k:=by
 have L:=t.BA hM;have n0:=t.x.1;refine cA hM (by rw[hR.len]) hR.ones λH1 m1=>?_;have c1:an aV S (S.push (.ce c 0)):=(an.refl _ _).push _;refine hk H1 _ m1 rfl (hd.iK hM c1) ((t.res hM (X':=λb=>b=S.n) λb hb=>.inr (by have hb:b=S.n:=hb;omega)).keep W hM c1.no) ?_;exact aX.single (R:=fZ) (Q:=Q) (LS.ag _ _) ⟨n0,λq=>by have:=(L.1 _ q).2;omega,λq=>by have:=(L.2.2 _ q).2;omega,λq=>q⟩ (hR.go (λb hb=>LS.aZ _ _ (hQ b hb).2.1) λ_ h=>h) λx hx=>⟨⟨(hQ x hx).1,(hQ x hx).2.2.1,(hQ x hx).2.2.2,λq=>q⟩,Nat.lt_succ_of_lt (hQ x hx).2.1,by have:=(hQ x hx).2.1;omega⟩
theorem dM.auB(W:kT C S0 bs)(t:dM C S0 S bs kd a vn names vl l vb B aV)(hM:Mem H S){c1 c2:List AV}{e1 e2:aC}{Q:Nat→Prop}(hR1:RE S Q c1 e1)(hR2:RE S Q c2 e2)(hQ:∀b,Q b→S0.n≤b∧b<S.n∧¬aG vn b∧¬aG vb b){k:AV→AH→Prop}{α:Type}{r:ay α}(hd:bB C S r)(hk:∀H' S',Mem H' S'→S'.n=S.n+1→bB C S' r→dM C S0 S' bs kd a vn names vl l vb B (λb=>b=S.n)→aX fZ (zS S0 vn vb aV) S' (.slice S.n 0 2 2 7 true) [e1,e2]→(∀b,b<S.n→S'.ob b=S.ob b)→k (.slice S.n 0 2 2 7 true) H'):aN (aA H) 2 7 (c1++c2) k:=by
 have L:=t.BA hM;have n0:=t.x.1;have l1:=hR1.len;have l2:=hR2.len;refine cA hM (by rw[List.length_append,l1,l2]) (λy hy=>(List.mem_append.1 hy).elim (λg=>hR1.ones y g) λg=>hR2.ones y g) λH1 m1=>?_;have g1:an aV S (S.push (.ce (c1++c2) 0)):=(an.refl _ _).push _;refine hk H1 _ m1 rfl (hd.iK hM g1) ((t.res hM (X':=λb=>b=S.n) λb hb=>.inr (by have hb:b=S.n:=hb;omega)).keep W hM g1.no) ?_ λb hb=>LS.aZ _ _ hb;have zz:zS S0 vn vb aV S.n:=⟨n0,λq=>by have:=(L.1 _ q).2;omega,λq=>by have:=(L.2.2 _ q).2;omega,λq=>q⟩
 have go:∀{c:List AV}{e:aC},RE S Q c e→∃Q',RE (S.push (.ce (c1++c2) 0)) Q' c e∧∀b,Q' b→zS S0 vn vb aV b∧b<(S.push (.ce (c1++c2) 0)).n∧¬aG (.slice S.n 0 2 2 7 true) b:=λhR=>⟨Q,hR.go (λb hb=>LS.aZ _ _ (hQ b hb).2.1) λ_ h=>h,λx hx=>⟨⟨(hQ x hx).1,(hQ x hx).2.2.1,(hQ x hx).2.2.2,λq=>q⟩,Nat.lt_succ_of_lt (hQ x hx).2.1,λq=>by have q:x=S.n:=q;have:=(hQ x hx).2.1;omega⟩⟩
 refine⟨[c1,c2],.inr ⟨S.n,2,true,c1++c2,rfl,LS.ag _ _,by rw[List.length_append,l1,l2];rfl,Nat.le_refl _,by show [c1,c2].flatten.length=2*7;simp[l1,l2],by show(c1++c2).take ([c1,c2].flatten).length=[c1,c2].flatten;rw[show [c1,c2].flatten=c1++c2 by simp];exact List.take_of_length_le (Nat.le_refl _),λy hy=>(List.mem_append.1 hy).elim (λg=>hR1.ones y g) λg=>hR2.ones y g⟩,rfl,λx hx=>by have hx:x=S.n:=hx;rw[hx];exact zz,λi c' a' hc ha=>?_⟩
 match i,hc,ha with
 |0,hc,ha=>
  have q1:c1=c':=by simpa using hc
  have q2:e1=a':=by simpa using ha
  subst q1;subst q2;exact go hR1
 |1,hc,ha=>
  have q1:c2=c':=by simpa using hc
  have q2:e2=a':=by simpa using ha
  subst q1;subst q2;exact go hR2
 |i+2,hc,ha=>simp at hc
theorem dM.awy(W:kT C S0 bs)(t:dM C S0 S bs kd a vn names vl l vb B aV)(hM:Mem H S){v:AV}{b0:List aS}{Q:Nat→Prop}(hR:qD.rel S Q [v] b0)(hQ:∀b,Q b→S0.n≤b∧b<S.n∧¬aG vn b∧¬aG vl b){k:AV→AH→Prop}{α:Type}{r:ay α}(hd:bB C S r)(hk:∀H' S',Mem H' S'→S'.n=S.n+1→bB C S' r→dM C S0 S' bs kd a vn names vl l vb B (λb=>b=S.n)→aX qD (zS S0 vn vl aV) S' (.slice S.n 0 1 1 1 true) [b0]→k (.slice S.n 0 1 1 1 true) H'):aN (aA H) 1 1 [v] k:=by
 have L:=t.BA hM;have n0:=t.x.1;refine cA hM rfl (qD.ones hR) λH1 m1=>?_;have c1:an aV S (S.push (.ce [v] 0)):=(an.refl _ _).push _;refine hk H1 _ m1 rfl (hd.iK hM c1) ((t.res hM (X':=λb=>b=S.n) λb hb=>.inr (by have hb:b=S.n:=hb;omega)).keep W hM c1.no) ?_;exact aX.single (R:=qD) (Q:=Q) (LS.ag _ _) ⟨n0,λq=>by have:=(L.1 _ q).2;omega,λq=>by have:=(L.2.1 _ q).2;omega,λq=>q⟩ (qD.go (λb hb=>LS.aZ _ _ (hQ b hb).2.1) (λ_ h=>h) hR) λx hx=>⟨⟨(hQ x hx).1,(hQ x hx).2.2.1,(hQ x hx).2.2.2,λq=>q⟩,Nat.lt_succ_of_lt (hQ x hx).2.1,by have:=(hQ x hx).2.1;omega⟩
theorem dM.Jj(t:dM C S0 S bs kd a vn names vl l vb B X)(hM:Mem H S):ft S (fb S0.n S.n) [.int 0 (kd:Int),.int 0 (a:Int),vn,vl,vb] (.mk kd a names l B):=by
 obtain⟨cl,g1,g2⟩:=(t.E.toR (lo:=S0.n) λb hb=>hb.1).done hM;obtain⟨cb,q1,q2⟩:=(t.B.toR (lo:=S0.n) λb hb=>hb.1).done hM;exact ft.all ((t.N.toR (lo:=S0.n) λb hb=>hb.1).nm hM) g1 g2 q1 q2
def dG(T:List Tok)(s:aS)(j:Nat):ay aS:=if s.kind=3∧isA T [61] j=true then .err 14 j else .ok s j
theorem dM.fin(t:dM C S0 S bs kd a vn names vl l vb B X)(hM:Mem H S){α:Type}{r:ay α}(hd:bB C S r)(h3:kd≠3)(hP:bd C (cG C bs) (fO bs) K S0 (r.bind λ_ j=>dG C.T (.mk kd a names l B) j)):K (.ret (.aY [])) H:=by
 have e:(r.bind λ_ j=>dG C.T (.mk kd a names l B) j)=r.bind λ_ j=>.ok (.mk kd a names l B) j:=by
  congr 1;funext _ j;unfold dG;rw[if_neg λq=>h3 q.1]
 rw[e]at hP;exact hP.2 H S _ _ hM t.x (hd.ret _) ⟨rfl,_,t.ob,t.Jj hM⟩ qG
end
end
section
variable {H:AH}{S:LS}{K:KF}{C:Ctx}{i d:Nat}
section
variable {m k:Nat}{S0:LS}{bs kd a:Nat}{vn vl vb:AV}{names:List (List Nat)}{l:List aC}{B:List (List aS)}{γ:Type}{r:ay γ}
theorem dM.al8(O:gO C m)(hk:2*k+4≤m)(hd:d≤200)(W:kT C S0 bs)(hM:Mem H S)(hs:bB C S r)(t:dM C S0 S bs kd a vn names vl l vb B aV)(hll:l.length≤1000000){X:AH→Prop}{f:aC→Nat→ay aS}
  (hP:bd C (cG C bs) (fO bs) K S0 (r.bind λ_ i=>(bY C.T k i d).bind f))
  (hX:∀(e:aC) (v':AV) (H':AH) (S':LS),Mem H' S'→bB C S' (r.bind λ_ i=>bY C.T k i d)→dM C S0 S' bs kd a vn names v' (l++[e]) vb B aV→bd C (cG C bs) (fO bs) K S0 ((r.bind λ_ i=>bY C.T k i d).bind λ_ j=>f e j)→X H') :
  aP (.ptr bs 0) (al 3 (.ptr bs 0) λv1=>ak v1 H λv2=>dp v2 λv3=>cI 0 v3 λz4=>bG H (aN (aA H) 1 7 z7 λv5 H6=>bT (Nat.beq H6.n (Nat.succ H.n)) ((au m).2.1 (.ptr C.bp 0) (d:Int) H6 λo7 H8=>cR K o7 H8 λv9=>ak v1 H8 λv10=>bT (aU v10 v2) (dh 7 96 v2 v5 H8 λv11 bL=>cK 7 v11 (.int 0 z4) λv13=>aP (.ptr bs 0) (al 3 (.ptr bs 0) λv14=>ae 7 v13 v9 bL λeM=>ae 1 v14 v11 eM λdm=>ae 1 v14 v11 bL λgx=>ae 7 v13 v9 gx λdK=>ke 7 1 v13 v14 (X dm)))))):=by
 simp only[cj,aL,Nat.zero_add];refine aw hM t.ob (v:=vl) rfl ?_;refine t.E.xk ?_;rw[aE];refine hM.bG ?_;have n0:=t.x.1;have L:=t.BA hM;have hlt:=W.lt;have hne:=W.ne;have hbp:=W.bp;refine cA hM rfl cm λH1 m1=>cE (mJ (by rw[m1.n,hM.n];rfl)) ?_;have c1:an aV S (S.push (.ce z7 0)):=(an.refl _ _).push _;have t1:=t.keep W hM c1.no;refine O.exp k hk hd m1 (hs.iK hM c1) (bd.call (cV:=dc) (bV r _ _ ▸ hP) λe H2 S2 w m2 c2 d2 ⟨c,hw,hR⟩ hP2=>?_);subst hw;have t2:=t1.keep W m1 c2;have n2:S.n+1≤S2.n:=c2.1;have or2:S2.ob S.n=.ce z7 0:=c2.ob m1 (LS.ag _ _) λq=>by have q:S.n=C.bp:=q;omega
 refine aw m2 t2.ob (v:=vl) rfl ?_;refine cE t.E.same ?_;obtain⟨cl,hfr,hrest⟩:=id t2.E;have al6:¬aG vl bs:=λq=>by have:=(L.2.1 _ q).1;omega
 refine acC m2 hfr or2 rfl cm hR.len hR.ones t2.ob (by show 3<5;omega) al6 (by omega) λH3 S3 v' m3 he o3=>?_;obtain⟨e1,e2,e3,e4⟩:=id he;have c3:an (λb=>aG vl b) S2 S3:=⟨e1,λb hb hx=>e2 b hb hx⟩
 have d3:bB C S3 _:=d2.keep m2 c3 (λq=>by have:=(L.2.1 _ q).1;omega) λb hb q=>by have:=(L.2.1 _ q).1;have:=W.vT b hb;omega
 have L3:aX fZ (zS S0 vn vb aV) S3 v' (l++[e]):=t2.E.step hR (λb hb=>by
  have h1:S.n+1≤b:=hb.1;exact⟨⟨by omega,λq=>by have:=(L.1 _ q).2;omega,λq=>by have:=(L.2.2 _ q).2;omega,λq=>q⟩,hb.2,λq=>by have:=(L.2.1 _ q).2;omega⟩) (λb hb=>⟨by omega,λq=>by have:=(L.1 _ q).2;omega,λq=>by have:=(L.2.2 _ q).2;omega,λq=>q⟩) λcl' h'=>by rw[hfr.uniq h'];exact he
 have hv':∀b,aG v' b→aG vl b∨S2.n≤b:=e4;have kN:∀{α:Type}{R:Rep α}{u v:AV}{q:List α},aX R (λb=>S0.n≤b∧¬aG vl b∧¬aG u b) S2 v q→aX R (λb=>(S0.n≤b∧¬aG vl b∧¬aG u b)∧¬aG v' b) (S3.set bs (.ce ([.int 0 (kd:Int),.int 0 (a:Int),vn,vl,vb].set 3 v') 0)) v q:=λh=>
  (h.imp m2 λb hb hb2=>(⟨hb,λq=>(hv' b q).elim hb.2.1 λg=>by omega⟩:(S0.n≤b∧¬aG vl b∧¬aG _ b)∧¬aG v' b)).keep m2 e1 λb h1 h2=>by
   rw[LS.ah _ _ (by have:=h1.1.1;omega)];exact e2 b h2 h1.1.2.1
 have L4:aX fZ (zS S0 vn vb aV) (S3.set bs (.ce ([.int 0 (kd:Int),.int 0 (a:Int),vn,vl,vb].set 3 v') 0)) v' (l++[e]):=by
  obtain⟨cl3,g1,g2,g3,g4⟩:=L3;refine⟨cl3,?_,g2,g3,λi c a hc ha=>?_⟩
  ·rcases g1 with g|⟨b,cc,ex,cs',q1,q2,q3⟩
   ·exact .inl g
   ·exact .inr ⟨b,cc,ex,cs',q1,(LS.ah _ _ (by have:=(g3 b (by rw[q1];rfl)).1;omega)).trans q2,q3⟩
  ·obtain⟨Q,q1,q2⟩:=g4 i c a hc ha;exact⟨Q,RE.go (λb hb=>LS.ah _ _ (by have:=(q2 b hb).1.1;omega)) (λ_ h=>h) q1,q2⟩
 have fin:∀{α:Type}{R:Rep α}{Z Z':Nat→Prop}{S:LS}{v:AV}{q:List α},aX R Z S v q→(∀b,Z b→Z' b)→aX R Z' S v q:=λ{α R Z Z' S v q} h hz=>by
  obtain⟨cl,q1,q2,q3,q4⟩:=h;exact⟨cl,q1,q2,λb hb=>hz b (q3 b hb),λi c a hc ha=>by
   obtain⟨Q,w1,w2⟩:=q4 i c a hc ha;exact⟨Q,w1,λb hb=>⟨hz b (w2 b hb).1,(w2 b hb).2⟩⟩⟩
 refine hX e v' H3 _ m3 (d3.setB hne W.nT _) ⟨(t2.x.gi c3 λb hb=>.inr (L.2.1 _ hb).1).set (.inl (.inr rfl)) _,LS.aj _ _ _,?_,L4,?_⟩ hP2
 ·exact fin (kN (fin t2.N λb hb=>⟨hb.1,hb.2.1,hb.2.2.1⟩)) λb hb=>⟨hb.1.1,hb.2,hb.1.2.2,λq=>q⟩
 ·exact fin (kN (fin t2.B λb hb=>⟨hb.1,hb.2.2.1,hb.2.1⟩)) λb hb=>⟨hb.1.1,hb.1.2.2,hb.2,λq=>q⟩
theorem aX.wk{α:Type}{R:Rep α}{Z Z':Nat→Prop}{S:LS}{v:AV}{q:List α}(h:aX R Z S v q)(hz:∀b,Z b→Z' b):aX R Z' S v q:=by
 obtain⟨cl,q1,q2,q3,q4⟩:=h;exact⟨cl,q1,q2,λb hb=>hz b (q3 b hb),λi c a hc ha=>by
  obtain⟨Q,w1,w2⟩:=q4 i c a hc ha;exact⟨Q,w1,λb hb=>⟨hz b (w2 b hb).1,(w2 b hb).2⟩⟩⟩
theorem dM.atC(O:gO C m)(hk:2*k+4≤m)(hd:d≤200)(W:kT C S0 bs)(hM:Mem H S)(hs:bB C S r)(t:dM C S0 S bs kd a vn names vl l vb B aV)(hll:B.length≤1000000){X:AH→Prop}{f:List aS→Nat→ay aS}
  (hP:bd C (cG C bs) (fO bs) K S0 (r.bind λ_ i=>(cF C.T k i d).bind f))
  (hX:∀(e:List aS) (v':AV) (H':AH) (S':LS),Mem H' S'→bB C S' (r.bind λ_ i=>cF C.T k i d)→dM C S0 S' bs kd a vn names vl l v' (B++[e]) aV→bd C (cG C bs) (fO bs) K S0 ((r.bind λ_ i=>cF C.T k i d).bind λ_ j=>f e j)→X H') :
  aP (.ptr bs 0) (al 4 (.ptr bs 0) λv5=>ak v5 H λv6=>(au m).1 (.ptr C.bp 0) (d:Int) H λo7 H8=>cR K o7 H8 λv9=>ak v5 H8 λv10=>bT (aU v10 v6) (bG H8 (one v9 (aN (aA H8) 1 1 [v9] λv11 bL=>bT (Nat.beq bL.n (Nat.succ H8.n)) (dh 1 24 v6 v11 bL λv13 cN=>aP (.ptr bs 0) (al 4 (.ptr bs 0) λv15=>ae 1 v15 v13 cN X)))))):=by
 simp only[cj,aL,Nat.zero_add];refine aw hM t.ob (v:=vb) rfl ?_;have n0:=t.x.1;have L:=t.BA hM;have hlt:=W.lt;have hne:=W.ne;have hbp:=W.bp;refine O.block k hk hd hM hs (bd.call (cV:=fK) (bV r _ _ ▸ hP) λe H2 S2 w m2 c2 d2 ⟨cb,hsl,hrs⟩ hP2=>?_);have t2:=t.keep W hM c2;have n2:=c2.1;refine aw m2 t2.ob (v:=vb) rfl ?_;refine cE t.B.same ?_;refine m2.bG ?_;refine ey hsl.one ?_;refine t2.B.pushB (R:=qD) (bytes:=24) m2 (a:=e) ⟨w,cb,rfl,hsl,hrs⟩ (λb hb=>⟨⟨by have:=hb.1;omega,λq=>by have:=(L.1 _ q).2;have:=hb.1;omega,λq=>by have:=(L.2.1 _ q).2;have:=hb.1;omega,λq=>q⟩,hb.2,λq=>by have:=(L.2.2 _ q).2;have:=hb.1;omega⟩) (λb hb=>⟨by omega,λq=>by have:=(L.1 _ q).2;omega,λq=>by have:=(L.2.1 _ q).2;omega,λq=>q⟩) (by omega) λH3 S3 v' m3 B3 n3 k3 b3 al9=>?_;have c3:an (λb=>aG vb b) S2 S3:=⟨n3,λb hb hx=>k3 b hb hx⟩
 have d3:bB C S3 _:=d2.keep m2 c3 (λq=>by have:=(L.2.2 _ q).1;omega) λb hb q=>by have:=(L.2.2 _ q).1;have:=W.vT b hb;omega
 have o3:S3.ob bs=.ce [.int 0 (kd:Int),.int 0 (a:Int),vn,vl,vb] 0:=c3.ob m2 t2.ob λq=>by have:=(L.2.2 _ q).1;omega
 refine aT m3 o3 (by omega) (by show 4<5;omega) al9 λH4 m4=>?_;have kN:∀{α:Type}{R:Rep α}{u v:AV}{q:List α},aX R (λb=>S0.n≤b∧¬aG vb b∧¬aG u b) S2 v q→aX R (λb=>(S0.n≤b∧¬aG vb b∧¬aG u b)∧¬aG v' b) (S3.set bs (.ce ([.int 0 (kd:Int),.int 0 (a:Int),vn,vl,vb].set 4 v') 0)) v q:=λh=>
  (h.imp m2 λb hb hb2=>(⟨hb,λq=>(b3 b q).elim hb.2.1 λg=>by omega⟩:(S0.n≤b∧¬aG vb b∧¬aG _ b)∧¬aG v' b)).keep m2 n3 λb h1 h2=>by
   rw[LS.ah _ _ (by have:=h1.1.1;omega)];exact k3 b h2 h1.1.2.1
 refine hX e v' H4 _ m4 (d3.setB hne W.nT _) ⟨(t2.x.gi c3 λb hb=>.inr (L.2.2 _ hb).1).set (.inl (.inr rfl)) _,LS.aj _ _ _,?_,?_,B3.keep m3 (Nat.le_refl _) λb h1 _=>LS.ah _ _ (by have:=h1.1;omega)⟩ hP2
 ·exact aX.wk (kN (aX.wk t2.N λb hb=>⟨hb.1,hb.2.2.1,hb.2.1⟩)) λb hb=>⟨hb.1.1,hb.1.2.2,hb.2,λq=>q⟩
 ·exact aX.wk (kN (aX.wk t2.E λb hb=>⟨hb.1,hb.2.2.1,hb.2.1⟩)) λb hb=>⟨hb.1.1,hb.1.2.2,hb.2,λq=>q⟩
theorem dM.acD(W:kT C S0 bs)(hM:Mem H S)(hs:bB C S r)(t:dM C S0 S bs kd a vn names vl l vb B aV)(hll:names.length≤1000000){X:AH→Prop}{f:List Nat→Nat→ay aS}
  (hP:bd C (cG C bs) (fO bs) K S0 (r.bind λ_ i=>(eF C.T i).bind f))
  (hX:∀(e:List Nat) (v':AV) (H':AH) (S':LS),Mem H' S'→bB C S' (r.bind λ_ i=>eF C.T i)→dM C S0 S' bs kd a v' (names++[e]) vl l vb B aV→bd C (cG C bs) (fO bs) K S0 ((r.bind λ_ i=>eF C.T i).bind λ_ j=>f e j)→X H') :
  aP (.ptr bs 0) (al 2 (.ptr bs 0) λv9=>ak v9 H λv10=>f104 (.ptr C.bp 0) H λkj bL=>cR K kj bL λv13=>ak v9 bL λv14=>bT (aU v14 v10) (bG bL (one v13 (aN (aA bL) 1 1 [v13] λv15 dm=>bT (Nat.beq dm.n (Nat.succ bL.n)) (dh 1 16 v10 v15 dm λv17 dK=>aP (.ptr bs 0) (al 2 (.ptr bs 0) λv19=>ae 1 v19 v17 dK X)))))):=by
 simp only[cj,aL,Nat.zero_add];refine aw hM t.ob (v:=vn) rfl ?_;have n0:=t.x.1;have L:=t.BA hM;have hlt:=W.lt;have hne:=W.ne;have hbp:=W.bp;refine uA hM hs (bd.call (cV:=Nu) (bV r _ _ ▸ hP) λe H2 S2 w m2 c2 d2 ⟨hw,h8⟩ hP2=>?_);subst hw;have t2:=t.keep W hM c2;have n2:=c2.1;refine aw m2 t2.ob (v:=vn) rfl ?_;refine cE t.N.same ?_;refine m2.bG ?_;refine ey (fe e) ?_;refine t2.N.pushB (R:=pz) (bytes:=16) m2 (a:=e) (c:=[af e]) (Q:=λ_=>False) ⟨rfl,h8⟩ (λb hb=>hb.elim) (λb hb=>⟨by omega,λq=>by have:=(L.2.1 _ q).2;omega,λq=>by have:=(L.2.2 _ q).2;omega,λq=>q⟩) (by omega) λH3 S3 v' m3 B3 n3 k3 b3 al9=>?_;have c3:an (λb=>aG vn b) S2 S3:=⟨n3,λb hb hx=>k3 b hb hx⟩
 have d3:bB C S3 _:=d2.keep m2 c3 (λq=>by have:=(L.1 _ q).1;omega) λb hb q=>by have:=(L.1 _ q).1;have:=W.vT b hb;omega
 have o3:S3.ob bs=.ce [.int 0 (kd:Int),.int 0 (a:Int),vn,vl,vb] 0:=c3.ob m2 t2.ob λq=>by have:=(L.1 _ q).1;omega
 refine aT m3 o3 (by omega) (by show 2<5;omega) al9 λH4 m4=>?_;have kN:∀{α:Type}{R:Rep α}{u v:AV}{q:List α},aX R (λb=>S0.n≤b∧¬aG vn b∧¬aG u b) S2 v q→aX R (λb=>(S0.n≤b∧¬aG vn b∧¬aG u b)∧¬aG v' b) (S3.set bs (.ce ([.int 0 (kd:Int),.int 0 (a:Int),vn,vl,vb].set 2 v') 0)) v q:=λh=>
  (h.imp m2 λb hb hb2=>(⟨hb,λq=>(b3 b q).elim hb.2.1 λg=>by omega⟩:(S0.n≤b∧¬aG vn b∧¬aG _ b)∧¬aG v' b)).keep m2 n3 λb h1 h2=>by
   rw[LS.ah _ _ (by have:=h1.1.1;omega)];exact k3 b h2 h1.1.2.1
 refine hX e v' H4 _ m4 (d3.setB hne W.nT _) ⟨(t2.x.gi c3 λb hb=>.inr (L.1 _ hb).1).set (.inl (.inr rfl)) _,LS.aj _ _ _,B3.keep m3 (Nat.le_refl _) λb h1 _=>LS.ah _ _ (by have:=h1.1;omega),?_,?_⟩ hP2
 ·exact aX.wk (kN (aX.wk t2.E λb hb=>⟨hb.1,hb.2.1,hb.2.2.1⟩)) λb hb=>⟨hb.1.1,hb.2,hb.1.2.2,λq=>q⟩
 ·exact aX.wk (kN (aX.wk t2.B λb hb=>⟨hb.1,hb.2.1,hb.2.2.1⟩)) λb hb=>⟨hb.1.1,hb.2,hb.1.2.2,λq=>q⟩
end
end
section
variable {H:AH}{S:LS}{K:KF}{C:Ctx}{i d:Nat}
section
variable {m k:Nat}{S0:LS}{bs kd a:Nat}{vn vl vb:AV}{names:List (List Nat)}{l:List aC}{B:List (List aS)}{γ:Type}{r:ay γ}
theorem dM.SW(O:gO C m)(hk:2*k+4≤m)(hd:d≤200)(W:kT C S0 bs)(hM:Mem H S)(hs:bB C S r)(t:dM C S0 S bs kd a vn names vl l vb B aV){X:AV→AH→Prop}{f:aC→Nat→ay aS}
  (hP:bd C (cG C bs) (fO bs) K S0 (r.bind λ_ i=>(bY C.T k i d).bind f))
  (hX:∀(e:aC) (b:Nat) (H':AH) (S':LS),Mem H' S'→bB C S' (r.bind λ_ i=>bY C.T k i d)→dM C S0 S' bs kd a vn names vl l vb B (λx=>x=b)→aX fZ (zS S0 vn vb aV) S' (.slice b 0 1 1 7 true) [e]→bd C (cG C bs) (fO bs) K S0 ((r.bind λ_ i=>bY C.T k i d).bind λ_ j=>f e j)→X (.slice b 0 1 1 7 true) H') :
  (au m).2.1 (.ptr C.bp 0) (d:Int) H λo5 H6=>cR K o5 H6 λv7=>onVal v7 λl8=>dV l8 7 (aN (aA H6) 1 7 (spl l8 z7 0) X):=by
 have L:=t.BA hM;have n0:=t.x.1;refine O.exp k hk hd hM hs (bd.call (cV:=dc) (bV r _ _ ▸ hP) λe H2 S2 w m2 c2 d2 ⟨c,hw,hR⟩ hP2=>?_);subst hw;have t2:=t.keep W hM c2;rw[dD];refine dv hR.len ?_;rw[qE hR.len rfl];exact t2.newE W m2 hR (λb hb=>⟨by have:=hb.1;omega,hb.2,λq=>by have:=(L.1 _ q).2;have:=hb.1;omega,λq=>by have:=(L.2.2 _ q).2;have:=hb.1;omega⟩) d2 λH3 S3 m3 _ d3 t3 E3=>hX e S2.n H3 S3 m3 d3 t3 E3 hP2
theorem dM.acG(O:gO C m)(hk:2*k+4≤m)(hd:d≤200)(W:kT C S0 bs)(hM:Mem H S)(hs:bB C S r)(t:dM C S0 S bs kd a vn names vl l vb B aV){X:AV→AH→Prop}{f:List aS→Nat→ay aS}
  (hP:bd C (cG C bs) (fO bs) K S0 (r.bind λ_ i=>(cF C.T k i d).bind f))
  (hX:∀(e:List aS) (b:Nat) (H':AH) (S':LS),Mem H' S'→bB C S' (r.bind λ_ i=>cF C.T k i d)→dM C S0 S' bs kd a vn names vl l vb B (λx=>x=b)→aX qD (zS S0 vn vl aV) S' (.slice b 0 1 1 1 true) [e]→bd C (cG C bs) (fO bs) K S0 ((r.bind λ_ i=>cF C.T k i d).bind λ_ j=>f e j)→X (.slice b 0 1 1 1 true) H') :
  (au m).1 (.ptr C.bp 0) (d:Int) H λo5 H6=>cR K o5 H6 λv7=>one v7 (aN (aA H6) 1 1 [v7] X):=by
 have L:=t.BA hM;have n0:=t.x.1;refine O.block k hk hd hM hs (bd.call (cV:=fK) (bV r _ _ ▸ hP) λe H2 S2 w m2 c2 d2 ⟨cb,hsl,hrs⟩ hP2=>?_);have t2:=t.keep W hM c2;refine ey hsl.one ?_;exact t2.awy W m2 (Q:=fb S.n S2.n) ⟨w,cb,rfl,hsl,hrs⟩ (λb hb=>⟨by have:=hb.1;omega,hb.2,λq=>by have:=(L.1 _ q).2;have:=hb.1;omega,λq=>by have:=(L.2.1 _ q).2;have:=hb.1;omega⟩) d2 λH3 S3 m3 _ d3 t3 E3=>hX e S2.n H3 S3 m3 d3 t3 E3 hP2
theorem dM.ama(W:kT C S0 bs)(hM:Mem H S)(hs:bB C S r)(t:dM C S0 S bs kd a vn names vl l vb B aV){X:AV→AH→Prop}{f:List Nat→Nat→ay aS}
  (hP:bd C (cG C bs) (fO bs) K S0 (r.bind λ_ i=>(eF C.T i).bind f))
  (hX:∀(e:List Nat) (b:Nat) (H':AH) (S':LS),Mem H' S'→bB C S' (r.bind λ_ i=>eF C.T i)→dM C S0 S' bs kd a vn names vl l vb B (λx=>x=b)→aX pz (zS S0 vl vb aV) S' (.slice b 0 1 1 1 true) [e]→bd C (cG C bs) (fO bs) K S0 ((r.bind λ_ i=>eF C.T i).bind λ_ j=>f e j)→X (.slice b 0 1 1 1 true) H') :
  f104 (.ptr C.bp 0) H λo5 H6=>cR K o5 H6 λv7=>one v7 (aN (aA H6) 1 1 [v7] X):=by
 refine uA hM hs (bd.call (cV:=Nu) (bV r _ _ ▸ hP) λe H2 S2 w m2 c2 d2 ⟨hw,h8⟩ hP2=>?_);subst hw;refine ey (fe e) ?_;exact(t.keep W hM c2).awx W m2 h8 d2 λH3 S3 m3 _ d3 t3 E3=>hX e S2.n H3 S3 m3 d3 t3 E3 hP2
theorem dM.must(W:kT C S0 bs){s:List Nat}(h8:B8 s)(hM:Mem H S)(hs:bB C S r)(t:dM C S0 S bs kd a vn names vl l vb B aV){X:AH→Prop}{f:Nat→ay aS}
  (hP:bd C (cG C bs) (fO bs) K S0 (r.bind λ_ i=>(aW C.T s i).bind λ_ j=>f j))
  (hX:∀(H':AH) (S':LS),Mem H' S'→bB C S' (r.bind λ_ i=>aW C.T s i)→dM C S0 S' bs kd a vn names vl l vb B aV→bd C (cG C bs) (fO bs) K S0 ((r.bind λ_ i=>aW C.T s i).bind λ_ j=>f j)→X H') :
  f106 (.ptr C.bp 0) (af s) H λo5 H6=>cR K o5 H6 λv7=>X H6:=
 ll h8 hM hs (bd.call (cV:=gY) (bV r _ _ ▸ hP) λ_ H2 S2 w m2 c2 d2 _ hP2=>hX H2 S2 m2 d2 (t.keep W hM c2) hP2)
theorem dM.last(W:kT C S0 bs){s:List Nat}(h8:B8 s)(h3:kd≠3)(hM:Mem H S)(hs:bB C S r)(t:dM C S0 S bs kd a vn names vl l vb B aV)
  (hP:bd C (cG C bs) (fO bs) K S0 (r.bind λ_ i=>(aW C.T s i).bind λ_ j=>dG C.T (.mk kd a names l B) j)) :
  f106 (.ptr C.bp 0) (af s) H λo5 H6=>cR K o5 H6 λv7=>K (.ret (.aY [])) H6:=
 t.must W h8 hM hs hP λH2 S2 m2 d2 t2 hP2=>t2.fin m2 d2 h3 hP2
theorem aX.kb{α:Type}{R:Rep α}{u w v:AV}{q:List α}{S':LS}(W:kT C S0 bs)(h:aX R (zS S0 u w aV) S v q)(hM:Mem H S)(hn:S'.n=S.n)(hk:∀b,b≠bs→S'.ob b=S.ob b):aX R (zS S0 u w aV) S' v q:=
 h.keep hM (Nat.le_of_eq hn.symm) λb h1 _=>hk b (by have:=W.lt;have:=h1.1;omega)
theorem SX(O:gO C m)(hk:2*k+4≤m)(hd:d≤200)(W:kT C S0 bs)(h3:kd≠3)(hM:Mem H S)(hs:bB C S r)(t:dM C S0 S bs kd a vn names vl l .ab [] aV)
  (hP:bd C (cG C bs) (fO bs) K S0 (r.bind λ_ i=>(aW C.T [100,111] i).bind λ_ j=>(cF C.T k j d).bind λb j=>(aW C.T [101,110,100] j).bind λ_ j=>dG C.T (.mk kd a names l [b]) j)) :
  uc (bD (au m)) K (.ptr C.bp 0) (.ptr bs 0) (d:Int) H:=by
 have r1:(bD (au m)).1=(au m).1:=rfl;have r9:(bD (au m)).2.2.2.2.2.2.2.2.1=f106:=rfl;show Cy (bD (au m)) K (.ptr C.bp 0) (.ptr bs 0) (d:Int) H;unfold Cy;rw[r1,r9];refine t.must W (s:=[100,111]) (aD (by decide)) hM hs hP λH1 S1 m1 d1 t1 hP1=>?_;refine t1.acG O hk hd W m1 d1 hP1 λb bk H2 S2 m2 d2 t2 B2 hP2=>?_;refine t2.Jp W m2 B2 (λb hb=>hb) d2 λH3 S3 m3 n3 d3 k3 t3=>?_;exact t3.last W (s:=[101,110,100]) (aD (by decide)) h3 m3 d3 hP2
theorem auC(O:gO C m)(hk:2*k+4≤m)(hd:d≤200)(W:kT C S0 bs)(h3:kd≠3)(hM:Mem H S)(hs:bB C S r)(t:dM C S0 S bs kd a vn names vl l .ab [] aV)
  (hP:bd C (cG C bs) (fO bs) K S0 (r.bind λ_ i=>(aW C.T [100,111] i).bind λ_ j=>(cF C.T k j d).bind λb j=>(aW C.T [101,110,100] j).bind λ_ j=>dG C.T (.mk kd a names l [b]) j)) :
  QB (bD (au m)) K (.ptr C.bp 0) (.ptr bs 0) (d:Int) H:=by
 have r1:(bD (au m)).1=(au m).1:=rfl;have r9:(bD (au m)).2.2.2.2.2.2.2.2.1=f106:=rfl;show Hn (bD (au m)) K (.ptr C.bp 0) (.ptr bs 0) (d:Int) H;unfold Hn;rw[r1,r9];refine t.must W (s:=[100,111]) (aD (by decide)) hM hs hP λH1 S1 m1 d1 t1 hP1=>?_;refine t1.acG O hk hd W m1 d1 hP1 λb bk H2 S2 m2 d2 t2 B2 hP2=>?_;refine t2.Jp W m2 B2 (λb hb=>hb) d2 λH3 S3 m3 n3 d3 k3 t3=>?_;exact t3.last W (s:=[101,110,100]) (aD (by decide)) h3 m3 d3 hP2
theorem atD(O:gO C m)(hk:2*k+4≤m)(hd:d≤200)(W:kT C S0 bs)(h3:kd≠3)(hM:Mem H S)(hs:bB C S r)(t:dM C S0 S bs kd a vn names vl l .ab [] aV)
  (hP:bd C (cG C bs) (fO bs) K S0 (r.bind λ_ i=>(cF C.T k i d).bind λb j=>(aW C.T [101,110,100] j).bind λ_ j=>dG C.T (.mk kd a names l [b]) j)) :
  KU (bD (au m)) K (.ptr C.bp 0) (.ptr bs 0) (d:Int) H:=by
 have r1:(bD (au m)).1=(au m).1:=rfl;have r9:(bD (au m)).2.2.2.2.2.2.2.2.1=f106:=rfl;show CC (bD (au m)) K (.ptr C.bp 0) (.ptr bs 0) (d:Int) H;unfold CC;rw[r1,r9];refine t.acG O hk hd W hM hs hP λb bk H2 S2 m2 d2 t2 B2 hP2=>?_;refine t2.Jp W m2 B2 (λb hb=>hb) d2 λH3 S3 m3 n3 d3 k3 t3=>?_;exact t3.last W (s:=[101,110,100]) (aD (by decide)) h3 m3 d3 hP2
theorem auD(O:gO C m)(hk:2*k+4≤m)(hd:d≤200)(W:kT C S0 bs)(hM:Mem H S)(hs:bB C S r)(t:dM C S0 S bs kd a vn names .ab [] vb B aV)
  (hP:bd C (cG C bs) (fO bs) K S0 (r.bind λ_ i=>(bY C.T k i d).bind λe j=>dG C.T (.mk 8 a names [e] B) j)) :
  QF (bD (au m)) K (.ptr C.bp 0) (.ptr bs 0) (d:Int) H:=by
 have r6:(bD (au m)).2.2.2.2.2.1=(au m).2.1:=rfl;show Hr (bD (au m)) K (.ptr C.bp 0) (.ptr bs 0) (d:Int) H;unfold Hr;rw[r6];refine t.SW O hk hd W hM hs hP λe b H2 S2 m2 d2 t2 E2 hP2=>?_;refine t2.kS W m2 (kd':=8) d2 λH3 S3 m3 n3 d3 k3 t3=>?_;refine t3.sS W m3 (aX.kb W E2 m2 n3 k3) (λb hb=>hb) d3 λH4 S4 m4 n4 d4 k4 t4=>?_;exact t4.fin m4 d4 (by omega) hP2
theorem auE(O:gO C m)(hk:2*k+4≤m)(hd:d≤200)(W:kT C S0 bs)(hM:Mem H S)(hs:bB C S r)(t:dM C S0 S bs 1 a vn names .ab [] vb B aV)
  (hP:bd C (cG C bs) (fO bs) K S0 (r.bind λ_ j=>if isA C.T [61] j=true then (bY C.T k (j+1) d).bind λe k=>dG C.T (.mk 1 a names [e] B) k else dG C.T (.mk 1 a names [] B) j)) :
  QE (bD (au m)) K (.ptr C.bp 0) (.ptr bs 0) (d:Int) H:=by
 have r4:(bD (au m)).2.2.2.1=f68:=rfl;have r6:(bD (au m)).2.2.2.2.2.1=(au m).2.1:=rfl;show Hq (bD (au m)) K (.ptr C.bp 0) (.ptr bs 0) (d:Int) H;unfold Hq;rw[r4,r6];refine dT (s:=[61]) (aD (by decide)) hM hs (λy j er hi H1 S1 m1 c1 d1=>?_) λh1 H1 S1 m1 c1 d1=>?_
 ·cases er;simp only[ai,aB,az];have hP:bd C (cG C bs) (fO bs) K S0 (if isA C.T [61] j=true then (bY C.T k (j+1) d).bind λe k=>dG C.T (.mk 1 a names [e] B) k else dG C.T (.mk 1 a names [] B) j):=hP;rw[if_pos hi]at hP;refine(t.keep W hM c1).SW (r:=(.ok () (j+1):ay Unit)) O hk hd W m1 d1 hP λe b H2 S2 m2 d2 t2 E2 hP2=>?_;refine t2.sS W m2 E2 (λb hb=>hb) d2 λH4 S4 m4 n4 d4 k4 t4=>?_;exact t4.fin m4 d4 (by omega) hP2
 ·simp only[ai,aB,ax];rw[zX h1]at hP;exact(t.keep W hM c1).fin m1 d1 (by omega) hP
theorem auF(O:gO C m)(hk:2*k+4≤m)(hd:d≤200)(W:kT C S0 bs)(h3:kd≠3)(hB:B.length≤1000000)(hM:Mem H S)(hs:bB C S r)(t:dM C S0 S bs kd a vn names vl l vb B aV)
  (hP:bd C (cG C bs) (fO bs) K S0 (r.bind λ_ j=>if isA C.T [101,108,115,101] j=true then (cF C.T k (j+1) d).bind λb2 j=>(aW C.T [101,110,100] j).bind λ_ j=>dG C.T (.mk kd a names l (B++[b2])) j else (aW C.T [101,110,100] j).bind λ_ j=>dG C.T (.mk kd a names l B) j)) :
  G9 (bD (au m)) K (.ptr C.bp 0) (.ptr bs 0) (d:Int) H:=by
 have r1:(bD (au m)).1=(au m).1:=rfl;have r4:(bD (au m)).2.2.2.1=f68:=rfl;have r9:(bD (au m)).2.2.2.2.2.2.2.2.1=f106:=rfl;show G8 (bD (au m)) K (Qy (bD (au m)) K) (.ptr C.bp 0) (.ptr bs 0) (d:Int) H;unfold G8;rw[r1,r4];refine dT (s:=[101,108,115,101]) (aD (by decide)) hM hs (λy j er hi H1 S1 m1 c1 d1=>?_) λh1 H1 S1 m1 c1 d1=>?_
 ·cases er;simp only[ai,aB,az];have hP:bd C (cG C bs) (fO bs) K S0 (if isA C.T [101,108,115,101] j=true then (cF C.T k (j+1) d).bind λb2 j=>(aW C.T [101,110,100] j).bind λ_ j=>dG C.T (.mk kd a names l (B++[b2])) j else (aW C.T [101,110,100] j).bind λ_ j=>dG C.T (.mk kd a names l B) j):=hP;rw[if_pos hi]at hP;refine(t.keep W hM c1).atC (r:=(.ok () (j+1):ay Unit)) O hk hd W m1 d1 hB hP λe v' H2 S2 m2 d2 t2 hP2=>?_;show yf (bD (au m)) K (.ptr C.bp 0) H2;unfold yf;rw[r9];exact t2.last W (s:=[101,110,100]) (aD (by decide)) h3 m2 d2 hP2
 ·simp only[ai,aB,ax];rw[zX h1]at hP;show yf (bD (au m)) K (.ptr C.bp 0) H1;unfold yf;rw[r9];exact(t.keep W hM c1).last W (s:=[101,110,100]) (aD (by decide)) h3 m1 d1 hP
theorem auG(O:gO C m)(hd:d≤200)(W:kT C S0 bs):∀k,2*k+4≤m+1→∀(q:Nat){γ:Type}(r:ay γ) (vl vb:AV) (l:List aC) (B:List (List aS)) (H:AH) (S:LS),k<q→l.length+k≤1000000→B.length+k≤1000000→Mem H S→bB C S r→dM C S0 S bs 4 a .ab [] vl l vb B aV→
  (∀x i,r=.ok x i→True)→bd C (cG C bs) (fO bs) K S0 (r.bind λ_ i=>(fk C.T k a l B i d).bind λs j=>dG C.T s j)→(k=0→∃x i,r=.ok x i)→vi (bD (au m)) K q (.ptr C.bp 0) (.ptr bs 0) (d:Int) H:=by
 intro k
 induction k with
 |zero=>
  intro hk q γ r vl vb l B H S hq hl hB hM hs t _ hP h0;obtain⟨x,i,rfl⟩:=h0 rfl;exact absurd (show(fk C.T 0 a l B i d).bind _=.bA by simp only[fk];rfl) hP.1
 |succ k ih=>
  intro hk q γ r vl vb l B H S hq hl hB hM hs t _ hP h0;obtain⟨q,rfl⟩:∃p,q=p+1:=⟨q-1,by omega⟩
  have r1:(bD (au m)).1=(au m).1:=rfl;have r4:(bD (au m)).2.2.2.1=f68:=rfl;have r6:(bD (au m)).2.2.2.2.2.1=(au m).2.1:=rfl;have r9:(bD (au m)).2.2.2.2.2.2.2.2.1=f106:=rfl;show Hm (bD (au m)) K (QA (bD (au m)) K (vi (bD (au m)) K q)) (.ptr C.bp 0) (.ptr bs 0) (d:Int) H;unfold Hm;rw[r6];simp only[fk,bV]at hP;refine t.al8 O (k:=k) (by omega) hd W hM hs (by omega) hP λe v' H1 S1 m1 d1 t1 hP1=>?_;show Hl (bD (au m)) K (Qz (bD (au m)) K (vi (bD (au m)) K q)) (.ptr C.bp 0) (.ptr bs 0) (d:Int) H1;unfold Hl;rw[r1,r9];refine t1.must W (s:=[116,104,101,110]) (aD (by decide)) m1 d1 hP1 λH2 S2 m2 d2 t2 hP2=>?_;refine t2.atC O (k:=k) (by omega) hd W m2 d2 (by omega) hP2 λb v2 H3 S3 m3 d3 t3 hP3=>?_;show Hj (bD (au m)) K (vi (bD (au m)) K q) (G9 (bD (au m)) K) (.ptr C.bp 0) (.ptr bs 0) (d:Int) H3;unfold Hj;rw[r4];refine dT (s:=[101,108,115,101,105,102]) (aD (by decide)) m3 d3 (λy j er hi H4 S4 m4 c4 d4=>?_) λh1 H4 S4 m4 c4 d4=>?_
  ·rw[er]at hP3;simp only[ai,aB,Bool.not_true,ax];have hP3:bd C (cG C bs) (fO bs) K S0 ((if isA C.T [101,108,115,101,105,102] j=true then fk C.T k a (l++[e]) (B++[b]) (j+1) d else if isA C.T [101,108,115,101] j=true then (cF C.T k (j+1) d).bind λb2 j=>(aW C.T [101,110,100] j).bind λ_ j=>.ok (.mk 4 a [] (l++[e]) (B++[b]++[b2])) j else (aW C.T [101,110,100] j).bind λ_ j=>.ok (.mk 4 a [] (l++[e]) (B++[b])) j).bind λs j=>dG C.T s j):=hP3;rw[if_pos hi]at hP3;exact ih (by omega) q (.ok () (j+1):ay Unit) v' v2 (l++[e]) (B++[b]) H4 S4 (by omega) (by simp;omega) (by simp;omega) m4 d4 (t3.keep W m3 c4) (λ_ _ _=>trivial) hP3 λ_=>⟨_,_,rfl⟩
  ·simp only[ai,aB,Bool.not_false,az];refine auF (k:=k) O (by omega) hd W (by omega) (by simp;omega) m4 d4 (t3.keep W m3 c4) ?_;have sp:∀r':ay (List aS),pW C.T [101,108,115,101,105,102] r'=false→(r'.bind λ_ j=>(if isA C.T [101,108,115,101,105,102] j=true then fk C.T k a (l++[e]) (B++[b]) (j+1) d else if isA C.T [101,108,115,101] j=true then (cF C.T k (j+1) d).bind λb2 j=>(aW C.T [101,110,100] j).bind λ_ j=>.ok (.mk 4 a [] (l++[e]) (B++[b]++[b2])) j else (aW C.T [101,110,100] j).bind λ_ j=>.ok (.mk 4 a [] (l++[e]) (B++[b])) j).bind λs j=>dG C.T s j)=r'.bind λ_ j=>if isA C.T [101,108,115,101] j=true then (cF C.T k (j+1) d).bind λb2 j=>(aW C.T [101,110,100] j).bind λ_ j=>dG C.T (.mk 4 a [] (l++[e]) (B++[b]++[b2])) j else (aW C.T [101,110,100] j).bind λ_ j=>dG C.T (.mk 4 a [] (l++[e]) (B++[b])) j:=by
    intro r' h;cases r' with
    |bA=>rfl
    |err c i=>rfl
    |ok y j=>
     have h2:isA C.T [101,108,115,101,105,102] j=false:=h;show ay.bind (if isA C.T [101,108,115,101,105,102] j=true then _ else _) _=_;rw[if_neg (by rw[h2];simp)];show ay.bind (if isA C.T [101,108,115,101] j=true then _ else _) _=if isA C.T [101,108,115,101] j=true then _ else _
     split
     ·simp only[bV];rfl
     ·simp only[bV];rfl
   rw[←sp _ h1];exact hP3
end
end
section
variable {H:AH}{S:LS}{K:KF}{C:Ctx}{i d:Nat}
section
variable {m k:Nat}{S0:LS}{bs kd a:Nat}{vn vl vb:AV}{names:List (List Nat)}{l:List aC}{B:List (List aS)}{γ:Type}{r:ay γ}
theorem BB{T:List Tok}(h:(r.bind λ_ j=>(de T k kd a names l j d).bind λs j=>dG T s j)≠.bA):(r.bind λ_ j=>(de T k kd a names l j d).bind λs j=>dG T s j)=r.bind λ_ j=>(aW T [100,111] j).bind λ_ j=>(cF T (k-1) j d).bind λb j=>(aW T [101,110,100] j).bind λ_ j=>dG T (.mk kd a names l [b]) j:=by
 cases r with
 |bA=>rfl
 |err c i=>rfl
 |ok y j=>
  cases k with
  |zero=>exact absurd (show(de T 0 kd a names l j d).bind (λs j=>dG T s j)=.bA by simp only[de];rfl) h
  |succ k=>
   show(de T (k+1) kd a names l j d).bind (λs j=>dG T s j)=_;simp only[de,bV];rfl
theorem auH(O:gO C m)(hk:2*k+4≤m)(hd:d≤200)(W:kT C S0 bs){s:List Nat}(hM:Mem H S)(hs:bB C S r)(t:dM C S0 S bs 0 a vn [s] .ab [] .ab [] aV)
  (hP:bd C (cG C bs) (fO bs) K S0 (r.bind λ_ j=>(if isA C.T [44] j=true then (eF C.T (j+1)).bind λs2 j=>(aW C.T [105,110] j).bind λ_ j=>(bY C.T k j d).bind λe j=>de C.T k 7 a [s,s2] [e] j d
   else (aW C.T [61] j).bind λ_ j=>(bY C.T k j d).bind λe j=>(aW C.T [44] j).bind λ_ j=>(bY C.T k j d).bind λe2 j=>if isA C.T [44] j=true then (bY C.T k (j+1) d).bind λe3 j=>de C.T k 6 a [s] [e,e2,e3] j d else de C.T k 6 a [s] [e,e2] j d).bind λs j=>dG C.T s j)) :
  QD (bD (au m)) K (.ptr C.bp 0) (.ptr bs 0) (d:Int) H:=by
 have r4:(bD (au m)).2.2.2.1=f68:=rfl;have r6:(bD (au m)).2.2.2.2.2.1=(au m).2.1:=rfl;have r7:(bD (au m)).2.2.2.2.2.2.1=f104:=rfl;have r9:(bD (au m)).2.2.2.2.2.2.2.2.1=f106:=rfl;show Hp (bD (au m)) K (KO (bD (au m)) K) (KS (bD (au m)) K) (.ptr C.bp 0) (.ptr bs 0) (d:Int) H;unfold Hp;rw[r4,r6,r7,r9];refine t.kS W hM (kd':=6) hs λH1 S1 m1 n1 d1 k1 t1=>?_;refine dT (s:=[44]) (aD (by decide)) m1 d1 (λy j er hi H2 S2 m2 c2 d2=>?_) λh1 H2 S2 m2 c2 d2=>?_
 ·cases er;simp only[ai,aB,az];have t2:=t1.keep W m1 c2;have hP:bd C (cG C bs) (fO bs) K S0 ((if isA C.T [44] j=true then (eF C.T (j+1)).bind λs2 j=>(aW C.T [105,110] j).bind λ_ j=>(bY C.T k j d).bind λe j=>de C.T k 7 a [s,s2] [e] j d
   else (aW C.T [61] j).bind λ_ j=>(bY C.T k j d).bind λe j=>(aW C.T [44] j).bind λ_ j=>(bY C.T k j d).bind λe2 j=>if isA C.T [44] j=true then (bY C.T k (j+1) d).bind λe3 j=>de C.T k 6 a [s] [e,e2,e3] j d else de C.T k 6 a [s] [e,e2] j d).bind λs j=>dG C.T s j):=hP
  rw[if_pos hi]at hP;simp only[bV]at hP;refine t2.kS W m2 (kd':=7) d2 λH3 S3 m3 n3 d3 k3 t3=>?_;refine t3.acD W m3 d3 (by simp) (r:=(.ok () (j+1):ay Unit)) hP λs2 v' H4 S4 m4 d4 t4 na=>?_;show Cz (bD (au m)) K (uc (bD (au m)) K) (.ptr C.bp 0) (.ptr bs 0) (d:Int) H4;unfold Cz;rw[r6,r9];refine t4.must W (s:=[105,110]) (aD (by decide)) m4 d4 na λH5 S5 m5 d5 t5 oZ=>?_;refine t5.SW O hk hd W m5 d5 oZ λe b H6 S6 m6 d6 t6 E6 y7=>?_;refine t6.sS W m6 E6 (λb hb=>hb) d6 λH7 S7 m7 n7 d7 k7 t7=>?_;rw[BB y7.1]at y7;exact SX (k:=k-1) O (by omega) hd W (by omega) m7 d7 t7 y7
 ·simp only[ai,aB,ax];have t2:=t1.keep W m1 c2;have sp:(r.bind λ_ j=>(if isA C.T [44] j=true then (eF C.T (j+1)).bind λs2 j=>(aW C.T [105,110] j).bind λ_ j=>(bY C.T k j d).bind λe j=>de C.T k 7 a [s,s2] [e] j d
   else (aW C.T [61] j).bind λ_ j=>(bY C.T k j d).bind λe j=>(aW C.T [44] j).bind λ_ j=>(bY C.T k j d).bind λe2 j=>if isA C.T [44] j=true then (bY C.T k (j+1) d).bind λe3 j=>de C.T k 6 a [s] [e,e2,e3] j d else de C.T k 6 a [s] [e,e2] j d).bind λs j=>dG C.T s j)=r.bind λ_ j=>(aW C.T [61] j).bind λ_ j=>(bY C.T k j d).bind λe j=>(aW C.T [44] j).bind λ_ j=>(bY C.T k j d).bind λe2 j=>(if isA C.T [44] j=true then (bY C.T k (j+1) d).bind λe3 j=>de C.T k 6 a [s] [e,e2,e3] j d else de C.T k 6 a [s] [e,e2] j d).bind λs j=>dG C.T s j:=by
   cases r with
   |bA=>rfl
   |err c i=>rfl
   |ok y j=>
    have h2:isA C.T [44] j=false:=h1;show ay.bind (if isA C.T [44] j=true then _ else _) _=_;rw[if_neg (by rw[h2];simp)];simp only[bV];rfl
  rw[sp]at hP;refine t2.must W (s:=[61]) (aD (by decide)) m2 d2 hP λH3 S3 m3 d3 t3 hP3=>?_;refine t3.SW O hk hd W m3 d3 hP3 λe b H4 S4 m4 d4 t4 E4 na=>?_;refine t4.sS W m4 E4 (λb hb=>hb) d4 λH5 S5 m5 n5 d5 k5 t5=>?_;show CB (bD (au m)) K (KQ (bD (au m)) K) (.ptr C.bp 0) (.ptr bs 0) (d:Int) H5;unfold CB;rw[r6,r9];refine t5.must W (s:=[44]) (aD (by decide)) m5 d5 na λH6 S6 m6 d6 t6 y7=>?_;refine t6.al8 O hk hd W m6 d6 (by simp) y7 λe2 v' H7 S7 m7 d7 t7 Aq=>?_;show CA (bD (au m)) K (uc (bD (au m)) K) (.ptr C.bp 0) (.ptr bs 0) (d:Int) H7;unfold CA;rw[r4,r6];refine dT (s:=[44]) (aD (by decide)) m7 d7 (λy j er hi H8 S8 m8 c8 d8=>?_) λh2 H8 S8 m8 c8 d8=>?_
  ·rw[er]at Aq;simp only[ai,aB,az];have Aq:bd C (cG C bs) (fO bs) K S0 ((if isA C.T [44] j=true then (bY C.T k (j+1) d).bind λe3 j=>de C.T k 6 a [s] [e,e2,e3] j d else de C.T k 6 a [s] [e,e2] j d).bind λs j=>dG C.T s j):=Aq;rw[if_pos hi,bV]at Aq;refine(t7.keep W m7 c8).al8 O hk hd W m8 d8 (by simp) (r:=(.ok () (j+1):ay Unit)) Aq λe3 v3 H9 S9 m9 d9 t9 SY=>?_;have SY:bd C (cG C bs) (fO bs) K S0 (((ay.ok () (j+1)).bind λ_ i=>bY C.T k i d).bind λ_ j=>(de C.T k 6 a [s] [e,e2,e3] j d).bind λs j=>dG C.T s j):=SY;rw[BB SY.1]at SY;exact SX (k:=k-1) O (by omega) hd W (by omega) m9 d9 t9 SY
  ·simp only[ai,aB,ax];have sp2:∀r':ay aC,pW C.T [44] r'=false→(r'.bind λ_ j=>(if isA C.T [44] j=true then (bY C.T k (j+1) d).bind λe3 j=>de C.T k 6 a [s] [e,e2,e3] j d else de C.T k 6 a [s] [e,e2] j d).bind λs j=>dG C.T s j)=r'.bind λ_ j=>(de C.T k 6 a [s] [e,e2] j d).bind λs j=>dG C.T s j:=by
    intro r' h;cases r' with
    |bA=>rfl
    |err c i=>rfl
    |ok y j=>
     have h3:isA C.T [44] j=false:=h;show ay.bind (if isA C.T [44] j=true then _ else _) _=_;rw[if_neg (by rw[h3];simp)];rfl
   have Jq:=Aq;rw[sp2 _ h2]at Jq;rw[BB Jq.1]at Jq;exact SX (k:=k-1) O (by omega) hd W (by omega) m8 d8 (t7.keep W m7 c8) Jq
theorem aj4(O:gO C m)(hk:2*k+4≤m)(hd:d≤200)(W:kT C S0 bs){b8:Nat}{c:List AV}{e:aC}{Q:Nat→Prop}(hM:Mem H S)(hs:bB C S r)(t:dM C S0 S bs 0 a .ab [] .ab [] .ab [] aV)(ho:S.ob b8=.ce c 0)(hb8:S0.n≤b8)(hR:RE S Q c e)(hQ:∀b,Q b→S0.n≤b∧b<S.n)
  (hP:bd C (cG C bs) (fO bs) K S0 (r.bind λ_ j=>(aW C.T [61] j).bind λ_ j=>(bY C.T k j d).bind λv j=>dG C.T (.mk 2 a [] [e,v] []) j)) :
  CH (bD (au m)) K (.ptr C.bp 0) (.ptr bs 0) (d:Int) (.ptr b8 0) H:=by
 have r6:(bD (au m)).2.2.2.2.2.1=(au m).2.1:=rfl;have r9:(bD (au m)).2.2.2.2.2.2.2.2.1=f106:=rfl;show CG (bD (au m)) K (.ptr C.bp 0) (.ptr bs 0) (d:Int) (.ptr b8 0) H;unfold CG;rw[r6,r9];have hlt:=W.lt;have hbp:=W.bp;have n0:=t.x.1;have lt8:b8<S.n:=hM.lt (by rw[ho];simp);have nb:∀b,S0.n≤b→¬aK C b:=λb hb q=>by have q:b=C.bp:=q;omega
 refine ll (s:=[61]) (aD (by decide)) hM hs (bd.call (cV:=gY) hP.seq λ_ H1 S1 w m1 c1 d1 _ hP1=>?_);have t1:=t.keep W hM c1;have o1:=c1.ob hM ho (nb _ hb8);have R1:RE S1 Q c e:=hR.go (λb hb=>c1.2 b (hQ b hb).2 (nb b (hQ b hb).1)) λ_ h=>h;refine ew m1 o1 R1.len ?_;refine O.exp k hk hd m1 d1 (bd.call (cV:=dc) hP1.seq λv H2 S2 w m2 c2 d2 ⟨cv,hw,hRv⟩ hP2=>?_);subst hw;have t2:=t1.keep W m1 c2;have o2:=c2.ob m1 o1 (nb _ hb8);have n1:=c1.1;have R2:RE S2 Q c e:=R1.go (λb hb=>c2.2 b (Nat.lt_of_lt_of_le (hQ b hb).2 n1) (nb b (hQ b hb).1)) λ_ h=>h;have n2:=c2.1;refine ew m2 o2 R2.len ?_;refine cE R2.same ?_;refine m2.bG ?_;simp only[dD];refine dv R2.len (dv hRv.len ?_);rw[tF R2.len hRv.len rfl];refine t2.auB W m2 (Q:=λb=>S0.n≤b∧b<S2.n) (R2.go (λ_ _=>rfl) λb hb=>⟨(hQ b hb).1,by have:=(hQ b hb).2;omega⟩) (hRv.go (λ_ _=>rfl) λb hb=>⟨by have:=hb.1;omega,hb.2⟩) (λb hb=>⟨hb.1,hb.2,λq=>q,λq=>q⟩) d2 λH3 S3 m3 n3 d3 t3 E3 k3=>?_;refine cE (mJ (by rw[m3.n,m2.n,n3])) ?_;have o3:S3.ob b8=.ce c 0:=(k3 b8 (by omega)).trans o2;refine t3.kS W m3 (kd':=2) d3 λH4 S4 m4 n4 d4 k4 t4=>?_;refine ew m4 ((k4 b8 (by omega)).trans o3) R2.len ?_;refine cE R2.same ?_;refine t4.sS W m4 (aX.kb W E3 m3 n4 k4) (λb hb=>hb) d4 λH5 S5 m5 n5 d5 k5 t5=>?_;exact t5.fin m5 d5 (by omega) hP2
theorem atE(W:kT C S0 bs){b8:Nat}{c:List AV}{e:aC}{Q:Nat→Prop}(hM:Mem H S)(hs:bB C S r)(t:dM C S0 S bs 0 a .ab [] .ab [] .ab [] aV)(ho:S.ob b8=.ce c 0)(hb8:S0.n≤b8)(hR:RE S Q c e)(hQ:∀b,Q b→S0.n≤b∧b<S.n)
  (hP:bd C (cG C bs) (fO bs) K S0 (r.bind λ_ j=>.ok (.mk 3 a [] [e] []) j)) :
  CF (bD (au m)) K (.ptr bs 0) (.ptr b8 0) H:=by
 show CE (bD (au m)) K (.ptr bs 0) (.ptr b8 0) H;unfold CE;have hlt:=W.lt;have lt8:b8<S.n:=hM.lt (by rw[ho];simp);refine ew hM ho hR.len ?_;refine hM.bG ?_;rw[dD];refine dv hR.len ?_;rw[qE hR.len rfl];refine cA hM (by rw[hR.len]) hR.ones λH1 m1=>cE (mJ (by rw[m1.n,hM.n];rfl)) ?_;have n0:=t.x.1;have L:=t.BA hM;have c1:an aV S (S.push (.ce c 0)):=(an.refl _ _).push _;have d1:=hs.iK hM c1;have t1:=((t.res hM (X':=λb=>b=S.n) λb hb=>.inr (by have hb:b=S.n:=hb;omega)).keep W hM c1.no)
 have E1:aX fZ (zS S0 .ab .ab aV) (S.push (.ce c 0)) (.slice S.n 0 1 1 7 true) [e]:=
  aX.single (R:=fZ) (Q:=Q) (LS.ag _ _) ⟨n0,λq=>q,λq=>q,λq=>q⟩ (hR.go (λb hb=>LS.aZ _ _ (hQ b hb).2) λ_ h=>h) λx hx=>⟨⟨(hQ x hx).1,λq=>q,λq=>q,λq=>q⟩,Nat.lt_succ_of_lt (hQ x hx).2,by have:=(hQ x hx).2;omega⟩
 have o1:(S.push (.ce c 0)).ob b8=.ce c 0:=(LS.aZ _ _ lt8).trans ho;refine t1.kS W m1 (kd':=3) d1 λH2 S2 m2 n2 d2 k2 t2=>?_;refine ew m2 ((k2 b8 (by omega)).trans o1) hR.len ?_;refine cE hR.same ?_;refine t2.sS W m2 (aX.kb W E1 m1 n2 k2) (λb hb=>hb) d2 λH3 S3 m3 n3 d3 k3 t3=>?_;exact hP.2 H3 S3 _ _ m3 t3.x (d3.ret _) ⟨rfl,_,t3.ob,t3.Jj m3⟩ qG
theorem atF(O:gO C m)(hk:2*k+4≤m)(hd:d≤200)(W:kT C S0 bs){b8:Nat}{c:List AV}{e:aC}{Q:Nat→Prop}(hM:Mem H S)(hs:bB C S r)(t:dM C S0 S bs 0 a .ab [] .ab [] .ab [] aV)(ho:S.ob b8=.ce c 0)(hb8:S0.n≤b8)(hR:RE S Q c e)(hQ:∀b,Q b→S0.n≤b∧b<S.n)
  (hP:bd C (cG C bs) (fO bs) K S0 (r.bind λ_ j=>(if e.kind=10 then .ok (.mk 3 a [] [e] []) j else (aW C.T [61] j).bind λ_ j=>(bY C.T k j d).bind λv j=>.ok (.mk 2 a [] [e,v] []) j).bind λs j=>dG C.T s j)) :
  KV (bD (au m)) K (.ptr C.bp 0) (.ptr bs 0) (d:Int) (.ptr b8 0) H:=by
 have r2:(bD (au m)).2.1=f28:=rfl;have r5:(bD (au m)).2.2.2.2.1=f69:=rfl;have e10:Int.ofNat 10=((10:Nat):Int):=rfl;show CI (bD (au m)) K (CF (bD (au m)) K) (CH (bD (au m)) K) (.ptr C.bp 0) (.ptr bs 0) (d:Int) (.ptr b8 0) H;unfold CI;rw[r2,r5];have hlt:=W.lt;have hbp:=W.bp;have nb:∀b,S0.n≤b→¬aK C b:=λb hb q=>by have q:b=C.bp:=q;omega
 obtain⟨cr,hcr⟩:=hR.k0;have knd:∀{H:AH}{S:LS}{P Q:Prop},Mem H S→S.ob b8=.ce c 0→bI (decide ((e.kind:Int)=((10:Nat):Int))) P Q→al 0 (.ptr b8 0) λv1=>ak v1 H λv2=>cI 0 v2 λz3=>bI (bj z3 (.ofNat 10)) P Q:=by
  intro H S P Q hM ho h;rw[aL,Nat.zero_add];refine aw hM ho (v:=.int 0 (e.kind:Int)) (by rw[hcr];rfl) ?_;rw[aE,bq,e10];exact h
 refine knd hM ho ?_;by_cases g:e.kind=10
 ·rw[decide_eq_true (by omega),az];simp only[if_pos g]at hP;refine tH (s:=[61]) (aD (by decide)) hM hs λH1 S1 m1 c1 d1=>?_;rw[ai,aB];have t1:=t.keep W hM c1.no;have o1:=c1.ob hM ho λq=>q;have R1:RE S1 Q c e:=hR.go (λb hb=>c1.2 b (hQ b hb).2 λq=>q) λ_ h=>h;have Q1:∀b,Q b→S0.n≤b∧b<S1.n:=λb hb=>⟨(hQ b hb).1,Nat.lt_of_lt_of_le (hQ b hb).2 c1.1⟩
  cases hi:pW C.T [61] r with
  |false=>
   simp only[Bool.not_false,az];refine atE W m1 d1 t1 o1 hb8 R1 Q1 ?_;have sp:(r.bind λ_ j=>(ay.ok (aS.mk 3 a [] [e] []) j).bind λs j=>dG C.T s j)=r.bind λ_ j=>.ok (.mk 3 a [] [e] []) j:=by
    cases r with
    |bA=>rfl
    |err c i=>rfl
    |ok y j=>
     have h3:isA C.T [61] j=false:=hi;show dG C.T (.mk 3 a [] [e] []) j=.ok _ j;unfold dG;rw[if_neg (by rw[h3];simp)]
   rw[←sp];exact hP
  |true=>
   obtain⟨y,j,rfl,hj⟩:=Ff hi;simp only[Bool.not_true,ax];refine knd m1 o1 ?_;rw[decide_eq_true (by omega),az];refine rO (c:=14) (by omega) (by omega) m1 d1 λH2 S2 m2 c2 d2=>?_;rw[ai];have hP:bd C (cG C bs) (fO bs) K S0 (dG C.T (.mk 3 a [] [e] []) j):=hP;unfold dG at hP;rw[if_pos ⟨rfl,hj⟩]at hP;exact aj4 (r:=(ay.err 14 j:ay Unit)) O hk hd W m2 d2 (t1.keep W m1 c2) (c2.ob m1 o1 (nb _ hb8)) hb8 (R1.go (λb hb=>c2.2 b (Q1 b hb).2 (nb b (Q1 b hb).1)) λ_ h=>h) (λb hb=>⟨(Q1 b hb).1,Nat.lt_of_lt_of_le (Q1 b hb).2 c2.1⟩) hP
 ·rw[decide_eq_false (by omega),ax];refine knd hM ho ?_;rw[decide_eq_false (by omega),ax];simp only[if_neg g,bV]at hP;exact aj4 O hk hd W hM hs t ho hb8 hR hQ hP
end
end
section
variable {H:AH}{S:LS}{K:KF}{C:Ctx}{i d:Nat}
theorem x71{m:Nat}(hm:m≤1000000)(O:gO C m):∀k,2*k+4≤m+1→∀{K:KF}{H:AH}{S:LS}{i d bs:Nat}{γ:Type}{x:γ},d≤200→Mem H S→bB C S (ay.ok x i)→isA C.T [114,101,116,117,114,110] i=false→S.ob bs=.ce [.int 0 0,.int 0 (aq C.T i:Int),.ab,.ab,.ab] 0→bs≠C.bp→(∀b,aG C.vT b→b≠bs)→bd C (cG C bs) (fO bs) K S (D6 C.T k i d)→(au (m+1)).2.2.1 (.ptr C.bp 0) (.ptr bs 0) (d:Int) H K:=by
 intro k hk K H S i d bs γ x hd hM hs hret hob hne hnT hP;cases k with
 |zero=>exact absurd (show D6 C.T 0 i d=.bA by unfold D6;simp only[gC];rfl) hP.1
 |succ k=>
 have r1:(bD (au m)).1=(au m).1:=rfl;have r3:(bD (au m)).2.2.1=f67:=rfl;have r4:(bD (au m)).2.2.2.1=f68:=rfl;have r6:(bD (au m)).2.2.2.2.2.1=(au m).2.1:=rfl;have r7:(bD (au m)).2.2.2.2.2.2.1=f104:=rfl;have r8:(bD (au m)).2.2.2.2.2.2.2.1=(au m).2.2.2.2.1:=rfl;have r9:(bD (au m)).2.2.2.2.2.2.2.2.1=f106:=rfl;have r10:(bD (au m)).2.2.2.2.2.2.2.2.2=(au m).2.2.2.2.2.1:=rfl;have e7:(au (m+1)).2.2.1=Hs (bD (au m)):=by rw[D7]
 rw[e7];unfold Hs afR QG;rw[r1,r3,r4,r6,r7,r8,r9,r10];have gf:G.NL=1000000:=rfl;generalize G.NL=iA at gf ⊢;have W:kT C S bs:=⟨hM.lt (by rw[hob];simp),hne,hnT,hs.dO hM,λb hb=>hs.tk.lt hM hb⟩
 have hlt:=W.lt;have t:dM C S S bs 0 (aq C.T i) .ab [] .ab [] .ab [] aV:=⟨an.refl _ _,hob,aX.nil _ _ _,aX.nil _ _ _,aX.nil _ _ _⟩
 have hP:bd C (cG C bs) (fO bs) K S ((gC C.T (k+1) i d).bind λs j=>dG C.T s j):=hP;simp only[gC]at hP;refine dT (s:=[108,111,99,97,108]) (aD (by decide)) hM hs (λy j er hi H1 S1 m1 c1 d1=>?_) λh1 H1 S1 m1 c1 d1=>?_
 ·cases er;simp only[ai,aB,az];rw[if_pos hi]at hP;have t1:=t.keep W hM c1;cases k with
  |zero=>exact absurd (show(jS C.T 0 (aq C.T i) (i+1) d).bind (λs j=>dG C.T s j)=.bA by simp only[jS];rfl) hP.1
  |succ k=>
  simp only[jS]at hP;refine dT (s:=[102,117,110,99,116,105,111,110]) (aD (by decide)) m1 d1 (λy j er hi2 H2 S2 m2 c2 d2=>?_) λh2 H2 S2 m2 c2 d2=>?_
  ·cases er;simp only[ai,aB,az];rw[if_pos hi2,bV]at hP;have t2:=t1.keep W m1 c2;refine t2.ama (r:=(.ok () (i+1+1):ay Unit)) W m2 d2 hP λs b H3 S3 m3 d3 t3 N3 hP3=>?_;refine t3.SV W m3 N3 (λb hb=>hb) d3 λH4 S4 m4 n4 d4 k4 t4=>?_;refine lU m4 d4 ?_;rw[ai,aE];have sp:∀r':ay (List Nat),(r'.bind λ_ j=>((jJ C.T k (aq C.T j) j d).bind λb j=>ay.ok (aS.mk 12 (aq C.T i) [s] [b] []) j).bind λs j=>dG C.T s j)≠.bA→(r'.bind λ_ j=>((jJ C.T k (aq C.T j) j d).bind λb j=>ay.ok (aS.mk 12 (aq C.T i) [s] [b] []) j).bind λs j=>dG C.T s j)=r'.bind λ_ j=>(pFn C.T (k-1) j d).bind λf j=>dG C.T (.mk 12 (aq C.T i) [s] [.mk 7 (aq C.T r'.ix) 0 [] 0 [] [f]] []) j:=by
    intro r' h;cases r' with
    |bA=>rfl
    |err c i=>rfl
    |ok y j=>
     cases k with
     |zero=>exact absurd (show((jJ C.T 0 (aq C.T j) j d).bind λb j=>ay.ok (aS.mk 12 (aq C.T i) [s] [b] []) j).bind (λs j=>dG C.T s j)=.bA by simp only[jJ];rfl) h
     |succ k=>
      show((jJ C.T (k+1) (aq C.T j) j d).bind λb j=>ay.ok (aS.mk 12 (aq C.T i) [s] [b] []) j).bind (λs j=>dG C.T s j)=_;rw[Wx];simp only[bV];rfl
   rw[sp _ hP3.1]at hP3;have L4:=t4.BA m4;refine O.body (k-1) (by omega) hd m4 d4 (bd.call (cV:=sZ) hP3.seq λf H5 S5 w m5 c5 d5 ⟨c,hw,hR⟩ oZ=>?_);subst hw;have t5:=t4.keep W m4 c5;rw[dD];refine dv hR.len ?_;rw[al5 hR.len rfl];refine cA m5 (by rw[hR.len]) hR.ones λH6 m6=>?_;refine ey rfl ?_;have c6:an aV S5 (S5.push (.ce c 0)):=(an.refl _ _).push _;have t6:=t5.keep W m5 c6.no;have d6:=d5.iK m5 c6;have n4:=t4.x.1;have n5:=c5.1;have hRf:RE (S5.push (.ce c 0)) (λb=>S4.n≤b∧b<S5.n+1) [.int 0 ((7:Nat):Int),.int 0 (aq C.T (((ay.ok () (i+1+1)).bind λ_ i=>eF C.T i).ix):Int),.int 0 ((0:Nat):Int),af [],.int 0 ((0:Nat):Int),.ab,.slice S5.n 0 1 1 2 true] (.mk 7 (aq C.T (((ay.ok () (i+1+1)).bind λ_ i=>eF C.T i).ix)) 0 [] 0 [] [f]):=
    RE.fn (b:=S5.n) (m:=0) ⟨by omega,by omega⟩ (LS.ag _ _) (hR.go (λb hb=>LS.aZ _ _ hb.2) λb hb=>⟨hb.1,by have:=hb.2;omega⟩)
   refine t6.newE W m6 hRf (λb hb=>⟨by have:=hb.1;omega,hb.2,λq=>by have:=(L4.1 _ q).2;have:=hb.1;omega,λq=>q⟩) d6 λH7 S7 m7 n7 d7 t7 E7=>?_;refine t7.kS W m7 (kd':=12) d7 λH8 S8 m8 n8 d8 k8 t8=>?_;refine t8.sS W m8 (aX.kb W E7 m7 n8 k8) (λb hb=>hb) d8 λH9 S9 m9 n9 d9 k9 t9=>?_;exact t9.fin m9 d9 (by omega) oZ
  ·have h2:isA C.T [102,117,110,99,116,105,111,110] (i+1)=false:=h2;simp only[ai,aB,ax];rw[if_neg (by rw[h2];simp),bV]at hP;have t2:=t1.keep W m1 c2;refine t2.ama (r:=(.ok () (i+1):ay Unit)) W m2 d2 hP λs b H3 S3 m3 d3 t3 N3 hP3=>?_;refine t3.kS W m3 (kd':=1) d3 λH4 S4 m4 n4 d4 k4 t4=>?_;refine t4.SV W m4 (aX.kb W N3 m3 n4 k4) (λb hb=>hb) d4 λH5 S5 m5 n5 d5 k5 t5=>?_;refine auE (k:=k) O (by omega) hd W m5 d5 t5 ?_;have sp:(λ(_:List Nat) j=>(if isA C.T [61] j=true then (bY C.T k (j+1) d).bind λe k=>ay.ok (aS.mk 1 (aq C.T i) [s] [e] []) k else ay.ok (aS.mk 1 (aq C.T i) [s] [] []) j).bind λs j=>dG C.T s j)=λ_ j=>if isA C.T [61] j=true then (bY C.T k (j+1) d).bind λe k=>dG C.T (.mk 1 (aq C.T i) [s] [e] []) k else dG C.T (.mk 1 (aq C.T i) [s] [] []) j:=by
    funext _ j;split
    ·rw[bV];rfl
    ·rfl
   rw[←sp];exact hP3
 have h1:isA C.T [108,111,99,97,108] i=false:=h1;simp only[ai,aB,ax];rw[if_neg (by rw[h1];simp)]at hP;have t1:=t.keep W hM c1;refine dT (s:=[105,102]) (aD (by decide)) m1 d1 (λy j er hi H2 S2 m2 c2 d2=>?_) λh2 H2 S2 m2 c2 d2=>?_
 ·cases er;simp only[ai,aB,az];rw[if_pos hi]at hP;refine(t1.keep W m1 c2).kS W m2 (kd':=4) d2 λH3 S3 m3 n3 d3 k3 t3=>?_;exact auG O hd W k (by omega) iA (.ok () (i+1):ay Unit) .ab .ab [] [] H3 S3 (by omega) (by simp;omega) (by simp;omega) m3 d3 t3 (λ_ _ _=>trivial) hP λ_=>⟨_,_,rfl⟩
 have h2:isA C.T [105,102] i=false:=h2;simp only[ai,aB,ax];rw[if_neg (by rw[h2];simp)]at hP;have t2:=t1.keep W m1 c2;refine dT (s:=[119,104,105,108,101]) (aD (by decide)) m2 d2 (λy j er hi H3 S3 m3 c3 d3=>?_) λh3 H3 S3 m3 c3 d3=>?_
 ·cases er;simp only[ai,aB,az];rw[if_pos hi]at hP;cases k with
  |zero=>exact absurd (show(lO C.T 0 (aq C.T i) (i+1) d).bind (λs j=>dG C.T s j)=.bA by simp only[lO];rfl) hP.1
  |succ k=>
  simp only[lO,bV]at hP;refine(t2.keep W m2 c3).SW (r:=(.ok () (i+1):ay Unit)) O (k:=k) (by omega) hd W m3 d3 hP λe b H4 S4 m4 d4 t4 E4 na=>?_;refine t4.kS W m4 (kd':=5) d4 λH5 S5 m5 n5 d5 k5 t5=>?_;refine t5.sS W m5 (aX.kb W E4 m4 n5 k5) (λb hb=>hb) d5 λH6 S6 m6 n6 d6 k6 t6=>?_;exact auC (k:=k) O (by omega) hd W (by omega) m6 d6 t6 na
 have h3:isA C.T [119,104,105,108,101] i=false:=h3;simp only[ai,aB,ax];rw[if_neg (by rw[h3];simp)]at hP;have t3:=t2.keep W m2 c3;refine dT (s:=[114,101,112,101,97,116]) (aD (by decide)) m3 d3 (λy j er hi H4 S4 m4 c4 d4=>?_) λh4 H4 S4 m4 c4 d4=>?_
 ·cases er;simp only[ai,aB,az];rw[if_pos hi]at hP;cases k with
  |zero=>exact absurd (show(j0 C.T 0 (aq C.T i) (i+1) d).bind (λs j=>dG C.T s j)=.bA by simp only[j0];rfl) hP.1
  |succ k=>
  simp only[j0,bV]at hP;refine(t3.keep W m3 c4).acG (r:=(.ok () (i+1):ay Unit)) O (k:=k) (by omega) hd W m4 d4 hP λb bk H5 S5 m5 d5 t5 B5 oZ=>?_;refine t5.Jp W m5 B5 (λb hb=>hb) d5 λH6 S6 m6 n6 d6 k6 t6=>?_;refine t6.must W (s:=[117,110,116,105,108]) (aD (by decide)) m6 d6 oZ λH7 S7 m7 d7 t7 Aq=>?_;exact auD (k:=k) O (by omega) hd W m7 d7 t7 Aq
 have h4:isA C.T [114,101,112,101,97,116] i=false:=h4;simp only[ai,aB,ax];rw[if_neg (by rw[h4];simp)]at hP;have t4:=t3.keep W m3 c4;refine dT (s:=[102,111,114]) (aD (by decide)) m4 d4 (λy j er hi H5 S5 m5 c5 d5=>?_) λh5 H5 S5 m5 c5 d5=>?_
 ·cases er;simp only[ai,aB,az];rw[if_pos hi]at hP;cases k with
  |zero=>exact absurd (show(nX C.T 0 (aq C.T i) (i+1) d).bind (λs j=>dG C.T s j)=.bA by simp only[nX];rfl) hP.1
  |succ k=>
  simp only[nX]at hP;rw[bV]at hP;refine(t4.keep W m4 c5).ama (r:=(.ok () (i+1):ay Unit)) W m5 d5 hP λs b H6 S6 m6 d6 t6 N6 y7=>?_;refine t6.SV W m6 N6 (λb hb=>hb) d6 λH7 S7 m7 n7 d7 k7 t7=>?_;exact auH (k:=k) O (by omega) hd W m7 d7 t7 y7
 have h5:isA C.T [102,111,114] i=false:=h5;simp only[ai,aB,ax];rw[if_neg (by rw[h5];simp)]at hP;have t5:=t4.keep W m4 c5;refine dT (s:=[98,114,101,97,107]) (aD (by decide)) m5 d5 (λy j er hi H6 S6 m6 c6 d6=>?_) λh6 H6 S6 m6 c6 d6=>?_
 ·cases er;simp only[ai,aB,az];rw[if_pos hi]at hP;refine(t5.keep W m5 c6).kS W m6 (kd':=9) d6 λH7 S7 m7 n7 d7 k7 t7=>?_;exact t7.fin (r:=(.ok () (i+1):ay Unit)) m7 d7 (by omega) hP
 have h6:isA C.T [98,114,101,97,107] i=false:=h6;simp only[ai,aB,ax];rw[if_neg (by rw[h6];simp)]at hP;have t6:=t5.keep W m5 c6;refine dT (s:=[100,111]) (aD (by decide)) m6 d6 (λy j er hi H7 S7 m7 c7 d7=>?_) λh7 H7 S7 m7 c7 d7=>?_
 ·cases er;simp only[ai,aB,az];rw[if_pos hi]at hP;cases k with
  |zero=>exact absurd (show(wP C.T 0 (aq C.T i) (i+1) d).bind (λs j=>dG C.T s j)=.bA by simp only[wP];rfl) hP.1
  |succ k=>
  simp only[wP,bV]at hP;refine(t6.keep W m6 c7).kS W m7 (kd':=11) d7 λH8 S8 m8 n8 d8 k8 t8=>?_;exact atD (r:=(.ok () (i+1):ay Unit)) (k:=k) O (by omega) hd W (by omega) m8 d8 t8 hP
 have h7:isA C.T [100,111] i=false:=h7;simp only[ai,aB,ax];rw[if_neg (by rw[h7];simp),if_neg (by rw[hret];simp)]at hP;have t7:=t6.keep W m6 c7;refine lU m7 d7 ?_;rw[ai,aE];have s0:(ay.ok x i).ix=i:=rfl;rw[s0];have sp:((if bH C.T i=2 then iJ C.T k (aq C.T i) i d else .err 14 i).bind λs j=>dG C.T s j)=((ay.ok x i).bind λ_ i=>eF C.T i).bind λs j=>(if k=0∨k=1∨k=2 then .bA else dj C.T (k-2) (.mk 6 (aq C.T i) 0 s 0 [] []) j d).bind λe j=>(if e.kind=10 then .ok (.mk 3 (aq C.T i) [] [e] []) j else (aW C.T [61] j).bind λ_ j=>(bY C.T (k-1) j d).bind λv j=>.ok (.mk 2 (aq C.T i) [] [e,v] []) j).bind λs j=>dG C.T s j:=by
  show _=(eF C.T i).bind _;unfold eF;by_cases g:bH C.T i=2
  ·rw[if_pos g,if_pos g];show(iJ C.T k (aq C.T i) i d).bind (λs j=>dG C.T s j)=(if k=0∨k=1∨k=2 then .bA else dj C.T (k-2) (.mk 6 (aq C.T i) 0 (dR C.T i) 0 [] []) (i+1) d).bind _
   match k with
   |0=>simp only[iJ];rfl
   |1=>simp only[iJ,jZ];rfl
   |2=>
    simp only[iJ,jZ];rw[if_pos (.inl g)];simp only[eZ];rfl
   |k+3=>
    rw[if_neg (by omega)];simp only[iJ,jZ];rw[if_pos (.inl g)];have es:eZ C.T (k+1) i d=.ok (.mk 6 (aq C.T i) 0 (dR C.T i) 0 [] []) (i+1):=by
     simp only[eZ];rw[if_neg (by omega),if_neg (by omega),if_pos g]
    rw[es,bV];rfl
  ·rw[if_neg g,if_neg g];rfl
 rw[sp]at hP;refine uA m7 d7 (bd.call (cV:=Nu) hP λs H8 S8 w m8 c8 d8 ⟨hw,hs8⟩ Jq=>?_);subst hw;refine ey (fe s) ?_;have t8:=t7.keep W m7 c8;have SY:bd C (cG C bs) (fO bs) K S ((((ay.ok x i).bind λ_ i=>eF C.T i).bind λ_ j=>dj C.T (k-2) (.mk 6 (aq C.T i) 0 s 0 [] []) j d).bind λe j=>(if e.kind=10 then .ok (.mk 3 (aq C.T i) [] [e] []) j else (aW C.T [61] j).bind λ_ j=>(bY C.T (k-1) j d).bind λv j=>.ok (.mk 2 (aq C.T i) [] [e,v] []) j).bind λs j=>dG C.T s j):=by
  have e1:∀r':ay (List Nat),(r'.bind λ_ j=>(if k=0∨k=1∨k=2 then .bA else dj C.T (k-2) (.mk 6 (aq C.T i) 0 s 0 [] []) j d).bind λe j=>(if e.kind=10 then .ok (.mk 3 (aq C.T i) [] [e] []) j else (aW C.T [61] j).bind λ_ j=>(bY C.T (k-1) j d).bind λv j=>.ok (.mk 2 (aq C.T i) [] [e,v] []) j).bind λs j=>dG C.T s j)≠.bA→(r'.bind λ_ j=>(if k=0∨k=1∨k=2 then .bA else dj C.T (k-2) (.mk 6 (aq C.T i) 0 s 0 [] []) j d).bind λe j=>(if e.kind=10 then .ok (.mk 3 (aq C.T i) [] [e] []) j else (aW C.T [61] j).bind λ_ j=>(bY C.T (k-1) j d).bind λv j=>.ok (.mk 2 (aq C.T i) [] [e,v] []) j).bind λs j=>dG C.T s j)=(r'.bind λ_ j=>dj C.T (k-2) (.mk 6 (aq C.T i) 0 s 0 [] []) j d).bind λe j=>(if e.kind=10 then .ok (.mk 3 (aq C.T i) [] [e] []) j else (aW C.T [61] j).bind λ_ j=>(bY C.T (k-1) j d).bind λv j=>.ok (.mk 2 (aq C.T i) [] [e,v] []) j).bind λs j=>dG C.T s j:=by
   intro r' h;cases r' with
   |bA=>rfl
   |err c i=>rfl
   |ok y j=>
    by_cases g:k=0∨k=1∨k=2
    ·exact absurd (show(if k=0∨k=1∨k=2 then (.bA:ay aC) else dj C.T (k-2) (.mk 6 (aq C.T i) 0 s 0 [] []) j d).bind (λe j=>(if e.kind=10 then .ok (.mk 3 (aq C.T i) [] [e] []) j else (aW C.T [61] j).bind λ_ j=>(bY C.T (k-1) j d).bind λv j=>.ok (.mk 2 (aq C.T i) [] [e,v] []) j).bind λs j=>dG C.T s j)=.bA by rw[if_pos g];rfl) h
    ·show(if k=0∨k=1∨k=2 then (.bA:ay aC) else dj C.T (k-2) (.mk 6 (aq C.T i) 0 s 0 [] []) j d).bind _=_;rw[if_neg g];rfl
  rw[←e1 _ Jq.1];exact Jq
 have n8:=t8.x.1;have hR:RE S8 (fb S8.n S8.n) [.int 0 ((6:Nat):Int),.int 0 (aq C.T i:Int),.int 0 ((0:Nat):Int),af s,.int 0 ((0:Nat):Int),.ab,.ab] (.mk 6 (aq C.T i) 0 s 0 [] []):=RE.simple hs8;have hbp:=W.bp;refine O.behind (k-2) (by omega) hd m8 (S0:=S8) (an.refl _ _) (by omega) (λb hb=>by have:=W.vT b hb;omega) d8 hR (bd.call (cV:=dc) SY λe H9 S9 w m9 c9 d9 ⟨c,hw,hRe⟩ awz=>?_);subst hw;have t9:=t8.keep W m8 c9;refine bE ?_;rw[eU];refine bz m9 cm λHa ma=>?_;refine eJ ma (LS.ag _ _) rfl hRe.len hRe.ones λHb mb=>?_;have cb:an aV S9 ((S9.push (.ce z7 0)).set S9.n (.ce c 0)):=((an.refl _ _).push _).set (.inr (Nat.le_refl _)) _;have n9:=t9.x.1;exact atF (k:=k-1) O (by omega) hd W mb (d9.iK m9 cb) (t9.keep W m9 cb.no) (LS.aj _ _ _) n9 (hRe.go (λb hb=>cb.2 b hb.2 λq=>q) λ_ h=>h) (λb hb=>⟨by have:=hb.1;omega,Nat.lt_of_lt_of_le hb.2 cb.1⟩) awz
end
end Go.Proofs.YtcedghechlgecaaGreatDoor
namespace Go.X
section
theorem cD{α:Type}{r:ay α}{f:α→Nat→ay aS}{P:aS→Prop}(h:∀a i s j,f a i=.ok s j→P s){s:aS}{j:Nat}(e:r.bind f=.ok s j):P s:=by
 obtain⟨a,i,_,h2⟩:=bind_ok e;exact h a i s j h2
theorem text_of{T:List Tok}{s:List Nat}{i:Nat}(h:isA T s i=true):dR T i=s:=by
 unfold isA at h;simp only[Bool.and_eq_true,decide_eq_true_eq]at h;exact h.2
theorem iM{T:List Tok}{s t:List Nat}{i:Nat}(h:isA T s i=true)(hn:t≠s):isA T t i=false:=by
 unfold isA;rw[text_of h,decide_eq_false (p:=s=t) λq=>hn q.symm,Bool.and_false]
variable {T:List Tok}
theorem aqd{k a i d:Nat}{s:aS}{j:Nat}(h:jS T k a i d=.ok s j):s.kind≠10:=by
 cases k with
 |zero=>simp only[jS]at h;cases h
 |succ k=>
  simp only[jS]at h;split at h
  ·exact cD (P:=λs=>s.kind≠10) (λ_ _ _ _ h=>cD (P:=λs=>s.kind≠10) (λ_ _ _ _ h=>by cases h;show 12≠10;omega) h) h
  ·refine cD (P:=λs=>s.kind≠10) (λ_ _ _ _ h=>?_) h;split at h
   ·exact cD (P:=λs=>s.kind≠10) (λ_ _ _ _ h=>by cases h;show 1≠10;omega) h
   ·cases h;show 1≠10;omega
theorem SZ:∀{k a:Nat}{l:List aC}{B:List (List aS)}{i d:Nat}{s:aS}{j:Nat},fk T k a l B i d=.ok s j→s.kind≠10
 |0,a,l,B,i,d,s,j,h=>by simp only[fk]at h;cases h
 |k+1,a,l,B,i,d,s,j,h=>by
  simp only[fk]at h;refine cD (P:=λs=>s.kind≠10) (λ_ _ _ _ h=>cD (P:=λs=>s.kind≠10) (λ_ _ _ _ h=>cD (P:=λs=>s.kind≠10) (λ_ _ _ _ h=>?_) h) h) h;split at h
  ·exact SZ h
  ·split at h
   ·exact cD (P:=λs=>s.kind≠10) (λ_ _ _ _ h=>cD (P:=λs=>s.kind≠10) (λ_ _ _ _ h=>by cases h;show 4≠10;omega) h) h
   ·exact cD (P:=λs=>s.kind≠10) (λ_ _ _ _ h=>by cases h;show 4≠10;omega) h
theorem aqe{k a i d:Nat}{s:aS}{j:Nat}(h:lO T k a i d=.ok s j):s.kind≠10:=by
 cases k with
 |zero=>simp only[lO]at h;cases h
 |succ k=>
  simp only[lO]at h;exact cD (P:=λs=>s.kind≠10) (λ_ _ _ _ h=>cD (P:=λs=>s.kind≠10) (λ_ _ _ _ h=>cD (P:=λs=>s.kind≠10) (λ_ _ _ _ h=>cD (P:=λs=>s.kind≠10) (λ_ _ _ _ h=>by cases h;show 5≠10;omega) h) h) h) h
theorem amb{k a i d:Nat}{s:aS}{j:Nat}(h:j0 T k a i d=.ok s j):s.kind≠10:=by
 cases k with
 |zero=>simp only[j0]at h;cases h
 |succ k=>
  simp only[j0]at h;exact cD (P:=λs=>s.kind≠10) (λ_ _ _ _ h=>cD (P:=λs=>s.kind≠10) (λ_ _ _ _ h=>cD (P:=λs=>s.kind≠10) (λ_ _ _ _ h=>by cases h;show 8≠10;omega) h) h) h
theorem awA{k a i d:Nat}{s:aS}{j:Nat}(h:wP T k a i d=.ok s j):s.kind≠10:=by
 cases k with
 |zero=>simp only[wP]at h;cases h
 |succ k=>
  simp only[wP]at h;exact cD (P:=λs=>s.kind≠10) (λ_ _ _ _ h=>cD (P:=λs=>s.kind≠10) (λ_ _ _ _ h=>by cases h;show 11≠10;omega) h) h
theorem Fh{k kd a:Nat}{ns:List (List Nat)}{l:List aC}{i d:Nat}{s:aS}{j:Nat}(hk:kd≠10)(h:de T k kd a ns l i d=.ok s j):s.kind≠10:=by
 cases k with
 |zero=>simp only[de]at h;cases h
 |succ k=>
  simp only[de]at h;exact cD (P:=λs=>s.kind≠10) (λ_ _ _ _ h=>cD (P:=λs=>s.kind≠10) (λ_ _ _ _ h=>cD (P:=λs=>s.kind≠10) (λ_ _ _ _ h=>by cases h;exact hk) h) h) h
theorem auI{k a i d:Nat}{s:aS}{j:Nat}(h:nX T k a i d=.ok s j):s.kind≠10:=by
 cases k with
 |zero=>simp only[nX]at h;cases h
 |succ k=>
  simp only[nX]at h;refine cD (P:=λs=>s.kind≠10) (λ_ _ _ _ h=>?_) h;split at h
  ·exact cD (P:=λs=>s.kind≠10) (λ_ _ _ _ h=>cD (P:=λs=>s.kind≠10) (λ_ _ _ _ h=>cD (P:=λs=>s.kind≠10) (λ_ _ _ _ h=>Fh (by omega) h) h) h) h
  ·refine cD (P:=λs=>s.kind≠10) (λ_ _ _ _ h=>cD (P:=λs=>s.kind≠10) (λ_ _ _ _ h=>cD (P:=λs=>s.kind≠10) (λ_ _ _ _ h=>cD (P:=λs=>s.kind≠10) (λ_ _ _ _ h=>?_) h) h) h) h;split at h
   ·exact cD (P:=λs=>s.kind≠10) (λ_ _ _ _ h=>Fh (by omega) h) h
   ·exact Fh (by omega) h
theorem aqf{k a i d:Nat}{s:aS}{j:Nat}(h:iJ T k a i d=.ok s j):s.kind≠10:=by
 cases k with
 |zero=>simp only[iJ]at h;cases h
 |succ k=>
  simp only[iJ]at h;refine cD (P:=λs=>s.kind≠10) (λ_ _ _ _ h=>?_) h;split at h
  ·cases h;show 3≠10;omega
  ·exact cD (P:=λs=>s.kind≠10) (λ_ _ _ _ h=>cD (P:=λs=>s.kind≠10) (λ_ _ _ _ h=>by cases h;show 2≠10;omega) h) h
theorem atG{k i d:Nat}{s:aS}{j:Nat}(hr:isA T [114,101,116,117,114,110] i=false)(h:gC T k i d=.ok s j):s.kind≠10:=by
 cases k with
 |zero=>simp only[gC]at h;cases h
 |succ k=>
  simp only[gC]at h;split at h
  ·exact aqd h
  split at h
  ·exact SZ h
  split at h
  ·exact aqe h
  split at h
  ·exact amb h
  split at h
  ·exact auI h
  split at h
  ·cases h;show 9≠10;omega
  split at h
  ·exact awA h
  rw[if_neg (by rw[hr];simp)]at h;split at h
  ·exact aqf h
  ·cases h
theorem aqg{k i d:Nat}(h:isA T [61] i=true):gC T (k+1) i d=.err 14 i:=by
 have hk:bH T i=1∨bH T i=5:=by
  unfold isA at h;simp only[Bool.and_eq_true,Bool.or_eq_true,decide_eq_true_eq]at h;exact h.1
 simp only[gC];rw[if_neg (by rw[iM h (by decide)];simp),if_neg (by rw[iM h (by decide)];simp),if_neg (by rw[iM h (by decide)];simp),if_neg (by rw[iM h (by decide)];simp),if_neg (by rw[iM h (by decide)];simp),if_neg (by rw[iM h (by decide)];simp),if_neg (by rw[iM h (by decide)];simp),if_neg (by rw[iM h (by decide)];simp),if_neg (by omega)]
theorem aqh{i:Nat}(h:isA T [61] i=true):eG T i=false:=by
 have hk:bH T i=1∨bH T i=5:=by
  unfold isA at h;simp only[Bool.and_eq_true,Bool.or_eq_true,decide_eq_true_eq]at h;exact h.1
 unfold eG;rw[iM h (by decide),iM h (by decide),iM h (by decide),iM h (by decide),decide_eq_false (by omega)];rfl
theorem amc{k i d:Nat}(h:isA T [114,101,116,117,114,110] i=true):gC T (k+1) i d=lk T k (aq T i) (i+1) d:=by
 simp only[gC];rw[if_neg (by rw[iM h (by decide)];simp),if_neg (by rw[iM h (by decide)];simp),if_neg (by rw[iM h (by decide)];simp),if_neg (by rw[iM h (by decide)];simp),if_neg (by rw[iM h (by decide)];simp),if_neg (by rw[iM h (by decide)];simp),if_neg (by rw[iM h (by decide)];simp),if_pos h]
end
end Go.X
namespace Go.Proofs.YtcedghechlgecaaGreatDoor
open Go Go.X Go.Proofs.YtcedghechlgecaaGreatDoor.G
section
variable {H:AH}{S:LS}{K:KF}{C:Ctx}{i d:Nat}
section
variable {m k:Nat}{S0:LS}
theorem anE(hbp:C.bp<S0.n)(bK:∀b,aG C.vT b→b<S0.n){b9:Nat}{v:AV}{c:List AV}{s:aS}{out:List aS}{Q:Nat→Prop}{γ:Type}{r:ay γ}(hlen:out.length≤1000000)(hM:Mem H S)(hs:bB C S r)(hx:an (aK C) S0 S)(ho:S.ob b9=.ce c 0)(h9:S0.n≤b9)(hR:ft S Q c s)(L:aX kP (λb=>S0.n≤b) S v out)(hQ:∀b,Q b→S0.n≤b∧b<S.n∧¬aG v b)
  (hP:bd C (aK C) fK K S0 (r.bind λ_ j=>if eG C.T (dF C.T [59] j)=false then .err 14 (dF C.T [59] j) else .ok (out++[s]) (dF C.T [59] j))) :
  sw (cZ (au m)) K (.ptr C.bp 0) v (.ptr b9 0) H:=by
 have r1:(cZ (au m)).1=f28:=rfl;have r3:(cZ (au m)).2.2.1=f66:=rfl;have r5:(cZ (au m)).2.2.2.2.1=f68:=rfl;show GZ (cZ (au m)) K (yc (cZ (au m)) K) (.ptr C.bp 0) v (.ptr b9 0) H;unfold GZ;rw[r1,r3,r5];have nb:∀b,S0.n≤b→¬aK C b:=λb hb q=>by have q:b=C.bp:=q;omega
 have n0:=hx.1;have last:∀{β:Type}{r':ay β}{H1:AH}{S1:LS},Mem H1 S1→bB C S1 r'→an (aK C) S S1→bd C (aK C) fK K S0 (r'.bind λ_ j=>.ok (out++[s]) j)→yc (cZ (au m)) K v (.ptr b9 0) H1:=by
  intro β r' H1 S1 m1 d1 c1 hP;show GY (cZ (au m)) K v (.ptr b9 0) H1;unfold GY;have o1:=c1.ob hM ho (nb _ h9);have R1:ft S1 Q c s:=hR.go (λb hb=>c1.2 b (hQ b hb).2.1 (nb b (hQ b hb).1)) λ_ h=>h;have L1:aX kP (λb=>S0.n≤b) S1 v out:=L.keep hM c1.1 λb h1 h2=>c1.2 b h2 (nb b h1);have x1:=hx.trans c1;refine ew m1 o1 R1.len ?_;rw[dD];refine dv R1.len ?_;rw[al2 R1.len rfl];have n1:=x1.1;refine L1.push (R:=kP) (bytes:=88) m1 R1 (λb hb=>⟨(hQ b hb).1,Nat.lt_of_lt_of_le (hQ b hb).2.1 c1.1,(hQ b hb).2.2⟩) (λb hb=>by show S0.n≤b;omega) (by omega) λH2 S2 v2 m2 L2 n2 k2 b2 atl=>?_;have c2:an (λb=>aG v b) S1 S2:=⟨n2,λb hb hx=>k2 b hb hx⟩
  obtain⟨cl,g1,g2⟩:=(L2.toR (lo:=S0.n) λb hb=>hb).done m2;have hlo:∀b,aG v b→S0.n≤b:=λb hb=>L.o0 hb;exact hP.2 H2 S2 v2 _ m2 (x1.gi c2 λb hb=>.inr (hlo b hb)) ((d1.ret _).keep m1 c2 (λq=>by have:=hlo _ q;omega) λb hb q=>by have:=hlo _ q;have:=bK b hb;omega) ⟨cl,g1,g2⟩ qG
 have rest:∀{β:Type}{r':ay β}{H1:AH}{S1:LS},Mem H1 S1→bB C S1 r'→an (aK C) S S1→bd C (aK C) fK K S0 (r'.bind λ_ j=>if eG C.T j=false then .err 14 j else .ok (out++[s]) j)→f66 (.ptr C.bp 0) H1 λo5 H6=>cR K o5 H6 λv7=>bf v7 λz8=>bI (!z8) (f28 (.ptr C.bp 0) ((14:Nat):Int) H6 λo9 bJ=>cR K o9 bJ λv11=>yc (cZ (au m)) K v (.ptr b9 0) bJ) (yc (cZ (au m)) K v (.ptr b9 0) H6):=by
  intro β r' H1 S1 m1 d1 c1 hP;refine D5 m1 d1 λH2 S2 m2 c2 d2=>?_;rw[ai,aB];cases he:Jk C.T r' with
  |true=>
   simp only[Bool.not_true,ax];refine last m2 d2 (c1.trans c2.no) ?_;have sp:(r'.bind λ_ j=>if eG C.T j=false then .err 14 j else .ok (out++[s]) j)=r'.bind λ_ j=>.ok (out++[s]) j:=by
    cases r' with
    |bA=>rfl
    |err c i=>rfl
    |ok y j=>
     have h3:eG C.T j=true:=he;show(if eG C.T j=false then _ else _)=_;rw[if_neg (by rw[h3];simp)];rfl
   rw[←sp];exact hP
  |false=>
   simp only[Bool.not_false,az];refine rO (c:=14) (by omega) (by omega) m2 d2 λH3 S3 m3 c3 d3=>?_;rw[ai];refine last (r':=(D3 14 r':ay Unit)) m3 d3 ((c1.trans c2.no).trans c3) ?_;have sp:((D3 14 r':ay Unit).bind λ_ j=>.ok (out++[s]) j)=(r'.bind λ_ j=>if eG C.T j=false then .err 14 j else .ok (out++[s]) j):=by
    cases r' with
    |bA=>rfl
    |err c i=>cases he
    |ok y j=>
     have h3:eG C.T j=false:=he;show ay.err 14 j=if eG C.T j=false then _ else _
     rw[if_pos h3]
   rw[sp];exact hP
 have e14:Int.ofNat 14=((14:Nat):Int):=rfl;rw[e14];refine dT (s:=[59]) (aD (by decide)) hM hs (λy j er hi H1 S1 m1 c1 d1=>?_) λhi H1 S1 m1 c1 d1=>?_
 ·cases er;rw[ai,aB];refine rest (r':=(.ok () (j+1):ay Unit)) m1 d1 c1 ?_;have hP:bd C (aK C) fK K S0 (if eG C.T (dF C.T [59] j)=false then .err 14 (dF C.T [59] j) else .ok (out++[s]) (dF C.T [59] j)):=hP;have eo:dF C.T [59] j=j+1:=by unfold dF;rw[hi];rfl
  rw[eo]at hP;exact hP
 ·rw[ai,aB];refine rest m1 d1 c1 ?_;have sp:(r.bind λ_ j=>if eG C.T (dF C.T [59] j)=false then .err 14 (dF C.T [59] j) else .ok (out++[s]) (dF C.T [59] j))=r.bind λ_ j=>if eG C.T j=false then .err 14 j else .ok (out++[s]) j:=by
   cases r with
   |bA=>rfl
   |err c i=>rfl
   |ok y j=>
    have h3:isA C.T [59] j=false:=hi;have eo:dF C.T [59] j=j:=by unfold dF;rw[h3];rfl
    show(if eG C.T (dF C.T [59] j)=false then _ else _)=_;rw[eo];rfl
  rw[←sp];exact hP
def BkX(C:Ctx)(S0:LS)(K:KF)(k d:Nat)(X:AV→Int→AV→AH→Prop):Prop:=∀(v:AV) (out:List aS) (H:AH) (S:LS){γ:Type}(r:ay γ),out.length+k≤1000000→Mem H S→bB C S r→an (aK C) S0 S→aX kP (λb=>S0.n≤b) S v out→bd C (aK C) fK K S0 (r.bind λ_ i=>cS C.T k out i d)→X (.ptr C.bp 0) (d:Int) v H
theorem auJ(hm:m≤1000000)(O:gO C m)(hd:d≤200)(hbp:C.bp<S0.n)(bK:∀b,aG C.vT b→b<S0.n)(hk:2*k+4≤m+1){X:AV→Int→AV→AH→Prop}
  (hrec:∀k',k=k'+1→BkX C S0 K k' d X):BkX C S0 K k d (G5 (cZ (au m)) K X):=by
 intro v out H S γ r hl hM hs hx L hP;have r3:(cZ (au m)).2.2.1=f66:=rfl;have r4:(cZ (au m)).2.2.2.1=f67:=rfl;have r5:(cZ (au m)).2.2.2.2.1=f68:=rfl;have r6:(cZ (au m)).2.2.2.2.2.1=f69:=rfl;have r7:(cZ (au m)).2.2.2.2.2.2.1=(au m).2.1:=rfl;have r8:(cZ (au m)).2.2.2.2.2.2.2=(au m).2.2.1:=rfl;have nb:∀b,S0.n≤b→¬aK C b:=λb hb q=>by have q:b=C.bp:=q;omega
 have n0:=hx.1;have hlo:∀b,aG v b→S0.n≤b:=λb hb=>L.o0 hb;have hlt:∀b,aG v b→b<S.n:=λb hb=>L.lt hM hb;have wQ:∀{S1 S2:LS}{H1:AH},Mem H1 S1→aX kP (λb=>S0.n≤b) S1 v out→an (aK C) S1 S2→aX kP (λb=>S0.n≤b) S2 v out:=λm1 o g=>o.keep m1 g.1 λb h1 h2=>g.2 b h2 (nb b h1);show ye (cZ (au m)) K (G1 (cZ (au m)) K) (sw (cZ (au m)) K) (G3 (cZ (au m)) K X) (G4 (cZ (au m)) K) (.ptr C.bp 0) (d:Int) v H;unfold ye;rw[r3,r4,r5,r6,r8];refine D5 hM hs λH1 S1 m1 c1 d1=>?_;rw[ai,aB];have L1:=wQ hM L c1.no;have x1:=hx.trans (c1.no (X:=aK C));cases he:Jk C.T r with
 |true=>
  simp only[Bool.not_true,ax];show yd (cZ (au m)) K v H1;unfold yd;obtain⟨cl,g1,g2⟩:=(L1.toR (lo:=S0.n) λb hb=>hb).done m1;cases r with
  |bA=>exact absurd rfl hs.no
  |err c i=>exact hP.2 H1 S1 v out m1 x1 (sQ d1 rfl) ⟨cl,g1,g2⟩ y8
  |ok y i=>
   have he:eG C.T i=true:=he;have hP:bd C (aK C) fK K S0 (cS C.T k out i d):=hP;cases k with
   |zero=>exact absurd (show cS C.T 0 out i d=.bA by simp only[cS]) hP.1
   |succ k=>
    simp only[cS]at hP;rw[if_pos he]at hP;exact hP.2 H1 S1 v out m1 x1 (Oh d1) ⟨cl,g1,g2⟩ acE
 |false=>
  simp only[Bool.not_false,az];cases r with
  |bA=>exact absurd rfl hs.no
  |err c i=>cases he
  |ok y i=>
  have he:eG C.T i=false:=he;have hP:bd C (aK C) fK K S0 (cS C.T k out i d):=hP;cases k with
  |zero=>exact absurd (show cS C.T 0 out i d=.bA by simp only[cS]) hP.1
  |succ k=>
  simp only[cS]at hP;rw[if_neg (by rw[he];simp)]at hP;refine lU m1 d1 ?_;rw[ai,aE];have s0:(ay.ok y i).ix=i:=rfl;rw[s0];refine bE (bz m1 yZ λH2 m2=>?_);refine eJ m2 (c:=[.int 0 ((0:Nat):Int),.int 0 (aq C.T i:Int),.ab,.ab,.ab]) (LS.ag S1 (.ce z5 0)) rfl rfl (λa h=>?_) λH3 m3=>?_
  ·simp only[List.mem_cons,List.not_mem_nil,or_false]at h;rcases h with rfl|rfl|rfl|rfl|rfl<;>rfl
  have m3:Mem H3 ((S1.push (.ce z5 0)).set S1.n (.ce [.int 0 ((0:Nat):Int),.int 0 (aq C.T i:Int),.ab,.ab,.ab] 0)):=m3;have c3:an aV S1 ((S1.push (.ce z5 0)).set S1.n (.ce [.int 0 ((0:Nat):Int),.int 0 (aq C.T i:Int),.ab,.ab,.ab] 0)):=((an.refl _ _).push _).set (.inr (Nat.le_refl _)) _;have d3:=d1.iK m1 c3;have o3:LS.ob _ S1.n=_:=LS.aj (S1.push (.ce z5 0)) S1.n (.ce [.int 0 ((0:Nat):Int),.int 0 (aq C.T i:Int),.ab,.ab,.ab] 0);have x3:=x1.trans (c3.no (X:=aK C));have n3:((S1.push (.ce z5 0)).set S1.n (.ce [.int 0 ((0:Nat):Int),.int 0 (aq C.T i:Int),.ab,.ab,.ab] 0)).n=S1.n+1:=rfl;have L3:aX kP (λb=>S0.n≤b∧b<S1.n) ((S1.push (.ce z5 0)).set S1.n (.ce [.int 0 ((0:Nat):Int),.int 0 (aq C.T i:Int),.ab,.ab,.ab] 0)) v out:=(L1.imp m1 λb hb hlt=>(⟨hb,hlt⟩:S0.n≤b∧b<S1.n)).keep m1 c3.1 λb _ h2=>c3.2 b h2 λq=>q;revert m3 c3 d3 o3 x3 n3 L3;generalize (S1.push (.ce z5 0)).set S1.n (.ce [.int 0 ((0:Nat):Int),.int 0 (aq C.T i:Int),.ab,.ab,.ab] 0)=S3;intro m3 c3 d3 o3 x3 n3 L3;have n1:=x1.1;have hlt1:∀b,aG v b→b<S1.n:=λb hb=>L1.lt m1 hb;refine dT (s:=[114,101,116,117,114,110]) (aD (by decide)) m3 d3 (λy j er hi H4 S4 m4 c4 d4=>?_) λh1 H4 S4 m4 c4 d4=>?_
  ·cases er;simp only[ai,aB,az];have o4:=c4.ob m3 o3 (nb _ n1);have L4:aX kP (λb=>S0.n≤b∧b<S1.n) S4 v out:=L3.keep m3 c4.1 λb h1 h2=>c4.2 b h2 (nb b h1.1);rw[aL,Nat.zero_add];refine aT (v:=.int 0 ((10:Nat):Int)) m4 o4 (by omega) (by show 0<5;omega) rfl λH5 m5=>?_;have m5:Mem H5 (S4.set S1.n (.ce [.int 0 ((10:Nat):Int),.int 0 (aq C.T i:Int),.ab,.ab,.ab] 0)):=m5;have o5:LS.ob _ S1.n=_:=LS.aj S4 S1.n (.ce [.int 0 ((10:Nat):Int),.int 0 (aq C.T i:Int),.ab,.ab,.ab] 0);have d5:=d4.setB (b:=S1.n) (by omega) (λx hx=>by have:=bK x hx;omega) (.ce [.int 0 ((10:Nat):Int),.int 0 (aq C.T i:Int),.ab,.ab,.ab] 0);have x5:an (aK C) S0 (S4.set S1.n (.ce [.int 0 ((10:Nat):Int),.int 0 (aq C.T i:Int),.ab,.ab,.ab] 0)):=(x3.trans c4).set (.inr n1) _;have L5:aX kP (λb=>S0.n≤b∧b<S1.n) (S4.set S1.n (.ce [.int 0 ((10:Nat):Int),.int 0 (aq C.T i:Int),.ab,.ab,.ab] 0)) v out:=L4.keep m4 (Nat.le_refl _) λb h1 _=>LS.ah _ _ (by have:=h1.2;omega);have n34:=c4.1;have n5:(S4.set S1.n (.ce [.int 0 ((10:Nat):Int),.int 0 (aq C.T i:Int),.ab,.ab,.ab] 0)).n=S4.n:=rfl;revert m5 o5 d5 x5 L5 n5;generalize S4.set S1.n (.ce [.int 0 ((10:Nat):Int),.int 0 (aq C.T i:Int),.ab,.ab,.ab] 0)=S5;intro m5 o5 d5 x5 L5 n5;cases k with
   |zero=>exact absurd (show(gC C.T 0 i d).bind _=.bA by simp only[gC];rfl) hP.1
   |succ k=>
   rw[amc hi]at hP;cases k with
   |zero=>exact absurd (show(lk C.T 0 (aq C.T i) (i+1) d).bind _=.bA by simp only[lk];rfl) hP.1
   |succ k=>
   simp only[lk]at hP;have after:∀(l:List aC) (j:Nat),(if (aS.mk 10 (aq C.T i) [] l []).kind=10∧eG C.T (dF C.T [59] j)=false then .err 14 (dF C.T [59] j) else cS C.T (k+1+1) (out++[.mk 10 (aq C.T i) [] l []]) (dF C.T [59] j) d)=if eG C.T (dF C.T [59] j)=false then .err 14 (dF C.T [59] j) else .ok (out++[.mk 10 (aq C.T i) [] l []]) (dF C.T [59] j):=by
    intro l j;cases hh:eG C.T (dF C.T [59] j)with
    |false=>rw[if_pos ⟨rfl,rfl⟩,if_pos rfl]
    |true=>
     rw[if_neg (λq=>by cases q.2),if_neg (λq=>by cases q)];simp only[cS];rw[if_pos hh]
   have wk:∀{S:LS},aX kP (λb=>S0.n≤b∧b<S1.n) S v out→aX kP (λb=>S0.n≤b) S v out:=λh=>aX.wk h λb hb=>hb.1;have bare:∀{H6:AH}{S6:LS},(isA C.T [59] (i+1)=true∨eG C.T (i+1)=true)→Mem H6 S6→bB C S6 (.ok () (i+1):ay Unit)→an aV S5 S6→sw (cZ (au m)) K (.ptr C.bp 0) v (.ptr S1.n 0) H6:=by
    intro H6 S6 hc m6 d6 c6;rw[if_pos hc]at hP;have hP:bd C (aK C) fK K S0 (if (aS.mk 10 (aq C.T i) [] [] []).kind=10∧eG C.T (dF C.T [59] (i+1))=false then .err 14 (dF C.T [59] (i+1)) else cS C.T (k+1+1) (out++[.mk 10 (aq C.T i) [] [] []]) (dF C.T [59] (i+1)) d):=hP;rw[after]at hP;exact anE (s:=.mk 10 (aq C.T i) [] [] []) (Q:=λ_=>False) (r:=(.ok () (i+1):ay Unit)) hbp bK (by omega) m6 d6 (x5.trans c6.no) (c6.ob m5 o5 λq=>q) n1 (ft.plain (cl:=λ_=>[]) ku.nil (cM.nil _ _ _ _) λi e h=>by simp at h) (wk (L5.keep m5 c6.1 λb _ h2=>c6.2 b h2 λq=>q)) (λb hb=>hb.elim) hP
   refine D5 m5 d5 λH6 S6 m6 c6 d6=>?_;rw[ai,aB];have hde:Jk C.T (.ok () (i+1):ay Unit)=eG C.T (i+1):=rfl;rw[hde];cases hE:eG C.T (i+1)with
   |true=>
    simp only[Bool.not_true,ax];exact bare (.inr hE) m6 d6 c6
   |false=>
   simp only[Bool.not_false,az];refine tH (s:=[59]) (aD (by decide)) m6 d6 λH7 S7 m7 c7 d7=>?_;rw[ai,aB];have hdi:pW C.T [59] (.ok () (i+1):ay Unit)=isA C.T [59] (i+1):=rfl;rw[hdi];cases hS:isA C.T [59] (i+1)with
   |true=>
    simp only[Bool.not_true,ax];exact bare (.inl hS) m7 d7 (c6.trans c7)
   |false=>
   simp only[Bool.not_false,az];rw[if_neg (by rintro(q|q);rw[hS]at q;cases q;rw[hE]at q;cases q),bV]at hP;have c57:=c6.trans c7;have L7:aX kP (λb=>S0.n≤b∧b<S1.n) S7 v out:=L5.keep m5 c57.1 λb _ h2=>c57.2 b h2 λq=>q;have o7:=c57.ob m5 o5 λq=>q;have n57:=c57.1;show G0 (cZ (au m)) K (sw (cZ (au m)) K) (.ptr C.bp 0) (d:Int) v (.ptr S1.n 0) H7;unfold G0;rw[r7];refine O.exp k (by omega) hd m7 d7 (bd.call (cV:=dc) (show bd C (aK C) fK K S0 (((ay.ok () (i+1)).bind λ_ i=>bY C.T k i d).bind _)from hP) λe H8 S8 w m8 c8 d8 ⟨c,hw,hR⟩ Jq=>?_);subst hw;have L8:aX kP (λb=>S0.n≤b∧b<S1.n) S8 v out:=L7.keep m7 c8.1 λb h1 h2=>c8.2 b h2 (nb b h1.1);have o8:=c8.ob m7 o7 (nb _ n1);have n78:=c8.1;rw[dD];refine dv hR.len ?_;rw[qE hR.len rfl];refine cA m8 (by rw[hR.len]) hR.ones λH9 m9=>?_;have c9:an aV S8 (S8.push (.ce c 0)):=(an.refl _ _).push _;have o9:=c9.ob m8 o8 λq=>q;rw[aL,Nat.zero_add];refine aT (v:=.slice S8.n 0 1 1 7 true) m9 o9 (by omega) (by show 3<5;omega) rfl λHa ma=>?_;have ma:Mem Ha ((S8.push (.ce c 0)).set S1.n (.ce [.int 0 ((10:Nat):Int),.int 0 (aq C.T i:Int),.ab,.slice S8.n 0 1 1 7 true,.ab] 0)):=ma;have xa:an (aK C) S0 ((S8.push (.ce c 0)).set S1.n (.ce [.int 0 ((10:Nat):Int),.int 0 (aq C.T i:Int),.ab,.slice S8.n 0 1 1 7 true,.ab] 0)):=(((x5.trans c57.no).trans c8).trans c9.no).set (.inr n1) _;have hRS:ft ((S8.push (.ce c 0)).set S1.n (.ce [.int 0 ((10:Nat):Int),.int 0 (aq C.T i:Int),.ab,.slice S8.n 0 1 1 7 true,.ab] 0)) (λb=>S7.n≤b∧b<S8.n+1) [.int 0 ((10:Nat):Int),.int 0 (aq C.T i:Int),.ab,.slice S8.n 0 1 1 7 true,.ab] (.mk 10 (aq C.T i) [] [e] []):=
    ft.plain (l:=[e]) (cl:=λ_=>c) ku.nil (cM.single (b:=S8.n) (m:=0) ⟨n78,by omega⟩ ((LS.ah _ _ (by omega)).trans (LS.ag _ _)) hR.len) λix x h=>by
     cases ix with
     |zero=>
      have e1:e=x:=by simpa using h
      subst e1;exact hR.go (λb hb=>by rw[LS.ah _ _ (by have:=hb.1;omega)];exact LS.aZ _ _ hb.2) λb hb=>⟨hb.1,by have:=hb.2;omega⟩
     |succ ix=>simp at h
   refine anE (s:=.mk 10 (aq C.T i) [] [e] []) (Q:=λb=>S7.n≤b∧b<S8.n+1) hbp bK (by omega) ma ((d8.iK m8 c9).setB (b:=S1.n) (by omega) (λx hx=>by have:=bK x hx;omega) _) xa (LS.aj _ _ _) n1 hRS (wk ((L8.keep m8 c9.1 λb _ h2=>c9.2 b h2 λq=>q).keep m9 (Nat.le_refl _) λb h1 _=>LS.ah _ _ (by have:=h1.2;omega))) (λb hb=>⟨by have:=hb.1;omega,hb.2,λq=>by have:=hlt1 b q;have:=hb.1;omega⟩) ?_;have sp:∀r':ay aC,(r'.bind λ_ j=>(ay.ok (aS.mk 10 (aq C.T i) [] [e] []) j).bind λs j=>if s.kind=10∧eG C.T (dF C.T [59] j)=false then .err 14 (dF C.T [59] j) else cS C.T (k+1+1) (out++[s]) (dF C.T [59] j) d)=r'.bind λ_ j=>if eG C.T (dF C.T [59] j)=false then .err 14 (dF C.T [59] j) else .ok (out++[.mk 10 (aq C.T i) [] [e] []]) (dF C.T [59] j):=by
    intro r';congr 1;funext _ j;exact after [e] j
   rw[←sp];exact Jq
  ·have h1:isA C.T [114,101,116,117,114,110] i=false:=h1;simp only[ai,aB,ax];have sp:((gC C.T k i d).bind λs j=>if s.kind=10∧eG C.T (dF C.T [59] j)=false then .err 14 (dF C.T [59] j) else cS C.T k (out++[s]) (dF C.T [59] j) d)=(D6 C.T k i d).bind λs j=>(ay.ok () (dF C.T [59] j)).bind λ_ j=>cS C.T k (out++[s]) j d:=by
    unfold D6;cases hp:gC C.T k i d with
    |bA=>rfl
    |err c i=>rfl
    |ok s j=>
     have hk10:=atG h1 hp;show(if s.kind=10∧eG C.T (dF C.T [59] j)=false then .err 14 (dF C.T [59] j) else cS C.T k (out++[s]) (dF C.T [59] j) d)=(if s.kind=3∧isA C.T [61] j=true then .err 14 j else .ok s j:ay aS).bind _;rw[if_neg (λq=>hk10 q.1)];by_cases g:s.kind=3∧isA C.T [61] j=true
     ·rw[if_pos g];have eo:dF C.T [59] j=j:=by unfold dF;rw[iM g.2 (by decide)];rfl
      rw[eo];rw[hp]at hP;have hP:bd C (aK C) fK K S0 (if s.kind=10∧eG C.T (dF C.T [59] j)=false then .err 14 (dF C.T [59] j) else cS C.T k (out++[s]) (dF C.T [59] j) d):=hP;rw[if_neg (λq=>hk10 q.1),eo]at hP;show cS C.T k (out++[s]) j d=.err 14 j;cases k with
      |zero=>exact absurd (show cS C.T 0 (out++[s]) j d=.bA by simp only[cS]) hP.1
      |succ k=>
       simp only[cS]at hP ⊢;rw[if_neg (by rw[aqh g.2];simp)]at hP ⊢;cases k with
       |zero=>exact absurd (show(gC C.T 0 j d).bind _=.bA by simp only[gC];rfl) hP.1
       |succ k=>rw[aqg g.2];rfl
     ·rw[if_neg g];rfl
   rw[sp]at hP;have o4:=c4.ob m3 o3 (nb _ n1);have L4:aX kP (λb=>S0.n≤b∧b<S1.n) S4 v out:=L3.keep m3 c4.1 λb h1 h2=>c4.2 b h2 (nb b h1.1);have n34:=c4.1;refine O.stat k (by omega) hd m4 d4 h1 o4 (by omega) (λx hx=>by have:=bK x hx;omega) (bd.call (cV:=fO S1.n) hP λs H5 S5 w m5 c5 d5 ⟨_,c,o5,hR⟩ oZ=>?_);have L5:aX kP (λb=>S0.n≤b∧b<S1.n) S5 v out:=L4.keep m4 c5.1 λb h1 h2=>c5.2 b h2 λq=>by
    rcases q with q|q
    ·have:=h1.1;omega
    ·have:=h1.2;omega
   have x5:an (aK C) S0 S5:=(x3.trans c4).gi c5 λb hb=>by
    rcases hb with q|q
    ·exact .inl q
    ·exact .inr (by omega)
   have n45:=c5.1;refine ew m5 o5 hR.len ?_;rw[dD];refine dv hR.len ?_;rw[al2 hR.len rfl];have L5w:aX kP (λb=>S0.n≤b) S5 v out:=aX.wk L5 λb hb=>hb.1;refine L5w.push (R:=kP) (bytes:=88) m5 hR (λb hb=>⟨by show S0.n≤b;have:=hb.1;omega,hb.2,λq=>by have:=hlt1 b q;have:=hb.1;omega⟩) (λb hb=>by show S0.n≤b;omega) (by omega) λH6 S6 v6 m6 L6 n6 k6 b6 axw=>?_;have c6:an (λb=>aG v b) S5 S6:=⟨n6,λb hb hx=>k6 b hb hx⟩
   have d6:=d5.keep m5 c6 (λq=>by have:=hlo _ q;omega) λb hb q=>by have:=hlo _ q;have:=bK b hb;omega
   have x6:an (aK C) S0 S6:=x5.gi c6 λb hb=>.inr (hlo b hb);have axx:∀b,aG v6 b→S0.n≤b:=λb hb=>L6.o0 hb;show G2 (cZ (au m)) K X (.ptr C.bp 0) (d:Int) v6 H6;unfold G2;rw[r5];have hX:=hrec k rfl;refine dT (s:=[59]) (aD (by decide)) m6 d6 (λy j er hi H7 S7 m7 c7 d7=>?_) λhi H7 S7 m7 c7 d7=>?_
   ·rw[ai,aB];rw[er]at oZ;have oZ:bd C (aK C) fK K S0 (cS C.T k (out++[s]) (dF C.T [59] j) d):=oZ;have eo:dF C.T [59] j=j+1:=by unfold dF;rw[hi];rfl
    rw[eo]at oZ;exact hX v6 (out++[s]) H7 S7 (.ok () (j+1):ay Unit) (by simp;omega) m7 d7 (x6.trans c7) (L6.keep m6 c7.1 λb h1 h2=>c7.2 b h2 (nb b h1)) oZ
   ·rw[ai,aB];refine hX v6 (out++[s]) H7 S7 _ (by simp;omega) m7 d7 (x6.trans c7) (L6.keep m6 c7.1 λb h1 h2=>c7.2 b h2 (nb b h1)) ?_;have sp2:∀r':ay aS,pW C.T [59] r'=false→(r'.bind λ_ j=>(ay.ok () (dF C.T [59] j)).bind λ_ j=>cS C.T k (out++[s]) j d)=r'.bind λ_ i=>cS C.T k (out++[s]) i d:=by
     intro r' h;cases r' with
     |bA=>rfl
     |err c i=>rfl
     |ok y j=>
      have h3:isA C.T [59] j=false:=h;have eo:dF C.T [59] j=j:=by unfold dF;rw[h3];rfl
      show cS C.T k (out++[s]) (dF C.T [59] j) d=_;rw[eo];rfl
    rw[←sp2 _ hi];exact oZ
end
end
section
variable {H:AH}{S:LS}{K:KF}{C:Ctx}{i d:Nat}
theorem Nk{m:Nat}{S0:LS}(hm:m≤1000000)(O:gO C m)(hd:d≤200)(hbp:C.bp<S0.n)(bK:∀b,aG C.vT b→b<S0.n):∀(q k:Nat),k<q→2*k+4≤m+1→BkX C S0 K k d (vh (cZ (au m)) K q)
 |0,k,h,_=>by omega
 |q+1,k,h,hk=>by
  show BkX C S0 K k d (G5 (cZ (au m)) K (vh (cZ (au m)) K q));exact auJ hm O hd hbp bK hk λk' e=>Nk hm O hd hbp bK q k' (by omega) (by omega)
theorem atH{m q c j:Nat}{S0:LS}{γ:Type}(hM:Mem H S)(hs:bB C S (ay.err c j:ay γ))(hx:an (aK C) S0 S)(hP:bd C (aK C) fK K S0 (.err c j)):vh (cZ (au m)) K (q+1) (.ptr C.bp 0) (d:Int) .ab H:=by
 have r3:(cZ (au m)).2.2.1=f66:=rfl;show ye (cZ (au m)) K (G1 (cZ (au m)) K) (sw (cZ (au m)) K) (G3 (cZ (au m)) K (vh (cZ (au m)) K q)) (G4 (cZ (au m)) K) (.ptr C.bp 0) (d:Int) .ab H;unfold ye;rw[r3];refine D5 hM hs λH1 S1 m1 c1 d1=>?_;rw[ai,aB];have e:Jk C.T (ay.err c j:ay γ)=true:=rfl;rw[e];simp only[Bool.not_true,ax];show yd (cZ (au m)) K .ab H1;unfold yd;exact hP.2 H1 S1 .ab [] m1 (hx.trans c1.no) (sQ d1 rfl) ⟨λ_=>[],.inl ⟨rfl,rfl⟩,λi e h=>by simp at h⟩ y8
theorem x27{m:Nat}(hm:m≤1000000)(O:gO C m):∀k,2*k+4≤m+1→∀{K:KF}{H:AH}{S:LS}{d:Nat}{γ:Type}{r:ay γ},d≤200→Mem H S→bB C S r→bd C (aK C) fK K S (r.bind λ_ i=>cF C.T k i d)→(au (m+1)).1 (.ptr C.bp 0) (d:Int) H K:=by
 intro k hk K H S d γ r hd hM hs hP;have r2:(cZ (au m)).2.1=f65:=rfl;have e:(au (m+1)).1=G6 (cZ (au m)):=by rw[D7]
 rw[e];unfold G6 afu Qp;rw[r2];have gf:G.NL=1000000:=rfl;generalize G.NL=iA at gf ⊢;rw[dA,fL];refine w0 (by omega) (by omega) ?_;have hbp:=hs.dO hM;have bK:∀b,aG C.vT b→b<S.n:=λb hb=>hs.tk.lt hM hb;have sp:(r.bind λ_ i=>cF C.T k i d)=(r.bind λ_ i=>dU (100<d+1) i).bind λ_ i=>if k=0 then .bA else cS C.T (k-1) [] i (d+1):=by
  rw[bV];cases k with
  |zero=>
   cases r with
   |ok a i=>exact absurd (show cF C.T 0 i d=.bA by simp only[cF]) hP.1
   |err c i=>rfl
   |bA=>rfl
  |succ k=>
   congr 1;funext a i;simp only[cF,dU,Nat.add_one_sub_one,if_neg (Nat.succ_ne_zero k)];split<;>rfl
 rw[sp]at hP;refine D4 hM hs (bd.call (cV:=gY) hP λ_ H2 S2 w m2 c2 d2 _ hP2=>?_);cases hr:r.bind λ_ i=>dU (100<d+1) i with
 |bA=>rw[hr]at hP2;exact absurd rfl hP2.1
 |err c i=>
  rw[hr]at hP2 d2;obtain⟨q,rfl⟩:∃q,iA=q+1:=⟨iA-1,by omega⟩
  exact atH (d:=d+1) m2 d2 c2 hP2
 |ok x i=>
  rw[hr]at hP2 d2;have hP3:bd C (aK C) fK K S (if k=0 then .bA else cS C.T (k-1) [] i (d+1)):=hP2;by_cases k0:k=0
  ·rw[if_pos k0]at hP3;exact absurd rfl hP3.1
  ·rw[if_neg k0]at hP3;have Qh:d+1≤200:=by
    cases r with
    |ok a j=>
     have hr:dU (100<d+1) j=.ok x i:=hr;unfold dU at hr;split at hr
     ·cases hr
     ·omega
    |err c j=>cases hr
    |bA=>cases hr
   exact Nk (d:=d+1) hm O Qh hbp bK iA (k-1) (by omega) (by omega) .ab [] H2 S2 (ay.ok x i) (by simp;omega) m2 d2 c2 (aX.nil _ _ _) hP3
theorem awB:gO C 0 where
 block k hk:=absurd hk (by omega)
 exp k hk:=absurd hk (by omega)
 stat k hk:=absurd hk (by omega)
 lv0 k hk:=absurd hk (by omega)
 lv1 k hk:=absurd hk (by omega)
 lv2 k hk:=absurd hk (by omega)
 lv3 k hk:=absurd hk (by omega)
 lv4 k hk:=absurd hk (by omega)
 lv5 k hk:=absurd hk (by omega)
 lv6 k hk:=absurd hk (by omega)
 body k hk:=absurd hk (by omega)
 behind k hk:=absurd hk (by omega)
 join k hk:=absurd hk (by omega)
 unary k hk:=absurd hk (by omega)
 post k hk:=absurd hk (by omega)
 table k hk:=absurd hk (by omega)
theorem awC{m:Nat}(hm:m≤1000000)(O:gO C m):gO C (m+1) where
 block:=x27 hm O
 exp k hk:=x70 (by omega) O k hk
 stat:=x71 hm O
 lv0:=atq (by omega) O
 lv1:=atr (by omega) O
 lv2:=ats (by omega) O
 lv3 k hk:=Wv (n:=3) (.inl rfl) (λ_=>O.join k (by omega)) (λh=>by cases h)
 lv4:=att (by omega) O
 lv5:=atu (by omega) O
 lv6 k hk:=Wv (n:=6) (.inr rfl) (λh=>by cases h) (λ_=>O.unary k (by omega))
 body:=x105 (by omega) O
 behind:=x107 (by omega) O
 join:=awu O
 unary:=awv O
 post:=x167 (by omega) O
 table:=aww (by omega) O
theorem okX:∀m:Nat,m≤1000001→gO C m
 |0,_=>awB
 |m+1,h=>awC (by omega) (okX m (by omega))
end
end Go.Proofs.YtcedghechlgecaaGreatDoor
