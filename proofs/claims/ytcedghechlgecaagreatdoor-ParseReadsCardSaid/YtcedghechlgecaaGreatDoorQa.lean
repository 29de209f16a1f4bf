/- The program's parser. No condition: lemmas. -/
import Derived.Test.YtcedghechlgecaaGreatDoorPa
set_option maxRecDepth 100000
set_option maxHeartbeats 0
set_option linter.unusedVariables false
set_option linter.unusedSimpArgs false
namespace Go.Proofs.YtcedghechlgecaaGreatDoor
open Go Go.X Go.Proofs.YtcedghechlgecaaGreatDoor.G
section
variable {H:AH}{S:LS}{K:KF}{C:Ctx}{i d:Nat}
def aK(C:Ctx):Nat→Prop:=λb=>b=C.bp
theorem an.rL{C:Ctx}{S S':LS}(h:an (aK C) S S')(o:gd):an (aK C) S (S'.set C.bp o):=h.set (b:=C.bp) (.inl (rfl:C.bp=C.bp)) o
theorem oY{c:Nat}(hpv:C.pv=.iface 57 (.agg []))(hM:Mem H S)(hp:bS C S i d)(hK:∀H' S',Mem H' S'→an (aK C) S S'→E9 C S' c i→K (.dB C.pv) H'):f25 (.ptr C.bp 0) (c:Int) H K:=by
 show Gb Pu K (.ptr C.bp 0) (c:Int) H;unfold Gb;rw[cj,aL,Nat.zero_add];refine aT hM hp.ob (by omega) (by show 3<4;omega) rfl λH' h'=>?_;rw[hpv]at hK;exact hK H' _ h' (an.rL (an.refl _ _) _) hp.err
theorem jK(hM:Mem H S)(hp:bS C S i d)(hK:∀H' S',Mem H' S'→an aV S S'→bS C S' i d→K (.ret (.agg (dY C.T i))) H'):f23 (.ptr C.bp 0) H K:=by
 show xH Ga K (.ptr C.bp 0) H;unfold xH;refine bE (bz hM (λa ha=>?_) λH1 m1=>?_)
 ·simp only[List.mem_cons,List.not_mem_nil,or_false]at ha;rcases ha with rfl|rfl|rfl|rfl<;>rfl
 have c1:an aV S (S.push (.ce [.int 0 (.ofNat 0),.str 0 0,.int 0 (.ofNat 0),.int 0 (.ofNat 0)] 0)):=(an.refl _ _).push _;have p1:=hp.no hM c1;simp only[cj,aL,Nat.zero_add];refine aw m1 p1.ob (v:=C.vT) rfl ?_;refine aw m1 p1.ob (v:=.int 0 (i:Int)) rfl ?_;simp only[aE];refine p1.tk.load m1 hp.lt ?_;rw[rK hp.lt];refine gK m1 (LS.ag _ _) (by omega) rfl (by show 0+4≤4;omega) (λa ha=>?_) λH2 m2=>?_
 ·simp only[dY,List.mem_cons,List.not_mem_nil,or_false]at ha;rcases ha with rfl|rfl|rfl|rfl<;>rfl
 have m2:Mem H2 ((S.push (.ce [.int 0 (.ofNat 0),.str 0 0,.int 0 (.ofNat 0),.int 0 (.ofNat 0)] 0)).set S.n (.ce (dY C.T i) 0)):=m2;have c2:=c1.set (b:=S.n) (.inr (Nat.le_refl _)) (.ce (dY C.T i) 0);refine lQ m2 (LS.aj _ _ _) (by show 0+4≤4;omega) ?_;exact hK H2 _ m2 c2 (hp.no hM c2)
theorem SE{T:List Tok}{s:List Nat}{i:Nat}:isA T s i=((decide (bH T i=1)||decide (bH T i=5))&&decide (dR T i=s)):=rfl
theorem rM{s:List Nat}(h8:B8 s)(hM:Mem H S)(hp:bS C S i d)(hK:∀H' S',Mem H' S'→an aV S S'→bS C S' i d→K (.ret (.bool (isA C.T s i))) H'):f94 (.ptr C.bp 0) (af s) H K:=by
 have r94:Gg=f23:=rfl;show Gf Gg K (.ptr C.bp 0) (af s) H;unfold Gf;rw[r94];refine jK hM hp λH1 S1 m1 c1 p1=>?_;rw[ai];refine bE (bz m1 (λa ha=>?_) λH2 m2=>?_)
 ·simp only[List.mem_cons,List.not_mem_nil,or_false]at ha;rcases ha with rfl|rfl|rfl|rfl<;>rfl
 refine gK m2 (LS.ag _ _) (by omega) rfl (by show 0+4≤4;omega) (λa ha=>?_) λH3 m3=>?_
 ·simp only[dY,List.mem_cons,List.not_mem_nil,or_false]at ha;rcases ha with rfl|rfl|rfl|rfl<;>rfl
 have m3:Mem H3 ((S1.push (.ce [.int 0 (.ofNat 0),.str 0 0,.int 0 (.ofNat 0),.int 0 (.ofNat 0)] 0)).set S1.n (.ce (dY C.T i) 0)):=m3;have c3:=(c1.push (.ce [.int 0 (.ofNat 0),.str 0 0,.int 0 (.ofNat 0),.int 0 (.ofNat 0)] 0)).set (b:=S1.n) (.inr c1.1) (.ce (dY C.T i) 0);have hk:=hK H3 _ m3 c3 (hp.no hM c3);have e1:Int.ofNat 1=((1:Nat):Int):=rfl;have e5:Int.ofNat 5=((5:Nat):Int):=rfl;have go:(bH C.T i=1∨bH C.T i=5)→ak (.ptr S1.n 1) H3 λv11=>pF v11 (af s) λv12=>bf v12 λz13=>K (.ret (.bool z13)) H3:=λhkd=>by
  refine aw m3 (LS.aj _ _ _) (v:=af (dR C.T i)) rfl ?_;refine wc (mz C i) h8 ?_;rw[aB];have e:isA C.T s i=decide (dR C.T i=s):=by
   rw[SE];rcases hkd with g|g<;>rw[g]<;>simp
  rw[e]at hk;exact hk
 simp only[aL,Nat.zero_add];refine aw m3 (LS.aj _ _ _) (v:=.int 0 (bH C.T i:Int)) rfl ?_;simp only[aE,bq];rw[e1,e5];refine bN (λg=>go (.inl (by omega))) (λg=>?_);refine aw m3 (LS.aj _ _ _) (v:=.int 0 (bH C.T i:Int)) rfl ?_;simp only[aE];refine bN (λg5=>go (.inr (by omega))) (λg5=>?_);have e:isA C.T s i=false:=by
  rw[SE,decide_eq_false (by omega),decide_eq_false (by omega)];rfl
 rw[e]at hk;exact hk
theorem eH{s:List Nat}(h8:B8 s)(hM:Mem H S)(hp:bS C S i d)(hK:∀H' S',Mem H' S'→an (aK C) S S'→bS C S' (if isA C.T s i then i+1 else i) d→K (.ret (.bool (isA C.T s i))) H'):f56 (.ptr C.bp 0) (af s) H K:=by
 have r56:Gj=f94:=rfl;show Gi Gj K (.ptr C.bp 0) (af s) H;unfold Gi;rw[r56];refine rM h8 hM hp λH1 S1 m1 c1 p1=>?_;simp only[ai,aB];cases hi:isA C.T s i with
 |false=>
  simp only[Bool.not_false,az];have hk:=hK H1 S1 m1 c1.no (by rw[hi];exact p1);rw[hi]at hk;exact hk
 |true=>
  simp only[Bool.not_true,ax,cj,aL,Nat.zero_add];have hlt:=dk C.ok hi;have hfew:=C.few;refine aw m1 p1.ob (v:=.int 0 (i:Int)) rfl ?_;simp only[aE,dA,fL];refine w0 (by omega) (by omega) ?_;refine aT m1 p1.ob (by omega) (by show 1<4;omega) rfl λH2 m2=>?_;have p2:=p1.set (e:=d) hlt;have c2:an (aK C) S (S1.set C.bp (.ce [C.vT,.int 0 ((i+1:Nat):Int),.int 0 (d:Int),.int 0 0] 0)):=an.rL (c1.no) _;have hk:=hK H2 _ m2 c2 (by rw[hi];exact p2);rw[hi]at hk;exact hk
theorem iu{s:List Nat}(hpv:C.pv=.iface 57 (.agg []))(h8:B8 s)(hM:Mem H S)(hp:bS C S i d)(hP:Post C (aK C) d gY K S (aW C.T s i)):ny (.ptr C.bp 0) (af s) H K:=by
 have avN:AU.1=f25:=rfl;have avO:AU.2=f56:=rfl;show Gk AU K (.ptr C.bp 0) (af s) H;unfold Gk;rw[avN,avO];refine eH h8 hM hp λH1 S1 m1 c1 p1=>?_;simp only[ai,aB];unfold aW at hP;cases hi:isA C.T s i with
 |true=>
  rw[hi]at p1 hP;simp only[Bool.not_true,ax];exact hP H1 S1 _ m1 c1 p1 rfl
 |false=>
  rw[hi]at p1 hP;simp only[Bool.not_false,az];refine oY (c:=14) hpv m1 p1 λH2 S2 m2 c2 e2=>?_;rw[kx];exact hP H2 S2 m2 (c1.trans c2) e2
theorem yY(hpv:C.pv=.iface 57 (.agg []))(hM:Mem H S)(hp:bS C S i d)(hP:Post C (aK C) d Nu K S (eF C.T i)):f130 (.ptr C.bp 0) H K:=by
 have auu:tN.1=f23:=rfl;have auv:tN.2=f25:=rfl;show B0 tN K (BZ tN K) (.ptr C.bp 0) H;unfold B0;rw[auu,auv];refine jK hM hp λH1 S1 m1 c1 p1=>?_;rw[ai];refine bE (bz m1 (λa ha=>?_) λH2 m2=>?_)
 ·simp only[List.mem_cons,List.not_mem_nil,or_false]at ha;rcases ha with rfl|rfl|rfl|rfl<;>rfl
 refine gK m2 (LS.ag _ _) (by omega) rfl (by show 0+4≤4;omega) (λa ha=>?_) λH3 m3=>?_
 ·simp only[dY,List.mem_cons,List.not_mem_nil,or_false]at ha;rcases ha with rfl|rfl|rfl|rfl<;>rfl
 have m3:Mem H3 ((S1.push (.ce [.int 0 (.ofNat 0),.str 0 0,.int 0 (.ofNat 0),.int 0 (.ofNat 0)] 0)).set S1.n (.ce (dY C.T i) 0)):=m3;have c3:=(c1.push (.ce [.int 0 (.ofNat 0),.str 0 0,.int 0 (.ofNat 0),.int 0 (.ofNat 0)] 0)).set (b:=S1.n) (.inr c1.1) (.ce (dY C.T i) 0);have p3:=hp.no hM c3;unfold eF at hP;have e2:Int.ofNat 2=((2:Nat):Int):=rfl;simp only[aL,Nat.zero_add];refine aw m3 (LS.aj _ _ _) (v:=.int 0 (bH C.T i:Int)) rfl ?_;simp only[aE,bq];rw[e2];by_cases g:bH C.T i=2
 ·rw[if_pos g]at hP;rw[decide_eq_true (by omega)];simp only[Bool.not_true,ax];unfold BZ;simp only[cj,aL,Nat.zero_add];have hlt:=iX (i:=i) C.ok (by omega);have hfew:=C.few;refine aw m3 p3.ob (v:=.int 0 (i:Int)) rfl ?_;simp only[aE,dA,fL];refine w0 (by omega) (by omega) ?_;refine aT m3 p3.ob (by omega) (by show 1<4;omega) rfl λH4 m4=>?_;have p4:=p3.set (e:=d) hlt;have hne:S1.n≠C.bp:=by have:=p1.dO m1;omega
  refine aw m4 (l:=dY C.T i) (m:=0) (by rw[LS.ah _ _ hne];exact LS.aj _ _ _) (v:=af (dR C.T i)) rfl ?_;exact hP H4 _ _ m4 (an.rL (c3.no) _) p4 ⟨rfl,mz C i⟩
 ·rw[if_neg g]at hP;rw[decide_eq_false (by omega)];simp only[Bool.not_false,az];refine oY (c:=14) hpv m3 p3 λH4 S4 m4 c4 e4=>?_;rw[kx];exact hP H4 S4 m4 ((c3.no).trans c4) e4
theorem acx(hpv:C.pv=.iface 57 (.agg []))(hd:d≤1000)(hM:Mem H S)(hp:bS C S i d)
  (h1:100<d+1→∀H' S',Mem H' S'→an (aK C) S S'→E9 C S' 8 i→K (.dB C.pv) H')
  (h2:¬100<d+1→∀H' S',Mem H' S'→an (aK C) S S'→bS C S' i (d+1)→K (.ret (.aY [])) H'):f53 (.ptr C.bp 0) H K:=by
 have r53:Gd=f25:=rfl;show Gc Gd K (.ptr C.bp 0) H;unfold Gc;rw[r53];simp only[cj,aL,Nat.zero_add];refine aw hM hp.ob (v:=.int 0 (d:Int)) rfl ?_;simp only[aE,dA,fL];refine w0 (by omega) (by omega) ?_;refine aT hM hp.ob (by omega) (by show 2<4;omega) rfl λH1 m1=>?_;have p1:=hp.set (e:=d+1) hp.lt;have c1:an (aK C) S (S.set C.bp (.ce [C.vT,.int 0 (i:Int),.int 0 ((d+1:Nat):Int),.int 0 0] 0)):=an.rL (an.refl _ _) _;refine aw m1 p1.ob (v:=.int 0 ((d+1:Nat):Int)) rfl ?_;have e100:Int.ofNat 100=((100:Nat):Int):=rfl;simp only[aE,cn];rw[e100];refine bN (λg=>?_) (λg=>h2 (by omega) H1 _ m1 c1 p1);refine oY (c:=8) hpv m1 p1 λH2 S2 m2 c2 e2=>?_;rw[kx];exact h1 (by omega) H2 S2 m2 (c1.trans c2) e2
theorem acy{k:AH→Prop}(hd:d≤1000)(hM:Mem H S)(hp:bS C S i (d+1))(hk:∀H' S',Mem H' S'→an (aK C) S S'→bS C S' i d→k H') :
  aP (.ptr C.bp 0) (al 2 (.ptr C.bp 0) λv1=>ak v1 H λv2=>cI 0 v2 λz3=>aJ 0 (Int.sub z3 (.ofNat 1)) λz4=>aP (.ptr C.bp 0) (al 2 (.ptr C.bp 0) λv5=>ae 1 v5 (.int 0 z4) H k)):=by
 simp only[cj,aL,Nat.zero_add];refine aw hM hp.ob (v:=.int 0 ((d+1:Nat):Int)) rfl ?_;simp only[aE,zC,fL];refine w0 (by omega) (by omega) ?_;rw[show((d+1:Nat):Int)-1=(d:Int) by omega];refine aT hM hp.ob (by omega) (by show 2<4;omega) rfl λH1 m1=>?_;exact hk H1 _ m1 (an.rL (an.refl _ _) _) (hp.set (e:=d) hp.lt)
theorem SF(hM:Mem H S)(hp:bS C S i d)(hK:∀H' S',Mem H' S'→an aV S S'→bS C S' i d→K (.ret (.bool (eG C.T i))) H'):f54 (.ptr C.bp 0) H K:=by
 have avP:AT.1=f23:=rfl;have avQ:AT.2=f94:=rfl;show Gh AT K (.ptr C.bp 0) H;unfold Gh;rw[avP,avQ];unfold eG at hK;refine rM (s:=[101,110,100]) (aD (by decide)) hM hp λH1 S1 m1 c1 p1=>?_;simp only[ai,aB];cases h1:isA C.T [101,110,100] i with
 |true=>rw[h1]at hK;exact hK H1 S1 m1 c1 p1
 |false=>
 rw[h1,Bool.false_or]at hK;simp only[ax];refine rM (s:=[101,108,115,101]) (aD (by decide)) m1 p1 λH2 S2 m2 c2 p2=>?_;simp only[ai,aB];cases h2:isA C.T [101,108,115,101] i with
 |true=>rw[h2]at hK;exact hK H2 S2 m2 (c1.trans c2) p2
 |false=>
 rw[h2,Bool.false_or]at hK;simp only[ax];refine rM (s:=[101,108,115,101,105,102]) (aD (by decide)) m2 p2 λH3 S3 m3 c3 p3=>?_;simp only[ai,aB];cases h3:isA C.T [101,108,115,101,105,102] i with
 |true=>rw[h3]at hK;exact hK H3 S3 m3 ((c1.trans c2).trans c3) p3
 |false=>
 rw[h3,Bool.false_or]at hK;simp only[ax];refine rM (s:=[117,110,116,105,108]) (aD (by decide)) m3 p3 λH4 S4 m4 c4 p4=>?_;simp only[ai,aB];cases h4:isA C.T [117,110,116,105,108] i with
 |true=>rw[h4]at hK;exact hK H4 S4 m4 (((c1.trans c2).trans c3).trans c4) p4
 |false=>
 rw[h4,Bool.false_or]at hK;simp only[ax];refine jK m4 p4 λH5 S5 m5 c5 p5=>?_;rw[ai,BT];unfold dY;simp only[fG,aE,bq];have e0:Int.ofNat 0=((0:Nat):Int):=rfl;have hk:=hK H5 S5 m5 ((((c1.trans c2).trans c3).trans c4).trans c5) p5;have e:decide ((bH C.T i:Int)=Int.ofNat 0)=decide (bH C.T i=0):=by
  rw[Bool.eq_iff_iff,decide_eq_true_eq,decide_eq_true_eq,e0];omega
 rw[e];exact hk
theorem al3{f:Nat}{l:List (List Nat)}{v:AV}(hf:f≤100)(hf0:0<f)(hl:l.length≤100)(h8:∀s∈l,B8 s){Q:Nat→Prop}(hbp:¬Q C.bp)(hv:cM S Q 1 v l.length (λj=>[af (l[j]?.getD [])]))(hM:Mem H S)(hp:bS C S i d)
  (hK:∀H' S',Mem H' S'→an (aK C) S S'→bS C S' (if jz C.T i f l=0 then i else i+1) d→K (.ret (.int 0 (jz C.T i f l:Int))) H'):f193 (.ptr C.bp 0) (f:Int) v H K:=by
 have avR:nh=f56:=rfl;have loop:∀(q j:Nat) (H:AH) (S1:LS),j≤l.length→l.length-j<q→Mem H S1→an (aK C) S S1→bS C S1 i d→jz C.T i f l=jz C.T i (f+j) (l.drop j)→ri nh K q (.ptr C.bp 0) (f:Int) v l.length (j:Int) H:=by
  intro q
  induction q with
  |zero=>intro j H S1 _ h;omega
  |succ q ih=>
   intro j H S1 hj hq hM1 hc hp1 he;show BX nh K (ri nh K q) (BW nh K) (.ptr C.bp 0) (f:Int) v l.length (j:Int) H;unfold BX;rw[avR,cn];refine bN (λg=>?_) (λg=>?_)
   ·have hjl:j<l.length:=by omega
    have hd:l.drop j=l[j]::l.drop (j+1):=List.drop_eq_getElem_cons hjl;have hv1:cM S1 Q 1 v l.length (λj=>[af (l[j]?.getD [])]):=by
     rcases hv with hv|⟨b,o,c,ex,cs,m,e1,e2,e4,e5⟩
     ·exact .inl hv
     ·exact .inr ⟨b,o,c,ex,cs,m,e1,e2,(hc.2 b (hM.lt (by rw[e4];simp)) λe=>hbp (by have e:b=C.bp:=e;rw[←e];exact e2)).trans e4,e5⟩
    have hld:cK 1 v (.int 0 (j:Int)) λv1=>ak v1 H λv2=>f56 (.ptr C.bp 0) v2 H λo3 H4=>cR K o3 H4 λv5=>bf v5 λz6=>bI z6 (aJ 0 (Int.add (f:Int) (j:Int)) λz7=>K (.ret (.int 0 z7)) H4) (aJ 0 (Int.add (j:Int) (.ofNat 1)) λz8=>ri nh K q (.ptr C.bp 0) (f:Int) v l.length z8 H4):=by
     rcases hv1 with⟨_,e⟩|⟨b,o,c,ex,cs,m,rfl,e2,e4,e5,e6,e7⟩
     ·omega
     ·refine mj (by omega) (by omega) ?_;rw[Int.toNat_natCast];have e8:=e7 j hjl;have hget:cs[o+j*1]? = some (af l[j]):=by
       have:((cs.drop (o+j*1)).take 1)[0]? = [af (l[j]?.getD [])][0]?:=by rw[e8]
       rw[List.getElem?_take,if_pos (by omega),List.getElem?_drop,Nat.add_zero,List.getElem?_eq_getElem hjl]at this;exact this
      refine aw hM1 e4 hget ?_;refine eH (h8 _ (List.getElem_mem _)) hM1 hp1 λH2 S2 m2 c2 p2=>?_;rw[ai,aB];rw[hd]at he;cases hi:isA C.T l[j] i with
      |true=>
       rw[hi]at p2;rw[az,dA];have e9:jz C.T i (f+j) (l[j]::l.drop (j+1))=f+j:=by unfold jz;rw[hi];rfl
       rw[e9]at he;refine w0 (by omega) (by omega) ?_;have hk:=hK H2 S2 m2 (hc.trans c2) (by rw[he,if_neg (by omega)];exact p2);rw[he]at hk;exact hk
      |false=>
       rw[hi]at p2;rw[ax,dA,fL];refine w0 (by omega) (by omega) ?_;refine ih (j+1) H2 S2 (by omega) (by omega) m2 (hc.trans c2) p2 ?_;rw[he]
       conv=>lhs;unfold jz
       rw[hi];rfl
    exact hld
   ·rw[List.drop_of_length_le (by omega)]at he;have e0:jz C.T i f l=0:=he;unfold BW;have hk:=hK H S1 hM1 hc (by rw[e0];exact hp1);rw[e0]at hk;exact hk
 show BY nh K (ri nh K G.NL) (.ptr C.bp 0) (f:Int) v H;unfold BY;refine hv.len ?_;rw[aE];exact loop G.NL 0 H S (Nat.zero_le _) (by have:G.NL=1000000:=rfl;omega) hM (an.refl _ _) hp rfl
end
section
variable {H:AH}{S:LS}{K:KF}{C:Ctx}{i d:Nat}
def pX(C:Ctx)(F:AV→AH→KF→Prop)(p:Nat→Nat→ay aC):Prop:=∀{K:KF}{H:AH}{S:LS}{i d:Nat},d≤200→Mem H S→bS C S i d→Post C (aK C) d dc K S (p i d)→F (.ptr C.bp 0) H K
def cG(C:Ctx)(c:Nat):Nat→Prop:=λb=>b=C.bp∨b=c
def rvF(bn:Nat)(S:LS)(Q:Nat→Prop)(v:AV)(r:List aC×Nat):Prop:=s8 S Q v r.1∧S.ob bn=.ce [.int 0 (r.2:Int)] 0
def fO(bs:Nat)(S:LS)(Q:Nat→Prop)(v:AV)(s:aS):Prop:=v=.aY []∧∃c,S.ob bs=.ce c 0∧ft S Q c s
def Nv(C:Ctx)(F:AV→AV→AH→KF→Prop)(p:Nat→Nat→Nat→ay aS):Prop:=∀{K:KF}{H:AH}{S:LS}{i d a bs:Nat},d≤200→Mem H S→bS C S i d→S.ob bs=.ce [.int 0 0,.int 0 (a:Int),.ab,.ab,.ab] 0→bs≠C.bp→(∀b,aG C.vT b→b≠bs)→Post C (cG C bs) d (fO bs) K S (p a i d)→F (.ptr C.bp 0) (.ptr bs 0) H K
structure iz(C:Ctx)(m n:Nat):Prop where
 block:∀k,k≤n→∀{K:KF}{H:AH}{S:LS}{i d:Nat},d≤200→Mem H S→bS C S i d→Post C (aK C) d fK K S (cF C.T k i d)→(s13 m).1 (.ptr C.bp 0) H K
 stat:∀k,k≤n→∀{K:KF}{H:AH}{S:LS}{i d:Nat},d≤200→Mem H S→bS C S i d→Post C (aK C) d rvS K S (gC C.T k i d)→(s13 m).2.1 (.ptr C.bp 0) H K
 qC:∀k,k≤n→Nv C (s13 m).2.2.1 (jS C.T k)
 choice:∀k,k≤n→Nv C (s13 m).2.2.2.1 (λa i d=>fk C.T k a [] [] i d)
 exp:∀k,k≤n→pX C (s13 m).2.2.2.2.1 (bY C.T k)
 loop:∀k,k≤n→Nv C (s13 m).2.2.2.2.2.1 (nX C.T k)
 plain:∀k,k≤n→Nv C (s13 m).2.2.2.2.2.2.1 (iJ C.T k)
 body:∀k,k≤n→∀{K:KF}{H:AH}{S:LS}{i d a:Nat},d≤200→Mem H S→bS C S i d→Post C (aK C) d dc K S (jJ C.T k a i d)→(s13 m).2.2.2.2.2.2.2.1 (.ptr C.bp 0) (a:Int) H K
 either:∀k,k≤n→pX C (s13 m).2.2.2.2.2.2.2.2.1 (iI C.T k)
 post:∀k,k≤n→pX C (s13 m).2.2.2.2.2.2.2.2.2.1 (jZ C.T k)
 both:∀k,k≤n→pX C (s13 m).2.2.2.2.2.2.2.2.2.2.1 (lI C.T k)
 simple:∀k,k≤n→pX C (s13 m).2.2.2.2.2.2.2.2.2.2.2.1 (eZ C.T k)
 args:∀k,k≤n→∀{K:KF}{H:AH}{S:LS}{i d:Nat},d≤200→Mem H S→bS C S i d→Post C (aK C) d s8 K S (dt C.T k true [] i d)→(s13 m).2.2.2.2.2.2.2.2.2.2.2.2.1 (.ptr C.bp 0) H K
 test:∀k,k≤n→pX C (s13 m).2.2.2.2.2.2.2.2.2.2.2.2.2.1 (lJ C.T k)
 table:∀k,k≤n→∀{K:KF}{H:AH}{S:LS}{i d a:Nat},d≤200→Mem H S→bS C S i d→Post C (aK C) d dc K S (fJ C.T k [] 0 a i d)→(s13 m).2.2.2.2.2.2.2.2.2.2.2.2.2.2.1 (.ptr C.bp 0) (a:Int) H K
 join:∀k,k≤n→pX C (s13 m).2.2.2.2.2.2.2.2.2.2.2.2.2.2.2.1 (iy C.T k)
 field:∀k,k≤n→∀{K:KF}{H:AH}{S:LS}{i d c bn:Nat},d≤200→c≤1000→Mem H S→bS C S i d→S.ob bn=.ce [.int 0 (c:Int)] 0→bn≠C.bp→(∀b,aG C.vT b→b≠bn)→Post C (cG C bn) d (rvF bn) K S (iq C.T k c i d)→(s13 m).2.2.2.2.2.2.2.2.2.2.2.2.2.2.2.2.1 (.ptr C.bp 0) (.ptr bn 0) H K
 sum:∀k,k≤n→pX C (s13 m).2.2.2.2.2.2.2.2.2.2.2.2.2.2.2.2.2.1 (oJ C.T k)
 term:∀k,k≤n→pX C (s13 m).2.2.2.2.2.2.2.2.2.2.2.2.2.2.2.2.2.2.1 (lM C.T k)
 unary:∀k,k≤n→pX C (s13 m).2.2.2.2.2.2.2.2.2.2.2.2.2.2.2.2.2.2.2 (gv C.T k)
def z7:List AV:=[.int 0 (.ofNat 0),.int 0 (.ofNat 0),.int 0 (.ofNat 0),.str 0 0,.int 0 (.ofNat 0),.ab,.ab]
theorem eU(nw:Lay)(k:AV→AH→Prop):cx Tryz.prog nw 49 k=gE nw z7 k:=by kernel_rfl
theorem cm:∀a∈z7,a.one=true:=by
 intro a ha;simp only[z7,List.mem_cons,List.not_mem_nil,or_false]at ha;rcases ha with rfl|rfl|rfl|rfl|rfl|rfl|rfl<;>rfl
theorem acz{z c:List AV}(h:c.length=z.length):eQ z 0 c=c:=by
 unfold eQ;rw[List.take_zero,List.drop_of_length_le (by omega)];simp
theorem eJ{n b:Nat}{c z:List AV}{k:AH→Prop}(hM:Mem H S)(h1:S.ob b=.ce z 0)(hz:z.length=n)(hc:c.length=n)(ho:∀a∈c,a.one=true)(hk:∀H',Mem H' (S.set b (.ce c 0))→k H'):ae n (.ptr b 0) (.agg c) H k:=
 gK hM h1 (by omega) hc (by omega) ho λH' h'=>hk H' (by rw[acz (by omega)]at h';exact h')
theorem ew{n b m:Nat}{c:List AV}{k:AV→Prop}(hM:Mem H S)(h1:S.ob b=.ce c m)(hc:c.length=n)(hk:k (.agg c)):aF n (.ptr b 0) H k:=
 lQ hM h1 (by omega) (by rw[List.drop_zero,List.take_of_length_le (by omega)];exact hk)
theorem acA{b1 b3:Nat}{c z:List AV}(hM:Mem H S)(h3:S.ob b3=.ce c 0)(hc:c.length=7)(ho:∀a∈c,a.one=true)(h1:S.ob b1=.ce z 0)(hz:z.length=7)(hK:∀H',Mem H' (S.set b1 (.ce c 0))→K (.ret (.agg c)) H'):aF 7 (.ptr b3 0) H λv1=>ae 7 (.ptr b1 0) v1 H λH2=>aF 7 (.ptr b1 0) H2 λv3=>K (.ret v3) H2:=by
 refine ew hM h3 hc (eJ hM h1 hz hc ho λH' h'=>?_);exact ew h' (LS.aj _ _ _) hc (hK H' h')
theorem cM.two{Q:Nat→Prop}{b:Nat}{ca cb:List AV}{m:Nat}{ex:Bool}(hQ:Q b)(hb:S.ob b=.ce (ca++cb) m)(h1:ca.length=7)(h2:cb.length=7):cM S Q 7 (.slice b 0 2 2 7 ex) 2 (λi=>if i=0 then ca else cb):=
 .inr ⟨b,0,2,ex,ca++cb,m,rfl,hQ,hb,Nat.le_refl _,by rw[List.length_append];omega,λi hi=>by
  have hi2:i=0∨i=1:=by omega
  rcases hi2 with rfl|rfl
  ·show((ca++cb).drop 0).take 7=ca;rw[List.drop_zero];exact List.take_left' h1
  ·show((ca++cb).drop 7).take 7=cb;rw[List.drop_left' h1,List.take_of_length_le (by omega)]⟩
theorem RE.simple{Q:Nat→Prop}{kind at_ n op:Nat}{s:List Nat}(h:B8 s):RE S Q [.int 0 (kind:Int),.int 0 (at_:Int),.int 0 (n:Int),af s,.int 0 (op:Int),.ab,.ab] (.mk kind at_ n s op [] []):=
 .mk kind at_ n s op [] [] .ab .ab (λ_=>[]) (λ_=>[]) h (cM.nil _ _ _ _) (λi e h=>by simp at h) (cM.nil _ _ _ _) (λi e h=>by simp at h)
theorem RE.two{Q:Nat→Prop}{kind at_ op b m:Nat}{ex:Bool}{x y:aC}{ca cb:List AV}(hQ:Q b)(hb:S.ob b=.ce (ca++cb) m)(h1:RE S Q ca x)(h2:RE S Q cb y):RE S Q [.int 0 (kind:Int),.int 0 (at_:Int),.int 0 ((0:Nat):Int),af [],.int 0 (op:Int),.slice b 0 2 2 7 ex,.ab] (lT kind op at_ x y):=by
 refine .mk kind at_ 0 [] op [x,y] [] _ .ab _ (λ_=>[]) B8.nil (cM.two hQ hb h1.len h2.len) (λi e h=>?_) (cM.nil _ _ _ _) (λi e h=>by simp at h)
 match i,h with
 |0,h=>
  have e1:x=e:=by simpa using h
  subst e1;exact h1
 |1,h=>
  have e1:y=e:=by simpa using h
  subst e1;exact h2
 |i+2,h=>simp at h
theorem auw{kind op at_:Nat}{x y:aC}{ca cb:List AV}{Q:Nat→Prop}(hM:Mem H S)(hQ:∀b,Q b→b<S.n)(ha:RE S Q ca x)(hb:RE S Q cb y)
  (hK:∀H' S' c,Mem H' S'→an aV S S'→RE S' (λb=>Q b∨S.n≤b∧b<S'.n) c (lT kind op at_ x y)→K (.ret (.agg c)) H'):f164 (kind:Int) (op:Int) (at_:Int) (.agg ca) (.agg cb) H K:=by
 show BV JU K (kind:Int) (op:Int) (at_:Int) (.agg ca) (.agg cb) H;unfold BV;refine EJ hM ha.ones λH1 m1=>?_;refine EJ m1 hb.ones λH2 m2=>?_;rw[eU];refine bE (bz m2 cm λH3 m3=>?_);have o1:∀o:gd,(((S.push (.ce ca 0)).push (.ce cb 0)).push o).ob S.n=.ce ca 0:=λo=>by
  rw[LS.aZ _ _ (show S.n<S.n+1+1 by omega),LS.aZ _ _ (show S.n<S.n+1 by omega),LS.ag]
 have o2:∀o:gd,(((S.push (.ce ca 0)).push (.ce cb 0)).push o).ob (S.n+1)=.ce cb 0:=λo=>by
  rw[LS.aZ _ _ (show S.n+1<S.n+1+1 by omega)];exact LS.ag _ _
 refine ew m3 (o1 _) ha.len ?_;refine ew m3 (o2 _) hb.len ?_;simp only[dD];refine dv ha.len (dv hb.len ?_);rw[tF ha.len hb.len rfl];refine cA m3 (by rw[List.length_append,ha.len,hb.len]) (λa h=>?_) λH4 m4=>?_
 ·rcases List.mem_append.1 h with g|g
  ·exact ha.ones a g
  ·exact hb.ones a g
 refine ey rfl ?_;have c4:an aV S ((((S.push (.ce ca 0)).push (.ce cb 0)).push (.ce z7 0)).push (.ce (ca++cb) 0)):=((((an.refl _ _).push _).push _).push _).push _;have o3:((((S.push (.ce ca 0)).push (.ce cb 0)).push (.ce z7 0)).push (.ce (ca++cb) 0)).ob (S.n+1+1)=.ce z7 0:=by
  rw[LS.aZ _ _ (show S.n+1+1<S.n+1+1+1 by omega)];exact LS.ag _ _
 refine eJ m4 (c:=[.int 0 (kind:Int),.int 0 (at_:Int),.int 0 ((0:Nat):Int),af [],.int 0 (op:Int),.slice (S.n+1+1+1) 0 2 2 7 true,.ab]) o3 rfl rfl (λa h=>?_) λH5 m5=>?_
 ·simp only[List.mem_cons,List.not_mem_nil,or_false]at h;rcases h with rfl|rfl|rfl|rfl|rfl|rfl|rfl<;>rfl
 have c5:=c4.set (b:=S.n+1+1) (.inr (by omega)) (.ce [.int 0 (kind:Int),.int 0 (at_:Int),.int 0 ((0:Nat):Int),af [],.int 0 (op:Int),.slice (S.n+1+1+1) 0 2 2 7 true,.ab] 0);refine ew m5 (LS.aj _ _ _) rfl ?_;have keep:∀b,Q b→LS.ob _ b=S.ob b:=λb hb=>c5.2 b (hQ b hb) λg=>g;refine hK H5 _ _ m5 c5 (RE.two (b:=S.n+1+1+1) (m:=0) (.inr ⟨by omega,Nat.lt_succ_self _⟩) ?_ (ha.go keep λb h=>.inl h) (hb.go keep λb h=>.inl h));exact(LS.ah _ _ (show S.n+1+1+1≠S.n+1+1 by omega)).trans (LS.ag _ _)
end
section
variable {H:AH}{S:LS}{K:KF}{C:Ctx}{i d:Nat}
theorem s97{m n:Nat}(hpv:C.pv=.iface 57 (.agg []))(O:iz C m n):∀k,k≤n+1→pX C (s13 (m+1)).2.2.2.2.1 (bY C.T k):=by
 intro k hk K H S i d hd hM hp hP;cases k with
 |zero=>simp only[bY]at hP;exact False.elim hP
 |succ k=>
  have ra:(oS (s13 m)).1=f53:=rfl;have rb:(oS (s13 m)).2=(s13 m).2.2.2.2.2.2.2.2.1:=rfl;show Gz (oS (s13 m)) K (A0 (oS (s13 m)) K) (.ptr C.bp 0) H;unfold Gz;rw[ra,rb,eU];simp only[bY]at hP;refine bE (bz hM cm λH1 m1=>?_);have c1:an aV S (S.push (.ce z7 0)):=(an.refl _ _).push _;have p1:=hp.no hM c1;refine acx hpv (by omega) m1 p1 (λhg H2 S2 m2 c2 e2=>?_) (λhg H2 S2 m2 c2 p2=>?_)
  ·rw[kx];rw[if_pos hg]at hP;exact hP H2 S2 m2 ((c1.no).trans c2) e2
  ·rw[ai];rw[if_neg hg]at hP;have c12:=(c1.no (X:=aK C)).trans c2;refine O.either k (by omega) (by omega) m2 p2 (Post.tail hP c12 (λ_ h=>h) λe j H3 S3 v m3 c3 p3 ⟨c,hv,hR⟩ hfin=>?_);subst hv;simp only[eU];refine bE (bz m3 cm λH4 m4=>?_);refine eJ m4 (LS.ag _ _) rfl hR.len hR.ones λH5 m5=>?_;have hb1:(S.push (.ce z7 0)).ob S.n=.ce z7 0:=LS.ag _ _;have hbp:C.bp<S.n:=hp.dO hM;have rN:=c2.ob m1 hb1 (λe=>by have e:S.n=C.bp:=e;omega);have avS:=c3.ob m2 rN (λe=>by have e:S.n=C.bp:=e;omega);have c5:an aV S3 ((S3.push (.ce z7 0)).set S3.n (.ce c 0)):=((an.refl _ _).push _).set (.inr (Nat.le_refl _)) _;have p5:=p3.no m3 c5;have avT:=c5.ob m3 avS (λg=>g);refine acy (by omega) m5 p5 λH6 S6 m6 c6 p6=>?_;have hb16:=c6.ob m5 avT (λe=>by have e:S.n=C.bp:=e;omega);have avU:=c6.ob m5 (LS.aj _ _ _) (λe=>by have e:S3.n=C.bp:=e;have:=c3.1;have:=c2.1;have:S.n+1≤S2.n:=c2.1;omega);show A0 (oS (s13 m)) K (.ptr S.n 0) (.ptr S3.n 0) H6;unfold A0;refine acA m6 avU hR.len hR.ones hb16 rfl λH7 m7=>?_;have c36:an (cG C S.n) S3 (S6.set S.n (.ce c 0)):=((c5.no.trans (c6.mono λb h=>.inl h)).set (b:=S.n) (.inl (.inr rfl)) _)
   have n12:S.n+1≤S2.n:=c2.1;refine hfin H7 _ _ m7 ((c12.trans c3).gi c36 λb h=>?_) ?_ ⟨c,rfl,hR.go (λb hb=>c36.2 b hb.2 ?_) λb hb=>⟨?_,?_⟩⟩
   ·rcases h with h|h
    ·exact .inl h
    ·exact .inr (by omega)
   ·exact p6.ga hp hM (Nat.le_refl _) _
   ·rintro(h|h)
    ·have:=hb.1;omega
    ·have:=hb.1;omega
   ·have:=hb.1;omega
   ·exact Nat.lt_of_lt_of_le hb.2 c36.1
end
section
variable {H:AH}{S:LS}{K:KF}{C:Ctx}{i d:Nat}
structure fP(C:Ctx)(S0 S:LS)(b1 b3:Nat)(c:List AV)(e:aC):Prop where
 x:an (aK C) S0 S
 o1:∃z,S.ob b1=.ce z 0∧z.length=7
 o3:S.ob b3=.ce c 0
 n1:S0.n≤b1
 n3:S0.n≤b3
 ne:b1≠b3
 re:∃Q,RE S Q c e∧∀b,Q b→S0.n≤b∧b<S.n∧b≠b1∧b≠b3
section
variable {S0 S':LS}{H0:AH}{i0 d0 b1 b3:Nat}{c:List AV}{e:aC}
theorem fP.keep(h:fP C S0 S b1 b3 c e)(hM:Mem H S)(hbp:C.bp<S0.n)(g:an (aK C) S S'):fP C S0 S' b1 b3 c e:=by
 have ne1:¬aK C b1:=λq=>by have q:b1=C.bp:=q;have:=h.n1;omega
 have ne3:¬aK C b3:=λq=>by have q:b3=C.bp:=q;have:=h.n3;omega
 obtain⟨z,hz,lP⟩:=h.o1;obtain⟨Q,h1,h2⟩:=h.re;exact⟨h.x.trans g,⟨z,g.ob hM hz ne1,lP⟩,g.ob hM h.o3 ne3,h.n1,h.n3,h.ne,Q,h1.go (λb hb=>g.2 b (h2 b hb).2.1 λq=>by have q:b=C.bp:=q;have:=(h2 b hb).1;omega) (λ_ h=>h),λb hb=>⟨(h2 b hb).1,Nat.lt_of_lt_of_le (h2 b hb).2.1 g.1,(h2 b hb).2.2⟩⟩
theorem fP.lf{c':List AV}{e':aC}(h:fP C S0 S b1 b3 c e){Q:Nat→Prop}(hr:RE S Q c' e')(hQ:∀b,Q b→S0.n≤b∧b<S.n∧b≠b1∧b≠b3):fP C S0 (S.set b3 (.ce c' 0)) b1 b3 c' e':=by
 obtain⟨z,hz,lP⟩:=h.o1;exact⟨h.x.set (.inr h.n3) _,⟨z,(LS.ah _ _ h.ne).trans hz,lP⟩,LS.aj _ _ _,h.n1,h.n3,h.ne,Q,hr.go (λb hb=>LS.ah _ _ (hQ b hb).2.2.2) (λ_ h=>h),hQ⟩
theorem fP.len(h:fP C S0 S b1 b3 c e):c.length=7:=by obtain⟨Q,h1,_⟩:=h.re;exact h1.len
theorem fP.fin(h:fP C S0 S b1 b3 c e)(hM:Mem H S)(hM0:Mem H0 S0)(hp0:bS C S0 i0 d0)(hp:bS C S i d)(hP:∀H' S' v,Mem H' S'→an (aK C) S0 S'→bS C S' i d→dc S' (fb S0.n S'.n) v e→K (.ret v) H') :
  aF 7 (.ptr b3 0) H λv1=>ae 7 (.ptr b1 0) v1 H λH2=>aF 7 (.ptr b1 0) H2 λv3=>K (.ret v3) H2:=by
 obtain⟨z,hz,lP⟩:=h.o1;obtain⟨Q,h1,h2⟩:=h.re;refine acA hM h.o3 h1.len h1.ones hz lP λH' m=>?_;exact hP H' _ _ m (h.x.set (.inr h.n1) _) (hp.ga hp0 hM0 h.n1 _) ⟨c,rfl,h1.go (λb hb=>LS.ah _ _ (h2 b hb).2.2.1) λb hb=>⟨(h2 b hb).1,(h2 b hb).2.1⟩⟩
theorem fP.two{kind op at_:Nat}{cb:List AV}{x:aC}{S1:LS}{H1:AH}(h:fP C S0 S b1 b3 c e)(hM:Mem H S)(hbp:C.bp<S0.n)(hs1:b1<S1.n∧b3<S1.n∧S0.n≤S1.n)(hr:RE S (fb S1.n S.n) cb x)
  {k:AV→AH→Prop}(hk:∀H' S' c',Mem H' S'→an aV S S'→fP C S0 S' b1 b3 c e→RE S' (λb=>S0.n≤b∧b<S'.n∧b≠b1∧b≠b3) c' (lT kind op at_ e x)→k (.agg c') H') :
  f164 (kind:Int) (op:Int) (at_:Int) (.agg c) (.agg cb) H λo H=>cR K o H λv=>k v H:=by
 obtain⟨Q,h1,h2⟩:=h.re;refine auw (Q:=λb=>S0.n≤b∧b<S.n∧b≠b1∧b≠b3) hM (λb hb=>hb.2.1) (h1.go (λ_ _=>rfl) h2) (hr.go (λ_ _=>rfl) λb hb=>⟨by have:=hb.1;omega,hb.2,by have:=hb.1;omega,by have:=hb.1;omega⟩) λH' S' c' m' g' r'=>?_;rw[ai];have hn1:b1<S.n:=by obtain⟨z,hz,_⟩:=h.o1;exact hM.lt (by rw[hz];simp)
 have hn3:b3<S.n:=hM.lt (by rw[h.o3];simp);refine hk H' S' c' m' g' (h.keep hM hbp g'.no) (r'.go (λ_ _=>rfl) λb hb=>?_);rcases hb with hb|hb
 ·exact⟨hb.1,Nat.lt_of_lt_of_le hb.2.1 g'.1,hb.2.2⟩
 ·exact⟨Nat.le_trans h.x.1 hb.1,hb.2,by omega,by omega⟩
theorem jI{T:List Tok}{i:Nat}{k:Int→Prop}(h:k (aq T i:Int)):gz (.agg (dY T i)) λl12=>cX l12 3 λv13=>cI 0 v13 k:=by
 rw[BT];unfold dY;simp only[fR,fG,aE];exact h
end
theorem avV{m n:Nat}(hpv:C.pv=.iface 57 (.agg []))(O:iz C m n){S0:LS}{H0:AH}{i0 b1 b3:Nat}(hd:d≤200)(hM0:Mem H0 S0)(hp0:bS C S0 i0 d):∀k,k≤n+1→∀(q i:Nat) (e:aC) (c:List AV) (H:AH) (S:LS),k≤q→Mem H S→bS C S i d→fP C S0 S b1 b3 c e→Post C (aK C) d dc K S0 (iW C.T k e i d)→
  tQ (ie (s13 m)) K q (.ptr C.bp 0) (.ptr b1 0) (.ptr b3 0) (aq C.T i:Int) H:=by
 intro k
 induction k with
 |zero=>intro _ q i e c H S _ _ _ _ hP;simp only[iW]at hP;exact False.elim hP
 |succ k ih=>
  intro hk q i e c H S hq hM hp hF hP;obtain⟨q,rfl⟩:∃p,q=p+1:=⟨q-1,by omega⟩
  show B7 (ie (s13 m)) K (tQ (ie (s13 m)) K q) (xO (ie (s13 m)) K) (.ptr C.bp 0) (.ptr b1 0) (.ptr b3 0) (aq C.T i:Int) H;unfold B7;have rt:(ie (s13 m)).1=f23:=rfl;have ra:(ie (s13 m)).2.1=f56:=rfl;have rb:(ie (s13 m)).2.2.1=(s13 m).2.2.2.2.2.2.2.2.2.2.1:=rfl;have Jh:(ie (s13 m)).2.2.2=f164:=rfl;rw[rt,ra,rb,Jh];have hbp:=hp0.dO hM0;simp only[iW]at hP;refine eH (s:=[111,114]) (aD (by decide)) hM hp λH1 S1 m1 c1 p1=>?_;simp only[ai,aB];have F1:=hF.keep hM hbp c1;cases hi:isA C.T [111,114] i with
  |false=>
   rw[hi]at p1 hP;rw[ax];show xO (ie (s13 m)) K (.ptr b1 0) (.ptr b3 0) H1;unfold xO;exact F1.fin m1 hM0 hp0 p1 hP
  |true=>
   rw[hi]at p1 hP;rw[az];have hlt:=dk C.ok hi;have hb1:b1<S1.n:=by obtain⟨z,hz,_⟩:=F1.o1;exact m1.lt (by rw[hz];simp)
   have hb3:b3<S1.n:=m1.lt (by rw[F1.o3];simp);refine ew m1 F1.o3 F1.len ?_;refine O.both k (by omega) hd m1 p1 (Post.call hP F1.x (λ_ h=>h) λx j H2 S2 v m2 c2 p2 ⟨cb,hv,hR⟩ hP2=>?_);subst hv;have F2:=F1.keep m1 hbp c2;refine ew m2 F2.o3 F2.len ?_;refine cE (by obtain⟨Q,h1,_⟩:=F2.re;exact h1.same) ?_;refine F2.two (kind:=16) (op:=0) (S1:=S1) (H1:=H1) m2 hbp ⟨hb1,hb3,F1.x.1⟩ hR λH3 S3 c' m3 c3 F3 r3=>?_;refine eJ m3 F3.o3 F3.len r3.len r3.ones λH4 m4=>?_;have F4:=F3.lf r3 λb hb=>hb;have p4:=(p2.no m2 c3).ga hp0 hM0 hF.n3 (.ce c' 0);refine jK m4 p4 λH5 S5 m5 c5 p5=>?_;rw[ai];refine jI ?_;exact ih (by omega) q j _ _ H5 S5 (by omega) m5 p5 (F4.keep m4 hbp c5.no) hP2
theorem avW{m n:Nat}(hn:n≤900000)(hpv:C.pv=.iface 57 (.agg []))(O:iz C m n):∀k,k≤n+1→pX C (s13 (m+1)).2.2.2.2.2.2.2.2.1 (iI C.T k):=by
 intro k hk K H S i d hd hM hp hP;cases k with
 |zero=>simp only[iI]at hP;exact False.elim hP
 |succ k=>
  have rt:(ie (s13 m)).1=f23:=rfl;have rb:(ie (s13 m)).2.2.1=(s13 m).2.2.2.2.2.2.2.2.2.2.1:=rfl;show B9 (ie (s13 m)) K (tQ (ie (s13 m)) K G.NL) (.ptr C.bp 0) H;unfold B9;rw[rt,rb,eU];simp only[iI]at hP;have hbp:=hp.dO hM;refine bE (bz hM cm λH1 m1=>?_);have c1:an aV S (S.push (.ce z7 0)):=(an.refl _ _).push _;have p1:=hp.no hM c1;refine O.both k (by omega) hd m1 p1 (Post.call hP c1.no (λ_ h=>h) λe j H2 S2 v m2 c2 p2 ⟨c,hv,hR⟩ hP2=>?_);subst hv;simp only[eU];refine bE (bz m2 cm λH3 m3=>?_);refine eJ m3 (LS.ag _ _) rfl hR.len hR.ones λH4 m4=>?_;have n12:S.n+1≤S2.n:=c2.1;have rN:=c2.ob m1 (LS.ag S (.ce z7 0)) (λq=>by have q:S.n=C.bp:=q;omega);have c4:an aV S2 ((S2.push (.ce z7 0)).set S2.n (.ce c 0)):=((an.refl _ _).push _).set (.inr (Nat.le_refl _)) _;have F4:fP C S ((S2.push (.ce z7 0)).set S2.n (.ce c 0)) S.n S2.n c e:=⟨(c1.no.trans c2).trans c4.no,⟨z7,c4.ob m2 rN (λq=>q),rfl⟩,LS.aj _ _ _,Nat.le_refl _,by omega,by omega,fb (S.n+1) S2.n,hR.go (λb hb=>c4.2 b hb.2 λq=>q) (λ_ h=>h),λb hb=>⟨by have:=hb.1;omega,Nat.lt_of_lt_of_le hb.2 c4.1,by have:=hb.1;omega,by have:=hb.2;omega⟩⟩
  refine jK m4 (p2.no m2 c4) λH5 S5 m5 c5 p5=>?_;rw[ai];refine jI ?_;have gf:G.NL=1000000:=rfl;exact avV hpv O hd hM hp k (by omega) G.NL j e c H5 S5 (by omega) m5 p5 (F4.keep m4 hbp c5.no) hP2
theorem avX{m n:Nat}(hpv:C.pv=.iface 57 (.agg []))(O:iz C m n){S0:LS}{H0:AH}{i0 b1 b3:Nat}(hd:d≤200)(hM0:Mem H0 S0)(hp0:bS C S0 i0 d):∀k,k≤n+1→∀(q i:Nat) (e:aC) (c:List AV) (H:AH) (S:LS),k≤q→Mem H S→bS C S i d→fP C S0 S b1 b3 c e→Post C (aK C) d dc K S0 (lK C.T k e i d)→
  tR (ig (s13 m)) K q (.ptr C.bp 0) (.ptr b1 0) (.ptr b3 0) (aq C.T i:Int) H:=by
 intro k
 induction k with
 |zero=>intro _ q i e c H S _ _ _ _ hP;simp only[lK]at hP;exact False.elim hP
 |succ k ih=>
  intro hk q i e c H S hq hM hp hF hP;obtain⟨q,rfl⟩:∃p,q=p+1:=⟨q-1,by omega⟩
  show Cd (ig (s13 m)) K (tR (ig (s13 m)) K q) (xP (ig (s13 m)) K) (.ptr C.bp 0) (.ptr b1 0) (.ptr b3 0) (aq C.T i:Int) H;unfold Cd;have rt:(ig (s13 m)).1=f23:=rfl;have ra:(ig (s13 m)).2.1=f56:=rfl;have rb:(ig (s13 m)).2.2.2=(s13 m).2.2.2.2.2.2.2.2.2.2.2.2.2.1:=rfl;have Jh:(ig (s13 m)).2.2.1=f164:=rfl;rw[rt,ra,rb,Jh];have hbp:=hp0.dO hM0;simp only[lK]at hP;refine eH (s:=[97,110,100]) (aD (by decide)) hM hp λH1 S1 m1 c1 p1=>?_;simp only[ai,aB];have F1:=hF.keep hM hbp c1;cases hi:isA C.T [97,110,100] i with
  |false=>
   rw[hi]at p1 hP;rw[ax];show xP (ig (s13 m)) K (.ptr b1 0) (.ptr b3 0) H1;unfold xP;exact F1.fin m1 hM0 hp0 p1 hP
  |true=>
   rw[hi]at p1 hP;rw[az];have hlt:=dk C.ok hi;have hb1:b1<S1.n:=by obtain⟨z,hz,_⟩:=F1.o1;exact m1.lt (by rw[hz];simp)
   have hb3:b3<S1.n:=m1.lt (by rw[F1.o3];simp);refine ew m1 F1.o3 F1.len ?_;refine O.test k (by omega) hd m1 p1 (Post.call hP F1.x (λ_ h=>h) λx j H2 S2 v m2 c2 p2 ⟨cb,hv,hR⟩ hP2=>?_);subst hv;have F2:=F1.keep m1 hbp c2;refine ew m2 F2.o3 F2.len ?_;refine cE (by obtain⟨Q,h1,_⟩:=F2.re;exact h1.same) ?_;refine F2.two (kind:=15) (op:=0) (S1:=S1) (H1:=H1) m2 hbp ⟨hb1,hb3,F1.x.1⟩ hR λH3 S3 c' m3 c3 F3 r3=>?_;refine eJ m3 F3.o3 F3.len r3.len r3.ones λH4 m4=>?_;have F4:=F3.lf r3 λb hb=>hb;have p4:=(p2.no m2 c3).ga hp0 hM0 hF.n3 (.ce c' 0);refine jK m4 p4 λH5 S5 m5 c5 p5=>?_;rw[ai];refine jI ?_;exact ih (by omega) q j _ _ H5 S5 (by omega) m5 p5 (F4.keep m4 hbp c5.no) hP2
theorem avY{m n:Nat}(hn:n≤900000)(hpv:C.pv=.iface 57 (.agg []))(O:iz C m n):∀k,k≤n+1→pX C (s13 (m+1)).2.2.2.2.2.2.2.2.2.2.1 (lI C.T k):=by
 intro k hk K H S i d hd hM hp hP;cases k with
 |zero=>simp only[lI]at hP;exact False.elim hP
 |succ k=>
  have rt:(ig (s13 m)).1=f23:=rfl;have rb:(ig (s13 m)).2.2.2=(s13 m).2.2.2.2.2.2.2.2.2.2.2.2.2.1:=rfl;show Ce (ig (s13 m)) K (tR (ig (s13 m)) K G.NL) (.ptr C.bp 0) H;unfold Ce;rw[rt,rb,eU];simp only[lI]at hP;have hbp:=hp.dO hM;refine bE (bz hM cm λH1 m1=>?_);have c1:an aV S (S.push (.ce z7 0)):=(an.refl _ _).push _;have p1:=hp.no hM c1;refine O.test k (by omega) hd m1 p1 (Post.call hP c1.no (λ_ h=>h) λe j H2 S2 v m2 c2 p2 ⟨c,hv,hR⟩ hP2=>?_);subst hv;simp only[eU];refine bE (bz m2 cm λH3 m3=>?_);refine eJ m3 (LS.ag _ _) rfl hR.len hR.ones λH4 m4=>?_;have n12:S.n+1≤S2.n:=c2.1;have rN:=c2.ob m1 (LS.ag S (.ce z7 0)) (λq=>by have q:S.n=C.bp:=q;omega);have c4:an aV S2 ((S2.push (.ce z7 0)).set S2.n (.ce c 0)):=((an.refl _ _).push _).set (.inr (Nat.le_refl _)) _;have F4:fP C S ((S2.push (.ce z7 0)).set S2.n (.ce c 0)) S.n S2.n c e:=⟨(c1.no.trans c2).trans c4.no,⟨z7,c4.ob m2 rN (λq=>q),rfl⟩,LS.aj _ _ _,Nat.le_refl _,by omega,by omega,fb (S.n+1) S2.n,hR.go (λb hb=>c4.2 b hb.2 λq=>q) (λ_ h=>h),λb hb=>⟨by have:=hb.1;omega,Nat.lt_of_lt_of_le hb.2 c4.1,by have:=hb.1;omega,by have:=hb.2;omega⟩⟩
  refine jK m4 (p2.no m2 c4) λH5 S5 m5 c5 p5=>?_;rw[ai];refine jI ?_;have gf:G.NL=1000000:=rfl;exact avX hpv O hd hM hp k (by omega) G.NL j e c H5 S5 (by omega) m5 p5 (F4.keep m4 hbp c5.no) hP2
theorem avZ{m n:Nat}(hpv:C.pv=.iface 57 (.agg []))(O:iz C m n){S0:LS}{H0:AH}{i0 b1 b3:Nat}(hd:d≤200)(hM0:Mem H0 S0)(hp0:bS C S0 i0 d):∀k,k≤n+1→∀(q i:Nat) (e:aC) (c:List AV) (H:AH) (S:LS),k≤q→Mem H S→bS C S i d→fP C S0 S b1 b3 c e→Post C (aK C) d dc K S0 (lL C.T k e i d)→
  tV (jD (s13 m)) K q (.ptr C.bp 0) (.ptr b1 0) (.ptr b3 0) H:=by
 intro k
 induction k with
 |zero=>intro _ q i e c H S _ _ _ _ hP;simp only[lL]at hP;exact False.elim hP
 |succ k ih=>
  intro hk q i e c H S hq hM hp hF hP;obtain⟨q,rfl⟩:∃p,q=p+1:=⟨q-1,by omega⟩
  show Cg (jD (s13 m)) K (tV (jD (s13 m)) K q) (.ptr C.bp 0) (.ptr b1 0) (.ptr b3 0) H;unfold Cg;have rt:(jD (s13 m)).1=f23:=rfl;have ro:(jD (s13 m)).2.2.2=f193:=rfl;have rb:(jD (s13 m)).2.2.1=(s13 m).2.2.2.2.2.2.2.2.2.2.2.2.2.2.2.1:=rfl;have Jh:(jD (s13 m)).2.1=f164:=rfl;rw[rt,ro,rb,Jh];have hbp:=hp0.dO hM0;simp only[lL]at hP;refine jK hM hp λH1 S1 m1 c1 p1=>?_;rw[ai];refine jI ?_;have F1:=hF.keep hM hbp c1.no;rw[show([.str 2 15677,.str 2 15742,.str 1 60,.str 2 15676,.str 1 62,.str 2 15678]:List AV)=tests.map af from rfl];refine cA m1 rfl (λa ha=>?_) λH2 m2=>?_
  ·obtain⟨x,_,rfl⟩:=List.mem_map.1 ha;rfl
  have c2:an aV S1 (S1.push (.ce (tests.map af) 0)):=(an.refl _ _).push _;have p2:=p1.no m1 c2;have F2:=F1.keep m1 hbp c2.no;have hv:cM (S1.push (.ce (tests.map af) 0)) (λb=>b=S1.n) 1 (.slice S1.n 0 6 6 1 true) tests.length (λj=>[af (tests[j]?.getD [])]):=cM.names (l:=tests) rfl (LS.ag _ _);refine al3 (f:=7) (l:=tests) (by omega) (by omega) (by decide) (λs hs=>aD ((by decide:∀m∈tests,(m.all λc=>Nat.blt c 256)=true) s hs)) (Q:=λb=>b=S1.n) (λq=>by have:=p1.dO m1;omega) hv m2 p2 λH3 S3 m3 c3 p3=>?_;simp only[ai,aE,bq];have F3:=F2.keep m2 hbp c3;have e0:Int.ofNat 0=((0:Nat):Int):=rfl;rw[e0];by_cases ho:jz C.T i 7 tests=0
  ·rw[if_pos ho]at hP p3;rw[decide_eq_true (by omega),az];exact F3.fin m3 hM0 hp0 p3 hP
  ·rw[if_neg ho]at hP p3;rw[decide_eq_false (by omega),ax];have hb1:b1<S3.n:=by obtain⟨z,hz,_⟩:=F3.o1;exact m3.lt (by rw[hz];simp)
   have hb3:b3<S3.n:=m3.lt (by rw[F3.o3];simp);refine ew m3 F3.o3 F3.len ?_;refine O.join k (by omega) hd m3 p3 (Post.call hP F3.x (λ_ h=>h) λx j H4 S4 v m4 c4 p4 ⟨cb,hv,hR⟩ hP2=>?_);subst hv;have F4:=F3.keep m3 hbp c4;refine ew m4 F4.o3 F4.len ?_;refine cE (by obtain⟨Q,h1,_⟩:=F4.re;exact h1.same) ?_;refine F4.two (kind:=14) (op:=jz C.T i 7 tests) (S1:=S3) (H1:=H3) m4 hbp ⟨hb1,hb3,F3.x.1⟩ hR λH5 S5 c' m5 c5 F5 r5=>?_;refine eJ m5 F5.o3 F5.len r5.len r5.ones λH6 m6=>?_;have F6:=F5.lf r5 λb hb=>hb;have p6:=(p4.no m4 c5).ga hp0 hM0 hF.n3 (.ce c' 0);exact ih (by omega) q j _ _ H6 _ (by omega) m6 p6 F6 hP2
theorem av0{m n:Nat}(hn:n≤900000)(hpv:C.pv=.iface 57 (.agg []))(O:iz C m n):∀k,k≤n+1→pX C (s13 (m+1)).2.2.2.2.2.2.2.2.2.2.2.2.2.1 (lJ C.T k):=by
 intro k hk K H S i d hd hM hp hP;cases k with
 |zero=>simp only[lJ]at hP;exact False.elim hP
 |succ k=>
  have rb:(jD (s13 m)).2.2.1=(s13 m).2.2.2.2.2.2.2.2.2.2.2.2.2.2.2.1:=rfl;show Ch (jD (s13 m)) K (tV (jD (s13 m)) K G.NL) (.ptr C.bp 0) H;unfold Ch;rw[rb,eU];simp only[lJ]at hP;have hbp:=hp.dO hM;refine bE (bz hM cm λH1 m1=>?_);have c1:an aV S (S.push (.ce z7 0)):=(an.refl _ _).push _;have p1:=hp.no hM c1;refine O.join k (by omega) hd m1 p1 (Post.call hP c1.no (λ_ h=>h) λe j H2 S2 v m2 c2 p2 ⟨c,hv,hR⟩ hP2=>?_);subst hv;simp only[eU];refine bE (bz m2 cm λH3 m3=>?_);refine eJ m3 (LS.ag _ _) rfl hR.len hR.ones λH4 m4=>?_;have n12:S.n+1≤S2.n:=c2.1;have rN:=c2.ob m1 (LS.ag S (.ce z7 0)) (λq=>by have q:S.n=C.bp:=q;omega);have c4:an aV S2 ((S2.push (.ce z7 0)).set S2.n (.ce c 0)):=((an.refl _ _).push _).set (.inr (Nat.le_refl _)) _;have F4:fP C S ((S2.push (.ce z7 0)).set S2.n (.ce c 0)) S.n S2.n c e:=⟨(c1.no.trans c2).trans c4.no,⟨z7,c4.ob m2 rN (λq=>q),rfl⟩,LS.aj _ _ _,Nat.le_refl _,by omega,by omega,fb (S.n+1) S2.n,hR.go (λb hb=>c4.2 b hb.2 λq=>q) (λ_ h=>h),λb hb=>⟨by have:=hb.1;omega,Nat.lt_of_lt_of_le hb.2 c4.1,by have:=hb.1;omega,by have:=hb.2;omega⟩⟩
  have gf:G.NL=1000000:=rfl;exact avZ hpv O hd hM hp k (by omega) G.NL j e c H4 _ (by omega) m4 (p2.no m2 c4) F4 hP2
theorem l199{m n:Nat}(hpv:C.pv=.iface 57 (.agg []))(O:iz C m n){S0:LS}{H0:AH}{i0 b1 b3:Nat}(hd:d≤200)(hM0:Mem H0 S0)(hp0:bS C S0 i0 d):∀k,k≤n+1→∀(q i:Nat) (e:aC) (c:List AV) (H:AH) (S:LS),k≤q→Mem H S→bS C S i d→fP C S0 S b1 b3 c e→Post C (aK C) d dc K S0 (nC C.T k e i d)→
  tY (jE (s13 m)) K q (.ptr C.bp 0) (.ptr b1 0) (.ptr b3 0) H:=by
 intro k
 induction k with
 |zero=>intro _ q i e c H S _ _ _ _ hP;simp only[nC]at hP;exact False.elim hP
 |succ k ih=>
  intro hk q i e c H S hq hM hp hF hP;obtain⟨q,rfl⟩:∃p,q=p+1:=⟨q-1,by omega⟩
  show Cn (jE (s13 m)) K (tY (jE (s13 m)) K q) (.ptr C.bp 0) (.ptr b1 0) (.ptr b3 0) H;unfold Cn;have rt:(jE (s13 m)).1=f23:=rfl;have ro:(jE (s13 m)).2.2.1=f193:=rfl;have rb:(jE (s13 m)).2.2.2=(s13 m).2.2.2.2.2.2.2.2.2.2.2.2.2.2.2.2.2.2.1:=rfl;have Jh:(jE (s13 m)).2.1=f164:=rfl;rw[rt,ro,rb,Jh];have hbp:=hp0.dO hM0;simp only[nC]at hP;refine jK hM hp λH1 S1 m1 c1 p1=>?_;rw[ai];refine jI ?_;have F1:=hF.keep hM hbp c1.no;rw[show([.str 1 43,.str 1 45]:List AV)=sums.map af from rfl];refine cA m1 rfl (λa ha=>?_) λH2 m2=>?_
  ·obtain⟨x,_,rfl⟩:=List.mem_map.1 ha;rfl
  have c2:an aV S1 (S1.push (.ce (sums.map af) 0)):=(an.refl _ _).push _;have p2:=p1.no m1 c2;have F2:=F1.keep m1 hbp c2.no;have hv:cM (S1.push (.ce (sums.map af) 0)) (λb=>b=S1.n) 1 (.slice S1.n 0 2 2 1 true) sums.length (λj=>[af (sums[j]?.getD [])]):=cM.names (l:=sums) rfl (LS.ag _ _);refine al3 (f:=1) (l:=sums) (by omega) (by omega) (by decide) (λs hs=>aD ((by decide:∀m∈sums,(m.all λc=>Nat.blt c 256)=true) s hs)) (Q:=λb=>b=S1.n) (λq=>by have:=p1.dO m1;omega) hv m2 p2 λH3 S3 m3 c3 p3=>?_;simp only[ai,aE,bq];have F3:=F2.keep m2 hbp c3;have e0:Int.ofNat 0=((0:Nat):Int):=rfl;rw[e0];by_cases ho:jz C.T i 1 sums=0
  ·rw[if_pos ho]at hP p3;rw[decide_eq_true (by omega),az];exact F3.fin m3 hM0 hp0 p3 hP
  ·rw[if_neg ho]at hP p3;rw[decide_eq_false (by omega),ax];have hb1:b1<S3.n:=by obtain⟨z,hz,_⟩:=F3.o1;exact m3.lt (by rw[hz];simp)
   have hb3:b3<S3.n:=m3.lt (by rw[F3.o3];simp);refine ew m3 F3.o3 F3.len ?_;refine O.term k (by omega) hd m3 p3 (Post.call hP F3.x (λ_ h=>h) λx j H4 S4 v m4 c4 p4 ⟨cb,hv,hR⟩ hP2=>?_);subst hv;have F4:=F3.keep m3 hbp c4;refine ew m4 F4.o3 F4.len ?_;refine cE (by obtain⟨Q,h1,_⟩:=F4.re;exact h1.same) ?_;refine F4.two (kind:=14) (op:=jz C.T i 1 sums) (S1:=S3) (H1:=H3) m4 hbp ⟨hb1,hb3,F3.x.1⟩ hR λH5 S5 c' m5 c5 F5 r5=>?_;refine eJ m5 F5.o3 F5.len r5.len r5.ones λH6 m6=>?_;have F6:=F5.lf r5 λb hb=>hb;have p6:=(p4.no m4 c5).ga hp0 hM0 hF.n3 (.ce c' 0);exact ih (by omega) q j _ _ H6 _ (by omega) m6 p6 F6 hP2
theorem av1{m n:Nat}(hn:n≤900000)(hpv:C.pv=.iface 57 (.agg []))(O:iz C m n):∀k,k≤n+1→pX C (s13 (m+1)).2.2.2.2.2.2.2.2.2.2.2.2.2.2.2.2.2.1 (oJ C.T k):=by
 intro k hk K H S i d hd hM hp hP;cases k with
 |zero=>simp only[oJ]at hP;exact False.elim hP
 |succ k=>
  have rb:(jE (s13 m)).2.2.2=(s13 m).2.2.2.2.2.2.2.2.2.2.2.2.2.2.2.2.2.2.1:=rfl;show Co (jE (s13 m)) K (tY (jE (s13 m)) K G.NL) (.ptr C.bp 0) H;unfold Co;rw[rb,eU];simp only[oJ]at hP;have hbp:=hp.dO hM;refine bE (bz hM cm λH1 m1=>?_);have c1:an aV S (S.push (.ce z7 0)):=(an.refl _ _).push _;have p1:=hp.no hM c1;refine O.term k (by omega) hd m1 p1 (Post.call hP c1.no (λ_ h=>h) λe j H2 S2 v m2 c2 p2 ⟨c,hv,hR⟩ hP2=>?_);subst hv;simp only[eU];refine bE (bz m2 cm λH3 m3=>?_);refine eJ m3 (LS.ag _ _) rfl hR.len hR.ones λH4 m4=>?_;have n12:S.n+1≤S2.n:=c2.1;have rN:=c2.ob m1 (LS.ag S (.ce z7 0)) (λq=>by have q:S.n=C.bp:=q;omega);have c4:an aV S2 ((S2.push (.ce z7 0)).set S2.n (.ce c 0)):=((an.refl _ _).push _).set (.inr (Nat.le_refl _)) _;have F4:fP C S ((S2.push (.ce z7 0)).set S2.n (.ce c 0)) S.n S2.n c e:=⟨(c1.no.trans c2).trans c4.no,⟨z7,c4.ob m2 rN (λq=>q),rfl⟩,LS.aj _ _ _,Nat.le_refl _,by omega,by omega,fb (S.n+1) S2.n,hR.go (λb hb=>c4.2 b hb.2 λq=>q) (λ_ h=>h),λb hb=>⟨by have:=hb.1;omega,Nat.lt_of_lt_of_le hb.2 c4.1,by have:=hb.1;omega,by have:=hb.2;omega⟩⟩
  have gf:G.NL=1000000:=rfl;exact l199 hpv O hd hM hp k (by omega) G.NL j e c H4 _ (by omega) m4 (p2.no m2 c4) F4 hP2
theorem av2{m n:Nat}(hpv:C.pv=.iface 57 (.agg []))(O:iz C m n){S0:LS}{H0:AH}{i0 b1 b3:Nat}(hd:d≤200)(hM0:Mem H0 S0)(hp0:bS C S0 i0 d):∀k,k≤n+1→∀(q i:Nat) (e:aC) (c:List AV) (H:AH) (S:LS),k≤q→Mem H S→bS C S i d→fP C S0 S b1 b3 c e→Post C (aK C) d dc K S0 (lN C.T k e i d)→
  tZ (jF (s13 m)) K q (.ptr C.bp 0) (.ptr b1 0) (.ptr b3 0) H:=by
 intro k
 induction k with
 |zero=>intro _ q i e c H S _ _ _ _ hP;simp only[lN]at hP;exact False.elim hP
 |succ k ih=>
  intro hk q i e c H S hq hM hp hF hP;obtain⟨q,rfl⟩:∃p,q=p+1:=⟨q-1,by omega⟩
  show Cp (jF (s13 m)) K (tZ (jF (s13 m)) K q) (.ptr C.bp 0) (.ptr b1 0) (.ptr b3 0) H;unfold Cp;have rt:(jF (s13 m)).1=f23:=rfl;have ro:(jF (s13 m)).2.2.1=f193:=rfl;have rb:(jF (s13 m)).2.2.2=(s13 m).2.2.2.2.2.2.2.2.2.2.2.2.2.2.2.2.2.2.2:=rfl;have Jh:(jF (s13 m)).2.1=f164:=rfl;rw[rt,ro,rb,Jh];have hbp:=hp0.dO hM0;simp only[lN]at hP;refine jK hM hp λH1 S1 m1 c1 p1=>?_;rw[ai];refine jI ?_;have F1:=hF.keep hM hbp c1.no;rw[show([.str 1 42,.str 2 12079,.str 1 37]:List AV)=terms.map af from rfl];refine cA m1 rfl (λa ha=>?_) λH2 m2=>?_
  ·obtain⟨x,_,rfl⟩:=List.mem_map.1 ha;rfl
  have c2:an aV S1 (S1.push (.ce (terms.map af) 0)):=(an.refl _ _).push _;have p2:=p1.no m1 c2;have F2:=F1.keep m1 hbp c2.no;have hv:cM (S1.push (.ce (terms.map af) 0)) (λb=>b=S1.n) 1 (.slice S1.n 0 3 3 1 true) terms.length (λj=>[af (terms[j]?.getD [])]):=cM.names (l:=terms) rfl (LS.ag _ _);refine al3 (f:=3) (l:=terms) (by omega) (by omega) (by decide) (λs hs=>aD ((by decide:∀m∈terms,(m.all λc=>Nat.blt c 256)=true) s hs)) (Q:=λb=>b=S1.n) (λq=>by have:=p1.dO m1;omega) hv m2 p2 λH3 S3 m3 c3 p3=>?_;simp only[ai,aE,bq];have F3:=F2.keep m2 hbp c3;have e0:Int.ofNat 0=((0:Nat):Int):=rfl;rw[e0];by_cases ho:jz C.T i 3 terms=0
  ·rw[if_pos ho]at hP p3;rw[decide_eq_true (by omega),az];exact F3.fin m3 hM0 hp0 p3 hP
  ·rw[if_neg ho]at hP p3;rw[decide_eq_false (by omega),ax];have hb1:b1<S3.n:=by obtain⟨z,hz,_⟩:=F3.o1;exact m3.lt (by rw[hz];simp)
   have hb3:b3<S3.n:=m3.lt (by rw[F3.o3];simp);refine ew m3 F3.o3 F3.len ?_;refine O.unary k (by omega) hd m3 p3 (Post.call hP F3.x (λ_ h=>h) λx j H4 S4 v m4 c4 p4 ⟨cb,hv,hR⟩ hP2=>?_);subst hv;have F4:=F3.keep m3 hbp c4;refine ew m4 F4.o3 F4.len ?_;refine cE (by obtain⟨Q,h1,_⟩:=F4.re;exact h1.same) ?_;refine F4.two (kind:=14) (op:=jz C.T i 3 terms) (S1:=S3) (H1:=H3) m4 hbp ⟨hb1,hb3,F3.x.1⟩ hR λH5 S5 c' m5 c5 F5 r5=>?_;refine eJ m5 F5.o3 F5.len r5.len r5.ones λH6 m6=>?_;have F6:=F5.lf r5 λb hb=>hb;have p6:=(p4.no m4 c5).ga hp0 hM0 hF.n3 (.ce c' 0);exact ih (by omega) q j _ _ H6 _ (by omega) m6 p6 F6 hP2
theorem av3{m n:Nat}(hn:n≤900000)(hpv:C.pv=.iface 57 (.agg []))(O:iz C m n):∀k,k≤n+1→pX C (s13 (m+1)).2.2.2.2.2.2.2.2.2.2.2.2.2.2.2.2.2.2.1 (lM C.T k):=by
 intro k hk K H S i d hd hM hp hP;cases k with
 |zero=>simp only[lM]at hP;exact False.elim hP
 |succ k=>
  have rb:(jF (s13 m)).2.2.2=(s13 m).2.2.2.2.2.2.2.2.2.2.2.2.2.2.2.2.2.2.2:=rfl;show Cq (jF (s13 m)) K (tZ (jF (s13 m)) K G.NL) (.ptr C.bp 0) H;unfold Cq;rw[rb,eU];simp only[lM]at hP;have hbp:=hp.dO hM;refine bE (bz hM cm λH1 m1=>?_);have c1:an aV S (S.push (.ce z7 0)):=(an.refl _ _).push _;have p1:=hp.no hM c1;refine O.unary k (by omega) hd m1 p1 (Post.call hP c1.no (λ_ h=>h) λe j H2 S2 v m2 c2 p2 ⟨c,hv,hR⟩ hP2=>?_);subst hv;simp only[eU];refine bE (bz m2 cm λH3 m3=>?_);refine eJ m3 (LS.ag _ _) rfl hR.len hR.ones λH4 m4=>?_;have n12:S.n+1≤S2.n:=c2.1;have rN:=c2.ob m1 (LS.ag S (.ce z7 0)) (λq=>by have q:S.n=C.bp:=q;omega);have c4:an aV S2 ((S2.push (.ce z7 0)).set S2.n (.ce c 0)):=((an.refl _ _).push _).set (.inr (Nat.le_refl _)) _;have F4:fP C S ((S2.push (.ce z7 0)).set S2.n (.ce c 0)) S.n S2.n c e:=⟨(c1.no.trans c2).trans c4.no,⟨z7,c4.ob m2 rN (λq=>q),rfl⟩,LS.aj _ _ _,Nat.le_refl _,by omega,by omega,fb (S.n+1) S2.n,hR.go (λb hb=>c4.2 b hb.2 λq=>q) (λ_ h=>h),λb hb=>⟨by have:=hb.1;omega,Nat.lt_of_lt_of_le hb.2 c4.1,by have:=hb.1;omega,by have:=hb.2;omega⟩⟩
  have gf:G.NL=1000000:=rfl;exact av2 hpv O hd hM hp k (by omega) G.NL j e c H4 _ (by omega) m4 (p2.no m2 c4) F4 hP2
end
section
variable {H:AH}{S:LS}{K:KF}{C:Ctx}{i d:Nat}
theorem cM.single{Q:Nat→Prop}{b m sz:Nat}{c:List AV}{ex:Bool}(hQ:Q b)(hb:S.ob b=.ce c m)(hc:c.length=sz):cM S Q sz (.slice b 0 1 1 sz ex) 1 (λ_=>c):=
 .inr ⟨b,0,1,ex,c,m,rfl,hQ,hb,Nat.le_refl _,by omega,λi hi=>by
  have:i=0:=by omega
  subst this;show(c.drop (0+0*sz)).take sz=c;rw[Nat.zero_mul,Nat.add_zero,List.drop_zero,List.take_of_length_le (by omega)]⟩
theorem RE.one{Q:Nat→Prop}{kind at_ op b m:Nat}{ex:Bool}{x:aC}{c:List AV}(hQ:Q b)(hb:S.ob b=.ce c m)(h1:RE S Q c x):RE S Q [.int 0 (kind:Int),.int 0 (at_:Int),.int 0 ((0:Nat):Int),af [],.int 0 (op:Int),.slice b 0 1 1 7 ex,.ab] (.mk kind at_ 0 [] op [x] []):=by
 refine .mk kind at_ 0 [] op [x] [] _ .ab _ (λ_=>[]) B8.nil (cM.single hQ hb h1.len) (λi e h=>?_) (cM.nil _ _ _ _) (λi e h=>by simp at h)
 match i,h with
 |0,h=>
  have e1:x=e:=by simpa using h
  subst e1;exact h1
 |i+1,h=>simp at h
theorem fP.mk0{S0 S2:LS}{H2:AH}{c:List AV}{e:aC}{z:List AV}(hbp:C.bp<S0.n)(hz:z.length=7)(h1:an (aK C) S0 S2)(m2:Mem H2 S2)(hb1:S2.ob S0.n=.ce z 0)(hR:RE S2 (fb (S0.n+1) S2.n) c e):fP C S0 ((S2.push (.ce z7 0)).set S2.n (.ce c 0)) S0.n S2.n c e:=by
 have n12:S0.n<S2.n:=m2.lt (by rw[hb1];simp);have c4:an aV S2 ((S2.push (.ce z7 0)).set S2.n (.ce c 0)):=((an.refl _ _).push _).set (.inr (Nat.le_refl _)) _;exact⟨h1.trans c4.no,⟨z,c4.ob m2 hb1 (λq=>q),hz⟩,LS.aj _ _ _,Nat.le_refl _,by omega,by omega,fb (S0.n+1) S2.n,hR.go (λb hb=>c4.2 b hb.2 λq=>q) (λ_ h=>h),λb hb=>⟨by have:=hb.1;omega,Nat.lt_of_lt_of_le hb.2 c4.1,by have:=hb.1;omega,by have:=hb.2;omega⟩⟩
theorem av4{m n:Nat}(hpv:C.pv=.iface 57 (.agg []))(O:iz C m n):∀k,k≤n+1→pX C (s13 (m+1)).2.2.2.2.2.2.2.2.2.2.2.2.2.2.2.1 (iy C.T k):=by
 intro k hk K H S i d hd hM hp hP;cases k with
 |zero=>simp only[iy]at hP;exact False.elim hP
 |succ k=>
  have ra:(jX (s13 m)).1=f23:=rfl;have rb:(jX (s13 m)).2.1=f53:=rfl;have rc:(jX (s13 m)).2.2.1=f56:=rfl;have rd:(jX (s13 m)).2.2.2.1=f164:=rfl;have re:(jX (s13 m)).2.2.2.2.1=(s13 m).2.2.2.2.2.2.2.2.2.2.2.2.2.2.2.1:=rfl;have rf:(jX (s13 m)).2.2.2.2.2=(s13 m).2.2.2.2.2.2.2.2.2.2.2.2.2.2.2.2.2.1:=rfl;show Cl (jX (s13 m)) K (xU (jX (s13 m)) K) (.ptr C.bp 0) H;unfold Cl;rw[ra,rb,rc,rd,re,rf,eU];simp only[iy]at hP;have hbp:=hp.dO hM;refine bE (bz hM cm λH1 m1=>?_);have c1:an aV S (S.push (.ce z7 0)):=(an.refl _ _).push _;have p1:=hp.no hM c1;refine O.sum k (by omega) hd m1 p1 (Post.call hP c1.no (λ_ h=>h) λe j H2 S2 v m2 c2 p2 ⟨c,hv,hR⟩ hP2=>?_);subst hv;simp only[eU];refine bE (bz m2 cm λH3 m3=>?_);refine eJ m3 (LS.ag _ _) rfl hR.len hR.ones λH4 m4=>?_;have n12:S.n+1≤S2.n:=c2.1;have rN:=c2.ob m1 (LS.ag S (.ce z7 0)) (λq=>by have q:S.n=C.bp:=q;omega);have c4:an aV S2 ((S2.push (.ce z7 0)).set S2.n (.ce c 0)):=((an.refl _ _).push _).set (.inr (Nat.le_refl _)) _;have F4:=fP.mk0 (C:=C) hbp rfl (c1.no.trans c2) m2 rN hR;refine jK m4 (p2.no m2 c4) λH5 S5 m5 c5 p5=>?_;rw[ai];refine jI ?_;have F5:=F4.keep m4 hbp c5.no;refine eH (s:=[46,46]) (aD (by decide)) m5 p5 λH6 S6 m6 c6 p6=>?_;simp only[ai,aB];have F6:=F5.keep m5 hbp c6;cases hi:isA C.T [46,46] j with
  |false=>
   rw[hi]at p6 hP2;simp only[Bool.not_false,az];exact F6.fin m6 hM hp p6 hP2
  |true=>
   rw[hi]at p6 hP2;simp only[Bool.not_true,ax];simp only[if_true]at hP2 p6;refine acx hpv (by omega) m6 p6 (λhg H7 S7 m7 c7 e7=>?_) (λhg H7 S7 m7 c7 p7=>?_)
   ·rw[kx];rw[if_pos hg]at hP2;exact hP2 H7 S7 m7 (F6.x.trans c7) e7
   ·rw[ai];rw[if_neg hg]at hP2;have F7:=F6.keep m6 hbp c7;have hb1:S.n<S7.n:=by obtain⟨z,hz,_⟩:=F7.o1;exact m7.lt (by rw[hz];simp)
    have hb3:S2.n<S7.n:=m7.lt (by rw[F7.o3];simp);refine ew m7 F7.o3 F7.len ?_;refine O.join k (by omega) (by omega) m7 p7 (Post.call hP2 F7.x (λ_ h=>h) λx l H8 S8 v m8 c8 p8 ⟨cb,hv,hR8⟩ hP3=>?_);subst hv;have F8:=F7.keep m7 hbp c8;refine ew m8 F8.o3 F8.len ?_;refine cE (by obtain⟨Q,h1,_⟩:=F8.re;exact h1.same) ?_;refine F8.two (kind:=14) (op:=6) (S1:=S7) (H1:=H7) m8 hbp ⟨hb1,hb3,F7.x.1⟩ hR8 λH9 S9 c' m9 c9 F9 r9=>?_;refine eJ m9 F9.o3 F9.len r9.len r9.ones λHa ma=>?_;have Fa:=F9.lf r9 λb hb=>hb;have pa:=(p8.no m8 c9).ga hp hM F4.n3 (.ce c' 0);show xU (jX (s13 m)) K (.ptr C.bp 0) (.ptr S.n 0) (.ptr S2.n 0) Ha;unfold xU;refine acy (by omega) ma pa λHb Sb mb cb' pb=>?_;exact(Fa.keep ma hbp cb').fin mb hM hp pb hP3
theorem av5{m n:Nat}(hpv:C.pv=.iface 57 (.agg []))(O:iz C m n):∀k,k≤n+1→pX C (s13 (m+1)).2.2.2.2.2.2.2.2.2.2.2.2.2.2.2.2.2.2.2 (gv C.T k):=by
 intro k hk K H S i d hd hM hp hP;cases k with
 |zero=>simp only[gv]at hP;exact False.elim hP
 |succ k=>
  have ra:(jc (s13 m)).1=f23:=rfl;have rb:(jc (s13 m)).2.1=f53:=rfl;have rc:(jc (s13 m)).2.2.1=f56:=rfl;have rd:(jc (s13 m)).2.2.2.1=(s13 m).2.2.2.2.2.2.2.2.2.1:=rfl;have re:(jc (s13 m)).2.2.2.2=(s13 m).2.2.2.2.2.2.2.2.2.2.2.2.2.2.2.2.2.2.2:=rfl;show Cr (jc (s13 m)) K (xW (jc (s13 m)) K (ua (jc (s13 m)) K)) (.ptr C.bp 0) H;unfold Cr;rw[ra,rc,rd,eU];simp only[gv]at hP;have hbp:=hp.dO hM;refine bE (bz hM cm λH1 m1=>?_);have c1:an aV S (S.push (.ce z7 0)):=(an.refl _ _).push _;have p1:=hp.no hM c1;have o1:(S.push (.ce z7 0)).ob S.n=.ce z7 0:=LS.ag _ _;refine jK m1 p1 λH2 S2 m2 c2 p2=>?_;rw[ai];refine jI ?_;have c12:an (aK C) S S2:=(c1.trans c2).no;have o2:=c2.ob m1 o1 λq=>q;have cO:¬aK C S.n:=λq=>by have q:S.n=C.bp:=q;omega
  have signed:∀{H3:AH}{S3:LS}(kd:Nat),s7 C.T i=kd→kd≠0→Mem H3 S3→an (aK C) S S3→bS C S3 (i+1) d→S3.ob S.n=.ce z7 0→xW (jc (s13 m)) K (ua (jc (s13 m)) K) (.ptr C.bp 0) (.ptr S.n 0) (aq C.T i:Int) (kd:Int) H3:=by
   intro H3 S3 kd hkd hk0 m3 c3 p3 o3;rw[hkd,if_neg hk0]at hP;unfold xW;rw[rb,re];refine acx hpv (by omega) m3 p3 (λhg H4 S4 m4 c4 e4=>?_) (λhg H4 S4 m4 c4 p4=>?_)
   ·rw[kx];rw[if_pos hg]at hP;exact hP H4 S4 m4 (c3.trans c4) e4
   ·rw[ai];rw[if_neg hg]at hP;have c34:=c3.trans c4;have o4:=c4.ob m3 o3 cO;have n4:S.n<S4.n:=m4.lt (by rw[o4];simp);refine O.unary k (by omega) (by omega) m4 p4 (Post.call hP c34 (λ_ h=>h) λe j H5 S5 v m5 c5 p5 ⟨c,hv,hR⟩ hP2=>?_);subst hv;have o5:=c5.ob m4 o4 cO;rw[dD];refine dv hR.len ?_;rw[qE hR.len rfl];refine cA m5 (by rw[hR.len]) hR.ones λH6 m6=>?_;refine ey rfl ?_;simp only[eU];refine bE (bz m6 cm λH7 m7=>?_);refine eJ m7 (c:=[.int 0 (kd:Int),.int 0 (aq C.T i:Int),.int 0 ((0:Nat):Int),af [],.int 0 ((0:Nat):Int),.slice S5.n 0 1 1 7 true,.ab]) (LS.ag _ _) rfl rfl (λa h=>?_) λH8 m8=>?_
    ·simp only[List.mem_cons,List.not_mem_nil,or_false]at h;rcases h with rfl|rfl|rfl|rfl|rfl|rfl|rfl<;>rfl
    have hRp:RE (S5.push (.ce c 0)) (fb (S.n+1) (S5.push (.ce c 0)).n) [.int 0 (kd:Int),.int 0 (aq C.T i:Int),.int 0 ((0:Nat):Int),af [],.int 0 ((0:Nat):Int),.slice S5.n 0 1 1 7 true,.ab] (.mk kd (aq C.T i) 0 [] 0 [e] []):=by
     have n5:S4.n≤S5.n:=c5.1;exact RE.one (b:=S5.n) (m:=0) ⟨by omega,Nat.lt_succ_self _⟩ (LS.ag _ _) (hR.go (λb hb=>LS.aZ _ _ hb.2) λb hb=>⟨by have:=hb.1;omega,Nat.lt_succ_of_lt hb.2⟩)
    have c6:an aV S5 (S5.push (.ce c 0)):=(an.refl _ _).push _;have F8:=fP.mk0 (C:=C) hbp rfl ((c34.trans c5).trans c6.no) m6 (c6.ob m5 o5 λq=>q) hRp;have c8:an aV (S5.push (.ce c 0)) (((S5.push (.ce c 0)).push (.ce z7 0)).set (S5.push (.ce c 0)).n (.ce [.int 0 (kd:Int),.int 0 (aq C.T i:Int),.int 0 ((0:Nat):Int),af [],.int 0 ((0:Nat):Int),.slice S5.n 0 1 1 7 true,.ab] 0)):=((an.refl _ _).push _).set (.inr (Nat.le_refl _)) _;refine acy (by omega) m8 ((p5.no m5 c6).no m6 c8) λH9 S9 m9 c9 p9=>?_;show ua (jc (s13 m)) K (.ptr S.n 0) (.ptr (S5.push (.ce c 0)).n 0) H9;unfold ua;exact(F8.keep m8 hbp c9).fin m9 hM hp p9 hP2
  refine eH (s:=[110,111,116]) (aD (by decide)) m2 p2 λH3 S3 m3 c3 p3=>?_;simp only[ai,aB];cases h1:isA C.T [110,111,116] i with
  |true=>
   rw[h1]at p3;rw[az];exact signed 11 (by unfold s7;rw[h1];rfl) (by omega) m3 (c12.trans c3) p3 (c3.ob m2 o2 cO)
  |false=>
  simp only[h1,Bool.false_eq_true,if_false]at p3;rw[ax];refine eH (s:=[45]) (aD (by decide)) m3 p3 λH4 S4 m4 c4 p4=>?_;simp only[ai,aB];cases h2:isA C.T [45] i with
  |true=>
   rw[h2]at p4;rw[az];exact signed 12 (by unfold s7;rw[h1,h2];rfl) (by omega) m4 ((c12.trans c3).trans c4) p4 (c4.ob m3 (c3.ob m2 o2 cO) cO)
  |false=>
  simp only[h2,Bool.false_eq_true,if_false]at p4;rw[ax];refine eH (s:=[35]) (aD (by decide)) m4 p4 λH5 S5 m5 c5 p5=>?_;simp only[ai,aB];cases h3:isA C.T [35] i with
  |true=>
   rw[h3]at p5;rw[az];exact signed 13 (by unfold s7;rw[h1,h2,h3];rfl) (by omega) m5 (((c12.trans c3).trans c4).trans c5) p5 (c5.ob m4 (c4.ob m3 (c3.ob m2 o2 cO) cO) cO)
  |false=>
  simp only[h3,Bool.false_eq_true,if_false]at p5;rw[ax];have hu:s7 C.T i=0:=by unfold s7;rw[h1,h2,h3];rfl
  rw[if_pos hu]at hP;have c5':=((c12.trans c3).trans c4).trans c5;have o5:=c5.ob m4 (c4.ob m3 (c3.ob m2 o2 cO) cO) cO;refine O.post k (by omega) hd m5 p5 (Post.tail hP c5' (λ_ h=>h) λe j H6 S6 v m6 c6 p6 ⟨c,hv,hR⟩ hfin=>?_);subst hv;have n5:S.n<S5.n:=m5.lt (by rw[o5];simp);refine eJ m6 (c6.ob m5 o5 cO) rfl hR.len hR.ones λH7 m7=>?_;refine ew m7 (LS.aj _ _ _) hR.len ?_;exact hfin H7 _ _ m7 ((c5'.trans c6).set (.inr (Nat.le_refl _)) _) (p6.ga hp hM (Nat.le_refl _) _) ⟨c,rfl,hR.go (λb hb=>LS.ah _ _ (by have:=hb.1;omega)) λb hb=>⟨by have:=hb.1;omega,hb.2⟩⟩
end
end Go.Proofs.YtcedghechlgecaaGreatDoor
namespace Go.X
section
variable {H:AH}{S:LS}
theorem dN.lt{α:Type}{R:Rep α}{lo:Nat}{v:AV}{l:List α}(h:dN R lo S v l)(hM:Mem H S){b:Nat}(hb:aG v b):b<S.n:=by
 obtain⟨cl,h1,_⟩:=h;exact h1.lt hM hb
theorem dN.xk{α:Type}{R:Rep α}{lo:Nat}{v:AV}{l:List α}{k:AV→Prop}(h:dN R lo S v l)(hk:k (.int 0 l.length)):dp v k:=by
 obtain⟨cl,h1,_⟩:=h;exact h1.len hk
theorem dN.push{α:Type}{R:Rep α}{lo bytes:Nat}{v:AV}{l:List α}{a:α}{c:List AV}{Q:Nat→Prop}{k:AV→AH→Prop}(h:dN R lo S v l)(hM:Mem H S)(hr:R.rel S Q c a)(hQ:∀b,Q b→lo≤b∧b<S.n∧¬aG v b)(hlo:lo≤S.n)(hl:(l.length+1)*bytes≤1099511627776)
  (hk:∀H' S' v',Mem H' S'→dN R lo S' v' (l++[a])→S.n≤S'.n→(∀b,b<S.n→¬aG v b→S'.ob b=S.ob b)→(∀b,aG v' b→aG v b∨S.n≤b)→k v' H'):aN (aA H) 1 R.sz c λx H'=>dh R.sz bytes v x H' k:=by
 obtain⟨cl,h1,h2⟩:=id h;refine AQ hM h1 R.pos (R.len hr) hl (R.ones hr) λH' S' v' m' he=>?_;refine hk H' S' v' m' (h.step hr hQ hlo λcl' h'=>?_) he.1 he.2.1 he.2.2.2;have e:cl'=cl.flatten:=by
  rcases h1 with⟨e1,e2,e3⟩|⟨b,c1,ex,cs,e1,e2,e3,e4,e5,e6,e7⟩
  ·rcases h' with⟨_,_,g3⟩|⟨b',c1',ex',cs',g1,_⟩
   ·rw[g3,e3]
   ·rw[e1]at g1;cases g1
  ·rcases h' with⟨g1,_⟩|⟨b',c1',ex',cs',g1,g2,g3,g4,g5,g6,g7⟩
   ·rw[e1]at g1;cases g1
   ·rw[e1]at g1;injection g1 with q1;subst q1;rw[e2]at g2;injection g2 with q2;rw[←g6,←e6,g5,e5,q2]
 rw[e];exact he
theorem eI.slR{Q:Nat→Prop}{sz n:Nat}{v:AV}{l:List AV}(h:eI S sz v n l)(hQ:∀b,aG v b→Q b):cM S Q sz v n (λi=>(l.drop (i*sz)).take sz):=by
 rcases h with⟨rfl,rfl,rfl⟩|⟨b,c,ex,cs,rfl,h2,h3,h4,h5,h6,h7⟩
 ·exact .inl ⟨rfl,rfl⟩
 ·refine .inr ⟨b,0,c,ex,cs,0,rfl,hQ b rfl,h2,h4,by rw[h3,Nat.zero_add];exact Nat.mul_le_mul_right _ h4,λi hi=>?_⟩;have hle:(i+1)*sz≤n*sz:=Nat.mul_le_mul_right _ (by omega);rw[Nat.add_mul,Nat.one_mul]at hle;show(cs.drop (0+i*sz)).take sz=(l.drop (i*sz)).take sz
  conv=>rhs;rw[←h6]
  rw[List.drop_take,List.take_take,Nat.min_eq_left (by omega),Nat.zero_add]
theorem SG{bytes sz n n':Nat}{v x:AV}{l:List AV}{Q:Nat→Prop}{cl:Nat→List AV}{k:AV→AH→Prop}(hM:Mem H S)(hs:eI S sz v n l)(hv:0<n'∨v≠.ab)(hsz:0<sz)(hx:cM S Q sz x n' cl)(hone:∀i,i<n'→∀a∈cl i,a.one=true)(hl:(n+n')*bytes≤1099511627776)
  (hK:∀H' S' v' l',Mem H' S'→l'.length=n'*sz→(∀i,i<n'→(l'.drop (i*sz)).take sz=cl i)→qY S v (n+n') sz (l++l') S' v'→k v' H'):dh sz bytes v x H k:=by
 have go:∀l':List AV,l'.length=n'*sz→(∀i,i<n'→(l'.drop (i*sz)).take sz=cl i)→wX sz bytes n' v l' H k:=λl' h1 h2=>by
  refine AP hM hs hsz hv h1 hl (λa ha=>?_) λH' S' v' m' he=>hK H' S' v' l' m' h1 h2 he;obtain⟨j,hj,e⟩:=List.mem_iff_getElem.1 ha;have hi:j/sz<n':=Nat.div_lt_of_lt_mul (by rw[Nat.mul_comm];omega);refine hone (j/sz) hi a ?_;rw[←h2 _ hi];rw[List.mem_iff_getElem?];refine⟨j%sz,?_⟩;rw[List.getElem?_take,if_pos (Nat.mod_lt _ hsz),List.getElem?_drop,Nat.mul_comm,Nat.div_add_mod,List.getElem?_eq_getElem hj,e]
 rcases hx with⟨rfl,rfl⟩|⟨b,o,c,ex,cs,m,rfl,h1,h2,h3,h4,h5⟩
 ·exact go [] (by simp) (λi hi=>by omega)
 ·refine rY (ex:=ex) (cap:=c) (k:=λl=>wX sz bytes n' _ l H k) hM h2 (by omega) ?_;refine go _ (by rw[List.length_take,List.length_drop];omega) λi hi=>?_;have hle:(i+1)*sz≤n'*sz:=Nat.mul_le_mul_right _ (by omega);rw[Nat.add_mul,Nat.one_mul]at hle;rw[List.drop_take,List.take_take,Nat.min_eq_left (by omega),List.drop_drop];exact h5 i hi
end
end Go.X
namespace Go.Proofs.YtcedghechlgecaaGreatDoor
open Go Go.X Go.Proofs.YtcedghechlgecaaGreatDoor.G
section
variable {H:AH}{S:LS}{K:KF}{C:Ctx}{i d:Nat}
theorem pr(m:Nat):s13 (m+1)=(zG (ko (s13 m)),zH (eB (s13 m)),zI (nR (s13 m)),zJ (ju (s13 m)),GA (oS (s13 m)),zL (mo (s13 m)),uX (ov (s13 m)),uY (fg (s13 m)),A5 (ie (s13 m)),u4 (fH (s13 m)),A6 (ig (s13 m)),va (iZ (s13 m)),vc (fy (s13 m)),A8 (jD (s13 m)),ve (gR (s13 m)),Ba (jX (s13 m)),vg (mq (s13 m)),Bc (jE (s13 m)),Be (jF (s13 m)),Bf (jc (s13 m))):=by kernel_rfl
theorem av6{m n:Nat}(hpv:C.pv=.iface 57 (.agg []))(O:iz C m n){S0:LS}{H0:AH}{i0:Nat}(hd:d≤200)(hM0:Mem H0 S0)(hp0:bS C S0 i0 d):∀k,k≤n+1→∀(q i:Nat) (first:Bool) (l:List aC) (v:AV) (H:AH) (S:LS),k≤q→l.length≤16→Mem H S→bS C S i d→an (aK C) S0 S→dN fZ S0.n S v l→Post C (aK C) d s8 K S0 (dt C.T k first l i d)→
  rp (fy (s13 m)) K q (.ptr C.bp 0) v first H:=by
 intro k
 induction k with
 |zero=>intro _ q i f l v H S _ _ _ _ _ _ hP;simp only[dt]at hP;exact False.elim hP
 |succ k ih=>
  intro hk q i first l v H S hq hl hM hp hx hO hP
  obtain⟨q,rfl⟩:∃p,q=p+1:=⟨q-1,by omega⟩
  have r1:(fy (s13 m)).1=f25:=rfl;have r2:(fy (s13 m)).2.1=f56:=rfl;have r3:(fy (s13 m)).2.2.1=f94:=rfl;have r4:(fy (s13 m)).2.2.2.1=(s13 m).2.2.2.2.1:=rfl;have r5:(fy (s13 m)).2.2.2.2=ny:=rfl;have hbp:=hp0.dO hM0;show Cf (fy (s13 m)) K (tU (fy (s13 m)) K (tT (fy (s13 m)) K (rp (fy (s13 m)) K q))) (xS (fy (s13 m)) K) (.ptr C.bp 0) v first H
  unfold Cf;rw[r1,r2,r3];simp only[dt]at hP;have Of:∀{v:AV}{l:List aC}{S1 S2:LS}{H1:AH},Mem H1 S1→dN fZ S0.n S1 v l→an (aK C) S1 S2→dN fZ S0.n S2 v l:=λm1 o g=>o.keep m1 g.1 λb h1 h2=>g.2 b h2 λe=>by have e:b=C.bp:=e;omega
  have stop:∀{H1:AH}{S1:LS}{i:Nat},Mem H1 S1→bS C S1 i d→an (aK C) S0 S1→dN fZ S0.n S1 v l→Post C (aK C) d s8 K S0 ((aW C.T [41] i).bind λ_ j=>.ok l j)→xS (fy (s13 m)) K (.ptr C.bp 0) v H1:=λ{H1 S1 i} m1 p1 x1 o1 hP=>by
   unfold xS;rw[r5];refine iu (s:=[41]) hpv (aD (by decide)) m1 p1 (Post.call (cV:=gY) hP x1 (λ_ h=>h) λ_ j H2 S2 w m2 c2 p2 _ hP2=>?_);obtain⟨cl,g1,g2⟩:=(Of m1 o1 c2).done m2;exact hP2 H2 S2 v m2 (x1.trans c2) p2 ⟨cl,g1,g2⟩
  have more:∀{H1:AH}{S1:LS}{i:Nat},Mem H1 S1→bS C S1 i d→an (aK C) S0 S1→dN fZ S0.n S1 v l→Post C (aK C) d s8 K S0 (if l.length=16 then ay.err 8 i else (bY C.T k i d).bind λe j=>dt C.T k false (l++[e]) j d)→
    dp v λv5=>cI 0 v5 λz6=>bI (bj z6 (.ofNat 16)) (f25 (.ptr C.bp 0) (.ofNat 8) H1 λo7 H8=>cR K o7 H8 λv9=>tU (fy (s13 m)) K (tT (fy (s13 m)) K (rp (fy (s13 m)) K q)) (.ptr C.bp 0) v H8) (tU (fy (s13 m)) K (tT (fy (s13 m)) K (rp (fy (s13 m)) K q)) (.ptr C.bp 0) v H1):=λ{H1 S1 i} m1 p1 x1 o1 hP=>by
   refine o1.xk ?_;have e16:Int.ofNat 16=((16:Nat):Int):=rfl;rw[aE,bq,e16];by_cases h16:l.length=16
   ·rw[if_pos h16]at hP;rw[decide_eq_true (by omega),az];refine oY (c:=8) hpv m1 p1 λH2 S2 m2 c2 e2=>?_;rw[kx];exact hP H2 S2 m2 (x1.trans c2) e2
   ·rw[if_neg h16]at hP;rw[decide_eq_false (by omega),ax];unfold tU;rw[r4];refine O.exp k (by omega) hd m1 p1 (Post.call hP x1 (λ_ h=>h) λe j H2 S2 w m2 c2 p2 ⟨c,hw,hR⟩ hP2=>?_);subst hw;rw[dD];refine dv hR.len ?_;rw[qE hR.len rfl];have o2:=Of m1 o1 c2;refine o2.push (R:=fZ) (bytes:=96) m2 hR (λb hb=>⟨Nat.le_trans x1.1 hb.1,hb.2,λq=>by have:=o1.lt m1 q;have:=hb.1;omega⟩) (Nat.le_trans x1.1 c2.1) (by omega) λH3 S3 v' m3 o3 n3 k3 b3=>?_;unfold tT;have c3:an (λb=>aG v b) S2 S3:=⟨n3,λb hb hx=>k3 b hb hx⟩
    have p3:bS C S3 j d:=p2.keep m2 c3 (λq=>by obtain⟨_,_,_,h,_⟩:=o2;have:=h _ q;omega) (λb hb q=>by
     obtain⟨_,_,_,h,_⟩:=o2;have h1:=h _ q;have h2:=hp0.tk.lt hM0 hb;omega)
    exact ih (by omega) q j false (l++[e]) v' H3 S3 (by omega) (by simp;omega) m3 p3 ((x1.trans c2).gi c3 λb hb=>.inr (by obtain⟨_,_,_,h,_⟩:=o2;exact h _ hb)) o3 hP2
  cases first with
  |true=>
   rw[az];refine rM (s:=[41]) (aD (by decide)) hM hp λH1 S1 m1 c1 p1=>?_;simp only[ai,aB];have o1:=Of hM hO (c1.no (X:=aK C));cases hi:isA C.T [41] i with
   |false=>
    simp only[hi,Bool.not_false,if_true]at hP;rw[Bool.not_false,az];exact more m1 p1 (hx.trans c1.no) o1 hP
   |true=>
    simp only[hi,Bool.not_true,if_true,Bool.false_eq_true,if_false]at hP;simp only[Bool.not_true,ax];exact stop m1 p1 (hx.trans c1.no) o1 hP
  |false=>
   simp only[Bool.not_false,ax,az];refine eH (s:=[44]) (aD (by decide)) hM hp λH1 S1 m1 c1 p1=>?_;simp only[ai,aB];have o1:=Of hM hO c1;cases hi:isA C.T [44] i with
   |true=>
    simp only[hi,if_true,Bool.false_eq_true,if_false]at hP p1;rw[az];exact more m1 p1 (hx.trans c1) o1 hP
   |false=>
    simp only[hi,if_true,Bool.false_eq_true,if_false]at hP p1;rw[ax];exact stop m1 p1 (hx.trans c1) o1 hP
theorem av7{m n:Nat}(hn:n≤900000)(hpv:C.pv=.iface 57 (.agg []))(O:iz C m n):∀k,k≤n+1→∀{K:KF}{H:AH}{S:LS}{i d:Nat},d≤200→Mem H S→bS C S i d→Post C (aK C) d s8 K S (dt C.T k true [] i d)→(s13 (m+1)).2.2.2.2.2.2.2.2.2.2.2.2.1 (.ptr C.bp 0) H K:=by
 intro k hk K H S i d hd hM hp hP;have e:(s13 (m+1)).2.2.2.2.2.2.2.2.2.2.2.2.1=vc (fy (s13 m)):=by rw[pr]
 rw[e];unfold vc Vn Kj;have gf:G.NL=1000000:=rfl;exact av6 hpv O hd hM hp k hk G.NL i true [] .ab H S (by omega) (by simp) hM hp (an.refl _ _) (dN.nil _ _ _) hP
end
end Go.Proofs.YtcedghechlgecaaGreatDoor
namespace Go.X
theorem SI(T:List Tok):∀(n:Nat) (f:Bool) (out:List aC) (i d:Nat) (l:List aC) (j:Nat),out.length≤16→dt T n f out i d=.ok l j→l.length≤16
 |0,f,out,i,d,l,j,_,h=>by simp only[dt]at h;cases h
 |n+1,f,out,i,d,l,j,ho,h=>by
  have step:∀b:Nat,(if out.length=16 then ay.err 8 b else (bY T n b d).bind λe j'=>dt T n false (out++[e]) j' d)=.ok l j→l.length≤16:=λb h=>by
   split at h
   ·cases h
   ·rename_i h16;cases he:bY T n b d with
    |ok e j'=>
     rw[he]at h;exact SI T n false (out++[e]) j' d l j (by simp;omega) h
    |err c j'=>rw[he]at h;cases h
    |bA=>rw[he]at h;cases h
  have stop:((aW T [41] i).bind λ_ j=>.ok out j)=.ok l j→l.length≤16:=λh=>by
   unfold aW at h;split at h
   ·cases h;exact ho
   ·cases h
  simp only[dt]at h;cases f with
  |true=>
   simp only[if_true]at h;cases hb:isA T [41] i with
   |true=>rw[hb]at h;exact stop h
   |false=>rw[hb]at h;exact step _ h
  |false=>
   simp only[Bool.false_eq_true,if_false]at h;cases hb:isA T [44] i with
   |true=>rw[hb]at h;exact step _ h
   |false=>rw[hb]at h;exact stop h
end Go.X
namespace Go.Proofs.YtcedghechlgecaaGreatDoor
open Go Go.X Go.Proofs.YtcedghechlgecaaGreatDoor.G
section
variable {H:AH}{S:LS}{K:KF}{C:Ctx}{i d:Nat}
theorem eI.one{sz n:Nat}{v:AV}{l:List AV}(h:eI S sz v n l):v.one=true:=by
 rcases h with⟨rfl,_⟩|⟨b,c,ex,cs,rfl,_⟩<;>rfl
theorem av8{m n:Nat}(hpv:C.pv=.iface 57 (.agg []))(O:iz C m n){S0:LS}{H0:AH}{i0 b1 b3:Nat}(hd:d≤200)(hM0:Mem H0 S0)(hp0:bS C S0 i0 d):∀k,k≤n+1→∀(q i:Nat) (e:aC) (c:List AV) (H:AH) (S:LS),k≤q→Mem H S→bS C S i d→fP C S0 S b1 b3 c e→Post C (aK C) d dc K S0 (dj C.T k e i d)→
  rm (fH (s13 m)) K q (.ptr C.bp 0) (.ptr b1 0) (.ptr b3 0) H:=by
 intro k
 induction k with
 |zero=>intro _ q i e c H S _ _ _ _ hP;simp only[dj]at hP;exact False.elim hP
 |succ k ih=>
  intro hk q i e c H S hq hM hp hF hP;obtain⟨q,rfl⟩:∃p,q=p+1:=⟨q-1,by omega⟩
  show Cb (fH (s13 m)) K (rm (fH (s13 m)) K q) (Ca (fH (s13 m)) K (rm (fH (s13 m)) K q)) (.ptr C.bp 0) (.ptr b1 0) (.ptr b3 0) H;unfold Cb;have r1:(fH (s13 m)).1=f23:=rfl;have r2:(fH (s13 m)).2.1=f56:=rfl;have r4:(fH (s13 m)).2.2.2.1=(s13 m).2.2.2.2.1:=rfl;have r5:(fH (s13 m)).2.2.2.2.1=ny:=rfl;have r6:(fH (s13 m)).2.2.2.2.2.1=f130:=rfl;have r7:(fH (s13 m)).2.2.2.2.2.2.1=f164:=rfl;have r9:(fH (s13 m)).2.2.2.2.2.2.2.2=(s13 m).2.2.2.2.2.2.2.2.2.2.2.2.1:=rfl;rw[r1,r2,r4,r5,r6,r7,r9];have hbp:=hp0.dO hM0;simp only[dj]at hP;refine jK hM hp λH1 S1 m1 c1 p1=>?_;rw[ai];refine jI ?_;have F1:=hF.keep hM hbp c1.no;refine eH (s:=[46]) (aD (by decide)) m1 p1 λH2 S2 m2 c2 p2=>?_;simp only[ai,aB];have F2:=F1.keep m1 hbp c2;have Nw:∀{H:AH}{S:LS}{c:List AV}{e:aC},Mem H S→fP C S0 S b1 b3 c e→b1<S.n∧b3<S.n∧S0.n≤S.n:=λm F=>⟨by obtain⟨z,hz,_⟩:=F.o1;exact m.lt (by rw[hz];simp),m.lt (by rw[F.o3];simp),F.x.1⟩
  cases h1:isA C.T [46] i with
  |true=>
   simp only[h1,if_true]at hP p2;rw[az];refine jK m2 p2 λH3 S3 m3 c3 p3=>?_;rw[ai];refine jI ?_;have F3:=F2.keep m2 hbp c3.no;simp only[eU];refine bE (bz m3 cm λH4 m4=>?_);refine eJ m4 (c:=[.int 0 ((5:Nat):Int),.int 0 (aq C.T (i+1):Int),.int 0 ((0:Nat):Int),af [],.int 0 ((0:Nat):Int),.ab,.ab]) (LS.ag _ _) rfl rfl (λa h=>?_) λH5 m5=>?_
   ·simp only[List.mem_cons,List.not_mem_nil,or_false]at h;rcases h with rfl|rfl|rfl|rfl|rfl|rfl|rfl<;>rfl
   have c5:an aV S3 ((S3.push (.ce z7 0)).set S3.n (.ce [.int 0 ((5:Nat):Int),.int 0 (aq C.T (i+1):Int),.int 0 ((0:Nat):Int),af [],.int 0 ((0:Nat):Int),.ab,.ab] 0)):=((an.refl _ _).push _).set (.inr (Nat.le_refl _)) _;have p5:=p3.no m3 c5;have F5:=F3.keep m3 hbp c5.no;have o5:LS.ob _ S3.n=_:=LS.aj (S3.push (.ce z7 0)) S3.n (.ce [.int 0 ((5:Nat):Int),.int 0 (aq C.T (i+1):Int),.int 0 ((0:Nat):Int),af [],.int 0 ((0:Nat):Int),.ab,.ab] 0);have n3:S0.n≤S3.n:=F3.x.1;refine yY hpv m5 p5 (Post.call hP F5.x (λ_ h=>h) λs j H6 S6 v m6 c6 p6 ⟨hv,h8⟩ hP2=>?_);subst hv;have F6:=F5.keep m5 hbp c6;have o6:=c6.ob m5 o5 λq=>by have q:S3.n=C.bp:=q;omega
   rw[aL,Nat.zero_add];refine aT m6 o6 (by omega) (by show 3<7;omega) (fe s) λH7 m7=>?_;have m7:Mem H7 (S6.set S3.n (.ce [.int 0 ((5:Nat):Int),.int 0 (aq C.T (i+1):Int),.int 0 ((0:Nat):Int),af s,.int 0 ((0:Nat):Int),.ab,.ab] 0)):=m7;have SJ:=Nw m3 F3;have c7:an (λb=>b=S3.n) S6 (S6.set S3.n (.ce [.int 0 ((5:Nat):Int),.int 0 (aq C.T (i+1):Int),.int 0 ((0:Nat):Int),af s,.int 0 ((0:Nat):Int),.ab,.ab] 0)):=(an.refl (λb=>b=S3.n) S6).set (.inl (rfl:S3.n=S3.n)) _;have F7:fP C S0 (S6.set S3.n (.ce [.int 0 ((5:Nat):Int),.int 0 (aq C.T (i+1):Int),.int 0 ((0:Nat):Int),af s,.int 0 ((0:Nat):Int),.ab,.ab] 0)) b1 b3 c e:=by
    obtain⟨z,hz,lP⟩:=F6.o1;obtain⟨Q,g1,g2⟩:=F3.re;exact⟨F6.x.set (.inr n3) _,⟨z,(LS.ah _ _ (by omega)).trans hz,lP⟩,(LS.ah _ _ (by omega)).trans F6.o3,F6.n1,F6.n3,F6.ne,Q,g1.go (λb hb=>by
     have h2:=g2 b hb;rw[LS.ah _ _ (by omega),c6.2 b (Nat.lt_of_lt_of_le h2.2.1 c5.1) (λq=>by have q:b=C.bp:=q;omega)];exact c5.2 b h2.2.1 λq=>q) (λ_ h=>h),λb hb=>⟨(g2 b hb).1,Nat.lt_of_lt_of_le (g2 b hb).2.1 (Nat.le_trans c5.1 c6.1),(g2 b hb).2.2⟩⟩
   have p7:=p6.ga hp0 hM0 n3 (.ce [.int 0 ((5:Nat):Int),.int 0 (aq C.T (i+1):Int),.int 0 ((0:Nat):Int),af s,.int 0 ((0:Nat):Int),.ab,.ab] 0);unfold Ca;rw[r7];refine ew m7 F7.o3 F7.len ?_;refine ew m7 (LS.aj _ _ _) rfl ?_;refine F7.two (kind:=9) (op:=0) (at_:=aq C.T i) (S1:=S3) (H1:=H3) (x:=.mk 5 (aq C.T (i+1)) 0 s 0 [] []) m7 hbp SJ (RE.simple h8) λH8 S8 c' m8 c8 F8 r8=>?_;refine eJ m8 F8.o3 F8.len r8.len r8.ones λH9 m9=>?_;exact ih (by omega) q j _ _ H9 _ (by omega) m9 ((p7.no m7 c8).ga hp0 hM0 hF.n3 _) (F8.lf r8 λb hb=>hb) hP2
  |false=>
  simp only[h1,Bool.false_eq_true,if_false]at hP p2;rw[ax];refine eH (s:=[91]) (aD (by decide)) m2 p2 λH3 S3 m3 c3 p3=>?_;simp only[ai,aB];have F3:=F2.keep m2 hbp c3;cases h2:isA C.T [91] i with
  |true=>
   simp only[h2,if_true]at hP p3;rw[az];have SJ:=Nw m3 F3;refine ew m3 F3.o3 F3.len ?_;refine O.exp k (by omega) hd m3 p3 (Post.call hP F3.x (λ_ h=>h) λx j H4 S4 v m4 c4 p4 ⟨cb,hv,hR⟩ hP2=>?_);subst hv;have F4:=F3.keep m3 hbp c4;refine ew m4 F4.o3 F4.len ?_;refine cE (by obtain⟨Q,h1,_⟩:=F4.re;exact h1.same) ?_;refine F4.two (kind:=9) (op:=0) (S1:=S3) (H1:=H3) m4 hbp SJ hR λH5 S5 c' m5 c5 F5 r5=>?_;refine eJ m5 F5.o3 F5.len r5.len r5.ones λH6 m6=>?_;have F6:=F5.lf r5 λb hb=>hb;have p6:=(p4.no m4 c5).ga hp0 hM0 hF.n3 (.ce c' 0);refine iu (s:=[93]) hpv (aD (by decide)) m6 p6 (Post.call (cV:=gY) hP2 F6.x (λ_ h=>h) λ_ j' H7 S7 w m7 c7 p7 _ hP3=>?_);exact ih (by omega) q j' _ _ H7 S7 (by omega) m7 p7 (F6.keep m6 hbp c7) hP3
  |false=>
  simp only[h2,Bool.false_eq_true,if_false]at hP p3;rw[ax];refine eH (s:=[40]) (aD (by decide)) m3 p3 λH4 S4 m4 c4 p4=>?_;simp only[ai,aB];have F4:=F3.keep m3 hbp c4;cases h3:isA C.T [40] i with
  |true=>
   simp only[h3,if_true]at hP p4;rw[az];have lt4:=Nw m4 F4;refine ew m4 F4.o3 F4.len ?_;refine m4.bG ?_;rw[dD];refine dv F4.len ?_;rw[qE F4.len rfl];obtain⟨Q,g1,g2⟩:=F4.re;refine cA m4 (by rw[F4.len]) g1.ones λH5 m5=>cE (mJ (by rw[m5.n,m4.n];rfl)) ?_;have c5:an aV S4 (S4.push (.ce c 0)):=(an.refl _ _).push _;have F5:=F4.keep m4 hbp c5.no;refine O.args k (by omega) hd m5 (p4.no m4 c5) ?_;cases ha:dt C.T k true [] (i+1) d with
   |bA=>rw[ha]at hP;exact hP
   |err cc j=>
    rw[ha]at hP;exact λH6 S6 m6 c6 e6=>by show cR K (.dB C.pv) H6 _;rw[kx];exact hP H6 S6 m6 (F5.x.trans c6) e6
   |ok l j=>
   rw[ha]at hP;have hll:=SI C.T k true [] (i+1) d l j (by simp) ha;intro H6 S6 v m6 c6 p6 hv;obtain⟨cl,hsl,hre⟩:=hv;rw[ai];have F6:=F5.keep m5 hbp c6;have o6:S6.ob S4.n=.ce c 0:=c6.ob m5 (LS.ag _ _) λq=>by have q:S4.n=C.bp:=q;omega
   refine ew m6 F6.o3 F6.len ?_;refine cE g1.same ?_;have fr:eI S6 7 (.slice S4.n 0 1 1 7 true) 1 c:=.inr ⟨S4.n,1,true,c,rfl,o6,by rw[F4.len],Nat.le_refl _,by rw[F4.len],List.take_of_length_le (Nat.le_refl _),g1.ones⟩;refine SG (n':=l.length) m6 fr (.inr (by simp)) (by omega) hsl (λi hi=>(hre i _ (List.getElem?_eq_getElem hi)).ones) (by omega) λH7 S7 v' l' m7 hl' hcl he=>?_;have n5:S4.n+1≤S6.n:=c6.1;have c7:an (λb=>b=S4.n) S6 S7:=⟨he.1,λb hb hx=>he.2.1 b hb hx⟩
   have o37:S7.ob b3=.ce c 0:=c7.ob m6 F6.o3 λq=>by have q:b3=S4.n:=q;omega
   refine ey (eI.one he.2.2.1) ?_;have hb7:∀b,aG v' b→S4.n≤b∧b<S7.n:=λb hb=>⟨by
    rcases he.2.2.2 b hb with g|g
    ·have g:b=S4.n:=g;omega
    ·omega,he.2.2.1.lt m7 hb⟩
   have x7:an (aK C) S0 S7:=F6.x.gi c7 λb hb=>.inr (by have hb:b=S4.n:=hb;omega);have F7:fP C S0 S7 b1 b3 c e:=by
    obtain⟨z,hz,lP⟩:=F6.o1;exact⟨x7,⟨z,c7.ob m6 hz λq=>by have q:b1=S4.n:=q;omega,lP⟩,o37,F6.n1,F6.n3,F6.ne,Q,g1.go (λb hb=>by
     have h2:=g2 b hb;rw[c7.2 b (by omega) (λq=>by have q:b=S4.n:=q;omega),c6.2 b (by show b<S4.n+1;omega) (λq=>by have q:b=C.bp:=q;omega)];exact LS.aZ _ _ h2.2.1) (λ_ h=>h),λb hb=>⟨(g2 b hb).1,by have:=(g2 b hb).2.1;have:=c7.1;omega,(g2 b hb).2.2⟩⟩
   have hnew:RE S7 (λb=>S0.n≤b∧b<S7.n∧b≠b1∧b≠b3) [.int 0 ((10:Nat):Int),.int 0 (aq C.T i:Int),.int 0 ((0:Nat):Int),af [],.int 0 ((0:Nat):Int),v',.ab] (.mk 10 (aq C.T i) 0 [] 0 (e::l) []):=by
    refine .mk 10 (aq C.T i) 0 [] 0 (e::l) [] v' .ab _ (λ_=>[]) B8.nil (by rw[List.length_cons,Nat.add_comm];exact he.2.2.1.slR λb hb=>⟨by have:=hb7 b hb;omega,(hb7 b hb).2,by have:=hb7 b hb;omega,by have:=hb7 b hb;omega⟩) (λi' e' h=>?_) (cM.nil _ _ _ _) (λi e h=>by simp at h);cases i' with
    |zero=>
     have e1:e=e':=by simpa using h
     subst e1;obtain⟨Q7,r1,r2⟩:=F7.re;have ec:((c++l').drop (0*7)).take 7=c:=by rw[Nat.zero_mul,List.drop_zero];exact List.take_left' F4.len
     rw[ec];exact r1.go (λ_ _=>rfl) r2
    |succ i'=>
     have h':l[i']? = some e':=by simpa using h
     have hi':=(List.getElem?_eq_some_iff.1 h').1;have ec:((c++l').drop ((i'+1)*7)).take 7=cl i':=by
      rw[Nat.add_mul,Nat.one_mul,Nat.add_comm,←List.drop_drop,List.drop_left' F4.len];exact hcl i' hi'
     rw[ec];exact(hre i' e' h').go (λb hb=>c7.2 b hb.2 λq=>by have q:b=S4.n:=q;have:=hb.1;have:S4.n+1≤b:=hb.1;omega) λb hb=>by
      have h4:S4.n+1≤b:=hb.1;have h5:=hb.2;have h6:=c7.1;exact⟨by omega,by omega,by omega,by omega⟩
   refine eJ m7 o37 F4.len rfl (λa h=>hnew.ones a h) λH8 m8=>?_;have p7:bS C S7 j d:=p6.keep m6 c7 (λq=>by have q:C.bp=S4.n:=q;omega) (λb hb q=>by have q:b=S4.n:=q;have:=hp0.tk.lt hM0 hb;omega);exact ih (by omega) q j _ _ H8 _ (by omega) m8 (p7.ga hp0 hM0 hF.n3 _) (F7.lf hnew λb hb=>hb) hP
  |false=>
   simp only[h3,Bool.false_eq_true,if_false]at hP p4;rw[ax];exact F4.fin m4 hM0 hp0 p4 hP
end
section
variable {H:AH}{S:LS}{K:KF}{C:Ctx}{i d:Nat}
theorem Nx{T:List Tok}{i:Nat}{k:Int→Prop}(h:k (bH T i:Int)):gz (.agg (dY T i)) λl12=>cX l12 0 λv13=>cI 0 v13 k:=by
 show cI 0 (.int 0 (bH T i:Int)) k;rw[aE];exact h
theorem av9{m n:Nat}(hn:n≤900000)(hpv:C.pv=.iface 57 (.agg []))(O:iz C m n):∀k,k≤n+1→pX C (s13 (m+1)).2.2.2.2.2.2.2.2.2.1 (jZ C.T k):=by
 intro k hk K H S i d hd hM hp hP;cases k with
 |zero=>simp only[jZ]at hP;exact False.elim hP
 |succ k=>
  have e:(s13 (m+1)).2.2.2.2.2.2.2.2.2.1=u4 (fH (s13 m)):=by rw[pr]
  rw[e];have r1:(fH (s13 m)).1=f23:=rfl;have r3:(fH (s13 m)).2.2.1=f94:=rfl;have r8:(fH (s13 m)).2.2.2.2.2.2.2.1=(s13 m).2.2.2.2.2.2.2.2.2.2.2.1:=rfl;unfold u4 Ve J6 J7;rw[r1,r3,r8,eU];simp only[jZ]at hP;have hbp:=hp.dO hM;have gf:G.NL=1000000:=rfl;generalize G.NL=iA at gf ⊢;refine bE (bz hM cm λH1 m1=>?_);have c1:an aV S (S.push (.ce z7 0)):=(an.refl _ _).push _;have p1:=hp.no hM c1;have o1:(S.push (.ce z7 0)).ob S.n=.ce z7 0:=LS.ag _ _;have cO:¬aK C S.n:=λq=>by have q:S.n=C.bp:=q;omega
  have loop:∀{H2:AH}{S2:LS},Mem H2 S2→bS C S2 i d→an aV S S2→S2.ob S.n=.ce z7 0→Post C (aK C) d dc K S ((eZ C.T k i d).bind λe j=>dj C.T k e j d)→
    (s13 m).2.2.2.2.2.2.2.2.2.2.2.1 (.ptr C.bp 0) H2 (λGD ib=>cR K GD ib λv20=>cw ib (cx Tryz.prog (aA ib) 49 λv21 gT=>ae 7 v21 v20 gT λnz=>Cc (fH (s13 m)) K (rm (fH (s13 m)) K iA) (.ptr C.bp 0) (.ptr S.n 0) v21 nz)):=by
   intro H2 S2 m2 p2 c2 o2 hP;have n2:S.n<S2.n:=m2.lt (by rw[o2];simp);refine O.simple k (by omega) hd m2 p2 (Post.call hP c2.no (λ_ h=>h) λe j H3 S3 v m3 c3 p3 ⟨c,hv,hR⟩ hP2=>?_);subst hv;simp only[eU];refine bE (bz m3 cm λH4 m4=>?_);refine eJ m4 (LS.ag _ _) rfl hR.len hR.ones λH5 m5=>?_;have c4:an aV S3 ((S3.push (.ce z7 0)).set S3.n (.ce c 0)):=((an.refl _ _).push _).set (.inr (Nat.le_refl _)) _;have F:=fP.mk0 (C:=C) hbp rfl (c2.no.trans c3) m3 (c3.ob m2 o2 cO) (hR.go (λ_ _=>rfl) λb hb=>⟨by have:=hb.1;omega,hb.2⟩);unfold Cc;exact av8 hpv O hd hM hp k (by omega) iA j e c H5 _ (by omega) m5 (p3.no m3 c4) F hP2
  refine jK m1 p1 λH2 S2 m2 c2 p2=>?_;rw[ai];refine Nx ?_;have c12:=c1.trans c2;have o2:=c2.ob m1 o1 λq=>q;have e2:Int.ofNat 2=((2:Nat):Int):=rfl;rw[bq,e2];by_cases g:bH C.T i=2
  ·rw[if_pos (.inl g)]at hP;rw[decide_eq_true (by omega)];simp only[Bool.not_true,ax];exact loop m2 p2 c12 o2 hP
  ·rw[decide_eq_false (by omega)];simp only[Bool.not_false,az];refine rM (s:=[40]) (aD (by decide)) m2 p2 λH3 S3 m3 c3 p3=>?_;simp only[ai,aB];have o3:=c3.ob m2 o2 λq=>q;have c13:=c12.trans c3;cases h1:isA C.T [40] i with
   |true=>
    rw[if_pos (.inr h1)]at hP;simp only[Bool.not_true,ax];exact loop m3 p3 c13 o3 hP
   |false=>
    rw[if_neg (by rintro(q|q);exact g q;rw[h1]at q;cases q)]at hP;simp only[Bool.not_false,az];have n3:S.n<S3.n:=m3.lt (by rw[o3];simp);refine O.simple k (by omega) hd m3 p3 (Post.tail hP c13.no (λ_ h=>h) λe j H6 S6 v m6 c6 p6 ⟨c,hv,hR⟩ hfin=>?_);subst hv;refine eJ m6 (c6.ob m3 o3 cO) rfl hR.len hR.ones λH7 m7=>?_;refine ew m7 (LS.aj _ _ _) hR.len ?_;exact hfin H7 _ _ m7 ((c13.no.trans c6).set (.inr (Nat.le_refl _)) _) (p6.ga hp hM (Nat.le_refl _) _) ⟨c,rfl,hR.go (λb hb=>LS.ah _ _ (by have:=hb.1;omega)) λb hb=>⟨by have:=hb.1;omega,hb.2⟩⟩
end
section
variable {H:AH}{S:LS}{K:KF}{C:Ctx}{i d:Nat}
def z4:List AV:=[.int 0 (.ofNat 0),.str 0 0,.int 0 (.ofNat 0),.int 0 (.ofNat 0)]
theorem SK:∀a∈z4,a.one=true:=by
 intro a ha;simp only[z4,List.mem_cons,List.not_mem_nil,or_false]at ha;rcases ha with rfl|rfl|rfl|rfl<;>rfl
theorem Aa{T:List Tok}{i:Nat}:∀a∈dY T i,a.one=true:=by
 intro a ha;simp only[dY,List.mem_cons,List.not_mem_nil,or_false]at ha;rcases ha with rfl|rfl|rfl|rfl<;>rfl
theorem vD{T:List Tok}{s:List Nat}{i:Nat}(h:isA T s i=true):bH T i≠0:=by
 rw[SE]at h;simp only[Bool.and_eq_true,Bool.or_eq_true,decide_eq_true_eq]at h;omega
theorem awa{m n:Nat}(hpv:C.pv=.iface 57 (.agg []))(O:iz C m n):∀k,k≤n+1→pX C (s13 (m+1)).2.2.2.2.2.2.2.2.2.2.2.1 (eZ C.T k):=by
 intro k hk K H S i d hd hM hp hP;cases k with
 |zero=>simp only[eZ]at hP;exact False.elim hP
 |succ k=>
  have e:(s13 (m+1)).2.2.2.2.2.2.2.2.2.2.2.1=va (iZ (s13 m)):=by rw[pr]
  rw[e];have r1:(iZ (s13 m)).1=f23:=rfl;have r2:(iZ (s13 m)).2.1=f25:=rfl;have r3:(iZ (s13 m)).2.2.1=f56:=rfl;have r4:(iZ (s13 m)).2.2.2.1=f94:=rfl;have r5:(iZ (s13 m)).2.2.2.2.1=(s13 m).2.2.2.2.1:=rfl;have r6:(iZ (s13 m)).2.2.2.2.2.1=ny:=rfl;have r7:(iZ (s13 m)).2.2.2.2.2.2.1=(s13 m).2.2.2.2.2.2.2.1:=rfl;have r8:(iZ (s13 m)).2.2.2.2.2.2.2=(s13 m).2.2.2.2.2.2.2.2.2.2.2.2.2.2.1:=rfl;unfold va Vi Kf;rw[r1,r2,r3,r4,r5,r7,r8,eU];simp only[eZ]at hP;have hbp:=hp.dO hM;refine bE (bz hM cm λH1 m1=>?_);have c1:an aV S (S.push (.ce z7 0)):=(an.refl _ _).push _;have o1:(S.push (.ce z7 0)).ob S.n=.ce z7 0:=LS.ag _ _;refine jK m1 (hp.no hM c1) λH2 S2 m2 c2 p2=>?_;rw[ai];have c12:=c1.trans c2;have o2:=c2.ob m1 o1 λq=>q;have n2:S.n<S2.n:=m2.lt (by rw[o2];simp);refine bE (bz m2 SK λH3 m3=>?_);refine gK m3 (LS.ag S2 (.ce z4 0)) (by omega) rfl (by show 0+4≤4;omega) Aa λH4 m4=>?_;have m4:Mem H4 ((S2.push (.ce z4 0)).set S2.n (.ce (dY C.T i) 0)):=m4;have c4:an aV S2 ((S2.push (.ce z4 0)).set S2.n (.ce (dY C.T i) 0)):=((an.refl _ _).push _).set (.inr (Nat.le_refl _)) _;have SL:((S2.push (.ce z4 0)).set S2.n (.ce (dY C.T i) 0)).ob S2.n=.ce (dY C.T i) 0:=LS.aj _ _ _;have n4:((S2.push (.ce z4 0)).set S2.n (.ce (dY C.T i) 0)).n=S2.n+1:=rfl;have o4:=c4.ob m2 o2 λq=>q;have p4:=p2.no m2 c4;revert m4 c4 SL n4 o4 p4;generalize (S2.push (.ce z4 0)).set S2.n (.ce (dY C.T i) 0)=S4;intro m4 c4 SL n4 o4 p4;generalize S2.n=bT at n2 SL n4 ⊢;have c14:=c12.trans c4;simp only[aL,Nat.zero_add,eU];refine aw m4 SL (v:=.int 0 (aq C.T i:Int)) rfl ?_;rw[aE];refine bE (bz m4 cm λH5 m5=>?_);generalize hC0:([.int 0 (.ofNat 0),.int 0 (aq C.T i:Int),.int 0 (.ofNat 0),.str 0 0,.int 0 (.ofNat 0),.ab,.ab]:List AV)=C0;have R0:RE S4 aV C0 (.mk 0 (aq C.T i) 0 [] 0 [] []):=by rw[←hC0];exact RE.simple B8.nil
  refine eJ m5 (LS.ag _ _) rfl R0.len R0.ones λH6 m6=>?_;have F6:fP C S ((S4.push (.ce z7 0)).set S4.n (.ce C0 0)) S.n S4.n C0 (.mk 0 (aq C.T i) 0 [] 0 [] []):=fP.mk0 (C:=C) hbp rfl c14.no m4 o4 (R0.go (λ_ _=>rfl) λb hb=>hb.elim);have c6:an aV S4 ((S4.push (.ce z7 0)).set S4.n (.ce C0 0)):=((an.refl _ _).push _).set (.inr (Nat.le_refl _)) _;have p6:=p4.no m4 c6;have sP:=c6.ob m4 SL λq=>q;revert m6 F6 c6 p6 sP;generalize (S4.push (.ce z7 0)).set S4.n (.ce C0 0)=S6;intro m6 F6 c6 p6 sP;generalize hb3:S4.n=b3 at F6 ⊢;have nT:bT≠b3:=by omega
  have Fg:¬aK C bT:=λq=>by have q:bT=C.bp:=q;omega
  have cO:¬aK C S.n:=λq=>by have q:S.n=C.bp:=q;omega
  have adv:∀{H1:AH}{S1:LS}{c:List AV}{e:aC},Mem H1 S1→bS C S1 i d→bH C.T i≠0→fP C S S1 S.n b3 c e→Post C (aK C) d dc K S (.ok e (i+1))→xR (iZ (s13 m)) K (.ptr C.bp 0) (.ptr S.n 0) (.ptr b3 0) H1:=by
   intro H1 S1 c e m1 p1 hk F hP;unfold xR Ke;simp only[cj,aL,Nat.zero_add];have hlt:=iX (i:=i) C.ok hk;have hfew:=C.few;refine aw m1 p1.ob (v:=.int 0 (i:Int)) rfl ?_;simp only[aE,dA,fL];refine w0 (by omega) (by omega) ?_;refine aT m1 p1.ob (by omega) (by show 1<4;omega) rfl λH2 m2=>?_;exact(F.keep m1 hbp (an.rL (an.refl _ _) _)).fin m2 hM hp (p1.set (e:=d) hlt) hP
  have atg:∀{r:ay aC}{H1:AH}{S1:LS}{F:KF→Prop},Mem H1 S1→an (aK C) S S1→S1.ob S.n=.ce z7 0→Post C (aK C) d dc K S r→
    (∀K',Post C (aK C) d dc K' S1 r→F K')→F (λo72 Nl=>cR K o72 Nl λv74=>ae 7 (.ptr S.n 0) v74 Nl λH75=>aF 7 (.ptr S.n 0) H75 λv76=>K (.ret v76) H75):=by
   intro r H1 S1 F m1 c1 o1 hP hF;have n1:S.n<S1.n:=m1.lt (by rw[o1];simp);refine hF _ (Post.tail hP c1 (λ_ h=>h) λe j H6 S6 v m6 c6 p6 ⟨c,hv,hR⟩ hfin=>?_);subst hv;refine eJ m6 (c6.ob m1 o1 cO) rfl hR.len hR.ones λH7 m7=>?_;refine ew m7 (LS.aj _ _ _) hR.len ?_;exact hfin H7 _ _ m7 ((c1.trans c6).set (.inr (Nat.le_refl _)) _) (p6.ga hp hM (Nat.le_refl _) _) ⟨c,rfl,hR.go (λb hb=>LS.ah _ _ (by have:=hb.1;omega)) λb hb=>⟨by have:=hb.1;omega,hb.2⟩⟩
  have hkind:∀{k:Int→Prop},k (bH C.T i:Int)→ak (.ptr bT 0) H6 λv=>cI 0 v k:=λh=>aw m6 sP (v:=.int 0 (bH C.T i:Int)) rfl (by rw[aE];exact h);have e2:Int.ofNat 2=((2:Nat):Int):=rfl;have e3:Int.ofNat 3=((3:Nat):Int):=rfl;have e4:Int.ofNat 4=((4:Nat):Int):=rfl;subst hC0;refine hkind ?_;rw[bq,e3];by_cases g3:bH C.T i=3
  ·rw[if_pos g3]at hP;rw[decide_eq_true (by omega),az];refine aw m6 sP (v:=.int 0 (xj C.T i:Int)) rfl ?_;rw[aE];refine aT (v:=.int 0 ((4:Nat):Int)) m6 F6.o3 (by omega) (by show 0<7;omega) rfl λH7 m7=>?_;have F7:=F6.lf (c':=[.int 0 ((4:Nat):Int),.int 0 (aq C.T i:Int),.int 0 ((0:Nat):Int),af [],.int 0 ((0:Nat):Int),.ab,.ab]) (e':=.mk 4 (aq C.T i) 0 [] 0 [] []) (Q:=aV) (RE.simple B8.nil) λb hb=>hb.elim;refine aw m7 ((LS.ah _ _ nT).trans sP) (v:=.int 0 (xj C.T i:Int)) rfl ?_;rw[aE];refine cE (ql _ _) ?_;refine aT (v:=.int 0 (xj C.T i:Int)) m7 F7.o3 (by omega) (by show 2<7;omega) rfl λH8 m8=>?_;have F8:=F7.lf (c':=[.int 0 ((4:Nat):Int),.int 0 (aq C.T i:Int),.int 0 (xj C.T i:Int),af [],.int 0 ((0:Nat):Int),.ab,.ab]) (e':=.mk 4 (aq C.T i) (xj C.T i) [] 0 [] []) (Q:=aV) (RE.simple B8.nil) λb hb=>hb.elim;exact adv m8 ((p6.ga hp hM F6.n3 _).ga hp hM F6.n3 _) (by omega) F8 hP
  rw[if_neg g3]at hP;rw[decide_eq_false (by omega),ax];refine hkind ?_;rw[bq,e4];by_cases g4:bH C.T i=4
  ·rw[if_pos g4]at hP;rw[decide_eq_true (by omega),az];refine aw m6 sP (v:=af (dR C.T i)) rfl ?_;refine aT (v:=.int 0 ((5:Nat):Int)) m6 F6.o3 (by omega) (by show 0<7;omega) rfl λH7 m7=>?_;have F7:=F6.lf (c':=[.int 0 ((5:Nat):Int),.int 0 (aq C.T i:Int),.int 0 ((0:Nat):Int),af [],.int 0 ((0:Nat):Int),.ab,.ab]) (e':=.mk 5 (aq C.T i) 0 [] 0 [] []) (Q:=aV) (RE.simple B8.nil) λb hb=>hb.elim;refine aw m7 ((LS.ah _ _ nT).trans sP) (v:=af (dR C.T i)) rfl ?_;refine cE (tA _ _) ?_;refine aT m7 F7.o3 (by omega) (by show 3<7;omega) (fe _) λH8 m8=>?_;have F8:=F7.lf (c':=[.int 0 ((5:Nat):Int),.int 0 (aq C.T i:Int),.int 0 ((0:Nat):Int),af (dR C.T i),.int 0 ((0:Nat):Int),.ab,.ab]) (e':=.mk 5 (aq C.T i) 0 (dR C.T i) 0 [] []) (Q:=aV) (RE.simple (mz C i)) λb hb=>hb.elim;exact adv m8 ((p6.ga hp hM F6.n3 _).ga hp hM F6.n3 _) (by omega) F8 hP
  rw[if_neg g4]at hP;rw[decide_eq_false (by omega),ax];refine hkind ?_;rw[bq,e2];by_cases g2:bH C.T i=2
  ·rw[if_pos g2]at hP;rw[decide_eq_true (by omega),az];refine aw m6 sP (v:=af (dR C.T i)) rfl ?_;refine aT (v:=.int 0 ((6:Nat):Int)) m6 F6.o3 (by omega) (by show 0<7;omega) rfl λH7 m7=>?_;have F7:=F6.lf (c':=[.int 0 ((6:Nat):Int),.int 0 (aq C.T i:Int),.int 0 ((0:Nat):Int),af [],.int 0 ((0:Nat):Int),.ab,.ab]) (e':=.mk 6 (aq C.T i) 0 [] 0 [] []) (Q:=aV) (RE.simple B8.nil) λb hb=>hb.elim;refine aw m7 ((LS.ah _ _ nT).trans sP) (v:=af (dR C.T i)) rfl ?_;refine cE (tA _ _) ?_;refine aT m7 F7.o3 (by omega) (by show 3<7;omega) (fe _) λH8 m8=>?_;have F8:=F7.lf (c':=[.int 0 ((6:Nat):Int),.int 0 (aq C.T i:Int),.int 0 ((0:Nat):Int),af (dR C.T i),.int 0 ((0:Nat):Int),.ab,.ab]) (e':=.mk 6 (aq C.T i) 0 (dR C.T i) 0 [] []) (Q:=aV) (RE.simple (mz C i)) λb hb=>hb.elim;exact adv m8 ((p6.ga hp hM F6.n3 _).ga hp hM F6.n3 _) (by omega) F8 hP
  rw[if_neg g2]at hP;rw[decide_eq_false (by omega),ax];have lone:∀{H1:AH}{S1:LS}{c:List AV}{e:aC}(kd:Nat) , jY C.T i=kd→kd≠0→bH C.T i≠0→c=[.int 0 (.ofNat 0),.int 0 (aq C.T i:Int),.int 0 (.ofNat 0),.str 0 0,.int 0 (.ofNat 0),.ab,.ab]→Mem H1 S1→bS C S1 i d→fP C S S1 S.n b3 c e→
    ae 1 (.ptr b3 0) (.int 0 (kd:Int)) H1 λNh=>xR (iZ (s13 m)) K (.ptr C.bp 0) (.ptr S.n 0) (.ptr b3 0) Nh:=by
   intro H1 S1 c e kd hkd hk0 hk1 hc m1 p1 F;rw[hkd,if_pos hk0]at hP;subst hc;refine aT m1 F.o3 (by omega) (by show 0<7;omega) rfl λH7 m7=>?_;have F7:=F.lf (c':=[.int 0 (kd:Int),.int 0 (aq C.T i:Int),.int 0 ((0:Nat):Int),af [],.int 0 ((0:Nat):Int),.ab,.ab]) (e':=.mk kd (aq C.T i) 0 [] 0 [] []) (Q:=aV) (RE.simple B8.nil) λb hb=>hb.elim;exact adv m7 (p1.ga hp hM F.n3 _) hk1 F7 hP
  refine rM (s:=[110,105,108]) (aD (by decide)) m6 p6 λH7 S7 m7 c7 p7=>?_;simp only[ai,aB];have F7:=F6.keep m6 hbp c7.no;cases h1:isA C.T [110,105,108] i with
  |true=>
   rw[az];exact lone 1 (by unfold jY;rw[h1];rfl) (by omega) (vD h1) rfl m7 p7 F7
  |false=>
  rw[ax];refine rM (s:=[116,114,117,101]) (aD (by decide)) m7 p7 λH8 S8 m8 c8 p8=>?_;simp only[ai,aB];have F8:=F7.keep m7 hbp c8.no;cases h2:isA C.T [116,114,117,101] i with
  |true=>
   rw[az];exact lone 2 (by unfold jY;rw[h1,h2];rfl) (by omega) (vD h2) rfl m8 p8 F8
  |false=>
  rw[ax];refine rM (s:=[102,97,108,115,101]) (aD (by decide)) m8 p8 λH9 S9 m9 c9 p9=>?_;simp only[ai,aB];have F9:=F8.keep m8 hbp c9.no;cases h3:isA C.T [102,97,108,115,101] i with
  |true=>
   rw[az];exact lone 3 (by unfold jY;rw[h1,h2,h3];rfl) (by omega) (vD h3) rfl m9 p9 F9
  |false=>
  rw[ax];have hl0:jY C.T i=0:=by unfold jY;rw[h1,h2,h3];rfl
  rw[if_neg (by rw[hl0];exact λq=>q rfl)]at hP;have Wq:=(c7.trans c8).trans c9;have oT9:=Wq.ob m6 sP λq=>q;have o9:S9.ob S.n=.ce z7 0:=(c6.trans Wq).ob m4 o4 λq=>q;have x9:an (aK C) S S9:=F9.x;refine eH (s:=[102,117,110,99,116,105,111,110]) (aD (by decide)) m9 p9 λHa Sa ma ca pa=>?_;simp only[ai,aB];have oTa:=ca.ob m9 oT9 Fg;have oa:=ca.ob m9 o9 cO;have Fa:=F9.keep m9 hbp ca;cases h4:isA C.T [102,117,110,99,116,105,111,110] i with
  |true=>
   simp only[h4,if_true]at hP pa;rw[az];refine aw ma oTa (v:=.int 0 (aq C.T i:Int)) rfl ?_;rw[aE];exact atg (F:=λK'=>(s13 m).2.2.2.2.2.2.2.1 (.ptr C.bp 0) (aq C.T i:Int) Ha K') ma Fa.x oa hP λK' h=>O.body k (by omega) hd ma pa h
  |false=>
  simp only[h4,Bool.false_eq_true,if_false]at hP pa;rw[ax];refine eH (s:=[123]) (aD (by decide)) ma pa λHb Sb mb cb pb=>?_;simp only[ai,aB];have oTb:=cb.ob ma oTa Fg;have ob:=cb.ob ma oa cO;have Fb:=Fa.keep ma hbp cb;cases h5:isA C.T [123] i with
  |true=>
   simp only[h5,if_true]at hP pb;rw[az];refine aw mb oTb (v:=.int 0 (aq C.T i:Int)) rfl ?_;rw[aE];exact atg (F:=λK'=>(s13 m).2.2.2.2.2.2.2.2.2.2.2.2.2.2.1 (.ptr C.bp 0) (aq C.T i:Int) Hb K') mb Fb.x ob hP λK' h=>O.table k (by omega) hd mb pb h
  |false=>
  simp only[h5,Bool.false_eq_true,if_false]at hP pb;rw[ax];refine eH (s:=[40]) (aD (by decide)) mb pb λHc Sc mc cc pc=>?_;simp only[ai,aB];have Fc:=Fb.keep mb hbp cc;cases h6:isA C.T [40] i with
  |true=>
   simp only[h6,if_true]at hP pc;rw[az];refine O.exp k (by omega) hd mc pc (Post.call hP Fc.x (λ_ h=>h) λx j Hd Sd v md cd pd ⟨c,hv,hR⟩ hP2=>?_);subst hv;have Fd:=Fc.keep mc hbp cd;have n1c:S.n<Sc.n∧b3<Sc.n:=⟨by obtain⟨z,hz,_⟩:=Fc.o1;exact mc.lt (by rw[hz];simp),mc.lt (by rw[Fc.o3];simp)⟩
   refine eJ md Fd.o3 Fd.len hR.len hR.ones λHe me=>?_;have Fe:=Fd.lf hR λb hb=>⟨by have:=hb.1;omega,hb.2,by have:=hb.1;omega,by have:=hb.1;omega⟩
   unfold Kd Kb;rw[r6];refine iu (s:=[41]) hpv (aD (by decide)) me (pd.ga hp hM Fd.n3 _) (Post.call (cV:=gY) hP2 Fe.x (λ_ h=>h) λ_ j' Hf Sf w mf cf pf _ hP3=>?_);exact(Fe.keep me hbp cf).fin mf hM hp pf hP3
  |false=>
  simp only[h6,Bool.false_eq_true,if_false]at hP pc;rw[ax];refine oY (c:=14) hpv mc pc λHd Sd md cd ed=>?_;rw[kx];exact hP Hd Sd md (Fc.x.trans cd) ed
end
end Go.Proofs.YtcedghechlgecaaGreatDoor
namespace Go.X
section
variable {H:AH}{S:LS}
theorem dN.same{α:Type}{R:Rep α}{lo:Nat}{v:AV}{l:List α}(h:dN R lo S v l):aU v v=true:=by
 obtain⟨cl,h1,_⟩:=h;rcases h1 with⟨rfl,_⟩|⟨b,c,ex,cs,rfl,_⟩
 ·rfl
 ·simp[aU]
theorem dN.one{α:Type}{R:Rep α}{lo:Nat}{v:AV}{l:List α}(h:dN R lo S v l):v.one=true:=by
 obtain⟨cl,h1,_⟩:=h;rcases h1 with⟨rfl,_⟩|⟨b,c,ex,cs,rfl,_⟩<;>rfl
theorem dN.lo{α:Type}{R:Rep α}{lo:Nat}{v:AV}{l:List α}(h:dN R lo S v l){b:Nat}(hb:aG v b):lo≤b:=by
 obtain⟨_,_,_,h3,_⟩:=h;exact h3 b hb
theorem dN.acB{α:Type}{R:Rep α}{lo:Nat}{v v':AV}{l l2:List α}{S':LS}{kQ:List (List AV)}(h:dN R lo S v l)(h2l:kQ.length=l2.length)(hr:∀(i:Nat) (c:List AV) (a:α),kQ[i]? = some c→l2[i]? = some a→∃Q,R.rel S Q c a∧∀b,Q b→lo≤b∧b<S.n∧¬aG v b)(hlo:lo≤S.n)
  (hs:∀cl,eI S R.sz v l.length cl→qY S v (l.length+l2.length) R.sz (cl++kQ.flatten) S' v'):dN R lo S' v' (l++l2):=by
 obtain⟨cl,h1,h2,h3,h4⟩:=h;obtain⟨a1,a2,a3,a4⟩:=hs _ h1;refine⟨cl++kQ,?_,by simp[h2,h2l],λb hb'=>?_,λi c' a' hc ha=>?_⟩
 ·rw[List.flatten_append,List.length_append];exact a3
 ·rcases a4 b hb' with g|g
  ·exact h3 b g
  ·omega
 ·have fin:∀{Q:Nat→Prop}{c:List AV}{a:α},R.rel S Q c a→(∀b,Q b→lo≤b∧b<S.n∧¬aG v b)→∃Q,R.rel S' Q c a∧∀b,Q b→lo≤b∧b<S'.n∧¬aG v' b:=λ{Q c a} g1 g2=>
   ⟨Q,R.go (λb hb=>a2 b (g2 b hb).2.1 (g2 b hb).2.2) (λ_ h=>h) g1,λb hb=>⟨(g2 b hb).1,Nat.lt_of_lt_of_le (g2 b hb).2.1 a1,λhb'=>by
    rcases a4 b hb' with q|q
    ·exact(g2 b hb).2.2 q
    ·have:=(g2 b hb).2.1;omega⟩⟩
  by_cases hi:i<cl.length
  ·rw[List.getElem?_append_left hi]at hc;rw[List.getElem?_append_left (by omega)]at ha;obtain⟨Q,g1,g2⟩:=h4 i c' a' hc ha;exact fin g1 g2
  ·rw[List.getElem?_append_right (by omega)]at hc ha;rw[h2]at hc;obtain⟨Q,g1,g2⟩:=hr _ c' a' hc ha;exact fin g1 g2
theorem dN.Ji{α:Type}{R:Rep α}{lo bytes:Nat}{v x:AV}{l l2:List α}{kQ:Nat→List AV}{Q:Nat→Prop}{k:AV→AH→Prop}(h:dN R lo S v l)(hM:Mem H S)(h2:l2.length=2)(hx:cM S Q R.sz x l2.length kQ)(hr:∀i e,l2[i]? = some e→R.rel S Q (kQ i) e)(hQ:∀b,Q b→lo≤b∧b<S.n∧¬aG v b)(hlo:lo≤S.n)(hl:(l.length+2)*bytes≤1099511627776)
  (hk:∀H' S' v',Mem H' S'→dN R lo S' v' (l++l2)→S.n≤S'.n→(∀b,b<S.n→¬aG v b→S'.ob b=S.ob b)→(∀b,aG v' b→aG v b∨S.n≤b)→k v' H'):dh R.sz bytes v x H k:=by
 obtain⟨cl,h1,hh⟩:=id h;have gt:∀i,i<l2.length→(kQ i).length=R.sz∧∀a∈kQ i,a.one=true:=λi hi=>by
  have g:=hr i _ (List.getElem?_eq_getElem hi);exact⟨R.len g,R.ones g⟩
 refine SG (n':=l2.length) hM h1 (.inl (by omega)) R.pos hx (λi hi=>(gt i hi).2) (by rw[h2];exact hl) λH' S' v' l' m' hl' hcl he=>?_;have el:l'=([kQ 0,kQ 1]:List (List AV)).flatten:=by
  have e0:=hcl 0 (by omega);have e1:=hcl 1 (by omega);rw[Nat.zero_mul,List.drop_zero]at e0;rw[Nat.one_mul,List.take_of_length_le (by rw[List.length_drop];rw[h2]at hl';omega)]at e1;rw[←e0,←e1];simp
 refine hk H' S' v' m' (h.acB (kQ:=[kQ 0,kQ 1]) (by rw[h2];rfl) (λi c a hc ha=>?_) hlo λcl' h'=>?_) he.1 he.2.1 he.2.2.2
 ·have hi:i<l2.length:=(List.getElem?_eq_some_iff.1 ha).1;have ec:c=kQ i:=by
   have hi2:i=0∨i=1:=by omega
   rcases hi2 with rfl|rfl<;>(simp at hc;exact hc.symm)
  subst ec;exact⟨Q,hr i a ha,hQ⟩
 ·have e:cl'=cl.flatten:=by
   rcases h1 with⟨e1,e2,e3⟩|⟨b,c1,ex,cs,e1,e2,e3,e4,e5,e6,e7⟩
   ·rcases h' with⟨_,_,g3⟩|⟨b',c1',ex',cs',g1,_⟩
    ·rw[g3,e3]
    ·rw[e1]at g1;cases g1
   ·rcases h' with⟨g1,_⟩|⟨b',c1',ex',cs',g1,g2,g3,g4,g5,g6,g7⟩
    ·rw[e1]at g1;cases g1
    ·rw[e1]at g1;injection g1 with q1;subst q1;rw[e2]at g2;injection g2 with q2;rw[←g6,←e6,g5,e5,q2]
  rw[e,←el];exact he
theorem Post.auy{C:Ctx}{X Y:Nat→Prop}{S S1:LS}{K:KF}{d d1:Nat}{α β:Type}{cV:LS→(Nat→Prop)→AV→α→Prop}{An:LS→(Nat→Prop)→AV→β→Prop}{r1:ay α}{f:α→Nat→ay β}(h:Post C X d An K S (r1.bind f))(hx:an X S S1)(hX:∀b,Y b→X b∨S.n≤b){k:AV→AH→Prop}
  (hk:∀a j H' S' v,r1=.ok a j→Mem H' S'→an Y S1 S'→bS C S' j d1→cV S' (fb S1.n S'.n) v a→Post C X d An K S (f a j)→k v H'):Post C Y d1 cV (λo H=>cR K o H λv=>k v H) S1 r1:=by
 cases r1 with
 |ok a j=>exact λH' S' v m c p q=>hk a j H' S' v rfl m c p q h
 |err c j=>exact λH' S' m ch p=>h H' S' m (hx.gi ch hX) p
 |bA=>exact h
theorem bind_ok{α β:Type}{r:ay α}{f:α→Nat→ay β}{b:β}{j:Nat}(h:r.bind f=.ok b j):∃a i,r=.ok a i∧f a i=.ok b j:=by
 cases r with
 |ok a i=>exact⟨a,i,rfl,h⟩
 |err c i=>cases h
 |bA=>cases h
theorem ajS(T:List Tok)(n c i d:Nat)(r:List aC×Nat)(j:Nat)(h:iq T n c i d=.ok r j):r.1.length=2∧r.2≤c+1:=by
 cases n with
 |zero=>simp only[iq]at h;cases h
 |succ n=>
  simp only[iq]at h;split at h
  ·obtain⟨_,_,_,h⟩:=bind_ok h;obtain⟨_,_,_,h⟩:=bind_ok h;obtain⟨_,_,_,h⟩:=bind_ok h;obtain⟨_,_,_,h⟩:=bind_ok h;cases h;exact⟨rfl,Nat.le_succ _⟩
  ·split at h
   ·obtain⟨_,_,_,h⟩:=bind_ok h;cases h;exact⟨rfl,Nat.le_succ _⟩
   ·obtain⟨_,_,_,h⟩:=bind_ok h;cases h;exact⟨rfl,Nat.le_refl _⟩
end
end Go.X
namespace Go.Proofs.YtcedghechlgecaaGreatDoor
open Go Go.X Go.Proofs.YtcedghechlgecaaGreatDoor.G
section
variable {H:AH}{S:LS}{K:KF}{C:Ctx}{i d:Nat}
def lg(a:Nat)(v:AV):List AV:=[.int 0 ((8:Nat):Int),.int 0 (a:Int),.int 0 ((0:Nat):Int),af [],.int 0 ((0:Nat):Int),v,.ab]
structure Ab(C:Ctx)(S0 S:LS)(a c:Nat)(v:AV)(out:List aC):Prop where
 x:an (aK C) S0 S
 o1:S.ob S0.n=.ce z7 0
 o3:S.ob (S0.n+1)=.ce (lg a v) 0
 on:S.ob (S0.n+2)=.ce [.int 0 (c:Int)] 0
 n:S0.n+3≤S.n
 L:dN fZ (S0.n+3) S v out
theorem Ab.keep{S0 S':LS}{a c:Nat}{v:AV}{out:List aC}(h:Ab C S0 S a c v out)(hM:Mem H S)(hbp:C.bp<S0.n)(g:an (aK C) S S'):Ab C S0 S' a c v out:=by
 have nb:∀b,S0.n≤b→¬aK C b:=λb hb q=>by have q:b=C.bp:=q;omega
 exact⟨h.x.trans g,g.ob hM h.o1 (nb _ (Nat.le_refl _)),g.ob hM h.o3 (nb _ (by omega)),g.ob hM h.on (nb _ (by omega)),Nat.le_trans h.n g.1,h.L.keep hM g.1 λb h1 h2=>g.2 b h2 (nb b (by omega))⟩
theorem Ab.fr{S0:LS}{a c:Nat}{v:AV}{out:List aC}(h:Ab C S0 S a c v out)(hM:Mem H S):fP C S0 S S0.n (S0.n+1) (lg a v) (.mk 8 a 0 [] 0 out []):=by
 obtain⟨cl,g1,g2⟩:=h.L.done hM;exact⟨h.x,⟨z7,h.o1,rfl⟩,h.o3,Nat.le_refl _,by omega,by omega,fb (S0.n+3) S.n,.mk 8 a 0 [] 0 out [] v .ab cl (λ_=>[]) B8.nil g1 g2 (cM.nil _ _ _ _) (λi e h=>by simp at h),λb hb=>⟨by have:=hb.1;omega,hb.2,by have:=hb.1;omega,by have:=hb.1;omega⟩⟩
theorem awb{m n:Nat}(hpv:C.pv=.iface 57 (.agg []))(O:iz C m n){S0:LS}{H0:AH}{i0 a:Nat}(hd:d≤200)(hM0:Mem H0 S0)(hp0:bS C S0 i0 d):∀k,k≤n+1→∀(q i c:Nat) (out:List aC) (v:AV) (H:AH) (S:LS),k≤q→out.length≤128→out.length%2=0→c≤out.length→Mem H S→bS C S i d→Ab C S0 S a c v out→Post C (aK C) d dc K S0 (fJ C.T k out c a i d)→
  tX (gR (s13 m)) K q (.ptr C.bp 0) (.ptr S0.n 0) (.ptr (S0.n+1) 0) (.ptr (S0.n+2) 0) H:=by
 intro k
 induction k with
 |zero=>intro _ q i c out v H S _ _ _ _ _ _ _ hP;simp only[fJ]at hP;exact False.elim hP
 |succ k ih=>
  intro hk q i c out v H S hq h128 hev hc hM hp t hP;obtain⟨q,rfl⟩:∃p,q=p+1:=⟨q-1,by omega⟩
  have r1:(gR (s13 m)).1=f25:=rfl;have r2:(gR (s13 m)).2.1=f56:=rfl;have r3:(gR (s13 m)).2.2.1=f94:=rfl;have r4:(gR (s13 m)).2.2.2.1=ny:=rfl;have r5:(gR (s13 m)).2.2.2.2=(s13 m).2.2.2.2.2.2.2.2.2.2.2.2.2.2.2.2.1:=rfl;have hbp:=hp0.dO hM0;show Ck (gR (s13 m)) K (Cj (gR (s13 m)) K (tX (gR (s13 m)) K q) (tW (gR (s13 m)) K)) (tW (gR (s13 m)) K) (.ptr C.bp 0) (.ptr S0.n 0) (.ptr (S0.n+1) 0) (.ptr (S0.n+2) 0) H;unfold Ck;rw[r1,r3];simp only[fJ]at hP;have stop:∀{H1:AH}{S1:LS}{i c:Nat}{v:AV}{out:List aC},Mem H1 S1→bS C S1 i d→Ab C S0 S1 a c v out→Post C (aK C) d dc K S0 ((aW C.T [125] i).bind λ_ j=>.ok (.mk 8 a 0 [] 0 out []) j)→tW (gR (s13 m)) K (.ptr C.bp 0) (.ptr S0.n 0) (.ptr (S0.n+1) 0) H1:=by
   intro H1 S1 i c v out m1 p1 t1 hP;unfold tW;rw[r4];have F1:=t1.fr m1;refine iu (s:=[125]) hpv (aD (by decide)) m1 p1 (Post.call (cV:=gY) hP F1.x (λ_ h=>h) λ_ j H2 S2 w m2 c2 p2 _ hP2=>?_);exact(F1.keep m1 hbp c2).fin m2 hM0 hp0 p2 hP2
  refine rM (s:=[125]) (aD (by decide)) hM hp λH1 S1 m1 c1 p1=>?_;simp only[ai,aB];have t1:=t.keep hM hbp c1.no;cases h1:isA C.T [125] i with
  |true=>
   simp only[h1,if_true]at hP;simp only[Bool.not_true,ax];exact stop m1 p1 t1 (by unfold aW;rw[h1];exact hP)
  |false=>
   simp only[h1,Bool.false_eq_true,if_false]at hP;simp only[Bool.not_false,az,aL,Nat.zero_add];refine aw m1 t1.o3 (v:=v) rfl ?_;refine t1.L.xk ?_;have e128:Int.ofNat 128=((128:Nat):Int):=rfl;rw[aE,bq,e128];by_cases h2:out.length=128
   ·rw[if_pos h2]at hP;rw[decide_eq_true (by omega),az];refine oY (c:=8) hpv m1 p1 λH2 S2 m2 c2 e2=>?_;rw[kx];exact hP H2 S2 m2 (t1.x.trans c2) e2
   ·rw[if_neg h2]at hP;rw[decide_eq_false (by omega),ax];unfold Cj;rw[r2,r5];simp only[aL,Nat.zero_add];refine aw m1 t1.o3 (v:=v) rfl ?_;have oK:∀b,aG C.vT b→b<S0.n:=λb hb=>hp0.tk.lt hM0 hb;refine O.field k (by omega) (c:=c) (bn:=S0.n+2) hd (by omega) m1 p1 t1.on (by omega) (λb hb=>by have:=oK b hb;omega) (Post.auy hP t1.x (λb hb=>by
     rcases hb with hb|hb
     ·exact .inl hb
     ·exact .inr (by omega)) λr j H2 S2 w e2 m2 c2 p2 ⟨⟨cl,hsl,hre⟩,hcn⟩ hP2=>?_)
    have hn2:=c2.1;have hn1:=t1.n;have nx:∀b,S0.n≤b→b≠S0.n+2→¬cG C (S0.n+2) b:=λb h1 h2 q=>by
     rcases q with q|q
     ·omega
     ·exact h2 q
    have o3:=c2.ob m1 t1.o3 (nx _ (by omega) (by omega));have o1:=c2.ob m1 t1.o1 (nx _ (by omega) (by omega));obtain⟨hr2,hrc⟩:=ajS _ _ _ _ _ _ _ e2;have L2:dN fZ (S0.n+3) S2 v out:=t1.L.keep m1 c2.1 λb h1 h2=>c2.2 b h2 (nx b (by omega) (by omega));refine aw m2 o3 (v:=v) rfl ?_;refine cE L2.same ?_;refine L2.Ji (R:=fZ) (bytes:=96) m2 hr2 hsl hre (λb hb=>⟨by have:=hb.1;omega,hb.2,λq=>by have:=t1.L.lt m1 q;have:=hb.1;omega⟩) (by omega) (by omega) λH3 S3 v' m3 L3 n3 k3 b3=>?_;have c3:an (λb=>aG v b) S2 S3:=⟨n3,λb hb hx=>k3 b hb hx⟩
    have nv:∀b,b<S0.n+3→¬aG v b:=λb hb q=>by have:=t1.L.lo q;omega
    refine aT m3 (c3.ob m2 o3 (nv _ (by omega))) (by omega) (by show 5<7;omega) L3.one λH4 m4=>?_;have m4:Mem H4 (S3.set (S0.n+1) (.ce (lg a v') 0)):=m4;have p4:bS C (S3.set (S0.n+1) (.ce (lg a v') 0)) j d:=(p2.keep m2 c3 (nv _ (by omega)) (λb hb q=>nv b (by have:=oK b hb;omega) q)).ga hp0 hM0 (by omega) _;have x2:an (aK C) S0 S2:=t1.x.gi c2 λb hb=>by
     rcases hb with hb|hb
     ·exact .inl hb
     ·exact .inr (by omega)
    have x3:an (aK C) S0 S3:=x2.gi c3 λb hb=>.inr (by have:=t1.L.lo hb;omega);have t4:Ab C S0 (S3.set (S0.n+1) (.ce (lg a v') 0)) a r.2 v' (out++r.1):=
     ⟨x3.set (.inr (by omega)) _,(LS.ah _ _ (by omega)).trans (c3.ob m2 o1 (nv _ (by omega))),LS.aj _ _ _,(LS.ah _ _ (by omega)).trans (c3.ob m2 hcn (nv _ (by omega))),Nat.le_trans hn1 (Nat.le_trans hn2 n3),L3.keep m3 (Nat.le_refl _) λb h1 h2=>LS.ah _ _ (by omega)⟩
    have hlen:(out++r.1).length=out.length+2:=by rw[List.length_append,hr2]
    have go:∀{H5:AH}{S5:LS},Mem H5 S5→bS C S5 (j+1) d→an (aK C) (S3.set (S0.n+1) (.ce (lg a v') 0)) S5→Post C (aK C) d dc K S0 (fJ C.T k (out++r.1) r.2 a (j+1) d)→tX (gR (s13 m)) K q (.ptr C.bp 0) (.ptr S0.n 0) (.ptr (S0.n+1) 0) (.ptr (S0.n+2) 0) H5:=λ{H5 S5} m5 p5 c5 hP=>ih (by omega) q (j+1) r.2 (out++r.1) v' H5 S5 (by omega) (by omega) (by omega) (by omega) m5 p5 (t4.keep m4 hbp c5) hP;refine eH (s:=[44]) (aD (by decide)) m4 p4 λH5 S5 m5 c5 p5=>?_;simp only[ai,aB];cases h3:isA C.T [44] j with
    |true=>
     rw[if_pos (.inl h3)]at hP2;simp only[h3,if_true]at p5;simp only[Bool.not_true,ax];exact go m5 p5 c5 hP2
    |false=>
     simp only[h3,Bool.false_eq_true,if_false]at p5;simp only[Bool.not_false,az];refine eH (s:=[59]) (aD (by decide)) m5 p5 λH6 S6 m6 c6 p6=>?_;simp only[ai,aB];cases h4:isA C.T [59] j with
     |true=>
      rw[if_pos (.inr h4)]at hP2;simp only[h4,if_true]at p6;simp only[Bool.not_true,ax];exact go m6 p6 (c5.trans c6) hP2
     |false=>
      rw[if_neg (by rintro(q|q);rw[h3]at q;cases q;rw[h4]at q;cases q)]at hP2;simp only[h4,Bool.false_eq_true,if_false]at p6;simp only[Bool.not_false,az];exact stop m6 p6 ((t4.keep m4 hbp c5).keep m5 hbp c6) hP2
theorem SM{a:Nat}:∀x∈lg a .ab,x.one=true:=λx hx=>(RE.simple (S:=⟨0,λ_=>.ce [] 0⟩) (Q:=aV) (kind:=8) (at_:=a) (n:=0) (op:=0) B8.nil).ones x hx
theorem awc{m n:Nat}(hn:n≤900000)(hpv:C.pv=.iface 57 (.agg []))(O:iz C m n):∀k,k≤n+1→∀{K:KF}{H:AH}{S:LS}{i d a:Nat},d≤200→Mem H S→bS C S i d→Post C (aK C) d dc K S (fJ C.T k [] 0 a i d)→(s13 (m+1)).2.2.2.2.2.2.2.2.2.2.2.2.2.2.1 (.ptr C.bp 0) (a:Int) H K:=by
 intro k hk K H S i d a hd hM hp hP;have e:(s13 (m+1)).2.2.2.2.2.2.2.2.2.2.2.2.2.2.1=ve (gR (s13 m)):=by rw[pr]
 rw[e];unfold ve Vr Km;have gf:G.NL=1000000:=rfl;generalize G.NL=iA at gf ⊢;rw[eU];refine bE (bz hM cm λH1 m1=>?_);rw[eU];refine bE (bz m1 cm λH2 m2=>?_);refine eJ m2 (c:=lg a .ab) (LS.ag _ _) rfl rfl SM λH3 m3=>?_;refine bE (bz m3 (λx hx=>?_) λH4 m4=>?_)
 ·simp only[List.mem_cons,List.not_mem_nil,or_false]at hx;subst hx;rfl
 refine aT (v:=.int 0 ((0:Nat):Int)) m4 (LS.ag _ _) (by omega) (by show 0<1;omega) rfl λH5 m5=>?_;have c1:an aV S (S.push (.ce z7 0)):=(an.refl _ _).push _;have c3:an aV (S.push (.ce z7 0)) (((S.push (.ce z7 0)).push (.ce z7 0)).set (S.n+1) (.ce (lg a .ab) 0)):=((an.refl _ _).push _).set (.inr (Nat.le_refl _)) _;have c5:an aV (((S.push (.ce z7 0)).push (.ce z7 0)).set (S.n+1) (.ce (lg a .ab) 0)) (((((S.push (.ce z7 0)).push (.ce z7 0)).set (S.n+1) (.ce (lg a .ab) 0)).push (.ce [.int 0 (.ofNat 0)] 0)).set (S.n+2) (.ce [.int 0 ((0:Nat):Int)] 0)):=((an.refl _ _).push _).set (.inr (Nat.le_refl _)) _;have t:Ab C S (((((S.push (.ce z7 0)).push (.ce z7 0)).set (S.n+1) (.ce (lg a .ab) 0)).push (.ce [.int 0 (.ofNat 0)] 0)).set (S.n+2) (.ce [.int 0 ((0:Nat):Int)] 0)) a 0 .ab []:=
  ⟨((c1.trans c3).trans c5).no,(c3.trans c5).ob m1 (LS.ag _ _) (λq=>q),c5.ob m3 (LS.aj _ _ _) (λq=>q),LS.aj _ _ _,Nat.le_refl _,dN.nil _ _ _⟩
 exact awb hpv O hd hM hp k hk iA i 0 [] .ab H5 _ (by omega) (by simp) (by simp) (by simp) m5 (hp.no hM ((c1.trans c3).trans c5)) t hP
end
end Go.Proofs.YtcedghechlgecaaGreatDoor
namespace Go.X
theorem ath{a b:Nat}{k:AV→Prop}(h:∀z:Nat,(z=a∧a<b∨z=b∧b≤a)→k (.int 0 (z:Int))):BM NT [.int 0 (a:Int)] (.int 0 (b:Int)) k:=by
 show bI (cg (a:Int) (b:Int)) (k (.int 0 (a:Int))) (k (.int 0 (b:Int)));rw[cn];exact bN (λg=>h a (.inl ⟨rfl,by omega⟩)) (λg=>h b (.inr ⟨rfl,by omega⟩))
theorem ati{a b c d e f g:AV}{l z:List AV}(hl:l.length=7)(hz:z.length=7):spl l (a::b::c::d::e::f::g::z) 7=[a,b,c,d,e,f,g]++l:=by
 match l,hl,z,hz with
 |[_,_,_,_,_,_,_],_,[_,_,_,_,_,_,_],_=>rfl
end Go.X
namespace Go.Proofs.YtcedghechlgecaaGreatDoor
open Go Go.X Go.Proofs.YtcedghechlgecaaGreatDoor.G
section
variable {H:AH}{S:LS}{K:KF}{C:Ctx}{i d:Nat}
theorem _root_.Go.X.an.two{S S':LS}{bn:Nat}(h:an (aK C) S S'):an (cG C bn) S S':=h.mono λ_ g=>.inl g
theorem gj{S S1:LS}{H1:AH}{bn c j:Nat}{ca cb:List AV}{x y:aC}{Q:Nat→Prop}(hM:Mem H S)(hp:bS C S i d)(m1:Mem H1 S1)(p1:bS C S1 j d)(x1:an (cG C bn) S S1)(ha:RE S1 Q ca x)(hb:RE S1 Q cb y)(hQ:∀b,Q b→S.n≤b∧b<S1.n)(on:S1.ob bn=.ce [.int 0 (c:Int)] 0)
  (hP:Post C (cG C bn) d (rvF bn) K S (.ok ([x,y],c) j)):aN (aA H1) 2 7 (ca++cb) λv30 nM=>bT (Nat.beq nM.n (Nat.succ H1.n)) (K (.ret v30) nM):=by
 refine cA m1 (by rw[List.length_append,ha.len,hb.len]) (λa h=>?_) λH2 m2=>cE (mJ (by rw[m2.n,m1.n];rfl)) ?_
 ·rcases List.mem_append.1 h with g|g
  ·exact ha.ones a g
  ·exact hb.ones a g
 have c2:an aV S1 (S1.push (.ce (ca++cb) 0)):=(an.refl _ _).push _;have go:∀{c:List AV}{e:aC},RE S1 Q c e→RE (S1.push (.ce (ca++cb) 0)) (fb S.n (S1.push (.ce (ca++cb) 0)).n) c e:=λh=>h.go (λb hb=>LS.aZ _ _ (hQ b hb).2) λb hb=>⟨(hQ b hb).1,Nat.lt_succ_of_lt (hQ b hb).2⟩
 refine hP H2 _ _ m2 (x1.trans c2.no) (p1.no m1 c2) ⟨⟨_,cM.two (b:=S1.n) (m:=0) (ex:=true) ⟨x1.1,Nat.lt_succ_self _⟩ (LS.ag _ _) ha.len hb.len,λi e h=>?_⟩,c2.ob m1 on λq=>q⟩
 match i,h with
 |0,h=>
  have e1:x=e:=by simpa using h
  subst e1;exact go ha
 |1,h=>
  have e1:y=e:=by simpa using h
  subst e1;exact go hb
 |i+2,h=>simp at h
theorem awd{m n:Nat}(hpv:C.pv=.iface 57 (.agg []))(O:iz C m n):∀k,k≤n+1→∀{K:KF}{H:AH}{S:LS}{i d c bn:Nat},d≤200→c≤1000→Mem H S→bS C S i d→S.ob bn=.ce [.int 0 (c:Int)] 0→bn≠C.bp→(∀b,aG C.vT b→b≠bn)→Post C (cG C bn) d (rvF bn) K S (iq C.T k c i d)→(s13 (m+1)).2.2.2.2.2.2.2.2.2.2.2.2.2.2.2.2.1 (.ptr C.bp 0) (.ptr bn 0) H K:=by
 intro k hk K H S i d c bn hd hc hM hp ho hbn bK hP;cases k with
 |zero=>simp only[iq]at hP;exact False.elim hP
 |succ k=>
  have e:(s13 (m+1)).2.2.2.2.2.2.2.2.2.2.2.2.2.2.2.2.1=vg (mq (s13 m)):=by rw[pr]
  rw[e];have r1:(mq (s13 m)).1=f23:=rfl;have r2:(mq (s13 m)).2.1=f56:=rfl;have r3:(mq (s13 m)).2.2.1=(s13 m).2.2.2.2.1:=rfl;have r4:(mq (s13 m)).2.2.2=ny:=rfl;unfold vg Vt Kz;rw[r1,r2,r3,r4];simp only[iq]at hP;have hbp:=hp.dO hM;have axp:bn<S.n:=hM.lt (by rw[ho];simp);have nbn:¬aK C bn:=λq=>hbn (by have q:bn=C.bp:=q;exact q);have hfew:=C.few;refine jK hM hp λH1 S1 m1 c1 p1=>?_;rw[ai];refine bE (bz m1 SK λH2 m2=>?_);refine gK m2 (LS.ag S1 (.ce z4 0)) (by omega) rfl (by show 0+4≤4;omega) Aa λH3 m3=>?_;have m3:Mem H3 ((S1.push (.ce z4 0)).set S1.n (.ce (dY C.T i) 0)):=m3;have c3:an aV S1 ((S1.push (.ce z4 0)).set S1.n (.ce (dY C.T i) 0)):=((an.refl _ _).push _).set (.inr (Nat.le_refl _)) _;have oT3:((S1.push (.ce z4 0)).set S1.n (.ce (dY C.T i) 0)).ob S1.n=.ce (dY C.T i) 0:=LS.aj _ _ _;have p3:=p1.no m1 c3;have c13:=c1.trans c3;have hbT:S.n≤S1.n:=c1.1;revert m3 c3 oT3 p3 c13;generalize (S1.push (.ce z4 0)).set S1.n (.ce (dY C.T i) 0)=S3;intro m3 c3 oT3 p3 c13;generalize S1.n=bT at hbT oT3 ⊢;have on3:=c13.ob hM ho λq=>q;have Fg:¬aK C bT:=λq=>by have q:bT=C.bp:=q;omega
  refine eH (s:=[91]) (aD (by decide)) m3 p3 λH4 S4 m4 c4 p4=>?_;simp only[ai,aB];have x4:an (aK C) S S4:=c13.no.trans c4;have Wr:=c4.ob m3 on3 nbn;have SL:=c4.ob m3 oT3 Fg;have al4:∀b,S.n≤b→¬aK C b:=λb hb q=>by have q:b=C.bp:=q;omega
  cases h1:isA C.T [91] i with
  |true=>
   simp only[h1,if_true]at hP p4;rw[az];refine O.exp k (by omega) hd m4 p4 (Post.call hP (x4.two (bn:=bn)) (λ_ h=>.inl h) λx j H5 S5 v m5 c5 p5 ⟨ca,hv,hR⟩ hP2=>?_);subst hv;simp only[eU];refine bE (bz m5 cm λH6 m6=>?_);refine eJ m6 (LS.ag _ _) rfl hR.len hR.ones λH7 m7=>?_;have c7:an aV S5 ((S5.push (.ce z7 0)).set S5.n (.ce ca 0)):=((an.refl _ _).push _).set (.inr (Nat.le_refl _)) _;have x7:an (aK C) S ((S5.push (.ce z7 0)).set S5.n (.ce ca 0)):=(x4.trans c5).trans c7.no;refine iu (s:=[93]) hpv (aD (by decide)) m7 (p5.no m5 c7) (Post.call (cV:=gY) hP2 (x7.two (bn:=bn)) (λ_ h=>.inl h) λ_ j8 H8 S8 w m8 c8 p8 _ hP3=>?_);refine iu (s:=[61]) hpv (aD (by decide)) m8 p8 (Post.call (cV:=gY) hP3 ((x7.trans c8).two (bn:=bn)) (λ_ h=>.inl h) λ_ j9 H9 S9 w m9 c9 p9 _ na=>?_);have c79:=c8.trans c9;have n5:S.n≤S5.n:=Nat.le_trans x4.1 c5.1;have o9:=c79.ob m7 (LS.aj (S5.push (.ce z7 0)) S5.n (.ce ca 0)) (al4 _ n5);refine ew m9 o9 hR.len ?_;have x9:=x7.trans c79;refine O.exp k (by omega) hd m9 p9 (Post.call na (x9.two (bn:=bn)) (λ_ h=>.inl h) λy j' Ha Sa v ma ca' pa ⟨cb,hv,hR2⟩ oZ=>?_);subst hv;have oa:=ca'.ob m9 o9 (al4 _ n5);refine ew ma oa hR.len ?_;refine cE hR.same ?_;refine ma.bG ?_;rw[dD];refine dv hR.len ?_;rw[dD];refine dv hR2.len ?_;rw[tF hR.len hR2.len rfl];have c5a:an (aK C) S5 Sa:=(c7.no.trans c79).trans ca';refine gj (c:=c) (Q:=fb S.n Sa.n) hM hp ma pa ((x9.trans ca').two (bn:=bn)) (hR.go (λb hb=>c5a.2 b hb.2 (al4 b (Nat.le_trans x4.1 hb.1))) λb hb=>⟨Nat.le_trans x4.1 hb.1,Nat.lt_of_lt_of_le hb.2 c5a.1⟩) (hR2.go (λ_ _=>rfl) λb hb=>⟨Nat.le_trans x9.1 hb.1,hb.2⟩) (λb hb=>hb) ?_ oZ;exact(x9.trans ca').ob hM ho nbn
  |false=>
   simp only[h1,Bool.false_eq_true,if_false]at hP p4;rw[ax];simp only[cj,aL,Nat.zero_add];have hlt:=p4.lt;refine aw m4 p4.ob (v:=C.vT) rfl ?_;refine aw m4 p4.ob (v:=.int 0 (i:Int)) rfl ?_;simp only[aE,dA,fL];refine w0 (by omega) (by omega) ?_;refine aw m4 p4.ob (v:=C.vT) rfl ?_;refine p4.tk.len ?_;simp only[aE,zC,fL];refine w0 (by omega) (by omega) ?_;rw[show((C.T.length:Nat):Int)-1=((C.T.length-1:Nat):Int) by omega,show((i:Nat):Int)+1=((i+1:Nat):Int) by omega];refine ath λu hu=>?_;rw[aE];have atj:u<C.T.length:=by omega
   have hui:bH C.T i=2→u=i+1:=λg=>by have:=iX (i:=i) C.ok (by omega);omega
   refine p4.tk.load m4 atj ?_;rw[rK atj];refine m4.bG ?_;refine bE (bz m4 SK λH5 m5=>cE (mJ (by rw[m5.n,m4.n];rfl)) ?_);refine gK m5 (LS.ag S4 (.ce z4 0)) (by omega) rfl (by show 0+4≤4;omega) Aa λH6 SN=>?_;have m6:Mem H6 ((S4.push (.ce z4 0)).set S4.n (.ce (dY C.T u) 0)):=SN;clear SN;have c6:an aV S4 ((S4.push (.ce z4 0)).set S4.n (.ce (dY C.T u) 0)):=((an.refl _ _).push _).set (.inr (Nat.le_refl _)) _;have oU6:((S4.push (.ce z4 0)).set S4.n (.ce (dY C.T u) 0)).ob S4.n=.ce (dY C.T u) 0:=LS.aj _ _ _;have sP:=c6.ob m4 SL λq=>q;have Ao:=c6.ob m4 Wr λq=>q;have p6:=p4.no m4 c6;have x6:=x4.trans c6.no;revert m6 c6 oU6 sP Ao p6 x6;generalize (S4.push (.ce z4 0)).set S4.n (.ce (dY C.T u) 0)=S6;intro m6 c6 oU6 sP Ao p6 x6;generalize S4.n=bU at oU6 ⊢;have axs:=sP;have third:Post C (cG C bn) d (rvF bn) K S ((bY C.T k i d).bind λv j=>.ok ([.mk 4 (aq C.T i) (c+1) [] 1 [] [],v],c+1) j)→Cm (mq (s13 m)) K (.ptr C.bp 0) (.ptr bn 0) (.ptr bT 0) H6:=by
    intro hP;unfold Cm Kw;rw[r3];refine O.exp k (by omega) hd m6 p6 (Post.call hP (x6.two (bn:=bn)) (λ_ h=>.inl h) λx j H7 S7 v m7 c7 p7 ⟨ca,hv,hR⟩ hP2=>?_);subst hv;rw[eU];refine bE (bz m7 cm λH8 m8=>?_);refine eJ m8 (LS.ag _ _) rfl hR.len hR.ones λH9 m9=>?_;have c9:an aV S7 ((S7.push (.ce z7 0)).set S7.n (.ce ca 0)):=((an.refl _ _).push _).set (.inr (Nat.le_refl _)) _;have Wq:=c7.trans c9.no;have on9:=Wq.ob m6 Ao nbn;have oT9:=Wq.ob m6 sP Fg;have o9:LS.ob _ S7.n=_:=LS.aj (S7.push (.ce z7 0)) S7.n (.ce ca 0);have p9:=p7.no m7 c9;have x9:=x6.trans Wq;have n7:S.n≤S7.n:=Nat.le_trans x6.1 c7.1;simp only[cj,aL,Nat.zero_add];refine aw m9 on9 (v:=.int 0 (c:Int)) rfl ?_;simp only[aE,dA,fL];refine w0 (by omega) (by omega) ?_;rw[show((c:Nat):Int)+1=((c+1:Nat):Int) by omega];refine aT (v:=.int 0 ((c+1:Nat):Int)) m9 on9 (by omega) (by show 0<1;omega) rfl λHa ma=>?_;have ma:Mem Ha (((S7.push (.ce z7 0)).set S7.n (.ce ca 0)).set bn (.ce [.int 0 ((c+1:Nat):Int)] 0)):=ma;have n6:=x6.1;have axt:bT<S3.n:=m3.lt (by rw[oT3];simp);have onT:bT≠bn:=by omega
    refine aw ma ((LS.ah _ _ onT).trans oT9) (v:=.int 0 (aq C.T i:Int)) rfl ?_;rw[aE];refine aw ma (LS.aj _ _ _) (v:=.int 0 ((c+1:Nat):Int)) rfl ?_;rw[aE];refine ew ma ((LS.ah _ _ (by omega)).trans o9) hR.len ?_;refine ma.bG ?_;rw[dD];refine dv hR.len ?_;rw[ati hR.len rfl];have xa:an (cG C bn) S (((S7.push (.ce z7 0)).set S7.n (.ce ca 0)).set bn (.ce [.int 0 ((c+1:Nat):Int)] 0)):=(x9.two (bn:=bn)).set (.inl (.inr rfl)) _;have pa:bS C (((S7.push (.ce z7 0)).set S7.n (.ce ca 0)).set bn (.ce [.int 0 ((c+1:Nat):Int)] 0)) j d:=p9.keep (X:=λb=>b=bn) m9 ((an.refl (λb=>b=bn) _).set (.inl rfl) _) (λq=>hbn q.symm) bK;refine gj (c:=c+1) (Q:=fb S.n S7.n) hM hp ma pa xa (RE.simple B8.nil) (hR.go (λb hb=>(LS.ah _ _ (by have:=hb.1;omega)).trans (c9.2 b hb.2 λq=>q)) λb hb=>⟨Nat.le_trans x6.1 hb.1,hb.2⟩) (λb hb=>⟨hb.1,Nat.lt_of_lt_of_le hb.2 c9.1⟩) (LS.aj _ _ _) hP2
   have e2:Int.ofNat 2=((2:Nat):Int):=rfl;have e5:Int.ofNat 5=((5:Nat):Int):=rfl;unfold Ky Kx;simp only[aL,Nat.zero_add];refine aw m6 sP (v:=.int 0 (bH C.T i:Int)) rfl ?_;rw[aE,bq,e2];by_cases g2:bH C.T i=2
   ·have eu:=hui g2;subst eu;rw[decide_eq_true (by omega),az];refine aw m6 oU6 (v:=.int 0 (bH C.T (i+1):Int)) rfl ?_;rw[aE,bq,e5];by_cases g5:bH C.T (i+1)=5
    ·rw[decide_eq_true (by omega),az];refine aw m6 oU6 (v:=af (dR C.T (i+1))) rfl ?_;refine wc (m:=[61]) (mz C _) (aD (by decide)) ?_;rw[aB];by_cases gt:dR C.T (i+1)=[61]
     ·rw[decide_eq_true gt,az];rw[if_pos ⟨g2,g5,gt⟩]at hP;have hlt2:i+1+1<C.T.length:=iX (i:=i+1) C.ok (by omega);unfold Kv Ku;simp only[cj,aL,Nat.zero_add];refine aw m6 p6.ob (v:=.int 0 (i:Int)) rfl ?_;simp only[aE,dA,io2];refine w0 (by omega) (by omega) ?_;rw[show((i:Nat):Int)+2=((i+2:Nat):Int) by omega];refine aT (v:=.int 0 ((i+2:Nat):Int)) m6 p6.ob (by omega) (by show 1<4;omega) rfl λH7 m7=>?_;have p7:=p6.set (j:=i+2) (e:=d) hlt2;have c7:an (aK C) S6 (S6.set C.bp (.ce [C.vT,.int 0 ((i+2:Nat):Int),.int 0 (d:Int),.int 0 0] 0)):=an.rL (an.refl _ _) _;have m7:Mem H7 (S6.set C.bp (.ce [C.vT,.int 0 ((i+2:Nat):Int),.int 0 (d:Int),.int 0 0] 0)):=m7;have oT7:=c7.ob m6 sP Fg;have x7:=x6.trans c7;unfold Kt Ks;rw[r3];simp only[aL,Nat.zero_add];refine aw m7 oT7 (v:=.int 0 (aq C.T i:Int)) rfl ?_;rw[aE];refine aw m7 oT7 (v:=af (dR C.T i)) rfl ?_;refine ey (fe _) ?_;refine O.exp k (by omega) hd m7 p7 (Post.call hP (x7.two (bn:=bn)) (λ_ h=>.inl h) λx j H8 S8 v m8 c8 p8 ⟨ca,hv,hR⟩ hP2=>?_);subst hv;have oT8:=c8.ob m7 oT7 Fg;refine aw m8 oT8 (v:=af (dR C.T i)) rfl ?_;refine cE (tA _ _) ?_;refine aw m8 oT8 (v:=.int 0 (aq C.T i:Int)) rfl ?_;rw[aE];refine cE (ql _ _) ?_;refine m8.bG ?_;rw[dD];refine dv hR.len ?_;rw[ati hR.len rfl];exact gj (c:=c) (Q:=fb S.n S8.n) hM hp m8 p8 ((x7.trans c8).two (bn:=bn)) (RE.simple (mz C i)) (hR.go (λ_ _=>rfl) λb hb=>⟨Nat.le_trans x7.1 hb.1,hb.2⟩) (λb hb=>hb) ((x7.trans c8).ob hM ho nbn) hP2
     ·rw[decide_eq_false gt,ax];rw[if_neg (λq=>gt q.2.2)]at hP;exact third hP
    ·rw[decide_eq_false (by omega),ax];rw[if_neg (λq=>g5 q.2.1)]at hP;exact third hP
   ·rw[decide_eq_false (by omega),ax];rw[if_neg (λq=>g2 q.1)]at hP;exact third hP
end
end Go.Proofs.YtcedghechlgecaaGreatDoor
namespace Go.X
section
variable {H:AH}{S:LS}
theorem ay.bind_assoc{α β γ:Type}(r:ay α)(f:α→Nat→ay β)(g:β→Nat→ay γ):(r.bind f).bind g=r.bind λa i=>(f a i).bind g:=by
 cases r<;>rfl
theorem ajT{bytes sz n:Nat}{v:AV}{l l':List AV}{k:AV→AH→Prop}(hM:Mem H S)(hs:eI S sz v n l)(hsz:0<sz)(hl':l'.length=sz)(hl:(n+1)*bytes≤1099511627776)(h1:∀a∈l',a.one=true)
  (hK:∀H' S' v',Mem H' S'→qY S v (n+1) sz (l++l') S' v'→k v' H'):aN (aA H) 1 sz l' λx H'=>bT (Nat.beq H'.n (Nat.succ H.n)) (dh sz bytes v x H' k):=by
 refine cA hM (by omega) h1 λH1 m1=>cE (mJ (by rw[m1.n,hM.n];rfl)) ?_;have hs1:eI (S.push (.ce l' 0)) sz v n l:=hs.keep hM λb _ hb=>LS.aZ _ _ hb;have hlt1:∀b,aG v b→b<S.n:=λb hb=>hs.lt hM hb;refine rY (ex:=true) (cap:=1) (o:=0) (n:=1) (l:=l') (m:=0) (b:=S.n) (k:=λl=>wX sz bytes 1 _ l H1 k) m1 (LS.ag _ _) (by omega) ?_;rw[List.drop_zero,List.take_of_length_le (by omega)];refine AP m1 hs1 hsz (.inl (by omega)) (by omega) hl h1 λH' S' v' h' he=>?_;obtain⟨e1,e2,e3,e4⟩:=he;have e1':S.n+1≤S'.n:=e1;refine hK H' S' v' h' ⟨by omega,λb hb hne=>?_,e3,λb hb=>?_⟩
 ·rw[e2 b (by show b<S.n+1;omega) hne,LS.aZ _ _ hb]
 ·rcases e4 b hb with g|g
  ·exact .inl g
  ·have g':S.n+1≤b:=g;exact .inr (by omega)
theorem dN.pushB{α:Type}{R:Rep α}{lo bytes:Nat}{v:AV}{l:List α}{a:α}{c:List AV}{Q:Nat→Prop}{k:AV→AH→Prop}(h:dN R lo S v l)(hM:Mem H S)(hr:R.rel S Q c a)(hQ:∀b,Q b→lo≤b∧b<S.n∧¬aG v b)(hlo:lo≤S.n)(hl:(l.length+1)*bytes≤1099511627776)
  (hk:∀H' S' v',Mem H' S'→dN R lo S' v' (l++[a])→S.n≤S'.n→(∀b,b<S.n→¬aG v b→S'.ob b=S.ob b)→(∀b,aG v' b→aG v b∨S.n≤b)→k v' H'):aN (aA H) 1 R.sz c λx H'=>bT (Nat.beq H'.n (Nat.succ H.n)) (dh R.sz bytes v x H' k):=by
 obtain⟨cl,h1,h2⟩:=id h;refine ajT hM h1 R.pos (R.len hr) hl (R.ones hr) λH' S' v' m' he=>?_;refine hk H' S' v' m' (h.step hr hQ hlo λcl' h'=>?_) he.1 he.2.1 he.2.2.2;have e:cl'=cl.flatten:=by
  rcases h1 with⟨e1,e2,e3⟩|⟨b,c1,ex,cs,e1,e2,e3,e4,e5,e6,e7⟩
  ·rcases h' with⟨_,_,g3⟩|⟨b',c1',ex',cs',g1,_⟩
   ·rw[g3,e3]
   ·rw[e1]at g1;cases g1
  ·rcases h' with⟨g1,_⟩|⟨b',c1',ex',cs',g1,g2,g3,g4,g5,g6,g7⟩
   ·rw[e1]at g1;cases g1
   ·rw[e1]at g1;injection g1 with q1;subst q1;rw[e2]at g2;injection g2 with q2;rw[←g6,←e6,g5,e5,q2]
 rw[e];exact he
theorem cM.congr{Q:Nat→Prop}{sz n:Nat}{v:AV}{cl cl':Nat→List AV}(h:cM S Q sz v n cl)(he:∀i,i<n→cl i=cl' i):cM S Q sz v n cl':=by
 rcases h with h|⟨b,o,c,ex,cs,m,h1,h2,h3,h4,h5,h6⟩
 ·exact .inl h
 ·exact .inr ⟨b,o,c,ex,cs,m,h1,h2,h3,h4,h5,λi hi=>(h6 i hi).trans (he i hi)⟩
theorem dN.nm{lo:Nat}{v:AV}{l:List (List Nat)}(h:dN pz lo S v l)(hM:Mem H S):ku S (fb lo S.n) v l:=by
 obtain⟨cl,h1,h2⟩:=h.done hM;refine⟨h1.congr λi hi=>?_,λt ht=>?_⟩
 ·have g:=(h2 i _ (List.getElem?_eq_getElem hi)).1;rw[List.getElem?_eq_getElem hi];exact g
 ·obtain⟨i,hi,e⟩:=List.mem_iff_getElem.1 ht;have g:=(h2 i _ (List.getElem?_eq_getElem hi)).2;rw[e]at g;exact g
theorem al5{l z:List AV}(hl:l.length=2)(hz:z.length=2):spl l z 0=l:=by
 match l,hl,z,hz with
 |[a,b],_,[_,_],_=>rfl
end
end Go.X
namespace Go.Proofs.YtcedghechlgecaaGreatDoor
open Go Go.X Go.Proofs.YtcedghechlgecaaGreatDoor.G
section
variable {H:AH}{S:LS}{K:KF}{C:Ctx}{i d:Nat}
structure Bx(C:Ctx)(S0 S:LS)(v:AV)(out:List (List Nat)):Prop where
 x:an (aK C) S0 S
 o1:S.ob S0.n=.ce z7 0
 oF:S.ob (S0.n+1)=.ce [v,.ab] 0
 n:S0.n+2≤S.n
 L:dN pz (S0.n+2) S v out
theorem Bx.keep{S0 S':LS}{v:AV}{out:List (List Nat)}(h:Bx C S0 S v out)(hM:Mem H S)(hbp:C.bp<S0.n)(g:an (aK C) S S'):Bx C S0 S' v out:=by
 have nb:∀b,S0.n≤b→¬aK C b:=λb hb q=>by have q:b=C.bp:=q;omega
 exact⟨h.x.trans g,g.ob hM h.o1 (nb _ (Nat.le_refl _)),g.ob hM h.oF (nb _ (by omega)),Nat.le_trans h.n g.1,h.L.keep hM g.1 λb h1 h2=>g.2 b h2 (nb b (by omega))⟩
theorem awe{m n:Nat}(hpv:C.pv=.iface 57 (.agg []))(O:iz C m n){S0:LS}{H0:AH}{i0 a n1:Nat}(hn1:n1≤n)(hd:d≤200)(hM0:Mem H0 S0)(hp0:bS C S0 i0 d):∀(k q i:Nat) (first:Bool) (out:List (List Nat)) (v:AV) (H:AH) (S:LS),k≤q→out.length≤16→Mem H S→bS C S i d→Bx C S0 S v out→
  Post C (aK C) d dc K S0 ((cL C.T k first out i).bind λps j=>(cF C.T n1 j d).bind λb j=>(aW C.T [101,110,100] j).bind λ_ j=>.ok (.mk 7 a 0 [] 0 [] [.mk ps b]) j)→
  rj (fg (s13 m)) K q (.ptr C.bp 0) (a:Int) (.ptr S0.n 0) (.ptr (S0.n+1) 0) first H:=by
 intro k
 induction k with
 |zero=>intro q i f out v H S _ _ _ _ _ hP;simp only[cL]at hP;exact False.elim hP
 |succ k ih=>
  intro q i first out v H S hq h16 hM hp t hP
  obtain⟨q,rfl⟩:∃p,q=p+1:=⟨q-1,by omega⟩
  have r1:(fg (s13 m)).1=(s13 m).1:=rfl;have r2:(fg (s13 m)).2.1=f25:=rfl;have r3:(fg (s13 m)).2.2.1=f56:=rfl;have r4:(fg (s13 m)).2.2.2.1=f94:=rfl;have r5:(fg (s13 m)).2.2.2.2.1=ny:=rfl;have r6:(fg (s13 m)).2.2.2.2.2=f130:=rfl;have hbp:=hp0.dO hM0;have oK:∀b,aG C.vT b→b<S0.n:=λb hb=>hp0.tk.lt hM0 hb;have cO:∀b,S0.n≤b→¬aK C b:=λb hb q=>by have q:b=C.bp:=q;omega
  show B6 (fg (s13 m)) K (tP (fg (s13 m)) K (tO (fg (s13 m)) K (rj (fg (s13 m)) K q))) (xN (fg (s13 m)) K) (.ptr C.bp 0) (a:Int) (.ptr S0.n 0) (.ptr (S0.n+1) 0) first H
  unfold B6;rw[r2,r3,r4];simp only[cL]at hP;have stop:∀{H1:AH}{S1:LS}{i:Nat},Mem H1 S1→bS C S1 i d→Bx C S0 S1 v out→Post C (aK C) d dc K S0 (((aW C.T [41] i).bind λ_ j=>.ok out j).bind λps j=>(cF C.T n1 j d).bind λb j=>(aW C.T [101,110,100] j).bind λ_ j=>.ok (.mk 7 a 0 [] 0 [] [.mk ps b]) j)→
    xN (fg (s13 m)) K (.ptr C.bp 0) (a:Int) (.ptr S0.n 0) (.ptr (S0.n+1) 0) H1:=by
   intro H1 S1 i m1 p1 t1 hP;rw[ay.bind_assoc]at hP;unfold xN;rw[r1,r5];refine iu (s:=[41]) hpv (aD (by decide)) m1 p1 (Post.call (cV:=gY) hP t1.x (λ_ h=>h) λ_ j H2 S2 w m2 c2 p2 _ hP2=>?_);have t2:=t1.keep m1 hbp c2;refine O.block n1 hn1 hd m2 p2 (Post.call (cV:=fK) hP2 t2.x (λ_ h=>h) λb j H3 S3 vb m3 c3 p3 ⟨cb,hsl,hrs⟩ hP3=>?_);have t3:=t2.keep m2 hbp c3;have n2:=t2.n;have n3:=t3.n;simp only[aL,Nat.zero_add];refine aT m3 t3.oF (by omega) (by show 1<2;omega) hsl.one λH4 m4=>?_;have m4:Mem H4 (S3.set (S0.n+1) (.ce [v,vb] 0)):=m4;have x4:an (aK C) S0 (S3.set (S0.n+1) (.ce [v,vb] 0)):=t3.x.set (.inr (by omega)) _;refine iu (s:=[101,110,100]) hpv (aD (by decide)) m4 (p3.ga hp0 hM0 (by omega) _) (Post.call (cV:=gY) hP3 x4 (λ_ h=>h) λ_ j' H5 S5 w m5 c5 p5 _ na=>?_);have n5:S3.n≤S5.n:=c5.1;have L5:dN pz (S0.n+2) S5 v out:=(t3.L.keep m3 (S':=S3.set (S0.n+1) (.ce [v,vb] 0)) (Nat.le_refl _) λb h1 h2=>LS.ah _ _ (by omega)).keep m4 c5.1 λb h1 h2=>c5.2 b h2 (cO b (by omega));have hnm:=L5.nm m5;have kb:∀b,fb S2.n S3.n b→S5.ob b=S3.ob b:=λb hb=>by
    have h1:=hb.1;rw[c5.2 b hb.2 (cO b (by omega)),LS.ah _ _ (by omega)]
   have qb:∀b,fb S2.n S3.n b→fb (S0.n+2) S5.n b:=λb hb=>⟨by have:=hb.1;omega,by have:=hb.2;omega⟩
   have hF:RF S5 (fb (S0.n+2) S5.n) [v,vb] (.mk out b):=.mk out b v vb cb hnm (hsl.go kb qb) λi e h=>(hrs i e h).go kb qb;refine ew m5 (c5.ob m4 (LS.aj _ _ _) (cO _ (by omega))) rfl ?_;rw[dD];refine dv rfl ?_;rw[al5 rfl rfl];refine cA m5 rfl hF.ones λH6 m6=>ey rfl ?_;have o5:S5.ob S0.n=.ce z7 0:=c5.ob m4 ((LS.ah _ _ (by omega)).trans t3.o1) (cO _ (Nat.le_refl _));refine eJ m6 (c:=[.int 0 ((7:Nat):Int),.int 0 (a:Int),.int 0 ((0:Nat):Int),af [],.int 0 ((0:Nat):Int),.ab,.slice S5.n 0 1 1 2 true]) ((LS.aZ _ _ (by omega)).trans o5) rfl rfl (λx h=>?_) λH7 m7=>?_
   ·simp only[List.mem_cons,List.not_mem_nil,or_false]at h;rcases h with rfl|rfl|rfl|rfl|rfl|rfl|rfl<;>rfl
   refine ew m7 (LS.aj _ _ _) rfl ?_;refine na H7 _ _ m7 (((x4.trans c5).push _).set (.inr (Nat.le_refl _)) _) ((p5.no m5 ((an.refl _ _).push _)).ga hp0 hM0 (Nat.le_refl _) _) ⟨_,rfl,.mk 7 a 0 [] 0 [] [.mk out b] .ab (.slice S5.n 0 1 1 2 true) (λ_=>[]) (λ_=>[v,vb]) B8.nil (cM.nil _ _ _ _) (λi e h=>by simp at h) (cM.single (m:=0) ⟨by omega,Nat.lt_succ_self _⟩ ((LS.ah _ _ (by omega)).trans (LS.ag _ _)) rfl) λi e h=>?_⟩
   match i,h with
   |0,h=>
    have e1:iP.mk out b=e:=by simpa using h
    subst e1;exact hF.go (λb hb=>by rw[LS.ah _ _ (by have:=hb.1;omega),LS.aZ _ _ hb.2]) λb hb=>⟨by have:=hb.1;omega,Nat.lt_succ_of_lt hb.2⟩
   |i+1,h=>simp at h
  have more:∀{H1:AH}{S1:LS}{i:Nat},Mem H1 S1→bS C S1 i d→Bx C S0 S1 v out→Post C (aK C) d dc K S0 ((if out.length=16 then ay.err 8 i else (eF C.T i).bind λs j=>cL C.T k false (out++[s]) j).bind λps j=>(cF C.T n1 j d).bind λb j=>(aW C.T [101,110,100] j).bind λ_ j=>.ok (.mk 7 a 0 [] 0 [] [.mk ps b]) j)→
    al 0 (.ptr (S0.n+1) 0) λv5=>ak v5 H1 λv6=>dp v6 λv7=>cI 0 v7 λz8=>bI (bj z8 (.ofNat 16)) (f25 (.ptr C.bp 0) (.ofNat 8) H1 λo9 bJ=>cR K o9 bJ λv11=>tP (fg (s13 m)) K (tO (fg (s13 m)) K (rj (fg (s13 m)) K q)) (.ptr C.bp 0) (a:Int) (.ptr S0.n 0) (.ptr (S0.n+1) 0) bJ) (tP (fg (s13 m)) K (tO (fg (s13 m)) K (rj (fg (s13 m)) K q)) (.ptr C.bp 0) (a:Int) (.ptr S0.n 0) (.ptr (S0.n+1) 0) H1):=by
   intro H1 S1 i m1 p1 t1 hP;rw[aL,Nat.zero_add];refine aw m1 t1.oF (v:=v) rfl ?_;refine t1.L.xk ?_;have e16:Int.ofNat 16=((16:Nat):Int):=rfl;rw[aE,bq,e16];by_cases g16:out.length=16
   ·rw[if_pos g16]at hP;rw[decide_eq_true (by omega),az];refine oY (c:=8) hpv m1 p1 λH2 S2 m2 c2 e2=>?_;rw[kx];exact hP H2 S2 m2 (t1.x.trans c2) e2
   ·rw[if_neg g16,ay.bind_assoc]at hP;rw[decide_eq_false (by omega),ax];unfold tP;rw[r6];simp only[aL,Nat.zero_add];refine aw m1 t1.oF (v:=v) rfl ?_;refine yY hpv m1 p1 (Post.call hP t1.x (λ_ h=>h) λs j H2 S2 w m2 c2 p2 ⟨hv,h8⟩ hP2=>?_);subst hv;have t2:=t1.keep m1 hbp c2;have n2:=t2.n;refine aw m2 t2.oF (v:=v) rfl ?_;refine cE t2.L.same ?_;refine m2.bG ?_;refine ey (fe s) ?_;refine t2.L.pushB (R:=pz) (Q:=aV) (bytes:=16) m2 (a:=s) ⟨rfl,h8⟩ (λb hb=>hb.elim) n2 (by omega) λH3 S3 v' m3 L3 n3 k3 b3=>?_;have c3:an (λb=>aG v b) S2 S3:=⟨n3,λb hb hx=>k3 b hb hx⟩
    have nv:∀b,b<S0.n+2→¬aG v b:=λb hb q=>by have:=t2.L.lo q;omega
    refine aT m3 (c3.ob m2 t2.oF (nv _ (by omega))) (by omega) (by show 0<2;omega) L3.one λH4 m4=>?_;have m4:Mem H4 (S3.set (S0.n+1) (.ce [v',.ab] 0)):=m4;have p4:bS C (S3.set (S0.n+1) (.ce [v',.ab] 0)) j d:=(p2.keep m2 c3 (nv _ (by omega)) (λb hb q=>nv b (by have:=oK b hb;omega) q)).ga hp0 hM0 (by omega) _;have x3:an (aK C) S0 S3:=t2.x.gi c3 λb hb=>.inr (by have:=t2.L.lo hb;omega);have t4:Bx C S0 (S3.set (S0.n+1) (.ce [v',.ab] 0)) v' (out++[s]):=
     ⟨x3.set (.inr (by omega)) _,(LS.ah _ _ (by omega)).trans (c3.ob m2 t2.o1 (nv _ (by omega))),LS.aj _ _ _,Nat.le_trans n2 n3,L3.keep m3 (Nat.le_refl _) λb h1 h2=>LS.ah _ _ (by omega)⟩
    unfold tO;exact ih q j false (out++[s]) v' H4 _ (by omega) (by simp;omega) m4 p4 t4 hP2
  cases first with
  |true=>
   rw[az];refine rM (s:=[41]) (aD (by decide)) hM hp λH1 S1 m1 c1 p1=>?_;simp only[ai,aB];have t1:=t.keep hM hbp c1.no;cases hi:isA C.T [41] i with
   |false=>
    simp only[hi,Bool.not_false,if_true]at hP;rw[Bool.not_false,az];exact more m1 p1 t1 hP
   |true=>
    simp only[hi,Bool.not_true,if_true,Bool.false_eq_true,if_false]at hP;simp only[Bool.not_true,ax];exact stop m1 p1 t1 hP
  |false=>
   simp only[Bool.false_eq_true,if_false]at hP;simp only[ax,Bool.not_false,az];refine eH (s:=[44]) (aD (by decide)) hM hp λH1 S1 m1 c1 p1=>?_;simp only[ai,aB];have t1:=t.keep hM hbp c1;cases hi:isA C.T [44] i with
   |true=>
    simp only[hi,if_true]at hP p1;rw[az];exact more m1 p1 t1 hP
   |false=>
    simp only[hi,Bool.false_eq_true,if_false]at hP p1;rw[ax];exact stop m1 p1 t1 hP
theorem awf{m n:Nat}(hn:n≤900000)(hpv:C.pv=.iface 57 (.agg []))(O:iz C m n):∀k,k≤n+1→∀{K:KF}{H:AH}{S:LS}{i d a:Nat},d≤200→Mem H S→bS C S i d→Post C (aK C) d dc K S (jJ C.T k a i d)→(s13 (m+1)).2.2.2.2.2.2.2.1 (.ptr C.bp 0) (a:Int) H K:=by
 intro k hk K H S i d a hd hM hp hP;cases k with
 |zero=>simp only[jJ]at hP;exact False.elim hP
 |succ k=>
  have e:(s13 (m+1)).2.2.2.2.2.2.2.1=uY (fg (s13 m)):=by rw[pr]
  rw[e];have r5:(fg (s13 m)).2.2.2.2.1=ny:=rfl;unfold uY U9 J2;rw[r5];have gf:G.NL=1000000:=rfl;generalize G.NL=iA at gf ⊢;simp only[jJ]at hP;rw[eU];refine bE (bz hM cm λH1 m1=>?_);refine bE (bz m1 (λx hx=>?_) λH2 m2=>?_)
  ·simp only[List.mem_cons,List.not_mem_nil,or_false]at hx;rcases hx with rfl|rfl<;>rfl
  have c1:an aV S (S.push (.ce z7 0)):=(an.refl _ _).push _;have c2:an aV (S.push (.ce z7 0)) ((S.push (.ce z7 0)).push (.ce [.ab,.ab] 0)):=(an.refl _ _).push _;have c12:=c1.trans c2;have t:Bx C S ((S.push (.ce z7 0)).push (.ce [.ab,.ab] 0)) .ab []:=
   ⟨c12.no,c2.ob m1 (LS.ag _ _) (λq=>q),LS.ag _ _,Nat.le_refl _,dN.nil _ _ _⟩
  refine iu (s:=[40]) hpv (aD (by decide)) m2 (hp.no hM c12) (Post.call (cV:=gY) hP c12.no (λ_ h=>h) λ_ j H3 S3 w m3 c3 p3 _ hP2=>?_);exact awe hpv O (by omega) hd hM hp k iA j true [] .ab H3 S3 (by omega) (by simp) m3 p3 (t.keep m2 (hp.dO hM) c3) hP2
end
end Go.Proofs.YtcedghechlgecaaGreatDoor
namespace Go.X
section
variable {H:AH}{S:LS}
theorem ft.k0{Q:Nat→Prop}{c:List AV}{s:aS}(h:ft S Q c s):∃l,c=.int 0 (s.kind:Int)::l:=by
 cases h;exact⟨_,rfl⟩
end
end Go.X
namespace Go.Proofs.YtcedghechlgecaaGreatDoor
open Go Go.X Go.Proofs.YtcedghechlgecaaGreatDoor.G
section
variable {H:AH}{S:LS}{K:KF}{C:Ctx}{i d:Nat}
def z5:List AV:=[.int 0 (.ofNat 0),.int 0 (.ofNat 0),.ab,.ab,.ab]
theorem yZ:∀a∈z5,a.one=true:=by
 intro a ha;simp only[z5,List.mem_cons,List.not_mem_nil,or_false]at ha;rcases ha with rfl|rfl|rfl|rfl|rfl<;>rfl
theorem r24{m n:Nat}(hpv:C.pv=.iface 57 (.agg []))(O:iz C m n){S0:LS}{H0:AH}{i0:Nat}(hd:d+1≤200)(hM0:Mem H0 S0)(hp0:bS C S0 i0 d){k:Nat}(hk:k≤n){X:AV→AV→AH→Prop}{out:List aS}
  (hX:∀(i:Nat) (s:aS) (v:AV) (H:AH) (S:LS),Mem H S→bS C S i (d+1)→an (aK C) S0 S→dN kP S0.n S v (out++[s])→Post C (aK C) d fK K S0 (cS C.T k (out++[s]) i (d+1))→X (.ptr C.bp 0) v H)
  {v:AV}(hlen:out.length≤1000000) (hM:Mem H S) (hp:bS C S i (d+1)) (hx:an (aK C) S0 S) (L:dN kP S0.n S v out) (hP:Post C (aK C) d fK K S0 (cS C.T (k+1) out i (d+1))):uT (ko (s13 m)) K X (.ptr C.bp 0) v H:=by
 have r1:(ko (s13 m)).1=f25:=rfl;have r3:(ko (s13 m)).2.2.1=f54:=rfl;have r4:(ko (s13 m)).2.2.2.1=(s13 m).2.1:=rfl;have r5:(ko (s13 m)).2.2.2.2=f56:=rfl;have hbp:=hp0.dO hM0;have oK:∀b,aG C.vT b→b<S0.n:=λb hb=>hp0.tk.lt hM0 hb;have cO:∀b,S0.n≤b→¬aK C b:=λb hb q=>by have q:b=C.bp:=q;omega
 have wQ:∀{l:List aS}{v:AV}{S1 S2:LS}{H1:AH},Mem H1 S1→dN kP S0.n S1 v l→an (aK C) S1 S2→dN kP S0.n S2 v l:=λm1 o g=>o.keep m1 g.1 λb h1 h2=>g.2 b h2 (cO b h1);unfold uT;rw[r1,r3,r4,r5];simp only[cS]at hP;refine SF hM hp λH1 S1 m1 c1 p1=>?_;simp only[ai,aB];have L1:=wQ hM L c1.no;have x1:=hx.trans (c1.no (X:=aK C));cases he:eG C.T i with
 |true=>
  simp only[he,if_true]at hP;rw[az];refine acy (by omega) m1 p1 λH2 S2 m2 c2 p2=>?_;obtain⟨cl,g1,g2⟩:=(wQ m1 L1 c2).done m2;exact hP H2 S2 v m2 (x1.trans c2) p2 ⟨cl,g1,g2⟩
 |false=>
  simp only[he,Bool.false_eq_true,if_false]at hP;rw[ax];refine O.stat k hk hd m1 p1 (Post.call hP x1 (λ_ h=>h) λs j H2 S2 w m2 c2 p2 ⟨c,hw,hR⟩ hP2=>?_);subst hw;obtain⟨cr,hcr⟩:=hR.k0;refine bE (bz m2 yZ λH3 m3=>?_);refine eJ m3 (LS.ag S2 (.ce z5 0)) rfl hR.len hR.ones λH4 y0=>?_;have m4:Mem H4 ((S2.push (.ce z5 0)).set S2.n (.ce c 0)):=y0;clear y0;have c4:an aV S2 ((S2.push (.ce z5 0)).set S2.n (.ce c 0)):=((an.refl _ _).push _).set (.inr (Nat.le_refl _)) _;have o4:((S2.push (.ce z5 0)).set S2.n (.ce c 0)).ob S2.n=.ce c 0:=LS.aj _ _ _;have L2:=wQ m1 L1 c2;have L4:=wQ m2 L2 c4.no;have x4:=(x1.trans c2).trans (c4.no (X:=aK C));have p4:=p2.no m2 c4;have hR4:ft ((S2.push (.ce z5 0)).set S2.n (.ce c 0)) (fb S1.n S2.n) c s:=hR.go (λb hb=>c4.2 b hb.2 λq=>q) λ_ h=>h;have n4:((S2.push (.ce z5 0)).set S2.n (.ce c 0)).n=S2.n+1:=rfl;revert m4 c4 o4 L4 x4 p4 hR4 n4;generalize (S2.push (.ce z5 0)).set S2.n (.ce c 0)=S4;intro m4 c4 o4 L4 x4 p4 hR4 n4;refine ew m4 o4 hR.len ?_;rw[dD];refine dv hR.len ?_;rw[al2 hR.len rfl];have hv2:∀b,aG v b→b<S1.n:=λb hb=>L1.lt m1 hb;have n12:=c2.1;refine L4.push (R:=kP) (bytes:=88) m4 hR4 (λb hb=>⟨Nat.le_trans x1.1 hb.1,by have:=hb.2;omega,λq=>by have:=hv2 b q;have:=hb.1;omega⟩) x4.1 (by omega) λH5 S5 v' m5 L5 n5 k5 b5=>?_;have c5:an (λb=>aG v b) S4 S5:=⟨n5,λb hb hx=>k5 b hb hx⟩
  have p5:bS C S5 j (d+1):=p4.keep m4 c5 (λq=>by have:=L4.lo q;omega) (λb hb q=>by have:=L4.lo q;have:=oK b hb;omega);have x5:an (aK C) S0 S5:=x4.gi c5 λb hb=>.inr (L4.lo hb);have o5:S5.ob S2.n=.ce c 0:=c5.ob m4 o4 λq=>by have:=hv2 _ q;omega
  refine eH (s:=[59]) (aD (by decide)) m5 p5 λH6 S6 m6 c6 p6=>?_;simp only[ai,aB,aL,Nat.zero_add];have o6:S6.ob S2.n=.ce c 0:=c6.ob m5 o5 (cO _ (by have:=x1.1;omega));have L6:=wQ m5 L5 c6;have x6:=x5.trans c6;have p6:bS C S6 (dF C.T [59] j) (d+1):=p6;have e10:Int.ofNat 10=((10:Nat):Int):=rfl;refine aw m6 o6 (v:=.int 0 (s.kind:Int)) (by rw[hcr];rfl) ?_;rw[aE,bq,e10];by_cases g10:s.kind=10
  ·rw[decide_eq_true (by omega),az];refine SF m6 p6 λH7 S7 m7 c7 p7=>?_;simp only[ai,aB];have L7:=wQ m6 L6 c7.no;have x7:=x6.trans (c7.no (X:=aK C));cases he2:eG C.T (dF C.T [59] j)with
   |true=>
    rw[if_neg (by rw[he2];rintro⟨_,q⟩;cases q)]at hP2;simp only[Bool.not_true,ax];exact hX _ s v' H7 S7 m7 p7 x7 L7 hP2
   |false=>
    rw[if_pos ⟨g10,he2⟩]at hP2;simp only[Bool.not_false,az];refine oY (c:=14) hpv m7 p7 λH8 S8 m8 c8 e8=>?_;rw[kx];exact hP2 H8 S8 m8 (x7.trans c8) e8
  ·rw[decide_eq_false (by omega),ax];rw[if_neg (λq=>g10 q.1)]at hP2;exact hX _ s v' H6 S6 m6 p6 x6 L6 hP2
theorem l24{m n:Nat}(hn:n≤900000)(hpv:C.pv=.iface 57 (.agg []))(O:iz C m n){S0:LS}{H0:AH}{i0:Nat}(hd:d+1≤200)(hM0:Mem H0 S0)(hp0:bS C S0 i0 d):∀(k q i:Nat) (out:List aS) (v:AV) (H:AH) (S:LS),k≤q→k≤n→out.length+k≤n→Mem H S→bS C S i (d+1)→an (aK C) S0 S→dN kP S0.n S v out→
  Post C (aK C) d fK K S0 (cS C.T k out i (d+1))→AW (ko (s13 m)) K q (.ptr C.bp 0) v H:=by
 intro k
 induction k with
 |zero=>intro q i out v H S _ _ _ _ _ _ _ hP;simp only[cS]at hP;exact False.elim hP
 |succ k ih=>
  intro q i out v H S hq hk hl hM hp hx L hP;obtain⟨q,rfl⟩:∃p,q=p+1:=⟨q-1,by omega⟩
  show uT (ko (s13 m)) K (Gm (ko (s13 m)) K (AW (ko (s13 m)) K q)) (.ptr C.bp 0) v H;refine r24 hpv O hd hM0 hp0 (by omega) (λi s v H S hM hp hx L hP=>?_) (by omega) hM hp hx L hP;unfold Gm;exact ih q i (out++[s]) v H S (by omega) (by omega) (by simp;omega) hM hp hx L hP
theorem q24(R:iU)(K:KF)(X:AV→AV→AH→Prop)(a0:AV)(H:AH):Gp R K X a0 H=R.2.1 a0 H λo1 H2=>cR K o1 H2 λ_=>uT R K X a0 .ab H2:=by
 unfold Gp uT;rfl
theorem s24{m n:Nat}(hn:n≤900000)(hpv:C.pv=.iface 57 (.agg []))(O:iz C m n):∀k,k≤n+1→∀{K:KF}{H:AH}{S:LS}{i d:Nat},d≤200→Mem H S→bS C S i d→Post C (aK C) d fK K S (cF C.T k i d)→(s13 (m+1)).1 (.ptr C.bp 0) H K:=by
 intro k hk K H S i d hd hM hp hP;cases k with
 |zero=>simp only[cF]at hP;exact False.elim hP
 |succ k=>
  have e:(s13 (m+1)).1=zG (ko (s13 m)):=by rw[pr]
  rw[e];have r2:(ko (s13 m)).2.1=f53:=rfl;unfold zG aee Pz;rw[q24,r2];have gf:G.NL=1000000:=rfl;generalize G.NL=iA at gf ⊢;simp only[cF]at hP;refine acx hpv (by omega) hM hp (λhg H1 S1 m1 c1 e1=>?_) (λhg H1 S1 m1 c1 p1=>?_)
  ·rw[kx];rw[if_pos hg]at hP;exact hP H1 S1 m1 c1 e1
  ·rw[ai];rw[if_neg hg]at hP;cases k with
   |zero=>simp only[cS]at hP;exact False.elim hP
   |succ k=>
    refine r24 hpv O (by omega) hM hp (by omega) (out:=[]) (λi s v H S' hM' hp' hx L hP=>?_) (by simp) m1 p1 c1 (dN.nil _ _ _) hP;unfold Py;exact l24 hn hpv O (by omega) hM hp k iA i ([]++[s]) v H S' (by omega) (by omega) (by simp;omega) hM' hp' hx L hP
end
end Go.Proofs.YtcedghechlgecaaGreatDoor
namespace Go.X
section
variable {H:AH}{S S':LS}
def aX{α:Type}(R:Rep α)(Z:Nat→Prop)(S:LS)(v:AV)(l:List α):Prop:=∃cl:List (List AV),eI S R.sz v l.length cl.flatten∧cl.length=l.length∧(∀b,aG v b→Z b)∧
 ∀(i:Nat) (c:List AV) (a:α),cl[i]? = some c→l[i]? = some a→∃Q,R.rel S Q c a∧∀b,Q b→Z b∧b<S.n∧¬aG v b
section
variable {α:Type}{R:Rep α}{Z Z':Nat→Prop}{v:AV}{l:List α}
theorem aX.nil(R:Rep α)(Z:Nat→Prop)(S:LS):aX R Z S .ab []:=⟨[],eI.nil _ _,rfl,λ_ h=>h.elim,λi c a h=>by simp at h⟩
theorem aX.toR{lo:Nat}(h:aX R Z S v l)(hZ:∀b,Z b→lo≤b):dN R lo S v l:=by
 obtain⟨cl,h1,h2,h3,h4⟩:=h;refine⟨cl,h1,h2,λb hb=>hZ b (h3 b hb),λi c a hc ha=>?_⟩;obtain⟨Q,g1,g2⟩:=h4 i c a hc ha;exact⟨Q,g1,λb hb=>⟨hZ b (g2 b hb).1,(g2 b hb).2⟩⟩
theorem aX.imp(h:aX R Z S v l)(hM:Mem H S)(hZ:∀b,Z b→b<S.n→Z' b):aX R Z' S v l:=by
 obtain⟨cl,h1,h2,h3,h4⟩:=h;refine⟨cl,h1,h2,λb hb=>hZ b (h3 b hb) (h1.lt hM hb),λi c a hc ha=>?_⟩;obtain⟨Q,g1,g2⟩:=h4 i c a hc ha;exact⟨Q,g1,λb hb=>⟨hZ b (g2 b hb).1 (g2 b hb).2.1,(g2 b hb).2⟩⟩
theorem aX.keep(h:aX R Z S v l)(hM:Mem H S)(hn:S.n≤S'.n)(hk:∀b,Z b→b<S.n→S'.ob b=S.ob b):aX R Z S' v l:=by
 obtain⟨cl,h1,h2,h3,h4⟩:=h;refine⟨cl,h1.keep hM λb hb hlt=>hk b (h3 b hb) hlt,h2,h3,λi c a hc ha=>?_⟩;obtain⟨Q,g1,g2⟩:=h4 i c a hc ha;exact⟨Q,R.go (λb hb=>hk b (g2 b hb).1 (g2 b hb).2.1) (λ_ h=>h) g1,λb hb=>⟨(g2 b hb).1,Nat.lt_of_lt_of_le (g2 b hb).2.1 hn,(g2 b hb).2.2⟩⟩
theorem aX.lt(h:aX R Z S v l)(hM:Mem H S){b:Nat}(hb:aG v b):b<S.n:=by
 obtain⟨cl,h1,_⟩:=h;exact h1.lt hM hb
theorem aX.o0(h:aX R Z S v l){b:Nat}(hb:aG v b):Z b:=by
 obtain⟨_,_,_,h3,_⟩:=h;exact h3 b hb
theorem aX.step{a:α}{c:List AV}{Q:Nat→Prop}{v':AV}(h:aX R Z S v l)(hr:R.rel S Q c a)(hQ:∀b,Q b→Z b∧b<S.n∧¬aG v b)(hnew:∀b,S.n≤b→Z b)(hs:∀cl,eI S R.sz v l.length cl→qY S v (l.length+1) R.sz (cl++c) S' v'):aX R Z S' v' (l++[a]):=by
 obtain⟨cl,h1,h2,h3,h4⟩:=h;obtain⟨a1,a2,a3,a4⟩:=hs _ h1;refine⟨cl++[c],?_,by simp[h2],λb hb'=>?_,λi c' a' hc ha=>?_⟩
 ·rw[List.flatten_append,List.length_append];show eI S' R.sz v' (l.length+1) (cl.flatten++[c].flatten);have:[c].flatten=c:=by simp
  rw[this];exact a3
 ·rcases a4 b hb' with g|g
  ·exact h3 b g
  ·exact hnew b g
 ·have fin:∀{Q:Nat→Prop}{c:List AV}{a:α},R.rel S Q c a→(∀b,Q b→Z b∧b<S.n∧¬aG v b)→∃Q,R.rel S' Q c a∧∀b,Q b→Z b∧b<S'.n∧¬aG v' b:=λ{Q c a} g1 g2=>
   ⟨Q,R.go (λb hb=>a2 b (g2 b hb).2.1 (g2 b hb).2.2) (λ_ h=>h) g1,λb hb=>⟨(g2 b hb).1,Nat.lt_of_lt_of_le (g2 b hb).2.1 a1,λhb'=>by
    rcases a4 b hb' with q|q
    ·exact(g2 b hb).2.2 q
    ·have:=(g2 b hb).2.1;omega⟩⟩
  by_cases hi:i<cl.length
  ·rw[List.getElem?_append_left hi]at hc;rw[List.getElem?_append_left (by omega)]at ha;obtain⟨Q,g1,g2⟩:=h4 i c' a' hc ha;exact fin g1 g2
  ·rw[List.getElem?_append_right (by omega)]at hc ha;have hi0:=(List.getElem?_eq_some_iff.1 hc).1;have e0:i-cl.length=0:=by simp at hi0;omega
   rw[e0]at hc;rw[h2]at e0;rw[e0]at ha;have ec:c=c':=by simpa using hc
   have ea:a=a':=by simpa using ha
   subst ec;subst ea;exact fin hr hQ
end
theorem eI.uniq{sz n:Nat}{v:AV}{l l':List AV}(h:eI S sz v n l)(h':eI S sz v n l'):l'=l:=by
 rcases h with⟨e1,e2,e3⟩|⟨b,c1,ex,cs,e1,e2,e3,e4,e5,e6,e7⟩
 ·rcases h' with⟨_,_,g3⟩|⟨b',c1',ex',cs',g1,_⟩
  ·rw[g3,e3]
  ·rw[e1]at g1;cases g1
 ·rcases h' with⟨g1,_⟩|⟨b',c1',ex',cs',g1,g2,g3,g4,g5,g6,g7⟩
  ·rw[e1]at g1;cases g1
  ·rw[e1]at g1;injection g1 with q1;subst q1;rw[e2]at g2;injection g2 with q2;rw[←g6,←e6,g5,e5,q2]
theorem ap7{m n b b' o o':Nat}{x:Prop}(hb:b≠b')(h:x):ke m n (.ptr b o) (.ptr b' o') x:=by
 show bT _ _;refine cE ?_ h;have:Nat.beq b b'=false:=by
  cases g:Nat.beq b b' with
  |false=>rfl
  |true=>exact absurd (Nat.eq_of_beq_eq_true g) hb
 rw[this];rfl
theorem acC{bs br n o:Nat}{v:AV}{l c cs0 z:List AV}{X:AH→Prop}(hM:Mem H S)(hs:eI S 7 v n l)(hrow:S.ob br=.ce z 0)(hz:z.length=7)(hzo:∀a∈z,a.one=true)(hc:c.length=7)(hco:∀a∈c,a.one=true)(hbs:S.ob bs=.ce cs0 0)(ho:o<cs0.length)(hne:¬aG v bs)(hl:(n+1)*96≤1099511627776)
  (hK:∀H' S' v',Mem H' (S'.set bs (.ce (cs0.set o v') 0))→qY S v (n+1) 7 (l++c) S' v'→S'.ob bs=.ce cs0 0→X H') :
  dh 7 96 v (.slice br 0 1 1 7 true) H λv14 eM=>cK 7 v14 (.int 0 (n:Int)) λv16=>ae 7 v16 (.agg c) eM λdK=>ae 1 (.ptr bs o) v14 dK λib=>ae 1 (.ptr bs o) v14 eM λfD=>ae 7 v16 (.agg c) fD λia=>ke 7 1 v16 (.ptr bs o) (X ib):=by
 refine rY (sz:=7) (ex:=true) (cap:=1) (o:=0) (n:=1) (l:=z) (m:=0) (b:=br) (k:=λl=>wX 7 96 1 _ l H _) hM hrow (by omega) ?_;rw[List.drop_zero,List.take_of_length_le (by omega)];refine AP hM hs (by omega) (.inl (by omega)) (by omega) hl hzo λH1 S1 v1 m1 he=>?_;obtain⟨e1,e2,e3,e4⟩:=he;have fq:bs<S.n:=hM.lt (by rw[hbs];simp);have o1:S1.ob bs=.ce cs0 0:=(e2 bs fq hne).trans hbs;rcases e3 with⟨_,g,_⟩|⟨b,cp,ex,cs,rfl,g2,g3,g4,g5,g6,g7⟩
 ·omega
 have hbne:b≠bs:=λq=>by
  subst q;rcases e4 b rfl with g|g
  ·exact hne g
  ·omega
 refine mj (by omega) (by omega) ?_;rw[Int.toNat_natCast,Nat.zero_add];have hle:(n+1)*7≤cp*7:=Nat.mul_le_mul_right _ g4;have hone:(AV.slice b 0 (n+1) cp 7 ex).one=true:=rfl;refine gK m1 g2 (by omega) hc (by omega) hco λH2 m2=>?_;have o2:(S1.set b (.ce (eQ cs (n*7) c) 0)).ob bs=.ce cs0 0:=(LS.ah _ _ (Ne.symm hbne)).trans o1;refine aT m2 o2 (by omega) ho hone λH3 m3=>?_;refine aT m1 o1 (by omega) ho hone λH4 m4=>?_;refine gK m4 ((LS.ah _ _ hbne).trans g2) (by omega) hc (by omega) hco λH5 m5=>?_;refine ap7 hbne ?_;have hll:l.length=n*7:=by
  rw[List.length_append,hz]at g5;omega
 have hsl:(eQ cs (n*7) c).length=cs.length:=qX (by omega);refine hK H3 (S1.set b (.ce (eQ cs (n*7) c) 0)) _ m3 ⟨e1,λx hx hn=>?_,.inr ⟨b,cp,ex,eQ cs (n*7) c,rfl,LS.aj _ _ _,by rw[hsl];exact g3,g4,by rw[List.length_append,hc];omega,?_,λa ha=>?_⟩,e4⟩ o2
 ·have hxb:x≠b:=λq=>by
   subst q;rcases e4 x rfl with g|g
   ·exact hn g
   ·omega
  exact(LS.ah _ _ hxb).trans (e2 x hx hn)
 ·have ht:cs.take (n*7)=l:=by
   have g:(cs.take (l++z).length).take (n*7)=(l++z).take (n*7):=by rw[g6]
   rw[List.take_take,Nat.min_eq_left (by rw[List.length_append];omega)]at g;rw[g,←hll];exact List.take_left' rfl
  unfold eQ;rw[ht,List.take_append_of_le_length (by rw[List.length_append];exact Nat.le_refl _)];exact List.take_of_length_le (Nat.le_refl _)
 ·simp only[eQ,List.mem_append]at ha;rcases ha with(g|g)|g
  ·exact g7 a (List.mem_of_mem_take g)
  ·exact hco a g
  ·exact g7 a (List.mem_of_mem_drop g)
end
end Go.X
namespace Go.Proofs.YtcedghechlgecaaGreatDoor
open Go Go.X Go.Proofs.YtcedghechlgecaaGreatDoor.G
section
variable {H:AH}{S:LS}{K:KF}{C:Ctx}{i d:Nat}
theorem ft.plain{Q:Nat→Prop}{kind a:Nat}{names:List (List Nat)}{l:List aC}{vn vl:AV}{cl:Nat→List AV}(hn:ku S Q vn names)(hl:cM S Q 7 vl l.length cl)(he:∀i e,l[i]? = some e→RE S Q (cl i) e):ft S Q [.int 0 (kind:Int),.int 0 (a:Int),vn,vl,.ab] (.mk kind a names l []):=
 .mk kind a names l [] vn vl .ab cl (λ_=>.ab) (λ_ _=>[]) hn hl he (cM.nil _ _ _ _) (λi b h=>by simp at h) (λi b j s h=>by simp at h)
theorem ku.nil{Q:Nat→Prop}:ku S Q .ab []:=⟨cM.nil _ _ _ _,λt h=>by simp at h⟩
theorem ku.one1{Q:Nat→Prop}{b m:Nat}{s:List Nat}{ex:Bool}(hQ:Q b)(hb:S.ob b=.ce [af s] m)(h8:B8 s):ku S Q (.slice b 0 1 1 1 ex) [s]:=
 ⟨cM.names (l:=[s]) hQ hb,λt h=>by
  have e:t=s:=by simpa using h
  subst e;exact h8⟩
theorem _root_.Go.X.ku.go{S S':LS}{Q Q':Nat→Prop}{v:AV}{l:List (List Nat)}(h:ku S Q v l)(hk:∀b,Q b→S'.ob b=S.ob b)(h1:∀b,Q b→Q' b):ku S' Q' v l:=⟨h.1.go hk h1,h.2⟩
theorem _root_.Go.X.bS.setB{bs:Nat}(hp:bS C S i d)(hM:Mem H S)(hbs:bs≠C.bp)(bK:∀b,aG C.vT b→b≠bs)(o:gd):bS C (S.set bs o) i d:=
 hp.keep (X:=λb=>b=bs) hM ((an.refl (λb=>b=bs) _).set (.inl rfl) _) (λq=>hbs q.symm) bK
theorem app0{m n k:Nat}(O:iz C m n)(hk:k≤n)(hd:d≤200){bs:Nat}{cs:List AV}{S0:LS}(hM:Mem H S)(hp:bS C S i d)(hx:an (cG C bs) S0 S)(ho:S.ob bs=.ce cs 0)(h3:cs[3]? = some .ab)(hbs:bs≠C.bp)(bK:∀b,aG C.vT b→b≠bs){X:AH→Prop}{f:aC→Nat→ay aS}
  (hP:Post C (cG C bs) d (fO bs) K S0 ((bY C.T k i d).bind f))
  (hX:∀(e:aC) (c:List AV) (v:AV) (j:Nat) (H':AH) (S':LS),Mem H' (S'.set bs (.ce (cs.set 3 v) 0))→an (aK C) S S'→bS C (S'.set bs (.ce (cs.set 3 v) 0)) j d→cM S' (λb=>S.n≤b∧b<S'.n) 7 v 1 (λ_=>c)→RE S' (λb=>S.n≤b∧b<S'.n) c e→Post C (cG C bs) d (fO bs) K S0 (f e j)→X H') :
  ak (.ptr bs 3) H λv28=>dp v28 λv29=>cI 0 v29 λz30=>bG H (aN (aA H) 1 7 z7 λv31 oC=>bT (Nat.beq oC.n (Nat.succ H.n)) ((s13 m).2.2.2.2.1 (.ptr C.bp 0) oC λAX mR=>cR K AX mR λv35=>ak (.ptr bs 3) mR λv36=>bT (aU v36 v28) (dh 7 96 v28 v31 mR λv37 oB=>cK 7 v37 (.int 0 z30) λv39=>ae 7 v39 v35 oB λxM=>ae 1 (.ptr bs 3) v37 xM λnN=>ae 1 (.ptr bs 3) v37 oB λAl=>ae 7 v39 v35 Al λNi=>ke 7 1 v39 (.ptr bs 3) (X nN)))):=by
 have hl3:3<cs.length:=(List.getElem?_eq_some_iff.1 h3).1;refine aw hM ho (v:=.ab) h3 ?_;refine(eI.nil S 7).len ?_;rw[aE];refine hM.bG ?_;refine cA hM rfl cm λH1 m1=>cE (mJ (by rw[m1.n,hM.n];rfl)) ?_;have c1:an aV S (S.push (.ce z7 0)):=(an.refl _ _).push _;have fq:bs<S.n:=hM.lt (by rw[ho];simp);have kR:¬aK C bs:=λq=>hbs (by have q:bs=C.bp:=q;exact q);have hbp:=hp.dO hM;refine O.exp k hk hd m1 (hp.no hM c1) (Post.call hP (hx.trans c1.no) (λ_ h=>.inl h) λe j H2 S2 w m2 c2 p2 ⟨c,hw,hR⟩ hP2=>?_);subst hw;have c12:=c1.no.trans c2;have o2:=c12.ob hM ho kR;have or2:S2.ob S.n=.ce z7 0:=c2.ob m1 (LS.ag _ _) λq=>by have q:S.n=C.bp:=q;omega
 refine aw m2 o2 (v:=.ab) h3 ?_;refine cE rfl ?_;have n2:S.n+1≤S2.n:=c2.1;refine acC (n:=0) (l:=[]) m2 (eI.nil _ _) or2 rfl cm hR.len hR.ones o2 hl3 (λh=>h) (by omega) λH3 S3 v' m3 he o3=>?_;obtain⟨e1,e2,e3,e4⟩:=he;have c3:an (aK C) S S3:=⟨Nat.le_trans c12.1 e1,λb hb hx=>(e2 b (Nat.lt_of_lt_of_le hb c12.1) λh=>h).trans (c12.2 b hb hx)⟩
 have hv':∀b,aG v' b→S2.n≤b:=λb hb=>(e4 b hb).elim (λh=>h.elim) λh=>h;have p3:bS C S3 j d:=p2.keep (X:=aV) m2 ⟨e1,λb hb _=>e2 b hb λh=>h⟩ (λh=>h) λ_ _ h=>h;have hlt3:∀b,aG v' b→b<S3.n:=λb hb=>by
  rcases e3 with⟨_,g,_⟩|⟨b',cp,ex,cs',rfl,g2,g3,_⟩
  ·omega
  ·have e:b=b':=hb;subst e;have hne:b≠bs:=by have:=hv' b rfl;omega
   exact m3.lt (S:=S3.set bs _) (b:=b) (by rw[LS.ah _ _ hne,g2];simp)
 refine hX e c v' j H3 S3 m3 c3 ?_ ((e3.slR (Q:=λb=>S.n≤b∧b<S3.n) λb hb=>⟨by have:=hv' b hb;omega,hlt3 b hb⟩).congr λi hi=>?_) (hR.go (λb hb=>e2 b hb.2 λh=>h) λb hb=>⟨by have h:=hb.1;have h:S.n+1≤b:=h;omega,Nat.lt_of_lt_of_le hb.2 e1⟩) hP2
 ·refine⟨(LS.ah _ _ hbs.symm).trans p3.ob,?_,p3.lt⟩;rcases p3.tk with g|⟨b,cc,ex,cs',g1,g2,g3⟩
  ·exact .inl g
  ·refine .inr ⟨b,cc,ex,cs',g1,?_,g3⟩;rw[LS.ah _ _ (bK b (by rw[g1];rfl))];exact g2
 ·have:i=0:=by omega
  subst this;show(([]++c:List AV).drop (0*7)).take 7=c;rw[Nat.zero_mul,List.drop_zero,List.nil_append,List.take_of_length_le (by rw[hR.len];exact Nat.le_refl _)]
theorem s95{m n:Nat}(hpv:C.pv=.iface 57 (.agg []))(O:iz C m n):∀k,k≤n+1→Nv C (s13 (m+1)).2.2.1 (jS C.T k):=by
 intro k hk K H S i d a bs hd hM hp ho hbs bK hP;cases k with
 |zero=>simp only[jS]at hP;exact False.elim hP
 |succ k=>
  have e:(s13 (m+1)).2.2.1=zI (nR (s13 m)):=by rw[pr]
  rw[e];have r1:(nR (s13 m)).1=f23:=rfl;have r2:(nR (s13 m)).2.1=f56:=rfl;have r3:(nR (s13 m)).2.2.1=(s13 m).2.2.2.2.1:=rfl;have r4:(nR (s13 m)).2.2.2.1=f130:=rfl;have r5:(nR (s13 m)).2.2.2.2=(s13 m).2.2.2.2.2.2.2.1:=rfl;unfold zI aew PY;rw[r2,r3,r4];simp only[jS]at hP;have hbp:=hp.dO hM;have fq:bs<S.n:=hM.lt (by rw[ho];simp);have kR:¬aK C bs:=λq=>hbs (by have q:bs=C.bp:=q;exact q);simp only[cj,aL,Nat.zero_add];refine aT (v:=.int 0 ((1:Nat):Int)) hM ho (by omega) (by show 0<5;omega) rfl λH1 m1'=>?_;have m1:Mem H1 (S.set bs (.ce [.int 0 ((1:Nat):Int),.int 0 (a:Int),.ab,.ab,.ab] 0)):=m1';clear m1';have x1:an (cG C bs) S (S.set bs (.ce [.int 0 ((1:Nat):Int),.int 0 (a:Int),.ab,.ab,.ab] 0)):=(an.refl _ _).set (.inl (.inr rfl)) _;have p1:=hp.setB hM hbs bK (.ce [.int 0 ((1:Nat):Int),.int 0 (a:Int),.ab,.ab,.ab] 0);have o1:(S.set bs (.ce [.int 0 ((1:Nat):Int),.int 0 (a:Int),.ab,.ab,.ab] 0)).ob bs=.ce [.int 0 ((1:Nat):Int),.int 0 (a:Int),.ab,.ab,.ab] 0:=LS.aj _ _ _;refine eH (s:=[102,117,110,99,116,105,111,110]) (aD (by decide)) m1 p1 λH2 S2 m2 c2 p2=>?_;simp only[ai,aB];have o2:=c2.ob m1 o1 kR;have x2:=x1.trans (c2.two (bn:=bs));cases h1:isA C.T [102,117,110,99,116,105,111,110] i with
  |true=>
   simp only[h1,if_true]at hP p2;rw[az];refine aT (v:=.int 0 ((12:Nat):Int)) m2 o2 (by omega) (by show 0<5;omega) rfl λH3 m3'=>?_;have m3:Mem H3 (S2.set bs (.ce [.int 0 ((12:Nat):Int),.int 0 (a:Int),.ab,.ab,.ab] 0)):=m3';clear m3';have x3:an (cG C bs) S (S2.set bs (.ce [.int 0 ((12:Nat):Int),.int 0 (a:Int),.ab,.ab,.ab] 0)):=x2.set (.inl (.inr rfl)) _;have p3:=p2.setB m2 hbs bK (.ce [.int 0 ((12:Nat):Int),.int 0 (a:Int),.ab,.ab,.ab] 0);have o3:(S2.set bs (.ce [.int 0 ((12:Nat):Int),.int 0 (a:Int),.ab,.ab,.ab] 0)).ob bs=.ce [.int 0 ((12:Nat):Int),.int 0 (a:Int),.ab,.ab,.ab] 0:=LS.aj _ _ _;refine yY hpv m3 p3 (Post.call hP x3 (λ_ h=>.inl h) λs j H4 S4 w m4 c4 p4 ⟨hv,h8⟩ hP2=>?_);subst hv;have o4:=c4.ob m3 o3 kR;have x4:=x3.trans (c4.two (bn:=bs));refine ey (fe s) ?_;refine cA m4 rfl (λx h=>by rw[List.mem_singleton]at h;rw[h];exact fe s) λH5 m5=>?_;have c5:an aV S4 (S4.push (.ce [af s] 0)):=(an.refl _ _).push _;refine aT m5 (c5.ob m4 o4 λq=>q) (by omega) (by show 2<5;omega) rfl λH6 SN=>?_;have m6:Mem H6 ((S4.push (.ce [af s] 0)).set bs (.ce [.int 0 ((12:Nat):Int),.int 0 (a:Int),.slice S4.n 0 1 1 1 true,.ab,.ab] 0)):=SN;clear SN;have x6:an (cG C bs) S ((S4.push (.ce [af s] 0)).set bs (.ce [.int 0 ((12:Nat):Int),.int 0 (a:Int),.slice S4.n 0 1 1 1 true,.ab,.ab] 0)):=(x4.trans c5.no).set (.inl (.inr rfl)) _;have p6:=(p4.no m4 c5).setB m5 hbs bK (.ce [.int 0 ((12:Nat):Int),.int 0 (a:Int),.slice S4.n 0 1 1 1 true,.ab,.ab] 0);have o6:((S4.push (.ce [af s] 0)).set bs (.ce [.int 0 ((12:Nat):Int),.int 0 (a:Int),.slice S4.n 0 1 1 1 true,.ab,.ab] 0)).ob bs=.ce [.int 0 ((12:Nat):Int),.int 0 (a:Int),.slice S4.n 0 1 1 1 true,.ab,.ab] 0:=LS.aj _ _ _;have n4:=x4.1;have Ao:((S4.push (.ce [af s] 0)).set bs (.ce [.int 0 ((12:Nat):Int),.int 0 (a:Int),.slice S4.n 0 1 1 1 true,.ab,.ab] 0)).ob S4.n=.ce [af s] 0:=(LS.ah _ _ (by omega)).trans (LS.ag _ _);have nn6:((S4.push (.ce [af s] 0)).set bs (.ce [.int 0 ((12:Nat):Int),.int 0 (a:Int),.slice S4.n 0 1 1 1 true,.ab,.ab] 0)).n=S4.n+1:=rfl;revert m6 x6 p6 o6 Ao nn6;generalize (S4.push (.ce [af s] 0)).set bs (.ce [.int 0 ((12:Nat):Int),.int 0 (a:Int),.slice S4.n 0 1 1 1 true,.ab,.ab] 0)=S6;intro m6 x6 p6 o6 Ao nn6;unfold PX PW;rw[r1,r5];refine jK m6 p6 λH7 S7 m7 c7 p7=>?_;rw[ai];refine jI ?_;have o7:=c7.ob m6 o6 λq=>q;have on7:=c7.ob m6 Ao λq=>q;have x7:=x6.trans (c7.no (X:=cG C bs));have n7:=c7.1;refine O.body k (by omega) hd m7 p7 (Post.call hP2 x7 (λ_ h=>.inl h) λe j H8 S8 w m8 c8 p8 ⟨c,hw,hR⟩ hP3=>?_);subst hw;have o8:=c8.ob m7 o7 kR;have on8:=c8.ob m7 on7 λq=>by have q:S4.n=C.bp:=q;omega
   have x8:=x7.trans (c8.two (bn:=bs));have n8:=c8.1;rw[dD];refine dv hR.len ?_;rw[qE hR.len rfl];refine cA m8 (by rw[hR.len]) hR.ones λH9 m9=>?_;simp only[cj,aL,Nat.zero_add];have c9:an aV S8 (S8.push (.ce c 0)):=(an.refl _ _).push _;refine aT m9 (c9.ob m8 o8 λq=>q) (by omega) (by show 3<5;omega) rfl λHa ma=>?_;have nx7:=x7.1;have kp:∀b,b<S8.n→b≠bs→((S8.push (.ce c 0)).set bs (.ce [.int 0 ((12:Nat):Int),.int 0 (a:Int),.slice S4.n 0 1 1 1 true,.slice S8.n 0 1 1 7 true,.ab] 0)).ob b=S8.ob b:=λb hb hne=>by rw[LS.ah _ _ hne,LS.aZ _ _ hb]
   exact hP3 Ha _ _ ma ((x8.trans c9.no).set (.inl (.inr rfl)) _) ((p8.no m8 c9).setB m9 hbs bK _) ⟨rfl,_,LS.aj _ _ _,ft.plain (l:=[e]) (cl:=λ_=>c) (ku.one1 (b:=S4.n) ⟨n4,by show S4.n<S8.n+1;omega⟩ ((kp _ (by omega) (by omega)).trans on8) h8) (cM.single (m:=0) ⟨by omega,Nat.lt_succ_self _⟩ ((LS.ah _ _ (by omega)).trans (LS.ag _ _)) hR.len) λi e' h=>by
    cases i with
    |zero=>
     have e1:e=e':=by simpa using h
     subst e1;exact hR.go (λb hb=>kp b hb.2 (by have:=hb.1;omega)) λb hb=>⟨by have:=hb.1;omega,Nat.lt_succ_of_lt hb.2⟩
    |succ i=>simp at h⟩
  |false=>
   simp only[h1,Bool.false_eq_true,if_false]at hP p2;rw[ax];refine yY hpv m2 p2 (Post.call hP x2 (λ_ h=>.inl h) λs j H3 S3 w m3 c3 p3 ⟨hv,h8⟩ hP2=>?_);subst hv;have o3:=c3.ob m2 o2 kR;have x3:=x2.trans (c3.two (bn:=bs));refine ey (fe s) ?_;refine cA m3 rfl (λx h=>by rw[List.mem_singleton]at h;rw[h];exact fe s) λH4 m4=>?_;have c4:an aV S3 (S3.push (.ce [af s] 0)):=(an.refl _ _).push _;refine aT m4 (c4.ob m3 o3 λq=>q) (by omega) (by show 2<5;omega) rfl λH5 SO=>?_;have m5:Mem H5 ((S3.push (.ce [af s] 0)).set bs (.ce [.int 0 ((1:Nat):Int),.int 0 (a:Int),.slice S3.n 0 1 1 1 true,.ab,.ab] 0)):=SO;clear SO;have x5:an (cG C bs) S ((S3.push (.ce [af s] 0)).set bs (.ce [.int 0 ((1:Nat):Int),.int 0 (a:Int),.slice S3.n 0 1 1 1 true,.ab,.ab] 0)):=(x3.trans c4.no).set (.inl (.inr rfl)) _;have p5:=(p3.no m3 c4).setB m4 hbs bK (.ce [.int 0 ((1:Nat):Int),.int 0 (a:Int),.slice S3.n 0 1 1 1 true,.ab,.ab] 0);have o5:((S3.push (.ce [af s] 0)).set bs (.ce [.int 0 ((1:Nat):Int),.int 0 (a:Int),.slice S3.n 0 1 1 1 true,.ab,.ab] 0)).ob bs=.ce [.int 0 ((1:Nat):Int),.int 0 (a:Int),.slice S3.n 0 1 1 1 true,.ab,.ab] 0:=LS.aj _ _ _;have n3:=x3.1;have on5:((S3.push (.ce [af s] 0)).set bs (.ce [.int 0 ((1:Nat):Int),.int 0 (a:Int),.slice S3.n 0 1 1 1 true,.ab,.ab] 0)).ob S3.n=.ce [af s] 0:=(LS.ah _ _ (by omega)).trans (LS.ag _ _);have nn5:((S3.push (.ce [af s] 0)).set bs (.ce [.int 0 ((1:Nat):Int),.int 0 (a:Int),.slice S3.n 0 1 1 1 true,.ab,.ab] 0)).n=S3.n+1:=rfl;revert m5 x5 p5 o5 on5 nn5;generalize (S3.push (.ce [af s] 0)).set bs (.ce [.int 0 ((1:Nat):Int),.int 0 (a:Int),.slice S3.n 0 1 1 1 true,.ab,.ab] 0)=S5;intro m5 x5 p5 o5 on5 nn5;refine eH (s:=[61]) (aD (by decide)) m5 p5 λH6 S6 m6 c6 p6=>?_;simp only[ai,aB];have o6:=c6.ob m5 o5 kR;have Ao:=c6.ob m5 on5 λq=>by have q:S3.n=C.bp:=q;omega
   have x6:=x5.trans (c6.two (bn:=bs));have n6:=c6.1;cases h2:isA C.T [61] j with
   |false=>
    simp only[h2,Bool.false_eq_true,if_false]at hP2 p6;rw[ax];exact hP2 H6 S6 _ m6 x6 p6 ⟨rfl,_,o6,ft.plain (ku.one1 ⟨n3,by omega⟩ Ao h8) (cM.nil _ _ _ (λ_=>[])) λi e h=>by simp at h⟩
   |true=>
    simp only[h2,if_true]at hP2 p6;rw[az];refine app0 O (k:=k) (by omega) hd m6 p6 x6 o6 rfl hbs bK hP2 λe c v j H7 S7 m7 c7 p7 hsl hR hP3=>?_;have on7:=c7.ob m6 Ao λq=>by have q:S3.n=C.bp:=q;omega
    have n7:=c7.1;have n6':=x6.1;have kp:∀b,S.n≤b→(S7.set bs (.ce ([.int 0 ((1:Nat):Int),.int 0 (a:Int),.slice S3.n 0 1 1 1 true,.ab,.ab].set 3 v) 0)).ob b=S7.ob b:=λb hb=>LS.ah _ _ (by omega);exact hP3 H7 _ _ m7 ((x6.trans (c7.two (bn:=bs))).set (.inl (.inr rfl)) _) p7 ⟨rfl,_,LS.aj _ _ _,ft.plain (l:=[e]) (ku.one1 (b:=S3.n) ⟨n3,by show S3.n<S7.n;omega⟩ ((kp _ n3).trans on7) h8) (hsl.go (λb hb=>kp b (by have:=hb.1;omega)) λb hb=>⟨by have:=hb.1;omega,hb.2⟩) λi e' h=>by
     cases i with
     |zero=>
      have e1:e=e':=by simpa using h
      subst e1;exact hR.go (λb hb=>kp b (by have:=hb.1;omega)) λb hb=>⟨by have:=hb.1;omega,hb.2⟩
     |succ i=>simp at h⟩
end
end Go.Proofs.YtcedghechlgecaaGreatDoor
namespace Go.X
theorem RE.k0{S:LS}{Q:Nat→Prop}{c:List AV}{e:aC}(h:RE S Q c e):∃l,c=.int 0 (e.kind:Int)::l:=by
 cases h;exact⟨_,rfl⟩
end Go.X
namespace Go.Proofs.YtcedghechlgecaaGreatDoor
open Go Go.X Go.Proofs.YtcedghechlgecaaGreatDoor.G
section
variable {H:AH}{S:LS}{K:KF}{C:Ctx}{i d:Nat}
theorem awg{m n:Nat}(hpv:C.pv=.iface 57 (.agg []))(O:iz C m n):∀k,k≤n+1→Nv C (s13 (m+1)).2.2.2.2.2.2.1 (iJ C.T k):=by
 intro k hk K H S i d a bs hd hM hp ho hbs bK hP;cases k with
 |zero=>simp only[iJ]at hP;exact False.elim hP
 |succ k=>
  have e:(s13 (m+1)).2.2.2.2.2.2.1=uX (ov (s13 m)):=by rw[pr]
  rw[e];have r1:(ov (s13 m)).1=(s13 m).2.2.2.2.1:=rfl;have r2:(ov (s13 m)).2.1=ny:=rfl;have r3:(ov (s13 m)).2.2=(s13 m).2.2.2.2.2.2.2.2.2.1:=rfl;unfold uX U4 JY;rw[r1,r2,r3];simp only[iJ]at hP;have hbp:=hp.dO hM;have fq:bs<S.n:=hM.lt (by rw[ho];simp);have kR:¬aK C bs:=λq=>hbs (by have q:bs=C.bp:=q;exact q);have cO:∀b,S.n≤b→¬aK C b:=λb hb q=>by have q:b=C.bp:=q;omega
  refine O.post k (by omega) hd hM hp (Post.call hP (an.refl _ _) (λ_ h=>.inl h) λe j H1 S1 v m1 c1 p1 ⟨c,hv,hR⟩ hP2=>?_);subst hv;have o1:=c1.ob hM ho kR;have n1:=c1.1;simp only[eU];refine bE (bz m1 cm λH2 m2=>?_);refine eJ m2 (LS.ag S1 (.ce z7 0)) rfl hR.len hR.ones λH3 m3=>?_;have c3:an aV S1 ((S1.push (.ce z7 0)).set S1.n (.ce c 0)):=((an.refl _ _).push _).set (.inr (Nat.le_refl _)) _;have Ws:((S1.push (.ce z7 0)).set S1.n (.ce c 0)).ob S1.n=.ce c 0:=LS.aj _ _ _;have nn3:((S1.push (.ce z7 0)).set S1.n (.ce c 0)).n=S1.n+1:=rfl;have o3:=c3.ob m1 o1 λq=>q;have p3:=p1.no m1 c3;have x3:an (aK C) S ((S1.push (.ce z7 0)).set S1.n (.ce c 0)):=c1.trans c3.no;have hR3:RE ((S1.push (.ce z7 0)).set S1.n (.ce c 0)) (fb S.n S1.n) c e:=hR.go (λb hb=>c3.2 b hb.2 λq=>q) λ_ h=>h;revert m3 c3 Ws nn3 o3 p3 x3 hR3;generalize (S1.push (.ce z7 0)).set S1.n (.ce c 0)=S3;intro m3 c3 Ws nn3 o3 p3 x3 hR3;obtain⟨cr,hcr⟩:=hR.k0;simp only[cj,aL,Nat.zero_add];refine aw m3 Ws (v:=.int 0 (e.kind:Int)) (by rw[hcr];rfl) ?_;have e10:Int.ofNat 10=((10:Nat):Int):=rfl;rw[aE,bq,e10];by_cases g10:e.kind=10
  ·rw[if_pos g10]at hP2;rw[decide_eq_true (by omega),az];refine ew m3 Ws hR.len ?_;refine m3.bG ?_;rw[dD];refine dv hR.len ?_;rw[qE hR.len rfl];refine cA m3 (by rw[hR.len]) hR.ones λH4 m4=>cE (mJ (by rw[m4.n,m3.n];rfl)) ?_;have c4:an aV S3 (S3.push (.ce c 0)):=(an.refl _ _).push _;refine aT (v:=.int 0 ((3:Nat):Int)) m4 (c4.ob m3 o3 λq=>q) (by omega) (by show 0<5;omega) rfl λH5 SO=>?_;have m5:Mem H5 ((S3.push (.ce c 0)).set bs (.ce [.int 0 ((3:Nat):Int),.int 0 (a:Int),.ab,.ab,.ab] 0)):=SO;clear SO;refine ew m5 ((LS.ah _ _ (by omega)).trans (c4.ob m3 Ws λq=>q)) hR.len ?_;refine cE hR.same ?_;refine aT m5 (LS.aj _ _ _) (by omega) (by show 3<5;omega) rfl λH6 SN=>?_;have m6:Mem H6 (((S3.push (.ce c 0)).set bs (.ce [.int 0 ((3:Nat):Int),.int 0 (a:Int),.ab,.ab,.ab] 0)).set bs (.ce [.int 0 ((3:Nat):Int),.int 0 (a:Int),.ab,.slice S3.n 0 1 1 7 true,.ab] 0)):=SN;have kp:∀b,b≠bs→b<S3.n→(((S3.push (.ce c 0)).set bs (.ce [.int 0 ((3:Nat):Int),.int 0 (a:Int),.ab,.ab,.ab] 0)).set bs (.ce [.int 0 ((3:Nat):Int),.int 0 (a:Int),.ab,.slice S3.n 0 1 1 7 true,.ab] 0)).ob b=S3.ob b:=λb h1 h2=>by rw[LS.ah _ _ h1,LS.ah _ _ h1,LS.aZ _ _ h2]
   have x6:an (cG C bs) S (((S3.push (.ce c 0)).set bs (.ce [.int 0 ((3:Nat):Int),.int 0 (a:Int),.ab,.ab,.ab] 0)).set bs (.ce [.int 0 ((3:Nat):Int),.int 0 (a:Int),.ab,.slice S3.n 0 1 1 7 true,.ab] 0)):=(((x3.trans c4.no).two (bn:=bs)).set (.inl (.inr rfl)) _).set (.inl (.inr rfl)) _;refine hP2 H6 _ _ m6 x6 (((p3.no m3 c4).setB m4 hbs bK _).setB m5 hbs bK _) ⟨rfl,_,LS.aj _ _ _,ft.plain (l:=[e]) (cl:=λ_=>c) ku.nil (cM.single (b:=S3.n) (m:=0) ⟨by omega,Nat.lt_succ_self _⟩ (by rw[LS.ah _ _ (by omega),LS.ah _ _ (by omega)];exact LS.ag _ _) hR.len) λi e' h=>?_⟩;cases i with
   |zero=>
    have e1:e=e':=by simpa using h
    subst e1;exact hR3.go (λb hb=>kp b (by have:=hb.1;omega) (by have:=hb.2;omega)) λb hb=>⟨hb.1,by show b<S3.n+1;have:=hb.2;omega⟩
   |succ i=>simp at h
  ·rw[if_neg g10]at hP2;rw[decide_eq_false (by omega),ax];refine iu (s:=[61]) hpv (aD (by decide)) m3 p3 (Post.call (cV:=gY) hP2 (x3.two (bn:=bs)) (λ_ h=>.inl h) λ_ j2 H4 S4 w m4 c4 p4 _ hP3=>?_);have ov4:=c4.ob m3 Ws (cO _ n1);have o4:=c4.ob m3 o3 kR;have x4:=x3.trans c4;refine ew m4 ov4 hR.len ?_;refine O.exp k (by omega) hd m4 p4 (Post.call hP3 (x4.two (bn:=bs)) (λ_ h=>.inl h) λy j3 H5 S5 w m5 c5 p5 ⟨cb,hw,hR2⟩ na=>?_);subst hw;have ov5:=c5.ob m4 ov4 (cO _ n1);have o5:=c5.ob m4 o4 kR;have x5:=x4.trans c5;have n5:=x5.1;have n4:=x4.1;have c35:an (aK C) S3 S5:=c4.trans c5;have n35:=c35.1;refine ew m5 ov5 hR.len ?_;refine cE hR.same ?_;refine m5.bG ?_;rw[dD];refine dv hR.len ?_;rw[dD];refine dv hR2.len ?_;rw[tF hR.len hR2.len rfl];refine cA m5 (by rw[List.length_append,hR.len,hR2.len]) (λx h=>?_) λH6 m6=>cE (mJ (by rw[m6.n,m5.n];rfl)) ?_
   ·rcases List.mem_append.1 h with g|g
    ·exact hR.ones x g
    ·exact hR2.ones x g
   have c6:an aV S5 (S5.push (.ce (c++cb) 0)):=(an.refl _ _).push _;refine aT (v:=.int 0 ((2:Nat):Int)) m6 (c6.ob m5 o5 λq=>q) (by omega) (by show 0<5;omega) rfl λH7 m7'=>?_;have m7:Mem H7 ((S5.push (.ce (c++cb) 0)).set bs (.ce [.int 0 ((2:Nat):Int),.int 0 (a:Int),.ab,.ab,.ab] 0)):=m7';clear m7';refine ew m7 ((LS.ah _ _ (by omega)).trans (c6.ob m5 ov5 λq=>q)) hR.len ?_;refine cE hR.same ?_;refine aT m7 (LS.aj _ _ _) (by omega) (by show 3<5;omega) rfl λH8 m8'=>?_;have m8:Mem H8 (((S5.push (.ce (c++cb) 0)).set bs (.ce [.int 0 ((2:Nat):Int),.int 0 (a:Int),.ab,.ab,.ab] 0)).set bs (.ce [.int 0 ((2:Nat):Int),.int 0 (a:Int),.ab,.slice S5.n 0 2 2 7 true,.ab] 0)):=m8';have kp:∀b,b≠bs→b<S5.n→(((S5.push (.ce (c++cb) 0)).set bs (.ce [.int 0 ((2:Nat):Int),.int 0 (a:Int),.ab,.ab,.ab] 0)).set bs (.ce [.int 0 ((2:Nat):Int),.int 0 (a:Int),.ab,.slice S5.n 0 2 2 7 true,.ab] 0)).ob b=S5.ob b:=λb h1 h2=>by rw[LS.ah _ _ h1,LS.ah _ _ h1,LS.aZ _ _ h2]
   have x8:an (cG C bs) S (((S5.push (.ce (c++cb) 0)).set bs (.ce [.int 0 ((2:Nat):Int),.int 0 (a:Int),.ab,.ab,.ab] 0)).set bs (.ce [.int 0 ((2:Nat):Int),.int 0 (a:Int),.ab,.slice S5.n 0 2 2 7 true,.ab] 0)):=(((x5.trans c6.no).two (bn:=bs)).set (.inl (.inr rfl)) _).set (.inl (.inr rfl)) _;refine na H8 _ _ m8 x8 (((p5.no m5 c6).setB m6 hbs bK _).setB m7 hbs bK _) ⟨rfl,_,LS.aj _ _ _,ft.plain (l:=[e,y]) ku.nil (cM.two (b:=S5.n) (m:=0) ⟨n5,Nat.lt_succ_self _⟩ (by rw[LS.ah _ _ (by omega),LS.ah _ _ (by omega)];exact LS.ag _ _) hR.len hR2.len) λi e' h=>?_⟩
   match i,h with
   |0,h=>
    have e1:e=e':=by simpa using h
    subst e1;exact hR3.go (λb hb=>by
     have h1:=hb.1;have h2:=hb.2;rw[kp b (by omega) (by omega)];exact c35.2 b (by omega) (cO b h1)) λb hb=>⟨hb.1,by show b<S5.n+1;have:=hb.2;omega⟩
   |1,h=>
    have e1:y=e':=by simpa using h
    subst e1;exact hR2.go (λb hb=>kp b (by have:=hb.1;omega) hb.2) λb hb=>⟨by have:=hb.1;omega,Nat.lt_succ_of_lt hb.2⟩
   |i+2,h=>simp at h
end
section
variable {H:AH}{S:LS}{K:KF}{C:Ctx}{i d:Nat}
theorem acD{m n k:Nat}(O:iz C m n)(hk:k≤n)(hd:d≤200){bs:Nat}{cs:List AV}{S0:LS}{Z:Nat→Prop}{v:AV}{l:List aC}(hM:Mem H S)(hp:bS C S i d)(hx:an (cG C bs) S0 S)(ho:S.ob bs=.ce cs 0)(h3:cs[3]? = some v)(hbs:bs≠C.bp)(bK:∀b,aG C.vT b→b≠bs)
  (L:aX fZ Z S v l) (hZ:∀b,Z b→b≠bs∧b≠C.bp∧¬aG C.vT b) (hnew:∀b,S.n≤b→Z b) (hll:l.length≤1000000){X:AH→Prop}{f:aC→Nat→ay aS}
  (hP:Post C (cG C bs) d (fO bs) K S0 ((bY C.T k i d).bind f))
  (hX:∀(e:aC) (v':AV) (j:Nat) (H':AH) (S':LS),Mem H' (S'.set bs (.ce (cs.set 3 v') 0))→an (λb=>b=C.bp∨aG v b) S S'→bS C (S'.set bs (.ce (cs.set 3 v') 0)) j d→aX fZ Z (S'.set bs (.ce (cs.set 3 v') 0)) v' (l++[e])→(∀b,aG v' b→aG v b∨S.n≤b)→Post C (cG C bs) d (fO bs) K S0 (f e j)→X H') :
  ak (.ptr bs 3) H λv28=>dp v28 λv29=>cI 0 v29 λz30=>bG H (aN (aA H) 1 7 z7 λv31 oC=>bT (Nat.beq oC.n (Nat.succ H.n)) ((s13 m).2.2.2.2.1 (.ptr C.bp 0) oC λAX mR=>cR K AX mR λv35=>ak (.ptr bs 3) mR λv36=>bT (aU v36 v28) (dh 7 96 v28 v31 mR λv37 oB=>cK 7 v37 (.int 0 z30) λv39=>ae 7 v39 v35 oB λxM=>ae 1 (.ptr bs 3) v37 xM λnN=>ae 1 (.ptr bs 3) v37 oB λAl=>ae 7 v39 v35 Al λNi=>ke 7 1 v39 (.ptr bs 3) (X nN)))):=by
 have hl3:3<cs.length:=(List.getElem?_eq_some_iff.1 h3).1;have LR:dN fZ 0 S v l:=L.toR λb _=>Nat.zero_le _;refine aw hM ho (v:=v) h3 ?_;refine LR.xk ?_;rw[aE];refine hM.bG ?_;refine cA hM rfl cm λH1 m1=>cE (mJ (by rw[m1.n,hM.n];rfl)) ?_;have c1:an aV S (S.push (.ce z7 0)):=(an.refl _ _).push _;have fq:bs<S.n:=hM.lt (by rw[ho];simp);have kR:¬aK C bs:=λq=>hbs (by have q:bs=C.bp:=q;exact q);have hbp:=hp.dO hM;refine O.exp k hk hd m1 (hp.no hM c1) (Post.call hP (hx.trans c1.no) (λ_ h=>.inl h) λe j H2 S2 w m2 c2 p2 ⟨c,hw,hR⟩ hP2=>?_);subst hw;have c12:an (aK C) S S2:=c1.no.trans c2;have o2:=c12.ob hM ho kR;have or2:S2.ob S.n=.ce z7 0:=c2.ob m1 (LS.ag _ _) λq=>by have q:S.n=C.bp:=q;omega
 have L2:aX fZ Z S2 v l:=L.keep hM c12.1 λb hb hlt=>c12.2 b hlt λq=>(hZ b hb).2.1 (by have q:b=C.bp:=q;exact q);refine aw m2 o2 (v:=v) h3 ?_;refine cE LR.same ?_;have n2:S.n+1≤S2.n:=c2.1;have al6:¬aG v bs:=λq=>(hZ bs (L.o0 q)).1 rfl;have SP:∀b,aG v b→b<S.n:=λb hb=>L.lt hM hb;obtain⟨cl,hfr,hrest⟩:=id L2;refine acC m2 hfr or2 rfl cm hR.len hR.ones o2 hl3 al6 (by omega) λH3 S3 v' m3 he o3=>?_;have he':=he;obtain⟨e1,e2,e3,e4⟩:=he';have c3:an (λb=>b=C.bp∨aG v b) S S3:=⟨Nat.le_trans c12.1 e1,λb hb hx=>(e2 b (Nat.lt_of_lt_of_le hb c12.1) λh=>hx (.inr h)).trans (c12.2 b hb λq=>hx (.inl (by have q:b=C.bp:=q;exact q)))⟩
 have L3:aX fZ Z S3 v' (l++[e]):=L2.step hR (λb hb=>⟨hnew b (by have h:S.n+1≤b:=hb.1;omega),hb.2,λq=>by have:=SP b q;have h:S.n+1≤b:=hb.1;omega⟩) (λb hb=>hnew b (by omega)) λcl' h'=>by rw[hfr.uniq h'];exact he
 have p3:bS C S3 j d:=p2.keep (X:=λb=>aG v b) m2 ⟨e1,λb hb hn=>e2 b hb hn⟩ (λq=>(hZ _ (L.o0 q)).2.1 rfl) λb hb q=>(hZ _ (L.o0 q)).2.2 hb;have L4:aX fZ Z (S3.set bs (.ce (cs.set 3 v') 0)) v' (l++[e]):=by
  obtain⟨cl3,g1,g2,g3,g4⟩:=L3;refine⟨cl3,?_,g2,g3,λi c a hc ha=>?_⟩
  ·rcases g1 with g|⟨b,cc,ex,cs',q1,q2,q3⟩
   ·exact .inl g
   ·exact .inr ⟨b,cc,ex,cs',q1,(LS.ah _ _ (hZ b (g3 b (by rw[q1];rfl))).1).trans q2,q3⟩
  ·obtain⟨Q,q1,q2⟩:=g4 i c a hc ha;exact⟨Q,RE.go (λb hb=>LS.ah _ _ (hZ b (q2 b hb).1).1) (λ_ h=>h) q1,q2⟩
 refine hX e v' j H3 S3 m3 c3 ?_ L4 (λb hb=>(e4 b hb).elim .inl λh=>.inr (by omega)) hP2;refine⟨(LS.ah _ _ hbs.symm).trans p3.ob,?_,p3.lt⟩;rcases p3.tk with g|⟨b,cc,ex,cs',g1,g2,g3⟩
 ·exact .inl g
 ·refine .inr ⟨b,cc,ex,cs',g1,?_,g3⟩;rw[LS.ah _ _ (bK b (by rw[g1];rfl))];exact g2
end
end Go.Proofs.YtcedghechlgecaaGreatDoor
namespace Go.X
section
variable {S:LS}
theorem cM.o0{Q:Nat→Prop}{sz n:Nat}{v:AV}{cl:Nat→List AV}(h:cM S Q sz v n cl){b:Nat}(hb:aG v b):Q b:=by
 rcases h with⟨rfl,_⟩|⟨b',o,c,ex,cs,m,rfl,h1,_⟩
 ·exact hb.elim
 ·have e:b=b':=hb;rw[e];exact h1
end
end Go.X
namespace Go.Proofs.YtcedghechlgecaaGreatDoor
open Go Go.X Go.Proofs.YtcedghechlgecaaGreatDoor.G
section
variable {H:AH}{S:LS}{K:KF}{C:Ctx}{i d:Nat}
theorem ft.blk{Q:Nat→Prop}{kind a:Nat}{names:List (List Nat)}{l:List aC}{b:List aS}{vn vl vb v6:AV}{cl cb:Nat→List AV}(hn:ku S Q vn names)(hl:cM S Q 7 vl l.length cl)(he:∀i e,l[i]? = some e→RE S Q (cl i) e)(hvb:cM S Q 1 vb 1 (λ_=>[v6]))(h6:cM S Q 5 v6 b.length cb)(hs:∀j s,b[j]? = some s→ft S Q (cb j) s):ft S Q [.int 0 (kind:Int),.int 0 (a:Int),vn,vl,vb] (.mk kind a names l [b]):=
 .mk kind a names l [b] vn vl vb cl (λ_=>v6) (λ_=>cb) hn hl he hvb (λi b' h=>by
  cases i with
  |zero=>
   have e1:b=b':=by simpa using h
   subst e1;exact h6
  |succ i=>simp at h) (λi b' j s h h2=>by
  cases i with
  |zero=>
   have e1:b=b':=by simpa using h
   subst e1;exact hs j s h2
  |succ i=>simp at h)
structure qF(C:Ctx)(S0 S:LS)(bs kind a:Nat)(vn:AV)(names:List (List Nat))(vl:AV)(l:List aC):Prop where
 x:an (cG C bs) S0 S
 ob:S.ob bs=.ce [.int 0 (kind:Int),.int 0 (a:Int),vn,vl,.ab] 0
 N:∃Q,ku S Q vn names∧∀b,Q b→S0.n≤b∧b<S.n∧¬aG vl b
 E:aX fZ (λb=>S0.n≤b∧¬aG vn b) S vl l
theorem qF.keep{S0 S':LS}{bs kind a:Nat}{vn vl:AV}{names:List (List Nat)}{l:List aC}(h:qF C S0 S bs kind a vn names vl l)(hM:Mem H S)(hbp:C.bp<S0.n)(hbs:bs≠C.bp)(g:an (aK C) S S'):qF C S0 S' bs kind a vn names vl l:=by
 have nb:∀b,S0.n≤b→¬aK C b:=λb hb q=>by have q:b=C.bp:=q;omega
 obtain⟨Q,h1,h2⟩:=h.N;exact⟨h.x.trans g.two,g.ob hM h.ob (λq=>hbs (by have q:bs=C.bp:=q;exact q)),⟨Q,h1.go (λb hb=>g.2 b (h2 b hb).2.1 (nb b (h2 b hb).1)) (λ_ h=>h),λb hb=>⟨(h2 b hb).1,Nat.lt_of_lt_of_le (h2 b hb).2.1 g.1,(h2 b hb).2.2⟩⟩,h.E.keep hM g.1 λb h1 h2=>g.2 b h2 (nb b h1.1)⟩
theorem e99{m n:Nat}(hpv:C.pv=.iface 57 (.agg []))(O:iz C m n){S0:LS}{H0:AH}{i0 bs kind a k:Nat}{vn vl:AV}{names:List (List Nat)}{l:List aC}(hd:d≤200)(hM0:Mem H0 S0)(hp0:bS C S0 i0 d)(fq:bs<S0.n)(hbs:bs≠C.bp)(bK:∀b,aG C.vT b→b≠bs)(hk:k≤n+1)
  (hM:Mem H S) (hp:bS C S i d) (t:qF C S0 S bs kind a vn names vl l) (hP:Post C (cG C bs) d (fO bs) K S0 (de C.T k kind a names l i d)):GC (mo (s13 m)) K (.ptr C.bp 0) (.ptr bs 0) H:=by
 cases k with
 |zero=>simp only[de]at hP;exact False.elim hP
 |succ k=>
  have r1:(mo (s13 m)).1=(s13 m).1:=rfl;have r4:(mo (s13 m)).2.2.2.1=ny:=rfl;have hbp:=hp0.dO hM0;have kR:¬aK C bs:=λq=>hbs (by have q:bs=C.bp:=q;exact q);have cO:∀b,S0.n≤b→¬aK C b:=λb hb q=>by have q:b=C.bp:=q;omega
  simp only[de]at hP;unfold GC;rw[r1,r4];refine iu (s:=[100,111]) hpv (aD (by decide)) hM hp (Post.call (cV:=gY) hP t.x (λ_ h=>.inl h) λ_ j H1 S1 w m1 c1 p1 _ hP1=>?_);have t1:=t.keep hM hbp hbs c1;refine O.block k (by omega) hd m1 p1 (Post.call (cV:=fK) hP1 t1.x (λ_ h=>.inl h) λb j H2 S2 v6 m2 c2 p2 ⟨cb,hsl,hrs⟩ hP2=>?_);have t2:=t1.keep m1 hbp hbs c2;refine ey hsl.one ?_;refine cA m2 rfl (λx h=>by rw[List.mem_singleton]at h;rw[h];exact hsl.one) λH3 m3=>?_;have c3:an aV S2 (S2.push (.ce [v6] 0)):=(an.refl _ _).push _;simp only[cj,aL,Nat.zero_add];refine aT m3 (c3.ob m2 t2.ob λq=>q) (by omega) (by show 4<5;omega) rfl λH4 y0=>?_;have m4:Mem H4 ((S2.push (.ce [v6] 0)).set bs (.ce [.int 0 (kind:Int),.int 0 (a:Int),vn,vl,.slice S2.n 0 1 1 1 true] 0)):=y0;clear y0;have x4:an (cG C bs) S0 ((S2.push (.ce [v6] 0)).set bs (.ce [.int 0 (kind:Int),.int 0 (a:Int),vn,vl,.slice S2.n 0 1 1 1 true] 0)):=(t2.x.trans c3.no).set (.inl (.inr rfl)) _;have p4:=(p2.no m2 c3).setB m3 hbs bK (.ce [.int 0 (kind:Int),.int 0 (a:Int),vn,vl,.slice S2.n 0 1 1 1 true] 0);refine iu (s:=[101,110,100]) hpv (aD (by decide)) m4 p4 (Post.call (cV:=gY) hP2 x4 (λ_ h=>.inl h) λ_ j5 H5 S5 w m5 c5 p5 _ hP3=>?_);have n5:S2.n+1≤S5.n:=c5.1;have n12:=c2.1;have n01:=t1.x.1;have kp:∀b,S0.n≤b→b<S2.n→S5.ob b=S2.ob b:=λb h1 h2=>by
   rw[c5.2 b (by show b<S2.n+1;omega) (cO b h1),LS.ah _ _ (by omega),LS.aZ _ _ h2]
  obtain⟨cl,g1,g2⟩:=(t2.E.toR (lo:=S0.n) λb hb=>hb.1).done m2;obtain⟨Q,q1,q2⟩:=t2.N;have kq:∀b,fb S0.n S2.n b→S5.ob b=S2.ob b:=λb hb=>kp b hb.1 hb.2;have kw:∀b,fb S0.n S2.n b→fb S0.n S5.n b:=λb hb=>⟨hb.1,by have:=hb.2;omega⟩
  have kb:∀b,fb S1.n S2.n b→S5.ob b=S2.ob b:=λb hb=>kp b (by have:=hb.1;omega) hb.2;have kv:∀b,fb S1.n S2.n b→fb S0.n S5.n b:=λb hb=>⟨by have:=hb.1;omega,by have:=hb.2;omega⟩
  refine hP3 H5 S5 (.aY []) m5 (x4.trans c5.two) p5 ⟨rfl,_,c5.ob m4 (LS.aj _ _ _) kR,ft.blk (v6:=v6) (q1.go (λb hb=>kp b (q2 b hb).1 (q2 b hb).2.1) λb hb=>⟨(q2 b hb).1,by have:=(q2 b hb).2.1;omega⟩) (g1.go kq kw) (λi e h=>RE.go kq kw (g2 i e h)) (cM.single (b:=S2.n) (m:=0) ⟨by omega,by omega⟩ (c5.ob m4 ((LS.ah _ _ (by omega)).trans (LS.ag _ _)) (cO _ (by omega))) rfl) (hsl.go kb kv) λj s h=>(hrs j s h).go kb kv⟩
theorem qF.atk{S0 S2:LS}{H0:AH}{i0 bs kind a:Nat}{vn:AV}{names:List (List Nat)}{S1:LS}{c:List AV}{e:aC}(hM0:Mem H0 S0)(hp0:bS C S0 i0 d)(fq:bs<S0.n)(hbs:bs≠C.bp)(m2:Mem H S2)(n1:S0.n≤S1.n)(t:qF C S0 S2 bs kind a vn names .ab [])(hN:∀b,aG vn b→b<S1.n)(hR:RE S2 (fb S1.n S2.n) c e) :
  qF C S0 ((S2.push (.ce c 0)).set bs (.ce [.int 0 (kind:Int),.int 0 (a:Int),vn,.slice S2.n 0 1 1 7 true,.ab] 0)) bs kind a vn names (.slice S2.n 0 1 1 7 true) [e]:=by
 have n2:S0.n≤S2.n:=t.x.1;have c3:an aV S2 (S2.push (.ce c 0)):=(an.refl _ _).push _;have kp:∀b,b≠bs→b<S2.n→((S2.push (.ce c 0)).set bs (.ce [.int 0 (kind:Int),.int 0 (a:Int),vn,.slice S2.n 0 1 1 7 true,.ab] 0)).ob b=S2.ob b:=λb h1 h2=>by rw[LS.ah _ _ h1,LS.aZ _ _ h2]
 have n12:S1.n≤S2.n∨S2.n<S1.n:=by omega
 obtain⟨Q,q1,q2⟩:=t.N;have hN2:∀b,aG vn b→b<S2.n:=λb hb=>(q2 b (q1.1.o0 hb)).2.1;refine⟨(t.x.trans c3.no).set (.inl (.inr rfl)) _,LS.aj _ _ _,⟨Q,q1.go (λb hb=>kp b (by have:=(q2 b hb).1;omega) (q2 b hb).2.1) (λ_ h=>h),λb hb=>⟨(q2 b hb).1,Nat.lt_succ_of_lt (q2 b hb).2.1,λq=>by have q:b=S2.n:=q;have:=(q2 b hb).2.1;omega⟩⟩,?_⟩;refine⟨[c],.inr ⟨S2.n,1,true,c,rfl,(LS.ah _ _ (by omega)).trans (LS.ag _ _),by rw[hR.len];rfl,Nat.le_refl _,by rw[List.flatten_cons,List.flatten_nil,List.append_nil,hR.len];rfl,by rw[List.flatten_cons,List.flatten_nil,List.append_nil];exact List.take_of_length_le (Nat.le_refl _),hR.ones⟩,rfl,λb hb=>?_,λi c' e' hc he=>?_⟩
 ·have hb:b=S2.n:=hb;subst hb;exact⟨n2,λq=>by have:=hN2 _ q;omega⟩
 ·cases i with
  |zero=>
   have e1:c=c':=by simpa using hc
   have e2:e=e':=by simpa using he
   subst e1;subst e2;exact⟨fb S1.n S2.n,hR.go (λb hb=>kp b (by have:=hb.1;omega) hb.2) (λ_ h=>h),λb hb=>⟨⟨by have:=hb.1;omega,λq=>by have:=hN b q;have:=hb.1;omega⟩,Nat.lt_succ_of_lt hb.2,λq=>by have q:b=S2.n:=q;have:=hb.2;omega⟩⟩
  |succ i=>simp at hc
theorem qF.more{m n k:Nat}(O:iz C m n)(hk:k≤n){S0:LS}{H0:AH}{i0 bs kind a:Nat}{vn vl:AV}{names:List (List Nat)}{l:List aC}(hd:d≤200)(hM0:Mem H0 S0)(hp0:bS C S0 i0 d)(fq:bs<S0.n)(hbs:bs≠C.bp)(bK:∀b,aG C.vT b→b≠bs)
  (hM:Mem H S) (hp:bS C S i d) (t:qF C S0 S bs kind a vn names vl l) (hll:l.length≤1000000){X:AH→Prop}{f:aC→Nat→ay aS}
  (hP:Post C (cG C bs) d (fO bs) K S0 ((bY C.T k i d).bind f))
  (hX:∀(e:aC) (v':AV) (j:Nat) (H':AH) (S':LS),Mem H' S'→bS C S' j d→qF C S0 S' bs kind a vn names v' (l++[e])→Post C (cG C bs) d (fO bs) K S0 (f e j)→X H') :
  ak (.ptr bs 3) H λv28=>dp v28 λv29=>cI 0 v29 λz30=>bG H (aN (aA H) 1 7 z7 λv31 oC=>bT (Nat.beq oC.n (Nat.succ H.n)) ((s13 m).2.2.2.2.1 (.ptr C.bp 0) oC λAX mR=>cR K AX mR λv35=>ak (.ptr bs 3) mR λv36=>bT (aU v36 v28) (dh 7 96 v28 v31 mR λv37 oB=>cK 7 v37 (.int 0 z30) λv39=>ae 7 v39 v35 oB λxM=>ae 1 (.ptr bs 3) v37 xM λnN=>ae 1 (.ptr bs 3) v37 oB λAl=>ae 7 v39 v35 Al λNi=>ke 7 1 v39 (.ptr bs 3) (X nN)))):=by
 have hbp:=hp0.dO hM0;have oK:∀b,aG C.vT b→b<S0.n:=λb hb=>hp0.tk.lt hM0 hb;obtain⟨Q,q1,q2⟩:=t.N;have hvn:∀b,aG vn b→b<S.n:=λb hb=>(q2 b (q1.1.o0 hb)).2.1;have n0:=t.x.1;refine acD O hk hd hM hp t.x t.ob rfl hbs bK t.E (λb hb=>⟨by have:=hb.1;omega,by have:=hb.1;omega,λq=>by have:=oK b q;have:=hb.1;omega⟩) (λb hb=>⟨by omega,λq=>by have:=hvn b q;omega⟩) hll hP λe v' j H' S' m' c' p' L' hv' hP'=>?_;refine hX e v' j H' _ m' p' ⟨?_,LS.aj _ _ _,⟨Q,q1.go (λb hb=>?_) (λ_ h=>h),λb hb=>⟨(q2 b hb).1,Nat.lt_of_lt_of_le (q2 b hb).2.1 c'.1,λq=>?_⟩⟩,L'⟩ hP'
 ·refine an.set (t.x.gi c' λb hb=>?_) (.inl (.inr rfl)) _;rcases hb with hb|hb
  ·exact .inl (.inl hb)
  ·exact .inr (t.E.o0 hb).1
 ·rw[LS.ah _ _ (by have:=(q2 b hb).1;omega)];refine c'.2 b (q2 b hb).2.1 λq=>?_;rcases q with q|q
  ·have:=(q2 b hb).1;omega
  ·exact(q2 b hb).2.2 q
 ·rcases hv' b q with g|g
  ·exact(q2 b hb).2.2 g
  ·have:=(q2 b hb).2.1;omega
end
section
variable {H:AH}{S:LS}{K:KF}{C:Ctx}{i d:Nat}
theorem s99{m n:Nat}(hpv:C.pv=.iface 57 (.agg []))(O:iz C m n):∀k,k≤n+1→Nv C (s13 (m+1)).2.2.2.2.2.1 (nX C.T k):=by
 intro k hk K H S i d a bs hd hM hp ho hbs bK hP;cases k with
 |zero=>simp only[nX]at hP;exact False.elim hP
 |succ k=>
  have e:(s13 (m+1)).2.2.2.2.2.1=zL (mo (s13 m)):=by rw[pr]
  rw[e];have r2:(mo (s13 m)).2.1=f56:=rfl;have r3:(mo (s13 m)).2.2.1=(s13 m).2.2.2.2.1:=rfl;have r4:(mo (s13 m)).2.2.2.1=ny:=rfl;have r5:(mo (s13 m)).2.2.2.2=f130:=rfl;unfold zL ae1 Qf;rw[r2,r4,r5];simp only[nX]at hP;have hbp:=hp.dO hM;have fq:bs<S.n:=hM.lt (by rw[ho];simp);have kR:¬aK C bs:=λq=>hbs (by have q:bs=C.bp:=q;exact q);have cO:∀b,S.n≤b→¬aK C b:=λb hb q=>by have q:b=C.bp:=q;omega
  refine yY hpv hM hp (Post.call hP (an.refl _ _) (λ_ h=>.inl h) λs j H1 S1 w m1 c1 p1 ⟨hv,h8⟩ hP1=>?_);subst hv;have o1:=c1.ob hM ho kR;have n1:=c1.1;refine ey (fe s) ?_;refine cA m1 rfl (λx h=>by rw[List.mem_singleton]at h;rw[h];exact fe s) λH2 m2=>?_;have c2:an aV S1 (S1.push (.ce [af s] 0)):=(an.refl _ _).push _;simp only[cj,aL,Nat.zero_add];refine aT (v:=.int 0 ((6:Nat):Int)) m2 (c2.ob m1 o1 λq=>q) (by omega) (by show 0<5;omega) rfl λH3 m3=>?_;have p3:=(p1.no m1 c2).setB m2 hbs bK (.ce [.int 0 ((6:Nat):Int),.int 0 (a:Int),.ab,.ab,.ab] 0);refine aT m3 (LS.aj _ _ _) (by omega) (by show 2<5;omega) rfl λH4 y0=>?_;have m4:Mem H4 (((S1.push (.ce [af s] 0)).set bs (.ce [.int 0 ((6:Nat):Int),.int 0 (a:Int),.ab,.ab,.ab] 0)).set bs (.ce [.int 0 ((6:Nat):Int),.int 0 (a:Int),.slice S1.n 0 1 1 1 true,.ab,.ab] 0)):=y0;clear y0;have p4:=p3.setB m3 hbs bK (.ce [.int 0 ((6:Nat):Int),.int 0 (a:Int),.slice S1.n 0 1 1 1 true,.ab,.ab] 0);have Wr:(((S1.push (.ce [af s] 0)).set bs (.ce [.int 0 ((6:Nat):Int),.int 0 (a:Int),.ab,.ab,.ab] 0)).set bs (.ce [.int 0 ((6:Nat):Int),.int 0 (a:Int),.slice S1.n 0 1 1 1 true,.ab,.ab] 0)).ob S1.n=.ce [af s] 0:=by
   rw[LS.ah _ _ (by omega),LS.ah _ _ (by omega)];exact LS.ag _ _
  have t4:qF C S (((S1.push (.ce [af s] 0)).set bs (.ce [.int 0 ((6:Nat):Int),.int 0 (a:Int),.ab,.ab,.ab] 0)).set bs (.ce [.int 0 ((6:Nat):Int),.int 0 (a:Int),.slice S1.n 0 1 1 1 true,.ab,.ab] 0)) bs 6 a (.slice S1.n 0 1 1 1 true) [s] .ab []:=
   ⟨((c1.two.trans c2.no).set (.inl (.inr rfl)) _).set (.inl (.inr rfl)) _,LS.aj _ _ _,⟨λb=>b=S1.n,ku.one1 rfl Wr h8,λb hb=>by subst hb;exact⟨n1,Nat.lt_succ_self _,λq=>q⟩⟩,aX.nil _ _ _⟩
  have nn4:(((S1.push (.ce [af s] 0)).set bs (.ce [.int 0 ((6:Nat):Int),.int 0 (a:Int),.ab,.ab,.ab] 0)).set bs (.ce [.int 0 ((6:Nat):Int),.int 0 (a:Int),.slice S1.n 0 1 1 1 true,.ab,.ab] 0)).n=S1.n+1:=rfl;revert m4 p4 Wr t4 nn4;generalize ((S1.push (.ce [af s] 0)).set bs (.ce [.int 0 ((6:Nat):Int),.int 0 (a:Int),.ab,.ab,.ab] 0)).set bs (.ce [.int 0 ((6:Nat):Int),.int 0 (a:Int),.slice S1.n 0 1 1 1 true,.ab,.ab] 0)=S4;intro m4 p4 Wr t4 nn4;refine eH (s:=[44]) (aD (by decide)) m4 p4 λH5 S5 m5 c5 p5=>?_;simp only[ai,aB];have t5:=t4.keep m4 hbp hbs c5;have on5:=c5.ob m4 Wr (cO _ n1);cases h1:isA C.T [44] j with
  |true=>
   simp only[h1,if_true]at hP1 p5;rw[az];refine aw m5 t5.ob (v:=.slice S1.n 0 1 1 1 true) rfl ?_;refine yY hpv m5 p5 (Post.call hP1 t5.x (λ_ h=>.inl h) λs2 j6 H6 S6 w m6 c6 p6 ⟨hv,h82⟩ hP2=>?_);subst hv;have t6:=t5.keep m5 hbp hbs c6;have Ao:=c6.ob m5 on5 (cO _ n1);have n6:=c6.1;have n5:=c5.1;refine aw m6 t6.ob (v:=.slice S1.n 0 1 1 1 true) rfl ?_;refine cE (by simp[aU]) ?_;refine m6.bG ?_;refine ey (fe s2) ?_;have L6:dN pz S.n S6 (.slice S1.n 0 1 1 1 true) [s]:=⟨[[af s]],.inr ⟨S1.n,1,true,[af s],rfl,Ao,rfl,Nat.le_refl _,rfl,rfl,λx h=>by rw[List.mem_singleton]at h;rw[h];exact fe s⟩,rfl,λb hb=>by have hb:b=S1.n:=hb;omega,λi c a hc ha=>by
    cases i with
    |zero=>
     have e1:[af s]=c:=by simpa using hc
     have e2:s=a:=by simpa using ha
     subst e1;subst e2;exact⟨aV,⟨rfl,h8⟩,λb hb=>hb.elim⟩
    |succ i=>simp at hc⟩
   refine L6.pushB (R:=pz) (Q:=aV) (bytes:=16) m6 (a:=s2) ⟨rfl,h82⟩ (λb hb=>hb.elim) (by omega) (by simp) λH7 S7 v' m7 L7 n7 k7 b7=>?_;have c7:an (λb=>b=S1.n) S6 S7:=⟨n7,λb hb hx=>k7 b hb hx⟩
   have o7:S7.ob bs=_:=c7.ob m6 t6.ob λq=>by have q:bs=S1.n:=q;omega
   have oK:∀b,aG C.vT b→b<S.n:=λb hb=>hp.tk.lt hM hb;have p7:bS C S7 j6 d:=p6.keep m6 c7 (λq=>by have q:C.bp=S1.n:=q;omega) λb hb q=>by have q:b=S1.n:=q;have:=oK b hb;omega
   refine aT (v:=.int 0 ((7:Nat):Int)) m7 o7 (by omega) (by show 0<5;omega) rfl λH8 m8=>?_;have p8:=p7.setB m7 hbs bK (.ce [.int 0 ((7:Nat):Int),.int 0 (a:Int),.slice S1.n 0 1 1 1 true,.ab,.ab] 0);refine aT m8 (LS.aj _ _ _) (by omega) (by show 2<5;omega) L7.one λH9 m9'=>?_;have m9:Mem H9 ((S7.set bs (.ce [.int 0 ((7:Nat):Int),.int 0 (a:Int),.slice S1.n 0 1 1 1 true,.ab,.ab] 0)).set bs (.ce [.int 0 ((7:Nat):Int),.int 0 (a:Int),v',.ab,.ab] 0)):=m9';clear m9';have p9:=p8.setB m8 hbs bK (.ce [.int 0 ((7:Nat):Int),.int 0 (a:Int),v',.ab,.ab] 0);have hnm:=L7.nm m7;have t9:qF C S ((S7.set bs (.ce [.int 0 ((7:Nat):Int),.int 0 (a:Int),.slice S1.n 0 1 1 1 true,.ab,.ab] 0)).set bs (.ce [.int 0 ((7:Nat):Int),.int 0 (a:Int),v',.ab,.ab] 0)) bs 7 a v' [s,s2] .ab []:=
    ⟨((t6.x.gi c7 λb hb=>.inr (by have hb:b=S1.n:=hb;omega)).set (.inl (.inr rfl)) _).set (.inl (.inr rfl)) _,LS.aj _ _ _,⟨fb S.n S7.n,hnm.go (λb hb=>by rw[LS.ah _ _ (by have:=hb.1;omega),LS.ah _ _ (by have:=hb.1;omega)]) (λ_ h=>h),λb hb=>⟨hb.1,hb.2,λq=>q⟩⟩,aX.nil _ _ _⟩
   have nn9:((S7.set bs (.ce [.int 0 ((7:Nat):Int),.int 0 (a:Int),.slice S1.n 0 1 1 1 true,.ab,.ab] 0)).set bs (.ce [.int 0 ((7:Nat):Int),.int 0 (a:Int),v',.ab,.ab] 0)).n=S7.n:=rfl;revert m9 p9 t9 nn9;generalize (S7.set bs (.ce [.int 0 ((7:Nat):Int),.int 0 (a:Int),.slice S1.n 0 1 1 1 true,.ab,.ab] 0)).set bs (.ce [.int 0 ((7:Nat):Int),.int 0 (a:Int),v',.ab,.ab] 0)=S9;intro m9 p9 t9 nn9;unfold Qa P9;rw[r3,r4];refine iu (s:=[105,110]) hpv (aD (by decide)) m9 p9 (Post.call (cV:=gY) hP2 t9.x (λ_ h=>.inl h) λ_ ja Ha Sa w ma ca pa _ hP3=>?_);have ta:=t9.keep m9 hbp hbs ca;refine O.exp k (by omega) hd ma pa (Post.call hP3 ta.x (λ_ h=>.inl h) λe jb Hb Sb w mb cb pb ⟨c,hw,hR⟩ na=>?_);subst hw;have tb:=ta.keep ma hbp hbs cb;rw[dD];refine dv hR.len ?_;rw[qE hR.len rfl];refine cA mb (by rw[hR.len]) hR.ones λHc mc=>?_;have cc:an aV Sb (Sb.push (.ce c 0)):=(an.refl _ _).push _;simp only[cj,aL,Nat.zero_add];refine aT mc (cc.ob mb tb.ob λq=>q) (by omega) (by show 3<5;omega) rfl λHd md=>?_;obtain⟨QN,qn1,qn2⟩:=ta.N;exact e99 hpv O hd hM hp fq hbs bK (by omega) md ((pb.no mb cc).setB mc hbs bK _) (tb.atk hM hp fq hbs mb ta.x.1 (λb hb=>(qn2 b (qn1.1.o0 hb)).2.1) hR) na
  |false=>
   simp only[h1,Bool.false_eq_true,if_false]at hP1 p5;rw[ax];refine iu (s:=[61]) hpv (aD (by decide)) m5 p5 (Post.call (cV:=gY) hP1 t5.x (λ_ h=>.inl h) λ_ j6 H6 S6 w m6 c6 p6 _ hP2=>?_);have t6:=t5.keep m5 hbp hbs c6;unfold Qe Qd;rw[r3,r4];refine O.exp k (by omega) hd m6 p6 (Post.call hP2 t6.x (λ_ h=>.inl h) λe j7 H7 S7 w m7 c7 p7 ⟨c,hw,hR⟩ hP3=>?_);subst hw;have t7:=t6.keep m6 hbp hbs c7;rw[dD];refine dv hR.len ?_;rw[qE hR.len rfl];refine cA m7 (by rw[hR.len]) hR.ones λH8 m8=>?_;have c8:an aV S7 (S7.push (.ce c 0)):=(an.refl _ _).push _;simp only[cj,aL,Nat.zero_add];refine aT m8 (c8.ob m7 t7.ob λq=>q) (by omega) (by show 3<5;omega) rfl λH9 m9'=>?_;obtain⟨QN,qn1,qn2⟩:=t6.N;have t9:=t7.atk hM hp fq hbs m7 t6.x.1 (λb hb=>(qn2 b (qn1.1.o0 hb)).2.1) hR;have p9:=(p7.no m7 c8).setB m8 hbs bK (.ce [.int 0 ((6:Nat):Int),.int 0 (a:Int),.slice S1.n 0 1 1 1 true,.slice S7.n 0 1 1 7 true,.ab] 0);refine iu (s:=[44]) hpv (aD (by decide)) m9' p9 (Post.call (cV:=gY) hP3 t9.x (λ_ h=>.inl h) λ_ ja Ha Sa w ma ca pa _ na=>?_);have ta:=t9.keep m9' hbp hbs ca;refine qF.more O (k:=k) (by omega) hd hM hp fq hbs bK ma pa ta (by simp) na λe2 v2 jb Hb Sb mb pb tb oZ=>?_;unfold Qc Qb;rw[r2,r3];refine eH (s:=[44]) (aD (by decide)) mb pb λHc Sc mc cc pc=>?_;simp only[ai,aB];have tc:=tb.keep mb hbp hbs cc;cases h2:isA C.T [44] jb with
   |false=>
    simp only[h2,Bool.false_eq_true,if_false]at oZ pc;rw[ax];exact e99 hpv O hd hM hp fq hbs bK (by omega) mc pc tc oZ
   |true=>
    simp only[h2,if_true]at oZ pc;rw[az];simp only[cj,aL,Nat.zero_add];refine qF.more O (k:=k) (by omega) hd hM hp fq hbs bK mc pc tc (by simp) oZ λe3 v3 jd Hd Sd md pd td y7=>?_;exact e99 hpv O hd hM hp fq hbs bK (by omega) md pd td y7
end
end Go.Proofs.YtcedghechlgecaaGreatDoor
namespace Go.X
section
variable {H:AH}{S S':LS}
theorem aX.pushB{α:Type}{R:Rep α}{Z:Nat→Prop}{bytes:Nat}{v:AV}{l:List α}{a:α}{c:List AV}{Q:Nat→Prop}{k:AV→AH→Prop}(h:aX R Z S v l)(hM:Mem H S)(hr:R.rel S Q c a)(hQ:∀b,Q b→Z b∧b<S.n∧¬aG v b)(hnew:∀b,S.n≤b→Z b)(hl:(l.length+1)*bytes≤1099511627776)
  (hk:∀H' S' v',Mem H' S'→aX R Z S' v' (l++[a])→S.n≤S'.n→(∀b,b<S.n→¬aG v b→S'.ob b=S.ob b)→(∀b,aG v' b→aG v b∨S.n≤b)→v'.one=true→k v' H'):aN (aA H) 1 R.sz c λx H'=>bT (Nat.beq H'.n (Nat.succ H.n)) (dh R.sz bytes v x H' k):=by
 obtain⟨cl,h1,h2⟩:=id h;refine ajT hM h1 R.pos (R.len hr) hl (R.ones hr) λH' S' v' m' he=>?_;have g:=h.step hr hQ hnew λcl' h'=>by rw[h1.uniq h'];exact he
 exact hk H' S' v' m' g he.1 he.2.1 he.2.2.2 (g.toR (lo:=0) λb _=>Nat.zero_le _).one
theorem ft.rows{Q:Nat→Prop}{kind a:Nat}{l:List aC}{B:List (List aS)}{vl vb:AV}{cl cb:Nat→List AV}(hl:cM S Q 7 vl l.length cl)(he:∀i e,l[i]? = some e→RE S Q (cl i) e)(hb:cM S Q 1 vb B.length cb)(hs:∀i b,B[i]? = some b→qD.rel S Q (cb i) b):ft S Q [.int 0 (kind:Int),.int 0 (a:Int),.ab,vl,vb] (.mk kind a [] l B):=by
 have key:∀i,∃p:AV×(Nat→List AV),∀b,B[i]? = some b→cb i=[p.1]∧cM S Q 5 p.1 b.length p.2∧∀j s,b[j]? = some s→ft S Q (p.2 j) s:=λi=>by
  cases hi:B[i]? with
  |none=>exact⟨⟨.ab,λ_=>[]⟩,λb h=>by cases h⟩
  |some b=>
   obtain⟨v,bc,e,g1,g2⟩:=hs i b hi;exact⟨⟨v,bc⟩,λb' h=>by cases h;exact⟨e,g1,g2⟩⟩
 obtain⟨p,hp⟩:=Classical.axiomOfChoice key;refine .mk kind a [] l B .ab vl vb cl (λi=>(p i).1) (λi=>(p i).2) ⟨cM.nil _ _ _ _,λt h=>by simp at h⟩ hl he (hb.congr λi hi=>(hp i _ (List.getElem?_eq_getElem hi)).1) (λi b h=>(hp i b h).2.1) λi b j s h h2=>(hp i b h).2.2 j s h2
end
end Go.X
namespace Go.Proofs.YtcedghechlgecaaGreatDoor
open Go Go.X Go.Proofs.YtcedghechlgecaaGreatDoor.G
section
variable {H:AH}{S:LS}{K:KF}{C:Ctx}{i d:Nat}
structure oD(C:Ctx)(S0 S:LS)(bs kind a:Nat)(vl:AV)(l:List aC)(vb:AV)(B:List (List aS)):Prop where
 x:an (cG C bs) S0 S
 ob:S.ob bs=.ce [.int 0 (kind:Int),.int 0 (a:Int),.ab,vl,vb] 0
 E:aX fZ (λb=>S0.n≤b∧¬aG vb b) S vl l
 B:aX qD (λb=>S0.n≤b∧¬aG vl b) S vb B
theorem oD.keep{S0 S':LS}{bs kind a:Nat}{vl vb:AV}{l:List aC}{B:List (List aS)}(h:oD C S0 S bs kind a vl l vb B)(hM:Mem H S)(hbp:C.bp<S0.n)(hbs:bs≠C.bp)(g:an (aK C) S S'):oD C S0 S' bs kind a vl l vb B:=by
 have nb:∀b,S0.n≤b→¬aK C b:=λb hb q=>by have q:b=C.bp:=q;omega
 exact⟨h.x.trans g.two,g.ob hM h.ob (λq=>hbs (by have q:bs=C.bp:=q;exact q)),h.E.keep hM g.1 λb h1 h2=>g.2 b h2 (nb b h1.1),h.B.keep hM g.1 λb h1 h2=>g.2 b h2 (nb b h1.1)⟩
theorem oD.Jj{S0:LS}{bs kind a:Nat}{vl vb:AV}{l:List aC}{B:List (List aS)}(h:oD C S0 S bs kind a vl l vb B)(hM:Mem H S):ft S (fb S0.n S.n) [.int 0 (kind:Int),.int 0 (a:Int),.ab,vl,vb] (.mk kind a [] l B):=by
 obtain⟨cl,g1,g2⟩:=(h.E.toR (lo:=S0.n) λb hb=>hb.1).done hM;obtain⟨cb,q1,q2⟩:=(h.B.toR (lo:=S0.n) λb hb=>hb.1).done hM;exact ft.rows g1 g2 q1 q2
theorem oD.exp{m n k:Nat}(O:iz C m n)(hk:k≤n){S0:LS}{H0:AH}{i0 bs kind a:Nat}{vl vb:AV}{l:List aC}{B:List (List aS)}(hd:d≤200)(hM0:Mem H0 S0)(hp0:bS C S0 i0 d)(fq:bs<S0.n)(hbs:bs≠C.bp)(bK:∀b,aG C.vT b→b≠bs)
  (hM:Mem H S) (hp:bS C S i d) (t:oD C S0 S bs kind a vl l vb B) (hll:l.length≤1000000){X:AH→Prop}{f:aC→Nat→ay aS}
  (hP:Post C (cG C bs) d (fO bs) K S0 ((bY C.T k i d).bind f))
  (hX:∀(e:aC) (v':AV) (j:Nat) (H':AH) (S':LS),Mem H' S'→bS C S' j d→oD C S0 S' bs kind a v' (l++[e]) vb B→Post C (cG C bs) d (fO bs) K S0 (f e j)→X H') :
  ak (.ptr bs 3) H λv28=>dp v28 λv29=>cI 0 v29 λz30=>bG H (aN (aA H) 1 7 z7 λv31 oC=>bT (Nat.beq oC.n (Nat.succ H.n)) ((s13 m).2.2.2.2.1 (.ptr C.bp 0) oC λAX mR=>cR K AX mR λv35=>ak (.ptr bs 3) mR λv36=>bT (aU v36 v28) (dh 7 96 v28 v31 mR λv37 oB=>cK 7 v37 (.int 0 z30) λv39=>ae 7 v39 v35 oB λxM=>ae 1 (.ptr bs 3) v37 xM λnN=>ae 1 (.ptr bs 3) v37 oB λAl=>ae 7 v39 v35 Al λNi=>ke 7 1 v39 (.ptr bs 3) (X nN)))):=by
 have hbp:=hp0.dO hM0;have oK:∀b,aG C.vT b→b<S0.n:=λb hb=>hp0.tk.lt hM0 hb;have hvb:∀b,aG vb b→b<S.n:=λb hb=>t.B.lt hM hb;have n0:=t.x.1;refine acD O hk hd hM hp t.x t.ob rfl hbs bK t.E (λb hb=>⟨by have:=hb.1;omega,by have:=hb.1;omega,λq=>by have:=oK b q;have:=hb.1;omega⟩) (λb hb=>⟨by omega,λq=>by have:=hvb b q;omega⟩) hll hP λe v' j H' S' m' c' p' L' hv' hP'=>?_;refine hX e v' j H' _ m' p' ⟨?_,LS.aj _ _ _,L',?_⟩ hP'
 ·refine an.set (t.x.gi c' λb hb=>?_) (.inl (.inr rfl)) _;rcases hb with hb|hb
  ·exact .inl (.inl hb)
  ·exact .inr (t.E.o0 hb).1
 ·have g1:aX qD (λb=>(S0.n≤b∧¬aG vl b)∧¬aG v' b) S vb B:=t.B.imp hM λb hb hlt=>⟨hb,λq=>(hv' b q).elim hb.2 λg=>by omega⟩
  obtain⟨cl,q1,q2,q3,q4⟩:=g1.keep hM (S':=S'.set bs (.ce ([.int 0 (kind:Int),.int 0 (a:Int),.ab,vl,vb].set 3 v') 0)) c'.1 λb h1 h2=>by
   rw[LS.ah _ _ (by have:=h1.1.1;omega)];refine c'.2 b h2 λq=>?_;rcases q with q|q
   ·have:=h1.1.1;omega
   ·exact h1.1.2 q
  exact⟨cl,q1,q2,λb hb=>⟨(q3 b hb).1.1,(q3 b hb).2⟩,λi c a hc ha=>by
   obtain⟨Q,w1,w2⟩:=q4 i c a hc ha;exact⟨Q,w1,λb hb=>⟨⟨(w2 b hb).1.1.1,(w2 b hb).1.2⟩,(w2 b hb).2⟩⟩⟩
theorem oD.blk{m n k:Nat}(O:iz C m n)(hk:k≤n){S0:LS}{H0:AH}{i0 bs kind a:Nat}{vl vb:AV}{l:List aC}{B:List (List aS)}(hd:d≤200)(hM0:Mem H0 S0)(hp0:bS C S0 i0 d)(fq:bs<S0.n)(hbs:bs≠C.bp)(bK:∀b,aG C.vT b→b≠bs)
  (hM:Mem H S) (hp:bS C S i d) (t:oD C S0 S bs kind a vl l vb B) (hll:B.length≤1000000){X:AH→Prop}{f:List aS→Nat→ay aS}
  (hP:Post C (cG C bs) d (fO bs) K S0 ((cF C.T k i d).bind f))
  (hX:∀(b:List aS) (v':AV) (j:Nat) (H':AH) (S':LS),Mem H' S'→bS C S' j d→oD C S0 S' bs kind a vl l v' (B++[b])→Post C (cG C bs) d (fO bs) K S0 (f b j)→X H') :
  ak (.ptr bs 4) H λv5=>(s13 m).1 (.ptr C.bp 0) H λo6 H7=>cR K o6 H7 λv8=>ak (.ptr bs 4) H7 λv9=>bT (aU v9 v5) (bG H7 (one v8 (aN (aA H7) 1 1 [v8] λv10 dZ=>bT (Nat.beq dZ.n (Nat.succ H7.n)) (dh 1 24 v5 v10 dZ λv12 dL=>ae 1 (.ptr bs 4) v12 dL λeM=>X eM)))):=by
 have hbp:=hp0.dO hM0;have oK:∀b,aG C.vT b→b<S0.n:=λb hb=>hp0.tk.lt hM0 hb;refine aw hM t.ob (v:=vb) rfl ?_;refine O.block k hk hd hM hp (Post.call (cV:=fK) hP t.x (λ_ h=>.inl h) λb j H1 S1 v6 m1 c1 p1 ⟨cb,hsl,hrs⟩ hP1=>?_);have t1:=t.keep hM hbp hbs c1;have hvl:∀b,aG vl b→b<S.n:=λb hb=>t.E.lt hM hb;have hvb:∀b,aG vb b→b<S.n:=λb hb=>t.B.lt hM hb;have n0:=t.x.1;have n1:=c1.1;refine aw m1 t1.ob (v:=vb) rfl ?_;refine cE (t1.B.toR (lo:=0) λb _=>Nat.zero_le _).same ?_;refine m1.bG ?_;refine ey hsl.one ?_;refine t1.B.pushB (R:=qD) (bytes:=24) m1 (a:=b) ⟨v6,cb,rfl,hsl,hrs⟩ (λb hb=>⟨⟨by have:=hb.1;omega,λq=>by have:=hvl b q;have:=hb.1;omega⟩,hb.2,λq=>by have:=hvb b q;have:=hb.1;omega⟩) (λb hb=>⟨by omega,λq=>by have:=hvl b q;omega⟩) (by omega) λH2 S2 v' m2 B2 n2 k2 b2 atl=>?_;have c2:an (λb=>aG vb b) S1 S2:=⟨n2,λb hb hx=>k2 b hb hx⟩
 have nv:∀b,b<S0.n→¬aG vb b:=λb hb q=>by have:=(t1.B.o0 q).1;omega
 have p2:bS C S2 j d:=p1.keep m1 c2 (nv _ hbp) λb hb q=>nv b (oK b hb) q;refine aT m2 (c2.ob m1 t1.ob (nv _ fq)) (by omega) (by show 4<5;omega) atl λH3 m3=>?_;refine hX b v' j H3 _ m3 (p2.setB m2 hbs bK _) ⟨(t1.x.gi c2 λb hb=>.inr (t1.B.o0 hb).1).set (.inl (.inr rfl)) _,LS.aj _ _ _,?_,B2.keep m2 (Nat.le_refl _) λb h1 h2=>LS.ah _ _ (by have:=h1.1;omega)⟩ hP1;have g1:aX fZ (λb=>(S0.n≤b∧¬aG vb b)∧¬aG v' b) S1 vl l:=t1.E.imp m1 λb hb hlt=>⟨hb,λq=>(b2 b q).elim hb.2 λg=>by omega⟩
 obtain⟨cl,q1,q2,q3,q4⟩:=(g1.keep m1 n2 λb h1 h2=>k2 b h2 h1.1.2).keep m2 (S':=S2.set bs (.ce ([.int 0 (kind:Int),.int 0 (a:Int),.ab,vl,vb].set 4 v') 0)) (Nat.le_refl _) λb h1 h2=>LS.ah _ _ (by have:=h1.1.1;omega);exact⟨cl,q1,q2,λb hb=>⟨(q3 b hb).1.1,(q3 b hb).2⟩,λi c a hc ha=>by
  obtain⟨Q,w1,w2⟩:=q4 i c a hc ha;exact⟨Q,w1,λb hb=>⟨⟨(w2 b hb).1.1.1,(w2 b hb).1.2⟩,(w2 b hb).2⟩⟩⟩
end
section
variable {H:AH}{S:LS}{K:KF}{C:Ctx}{i d:Nat}
theorem l96{m n:Nat}(hn:n≤900000)(hpv:C.pv=.iface 57 (.agg []))(O:iz C m n){S0:LS}{H0:AH}{i0 bs a:Nat}(hd:d≤200)(hM0:Mem H0 S0)(hp0:bS C S0 i0 d)(fq:bs<S0.n)(hbs:bs≠C.bp)(bK:∀b,aG C.vT b→b≠bs):∀k,k≤n+1→∀(q i:Nat) (l:List aC) (B:List (List aS)) (vl vb:AV) (H:AH) (S:LS),k≤q→l.length+k≤n+1→B.length=l.length→Mem H S→bS C S i d→oD C S0 S bs 4 a vl l vb B→
  Post C (cG C bs) d (fO bs) K S0 (fk C.T k a l B i d)→AZ (ju (s13 m)) K q (.ptr C.bp 0) (.ptr bs 0) H:=by
 intro k
 induction k with
 |zero=>intro _ q i l B vl vb H S _ _ _ _ _ _ hP;simp only[fk]at hP;exact False.elim hP
 |succ k ih=>
  intro hk q i l B vl vb H S hq hl hB hM hp t hP;obtain⟨q,rfl⟩:∃p,q=p+1:=⟨q-1,by omega⟩
  have r1:(ju (s13 m)).1=(s13 m).1:=rfl;have r2:(ju (s13 m)).2.1=f56:=rfl;have r3:(ju (s13 m)).2.2.1=(s13 m).2.2.2.2.1:=rfl;have r4:(ju (s13 m)).2.2.2=ny:=rfl;have hbp:=hp0.dO hM0;have kR:¬aK C bs:=λq=>hbs (by have q:bs=C.bp:=q;exact q);simp only[fk]at hP;show Gy (ju (s13 m)) K (Gx (ju (s13 m)) K (Gw (ju (s13 m)) K (AZ (ju (s13 m)) K q) (Gv (ju (s13 m)) K (AY (ju (s13 m)) K)))) (.ptr C.bp 0) (.ptr bs 0) H;have stop:∀{l:List aC}{B:List (List aS)}{vl vb:AV}{i:Nat}{H1:AH}{S1:LS},Mem H1 S1→bS C S1 i d→oD C S0 S1 bs 4 a vl l vb B→Post C (cG C bs) d (fO bs) K S0 ((aW C.T [101,110,100] i).bind λ_ j=>.ok (.mk 4 a [] l B) j)→AY (ju (s13 m)) K (.ptr C.bp 0) H1:=by
   intro l B vl vb i H1 S1 m1 p1 t1 hP;unfold AY;rw[r4];refine iu (s:=[101,110,100]) hpv (aD (by decide)) m1 p1 (Post.call (cV:=gY) hP t1.x (λ_ h=>.inl h) λ_ j H2 S2 w m2 c2 p2 _ hP2=>?_);have t2:=t1.keep m1 hbp hbs c2;exact hP2 H2 S2 (.aY []) m2 t2.x p2 ⟨rfl,_,t2.ob,t2.Jj m2⟩
  unfold Gy;rw[r3];simp only[cj,aL,Nat.zero_add];refine oD.exp O (k:=k) (by omega) hd hM0 hp0 fq hbs bK hM hp t (by omega) hP λe v1 j1 H1 S1 m1 p1 t1 hP1=>?_;unfold Gx;rw[r1,r4];refine iu (s:=[116,104,101,110]) hpv (aD (by decide)) m1 p1 (Post.call (cV:=gY) hP1 t1.x (λ_ h=>.inl h) λ_ j2 H2 S2 w m2 c2 p2 _ hP2=>?_);have t2:=t1.keep m1 hbp hbs c2;simp only[cj,aL,Nat.zero_add];refine oD.blk O (k:=k) (by omega) hd hM0 hp0 fq hbs bK m2 p2 t2 (by omega) hP2 λb v3 j3 H3 S3 m3 p3 t3 hP3=>?_;unfold Gw;rw[r2];refine eH (s:=[101,108,115,101,105,102]) (aD (by decide)) m3 p3 λH4 S4 m4 c4 p4=>?_;simp only[ai,aB];have t4:=t3.keep m3 hbp hbs c4;cases h1:isA C.T [101,108,115,101,105,102] j3 with
  |true=>
   simp only[h1,if_true]at hP3 p4;simp only[Bool.not_true,ax];exact ih (by omega) q (j3+1) (l++[e]) (B++[b]) v1 v3 H4 S4 (by omega) (by simp;omega) (by simp;omega) m4 p4 t4 hP3
  |false=>
   simp only[h1,Bool.false_eq_true,if_false]at hP3 p4;simp only[Bool.not_false,az];unfold Gv;rw[r1,r2];refine eH (s:=[101,108,115,101]) (aD (by decide)) m4 p4 λH5 S5 m5 c5 p5=>?_;simp only[ai,aB];have t5:=t4.keep m4 hbp hbs c5;cases h2:isA C.T [101,108,115,101] j3 with
   |true=>
    simp only[h2,if_true]at hP3 p5;rw[az];simp only[cj,aL,Nat.zero_add];refine oD.blk O (k:=k) (by omega) hd hM0 hp0 fq hbs bK m5 p5 t5 (by simp;omega) hP3 λb2 v6 j6 H6 S6 m6 p6 t6 y7=>?_;exact stop m6 p6 t6 y7
   |false=>
    simp only[h2,Bool.false_eq_true,if_false]at hP3 p5;rw[ax];exact stop m5 p5 t5 hP3
theorem s96{m n:Nat}(hn:n≤900000)(hpv:C.pv=.iface 57 (.agg []))(O:iz C m n):∀k,k≤n+1→Nv C (s13 (m+1)).2.2.2.1 (λa i d=>fk C.T k a [] [] i d):=by
 intro k hk K H S i d a bs hd hM hp ho hbs bK hP;have e:(s13 (m+1)).2.2.2.1=zJ (ju (s13 m)):=by rw[pr]
 rw[e];unfold zJ aeO P3;have gf:G.NL=1000000:=rfl;generalize G.NL=iA at gf ⊢;have fq:bs<S.n:=hM.lt (by rw[ho];simp);simp only[cj,aL,Nat.zero_add];refine aT (v:=.int 0 ((4:Nat):Int)) hM ho (by omega) (by show 0<5;omega) rfl λH1 m1=>?_;exact l96 hn hpv O hd hM hp fq hbs bK k hk iA i [] [] .ab .ab H1 _ (by omega) (by simp;omega) rfl m1 (hp.setB hM hbs bK _) ⟨(an.refl _ _).set (.inl (.inr rfl)) _,LS.aj _ _ _,aX.nil _ _ _,aX.nil _ _ _⟩ hP
end
section
variable {H:AH}{S:LS}{K:KF}{C:Ctx}{i d:Nat}
theorem s55{m n:Nat}(hpv:C.pv=.iface 57 (.agg []))(O:iz C m n):∀k,k≤n+1→∀{K:KF}{H:AH}{S:LS}{i d:Nat},d≤200→Mem H S→bS C S i d→Post C (aK C) d rvS K S (gC C.T k i d)→(s13 (m+1)).2.1 (.ptr C.bp 0) H K:=by
 intro k hk K H S i d hd hM hp hP;cases k with
 |zero=>simp only[gC]at hP;exact False.elim hP
 |succ k=>
  have e:(s13 (m+1)).2.1=zH (eB (s13 m)):=by rw[pr]
  rw[e];have r1:(eB (s13 m)).1=f23:=rfl;have r2:(eB (s13 m)).2.1=(s13 m).1:=rfl;have r3:(eB (s13 m)).2.2.1=f25:=rfl;have r4:(eB (s13 m)).2.2.2.1=f54:=rfl;have r5:(eB (s13 m)).2.2.2.2.1=f56:=rfl;have r6:(eB (s13 m)).2.2.2.2.2.1=f94:=rfl;have r7:(eB (s13 m)).2.2.2.2.2.2.1=(s13 m).2.2.1:=rfl;have r8:(eB (s13 m)).2.2.2.2.2.2.2.1=(s13 m).2.2.2.1:=rfl;have r9:(eB (s13 m)).2.2.2.2.2.2.2.2.1=(s13 m).2.2.2.2.1:=rfl;have r10:(eB (s13 m)).2.2.2.2.2.2.2.2.2.1=ny:=rfl;have r11:(eB (s13 m)).2.2.2.2.2.2.2.2.2.2.1=(s13 m).2.2.2.2.2.1:=rfl;have r12:(eB (s13 m)).2.2.2.2.2.2.2.2.2.2.2=(s13 m).2.2.2.2.2.2.1:=rfl;unfold zH aer PT;rw[r1,r2,r3,r5,r7,r8,r9,r11,r12];simp only[gC]at hP;have hbp:=hp.dO hM;have oK:∀b,aG C.vT b→b<S.n:=λb hb=>hp.tk.lt hM hb;refine bE (bz hM yZ λH1 m1=>?_);have c1:an aV S (S.push (.ce z5 0)):=(an.refl _ _).push _;have ob1:(S.push (.ce z5 0)).ob S.n=.ce z5 0:=LS.ag _ _;refine jK m1 (hp.no hM c1) λH2 S2 m2 c2 p2=>?_;rw[ai];refine jI ?_;have ob2:=c2.ob m1 ob1 λq=>q;have c12:=c1.trans c2;have n2:S.n<S2.n:=m2.lt (by rw[ob2];simp);refine bE (bz m2 yZ λH3 m3=>?_);refine eJ m3 (LS.ag S2 (.ce z5 0)) (c:=[.int 0 0,.int 0 (aq C.T i:Int),.ab,.ab,.ab]) rfl rfl (λx hx=>?_) λH4 y0=>?_
  ·simp only[List.mem_cons,List.not_mem_nil,or_false]at hx;rcases hx with rfl|rfl|rfl|rfl|rfl<;>rfl
  have m4:Mem H4 ((S2.push (.ce z5 0)).set S2.n (.ce [.int 0 0,.int 0 (aq C.T i:Int),.ab,.ab,.ab] 0)):=y0;clear y0;have c4:an aV S2 ((S2.push (.ce z5 0)).set S2.n (.ce [.int 0 0,.int 0 (aq C.T i:Int),.ab,.ab,.ab] 0)):=((an.refl _ _).push _).set (.inr (Nat.le_refl _)) _;have oS4:((S2.push (.ce z5 0)).set S2.n (.ce [.int 0 0,.int 0 (aq C.T i:Int),.ab,.ab,.ab] 0)).ob S2.n=.ce [.int 0 0,.int 0 (aq C.T i:Int),.ab,.ab,.ab] 0:=LS.aj _ _ _;have nn4:((S2.push (.ce z5 0)).set S2.n (.ce [.int 0 0,.int 0 (aq C.T i:Int),.ab,.ab,.ab] 0)).n=S2.n+1:=rfl;have ob4:=c4.ob m2 ob2 λq=>q;have p4:=p2.no m2 c4;have x4:an (aK C) S ((S2.push (.ce z5 0)).set S2.n (.ce [.int 0 0,.int 0 (aq C.T i:Int),.ab,.ab,.ab] 0)):=(c12.trans c4).no;revert m4 c4 oS4 nn4 ob4 p4 x4;generalize (S2.push (.ce z5 0)).set S2.n (.ce [.int 0 0,.int 0 (aq C.T i:Int),.ab,.ab,.ab] 0)=S4;intro m4 c4 oS4 nn4 ob4 p4 x4;generalize hbs:S2.n=bs at *;have kR:¬aK C bs:=λq=>by have q:bs=C.bp:=q;omega
  have Ny:¬aK C S.n:=λq=>by have q:S.n=C.bp:=q;omega
  have j4:bs≠C.bp:=by omega
  have bK:∀b,aG C.vT b→b≠bs:=λb hb q=>by have:=oK b hb;omega
  have fin:∀{r:ay aS}{H9:AH}{S9:LS},Mem H9 S9→an (aK C) S S9→S9.ob S.n=.ce z5 0→bs<S9.n→Post C (aK C) d rvS K S r→Post C (cG C bs) d (fO bs) (λo H=>cR K o H λ_=>gq (eB (s13 m)) K (.ptr S.n 0) (.ptr bs 0) H) S9 r:=by
   intro r H9 S9 m9 x9 Wt hb9 hP;cases r with
   |bA=>exact hP
   |err c j=>exact λH' S' m' c' e'=>hP H' S' m' (x9.gi c' λb hb=>by
     rcases hb with hb|hb
     ·exact .inl hb
     ·exact .inr (by omega)) e'
   |ok s j=>
    intro H' S' v m' c' p' hv;obtain⟨hv,c5,Nz,hR⟩:=hv;subst hv;show gq (eB (s13 m)) K (.ptr S.n 0) (.ptr bs 0) H';unfold gq PG;have o1':S'.ob S.n=.ce z5 0:=c'.ob m9 Wt λq=>by
     rcases q with q|q<;>omega
    refine ew m' Nz hR.len ?_;refine eJ m' o1' rfl hR.len hR.ones λBw m''=>?_;refine ew m'' (LS.aj _ _ _) hR.len ?_;refine hP Bw _ _ m'' ((x9.gi c' λb hb=>by
     rcases hb with hb|hb
     ·exact .inl hb
     ·exact .inr (by omega)).set (.inr (Nat.le_refl _)) _) (p'.ga hp hM (Nat.le_refl _) _) ⟨c5,rfl,hR.go (λb hb=>LS.ah _ _ (by have:=hb.1;have:=x9.1;omega)) λb hb=>⟨by have:=hb.1;have:=x9.1;omega,hb.2⟩⟩
  have Ep:∀{H9:AH}{S9:LS},Mem H9 S9→S9.ob bs=.ce [.int 0 0,.int 0 (aq C.T i:Int),.ab,.ab,.ab] 0→bs<S9.n:=λm o=>m.lt (by rw[o];simp);refine eH (s:=[108,111,99,97,108]) (aD (by decide)) m4 p4 λH5 S5 m5 c5 p5=>?_;simp only[ai,aB];have oS5:=c5.ob m4 oS4 kR;have Nz:=c5.ob m4 ob4 Ny;have x5:=x4.trans c5;cases h1:isA C.T [108,111,99,97,108] i with
  |true=>
   simp only[h1,if_true]at hP p5;rw[az];exact O.qC k (by omega) hd m5 p5 oS5 j4 bK (fin m5 x5 Nz (Ep m5 oS5) hP)
  |false=>
  simp only[h1,Bool.false_eq_true,if_false]at hP p5;rw[ax];refine eH (s:=[105,102]) (aD (by decide)) m5 p5 λH6 S6 m6 c6 p6=>?_;simp only[ai,aB];have oS6:=c6.ob m5 oS5 kR;have ob6:=c6.ob m5 Nz Ny;have x6:=x5.trans c6;cases h2:isA C.T [105,102] i with
  |true=>
   simp only[h2,if_true]at hP p6;rw[az];exact O.choice k (by omega) hd m6 p6 oS6 j4 bK (fin m6 x6 ob6 (Ep m6 oS6) hP)
  |false=>
  simp only[h2,Bool.false_eq_true,if_false]at hP p6;rw[ax];refine eH (s:=[119,104,105,108,101]) (aD (by decide)) m6 p6 λH7 S7 m7 c7 p7=>?_;simp only[ai,aB];have oS7:=c7.ob m6 oS6 kR;have ob7:=c7.ob m6 ob6 Ny;have x7:=x6.trans c7;cases h3:isA C.T [119,104,105,108,101] i with
  |true=>
   simp only[h3,if_true]at hP p7;rw[az];cases k with
   |zero=>simp only[lO]at hP;exact False.elim hP
   |succ k=>
   simp only[lO]at hP;have fq:=Ep m7 oS7;have vH:=fin m7 x7 ob7 fq hP;have eR:∀H,gq (eB (s13 m)) K (.ptr S.n 0) (.ptr bs 0) H=(λo H=>cR K o H λ_=>gq (eB (s13 m)) K (.ptr S.n 0) (.ptr bs 0) H:KF) (.ret (.aY [])) H:=λ_=>rfl;have eP:∀v H,K (.dB v) H=(λo H=>cR K o H λ_=>gq (eB (s13 m)) K (.ptr S.n 0) (.ptr bs 0) H:KF) (.dB v) H:=λ_ _=>rfl;generalize (λo H=>cR K o H λ_=>gq (eB (s13 m)) K (.ptr S.n 0) (.ptr bs 0) H:KF)=K2 at vH eR eP;have eK:∀(o:kI) (H:AH) (k:AV→Prop),cR K o H k=cR K2 o H k:=λo H k=>by
    cases o with
    |ret v=>rfl
    |dB v=>exact eP v H
   have atm:C.bp<S7.n:=p7.dO m7;have cO:∀b,S7.n≤b→¬aK C b:=λb hb q=>by have q:b=C.bp:=q;omega
   simp only[eK];refine O.exp k (by omega) hd m7 p7 (Post.call (K:=K2) vH (an.refl _ _) (λ_ h=>.inl h) λe j He Se w me ce pe ⟨c,hw,hR⟩ hP1=>?_);subst hw;have oSe:=ce.ob m7 oS7 kR;have ne:=ce.1;rw[dD];refine dv hR.len ?_;rw[qE hR.len rfl];refine cA me (by rw[hR.len]) hR.ones λHf mf=>?_;have cf:an aV Se (Se.push (.ce c 0)):=(an.refl _ _).push _;rw[aL,Nat.zero_add];refine aT (v:=.int 0 ((5:Nat):Int)) mf (cf.ob me oSe λq=>q) (by omega) (by show 0<5;omega) rfl λHg mg=>?_;rw[aL,Nat.zero_add];refine aT mg (LS.aj _ _ _) (by omega) (by show 3<5;omega) rfl λHh NA=>?_;have mh:Mem Hh (((Se.push (.ce c 0)).set bs (.ce [.int 0 ((5:Nat):Int),.int 0 (aq C.T i:Int),.ab,.ab,.ab] 0)).set bs (.ce [.int 0 ((5:Nat):Int),.int 0 (aq C.T i:Int),.ab,.slice Se.n 0 1 1 7 true,.ab] 0)):=NA;clear NA;have ph:=((pe.no me cf).setB mf j4 bK (.ce [.int 0 ((5:Nat):Int),.int 0 (aq C.T i:Int),.ab,.ab,.ab] 0)).setB mg j4 bK (.ce [.int 0 ((5:Nat):Int),.int 0 (aq C.T i:Int),.ab,.slice Se.n 0 1 1 7 true,.ab] 0);have kp:∀b,b≠bs→b<Se.n→(((Se.push (.ce c 0)).set bs (.ce [.int 0 ((5:Nat):Int),.int 0 (aq C.T i:Int),.ab,.ab,.ab] 0)).set bs (.ce [.int 0 ((5:Nat):Int),.int 0 (aq C.T i:Int),.ab,.slice Se.n 0 1 1 7 true,.ab] 0)).ob b=Se.ob b:=λb h1 h2=>by rw[LS.ah _ _ h1,LS.ah _ _ h1,LS.aZ _ _ h2]
   have on:(((Se.push (.ce c 0)).set bs (.ce [.int 0 ((5:Nat):Int),.int 0 (aq C.T i:Int),.ab,.ab,.ab] 0)).set bs (.ce [.int 0 ((5:Nat):Int),.int 0 (aq C.T i:Int),.ab,.slice Se.n 0 1 1 7 true,.ab] 0)).ob Se.n=.ce c 0:=by
    rw[LS.ah _ _ (by omega),LS.ah _ _ (by omega)];exact LS.ag _ _
   have th:oD C S7 (((Se.push (.ce c 0)).set bs (.ce [.int 0 ((5:Nat):Int),.int 0 (aq C.T i:Int),.ab,.ab,.ab] 0)).set bs (.ce [.int 0 ((5:Nat):Int),.int 0 (aq C.T i:Int),.ab,.slice Se.n 0 1 1 7 true,.ab] 0)) bs 5 (aq C.T i) (.slice Se.n 0 1 1 7 true) [e] .ab []:=
    ⟨((ce.two.trans cf.no).set (.inl (.inr rfl)) _).set (.inl (.inr rfl)) _,LS.aj _ _ _,⟨[c],.inr ⟨Se.n,1,true,c,rfl,on,by rw[hR.len];rfl,Nat.le_refl _,by rw[List.flatten_cons,List.flatten_nil,List.append_nil,hR.len];rfl,by rw[List.flatten_cons,List.flatten_nil,List.append_nil];exact List.take_of_length_le (Nat.le_refl _),hR.ones⟩,rfl,λb hb=>⟨by have hb:b=Se.n:=hb;omega,λq=>q⟩,λix c' a hc ha=>by
     cases ix with
     |zero=>
      have e1:c=c':=by simpa using hc
      have e2:e=a:=by simpa using ha
      subst e1;subst e2;exact⟨fb S7.n Se.n,hR.go (λb hb=>kp b (by have:=hb.1;omega) hb.2) (λ_ h=>h),λb hb=>⟨⟨hb.1,λq=>q⟩,Nat.lt_succ_of_lt hb.2,λq=>by have q:b=Se.n:=q;have:=hb.2;omega⟩⟩
     |succ ix=>simp at hc⟩,aX.nil _ _ _⟩
   unfold PI PH;rw[r2,r10];simp only[eK];refine iu (s:=[100,111]) hpv (aD (by decide)) mh ph (Post.call (K:=K2) (cV:=gY) hP1 th.x (λ_ h=>.inl h) λ_ ji Hi Si w mi ci pi _ hP2=>?_);have ti:=th.keep mh atm j4 ci;simp only[aL,Nat.zero_add];refine oD.blk (K:=K2) O (k:=k) (by omega) hd m7 p7 fq j4 bK mi pi ti (by simp) hP2 λb v' jg Hg' Sg mg' pg tg hP3=>?_;refine iu (s:=[101,110,100]) hpv (aD (by decide)) mg' pg (Post.call (K:=K2) (cV:=gY) hP3 tg.x (λ_ h=>.inl h) λ_ jk Hk Sk w mk ck pk _ na=>?_);have tk:=tg.keep mg' atm j4 ck;rw[eR];exact na Hk Sk (.aY []) mk tk.x pk ⟨rfl,_,tk.ob,tk.Jj mk⟩
  |false=>
  simp only[h3,Bool.false_eq_true,if_false]at hP p7;rw[ax];refine eH (s:=[114,101,112,101,97,116]) (aD (by decide)) m7 p7 λH8 S8 m8 c8 p8=>?_;simp only[ai,aB];have oS8:=c8.ob m7 oS7 kR;have ob8:=c8.ob m7 ob7 Ny;have x8:=x7.trans c8;cases h4:isA C.T [114,101,112,101,97,116] i with
  |true=>
   simp only[h4,if_true]at hP p8;rw[az];cases k with
   |zero=>simp only[j0]at hP;exact False.elim hP
   |succ k=>
   simp only[j0]at hP;have fq:=Ep m8 oS8;have vH:=fin m8 x8 ob8 fq hP;have eR:∀H,gq (eB (s13 m)) K (.ptr S.n 0) (.ptr bs 0) H=(λo H=>cR K o H λ_=>gq (eB (s13 m)) K (.ptr S.n 0) (.ptr bs 0) H:KF) (.ret (.aY [])) H:=λ_=>rfl;have eP:∀v H,K (.dB v) H=(λo H=>cR K o H λ_=>gq (eB (s13 m)) K (.ptr S.n 0) (.ptr bs 0) H:KF) (.dB v) H:=λ_ _=>rfl;generalize (λo H=>cR K o H λ_=>gq (eB (s13 m)) K (.ptr S.n 0) (.ptr bs 0) H:KF)=K2 at vH eR eP;have eK:∀(o:kI) (H:AH) (k:AV→Prop),cR K o H k=cR K2 o H k:=λo H k=>by
    cases o with
    |ret v=>rfl
    |dB v=>exact eP v H
   have awh:C.bp<S8.n:=p8.dO m8;have cO:∀b,S8.n≤b→¬aK C b:=λb hb q=>by have q:b=C.bp:=q;omega
   simp only[eK];refine O.block k (by omega) hd m8 p8 (Post.call (K:=K2) (cV:=fK) vH (an.refl _ _) (λ_ h=>.inl h) λb j He Se v6 me ce pe ⟨cb,hsl,hrs⟩ hP1=>?_);have oSe:=ce.ob m8 oS8 kR;have ne:=ce.1;refine ey hsl.one ?_;refine cA me rfl (λx h=>by rw[List.mem_singleton]at h;rw[h];exact hsl.one) λHf mf=>?_;have cf:an aV Se (Se.push (.ce [v6] 0)):=(an.refl _ _).push _;rw[aL,Nat.zero_add];refine aT (v:=.int 0 ((8:Nat):Int)) mf (cf.ob me oSe λq=>q) (by omega) (by show 0<5;omega) rfl λHg mg=>?_;rw[aL,Nat.zero_add];refine aT mg (LS.aj _ _ _) (by omega) (by show 4<5;omega) rfl λHh NA=>?_;have mh:Mem Hh (((Se.push (.ce [v6] 0)).set bs (.ce [.int 0 ((8:Nat):Int),.int 0 (aq C.T i:Int),.ab,.ab,.ab] 0)).set bs (.ce [.int 0 ((8:Nat):Int),.int 0 (aq C.T i:Int),.ab,.ab,.slice Se.n 0 1 1 1 true] 0)):=NA;clear NA;have ph:=((pe.no me cf).setB mf j4 bK (.ce [.int 0 ((8:Nat):Int),.int 0 (aq C.T i:Int),.ab,.ab,.ab] 0)).setB mg j4 bK (.ce [.int 0 ((8:Nat):Int),.int 0 (aq C.T i:Int),.ab,.ab,.slice Se.n 0 1 1 1 true] 0);have kp:∀b,b≠bs→b<Se.n→(((Se.push (.ce [v6] 0)).set bs (.ce [.int 0 ((8:Nat):Int),.int 0 (aq C.T i:Int),.ab,.ab,.ab] 0)).set bs (.ce [.int 0 ((8:Nat):Int),.int 0 (aq C.T i:Int),.ab,.ab,.slice Se.n 0 1 1 1 true] 0)).ob b=Se.ob b:=λb h1 h2=>by rw[LS.ah _ _ h1,LS.ah _ _ h1,LS.aZ _ _ h2]
   have on:(((Se.push (.ce [v6] 0)).set bs (.ce [.int 0 ((8:Nat):Int),.int 0 (aq C.T i:Int),.ab,.ab,.ab] 0)).set bs (.ce [.int 0 ((8:Nat):Int),.int 0 (aq C.T i:Int),.ab,.ab,.slice Se.n 0 1 1 1 true] 0)).ob Se.n=.ce [v6] 0:=by
    rw[LS.ah _ _ (by omega),LS.ah _ _ (by omega)];exact LS.ag _ _
   have th:oD C S8 (((Se.push (.ce [v6] 0)).set bs (.ce [.int 0 ((8:Nat):Int),.int 0 (aq C.T i:Int),.ab,.ab,.ab] 0)).set bs (.ce [.int 0 ((8:Nat):Int),.int 0 (aq C.T i:Int),.ab,.ab,.slice Se.n 0 1 1 1 true] 0)) bs 8 (aq C.T i) .ab [] (.slice Se.n 0 1 1 1 true) [b]:=
    ⟨((ce.two.trans cf.no).set (.inl (.inr rfl)) _).set (.inl (.inr rfl)) _,LS.aj _ _ _,aX.nil _ _ _,⟨[[v6]],.inr ⟨Se.n,1,true,[v6],rfl,on,rfl,Nat.le_refl _,rfl,rfl,λx h=>by rw[List.mem_singleton]at h;rw[h];exact hsl.one⟩,rfl,λb hb=>⟨by have hb:b=Se.n:=hb;omega,λq=>q⟩,λix c a hc ha=>by
     cases ix with
     |zero=>
      have e1:[v6]=c:=by simpa using hc
      have e2:b=a:=by simpa using ha
      subst e1;subst e2;exact⟨fb S8.n Se.n,⟨v6,cb,rfl,hsl.go (λb hb=>kp b (by have:=hb.1;omega) hb.2) (λ_ h=>h),λj s h=>(hrs j s h).go (λb hb=>kp b (by have:=hb.1;omega) hb.2) (λ_ h=>h)⟩,λb hb=>⟨⟨hb.1,λq=>q⟩,Nat.lt_succ_of_lt hb.2,λq=>by have q:b=Se.n:=q;have:=hb.2;omega⟩⟩
     |succ ix=>simp at hc⟩⟩
   unfold PK PJ;rw[r9,r10];simp only[eK];refine iu (s:=[117,110,116,105,108]) hpv (aD (by decide)) mh ph (Post.call (K:=K2) (cV:=gY) hP1 th.x (λ_ h=>.inl h) λ_ ji Hi Si w mi ci pi _ hP2=>?_);have ti:=th.keep mh awh j4 ci;simp only[aL,Nat.zero_add];refine oD.exp (K:=K2) O (k:=k) (by omega) hd m8 p8 fq j4 bK mi pi ti (by simp) hP2 λe v' jg Hg' Sg mg' pg tg hP3=>?_;rw[eR];exact hP3 Hg' Sg (.aY []) mg' tg.x pg ⟨rfl,_,tg.ob,tg.Jj mg'⟩
  |false=>
  simp only[h4,Bool.false_eq_true,if_false]at hP p8;rw[ax];refine eH (s:=[102,111,114]) (aD (by decide)) m8 p8 λH9 S9 m9 c9 p9=>?_;simp only[ai,aB];have oS9:=c9.ob m8 oS8 kR;have Wt:=c9.ob m8 ob8 Ny;have x9:=x8.trans c9;cases h5:isA C.T [102,111,114] i with
  |true=>
   simp only[h5,if_true]at hP p9;rw[az];exact O.loop k (by omega) hd m9 p9 oS9 j4 bK (fin m9 x9 Wt (Ep m9 oS9) hP)
  |false=>
  simp only[h5,Bool.false_eq_true,if_false]at hP p9;rw[ax];refine eH (s:=[98,114,101,97,107]) (aD (by decide)) m9 p9 λHa Sa ma ca pa=>?_;simp only[ai,aB];have oSa:=ca.ob m9 oS9 kR;have oba:=ca.ob m9 Wt Ny;have xa:=x9.trans ca;cases h6:isA C.T [98,114,101,97,107] i with
  |true=>
   simp only[h6,if_true]at hP pa;rw[az];simp only[aL,Nat.zero_add];refine aT (v:=.int 0 ((9:Nat):Int)) ma oSa (by omega) (by show 0<5;omega) rfl λHe me=>?_;exact fin ma xa oba (Ep ma oSa) hP He _ (.aY []) me ((an.refl _ _).set (.inl (.inr rfl)) _) (pa.setB ma j4 bK _) ⟨rfl,_,LS.aj _ _ _,ft.plain ku.nil (cM.nil _ _ _ (λ_=>[])) λi e h=>by simp at h⟩
  |false=>
  simp only[h6,Bool.false_eq_true,if_false]at hP pa;rw[ax];refine eH (s:=[100,111]) (aD (by decide)) ma pa λHb Sb mb cb pb=>?_;simp only[ai,aB];have oSb:=cb.ob ma oSa kR;have obb:=cb.ob ma oba Ny;have xb:=xa.trans cb;cases h7:isA C.T [100,111] i with
  |true=>
   simp only[h7,if_true]at hP pb;rw[az];cases k with
   |zero=>simp only[wP]at hP;exact False.elim hP
   |succ k=>
   simp only[wP]at hP;have vH:=fin mb xb obb (Ep mb oSb) hP;have fq:=Ep mb oSb;have cO:∀b,Sb.n≤b→¬aK C b:=λb hb q=>by have q:b=C.bp:=q;have:=xb.1;omega
   refine O.block k (by omega) hd mb pb (Post.call (K:=λo H=>cR K o H λ_=>gq (eB (s13 m)) K (.ptr S.n 0) (.ptr bs 0) H) (cV:=fK) vH (an.refl _ _) (λ_ h=>.inl h) λb j He Se v6 me ce pe ⟨cb,hsl,hrs⟩ hP1=>?_);have oSe:=ce.ob mb oSb kR;have ne:=ce.1;refine ey hsl.one ?_;refine cA me rfl (λx h=>by rw[List.mem_singleton]at h;rw[h];exact hsl.one) λHf mf=>?_;have cf:an aV Se (Se.push (.ce [v6] 0)):=(an.refl _ _).push _;simp only[aL,Nat.zero_add];refine aT (v:=.int 0 ((11:Nat):Int)) mf (cf.ob me oSe λq=>q) (by omega) (by show 0<5;omega) rfl λHg mg=>?_;refine aT mg (LS.aj _ _ _) (by omega) (by show 4<5;omega) rfl λHh NA=>?_;have mh:Mem Hh (((Se.push (.ce [v6] 0)).set bs (.ce [.int 0 ((11:Nat):Int),.int 0 (aq C.T i:Int),.ab,.ab,.ab] 0)).set bs (.ce [.int 0 ((11:Nat):Int),.int 0 (aq C.T i:Int),.ab,.ab,.slice Se.n 0 1 1 1 true] 0)):=NA;clear NA;have ph:=((pe.no me cf).setB mf j4 bK (.ce [.int 0 ((11:Nat):Int),.int 0 (aq C.T i:Int),.ab,.ab,.ab] 0)).setB mg j4 bK (.ce [.int 0 ((11:Nat):Int),.int 0 (aq C.T i:Int),.ab,.ab,.slice Se.n 0 1 1 1 true] 0);have xh:an (cG C bs) Sb (((Se.push (.ce [v6] 0)).set bs (.ce [.int 0 ((11:Nat):Int),.int 0 (aq C.T i:Int),.ab,.ab,.ab] 0)).set bs (.ce [.int 0 ((11:Nat):Int),.int 0 (aq C.T i:Int),.ab,.ab,.slice Se.n 0 1 1 1 true] 0)):=((ce.two.trans cf.no).set (.inl (.inr rfl)) _).set (.inl (.inr rfl)) _;unfold PM PL;rw[r10];refine iu (s:=[101,110,100]) hpv (aD (by decide)) mh ph (Post.call (K:=λo H=>cR K o H λ_=>gq (eB (s13 m)) K (.ptr S.n 0) (.ptr bs 0) H) (cV:=gY) hP1 xh (λ_ h=>.inl h) λ_ ji Hi Si w mi ci pi _ hP2=>?_);have ni:Se.n+1≤Si.n:=ci.1;have kp:∀b,Sb.n≤b→b<Se.n→Si.ob b=Se.ob b:=λb h1 h2=>by
    rw[ci.2 b (by show b<Se.n+1;omega) (cO b h1),LS.ah _ _ (by omega),LS.ah _ _ (by omega),LS.aZ _ _ h2]
   refine hP2 Hi Si (.aY []) mi (xh.trans ci.two) pi ⟨rfl,_,ci.ob mh (LS.aj _ _ _) kR,ft.blk (v6:=v6) (l:=[]) ku.nil (cM.nil _ _ _ (λ_=>[])) (λi e h=>by simp at h) (cM.single (b:=Se.n) (m:=0) ⟨ne,by omega⟩ (ci.ob mh (by rw[LS.ah _ _ (by omega),LS.ah _ _ (by omega)];exact LS.ag _ _) (cO _ ne)) rfl) (hsl.go (λb hb=>kp b hb.1 hb.2) λb hb=>⟨hb.1,by have:=hb.2;omega⟩) λj s h=>(hrs j s h).go (λb hb=>kp b hb.1 hb.2) λb hb=>⟨hb.1,by have:=hb.2;omega⟩⟩
  |false=>
  simp only[h7,Bool.false_eq_true,if_false]at hP pb;rw[ax];refine eH (s:=[114,101,116,117,114,110]) (aD (by decide)) mb pb λHc Sc mc cc pc=>?_;simp only[ai,aB];have oSc:=cc.ob mb oSb kR;have obc:=cc.ob mb obb Ny;have xc:=xb.trans cc;cases h8:isA C.T [114,101,116,117,114,110] i with
  |true=>
   simp only[h8,if_true]at hP pc;rw[az];cases k with
   |zero=>simp only[lk]at hP;exact False.elim hP
   |succ k=>
   simp only[lk]at hP;have fq:=Ep mc oSc;have vH:=fin mc xc obc fq hP;have eR:∀H,gq (eB (s13 m)) K (.ptr S.n 0) (.ptr bs 0) H=(λo H=>cR K o H λ_=>gq (eB (s13 m)) K (.ptr S.n 0) (.ptr bs 0) H:KF) (.ret (.aY [])) H:=λ_=>rfl;have eP:∀v H,K (.dB v) H=(λo H=>cR K o H λ_=>gq (eB (s13 m)) K (.ptr S.n 0) (.ptr bs 0) H:KF) (.dB v) H:=λ_ _=>rfl;generalize (λo H=>cR K o H λ_=>gq (eB (s13 m)) K (.ptr S.n 0) (.ptr bs 0) H:KF)=K2 at vH eR eP;have eK:∀(o:kI) (H:AH) (k:AV→Prop),cR K o H k=cR K2 o H k:=λo H k=>by
    cases o with
    |ret v=>rfl
    |dB v=>exact eP v H
   simp only[aL,Nat.zero_add];refine aT (v:=.int 0 ((10:Nat):Int)) mc oSc (by omega) (by show 0<5;omega) rfl λHd md'=>?_;have md:Mem Hd (Sc.set bs (.ce [.int 0 ((10:Nat):Int),.int 0 (aq C.T i:Int),.ab,.ab,.ab] 0)):=md';clear md';have td:oD C Sc (Sc.set bs (.ce [.int 0 ((10:Nat):Int),.int 0 (aq C.T i:Int),.ab,.ab,.ab] 0)) bs 10 (aq C.T i) .ab [] .ab []:=⟨(an.refl _ _).set (.inl (.inr rfl)) _,LS.aj _ _ _,aX.nil _ _ _,aX.nil _ _ _⟩
   have pd:=pc.setB mc j4 bK (.ce [.int 0 ((10:Nat):Int),.int 0 (aq C.T i:Int),.ab,.ab,.ab] 0);have atn:C.bp<Sc.n:=pc.dO mc;unfold PR PQ;rw[r4,r6];refine rM (s:=[59]) (aD (by decide)) md pd λHe Se me ce pe=>?_;simp only[ai,aB];have te:=td.keep md atn j4 ce.no;cases h9:isA C.T [59] (i+1)with
   |true=>
    rw[if_pos (.inl h9)]at vH;simp only[Bool.not_true,ax];rw[eR];exact vH He Se (.aY []) me te.x pe ⟨rfl,_,te.ob,te.Jj me⟩
   |false=>
    simp only[Bool.not_false,az];refine SF me pe λHf Sf mf cf pf=>?_;rw[ai,aB];have tf:=te.keep me atn j4 cf.no;cases h10:eG C.T (i+1)with
    |true=>
     have hc:(isA C.T [59] (i+1)=true∨eG C.T (i+1)=true):=Or.inr h10;rw[if_pos hc]at vH;simp only[Bool.not_true,ax];rw[eR];exact vH Hf Sf (.aY []) mf tf.x pf ⟨rfl,_,tf.ob,tf.Jj mf⟩
    |false=>
     have hc:¬(isA C.T [59] (i+1)=true∨eG C.T (i+1)=true):=by
      rintro(q|q)
      ·rw[h9]at q;cases q
      ·rw[h10]at q;cases q
     rw[if_neg hc]at vH;rw[Bool.not_false,az];unfold PO PN;rw[r9];simp only[aL,Nat.zero_add,eK];refine oD.exp (K:=K2) O (k:=k) (by omega) hd mc pc fq j4 bK mf pf tf (by simp) vH λe v' jg Hg Sg mg pg tg hP3=>?_;rw[eR];exact hP3 Hg Sg (.aY []) mg tg.x pg ⟨rfl,_,tg.ob,tg.Jj mg⟩
  |false=>
  simp only[h8,Bool.false_eq_true,if_false]at hP pc;rw[ax];refine jK mc pc λHd Sd md cd pd=>?_;rw[ai];refine Nx ?_;have oSd:=cd.ob mc oSc λq=>q;have obd:=cd.ob mc obc λq=>q;have xd:=xc.trans cd.no;have e2:Int.ofNat 2=((2:Nat):Int):=rfl;rw[bq,e2];by_cases g2:bH C.T i=2
  ·rw[if_pos g2]at hP;rw[decide_eq_true (by omega),az];exact O.plain k (by omega) hd md pd oSd j4 bK (fin md xd obd (Ep md oSd) hP)
  ·rw[if_neg g2]at hP;rw[decide_eq_false (by omega),ax];refine oY (c:=14) hpv md pd λHe Se me ce ee=>?_;rw[kx];exact hP He Se me (xd.trans ce) ee
end
section
variable {C:Ctx}
theorem awi(m:Nat):iz C m 0 where
 block k hk _ _ _ _ _ _ _ _ hP:=by
  obtain rfl:k=0:=by omega
  simp only[cF]at hP;exact False.elim hP
 stat k hk _ _ _ _ _ _ _ _ hP:=by
  obtain rfl:k=0:=by omega
  simp only[gC]at hP;exact False.elim hP
 qC k hk _ _ _ _ _ _ _ _ _ _ _ _ _ hP:=by
  obtain rfl:k=0:=by omega
  simp only[jS]at hP;exact False.elim hP
 choice k hk _ _ _ _ _ _ _ _ _ _ _ _ _ hP:=by
  obtain rfl:k=0:=by omega
  simp only[fk]at hP;exact False.elim hP
 exp k hk _ _ _ _ _ _ _ _ hP:=by
  obtain rfl:k=0:=by omega
  simp only[bY]at hP;exact False.elim hP
 loop k hk _ _ _ _ _ _ _ _ _ _ _ _ _ hP:=by
  obtain rfl:k=0:=by omega
  simp only[nX]at hP;exact False.elim hP
 plain k hk _ _ _ _ _ _ _ _ _ _ _ _ _ hP:=by
  obtain rfl:k=0:=by omega
  simp only[iJ]at hP;exact False.elim hP
 body k hk _ _ _ _ _ _ _ _ _ hP:=by
  obtain rfl:k=0:=by omega
  simp only[jJ]at hP;exact False.elim hP
 either k hk _ _ _ _ _ _ _ _ hP:=by
  obtain rfl:k=0:=by omega
  simp only[iI]at hP;exact False.elim hP
 post k hk _ _ _ _ _ _ _ _ hP:=by
  obtain rfl:k=0:=by omega
  simp only[jZ]at hP;exact False.elim hP
 both k hk _ _ _ _ _ _ _ _ hP:=by
  obtain rfl:k=0:=by omega
  simp only[lI]at hP;exact False.elim hP
 simple k hk _ _ _ _ _ _ _ _ hP:=by
  obtain rfl:k=0:=by omega
  simp only[eZ]at hP;exact False.elim hP
 args k hk _ _ _ _ _ _ _ _ hP:=by
  obtain rfl:k=0:=by omega
  simp only[dt]at hP;exact False.elim hP
 test k hk _ _ _ _ _ _ _ _ hP:=by
  obtain rfl:k=0:=by omega
  simp only[lJ]at hP;exact False.elim hP
 table k hk _ _ _ _ _ _ _ _ _ hP:=by
  obtain rfl:k=0:=by omega
  simp only[fJ]at hP;exact False.elim hP
 join k hk _ _ _ _ _ _ _ _ hP:=by
  obtain rfl:k=0:=by omega
  simp only[iy]at hP;exact False.elim hP
 field k hk _ _ _ _ _ _ _ _ _ _ _ _ _ _ hP:=by
  obtain rfl:k=0:=by omega
  simp only[iq]at hP;exact False.elim hP
 sum k hk _ _ _ _ _ _ _ _ hP:=by
  obtain rfl:k=0:=by omega
  simp only[oJ]at hP;exact False.elim hP
 term k hk _ _ _ _ _ _ _ _ hP:=by
  obtain rfl:k=0:=by omega
  simp only[lM]at hP;exact False.elim hP
 unary k hk _ _ _ _ _ _ _ _ hP:=by
  obtain rfl:k=0:=by omega
  simp only[gv]at hP;exact False.elim hP
theorem awj{m n:Nat}(hn:n≤900000)(hpv:C.pv=.iface 57 (.agg []))(O:iz C m n):iz C (m+1) (n+1) where
 block:=s24 hn hpv O
 stat:=s55 hpv O
 qC:=s95 hpv O
 choice:=s96 hn hpv O
 exp:=s97 hpv O
 loop:=s99 hpv O
 plain:=awg hpv O
 body:=awf hn hpv O
 either:=avW hn hpv O
 post:=av9 hn hpv O
 both:=avY hn hpv O
 simple:=awa hpv O
 args:=av7 hn hpv O
 test:=av0 hn hpv O
 table:=awc hn hpv O
 join:=av4 hpv O
 field:=awd hpv O
 sum:=av1 hn hpv O
 term:=av3 hn hpv O
 unary:=av5 hpv O
theorem okP(hpv:C.pv=.iface 57 (.agg [])):∀(n m:Nat),n≤900000→n≤m→iz C m n
 |0,m,_,_=>awi m
 |n+1,0,_,h=>by omega
 |n+1,m+1,h1,h2=>awj (by omega) hpv (okP hpv n m (by omega) (by omega))
end
end Go.Proofs.YtcedghechlgecaaGreatDoor
