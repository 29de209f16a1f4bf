/- The functions of the parser of the program give what the grammar says (names shortened). No condition: lemmas. -/
import Derived.Test.YtcedghechlgecaaGreatDoorPa
set_option maxRecDepth 100000
set_option maxHeartbeats 0
set_option linter.unusedVariables false
set_option linter.unusedSimpArgs false
namespace Go.Proofs.YtcedghechlgecaaGreatDoor
open Go Go.X Go.Proofs.YtcedghechlgecaaGreatDoor.G
section
variable {H:AH}{S:LS}{K:KF}{C:Ctx}{i d:Nat}
def bL(C:Ctx):Nat→Prop:=λb=>b=C.bp
theorem aD.An{C:Ctx}{S S':LS}(h:aD (bL C) S S')(o:gi):aD (bL C) S (S'.set C.bp o):=h.set (b:=C.bp) (.inl (rfl:C.bp=C.bp)) o
theorem mW{c:Nat}(hpv:C.pv=.iface 57 (.agg []))(hM:Mem H S)(hp:bH C S i d)(hK:∀H' S',Mem H' S'→aD (bL C) S S'→Ak C S' c i→K (.cZ C.pv) H'):f25 (.ptr C.bp 0) (c:Int) H K:=by
 show Bk Iq K (.ptr C.bp 0) (c:Int) H;unfold Bk;rw[dG,bu,Nat.zero_add];refine bj hM hp.ob (by omega) (by show 3<4;omega) rfl λH' h'=>?_;rw[hpv]at hK;exact hK H' _ h' (aD.An (aD.refl _ _) _) hp.err
theorem iY(hM:Mem H S)(hp:bH C S i d)(hK:∀H' S',Mem H' S'→aD cB S S'→bH C S' i d→K (.ret (.agg (eW C.T i))) H'):f23 (.ptr C.bp 0) H K:=by
 show uH Bj K (.ptr C.bp 0) H;unfold uH;refine cn (b9 hM (λa ha=>?_) λH1 m1=>?_)
 ·simp only[List.mem_cons,List.not_mem_nil,or_false]at ha;rcases ha with rfl|rfl|rfl|rfl<;>rfl
 have c1:aD cB S (S.push (.ce [.int 0 (.ofNat 0),.str 0 0,.int 0 (.ofNat 0),.int 0 (.ofNat 0)] 0)):=(aD.refl _ _).push _;have p1:=hp.no hM c1;simp only[dG,bu,Nat.zero_add];refine aG m1 p1.ob (v:=C.vT) rfl ?_;refine aG m1 p1.ob (v:=.int 0 (i:Int)) rfl ?_;simp only[aR];refine p1.tk.load m1 hp.lt ?_;rw[Al hp.lt];refine iu m1 (LS.ak _ _) (by omega) rfl (by show 0+4≤4;omega) (λa ha=>?_) λH2 m2=>?_
 ·simp only[eW,List.mem_cons,List.not_mem_nil,or_false]at ha;rcases ha with rfl|rfl|rfl|rfl<;>rfl
 have m2:Mem H2 ((S.push (.ce [.int 0 (.ofNat 0),.str 0 0,.int 0 (.ofNat 0),.int 0 (.ofNat 0)] 0)).set S.n (.ce (eW C.T i) 0)):=m2;have c2:=c1.set (b:=S.n) (.inr (Nat.le_refl _)) (.ce (eW C.T i) 0);refine oR m2 (LS.ay _ _ _) (by show 0+4≤4;omega) ?_;exact hK H2 _ m2 c2 (hp.no hM c2)
theorem Kx{T:List Tok}{s:List Nat}{i:Nat}:isA T s i=((decide (bC T i=1)||decide (bC T i=5))&&decide (dO T i=s)):=rfl
theorem pG{s:List Nat}(h8:B8 s)(hM:Mem H S)(hp:bH C S i d)(hK:∀H' S',Mem H' S'→aD cB S S'→bH C S' i d→K (.ret (.bool (isA C.T s i))) H'):f94 (.ptr C.bp 0) (al s) H K:=by
 have r94:Bp=f23:=rfl;show Bo Bp K (.ptr C.bp 0) (al s) H;unfold Bo;rw[r94];refine iY hM hp λH1 S1 m1 c1 p1=>?_;rw[aA];refine cn (b9 m1 (λa ha=>?_) λH2 m2=>?_)
 ·simp only[List.mem_cons,List.not_mem_nil,or_false]at ha;rcases ha with rfl|rfl|rfl|rfl<;>rfl
 refine iu m2 (LS.ak _ _) (by omega) rfl (by show 0+4≤4;omega) (λa ha=>?_) λH3 m3=>?_
 ·simp only[eW,List.mem_cons,List.not_mem_nil,or_false]at ha;rcases ha with rfl|rfl|rfl|rfl<;>rfl
 have m3:Mem H3 ((S1.push (.ce [.int 0 (.ofNat 0),.str 0 0,.int 0 (.ofNat 0),.int 0 (.ofNat 0)] 0)).set S1.n (.ce (eW C.T i) 0)):=m3;have c3:=(c1.push (.ce [.int 0 (.ofNat 0),.str 0 0,.int 0 (.ofNat 0),.int 0 (.ofNat 0)] 0)).set (b:=S1.n) (.inr c1.1) (.ce (eW C.T i) 0);have hk:=hK H3 _ m3 c3 (hp.no hM c3);have e1:Int.ofNat 1=((1:Nat):Int):=rfl;have e5:Int.ofNat 5=((5:Nat):Int):=rfl;have go:(bC C.T i=1∨bC C.T i=5)→aC (.ptr S1.n 1) H3 λv11=>sW v11 (al s) λv12=>bO v12 λz13=>K (.ret (.bool z13)) H3:=λhkd=>by
  refine aG m3 (LS.ay _ _ _) (v:=al (dO C.T i)) rfl ?_;refine Bf (rJ C i) h8 ?_;rw[bo];have e:isA C.T s i=decide (dO C.T i=s):=by
   rw[Kx];rcases hkd with g|g<;>rw[g]<;>simp
  rw[e]at hk;exact hk
 simp only[bu,Nat.zero_add];refine aG m3 (LS.ay _ _ _) (v:=.int 0 (bC C.T i:Int)) rfl ?_;simp only[aR,cV];rw[e1,e5];refine cH (λg=>go (.inl (by omega))) (λg=>?_);refine aG m3 (LS.ay _ _ _) (v:=.int 0 (bC C.T i:Int)) rfl ?_;simp only[aR];refine cH (λg5=>go (.inr (by omega))) (λg5=>?_);have e:isA C.T s i=false:=by
  rw[Kx,decide_eq_false (by omega),decide_eq_false (by omega)];rfl
 rw[e]at hk;exact hk
theorem dz{s:List Nat}(h8:B8 s)(hM:Mem H S)(hp:bH C S i d)(hK:∀H' S',Mem H' S'→aD (bL C) S S'→bH C S' (if isA C.T s i then i+1 else i) d→K (.ret (.bool (isA C.T s i))) H'):f56 (.ptr C.bp 0) (al s) H K:=by
 have r56:Bs=f94:=rfl;show Br Bs K (.ptr C.bp 0) (al s) H;unfold Br;rw[r56];refine pG h8 hM hp λH1 S1 m1 c1 p1=>?_;simp only[aA,bo];cases hi:isA C.T s i with
 |false=>
  simp only[Bool.not_false,aU];have hk:=hK H1 S1 m1 c1.no (by rw[hi];exact p1);rw[hi]at hk;exact hk
 |true=>
  simp only[Bool.not_true,aV,dG,bu,Nat.zero_add];have hlt:=cX C.ok hi;have hfew:=C.few;refine aG m1 p1.ob (v:=.int 0 (i:Int)) rfl ?_;simp only[aR,gC,km];refine w0 (by omega) (by omega) ?_;refine bj m1 p1.ob (by omega) (by show 1<4;omega) rfl λH2 m2=>?_;have p2:=p1.set (e:=d) hlt;have c2:aD (bL C) S (S1.set C.bp (.ce [C.vT,.int 0 ((i+1:Nat):Int),.int 0 (d:Int),.int 0 0] 0)):=aD.An (c1.no) _;have hk:=hK H2 _ m2 c2 (by rw[hi];exact p2);rw[hi]at hk;exact hk
theorem gE{s:List Nat}(hpv:C.pv=.iface 57 (.agg []))(h8:B8 s)(hM:Mem H S)(hp:bH C S i d)(hP:Post C (bL C) d mD K S (cC C.T s i)):lC (.ptr C.bp 0) (al s) H K:=by
 have aiQ:xo.1=f25:=rfl;have aiR:xo.2=f56:=rfl;show Bu xo K (.ptr C.bp 0) (al s) H;unfold Bu;rw[aiQ,aiR];refine dz h8 hM hp λH1 S1 m1 c1 p1=>?_;simp only[aA,bo];unfold cC at hP;cases hi:isA C.T s i with
 |true=>
  rw[hi]at p1 hP;simp only[Bool.not_true,aV];exact hP H1 S1 _ m1 c1 p1 rfl
 |false=>
  rw[hi]at p1 hP;simp only[Bool.not_false,aU];refine mW (c:=14) hpv m1 p1 λH2 S2 m2 c2 e2=>?_;rw[jJ];exact hP H2 S2 m2 (c1.trans c2) e2
theorem vz(hpv:C.pv=.iface 57 (.agg []))(hM:Mem H S)(hp:bH C S i d)(hP:Post C (bL C) d rvN K S (gY C.T i)):f130 (.ptr C.bp 0) H K:=by
 have ahM:ri.1=f23:=rfl;have ahN:ri.2=f25:=rfl;show yu ri K (yt ri K) (.ptr C.bp 0) H;unfold yu;rw[ahM,ahN];refine iY hM hp λH1 S1 m1 c1 p1=>?_;rw[aA];refine cn (b9 m1 (λa ha=>?_) λH2 m2=>?_)
 ·simp only[List.mem_cons,List.not_mem_nil,or_false]at ha;rcases ha with rfl|rfl|rfl|rfl<;>rfl
 refine iu m2 (LS.ak _ _) (by omega) rfl (by show 0+4≤4;omega) (λa ha=>?_) λH3 m3=>?_
 ·simp only[eW,List.mem_cons,List.not_mem_nil,or_false]at ha;rcases ha with rfl|rfl|rfl|rfl<;>rfl
 have m3:Mem H3 ((S1.push (.ce [.int 0 (.ofNat 0),.str 0 0,.int 0 (.ofNat 0),.int 0 (.ofNat 0)] 0)).set S1.n (.ce (eW C.T i) 0)):=m3;have c3:=(c1.push (.ce [.int 0 (.ofNat 0),.str 0 0,.int 0 (.ofNat 0),.int 0 (.ofNat 0)] 0)).set (b:=S1.n) (.inr c1.1) (.ce (eW C.T i) 0);have p3:=hp.no hM c3;unfold gY at hP;have e2:Int.ofNat 2=((2:Nat):Int):=rfl;simp only[bu,Nat.zero_add];refine aG m3 (LS.ay _ _ _) (v:=.int 0 (bC C.T i:Int)) rfl ?_;simp only[aR,cV];rw[e2];by_cases g:bC C.T i=2
 ·rw[if_pos g]at hP;rw[decide_eq_true (by omega)];simp only[Bool.not_true,aV];unfold yt;simp only[dG,bu,Nat.zero_add];have hlt:=ld (i:=i) C.ok (by omega);have hfew:=C.few;refine aG m3 p3.ob (v:=.int 0 (i:Int)) rfl ?_;simp only[aR,gC,km];refine w0 (by omega) (by omega) ?_;refine bj m3 p3.ob (by omega) (by show 1<4;omega) rfl λH4 m4=>?_;have p4:=p3.set (e:=d) hlt;have hne:S1.n≠C.bp:=by have:=p1.eJ m1;omega
  refine aG m4 (l:=eW C.T i) (m:=0) (by rw[LS.aq _ _ hne];exact LS.ay _ _ _) (v:=al (dO C.T i)) rfl ?_;exact hP H4 _ _ m4 (aD.An (c3.no) _) p4 ⟨rfl,rJ C i⟩
 ·rw[if_neg g]at hP;rw[decide_eq_false (by omega)];simp only[Bool.not_false,aU];refine mW (c:=14) hpv m3 p3 λH4 S4 m4 c4 e4=>?_;rw[jJ];exact hP H4 S4 m4 ((c3.no).trans c4) e4
theorem So(hpv:C.pv=.iface 57 (.agg []))(hd:d≤1000)(hM:Mem H S)(hp:bH C S i d)
  (h1:100<d+1→∀H' S',Mem H' S'→aD (bL C) S S'→Ak C S' 8 i→K (.cZ C.pv) H')
  (h2:¬100<d+1→∀H' S',Mem H' S'→aD (bL C) S S'→bH C S' i (d+1)→K (.ret (.bD [])) H'):f53 (.ptr C.bp 0) H K:=by
 have r53:Bm=f25:=rfl;show Bl Bm K (.ptr C.bp 0) H;unfold Bl;rw[r53];simp only[dG,bu,Nat.zero_add];refine aG hM hp.ob (v:=.int 0 (d:Int)) rfl ?_;simp only[aR,gC,km];refine w0 (by omega) (by omega) ?_;refine bj hM hp.ob (by omega) (by show 2<4;omega) rfl λH1 m1=>?_;have p1:=hp.set (e:=d+1) hp.lt;have c1:aD (bL C) S (S.set C.bp (.ce [C.vT,.int 0 (i:Int),.int 0 ((d+1:Nat):Int),.int 0 0] 0)):=aD.An (aD.refl _ _) _;refine aG m1 p1.ob (v:=.int 0 ((d+1:Nat):Int)) rfl ?_;have e100:Int.ofNat 100=((100:Nat):Int):=rfl;simp only[aR,di];rw[e100];refine cH (λg=>?_) (λg=>h2 (by omega) H1 _ m1 c1 p1);refine mW (c:=8) hpv m1 p1 λH2 S2 m2 c2 e2=>?_;rw[jJ];exact h1 (by omega) H2 S2 m2 (c1.trans c2) e2
theorem Sp{k:AH→Prop}(hd:d≤1000)(hM:Mem H S)(hp:bH C S i (d+1))(hk:∀H' S',Mem H' S'→aD (bL C) S S'→bH C S' i d→k H') :
  cK (.ptr C.bp 0) (aL 2 (.ptr C.bp 0) λv1=>aC v1 H λv2=>cI 0 v2 λz3=>bg 0 (Int.sub z3 (.ofNat 1)) λz4=>cK (.ptr C.bp 0) (aL 2 (.ptr C.bp 0) λv5=>ag 1 v5 (.int 0 z4) H k)):=by
 simp only[dG,bu,Nat.zero_add];refine aG hM hp.ob (v:=.int 0 ((d+1:Nat):Int)) rfl ?_;simp only[aR,Z1,km];refine w0 (by omega) (by omega) ?_;rw[show((d+1:Nat):Int)-1=(d:Int) by omega];refine bj hM hp.ob (by omega) (by show 2<4;omega) rfl λH1 m1=>?_;exact hk H1 _ m1 (aD.An (aD.refl _ _) _) (hp.set (e:=d) hp.lt)
theorem Ky(hM:Mem H S)(hp:bH C S i d)(hK:∀H' S',Mem H' S'→aD cB S S'→bH C S' i d→K (.ret (.bool (dH C.T i))) H'):f54 (.ptr C.bp 0) H K:=by
 have aiS:xn.1=f23:=rfl;have aiT:xn.2=f94:=rfl;show Bq xn K (.ptr C.bp 0) H;unfold Bq;rw[aiS,aiT];unfold dH at hK;refine pG (s:=[101,110,100]) (aZ (by decide)) hM hp λH1 S1 m1 c1 p1=>?_;simp only[aA,bo];cases h1:isA C.T [101,110,100] i with
 |true=>rw[h1]at hK;exact hK H1 S1 m1 c1 p1
 |false=>
 rw[h1,Bool.false_or]at hK;simp only[aV];refine pG (s:=[101,108,115,101]) (aZ (by decide)) m1 p1 λH2 S2 m2 c2 p2=>?_;simp only[aA,bo];cases h2:isA C.T [101,108,115,101] i with
 |true=>rw[h2]at hK;exact hK H2 S2 m2 (c1.trans c2) p2
 |false=>
 rw[h2,Bool.false_or]at hK;simp only[aV];refine pG (s:=[101,108,115,101,105,102]) (aZ (by decide)) m2 p2 λH3 S3 m3 c3 p3=>?_;simp only[aA,bo];cases h3:isA C.T [101,108,115,101,105,102] i with
 |true=>rw[h3]at hK;exact hK H3 S3 m3 ((c1.trans c2).trans c3) p3
 |false=>
 rw[h3,Bool.false_or]at hK;simp only[aV];refine pG (s:=[117,110,116,105,108]) (aZ (by decide)) m3 p3 λH4 S4 m4 c4 p4=>?_;simp only[aA,bo];cases h4:isA C.T [117,110,116,105,108] i with
 |true=>rw[h4]at hK;exact hK H4 S4 m4 (((c1.trans c2).trans c3).trans c4) p4
 |false=>
 rw[h4,Bool.false_or]at hK;simp only[aV];refine iY m4 p4 λH5 S5 m5 c5 p5=>?_;rw[aA,yo];unfold eW;simp only[fH,aR,cV];have e0:Int.ofNat 0=((0:Nat):Int):=rfl;have hk:=hK H5 S5 m5 ((((c1.trans c2).trans c3).trans c4).trans c5) p5;have e:decide ((bC C.T i:Int)=Int.ofNat 0)=decide (bC C.T i=0):=by
  rw[Bool.eq_iff_iff,decide_eq_true_eq,decide_eq_true_eq,e0];omega
 rw[e];exact hk
theorem aaU{f:Nat}{l:List (List Nat)}{v:AV}(hf:f≤100)(hf0:0<f)(hl:l.length≤100)(h8:∀s∈l,B8 s){Q:Nat→Prop}(hbp:¬Q C.bp)(hv:cJ S Q 1 v l.length (λj=>[al (l[j]?.getD [])]))(hM:Mem H S)(hp:bH C S i d)
  (hK:∀H' S',Mem H' S'→aD (bL C) S S'→bH C S' (if iI C.T i f l=0 then i else i+1) d→K (.ret (.int 0 (iI C.T i f l:Int))) H'):f193 (.ptr C.bp 0) (f:Int) v H K:=by
 have aiU:lv=f56:=rfl;have loop:∀(q j:Nat) (H:AH) (S1:LS),j≤l.length→l.length-j<q→Mem H S1→aD (bL C) S S1→bH C S1 i d→iI C.T i f l=iI C.T i (f+j) (l.drop j)→oY lv K q (.ptr C.bp 0) (f:Int) v l.length (j:Int) H:=by
  intro q
  induction q with
  |zero=>intro j H S1 _ h;omega
  |succ q ih=>
   intro j H S1 hj hq hM1 hc hp1 he;show yr lv K (oY lv K q) (yq lv K) (.ptr C.bp 0) (f:Int) v l.length (j:Int) H;unfold yr;rw[aiU,di];refine cH (λg=>?_) (λg=>?_)
   ·have hjl:j<l.length:=by omega
    have hd:l.drop j=l[j]::l.drop (j+1):=List.drop_eq_getElem_cons hjl;have hv1:cJ S1 Q 1 v l.length (λj=>[al (l[j]?.getD [])]):=by
     rcases hv with hv|⟨b,o,c,ex,cs,m,e1,e2,e4,e5⟩
     ·exact .inl hv
     ·exact .inr ⟨b,o,c,ex,cs,m,e1,e2,(hc.2 b (hM.lt (by rw[e4];simp)) λe=>hbp (by have e:b=C.bp:=e;rw[←e];exact e2)).trans e4,e5⟩
    have hld:dj 1 v (.int 0 (j:Int)) λv1=>aC v1 H λv2=>f56 (.ptr C.bp 0) v2 H λo3 H4=>cR K o3 H4 λv5=>bO v5 λz6=>bI z6 (bg 0 (Int.add (f:Int) (j:Int)) λz7=>K (.ret (.int 0 z7)) H4) (bg 0 (Int.add (j:Int) (.ofNat 1)) λz8=>oY lv K q (.ptr C.bp 0) (f:Int) v l.length z8 H4):=by
     rcases hv1 with⟨_,e⟩|⟨b,o,c,ex,cs,m,rfl,e2,e4,e5,e6,e7⟩
     ·omega
     ·refine oe (by omega) (by omega) ?_;rw[Int.toNat_natCast];have e8:=e7 j hjl;have hget:cs[o+j*1]? = some (al l[j]):=by
       have:((cs.drop (o+j*1)).take 1)[0]? = [al (l[j]?.getD [])][0]?:=by rw[e8]
       rw[List.getElem?_take,if_pos (by omega),List.getElem?_drop,Nat.add_zero,List.getElem?_eq_getElem hjl]at this;exact this
      refine aG hM1 e4 hget ?_;refine dz (h8 _ (List.getElem_mem _)) hM1 hp1 λH2 S2 m2 c2 p2=>?_;rw[aA,bo];rw[hd]at he;cases hi:isA C.T l[j] i with
      |true=>
       rw[hi]at p2;rw[aU,gC];have e9:iI C.T i (f+j) (l[j]::l.drop (j+1))=f+j:=by unfold iI;rw[hi];rfl
       rw[e9]at he;refine w0 (by omega) (by omega) ?_;have hk:=hK H2 S2 m2 (hc.trans c2) (by rw[he,if_neg (by omega)];exact p2);rw[he]at hk;exact hk
      |false=>
       rw[hi]at p2;rw[aV,gC,km];refine w0 (by omega) (by omega) ?_;refine ih (j+1) H2 S2 (by omega) (by omega) m2 (hc.trans c2) p2 ?_;rw[he]
       conv=>lhs;unfold iI
       rw[hi];rfl
    exact hld
   ·rw[List.drop_of_length_le (by omega)]at he;have e0:iI C.T i f l=0:=he;unfold yq;have hk:=hK H S1 hM1 hc (by rw[e0];exact hp1);rw[e0]at hk;exact hk
 show ys lv K (oY lv K G.NL) (.ptr C.bp 0) (f:Int) v H;unfold ys;refine hv.len ?_;rw[aR];exact loop G.NL 0 H S (Nat.zero_le _) (by have:G.NL=1000000:=rfl;omega) hM (aD.refl _ _) hp rfl
end
section
variable {H:AH}{S:LS}{K:KF}{C:Ctx}{i d:Nat}
def nO(C:Ctx)(F:AV→AH→KF→Prop)(p:Nat→Nat→bF aE):Prop:=∀{K:KF}{H:AH}{S:LS}{i d:Nat},d≤200→Mem H S→bH C S i d→Post C (bL C) d kE K S (p i d)→F (.ptr C.bp 0) H K
def fF(C:Ctx)(c:Nat):Nat→Prop:=λb=>b=C.bp∨b=c
def rvF(bn:Nat)(S:LS)(Q:Nat→Prop)(v:AV)(r:List aE×Nat):Prop:=gS S Q v r.1∧S.ob bn=.ce [.int 0 (r.2:Int)] 0
def sQ(bs:Nat)(S:LS)(Q:Nat→Prop)(v:AV)(s:aK):Prop:=v=.bD []∧∃c,S.ob bs=.ce c 0∧eZ S Q c s
def FX(C:Ctx)(F:AV→AV→AH→KF→Prop)(p:Nat→Nat→Nat→bF aK):Prop:=∀{K:KF}{H:AH}{S:LS}{i d a bs:Nat},d≤200→Mem H S→bH C S i d→S.ob bs=.ce [.int 0 0,.int 0 (a:Int),.ab,.ab,.ab] 0→bs≠C.bp→(∀b,bd C.vT b→b≠bs)→Post C (fF C bs) d (sQ bs) K S (p a i d)→F (.ptr C.bp 0) (.ptr bs 0) H K
structure gL(C:Ctx)(m n:Nat):Prop where
 block:∀k,k≤n→∀{K:KF}{H:AH}{S:LS}{i d:Nat},d≤200→Mem H S→bH C S i d→Post C (bL C) d dY K S (cz C.T k i d)→(s13 m).1 (.ptr C.bp 0) H K
 stat:∀k,k≤n→∀{K:KF}{H:AH}{S:LS}{i d:Nat},d≤200→Mem H S→bH C S i d→Post C (bL C) d C5 K S (eY C.T k i d)→(s13 m).2.1 (.ptr C.bp 0) H K
 ah:∀k,k≤n→FX C (s13 m).2.2.1 (ep C.T k)
 choice:∀k,k≤n→FX C (s13 m).2.2.2.1 (λa i d=>cO C.T k a [] [] i d)
 exp:∀k,k≤n→nO C (s13 m).2.2.2.2.1 (de C.T k)
 loop:∀k,k≤n→FX C (s13 m).2.2.2.2.2.1 (ij C.T k)
 plain:∀k,k≤n→FX C (s13 m).2.2.2.2.2.2.1 (ey C.T k)
 body:∀k,k≤n→∀{K:KF}{H:AH}{S:LS}{i d a:Nat},d≤200→Mem H S→bH C S i d→Post C (bL C) d kE K S (fy C.T k a i d)→(s13 m).2.2.2.2.2.2.2.1 (.ptr C.bp 0) (a:Int) H K
 either:∀k,k≤n→nO C (s13 m).2.2.2.2.2.2.2.2.1 (dx C.T k)
 post:∀k,k≤n→nO C (s13 m).2.2.2.2.2.2.2.2.2.1 (fj C.T k)
 both:∀k,k≤n→nO C (s13 m).2.2.2.2.2.2.2.2.2.2.1 (fu C.T k)
 simple:∀k,k≤n→nO C (s13 m).2.2.2.2.2.2.2.2.2.2.2.1 (dc C.T k)
 args:∀k,k≤n→∀{K:KF}{H:AH}{S:LS}{i d:Nat},d≤200→Mem H S→bH C S i d→Post C (bL C) d gS K S (cT C.T k true [] i d)→(s13 m).2.2.2.2.2.2.2.2.2.2.2.2.1 (.ptr C.bp 0) H K
 test:∀k,k≤n→nO C (s13 m).2.2.2.2.2.2.2.2.2.2.2.2.2.1 (fw C.T k)
 table:∀k,k≤n→∀{K:KF}{H:AH}{S:LS}{i d a:Nat},d≤200→Mem H S→bH C S i d→Post C (bL C) d kE K S (dh C.T k [] 0 a i d)→(s13 m).2.2.2.2.2.2.2.2.2.2.2.2.2.2.1 (.ptr C.bp 0) (a:Int) H K
 join:∀k,k≤n→nO C (s13 m).2.2.2.2.2.2.2.2.2.2.2.2.2.2.2.1 (fi C.T k)
 field:∀k,k≤n→∀{K:KF}{H:AH}{S:LS}{i d c bn:Nat},d≤200→c≤1000→Mem H S→bH C S i d→S.ob bn=.ce [.int 0 (c:Int)] 0→bn≠C.bp→(∀b,bd C.vT b→b≠bn)→Post C (fF C bn) d (rvF bn) K S (dJ C.T k c i d)→(s13 m).2.2.2.2.2.2.2.2.2.2.2.2.2.2.2.2.1 (.ptr C.bp 0) (.ptr bn 0) H K
 sum:∀k,k≤n→nO C (s13 m).2.2.2.2.2.2.2.2.2.2.2.2.2.2.2.2.2.1 (ig C.T k)
 term:∀k,k≤n→nO C (s13 m).2.2.2.2.2.2.2.2.2.2.2.2.2.2.2.2.2.2.1 (fx C.T k)
 unary:∀k,k≤n→nO C (s13 m).2.2.2.2.2.2.2.2.2.2.2.2.2.2.2.2.2.2.2 (dN C.T k)
def z7:List AV:=[.int 0 (.ofNat 0),.int 0 (.ofNat 0),.int 0 (.ofNat 0),.str 0 0,.int 0 (.ofNat 0),.ab,.ab]
theorem gO(nw:Lay)(k:AV→AH→Prop):dd Tryz.prog nw 49 k=fV nw z7 k:=by kernel_rfl
theorem dm:∀a∈z7,a.one=true:=by
 intro a ha;simp only[z7,List.mem_cons,List.not_mem_nil,or_false]at ha;rcases ha with rfl|rfl|rfl|rfl|rfl|rfl|rfl<;>rfl
theorem Sq{z c:List AV}(h:c.length=z.length):dC z 0 c=c:=by
 unfold dC;rw[List.take_zero,List.drop_of_length_le (by omega)];simp
theorem hV{n b:Nat}{c z:List AV}{k:AH→Prop}(hM:Mem H S)(h1:S.ob b=.ce z 0)(hz:z.length=n)(hc:c.length=n)(ho:∀a∈c,a.one=true)(hk:∀H',Mem H' (S.set b (.ce c 0))→k H'):ag n (.ptr b 0) (.agg c) H k:=
 iu hM h1 (by omega) hc (by omega) ho λH' h'=>hk H' (by rw[Sq (by omega)]at h';exact h')
theorem fl{n b m:Nat}{c:List AV}{k:AV→Prop}(hM:Mem H S)(h1:S.ob b=.ce c m)(hc:c.length=n)(hk:k (.agg c)):aQ n (.ptr b 0) H k:=
 oR hM h1 (by omega) (by rw[List.drop_zero,List.take_of_length_le (by omega)];exact hk)
theorem agP{b1 b3:Nat}{c z:List AV}(hM:Mem H S)(h3:S.ob b3=.ce c 0)(hc:c.length=7)(ho:∀a∈c,a.one=true)(h1:S.ob b1=.ce z 0)(hz:z.length=7)(hK:∀H',Mem H' (S.set b1 (.ce c 0))→K (.ret (.agg c)) H'):aQ 7 (.ptr b3 0) H λv1=>ag 7 (.ptr b1 0) v1 H λH2=>aQ 7 (.ptr b1 0) H2 λv3=>K (.ret v3) H2:=by
 refine fl hM h3 hc (hV hM h1 hz hc ho λH' h'=>?_);exact fl h' (LS.ay _ _ _) hc (hK H' h')
theorem cJ.two{Q:Nat→Prop}{b:Nat}{ca cb:List AV}{m:Nat}{ex:Bool}(hQ:Q b)(hb:S.ob b=.ce (ca++cb) m)(h1:ca.length=7)(h2:cb.length=7):cJ S Q 7 (.slice b 0 2 2 7 ex) 2 (λi=>if i=0 then ca else cb):=
 .inr ⟨b,0,2,ex,ca++cb,m,rfl,hQ,hb,Nat.le_refl _,by rw[List.length_append];omega,λi hi=>by
  have hi2:i=0∨i=1:=by omega
  rcases hi2 with rfl|rfl
  ·show((ca++cb).drop 0).take 7=ca;rw[List.drop_zero];exact List.take_left' h1
  ·show((ca++cb).drop 7).take 7=cb;rw[List.drop_left' h1,List.take_of_length_le (by omega)]⟩
theorem RE.simple{Q:Nat→Prop}{kind at_ n op:Nat}{s:List Nat}(h:B8 s):RE S Q [.int 0 (kind:Int),.int 0 (at_:Int),.int 0 (n:Int),al s,.int 0 (op:Int),.ab,.ab] (.mk kind at_ n s op [] []):=
 .mk kind at_ n s op [] [] .ab .ab (λ_=>[]) (λ_=>[]) h (cJ.nil _ _ _ _) (λi e h=>by simp at h) (cJ.nil _ _ _ _) (λi e h=>by simp at h)
theorem RE.two{Q:Nat→Prop}{kind at_ op b m:Nat}{ex:Bool}{x y:aE}{ca cb:List AV}(hQ:Q b)(hb:S.ob b=.ce (ca++cb) m)(h1:RE S Q ca x)(h2:RE S Q cb y):RE S Q [.int 0 (kind:Int),.int 0 (at_:Int),.int 0 ((0:Nat):Int),al [],.int 0 (op:Int),.slice b 0 2 2 7 ex,.ab] (dU kind op at_ x y):=by
 refine .mk kind at_ 0 [] op [x,y] [] _ .ab _ (λ_=>[]) B8.nil (cJ.two hQ hb h1.len h2.len) (λi e h=>?_) (cJ.nil _ _ _ _) (λi e h=>by simp at h)
 match i,h with
 |0,h=>
  have e1:x=e:=by simpa using h
  subst e1;exact h1
 |1,h=>
  have e1:y=e:=by simpa using h
  subst e1;exact h2
 |i+2,h=>simp at h
theorem ahO{kind op at_:Nat}{x y:aE}{ca cb:List AV}{Q:Nat→Prop}(hM:Mem H S)(hQ:∀b,Q b→b<S.n)(ha:RE S Q ca x)(hb:RE S Q cb y)
  (hK:∀H' S' c,Mem H' S'→aD cB S S'→RE S' (λb=>Q b∨S.n≤b∧b<S'.n) c (dU kind op at_ x y)→K (.ret (.agg c)) H'):f164 (kind:Int) (op:Int) (at_:Int) (.agg ca) (.agg cb) H K:=by
 show yp DG K (kind:Int) (op:Int) (at_:Int) (.agg ca) (.agg cb) H;unfold yp;refine zV hM ha.ones λH1 m1=>?_;refine zV m1 hb.ones λH2 m2=>?_;rw[gO];refine cn (b9 m2 dm λH3 m3=>?_);have o1:∀o:gi,(((S.push (.ce ca 0)).push (.ce cb 0)).push o).ob S.n=.ce ca 0:=λo=>by
  rw[LS.cj _ _ (show S.n<S.n+1+1 by omega),LS.cj _ _ (show S.n<S.n+1 by omega),LS.ak]
 have o2:∀o:gi,(((S.push (.ce ca 0)).push (.ce cb 0)).push o).ob (S.n+1)=.ce cb 0:=λo=>by
  rw[LS.cj _ _ (show S.n+1<S.n+1+1 by omega)];exact LS.ak _ _
 refine fl m3 (o1 _) ha.len ?_;refine fl m3 (o2 _) hb.len ?_;simp only[fO];refine gq ha.len (gq hb.len ?_);rw[R7 ha.len hb.len rfl];refine dP m3 (by rw[List.length_append,ha.len,hb.len]) (λa h=>?_) λH4 m4=>?_
 ·rcases List.mem_append.1 h with g|g
  ·exact ha.ones a g
  ·exact hb.ones a g
 refine iX rfl ?_;have c4:aD cB S ((((S.push (.ce ca 0)).push (.ce cb 0)).push (.ce z7 0)).push (.ce (ca++cb) 0)):=((((aD.refl _ _).push _).push _).push _).push _;have o3:((((S.push (.ce ca 0)).push (.ce cb 0)).push (.ce z7 0)).push (.ce (ca++cb) 0)).ob (S.n+1+1)=.ce z7 0:=by
  rw[LS.cj _ _ (show S.n+1+1<S.n+1+1+1 by omega)];exact LS.ak _ _
 refine hV m4 (c:=[.int 0 (kind:Int),.int 0 (at_:Int),.int 0 ((0:Nat):Int),al [],.int 0 (op:Int),.slice (S.n+1+1+1) 0 2 2 7 true,.ab]) o3 rfl rfl (λa h=>?_) λH5 m5=>?_
 ·simp only[List.mem_cons,List.not_mem_nil,or_false]at h;rcases h with rfl|rfl|rfl|rfl|rfl|rfl|rfl<;>rfl
 have c5:=c4.set (b:=S.n+1+1) (.inr (by omega)) (.ce [.int 0 (kind:Int),.int 0 (at_:Int),.int 0 ((0:Nat):Int),al [],.int 0 (op:Int),.slice (S.n+1+1+1) 0 2 2 7 true,.ab] 0);refine fl m5 (LS.ay _ _ _) rfl ?_;have keep:∀b,Q b→LS.ob _ b=S.ob b:=λb hb=>c5.2 b (hQ b hb) λg=>g;refine hK H5 _ _ m5 c5 (RE.two (b:=S.n+1+1+1) (m:=0) (.inr ⟨by omega,Nat.lt_succ_self _⟩) ?_ (ha.go keep λb h=>.inl h) (hb.go keep λb h=>.inl h));exact(LS.aq _ _ (show S.n+1+1+1≠S.n+1+1 by omega)).trans (LS.ak _ _)
end
section
variable {H:AH}{S:LS}{K:KF}{C:Ctx}{i d:Nat}
theorem s97{m n:Nat}(hpv:C.pv=.iface 57 (.agg []))(O:gL C m n):∀k,k≤n+1→nO C (s13 (m+1)).2.2.2.2.1 (de C.T k):=by
 intro k hk K H S i d hd hM hp hP;cases k with
 |zero=>simp only[de]at hP;exact False.elim hP
 |succ k=>
  have ra:(mU (s13 m)).1=f53:=rfl;have rb:(mU (s13 m)).2=(s13 m).2.2.2.2.2.2.2.2.1:=rfl;show BE (mU (s13 m)) K (xv (mU (s13 m)) K) (.ptr C.bp 0) H;unfold BE;rw[ra,rb,gO];simp only[de]at hP;refine cn (b9 hM dm λH1 m1=>?_);have c1:aD cB S (S.push (.ce z7 0)):=(aD.refl _ _).push _;have p1:=hp.no hM c1;refine So hpv (by omega) m1 p1 (λhg H2 S2 m2 c2 e2=>?_) (λhg H2 S2 m2 c2 p2=>?_)
  ·rw[jJ];rw[if_pos hg]at hP;exact hP H2 S2 m2 ((c1.no).trans c2) e2
  ·rw[aA];rw[if_neg hg]at hP;have c12:=(c1.no (X:=bL C)).trans c2;refine O.either k (by omega) (by omega) m2 p2 (Post.tail hP c12 (λ_ h=>h) λe j H3 S3 v m3 c3 p3 ⟨c,hv,hR⟩ hfin=>?_);subst hv;simp only[gO];refine cn (b9 m3 dm λH4 m4=>?_);refine hV m4 (LS.ak _ _) rfl hR.len hR.ones λH5 m5=>?_;have hb1:(S.push (.ce z7 0)).ob S.n=.ce z7 0:=LS.ak _ _;have hbp:C.bp<S.n:=hp.eJ hM;have pH:=c2.ob m1 hb1 (λe=>by have e:S.n=C.bp:=e;omega);have aiV:=c3.ob m2 pH (λe=>by have e:S.n=C.bp:=e;omega);have c5:aD cB S3 ((S3.push (.ce z7 0)).set S3.n (.ce c 0)):=((aD.refl _ _).push _).set (.inr (Nat.le_refl _)) _;have p5:=p3.no m3 c5;have aiW:=c5.ob m3 aiV (λg=>g);refine Sp (by omega) m5 p5 λH6 S6 m6 c6 p6=>?_;have hb16:=c6.ob m5 aiW (λe=>by have e:S.n=C.bp:=e;omega);have aiX:=c6.ob m5 (LS.ay _ _ _) (λe=>by have e:S3.n=C.bp:=e;have:=c3.1;have:=c2.1;have:S.n+1≤S2.n:=c2.1;omega);show xv (mU (s13 m)) K (.ptr S.n 0) (.ptr S3.n 0) H6;unfold xv;refine agP m6 aiX hR.len hR.ones hb16 rfl λH7 m7=>?_;have c36:aD (fF C S.n) S3 (S6.set S.n (.ce c 0)):=((c5.no.trans (c6.mono λb h=>.inl h)).set (b:=S.n) (.inl (.inr rfl)) _)
   have n12:S.n+1≤S2.n:=c2.1;refine hfin H7 _ _ m7 ((c12.trans c3).iW c36 λb h=>?_) ?_ ⟨c,rfl,hR.go (λb hb=>c36.2 b hb.2 ?_) λb hb=>⟨?_,?_⟩⟩
   ·rcases h with h|h
    ·exact .inl h
    ·exact .inr (by omega)
   ·exact p6.iw hp hM (Nat.le_refl _) _
   ·rintro(h|h)
    ·have:=hb.1;omega
    ·have:=hb.1;omega
   ·have:=hb.1;omega
   ·exact Nat.lt_of_lt_of_le hb.2 c36.1
end
section
variable {H:AH}{S:LS}{K:KF}{C:Ctx}{i d:Nat}
structure iK(C:Ctx)(S0 S:LS)(b1 b3:Nat)(c:List AV)(e:aE):Prop where
 x:aD (bL C) S0 S
 o1:∃z,S.ob b1=.ce z 0∧z.length=7
 o3:S.ob b3=.ce c 0
 n1:S0.n≤b1
 n3:S0.n≤b3
 ne:b1≠b3
 re:∃Q,RE S Q c e∧∀b,Q b→S0.n≤b∧b<S.n∧b≠b1∧b≠b3
section
variable {S0 S':LS}{H0:AH}{i0 d0 b1 b3:Nat}{c:List AV}{e:aE}
theorem iK.keep(h:iK C S0 S b1 b3 c e)(hM:Mem H S)(hbp:C.bp<S0.n)(g:aD (bL C) S S'):iK C S0 S' b1 b3 c e:=by
 have ne1:¬bL C b1:=λq=>by have q:b1=C.bp:=q;have:=h.n1;omega
 have ne3:¬bL C b3:=λq=>by have q:b3=C.bp:=q;have:=h.n3;omega
 obtain⟨z,hz,Db⟩:=h.o1;obtain⟨Q,h1,h2⟩:=h.re;exact⟨h.x.trans g,⟨z,g.ob hM hz ne1,Db⟩,g.ob hM h.o3 ne3,h.n1,h.n3,h.ne,Q,h1.go (λb hb=>g.2 b (h2 b hb).2.1 λq=>by have q:b=C.bp:=q;have:=(h2 b hb).1;omega) (λ_ h=>h),λb hb=>⟨(h2 b hb).1,Nat.lt_of_lt_of_le (h2 b hb).2.1 g.1,(h2 b hb).2.2⟩⟩
theorem iK.lU{c':List AV}{e':aE}(h:iK C S0 S b1 b3 c e){Q:Nat→Prop}(hr:RE S Q c' e')(hQ:∀b,Q b→S0.n≤b∧b<S.n∧b≠b1∧b≠b3):iK C S0 (S.set b3 (.ce c' 0)) b1 b3 c' e':=by
 obtain⟨z,hz,Db⟩:=h.o1;exact⟨h.x.set (.inr h.n3) _,⟨z,(LS.aq _ _ h.ne).trans hz,Db⟩,LS.ay _ _ _,h.n1,h.n3,h.ne,Q,hr.go (λb hb=>LS.aq _ _ (hQ b hb).2.2.2) (λ_ h=>h),hQ⟩
theorem iK.len(h:iK C S0 S b1 b3 c e):c.length=7:=by obtain⟨Q,h1,_⟩:=h.re;exact h1.len
theorem iK.fin(h:iK C S0 S b1 b3 c e)(hM:Mem H S)(hM0:Mem H0 S0)(hp0:bH C S0 i0 d0)(hp:bH C S i d)(hP:∀H' S' v,Mem H' S'→aD (bL C) S0 S'→bH C S' i d→kE S' (eI S0.n S'.n) v e→K (.ret v) H') :
  aQ 7 (.ptr b3 0) H λv1=>ag 7 (.ptr b1 0) v1 H λH2=>aQ 7 (.ptr b1 0) H2 λv3=>K (.ret v3) H2:=by
 obtain⟨z,hz,Db⟩:=h.o1;obtain⟨Q,h1,h2⟩:=h.re;refine agP hM h.o3 h1.len h1.ones hz Db λH' m=>?_;exact hP H' _ _ m (h.x.set (.inr h.n1) _) (hp.iw hp0 hM0 h.n1 _) ⟨c,rfl,h1.go (λb hb=>LS.aq _ _ (h2 b hb).2.2.1) λb hb=>⟨(h2 b hb).1,(h2 b hb).2.1⟩⟩
theorem iK.two{kind op at_:Nat}{cb:List AV}{x:aE}{S1:LS}{H1:AH}(h:iK C S0 S b1 b3 c e)(hM:Mem H S)(hbp:C.bp<S0.n)(hs1:b1<S1.n∧b3<S1.n∧S0.n≤S1.n)(hr:RE S (eI S1.n S.n) cb x)
  {k:AV→AH→Prop}(hk:∀H' S' c',Mem H' S'→aD cB S S'→iK C S0 S' b1 b3 c e→RE S' (λb=>S0.n≤b∧b<S'.n∧b≠b1∧b≠b3) c' (dU kind op at_ e x)→k (.agg c') H') :
  f164 (kind:Int) (op:Int) (at_:Int) (.agg c) (.agg cb) H λo H=>cR K o H λv=>k v H:=by
 obtain⟨Q,h1,h2⟩:=h.re;refine ahO (Q:=λb=>S0.n≤b∧b<S.n∧b≠b1∧b≠b3) hM (λb hb=>hb.2.1) (h1.go (λ_ _=>rfl) h2) (hr.go (λ_ _=>rfl) λb hb=>⟨by have:=hb.1;omega,hb.2,by have:=hb.1;omega,by have:=hb.1;omega⟩) λH' S' c' m' g' r'=>?_;rw[aA];have hn1:b1<S.n:=by obtain⟨z,hz,_⟩:=h.o1;exact hM.lt (by rw[hz];simp)
 have hn3:b3<S.n:=hM.lt (by rw[h.o3];simp);refine hk H' S' c' m' g' (h.keep hM hbp g'.no) (r'.go (λ_ _=>rfl) λb hb=>?_);rcases hb with hb|hb
 ·exact⟨hb.1,Nat.lt_of_lt_of_le hb.2.1 g'.1,hb.2.2⟩
 ·exact⟨Nat.le_trans h.x.1 hb.1,hb.2,by omega,by omega⟩
theorem iT{T:List Tok}{i:Nat}{k:Int→Prop}(h:k (aW T i:Int)):fQ (.agg (eW T i)) λl12=>cP l12 3 λv13=>cI 0 v13 k:=by
 rw[yo];unfold eW;simp only[ga,fH,aR];exact h
end
theorem aiY{m n:Nat}(hpv:C.pv=.iface 57 (.agg []))(O:gL C m n){S0:LS}{H0:AH}{i0 b1 b3:Nat}(hd:d≤200)(hM0:Mem H0 S0)(hp0:bH C S0 i0 d):∀k,k≤n+1→∀(q i:Nat) (e:aE) (c:List AV) (H:AH) (S:LS),k≤q→Mem H S→bH C S i d→iK C S0 S b1 b3 c e→Post C (bL C) d kE K S0 (df C.T k e i d)→
  rm (gx (s13 m)) K q (.ptr C.bp 0) (.ptr b1 0) (.ptr b3 0) (aW C.T i:Int) H:=by
 intro k
 induction k with
 |zero=>intro _ q i e c H S _ _ _ _ hP;simp only[df]at hP;exact False.elim hP
 |succ k ih=>
  intro hk q i e c H S hq hM hp hF hP;obtain⟨q,rfl⟩:∃p,q=p+1:=⟨q-1,by omega⟩
  show yx (gx (s13 m)) K (rm (gx (s13 m)) K q) (uM (gx (s13 m)) K) (.ptr C.bp 0) (.ptr b1 0) (.ptr b3 0) (aW C.T i:Int) H;unfold yx;have rt:(gx (s13 m)).1=f23:=rfl;have ra:(gx (s13 m)).2.1=f56:=rfl;have rb:(gx (s13 m)).2.2.1=(s13 m).2.2.2.2.2.2.2.2.2.2.1:=rfl;have Dc:(gx (s13 m)).2.2.2=f164:=rfl;rw[rt,ra,rb,Dc];have hbp:=hp0.eJ hM0;simp only[df]at hP;refine dz (s:=[111,114]) (aZ (by decide)) hM hp λH1 S1 m1 c1 p1=>?_;simp only[aA,bo];have F1:=hF.keep hM hbp c1;cases hi:isA C.T [111,114] i with
  |false=>
   rw[hi]at p1 hP;rw[aV];show uM (gx (s13 m)) K (.ptr b1 0) (.ptr b3 0) H1;unfold uM;exact F1.fin m1 hM0 hp0 p1 hP
  |true=>
   rw[hi]at p1 hP;rw[aU];have hlt:=cX C.ok hi;have hb1:b1<S1.n:=by obtain⟨z,hz,_⟩:=F1.o1;exact m1.lt (by rw[hz];simp)
   have hb3:b3<S1.n:=m1.lt (by rw[F1.o3];simp);refine fl m1 F1.o3 F1.len ?_;refine O.both k (by omega) hd m1 p1 (Post.call hP F1.x (λ_ h=>h) λx j H2 S2 v m2 c2 p2 ⟨cb,hv,hR⟩ hP2=>?_);subst hv;have F2:=F1.keep m1 hbp c2;refine fl m2 F2.o3 F2.len ?_;refine cv (by obtain⟨Q,h1,_⟩:=F2.re;exact h1.same) ?_;refine F2.two (kind:=16) (op:=0) (S1:=S1) (H1:=H1) m2 hbp ⟨hb1,hb3,F1.x.1⟩ hR λH3 S3 c' m3 c3 F3 r3=>?_;refine hV m3 F3.o3 F3.len r3.len r3.ones λH4 m4=>?_;have F4:=F3.lU r3 λb hb=>hb;have p4:=(p2.no m2 c3).iw hp0 hM0 hF.n3 (.ce c' 0);refine iY m4 p4 λH5 S5 m5 c5 p5=>?_;rw[aA];refine iT ?_;exact ih (by omega) q j _ _ H5 S5 (by omega) m5 p5 (F4.keep m4 hbp c5.no) hP2
theorem aiZ{m n:Nat}(hn:n≤900000)(hpv:C.pv=.iface 57 (.agg []))(O:gL C m n):∀k,k≤n+1→nO C (s13 (m+1)).2.2.2.2.2.2.2.2.1 (dx C.T k):=by
 intro k hk K H S i d hd hM hp hP;cases k with
 |zero=>simp only[dx]at hP;exact False.elim hP
 |succ k=>
  have rt:(gx (s13 m)).1=f23:=rfl;have rb:(gx (s13 m)).2.2.1=(s13 m).2.2.2.2.2.2.2.2.2.2.1:=rfl;show yy (gx (s13 m)) K (rm (gx (s13 m)) K G.NL) (.ptr C.bp 0) H;unfold yy;rw[rt,rb,gO];simp only[dx]at hP;have hbp:=hp.eJ hM;refine cn (b9 hM dm λH1 m1=>?_);have c1:aD cB S (S.push (.ce z7 0)):=(aD.refl _ _).push _;have p1:=hp.no hM c1;refine O.both k (by omega) hd m1 p1 (Post.call hP c1.no (λ_ h=>h) λe j H2 S2 v m2 c2 p2 ⟨c,hv,hR⟩ hP2=>?_);subst hv;simp only[gO];refine cn (b9 m2 dm λH3 m3=>?_);refine hV m3 (LS.ak _ _) rfl hR.len hR.ones λH4 m4=>?_;have n12:S.n+1≤S2.n:=c2.1;have pH:=c2.ob m1 (LS.ak S (.ce z7 0)) (λq=>by have q:S.n=C.bp:=q;omega);have c4:aD cB S2 ((S2.push (.ce z7 0)).set S2.n (.ce c 0)):=((aD.refl _ _).push _).set (.inr (Nat.le_refl _)) _;have F4:iK C S ((S2.push (.ce z7 0)).set S2.n (.ce c 0)) S.n S2.n c e:=⟨(c1.no.trans c2).trans c4.no,⟨z7,c4.ob m2 pH (λq=>q),rfl⟩,LS.ay _ _ _,Nat.le_refl _,by omega,by omega,eI (S.n+1) S2.n,hR.go (λb hb=>c4.2 b hb.2 λq=>q) (λ_ h=>h),λb hb=>⟨by have:=hb.1;omega,Nat.lt_of_lt_of_le hb.2 c4.1,by have:=hb.1;omega,by have:=hb.2;omega⟩⟩
  refine iY m4 (p2.no m2 c4) λH5 S5 m5 c5 p5=>?_;rw[aA];refine iT ?_;have gv:G.NL=1000000:=rfl;exact aiY hpv O hd hM hp k (by omega) G.NL j e c H5 S5 (by omega) m5 p5 (F4.keep m4 hbp c5.no) hP2
theorem ai0{m n:Nat}(hpv:C.pv=.iface 57 (.agg []))(O:gL C m n){S0:LS}{H0:AH}{i0 b1 b3:Nat}(hd:d≤200)(hM0:Mem H0 S0)(hp0:bH C S0 i0 d):∀k,k≤n+1→∀(q i:Nat) (e:aE) (c:List AV) (H:AH) (S:LS),k≤q→Mem H S→bH C S i d→iK C S0 S b1 b3 c e→Post C (bL C) d kE K S0 (eF C.T k e i d)→
  rn (gy (s13 m)) K q (.ptr C.bp 0) (.ptr b1 0) (.ptr b3 0) (aW C.T i:Int) H:=by
 intro k
 induction k with
 |zero=>intro _ q i e c H S _ _ _ _ hP;simp only[eF]at hP;exact False.elim hP
 |succ k ih=>
  intro hk q i e c H S hq hM hp hF hP;obtain⟨q,rfl⟩:∃p,q=p+1:=⟨q-1,by omega⟩
  show yC (gy (s13 m)) K (rn (gy (s13 m)) K q) (uN (gy (s13 m)) K) (.ptr C.bp 0) (.ptr b1 0) (.ptr b3 0) (aW C.T i:Int) H;unfold yC;have rt:(gy (s13 m)).1=f23:=rfl;have ra:(gy (s13 m)).2.1=f56:=rfl;have rb:(gy (s13 m)).2.2.2=(s13 m).2.2.2.2.2.2.2.2.2.2.2.2.2.1:=rfl;have Dc:(gy (s13 m)).2.2.1=f164:=rfl;rw[rt,ra,rb,Dc];have hbp:=hp0.eJ hM0;simp only[eF]at hP;refine dz (s:=[97,110,100]) (aZ (by decide)) hM hp λH1 S1 m1 c1 p1=>?_;simp only[aA,bo];have F1:=hF.keep hM hbp c1;cases hi:isA C.T [97,110,100] i with
  |false=>
   rw[hi]at p1 hP;rw[aV];show uN (gy (s13 m)) K (.ptr b1 0) (.ptr b3 0) H1;unfold uN;exact F1.fin m1 hM0 hp0 p1 hP
  |true=>
   rw[hi]at p1 hP;rw[aU];have hlt:=cX C.ok hi;have hb1:b1<S1.n:=by obtain⟨z,hz,_⟩:=F1.o1;exact m1.lt (by rw[hz];simp)
   have hb3:b3<S1.n:=m1.lt (by rw[F1.o3];simp);refine fl m1 F1.o3 F1.len ?_;refine O.test k (by omega) hd m1 p1 (Post.call hP F1.x (λ_ h=>h) λx j H2 S2 v m2 c2 p2 ⟨cb,hv,hR⟩ hP2=>?_);subst hv;have F2:=F1.keep m1 hbp c2;refine fl m2 F2.o3 F2.len ?_;refine cv (by obtain⟨Q,h1,_⟩:=F2.re;exact h1.same) ?_;refine F2.two (kind:=15) (op:=0) (S1:=S1) (H1:=H1) m2 hbp ⟨hb1,hb3,F1.x.1⟩ hR λH3 S3 c' m3 c3 F3 r3=>?_;refine hV m3 F3.o3 F3.len r3.len r3.ones λH4 m4=>?_;have F4:=F3.lU r3 λb hb=>hb;have p4:=(p2.no m2 c3).iw hp0 hM0 hF.n3 (.ce c' 0);refine iY m4 p4 λH5 S5 m5 c5 p5=>?_;rw[aA];refine iT ?_;exact ih (by omega) q j _ _ H5 S5 (by omega) m5 p5 (F4.keep m4 hbp c5.no) hP2
theorem ai1{m n:Nat}(hn:n≤900000)(hpv:C.pv=.iface 57 (.agg []))(O:gL C m n):∀k,k≤n+1→nO C (s13 (m+1)).2.2.2.2.2.2.2.2.2.2.1 (fu C.T k):=by
 intro k hk K H S i d hd hM hp hP;cases k with
 |zero=>simp only[fu]at hP;exact False.elim hP
 |succ k=>
  have rt:(gy (s13 m)).1=f23:=rfl;have rb:(gy (s13 m)).2.2.2=(s13 m).2.2.2.2.2.2.2.2.2.2.2.2.2.1:=rfl;show yD (gy (s13 m)) K (rn (gy (s13 m)) K G.NL) (.ptr C.bp 0) H;unfold yD;rw[rt,rb,gO];simp only[fu]at hP;have hbp:=hp.eJ hM;refine cn (b9 hM dm λH1 m1=>?_);have c1:aD cB S (S.push (.ce z7 0)):=(aD.refl _ _).push _;have p1:=hp.no hM c1;refine O.test k (by omega) hd m1 p1 (Post.call hP c1.no (λ_ h=>h) λe j H2 S2 v m2 c2 p2 ⟨c,hv,hR⟩ hP2=>?_);subst hv;simp only[gO];refine cn (b9 m2 dm λH3 m3=>?_);refine hV m3 (LS.ak _ _) rfl hR.len hR.ones λH4 m4=>?_;have n12:S.n+1≤S2.n:=c2.1;have pH:=c2.ob m1 (LS.ak S (.ce z7 0)) (λq=>by have q:S.n=C.bp:=q;omega);have c4:aD cB S2 ((S2.push (.ce z7 0)).set S2.n (.ce c 0)):=((aD.refl _ _).push _).set (.inr (Nat.le_refl _)) _;have F4:iK C S ((S2.push (.ce z7 0)).set S2.n (.ce c 0)) S.n S2.n c e:=⟨(c1.no.trans c2).trans c4.no,⟨z7,c4.ob m2 pH (λq=>q),rfl⟩,LS.ay _ _ _,Nat.le_refl _,by omega,by omega,eI (S.n+1) S2.n,hR.go (λb hb=>c4.2 b hb.2 λq=>q) (λ_ h=>h),λb hb=>⟨by have:=hb.1;omega,Nat.lt_of_lt_of_le hb.2 c4.1,by have:=hb.1;omega,by have:=hb.2;omega⟩⟩
  refine iY m4 (p2.no m2 c4) λH5 S5 m5 c5 p5=>?_;rw[aA];refine iT ?_;have gv:G.NL=1000000:=rfl;exact ai0 hpv O hd hM hp k (by omega) G.NL j e c H5 S5 (by omega) m5 p5 (F4.keep m4 hbp c5.no) hP2
theorem ai2{m n:Nat}(hpv:C.pv=.iface 57 (.agg []))(O:gL C m n){S0:LS}{H0:AH}{i0 b1 b3:Nat}(hd:d≤200)(hM0:Mem H0 S0)(hp0:bH C S0 i0 d):∀k,k≤n+1→∀(q i:Nat) (e:aE) (c:List AV) (H:AH) (S:LS),k≤q→Mem H S→bH C S i d→iK C S0 S b1 b3 c e→Post C (bL C) d kE K S0 (eG C.T k e i d)→
  rr (iP (s13 m)) K q (.ptr C.bp 0) (.ptr b1 0) (.ptr b3 0) H:=by
 intro k
 induction k with
 |zero=>intro _ q i e c H S _ _ _ _ hP;simp only[eG]at hP;exact False.elim hP
 |succ k ih=>
  intro hk q i e c H S hq hM hp hF hP;obtain⟨q,rfl⟩:∃p,q=p+1:=⟨q-1,by omega⟩
  show yF (iP (s13 m)) K (rr (iP (s13 m)) K q) (.ptr C.bp 0) (.ptr b1 0) (.ptr b3 0) H;unfold yF;have rt:(iP (s13 m)).1=f23:=rfl;have ro:(iP (s13 m)).2.2.2=f193:=rfl;have rb:(iP (s13 m)).2.2.1=(s13 m).2.2.2.2.2.2.2.2.2.2.2.2.2.2.2.1:=rfl;have Dc:(iP (s13 m)).2.1=f164:=rfl;rw[rt,ro,rb,Dc];have hbp:=hp0.eJ hM0;simp only[eG]at hP;refine iY hM hp λH1 S1 m1 c1 p1=>?_;rw[aA];refine iT ?_;have F1:=hF.keep hM hbp c1.no;rw[show([.str 2 15677,.str 2 15742,.str 1 60,.str 2 15676,.str 1 62,.str 2 15678]:List AV)=tests.map al from rfl];refine dP m1 rfl (λa ha=>?_) λH2 m2=>?_
  ·obtain⟨x,_,rfl⟩:=List.mem_map.1 ha;rfl
  have c2:aD cB S1 (S1.push (.ce (tests.map al) 0)):=(aD.refl _ _).push _;have p2:=p1.no m1 c2;have F2:=F1.keep m1 hbp c2.no;have hv:cJ (S1.push (.ce (tests.map al) 0)) (λb=>b=S1.n) 1 (.slice S1.n 0 6 6 1 true) tests.length (λj=>[al (tests[j]?.getD [])]):=cJ.names (l:=tests) rfl (LS.ak _ _);refine aaU (f:=7) (l:=tests) (by omega) (by omega) (by decide) (λs hs=>aZ ((by decide:∀m∈tests,(m.all λc=>Nat.blt c 256)=true) s hs)) (Q:=λb=>b=S1.n) (λq=>by have:=p1.eJ m1;omega) hv m2 p2 λH3 S3 m3 c3 p3=>?_;simp only[aA,aR,cV];have F3:=F2.keep m2 hbp c3;have e0:Int.ofNat 0=((0:Nat):Int):=rfl;rw[e0];by_cases ho:iI C.T i 7 tests=0
  ·rw[if_pos ho]at hP p3;rw[decide_eq_true (by omega),aU];exact F3.fin m3 hM0 hp0 p3 hP
  ·rw[if_neg ho]at hP p3;rw[decide_eq_false (by omega),aV];have hb1:b1<S3.n:=by obtain⟨z,hz,_⟩:=F3.o1;exact m3.lt (by rw[hz];simp)
   have hb3:b3<S3.n:=m3.lt (by rw[F3.o3];simp);refine fl m3 F3.o3 F3.len ?_;refine O.join k (by omega) hd m3 p3 (Post.call hP F3.x (λ_ h=>h) λx j H4 S4 v m4 c4 p4 ⟨cb,hv,hR⟩ hP2=>?_);subst hv;have F4:=F3.keep m3 hbp c4;refine fl m4 F4.o3 F4.len ?_;refine cv (by obtain⟨Q,h1,_⟩:=F4.re;exact h1.same) ?_;refine F4.two (kind:=14) (op:=iI C.T i 7 tests) (S1:=S3) (H1:=H3) m4 hbp ⟨hb1,hb3,F3.x.1⟩ hR λH5 S5 c' m5 c5 F5 r5=>?_;refine hV m5 F5.o3 F5.len r5.len r5.ones λH6 m6=>?_;have F6:=F5.lU r5 λb hb=>hb;have p6:=(p4.no m4 c5).iw hp0 hM0 hF.n3 (.ce c' 0);exact ih (by omega) q j _ _ H6 _ (by omega) m6 p6 F6 hP2
theorem ai3{m n:Nat}(hn:n≤900000)(hpv:C.pv=.iface 57 (.agg []))(O:gL C m n):∀k,k≤n+1→nO C (s13 (m+1)).2.2.2.2.2.2.2.2.2.2.2.2.2.1 (fw C.T k):=by
 intro k hk K H S i d hd hM hp hP;cases k with
 |zero=>simp only[fw]at hP;exact False.elim hP
 |succ k=>
  have rb:(iP (s13 m)).2.2.1=(s13 m).2.2.2.2.2.2.2.2.2.2.2.2.2.2.2.1:=rfl;show yG (iP (s13 m)) K (rr (iP (s13 m)) K G.NL) (.ptr C.bp 0) H;unfold yG;rw[rb,gO];simp only[fw]at hP;have hbp:=hp.eJ hM;refine cn (b9 hM dm λH1 m1=>?_);have c1:aD cB S (S.push (.ce z7 0)):=(aD.refl _ _).push _;have p1:=hp.no hM c1;refine O.join k (by omega) hd m1 p1 (Post.call hP c1.no (λ_ h=>h) λe j H2 S2 v m2 c2 p2 ⟨c,hv,hR⟩ hP2=>?_);subst hv;simp only[gO];refine cn (b9 m2 dm λH3 m3=>?_);refine hV m3 (LS.ak _ _) rfl hR.len hR.ones λH4 m4=>?_;have n12:S.n+1≤S2.n:=c2.1;have pH:=c2.ob m1 (LS.ak S (.ce z7 0)) (λq=>by have q:S.n=C.bp:=q;omega);have c4:aD cB S2 ((S2.push (.ce z7 0)).set S2.n (.ce c 0)):=((aD.refl _ _).push _).set (.inr (Nat.le_refl _)) _;have F4:iK C S ((S2.push (.ce z7 0)).set S2.n (.ce c 0)) S.n S2.n c e:=⟨(c1.no.trans c2).trans c4.no,⟨z7,c4.ob m2 pH (λq=>q),rfl⟩,LS.ay _ _ _,Nat.le_refl _,by omega,by omega,eI (S.n+1) S2.n,hR.go (λb hb=>c4.2 b hb.2 λq=>q) (λ_ h=>h),λb hb=>⟨by have:=hb.1;omega,Nat.lt_of_lt_of_le hb.2 c4.1,by have:=hb.1;omega,by have:=hb.2;omega⟩⟩
  have gv:G.NL=1000000:=rfl;exact ai2 hpv O hd hM hp k (by omega) G.NL j e c H4 _ (by omega) m4 (p2.no m2 c4) F4 hP2
theorem l199{m n:Nat}(hpv:C.pv=.iface 57 (.agg []))(O:gL C m n){S0:LS}{H0:AH}{i0 b1 b3:Nat}(hd:d≤200)(hM0:Mem H0 S0)(hp0:bH C S0 i0 d):∀k,k≤n+1→∀(q i:Nat) (e:aE) (c:List AV) (H:AH) (S:LS),k≤q→Mem H S→bH C S i d→iK C S0 S b1 b3 c e→Post C (bL C) d kE K S0 (fT C.T k e i d)→
  ry (iQ (s13 m)) K q (.ptr C.bp 0) (.ptr b1 0) (.ptr b3 0) H:=by
 intro k
 induction k with
 |zero=>intro _ q i e c H S _ _ _ _ hP;simp only[fT]at hP;exact False.elim hP
 |succ k ih=>
  intro hk q i e c H S hq hM hp hF hP;obtain⟨q,rfl⟩:∃p,q=p+1:=⟨q-1,by omega⟩
  show yM (iQ (s13 m)) K (ry (iQ (s13 m)) K q) (.ptr C.bp 0) (.ptr b1 0) (.ptr b3 0) H;unfold yM;have rt:(iQ (s13 m)).1=f23:=rfl;have ro:(iQ (s13 m)).2.2.1=f193:=rfl;have rb:(iQ (s13 m)).2.2.2=(s13 m).2.2.2.2.2.2.2.2.2.2.2.2.2.2.2.2.2.2.1:=rfl;have Dc:(iQ (s13 m)).2.1=f164:=rfl;rw[rt,ro,rb,Dc];have hbp:=hp0.eJ hM0;simp only[fT]at hP;refine iY hM hp λH1 S1 m1 c1 p1=>?_;rw[aA];refine iT ?_;have F1:=hF.keep hM hbp c1.no;rw[show([.str 1 43,.str 1 45]:List AV)=sums.map al from rfl];refine dP m1 rfl (λa ha=>?_) λH2 m2=>?_
  ·obtain⟨x,_,rfl⟩:=List.mem_map.1 ha;rfl
  have c2:aD cB S1 (S1.push (.ce (sums.map al) 0)):=(aD.refl _ _).push _;have p2:=p1.no m1 c2;have F2:=F1.keep m1 hbp c2.no;have hv:cJ (S1.push (.ce (sums.map al) 0)) (λb=>b=S1.n) 1 (.slice S1.n 0 2 2 1 true) sums.length (λj=>[al (sums[j]?.getD [])]):=cJ.names (l:=sums) rfl (LS.ak _ _);refine aaU (f:=1) (l:=sums) (by omega) (by omega) (by decide) (λs hs=>aZ ((by decide:∀m∈sums,(m.all λc=>Nat.blt c 256)=true) s hs)) (Q:=λb=>b=S1.n) (λq=>by have:=p1.eJ m1;omega) hv m2 p2 λH3 S3 m3 c3 p3=>?_;simp only[aA,aR,cV];have F3:=F2.keep m2 hbp c3;have e0:Int.ofNat 0=((0:Nat):Int):=rfl;rw[e0];by_cases ho:iI C.T i 1 sums=0
  ·rw[if_pos ho]at hP p3;rw[decide_eq_true (by omega),aU];exact F3.fin m3 hM0 hp0 p3 hP
  ·rw[if_neg ho]at hP p3;rw[decide_eq_false (by omega),aV];have hb1:b1<S3.n:=by obtain⟨z,hz,_⟩:=F3.o1;exact m3.lt (by rw[hz];simp)
   have hb3:b3<S3.n:=m3.lt (by rw[F3.o3];simp);refine fl m3 F3.o3 F3.len ?_;refine O.term k (by omega) hd m3 p3 (Post.call hP F3.x (λ_ h=>h) λx j H4 S4 v m4 c4 p4 ⟨cb,hv,hR⟩ hP2=>?_);subst hv;have F4:=F3.keep m3 hbp c4;refine fl m4 F4.o3 F4.len ?_;refine cv (by obtain⟨Q,h1,_⟩:=F4.re;exact h1.same) ?_;refine F4.two (kind:=14) (op:=iI C.T i 1 sums) (S1:=S3) (H1:=H3) m4 hbp ⟨hb1,hb3,F3.x.1⟩ hR λH5 S5 c' m5 c5 F5 r5=>?_;refine hV m5 F5.o3 F5.len r5.len r5.ones λH6 m6=>?_;have F6:=F5.lU r5 λb hb=>hb;have p6:=(p4.no m4 c5).iw hp0 hM0 hF.n3 (.ce c' 0);exact ih (by omega) q j _ _ H6 _ (by omega) m6 p6 F6 hP2
theorem ai4{m n:Nat}(hn:n≤900000)(hpv:C.pv=.iface 57 (.agg []))(O:gL C m n):∀k,k≤n+1→nO C (s13 (m+1)).2.2.2.2.2.2.2.2.2.2.2.2.2.2.2.2.2.1 (ig C.T k):=by
 intro k hk K H S i d hd hM hp hP;cases k with
 |zero=>simp only[ig]at hP;exact False.elim hP
 |succ k=>
  have rb:(iQ (s13 m)).2.2.2=(s13 m).2.2.2.2.2.2.2.2.2.2.2.2.2.2.2.2.2.2.1:=rfl;show yN (iQ (s13 m)) K (ry (iQ (s13 m)) K G.NL) (.ptr C.bp 0) H;unfold yN;rw[rb,gO];simp only[ig]at hP;have hbp:=hp.eJ hM;refine cn (b9 hM dm λH1 m1=>?_);have c1:aD cB S (S.push (.ce z7 0)):=(aD.refl _ _).push _;have p1:=hp.no hM c1;refine O.term k (by omega) hd m1 p1 (Post.call hP c1.no (λ_ h=>h) λe j H2 S2 v m2 c2 p2 ⟨c,hv,hR⟩ hP2=>?_);subst hv;simp only[gO];refine cn (b9 m2 dm λH3 m3=>?_);refine hV m3 (LS.ak _ _) rfl hR.len hR.ones λH4 m4=>?_;have n12:S.n+1≤S2.n:=c2.1;have pH:=c2.ob m1 (LS.ak S (.ce z7 0)) (λq=>by have q:S.n=C.bp:=q;omega);have c4:aD cB S2 ((S2.push (.ce z7 0)).set S2.n (.ce c 0)):=((aD.refl _ _).push _).set (.inr (Nat.le_refl _)) _;have F4:iK C S ((S2.push (.ce z7 0)).set S2.n (.ce c 0)) S.n S2.n c e:=⟨(c1.no.trans c2).trans c4.no,⟨z7,c4.ob m2 pH (λq=>q),rfl⟩,LS.ay _ _ _,Nat.le_refl _,by omega,by omega,eI (S.n+1) S2.n,hR.go (λb hb=>c4.2 b hb.2 λq=>q) (λ_ h=>h),λb hb=>⟨by have:=hb.1;omega,Nat.lt_of_lt_of_le hb.2 c4.1,by have:=hb.1;omega,by have:=hb.2;omega⟩⟩
  have gv:G.NL=1000000:=rfl;exact l199 hpv O hd hM hp k (by omega) G.NL j e c H4 _ (by omega) m4 (p2.no m2 c4) F4 hP2
theorem ai5{m n:Nat}(hpv:C.pv=.iface 57 (.agg []))(O:gL C m n){S0:LS}{H0:AH}{i0 b1 b3:Nat}(hd:d≤200)(hM0:Mem H0 S0)(hp0:bH C S0 i0 d):∀k,k≤n+1→∀(q i:Nat) (e:aE) (c:List AV) (H:AH) (S:LS),k≤q→Mem H S→bH C S i d→iK C S0 S b1 b3 c e→Post C (bL C) d kE K S0 (eH C.T k e i d)→
  rz (iR (s13 m)) K q (.ptr C.bp 0) (.ptr b1 0) (.ptr b3 0) H:=by
 intro k
 induction k with
 |zero=>intro _ q i e c H S _ _ _ _ hP;simp only[eH]at hP;exact False.elim hP
 |succ k ih=>
  intro hk q i e c H S hq hM hp hF hP;obtain⟨q,rfl⟩:∃p,q=p+1:=⟨q-1,by omega⟩
  show yO (iR (s13 m)) K (rz (iR (s13 m)) K q) (.ptr C.bp 0) (.ptr b1 0) (.ptr b3 0) H;unfold yO;have rt:(iR (s13 m)).1=f23:=rfl;have ro:(iR (s13 m)).2.2.1=f193:=rfl;have rb:(iR (s13 m)).2.2.2=(s13 m).2.2.2.2.2.2.2.2.2.2.2.2.2.2.2.2.2.2.2:=rfl;have Dc:(iR (s13 m)).2.1=f164:=rfl;rw[rt,ro,rb,Dc];have hbp:=hp0.eJ hM0;simp only[eH]at hP;refine iY hM hp λH1 S1 m1 c1 p1=>?_;rw[aA];refine iT ?_;have F1:=hF.keep hM hbp c1.no;rw[show([.str 1 42,.str 2 12079,.str 1 37]:List AV)=terms.map al from rfl];refine dP m1 rfl (λa ha=>?_) λH2 m2=>?_
  ·obtain⟨x,_,rfl⟩:=List.mem_map.1 ha;rfl
  have c2:aD cB S1 (S1.push (.ce (terms.map al) 0)):=(aD.refl _ _).push _;have p2:=p1.no m1 c2;have F2:=F1.keep m1 hbp c2.no;have hv:cJ (S1.push (.ce (terms.map al) 0)) (λb=>b=S1.n) 1 (.slice S1.n 0 3 3 1 true) terms.length (λj=>[al (terms[j]?.getD [])]):=cJ.names (l:=terms) rfl (LS.ak _ _);refine aaU (f:=3) (l:=terms) (by omega) (by omega) (by decide) (λs hs=>aZ ((by decide:∀m∈terms,(m.all λc=>Nat.blt c 256)=true) s hs)) (Q:=λb=>b=S1.n) (λq=>by have:=p1.eJ m1;omega) hv m2 p2 λH3 S3 m3 c3 p3=>?_;simp only[aA,aR,cV];have F3:=F2.keep m2 hbp c3;have e0:Int.ofNat 0=((0:Nat):Int):=rfl;rw[e0];by_cases ho:iI C.T i 3 terms=0
  ·rw[if_pos ho]at hP p3;rw[decide_eq_true (by omega),aU];exact F3.fin m3 hM0 hp0 p3 hP
  ·rw[if_neg ho]at hP p3;rw[decide_eq_false (by omega),aV];have hb1:b1<S3.n:=by obtain⟨z,hz,_⟩:=F3.o1;exact m3.lt (by rw[hz];simp)
   have hb3:b3<S3.n:=m3.lt (by rw[F3.o3];simp);refine fl m3 F3.o3 F3.len ?_;refine O.unary k (by omega) hd m3 p3 (Post.call hP F3.x (λ_ h=>h) λx j H4 S4 v m4 c4 p4 ⟨cb,hv,hR⟩ hP2=>?_);subst hv;have F4:=F3.keep m3 hbp c4;refine fl m4 F4.o3 F4.len ?_;refine cv (by obtain⟨Q,h1,_⟩:=F4.re;exact h1.same) ?_;refine F4.two (kind:=14) (op:=iI C.T i 3 terms) (S1:=S3) (H1:=H3) m4 hbp ⟨hb1,hb3,F3.x.1⟩ hR λH5 S5 c' m5 c5 F5 r5=>?_;refine hV m5 F5.o3 F5.len r5.len r5.ones λH6 m6=>?_;have F6:=F5.lU r5 λb hb=>hb;have p6:=(p4.no m4 c5).iw hp0 hM0 hF.n3 (.ce c' 0);exact ih (by omega) q j _ _ H6 _ (by omega) m6 p6 F6 hP2
theorem ai6{m n:Nat}(hn:n≤900000)(hpv:C.pv=.iface 57 (.agg []))(O:gL C m n):∀k,k≤n+1→nO C (s13 (m+1)).2.2.2.2.2.2.2.2.2.2.2.2.2.2.2.2.2.2.1 (fx C.T k):=by
 intro k hk K H S i d hd hM hp hP;cases k with
 |zero=>simp only[fx]at hP;exact False.elim hP
 |succ k=>
  have rb:(iR (s13 m)).2.2.2=(s13 m).2.2.2.2.2.2.2.2.2.2.2.2.2.2.2.2.2.2.2:=rfl;show yP (iR (s13 m)) K (rz (iR (s13 m)) K G.NL) (.ptr C.bp 0) H;unfold yP;rw[rb,gO];simp only[fx]at hP;have hbp:=hp.eJ hM;refine cn (b9 hM dm λH1 m1=>?_);have c1:aD cB S (S.push (.ce z7 0)):=(aD.refl _ _).push _;have p1:=hp.no hM c1;refine O.unary k (by omega) hd m1 p1 (Post.call hP c1.no (λ_ h=>h) λe j H2 S2 v m2 c2 p2 ⟨c,hv,hR⟩ hP2=>?_);subst hv;simp only[gO];refine cn (b9 m2 dm λH3 m3=>?_);refine hV m3 (LS.ak _ _) rfl hR.len hR.ones λH4 m4=>?_;have n12:S.n+1≤S2.n:=c2.1;have pH:=c2.ob m1 (LS.ak S (.ce z7 0)) (λq=>by have q:S.n=C.bp:=q;omega);have c4:aD cB S2 ((S2.push (.ce z7 0)).set S2.n (.ce c 0)):=((aD.refl _ _).push _).set (.inr (Nat.le_refl _)) _;have F4:iK C S ((S2.push (.ce z7 0)).set S2.n (.ce c 0)) S.n S2.n c e:=⟨(c1.no.trans c2).trans c4.no,⟨z7,c4.ob m2 pH (λq=>q),rfl⟩,LS.ay _ _ _,Nat.le_refl _,by omega,by omega,eI (S.n+1) S2.n,hR.go (λb hb=>c4.2 b hb.2 λq=>q) (λ_ h=>h),λb hb=>⟨by have:=hb.1;omega,Nat.lt_of_lt_of_le hb.2 c4.1,by have:=hb.1;omega,by have:=hb.2;omega⟩⟩
  have gv:G.NL=1000000:=rfl;exact ai5 hpv O hd hM hp k (by omega) G.NL j e c H4 _ (by omega) m4 (p2.no m2 c4) F4 hP2
end
section
variable {H:AH}{S:LS}{K:KF}{C:Ctx}{i d:Nat}
theorem cJ.single{Q:Nat→Prop}{b m sz:Nat}{c:List AV}{ex:Bool}(hQ:Q b)(hb:S.ob b=.ce c m)(hc:c.length=sz):cJ S Q sz (.slice b 0 1 1 sz ex) 1 (λ_=>c):=
 .inr ⟨b,0,1,ex,c,m,rfl,hQ,hb,Nat.le_refl _,by omega,λi hi=>by
  have:i=0:=by omega
  subst this;show(c.drop (0+0*sz)).take sz=c;rw[Nat.zero_mul,Nat.add_zero,List.drop_zero,List.take_of_length_le (by omega)]⟩
theorem RE.one{Q:Nat→Prop}{kind at_ op b m:Nat}{ex:Bool}{x:aE}{c:List AV}(hQ:Q b)(hb:S.ob b=.ce c m)(h1:RE S Q c x):RE S Q [.int 0 (kind:Int),.int 0 (at_:Int),.int 0 ((0:Nat):Int),al [],.int 0 (op:Int),.slice b 0 1 1 7 ex,.ab] (.mk kind at_ 0 [] op [x] []):=by
 refine .mk kind at_ 0 [] op [x] [] _ .ab _ (λ_=>[]) B8.nil (cJ.single hQ hb h1.len) (λi e h=>?_) (cJ.nil _ _ _ _) (λi e h=>by simp at h)
 match i,h with
 |0,h=>
  have e1:x=e:=by simpa using h
  subst e1;exact h1
 |i+1,h=>simp at h
theorem iK.mk0{S0 S2:LS}{H2:AH}{c:List AV}{e:aE}{z:List AV}(hbp:C.bp<S0.n)(hz:z.length=7)(h1:aD (bL C) S0 S2)(m2:Mem H2 S2)(hb1:S2.ob S0.n=.ce z 0)(hR:RE S2 (eI (S0.n+1) S2.n) c e):iK C S0 ((S2.push (.ce z7 0)).set S2.n (.ce c 0)) S0.n S2.n c e:=by
 have n12:S0.n<S2.n:=m2.lt (by rw[hb1];simp);have c4:aD cB S2 ((S2.push (.ce z7 0)).set S2.n (.ce c 0)):=((aD.refl _ _).push _).set (.inr (Nat.le_refl _)) _;exact⟨h1.trans c4.no,⟨z,c4.ob m2 hb1 (λq=>q),hz⟩,LS.ay _ _ _,Nat.le_refl _,by omega,by omega,eI (S0.n+1) S2.n,hR.go (λb hb=>c4.2 b hb.2 λq=>q) (λ_ h=>h),λb hb=>⟨by have:=hb.1;omega,Nat.lt_of_lt_of_le hb.2 c4.1,by have:=hb.1;omega,by have:=hb.2;omega⟩⟩
theorem ai7{m n:Nat}(hpv:C.pv=.iface 57 (.agg []))(O:gL C m n):∀k,k≤n+1→nO C (s13 (m+1)).2.2.2.2.2.2.2.2.2.2.2.2.2.2.2.1 (fi C.T k):=by
 intro k hk K H S i d hd hM hp hP;cases k with
 |zero=>simp only[fi]at hP;exact False.elim hP
 |succ k=>
  have ra:(js (s13 m)).1=f23:=rfl;have rb:(js (s13 m)).2.1=f53:=rfl;have rc:(js (s13 m)).2.2.1=f56:=rfl;have rd:(js (s13 m)).2.2.2.1=f164:=rfl;have re:(js (s13 m)).2.2.2.2.1=(s13 m).2.2.2.2.2.2.2.2.2.2.2.2.2.2.2.1:=rfl;have rf:(js (s13 m)).2.2.2.2.2=(s13 m).2.2.2.2.2.2.2.2.2.2.2.2.2.2.2.2.2.1:=rfl;show yK (js (s13 m)) K (uS (js (s13 m)) K) (.ptr C.bp 0) H;unfold yK;rw[ra,rb,rc,rd,re,rf,gO];simp only[fi]at hP;have hbp:=hp.eJ hM;refine cn (b9 hM dm λH1 m1=>?_);have c1:aD cB S (S.push (.ce z7 0)):=(aD.refl _ _).push _;have p1:=hp.no hM c1;refine O.sum k (by omega) hd m1 p1 (Post.call hP c1.no (λ_ h=>h) λe j H2 S2 v m2 c2 p2 ⟨c,hv,hR⟩ hP2=>?_);subst hv;simp only[gO];refine cn (b9 m2 dm λH3 m3=>?_);refine hV m3 (LS.ak _ _) rfl hR.len hR.ones λH4 m4=>?_;have n12:S.n+1≤S2.n:=c2.1;have pH:=c2.ob m1 (LS.ak S (.ce z7 0)) (λq=>by have q:S.n=C.bp:=q;omega);have c4:aD cB S2 ((S2.push (.ce z7 0)).set S2.n (.ce c 0)):=((aD.refl _ _).push _).set (.inr (Nat.le_refl _)) _;have F4:=iK.mk0 (C:=C) hbp rfl (c1.no.trans c2) m2 pH hR;refine iY m4 (p2.no m2 c4) λH5 S5 m5 c5 p5=>?_;rw[aA];refine iT ?_;have F5:=F4.keep m4 hbp c5.no;refine dz (s:=[46,46]) (aZ (by decide)) m5 p5 λH6 S6 m6 c6 p6=>?_;simp only[aA,bo];have F6:=F5.keep m5 hbp c6;cases hi:isA C.T [46,46] j with
  |false=>
   rw[hi]at p6 hP2;simp only[Bool.not_false,aU];exact F6.fin m6 hM hp p6 hP2
  |true=>
   rw[hi]at p6 hP2;simp only[Bool.not_true,aV];simp only[if_true]at hP2 p6;refine So hpv (by omega) m6 p6 (λhg H7 S7 m7 c7 e7=>?_) (λhg H7 S7 m7 c7 p7=>?_)
   ·rw[jJ];rw[if_pos hg]at hP2;exact hP2 H7 S7 m7 (F6.x.trans c7) e7
   ·rw[aA];rw[if_neg hg]at hP2;have F7:=F6.keep m6 hbp c7;have hb1:S.n<S7.n:=by obtain⟨z,hz,_⟩:=F7.o1;exact m7.lt (by rw[hz];simp)
    have hb3:S2.n<S7.n:=m7.lt (by rw[F7.o3];simp);refine fl m7 F7.o3 F7.len ?_;refine O.join k (by omega) (by omega) m7 p7 (Post.call hP2 F7.x (λ_ h=>h) λx l H8 S8 v m8 c8 p8 ⟨cb,hv,hR8⟩ hP3=>?_);subst hv;have F8:=F7.keep m7 hbp c8;refine fl m8 F8.o3 F8.len ?_;refine cv (by obtain⟨Q,h1,_⟩:=F8.re;exact h1.same) ?_;refine F8.two (kind:=14) (op:=6) (S1:=S7) (H1:=H7) m8 hbp ⟨hb1,hb3,F7.x.1⟩ hR8 λH9 S9 c' m9 c9 F9 r9=>?_;refine hV m9 F9.o3 F9.len r9.len r9.ones λHa ma=>?_;have Fa:=F9.lU r9 λb hb=>hb;have pa:=(p8.no m8 c9).iw hp hM F4.n3 (.ce c' 0);show uS (js (s13 m)) K (.ptr C.bp 0) (.ptr S.n 0) (.ptr S2.n 0) Ha;unfold uS;refine Sp (by omega) ma pa λHb Sb mb cb' pb=>?_;exact(Fa.keep ma hbp cb').fin mb hM hp pb hP3
theorem ai8{m n:Nat}(hpv:C.pv=.iface 57 (.agg []))(O:gL C m n):∀k,k≤n+1→nO C (s13 (m+1)).2.2.2.2.2.2.2.2.2.2.2.2.2.2.2.2.2.2.2 (dN C.T k):=by
 intro k hk K H S i d hd hM hp hP;cases k with
 |zero=>simp only[dN]at hP;exact False.elim hP
 |succ k=>
  have ra:(iq (s13 m)).1=f23:=rfl;have rb:(iq (s13 m)).2.1=f53:=rfl;have rc:(iq (s13 m)).2.2.1=f56:=rfl;have rd:(iq (s13 m)).2.2.2.1=(s13 m).2.2.2.2.2.2.2.2.2.1:=rfl;have re:(iq (s13 m)).2.2.2.2=(s13 m).2.2.2.2.2.2.2.2.2.2.2.2.2.2.2.2.2.2.2:=rfl;show yQ (iq (s13 m)) K (uU (iq (s13 m)) K (rA (iq (s13 m)) K)) (.ptr C.bp 0) H;unfold yQ;rw[ra,rc,rd,gO];simp only[dN]at hP;have hbp:=hp.eJ hM;refine cn (b9 hM dm λH1 m1=>?_);have c1:aD cB S (S.push (.ce z7 0)):=(aD.refl _ _).push _;have p1:=hp.no hM c1;have o1:(S.push (.ce z7 0)).ob S.n=.ce z7 0:=LS.ak _ _;refine iY m1 p1 λH2 S2 m2 c2 p2=>?_;rw[aA];refine iT ?_;have c12:aD (bL C) S S2:=(c1.trans c2).no;have o2:=c2.ob m1 o1 λq=>q;have gM:¬bL C S.n:=λq=>by have q:S.n=C.bp:=q;omega
  have signed:∀{H3:AH}{S3:LS}(kd:Nat),oE C.T i=kd→kd≠0→Mem H3 S3→aD (bL C) S S3→bH C S3 (i+1) d→S3.ob S.n=.ce z7 0→uU (iq (s13 m)) K (rA (iq (s13 m)) K) (.ptr C.bp 0) (.ptr S.n 0) (aW C.T i:Int) (kd:Int) H3:=by
   intro H3 S3 kd hkd hk0 m3 c3 p3 o3;rw[hkd,if_neg hk0]at hP;unfold uU;rw[rb,re];refine So hpv (by omega) m3 p3 (λhg H4 S4 m4 c4 e4=>?_) (λhg H4 S4 m4 c4 p4=>?_)
   ·rw[jJ];rw[if_pos hg]at hP;exact hP H4 S4 m4 (c3.trans c4) e4
   ·rw[aA];rw[if_neg hg]at hP;have c34:=c3.trans c4;have o4:=c4.ob m3 o3 gM;have n4:S.n<S4.n:=m4.lt (by rw[o4];simp);refine O.unary k (by omega) (by omega) m4 p4 (Post.call hP c34 (λ_ h=>h) λe j H5 S5 v m5 c5 p5 ⟨c,hv,hR⟩ hP2=>?_);subst hv;have o5:=c5.ob m4 o4 gM;rw[fO];refine gq hR.len ?_;rw[wy hR.len rfl];refine dP m5 (by rw[hR.len]) hR.ones λH6 m6=>?_;refine iX rfl ?_;simp only[gO];refine cn (b9 m6 dm λH7 m7=>?_);refine hV m7 (c:=[.int 0 (kd:Int),.int 0 (aW C.T i:Int),.int 0 ((0:Nat):Int),al [],.int 0 ((0:Nat):Int),.slice S5.n 0 1 1 7 true,.ab]) (LS.ak _ _) rfl rfl (λa h=>?_) λH8 m8=>?_
    ·simp only[List.mem_cons,List.not_mem_nil,or_false]at h;rcases h with rfl|rfl|rfl|rfl|rfl|rfl|rfl<;>rfl
    have hRp:RE (S5.push (.ce c 0)) (eI (S.n+1) (S5.push (.ce c 0)).n) [.int 0 (kd:Int),.int 0 (aW C.T i:Int),.int 0 ((0:Nat):Int),al [],.int 0 ((0:Nat):Int),.slice S5.n 0 1 1 7 true,.ab] (.mk kd (aW C.T i) 0 [] 0 [e] []):=by
     have n5:S4.n≤S5.n:=c5.1;exact RE.one (b:=S5.n) (m:=0) ⟨by omega,Nat.lt_succ_self _⟩ (LS.ak _ _) (hR.go (λb hb=>LS.cj _ _ hb.2) λb hb=>⟨by have:=hb.1;omega,Nat.lt_succ_of_lt hb.2⟩)
    have c6:aD cB S5 (S5.push (.ce c 0)):=(aD.refl _ _).push _;have F8:=iK.mk0 (C:=C) hbp rfl ((c34.trans c5).trans c6.no) m6 (c6.ob m5 o5 λq=>q) hRp;have c8:aD cB (S5.push (.ce c 0)) (((S5.push (.ce c 0)).push (.ce z7 0)).set (S5.push (.ce c 0)).n (.ce [.int 0 (kd:Int),.int 0 (aW C.T i:Int),.int 0 ((0:Nat):Int),al [],.int 0 ((0:Nat):Int),.slice S5.n 0 1 1 7 true,.ab] 0)):=((aD.refl _ _).push _).set (.inr (Nat.le_refl _)) _;refine Sp (by omega) m8 ((p5.no m5 c6).no m6 c8) λH9 S9 m9 c9 p9=>?_;show rA (iq (s13 m)) K (.ptr S.n 0) (.ptr (S5.push (.ce c 0)).n 0) H9;unfold rA;exact(F8.keep m8 hbp c9).fin m9 hM hp p9 hP2
  refine dz (s:=[110,111,116]) (aZ (by decide)) m2 p2 λH3 S3 m3 c3 p3=>?_;simp only[aA,bo];cases h1:isA C.T [110,111,116] i with
  |true=>
   rw[h1]at p3;rw[aU];exact signed 11 (by unfold oE;rw[h1];rfl) (by omega) m3 (c12.trans c3) p3 (c3.ob m2 o2 gM)
  |false=>
  simp only[h1,Bool.false_eq_true,if_false]at p3;rw[aV];refine dz (s:=[45]) (aZ (by decide)) m3 p3 λH4 S4 m4 c4 p4=>?_;simp only[aA,bo];cases h2:isA C.T [45] i with
  |true=>
   rw[h2]at p4;rw[aU];exact signed 12 (by unfold oE;rw[h1,h2];rfl) (by omega) m4 ((c12.trans c3).trans c4) p4 (c4.ob m3 (c3.ob m2 o2 gM) gM)
  |false=>
  simp only[h2,Bool.false_eq_true,if_false]at p4;rw[aV];refine dz (s:=[35]) (aZ (by decide)) m4 p4 λH5 S5 m5 c5 p5=>?_;simp only[aA,bo];cases h3:isA C.T [35] i with
  |true=>
   rw[h3]at p5;rw[aU];exact signed 13 (by unfold oE;rw[h1,h2,h3];rfl) (by omega) m5 (((c12.trans c3).trans c4).trans c5) p5 (c5.ob m4 (c4.ob m3 (c3.ob m2 o2 gM) gM) gM)
  |false=>
  simp only[h3,Bool.false_eq_true,if_false]at p5;rw[aV];have hu:oE C.T i=0:=by unfold oE;rw[h1,h2,h3];rfl
  rw[if_pos hu]at hP;have c5':=((c12.trans c3).trans c4).trans c5;have o5:=c5.ob m4 (c4.ob m3 (c3.ob m2 o2 gM) gM) gM;refine O.post k (by omega) hd m5 p5 (Post.tail hP c5' (λ_ h=>h) λe j H6 S6 v m6 c6 p6 ⟨c,hv,hR⟩ hfin=>?_);subst hv;have n5:S.n<S5.n:=m5.lt (by rw[o5];simp);refine hV m6 (c6.ob m5 o5 gM) rfl hR.len hR.ones λH7 m7=>?_;refine fl m7 (LS.ay _ _ _) hR.len ?_;exact hfin H7 _ _ m7 ((c5'.trans c6).set (.inr (Nat.le_refl _)) _) (p6.iw hp hM (Nat.le_refl _) _) ⟨c,rfl,hR.go (λb hb=>LS.aq _ _ (by have:=hb.1;omega)) λb hb=>⟨by have:=hb.1;omega,hb.2⟩⟩
end
end Go.Proofs.YtcedghechlgecaaGreatDoor
namespace Go.X
section
variable {H:AH}{S:LS}
theorem cy.lt{α:Type}{R:Rep α}{lo:Nat}{v:AV}{l:List α}(h:cy R lo S v l)(hM:Mem H S){b:Nat}(hb:bd v b):b<S.n:=by
 obtain⟨cl,h1,_⟩:=h;exact h1.lt hM hb
theorem cy.Sr{α:Type}{R:Rep α}{lo:Nat}{v:AV}{l:List α}{k:AV→Prop}(h:cy R lo S v l)(hk:k (.int 0 l.length)):cN v k:=by
 obtain⟨cl,h1,_⟩:=h;exact h1.len hk
theorem cy.push{α:Type}{R:Rep α}{lo bytes:Nat}{v:AV}{l:List α}{a:α}{c:List AV}{Q:Nat→Prop}{k:AV→AH→Prop}(h:cy R lo S v l)(hM:Mem H S)(hr:R.rel S Q c a)(hQ:∀b,Q b→lo≤b∧b<S.n∧¬bd v b)(hlo:lo≤S.n)(hl:(l.length+1)*bytes≤1099511627776)
  (hk:∀H' S' v',Mem H' S'→cy R lo S' v' (l++[a])→S.n≤S'.n→(∀b,b<S.n→¬bd v b→S'.ob b=S.ob b)→(∀b,bd v' b→bd v b∨S.n≤b)→k v' H'):bY (aP H) 1 R.sz c λx H'=>ef R.sz bytes v x H' k:=by
 obtain⟨cl,h1,h2⟩:=id h;refine Il hM h1 R.pos (R.len hr) hl (R.ones hr) λH' S' v' m' he=>?_;refine hk H' S' v' m' (h.step hr hQ hlo λcl' h'=>?_) he.1 he.2.1 he.2.2.2;have e:cl'=cl.flatten:=by
  rcases h1 with⟨e1,e2,e3⟩|⟨b,c1,ex,cs,e1,e2,e3,e4,e5,e6,e7⟩
  ·rcases h' with⟨_,_,g3⟩|⟨b',c1',ex',cs',g1,_⟩
   ·rw[g3,e3]
   ·rw[e1]at g1;cases g1
  ·rcases h' with⟨g1,_⟩|⟨b',c1',ex',cs',g1,g2,g3,g4,g5,g6,g7⟩
   ·rw[e1]at g1;cases g1
   ·rw[e1]at g1;injection g1 with q1;subst q1;rw[e2]at g2;injection g2 with q2;rw[←g6,←e6,g5,e5,q2]
 rw[e];exact he
theorem eg.slR{Q:Nat→Prop}{sz n:Nat}{v:AV}{l:List AV}(h:eg S sz v n l)(hQ:∀b,bd v b→Q b):cJ S Q sz v n (λi=>(l.drop (i*sz)).take sz):=by
 rcases h with⟨rfl,rfl,rfl⟩|⟨b,c,ex,cs,rfl,h2,h3,h4,h5,h6,h7⟩
 ·exact .inl ⟨rfl,rfl⟩
 ·refine .inr ⟨b,0,c,ex,cs,0,rfl,hQ b rfl,h2,h4,by rw[h3,Nat.zero_add];exact Nat.mul_le_mul_right _ h4,λi hi=>?_⟩;have hle:(i+1)*sz≤n*sz:=Nat.mul_le_mul_right _ (by omega);rw[Nat.add_mul,Nat.one_mul]at hle;show(cs.drop (0+i*sz)).take sz=(l.drop (i*sz)).take sz
  conv=>rhs;rw[←h6]
  rw[List.drop_take,List.take_take,Nat.min_eq_left (by omega),Nat.zero_add]
theorem YP{bytes sz n n':Nat}{v x:AV}{l:List AV}{Q:Nat→Prop}{cl:Nat→List AV}{k:AV→AH→Prop}(hM:Mem H S)(hs:eg S sz v n l)(hv:0<n'∨v≠.ab)(hsz:0<sz)(hx:cJ S Q sz x n' cl)(hone:∀i,i<n'→∀a∈cl i,a.one=true)(hl:(n+n')*bytes≤1099511627776)
  (hK:∀H' S' v' l',Mem H' S'→l'.length=n'*sz→(∀i,i<n'→(l'.drop (i*sz)).take sz=cl i)→sf S v (n+n') sz (l++l') S' v'→k v' H'):ef sz bytes v x H k:=by
 have go:∀l':List AV,l'.length=n'*sz→(∀i,i<n'→(l'.drop (i*sz)).take sz=cl i)→tW sz bytes n' v l' H k:=λl' h1 h2=>by
  refine xl hM hs hsz hv h1 hl (λa ha=>?_) λH' S' v' m' he=>hK H' S' v' l' m' h1 h2 he;obtain⟨j,hj,e⟩:=List.mem_iff_getElem.1 ha;have hi:j/sz<n':=Nat.div_lt_of_lt_mul (by rw[Nat.mul_comm];omega);refine hone (j/sz) hi a ?_;rw[←h2 _ hi];rw[List.mem_iff_getElem?];refine⟨j%sz,?_⟩;rw[List.getElem?_take,if_pos (Nat.mod_lt _ hsz),List.getElem?_drop,Nat.mul_comm,Nat.div_add_mod,List.getElem?_eq_getElem hj,e]
 rcases hx with⟨rfl,rfl⟩|⟨b,o,c,ex,cs,m,rfl,h1,h2,h3,h4,h5⟩
 ·exact go [] (by simp) (λi hi=>by omega)
 ·refine pU (ex:=ex) (cap:=c) (k:=λl=>tW sz bytes n' _ l H k) hM h2 (by omega) ?_;refine go _ (by rw[List.length_take,List.length_drop];omega) λi hi=>?_;have hle:(i+1)*sz≤n'*sz:=Nat.mul_le_mul_right _ (by omega);rw[Nat.add_mul,Nat.one_mul]at hle;rw[List.drop_take,List.take_take,Nat.min_eq_left (by omega),List.drop_drop];exact h5 i hi
end
end Go.X
namespace Go.Proofs.YtcedghechlgecaaGreatDoor
open Go Go.X Go.Proofs.YtcedghechlgecaaGreatDoor.G
section
variable {H:AH}{S:LS}{K:KF}{C:Ctx}{i d:Nat}
theorem na(m:Nat):s13 (m+1)=(vZ (jH (s13 m)),wa (dv (s13 m)),wb (lT (s13 m)),wc (iF (s13 m)),BF (mU (s13 m)),we (kO (s13 m)),sk (my (s13 m)),sl (dQ (s13 m)),xx (gx (s13 m)),so (eU (s13 m)),xy (gy (s13 m)),sr (im (s13 m)),sv (eE (s13 m)),xA (iP (s13 m)),sw (gj (s13 m)),xB (js (s13 m)),sx (kP (s13 m)),xD (iQ (s13 m)),xF (iR (s13 m)),xG (iq (s13 m))):=by kernel_rfl
theorem ai9{m n:Nat}(hpv:C.pv=.iface 57 (.agg []))(O:gL C m n){S0:LS}{H0:AH}{i0:Nat}(hd:d≤200)(hM0:Mem H0 S0)(hp0:bH C S0 i0 d):∀k,k≤n+1→∀(q i:Nat) (first:Bool) (l:List aE) (v:AV) (H:AH) (S:LS),k≤q→l.length≤16→Mem H S→bH C S i d→aD (bL C) S0 S→cy kA S0.n S v l→Post C (bL C) d gS K S0 (cT C.T k first l i d)→
  po (eE (s13 m)) K q (.ptr C.bp 0) v first H:=by
 intro k
 induction k with
 |zero=>intro _ q i f l v H S _ _ _ _ _ _ hP;simp only[cT]at hP;exact False.elim hP
 |succ k ih=>
  intro hk q i first l v H S hq hl hM hp hx hO hP
  obtain⟨q,rfl⟩:∃p,q=p+1:=⟨q-1,by omega⟩
  have r1:(eE (s13 m)).1=f25:=rfl;have r2:(eE (s13 m)).2.1=f56:=rfl;have r3:(eE (s13 m)).2.2.1=f94:=rfl;have r4:(eE (s13 m)).2.2.2.1=(s13 m).2.2.2.2.1:=rfl;have r5:(eE (s13 m)).2.2.2.2=lC:=rfl;have hbp:=hp0.eJ hM0;show yE (eE (s13 m)) K (rq (eE (s13 m)) K (rp (eE (s13 m)) K (po (eE (s13 m)) K q))) (uQ (eE (s13 m)) K) (.ptr C.bp 0) v first H
  unfold yE;rw[r1,r2,r3];simp only[cT]at hP;have GW:∀{v:AV}{l:List aE}{S1 S2:LS}{H1:AH},Mem H1 S1→cy kA S0.n S1 v l→aD (bL C) S1 S2→cy kA S0.n S2 v l:=λm1 o g=>o.keep m1 g.1 λb h1 h2=>g.2 b h2 λe=>by have e:b=C.bp:=e;omega
  have stop:∀{H1:AH}{S1:LS}{i:Nat},Mem H1 S1→bH C S1 i d→aD (bL C) S0 S1→cy kA S0.n S1 v l→Post C (bL C) d gS K S0 ((cC C.T [41] i).bind λ_ j=>.ok l j)→uQ (eE (s13 m)) K (.ptr C.bp 0) v H1:=λ{H1 S1 i} m1 p1 x1 o1 hP=>by
   unfold uQ;rw[r5];refine gE (s:=[41]) hpv (aZ (by decide)) m1 p1 (Post.call (jy:=mD) hP x1 (λ_ h=>h) λ_ j H2 S2 w m2 c2 p2 _ hP2=>?_);obtain⟨cl,g1,g2⟩:=(GW m1 o1 c2).done m2;exact hP2 H2 S2 v m2 (x1.trans c2) p2 ⟨cl,g1,g2⟩
  have more:∀{H1:AH}{S1:LS}{i:Nat},Mem H1 S1→bH C S1 i d→aD (bL C) S0 S1→cy kA S0.n S1 v l→Post C (bL C) d gS K S0 (if l.length=16 then bF.err 8 i else (de C.T k i d).bind λe j=>cT C.T k false (l++[e]) j d)→
    cN v λv5=>cI 0 v5 λz6=>bI (bX z6 (.ofNat 16)) (f25 (.ptr C.bp 0) (.ofNat 8) H1 λo7 H8=>cR K o7 H8 λv9=>rq (eE (s13 m)) K (rp (eE (s13 m)) K (po (eE (s13 m)) K q)) (.ptr C.bp 0) v H8) (rq (eE (s13 m)) K (rp (eE (s13 m)) K (po (eE (s13 m)) K q)) (.ptr C.bp 0) v H1):=λ{H1 S1 i} m1 p1 x1 o1 hP=>by
   refine o1.Sr ?_;have e16:Int.ofNat 16=((16:Nat):Int):=rfl;rw[aR,cV,e16];by_cases h16:l.length=16
   ·rw[if_pos h16]at hP;rw[decide_eq_true (by omega),aU];refine mW (c:=8) hpv m1 p1 λH2 S2 m2 c2 e2=>?_;rw[jJ];exact hP H2 S2 m2 (x1.trans c2) e2
   ·rw[if_neg h16]at hP;rw[decide_eq_false (by omega),aV];unfold rq;rw[r4];refine O.exp k (by omega) hd m1 p1 (Post.call hP x1 (λ_ h=>h) λe j H2 S2 w m2 c2 p2 ⟨c,hw,hR⟩ hP2=>?_);subst hw;rw[fO];refine gq hR.len ?_;rw[wy hR.len rfl];have o2:=GW m1 o1 c2;refine o2.push (R:=kA) (bytes:=96) m2 hR (λb hb=>⟨Nat.le_trans x1.1 hb.1,hb.2,λq=>by have:=o1.lt m1 q;have:=hb.1;omega⟩) (Nat.le_trans x1.1 c2.1) (by omega) λH3 S3 v' m3 o3 n3 k3 b3=>?_;unfold rp;have c3:aD (λb=>bd v b) S2 S3:=⟨n3,λb hb hx=>k3 b hb hx⟩
    have p3:bH C S3 j d:=p2.keep m2 c3 (λq=>by obtain⟨_,_,_,h,_⟩:=o2;have:=h _ q;omega) (λb hb q=>by
     obtain⟨_,_,_,h,_⟩:=o2;have h1:=h _ q;have h2:=hp0.tk.lt hM0 hb;omega)
    exact ih (by omega) q j false (l++[e]) v' H3 S3 (by omega) (by simp;omega) m3 p3 ((x1.trans c2).iW c3 λb hb=>.inr (by obtain⟨_,_,_,h,_⟩:=o2;exact h _ hb)) o3 hP2
  cases first with
  |true=>
   rw[aU];refine pG (s:=[41]) (aZ (by decide)) hM hp λH1 S1 m1 c1 p1=>?_;simp only[aA,bo];have o1:=GW hM hO (c1.no (X:=bL C));cases hi:isA C.T [41] i with
   |false=>
    simp only[hi,Bool.not_false,if_true]at hP;rw[Bool.not_false,aU];exact more m1 p1 (hx.trans c1.no) o1 hP
   |true=>
    simp only[hi,Bool.not_true,if_true,Bool.false_eq_true,if_false]at hP;simp only[Bool.not_true,aV];exact stop m1 p1 (hx.trans c1.no) o1 hP
  |false=>
   simp only[Bool.not_false,aV,aU];refine dz (s:=[44]) (aZ (by decide)) hM hp λH1 S1 m1 c1 p1=>?_;simp only[aA,bo];have o1:=GW hM hO c1;cases hi:isA C.T [44] i with
   |true=>
    simp only[hi,if_true,Bool.false_eq_true,if_false]at hP p1;rw[aU];exact more m1 p1 (hx.trans c1) o1 hP
   |false=>
    simp only[hi,if_true,Bool.false_eq_true,if_false]at hP p1;rw[aV];exact stop m1 p1 (hx.trans c1) o1 hP
theorem aja{m n:Nat}(hn:n≤900000)(hpv:C.pv=.iface 57 (.agg []))(O:gL C m n):∀k,k≤n+1→∀{K:KF}{H:AH}{S:LS}{i d:Nat},d≤200→Mem H S→bH C S i d→Post C (bL C) d gS K S (cT C.T k true [] i d)→(s13 (m+1)).2.2.2.2.2.2.2.2.2.2.2.2.1 (.ptr C.bp 0) H K:=by
 intro k hk K H S i d hd hM hp hP;have e:(s13 (m+1)).2.2.2.2.2.2.2.2.2.2.2.2.1=sv (eE (s13 m)):=by rw[na]
 rw[e];unfold sv MW D7;have gv:G.NL=1000000:=rfl;exact ai9 hpv O hd hM hp k hk G.NL i true [] .ab H S (by omega) (by simp) hM hp (aD.refl _ _) (cy.nil _ _ _) hP
end
end Go.Proofs.YtcedghechlgecaaGreatDoor
namespace Go.X
theorem Kz(T:List Tok):∀(n:Nat) (f:Bool) (out:List aE) (i d:Nat) (l:List aE) (j:Nat),out.length≤16→cT T n f out i d=.ok l j→l.length≤16
 |0,f,out,i,d,l,j,_,h=>by simp only[cT]at h;cases h
 |n+1,f,out,i,d,l,j,ho,h=>by
  have step:∀b:Nat,(if out.length=16 then bF.err 8 b else (de T n b d).bind λe j'=>cT T n false (out++[e]) j' d)=.ok l j→l.length≤16:=λb h=>by
   split at h
   ·cases h
   ·rename_i h16;cases he:de T n b d with
    |ok e j'=>
     rw[he]at h;exact Kz T n false (out++[e]) j' d l j (by simp;omega) h
    |err c j'=>rw[he]at h;cases h
    |bW=>rw[he]at h;cases h
  have stop:((cC T [41] i).bind λ_ j=>.ok out j)=.ok l j→l.length≤16:=λh=>by
   unfold cC at h;split at h
   ·cases h;exact ho
   ·cases h
  simp only[cT]at h;cases f with
  |true=>
   simp only[if_true]at h;cases hb:isA T [41] i with
   |true=>rw[hb]at h;exact stop h
   |false=>rw[hb]at h;exact step _ h
  |false=>
   simp only[Bool.false_eq_true,if_false]at h;cases hb:isA T [44] i with
   |true=>rw[hb]at h;exact step _ h
   |false=>rw[hb]at h;exact stop h
end Go.X
namespace Go.Proofs.YtcedghechlgecaaGreatDoor
open Go Go.X Go.Proofs.YtcedghechlgecaaGreatDoor.G
section
variable {H:AH}{S:LS}{K:KF}{C:Ctx}{i d:Nat}
theorem eg.one{sz n:Nat}{v:AV}{l:List AV}(h:eg S sz v n l):v.one=true:=by
 rcases h with⟨rfl,_⟩|⟨b,c,ex,cs,rfl,_⟩<;>rfl
theorem ajb{m n:Nat}(hpv:C.pv=.iface 57 (.agg []))(O:gL C m n){S0:LS}{H0:AH}{i0 b1 b3:Nat}(hd:d≤200)(hM0:Mem H0 S0)(hp0:bH C S0 i0 d):∀k,k≤n+1→∀(q i:Nat) (e:aE) (c:List AV) (H:AH) (S:LS),k≤q→Mem H S→bH C S i d→iK C S0 S b1 b3 c e→Post C (bL C) d kE K S0 (dI C.T k e i d)→
  pj (eU (s13 m)) K q (.ptr C.bp 0) (.ptr b1 0) (.ptr b3 0) H:=by
 intro k
 induction k with
 |zero=>intro _ q i e c H S _ _ _ _ hP;simp only[dI]at hP;exact False.elim hP
 |succ k ih=>
  intro hk q i e c H S hq hM hp hF hP;obtain⟨q,rfl⟩:∃p,q=p+1:=⟨q-1,by omega⟩
  show yA (eU (s13 m)) K (pj (eU (s13 m)) K q) (yz (eU (s13 m)) K (pj (eU (s13 m)) K q)) (.ptr C.bp 0) (.ptr b1 0) (.ptr b3 0) H;unfold yA;have r1:(eU (s13 m)).1=f23:=rfl;have r2:(eU (s13 m)).2.1=f56:=rfl;have r4:(eU (s13 m)).2.2.2.1=(s13 m).2.2.2.2.1:=rfl;have r5:(eU (s13 m)).2.2.2.2.1=lC:=rfl;have r6:(eU (s13 m)).2.2.2.2.2.1=f130:=rfl;have r7:(eU (s13 m)).2.2.2.2.2.2.1=f164:=rfl;have r9:(eU (s13 m)).2.2.2.2.2.2.2.2=(s13 m).2.2.2.2.2.2.2.2.2.2.2.2.1:=rfl;rw[r1,r2,r4,r5,r6,r7,r9];have hbp:=hp0.eJ hM0;simp only[dI]at hP;refine iY hM hp λH1 S1 m1 c1 p1=>?_;rw[aA];refine iT ?_;have F1:=hF.keep hM hbp c1.no;refine dz (s:=[46]) (aZ (by decide)) m1 p1 λH2 S2 m2 c2 p2=>?_;simp only[aA,bo];have F2:=F1.keep m1 hbp c2;have lt1:∀{H:AH}{S:LS}{c:List AV}{e:aE},Mem H S→iK C S0 S b1 b3 c e→b1<S.n∧b3<S.n∧S0.n≤S.n:=λm F=>⟨by obtain⟨z,hz,_⟩:=F.o1;exact m.lt (by rw[hz];simp),m.lt (by rw[F.o3];simp),F.x.1⟩
  cases h1:isA C.T [46] i with
  |true=>
   simp only[h1,if_true]at hP p2;rw[aU];refine iY m2 p2 λH3 S3 m3 c3 p3=>?_;rw[aA];refine iT ?_;have F3:=F2.keep m2 hbp c3.no;simp only[gO];refine cn (b9 m3 dm λH4 m4=>?_);refine hV m4 (c:=[.int 0 ((5:Nat):Int),.int 0 (aW C.T (i+1):Int),.int 0 ((0:Nat):Int),al [],.int 0 ((0:Nat):Int),.ab,.ab]) (LS.ak _ _) rfl rfl (λa h=>?_) λH5 m5=>?_
   ·simp only[List.mem_cons,List.not_mem_nil,or_false]at h;rcases h with rfl|rfl|rfl|rfl|rfl|rfl|rfl<;>rfl
   have c5:aD cB S3 ((S3.push (.ce z7 0)).set S3.n (.ce [.int 0 ((5:Nat):Int),.int 0 (aW C.T (i+1):Int),.int 0 ((0:Nat):Int),al [],.int 0 ((0:Nat):Int),.ab,.ab] 0)):=((aD.refl _ _).push _).set (.inr (Nat.le_refl _)) _;have p5:=p3.no m3 c5;have F5:=F3.keep m3 hbp c5.no;have o5:LS.ob _ S3.n=_:=LS.ay (S3.push (.ce z7 0)) S3.n (.ce [.int 0 ((5:Nat):Int),.int 0 (aW C.T (i+1):Int),.int 0 ((0:Nat):Int),al [],.int 0 ((0:Nat):Int),.ab,.ab] 0);have n3:S0.n≤S3.n:=F3.x.1;refine vz hpv m5 p5 (Post.call hP F5.x (λ_ h=>h) λs j H6 S6 v m6 c6 p6 ⟨hv,h8⟩ hP2=>?_);subst hv;have F6:=F5.keep m5 hbp c6;have o6:=c6.ob m5 o5 λq=>by have q:S3.n=C.bp:=q;omega
   rw[bu,Nat.zero_add];refine bj m6 o6 (by omega) (by show 3<7;omega) (iO s) λH7 m7=>?_;have m7:Mem H7 (S6.set S3.n (.ce [.int 0 ((5:Nat):Int),.int 0 (aW C.T (i+1):Int),.int 0 ((0:Nat):Int),al s,.int 0 ((0:Nat):Int),.ab,.ab] 0)):=m7;have lt3:=lt1 m3 F3;have c7:aD (λb=>b=S3.n) S6 (S6.set S3.n (.ce [.int 0 ((5:Nat):Int),.int 0 (aW C.T (i+1):Int),.int 0 ((0:Nat):Int),al s,.int 0 ((0:Nat):Int),.ab,.ab] 0)):=(aD.refl (λb=>b=S3.n) S6).set (.inl (rfl:S3.n=S3.n)) _;have F7:iK C S0 (S6.set S3.n (.ce [.int 0 ((5:Nat):Int),.int 0 (aW C.T (i+1):Int),.int 0 ((0:Nat):Int),al s,.int 0 ((0:Nat):Int),.ab,.ab] 0)) b1 b3 c e:=by
    obtain⟨z,hz,Db⟩:=F6.o1;obtain⟨Q,g1,g2⟩:=F3.re;exact⟨F6.x.set (.inr n3) _,⟨z,(LS.aq _ _ (by omega)).trans hz,Db⟩,(LS.aq _ _ (by omega)).trans F6.o3,F6.n1,F6.n3,F6.ne,Q,g1.go (λb hb=>by
     have h2:=g2 b hb;rw[LS.aq _ _ (by omega),c6.2 b (Nat.lt_of_lt_of_le h2.2.1 c5.1) (λq=>by have q:b=C.bp:=q;omega)];exact c5.2 b h2.2.1 λq=>q) (λ_ h=>h),λb hb=>⟨(g2 b hb).1,Nat.lt_of_lt_of_le (g2 b hb).2.1 (Nat.le_trans c5.1 c6.1),(g2 b hb).2.2⟩⟩
   have p7:=p6.iw hp0 hM0 n3 (.ce [.int 0 ((5:Nat):Int),.int 0 (aW C.T (i+1):Int),.int 0 ((0:Nat):Int),al s,.int 0 ((0:Nat):Int),.ab,.ab] 0);unfold yz;rw[r7];refine fl m7 F7.o3 F7.len ?_;refine fl m7 (LS.ay _ _ _) rfl ?_;refine F7.two (kind:=9) (op:=0) (at_:=aW C.T i) (S1:=S3) (H1:=H3) (x:=.mk 5 (aW C.T (i+1)) 0 s 0 [] []) m7 hbp lt3 (RE.simple h8) λH8 S8 c' m8 c8 F8 r8=>?_;refine hV m8 F8.o3 F8.len r8.len r8.ones λH9 m9=>?_;exact ih (by omega) q j _ _ H9 _ (by omega) m9 ((p7.no m7 c8).iw hp0 hM0 hF.n3 _) (F8.lU r8 λb hb=>hb) hP2
  |false=>
  simp only[h1,Bool.false_eq_true,if_false]at hP p2;rw[aV];refine dz (s:=[91]) (aZ (by decide)) m2 p2 λH3 S3 m3 c3 p3=>?_;simp only[aA,bo];have F3:=F2.keep m2 hbp c3;cases h2:isA C.T [91] i with
  |true=>
   simp only[h2,if_true]at hP p3;rw[aU];have lt3:=lt1 m3 F3;refine fl m3 F3.o3 F3.len ?_;refine O.exp k (by omega) hd m3 p3 (Post.call hP F3.x (λ_ h=>h) λx j H4 S4 v m4 c4 p4 ⟨cb,hv,hR⟩ hP2=>?_);subst hv;have F4:=F3.keep m3 hbp c4;refine fl m4 F4.o3 F4.len ?_;refine cv (by obtain⟨Q,h1,_⟩:=F4.re;exact h1.same) ?_;refine F4.two (kind:=9) (op:=0) (S1:=S3) (H1:=H3) m4 hbp lt3 hR λH5 S5 c' m5 c5 F5 r5=>?_;refine hV m5 F5.o3 F5.len r5.len r5.ones λH6 m6=>?_;have F6:=F5.lU r5 λb hb=>hb;have p6:=(p4.no m4 c5).iw hp0 hM0 hF.n3 (.ce c' 0);refine gE (s:=[93]) hpv (aZ (by decide)) m6 p6 (Post.call (jy:=mD) hP2 F6.x (λ_ h=>h) λ_ j' H7 S7 w m7 c7 p7 _ hP3=>?_);exact ih (by omega) q j' _ _ H7 S7 (by omega) m7 p7 (F6.keep m6 hbp c7) hP3
  |false=>
  simp only[h2,Bool.false_eq_true,if_false]at hP p3;rw[aV];refine dz (s:=[40]) (aZ (by decide)) m3 p3 λH4 S4 m4 c4 p4=>?_;simp only[aA,bo];have F4:=F3.keep m3 hbp c4;cases h3:isA C.T [40] i with
  |true=>
   simp only[h3,if_true]at hP p4;rw[aU];have lt4:=lt1 m4 F4;refine fl m4 F4.o3 F4.len ?_;refine m4.cS ?_;rw[fO];refine gq F4.len ?_;rw[wy F4.len rfl];obtain⟨Q,g1,g2⟩:=F4.re;refine dP m4 (by rw[F4.len]) g1.ones λH5 m5=>cv (qy (by rw[m5.n,m4.n];rfl)) ?_;have c5:aD cB S4 (S4.push (.ce c 0)):=(aD.refl _ _).push _;have F5:=F4.keep m4 hbp c5.no;refine O.args k (by omega) hd m5 (p4.no m4 c5) ?_;cases ha:cT C.T k true [] (i+1) d with
   |bW=>rw[ha]at hP;exact hP
   |err cc j=>
    rw[ha]at hP;exact λH6 S6 m6 c6 e6=>by show cR K (.cZ C.pv) H6 _;rw[jJ];exact hP H6 S6 m6 (F5.x.trans c6) e6
   |ok l j=>
   rw[ha]at hP;have hll:=Kz C.T k true [] (i+1) d l j (by simp) ha;intro H6 S6 v m6 c6 p6 hv;obtain⟨cl,hsl,hre⟩:=hv;rw[aA];have F6:=F5.keep m5 hbp c6;have o6:S6.ob S4.n=.ce c 0:=c6.ob m5 (LS.ak _ _) λq=>by have q:S4.n=C.bp:=q;omega
   refine fl m6 F6.o3 F6.len ?_;refine cv g1.same ?_;have fr:eg S6 7 (.slice S4.n 0 1 1 7 true) 1 c:=.inr ⟨S4.n,1,true,c,rfl,o6,by rw[F4.len],Nat.le_refl _,by rw[F4.len],List.take_of_length_le (Nat.le_refl _),g1.ones⟩;refine YP (n':=l.length) m6 fr (.inr (by simp)) (by omega) hsl (λi hi=>(hre i _ (List.getElem?_eq_getElem hi)).ones) (by omega) λH7 S7 v' l' m7 hl' hcl he=>?_;have n5:S4.n+1≤S6.n:=c6.1;have c7:aD (λb=>b=S4.n) S6 S7:=⟨he.1,λb hb hx=>he.2.1 b hb hx⟩
   have MA:S7.ob b3=.ce c 0:=c7.ob m6 F6.o3 λq=>by have q:b3=S4.n:=q;omega
   refine iX (eg.one he.2.2.1) ?_;have hb7:∀b,bd v' b→S4.n≤b∧b<S7.n:=λb hb=>⟨by
    rcases he.2.2.2 b hb with g|g
    ·have g:b=S4.n:=g;omega
    ·omega,he.2.2.1.lt m7 hb⟩
   have x7:aD (bL C) S0 S7:=F6.x.iW c7 λb hb=>.inr (by have hb:b=S4.n:=hb;omega);have F7:iK C S0 S7 b1 b3 c e:=by
    obtain⟨z,hz,Db⟩:=F6.o1;exact⟨x7,⟨z,c7.ob m6 hz λq=>by have q:b1=S4.n:=q;omega,Db⟩,MA,F6.n1,F6.n3,F6.ne,Q,g1.go (λb hb=>by
     have h2:=g2 b hb;rw[c7.2 b (by omega) (λq=>by have q:b=S4.n:=q;omega),c6.2 b (by show b<S4.n+1;omega) (λq=>by have q:b=C.bp:=q;omega)];exact LS.cj _ _ h2.2.1) (λ_ h=>h),λb hb=>⟨(g2 b hb).1,by have:=(g2 b hb).2.1;have:=c7.1;omega,(g2 b hb).2.2⟩⟩
   have hnew:RE S7 (λb=>S0.n≤b∧b<S7.n∧b≠b1∧b≠b3) [.int 0 ((10:Nat):Int),.int 0 (aW C.T i:Int),.int 0 ((0:Nat):Int),al [],.int 0 ((0:Nat):Int),v',.ab] (.mk 10 (aW C.T i) 0 [] 0 (e::l) []):=by
    refine .mk 10 (aW C.T i) 0 [] 0 (e::l) [] v' .ab _ (λ_=>[]) B8.nil (by rw[List.length_cons,Nat.add_comm];exact he.2.2.1.slR λb hb=>⟨by have:=hb7 b hb;omega,(hb7 b hb).2,by have:=hb7 b hb;omega,by have:=hb7 b hb;omega⟩) (λi' e' h=>?_) (cJ.nil _ _ _ _) (λi e h=>by simp at h);cases i' with
    |zero=>
     have e1:e=e':=by simpa using h
     subst e1;obtain⟨Q7,r1,r2⟩:=F7.re;have ec:((c++l').drop (0*7)).take 7=c:=by rw[Nat.zero_mul,List.drop_zero];exact List.take_left' F4.len
     rw[ec];exact r1.go (λ_ _=>rfl) r2
    |succ i'=>
     have h':l[i']? = some e':=by simpa using h
     have hi':=(List.getElem?_eq_some_iff.1 h').1;have ec:((c++l').drop ((i'+1)*7)).take 7=cl i':=by
      rw[Nat.add_mul,Nat.one_mul,Nat.add_comm,←List.drop_drop,List.drop_left' F4.len];exact hcl i' hi'
     rw[ec];exact(hre i' e' h').go (λb hb=>c7.2 b hb.2 λq=>by have q:b=S4.n:=q;have:=hb.1;have:S4.n+1≤b:=hb.1;omega) λb hb=>by
      have h4:S4.n+1≤b:=hb.1;have h5:=hb.2;have h6:=c7.1;exact⟨by omega,by omega,by omega,by omega⟩
   refine hV m7 MA F4.len rfl (λa h=>hnew.ones a h) λH8 m8=>?_;have p7:bH C S7 j d:=p6.keep m6 c7 (λq=>by have q:C.bp=S4.n:=q;omega) (λb hb q=>by have q:b=S4.n:=q;have:=hp0.tk.lt hM0 hb;omega);exact ih (by omega) q j _ _ H8 _ (by omega) m8 (p7.iw hp0 hM0 hF.n3 _) (F7.lU hnew λb hb=>hb) hP
  |false=>
   simp only[h3,Bool.false_eq_true,if_false]at hP p4;rw[aV];exact F4.fin m4 hM0 hp0 p4 hP
end
section
variable {H:AH}{S:LS}{K:KF}{C:Ctx}{i d:Nat}
theorem FY{T:List Tok}{i:Nat}{k:Int→Prop}(h:k (bC T i:Int)):fQ (.agg (eW T i)) λl12=>cP l12 0 λv13=>cI 0 v13 k:=by
 show cI 0 (.int 0 (bC T i:Int)) k;rw[aR];exact h
theorem ajc{m n:Nat}(hn:n≤900000)(hpv:C.pv=.iface 57 (.agg []))(O:gL C m n):∀k,k≤n+1→nO C (s13 (m+1)).2.2.2.2.2.2.2.2.2.1 (fj C.T k):=by
 intro k hk K H S i d hd hM hp hP;cases k with
 |zero=>simp only[fj]at hP;exact False.elim hP
 |succ k=>
  have e:(s13 (m+1)).2.2.2.2.2.2.2.2.2.1=so (eU (s13 m)):=by rw[na]
  rw[e];have r1:(eU (s13 m)).1=f23:=rfl;have r3:(eU (s13 m)).2.2.1=f94:=rfl;have r8:(eU (s13 m)).2.2.2.2.2.2.2.1=(s13 m).2.2.2.2.2.2.2.2.2.2.2.1:=rfl;unfold so MN DV DW;rw[r1,r3,r8,gO];simp only[fj]at hP;have hbp:=hp.eJ hM;have gv:G.NL=1000000:=rfl;generalize G.NL=iV at gv ⊢;refine cn (b9 hM dm λH1 m1=>?_);have c1:aD cB S (S.push (.ce z7 0)):=(aD.refl _ _).push _;have p1:=hp.no hM c1;have o1:(S.push (.ce z7 0)).ob S.n=.ce z7 0:=LS.ak _ _;have gM:¬bL C S.n:=λq=>by have q:S.n=C.bp:=q;omega
  have loop:∀{H2:AH}{S2:LS},Mem H2 S2→bH C S2 i d→aD cB S S2→S2.ob S.n=.ce z7 0→Post C (bL C) d kE K S ((dc C.T k i d).bind λe j=>dI C.T k e j d)→
    (s13 m).2.2.2.2.2.2.2.2.2.2.2.1 (.ptr C.bp 0) H2 (λJb jN=>cR K Jb jN λv20=>cD jN (dd Tryz.prog (aP jN) 49 λv21 iC=>ag 7 v21 v20 iC λtE=>yB (eU (s13 m)) K (pj (eU (s13 m)) K iV) (.ptr C.bp 0) (.ptr S.n 0) v21 tE)):=by
   intro H2 S2 m2 p2 c2 o2 hP;have n2:S.n<S2.n:=m2.lt (by rw[o2];simp);refine O.simple k (by omega) hd m2 p2 (Post.call hP c2.no (λ_ h=>h) λe j H3 S3 v m3 c3 p3 ⟨c,hv,hR⟩ hP2=>?_);subst hv;simp only[gO];refine cn (b9 m3 dm λH4 m4=>?_);refine hV m4 (LS.ak _ _) rfl hR.len hR.ones λH5 m5=>?_;have c4:aD cB S3 ((S3.push (.ce z7 0)).set S3.n (.ce c 0)):=((aD.refl _ _).push _).set (.inr (Nat.le_refl _)) _;have F:=iK.mk0 (C:=C) hbp rfl (c2.no.trans c3) m3 (c3.ob m2 o2 gM) (hR.go (λ_ _=>rfl) λb hb=>⟨by have:=hb.1;omega,hb.2⟩);unfold yB;exact ajb hpv O hd hM hp k (by omega) iV j e c H5 _ (by omega) m5 (p3.no m3 c4) F hP2
  refine iY m1 p1 λH2 S2 m2 c2 p2=>?_;rw[aA];refine FY ?_;have c12:=c1.trans c2;have o2:=c2.ob m1 o1 λq=>q;have e2:Int.ofNat 2=((2:Nat):Int):=rfl;rw[cV,e2];by_cases g:bC C.T i=2
  ·rw[if_pos (.inl g)]at hP;rw[decide_eq_true (by omega)];simp only[Bool.not_true,aV];exact loop m2 p2 c12 o2 hP
  ·rw[decide_eq_false (by omega)];simp only[Bool.not_false,aU];refine pG (s:=[40]) (aZ (by decide)) m2 p2 λH3 S3 m3 c3 p3=>?_;simp only[aA,bo];have o3:=c3.ob m2 o2 λq=>q;have c13:=c12.trans c3;cases h1:isA C.T [40] i with
   |true=>
    rw[if_pos (.inr h1)]at hP;simp only[Bool.not_true,aV];exact loop m3 p3 c13 o3 hP
   |false=>
    rw[if_neg (by rintro(q|q);exact g q;rw[h1]at q;cases q)]at hP;simp only[Bool.not_false,aU];have n3:S.n<S3.n:=m3.lt (by rw[o3];simp);refine O.simple k (by omega) hd m3 p3 (Post.tail hP c13.no (λ_ h=>h) λe j H6 S6 v m6 c6 p6 ⟨c,hv,hR⟩ hfin=>?_);subst hv;refine hV m6 (c6.ob m3 o3 gM) rfl hR.len hR.ones λH7 m7=>?_;refine fl m7 (LS.ay _ _ _) hR.len ?_;exact hfin H7 _ _ m7 ((c13.no.trans c6).set (.inr (Nat.le_refl _)) _) (p6.iw hp hM (Nat.le_refl _) _) ⟨c,rfl,hR.go (λb hb=>LS.aq _ _ (by have:=hb.1;omega)) λb hb=>⟨by have:=hb.1;omega,hb.2⟩⟩
end
section
variable {H:AH}{S:LS}{K:KF}{C:Ctx}{i d:Nat}
def z4:List AV:=[.int 0 (.ofNat 0),.str 0 0,.int 0 (.ofNat 0),.int 0 (.ofNat 0)]
theorem KA:∀a∈z4,a.one=true:=by
 intro a ha;simp only[z4,List.mem_cons,List.not_mem_nil,or_false]at ha;rcases ha with rfl|rfl|rfl|rfl<;>rfl
theorem Ao{T:List Tok}{i:Nat}:∀a∈eW T i,a.one=true:=by
 intro a ha;simp only[eW,List.mem_cons,List.not_mem_nil,or_false]at ha;rcases ha with rfl|rfl|rfl|rfl<;>rfl
theorem sO{T:List Tok}{s:List Nat}{i:Nat}(h:isA T s i=true):bC T i≠0:=by
 rw[Kx]at h;simp only[Bool.and_eq_true,Bool.or_eq_true,decide_eq_true_eq]at h;omega
theorem ajd{m n:Nat}(hpv:C.pv=.iface 57 (.agg []))(O:gL C m n):∀k,k≤n+1→nO C (s13 (m+1)).2.2.2.2.2.2.2.2.2.2.2.1 (dc C.T k):=by
 intro k hk K H S i d hd hM hp hP;cases k with
 |zero=>simp only[dc]at hP;exact False.elim hP
 |succ k=>
  have e:(s13 (m+1)).2.2.2.2.2.2.2.2.2.2.2.1=sr (im (s13 m)):=by rw[na]
  rw[e];have r1:(im (s13 m)).1=f23:=rfl;have r2:(im (s13 m)).2.1=f25:=rfl;have r3:(im (s13 m)).2.2.1=f56:=rfl;have r4:(im (s13 m)).2.2.2.1=f94:=rfl;have r5:(im (s13 m)).2.2.2.2.1=(s13 m).2.2.2.2.1:=rfl;have r6:(im (s13 m)).2.2.2.2.2.1=lC:=rfl;have r7:(im (s13 m)).2.2.2.2.2.2.1=(s13 m).2.2.2.2.2.2.2.1:=rfl;have r8:(im (s13 m)).2.2.2.2.2.2.2=(s13 m).2.2.2.2.2.2.2.2.2.2.2.2.2.2.1:=rfl;unfold sr MQ D3;rw[r1,r2,r3,r4,r5,r7,r8,gO];simp only[dc]at hP;have hbp:=hp.eJ hM;refine cn (b9 hM dm λH1 m1=>?_);have c1:aD cB S (S.push (.ce z7 0)):=(aD.refl _ _).push _;have o1:(S.push (.ce z7 0)).ob S.n=.ce z7 0:=LS.ak _ _;refine iY m1 (hp.no hM c1) λH2 S2 m2 c2 p2=>?_;rw[aA];have c12:=c1.trans c2;have o2:=c2.ob m1 o1 λq=>q;have n2:S.n<S2.n:=m2.lt (by rw[o2];simp);refine cn (b9 m2 KA λH3 m3=>?_);refine iu m3 (LS.ak S2 (.ce z4 0)) (by omega) rfl (by show 0+4≤4;omega) Ao λH4 m4=>?_;have m4:Mem H4 ((S2.push (.ce z4 0)).set S2.n (.ce (eW C.T i) 0)):=m4;have c4:aD cB S2 ((S2.push (.ce z4 0)).set S2.n (.ce (eW C.T i) 0)):=((aD.refl _ _).push _).set (.inr (Nat.le_refl _)) _;have KB:((S2.push (.ce z4 0)).set S2.n (.ce (eW C.T i) 0)).ob S2.n=.ce (eW C.T i) 0:=LS.ay _ _ _;have n4:((S2.push (.ce z4 0)).set S2.n (.ce (eW C.T i) 0)).n=S2.n+1:=rfl;have o4:=c4.ob m2 o2 λq=>q;have p4:=p2.no m2 c4;revert m4 c4 KB n4 o4 p4;generalize (S2.push (.ce z4 0)).set S2.n (.ce (eW C.T i) 0)=S4;intro m4 c4 KB n4 o4 p4;generalize S2.n=bT at n2 KB n4 ⊢;have c14:=c12.trans c4;simp only[bu,Nat.zero_add,gO];refine aG m4 KB (v:=.int 0 (aW C.T i:Int)) rfl ?_;rw[aR];refine cn (b9 m4 dm λH5 m5=>?_);generalize hC0:([.int 0 (.ofNat 0),.int 0 (aW C.T i:Int),.int 0 (.ofNat 0),.str 0 0,.int 0 (.ofNat 0),.ab,.ab]:List AV)=C0;have R0:RE S4 cB C0 (.mk 0 (aW C.T i) 0 [] 0 [] []):=by rw[←hC0];exact RE.simple B8.nil
  refine hV m5 (LS.ak _ _) rfl R0.len R0.ones λH6 m6=>?_;have F6:iK C S ((S4.push (.ce z7 0)).set S4.n (.ce C0 0)) S.n S4.n C0 (.mk 0 (aW C.T i) 0 [] 0 [] []):=iK.mk0 (C:=C) hbp rfl c14.no m4 o4 (R0.go (λ_ _=>rfl) λb hb=>hb.elim);have c6:aD cB S4 ((S4.push (.ce z7 0)).set S4.n (.ce C0 0)):=((aD.refl _ _).push _).set (.inr (Nat.le_refl _)) _;have p6:=p4.no m4 c6;have qt:=c6.ob m4 KB λq=>q;revert m6 F6 c6 p6 qt;generalize (S4.push (.ce z7 0)).set S4.n (.ce C0 0)=S6;intro m6 F6 c6 p6 qt;generalize hb3:S4.n=b3 at F6 ⊢;have nT:bT≠b3:=by omega
  have Ap:¬bL C bT:=λq=>by have q:bT=C.bp:=q;omega
  have gM:¬bL C S.n:=λq=>by have q:S.n=C.bp:=q;omega
  have adv:∀{H1:AH}{S1:LS}{c:List AV}{e:aE},Mem H1 S1→bH C S1 i d→bC C.T i≠0→iK C S S1 S.n b3 c e→Post C (bL C) d kE K S (.ok e (i+1))→uP (im (s13 m)) K (.ptr C.bp 0) (.ptr S.n 0) (.ptr b3 0) H1:=by
   intro H1 S1 c e m1 p1 hk F hP;unfold uP D2;simp only[dG,bu,Nat.zero_add];have hlt:=ld (i:=i) C.ok hk;have hfew:=C.few;refine aG m1 p1.ob (v:=.int 0 (i:Int)) rfl ?_;simp only[aR,gC,km];refine w0 (by omega) (by omega) ?_;refine bj m1 p1.ob (by omega) (by show 1<4;omega) rfl λH2 m2=>?_;exact(F.keep m1 hbp (aD.An (aD.refl _ _) _)).fin m2 hM hp (p1.set (e:=d) hlt) hP
  have agQ:∀{r:bF aE}{H1:AH}{S1:LS}{F:KF→Prop},Mem H1 S1→aD (bL C) S S1→S1.ob S.n=.ce z7 0→Post C (bL C) d kE K S r→
    (∀K',Post C (bL C) d kE K' S1 r→F K')→F (λo72 Vl=>cR K o72 Vl λv74=>ag 7 (.ptr S.n 0) v74 Vl λVm=>aQ 7 (.ptr S.n 0) Vm λv76=>K (.ret v76) Vm):=by
   intro r H1 S1 F m1 c1 o1 hP hF;have n1:S.n<S1.n:=m1.lt (by rw[o1];simp);refine hF _ (Post.tail hP c1 (λ_ h=>h) λe j H6 S6 v m6 c6 p6 ⟨c,hv,hR⟩ hfin=>?_);subst hv;refine hV m6 (c6.ob m1 o1 gM) rfl hR.len hR.ones λH7 m7=>?_;refine fl m7 (LS.ay _ _ _) hR.len ?_;exact hfin H7 _ _ m7 ((c1.trans c6).set (.inr (Nat.le_refl _)) _) (p6.iw hp hM (Nat.le_refl _) _) ⟨c,rfl,hR.go (λb hb=>LS.aq _ _ (by have:=hb.1;omega)) λb hb=>⟨by have:=hb.1;omega,hb.2⟩⟩
  have hkind:∀{k:Int→Prop},k (bC C.T i:Int)→aC (.ptr bT 0) H6 λv=>cI 0 v k:=λh=>aG m6 qt (v:=.int 0 (bC C.T i:Int)) rfl (by rw[aR];exact h);have e2:Int.ofNat 2=((2:Nat):Int):=rfl;have e3:Int.ofNat 3=((3:Nat):Int):=rfl;have e4:Int.ofNat 4=((4:Nat):Int):=rfl;subst hC0;refine hkind ?_;rw[cV,e3];by_cases g3:bC C.T i=3
  ·rw[if_pos g3]at hP;rw[decide_eq_true (by omega),aU];refine aG m6 qt (v:=.int 0 (nk C.T i:Int)) rfl ?_;rw[aR];refine bj (v:=.int 0 ((4:Nat):Int)) m6 F6.o3 (by omega) (by show 0<7;omega) rfl λH7 m7=>?_;have F7:=F6.lU (c':=[.int 0 ((4:Nat):Int),.int 0 (aW C.T i:Int),.int 0 ((0:Nat):Int),al [],.int 0 ((0:Nat):Int),.ab,.ab]) (e':=.mk 4 (aW C.T i) 0 [] 0 [] []) (Q:=cB) (RE.simple B8.nil) λb hb=>hb.elim;refine aG m7 ((LS.aq _ _ nT).trans qt) (v:=.int 0 (nk C.T i:Int)) rfl ?_;rw[aR];refine cv (ko _ _) ?_;refine bj (v:=.int 0 (nk C.T i:Int)) m7 F7.o3 (by omega) (by show 2<7;omega) rfl λH8 m8=>?_;have F8:=F7.lU (c':=[.int 0 ((4:Nat):Int),.int 0 (aW C.T i:Int),.int 0 (nk C.T i:Int),al [],.int 0 ((0:Nat):Int),.ab,.ab]) (e':=.mk 4 (aW C.T i) (nk C.T i) [] 0 [] []) (Q:=cB) (RE.simple B8.nil) λb hb=>hb.elim;exact adv m8 ((p6.iw hp hM F6.n3 _).iw hp hM F6.n3 _) (by omega) F8 hP
  rw[if_neg g3]at hP;rw[decide_eq_false (by omega),aV];refine hkind ?_;rw[cV,e4];by_cases g4:bC C.T i=4
  ·rw[if_pos g4]at hP;rw[decide_eq_true (by omega),aU];refine aG m6 qt (v:=al (dO C.T i)) rfl ?_;refine bj (v:=.int 0 ((5:Nat):Int)) m6 F6.o3 (by omega) (by show 0<7;omega) rfl λH7 m7=>?_;have F7:=F6.lU (c':=[.int 0 ((5:Nat):Int),.int 0 (aW C.T i:Int),.int 0 ((0:Nat):Int),al [],.int 0 ((0:Nat):Int),.ab,.ab]) (e':=.mk 5 (aW C.T i) 0 [] 0 [] []) (Q:=cB) (RE.simple B8.nil) λb hb=>hb.elim;refine aG m7 ((LS.aq _ _ nT).trans qt) (v:=al (dO C.T i)) rfl ?_;refine cv (qL _ _) ?_;refine bj m7 F7.o3 (by omega) (by show 3<7;omega) (iO _) λH8 m8=>?_;have F8:=F7.lU (c':=[.int 0 ((5:Nat):Int),.int 0 (aW C.T i:Int),.int 0 ((0:Nat):Int),al (dO C.T i),.int 0 ((0:Nat):Int),.ab,.ab]) (e':=.mk 5 (aW C.T i) 0 (dO C.T i) 0 [] []) (Q:=cB) (RE.simple (rJ C i)) λb hb=>hb.elim;exact adv m8 ((p6.iw hp hM F6.n3 _).iw hp hM F6.n3 _) (by omega) F8 hP
  rw[if_neg g4]at hP;rw[decide_eq_false (by omega),aV];refine hkind ?_;rw[cV,e2];by_cases g2:bC C.T i=2
  ·rw[if_pos g2]at hP;rw[decide_eq_true (by omega),aU];refine aG m6 qt (v:=al (dO C.T i)) rfl ?_;refine bj (v:=.int 0 ((6:Nat):Int)) m6 F6.o3 (by omega) (by show 0<7;omega) rfl λH7 m7=>?_;have F7:=F6.lU (c':=[.int 0 ((6:Nat):Int),.int 0 (aW C.T i:Int),.int 0 ((0:Nat):Int),al [],.int 0 ((0:Nat):Int),.ab,.ab]) (e':=.mk 6 (aW C.T i) 0 [] 0 [] []) (Q:=cB) (RE.simple B8.nil) λb hb=>hb.elim;refine aG m7 ((LS.aq _ _ nT).trans qt) (v:=al (dO C.T i)) rfl ?_;refine cv (qL _ _) ?_;refine bj m7 F7.o3 (by omega) (by show 3<7;omega) (iO _) λH8 m8=>?_;have F8:=F7.lU (c':=[.int 0 ((6:Nat):Int),.int 0 (aW C.T i:Int),.int 0 ((0:Nat):Int),al (dO C.T i),.int 0 ((0:Nat):Int),.ab,.ab]) (e':=.mk 6 (aW C.T i) 0 (dO C.T i) 0 [] []) (Q:=cB) (RE.simple (rJ C i)) λb hb=>hb.elim;exact adv m8 ((p6.iw hp hM F6.n3 _).iw hp hM F6.n3 _) (by omega) F8 hP
  rw[if_neg g2]at hP;rw[decide_eq_false (by omega),aV];have lone:∀{H1:AH}{S1:LS}{c:List AV}{e:aE}(kd:Nat) , jZ C.T i=kd→kd≠0→bC C.T i≠0→c=[.int 0 (.ofNat 0),.int 0 (aW C.T i:Int),.int 0 (.ofNat 0),.str 0 0,.int 0 (.ofNat 0),.ab,.ab]→Mem H1 S1→bH C S1 i d→iK C S S1 S.n b3 c e→
    ag 1 (.ptr b3 0) (.int 0 (kd:Int)) H1 λUA=>uP (im (s13 m)) K (.ptr C.bp 0) (.ptr S.n 0) (.ptr b3 0) UA:=by
   intro H1 S1 c e kd hkd hk0 hk1 hc m1 p1 F;rw[hkd,if_pos hk0]at hP;subst hc;refine bj m1 F.o3 (by omega) (by show 0<7;omega) rfl λH7 m7=>?_;have F7:=F.lU (c':=[.int 0 (kd:Int),.int 0 (aW C.T i:Int),.int 0 ((0:Nat):Int),al [],.int 0 ((0:Nat):Int),.ab,.ab]) (e':=.mk kd (aW C.T i) 0 [] 0 [] []) (Q:=cB) (RE.simple B8.nil) λb hb=>hb.elim;exact adv m7 (p1.iw hp hM F.n3 _) hk1 F7 hP
  refine pG (s:=[110,105,108]) (aZ (by decide)) m6 p6 λH7 S7 m7 c7 p7=>?_;simp only[aA,bo];have F7:=F6.keep m6 hbp c7.no;cases h1:isA C.T [110,105,108] i with
  |true=>
   rw[aU];exact lone 1 (by unfold jZ;rw[h1];rfl) (by omega) (sO h1) rfl m7 p7 F7
  |false=>
  rw[aV];refine pG (s:=[116,114,117,101]) (aZ (by decide)) m7 p7 λH8 S8 m8 c8 p8=>?_;simp only[aA,bo];have F8:=F7.keep m7 hbp c8.no;cases h2:isA C.T [116,114,117,101] i with
  |true=>
   rw[aU];exact lone 2 (by unfold jZ;rw[h1,h2];rfl) (by omega) (sO h2) rfl m8 p8 F8
  |false=>
  rw[aV];refine pG (s:=[102,97,108,115,101]) (aZ (by decide)) m8 p8 λH9 S9 m9 c9 p9=>?_;simp only[aA,bo];have F9:=F8.keep m8 hbp c9.no;cases h3:isA C.T [102,97,108,115,101] i with
  |true=>
   rw[aU];exact lone 3 (by unfold jZ;rw[h1,h2,h3];rfl) (by omega) (sO h3) rfl m9 p9 F9
  |false=>
  rw[aV];have hl0:jZ C.T i=0:=by unfold jZ;rw[h1,h2,h3];rfl
  rw[if_neg (by rw[hl0];exact λq=>q rfl)]at hP;have NS:=(c7.trans c8).trans c9;have oT9:=NS.ob m6 qt λq=>q;have o9:S9.ob S.n=.ce z7 0:=(c6.trans NS).ob m4 o4 λq=>q;have x9:aD (bL C) S S9:=F9.x;refine dz (s:=[102,117,110,99,116,105,111,110]) (aZ (by decide)) m9 p9 λHa Sa ma ca pa=>?_;simp only[aA,bo];have oTa:=ca.ob m9 oT9 Ap;have oa:=ca.ob m9 o9 gM;have Fa:=F9.keep m9 hbp ca;cases h4:isA C.T [102,117,110,99,116,105,111,110] i with
  |true=>
   simp only[h4,if_true]at hP pa;rw[aU];refine aG ma oTa (v:=.int 0 (aW C.T i:Int)) rfl ?_;rw[aR];exact agQ (F:=λK'=>(s13 m).2.2.2.2.2.2.2.1 (.ptr C.bp 0) (aW C.T i:Int) Ha K') ma Fa.x oa hP λK' h=>O.body k (by omega) hd ma pa h
  |false=>
  simp only[h4,Bool.false_eq_true,if_false]at hP pa;rw[aV];refine dz (s:=[123]) (aZ (by decide)) ma pa λHb Sb mb cb pb=>?_;simp only[aA,bo];have oTb:=cb.ob ma oTa Ap;have ob:=cb.ob ma oa gM;have Fb:=Fa.keep ma hbp cb;cases h5:isA C.T [123] i with
  |true=>
   simp only[h5,if_true]at hP pb;rw[aU];refine aG mb oTb (v:=.int 0 (aW C.T i:Int)) rfl ?_;rw[aR];exact agQ (F:=λK'=>(s13 m).2.2.2.2.2.2.2.2.2.2.2.2.2.2.1 (.ptr C.bp 0) (aW C.T i:Int) Hb K') mb Fb.x ob hP λK' h=>O.table k (by omega) hd mb pb h
  |false=>
  simp only[h5,Bool.false_eq_true,if_false]at hP pb;rw[aV];refine dz (s:=[40]) (aZ (by decide)) mb pb λHc Sc mc cc pc=>?_;simp only[aA,bo];have Fc:=Fb.keep mb hbp cc;cases h6:isA C.T [40] i with
  |true=>
   simp only[h6,if_true]at hP pc;rw[aU];refine O.exp k (by omega) hd mc pc (Post.call hP Fc.x (λ_ h=>h) λx j Hd Sd v md cd pd ⟨c,hv,hR⟩ hP2=>?_);subst hv;have Fd:=Fc.keep mc hbp cd;have n1c:S.n<Sc.n∧b3<Sc.n:=⟨by obtain⟨z,hz,_⟩:=Fc.o1;exact mc.lt (by rw[hz];simp),mc.lt (by rw[Fc.o3];simp)⟩
   refine hV md Fd.o3 Fd.len hR.len hR.ones λHe me=>?_;have Fe:=Fd.lU hR λb hb=>⟨by have:=hb.1;omega,hb.2,by have:=hb.1;omega,by have:=hb.1;omega⟩
   unfold D1 D0;rw[r6];refine gE (s:=[41]) hpv (aZ (by decide)) me (pd.iw hp hM Fd.n3 _) (Post.call (jy:=mD) hP2 Fe.x (λ_ h=>h) λ_ j' Hf Sf w mf cf pf _ hP3=>?_);exact(Fe.keep me hbp cf).fin mf hM hp pf hP3
  |false=>
  simp only[h6,Bool.false_eq_true,if_false]at hP pc;rw[aV];refine mW (c:=14) hpv mc pc λHd Sd md cd ed=>?_;rw[jJ];exact hP Hd Sd md (Fc.x.trans cd) ed
end
end Go.Proofs.YtcedghechlgecaaGreatDoor
namespace Go.X
section
variable {H:AH}{S:LS}
theorem cy.same{α:Type}{R:Rep α}{lo:Nat}{v:AV}{l:List α}(h:cy R lo S v l):aT v v=true:=by
 obtain⟨cl,h1,_⟩:=h;rcases h1 with⟨rfl,_⟩|⟨b,c,ex,cs,rfl,_⟩
 ·rfl
 ·simp[aT]
theorem cy.one{α:Type}{R:Rep α}{lo:Nat}{v:AV}{l:List α}(h:cy R lo S v l):v.one=true:=by
 obtain⟨cl,h1,_⟩:=h;rcases h1 with⟨rfl,_⟩|⟨b,c,ex,cs,rfl,_⟩<;>rfl
theorem cy.lo{α:Type}{R:Rep α}{lo:Nat}{v:AV}{l:List α}(h:cy R lo S v l){b:Nat}(hb:bd v b):lo≤b:=by
 obtain⟨_,_,_,h3,_⟩:=h;exact h3 b hb
theorem cy.ahP{α:Type}{R:Rep α}{lo:Nat}{v v':AV}{l l2:List α}{S':LS}{sR:List (List AV)}(h:cy R lo S v l)(h2l:sR.length=l2.length)(hr:∀(i:Nat) (c:List AV) (a:α),sR[i]? = some c→l2[i]? = some a→∃Q,R.rel S Q c a∧∀b,Q b→lo≤b∧b<S.n∧¬bd v b)(hlo:lo≤S.n)
  (hs:∀cl,eg S R.sz v l.length cl→sf S v (l.length+l2.length) R.sz (cl++sR.flatten) S' v'):cy R lo S' v' (l++l2):=by
 obtain⟨cl,h1,h2,h3,h4⟩:=h;obtain⟨a1,a2,a3,a4⟩:=hs _ h1;refine⟨cl++sR,?_,by simp[h2,h2l],λb hb'=>?_,λi c' a' hc ha=>?_⟩
 ·rw[List.flatten_append,List.length_append];exact a3
 ·rcases a4 b hb' with g|g
  ·exact h3 b g
  ·omega
 ·have fin:∀{Q:Nat→Prop}{c:List AV}{a:α},R.rel S Q c a→(∀b,Q b→lo≤b∧b<S.n∧¬bd v b)→∃Q,R.rel S' Q c a∧∀b,Q b→lo≤b∧b<S'.n∧¬bd v' b:=λ{Q c a} g1 g2=>
   ⟨Q,R.go (λb hb=>a2 b (g2 b hb).2.1 (g2 b hb).2.2) (λ_ h=>h) g1,λb hb=>⟨(g2 b hb).1,Nat.lt_of_lt_of_le (g2 b hb).2.1 a1,λhb'=>by
    rcases a4 b hb' with q|q
    ·exact(g2 b hb).2.2 q
    ·have:=(g2 b hb).2.1;omega⟩⟩
  by_cases hi:i<cl.length
  ·rw[List.getElem?_append_left hi]at hc;rw[List.getElem?_append_left (by omega)]at ha;obtain⟨Q,g1,g2⟩:=h4 i c' a' hc ha;exact fin g1 g2
  ·rw[List.getElem?_append_right (by omega)]at hc ha;rw[h2]at hc;obtain⟨Q,g1,g2⟩:=hr _ c' a' hc ha;exact fin g1 g2
theorem cy.ahQ{α:Type}{R:Rep α}{lo bytes:Nat}{v x:AV}{l l2:List α}{sR:Nat→List AV}{Q:Nat→Prop}{k:AV→AH→Prop}(h:cy R lo S v l)(hM:Mem H S)(h2:l2.length=2)(hx:cJ S Q R.sz x l2.length sR)(hr:∀i e,l2[i]? = some e→R.rel S Q (sR i) e)(hQ:∀b,Q b→lo≤b∧b<S.n∧¬bd v b)(hlo:lo≤S.n)(hl:(l.length+2)*bytes≤1099511627776)
  (hk:∀H' S' v',Mem H' S'→cy R lo S' v' (l++l2)→S.n≤S'.n→(∀b,b<S.n→¬bd v b→S'.ob b=S.ob b)→(∀b,bd v' b→bd v b∨S.n≤b)→k v' H'):ef R.sz bytes v x H k:=by
 obtain⟨cl,h1,hh⟩:=id h;have gt:∀i,i<l2.length→(sR i).length=R.sz∧∀a∈sR i,a.one=true:=λi hi=>by
  have g:=hr i _ (List.getElem?_eq_getElem hi);exact⟨R.len g,R.ones g⟩
 refine YP (n':=l2.length) hM h1 (.inl (by omega)) R.pos hx (λi hi=>(gt i hi).2) (by rw[h2];exact hl) λH' S' v' l' m' hl' hcl he=>?_;have el:l'=([sR 0,sR 1]:List (List AV)).flatten:=by
  have e0:=hcl 0 (by omega);have e1:=hcl 1 (by omega);rw[Nat.zero_mul,List.drop_zero]at e0;rw[Nat.one_mul,List.take_of_length_le (by rw[List.length_drop];rw[h2]at hl';omega)]at e1;rw[←e0,←e1];simp
 refine hk H' S' v' m' (h.ahP (sR:=[sR 0,sR 1]) (by rw[h2];rfl) (λi c a hc ha=>?_) hlo λcl' h'=>?_) he.1 he.2.1 he.2.2.2
 ·have hi:i<l2.length:=(List.getElem?_eq_some_iff.1 ha).1;have ec:c=sR i:=by
   have hi2:i=0∨i=1:=by omega
   rcases hi2 with rfl|rfl<;>(simp at hc;exact hc.symm)
  subst ec;exact⟨Q,hr i a ha,hQ⟩
 ·have e:cl'=cl.flatten:=by
   rcases h1 with⟨e1,e2,e3⟩|⟨b,c1,ex,cs,e1,e2,e3,e4,e5,e6,e7⟩
   ·rcases h' with⟨_,_,g3⟩|⟨b',c1',ex',cs',g1,_⟩
    ·rw[g3,e3]
    ·rw[e1]at g1;cases g1
   ·rcases h' with⟨g1,_⟩|⟨b',c1',ex',cs',g1,g2,g3,g4,g5,g6,g7⟩
    ·rw[e1]at g1;cases g1
    ·rw[e1]at g1;injection g1 with q1;subst q1;rw[e2]at g2;injection g2 with q2;rw[←g6,←e6,g5,e5,q2]
  rw[e,←el];exact he
theorem Post.ahR{C:Ctx}{X Y:Nat→Prop}{S S1:LS}{K:KF}{d d1:Nat}{α β:Type}{jy:LS→(Nat→Prop)→AV→α→Prop}{YH:LS→(Nat→Prop)→AV→β→Prop}{r1:bF α}{f:α→Nat→bF β}(h:Post C X d YH K S (r1.bind f))(hx:aD X S S1)(hX:∀b,Y b→X b∨S.n≤b){k:AV→AH→Prop}
  (hk:∀a j H' S' v,r1=.ok a j→Mem H' S'→aD Y S1 S'→bH C S' j d1→jy S' (eI S1.n S'.n) v a→Post C X d YH K S (f a j)→k v H'):Post C Y d1 jy (λo H=>cR K o H λv=>k v H) S1 r1:=by
 cases r1 with
 |ok a j=>exact λH' S' v m c p q=>hk a j H' S' v rfl m c p q h
 |err c j=>exact λH' S' m ch p=>h H' S' m (hx.iW ch hX) p
 |bW=>exact h
theorem bind_ok{α β:Type}{r:bF α}{f:α→Nat→bF β}{b:β}{j:Nat}(h:r.bind f=.ok b j):∃a i,r=.ok a i∧f a i=.ok b j:=by
 cases r with
 |ok a i=>exact⟨a,i,rfl,h⟩
 |err c i=>cases h
 |bW=>cases h
theorem YQ(T:List Tok)(n c i d:Nat)(r:List aE×Nat)(j:Nat)(h:dJ T n c i d=.ok r j):r.1.length=2∧r.2≤c+1:=by
 cases n with
 |zero=>simp only[dJ]at h;cases h
 |succ n=>
  simp only[dJ]at h;split at h
  ·obtain⟨_,_,_,h⟩:=bind_ok h;obtain⟨_,_,_,h⟩:=bind_ok h;obtain⟨_,_,_,h⟩:=bind_ok h;obtain⟨_,_,_,h⟩:=bind_ok h;cases h;exact⟨rfl,Nat.le_succ _⟩
  ·split at h
   ·obtain⟨_,_,_,h⟩:=bind_ok h;cases h;exact⟨rfl,Nat.le_succ _⟩
   ·obtain⟨_,_,_,h⟩:=bind_ok h;cases h;exact⟨rfl,Nat.le_refl _⟩
end
end Go.X
namespace Go.Proofs.YtcedghechlgecaaGreatDoor
open Go Go.X Go.Proofs.YtcedghechlgecaaGreatDoor.G
section
variable {H:AH}{S:LS}{K:KF}{C:Ctx}{i d:Nat}
def qz(a:Nat)(v:AV):List AV:=[.int 0 ((8:Nat):Int),.int 0 (a:Int),.int 0 ((0:Nat):Int),al [],.int 0 ((0:Nat):Int),v,.ab]
structure wE(C:Ctx)(S0 S:LS)(a c:Nat)(v:AV)(out:List aE):Prop where
 x:aD (bL C) S0 S
 o1:S.ob S0.n=.ce z7 0
 o3:S.ob (S0.n+1)=.ce (qz a v) 0
 on:S.ob (S0.n+2)=.ce [.int 0 (c:Int)] 0
 n:S0.n+3≤S.n
 L:cy kA (S0.n+3) S v out
theorem wE.keep{S0 S':LS}{a c:Nat}{v:AV}{out:List aE}(h:wE C S0 S a c v out)(hM:Mem H S)(hbp:C.bp<S0.n)(g:aD (bL C) S S'):wE C S0 S' a c v out:=by
 have nb:∀b,S0.n≤b→¬bL C b:=λb hb q=>by have q:b=C.bp:=q;omega
 exact⟨h.x.trans g,g.ob hM h.o1 (nb _ (Nat.le_refl _)),g.ob hM h.o3 (nb _ (by omega)),g.ob hM h.on (nb _ (by omega)),Nat.le_trans h.n g.1,h.L.keep hM g.1 λb h1 h2=>g.2 b h2 (nb b (by omega))⟩
theorem wE.fr{S0:LS}{a c:Nat}{v:AV}{out:List aE}(h:wE C S0 S a c v out)(hM:Mem H S):iK C S0 S S0.n (S0.n+1) (qz a v) (.mk 8 a 0 [] 0 out []):=by
 obtain⟨cl,g1,g2⟩:=h.L.done hM;exact⟨h.x,⟨z7,h.o1,rfl⟩,h.o3,Nat.le_refl _,by omega,by omega,eI (S0.n+3) S.n,.mk 8 a 0 [] 0 out [] v .ab cl (λ_=>[]) B8.nil g1 g2 (cJ.nil _ _ _ _) (λi e h=>by simp at h),λb hb=>⟨by have:=hb.1;omega,hb.2,by have:=hb.1;omega,by have:=hb.1;omega⟩⟩
theorem aje{m n:Nat}(hpv:C.pv=.iface 57 (.agg []))(O:gL C m n){S0:LS}{H0:AH}{i0 a:Nat}(hd:d≤200)(hM0:Mem H0 S0)(hp0:bH C S0 i0 d):∀k,k≤n+1→∀(q i c:Nat) (out:List aE) (v:AV) (H:AH) (S:LS),k≤q→out.length≤128→out.length%2=0→c≤out.length→Mem H S→bH C S i d→wE C S0 S a c v out→Post C (bL C) d kE K S0 (dh C.T k out c a i d)→
  rv (gj (s13 m)) K q (.ptr C.bp 0) (.ptr S0.n 0) (.ptr (S0.n+1) 0) (.ptr (S0.n+2) 0) H:=by
 intro k
 induction k with
 |zero=>intro _ q i c out v H S _ _ _ _ _ _ _ hP;simp only[dh]at hP;exact False.elim hP
 |succ k ih=>
  intro hk q i c out v H S hq h128 hev hc hM hp t hP;obtain⟨q,rfl⟩:∃p,q=p+1:=⟨q-1,by omega⟩
  have r1:(gj (s13 m)).1=f25:=rfl;have r2:(gj (s13 m)).2.1=f56:=rfl;have r3:(gj (s13 m)).2.2.1=f94:=rfl;have r4:(gj (s13 m)).2.2.2.1=lC:=rfl;have r5:(gj (s13 m)).2.2.2.2=(s13 m).2.2.2.2.2.2.2.2.2.2.2.2.2.2.2.2.1:=rfl;have hbp:=hp0.eJ hM0;show yJ (gj (s13 m)) K (yI (gj (s13 m)) K (rv (gj (s13 m)) K q) (ru (gj (s13 m)) K)) (ru (gj (s13 m)) K) (.ptr C.bp 0) (.ptr S0.n 0) (.ptr (S0.n+1) 0) (.ptr (S0.n+2) 0) H;unfold yJ;rw[r1,r3];simp only[dh]at hP;have stop:∀{H1:AH}{S1:LS}{i c:Nat}{v:AV}{out:List aE},Mem H1 S1→bH C S1 i d→wE C S0 S1 a c v out→Post C (bL C) d kE K S0 ((cC C.T [125] i).bind λ_ j=>.ok (.mk 8 a 0 [] 0 out []) j)→ru (gj (s13 m)) K (.ptr C.bp 0) (.ptr S0.n 0) (.ptr (S0.n+1) 0) H1:=by
   intro H1 S1 i c v out m1 p1 t1 hP;unfold ru;rw[r4];have F1:=t1.fr m1;refine gE (s:=[125]) hpv (aZ (by decide)) m1 p1 (Post.call (jy:=mD) hP F1.x (λ_ h=>h) λ_ j H2 S2 w m2 c2 p2 _ hP2=>?_);exact(F1.keep m1 hbp c2).fin m2 hM0 hp0 p2 hP2
  refine pG (s:=[125]) (aZ (by decide)) hM hp λH1 S1 m1 c1 p1=>?_;simp only[aA,bo];have t1:=t.keep hM hbp c1.no;cases h1:isA C.T [125] i with
  |true=>
   simp only[h1,if_true]at hP;simp only[Bool.not_true,aV];exact stop m1 p1 t1 (by unfold cC;rw[h1];exact hP)
  |false=>
   simp only[h1,Bool.false_eq_true,if_false]at hP;simp only[Bool.not_false,aU,bu,Nat.zero_add];refine aG m1 t1.o3 (v:=v) rfl ?_;refine t1.L.Sr ?_;have e128:Int.ofNat 128=((128:Nat):Int):=rfl;rw[aR,cV,e128];by_cases h2:out.length=128
   ·rw[if_pos h2]at hP;rw[decide_eq_true (by omega),aU];refine mW (c:=8) hpv m1 p1 λH2 S2 m2 c2 e2=>?_;rw[jJ];exact hP H2 S2 m2 (t1.x.trans c2) e2
   ·rw[if_neg h2]at hP;rw[decide_eq_false (by omega),aV];unfold yI;rw[r2,r5];simp only[bu,Nat.zero_add];refine aG m1 t1.o3 (v:=v) rfl ?_;have mK:∀b,bd C.vT b→b<S0.n:=λb hb=>hp0.tk.lt hM0 hb;refine O.field k (by omega) (c:=c) (bn:=S0.n+2) hd (by omega) m1 p1 t1.on (by omega) (λb hb=>by have:=mK b hb;omega) (Post.ahR hP t1.x (λb hb=>by
     rcases hb with hb|hb
     ·exact .inl hb
     ·exact .inr (by omega)) λr j H2 S2 w e2 m2 c2 p2 ⟨⟨cl,hsl,hre⟩,hcn⟩ hP2=>?_)
    have hn2:=c2.1;have hn1:=t1.n;have nx:∀b,S0.n≤b→b≠S0.n+2→¬fF C (S0.n+2) b:=λb h1 h2 q=>by
     rcases q with q|q
     ·omega
     ·exact h2 q
    have o3:=c2.ob m1 t1.o3 (nx _ (by omega) (by omega));have o1:=c2.ob m1 t1.o1 (nx _ (by omega) (by omega));obtain⟨hr2,hrc⟩:=YQ _ _ _ _ _ _ _ e2;have L2:cy kA (S0.n+3) S2 v out:=t1.L.keep m1 c2.1 λb h1 h2=>c2.2 b h2 (nx b (by omega) (by omega));refine aG m2 o3 (v:=v) rfl ?_;refine cv L2.same ?_;refine L2.ahQ (R:=kA) (bytes:=96) m2 hr2 hsl hre (λb hb=>⟨by have:=hb.1;omega,hb.2,λq=>by have:=t1.L.lt m1 q;have:=hb.1;omega⟩) (by omega) (by omega) λH3 S3 v' m3 L3 n3 k3 b3=>?_;have c3:aD (λb=>bd v b) S2 S3:=⟨n3,λb hb hx=>k3 b hb hx⟩
    have nv:∀b,b<S0.n+3→¬bd v b:=λb hb q=>by have:=t1.L.lo q;omega
    refine bj m3 (c3.ob m2 o3 (nv _ (by omega))) (by omega) (by show 5<7;omega) L3.one λH4 m4=>?_;have m4:Mem H4 (S3.set (S0.n+1) (.ce (qz a v') 0)):=m4;have p4:bH C (S3.set (S0.n+1) (.ce (qz a v') 0)) j d:=(p2.keep m2 c3 (nv _ (by omega)) (λb hb q=>nv b (by have:=mK b hb;omega) q)).iw hp0 hM0 (by omega) _;have x2:aD (bL C) S0 S2:=t1.x.iW c2 λb hb=>by
     rcases hb with hb|hb
     ·exact .inl hb
     ·exact .inr (by omega)
    have x3:aD (bL C) S0 S3:=x2.iW c3 λb hb=>.inr (by have:=t1.L.lo hb;omega);have t4:wE C S0 (S3.set (S0.n+1) (.ce (qz a v') 0)) a r.2 v' (out++r.1):=
     ⟨x3.set (.inr (by omega)) _,(LS.aq _ _ (by omega)).trans (c3.ob m2 o1 (nv _ (by omega))),LS.ay _ _ _,(LS.aq _ _ (by omega)).trans (c3.ob m2 hcn (nv _ (by omega))),Nat.le_trans hn1 (Nat.le_trans hn2 n3),L3.keep m3 (Nat.le_refl _) λb h1 h2=>LS.aq _ _ (by omega)⟩
    have hlen:(out++r.1).length=out.length+2:=by rw[List.length_append,hr2]
    have go:∀{H5:AH}{S5:LS},Mem H5 S5→bH C S5 (j+1) d→aD (bL C) (S3.set (S0.n+1) (.ce (qz a v') 0)) S5→Post C (bL C) d kE K S0 (dh C.T k (out++r.1) r.2 a (j+1) d)→rv (gj (s13 m)) K q (.ptr C.bp 0) (.ptr S0.n 0) (.ptr (S0.n+1) 0) (.ptr (S0.n+2) 0) H5:=λ{H5 S5} m5 p5 c5 hP=>ih (by omega) q (j+1) r.2 (out++r.1) v' H5 S5 (by omega) (by omega) (by omega) (by omega) m5 p5 (t4.keep m4 hbp c5) hP;refine dz (s:=[44]) (aZ (by decide)) m4 p4 λH5 S5 m5 c5 p5=>?_;simp only[aA,bo];cases h3:isA C.T [44] j with
    |true=>
     rw[if_pos (.inl h3)]at hP2;simp only[h3,if_true]at p5;simp only[Bool.not_true,aV];exact go m5 p5 c5 hP2
    |false=>
     simp only[h3,Bool.false_eq_true,if_false]at p5;simp only[Bool.not_false,aU];refine dz (s:=[59]) (aZ (by decide)) m5 p5 λH6 S6 m6 c6 p6=>?_;simp only[aA,bo];cases h4:isA C.T [59] j with
     |true=>
      rw[if_pos (.inr h4)]at hP2;simp only[h4,if_true]at p6;simp only[Bool.not_true,aV];exact go m6 p6 (c5.trans c6) hP2
     |false=>
      rw[if_neg (by rintro(q|q);rw[h3]at q;cases q;rw[h4]at q;cases q)]at hP2;simp only[h4,Bool.false_eq_true,if_false]at p6;simp only[Bool.not_false,aU];exact stop m6 p6 ((t4.keep m4 hbp c5).keep m5 hbp c6) hP2
theorem aaV{a:Nat}:∀x∈qz a .ab,x.one=true:=λx hx=>(RE.simple (S:=⟨0,λ_=>.ce [] 0⟩) (Q:=cB) (kind:=8) (at_:=a) (n:=0) (op:=0) B8.nil).ones x hx
theorem ajf{m n:Nat}(hn:n≤900000)(hpv:C.pv=.iface 57 (.agg []))(O:gL C m n):∀k,k≤n+1→∀{K:KF}{H:AH}{S:LS}{i d a:Nat},d≤200→Mem H S→bH C S i d→Post C (bL C) d kE K S (dh C.T k [] 0 a i d)→(s13 (m+1)).2.2.2.2.2.2.2.2.2.2.2.2.2.2.1 (.ptr C.bp 0) (a:Int) H K:=by
 intro k hk K H S i d a hd hM hp hP;have e:(s13 (m+1)).2.2.2.2.2.2.2.2.2.2.2.2.2.2.1=sw (gj (s13 m)):=by rw[na]
 rw[e];unfold sw M0 Ea;have gv:G.NL=1000000:=rfl;generalize G.NL=iV at gv ⊢;rw[gO];refine cn (b9 hM dm λH1 m1=>?_);rw[gO];refine cn (b9 m1 dm λH2 m2=>?_);refine hV m2 (c:=qz a .ab) (LS.ak _ _) rfl rfl aaV λH3 m3=>?_;refine cn (b9 m3 (λx hx=>?_) λH4 m4=>?_)
 ·simp only[List.mem_cons,List.not_mem_nil,or_false]at hx;subst hx;rfl
 refine bj (v:=.int 0 ((0:Nat):Int)) m4 (LS.ak _ _) (by omega) (by show 0<1;omega) rfl λH5 m5=>?_;have c1:aD cB S (S.push (.ce z7 0)):=(aD.refl _ _).push _;have c3:aD cB (S.push (.ce z7 0)) (((S.push (.ce z7 0)).push (.ce z7 0)).set (S.n+1) (.ce (qz a .ab) 0)):=((aD.refl _ _).push _).set (.inr (Nat.le_refl _)) _;have c5:aD cB (((S.push (.ce z7 0)).push (.ce z7 0)).set (S.n+1) (.ce (qz a .ab) 0)) (((((S.push (.ce z7 0)).push (.ce z7 0)).set (S.n+1) (.ce (qz a .ab) 0)).push (.ce [.int 0 (.ofNat 0)] 0)).set (S.n+2) (.ce [.int 0 ((0:Nat):Int)] 0)):=((aD.refl _ _).push _).set (.inr (Nat.le_refl _)) _;have t:wE C S (((((S.push (.ce z7 0)).push (.ce z7 0)).set (S.n+1) (.ce (qz a .ab) 0)).push (.ce [.int 0 (.ofNat 0)] 0)).set (S.n+2) (.ce [.int 0 ((0:Nat):Int)] 0)) a 0 .ab []:=
  ⟨((c1.trans c3).trans c5).no,(c3.trans c5).ob m1 (LS.ak _ _) (λq=>q),c5.ob m3 (LS.ay _ _ _) (λq=>q),LS.ay _ _ _,Nat.le_refl _,cy.nil _ _ _⟩
 exact aje hpv O hd hM hp k hk iV i 0 [] .ab H5 _ (by omega) (by simp) (by simp) (by simp) m5 (hp.no hM ((c1.trans c3).trans c5)) t hP
end
end Go.Proofs.YtcedghechlgecaaGreatDoor
namespace Go.X
theorem agR{a b:Nat}{k:AV→Prop}(h:∀z:Nat,(z=a∧a<b∨z=b∧b≤a)→k (.int 0 (z:Int))):yg Gq [.int 0 (a:Int)] (.int 0 (b:Int)) k:=by
 show bI (cE (a:Int) (b:Int)) (k (.int 0 (a:Int))) (k (.int 0 (b:Int)));rw[di];exact cH (λg=>h a (.inl ⟨rfl,by omega⟩)) (λg=>h b (.inr ⟨rfl,by omega⟩))
theorem agS{a b c d e f g:AV}{l z:List AV}(hl:l.length=7)(hz:z.length=7):spl l (a::b::c::d::e::f::g::z) 7=[a,b,c,d,e,f,g]++l:=by
 match l,hl,z,hz with
 |[_,_,_,_,_,_,_],_,[_,_,_,_,_,_,_],_=>rfl
end Go.X
namespace Go.Proofs.YtcedghechlgecaaGreatDoor
open Go Go.X Go.Proofs.YtcedghechlgecaaGreatDoor.G
section
variable {H:AH}{S:LS}{K:KF}{C:Ctx}{i d:Nat}
theorem _root_.Go.X.aD.two{S S':LS}{bn:Nat}(h:aD (bL C) S S'):aD (fF C bn) S S':=h.mono λ_ g=>.inl g
theorem fz{S S1:LS}{H1:AH}{bn c j:Nat}{ca cb:List AV}{x y:aE}{Q:Nat→Prop}(hM:Mem H S)(hp:bH C S i d)(m1:Mem H1 S1)(p1:bH C S1 j d)(x1:aD (fF C bn) S S1)(ha:RE S1 Q ca x)(hb:RE S1 Q cb y)(hQ:∀b,Q b→S.n≤b∧b<S1.n)(on:S1.ob bn=.ce [.int 0 (c:Int)] 0)
  (hP:Post C (fF C bn) d (rvF bn) K S (.ok ([x,y],c) j)):bY (aP H1) 2 7 (ca++cb) λv30 oj=>bT (Nat.beq oj.n (Nat.succ H1.n)) (K (.ret v30) oj):=by
 refine dP m1 (by rw[List.length_append,ha.len,hb.len]) (λa h=>?_) λH2 m2=>cv (qy (by rw[m2.n,m1.n];rfl)) ?_
 ·rcases List.mem_append.1 h with g|g
  ·exact ha.ones a g
  ·exact hb.ones a g
 have c2:aD cB S1 (S1.push (.ce (ca++cb) 0)):=(aD.refl _ _).push _;have go:∀{c:List AV}{e:aE},RE S1 Q c e→RE (S1.push (.ce (ca++cb) 0)) (eI S.n (S1.push (.ce (ca++cb) 0)).n) c e:=λh=>h.go (λb hb=>LS.cj _ _ (hQ b hb).2) λb hb=>⟨(hQ b hb).1,Nat.lt_succ_of_lt (hQ b hb).2⟩
 refine hP H2 _ _ m2 (x1.trans c2.no) (p1.no m1 c2) ⟨⟨_,cJ.two (b:=S1.n) (m:=0) (ex:=true) ⟨x1.1,Nat.lt_succ_self _⟩ (LS.ak _ _) ha.len hb.len,λi e h=>?_⟩,c2.ob m1 on λq=>q⟩
 match i,h with
 |0,h=>
  have e1:x=e:=by simpa using h
  subst e1;exact go ha
 |1,h=>
  have e1:y=e:=by simpa using h
  subst e1;exact go hb
 |i+2,h=>simp at h
theorem ajg{m n:Nat}(hpv:C.pv=.iface 57 (.agg []))(O:gL C m n):∀k,k≤n+1→∀{K:KF}{H:AH}{S:LS}{i d c bn:Nat},d≤200→c≤1000→Mem H S→bH C S i d→S.ob bn=.ce [.int 0 (c:Int)] 0→bn≠C.bp→(∀b,bd C.vT b→b≠bn)→Post C (fF C bn) d (rvF bn) K S (dJ C.T k c i d)→(s13 (m+1)).2.2.2.2.2.2.2.2.2.2.2.2.2.2.2.2.1 (.ptr C.bp 0) (.ptr bn 0) H K:=by
 intro k hk K H S i d c bn hd hc hM hp ho hbn dT hP;cases k with
 |zero=>simp only[dJ]at hP;exact False.elim hP
 |succ k=>
  have e:(s13 (m+1)).2.2.2.2.2.2.2.2.2.2.2.2.2.2.2.2.1=sx (kP (s13 m)):=by rw[na]
  rw[e];have r1:(kP (s13 m)).1=f23:=rfl;have r2:(kP (s13 m)).2.1=f56:=rfl;have r3:(kP (s13 m)).2.2.1=(s13 m).2.2.2.2.1:=rfl;have r4:(kP (s13 m)).2.2.2=lC:=rfl;unfold sx M4 En;rw[r1,r2,r3,r4];simp only[dJ]at hP;have hbp:=hp.eJ hM;have aj4:bn<S.n:=hM.lt (by rw[ho];simp);have nbn:¬bL C bn:=λq=>hbn (by have q:bn=C.bp:=q;exact q);have hfew:=C.few;refine iY hM hp λH1 S1 m1 c1 p1=>?_;rw[aA];refine cn (b9 m1 KA λH2 m2=>?_);refine iu m2 (LS.ak S1 (.ce z4 0)) (by omega) rfl (by show 0+4≤4;omega) Ao λH3 m3=>?_;have m3:Mem H3 ((S1.push (.ce z4 0)).set S1.n (.ce (eW C.T i) 0)):=m3;have c3:aD cB S1 ((S1.push (.ce z4 0)).set S1.n (.ce (eW C.T i) 0)):=((aD.refl _ _).push _).set (.inr (Nat.le_refl _)) _;have YR:((S1.push (.ce z4 0)).set S1.n (.ce (eW C.T i) 0)).ob S1.n=.ce (eW C.T i) 0:=LS.ay _ _ _;have p3:=p1.no m1 c3;have c13:=c1.trans c3;have hbT:S.n≤S1.n:=c1.1;revert m3 c3 YR p3 c13;generalize (S1.push (.ce z4 0)).set S1.n (.ce (eW C.T i) 0)=S3;intro m3 c3 YR p3 c13;generalize S1.n=bT at hbT YR ⊢;have on3:=c13.ob hM ho λq=>q;have Ap:¬bL C bT:=λq=>by have q:bT=C.bp:=q;omega
  refine dz (s:=[91]) (aZ (by decide)) m3 p3 λH4 S4 m4 c4 p4=>?_;simp only[aA,bo];have x4:aD (bL C) S S4:=c13.no.trans c4;have NT:=c4.ob m3 on3 nbn;have KB:=c4.ob m3 YR Ap;have aaW:∀b,S.n≤b→¬bL C b:=λb hb q=>by have q:b=C.bp:=q;omega
  cases h1:isA C.T [91] i with
  |true=>
   simp only[h1,if_true]at hP p4;rw[aU];refine O.exp k (by omega) hd m4 p4 (Post.call hP (x4.two (bn:=bn)) (λ_ h=>.inl h) λx j H5 S5 v m5 c5 p5 ⟨ca,hv,hR⟩ hP2=>?_);subst hv;simp only[gO];refine cn (b9 m5 dm λH6 m6=>?_);refine hV m6 (LS.ak _ _) rfl hR.len hR.ones λH7 m7=>?_;have c7:aD cB S5 ((S5.push (.ce z7 0)).set S5.n (.ce ca 0)):=((aD.refl _ _).push _).set (.inr (Nat.le_refl _)) _;have x7:aD (bL C) S ((S5.push (.ce z7 0)).set S5.n (.ce ca 0)):=(x4.trans c5).trans c7.no;refine gE (s:=[93]) hpv (aZ (by decide)) m7 (p5.no m5 c7) (Post.call (jy:=mD) hP2 (x7.two (bn:=bn)) (λ_ h=>.inl h) λ_ j8 H8 S8 w m8 c8 p8 _ hP3=>?_);refine gE (s:=[61]) hpv (aZ (by decide)) m8 p8 (Post.call (jy:=mD) hP3 ((x7.trans c8).two (bn:=bn)) (λ_ h=>.inl h) λ_ j9 H9 S9 w m9 c9 p9 _ xS=>?_);have c79:=c8.trans c9;have n5:S.n≤S5.n:=Nat.le_trans x4.1 c5.1;have o9:=c79.ob m7 (LS.ay (S5.push (.ce z7 0)) S5.n (.ce ca 0)) (aaW _ n5);refine fl m9 o9 hR.len ?_;have x9:=x7.trans c79;refine O.exp k (by omega) hd m9 p9 (Post.call xS (x9.two (bn:=bn)) (λ_ h=>.inl h) λy j' Ha Sa v ma ca' pa ⟨cb,hv,hR2⟩ NU=>?_);subst hv;have oa:=ca'.ob m9 o9 (aaW _ n5);refine fl ma oa hR.len ?_;refine cv hR.same ?_;refine ma.cS ?_;rw[fO];refine gq hR.len ?_;rw[fO];refine gq hR2.len ?_;rw[R7 hR.len hR2.len rfl];have c5a:aD (bL C) S5 Sa:=(c7.no.trans c79).trans ca';refine fz (c:=c) (Q:=eI S.n Sa.n) hM hp ma pa ((x9.trans ca').two (bn:=bn)) (hR.go (λb hb=>c5a.2 b hb.2 (aaW b (Nat.le_trans x4.1 hb.1))) λb hb=>⟨Nat.le_trans x4.1 hb.1,Nat.lt_of_lt_of_le hb.2 c5a.1⟩) (hR2.go (λ_ _=>rfl) λb hb=>⟨Nat.le_trans x9.1 hb.1,hb.2⟩) (λb hb=>hb) ?_ NU;exact(x9.trans ca').ob hM ho nbn
  |false=>
   simp only[h1,Bool.false_eq_true,if_false]at hP p4;rw[aV];simp only[dG,bu,Nat.zero_add];have hlt:=p4.lt;refine aG m4 p4.ob (v:=C.vT) rfl ?_;refine aG m4 p4.ob (v:=.int 0 (i:Int)) rfl ?_;simp only[aR,gC,km];refine w0 (by omega) (by omega) ?_;refine aG m4 p4.ob (v:=C.vT) rfl ?_;refine p4.tk.len ?_;simp only[aR,Z1,km];refine w0 (by omega) (by omega) ?_;rw[show((C.T.length:Nat):Int)-1=((C.T.length-1:Nat):Int) by omega,show((i:Nat):Int)+1=((i+1:Nat):Int) by omega];refine agR λu hu=>?_;rw[aR];have agT:u<C.T.length:=by omega
   have hui:bC C.T i=2→u=i+1:=λg=>by have:=ld (i:=i) C.ok (by omega);omega
   refine p4.tk.load m4 agT ?_;rw[Al agT];refine m4.cS ?_;refine cn (b9 m4 KA λH5 m5=>cv (qy (by rw[m5.n,m4.n];rfl)) ?_);refine iu m5 (LS.ak S4 (.ce z4 0)) (by omega) rfl (by show 0+4≤4;omega) Ao λH6 KC=>?_;have m6:Mem H6 ((S4.push (.ce z4 0)).set S4.n (.ce (eW C.T u) 0)):=KC;clear KC;have c6:aD cB S4 ((S4.push (.ce z4 0)).set S4.n (.ce (eW C.T u) 0)):=((aD.refl _ _).push _).set (.inr (Nat.le_refl _)) _;have YS:((S4.push (.ce z4 0)).set S4.n (.ce (eW C.T u) 0)).ob S4.n=.ce (eW C.T u) 0:=LS.ay _ _ _;have qt:=c6.ob m4 KB λq=>q;have wN:=c6.ob m4 NT λq=>q;have p6:=p4.no m4 c6;have x6:=x4.trans c6.no;revert m6 c6 YS qt wN p6 x6;generalize (S4.push (.ce z4 0)).set S4.n (.ce (eW C.T u) 0)=S6;intro m6 c6 YS qt wN p6 x6;generalize S4.n=bU at YS ⊢;have aka:=qt;have third:Post C (fF C bn) d (rvF bn) K S ((de C.T k i d).bind λv j=>.ok ([.mk 4 (aW C.T i) (c+1) [] 1 [] [],v],c+1) j)→yL (kP (s13 m)) K (.ptr C.bp 0) (.ptr bn 0) (.ptr bT 0) H6:=by
    intro hP;unfold yL Ek;rw[r3];refine O.exp k (by omega) hd m6 p6 (Post.call hP (x6.two (bn:=bn)) (λ_ h=>.inl h) λx j H7 S7 v m7 c7 p7 ⟨ca,hv,hR⟩ hP2=>?_);subst hv;rw[gO];refine cn (b9 m7 dm λH8 m8=>?_);refine hV m8 (LS.ak _ _) rfl hR.len hR.ones λH9 m9=>?_;have c9:aD cB S7 ((S7.push (.ce z7 0)).set S7.n (.ce ca 0)):=((aD.refl _ _).push _).set (.inr (Nat.le_refl _)) _;have NS:=c7.trans c9.no;have on9:=NS.ob m6 wN nbn;have oT9:=NS.ob m6 qt Ap;have o9:LS.ob _ S7.n=_:=LS.ay (S7.push (.ce z7 0)) S7.n (.ce ca 0);have p9:=p7.no m7 c9;have x9:=x6.trans NS;have n7:S.n≤S7.n:=Nat.le_trans x6.1 c7.1;simp only[dG,bu,Nat.zero_add];refine aG m9 on9 (v:=.int 0 (c:Int)) rfl ?_;simp only[aR,gC,km];refine w0 (by omega) (by omega) ?_;rw[show((c:Nat):Int)+1=((c+1:Nat):Int) by omega];refine bj (v:=.int 0 ((c+1:Nat):Int)) m9 on9 (by omega) (by show 0<1;omega) rfl λHa ma=>?_;have ma:Mem Ha (((S7.push (.ce z7 0)).set S7.n (.ce ca 0)).set bn (.ce [.int 0 ((c+1:Nat):Int)] 0)):=ma;have n6:=x6.1;have akb:bT<S3.n:=m3.lt (by rw[YR];simp);have onT:bT≠bn:=by omega
    refine aG ma ((LS.aq _ _ onT).trans oT9) (v:=.int 0 (aW C.T i:Int)) rfl ?_;rw[aR];refine aG ma (LS.ay _ _ _) (v:=.int 0 ((c+1:Nat):Int)) rfl ?_;rw[aR];refine fl ma ((LS.aq _ _ (by omega)).trans o9) hR.len ?_;refine ma.cS ?_;rw[fO];refine gq hR.len ?_;rw[agS hR.len rfl];have xa:aD (fF C bn) S (((S7.push (.ce z7 0)).set S7.n (.ce ca 0)).set bn (.ce [.int 0 ((c+1:Nat):Int)] 0)):=(x9.two (bn:=bn)).set (.inl (.inr rfl)) _;have pa:bH C (((S7.push (.ce z7 0)).set S7.n (.ce ca 0)).set bn (.ce [.int 0 ((c+1:Nat):Int)] 0)) j d:=p9.keep (X:=λb=>b=bn) m9 ((aD.refl (λb=>b=bn) _).set (.inl rfl) _) (λq=>hbn q.symm) dT;refine fz (c:=c+1) (Q:=eI S.n S7.n) hM hp ma pa xa (RE.simple B8.nil) (hR.go (λb hb=>(LS.aq _ _ (by have:=hb.1;omega)).trans (c9.2 b hb.2 λq=>q)) λb hb=>⟨Nat.le_trans x6.1 hb.1,hb.2⟩) (λb hb=>⟨hb.1,Nat.lt_of_lt_of_le hb.2 c9.1⟩) (LS.ay _ _ _) hP2
   have e2:Int.ofNat 2=((2:Nat):Int):=rfl;have e5:Int.ofNat 5=((5:Nat):Int):=rfl;unfold Em El;simp only[bu,Nat.zero_add];refine aG m6 qt (v:=.int 0 (bC C.T i:Int)) rfl ?_;rw[aR,cV,e2];by_cases g2:bC C.T i=2
   ·have eu:=hui g2;subst eu;rw[decide_eq_true (by omega),aU];refine aG m6 YS (v:=.int 0 (bC C.T (i+1):Int)) rfl ?_;rw[aR,cV,e5];by_cases g5:bC C.T (i+1)=5
    ·rw[decide_eq_true (by omega),aU];refine aG m6 YS (v:=al (dO C.T (i+1))) rfl ?_;refine Bf (m:=[61]) (rJ C _) (aZ (by decide)) ?_;rw[bo];by_cases gt:dO C.T (i+1)=[61]
     ·rw[decide_eq_true gt,aU];rw[if_pos ⟨g2,g5,gt⟩]at hP;have hlt2:i+1+1<C.T.length:=ld (i:=i+1) C.ok (by omega);unfold Ej Ei;simp only[dG,bu,Nat.zero_add];refine aG m6 p6.ob (v:=.int 0 (i:Int)) rfl ?_;simp only[aR,gC,io2];refine w0 (by omega) (by omega) ?_;rw[show((i:Nat):Int)+2=((i+2:Nat):Int) by omega];refine bj (v:=.int 0 ((i+2:Nat):Int)) m6 p6.ob (by omega) (by show 1<4;omega) rfl λH7 m7=>?_;have p7:=p6.set (j:=i+2) (e:=d) hlt2;have c7:aD (bL C) S6 (S6.set C.bp (.ce [C.vT,.int 0 ((i+2:Nat):Int),.int 0 (d:Int),.int 0 0] 0)):=aD.An (aD.refl _ _) _;have m7:Mem H7 (S6.set C.bp (.ce [C.vT,.int 0 ((i+2:Nat):Int),.int 0 (d:Int),.int 0 0] 0)):=m7;have oT7:=c7.ob m6 qt Ap;have x7:=x6.trans c7;unfold Eh Eg;rw[r3];simp only[bu,Nat.zero_add];refine aG m7 oT7 (v:=.int 0 (aW C.T i:Int)) rfl ?_;rw[aR];refine aG m7 oT7 (v:=al (dO C.T i)) rfl ?_;refine iX (iO _) ?_;refine O.exp k (by omega) hd m7 p7 (Post.call hP (x7.two (bn:=bn)) (λ_ h=>.inl h) λx j H8 S8 v m8 c8 p8 ⟨ca,hv,hR⟩ hP2=>?_);subst hv;have oT8:=c8.ob m7 oT7 Ap;refine aG m8 oT8 (v:=al (dO C.T i)) rfl ?_;refine cv (qL _ _) ?_;refine aG m8 oT8 (v:=.int 0 (aW C.T i:Int)) rfl ?_;rw[aR];refine cv (ko _ _) ?_;refine m8.cS ?_;rw[fO];refine gq hR.len ?_;rw[agS hR.len rfl];exact fz (c:=c) (Q:=eI S.n S8.n) hM hp m8 p8 ((x7.trans c8).two (bn:=bn)) (RE.simple (rJ C i)) (hR.go (λ_ _=>rfl) λb hb=>⟨Nat.le_trans x7.1 hb.1,hb.2⟩) (λb hb=>hb) ((x7.trans c8).ob hM ho nbn) hP2
     ·rw[decide_eq_false gt,aV];rw[if_neg (λq=>gt q.2.2)]at hP;exact third hP
    ·rw[decide_eq_false (by omega),aV];rw[if_neg (λq=>g5 q.2.1)]at hP;exact third hP
   ·rw[decide_eq_false (by omega),aV];rw[if_neg (λq=>g2 q.1)]at hP;exact third hP
end
end Go.Proofs.YtcedghechlgecaaGreatDoor
namespace Go.X
section
variable {H:AH}{S:LS}
theorem bF.bind_assoc{α β γ:Type}(r:bF α)(f:α→Nat→bF β)(g:β→Nat→bF γ):(r.bind f).bind g=r.bind λa i=>(f a i).bind g:=by
 cases r<;>rfl
theorem YT{bytes sz n:Nat}{v:AV}{l l':List AV}{k:AV→AH→Prop}(hM:Mem H S)(hs:eg S sz v n l)(hsz:0<sz)(hl':l'.length=sz)(hl:(n+1)*bytes≤1099511627776)(h1:∀a∈l',a.one=true)
  (hK:∀H' S' v',Mem H' S'→sf S v (n+1) sz (l++l') S' v'→k v' H'):bY (aP H) 1 sz l' λx H'=>bT (Nat.beq H'.n (Nat.succ H.n)) (ef sz bytes v x H' k):=by
 refine dP hM (by omega) h1 λH1 m1=>cv (qy (by rw[m1.n,hM.n];rfl)) ?_;have hs1:eg (S.push (.ce l' 0)) sz v n l:=hs.keep hM λb _ hb=>LS.cj _ _ hb;have hlt1:∀b,bd v b→b<S.n:=λb hb=>hs.lt hM hb;refine pU (ex:=true) (cap:=1) (o:=0) (n:=1) (l:=l') (m:=0) (b:=S.n) (k:=λl=>tW sz bytes 1 _ l H1 k) m1 (LS.ak _ _) (by omega) ?_;rw[List.drop_zero,List.take_of_length_le (by omega)];refine xl m1 hs1 hsz (.inl (by omega)) (by omega) hl h1 λH' S' v' h' he=>?_;obtain⟨e1,e2,e3,e4⟩:=he;have e1':S.n+1≤S'.n:=e1;refine hK H' S' v' h' ⟨by omega,λb hb hne=>?_,e3,λb hb=>?_⟩
 ·rw[e2 b (by show b<S.n+1;omega) hne,LS.cj _ _ hb]
 ·rcases e4 b hb with g|g
  ·exact .inl g
  ·have g':S.n+1≤b:=g;exact .inr (by omega)
theorem cy.pushB{α:Type}{R:Rep α}{lo bytes:Nat}{v:AV}{l:List α}{a:α}{c:List AV}{Q:Nat→Prop}{k:AV→AH→Prop}(h:cy R lo S v l)(hM:Mem H S)(hr:R.rel S Q c a)(hQ:∀b,Q b→lo≤b∧b<S.n∧¬bd v b)(hlo:lo≤S.n)(hl:(l.length+1)*bytes≤1099511627776)
  (hk:∀H' S' v',Mem H' S'→cy R lo S' v' (l++[a])→S.n≤S'.n→(∀b,b<S.n→¬bd v b→S'.ob b=S.ob b)→(∀b,bd v' b→bd v b∨S.n≤b)→k v' H'):bY (aP H) 1 R.sz c λx H'=>bT (Nat.beq H'.n (Nat.succ H.n)) (ef R.sz bytes v x H' k):=by
 obtain⟨cl,h1,h2⟩:=id h;refine YT hM h1 R.pos (R.len hr) hl (R.ones hr) λH' S' v' m' he=>?_;refine hk H' S' v' m' (h.step hr hQ hlo λcl' h'=>?_) he.1 he.2.1 he.2.2.2;have e:cl'=cl.flatten:=by
  rcases h1 with⟨e1,e2,e3⟩|⟨b,c1,ex,cs,e1,e2,e3,e4,e5,e6,e7⟩
  ·rcases h' with⟨_,_,g3⟩|⟨b',c1',ex',cs',g1,_⟩
   ·rw[g3,e3]
   ·rw[e1]at g1;cases g1
  ·rcases h' with⟨g1,_⟩|⟨b',c1',ex',cs',g1,g2,g3,g4,g5,g6,g7⟩
   ·rw[e1]at g1;cases g1
   ·rw[e1]at g1;injection g1 with q1;subst q1;rw[e2]at g2;injection g2 with q2;rw[←g6,←e6,g5,e5,q2]
 rw[e];exact he
theorem cJ.congr{Q:Nat→Prop}{sz n:Nat}{v:AV}{cl cl':Nat→List AV}(h:cJ S Q sz v n cl)(he:∀i,i<n→cl i=cl' i):cJ S Q sz v n cl':=by
 rcases h with h|⟨b,o,c,ex,cs,m,h1,h2,h3,h4,h5,h6⟩
 ·exact .inl h
 ·exact .inr ⟨b,o,c,ex,cs,m,h1,h2,h3,h4,h5,λi hi=>(h6 i hi).trans (he i hi)⟩
theorem cy.nm{lo:Nat}{v:AV}{l:List (List Nat)}(h:cy E9 lo S v l)(hM:Mem H S):ik S (eI lo S.n) v l:=by
 obtain⟨cl,h1,h2⟩:=h.done hM;refine⟨h1.congr λi hi=>?_,λt ht=>?_⟩
 ·have g:=(h2 i _ (List.getElem?_eq_getElem hi)).1;rw[List.getElem?_eq_getElem hi];exact g
 ·obtain⟨i,hi,e⟩:=List.mem_iff_getElem.1 ht;have g:=(h2 i _ (List.getElem?_eq_getElem hi)).2;rw[e]at g;exact g
theorem aaX{l z:List AV}(hl:l.length=2)(hz:z.length=2):spl l z 0=l:=by
 match l,hl,z,hz with
 |[a,b],_,[_,_],_=>rfl
end
end Go.X
namespace Go.Proofs.YtcedghechlgecaaGreatDoor
open Go Go.X Go.Proofs.YtcedghechlgecaaGreatDoor.G
section
variable {H:AH}{S:LS}{K:KF}{C:Ctx}{i d:Nat}
structure xT(C:Ctx)(S0 S:LS)(v:AV)(out:List (List Nat)):Prop where
 x:aD (bL C) S0 S
 o1:S.ob S0.n=.ce z7 0
 oF:S.ob (S0.n+1)=.ce [v,.ab] 0
 n:S0.n+2≤S.n
 L:cy E9 (S0.n+2) S v out
theorem xT.keep{S0 S':LS}{v:AV}{out:List (List Nat)}(h:xT C S0 S v out)(hM:Mem H S)(hbp:C.bp<S0.n)(g:aD (bL C) S S'):xT C S0 S' v out:=by
 have nb:∀b,S0.n≤b→¬bL C b:=λb hb q=>by have q:b=C.bp:=q;omega
 exact⟨h.x.trans g,g.ob hM h.o1 (nb _ (Nat.le_refl _)),g.ob hM h.oF (nb _ (by omega)),Nat.le_trans h.n g.1,h.L.keep hM g.1 λb h1 h2=>g.2 b h2 (nb b (by omega))⟩
theorem ajh{m n:Nat}(hpv:C.pv=.iface 57 (.agg []))(O:gL C m n){S0:LS}{H0:AH}{i0 a n1:Nat}(hn1:n1≤n)(hd:d≤200)(hM0:Mem H0 S0)(hp0:bH C S0 i0 d):∀(k q i:Nat) (first:Bool) (out:List (List Nat)) (v:AV) (H:AH) (S:LS),k≤q→out.length≤16→Mem H S→bH C S i d→xT C S0 S v out→
  Post C (bL C) d kE K S0 ((cG C.T k first out i).bind λps j=>(cz C.T n1 j d).bind λb j=>(cC C.T [101,110,100] j).bind λ_ j=>.ok (.mk 7 a 0 [] 0 [] [.mk ps b]) j)→
  oZ (dQ (s13 m)) K q (.ptr C.bp 0) (a:Int) (.ptr S0.n 0) (.ptr (S0.n+1) 0) first H:=by
 intro k
 induction k with
 |zero=>intro q i f out v H S _ _ _ _ _ hP;simp only[cG]at hP;exact False.elim hP
 |succ k ih=>
  intro q i first out v H S hq h16 hM hp t hP
  obtain⟨q,rfl⟩:∃p,q=p+1:=⟨q-1,by omega⟩
  have r1:(dQ (s13 m)).1=(s13 m).1:=rfl;have r2:(dQ (s13 m)).2.1=f25:=rfl;have r3:(dQ (s13 m)).2.2.1=f56:=rfl;have r4:(dQ (s13 m)).2.2.2.1=f94:=rfl;have r5:(dQ (s13 m)).2.2.2.2.1=lC:=rfl;have r6:(dQ (s13 m)).2.2.2.2.2=f130:=rfl;have hbp:=hp0.eJ hM0;have mK:∀b,bd C.vT b→b<S0.n:=λb hb=>hp0.tk.lt hM0 hb;have gM:∀b,S0.n≤b→¬bL C b:=λb hb q=>by have q:b=C.bp:=q;omega
  show yw (dQ (s13 m)) K (rl (dQ (s13 m)) K (rj (dQ (s13 m)) K (oZ (dQ (s13 m)) K q))) (uL (dQ (s13 m)) K) (.ptr C.bp 0) (a:Int) (.ptr S0.n 0) (.ptr (S0.n+1) 0) first H
  unfold yw;rw[r2,r3,r4];simp only[cG]at hP;have stop:∀{H1:AH}{S1:LS}{i:Nat},Mem H1 S1→bH C S1 i d→xT C S0 S1 v out→Post C (bL C) d kE K S0 (((cC C.T [41] i).bind λ_ j=>.ok out j).bind λps j=>(cz C.T n1 j d).bind λb j=>(cC C.T [101,110,100] j).bind λ_ j=>.ok (.mk 7 a 0 [] 0 [] [.mk ps b]) j)→
    uL (dQ (s13 m)) K (.ptr C.bp 0) (a:Int) (.ptr S0.n 0) (.ptr (S0.n+1) 0) H1:=by
   intro H1 S1 i m1 p1 t1 hP;rw[bF.bind_assoc]at hP;unfold uL;rw[r1,r5];refine gE (s:=[41]) hpv (aZ (by decide)) m1 p1 (Post.call (jy:=mD) hP t1.x (λ_ h=>h) λ_ j H2 S2 w m2 c2 p2 _ hP2=>?_);have t2:=t1.keep m1 hbp c2;refine O.block n1 hn1 hd m2 p2 (Post.call (jy:=dY) hP2 t2.x (λ_ h=>h) λb j H3 S3 vb m3 c3 p3 ⟨cb,hsl,hrs⟩ hP3=>?_);have t3:=t2.keep m2 hbp c3;have n2:=t2.n;have n3:=t3.n;simp only[bu,Nat.zero_add];refine bj m3 t3.oF (by omega) (by show 1<2;omega) hsl.one λH4 m4=>?_;have m4:Mem H4 (S3.set (S0.n+1) (.ce [v,vb] 0)):=m4;have x4:aD (bL C) S0 (S3.set (S0.n+1) (.ce [v,vb] 0)):=t3.x.set (.inr (by omega)) _;refine gE (s:=[101,110,100]) hpv (aZ (by decide)) m4 (p3.iw hp0 hM0 (by omega) _) (Post.call (jy:=mD) hP3 x4 (λ_ h=>h) λ_ j' H5 S5 w m5 c5 p5 _ xS=>?_);have n5:S3.n≤S5.n:=c5.1;have L5:cy E9 (S0.n+2) S5 v out:=(t3.L.keep m3 (S':=S3.set (S0.n+1) (.ce [v,vb] 0)) (Nat.le_refl _) λb h1 h2=>LS.aq _ _ (by omega)).keep m4 c5.1 λb h1 h2=>c5.2 b h2 (gM b (by omega));have hnm:=L5.nm m5;have kb:∀b,eI S2.n S3.n b→S5.ob b=S3.ob b:=λb hb=>by
    have h1:=hb.1;rw[c5.2 b hb.2 (gM b (by omega)),LS.aq _ _ (by omega)]
   have qb:∀b,eI S2.n S3.n b→eI (S0.n+2) S5.n b:=λb hb=>⟨by have:=hb.1;omega,by have:=hb.2;omega⟩
   have hF:RF S5 (eI (S0.n+2) S5.n) [v,vb] (.mk out b):=.mk out b v vb cb hnm (hsl.go kb qb) λi e h=>(hrs i e h).go kb qb;refine fl m5 (c5.ob m4 (LS.ay _ _ _) (gM _ (by omega))) rfl ?_;rw[fO];refine gq rfl ?_;rw[aaX rfl rfl];refine dP m5 rfl hF.ones λH6 m6=>iX rfl ?_;have o5:S5.ob S0.n=.ce z7 0:=c5.ob m4 ((LS.aq _ _ (by omega)).trans t3.o1) (gM _ (Nat.le_refl _));refine hV m6 (c:=[.int 0 ((7:Nat):Int),.int 0 (a:Int),.int 0 ((0:Nat):Int),al [],.int 0 ((0:Nat):Int),.ab,.slice S5.n 0 1 1 2 true]) ((LS.cj _ _ (by omega)).trans o5) rfl rfl (λx h=>?_) λH7 m7=>?_
   ·simp only[List.mem_cons,List.not_mem_nil,or_false]at h;rcases h with rfl|rfl|rfl|rfl|rfl|rfl|rfl<;>rfl
   refine fl m7 (LS.ay _ _ _) rfl ?_;refine xS H7 _ _ m7 (((x4.trans c5).push _).set (.inr (Nat.le_refl _)) _) ((p5.no m5 ((aD.refl _ _).push _)).iw hp0 hM0 (Nat.le_refl _) _) ⟨_,rfl,.mk 7 a 0 [] 0 [] [.mk out b] .ab (.slice S5.n 0 1 1 2 true) (λ_=>[]) (λ_=>[v,vb]) B8.nil (cJ.nil _ _ _ _) (λi e h=>by simp at h) (cJ.single (m:=0) ⟨by omega,Nat.lt_succ_self _⟩ ((LS.aq _ _ (by omega)).trans (LS.ak _ _)) rfl) λi e h=>?_⟩
   match i,h with
   |0,h=>
    have e1:cq.mk out b=e:=by simpa using h
    subst e1;exact hF.go (λb hb=>by rw[LS.aq _ _ (by have:=hb.1;omega),LS.cj _ _ hb.2]) λb hb=>⟨by have:=hb.1;omega,Nat.lt_succ_of_lt hb.2⟩
   |i+1,h=>simp at h
  have more:∀{H1:AH}{S1:LS}{i:Nat},Mem H1 S1→bH C S1 i d→xT C S0 S1 v out→Post C (bL C) d kE K S0 ((if out.length=16 then bF.err 8 i else (gY C.T i).bind λs j=>cG C.T k false (out++[s]) j).bind λps j=>(cz C.T n1 j d).bind λb j=>(cC C.T [101,110,100] j).bind λ_ j=>.ok (.mk 7 a 0 [] 0 [] [.mk ps b]) j)→
    aL 0 (.ptr (S0.n+1) 0) λv5=>aC v5 H1 λv6=>cN v6 λv7=>cI 0 v7 λz8=>bI (bX z8 (.ofNat 16)) (f25 (.ptr C.bp 0) (.ofNat 8) H1 λo9 bM=>cR K o9 bM λv11=>rl (dQ (s13 m)) K (rj (dQ (s13 m)) K (oZ (dQ (s13 m)) K q)) (.ptr C.bp 0) (a:Int) (.ptr S0.n 0) (.ptr (S0.n+1) 0) bM) (rl (dQ (s13 m)) K (rj (dQ (s13 m)) K (oZ (dQ (s13 m)) K q)) (.ptr C.bp 0) (a:Int) (.ptr S0.n 0) (.ptr (S0.n+1) 0) H1):=by
   intro H1 S1 i m1 p1 t1 hP;rw[bu,Nat.zero_add];refine aG m1 t1.oF (v:=v) rfl ?_;refine t1.L.Sr ?_;have e16:Int.ofNat 16=((16:Nat):Int):=rfl;rw[aR,cV,e16];by_cases g16:out.length=16
   ·rw[if_pos g16]at hP;rw[decide_eq_true (by omega),aU];refine mW (c:=8) hpv m1 p1 λH2 S2 m2 c2 e2=>?_;rw[jJ];exact hP H2 S2 m2 (t1.x.trans c2) e2
   ·rw[if_neg g16,bF.bind_assoc]at hP;rw[decide_eq_false (by omega),aV];unfold rl;rw[r6];simp only[bu,Nat.zero_add];refine aG m1 t1.oF (v:=v) rfl ?_;refine vz hpv m1 p1 (Post.call hP t1.x (λ_ h=>h) λs j H2 S2 w m2 c2 p2 ⟨hv,h8⟩ hP2=>?_);subst hv;have t2:=t1.keep m1 hbp c2;have n2:=t2.n;refine aG m2 t2.oF (v:=v) rfl ?_;refine cv t2.L.same ?_;refine m2.cS ?_;refine iX (iO s) ?_;refine t2.L.pushB (R:=E9) (Q:=cB) (bytes:=16) m2 (a:=s) ⟨rfl,h8⟩ (λb hb=>hb.elim) n2 (by omega) λH3 S3 v' m3 L3 n3 k3 b3=>?_;have c3:aD (λb=>bd v b) S2 S3:=⟨n3,λb hb hx=>k3 b hb hx⟩
    have nv:∀b,b<S0.n+2→¬bd v b:=λb hb q=>by have:=t2.L.lo q;omega
    refine bj m3 (c3.ob m2 t2.oF (nv _ (by omega))) (by omega) (by show 0<2;omega) L3.one λH4 m4=>?_;have m4:Mem H4 (S3.set (S0.n+1) (.ce [v',.ab] 0)):=m4;have p4:bH C (S3.set (S0.n+1) (.ce [v',.ab] 0)) j d:=(p2.keep m2 c3 (nv _ (by omega)) (λb hb q=>nv b (by have:=mK b hb;omega) q)).iw hp0 hM0 (by omega) _;have x3:aD (bL C) S0 S3:=t2.x.iW c3 λb hb=>.inr (by have:=t2.L.lo hb;omega);have t4:xT C S0 (S3.set (S0.n+1) (.ce [v',.ab] 0)) v' (out++[s]):=
     ⟨x3.set (.inr (by omega)) _,(LS.aq _ _ (by omega)).trans (c3.ob m2 t2.o1 (nv _ (by omega))),LS.ay _ _ _,Nat.le_trans n2 n3,L3.keep m3 (Nat.le_refl _) λb h1 h2=>LS.aq _ _ (by omega)⟩
    unfold rj;exact ih q j false (out++[s]) v' H4 _ (by omega) (by simp;omega) m4 p4 t4 hP2
  cases first with
  |true=>
   rw[aU];refine pG (s:=[41]) (aZ (by decide)) hM hp λH1 S1 m1 c1 p1=>?_;simp only[aA,bo];have t1:=t.keep hM hbp c1.no;cases hi:isA C.T [41] i with
   |false=>
    simp only[hi,Bool.not_false,if_true]at hP;rw[Bool.not_false,aU];exact more m1 p1 t1 hP
   |true=>
    simp only[hi,Bool.not_true,if_true,Bool.false_eq_true,if_false]at hP;simp only[Bool.not_true,aV];exact stop m1 p1 t1 hP
  |false=>
   simp only[Bool.false_eq_true,if_false]at hP;simp only[aV,Bool.not_false,aU];refine dz (s:=[44]) (aZ (by decide)) hM hp λH1 S1 m1 c1 p1=>?_;simp only[aA,bo];have t1:=t.keep hM hbp c1;cases hi:isA C.T [44] i with
   |true=>
    simp only[hi,if_true]at hP p1;rw[aU];exact more m1 p1 t1 hP
   |false=>
    simp only[hi,Bool.false_eq_true,if_false]at hP p1;rw[aV];exact stop m1 p1 t1 hP
theorem aji{m n:Nat}(hn:n≤900000)(hpv:C.pv=.iface 57 (.agg []))(O:gL C m n):∀k,k≤n+1→∀{K:KF}{H:AH}{S:LS}{i d a:Nat},d≤200→Mem H S→bH C S i d→Post C (bL C) d kE K S (fy C.T k a i d)→(s13 (m+1)).2.2.2.2.2.2.2.1 (.ptr C.bp 0) (a:Int) H K:=by
 intro k hk K H S i d a hd hM hp hP;cases k with
 |zero=>simp only[fy]at hP;exact False.elim hP
 |succ k=>
  have e:(s13 (m+1)).2.2.2.2.2.2.2.1=sl (dQ (s13 m)):=by rw[na]
  rw[e];have r5:(dQ (s13 m)).2.2.2.2.1=lC:=rfl;unfold sl MI DO;rw[r5];have gv:G.NL=1000000:=rfl;generalize G.NL=iV at gv ⊢;simp only[fy]at hP;rw[gO];refine cn (b9 hM dm λH1 m1=>?_);refine cn (b9 m1 (λx hx=>?_) λH2 m2=>?_)
  ·simp only[List.mem_cons,List.not_mem_nil,or_false]at hx;rcases hx with rfl|rfl<;>rfl
  have c1:aD cB S (S.push (.ce z7 0)):=(aD.refl _ _).push _;have c2:aD cB (S.push (.ce z7 0)) ((S.push (.ce z7 0)).push (.ce [.ab,.ab] 0)):=(aD.refl _ _).push _;have c12:=c1.trans c2;have t:xT C S ((S.push (.ce z7 0)).push (.ce [.ab,.ab] 0)) .ab []:=
   ⟨c12.no,c2.ob m1 (LS.ak _ _) (λq=>q),LS.ak _ _,Nat.le_refl _,cy.nil _ _ _⟩
  refine gE (s:=[40]) hpv (aZ (by decide)) m2 (hp.no hM c12) (Post.call (jy:=mD) hP c12.no (λ_ h=>h) λ_ j H3 S3 w m3 c3 p3 _ hP2=>?_);exact ajh hpv O (by omega) hd hM hp k iV j true [] .ab H3 S3 (by omega) (by simp) m3 p3 (t.keep m2 (hp.eJ hM) c3) hP2
end
end Go.Proofs.YtcedghechlgecaaGreatDoor
namespace Go.X
section
variable {H:AH}{S:LS}
theorem eZ.k0{Q:Nat→Prop}{c:List AV}{s:aK}(h:eZ S Q c s):∃l,c=.int 0 (s.kind:Int)::l:=by
 cases h;exact⟨_,rfl⟩
end
end Go.X
namespace Go.Proofs.YtcedghechlgecaaGreatDoor
open Go Go.X Go.Proofs.YtcedghechlgecaaGreatDoor.G
section
variable {H:AH}{S:LS}{K:KF}{C:Ctx}{i d:Nat}
def z5:List AV:=[.int 0 (.ofNat 0),.int 0 (.ofNat 0),.ab,.ab,.ab]
theorem sS:∀a∈z5,a.one=true:=by
 intro a ha;simp only[z5,List.mem_cons,List.not_mem_nil,or_false]at ha;rcases ha with rfl|rfl|rfl|rfl|rfl<;>rfl
theorem r24{m n:Nat}(hpv:C.pv=.iface 57 (.agg []))(O:gL C m n){S0:LS}{H0:AH}{i0:Nat}(hd:d+1≤200)(hM0:Mem H0 S0)(hp0:bH C S0 i0 d){k:Nat}(hk:k≤n){X:AV→AV→AH→Prop}{out:List aK}
  (hX:∀(i:Nat) (s:aK) (v:AV) (H:AH) (S:LS),Mem H S→bH C S i (d+1)→aD (bL C) S0 S→cy wx S0.n S v (out++[s])→Post C (bL C) d dY K S0 (bG C.T k (out++[s]) i (d+1))→X (.ptr C.bp 0) v H)
  {v:AV}(hlen:out.length≤1000000) (hM:Mem H S) (hp:bH C S i (d+1)) (hx:aD (bL C) S0 S) (L:cy wx S0.n S v out) (hP:Post C (bL C) d dY K S0 (bG C.T (k+1) out i (d+1))):si (jH (s13 m)) K X (.ptr C.bp 0) v H:=by
 have r1:(jH (s13 m)).1=f25:=rfl;have r3:(jH (s13 m)).2.2.1=f54:=rfl;have r4:(jH (s13 m)).2.2.2.1=(s13 m).2.1:=rfl;have r5:(jH (s13 m)).2.2.2.2=f56:=rfl;have hbp:=hp0.eJ hM0;have mK:∀b,bd C.vT b→b<S0.n:=λb hb=>hp0.tk.lt hM0 hb;have gM:∀b,S0.n≤b→¬bL C b:=λb hb q=>by have q:b=C.bp:=q;omega
 have zk:∀{l:List aK}{v:AV}{S1 S2:LS}{H1:AH},Mem H1 S1→cy wx S0.n S1 v l→aD (bL C) S1 S2→cy wx S0.n S2 v l:=λm1 o g=>o.keep m1 g.1 λb h1 h2=>g.2 b h2 (gM b h1);unfold si;rw[r1,r3,r4,r5];simp only[bG]at hP;refine Ky hM hp λH1 S1 m1 c1 p1=>?_;simp only[aA,bo];have L1:=zk hM L c1.no;have x1:=hx.trans (c1.no (X:=bL C));cases he:dH C.T i with
 |true=>
  simp only[he,if_true]at hP;rw[aU];refine Sp (by omega) m1 p1 λH2 S2 m2 c2 p2=>?_;obtain⟨cl,g1,g2⟩:=(zk m1 L1 c2).done m2;exact hP H2 S2 v m2 (x1.trans c2) p2 ⟨cl,g1,g2⟩
 |false=>
  simp only[he,Bool.false_eq_true,if_false]at hP;rw[aV];refine O.stat k hk hd m1 p1 (Post.call hP x1 (λ_ h=>h) λs j H2 S2 w m2 c2 p2 ⟨c,hw,hR⟩ hP2=>?_);subst hw;obtain⟨cr,hcr⟩:=hR.k0;refine cn (b9 m2 sS λH3 m3=>?_);refine hV m3 (LS.ak S2 (.ce z5 0)) rfl hR.len hR.ones λH4 xU=>?_;have m4:Mem H4 ((S2.push (.ce z5 0)).set S2.n (.ce c 0)):=xU;clear xU;have c4:aD cB S2 ((S2.push (.ce z5 0)).set S2.n (.ce c 0)):=((aD.refl _ _).push _).set (.inr (Nat.le_refl _)) _;have o4:((S2.push (.ce z5 0)).set S2.n (.ce c 0)).ob S2.n=.ce c 0:=LS.ay _ _ _;have L2:=zk m1 L1 c2;have L4:=zk m2 L2 c4.no;have x4:=(x1.trans c2).trans (c4.no (X:=bL C));have p4:=p2.no m2 c4;have hR4:eZ ((S2.push (.ce z5 0)).set S2.n (.ce c 0)) (eI S1.n S2.n) c s:=hR.go (λb hb=>c4.2 b hb.2 λq=>q) λ_ h=>h;have n4:((S2.push (.ce z5 0)).set S2.n (.ce c 0)).n=S2.n+1:=rfl;revert m4 c4 o4 L4 x4 p4 hR4 n4;generalize (S2.push (.ce z5 0)).set S2.n (.ce c 0)=S4;intro m4 c4 o4 L4 x4 p4 hR4 n4;refine fl m4 o4 hR.len ?_;rw[fO];refine gq hR.len ?_;rw[agO hR.len rfl];have hv2:∀b,bd v b→b<S1.n:=λb hb=>L1.lt m1 hb;have n12:=c2.1;refine L4.push (R:=wx) (bytes:=88) m4 hR4 (λb hb=>⟨Nat.le_trans x1.1 hb.1,by have:=hb.2;omega,λq=>by have:=hv2 b q;have:=hb.1;omega⟩) x4.1 (by omega) λH5 S5 v' m5 L5 n5 k5 b5=>?_;have c5:aD (λb=>bd v b) S4 S5:=⟨n5,λb hb hx=>k5 b hb hx⟩
  have p5:bH C S5 j (d+1):=p4.keep m4 c5 (λq=>by have:=L4.lo q;omega) (λb hb q=>by have:=L4.lo q;have:=mK b hb;omega);have x5:aD (bL C) S0 S5:=x4.iW c5 λb hb=>.inr (L4.lo hb);have o5:S5.ob S2.n=.ce c 0:=c5.ob m4 o4 λq=>by have:=hv2 _ q;omega
  refine dz (s:=[59]) (aZ (by decide)) m5 p5 λH6 S6 m6 c6 p6=>?_;simp only[aA,bo,bu,Nat.zero_add];have o6:S6.ob S2.n=.ce c 0:=c6.ob m5 o5 (gM _ (by have:=x1.1;omega));have L6:=zk m5 L5 c6;have x6:=x5.trans c6;have p6:bH C S6 (iv C.T [59] j) (d+1):=p6;have e10:Int.ofNat 10=((10:Nat):Int):=rfl;refine aG m6 o6 (v:=.int 0 (s.kind:Int)) (by rw[hcr];rfl) ?_;rw[aR,cV,e10];by_cases g10:s.kind=10
  ·rw[decide_eq_true (by omega),aU];refine Ky m6 p6 λH7 S7 m7 c7 p7=>?_;simp only[aA,bo];have L7:=zk m6 L6 c7.no;have x7:=x6.trans (c7.no (X:=bL C));cases he2:dH C.T (iv C.T [59] j)with
   |true=>
    rw[if_neg (by rw[he2];rintro⟨_,q⟩;cases q)]at hP2;simp only[Bool.not_true,aV];exact hX _ s v' H7 S7 m7 p7 x7 L7 hP2
   |false=>
    rw[if_pos ⟨g10,he2⟩]at hP2;simp only[Bool.not_false,aU];refine mW (c:=14) hpv m7 p7 λH8 S8 m8 c8 e8=>?_;rw[jJ];exact hP2 H8 S8 m8 (x7.trans c8) e8
  ·rw[decide_eq_false (by omega),aV];rw[if_neg (λq=>g10 q.1)]at hP2;exact hX _ s v' H6 S6 m6 p6 x6 L6 hP2
theorem l24{m n:Nat}(hn:n≤900000)(hpv:C.pv=.iface 57 (.agg []))(O:gL C m n){S0:LS}{H0:AH}{i0:Nat}(hd:d+1≤200)(hM0:Mem H0 S0)(hp0:bH C S0 i0 d):∀(k q i:Nat) (out:List aK) (v:AV) (H:AH) (S:LS),k≤q→k≤n→out.length+k≤n→Mem H S→bH C S i (d+1)→aD (bL C) S0 S→cy wx S0.n S v out→
  Post C (bL C) d dY K S0 (bG C.T k out i (d+1))→xp (jH (s13 m)) K q (.ptr C.bp 0) v H:=by
 intro k
 induction k with
 |zero=>intro q i out v H S _ _ _ _ _ _ _ hP;simp only[bG]at hP;exact False.elim hP
 |succ k ih=>
  intro q i out v H S hq hk hl hM hp hx L hP;obtain⟨q,rfl⟩:∃p,q=p+1:=⟨q-1,by omega⟩
  show si (jH (s13 m)) K (Bw (jH (s13 m)) K (xp (jH (s13 m)) K q)) (.ptr C.bp 0) v H;refine r24 hpv O hd hM0 hp0 (by omega) (λi s v H S hM hp hx L hP=>?_) (by omega) hM hp hx L hP;unfold Bw;exact ih q i (out++[s]) v H S (by omega) (by omega) (by simp;omega) hM hp hx L hP
theorem q24(R:ic)(K:KF)(X:AV→AV→AH→Prop)(a0:AV)(H:AH):By R K X a0 H=R.2.1 a0 H λo1 H2=>cR K o1 H2 λ_=>si R K X a0 .ab H2:=by
 unfold By si;rfl
theorem s24{m n:Nat}(hn:n≤900000)(hpv:C.pv=.iface 57 (.agg []))(O:gL C m n):∀k,k≤n+1→∀{K:KF}{H:AH}{S:LS}{i d:Nat},d≤200→Mem H S→bH C S i d→Post C (bL C) d dY K S (cz C.T k i d)→(s13 (m+1)).1 (.ptr C.bp 0) H K:=by
 intro k hk K H S i d hd hM hp hP;cases k with
 |zero=>simp only[cz]at hP;exact False.elim hP
 |succ k=>
  have e:(s13 (m+1)).1=vZ (jH (s13 m)):=by rw[na]
  rw[e];have r2:(jH (s13 m)).2.1=f53:=rfl;unfold vZ Um Iv;rw[q24,r2];have gv:G.NL=1000000:=rfl;generalize G.NL=iV at gv ⊢;simp only[cz]at hP;refine So hpv (by omega) hM hp (λhg H1 S1 m1 c1 e1=>?_) (λhg H1 S1 m1 c1 p1=>?_)
  ·rw[jJ];rw[if_pos hg]at hP;exact hP H1 S1 m1 c1 e1
  ·rw[aA];rw[if_neg hg]at hP;cases k with
   |zero=>simp only[bG]at hP;exact False.elim hP
   |succ k=>
    refine r24 hpv O (by omega) hM hp (by omega) (out:=[]) (λi s v H S' hM' hp' hx L hP=>?_) (by simp) m1 p1 c1 (cy.nil _ _ _) hP;unfold Iu;exact l24 hn hpv O (by omega) hM hp k iV i ([]++[s]) v H S' (by omega) (by omega) (by simp;omega) hM' hp' hx L hP
end
end Go.Proofs.YtcedghechlgecaaGreatDoor
namespace Go.X
section
variable {H:AH}{S S':LS}
def fp{α:Type}(R:Rep α)(Z:Nat→Prop)(S:LS)(v:AV)(l:List α):Prop:=∃cl:List (List AV),eg S R.sz v l.length cl.flatten∧cl.length=l.length∧(∀b,bd v b→Z b)∧
 ∀(i:Nat) (c:List AV) (a:α),cl[i]? = some c→l[i]? = some a→∃Q,R.rel S Q c a∧∀b,Q b→Z b∧b<S.n∧¬bd v b
section
variable {α:Type}{R:Rep α}{Z Z':Nat→Prop}{v:AV}{l:List α}
theorem fp.nil(R:Rep α)(Z:Nat→Prop)(S:LS):fp R Z S .ab []:=⟨[],eg.nil _ _,rfl,λ_ h=>h.elim,λi c a h=>by simp at h⟩
theorem fp.toR{lo:Nat}(h:fp R Z S v l)(hZ:∀b,Z b→lo≤b):cy R lo S v l:=by
 obtain⟨cl,h1,h2,h3,h4⟩:=h;refine⟨cl,h1,h2,λb hb=>hZ b (h3 b hb),λi c a hc ha=>?_⟩;obtain⟨Q,g1,g2⟩:=h4 i c a hc ha;exact⟨Q,g1,λb hb=>⟨hZ b (g2 b hb).1,(g2 b hb).2⟩⟩
theorem fp.imp(h:fp R Z S v l)(hM:Mem H S)(hZ:∀b,Z b→b<S.n→Z' b):fp R Z' S v l:=by
 obtain⟨cl,h1,h2,h3,h4⟩:=h;refine⟨cl,h1,h2,λb hb=>hZ b (h3 b hb) (h1.lt hM hb),λi c a hc ha=>?_⟩;obtain⟨Q,g1,g2⟩:=h4 i c a hc ha;exact⟨Q,g1,λb hb=>⟨hZ b (g2 b hb).1 (g2 b hb).2.1,(g2 b hb).2⟩⟩
theorem fp.keep(h:fp R Z S v l)(hM:Mem H S)(hn:S.n≤S'.n)(hk:∀b,Z b→b<S.n→S'.ob b=S.ob b):fp R Z S' v l:=by
 obtain⟨cl,h1,h2,h3,h4⟩:=h;refine⟨cl,h1.keep hM λb hb hlt=>hk b (h3 b hb) hlt,h2,h3,λi c a hc ha=>?_⟩;obtain⟨Q,g1,g2⟩:=h4 i c a hc ha;exact⟨Q,R.go (λb hb=>hk b (g2 b hb).1 (g2 b hb).2.1) (λ_ h=>h) g1,λb hb=>⟨(g2 b hb).1,Nat.lt_of_lt_of_le (g2 b hb).2.1 hn,(g2 b hb).2.2⟩⟩
theorem fp.lt(h:fp R Z S v l)(hM:Mem H S){b:Nat}(hb:bd v b):b<S.n:=by
 obtain⟨cl,h1,_⟩:=h;exact h1.lt hM hb
theorem fp.wO(h:fp R Z S v l){b:Nat}(hb:bd v b):Z b:=by
 obtain⟨_,_,_,h3,_⟩:=h;exact h3 b hb
theorem fp.step{a:α}{c:List AV}{Q:Nat→Prop}{v':AV}(h:fp R Z S v l)(hr:R.rel S Q c a)(hQ:∀b,Q b→Z b∧b<S.n∧¬bd v b)(hnew:∀b,S.n≤b→Z b)(hs:∀cl,eg S R.sz v l.length cl→sf S v (l.length+1) R.sz (cl++c) S' v'):fp R Z S' v' (l++[a]):=by
 obtain⟨cl,h1,h2,h3,h4⟩:=h;obtain⟨a1,a2,a3,a4⟩:=hs _ h1;refine⟨cl++[c],?_,by simp[h2],λb hb'=>?_,λi c' a' hc ha=>?_⟩
 ·rw[List.flatten_append,List.length_append];show eg S' R.sz v' (l.length+1) (cl.flatten++[c].flatten);have:[c].flatten=c:=by simp
  rw[this];exact a3
 ·rcases a4 b hb' with g|g
  ·exact h3 b g
  ·exact hnew b g
 ·have fin:∀{Q:Nat→Prop}{c:List AV}{a:α},R.rel S Q c a→(∀b,Q b→Z b∧b<S.n∧¬bd v b)→∃Q,R.rel S' Q c a∧∀b,Q b→Z b∧b<S'.n∧¬bd v' b:=λ{Q c a} g1 g2=>
   ⟨Q,R.go (λb hb=>a2 b (g2 b hb).2.1 (g2 b hb).2.2) (λ_ h=>h) g1,λb hb=>⟨(g2 b hb).1,Nat.lt_of_lt_of_le (g2 b hb).2.1 a1,λhb'=>by
    rcases a4 b hb' with q|q
    ·exact(g2 b hb).2.2 q
    ·have:=(g2 b hb).2.1;omega⟩⟩
  by_cases hi:i<cl.length
  ·rw[List.getElem?_append_left hi]at hc;rw[List.getElem?_append_left (by omega)]at ha;obtain⟨Q,g1,g2⟩:=h4 i c' a' hc ha;exact fin g1 g2
  ·rw[List.getElem?_append_right (by omega)]at hc ha;have hi0:=(List.getElem?_eq_some_iff.1 hc).1;have e0:i-cl.length=0:=by simp at hi0;omega
   rw[e0]at hc;rw[h2]at e0;rw[e0]at ha;have ec:c=c':=by simpa using hc
   have ea:a=a':=by simpa using ha
   subst ec;subst ea;exact fin hr hQ
end
theorem eg.uniq{sz n:Nat}{v:AV}{l l':List AV}(h:eg S sz v n l)(h':eg S sz v n l'):l'=l:=by
 rcases h with⟨e1,e2,e3⟩|⟨b,c1,ex,cs,e1,e2,e3,e4,e5,e6,e7⟩
 ·rcases h' with⟨_,_,g3⟩|⟨b',c1',ex',cs',g1,_⟩
  ·rw[g3,e3]
  ·rw[e1]at g1;cases g1
 ·rcases h' with⟨g1,_⟩|⟨b',c1',ex',cs',g1,g2,g3,g4,g5,g6,g7⟩
  ·rw[e1]at g1;cases g1
  ·rw[e1]at g1;injection g1 with q1;subst q1;rw[e2]at g2;injection g2 with q2;rw[←g6,←e6,g5,e5,q2]
theorem aei{m n b b' o o':Nat}{x:Prop}(hb:b≠b')(h:x):lg m n (.ptr b o) (.ptr b' o') x:=by
 show bT _ _;refine cv ?_ h;have:Nat.beq b b'=false:=by
  cases g:Nat.beq b b' with
  |false=>rfl
  |true=>exact absurd (Nat.eq_of_beq_eq_true g) hb
 rw[this];rfl
theorem ab9{bs br n o:Nat}{v:AV}{l c cs0 z:List AV}{X:AH→Prop}(hM:Mem H S)(hs:eg S 7 v n l)(hrow:S.ob br=.ce z 0)(hz:z.length=7)(hzo:∀a∈z,a.one=true)(hc:c.length=7)(hco:∀a∈c,a.one=true)(hbs:S.ob bs=.ce cs0 0)(ho:o<cs0.length)(hne:¬bd v bs)(hl:(n+1)*96≤1099511627776)
  (hK:∀H' S' v',Mem H' (S'.set bs (.ce (cs0.set o v') 0))→sf S v (n+1) 7 (l++c) S' v'→S'.ob bs=.ce cs0 0→X H') :
  ef 7 96 v (.slice br 0 1 1 7 true) H λv14 eM=>dj 7 v14 (.int 0 (n:Int)) λv16=>ag 7 v16 (.agg c) eM λgm=>ag 1 (.ptr bs o) v14 gm λjN=>ag 1 (.ptr bs o) v14 eM λjj=>ag 7 v16 (.agg c) jj λkC=>lg 7 1 v16 (.ptr bs o) (X jN):=by
 refine pU (sz:=7) (ex:=true) (cap:=1) (o:=0) (n:=1) (l:=z) (m:=0) (b:=br) (k:=λl=>tW 7 96 1 _ l H _) hM hrow (by omega) ?_;rw[List.drop_zero,List.take_of_length_le (by omega)];refine xl hM hs (by omega) (.inl (by omega)) (by omega) hl hzo λH1 S1 v1 m1 he=>?_;obtain⟨e1,e2,e3,e4⟩:=he;have ez:bs<S.n:=hM.lt (by rw[hbs];simp);have o1:S1.ob bs=.ce cs0 0:=(e2 bs ez hne).trans hbs;rcases e3 with⟨_,g,_⟩|⟨b,cp,ex,cs,rfl,g2,g3,g4,g5,g6,g7⟩
 ·omega
 have hbne:b≠bs:=λq=>by
  subst q;rcases e4 b rfl with g|g
  ·exact hne g
  ·omega
 refine oe (by omega) (by omega) ?_;rw[Int.toNat_natCast,Nat.zero_add];have hle:(n+1)*7≤cp*7:=Nat.mul_le_mul_right _ g4;have hone:(AV.slice b 0 (n+1) cp 7 ex).one=true:=rfl;refine iu m1 g2 (by omega) hc (by omega) hco λH2 m2=>?_;have o2:(S1.set b (.ce (dC cs (n*7) c) 0)).ob bs=.ce cs0 0:=(LS.aq _ _ (Ne.symm hbne)).trans o1;refine bj m2 o2 (by omega) ho hone λH3 m3=>?_;refine bj m1 o1 (by omega) ho hone λH4 m4=>?_;refine iu m4 ((LS.aq _ _ hbne).trans g2) (by omega) hc (by omega) hco λH5 m5=>?_;refine aei hbne ?_;have hll:l.length=n*7:=by
  rw[List.length_append,hz]at g5;omega
 have hsl:(dC cs (n*7) c).length=cs.length:=oQ (by omega);refine hK H3 (S1.set b (.ce (dC cs (n*7) c) 0)) _ m3 ⟨e1,λx hx hn=>?_,.inr ⟨b,cp,ex,dC cs (n*7) c,rfl,LS.ay _ _ _,by rw[hsl];exact g3,g4,by rw[List.length_append,hc];omega,?_,λa ha=>?_⟩,e4⟩ o2
 ·have hxb:x≠b:=λq=>by
   subst q;rcases e4 x rfl with g|g
   ·exact hn g
   ·omega
  exact(LS.aq _ _ hxb).trans (e2 x hx hn)
 ·have ht:cs.take (n*7)=l:=by
   have g:(cs.take (l++z).length).take (n*7)=(l++z).take (n*7):=by rw[g6]
   rw[List.take_take,Nat.min_eq_left (by rw[List.length_append];omega)]at g;rw[g,←hll];exact List.take_left' rfl
  unfold dC;rw[ht,List.take_append_of_le_length (by rw[List.length_append];exact Nat.le_refl _)];exact List.take_of_length_le (Nat.le_refl _)
 ·simp only[dC,List.mem_append]at ha;rcases ha with(g|g)|g
  ·exact g7 a (List.mem_of_mem_take g)
  ·exact hco a g
  ·exact g7 a (List.mem_of_mem_drop g)
end
end Go.X
namespace Go.Proofs.YtcedghechlgecaaGreatDoor
open Go Go.X Go.Proofs.YtcedghechlgecaaGreatDoor.G
section
variable {H:AH}{S:LS}{K:KF}{C:Ctx}{i d:Nat}
theorem eZ.plain{Q:Nat→Prop}{kind a:Nat}{names:List (List Nat)}{l:List aE}{vn vl:AV}{cl:Nat→List AV}(hn:ik S Q vn names)(hl:cJ S Q 7 vl l.length cl)(he:∀i e,l[i]? = some e→RE S Q (cl i) e):eZ S Q [.int 0 (kind:Int),.int 0 (a:Int),vn,vl,.ab] (.mk kind a names l []):=
 .mk kind a names l [] vn vl .ab cl (λ_=>.ab) (λ_ _=>[]) hn hl he (cJ.nil _ _ _ _) (λi b h=>by simp at h) (λi b j s h=>by simp at h)
theorem ik.nil{Q:Nat→Prop}:ik S Q .ab []:=⟨cJ.nil _ _ _ _,λt h=>by simp at h⟩
theorem ik.one1{Q:Nat→Prop}{b m:Nat}{s:List Nat}{ex:Bool}(hQ:Q b)(hb:S.ob b=.ce [al s] m)(h8:B8 s):ik S Q (.slice b 0 1 1 1 ex) [s]:=
 ⟨cJ.names (l:=[s]) hQ hb,λt h=>by
  have e:t=s:=by simpa using h
  subst e;exact h8⟩
theorem _root_.Go.X.ik.go{S S':LS}{Q Q':Nat→Prop}{v:AV}{l:List (List Nat)}(h:ik S Q v l)(hk:∀b,Q b→S'.ob b=S.ob b)(h1:∀b,Q b→Q' b):ik S' Q' v l:=⟨h.1.go hk h1,h.2⟩
theorem _root_.Go.X.bH.setB{bs:Nat}(hp:bH C S i d)(hM:Mem H S)(hbs:bs≠C.bp)(dT:∀b,bd C.vT b→b≠bs)(o:gi):bH C (S.set bs o) i d:=
 hp.keep (X:=λb=>b=bs) hM ((aD.refl (λb=>b=bs) _).set (.inl rfl) _) (λq=>hbs q.symm) dT
theorem app0{m n k:Nat}(O:gL C m n)(hk:k≤n)(hd:d≤200){bs:Nat}{cs:List AV}{S0:LS}(hM:Mem H S)(hp:bH C S i d)(hx:aD (fF C bs) S0 S)(ho:S.ob bs=.ce cs 0)(h3:cs[3]? = some .ab)(hbs:bs≠C.bp)(dT:∀b,bd C.vT b→b≠bs){X:AH→Prop}{f:aE→Nat→bF aK}
  (hP:Post C (fF C bs) d (sQ bs) K S0 ((de C.T k i d).bind f))
  (hX:∀(e:aE) (c:List AV) (v:AV) (j:Nat) (H':AH) (S':LS),Mem H' (S'.set bs (.ce (cs.set 3 v) 0))→aD (bL C) S S'→bH C (S'.set bs (.ce (cs.set 3 v) 0)) j d→cJ S' (λb=>S.n≤b∧b<S'.n) 7 v 1 (λ_=>c)→RE S' (λb=>S.n≤b∧b<S'.n) c e→Post C (fF C bs) d (sQ bs) K S0 (f e j)→X H') :
  aC (.ptr bs 3) H λv28=>cN v28 λv29=>cI 0 v29 λz30=>cS H (bY (aP H) 1 7 z7 λv31 lQ=>bT (Nat.beq lQ.n (Nat.succ H.n)) ((s13 m).2.2.2.2.1 (.ptr C.bp 0) lQ λxq lP=>cR K xq lP λv35=>aC (.ptr bs 3) lP λv36=>bT (aT v36 v28) (ef 7 96 v28 v31 lP λv37 nG=>dj 7 v37 (.int 0 z30) λv39=>ag 7 v39 v35 nG λuJ=>ag 1 (.ptr bs 3) v37 uJ λqd=>ag 1 (.ptr bs 3) v37 nG λwL=>ag 7 v39 v35 wL λH44=>lg 7 1 v39 (.ptr bs 3) (X qd)))):=by
 have hl3:3<cs.length:=(List.getElem?_eq_some_iff.1 h3).1;refine aG hM ho (v:=.ab) h3 ?_;refine(eg.nil S 7).len ?_;rw[aR];refine hM.cS ?_;refine dP hM rfl dm λH1 m1=>cv (qy (by rw[m1.n,hM.n];rfl)) ?_;have c1:aD cB S (S.push (.ce z7 0)):=(aD.refl _ _).push _;have ez:bs<S.n:=hM.lt (by rw[ho];simp);have jV:¬bL C bs:=λq=>hbs (by have q:bs=C.bp:=q;exact q);have hbp:=hp.eJ hM;refine O.exp k hk hd m1 (hp.no hM c1) (Post.call hP (hx.trans c1.no) (λ_ h=>.inl h) λe j H2 S2 w m2 c2 p2 ⟨c,hw,hR⟩ hP2=>?_);subst hw;have c12:=c1.no.trans c2;have o2:=c12.ob hM ho jV;have or2:S2.ob S.n=.ce z7 0:=c2.ob m1 (LS.ak _ _) λq=>by have q:S.n=C.bp:=q;omega
 refine aG m2 o2 (v:=.ab) h3 ?_;refine cv rfl ?_;have n2:S.n+1≤S2.n:=c2.1;refine ab9 (n:=0) (l:=[]) m2 (eg.nil _ _) or2 rfl dm hR.len hR.ones o2 hl3 (λh=>h) (by omega) λH3 S3 v' m3 he o3=>?_;obtain⟨e1,e2,e3,e4⟩:=he;have c3:aD (bL C) S S3:=⟨Nat.le_trans c12.1 e1,λb hb hx=>(e2 b (Nat.lt_of_lt_of_le hb c12.1) λh=>h).trans (c12.2 b hb hx)⟩
 have hv':∀b,bd v' b→S2.n≤b:=λb hb=>(e4 b hb).elim (λh=>h.elim) λh=>h;have p3:bH C S3 j d:=p2.keep (X:=cB) m2 ⟨e1,λb hb _=>e2 b hb λh=>h⟩ (λh=>h) λ_ _ h=>h;have hlt3:∀b,bd v' b→b<S3.n:=λb hb=>by
  rcases e3 with⟨_,g,_⟩|⟨b',cp,ex,cs',rfl,g2,g3,_⟩
  ·omega
  ·have e:b=b':=hb;subst e;have hne:b≠bs:=by have:=hv' b rfl;omega
   exact m3.lt (S:=S3.set bs _) (b:=b) (by rw[LS.aq _ _ hne,g2];simp)
 refine hX e c v' j H3 S3 m3 c3 ?_ ((e3.slR (Q:=λb=>S.n≤b∧b<S3.n) λb hb=>⟨by have:=hv' b hb;omega,hlt3 b hb⟩).congr λi hi=>?_) (hR.go (λb hb=>e2 b hb.2 λh=>h) λb hb=>⟨by have h:=hb.1;have h:S.n+1≤b:=h;omega,Nat.lt_of_lt_of_le hb.2 e1⟩) hP2
 ·refine⟨(LS.aq _ _ hbs.symm).trans p3.ob,?_,p3.lt⟩;rcases p3.tk with g|⟨b,cc,ex,cs',g1,g2,g3⟩
  ·exact .inl g
  ·refine .inr ⟨b,cc,ex,cs',g1,?_,g3⟩;rw[LS.aq _ _ (dT b (by rw[g1];rfl))];exact g2
 ·have:i=0:=by omega
  subst this;show(([]++c:List AV).drop (0*7)).take 7=c;rw[Nat.zero_mul,List.drop_zero,List.nil_append,List.take_of_length_le (by rw[hR.len];exact Nat.le_refl _)]
theorem s95{m n:Nat}(hpv:C.pv=.iface 57 (.agg []))(O:gL C m n):∀k,k≤n+1→FX C (s13 (m+1)).2.2.1 (ep C.T k):=by
 intro k hk K H S i d a bs hd hM hp ho hbs dT hP;cases k with
 |zero=>simp only[ep]at hP;exact False.elim hP
 |succ k=>
  have e:(s13 (m+1)).2.2.1=wb (lT (s13 m)):=by rw[na]
  rw[e];have r1:(lT (s13 m)).1=f23:=rfl;have r2:(lT (s13 m)).2.1=f56:=rfl;have r3:(lT (s13 m)).2.2.1=(s13 m).2.2.2.2.1:=rfl;have r4:(lT (s13 m)).2.2.2.1=f130:=rfl;have r5:(lT (s13 m)).2.2.2.2=(s13 m).2.2.2.2.2.2.2.1:=rfl;unfold wb UG IT;rw[r2,r3,r4];simp only[ep]at hP;have hbp:=hp.eJ hM;have ez:bs<S.n:=hM.lt (by rw[ho];simp);have jV:¬bL C bs:=λq=>hbs (by have q:bs=C.bp:=q;exact q);simp only[dG,bu,Nat.zero_add];refine bj (v:=.int 0 ((1:Nat):Int)) hM ho (by omega) (by show 0<5;omega) rfl λH1 m1'=>?_;have m1:Mem H1 (S.set bs (.ce [.int 0 ((1:Nat):Int),.int 0 (a:Int),.ab,.ab,.ab] 0)):=m1';clear m1';have x1:aD (fF C bs) S (S.set bs (.ce [.int 0 ((1:Nat):Int),.int 0 (a:Int),.ab,.ab,.ab] 0)):=(aD.refl _ _).set (.inl (.inr rfl)) _;have p1:=hp.setB hM hbs dT (.ce [.int 0 ((1:Nat):Int),.int 0 (a:Int),.ab,.ab,.ab] 0);have o1:(S.set bs (.ce [.int 0 ((1:Nat):Int),.int 0 (a:Int),.ab,.ab,.ab] 0)).ob bs=.ce [.int 0 ((1:Nat):Int),.int 0 (a:Int),.ab,.ab,.ab] 0:=LS.ay _ _ _;refine dz (s:=[102,117,110,99,116,105,111,110]) (aZ (by decide)) m1 p1 λH2 S2 m2 c2 p2=>?_;simp only[aA,bo];have o2:=c2.ob m1 o1 jV;have x2:=x1.trans (c2.two (bn:=bs));cases h1:isA C.T [102,117,110,99,116,105,111,110] i with
  |true=>
   simp only[h1,if_true]at hP p2;rw[aU];refine bj (v:=.int 0 ((12:Nat):Int)) m2 o2 (by omega) (by show 0<5;omega) rfl λH3 m3'=>?_;have m3:Mem H3 (S2.set bs (.ce [.int 0 ((12:Nat):Int),.int 0 (a:Int),.ab,.ab,.ab] 0)):=m3';clear m3';have x3:aD (fF C bs) S (S2.set bs (.ce [.int 0 ((12:Nat):Int),.int 0 (a:Int),.ab,.ab,.ab] 0)):=x2.set (.inl (.inr rfl)) _;have p3:=p2.setB m2 hbs dT (.ce [.int 0 ((12:Nat):Int),.int 0 (a:Int),.ab,.ab,.ab] 0);have o3:(S2.set bs (.ce [.int 0 ((12:Nat):Int),.int 0 (a:Int),.ab,.ab,.ab] 0)).ob bs=.ce [.int 0 ((12:Nat):Int),.int 0 (a:Int),.ab,.ab,.ab] 0:=LS.ay _ _ _;refine vz hpv m3 p3 (Post.call hP x3 (λ_ h=>.inl h) λs j H4 S4 w m4 c4 p4 ⟨hv,h8⟩ hP2=>?_);subst hv;have o4:=c4.ob m3 o3 jV;have x4:=x3.trans (c4.two (bn:=bs));refine iX (iO s) ?_;refine dP m4 rfl (λx h=>by rw[List.mem_singleton]at h;rw[h];exact iO s) λH5 m5=>?_;have c5:aD cB S4 (S4.push (.ce [al s] 0)):=(aD.refl _ _).push _;refine bj m5 (c5.ob m4 o4 λq=>q) (by omega) (by show 2<5;omega) rfl λH6 KC=>?_;have m6:Mem H6 ((S4.push (.ce [al s] 0)).set bs (.ce [.int 0 ((12:Nat):Int),.int 0 (a:Int),.slice S4.n 0 1 1 1 true,.ab,.ab] 0)):=KC;clear KC;have x6:aD (fF C bs) S ((S4.push (.ce [al s] 0)).set bs (.ce [.int 0 ((12:Nat):Int),.int 0 (a:Int),.slice S4.n 0 1 1 1 true,.ab,.ab] 0)):=(x4.trans c5.no).set (.inl (.inr rfl)) _;have p6:=(p4.no m4 c5).setB m5 hbs dT (.ce [.int 0 ((12:Nat):Int),.int 0 (a:Int),.slice S4.n 0 1 1 1 true,.ab,.ab] 0);have o6:((S4.push (.ce [al s] 0)).set bs (.ce [.int 0 ((12:Nat):Int),.int 0 (a:Int),.slice S4.n 0 1 1 1 true,.ab,.ab] 0)).ob bs=.ce [.int 0 ((12:Nat):Int),.int 0 (a:Int),.slice S4.n 0 1 1 1 true,.ab,.ab] 0:=LS.ay _ _ _;have n4:=x4.1;have wN:((S4.push (.ce [al s] 0)).set bs (.ce [.int 0 ((12:Nat):Int),.int 0 (a:Int),.slice S4.n 0 1 1 1 true,.ab,.ab] 0)).ob S4.n=.ce [al s] 0:=(LS.aq _ _ (by omega)).trans (LS.ak _ _);have nn6:((S4.push (.ce [al s] 0)).set bs (.ce [.int 0 ((12:Nat):Int),.int 0 (a:Int),.slice S4.n 0 1 1 1 true,.ab,.ab] 0)).n=S4.n+1:=rfl;revert m6 x6 p6 o6 wN nn6;generalize (S4.push (.ce [al s] 0)).set bs (.ce [.int 0 ((12:Nat):Int),.int 0 (a:Int),.slice S4.n 0 1 1 1 true,.ab,.ab] 0)=S6;intro m6 x6 p6 o6 wN nn6;unfold IS IQ;rw[r1,r5];refine iY m6 p6 λH7 S7 m7 c7 p7=>?_;rw[aA];refine iT ?_;have o7:=c7.ob m6 o6 λq=>q;have on7:=c7.ob m6 wN λq=>q;have x7:=x6.trans (c7.no (X:=fF C bs));have n7:=c7.1;refine O.body k (by omega) hd m7 p7 (Post.call hP2 x7 (λ_ h=>.inl h) λe j H8 S8 w m8 c8 p8 ⟨c,hw,hR⟩ hP3=>?_);subst hw;have o8:=c8.ob m7 o7 jV;have on8:=c8.ob m7 on7 λq=>by have q:S4.n=C.bp:=q;omega
   have x8:=x7.trans (c8.two (bn:=bs));have n8:=c8.1;rw[fO];refine gq hR.len ?_;rw[wy hR.len rfl];refine dP m8 (by rw[hR.len]) hR.ones λH9 m9=>?_;simp only[dG,bu,Nat.zero_add];have c9:aD cB S8 (S8.push (.ce c 0)):=(aD.refl _ _).push _;refine bj m9 (c9.ob m8 o8 λq=>q) (by omega) (by show 3<5;omega) rfl λHa ma=>?_;have nx7:=x7.1;have kp:∀b,b<S8.n→b≠bs→((S8.push (.ce c 0)).set bs (.ce [.int 0 ((12:Nat):Int),.int 0 (a:Int),.slice S4.n 0 1 1 1 true,.slice S8.n 0 1 1 7 true,.ab] 0)).ob b=S8.ob b:=λb hb hne=>by rw[LS.aq _ _ hne,LS.cj _ _ hb]
   exact hP3 Ha _ _ ma ((x8.trans c9.no).set (.inl (.inr rfl)) _) ((p8.no m8 c9).setB m9 hbs dT _) ⟨rfl,_,LS.ay _ _ _,eZ.plain (l:=[e]) (cl:=λ_=>c) (ik.one1 (b:=S4.n) ⟨n4,by show S4.n<S8.n+1;omega⟩ ((kp _ (by omega) (by omega)).trans on8) h8) (cJ.single (m:=0) ⟨by omega,Nat.lt_succ_self _⟩ ((LS.aq _ _ (by omega)).trans (LS.ak _ _)) hR.len) λi e' h=>by
    cases i with
    |zero=>
     have e1:e=e':=by simpa using h
     subst e1;exact hR.go (λb hb=>kp b hb.2 (by have:=hb.1;omega)) λb hb=>⟨by have:=hb.1;omega,Nat.lt_succ_of_lt hb.2⟩
    |succ i=>simp at h⟩
  |false=>
   simp only[h1,Bool.false_eq_true,if_false]at hP p2;rw[aV];refine vz hpv m2 p2 (Post.call hP x2 (λ_ h=>.inl h) λs j H3 S3 w m3 c3 p3 ⟨hv,h8⟩ hP2=>?_);subst hv;have o3:=c3.ob m2 o2 jV;have x3:=x2.trans (c3.two (bn:=bs));refine iX (iO s) ?_;refine dP m3 rfl (λx h=>by rw[List.mem_singleton]at h;rw[h];exact iO s) λH4 m4=>?_;have c4:aD cB S3 (S3.push (.ce [al s] 0)):=(aD.refl _ _).push _;refine bj m4 (c4.ob m3 o3 λq=>q) (by omega) (by show 2<5;omega) rfl λH5 YU=>?_;have m5:Mem H5 ((S3.push (.ce [al s] 0)).set bs (.ce [.int 0 ((1:Nat):Int),.int 0 (a:Int),.slice S3.n 0 1 1 1 true,.ab,.ab] 0)):=YU;clear YU;have x5:aD (fF C bs) S ((S3.push (.ce [al s] 0)).set bs (.ce [.int 0 ((1:Nat):Int),.int 0 (a:Int),.slice S3.n 0 1 1 1 true,.ab,.ab] 0)):=(x3.trans c4.no).set (.inl (.inr rfl)) _;have p5:=(p3.no m3 c4).setB m4 hbs dT (.ce [.int 0 ((1:Nat):Int),.int 0 (a:Int),.slice S3.n 0 1 1 1 true,.ab,.ab] 0);have o5:((S3.push (.ce [al s] 0)).set bs (.ce [.int 0 ((1:Nat):Int),.int 0 (a:Int),.slice S3.n 0 1 1 1 true,.ab,.ab] 0)).ob bs=.ce [.int 0 ((1:Nat):Int),.int 0 (a:Int),.slice S3.n 0 1 1 1 true,.ab,.ab] 0:=LS.ay _ _ _;have n3:=x3.1;have YV:((S3.push (.ce [al s] 0)).set bs (.ce [.int 0 ((1:Nat):Int),.int 0 (a:Int),.slice S3.n 0 1 1 1 true,.ab,.ab] 0)).ob S3.n=.ce [al s] 0:=(LS.aq _ _ (by omega)).trans (LS.ak _ _);have nn5:((S3.push (.ce [al s] 0)).set bs (.ce [.int 0 ((1:Nat):Int),.int 0 (a:Int),.slice S3.n 0 1 1 1 true,.ab,.ab] 0)).n=S3.n+1:=rfl;revert m5 x5 p5 o5 YV nn5;generalize (S3.push (.ce [al s] 0)).set bs (.ce [.int 0 ((1:Nat):Int),.int 0 (a:Int),.slice S3.n 0 1 1 1 true,.ab,.ab] 0)=S5;intro m5 x5 p5 o5 YV nn5;refine dz (s:=[61]) (aZ (by decide)) m5 p5 λH6 S6 m6 c6 p6=>?_;simp only[aA,bo];have o6:=c6.ob m5 o5 jV;have wN:=c6.ob m5 YV λq=>by have q:S3.n=C.bp:=q;omega
   have x6:=x5.trans (c6.two (bn:=bs));have n6:=c6.1;cases h2:isA C.T [61] j with
   |false=>
    simp only[h2,Bool.false_eq_true,if_false]at hP2 p6;rw[aV];exact hP2 H6 S6 _ m6 x6 p6 ⟨rfl,_,o6,eZ.plain (ik.one1 ⟨n3,by omega⟩ wN h8) (cJ.nil _ _ _ (λ_=>[])) λi e h=>by simp at h⟩
   |true=>
    simp only[h2,if_true]at hP2 p6;rw[aU];refine app0 O (k:=k) (by omega) hd m6 p6 x6 o6 rfl hbs dT hP2 λe c v j H7 S7 m7 c7 p7 hsl hR hP3=>?_;have on7:=c7.ob m6 wN λq=>by have q:S3.n=C.bp:=q;omega
    have n7:=c7.1;have n6':=x6.1;have kp:∀b,S.n≤b→(S7.set bs (.ce ([.int 0 ((1:Nat):Int),.int 0 (a:Int),.slice S3.n 0 1 1 1 true,.ab,.ab].set 3 v) 0)).ob b=S7.ob b:=λb hb=>LS.aq _ _ (by omega);exact hP3 H7 _ _ m7 ((x6.trans (c7.two (bn:=bs))).set (.inl (.inr rfl)) _) p7 ⟨rfl,_,LS.ay _ _ _,eZ.plain (l:=[e]) (ik.one1 (b:=S3.n) ⟨n3,by show S3.n<S7.n;omega⟩ ((kp _ n3).trans on7) h8) (hsl.go (λb hb=>kp b (by have:=hb.1;omega)) λb hb=>⟨by have:=hb.1;omega,hb.2⟩) λi e' h=>by
     cases i with
     |zero=>
      have e1:e=e':=by simpa using h
      subst e1;exact hR.go (λb hb=>kp b (by have:=hb.1;omega)) λb hb=>⟨by have:=hb.1;omega,hb.2⟩
     |succ i=>simp at h⟩
end
end Go.Proofs.YtcedghechlgecaaGreatDoor
namespace Go.X
theorem RE.k0{S:LS}{Q:Nat→Prop}{c:List AV}{e:aE}(h:RE S Q c e):∃l,c=.int 0 (e.kind:Int)::l:=by
 cases h;exact⟨_,rfl⟩
end Go.X
namespace Go.Proofs.YtcedghechlgecaaGreatDoor
open Go Go.X Go.Proofs.YtcedghechlgecaaGreatDoor.G
section
variable {H:AH}{S:LS}{K:KF}{C:Ctx}{i d:Nat}
theorem ajj{m n:Nat}(hpv:C.pv=.iface 57 (.agg []))(O:gL C m n):∀k,k≤n+1→FX C (s13 (m+1)).2.2.2.2.2.2.1 (ey C.T k):=by
 intro k hk K H S i d a bs hd hM hp ho hbs dT hP;cases k with
 |zero=>simp only[ey]at hP;exact False.elim hP
 |succ k=>
  have e:(s13 (m+1)).2.2.2.2.2.2.1=sk (my (s13 m)):=by rw[na]
  rw[e];have r1:(my (s13 m)).1=(s13 m).2.2.2.2.1:=rfl;have r2:(my (s13 m)).2.1=lC:=rfl;have r3:(my (s13 m)).2.2=(s13 m).2.2.2.2.2.2.2.2.2.1:=rfl;unfold sk MD DK;rw[r1,r2,r3];simp only[ey]at hP;have hbp:=hp.eJ hM;have ez:bs<S.n:=hM.lt (by rw[ho];simp);have jV:¬bL C bs:=λq=>hbs (by have q:bs=C.bp:=q;exact q);have gM:∀b,S.n≤b→¬bL C b:=λb hb q=>by have q:b=C.bp:=q;omega
  refine O.post k (by omega) hd hM hp (Post.call hP (aD.refl _ _) (λ_ h=>.inl h) λe j H1 S1 v m1 c1 p1 ⟨c,hv,hR⟩ hP2=>?_);subst hv;have o1:=c1.ob hM ho jV;have n1:=c1.1;simp only[gO];refine cn (b9 m1 dm λH2 m2=>?_);refine hV m2 (LS.ak S1 (.ce z7 0)) rfl hR.len hR.ones λH3 m3=>?_;have c3:aD cB S1 ((S1.push (.ce z7 0)).set S1.n (.ce c 0)):=((aD.refl _ _).push _).set (.inr (Nat.le_refl _)) _;have NV:((S1.push (.ce z7 0)).set S1.n (.ce c 0)).ob S1.n=.ce c 0:=LS.ay _ _ _;have nn3:((S1.push (.ce z7 0)).set S1.n (.ce c 0)).n=S1.n+1:=rfl;have o3:=c3.ob m1 o1 λq=>q;have p3:=p1.no m1 c3;have x3:aD (bL C) S ((S1.push (.ce z7 0)).set S1.n (.ce c 0)):=c1.trans c3.no;have hR3:RE ((S1.push (.ce z7 0)).set S1.n (.ce c 0)) (eI S.n S1.n) c e:=hR.go (λb hb=>c3.2 b hb.2 λq=>q) λ_ h=>h;revert m3 c3 NV nn3 o3 p3 x3 hR3;generalize (S1.push (.ce z7 0)).set S1.n (.ce c 0)=S3;intro m3 c3 NV nn3 o3 p3 x3 hR3;obtain⟨cr,hcr⟩:=hR.k0;simp only[dG,bu,Nat.zero_add];refine aG m3 NV (v:=.int 0 (e.kind:Int)) (by rw[hcr];rfl) ?_;have e10:Int.ofNat 10=((10:Nat):Int):=rfl;rw[aR,cV,e10];by_cases g10:e.kind=10
  ·rw[if_pos g10]at hP2;rw[decide_eq_true (by omega),aU];refine fl m3 NV hR.len ?_;refine m3.cS ?_;rw[fO];refine gq hR.len ?_;rw[wy hR.len rfl];refine dP m3 (by rw[hR.len]) hR.ones λH4 m4=>cv (qy (by rw[m4.n,m3.n];rfl)) ?_;have c4:aD cB S3 (S3.push (.ce c 0)):=(aD.refl _ _).push _;refine bj (v:=.int 0 ((3:Nat):Int)) m4 (c4.ob m3 o3 λq=>q) (by omega) (by show 0<5;omega) rfl λH5 YU=>?_;have m5:Mem H5 ((S3.push (.ce c 0)).set bs (.ce [.int 0 ((3:Nat):Int),.int 0 (a:Int),.ab,.ab,.ab] 0)):=YU;clear YU;refine fl m5 ((LS.aq _ _ (by omega)).trans (c4.ob m3 NV λq=>q)) hR.len ?_;refine cv hR.same ?_;refine bj m5 (LS.ay _ _ _) (by omega) (by show 3<5;omega) rfl λH6 KC=>?_;have m6:Mem H6 (((S3.push (.ce c 0)).set bs (.ce [.int 0 ((3:Nat):Int),.int 0 (a:Int),.ab,.ab,.ab] 0)).set bs (.ce [.int 0 ((3:Nat):Int),.int 0 (a:Int),.ab,.slice S3.n 0 1 1 7 true,.ab] 0)):=KC;have kp:∀b,b≠bs→b<S3.n→(((S3.push (.ce c 0)).set bs (.ce [.int 0 ((3:Nat):Int),.int 0 (a:Int),.ab,.ab,.ab] 0)).set bs (.ce [.int 0 ((3:Nat):Int),.int 0 (a:Int),.ab,.slice S3.n 0 1 1 7 true,.ab] 0)).ob b=S3.ob b:=λb h1 h2=>by rw[LS.aq _ _ h1,LS.aq _ _ h1,LS.cj _ _ h2]
   have x6:aD (fF C bs) S (((S3.push (.ce c 0)).set bs (.ce [.int 0 ((3:Nat):Int),.int 0 (a:Int),.ab,.ab,.ab] 0)).set bs (.ce [.int 0 ((3:Nat):Int),.int 0 (a:Int),.ab,.slice S3.n 0 1 1 7 true,.ab] 0)):=(((x3.trans c4.no).two (bn:=bs)).set (.inl (.inr rfl)) _).set (.inl (.inr rfl)) _;refine hP2 H6 _ _ m6 x6 (((p3.no m3 c4).setB m4 hbs dT _).setB m5 hbs dT _) ⟨rfl,_,LS.ay _ _ _,eZ.plain (l:=[e]) (cl:=λ_=>c) ik.nil (cJ.single (b:=S3.n) (m:=0) ⟨by omega,Nat.lt_succ_self _⟩ (by rw[LS.aq _ _ (by omega),LS.aq _ _ (by omega)];exact LS.ak _ _) hR.len) λi e' h=>?_⟩;cases i with
   |zero=>
    have e1:e=e':=by simpa using h
    subst e1;exact hR3.go (λb hb=>kp b (by have:=hb.1;omega) (by have:=hb.2;omega)) λb hb=>⟨hb.1,by show b<S3.n+1;have:=hb.2;omega⟩
   |succ i=>simp at h
  ·rw[if_neg g10]at hP2;rw[decide_eq_false (by omega),aV];refine gE (s:=[61]) hpv (aZ (by decide)) m3 p3 (Post.call (jy:=mD) hP2 (x3.two (bn:=bs)) (λ_ h=>.inl h) λ_ j2 H4 S4 w m4 c4 p4 _ hP3=>?_);have ov4:=c4.ob m3 NV (gM _ n1);have o4:=c4.ob m3 o3 jV;have x4:=x3.trans c4;refine fl m4 ov4 hR.len ?_;refine O.exp k (by omega) hd m4 p4 (Post.call hP3 (x4.two (bn:=bs)) (λ_ h=>.inl h) λy j3 H5 S5 w m5 c5 p5 ⟨cb,hw,hR2⟩ xS=>?_);subst hw;have ov5:=c5.ob m4 ov4 (gM _ n1);have o5:=c5.ob m4 o4 jV;have x5:=x4.trans c5;have n5:=x5.1;have n4:=x4.1;have c35:aD (bL C) S3 S5:=c4.trans c5;have n35:=c35.1;refine fl m5 ov5 hR.len ?_;refine cv hR.same ?_;refine m5.cS ?_;rw[fO];refine gq hR.len ?_;rw[fO];refine gq hR2.len ?_;rw[R7 hR.len hR2.len rfl];refine dP m5 (by rw[List.length_append,hR.len,hR2.len]) (λx h=>?_) λH6 m6=>cv (qy (by rw[m6.n,m5.n];rfl)) ?_
   ·rcases List.mem_append.1 h with g|g
    ·exact hR.ones x g
    ·exact hR2.ones x g
   have c6:aD cB S5 (S5.push (.ce (c++cb) 0)):=(aD.refl _ _).push _;refine bj (v:=.int 0 ((2:Nat):Int)) m6 (c6.ob m5 o5 λq=>q) (by omega) (by show 0<5;omega) rfl λH7 m7'=>?_;have m7:Mem H7 ((S5.push (.ce (c++cb) 0)).set bs (.ce [.int 0 ((2:Nat):Int),.int 0 (a:Int),.ab,.ab,.ab] 0)):=m7';clear m7';refine fl m7 ((LS.aq _ _ (by omega)).trans (c6.ob m5 ov5 λq=>q)) hR.len ?_;refine cv hR.same ?_;refine bj m7 (LS.ay _ _ _) (by omega) (by show 3<5;omega) rfl λH8 m8'=>?_;have m8:Mem H8 (((S5.push (.ce (c++cb) 0)).set bs (.ce [.int 0 ((2:Nat):Int),.int 0 (a:Int),.ab,.ab,.ab] 0)).set bs (.ce [.int 0 ((2:Nat):Int),.int 0 (a:Int),.ab,.slice S5.n 0 2 2 7 true,.ab] 0)):=m8';have kp:∀b,b≠bs→b<S5.n→(((S5.push (.ce (c++cb) 0)).set bs (.ce [.int 0 ((2:Nat):Int),.int 0 (a:Int),.ab,.ab,.ab] 0)).set bs (.ce [.int 0 ((2:Nat):Int),.int 0 (a:Int),.ab,.slice S5.n 0 2 2 7 true,.ab] 0)).ob b=S5.ob b:=λb h1 h2=>by rw[LS.aq _ _ h1,LS.aq _ _ h1,LS.cj _ _ h2]
   have x8:aD (fF C bs) S (((S5.push (.ce (c++cb) 0)).set bs (.ce [.int 0 ((2:Nat):Int),.int 0 (a:Int),.ab,.ab,.ab] 0)).set bs (.ce [.int 0 ((2:Nat):Int),.int 0 (a:Int),.ab,.slice S5.n 0 2 2 7 true,.ab] 0)):=(((x5.trans c6.no).two (bn:=bs)).set (.inl (.inr rfl)) _).set (.inl (.inr rfl)) _;refine xS H8 _ _ m8 x8 (((p5.no m5 c6).setB m6 hbs dT _).setB m7 hbs dT _) ⟨rfl,_,LS.ay _ _ _,eZ.plain (l:=[e,y]) ik.nil (cJ.two (b:=S5.n) (m:=0) ⟨n5,Nat.lt_succ_self _⟩ (by rw[LS.aq _ _ (by omega),LS.aq _ _ (by omega)];exact LS.ak _ _) hR.len hR2.len) λi e' h=>?_⟩
   match i,h with
   |0,h=>
    have e1:e=e':=by simpa using h
    subst e1;exact hR3.go (λb hb=>by
     have h1:=hb.1;have h2:=hb.2;rw[kp b (by omega) (by omega)];exact c35.2 b (by omega) (gM b h1)) λb hb=>⟨hb.1,by show b<S5.n+1;have:=hb.2;omega⟩
   |1,h=>
    have e1:y=e':=by simpa using h
    subst e1;exact hR2.go (λb hb=>kp b (by have:=hb.1;omega) hb.2) λb hb=>⟨by have:=hb.1;omega,Nat.lt_succ_of_lt hb.2⟩
   |i+2,h=>simp at h
end
section
variable {H:AH}{S:LS}{K:KF}{C:Ctx}{i d:Nat}
theorem agU{m n k:Nat}(O:gL C m n)(hk:k≤n)(hd:d≤200){bs:Nat}{cs:List AV}{S0:LS}{Z:Nat→Prop}{v:AV}{l:List aE}(hM:Mem H S)(hp:bH C S i d)(hx:aD (fF C bs) S0 S)(ho:S.ob bs=.ce cs 0)(h3:cs[3]? = some v)(hbs:bs≠C.bp)(dT:∀b,bd C.vT b→b≠bs)
  (L:fp kA Z S v l) (hZ:∀b,Z b→b≠bs∧b≠C.bp∧¬bd C.vT b) (hnew:∀b,S.n≤b→Z b) (hll:l.length≤1000000){X:AH→Prop}{f:aE→Nat→bF aK}
  (hP:Post C (fF C bs) d (sQ bs) K S0 ((de C.T k i d).bind f))
  (hX:∀(e:aE) (v':AV) (j:Nat) (H':AH) (S':LS),Mem H' (S'.set bs (.ce (cs.set 3 v') 0))→aD (λb=>b=C.bp∨bd v b) S S'→bH C (S'.set bs (.ce (cs.set 3 v') 0)) j d→fp kA Z (S'.set bs (.ce (cs.set 3 v') 0)) v' (l++[e])→(∀b,bd v' b→bd v b∨S.n≤b)→Post C (fF C bs) d (sQ bs) K S0 (f e j)→X H') :
  aC (.ptr bs 3) H λv28=>cN v28 λv29=>cI 0 v29 λz30=>cS H (bY (aP H) 1 7 z7 λv31 lQ=>bT (Nat.beq lQ.n (Nat.succ H.n)) ((s13 m).2.2.2.2.1 (.ptr C.bp 0) lQ λxq lP=>cR K xq lP λv35=>aC (.ptr bs 3) lP λv36=>bT (aT v36 v28) (ef 7 96 v28 v31 lP λv37 nG=>dj 7 v37 (.int 0 z30) λv39=>ag 7 v39 v35 nG λuJ=>ag 1 (.ptr bs 3) v37 uJ λqd=>ag 1 (.ptr bs 3) v37 nG λwL=>ag 7 v39 v35 wL λH44=>lg 7 1 v39 (.ptr bs 3) (X qd)))):=by
 have hl3:3<cs.length:=(List.getElem?_eq_some_iff.1 h3).1;have LR:cy kA 0 S v l:=L.toR λb _=>Nat.zero_le _;refine aG hM ho (v:=v) h3 ?_;refine LR.Sr ?_;rw[aR];refine hM.cS ?_;refine dP hM rfl dm λH1 m1=>cv (qy (by rw[m1.n,hM.n];rfl)) ?_;have c1:aD cB S (S.push (.ce z7 0)):=(aD.refl _ _).push _;have ez:bs<S.n:=hM.lt (by rw[ho];simp);have jV:¬bL C bs:=λq=>hbs (by have q:bs=C.bp:=q;exact q);have hbp:=hp.eJ hM;refine O.exp k hk hd m1 (hp.no hM c1) (Post.call hP (hx.trans c1.no) (λ_ h=>.inl h) λe j H2 S2 w m2 c2 p2 ⟨c,hw,hR⟩ hP2=>?_);subst hw;have c12:aD (bL C) S S2:=c1.no.trans c2;have o2:=c12.ob hM ho jV;have or2:S2.ob S.n=.ce z7 0:=c2.ob m1 (LS.ak _ _) λq=>by have q:S.n=C.bp:=q;omega
 have L2:fp kA Z S2 v l:=L.keep hM c12.1 λb hb hlt=>c12.2 b hlt λq=>(hZ b hb).2.1 (by have q:b=C.bp:=q;exact q);refine aG m2 o2 (v:=v) h3 ?_;refine cv LR.same ?_;have n2:S.n+1≤S2.n:=c2.1;have ajk:¬bd v bs:=λq=>(hZ bs (L.wO q)).1 rfl;have aaY:∀b,bd v b→b<S.n:=λb hb=>L.lt hM hb;obtain⟨cl,hfr,hrest⟩:=id L2;refine ab9 m2 hfr or2 rfl dm hR.len hR.ones o2 hl3 ajk (by omega) λH3 S3 v' m3 he o3=>?_;have he':=he;obtain⟨e1,e2,e3,e4⟩:=he';have c3:aD (λb=>b=C.bp∨bd v b) S S3:=⟨Nat.le_trans c12.1 e1,λb hb hx=>(e2 b (Nat.lt_of_lt_of_le hb c12.1) λh=>hx (.inr h)).trans (c12.2 b hb λq=>hx (.inl (by have q:b=C.bp:=q;exact q)))⟩
 have L3:fp kA Z S3 v' (l++[e]):=L2.step hR (λb hb=>⟨hnew b (by have h:S.n+1≤b:=hb.1;omega),hb.2,λq=>by have:=aaY b q;have h:S.n+1≤b:=hb.1;omega⟩) (λb hb=>hnew b (by omega)) λcl' h'=>by rw[hfr.uniq h'];exact he
 have p3:bH C S3 j d:=p2.keep (X:=λb=>bd v b) m2 ⟨e1,λb hb hn=>e2 b hb hn⟩ (λq=>(hZ _ (L.wO q)).2.1 rfl) λb hb q=>(hZ _ (L.wO q)).2.2 hb;have L4:fp kA Z (S3.set bs (.ce (cs.set 3 v') 0)) v' (l++[e]):=by
  obtain⟨cl3,g1,g2,g3,g4⟩:=L3;refine⟨cl3,?_,g2,g3,λi c a hc ha=>?_⟩
  ·rcases g1 with g|⟨b,cc,ex,cs',q1,q2,q3⟩
   ·exact .inl g
   ·exact .inr ⟨b,cc,ex,cs',q1,(LS.aq _ _ (hZ b (g3 b (by rw[q1];rfl))).1).trans q2,q3⟩
  ·obtain⟨Q,q1,q2⟩:=g4 i c a hc ha;exact⟨Q,RE.go (λb hb=>LS.aq _ _ (hZ b (q2 b hb).1).1) (λ_ h=>h) q1,q2⟩
 refine hX e v' j H3 S3 m3 c3 ?_ L4 (λb hb=>(e4 b hb).elim .inl λh=>.inr (by omega)) hP2;refine⟨(LS.aq _ _ hbs.symm).trans p3.ob,?_,p3.lt⟩;rcases p3.tk with g|⟨b,cc,ex,cs',g1,g2,g3⟩
 ·exact .inl g
 ·refine .inr ⟨b,cc,ex,cs',g1,?_,g3⟩;rw[LS.aq _ _ (dT b (by rw[g1];rfl))];exact g2
end
end Go.Proofs.YtcedghechlgecaaGreatDoor
namespace Go.X
section
variable {S:LS}
theorem cJ.wO{Q:Nat→Prop}{sz n:Nat}{v:AV}{cl:Nat→List AV}(h:cJ S Q sz v n cl){b:Nat}(hb:bd v b):Q b:=by
 rcases h with⟨rfl,_⟩|⟨b',o,c,ex,cs,m,rfl,h1,_⟩
 ·exact hb.elim
 ·have e:b=b':=hb;rw[e];exact h1
end
end Go.X
namespace Go.Proofs.YtcedghechlgecaaGreatDoor
open Go Go.X Go.Proofs.YtcedghechlgecaaGreatDoor.G
section
variable {H:AH}{S:LS}{K:KF}{C:Ctx}{i d:Nat}
theorem eZ.blk{Q:Nat→Prop}{kind a:Nat}{names:List (List Nat)}{l:List aE}{b:List aK}{vn vl vb v6:AV}{cl cb:Nat→List AV}(hn:ik S Q vn names)(hl:cJ S Q 7 vl l.length cl)(he:∀i e,l[i]? = some e→RE S Q (cl i) e)(hvb:cJ S Q 1 vb 1 (λ_=>[v6]))(h6:cJ S Q 5 v6 b.length cb)(hs:∀j s,b[j]? = some s→eZ S Q (cb j) s):eZ S Q [.int 0 (kind:Int),.int 0 (a:Int),vn,vl,vb] (.mk kind a names l [b]):=
 .mk kind a names l [b] vn vl vb cl (λ_=>v6) (λ_=>cb) hn hl he hvb (λi b' h=>by
  cases i with
  |zero=>
   have e1:b=b':=by simpa using h
   subst e1;exact h6
  |succ i=>simp at h) (λi b' j s h h2=>by
  cases i with
  |zero=>
   have e1:b=b':=by simpa using h
   subst e1;exact hs j s h2
  |succ i=>simp at h)
structure oB(C:Ctx)(S0 S:LS)(bs kind a:Nat)(vn:AV)(names:List (List Nat))(vl:AV)(l:List aE):Prop where
 x:aD (fF C bs) S0 S
 ob:S.ob bs=.ce [.int 0 (kind:Int),.int 0 (a:Int),vn,vl,.ab] 0
 N:∃Q,ik S Q vn names∧∀b,Q b→S0.n≤b∧b<S.n∧¬bd vl b
 E:fp kA (λb=>S0.n≤b∧¬bd vn b) S vl l
theorem oB.keep{S0 S':LS}{bs kind a:Nat}{vn vl:AV}{names:List (List Nat)}{l:List aE}(h:oB C S0 S bs kind a vn names vl l)(hM:Mem H S)(hbp:C.bp<S0.n)(hbs:bs≠C.bp)(g:aD (bL C) S S'):oB C S0 S' bs kind a vn names vl l:=by
 have nb:∀b,S0.n≤b→¬bL C b:=λb hb q=>by have q:b=C.bp:=q;omega
 obtain⟨Q,h1,h2⟩:=h.N;exact⟨h.x.trans g.two,g.ob hM h.ob (λq=>hbs (by have q:bs=C.bp:=q;exact q)),⟨Q,h1.go (λb hb=>g.2 b (h2 b hb).2.1 (nb b (h2 b hb).1)) (λ_ h=>h),λb hb=>⟨(h2 b hb).1,Nat.lt_of_lt_of_le (h2 b hb).2.1 g.1,(h2 b hb).2.2⟩⟩,h.E.keep hM g.1 λb h1 h2=>g.2 b h2 (nb b h1.1)⟩
theorem e99{m n:Nat}(hpv:C.pv=.iface 57 (.agg []))(O:gL C m n){S0:LS}{H0:AH}{i0 bs kind a k:Nat}{vn vl:AV}{names:List (List Nat)}{l:List aE}(hd:d≤200)(hM0:Mem H0 S0)(hp0:bH C S0 i0 d)(ez:bs<S0.n)(hbs:bs≠C.bp)(dT:∀b,bd C.vT b→b≠bs)(hk:k≤n+1)
  (hM:Mem H S) (hp:bH C S i d) (t:oB C S0 S bs kind a vn names vl l) (hP:Post C (fF C bs) d (sQ bs) K S0 (dy C.T k kind a names l i d)):BH (kO (s13 m)) K (.ptr C.bp 0) (.ptr bs 0) H:=by
 cases k with
 |zero=>simp only[dy]at hP;exact False.elim hP
 |succ k=>
  have r1:(kO (s13 m)).1=(s13 m).1:=rfl;have r4:(kO (s13 m)).2.2.2.1=lC:=rfl;have hbp:=hp0.eJ hM0;have jV:¬bL C bs:=λq=>hbs (by have q:bs=C.bp:=q;exact q);have gM:∀b,S0.n≤b→¬bL C b:=λb hb q=>by have q:b=C.bp:=q;omega
  simp only[dy]at hP;unfold BH;rw[r1,r4];refine gE (s:=[100,111]) hpv (aZ (by decide)) hM hp (Post.call (jy:=mD) hP t.x (λ_ h=>.inl h) λ_ j H1 S1 w m1 c1 p1 _ hP1=>?_);have t1:=t.keep hM hbp hbs c1;refine O.block k (by omega) hd m1 p1 (Post.call (jy:=dY) hP1 t1.x (λ_ h=>.inl h) λb j H2 S2 v6 m2 c2 p2 ⟨cb,hsl,hrs⟩ hP2=>?_);have t2:=t1.keep m1 hbp hbs c2;refine iX hsl.one ?_;refine dP m2 rfl (λx h=>by rw[List.mem_singleton]at h;rw[h];exact hsl.one) λH3 m3=>?_;have c3:aD cB S2 (S2.push (.ce [v6] 0)):=(aD.refl _ _).push _;simp only[dG,bu,Nat.zero_add];refine bj m3 (c3.ob m2 t2.ob λq=>q) (by omega) (by show 4<5;omega) rfl λH4 xU=>?_;have m4:Mem H4 ((S2.push (.ce [v6] 0)).set bs (.ce [.int 0 (kind:Int),.int 0 (a:Int),vn,vl,.slice S2.n 0 1 1 1 true] 0)):=xU;clear xU;have x4:aD (fF C bs) S0 ((S2.push (.ce [v6] 0)).set bs (.ce [.int 0 (kind:Int),.int 0 (a:Int),vn,vl,.slice S2.n 0 1 1 1 true] 0)):=(t2.x.trans c3.no).set (.inl (.inr rfl)) _;have p4:=(p2.no m2 c3).setB m3 hbs dT (.ce [.int 0 (kind:Int),.int 0 (a:Int),vn,vl,.slice S2.n 0 1 1 1 true] 0);refine gE (s:=[101,110,100]) hpv (aZ (by decide)) m4 p4 (Post.call (jy:=mD) hP2 x4 (λ_ h=>.inl h) λ_ j5 H5 S5 w m5 c5 p5 _ hP3=>?_);have n5:S2.n+1≤S5.n:=c5.1;have n12:=c2.1;have n01:=t1.x.1;have kp:∀b,S0.n≤b→b<S2.n→S5.ob b=S2.ob b:=λb h1 h2=>by
   rw[c5.2 b (by show b<S2.n+1;omega) (gM b h1),LS.aq _ _ (by omega),LS.cj _ _ h2]
  obtain⟨cl,g1,g2⟩:=(t2.E.toR (lo:=S0.n) λb hb=>hb.1).done m2;obtain⟨Q,q1,q2⟩:=t2.N;have kq:∀b,eI S0.n S2.n b→S5.ob b=S2.ob b:=λb hb=>kp b hb.1 hb.2;have kw:∀b,eI S0.n S2.n b→eI S0.n S5.n b:=λb hb=>⟨hb.1,by have:=hb.2;omega⟩
  have kb:∀b,eI S1.n S2.n b→S5.ob b=S2.ob b:=λb hb=>kp b (by have:=hb.1;omega) hb.2;have kv:∀b,eI S1.n S2.n b→eI S0.n S5.n b:=λb hb=>⟨by have:=hb.1;omega,by have:=hb.2;omega⟩
  refine hP3 H5 S5 (.bD []) m5 (x4.trans c5.two) p5 ⟨rfl,_,c5.ob m4 (LS.ay _ _ _) jV,eZ.blk (v6:=v6) (q1.go (λb hb=>kp b (q2 b hb).1 (q2 b hb).2.1) λb hb=>⟨(q2 b hb).1,by have:=(q2 b hb).2.1;omega⟩) (g1.go kq kw) (λi e h=>RE.go kq kw (g2 i e h)) (cJ.single (b:=S2.n) (m:=0) ⟨by omega,by omega⟩ (c5.ob m4 ((LS.aq _ _ (by omega)).trans (LS.ak _ _)) (gM _ (by omega))) rfl) (hsl.go kb kv) λj s h=>(hrs j s h).go kb kv⟩
theorem oB.agV{S0 S2:LS}{H0:AH}{i0 bs kind a:Nat}{vn:AV}{names:List (List Nat)}{S1:LS}{c:List AV}{e:aE}(hM0:Mem H0 S0)(hp0:bH C S0 i0 d)(ez:bs<S0.n)(hbs:bs≠C.bp)(m2:Mem H S2)(n1:S0.n≤S1.n)(t:oB C S0 S2 bs kind a vn names .ab [])(hN:∀b,bd vn b→b<S1.n)(hR:RE S2 (eI S1.n S2.n) c e) :
  oB C S0 ((S2.push (.ce c 0)).set bs (.ce [.int 0 (kind:Int),.int 0 (a:Int),vn,.slice S2.n 0 1 1 7 true,.ab] 0)) bs kind a vn names (.slice S2.n 0 1 1 7 true) [e]:=by
 have n2:S0.n≤S2.n:=t.x.1;have c3:aD cB S2 (S2.push (.ce c 0)):=(aD.refl _ _).push _;have kp:∀b,b≠bs→b<S2.n→((S2.push (.ce c 0)).set bs (.ce [.int 0 (kind:Int),.int 0 (a:Int),vn,.slice S2.n 0 1 1 7 true,.ab] 0)).ob b=S2.ob b:=λb h1 h2=>by rw[LS.aq _ _ h1,LS.cj _ _ h2]
 have n12:S1.n≤S2.n∨S2.n<S1.n:=by omega
 obtain⟨Q,q1,q2⟩:=t.N;have hN2:∀b,bd vn b→b<S2.n:=λb hb=>(q2 b (q1.1.wO hb)).2.1;refine⟨(t.x.trans c3.no).set (.inl (.inr rfl)) _,LS.ay _ _ _,⟨Q,q1.go (λb hb=>kp b (by have:=(q2 b hb).1;omega) (q2 b hb).2.1) (λ_ h=>h),λb hb=>⟨(q2 b hb).1,Nat.lt_succ_of_lt (q2 b hb).2.1,λq=>by have q:b=S2.n:=q;have:=(q2 b hb).2.1;omega⟩⟩,?_⟩;refine⟨[c],.inr ⟨S2.n,1,true,c,rfl,(LS.aq _ _ (by omega)).trans (LS.ak _ _),by rw[hR.len];rfl,Nat.le_refl _,by rw[List.flatten_cons,List.flatten_nil,List.append_nil,hR.len];rfl,by rw[List.flatten_cons,List.flatten_nil,List.append_nil];exact List.take_of_length_le (Nat.le_refl _),hR.ones⟩,rfl,λb hb=>?_,λi c' e' hc he=>?_⟩
 ·have hb:b=S2.n:=hb;subst hb;exact⟨n2,λq=>by have:=hN2 _ q;omega⟩
 ·cases i with
  |zero=>
   have e1:c=c':=by simpa using hc
   have e2:e=e':=by simpa using he
   subst e1;subst e2;exact⟨eI S1.n S2.n,hR.go (λb hb=>kp b (by have:=hb.1;omega) hb.2) (λ_ h=>h),λb hb=>⟨⟨by have:=hb.1;omega,λq=>by have:=hN b q;have:=hb.1;omega⟩,Nat.lt_succ_of_lt hb.2,λq=>by have q:b=S2.n:=q;have:=hb.2;omega⟩⟩
  |succ i=>simp at hc
theorem oB.more{m n k:Nat}(O:gL C m n)(hk:k≤n){S0:LS}{H0:AH}{i0 bs kind a:Nat}{vn vl:AV}{names:List (List Nat)}{l:List aE}(hd:d≤200)(hM0:Mem H0 S0)(hp0:bH C S0 i0 d)(ez:bs<S0.n)(hbs:bs≠C.bp)(dT:∀b,bd C.vT b→b≠bs)
  (hM:Mem H S) (hp:bH C S i d) (t:oB C S0 S bs kind a vn names vl l) (hll:l.length≤1000000){X:AH→Prop}{f:aE→Nat→bF aK}
  (hP:Post C (fF C bs) d (sQ bs) K S0 ((de C.T k i d).bind f))
  (hX:∀(e:aE) (v':AV) (j:Nat) (H':AH) (S':LS),Mem H' S'→bH C S' j d→oB C S0 S' bs kind a vn names v' (l++[e])→Post C (fF C bs) d (sQ bs) K S0 (f e j)→X H') :
  aC (.ptr bs 3) H λv28=>cN v28 λv29=>cI 0 v29 λz30=>cS H (bY (aP H) 1 7 z7 λv31 lQ=>bT (Nat.beq lQ.n (Nat.succ H.n)) ((s13 m).2.2.2.2.1 (.ptr C.bp 0) lQ λxq lP=>cR K xq lP λv35=>aC (.ptr bs 3) lP λv36=>bT (aT v36 v28) (ef 7 96 v28 v31 lP λv37 nG=>dj 7 v37 (.int 0 z30) λv39=>ag 7 v39 v35 nG λuJ=>ag 1 (.ptr bs 3) v37 uJ λqd=>ag 1 (.ptr bs 3) v37 nG λwL=>ag 7 v39 v35 wL λH44=>lg 7 1 v39 (.ptr bs 3) (X qd)))):=by
 have hbp:=hp0.eJ hM0;have mK:∀b,bd C.vT b→b<S0.n:=λb hb=>hp0.tk.lt hM0 hb;obtain⟨Q,q1,q2⟩:=t.N;have hvn:∀b,bd vn b→b<S.n:=λb hb=>(q2 b (q1.1.wO hb)).2.1;have n0:=t.x.1;refine agU O hk hd hM hp t.x t.ob rfl hbs dT t.E (λb hb=>⟨by have:=hb.1;omega,by have:=hb.1;omega,λq=>by have:=mK b q;have:=hb.1;omega⟩) (λb hb=>⟨by omega,λq=>by have:=hvn b q;omega⟩) hll hP λe v' j H' S' m' c' p' L' hv' hP'=>?_;refine hX e v' j H' _ m' p' ⟨?_,LS.ay _ _ _,⟨Q,q1.go (λb hb=>?_) (λ_ h=>h),λb hb=>⟨(q2 b hb).1,Nat.lt_of_lt_of_le (q2 b hb).2.1 c'.1,λq=>?_⟩⟩,L'⟩ hP'
 ·refine aD.set (t.x.iW c' λb hb=>?_) (.inl (.inr rfl)) _;rcases hb with hb|hb
  ·exact .inl (.inl hb)
  ·exact .inr (t.E.wO hb).1
 ·rw[LS.aq _ _ (by have:=(q2 b hb).1;omega)];refine c'.2 b (q2 b hb).2.1 λq=>?_;rcases q with q|q
  ·have:=(q2 b hb).1;omega
  ·exact(q2 b hb).2.2 q
 ·rcases hv' b q with g|g
  ·exact(q2 b hb).2.2 g
  ·have:=(q2 b hb).2.1;omega
end
section
variable {H:AH}{S:LS}{K:KF}{C:Ctx}{i d:Nat}
theorem s99{m n:Nat}(hpv:C.pv=.iface 57 (.agg []))(O:gL C m n):∀k,k≤n+1→FX C (s13 (m+1)).2.2.2.2.2.1 (ij C.T k):=by
 intro k hk K H S i d a bs hd hM hp ho hbs dT hP;cases k with
 |zero=>simp only[ij]at hP;exact False.elim hP
 |succ k=>
  have e:(s13 (m+1)).2.2.2.2.2.1=we (kO (s13 m)):=by rw[na]
  rw[e];have r2:(kO (s13 m)).2.1=f56:=rfl;have r3:(kO (s13 m)).2.2.1=(s13 m).2.2.2.2.1:=rfl;have r4:(kO (s13 m)).2.2.2.1=lC:=rfl;have r5:(kO (s13 m)).2.2.2.2=f130:=rfl;unfold we Vh Jd;rw[r2,r4,r5];simp only[ij]at hP;have hbp:=hp.eJ hM;have ez:bs<S.n:=hM.lt (by rw[ho];simp);have jV:¬bL C bs:=λq=>hbs (by have q:bs=C.bp:=q;exact q);have gM:∀b,S.n≤b→¬bL C b:=λb hb q=>by have q:b=C.bp:=q;omega
  refine vz hpv hM hp (Post.call hP (aD.refl _ _) (λ_ h=>.inl h) λs j H1 S1 w m1 c1 p1 ⟨hv,h8⟩ hP1=>?_);subst hv;have o1:=c1.ob hM ho jV;have n1:=c1.1;refine iX (iO s) ?_;refine dP m1 rfl (λx h=>by rw[List.mem_singleton]at h;rw[h];exact iO s) λH2 m2=>?_;have c2:aD cB S1 (S1.push (.ce [al s] 0)):=(aD.refl _ _).push _;simp only[dG,bu,Nat.zero_add];refine bj (v:=.int 0 ((6:Nat):Int)) m2 (c2.ob m1 o1 λq=>q) (by omega) (by show 0<5;omega) rfl λH3 m3=>?_;have p3:=(p1.no m1 c2).setB m2 hbs dT (.ce [.int 0 ((6:Nat):Int),.int 0 (a:Int),.ab,.ab,.ab] 0);refine bj m3 (LS.ay _ _ _) (by omega) (by show 2<5;omega) rfl λH4 xU=>?_;have m4:Mem H4 (((S1.push (.ce [al s] 0)).set bs (.ce [.int 0 ((6:Nat):Int),.int 0 (a:Int),.ab,.ab,.ab] 0)).set bs (.ce [.int 0 ((6:Nat):Int),.int 0 (a:Int),.slice S1.n 0 1 1 1 true,.ab,.ab] 0)):=xU;clear xU;have p4:=p3.setB m3 hbs dT (.ce [.int 0 ((6:Nat):Int),.int 0 (a:Int),.slice S1.n 0 1 1 1 true,.ab,.ab] 0);have NT:(((S1.push (.ce [al s] 0)).set bs (.ce [.int 0 ((6:Nat):Int),.int 0 (a:Int),.ab,.ab,.ab] 0)).set bs (.ce [.int 0 ((6:Nat):Int),.int 0 (a:Int),.slice S1.n 0 1 1 1 true,.ab,.ab] 0)).ob S1.n=.ce [al s] 0:=by
   rw[LS.aq _ _ (by omega),LS.aq _ _ (by omega)];exact LS.ak _ _
  have t4:oB C S (((S1.push (.ce [al s] 0)).set bs (.ce [.int 0 ((6:Nat):Int),.int 0 (a:Int),.ab,.ab,.ab] 0)).set bs (.ce [.int 0 ((6:Nat):Int),.int 0 (a:Int),.slice S1.n 0 1 1 1 true,.ab,.ab] 0)) bs 6 a (.slice S1.n 0 1 1 1 true) [s] .ab []:=
   ⟨((c1.two.trans c2.no).set (.inl (.inr rfl)) _).set (.inl (.inr rfl)) _,LS.ay _ _ _,⟨λb=>b=S1.n,ik.one1 rfl NT h8,λb hb=>by subst hb;exact⟨n1,Nat.lt_succ_self _,λq=>q⟩⟩,fp.nil _ _ _⟩
  have YW:(((S1.push (.ce [al s] 0)).set bs (.ce [.int 0 ((6:Nat):Int),.int 0 (a:Int),.ab,.ab,.ab] 0)).set bs (.ce [.int 0 ((6:Nat):Int),.int 0 (a:Int),.slice S1.n 0 1 1 1 true,.ab,.ab] 0)).n=S1.n+1:=rfl;revert m4 p4 NT t4 YW;generalize ((S1.push (.ce [al s] 0)).set bs (.ce [.int 0 ((6:Nat):Int),.int 0 (a:Int),.ab,.ab,.ab] 0)).set bs (.ce [.int 0 ((6:Nat):Int),.int 0 (a:Int),.slice S1.n 0 1 1 1 true,.ab,.ab] 0)=S4;intro m4 p4 NT t4 YW;refine dz (s:=[44]) (aZ (by decide)) m4 p4 λH5 S5 m5 c5 p5=>?_;simp only[aA,bo];have t5:=t4.keep m4 hbp hbs c5;have YV:=c5.ob m4 NT (gM _ n1);cases h1:isA C.T [44] j with
  |true=>
   simp only[h1,if_true]at hP1 p5;rw[aU];refine aG m5 t5.ob (v:=.slice S1.n 0 1 1 1 true) rfl ?_;refine vz hpv m5 p5 (Post.call hP1 t5.x (λ_ h=>.inl h) λs2 j6 H6 S6 w m6 c6 p6 ⟨hv,h82⟩ hP2=>?_);subst hv;have t6:=t5.keep m5 hbp hbs c6;have wN:=c6.ob m5 YV (gM _ n1);have n6:=c6.1;have n5:=c5.1;refine aG m6 t6.ob (v:=.slice S1.n 0 1 1 1 true) rfl ?_;refine cv (by simp[aT]) ?_;refine m6.cS ?_;refine iX (iO s2) ?_;have L6:cy E9 S.n S6 (.slice S1.n 0 1 1 1 true) [s]:=⟨[[al s]],.inr ⟨S1.n,1,true,[al s],rfl,wN,rfl,Nat.le_refl _,rfl,rfl,λx h=>by rw[List.mem_singleton]at h;rw[h];exact iO s⟩,rfl,λb hb=>by have hb:b=S1.n:=hb;omega,λi c a hc ha=>by
    cases i with
    |zero=>
     have e1:[al s]=c:=by simpa using hc
     have e2:s=a:=by simpa using ha
     subst e1;subst e2;exact⟨cB,⟨rfl,h8⟩,λb hb=>hb.elim⟩
    |succ i=>simp at hc⟩
   refine L6.pushB (R:=E9) (Q:=cB) (bytes:=16) m6 (a:=s2) ⟨rfl,h82⟩ (λb hb=>hb.elim) (by omega) (by simp) λH7 S7 v' m7 L7 n7 k7 b7=>?_;have c7:aD (λb=>b=S1.n) S6 S7:=⟨n7,λb hb hx=>k7 b hb hx⟩
   have o7:S7.ob bs=_:=c7.ob m6 t6.ob λq=>by have q:bs=S1.n:=q;omega
   have mK:∀b,bd C.vT b→b<S.n:=λb hb=>hp.tk.lt hM hb;have p7:bH C S7 j6 d:=p6.keep m6 c7 (λq=>by have q:C.bp=S1.n:=q;omega) λb hb q=>by have q:b=S1.n:=q;have:=mK b hb;omega
   refine bj (v:=.int 0 ((7:Nat):Int)) m7 o7 (by omega) (by show 0<5;omega) rfl λH8 m8=>?_;have p8:=p7.setB m7 hbs dT (.ce [.int 0 ((7:Nat):Int),.int 0 (a:Int),.slice S1.n 0 1 1 1 true,.ab,.ab] 0);refine bj m8 (LS.ay _ _ _) (by omega) (by show 2<5;omega) L7.one λH9 YX=>?_;have m9:Mem H9 ((S7.set bs (.ce [.int 0 ((7:Nat):Int),.int 0 (a:Int),.slice S1.n 0 1 1 1 true,.ab,.ab] 0)).set bs (.ce [.int 0 ((7:Nat):Int),.int 0 (a:Int),v',.ab,.ab] 0)):=YX;clear YX;have p9:=p8.setB m8 hbs dT (.ce [.int 0 ((7:Nat):Int),.int 0 (a:Int),v',.ab,.ab] 0);have hnm:=L7.nm m7;have t9:oB C S ((S7.set bs (.ce [.int 0 ((7:Nat):Int),.int 0 (a:Int),.slice S1.n 0 1 1 1 true,.ab,.ab] 0)).set bs (.ce [.int 0 ((7:Nat):Int),.int 0 (a:Int),v',.ab,.ab] 0)) bs 7 a v' [s,s2] .ab []:=
    ⟨((t6.x.iW c7 λb hb=>.inr (by have hb:b=S1.n:=hb;omega)).set (.inl (.inr rfl)) _).set (.inl (.inr rfl)) _,LS.ay _ _ _,⟨eI S.n S7.n,hnm.go (λb hb=>by rw[LS.aq _ _ (by have:=hb.1;omega),LS.aq _ _ (by have:=hb.1;omega)]) (λ_ h=>h),λb hb=>⟨hb.1,hb.2,λq=>q⟩⟩,fp.nil _ _ _⟩
   have nn9:((S7.set bs (.ce [.int 0 ((7:Nat):Int),.int 0 (a:Int),.slice S1.n 0 1 1 1 true,.ab,.ab] 0)).set bs (.ce [.int 0 ((7:Nat):Int),.int 0 (a:Int),v',.ab,.ab] 0)).n=S7.n:=rfl;revert m9 p9 t9 nn9;generalize (S7.set bs (.ce [.int 0 ((7:Nat):Int),.int 0 (a:Int),.slice S1.n 0 1 1 1 true,.ab,.ab] 0)).set bs (.ce [.int 0 ((7:Nat):Int),.int 0 (a:Int),v',.ab,.ab] 0)=S9;intro m9 p9 t9 nn9;unfold I7 I6;rw[r3,r4];refine gE (s:=[105,110]) hpv (aZ (by decide)) m9 p9 (Post.call (jy:=mD) hP2 t9.x (λ_ h=>.inl h) λ_ ja Ha Sa w ma ca pa _ hP3=>?_);have ta:=t9.keep m9 hbp hbs ca;refine O.exp k (by omega) hd ma pa (Post.call hP3 ta.x (λ_ h=>.inl h) λe jb Hb Sb w mb cb pb ⟨c,hw,hR⟩ xS=>?_);subst hw;have tb:=ta.keep ma hbp hbs cb;rw[fO];refine gq hR.len ?_;rw[wy hR.len rfl];refine dP mb (by rw[hR.len]) hR.ones λHc mc=>?_;have cc:aD cB Sb (Sb.push (.ce c 0)):=(aD.refl _ _).push _;simp only[dG,bu,Nat.zero_add];refine bj mc (cc.ob mb tb.ob λq=>q) (by omega) (by show 3<5;omega) rfl λHd md=>?_;obtain⟨QN,qn1,qn2⟩:=ta.N;exact e99 hpv O hd hM hp ez hbs dT (by omega) md ((pb.no mb cc).setB mc hbs dT _) (tb.agV hM hp ez hbs mb ta.x.1 (λb hb=>(qn2 b (qn1.1.wO hb)).2.1) hR) xS
  |false=>
   simp only[h1,Bool.false_eq_true,if_false]at hP1 p5;rw[aV];refine gE (s:=[61]) hpv (aZ (by decide)) m5 p5 (Post.call (jy:=mD) hP1 t5.x (λ_ h=>.inl h) λ_ j6 H6 S6 w m6 c6 p6 _ hP2=>?_);have t6:=t5.keep m5 hbp hbs c6;unfold Jc Ja;rw[r3,r4];refine O.exp k (by omega) hd m6 p6 (Post.call hP2 t6.x (λ_ h=>.inl h) λe j7 H7 S7 w m7 c7 p7 ⟨c,hw,hR⟩ hP3=>?_);subst hw;have t7:=t6.keep m6 hbp hbs c7;rw[fO];refine gq hR.len ?_;rw[wy hR.len rfl];refine dP m7 (by rw[hR.len]) hR.ones λH8 m8=>?_;have c8:aD cB S7 (S7.push (.ce c 0)):=(aD.refl _ _).push _;simp only[dG,bu,Nat.zero_add];refine bj m8 (c8.ob m7 t7.ob λq=>q) (by omega) (by show 3<5;omega) rfl λH9 YX=>?_;obtain⟨QN,qn1,qn2⟩:=t6.N;have t9:=t7.agV hM hp ez hbs m7 t6.x.1 (λb hb=>(qn2 b (qn1.1.wO hb)).2.1) hR;have p9:=(p7.no m7 c8).setB m8 hbs dT (.ce [.int 0 ((6:Nat):Int),.int 0 (a:Int),.slice S1.n 0 1 1 1 true,.slice S7.n 0 1 1 7 true,.ab] 0);refine gE (s:=[44]) hpv (aZ (by decide)) YX p9 (Post.call (jy:=mD) hP3 t9.x (λ_ h=>.inl h) λ_ ja Ha Sa w ma ca pa _ xS=>?_);have ta:=t9.keep YX hbp hbs ca;refine oB.more O (k:=k) (by omega) hd hM hp ez hbs dT ma pa ta (by simp) xS λe2 v2 jb Hb Sb mb pb tb NU=>?_;unfold I9 I8;rw[r2,r3];refine dz (s:=[44]) (aZ (by decide)) mb pb λHc Sc mc cc pc=>?_;simp only[aA,bo];have tc:=tb.keep mb hbp hbs cc;cases h2:isA C.T [44] jb with
   |false=>
    simp only[h2,Bool.false_eq_true,if_false]at NU pc;rw[aV];exact e99 hpv O hd hM hp ez hbs dT (by omega) mc pc tc NU
   |true=>
    simp only[h2,if_true]at NU pc;rw[aU];simp only[dG,bu,Nat.zero_add];refine oB.more O (k:=k) (by omega) hd hM hp ez hbs dT mc pc tc (by simp) NU λe3 v3 jd Hd Sd md pd td hP6=>?_;exact e99 hpv O hd hM hp ez hbs dT (by omega) md pd td hP6
end
end Go.Proofs.YtcedghechlgecaaGreatDoor
namespace Go.X
section
variable {H:AH}{S S':LS}
theorem fp.pushB{α:Type}{R:Rep α}{Z:Nat→Prop}{bytes:Nat}{v:AV}{l:List α}{a:α}{c:List AV}{Q:Nat→Prop}{k:AV→AH→Prop}(h:fp R Z S v l)(hM:Mem H S)(hr:R.rel S Q c a)(hQ:∀b,Q b→Z b∧b<S.n∧¬bd v b)(hnew:∀b,S.n≤b→Z b)(hl:(l.length+1)*bytes≤1099511627776)
  (hk:∀H' S' v',Mem H' S'→fp R Z S' v' (l++[a])→S.n≤S'.n→(∀b,b<S.n→¬bd v b→S'.ob b=S.ob b)→(∀b,bd v' b→bd v b∨S.n≤b)→v'.one=true→k v' H'):bY (aP H) 1 R.sz c λx H'=>bT (Nat.beq H'.n (Nat.succ H.n)) (ef R.sz bytes v x H' k):=by
 obtain⟨cl,h1,h2⟩:=id h;refine YT hM h1 R.pos (R.len hr) hl (R.ones hr) λH' S' v' m' he=>?_;have g:=h.step hr hQ hnew λcl' h'=>by rw[h1.uniq h'];exact he
 exact hk H' S' v' m' g he.1 he.2.1 he.2.2.2 (g.toR (lo:=0) λb _=>Nat.zero_le _).one
theorem eZ.rows{Q:Nat→Prop}{kind a:Nat}{l:List aE}{B:List (List aK)}{vl vb:AV}{cl cb:Nat→List AV}(hl:cJ S Q 7 vl l.length cl)(he:∀i e,l[i]? = some e→RE S Q (cl i) e)(hb:cJ S Q 1 vb B.length cb)(hs:∀i b,B[i]? = some b→Aj.rel S Q (cb i) b):eZ S Q [.int 0 (kind:Int),.int 0 (a:Int),.ab,vl,vb] (.mk kind a [] l B):=by
 have key:∀i,∃p:AV×(Nat→List AV),∀b,B[i]? = some b→cb i=[p.1]∧cJ S Q 5 p.1 b.length p.2∧∀j s,b[j]? = some s→eZ S Q (p.2 j) s:=λi=>by
  cases hi:B[i]? with
  |none=>exact⟨⟨.ab,λ_=>[]⟩,λb h=>by cases h⟩
  |some b=>
   obtain⟨v,bc,e,g1,g2⟩:=hs i b hi;exact⟨⟨v,bc⟩,λb' h=>by cases h;exact⟨e,g1,g2⟩⟩
 obtain⟨p,hp⟩:=Classical.axiomOfChoice key;refine .mk kind a [] l B .ab vl vb cl (λi=>(p i).1) (λi=>(p i).2) ⟨cJ.nil _ _ _ _,λt h=>by simp at h⟩ hl he (hb.congr λi hi=>(hp i _ (List.getElem?_eq_getElem hi)).1) (λi b h=>(hp i b h).2.1) λi b j s h h2=>(hp i b h).2.2 j s h2
end
end Go.X
namespace Go.Proofs.YtcedghechlgecaaGreatDoor
open Go Go.X Go.Proofs.YtcedghechlgecaaGreatDoor.G
section
variable {H:AH}{S:LS}{K:KF}{C:Ctx}{i d:Nat}
structure mF(C:Ctx)(S0 S:LS)(bs kind a:Nat)(vl:AV)(l:List aE)(vb:AV)(B:List (List aK)):Prop where
 x:aD (fF C bs) S0 S
 ob:S.ob bs=.ce [.int 0 (kind:Int),.int 0 (a:Int),.ab,vl,vb] 0
 E:fp kA (λb=>S0.n≤b∧¬bd vb b) S vl l
 B:fp Aj (λb=>S0.n≤b∧¬bd vl b) S vb B
theorem mF.keep{S0 S':LS}{bs kind a:Nat}{vl vb:AV}{l:List aE}{B:List (List aK)}(h:mF C S0 S bs kind a vl l vb B)(hM:Mem H S)(hbp:C.bp<S0.n)(hbs:bs≠C.bp)(g:aD (bL C) S S'):mF C S0 S' bs kind a vl l vb B:=by
 have nb:∀b,S0.n≤b→¬bL C b:=λb hb q=>by have q:b=C.bp:=q;omega
 exact⟨h.x.trans g.two,g.ob hM h.ob (λq=>hbs (by have q:bs=C.bp:=q;exact q)),h.E.keep hM g.1 λb h1 h2=>g.2 b h2 (nb b h1.1),h.B.keep hM g.1 λb h1 h2=>g.2 b h2 (nb b h1.1)⟩
theorem mF.NW{S0:LS}{bs kind a:Nat}{vl vb:AV}{l:List aE}{B:List (List aK)}(h:mF C S0 S bs kind a vl l vb B)(hM:Mem H S):eZ S (eI S0.n S.n) [.int 0 (kind:Int),.int 0 (a:Int),.ab,vl,vb] (.mk kind a [] l B):=by
 obtain⟨cl,g1,g2⟩:=(h.E.toR (lo:=S0.n) λb hb=>hb.1).done hM;obtain⟨cb,q1,q2⟩:=(h.B.toR (lo:=S0.n) λb hb=>hb.1).done hM;exact eZ.rows g1 g2 q1 q2
theorem mF.exp{m n k:Nat}(O:gL C m n)(hk:k≤n){S0:LS}{H0:AH}{i0 bs kind a:Nat}{vl vb:AV}{l:List aE}{B:List (List aK)}(hd:d≤200)(hM0:Mem H0 S0)(hp0:bH C S0 i0 d)(ez:bs<S0.n)(hbs:bs≠C.bp)(dT:∀b,bd C.vT b→b≠bs)
  (hM:Mem H S) (hp:bH C S i d) (t:mF C S0 S bs kind a vl l vb B) (hll:l.length≤1000000){X:AH→Prop}{f:aE→Nat→bF aK}
  (hP:Post C (fF C bs) d (sQ bs) K S0 ((de C.T k i d).bind f))
  (hX:∀(e:aE) (v':AV) (j:Nat) (H':AH) (S':LS),Mem H' S'→bH C S' j d→mF C S0 S' bs kind a v' (l++[e]) vb B→Post C (fF C bs) d (sQ bs) K S0 (f e j)→X H') :
  aC (.ptr bs 3) H λv28=>cN v28 λv29=>cI 0 v29 λz30=>cS H (bY (aP H) 1 7 z7 λv31 lQ=>bT (Nat.beq lQ.n (Nat.succ H.n)) ((s13 m).2.2.2.2.1 (.ptr C.bp 0) lQ λxq lP=>cR K xq lP λv35=>aC (.ptr bs 3) lP λv36=>bT (aT v36 v28) (ef 7 96 v28 v31 lP λv37 nG=>dj 7 v37 (.int 0 z30) λv39=>ag 7 v39 v35 nG λuJ=>ag 1 (.ptr bs 3) v37 uJ λqd=>ag 1 (.ptr bs 3) v37 nG λwL=>ag 7 v39 v35 wL λH44=>lg 7 1 v39 (.ptr bs 3) (X qd)))):=by
 have hbp:=hp0.eJ hM0;have mK:∀b,bd C.vT b→b<S0.n:=λb hb=>hp0.tk.lt hM0 hb;have hvb:∀b,bd vb b→b<S.n:=λb hb=>t.B.lt hM hb;have n0:=t.x.1;refine agU O hk hd hM hp t.x t.ob rfl hbs dT t.E (λb hb=>⟨by have:=hb.1;omega,by have:=hb.1;omega,λq=>by have:=mK b q;have:=hb.1;omega⟩) (λb hb=>⟨by omega,λq=>by have:=hvb b q;omega⟩) hll hP λe v' j H' S' m' c' p' L' hv' hP'=>?_;refine hX e v' j H' _ m' p' ⟨?_,LS.ay _ _ _,L',?_⟩ hP'
 ·refine aD.set (t.x.iW c' λb hb=>?_) (.inl (.inr rfl)) _;rcases hb with hb|hb
  ·exact .inl (.inl hb)
  ·exact .inr (t.E.wO hb).1
 ·have g1:fp Aj (λb=>(S0.n≤b∧¬bd vl b)∧¬bd v' b) S vb B:=t.B.imp hM λb hb hlt=>⟨hb,λq=>(hv' b q).elim hb.2 λg=>by omega⟩
  obtain⟨cl,q1,q2,q3,q4⟩:=g1.keep hM (S':=S'.set bs (.ce ([.int 0 (kind:Int),.int 0 (a:Int),.ab,vl,vb].set 3 v') 0)) c'.1 λb h1 h2=>by
   rw[LS.aq _ _ (by have:=h1.1.1;omega)];refine c'.2 b h2 λq=>?_;rcases q with q|q
   ·have:=h1.1.1;omega
   ·exact h1.1.2 q
  exact⟨cl,q1,q2,λb hb=>⟨(q3 b hb).1.1,(q3 b hb).2⟩,λi c a hc ha=>by
   obtain⟨Q,w1,w2⟩:=q4 i c a hc ha;exact⟨Q,w1,λb hb=>⟨⟨(w2 b hb).1.1.1,(w2 b hb).1.2⟩,(w2 b hb).2⟩⟩⟩
theorem mF.blk{m n k:Nat}(O:gL C m n)(hk:k≤n){S0:LS}{H0:AH}{i0 bs kind a:Nat}{vl vb:AV}{l:List aE}{B:List (List aK)}(hd:d≤200)(hM0:Mem H0 S0)(hp0:bH C S0 i0 d)(ez:bs<S0.n)(hbs:bs≠C.bp)(dT:∀b,bd C.vT b→b≠bs)
  (hM:Mem H S) (hp:bH C S i d) (t:mF C S0 S bs kind a vl l vb B) (hll:B.length≤1000000){X:AH→Prop}{f:List aK→Nat→bF aK}
  (hP:Post C (fF C bs) d (sQ bs) K S0 ((cz C.T k i d).bind f))
  (hX:∀(b:List aK) (v':AV) (j:Nat) (H':AH) (S':LS),Mem H' S'→bH C S' j d→mF C S0 S' bs kind a vl l v' (B++[b])→Post C (fF C bs) d (sQ bs) K S0 (f b j)→X H') :
  aC (.ptr bs 4) H λv5=>(s13 m).1 (.ptr C.bp 0) H λo6 H7=>cR K o6 H7 λv8=>aC (.ptr bs 4) H7 λv9=>bT (aT v9 v5) (cS H7 (one v8 (bY (aP H7) 1 1 [v8] λv10 fD=>bT (Nat.beq fD.n (Nat.succ H7.n)) (ef 1 24 v5 v10 fD λv12 fk=>ag 1 (.ptr bs 4) v12 fk λeM=>X eM)))):=by
 have hbp:=hp0.eJ hM0;have mK:∀b,bd C.vT b→b<S0.n:=λb hb=>hp0.tk.lt hM0 hb;refine aG hM t.ob (v:=vb) rfl ?_;refine O.block k hk hd hM hp (Post.call (jy:=dY) hP t.x (λ_ h=>.inl h) λb j H1 S1 v6 m1 c1 p1 ⟨cb,hsl,hrs⟩ hP1=>?_);have t1:=t.keep hM hbp hbs c1;have hvl:∀b,bd vl b→b<S.n:=λb hb=>t.E.lt hM hb;have hvb:∀b,bd vb b→b<S.n:=λb hb=>t.B.lt hM hb;have n0:=t.x.1;have n1:=c1.1;refine aG m1 t1.ob (v:=vb) rfl ?_;refine cv (t1.B.toR (lo:=0) λb _=>Nat.zero_le _).same ?_;refine m1.cS ?_;refine iX hsl.one ?_;refine t1.B.pushB (R:=Aj) (bytes:=24) m1 (a:=b) ⟨v6,cb,rfl,hsl,hrs⟩ (λb hb=>⟨⟨by have:=hb.1;omega,λq=>by have:=hvl b q;have:=hb.1;omega⟩,hb.2,λq=>by have:=hvb b q;have:=hb.1;omega⟩) (λb hb=>⟨by omega,λq=>by have:=hvl b q;omega⟩) (by omega) λH2 S2 v' m2 B2 n2 k2 b2 ajl=>?_;have c2:aD (λb=>bd vb b) S1 S2:=⟨n2,λb hb hx=>k2 b hb hx⟩
 have nv:∀b,b<S0.n→¬bd vb b:=λb hb q=>by have:=(t1.B.wO q).1;omega
 have p2:bH C S2 j d:=p1.keep m1 c2 (nv _ hbp) λb hb q=>nv b (mK b hb) q;refine bj m2 (c2.ob m1 t1.ob (nv _ ez)) (by omega) (by show 4<5;omega) ajl λH3 m3=>?_;refine hX b v' j H3 _ m3 (p2.setB m2 hbs dT _) ⟨(t1.x.iW c2 λb hb=>.inr (t1.B.wO hb).1).set (.inl (.inr rfl)) _,LS.ay _ _ _,?_,B2.keep m2 (Nat.le_refl _) λb h1 h2=>LS.aq _ _ (by have:=h1.1;omega)⟩ hP1;have g1:fp kA (λb=>(S0.n≤b∧¬bd vb b)∧¬bd v' b) S1 vl l:=t1.E.imp m1 λb hb hlt=>⟨hb,λq=>(b2 b q).elim hb.2 λg=>by omega⟩
 obtain⟨cl,q1,q2,q3,q4⟩:=(g1.keep m1 n2 λb h1 h2=>k2 b h2 h1.1.2).keep m2 (S':=S2.set bs (.ce ([.int 0 (kind:Int),.int 0 (a:Int),.ab,vl,vb].set 4 v') 0)) (Nat.le_refl _) λb h1 h2=>LS.aq _ _ (by have:=h1.1.1;omega);exact⟨cl,q1,q2,λb hb=>⟨(q3 b hb).1.1,(q3 b hb).2⟩,λi c a hc ha=>by
  obtain⟨Q,w1,w2⟩:=q4 i c a hc ha;exact⟨Q,w1,λb hb=>⟨⟨(w2 b hb).1.1.1,(w2 b hb).1.2⟩,(w2 b hb).2⟩⟩⟩
end
section
variable {H:AH}{S:LS}{K:KF}{C:Ctx}{i d:Nat}
theorem l96{m n:Nat}(hn:n≤900000)(hpv:C.pv=.iface 57 (.agg []))(O:gL C m n){S0:LS}{H0:AH}{i0 bs a:Nat}(hd:d≤200)(hM0:Mem H0 S0)(hp0:bH C S0 i0 d)(ez:bs<S0.n)(hbs:bs≠C.bp)(dT:∀b,bd C.vT b→b≠bs):∀k,k≤n+1→∀(q i:Nat) (l:List aE) (B:List (List aK)) (vl vb:AV) (H:AH) (S:LS),k≤q→l.length+k≤n+1→B.length=l.length→Mem H S→bH C S i d→mF C S0 S bs 4 a vl l vb B→
  Post C (fF C bs) d (sQ bs) K S0 (cO C.T k a l B i d)→xt (iF (s13 m)) K q (.ptr C.bp 0) (.ptr bs 0) H:=by
 intro k
 induction k with
 |zero=>intro _ q i l B vl vb H S _ _ _ _ _ _ hP;simp only[cO]at hP;exact False.elim hP
 |succ k ih=>
  intro hk q i l B vl vb H S hq hl hB hM hp t hP;obtain⟨q,rfl⟩:∃p,q=p+1:=⟨q-1,by omega⟩
  have r1:(iF (s13 m)).1=(s13 m).1:=rfl;have r2:(iF (s13 m)).2.1=f56:=rfl;have r3:(iF (s13 m)).2.2.1=(s13 m).2.2.2.2.1:=rfl;have r4:(iF (s13 m)).2.2.2=lC:=rfl;have hbp:=hp0.eJ hM0;have jV:¬bL C bs:=λq=>hbs (by have q:bs=C.bp:=q;exact q);simp only[cO]at hP;show BD (iF (s13 m)) K (BC (iF (s13 m)) K (BB (iF (s13 m)) K (xt (iF (s13 m)) K q) (BA (iF (s13 m)) K (xr (iF (s13 m)) K)))) (.ptr C.bp 0) (.ptr bs 0) H;have stop:∀{l:List aE}{B:List (List aK)}{vl vb:AV}{i:Nat}{H1:AH}{S1:LS},Mem H1 S1→bH C S1 i d→mF C S0 S1 bs 4 a vl l vb B→Post C (fF C bs) d (sQ bs) K S0 ((cC C.T [101,110,100] i).bind λ_ j=>.ok (.mk 4 a [] l B) j)→xr (iF (s13 m)) K (.ptr C.bp 0) H1:=by
   intro l B vl vb i H1 S1 m1 p1 t1 hP;unfold xr;rw[r4];refine gE (s:=[101,110,100]) hpv (aZ (by decide)) m1 p1 (Post.call (jy:=mD) hP t1.x (λ_ h=>.inl h) λ_ j H2 S2 w m2 c2 p2 _ hP2=>?_);have t2:=t1.keep m1 hbp hbs c2;exact hP2 H2 S2 (.bD []) m2 t2.x p2 ⟨rfl,_,t2.ob,t2.NW m2⟩
  unfold BD;rw[r3];simp only[dG,bu,Nat.zero_add];refine mF.exp O (k:=k) (by omega) hd hM0 hp0 ez hbs dT hM hp t (by omega) hP λe v1 j1 H1 S1 m1 p1 t1 hP1=>?_;unfold BC;rw[r1,r4];refine gE (s:=[116,104,101,110]) hpv (aZ (by decide)) m1 p1 (Post.call (jy:=mD) hP1 t1.x (λ_ h=>.inl h) λ_ j2 H2 S2 w m2 c2 p2 _ hP2=>?_);have t2:=t1.keep m1 hbp hbs c2;simp only[dG,bu,Nat.zero_add];refine mF.blk O (k:=k) (by omega) hd hM0 hp0 ez hbs dT m2 p2 t2 (by omega) hP2 λb v3 j3 H3 S3 m3 p3 t3 hP3=>?_;unfold BB;rw[r2];refine dz (s:=[101,108,115,101,105,102]) (aZ (by decide)) m3 p3 λH4 S4 m4 c4 p4=>?_;simp only[aA,bo];have t4:=t3.keep m3 hbp hbs c4;cases h1:isA C.T [101,108,115,101,105,102] j3 with
  |true=>
   simp only[h1,if_true]at hP3 p4;simp only[Bool.not_true,aV];exact ih (by omega) q (j3+1) (l++[e]) (B++[b]) v1 v3 H4 S4 (by omega) (by simp;omega) (by simp;omega) m4 p4 t4 hP3
  |false=>
   simp only[h1,Bool.false_eq_true,if_false]at hP3 p4;simp only[Bool.not_false,aU];unfold BA;rw[r1,r2];refine dz (s:=[101,108,115,101]) (aZ (by decide)) m4 p4 λH5 S5 m5 c5 p5=>?_;simp only[aA,bo];have t5:=t4.keep m4 hbp hbs c5;cases h2:isA C.T [101,108,115,101] j3 with
   |true=>
    simp only[h2,if_true]at hP3 p5;rw[aU];simp only[dG,bu,Nat.zero_add];refine mF.blk O (k:=k) (by omega) hd hM0 hp0 ez hbs dT m5 p5 t5 (by simp;omega) hP3 λb2 v6 j6 H6 S6 m6 p6 t6 hP6=>?_;exact stop m6 p6 t6 hP6
   |false=>
    simp only[h2,Bool.false_eq_true,if_false]at hP3 p5;rw[aV];exact stop m5 p5 t5 hP3
theorem s96{m n:Nat}(hn:n≤900000)(hpv:C.pv=.iface 57 (.agg []))(O:gL C m n):∀k,k≤n+1→FX C (s13 (m+1)).2.2.2.1 (λa i d=>cO C.T k a [] [] i d):=by
 intro k hk K H S i d a bs hd hM hp ho hbs dT hP;have e:(s13 (m+1)).2.2.2.1=wc (iF (s13 m)):=by rw[na]
 rw[e];unfold wc UZ IY;have gv:G.NL=1000000:=rfl;generalize G.NL=iV at gv ⊢;have ez:bs<S.n:=hM.lt (by rw[ho];simp);simp only[dG,bu,Nat.zero_add];refine bj (v:=.int 0 ((4:Nat):Int)) hM ho (by omega) (by show 0<5;omega) rfl λH1 m1=>?_;exact l96 hn hpv O hd hM hp ez hbs dT k hk iV i [] [] .ab .ab H1 _ (by omega) (by simp;omega) rfl m1 (hp.setB hM hbs dT _) ⟨(aD.refl _ _).set (.inl (.inr rfl)) _,LS.ay _ _ _,fp.nil _ _ _,fp.nil _ _ _⟩ hP
end
section
variable {H:AH}{S:LS}{K:KF}{C:Ctx}{i d:Nat}
theorem s55{m n:Nat}(hpv:C.pv=.iface 57 (.agg []))(O:gL C m n):∀k,k≤n+1→∀{K:KF}{H:AH}{S:LS}{i d:Nat},d≤200→Mem H S→bH C S i d→Post C (bL C) d C5 K S (eY C.T k i d)→(s13 (m+1)).2.1 (.ptr C.bp 0) H K:=by
 intro k hk K H S i d hd hM hp hP;cases k with
 |zero=>simp only[eY]at hP;exact False.elim hP
 |succ k=>
  have e:(s13 (m+1)).2.1=wa (dv (s13 m)):=by rw[na]
  rw[e];have r1:(dv (s13 m)).1=f23:=rfl;have r2:(dv (s13 m)).2.1=(s13 m).1:=rfl;have r3:(dv (s13 m)).2.2.1=f25:=rfl;have r4:(dv (s13 m)).2.2.2.1=f54:=rfl;have r5:(dv (s13 m)).2.2.2.2.1=f56:=rfl;have r6:(dv (s13 m)).2.2.2.2.2.1=f94:=rfl;have r7:(dv (s13 m)).2.2.2.2.2.2.1=(s13 m).2.2.1:=rfl;have r8:(dv (s13 m)).2.2.2.2.2.2.2.1=(s13 m).2.2.2.1:=rfl;have r9:(dv (s13 m)).2.2.2.2.2.2.2.2.1=(s13 m).2.2.2.2.1:=rfl;have r10:(dv (s13 m)).2.2.2.2.2.2.2.2.2.1=lC:=rfl;have r11:(dv (s13 m)).2.2.2.2.2.2.2.2.2.2.1=(s13 m).2.2.2.2.2.1:=rfl;have r12:(dv (s13 m)).2.2.2.2.2.2.2.2.2.2.2=(s13 m).2.2.2.2.2.2.1:=rfl;unfold wa UC IM;rw[r1,r2,r3,r5,r7,r8,r9,r11,r12];simp only[eY]at hP;have hbp:=hp.eJ hM;have mK:∀b,bd C.vT b→b<S.n:=λb hb=>hp.tk.lt hM hb;refine cn (b9 hM sS λH1 m1=>?_);have c1:aD cB S (S.push (.ce z5 0)):=(aD.refl _ _).push _;have ob1:(S.push (.ce z5 0)).ob S.n=.ce z5 0:=LS.ak _ _;refine iY m1 (hp.no hM c1) λH2 S2 m2 c2 p2=>?_;rw[aA];refine iT ?_;have ob2:=c2.ob m1 ob1 λq=>q;have c12:=c1.trans c2;have n2:S.n<S2.n:=m2.lt (by rw[ob2];simp);refine cn (b9 m2 sS λH3 m3=>?_);refine hV m3 (LS.ak S2 (.ce z5 0)) (c:=[.int 0 0,.int 0 (aW C.T i:Int),.ab,.ab,.ab]) rfl rfl (λx hx=>?_) λH4 xU=>?_
  ·simp only[List.mem_cons,List.not_mem_nil,or_false]at hx;rcases hx with rfl|rfl|rfl|rfl|rfl<;>rfl
  have m4:Mem H4 ((S2.push (.ce z5 0)).set S2.n (.ce [.int 0 0,.int 0 (aW C.T i:Int),.ab,.ab,.ab] 0)):=xU;clear xU;have c4:aD cB S2 ((S2.push (.ce z5 0)).set S2.n (.ce [.int 0 0,.int 0 (aW C.T i:Int),.ab,.ab,.ab] 0)):=((aD.refl _ _).push _).set (.inr (Nat.le_refl _)) _;have oS4:((S2.push (.ce z5 0)).set S2.n (.ce [.int 0 0,.int 0 (aW C.T i:Int),.ab,.ab,.ab] 0)).ob S2.n=.ce [.int 0 0,.int 0 (aW C.T i:Int),.ab,.ab,.ab] 0:=LS.ay _ _ _;have YW:((S2.push (.ce z5 0)).set S2.n (.ce [.int 0 0,.int 0 (aW C.T i:Int),.ab,.ab,.ab] 0)).n=S2.n+1:=rfl;have ob4:=c4.ob m2 ob2 λq=>q;have p4:=p2.no m2 c4;have x4:aD (bL C) S ((S2.push (.ce z5 0)).set S2.n (.ce [.int 0 0,.int 0 (aW C.T i:Int),.ab,.ab,.ab] 0)):=(c12.trans c4).no;revert m4 c4 oS4 YW ob4 p4 x4;generalize (S2.push (.ce z5 0)).set S2.n (.ce [.int 0 0,.int 0 (aW C.T i:Int),.ab,.ab,.ab] 0)=S4;intro m4 c4 oS4 YW ob4 p4 x4;generalize hbs:S2.n=bs at *;have jV:¬bL C bs:=λq=>by have q:bs=C.bp:=q;omega
  have FZ:¬bL C S.n:=λq=>by have q:S.n=C.bp:=q;omega
  have jz:bs≠C.bp:=by omega
  have dT:∀b,bd C.vT b→b≠bs:=λb hb q=>by have:=mK b hb;omega
  have fin:∀{r:bF aK}{H9:AH}{S9:LS},Mem H9 S9→aD (bL C) S S9→S9.ob S.n=.ce z5 0→bs<S9.n→Post C (bL C) d C5 K S r→Post C (fF C bs) d (sQ bs) (λo H=>cR K o H λ_=>fI (dv (s13 m)) K (.ptr S.n 0) (.ptr bs 0) H) S9 r:=by
   intro r H9 S9 m9 x9 ob9 hb9 hP;cases r with
   |bW=>exact hP
   |err c j=>exact λH' S' m' c' e'=>hP H' S' m' (x9.iW c' λb hb=>by
     rcases hb with hb|hb
     ·exact .inl hb
     ·exact .inr (by omega)) e'
   |ok s j=>
    intro H' S' v m' c' p' hv;obtain⟨hv,c5,ob5,hR⟩:=hv;subst hv;show fI (dv (s13 m)) K (.ptr S.n 0) (.ptr bs 0) H';unfold fI IB;have jW:S'.ob S.n=.ce z5 0:=c'.ob m9 ob9 λq=>by
     rcases q with q|q<;>omega
    refine fl m' ob5 hR.len ?_;refine hV m' jW rfl hR.len hR.ones λH'' m''=>?_;refine fl m'' (LS.ay _ _ _) hR.len ?_;refine hP H'' _ _ m'' ((x9.iW c' λb hb=>by
     rcases hb with hb|hb
     ·exact .inl hb
     ·exact .inr (by omega)).set (.inr (Nat.le_refl _)) _) (p'.iw hp hM (Nat.le_refl _) _) ⟨c5,rfl,hR.go (λb hb=>LS.aq _ _ (by have:=hb.1;have:=x9.1;omega)) λb hb=>⟨by have:=hb.1;have:=x9.1;omega,hb.2⟩⟩
  have zA:∀{H9:AH}{S9:LS},Mem H9 S9→S9.ob bs=.ce [.int 0 0,.int 0 (aW C.T i:Int),.ab,.ab,.ab] 0→bs<S9.n:=λm o=>m.lt (by rw[o];simp);refine dz (s:=[108,111,99,97,108]) (aZ (by decide)) m4 p4 λH5 S5 m5 c5 p5=>?_;simp only[aA,bo];have oS5:=c5.ob m4 oS4 jV;have ob5:=c5.ob m4 ob4 FZ;have x5:=x4.trans c5;cases h1:isA C.T [108,111,99,97,108] i with
  |true=>
   simp only[h1,if_true]at hP p5;rw[aU];exact O.ah k (by omega) hd m5 p5 oS5 jz dT (fin m5 x5 ob5 (zA m5 oS5) hP)
  |false=>
  simp only[h1,Bool.false_eq_true,if_false]at hP p5;rw[aV];refine dz (s:=[105,102]) (aZ (by decide)) m5 p5 λH6 S6 m6 c6 p6=>?_;simp only[aA,bo];have oS6:=c6.ob m5 oS5 jV;have ob6:=c6.ob m5 ob5 FZ;have x6:=x5.trans c6;cases h2:isA C.T [105,102] i with
  |true=>
   simp only[h2,if_true]at hP p6;rw[aU];exact O.choice k (by omega) hd m6 p6 oS6 jz dT (fin m6 x6 ob6 (zA m6 oS6) hP)
  |false=>
  simp only[h2,Bool.false_eq_true,if_false]at hP p6;rw[aV];refine dz (s:=[119,104,105,108,101]) (aZ (by decide)) m6 p6 λH7 S7 m7 c7 p7=>?_;simp only[aA,bo];have oS7:=c7.ob m6 oS6 jV;have ob7:=c7.ob m6 ob6 FZ;have x7:=x6.trans c7;cases h3:isA C.T [119,104,105,108,101] i with
  |true=>
   simp only[h3,if_true]at hP p7;rw[aU];cases k with
   |zero=>simp only[fe]at hP;exact False.elim hP
   |succ k=>
   simp only[fe]at hP;have ez:=zA m7 oS7;have sT:=fin m7 x7 ob7 ez hP;have eR:∀H,fI (dv (s13 m)) K (.ptr S.n 0) (.ptr bs 0) H=(λo H=>cR K o H λ_=>fI (dv (s13 m)) K (.ptr S.n 0) (.ptr bs 0) H:KF) (.ret (.bD [])) H:=λ_=>rfl;have eP:∀v H,K (.cZ v) H=(λo H=>cR K o H λ_=>fI (dv (s13 m)) K (.ptr S.n 0) (.ptr bs 0) H:KF) (.cZ v) H:=λ_ _=>rfl;generalize (λo H=>cR K o H λ_=>fI (dv (s13 m)) K (.ptr S.n 0) (.ptr bs 0) H:KF)=K2 at sT eR eP;have eK:∀(o:gN) (H:AH) (k:AV→Prop),cR K o H k=cR K2 o H k:=λo H k=>by
    cases o with
    |ret v=>rfl
    |cZ v=>exact eP v H
   have agW:C.bp<S7.n:=p7.eJ m7;have gM:∀b,S7.n≤b→¬bL C b:=λb hb q=>by have q:b=C.bp:=q;omega
   simp only[eK];refine O.exp k (by omega) hd m7 p7 (Post.call (K:=K2) sT (aD.refl _ _) (λ_ h=>.inl h) λe j He Se w me ce pe ⟨c,hw,hR⟩ hP1=>?_);subst hw;have YY:=ce.ob m7 oS7 jV;have ne:=ce.1;rw[fO];refine gq hR.len ?_;rw[wy hR.len rfl];refine dP me (by rw[hR.len]) hR.ones λHf mf=>?_;have cf:aD cB Se (Se.push (.ce c 0)):=(aD.refl _ _).push _;rw[bu,Nat.zero_add];refine bj (v:=.int 0 ((5:Nat):Int)) mf (cf.ob me YY λq=>q) (by omega) (by show 0<5;omega) rfl λHg mg=>?_;rw[bu,Nat.zero_add];refine bj mg (LS.ay _ _ _) (by omega) (by show 3<5;omega) rfl λHh Ga=>?_;have mh:Mem Hh (((Se.push (.ce c 0)).set bs (.ce [.int 0 ((5:Nat):Int),.int 0 (aW C.T i:Int),.ab,.ab,.ab] 0)).set bs (.ce [.int 0 ((5:Nat):Int),.int 0 (aW C.T i:Int),.ab,.slice Se.n 0 1 1 7 true,.ab] 0)):=Ga;clear Ga;have ph:=((pe.no me cf).setB mf jz dT (.ce [.int 0 ((5:Nat):Int),.int 0 (aW C.T i:Int),.ab,.ab,.ab] 0)).setB mg jz dT (.ce [.int 0 ((5:Nat):Int),.int 0 (aW C.T i:Int),.ab,.slice Se.n 0 1 1 7 true,.ab] 0);have kp:∀b,b≠bs→b<Se.n→(((Se.push (.ce c 0)).set bs (.ce [.int 0 ((5:Nat):Int),.int 0 (aW C.T i:Int),.ab,.ab,.ab] 0)).set bs (.ce [.int 0 ((5:Nat):Int),.int 0 (aW C.T i:Int),.ab,.slice Se.n 0 1 1 7 true,.ab] 0)).ob b=Se.ob b:=λb h1 h2=>by rw[LS.aq _ _ h1,LS.aq _ _ h1,LS.cj _ _ h2]
   have on:(((Se.push (.ce c 0)).set bs (.ce [.int 0 ((5:Nat):Int),.int 0 (aW C.T i:Int),.ab,.ab,.ab] 0)).set bs (.ce [.int 0 ((5:Nat):Int),.int 0 (aW C.T i:Int),.ab,.slice Se.n 0 1 1 7 true,.ab] 0)).ob Se.n=.ce c 0:=by
    rw[LS.aq _ _ (by omega),LS.aq _ _ (by omega)];exact LS.ak _ _
   have th:mF C S7 (((Se.push (.ce c 0)).set bs (.ce [.int 0 ((5:Nat):Int),.int 0 (aW C.T i:Int),.ab,.ab,.ab] 0)).set bs (.ce [.int 0 ((5:Nat):Int),.int 0 (aW C.T i:Int),.ab,.slice Se.n 0 1 1 7 true,.ab] 0)) bs 5 (aW C.T i) (.slice Se.n 0 1 1 7 true) [e] .ab []:=
    ⟨((ce.two.trans cf.no).set (.inl (.inr rfl)) _).set (.inl (.inr rfl)) _,LS.ay _ _ _,⟨[c],.inr ⟨Se.n,1,true,c,rfl,on,by rw[hR.len];rfl,Nat.le_refl _,by rw[List.flatten_cons,List.flatten_nil,List.append_nil,hR.len];rfl,by rw[List.flatten_cons,List.flatten_nil,List.append_nil];exact List.take_of_length_le (Nat.le_refl _),hR.ones⟩,rfl,λb hb=>⟨by have hb:b=Se.n:=hb;omega,λq=>q⟩,λix c' a hc ha=>by
     cases ix with
     |zero=>
      have e1:c=c':=by simpa using hc
      have e2:e=a:=by simpa using ha
      subst e1;subst e2;exact⟨eI S7.n Se.n,hR.go (λb hb=>kp b (by have:=hb.1;omega) hb.2) (λ_ h=>h),λb hb=>⟨⟨hb.1,λq=>q⟩,Nat.lt_succ_of_lt hb.2,λq=>by have q:b=Se.n:=q;have:=hb.2;omega⟩⟩
     |succ ix=>simp at hc⟩,fp.nil _ _ _⟩
   unfold ID IC;rw[r2,r10];simp only[eK];refine gE (s:=[100,111]) hpv (aZ (by decide)) mh ph (Post.call (K:=K2) (jy:=mD) hP1 th.x (λ_ h=>.inl h) λ_ ji Hi Si w mi ci pi _ hP2=>?_);have ti:=th.keep mh agW jz ci;simp only[bu,Nat.zero_add];refine mF.blk (K:=K2) O (k:=k) (by omega) hd m7 p7 ez jz dT mi pi ti (by simp) hP2 λb v' jg Hg' Sg YZ pg tg hP3=>?_;refine gE (s:=[101,110,100]) hpv (aZ (by decide)) YZ pg (Post.call (K:=K2) (jy:=mD) hP3 tg.x (λ_ h=>.inl h) λ_ jk Hk Sk w mk ck pk _ xS=>?_);have tk:=tg.keep YZ agW jz ck;rw[eR];exact xS Hk Sk (.bD []) mk tk.x pk ⟨rfl,_,tk.ob,tk.NW mk⟩
  |false=>
  simp only[h3,Bool.false_eq_true,if_false]at hP p7;rw[aV];refine dz (s:=[114,101,112,101,97,116]) (aZ (by decide)) m7 p7 λH8 S8 m8 c8 p8=>?_;simp only[aA,bo];have oS8:=c8.ob m7 oS7 jV;have ob8:=c8.ob m7 ob7 FZ;have x8:=x7.trans c8;cases h4:isA C.T [114,101,112,101,97,116] i with
  |true=>
   simp only[h4,if_true]at hP p8;rw[aU];cases k with
   |zero=>simp only[dR]at hP;exact False.elim hP
   |succ k=>
   simp only[dR]at hP;have ez:=zA m8 oS8;have sT:=fin m8 x8 ob8 ez hP;have eR:∀H,fI (dv (s13 m)) K (.ptr S.n 0) (.ptr bs 0) H=(λo H=>cR K o H λ_=>fI (dv (s13 m)) K (.ptr S.n 0) (.ptr bs 0) H:KF) (.ret (.bD [])) H:=λ_=>rfl;have eP:∀v H,K (.cZ v) H=(λo H=>cR K o H λ_=>fI (dv (s13 m)) K (.ptr S.n 0) (.ptr bs 0) H:KF) (.cZ v) H:=λ_ _=>rfl;generalize (λo H=>cR K o H λ_=>fI (dv (s13 m)) K (.ptr S.n 0) (.ptr bs 0) H:KF)=K2 at sT eR eP;have eK:∀(o:gN) (H:AH) (k:AV→Prop),cR K o H k=cR K2 o H k:=λo H k=>by
    cases o with
    |ret v=>rfl
    |cZ v=>exact eP v H
   have ajm:C.bp<S8.n:=p8.eJ m8;have gM:∀b,S8.n≤b→¬bL C b:=λb hb q=>by have q:b=C.bp:=q;omega
   simp only[eK];refine O.block k (by omega) hd m8 p8 (Post.call (K:=K2) (jy:=dY) sT (aD.refl _ _) (λ_ h=>.inl h) λb j He Se v6 me ce pe ⟨cb,hsl,hrs⟩ hP1=>?_);have YY:=ce.ob m8 oS8 jV;have ne:=ce.1;refine iX hsl.one ?_;refine dP me rfl (λx h=>by rw[List.mem_singleton]at h;rw[h];exact hsl.one) λHf mf=>?_;have cf:aD cB Se (Se.push (.ce [v6] 0)):=(aD.refl _ _).push _;rw[bu,Nat.zero_add];refine bj (v:=.int 0 ((8:Nat):Int)) mf (cf.ob me YY λq=>q) (by omega) (by show 0<5;omega) rfl λHg mg=>?_;rw[bu,Nat.zero_add];refine bj mg (LS.ay _ _ _) (by omega) (by show 4<5;omega) rfl λHh Ga=>?_;have mh:Mem Hh (((Se.push (.ce [v6] 0)).set bs (.ce [.int 0 ((8:Nat):Int),.int 0 (aW C.T i:Int),.ab,.ab,.ab] 0)).set bs (.ce [.int 0 ((8:Nat):Int),.int 0 (aW C.T i:Int),.ab,.ab,.slice Se.n 0 1 1 1 true] 0)):=Ga;clear Ga;have ph:=((pe.no me cf).setB mf jz dT (.ce [.int 0 ((8:Nat):Int),.int 0 (aW C.T i:Int),.ab,.ab,.ab] 0)).setB mg jz dT (.ce [.int 0 ((8:Nat):Int),.int 0 (aW C.T i:Int),.ab,.ab,.slice Se.n 0 1 1 1 true] 0);have kp:∀b,b≠bs→b<Se.n→(((Se.push (.ce [v6] 0)).set bs (.ce [.int 0 ((8:Nat):Int),.int 0 (aW C.T i:Int),.ab,.ab,.ab] 0)).set bs (.ce [.int 0 ((8:Nat):Int),.int 0 (aW C.T i:Int),.ab,.ab,.slice Se.n 0 1 1 1 true] 0)).ob b=Se.ob b:=λb h1 h2=>by rw[LS.aq _ _ h1,LS.aq _ _ h1,LS.cj _ _ h2]
   have on:(((Se.push (.ce [v6] 0)).set bs (.ce [.int 0 ((8:Nat):Int),.int 0 (aW C.T i:Int),.ab,.ab,.ab] 0)).set bs (.ce [.int 0 ((8:Nat):Int),.int 0 (aW C.T i:Int),.ab,.ab,.slice Se.n 0 1 1 1 true] 0)).ob Se.n=.ce [v6] 0:=by
    rw[LS.aq _ _ (by omega),LS.aq _ _ (by omega)];exact LS.ak _ _
   have th:mF C S8 (((Se.push (.ce [v6] 0)).set bs (.ce [.int 0 ((8:Nat):Int),.int 0 (aW C.T i:Int),.ab,.ab,.ab] 0)).set bs (.ce [.int 0 ((8:Nat):Int),.int 0 (aW C.T i:Int),.ab,.ab,.slice Se.n 0 1 1 1 true] 0)) bs 8 (aW C.T i) .ab [] (.slice Se.n 0 1 1 1 true) [b]:=
    ⟨((ce.two.trans cf.no).set (.inl (.inr rfl)) _).set (.inl (.inr rfl)) _,LS.ay _ _ _,fp.nil _ _ _,⟨[[v6]],.inr ⟨Se.n,1,true,[v6],rfl,on,rfl,Nat.le_refl _,rfl,rfl,λx h=>by rw[List.mem_singleton]at h;rw[h];exact hsl.one⟩,rfl,λb hb=>⟨by have hb:b=Se.n:=hb;omega,λq=>q⟩,λix c a hc ha=>by
     cases ix with
     |zero=>
      have e1:[v6]=c:=by simpa using hc
      have e2:b=a:=by simpa using ha
      subst e1;subst e2;exact⟨eI S8.n Se.n,⟨v6,cb,rfl,hsl.go (λb hb=>kp b (by have:=hb.1;omega) hb.2) (λ_ h=>h),λj s h=>(hrs j s h).go (λb hb=>kp b (by have:=hb.1;omega) hb.2) (λ_ h=>h)⟩,λb hb=>⟨⟨hb.1,λq=>q⟩,Nat.lt_succ_of_lt hb.2,λq=>by have q:b=Se.n:=q;have:=hb.2;omega⟩⟩
     |succ ix=>simp at hc⟩⟩
   unfold IF IE;rw[r9,r10];simp only[eK];refine gE (s:=[117,110,116,105,108]) hpv (aZ (by decide)) mh ph (Post.call (K:=K2) (jy:=mD) hP1 th.x (λ_ h=>.inl h) λ_ ji Hi Si w mi ci pi _ hP2=>?_);have ti:=th.keep mh ajm jz ci;simp only[bu,Nat.zero_add];refine mF.exp (K:=K2) O (k:=k) (by omega) hd m8 p8 ez jz dT mi pi ti (by simp) hP2 λe v' jg Hg' Sg YZ pg tg hP3=>?_;rw[eR];exact hP3 Hg' Sg (.bD []) YZ tg.x pg ⟨rfl,_,tg.ob,tg.NW YZ⟩
  |false=>
  simp only[h4,Bool.false_eq_true,if_false]at hP p8;rw[aV];refine dz (s:=[102,111,114]) (aZ (by decide)) m8 p8 λH9 S9 m9 c9 p9=>?_;simp only[aA,bo];have oS9:=c9.ob m8 oS8 jV;have ob9:=c9.ob m8 ob8 FZ;have x9:=x8.trans c9;cases h5:isA C.T [102,111,114] i with
  |true=>
   simp only[h5,if_true]at hP p9;rw[aU];exact O.loop k (by omega) hd m9 p9 oS9 jz dT (fin m9 x9 ob9 (zA m9 oS9) hP)
  |false=>
  simp only[h5,Bool.false_eq_true,if_false]at hP p9;rw[aV];refine dz (s:=[98,114,101,97,107]) (aZ (by decide)) m9 p9 λHa Sa ma ca pa=>?_;simp only[aA,bo];have oSa:=ca.ob m9 oS9 jV;have oba:=ca.ob m9 ob9 FZ;have xa:=x9.trans ca;cases h6:isA C.T [98,114,101,97,107] i with
  |true=>
   simp only[h6,if_true]at hP pa;rw[aU];simp only[bu,Nat.zero_add];refine bj (v:=.int 0 ((9:Nat):Int)) ma oSa (by omega) (by show 0<5;omega) rfl λHe me=>?_;exact fin ma xa oba (zA ma oSa) hP He _ (.bD []) me ((aD.refl _ _).set (.inl (.inr rfl)) _) (pa.setB ma jz dT _) ⟨rfl,_,LS.ay _ _ _,eZ.plain ik.nil (cJ.nil _ _ _ (λ_=>[])) λi e h=>by simp at h⟩
  |false=>
  simp only[h6,Bool.false_eq_true,if_false]at hP pa;rw[aV];refine dz (s:=[100,111]) (aZ (by decide)) ma pa λHb Sb mb cb pb=>?_;simp only[aA,bo];have oSb:=cb.ob ma oSa jV;have obb:=cb.ob ma oba FZ;have xb:=xa.trans cb;cases h7:isA C.T [100,111] i with
  |true=>
   simp only[h7,if_true]at hP pb;rw[aU];cases k with
   |zero=>simp only[kV]at hP;exact False.elim hP
   |succ k=>
   simp only[kV]at hP;have sT:=fin mb xb obb (zA mb oSb) hP;have ez:=zA mb oSb;have gM:∀b,Sb.n≤b→¬bL C b:=λb hb q=>by have q:b=C.bp:=q;have:=xb.1;omega
   refine O.block k (by omega) hd mb pb (Post.call (K:=λo H=>cR K o H λ_=>fI (dv (s13 m)) K (.ptr S.n 0) (.ptr bs 0) H) (jy:=dY) sT (aD.refl _ _) (λ_ h=>.inl h) λb j He Se v6 me ce pe ⟨cb,hsl,hrs⟩ hP1=>?_);have YY:=ce.ob mb oSb jV;have ne:=ce.1;refine iX hsl.one ?_;refine dP me rfl (λx h=>by rw[List.mem_singleton]at h;rw[h];exact hsl.one) λHf mf=>?_;have cf:aD cB Se (Se.push (.ce [v6] 0)):=(aD.refl _ _).push _;simp only[bu,Nat.zero_add];refine bj (v:=.int 0 ((11:Nat):Int)) mf (cf.ob me YY λq=>q) (by omega) (by show 0<5;omega) rfl λHg mg=>?_;refine bj mg (LS.ay _ _ _) (by omega) (by show 4<5;omega) rfl λHh Ga=>?_;have mh:Mem Hh (((Se.push (.ce [v6] 0)).set bs (.ce [.int 0 ((11:Nat):Int),.int 0 (aW C.T i:Int),.ab,.ab,.ab] 0)).set bs (.ce [.int 0 ((11:Nat):Int),.int 0 (aW C.T i:Int),.ab,.ab,.slice Se.n 0 1 1 1 true] 0)):=Ga;clear Ga;have ph:=((pe.no me cf).setB mf jz dT (.ce [.int 0 ((11:Nat):Int),.int 0 (aW C.T i:Int),.ab,.ab,.ab] 0)).setB mg jz dT (.ce [.int 0 ((11:Nat):Int),.int 0 (aW C.T i:Int),.ab,.ab,.slice Se.n 0 1 1 1 true] 0);have xh:aD (fF C bs) Sb (((Se.push (.ce [v6] 0)).set bs (.ce [.int 0 ((11:Nat):Int),.int 0 (aW C.T i:Int),.ab,.ab,.ab] 0)).set bs (.ce [.int 0 ((11:Nat):Int),.int 0 (aW C.T i:Int),.ab,.ab,.slice Se.n 0 1 1 1 true] 0)):=((ce.two.trans cf.no).set (.inl (.inr rfl)) _).set (.inl (.inr rfl)) _;unfold IH IG;rw[r10];refine gE (s:=[101,110,100]) hpv (aZ (by decide)) mh ph (Post.call (K:=λo H=>cR K o H λ_=>fI (dv (s13 m)) K (.ptr S.n 0) (.ptr bs 0) H) (jy:=mD) hP1 xh (λ_ h=>.inl h) λ_ ji Hi Si w mi ci pi _ hP2=>?_);have ni:Se.n+1≤Si.n:=ci.1;have kp:∀b,Sb.n≤b→b<Se.n→Si.ob b=Se.ob b:=λb h1 h2=>by
    rw[ci.2 b (by show b<Se.n+1;omega) (gM b h1),LS.aq _ _ (by omega),LS.aq _ _ (by omega),LS.cj _ _ h2]
   refine hP2 Hi Si (.bD []) mi (xh.trans ci.two) pi ⟨rfl,_,ci.ob mh (LS.ay _ _ _) jV,eZ.blk (v6:=v6) (l:=[]) ik.nil (cJ.nil _ _ _ (λ_=>[])) (λi e h=>by simp at h) (cJ.single (b:=Se.n) (m:=0) ⟨ne,by omega⟩ (ci.ob mh (by rw[LS.aq _ _ (by omega),LS.aq _ _ (by omega)];exact LS.ak _ _) (gM _ ne)) rfl) (hsl.go (λb hb=>kp b hb.1 hb.2) λb hb=>⟨hb.1,by have:=hb.2;omega⟩) λj s h=>(hrs j s h).go (λb hb=>kp b hb.1 hb.2) λb hb=>⟨hb.1,by have:=hb.2;omega⟩⟩
  |false=>
  simp only[h7,Bool.false_eq_true,if_false]at hP pb;rw[aV];refine dz (s:=[114,101,116,117,114,110]) (aZ (by decide)) mb pb λHc Sc mc cc pc=>?_;simp only[aA,bo];have oSc:=cc.ob mb oSb jV;have obc:=cc.ob mb obb FZ;have xc:=xb.trans cc;cases h8:isA C.T [114,101,116,117,114,110] i with
  |true=>
   simp only[h8,if_true]at hP pc;rw[aU];cases k with
   |zero=>simp only[dS]at hP;exact False.elim hP
   |succ k=>
   simp only[dS]at hP;have ez:=zA mc oSc;have sT:=fin mc xc obc ez hP;have eR:∀H,fI (dv (s13 m)) K (.ptr S.n 0) (.ptr bs 0) H=(λo H=>cR K o H λ_=>fI (dv (s13 m)) K (.ptr S.n 0) (.ptr bs 0) H:KF) (.ret (.bD [])) H:=λ_=>rfl;have eP:∀v H,K (.cZ v) H=(λo H=>cR K o H λ_=>fI (dv (s13 m)) K (.ptr S.n 0) (.ptr bs 0) H:KF) (.cZ v) H:=λ_ _=>rfl;generalize (λo H=>cR K o H λ_=>fI (dv (s13 m)) K (.ptr S.n 0) (.ptr bs 0) H:KF)=K2 at sT eR eP;have eK:∀(o:gN) (H:AH) (k:AV→Prop),cR K o H k=cR K2 o H k:=λo H k=>by
    cases o with
    |ret v=>rfl
    |cZ v=>exact eP v H
   simp only[bu,Nat.zero_add];refine bj (v:=.int 0 ((10:Nat):Int)) mc oSc (by omega) (by show 0<5;omega) rfl λHd md'=>?_;have md:Mem Hd (Sc.set bs (.ce [.int 0 ((10:Nat):Int),.int 0 (aW C.T i:Int),.ab,.ab,.ab] 0)):=md';clear md';have td:mF C Sc (Sc.set bs (.ce [.int 0 ((10:Nat):Int),.int 0 (aW C.T i:Int),.ab,.ab,.ab] 0)) bs 10 (aW C.T i) .ab [] .ab []:=⟨(aD.refl _ _).set (.inl (.inr rfl)) _,LS.ay _ _ _,fp.nil _ _ _,fp.nil _ _ _⟩
   have pd:=pc.setB mc jz dT (.ce [.int 0 ((10:Nat):Int),.int 0 (aW C.T i:Int),.ab,.ab,.ab] 0);have agX:C.bp<Sc.n:=pc.eJ mc;unfold IL IK;rw[r4,r6];refine pG (s:=[59]) (aZ (by decide)) md pd λHe Se me ce pe=>?_;simp only[aA,bo];have te:=td.keep md agX jz ce.no;cases h9:isA C.T [59] (i+1)with
   |true=>
    rw[if_pos (.inl h9)]at sT;simp only[Bool.not_true,aV];rw[eR];exact sT He Se (.bD []) me te.x pe ⟨rfl,_,te.ob,te.NW me⟩
   |false=>
    simp only[Bool.not_false,aU];refine Ky me pe λHf Sf mf cf pf=>?_;rw[aA,bo];have tf:=te.keep me agX jz cf.no;cases h10:dH C.T (i+1)with
    |true=>
     have hc:(isA C.T [59] (i+1)=true∨dH C.T (i+1)=true):=Or.inr h10;rw[if_pos hc]at sT;simp only[Bool.not_true,aV];rw[eR];exact sT Hf Sf (.bD []) mf tf.x pf ⟨rfl,_,tf.ob,tf.NW mf⟩
    |false=>
     have hc:¬(isA C.T [59] (i+1)=true∨dH C.T (i+1)=true):=by
      rintro(q|q)
      ·rw[h9]at q;cases q
      ·rw[h10]at q;cases q
     rw[if_neg hc]at sT;rw[Bool.not_false,aU];unfold IJ II;rw[r9];simp only[bu,Nat.zero_add,eK];refine mF.exp (K:=K2) O (k:=k) (by omega) hd mc pc ez jz dT mf pf tf (by simp) sT λe v' jg Hg Sg mg pg tg hP3=>?_;rw[eR];exact hP3 Hg Sg (.bD []) mg tg.x pg ⟨rfl,_,tg.ob,tg.NW mg⟩
  |false=>
  simp only[h8,Bool.false_eq_true,if_false]at hP pc;rw[aV];refine iY mc pc λHd Sd md cd pd=>?_;rw[aA];refine FY ?_;have oSd:=cd.ob mc oSc λq=>q;have obd:=cd.ob mc obc λq=>q;have xd:=xc.trans cd.no;have e2:Int.ofNat 2=((2:Nat):Int):=rfl;rw[cV,e2];by_cases g2:bC C.T i=2
  ·rw[if_pos g2]at hP;rw[decide_eq_true (by omega),aU];exact O.plain k (by omega) hd md pd oSd jz dT (fin md xd obd (zA md oSd) hP)
  ·rw[if_neg g2]at hP;rw[decide_eq_false (by omega),aV];refine mW (c:=14) hpv md pd λHe Se me ce ee=>?_;rw[jJ];exact hP He Se me (xd.trans ce) ee
end
section
variable {C:Ctx}
theorem ajn(m:Nat):gL C m 0 where
 block k hk _ _ _ _ _ _ _ _ hP:=by
  obtain rfl:k=0:=by omega
  simp only[cz]at hP;exact False.elim hP
 stat k hk _ _ _ _ _ _ _ _ hP:=by
  obtain rfl:k=0:=by omega
  simp only[eY]at hP;exact False.elim hP
 ah k hk _ _ _ _ _ _ _ _ _ _ _ _ _ hP:=by
  obtain rfl:k=0:=by omega
  simp only[ep]at hP;exact False.elim hP
 choice k hk _ _ _ _ _ _ _ _ _ _ _ _ _ hP:=by
  obtain rfl:k=0:=by omega
  simp only[cO]at hP;exact False.elim hP
 exp k hk _ _ _ _ _ _ _ _ hP:=by
  obtain rfl:k=0:=by omega
  simp only[de]at hP;exact False.elim hP
 loop k hk _ _ _ _ _ _ _ _ _ _ _ _ _ hP:=by
  obtain rfl:k=0:=by omega
  simp only[ij]at hP;exact False.elim hP
 plain k hk _ _ _ _ _ _ _ _ _ _ _ _ _ hP:=by
  obtain rfl:k=0:=by omega
  simp only[ey]at hP;exact False.elim hP
 body k hk _ _ _ _ _ _ _ _ _ hP:=by
  obtain rfl:k=0:=by omega
  simp only[fy]at hP;exact False.elim hP
 either k hk _ _ _ _ _ _ _ _ hP:=by
  obtain rfl:k=0:=by omega
  simp only[dx]at hP;exact False.elim hP
 post k hk _ _ _ _ _ _ _ _ hP:=by
  obtain rfl:k=0:=by omega
  simp only[fj]at hP;exact False.elim hP
 both k hk _ _ _ _ _ _ _ _ hP:=by
  obtain rfl:k=0:=by omega
  simp only[fu]at hP;exact False.elim hP
 simple k hk _ _ _ _ _ _ _ _ hP:=by
  obtain rfl:k=0:=by omega
  simp only[dc]at hP;exact False.elim hP
 args k hk _ _ _ _ _ _ _ _ hP:=by
  obtain rfl:k=0:=by omega
  simp only[cT]at hP;exact False.elim hP
 test k hk _ _ _ _ _ _ _ _ hP:=by
  obtain rfl:k=0:=by omega
  simp only[fw]at hP;exact False.elim hP
 table k hk _ _ _ _ _ _ _ _ _ hP:=by
  obtain rfl:k=0:=by omega
  simp only[dh]at hP;exact False.elim hP
 join k hk _ _ _ _ _ _ _ _ hP:=by
  obtain rfl:k=0:=by omega
  simp only[fi]at hP;exact False.elim hP
 field k hk _ _ _ _ _ _ _ _ _ _ _ _ _ _ hP:=by
  obtain rfl:k=0:=by omega
  simp only[dJ]at hP;exact False.elim hP
 sum k hk _ _ _ _ _ _ _ _ hP:=by
  obtain rfl:k=0:=by omega
  simp only[ig]at hP;exact False.elim hP
 term k hk _ _ _ _ _ _ _ _ hP:=by
  obtain rfl:k=0:=by omega
  simp only[fx]at hP;exact False.elim hP
 unary k hk _ _ _ _ _ _ _ _ hP:=by
  obtain rfl:k=0:=by omega
  simp only[dN]at hP;exact False.elim hP
theorem ajo{m n:Nat}(hn:n≤900000)(hpv:C.pv=.iface 57 (.agg []))(O:gL C m n):gL C (m+1) (n+1) where
 block:=s24 hn hpv O
 stat:=s55 hpv O
 ah:=s95 hpv O
 choice:=s96 hn hpv O
 exp:=s97 hpv O
 loop:=s99 hpv O
 plain:=ajj hpv O
 body:=aji hn hpv O
 either:=aiZ hn hpv O
 post:=ajc hn hpv O
 both:=ai1 hn hpv O
 simple:=ajd hpv O
 args:=aja hn hpv O
 test:=ai3 hn hpv O
 table:=ajf hn hpv O
 join:=ai7 hpv O
 field:=ajg hpv O
 sum:=ai4 hn hpv O
 term:=ai6 hn hpv O
 unary:=ai8 hpv O
theorem okP(hpv:C.pv=.iface 57 (.agg [])):∀(n m:Nat),n≤900000→n≤m→gL C m n
 |0,m,_,_=>ajn m
 |n+1,0,_,h=>by omega
 |n+1,m+1,h1,h2=>ajo (by omega) hpv (okP hpv n m (by omega) (by omega))
end
end Go.Proofs.YtcedghechlgecaaGreatDoor
