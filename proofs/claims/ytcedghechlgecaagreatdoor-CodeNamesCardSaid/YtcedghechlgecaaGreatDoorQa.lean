/- The parser gives what the grammar says. No condition: lemmas. -/
import Derived.Test.YtcedghechlgecaaGreatDoorPa
set_option maxRecDepth 100000
set_option maxHeartbeats 0
set_option linter.unusedVariables false
set_option linter.unusedSimpArgs false
namespace Go.Proofs.YtcedghechlgecaaGreatDoor
open Go Go.X Go.Proofs.YtcedghechlgecaaGreatDoor.G
section
variable {H:AH}{S:LS}{K:KF}{C:Ctx}{i d:Nat}
def bJ(C:Ctx):Nat→Prop:=λb=>b=C.bp
theorem ax.Gi{C:Ctx}{S S':LS}(h:ax (bJ C) S S')(o:gi):ax (bJ C) S (S'.set C.bp o):=h.set (b:=C.bp) (.inl (rfl:C.bp=C.bp)) o
theorem pK{c:Nat}(hpv:C.pv=.iface 57 (.agg []))(hM:Mem H S)(hp:bE C S i d)(hK:∀H' S',Mem H' S'→ax (bJ C) S S'→Gf C S' c i→K (.cj C.pv) H'):f25 (.ptr C.bp 0) (c:Int) H K:=by
 show Hl PL K (.ptr C.bp 0) (c:Int) H;unfold Hl;rw[aW,av,Nat.zero_add];refine aS hM hp.ob (by omega) (by show 3<4;omega) rfl λH' h'=>?_;rw[hpv]at hK;exact hK H' _ h' (ax.Gi (ax.refl _ _) _) hp.err
theorem jw(hM:Mem H S)(hp:bE C S i d)(hK:∀H' S',Mem H' S'→ax cD S S'→bE C S' i d→K (.ret (.agg (fa C.T i))) H'):f23 (.ptr C.bp 0) H K:=by
 show zq Hj K (.ptr C.bp 0) H;unfold zq;refine bZ (bF hM (λa ha=>?_) λH1 m1=>?_)
 ·simp only[List.mem_cons,List.not_mem_nil,or_false]at ha;rcases ha with rfl|rfl|rfl|rfl<;>rfl
 have c1:ax cD S (S.push (.ce [.int 0 (.ofNat 0),.str 0 0,.int 0 (.ofNat 0),.int 0 (.ofNat 0)] 0)):=(ax.refl _ _).push _;have p1:=hp.no hM c1;simp only[aW,av,Nat.zero_add];refine aj m1 p1.ob (v:=C.vT) rfl ?_;refine aj m1 p1.ob (v:=.int 0 (i:Int)) rfl ?_;simp only[az];refine p1.tk.load m1 hp.lt ?_;rw[Gg hp.lt];refine hV m1 (LS.al _ _) (by omega) rfl (by show 0+4≤4;omega) (λa ha=>?_) λH2 m2=>?_
 ·simp only[fa,List.mem_cons,List.not_mem_nil,or_false]at ha;rcases ha with rfl|rfl|rfl|rfl<;>rfl
 have m2:Mem H2 ((S.push (.ce [.int 0 (.ofNat 0),.str 0 0,.int 0 (.ofNat 0),.int 0 (.ofNat 0)] 0)).set S.n (.ce (fa C.T i) 0)):=m2;have c2:=c1.set (b:=S.n) (.inr (Nat.le_refl _)) (.ce (fa C.T i) 0);refine kx m2 (LS.au _ _ _) (by show 0+4≤4;omega) ?_;exact hK H2 _ m2 c2 (hp.no hM c2)
theorem SD{T:List Tok}{s:List Nat}{i:Nat}:isA T s i=((decide (cg T i=1)||decide (cg T i=5))&&decide (ft T i=s)):=rfl
theorem sT{s:List Nat}(h8:B8 s)(hM:Mem H S)(hp:bE C S i d)(hK:∀H' S',Mem H' S'→ax cD S S'→bE C S' i d→K (.ret (.bool (isA C.T s i))) H'):f94 (.ptr C.bp 0) (ak s) H K:=by
 have r94:Hq=f23:=rfl;show Hp Hq K (.ptr C.bp 0) (ak s) H;unfold Hp;rw[r94];refine jw hM hp λH1 S1 m1 c1 p1=>?_;rw[aq];refine bZ (bF m1 (λa ha=>?_) λH2 m2=>?_)
 ·simp only[List.mem_cons,List.not_mem_nil,or_false]at ha;rcases ha with rfl|rfl|rfl|rfl<;>rfl
 refine hV m2 (LS.al _ _) (by omega) rfl (by show 0+4≤4;omega) (λa ha=>?_) λH3 m3=>?_
 ·simp only[fa,List.mem_cons,List.not_mem_nil,or_false]at ha;rcases ha with rfl|rfl|rfl|rfl<;>rfl
 have m3:Mem H3 ((S1.push (.ce [.int 0 (.ofNat 0),.str 0 0,.int 0 (.ofNat 0),.int 0 (.ofNat 0)] 0)).set S1.n (.ce (fa C.T i) 0)):=m3;have c3:=(c1.push (.ce [.int 0 (.ofNat 0),.str 0 0,.int 0 (.ofNat 0),.int 0 (.ofNat 0)] 0)).set (b:=S1.n) (.inr c1.1) (.ce (fa C.T i) 0);have hk:=hK H3 _ m3 c3 (hp.no hM c3);have e1:Int.ofNat 1=((1:Nat):Int):=rfl;have e5:Int.ofNat 5=((5:Nat):Int):=rfl;have go:(cg C.T i=1∨cg C.T i=5)→af (.ptr S1.n 1) H3 λv11=>wo v11 (ak s) λv12=>bC v12 λz13=>K (.ret (.bool z13)) H3:=λhkd=>by
  refine aj m3 (LS.au _ _ _) (v:=ak (ft C.T i)) rfl ?_;refine A5 (wi C i) h8 ?_;rw[aX];have e:isA C.T s i=decide (ft C.T i=s):=by
   rw[SD];rcases hkd with g|g<;>rw[g]<;>simp
  rw[e]at hk;exact hk
 simp only[av,Nat.zero_add];refine aj m3 (LS.au _ _ _) (v:=.int 0 (cg C.T i:Int)) rfl ?_;simp only[az,bD];rw[e1,e5];refine bY (λg=>go (.inl (by omega))) (λg=>?_);refine aj m3 (LS.au _ _ _) (v:=.int 0 (cg C.T i:Int)) rfl ?_;simp only[az];refine bY (λg5=>go (.inr (by omega))) (λg5=>?_);have e:isA C.T s i=false:=by
  rw[SD,decide_eq_false (by omega),decide_eq_false (by omega)];rfl
 rw[e]at hk;exact hk
theorem dF{s:List Nat}(h8:B8 s)(hM:Mem H S)(hp:bE C S i d)(hK:∀H' S',Mem H' S'→ax (bJ C) S S'→bE C S' (if isA C.T s i then i+1 else i) d→K (.ret (.bool (isA C.T s i))) H'):f56 (.ptr C.bp 0) (ak s) H K:=by
 have r56:Ht=f94:=rfl;show Hs Ht K (.ptr C.bp 0) (ak s) H;unfold Hs;rw[r56];refine sT h8 hM hp λH1 S1 m1 c1 p1=>?_;simp only[aq,aX];cases hi:isA C.T s i with
 |false=>
  simp only[Bool.not_false,aG];have hk:=hK H1 S1 m1 c1.no (by rw[hi];exact p1);rw[hi]at hk;exact hk
 |true=>
  simp only[Bool.not_true,aw,aW,av,Nat.zero_add];have hlt:=cP C.ok hi;have hfew:=C.few;refine aj m1 p1.ob (v:=.int 0 (i:Int)) rfl ?_;simp only[az,eo,fN];refine w0 (by omega) (by omega) ?_;refine aS m1 p1.ob (by omega) (by show 1<4;omega) rfl λH2 m2=>?_;have p2:=p1.set (e:=d) hlt;have c2:ax (bJ C) S (S1.set C.bp (.ce [C.vT,.int 0 ((i+1:Nat):Int),.int 0 (d:Int),.int 0 0] 0)):=ax.Gi (c1.no) _;have hk:=hK H2 _ m2 c2 (by rw[hi];exact p2);rw[hi]at hk;exact hk
theorem gP{s:List Nat}(hpv:C.pv=.iface 57 (.agg []))(h8:B8 s)(hM:Mem H S)(hp:bE C S i d)(hP:Post C (bJ C) d oQ K S (dR C.T s i)):ng (.ptr C.bp 0) (ak s) H K:=by
 have azp:Cd.1=f25:=rfl;have azq:Cd.2=f56:=rfl;show Hu Cd K (.ptr C.bp 0) (ak s) H;unfold Hu;rw[azp,azq];refine dF h8 hM hp λH1 S1 m1 c1 p1=>?_;simp only[aq,aX];unfold dR at hP;cases hi:isA C.T s i with
 |true=>
  rw[hi]at p1 hP;simp only[Bool.not_true,aw];exact hP H1 S1 _ m1 c1 p1 rfl
 |false=>
  rw[hi]at p1 hP;simp only[Bool.not_false,aG];refine pK (c:=14) hpv m1 p1 λH2 S2 m2 c2 e2=>?_;rw[dt];exact hP H2 S2 m2 (c1.trans c2) e2
theorem Au(hpv:C.pv=.iface 57 (.agg []))(hM:Mem H S)(hp:bE C S i d)(hP:Post C (bJ C) d rvN K S (oJ C.T i)):f130 (.ptr C.bp 0) H K:=by
 have aya:ve.1=f23:=rfl;have ayb:ve.2=f25:=rfl;show Dv ve K (Du ve K) (.ptr C.bp 0) H;unfold Dv;rw[aya,ayb];refine jw hM hp λH1 S1 m1 c1 p1=>?_;rw[aq];refine bZ (bF m1 (λa ha=>?_) λH2 m2=>?_)
 ·simp only[List.mem_cons,List.not_mem_nil,or_false]at ha;rcases ha with rfl|rfl|rfl|rfl<;>rfl
 refine hV m2 (LS.al _ _) (by omega) rfl (by show 0+4≤4;omega) (λa ha=>?_) λH3 m3=>?_
 ·simp only[fa,List.mem_cons,List.not_mem_nil,or_false]at ha;rcases ha with rfl|rfl|rfl|rfl<;>rfl
 have m3:Mem H3 ((S1.push (.ce [.int 0 (.ofNat 0),.str 0 0,.int 0 (.ofNat 0),.int 0 (.ofNat 0)] 0)).set S1.n (.ce (fa C.T i) 0)):=m3;have c3:=(c1.push (.ce [.int 0 (.ofNat 0),.str 0 0,.int 0 (.ofNat 0),.int 0 (.ofNat 0)] 0)).set (b:=S1.n) (.inr c1.1) (.ce (fa C.T i) 0);have p3:=hp.no hM c3;unfold oJ at hP;have e2:Int.ofNat 2=((2:Nat):Int):=rfl;simp only[av,Nat.zero_add];refine aj m3 (LS.au _ _ _) (v:=.int 0 (cg C.T i:Int)) rfl ?_;simp only[az,bD];rw[e2];by_cases g:cg C.T i=2
 ·rw[if_pos g]at hP;rw[decide_eq_true (by omega)];simp only[Bool.not_true,aw];unfold Du;simp only[aW,av,Nat.zero_add];have hlt:=mA (i:=i) C.ok (by omega);have hfew:=C.few;refine aj m3 p3.ob (v:=.int 0 (i:Int)) rfl ?_;simp only[az,eo,fN];refine w0 (by omega) (by omega) ?_;refine aS m3 p3.ob (by omega) (by show 1<4;omega) rfl λH4 m4=>?_;have p4:=p3.set (e:=d) hlt;have hne:S1.n≠C.bp:=by have:=p1.eT m1;omega
  refine aj m4 (l:=fa C.T i) (m:=0) (by rw[LS.ao _ _ hne];exact LS.au _ _ _) (v:=ak (ft C.T i)) rfl ?_;exact hP H4 _ _ m4 (ax.Gi (c3.no) _) p4 ⟨rfl,wi C i⟩
 ·rw[if_neg g]at hP;rw[decide_eq_false (by omega)];simp only[Bool.not_false,aG];refine pK (c:=14) hpv m3 p3 λH4 S4 m4 c4 e4=>?_;rw[dt];exact hP H4 S4 m4 ((c3.no).trans c4) e4
theorem afj(hpv:C.pv=.iface 57 (.agg []))(hd:d≤1000)(hM:Mem H S)(hp:bE C S i d)
  (h1:100<d+1→∀H' S',Mem H' S'→ax (bJ C) S S'→Gf C S' 8 i→K (.cj C.pv) H')
  (h2:¬100<d+1→∀H' S',Mem H' S'→ax (bJ C) S S'→bE C S' i (d+1)→K (.ret (.aE [])) H'):f53 (.ptr C.bp 0) H K:=by
 have r53:Hn=f25:=rfl;show Hm Hn K (.ptr C.bp 0) H;unfold Hm;rw[r53];simp only[aW,av,Nat.zero_add];refine aj hM hp.ob (v:=.int 0 (d:Int)) rfl ?_;simp only[az,eo,fN];refine w0 (by omega) (by omega) ?_;refine aS hM hp.ob (by omega) (by show 2<4;omega) rfl λH1 m1=>?_;have p1:=hp.set (e:=d+1) hp.lt;have c1:ax (bJ C) S (S.set C.bp (.ce [C.vT,.int 0 (i:Int),.int 0 ((d+1:Nat):Int),.int 0 0] 0)):=ax.Gi (ax.refl _ _) _;refine aj m1 p1.ob (v:=.int 0 ((d+1:Nat):Int)) rfl ?_;have e100:Int.ofNat 100=((100:Nat):Int):=rfl;simp only[az,bz];rw[e100];refine bY (λg=>?_) (λg=>h2 (by omega) H1 _ m1 c1 p1);refine pK (c:=8) hpv m1 p1 λH2 S2 m2 c2 e2=>?_;rw[dt];exact h1 (by omega) H2 S2 m2 (c1.trans c2) e2
theorem afk{k:AH→Prop}(hd:d≤1000)(hM:Mem H S)(hp:bE C S i (d+1))(hk:∀H' S',Mem H' S'→ax (bJ C) S S'→bE C S' i d→k H') :
  aC (.ptr C.bp 0) (ah 2 (.ptr C.bp 0) λv1=>af v1 H λv2=>cI 0 v2 λz3=>aJ 0 (Int.sub z3 (.ofNat 1)) λz4=>aC (.ptr C.bp 0) (ah 2 (.ptr C.bp 0) λv5=>ag 1 v5 (.int 0 z4) H k)):=by
 simp only[aW,av,Nat.zero_add];refine aj hM hp.ob (v:=.int 0 ((d+1:Nat):Int)) rfl ?_;simp only[az,wH,fN];refine w0 (by omega) (by omega) ?_;rw[show((d+1:Nat):Int)-1=(d:Int) by omega];refine aS hM hp.ob (by omega) (by show 2<4;omega) rfl λH1 m1=>?_;exact hk H1 _ m1 (ax.Gi (ax.refl _ _) _) (hp.set (e:=d) hp.lt)
theorem SE(hM:Mem H S)(hp:bE C S i d)(hK:∀H' S',Mem H' S'→ax cD S S'→bE C S' i d→K (.ret (.bool (nr C.T i))) H'):f54 (.ptr C.bp 0) H K:=by
 have azr:Cc.1=f23:=rfl;have azs:Cc.2=f94:=rfl;show Hr Cc K (.ptr C.bp 0) H;unfold Hr;rw[azr,azs];unfold nr at hK;refine sT (s:=[101,110,100]) (bg (by decide)) hM hp λH1 S1 m1 c1 p1=>?_;simp only[aq,aX];cases h1:isA C.T [101,110,100] i with
 |true=>rw[h1]at hK;exact hK H1 S1 m1 c1 p1
 |false=>
 rw[h1,Bool.false_or]at hK;simp only[aw];refine sT (s:=[101,108,115,101]) (bg (by decide)) m1 p1 λH2 S2 m2 c2 p2=>?_;simp only[aq,aX];cases h2:isA C.T [101,108,115,101] i with
 |true=>rw[h2]at hK;exact hK H2 S2 m2 (c1.trans c2) p2
 |false=>
 rw[h2,Bool.false_or]at hK;simp only[aw];refine sT (s:=[101,108,115,101,105,102]) (bg (by decide)) m2 p2 λH3 S3 m3 c3 p3=>?_;simp only[aq,aX];cases h3:isA C.T [101,108,115,101,105,102] i with
 |true=>rw[h3]at hK;exact hK H3 S3 m3 ((c1.trans c2).trans c3) p3
 |false=>
 rw[h3,Bool.false_or]at hK;simp only[aw];refine sT (s:=[117,110,116,105,108]) (bg (by decide)) m3 p3 λH4 S4 m4 c4 p4=>?_;simp only[aq,aX];cases h4:isA C.T [117,110,116,105,108] i with
 |true=>rw[h4]at hK;exact hK H4 S4 m4 (((c1.trans c2).trans c3).trans c4) p4
 |false=>
 rw[h4,Bool.false_or]at hK;simp only[aw];refine jw m4 p4 λH5 S5 m5 c5 p5=>?_;rw[aq,Dp];unfold fa;simp only[fy,az,bD];have e0:Int.ofNat 0=((0:Nat):Int):=rfl;have hk:=hK H5 S5 m5 ((((c1.trans c2).trans c3).trans c4).trans c5) p5;have e:decide ((cg C.T i:Int)=Int.ofNat 0)=decide (cg C.T i=0):=by
  rw[Bool.eq_iff_iff,decide_eq_true_eq,decide_eq_true_eq,e0];omega
 rw[e];exact hk
theorem aoB{f:Nat}{l:List (List Nat)}{v:AV}(hf:f≤100)(hf0:0<f)(hl:l.length≤100)(h8:∀s∈l,B8 s){Q:Nat→Prop}(hbp:¬Q C.bp)(hv:bW S Q 1 v l.length (λj=>[ak (l[j]?.getD [])]))(hM:Mem H S)(hp:bE C S i d)
  (hK:∀H' S',Mem H' S'→ax (bJ C) S S'→bE C S' (if mK C.T i f l=0 then i else i+1) d→K (.ret (.int 0 (mK C.T i f l:Int))) H'):f193 (.ptr C.bp 0) (f:Int) v H K:=by
 have azt:mR=f56:=rfl;have loop:∀(q j:Nat) (H:AH) (S1:LS),j≤l.length→l.length-j<q→Mem H S1→ax (bJ C) S S1→bE C S1 i d→mK C.T i f l=mK C.T i (f+j) (l.drop j)→sd mR K q (.ptr C.bp 0) (f:Int) v l.length (j:Int) H:=by
  intro q
  induction q with
  |zero=>intro j H S1 _ h;omega
  |succ q ih=>
   intro j H S1 hj hq hM1 hc hp1 he;show Ds mR K (sd mR K q) (Dr mR K) (.ptr C.bp 0) (f:Int) v l.length (j:Int) H;unfold Ds;rw[azt,bz];refine bY (λg=>?_) (λg=>?_)
   ·have hjl:j<l.length:=by omega
    have hd:l.drop j=l[j]::l.drop (j+1):=List.drop_eq_getElem_cons hjl;have hv1:bW S1 Q 1 v l.length (λj=>[ak (l[j]?.getD [])]):=by
     rcases hv with hv|⟨b,o,c,ex,cs,m,e1,e2,e4,e5⟩
     ·exact .inl hv
     ·exact .inr ⟨b,o,c,ex,cs,m,e1,e2,(hc.2 b (hM.lt (by rw[e4];simp)) λe=>hbp (by have e:b=C.bp:=e;rw[←e];exact e2)).trans e4,e5⟩
    have hld:cw 1 v (.int 0 (j:Int)) λv1=>af v1 H λv2=>f56 (.ptr C.bp 0) v2 H λo3 H4=>cR K o3 H4 λv5=>bC v5 λz6=>bI z6 (aJ 0 (Int.add (f:Int) (j:Int)) λz7=>K (.ret (.int 0 z7)) H4) (aJ 0 (Int.add (j:Int) (.ofNat 1)) λz8=>sd mR K q (.ptr C.bp 0) (f:Int) v l.length z8 H4):=by
     rcases hv1 with⟨_,e⟩|⟨b,o,c,ex,cs,m,rfl,e2,e4,e5,e6,e7⟩
     ·omega
     ·refine qW (by omega) (by omega) ?_;rw[Int.toNat_natCast];have e8:=e7 j hjl;have hget:cs[o+j*1]? = some (ak l[j]):=by
       have:((cs.drop (o+j*1)).take 1)[0]? = [ak (l[j]?.getD [])][0]?:=by rw[e8]
       rw[List.getElem?_take,if_pos (by omega),List.getElem?_drop,Nat.add_zero,List.getElem?_eq_getElem hjl]at this;exact this
      refine aj hM1 e4 hget ?_;refine dF (h8 _ (List.getElem_mem _)) hM1 hp1 λH2 S2 m2 c2 p2=>?_;rw[aq,aX];rw[hd]at he;cases hi:isA C.T l[j] i with
      |true=>
       rw[hi]at p2;rw[aG,eo];have e9:mK C.T i (f+j) (l[j]::l.drop (j+1))=f+j:=by unfold mK;rw[hi];rfl
       rw[e9]at he;refine w0 (by omega) (by omega) ?_;have hk:=hK H2 S2 m2 (hc.trans c2) (by rw[he,if_neg (by omega)];exact p2);rw[he]at hk;exact hk
      |false=>
       rw[hi]at p2;rw[aw,eo,fN];refine w0 (by omega) (by omega) ?_;refine ih (j+1) H2 S2 (by omega) (by omega) m2 (hc.trans c2) p2 ?_;rw[he]
       conv=>lhs;unfold mK
       rw[hi];rfl
    exact hld
   ·rw[List.drop_of_length_le (by omega)]at he;have e0:mK C.T i f l=0:=he;unfold Dr;have hk:=hK H S1 hM1 hc (by rw[e0];exact hp1);rw[e0]at hk;exact hk
 show Dt mR K (sd mR K G.NL) (.ptr C.bp 0) (f:Int) v H;unfold Dt;refine hv.len ?_;rw[az];exact loop G.NL 0 H S (Nat.zero_le _) (by have:G.NL=1000000:=rfl;omega) hM (ax.refl _ _) hp rfl
end
section
variable {H:AH}{S:LS}{K:KF}{C:Ctx}{i d:Nat}
def qI(C:Ctx)(F:AV→AH→KF→Prop)(p:Nat→Nat→cG aO):Prop:=∀{K:KF}{H:AH}{S:LS}{i d:Nat},d≤200→Mem H S→bE C S i d→Post C (bJ C) d nO K S (p i d)→F (.ptr C.bp 0) H K
def fJ(C:Ctx)(c:Nat):Nat→Prop:=λb=>b=C.bp∨b=c
def rvF(bn:Nat)(S:LS)(Q:Nat→Prop)(v:AV)(r:List aO×Nat):Prop:=xB S Q v r.1∧S.ob bn=.ce [.int 0 (r.2:Int)] 0
def xD(bs:Nat)(S:LS)(Q:Nat→Prop)(v:AV)(s:aP):Prop:=v=.aE []∧∃c,S.ob bs=.ce c 0∧fT S Q c s
def Nz(C:Ctx)(F:AV→AV→AH→KF→Prop)(p:Nat→Nat→Nat→cG aP):Prop:=∀{K:KF}{H:AH}{S:LS}{i d a bs:Nat},d≤200→Mem H S→bE C S i d→S.ob bs=.ce [.int 0 0,.int 0 (a:Int),.ab,.ab,.ab] 0→bs≠C.bp→(∀b,aF C.vT b→b≠bs)→Post C (fJ C bs) d (xD bs) K S (p a i d)→F (.ptr C.bp 0) (.ptr bs 0) H K
structure gX(C:Ctx)(m n:Nat):Prop where
 block:∀k,k≤n→∀{K:KF}{H:AH}{S:LS}{i d:Nat},d≤200→Mem H S→bE C S i d→Post C (bJ C) d lz K S (fk C.T k i d)→(s13 m).1 (.ptr C.bp 0) H K
 stat:∀k,k≤n→∀{K:KF}{H:AH}{S:LS}{i d:Nat},d≤200→Mem H S→bE C S i d→Post C (bJ C) d X6 K S (nt C.T k i d)→(s13 m).2.1 (.ptr C.bp 0) H K
 xA:∀k,k≤n→Nz C (s13 m).2.2.1 (pJ C.T k)
 choice:∀k,k≤n→Nz C (s13 m).2.2.2.1 (λa i d=>kD C.T k a [] [] i d)
 exp:∀k,k≤n→qI C (s13 m).2.2.2.2.1 (fu C.T k)
 loop:∀k,k≤n→Nz C (s13 m).2.2.2.2.2.1 (Bi C.T k)
 plain:∀k,k≤n→Nz C (s13 m).2.2.2.2.2.2.1 (rF C.T k)
 body:∀k,k≤n→∀{K:KF}{H:AH}{S:LS}{i d a:Nat},d≤200→Mem H S→bE C S i d→Post C (bJ C) d nO K S (pU C.T k a i d)→(s13 m).2.2.2.2.2.2.2.1 (.ptr C.bp 0) (a:Int) H K
 either:∀k,k≤n→qI C (s13 m).2.2.2.2.2.2.2.2.1 (mU C.T k)
 post:∀k,k≤n→qI C (s13 m).2.2.2.2.2.2.2.2.2.1 (oK C.T k)
 both:∀k,k≤n→qI C (s13 m).2.2.2.2.2.2.2.2.2.2.1 (rz C.T k)
 simple:∀k,k≤n→qI C (s13 m).2.2.2.2.2.2.2.2.2.2.2.1 (jL C.T k)
 args:∀k,k≤n→∀{K:KF}{H:AH}{S:LS}{i d:Nat},d≤200→Mem H S→bE C S i d→Post C (bJ C) d xB K S (jG C.T k true [] i d)→(s13 m).2.2.2.2.2.2.2.2.2.2.2.2.1 (.ptr C.bp 0) H K
 test:∀k,k≤n→qI C (s13 m).2.2.2.2.2.2.2.2.2.2.2.2.2.1 (rA C.T k)
 table:∀k,k≤n→∀{K:KF}{H:AH}{S:LS}{i d a:Nat},d≤200→Mem H S→bE C S i d→Post C (bJ C) d nO K S (kQ C.T k [] 0 a i d)→(s13 m).2.2.2.2.2.2.2.2.2.2.2.2.2.2.1 (.ptr C.bp 0) (a:Int) H K
 join:∀k,k≤n→qI C (s13 m).2.2.2.2.2.2.2.2.2.2.2.2.2.2.2.1 (pT C.T k)
 field:∀k,k≤n→∀{K:KF}{H:AH}{S:LS}{i d c bn:Nat},d≤200→c≤1000→Mem H S→bE C S i d→S.ob bn=.ce [.int 0 (c:Int)] 0→bn≠C.bp→(∀b,aF C.vT b→b≠bn)→Post C (fJ C bn) d (rvF bn) K S (mM C.T k c i d)→(s13 m).2.2.2.2.2.2.2.2.2.2.2.2.2.2.2.2.1 (.ptr C.bp 0) (.ptr bn 0) H K
 sum:∀k,k≤n→qI C (s13 m).2.2.2.2.2.2.2.2.2.2.2.2.2.2.2.2.2.1 (yV C.T k)
 term:∀k,k≤n→qI C (s13 m).2.2.2.2.2.2.2.2.2.2.2.2.2.2.2.2.2.2.1 (rD C.T k)
 unary:∀k,k≤n→qI C (s13 m).2.2.2.2.2.2.2.2.2.2.2.2.2.2.2.2.2.2.2 (iY C.T k)
def z7:List AV:=[.int 0 (.ofNat 0),.int 0 (.ofNat 0),.int 0 (.ofNat 0),.str 0 0,.int 0 (.ofNat 0),.ab,.ab]
theorem gQ(nw:Lay)(k:AV→AH→Prop):cW Tryz.prog nw 49 k=dC nw z7 k:=by kernel_rfl
theorem dB:∀a∈z7,a.one=true:=by
 intro a ha;simp only[z7,List.mem_cons,List.not_mem_nil,or_false]at ha;rcases ha with rfl|rfl|rfl|rfl|rfl|rfl|rfl<;>rfl
theorem afl{z c:List AV}(h:c.length=z.length):dh z 0 c=c:=by
 unfold dh;rw[List.take_zero,List.drop_of_length_le (by omega)];simp
theorem jc{n b:Nat}{c z:List AV}{k:AH→Prop}(hM:Mem H S)(h1:S.ob b=.ce z 0)(hz:z.length=n)(hc:c.length=n)(ho:∀a∈c,a.one=true)(hk:∀H',Mem H' (S.set b (.ce c 0))→k H'):ag n (.ptr b 0) (.agg c) H k:=
 hV hM h1 (by omega) hc (by omega) ho λH' h'=>hk H' (by rw[afl (by omega)]at h';exact h')
theorem gz{n b m:Nat}{c:List AV}{k:AV→Prop}(hM:Mem H S)(h1:S.ob b=.ce c m)(hc:c.length=n)(hk:k (.agg c)):aM n (.ptr b 0) H k:=
 kx hM h1 (by omega) (by rw[List.drop_zero,List.take_of_length_le (by omega)];exact hk)
theorem awp{b1 b3:Nat}{c z:List AV}(hM:Mem H S)(h3:S.ob b3=.ce c 0)(hc:c.length=7)(ho:∀a∈c,a.one=true)(h1:S.ob b1=.ce z 0)(hz:z.length=7)(hK:∀H',Mem H' (S.set b1 (.ce c 0))→K (.ret (.agg c)) H'):aM 7 (.ptr b3 0) H λv1=>ag 7 (.ptr b1 0) v1 H λH2=>aM 7 (.ptr b1 0) H2 λv3=>K (.ret v3) H2:=by
 refine gz hM h3 hc (jc hM h1 hz hc ho λH' h'=>?_);exact gz h' (LS.au _ _ _) hc (hK H' h')
theorem bW.two{Q:Nat→Prop}{b:Nat}{ca cb:List AV}{m:Nat}{ex:Bool}(hQ:Q b)(hb:S.ob b=.ce (ca++cb) m)(h1:ca.length=7)(h2:cb.length=7):bW S Q 7 (.slice b 0 2 2 7 ex) 2 (λi=>if i=0 then ca else cb):=
 .inr ⟨b,0,2,ex,ca++cb,m,rfl,hQ,hb,Nat.le_refl _,by rw[List.length_append];omega,λi hi=>by
  have hi2:i=0∨i=1:=by omega
  rcases hi2 with rfl|rfl
  ·show((ca++cb).drop 0).take 7=ca;rw[List.drop_zero];exact List.take_left' h1
  ·show((ca++cb).drop 7).take 7=cb;rw[List.drop_left' h1,List.take_of_length_le (by omega)]⟩
theorem RE.simple{Q:Nat→Prop}{kind at_ n op:Nat}{s:List Nat}(h:B8 s):RE S Q [.int 0 (kind:Int),.int 0 (at_:Int),.int 0 (n:Int),ak s,.int 0 (op:Int),.ab,.ab] (.mk kind at_ n s op [] []):=
 .mk kind at_ n s op [] [] .ab .ab (λ_=>[]) (λ_=>[]) h (bW.nil _ _ _ _) (λi e h=>by simp at h) (bW.nil _ _ _ _) (λi e h=>by simp at h)
theorem RE.two{Q:Nat→Prop}{kind at_ op b m:Nat}{ex:Bool}{x y:aO}{ca cb:List AV}(hQ:Q b)(hb:S.ob b=.ce (ca++cb) m)(h1:RE S Q ca x)(h2:RE S Q cb y):RE S Q [.int 0 (kind:Int),.int 0 (at_:Int),.int 0 ((0:Nat):Int),ak [],.int 0 (op:Int),.slice b 0 2 2 7 ex,.ab] (xw kind op at_ x y):=by
 refine .mk kind at_ 0 [] op [x,y] [] _ .ab _ (λ_=>[]) B8.nil (bW.two hQ hb h1.len h2.len) (λi e h=>?_) (bW.nil _ _ _ _) (λi e h=>by simp at h)
 match i,h with
 |0,h=>
  have e1:x=e:=by simpa using h
  subst e1;exact h1
 |1,h=>
  have e1:y=e:=by simpa using h
  subst e1;exact h2
 |i+2,h=>simp at h
theorem ayc{kind op at_:Nat}{x y:aO}{ca cb:List AV}{Q:Nat→Prop}(hM:Mem H S)(hQ:∀b,Q b→b<S.n)(ha:RE S Q ca x)(hb:RE S Q cb y)
  (hK:∀H' S' c,Mem H' S'→ax cD S S'→RE S' (λb=>Q b∨S.n≤b∧b<S'.n) c (xw kind op at_ x y)→K (.ret (.agg c)) H'):f164 (kind:Int) (op:Int) (at_:Int) (.agg ca) (.agg cb) H K:=by
 show Dq JI K (kind:Int) (op:Int) (at_:Int) (.agg ca) (.agg cb) H;unfold Dq;refine qa hM ha.ones λH1 m1=>?_;refine qa m1 hb.ones λH2 m2=>?_;rw[gQ];refine bZ (bF m2 dB λH3 m3=>?_);have o1:∀o:gi,(((S.push (.ce ca 0)).push (.ce cb 0)).push o).ob S.n=.ce ca 0:=λo=>by
  rw[LS.bq _ _ (show S.n<S.n+1+1 by omega),LS.bq _ _ (show S.n<S.n+1 by omega),LS.al]
 have o2:∀o:gi,(((S.push (.ce ca 0)).push (.ce cb 0)).push o).ob (S.n+1)=.ce cb 0:=λo=>by
  rw[LS.bq _ _ (show S.n+1<S.n+1+1 by omega)];exact LS.al _ _
 refine gz m3 (o1 _) ha.len ?_;refine gz m3 (o2 _) hb.len ?_;simp only[gK];refine ia ha.len (ia hb.len ?_);rw[afg ha.len hb.len rfl];refine cZ m3 (by rw[List.length_append,ha.len,hb.len]) (λa h=>?_) λH4 m4=>?_
 ·rcases List.mem_append.1 h with g|g
  ·exact ha.ones a g
  ·exact hb.ones a g
 refine gU rfl ?_;have c4:ax cD S ((((S.push (.ce ca 0)).push (.ce cb 0)).push (.ce z7 0)).push (.ce (ca++cb) 0)):=((((ax.refl _ _).push _).push _).push _).push _;have o3:((((S.push (.ce ca 0)).push (.ce cb 0)).push (.ce z7 0)).push (.ce (ca++cb) 0)).ob (S.n+1+1)=.ce z7 0:=by
  rw[LS.bq _ _ (show S.n+1+1<S.n+1+1+1 by omega)];exact LS.al _ _
 refine jc m4 (c:=[.int 0 (kind:Int),.int 0 (at_:Int),.int 0 ((0:Nat):Int),ak [],.int 0 (op:Int),.slice (S.n+1+1+1) 0 2 2 7 true,.ab]) o3 rfl rfl (λa h=>?_) λH5 m5=>?_
 ·simp only[List.mem_cons,List.not_mem_nil,or_false]at h;rcases h with rfl|rfl|rfl|rfl|rfl|rfl|rfl<;>rfl
 have c5:=c4.set (b:=S.n+1+1) (.inr (by omega)) (.ce [.int 0 (kind:Int),.int 0 (at_:Int),.int 0 ((0:Nat):Int),ak [],.int 0 (op:Int),.slice (S.n+1+1+1) 0 2 2 7 true,.ab] 0);refine gz m5 (LS.au _ _ _) rfl ?_;have keep:∀b,Q b→LS.ob _ b=S.ob b:=λb hb=>c5.2 b (hQ b hb) λg=>g;refine hK H5 _ _ m5 c5 (RE.two (b:=S.n+1+1+1) (m:=0) (.inr ⟨by omega,Nat.lt_succ_self _⟩) ?_ (ha.go keep λb h=>.inl h) (hb.go keep λb h=>.inl h));exact(LS.ao _ _ (show S.n+1+1+1≠S.n+1+1 by omega)).trans (LS.al _ _)
end
section
variable {H:AH}{S:LS}{K:KF}{C:Ctx}{i d:Nat}
theorem s97{m n:Nat}(hpv:C.pv=.iface 57 (.agg []))(O:gX C m n):∀k,k≤n+1→qI C (s13 (m+1)).2.2.2.2.1 (fu C.T k):=by
 intro k hk K H S i d hd hM hp hP;cases k with
 |zero=>simp only[fu]at hP;exact False.elim hP
 |succ k=>
  have ra:(pE (s13 m)).1=f53:=rfl;have rb:(pE (s13 m)).2=(s13 m).2.2.2.2.2.2.2.2.1:=rfl;show HF (pE (s13 m)) K (Cl (pE (s13 m)) K) (.ptr C.bp 0) H;unfold HF;rw[ra,rb,gQ];simp only[fu]at hP;refine bZ (bF hM dB λH1 m1=>?_);have c1:ax cD S (S.push (.ce z7 0)):=(ax.refl _ _).push _;have p1:=hp.no hM c1;refine afj hpv (by omega) m1 p1 (λhg H2 S2 m2 c2 e2=>?_) (λhg H2 S2 m2 c2 p2=>?_)
  ·rw[dt];rw[if_pos hg]at hP;exact hP H2 S2 m2 ((c1.no).trans c2) e2
  ·rw[aq];rw[if_neg hg]at hP;have c12:=(c1.no (X:=bJ C)).trans c2;refine O.either k (by omega) (by omega) m2 p2 (Post.tail hP c12 (λ_ h=>h) λe j H3 S3 v m3 c3 p3 ⟨c,hv,hR⟩ hfin=>?_);subst hv;simp only[gQ];refine bZ (bF m3 dB λH4 m4=>?_);refine jc m4 (LS.al _ _) rfl hR.len hR.ones λH5 m5=>?_;have hb1:(S.push (.ce z7 0)).ob S.n=.ce z7 0:=LS.al _ _;have hbp:C.bp<S.n:=hp.eT hM;have sU:=c2.ob m1 hb1 (λe=>by have e:S.n=C.bp:=e;omega);have azu:=c3.ob m2 sU (λe=>by have e:S.n=C.bp:=e;omega);have c5:ax cD S3 ((S3.push (.ce z7 0)).set S3.n (.ce c 0)):=((ax.refl _ _).push _).set (.inr (Nat.le_refl _)) _;have p5:=p3.no m3 c5;have azv:=c5.ob m3 azu (λg=>g);refine afk (by omega) m5 p5 λH6 S6 m6 c6 p6=>?_;have hb16:=c6.ob m5 azv (λe=>by have e:S.n=C.bp:=e;omega);have azw:=c6.ob m5 (LS.au _ _ _) (λe=>by have e:S3.n=C.bp:=e;have:=c3.1;have:=c2.1;have:S.n+1≤S2.n:=c2.1;omega);show Cl (pE (s13 m)) K (.ptr S.n 0) (.ptr S3.n 0) H6;unfold Cl;refine awp m6 azw hR.len hR.ones hb16 rfl λH7 m7=>?_;have c36:ax (fJ C S.n) S3 (S6.set S.n (.ce c 0)):=((c5.no.trans (c6.mono λb h=>.inl h)).set (b:=S.n) (.inl (.inr rfl)) _)
   have n12:S.n+1≤S2.n:=c2.1;refine hfin H7 _ _ m7 ((c12.trans c3).jv c36 λb h=>?_) ?_ ⟨c,rfl,hR.go (λb hb=>c36.2 b hb.2 ?_) λb hb=>⟨?_,?_⟩⟩
   ·rcases h with h|h
    ·exact .inl h
    ·exact .inr (by omega)
   ·exact p6.iF hp hM (Nat.le_refl _) _
   ·rintro(h|h)
    ·have:=hb.1;omega
    ·have:=hb.1;omega
   ·have:=hb.1;omega
   ·exact Nat.lt_of_lt_of_le hb.2 c36.1
end
section
variable {H:AH}{S:LS}{K:KF}{C:Ctx}{i d:Nat}
structure je(C:Ctx)(S0 S:LS)(b1 b3:Nat)(c:List AV)(e:aO):Prop where
 x:ax (bJ C) S0 S
 o1:∃z,S.ob b1=.ce z 0∧z.length=7
 o3:S.ob b3=.ce c 0
 n1:S0.n≤b1
 n3:S0.n≤b3
 ne:b1≠b3
 re:∃Q,RE S Q c e∧∀b,Q b→S0.n≤b∧b<S.n∧b≠b1∧b≠b3
section
variable {S0 S':LS}{H0:AH}{i0 d0 b1 b3:Nat}{c:List AV}{e:aO}
theorem je.keep(h:je C S0 S b1 b3 c e)(hM:Mem H S)(hbp:C.bp<S0.n)(g:ax (bJ C) S S'):je C S0 S' b1 b3 c e:=by
 have ne1:¬bJ C b1:=λq=>by have q:b1=C.bp:=q;have:=h.n1;omega
 have ne3:¬bJ C b3:=λq=>by have q:b3=C.bp:=q;have:=h.n3;omega
 obtain⟨z,hz,I7⟩:=h.o1;obtain⟨Q,h1,h2⟩:=h.re;exact⟨h.x.trans g,⟨z,g.ob hM hz ne1,I7⟩,g.ob hM h.o3 ne3,h.n1,h.n3,h.ne,Q,h1.go (λb hb=>g.2 b (h2 b hb).2.1 λq=>by have q:b=C.bp:=q;have:=(h2 b hb).1;omega) (λ_ h=>h),λb hb=>⟨(h2 b hb).1,Nat.lt_of_lt_of_le (h2 b hb).2.1 g.1,(h2 b hb).2.2⟩⟩
theorem je.nP{c':List AV}{e':aO}(h:je C S0 S b1 b3 c e){Q:Nat→Prop}(hr:RE S Q c' e')(hQ:∀b,Q b→S0.n≤b∧b<S.n∧b≠b1∧b≠b3):je C S0 (S.set b3 (.ce c' 0)) b1 b3 c' e':=by
 obtain⟨z,hz,I7⟩:=h.o1;exact⟨h.x.set (.inr h.n3) _,⟨z,(LS.ao _ _ h.ne).trans hz,I7⟩,LS.au _ _ _,h.n1,h.n3,h.ne,Q,hr.go (λb hb=>LS.ao _ _ (hQ b hb).2.2.2) (λ_ h=>h),hQ⟩
theorem je.len(h:je C S0 S b1 b3 c e):c.length=7:=by obtain⟨Q,h1,_⟩:=h.re;exact h1.len
theorem je.fin(h:je C S0 S b1 b3 c e)(hM:Mem H S)(hM0:Mem H0 S0)(hp0:bE C S0 i0 d0)(hp:bE C S i d)(hP:∀H' S' v,Mem H' S'→ax (bJ C) S0 S'→bE C S' i d→nO S' (gE S0.n S'.n) v e→K (.ret v) H') :
  aM 7 (.ptr b3 0) H λv1=>ag 7 (.ptr b1 0) v1 H λH2=>aM 7 (.ptr b1 0) H2 λv3=>K (.ret v3) H2:=by
 obtain⟨z,hz,I7⟩:=h.o1;obtain⟨Q,h1,h2⟩:=h.re;refine awp hM h.o3 h1.len h1.ones hz I7 λH' m=>?_;exact hP H' _ _ m (h.x.set (.inr h.n1) _) (hp.iF hp0 hM0 h.n1 _) ⟨c,rfl,h1.go (λb hb=>LS.ao _ _ (h2 b hb).2.2.1) λb hb=>⟨(h2 b hb).1,(h2 b hb).2.1⟩⟩
theorem je.two{kind op at_:Nat}{cb:List AV}{x:aO}{S1:LS}{H1:AH}(h:je C S0 S b1 b3 c e)(hM:Mem H S)(hbp:C.bp<S0.n)(hs1:b1<S1.n∧b3<S1.n∧S0.n≤S1.n)(hr:RE S (gE S1.n S.n) cb x)
  {k:AV→AH→Prop}(hk:∀H' S' c',Mem H' S'→ax cD S S'→je C S0 S' b1 b3 c e→RE S' (λb=>S0.n≤b∧b<S'.n∧b≠b1∧b≠b3) c' (xw kind op at_ e x)→k (.agg c') H') :
  f164 (kind:Int) (op:Int) (at_:Int) (.agg c) (.agg cb) H λo H=>cR K o H λv=>k v H:=by
 obtain⟨Q,h1,h2⟩:=h.re;refine ayc (Q:=λb=>S0.n≤b∧b<S.n∧b≠b1∧b≠b3) hM (λb hb=>hb.2.1) (h1.go (λ_ _=>rfl) h2) (hr.go (λ_ _=>rfl) λb hb=>⟨by have:=hb.1;omega,hb.2,by have:=hb.1;omega,by have:=hb.1;omega⟩) λH' S' c' m' g' r'=>?_;rw[aq];have hn1:b1<S.n:=by obtain⟨z,hz,_⟩:=h.o1;exact hM.lt (by rw[hz];simp)
 have hn3:b3<S.n:=hM.lt (by rw[h.o3];simp);refine hk H' S' c' m' g' (h.keep hM hbp g'.no) (r'.go (λ_ _=>rfl) λb hb=>?_);rcases hb with hb|hb
 ·exact⟨hb.1,Nat.lt_of_lt_of_le hb.2.1 g'.1,hb.2.2⟩
 ·exact⟨Nat.le_trans h.x.1 hb.1,hb.2,by omega,by omega⟩
theorem js{T:List Tok}{i:Nat}{k:Int→Prop}(h:k (aZ T i:Int)):fW (.agg (fa T i)) λl12=>cE l12 3 λv13=>cI 0 v13 k:=by
 rw[Dp];unfold fa;simp only[fM,fy,az];exact h
end
theorem azx{m n:Nat}(hpv:C.pv=.iface 57 (.agg []))(O:gX C m n){S0:LS}{H0:AH}{i0 b1 b3:Nat}(hd:d≤200)(hM0:Mem H0 S0)(hp0:bE C S0 i0 d):∀k,k≤n+1→∀(q i:Nat) (e:aO) (c:List AV) (H:AH) (S:LS),k≤q→Mem H S→bE C S i d→je C S0 S b1 b3 c e→Post C (bJ C) d nO K S0 (mz C.T k e i d)→
  vi (gH (s13 m)) K q (.ptr C.bp 0) (.ptr b1 0) (.ptr b3 0) (aZ C.T i:Int) H:=by
 intro k
 induction k with
 |zero=>intro _ q i e c H S _ _ _ _ hP;simp only[mz]at hP;exact False.elim hP
 |succ k ih=>
  intro hk q i e c H S hq hM hp hF hP;obtain⟨q,rfl⟩:∃p,q=p+1:=⟨q-1,by omega⟩
  show Dy (gH (s13 m)) K (vi (gH (s13 m)) K q) (zz (gH (s13 m)) K) (.ptr C.bp 0) (.ptr b1 0) (.ptr b3 0) (aZ C.T i:Int) H;unfold Dy;have rt:(gH (s13 m)).1=f23:=rfl;have ra:(gH (s13 m)).2.1=f56:=rfl;have rb:(gH (s13 m)).2.2.1=(s13 m).2.2.2.2.2.2.2.2.2.2.1:=rfl;have I8:(gH (s13 m)).2.2.2=f164:=rfl;rw[rt,ra,rb,I8];have hbp:=hp0.eT hM0;simp only[mz]at hP;refine dF (s:=[111,114]) (bg (by decide)) hM hp λH1 S1 m1 c1 p1=>?_;simp only[aq,aX];have F1:=hF.keep hM hbp c1;cases hi:isA C.T [111,114] i with
  |false=>
   rw[hi]at p1 hP;rw[aw];show zz (gH (s13 m)) K (.ptr b1 0) (.ptr b3 0) H1;unfold zz;exact F1.fin m1 hM0 hp0 p1 hP
  |true=>
   rw[hi]at p1 hP;rw[aG];have hlt:=cP C.ok hi;have hb1:b1<S1.n:=by obtain⟨z,hz,_⟩:=F1.o1;exact m1.lt (by rw[hz];simp)
   have hb3:b3<S1.n:=m1.lt (by rw[F1.o3];simp);refine gz m1 F1.o3 F1.len ?_;refine O.both k (by omega) hd m1 p1 (Post.call hP F1.x (λ_ h=>h) λx j H2 S2 v m2 c2 p2 ⟨cb,hv,hR⟩ hP2=>?_);subst hv;have F2:=F1.keep m1 hbp c2;refine gz m2 F2.o3 F2.len ?_;refine bA (by obtain⟨Q,h1,_⟩:=F2.re;exact h1.same) ?_;refine F2.two (kind:=16) (op:=0) (S1:=S1) (H1:=H1) m2 hbp ⟨hb1,hb3,F1.x.1⟩ hR λH3 S3 c' m3 c3 F3 r3=>?_;refine jc m3 F3.o3 F3.len r3.len r3.ones λH4 m4=>?_;have F4:=F3.nP r3 λb hb=>hb;have p4:=(p2.no m2 c3).iF hp0 hM0 hF.n3 (.ce c' 0);refine jw m4 p4 λH5 S5 m5 c5 p5=>?_;rw[aq];refine js ?_;exact ih (by omega) q j _ _ H5 S5 (by omega) m5 p5 (F4.keep m4 hbp c5.no) hP2
theorem azy{m n:Nat}(hn:n≤900000)(hpv:C.pv=.iface 57 (.agg []))(O:gX C m n):∀k,k≤n+1→qI C (s13 (m+1)).2.2.2.2.2.2.2.2.1 (mU C.T k):=by
 intro k hk K H S i d hd hM hp hP;cases k with
 |zero=>simp only[mU]at hP;exact False.elim hP
 |succ k=>
  have rt:(gH (s13 m)).1=f23:=rfl;have rb:(gH (s13 m)).2.2.1=(s13 m).2.2.2.2.2.2.2.2.2.2.1:=rfl;show Dz (gH (s13 m)) K (vi (gH (s13 m)) K G.NL) (.ptr C.bp 0) H;unfold Dz;rw[rt,rb,gQ];simp only[mU]at hP;have hbp:=hp.eT hM;refine bZ (bF hM dB λH1 m1=>?_);have c1:ax cD S (S.push (.ce z7 0)):=(ax.refl _ _).push _;have p1:=hp.no hM c1;refine O.both k (by omega) hd m1 p1 (Post.call hP c1.no (λ_ h=>h) λe j H2 S2 v m2 c2 p2 ⟨c,hv,hR⟩ hP2=>?_);subst hv;simp only[gQ];refine bZ (bF m2 dB λH3 m3=>?_);refine jc m3 (LS.al _ _) rfl hR.len hR.ones λH4 m4=>?_;have n12:S.n+1≤S2.n:=c2.1;have sU:=c2.ob m1 (LS.al S (.ce z7 0)) (λq=>by have q:S.n=C.bp:=q;omega);have c4:ax cD S2 ((S2.push (.ce z7 0)).set S2.n (.ce c 0)):=((ax.refl _ _).push _).set (.inr (Nat.le_refl _)) _;have F4:je C S ((S2.push (.ce z7 0)).set S2.n (.ce c 0)) S.n S2.n c e:=⟨(c1.no.trans c2).trans c4.no,⟨z7,c4.ob m2 sU (λq=>q),rfl⟩,LS.au _ _ _,Nat.le_refl _,by omega,by omega,gE (S.n+1) S2.n,hR.go (λb hb=>c4.2 b hb.2 λq=>q) (λ_ h=>h),λb hb=>⟨by have:=hb.1;omega,Nat.lt_of_lt_of_le hb.2 c4.1,by have:=hb.1;omega,by have:=hb.2;omega⟩⟩
  refine jw m4 (p2.no m2 c4) λH5 S5 m5 c5 p5=>?_;rw[aq];refine js ?_;have cQ:G.NL=1000000:=rfl;exact azx hpv O hd hM hp k (by omega) G.NL j e c H5 S5 (by omega) m5 p5 (F4.keep m4 hbp c5.no) hP2
theorem azz{m n:Nat}(hpv:C.pv=.iface 57 (.agg []))(O:gX C m n){S0:LS}{H0:AH}{i0 b1 b3:Nat}(hd:d≤200)(hM0:Mem H0 S0)(hp0:bE C S0 i0 d):∀k,k≤n+1→∀(q i:Nat) (e:aO) (c:List AV) (H:AH) (S:LS),k≤q→Mem H S→bE C S i d→je C S0 S b1 b3 c e→Post C (bJ C) d nO K S0 (rB C.T k e i d)→
  vj (gI (s13 m)) K q (.ptr C.bp 0) (.ptr b1 0) (.ptr b3 0) (aZ C.T i:Int) H:=by
 intro k
 induction k with
 |zero=>intro _ q i e c H S _ _ _ _ hP;simp only[rB]at hP;exact False.elim hP
 |succ k ih=>
  intro hk q i e c H S hq hM hp hF hP;obtain⟨q,rfl⟩:∃p,q=p+1:=⟨q-1,by omega⟩
  show DD (gI (s13 m)) K (vj (gI (s13 m)) K q) (zA (gI (s13 m)) K) (.ptr C.bp 0) (.ptr b1 0) (.ptr b3 0) (aZ C.T i:Int) H;unfold DD;have rt:(gI (s13 m)).1=f23:=rfl;have ra:(gI (s13 m)).2.1=f56:=rfl;have rb:(gI (s13 m)).2.2.2=(s13 m).2.2.2.2.2.2.2.2.2.2.2.2.2.1:=rfl;have I8:(gI (s13 m)).2.2.1=f164:=rfl;rw[rt,ra,rb,I8];have hbp:=hp0.eT hM0;simp only[rB]at hP;refine dF (s:=[97,110,100]) (bg (by decide)) hM hp λH1 S1 m1 c1 p1=>?_;simp only[aq,aX];have F1:=hF.keep hM hbp c1;cases hi:isA C.T [97,110,100] i with
  |false=>
   rw[hi]at p1 hP;rw[aw];show zA (gI (s13 m)) K (.ptr b1 0) (.ptr b3 0) H1;unfold zA;exact F1.fin m1 hM0 hp0 p1 hP
  |true=>
   rw[hi]at p1 hP;rw[aG];have hlt:=cP C.ok hi;have hb1:b1<S1.n:=by obtain⟨z,hz,_⟩:=F1.o1;exact m1.lt (by rw[hz];simp)
   have hb3:b3<S1.n:=m1.lt (by rw[F1.o3];simp);refine gz m1 F1.o3 F1.len ?_;refine O.test k (by omega) hd m1 p1 (Post.call hP F1.x (λ_ h=>h) λx j H2 S2 v m2 c2 p2 ⟨cb,hv,hR⟩ hP2=>?_);subst hv;have F2:=F1.keep m1 hbp c2;refine gz m2 F2.o3 F2.len ?_;refine bA (by obtain⟨Q,h1,_⟩:=F2.re;exact h1.same) ?_;refine F2.two (kind:=15) (op:=0) (S1:=S1) (H1:=H1) m2 hbp ⟨hb1,hb3,F1.x.1⟩ hR λH3 S3 c' m3 c3 F3 r3=>?_;refine jc m3 F3.o3 F3.len r3.len r3.ones λH4 m4=>?_;have F4:=F3.nP r3 λb hb=>hb;have p4:=(p2.no m2 c3).iF hp0 hM0 hF.n3 (.ce c' 0);refine jw m4 p4 λH5 S5 m5 c5 p5=>?_;rw[aq];refine js ?_;exact ih (by omega) q j _ _ H5 S5 (by omega) m5 p5 (F4.keep m4 hbp c5.no) hP2
theorem azA{m n:Nat}(hn:n≤900000)(hpv:C.pv=.iface 57 (.agg []))(O:gX C m n):∀k,k≤n+1→qI C (s13 (m+1)).2.2.2.2.2.2.2.2.2.2.1 (rz C.T k):=by
 intro k hk K H S i d hd hM hp hP;cases k with
 |zero=>simp only[rz]at hP;exact False.elim hP
 |succ k=>
  have rt:(gI (s13 m)).1=f23:=rfl;have rb:(gI (s13 m)).2.2.2=(s13 m).2.2.2.2.2.2.2.2.2.2.2.2.2.1:=rfl;show DE (gI (s13 m)) K (vj (gI (s13 m)) K G.NL) (.ptr C.bp 0) H;unfold DE;rw[rt,rb,gQ];simp only[rz]at hP;have hbp:=hp.eT hM;refine bZ (bF hM dB λH1 m1=>?_);have c1:ax cD S (S.push (.ce z7 0)):=(ax.refl _ _).push _;have p1:=hp.no hM c1;refine O.test k (by omega) hd m1 p1 (Post.call hP c1.no (λ_ h=>h) λe j H2 S2 v m2 c2 p2 ⟨c,hv,hR⟩ hP2=>?_);subst hv;simp only[gQ];refine bZ (bF m2 dB λH3 m3=>?_);refine jc m3 (LS.al _ _) rfl hR.len hR.ones λH4 m4=>?_;have n12:S.n+1≤S2.n:=c2.1;have sU:=c2.ob m1 (LS.al S (.ce z7 0)) (λq=>by have q:S.n=C.bp:=q;omega);have c4:ax cD S2 ((S2.push (.ce z7 0)).set S2.n (.ce c 0)):=((ax.refl _ _).push _).set (.inr (Nat.le_refl _)) _;have F4:je C S ((S2.push (.ce z7 0)).set S2.n (.ce c 0)) S.n S2.n c e:=⟨(c1.no.trans c2).trans c4.no,⟨z7,c4.ob m2 sU (λq=>q),rfl⟩,LS.au _ _ _,Nat.le_refl _,by omega,by omega,gE (S.n+1) S2.n,hR.go (λb hb=>c4.2 b hb.2 λq=>q) (λ_ h=>h),λb hb=>⟨by have:=hb.1;omega,Nat.lt_of_lt_of_le hb.2 c4.1,by have:=hb.1;omega,by have:=hb.2;omega⟩⟩
  refine jw m4 (p2.no m2 c4) λH5 S5 m5 c5 p5=>?_;rw[aq];refine js ?_;have cQ:G.NL=1000000:=rfl;exact azz hpv O hd hM hp k (by omega) G.NL j e c H5 S5 (by omega) m5 p5 (F4.keep m4 hbp c5.no) hP2
theorem azB{m n:Nat}(hpv:C.pv=.iface 57 (.agg []))(O:gX C m n){S0:LS}{H0:AH}{i0 b1 b3:Nat}(hd:d≤200)(hM0:Mem H0 S0)(hp0:bE C S0 i0 d):∀k,k≤n+1→∀(q i:Nat) (e:aO) (c:List AV) (H:AH) (S:LS),k≤q→Mem H S→bE C S i d→je C S0 S b1 b3 c e→Post C (bJ C) d nO K S0 (rC C.T k e i d)→
  vq (jn (s13 m)) K q (.ptr C.bp 0) (.ptr b1 0) (.ptr b3 0) H:=by
 intro k
 induction k with
 |zero=>intro _ q i e c H S _ _ _ _ hP;simp only[rC]at hP;exact False.elim hP
 |succ k ih=>
  intro hk q i e c H S hq hM hp hF hP;obtain⟨q,rfl⟩:∃p,q=p+1:=⟨q-1,by omega⟩
  show DG (jn (s13 m)) K (vq (jn (s13 m)) K q) (.ptr C.bp 0) (.ptr b1 0) (.ptr b3 0) H;unfold DG;have rt:(jn (s13 m)).1=f23:=rfl;have ro:(jn (s13 m)).2.2.2=f193:=rfl;have rb:(jn (s13 m)).2.2.1=(s13 m).2.2.2.2.2.2.2.2.2.2.2.2.2.2.2.1:=rfl;have I8:(jn (s13 m)).2.1=f164:=rfl;rw[rt,ro,rb,I8];have hbp:=hp0.eT hM0;simp only[rC]at hP;refine jw hM hp λH1 S1 m1 c1 p1=>?_;rw[aq];refine js ?_;have F1:=hF.keep hM hbp c1.no;rw[show([.str 2 15677,.str 2 15742,.str 1 60,.str 2 15676,.str 1 62,.str 2 15678]:List AV)=tests.map ak from rfl];refine cZ m1 rfl (λa ha=>?_) λH2 m2=>?_
  ·obtain⟨x,_,rfl⟩:=List.mem_map.1 ha;rfl
  have c2:ax cD S1 (S1.push (.ce (tests.map ak) 0)):=(ax.refl _ _).push _;have p2:=p1.no m1 c2;have F2:=F1.keep m1 hbp c2.no;have hv:bW (S1.push (.ce (tests.map ak) 0)) (λb=>b=S1.n) 1 (.slice S1.n 0 6 6 1 true) tests.length (λj=>[ak (tests[j]?.getD [])]):=bW.names (l:=tests) rfl (LS.al _ _);refine aoB (f:=7) (l:=tests) (by omega) (by omega) (by decide) (λs hs=>bg ((by decide:∀m∈tests,(m.all λc=>Nat.blt c 256)=true) s hs)) (Q:=λb=>b=S1.n) (λq=>by have:=p1.eT m1;omega) hv m2 p2 λH3 S3 m3 c3 p3=>?_;simp only[aq,az,bD];have F3:=F2.keep m2 hbp c3;have e0:Int.ofNat 0=((0:Nat):Int):=rfl;rw[e0];by_cases ho:mK C.T i 7 tests=0
  ·rw[if_pos ho]at hP p3;rw[decide_eq_true (by omega),aG];exact F3.fin m3 hM0 hp0 p3 hP
  ·rw[if_neg ho]at hP p3;rw[decide_eq_false (by omega),aw];have hb1:b1<S3.n:=by obtain⟨z,hz,_⟩:=F3.o1;exact m3.lt (by rw[hz];simp)
   have hb3:b3<S3.n:=m3.lt (by rw[F3.o3];simp);refine gz m3 F3.o3 F3.len ?_;refine O.join k (by omega) hd m3 p3 (Post.call hP F3.x (λ_ h=>h) λx j H4 S4 v m4 c4 p4 ⟨cb,hv,hR⟩ hP2=>?_);subst hv;have F4:=F3.keep m3 hbp c4;refine gz m4 F4.o3 F4.len ?_;refine bA (by obtain⟨Q,h1,_⟩:=F4.re;exact h1.same) ?_;refine F4.two (kind:=14) (op:=mK C.T i 7 tests) (S1:=S3) (H1:=H3) m4 hbp ⟨hb1,hb3,F3.x.1⟩ hR λH5 S5 c' m5 c5 F5 r5=>?_;refine jc m5 F5.o3 F5.len r5.len r5.ones λH6 m6=>?_;have F6:=F5.nP r5 λb hb=>hb;have p6:=(p4.no m4 c5).iF hp0 hM0 hF.n3 (.ce c' 0);exact ih (by omega) q j _ _ H6 _ (by omega) m6 p6 F6 hP2
theorem azC{m n:Nat}(hn:n≤900000)(hpv:C.pv=.iface 57 (.agg []))(O:gX C m n):∀k,k≤n+1→qI C (s13 (m+1)).2.2.2.2.2.2.2.2.2.2.2.2.2.1 (rA C.T k):=by
 intro k hk K H S i d hd hM hp hP;cases k with
 |zero=>simp only[rA]at hP;exact False.elim hP
 |succ k=>
  have rb:(jn (s13 m)).2.2.1=(s13 m).2.2.2.2.2.2.2.2.2.2.2.2.2.2.2.1:=rfl;show DH (jn (s13 m)) K (vq (jn (s13 m)) K G.NL) (.ptr C.bp 0) H;unfold DH;rw[rb,gQ];simp only[rA]at hP;have hbp:=hp.eT hM;refine bZ (bF hM dB λH1 m1=>?_);have c1:ax cD S (S.push (.ce z7 0)):=(ax.refl _ _).push _;have p1:=hp.no hM c1;refine O.join k (by omega) hd m1 p1 (Post.call hP c1.no (λ_ h=>h) λe j H2 S2 v m2 c2 p2 ⟨c,hv,hR⟩ hP2=>?_);subst hv;simp only[gQ];refine bZ (bF m2 dB λH3 m3=>?_);refine jc m3 (LS.al _ _) rfl hR.len hR.ones λH4 m4=>?_;have n12:S.n+1≤S2.n:=c2.1;have sU:=c2.ob m1 (LS.al S (.ce z7 0)) (λq=>by have q:S.n=C.bp:=q;omega);have c4:ax cD S2 ((S2.push (.ce z7 0)).set S2.n (.ce c 0)):=((ax.refl _ _).push _).set (.inr (Nat.le_refl _)) _;have F4:je C S ((S2.push (.ce z7 0)).set S2.n (.ce c 0)) S.n S2.n c e:=⟨(c1.no.trans c2).trans c4.no,⟨z7,c4.ob m2 sU (λq=>q),rfl⟩,LS.au _ _ _,Nat.le_refl _,by omega,by omega,gE (S.n+1) S2.n,hR.go (λb hb=>c4.2 b hb.2 λq=>q) (λ_ h=>h),λb hb=>⟨by have:=hb.1;omega,Nat.lt_of_lt_of_le hb.2 c4.1,by have:=hb.1;omega,by have:=hb.2;omega⟩⟩
  have cQ:G.NL=1000000:=rfl;exact azB hpv O hd hM hp k (by omega) G.NL j e c H4 _ (by omega) m4 (p2.no m2 c4) F4 hP2
theorem l199{m n:Nat}(hpv:C.pv=.iface 57 (.agg []))(O:gX C m n){S0:LS}{H0:AH}{i0 b1 b3:Nat}(hd:d≤200)(hM0:Mem H0 S0)(hp0:bE C S0 i0 d):∀k,k≤n+1→∀(q i:Nat) (e:aO) (c:List AV) (H:AH) (S:LS),k≤q→Mem H S→bE C S i d→je C S0 S b1 b3 c e→Post C (bJ C) d nO K S0 (uY C.T k e i d)→
  vu (jo (s13 m)) K q (.ptr C.bp 0) (.ptr b1 0) (.ptr b3 0) H:=by
 intro k
 induction k with
 |zero=>intro _ q i e c H S _ _ _ _ hP;simp only[uY]at hP;exact False.elim hP
 |succ k ih=>
  intro hk q i e c H S hq hM hp hF hP;obtain⟨q,rfl⟩:∃p,q=p+1:=⟨q-1,by omega⟩
  show DN (jo (s13 m)) K (vu (jo (s13 m)) K q) (.ptr C.bp 0) (.ptr b1 0) (.ptr b3 0) H;unfold DN;have rt:(jo (s13 m)).1=f23:=rfl;have ro:(jo (s13 m)).2.2.1=f193:=rfl;have rb:(jo (s13 m)).2.2.2=(s13 m).2.2.2.2.2.2.2.2.2.2.2.2.2.2.2.2.2.2.1:=rfl;have I8:(jo (s13 m)).2.1=f164:=rfl;rw[rt,ro,rb,I8];have hbp:=hp0.eT hM0;simp only[uY]at hP;refine jw hM hp λH1 S1 m1 c1 p1=>?_;rw[aq];refine js ?_;have F1:=hF.keep hM hbp c1.no;rw[show([.str 1 43,.str 1 45]:List AV)=sums.map ak from rfl];refine cZ m1 rfl (λa ha=>?_) λH2 m2=>?_
  ·obtain⟨x,_,rfl⟩:=List.mem_map.1 ha;rfl
  have c2:ax cD S1 (S1.push (.ce (sums.map ak) 0)):=(ax.refl _ _).push _;have p2:=p1.no m1 c2;have F2:=F1.keep m1 hbp c2.no;have hv:bW (S1.push (.ce (sums.map ak) 0)) (λb=>b=S1.n) 1 (.slice S1.n 0 2 2 1 true) sums.length (λj=>[ak (sums[j]?.getD [])]):=bW.names (l:=sums) rfl (LS.al _ _);refine aoB (f:=1) (l:=sums) (by omega) (by omega) (by decide) (λs hs=>bg ((by decide:∀m∈sums,(m.all λc=>Nat.blt c 256)=true) s hs)) (Q:=λb=>b=S1.n) (λq=>by have:=p1.eT m1;omega) hv m2 p2 λH3 S3 m3 c3 p3=>?_;simp only[aq,az,bD];have F3:=F2.keep m2 hbp c3;have e0:Int.ofNat 0=((0:Nat):Int):=rfl;rw[e0];by_cases ho:mK C.T i 1 sums=0
  ·rw[if_pos ho]at hP p3;rw[decide_eq_true (by omega),aG];exact F3.fin m3 hM0 hp0 p3 hP
  ·rw[if_neg ho]at hP p3;rw[decide_eq_false (by omega),aw];have hb1:b1<S3.n:=by obtain⟨z,hz,_⟩:=F3.o1;exact m3.lt (by rw[hz];simp)
   have hb3:b3<S3.n:=m3.lt (by rw[F3.o3];simp);refine gz m3 F3.o3 F3.len ?_;refine O.term k (by omega) hd m3 p3 (Post.call hP F3.x (λ_ h=>h) λx j H4 S4 v m4 c4 p4 ⟨cb,hv,hR⟩ hP2=>?_);subst hv;have F4:=F3.keep m3 hbp c4;refine gz m4 F4.o3 F4.len ?_;refine bA (by obtain⟨Q,h1,_⟩:=F4.re;exact h1.same) ?_;refine F4.two (kind:=14) (op:=mK C.T i 1 sums) (S1:=S3) (H1:=H3) m4 hbp ⟨hb1,hb3,F3.x.1⟩ hR λH5 S5 c' m5 c5 F5 r5=>?_;refine jc m5 F5.o3 F5.len r5.len r5.ones λH6 m6=>?_;have F6:=F5.nP r5 λb hb=>hb;have p6:=(p4.no m4 c5).iF hp0 hM0 hF.n3 (.ce c' 0);exact ih (by omega) q j _ _ H6 _ (by omega) m6 p6 F6 hP2
theorem azD{m n:Nat}(hn:n≤900000)(hpv:C.pv=.iface 57 (.agg []))(O:gX C m n):∀k,k≤n+1→qI C (s13 (m+1)).2.2.2.2.2.2.2.2.2.2.2.2.2.2.2.2.2.1 (yV C.T k):=by
 intro k hk K H S i d hd hM hp hP;cases k with
 |zero=>simp only[yV]at hP;exact False.elim hP
 |succ k=>
  have rb:(jo (s13 m)).2.2.2=(s13 m).2.2.2.2.2.2.2.2.2.2.2.2.2.2.2.2.2.2.1:=rfl;show DO (jo (s13 m)) K (vu (jo (s13 m)) K G.NL) (.ptr C.bp 0) H;unfold DO;rw[rb,gQ];simp only[yV]at hP;have hbp:=hp.eT hM;refine bZ (bF hM dB λH1 m1=>?_);have c1:ax cD S (S.push (.ce z7 0)):=(ax.refl _ _).push _;have p1:=hp.no hM c1;refine O.term k (by omega) hd m1 p1 (Post.call hP c1.no (λ_ h=>h) λe j H2 S2 v m2 c2 p2 ⟨c,hv,hR⟩ hP2=>?_);subst hv;simp only[gQ];refine bZ (bF m2 dB λH3 m3=>?_);refine jc m3 (LS.al _ _) rfl hR.len hR.ones λH4 m4=>?_;have n12:S.n+1≤S2.n:=c2.1;have sU:=c2.ob m1 (LS.al S (.ce z7 0)) (λq=>by have q:S.n=C.bp:=q;omega);have c4:ax cD S2 ((S2.push (.ce z7 0)).set S2.n (.ce c 0)):=((ax.refl _ _).push _).set (.inr (Nat.le_refl _)) _;have F4:je C S ((S2.push (.ce z7 0)).set S2.n (.ce c 0)) S.n S2.n c e:=⟨(c1.no.trans c2).trans c4.no,⟨z7,c4.ob m2 sU (λq=>q),rfl⟩,LS.au _ _ _,Nat.le_refl _,by omega,by omega,gE (S.n+1) S2.n,hR.go (λb hb=>c4.2 b hb.2 λq=>q) (λ_ h=>h),λb hb=>⟨by have:=hb.1;omega,Nat.lt_of_lt_of_le hb.2 c4.1,by have:=hb.1;omega,by have:=hb.2;omega⟩⟩
  have cQ:G.NL=1000000:=rfl;exact l199 hpv O hd hM hp k (by omega) G.NL j e c H4 _ (by omega) m4 (p2.no m2 c4) F4 hP2
theorem azE{m n:Nat}(hpv:C.pv=.iface 57 (.agg []))(O:gX C m n){S0:LS}{H0:AH}{i0 b1 b3:Nat}(hd:d≤200)(hM0:Mem H0 S0)(hp0:bE C S0 i0 d):∀k,k≤n+1→∀(q i:Nat) (e:aO) (c:List AV) (H:AH) (S:LS),k≤q→Mem H S→bE C S i d→je C S0 S b1 b3 c e→Post C (bJ C) d nO K S0 (rE C.T k e i d)→
  vw (jq (s13 m)) K q (.ptr C.bp 0) (.ptr b1 0) (.ptr b3 0) H:=by
 intro k
 induction k with
 |zero=>intro _ q i e c H S _ _ _ _ hP;simp only[rE]at hP;exact False.elim hP
 |succ k ih=>
  intro hk q i e c H S hq hM hp hF hP;obtain⟨q,rfl⟩:∃p,q=p+1:=⟨q-1,by omega⟩
  show DQ (jq (s13 m)) K (vw (jq (s13 m)) K q) (.ptr C.bp 0) (.ptr b1 0) (.ptr b3 0) H;unfold DQ;have rt:(jq (s13 m)).1=f23:=rfl;have ro:(jq (s13 m)).2.2.1=f193:=rfl;have rb:(jq (s13 m)).2.2.2=(s13 m).2.2.2.2.2.2.2.2.2.2.2.2.2.2.2.2.2.2.2:=rfl;have I8:(jq (s13 m)).2.1=f164:=rfl;rw[rt,ro,rb,I8];have hbp:=hp0.eT hM0;simp only[rE]at hP;refine jw hM hp λH1 S1 m1 c1 p1=>?_;rw[aq];refine js ?_;have F1:=hF.keep hM hbp c1.no;rw[show([.str 1 42,.str 2 12079,.str 1 37]:List AV)=terms.map ak from rfl];refine cZ m1 rfl (λa ha=>?_) λH2 m2=>?_
  ·obtain⟨x,_,rfl⟩:=List.mem_map.1 ha;rfl
  have c2:ax cD S1 (S1.push (.ce (terms.map ak) 0)):=(ax.refl _ _).push _;have p2:=p1.no m1 c2;have F2:=F1.keep m1 hbp c2.no;have hv:bW (S1.push (.ce (terms.map ak) 0)) (λb=>b=S1.n) 1 (.slice S1.n 0 3 3 1 true) terms.length (λj=>[ak (terms[j]?.getD [])]):=bW.names (l:=terms) rfl (LS.al _ _);refine aoB (f:=3) (l:=terms) (by omega) (by omega) (by decide) (λs hs=>bg ((by decide:∀m∈terms,(m.all λc=>Nat.blt c 256)=true) s hs)) (Q:=λb=>b=S1.n) (λq=>by have:=p1.eT m1;omega) hv m2 p2 λH3 S3 m3 c3 p3=>?_;simp only[aq,az,bD];have F3:=F2.keep m2 hbp c3;have e0:Int.ofNat 0=((0:Nat):Int):=rfl;rw[e0];by_cases ho:mK C.T i 3 terms=0
  ·rw[if_pos ho]at hP p3;rw[decide_eq_true (by omega),aG];exact F3.fin m3 hM0 hp0 p3 hP
  ·rw[if_neg ho]at hP p3;rw[decide_eq_false (by omega),aw];have hb1:b1<S3.n:=by obtain⟨z,hz,_⟩:=F3.o1;exact m3.lt (by rw[hz];simp)
   have hb3:b3<S3.n:=m3.lt (by rw[F3.o3];simp);refine gz m3 F3.o3 F3.len ?_;refine O.unary k (by omega) hd m3 p3 (Post.call hP F3.x (λ_ h=>h) λx j H4 S4 v m4 c4 p4 ⟨cb,hv,hR⟩ hP2=>?_);subst hv;have F4:=F3.keep m3 hbp c4;refine gz m4 F4.o3 F4.len ?_;refine bA (by obtain⟨Q,h1,_⟩:=F4.re;exact h1.same) ?_;refine F4.two (kind:=14) (op:=mK C.T i 3 terms) (S1:=S3) (H1:=H3) m4 hbp ⟨hb1,hb3,F3.x.1⟩ hR λH5 S5 c' m5 c5 F5 r5=>?_;refine jc m5 F5.o3 F5.len r5.len r5.ones λH6 m6=>?_;have F6:=F5.nP r5 λb hb=>hb;have p6:=(p4.no m4 c5).iF hp0 hM0 hF.n3 (.ce c' 0);exact ih (by omega) q j _ _ H6 _ (by omega) m6 p6 F6 hP2
theorem azF{m n:Nat}(hn:n≤900000)(hpv:C.pv=.iface 57 (.agg []))(O:gX C m n):∀k,k≤n+1→qI C (s13 (m+1)).2.2.2.2.2.2.2.2.2.2.2.2.2.2.2.2.2.2.1 (rD C.T k):=by
 intro k hk K H S i d hd hM hp hP;cases k with
 |zero=>simp only[rD]at hP;exact False.elim hP
 |succ k=>
  have rb:(jq (s13 m)).2.2.2=(s13 m).2.2.2.2.2.2.2.2.2.2.2.2.2.2.2.2.2.2.2:=rfl;show DS (jq (s13 m)) K (vw (jq (s13 m)) K G.NL) (.ptr C.bp 0) H;unfold DS;rw[rb,gQ];simp only[rD]at hP;have hbp:=hp.eT hM;refine bZ (bF hM dB λH1 m1=>?_);have c1:ax cD S (S.push (.ce z7 0)):=(ax.refl _ _).push _;have p1:=hp.no hM c1;refine O.unary k (by omega) hd m1 p1 (Post.call hP c1.no (λ_ h=>h) λe j H2 S2 v m2 c2 p2 ⟨c,hv,hR⟩ hP2=>?_);subst hv;simp only[gQ];refine bZ (bF m2 dB λH3 m3=>?_);refine jc m3 (LS.al _ _) rfl hR.len hR.ones λH4 m4=>?_;have n12:S.n+1≤S2.n:=c2.1;have sU:=c2.ob m1 (LS.al S (.ce z7 0)) (λq=>by have q:S.n=C.bp:=q;omega);have c4:ax cD S2 ((S2.push (.ce z7 0)).set S2.n (.ce c 0)):=((ax.refl _ _).push _).set (.inr (Nat.le_refl _)) _;have F4:je C S ((S2.push (.ce z7 0)).set S2.n (.ce c 0)) S.n S2.n c e:=⟨(c1.no.trans c2).trans c4.no,⟨z7,c4.ob m2 sU (λq=>q),rfl⟩,LS.au _ _ _,Nat.le_refl _,by omega,by omega,gE (S.n+1) S2.n,hR.go (λb hb=>c4.2 b hb.2 λq=>q) (λ_ h=>h),λb hb=>⟨by have:=hb.1;omega,Nat.lt_of_lt_of_le hb.2 c4.1,by have:=hb.1;omega,by have:=hb.2;omega⟩⟩
  have cQ:G.NL=1000000:=rfl;exact azE hpv O hd hM hp k (by omega) G.NL j e c H4 _ (by omega) m4 (p2.no m2 c4) F4 hP2
end
section
variable {H:AH}{S:LS}{K:KF}{C:Ctx}{i d:Nat}
theorem bW.single{Q:Nat→Prop}{b m sz:Nat}{c:List AV}{ex:Bool}(hQ:Q b)(hb:S.ob b=.ce c m)(hc:c.length=sz):bW S Q sz (.slice b 0 1 1 sz ex) 1 (λ_=>c):=
 .inr ⟨b,0,1,ex,c,m,rfl,hQ,hb,Nat.le_refl _,by omega,λi hi=>by
  have:i=0:=by omega
  subst this;show(c.drop (0+0*sz)).take sz=c;rw[Nat.zero_mul,Nat.add_zero,List.drop_zero,List.take_of_length_le (by omega)]⟩
theorem RE.one{Q:Nat→Prop}{kind at_ op b m:Nat}{ex:Bool}{x:aO}{c:List AV}(hQ:Q b)(hb:S.ob b=.ce c m)(h1:RE S Q c x):RE S Q [.int 0 (kind:Int),.int 0 (at_:Int),.int 0 ((0:Nat):Int),ak [],.int 0 (op:Int),.slice b 0 1 1 7 ex,.ab] (.mk kind at_ 0 [] op [x] []):=by
 refine .mk kind at_ 0 [] op [x] [] _ .ab _ (λ_=>[]) B8.nil (bW.single hQ hb h1.len) (λi e h=>?_) (bW.nil _ _ _ _) (λi e h=>by simp at h)
 match i,h with
 |0,h=>
  have e1:x=e:=by simpa using h
  subst e1;exact h1
 |i+1,h=>simp at h
theorem je.mk0{S0 S2:LS}{H2:AH}{c:List AV}{e:aO}{z:List AV}(hbp:C.bp<S0.n)(hz:z.length=7)(h1:ax (bJ C) S0 S2)(m2:Mem H2 S2)(hb1:S2.ob S0.n=.ce z 0)(hR:RE S2 (gE (S0.n+1) S2.n) c e):je C S0 ((S2.push (.ce z7 0)).set S2.n (.ce c 0)) S0.n S2.n c e:=by
 have n12:S0.n<S2.n:=m2.lt (by rw[hb1];simp);have c4:ax cD S2 ((S2.push (.ce z7 0)).set S2.n (.ce c 0)):=((ax.refl _ _).push _).set (.inr (Nat.le_refl _)) _;exact⟨h1.trans c4.no,⟨z,c4.ob m2 hb1 (λq=>q),hz⟩,LS.au _ _ _,Nat.le_refl _,by omega,by omega,gE (S0.n+1) S2.n,hR.go (λb hb=>c4.2 b hb.2 λq=>q) (λ_ h=>h),λb hb=>⟨by have:=hb.1;omega,Nat.lt_of_lt_of_le hb.2 c4.1,by have:=hb.1;omega,by have:=hb.2;omega⟩⟩
theorem azG{m n:Nat}(hpv:C.pv=.iface 57 (.agg []))(O:gX C m n):∀k,k≤n+1→qI C (s13 (m+1)).2.2.2.2.2.2.2.2.2.2.2.2.2.2.2.1 (pT C.T k):=by
 intro k hk K H S i d hd hM hp hP;cases k with
 |zero=>simp only[pT]at hP;exact False.elim hP
 |succ k=>
  have ra:(jK (s13 m)).1=f23:=rfl;have rb:(jK (s13 m)).2.1=f53:=rfl;have rc:(jK (s13 m)).2.2.1=f56:=rfl;have rd:(jK (s13 m)).2.2.2.1=f164:=rfl;have re:(jK (s13 m)).2.2.2.2.1=(s13 m).2.2.2.2.2.2.2.2.2.2.2.2.2.2.2.1:=rfl;have rf:(jK (s13 m)).2.2.2.2.2=(s13 m).2.2.2.2.2.2.2.2.2.2.2.2.2.2.2.2.2.1:=rfl;show DL (jK (s13 m)) K (zE (jK (s13 m)) K) (.ptr C.bp 0) H;unfold DL;rw[ra,rb,rc,rd,re,rf,gQ];simp only[pT]at hP;have hbp:=hp.eT hM;refine bZ (bF hM dB λH1 m1=>?_);have c1:ax cD S (S.push (.ce z7 0)):=(ax.refl _ _).push _;have p1:=hp.no hM c1;refine O.sum k (by omega) hd m1 p1 (Post.call hP c1.no (λ_ h=>h) λe j H2 S2 v m2 c2 p2 ⟨c,hv,hR⟩ hP2=>?_);subst hv;simp only[gQ];refine bZ (bF m2 dB λH3 m3=>?_);refine jc m3 (LS.al _ _) rfl hR.len hR.ones λH4 m4=>?_;have n12:S.n+1≤S2.n:=c2.1;have sU:=c2.ob m1 (LS.al S (.ce z7 0)) (λq=>by have q:S.n=C.bp:=q;omega);have c4:ax cD S2 ((S2.push (.ce z7 0)).set S2.n (.ce c 0)):=((ax.refl _ _).push _).set (.inr (Nat.le_refl _)) _;have F4:=je.mk0 (C:=C) hbp rfl (c1.no.trans c2) m2 sU hR;refine jw m4 (p2.no m2 c4) λH5 S5 m5 c5 p5=>?_;rw[aq];refine js ?_;have F5:=F4.keep m4 hbp c5.no;refine dF (s:=[46,46]) (bg (by decide)) m5 p5 λH6 S6 m6 c6 p6=>?_;simp only[aq,aX];have F6:=F5.keep m5 hbp c6;cases hi:isA C.T [46,46] j with
  |false=>
   rw[hi]at p6 hP2;simp only[Bool.not_false,aG];exact F6.fin m6 hM hp p6 hP2
  |true=>
   rw[hi]at p6 hP2;simp only[Bool.not_true,aw];simp only[if_true]at hP2 p6;refine afj hpv (by omega) m6 p6 (λhg H7 S7 m7 c7 e7=>?_) (λhg H7 S7 m7 c7 p7=>?_)
   ·rw[dt];rw[if_pos hg]at hP2;exact hP2 H7 S7 m7 (F6.x.trans c7) e7
   ·rw[aq];rw[if_neg hg]at hP2;have F7:=F6.keep m6 hbp c7;have hb1:S.n<S7.n:=by obtain⟨z,hz,_⟩:=F7.o1;exact m7.lt (by rw[hz];simp)
    have hb3:S2.n<S7.n:=m7.lt (by rw[F7.o3];simp);refine gz m7 F7.o3 F7.len ?_;refine O.join k (by omega) (by omega) m7 p7 (Post.call hP2 F7.x (λ_ h=>h) λx l H8 S8 v m8 c8 p8 ⟨cb,hv,hR8⟩ hP3=>?_);subst hv;have F8:=F7.keep m7 hbp c8;refine gz m8 F8.o3 F8.len ?_;refine bA (by obtain⟨Q,h1,_⟩:=F8.re;exact h1.same) ?_;refine F8.two (kind:=14) (op:=6) (S1:=S7) (H1:=H7) m8 hbp ⟨hb1,hb3,F7.x.1⟩ hR8 λH9 S9 c' m9 c9 F9 r9=>?_;refine jc m9 F9.o3 F9.len r9.len r9.ones λHa ma=>?_;have Fa:=F9.nP r9 λb hb=>hb;have pa:=(p8.no m8 c9).iF hp hM F4.n3 (.ce c' 0);show zE (jK (s13 m)) K (.ptr C.bp 0) (.ptr S.n 0) (.ptr S2.n 0) Ha;unfold zE;refine afk (by omega) ma pa λHb Sb mb cb' pb=>?_;exact(Fa.keep ma hbp cb').fin mb hM hp pb hP3
theorem azH{m n:Nat}(hpv:C.pv=.iface 57 (.agg []))(O:gX C m n):∀k,k≤n+1→qI C (s13 (m+1)).2.2.2.2.2.2.2.2.2.2.2.2.2.2.2.2.2.2.2 (iY C.T k):=by
 intro k hk K H S i d hd hM hp hP;cases k with
 |zero=>simp only[iY]at hP;exact False.elim hP
 |succ k=>
  have ra:(iz (s13 m)).1=f23:=rfl;have rb:(iz (s13 m)).2.1=f53:=rfl;have rc:(iz (s13 m)).2.2.1=f56:=rfl;have rd:(iz (s13 m)).2.2.2.1=(s13 m).2.2.2.2.2.2.2.2.2.1:=rfl;have re:(iz (s13 m)).2.2.2.2=(s13 m).2.2.2.2.2.2.2.2.2.2.2.2.2.2.2.2.2.2.2:=rfl;show DU (iz (s13 m)) K (zG (iz (s13 m)) K (vx (iz (s13 m)) K)) (.ptr C.bp 0) H;unfold DU;rw[ra,rc,rd,gQ];simp only[iY]at hP;have hbp:=hp.eT hM;refine bZ (bF hM dB λH1 m1=>?_);have c1:ax cD S (S.push (.ce z7 0)):=(ax.refl _ _).push _;have p1:=hp.no hM c1;have o1:(S.push (.ce z7 0)).ob S.n=.ce z7 0:=LS.al _ _;refine jw m1 p1 λH2 S2 m2 c2 p2=>?_;rw[aq];refine js ?_;have c12:ax (bJ C) S S2:=(c1.trans c2).no;have o2:=c2.ob m1 o1 λq=>q;have gY:¬bJ C S.n:=λq=>by have q:S.n=C.bp:=q;omega
  have signed:∀{H3:AH}{S3:LS}(kd:Nat),BC C.T i=kd→kd≠0→Mem H3 S3→ax (bJ C) S S3→bE C S3 (i+1) d→S3.ob S.n=.ce z7 0→zG (iz (s13 m)) K (vx (iz (s13 m)) K) (.ptr C.bp 0) (.ptr S.n 0) (aZ C.T i:Int) (kd:Int) H3:=by
   intro H3 S3 kd hkd hk0 m3 c3 p3 o3;rw[hkd,if_neg hk0]at hP;unfold zG;rw[rb,re];refine afj hpv (by omega) m3 p3 (λhg H4 S4 m4 c4 e4=>?_) (λhg H4 S4 m4 c4 p4=>?_)
   ·rw[dt];rw[if_pos hg]at hP;exact hP H4 S4 m4 (c3.trans c4) e4
   ·rw[aq];rw[if_neg hg]at hP;have c34:=c3.trans c4;have o4:=c4.ob m3 o3 gY;have n4:S.n<S4.n:=m4.lt (by rw[o4];simp);refine O.unary k (by omega) (by omega) m4 p4 (Post.call hP c34 (λ_ h=>h) λe j H5 S5 v m5 c5 p5 ⟨c,hv,hR⟩ hP2=>?_);subst hv;have o5:=c5.ob m4 o4 gY;rw[gK];refine ia hR.len ?_;rw[CW hR.len rfl];refine cZ m5 (by rw[hR.len]) hR.ones λH6 m6=>?_;refine gU rfl ?_;simp only[gQ];refine bZ (bF m6 dB λH7 m7=>?_);refine jc m7 (c:=[.int 0 (kd:Int),.int 0 (aZ C.T i:Int),.int 0 ((0:Nat):Int),ak [],.int 0 ((0:Nat):Int),.slice S5.n 0 1 1 7 true,.ab]) (LS.al _ _) rfl rfl (λa h=>?_) λH8 m8=>?_
    ·simp only[List.mem_cons,List.not_mem_nil,or_false]at h;rcases h with rfl|rfl|rfl|rfl|rfl|rfl|rfl<;>rfl
    have hRp:RE (S5.push (.ce c 0)) (gE (S.n+1) (S5.push (.ce c 0)).n) [.int 0 (kd:Int),.int 0 (aZ C.T i:Int),.int 0 ((0:Nat):Int),ak [],.int 0 ((0:Nat):Int),.slice S5.n 0 1 1 7 true,.ab] (.mk kd (aZ C.T i) 0 [] 0 [e] []):=by
     have n5:S4.n≤S5.n:=c5.1;exact RE.one (b:=S5.n) (m:=0) ⟨by omega,Nat.lt_succ_self _⟩ (LS.al _ _) (hR.go (λb hb=>LS.bq _ _ hb.2) λb hb=>⟨by have:=hb.1;omega,Nat.lt_succ_of_lt hb.2⟩)
    have c6:ax cD S5 (S5.push (.ce c 0)):=(ax.refl _ _).push _;have F8:=je.mk0 (C:=C) hbp rfl ((c34.trans c5).trans c6.no) m6 (c6.ob m5 o5 λq=>q) hRp;have c8:ax cD (S5.push (.ce c 0)) (((S5.push (.ce c 0)).push (.ce z7 0)).set (S5.push (.ce c 0)).n (.ce [.int 0 (kd:Int),.int 0 (aZ C.T i:Int),.int 0 ((0:Nat):Int),ak [],.int 0 ((0:Nat):Int),.slice S5.n 0 1 1 7 true,.ab] 0)):=((ax.refl _ _).push _).set (.inr (Nat.le_refl _)) _;refine afk (by omega) m8 ((p5.no m5 c6).no m6 c8) λH9 S9 m9 c9 p9=>?_;show vx (iz (s13 m)) K (.ptr S.n 0) (.ptr (S5.push (.ce c 0)).n 0) H9;unfold vx;exact(F8.keep m8 hbp c9).fin m9 hM hp p9 hP2
  refine dF (s:=[110,111,116]) (bg (by decide)) m2 p2 λH3 S3 m3 c3 p3=>?_;simp only[aq,aX];cases h1:isA C.T [110,111,116] i with
  |true=>
   rw[h1]at p3;rw[aG];exact signed 11 (by unfold BC;rw[h1];rfl) (by omega) m3 (c12.trans c3) p3 (c3.ob m2 o2 gY)
  |false=>
  simp only[h1,Bool.false_eq_true,if_false]at p3;rw[aw];refine dF (s:=[45]) (bg (by decide)) m3 p3 λH4 S4 m4 c4 p4=>?_;simp only[aq,aX];cases h2:isA C.T [45] i with
  |true=>
   rw[h2]at p4;rw[aG];exact signed 12 (by unfold BC;rw[h1,h2];rfl) (by omega) m4 ((c12.trans c3).trans c4) p4 (c4.ob m3 (c3.ob m2 o2 gY) gY)
  |false=>
  simp only[h2,Bool.false_eq_true,if_false]at p4;rw[aw];refine dF (s:=[35]) (bg (by decide)) m4 p4 λH5 S5 m5 c5 p5=>?_;simp only[aq,aX];cases h3:isA C.T [35] i with
  |true=>
   rw[h3]at p5;rw[aG];exact signed 13 (by unfold BC;rw[h1,h2,h3];rfl) (by omega) m5 (((c12.trans c3).trans c4).trans c5) p5 (c5.ob m4 (c4.ob m3 (c3.ob m2 o2 gY) gY) gY)
  |false=>
  simp only[h3,Bool.false_eq_true,if_false]at p5;rw[aw];have hu:BC C.T i=0:=by unfold BC;rw[h1,h2,h3];rfl
  rw[if_pos hu]at hP;have c5':=((c12.trans c3).trans c4).trans c5;have o5:=c5.ob m4 (c4.ob m3 (c3.ob m2 o2 gY) gY) gY;refine O.post k (by omega) hd m5 p5 (Post.tail hP c5' (λ_ h=>h) λe j H6 S6 v m6 c6 p6 ⟨c,hv,hR⟩ hfin=>?_);subst hv;have n5:S.n<S5.n:=m5.lt (by rw[o5];simp);refine jc m6 (c6.ob m5 o5 gY) rfl hR.len hR.ones λH7 m7=>?_;refine gz m7 (LS.au _ _ _) hR.len ?_;exact hfin H7 _ _ m7 ((c5'.trans c6).set (.inr (Nat.le_refl _)) _) (p6.iF hp hM (Nat.le_refl _) _) ⟨c,rfl,hR.go (λb hb=>LS.ao _ _ (by have:=hb.1;omega)) λb hb=>⟨by have:=hb.1;omega,hb.2⟩⟩
end
end Go.Proofs.YtcedghechlgecaaGreatDoor
namespace Go.X
section
variable {H:AH}{S:LS}
theorem df.lt{α:Type}{R:Rep α}{lo:Nat}{v:AV}{l:List α}(h:df R lo S v l)(hM:Mem H S){b:Nat}(hb:aF v b):b<S.n:=by
 obtain⟨cl,h1,_⟩:=h;exact h1.lt hM hb
theorem df.afm{α:Type}{R:Rep α}{lo:Nat}{v:AV}{l:List α}{k:AV→Prop}(h:df R lo S v l)(hk:k (.int 0 l.length)):bR v k:=by
 obtain⟨cl,h1,_⟩:=h;exact h1.len hk
theorem df.push{α:Type}{R:Rep α}{lo bytes:Nat}{v:AV}{l:List α}{a:α}{c:List AV}{Q:Nat→Prop}{k:AV→AH→Prop}(h:df R lo S v l)(hM:Mem H S)(hr:R.rel S Q c a)(hQ:∀b,Q b→lo≤b∧b<S.n∧¬aF v b)(hlo:lo≤S.n)(hl:(l.length+1)*bytes≤1099511627776)
  (hk:∀H' S' v',Mem H' S'→df R lo S' v' (l++[a])→S.n≤S'.n→(∀b,b<S.n→¬aF v b→S'.ob b=S.ob b)→(∀b,aF v' b→aF v b∨S.n≤b)→k v' H'):bG (aA H) 1 R.sz c λx H'=>cV R.sz bytes v x H' k:=by
 obtain⟨cl,h1,h2⟩:=id h;refine G7 hM h1 R.pos (R.len hr) hl (R.ones hr) λH' S' v' m' he=>?_;refine hk H' S' v' m' (h.step hr hQ hlo λcl' h'=>?_) he.1 he.2.1 he.2.2.2;have e:cl'=cl.flatten:=by
  rcases h1 with⟨e1,e2,e3⟩|⟨b,c1,ex,cs,e1,e2,e3,e4,e5,e6,e7⟩
  ·rcases h' with⟨_,_,g3⟩|⟨b',c1',ex',cs',g1,_⟩
   ·rw[g3,e3]
   ·rw[e1]at g1;cases g1
  ·rcases h' with⟨g1,_⟩|⟨b',c1',ex',cs',g1,g2,g3,g4,g5,g6,g7⟩
   ·rw[e1]at g1;cases g1
   ·rw[e1]at g1;injection g1 with q1;subst q1;rw[e2]at g2;injection g2 with q2;rw[←g6,←e6,g5,e5,q2]
 rw[e];exact he
theorem cK.slR{Q:Nat→Prop}{sz n:Nat}{v:AV}{l:List AV}(h:cK S sz v n l)(hQ:∀b,aF v b→Q b):bW S Q sz v n (λi=>(l.drop (i*sz)).take sz):=by
 rcases h with⟨rfl,rfl,rfl⟩|⟨b,c,ex,cs,rfl,h2,h3,h4,h5,h6,h7⟩
 ·exact .inl ⟨rfl,rfl⟩
 ·refine .inr ⟨b,0,c,ex,cs,0,rfl,hQ b rfl,h2,h4,by rw[h3,Nat.zero_add];exact Nat.mul_le_mul_right _ h4,λi hi=>?_⟩;have hle:(i+1)*sz≤n*sz:=Nat.mul_le_mul_right _ (by omega);rw[Nat.add_mul,Nat.one_mul]at hle;show(cs.drop (0+i*sz)).take sz=(l.drop (i*sz)).take sz
  conv=>rhs;rw[←h6]
  rw[List.drop_take,List.take_take,Nat.min_eq_left (by omega),Nat.zero_add]
theorem al2{bytes sz n n':Nat}{v x:AV}{l:List AV}{Q:Nat→Prop}{cl:Nat→List AV}{k:AV→AH→Prop}(hM:Mem H S)(hs:cK S sz v n l)(hv:0<n'∨v≠.ab)(hsz:0<sz)(hx:bW S Q sz x n' cl)(hone:∀i,i<n'→∀a∈cl i,a.one=true)(hl:(n+n')*bytes≤1099511627776)
  (hK:∀H' S' v' l',Mem H' S'→l'.length=n'*sz→(∀i,i<n'→(l'.drop (i*sz)).take sz=cl i)→uH S v (n+n') sz (l++l') S' v'→k v' H'):cV sz bytes v x H k:=by
 have go:∀l':List AV,l'.length=n'*sz→(∀i,i<n'→(l'.drop (i*sz)).take sz=cl i)→qP sz bytes n' v l' H k:=λl' h1 h2=>by
  refine wJ hM hs hsz hv h1 hl (λa ha=>?_) λH' S' v' m' he=>hK H' S' v' l' m' h1 h2 he;obtain⟨j,hj,e⟩:=List.mem_iff_getElem.1 ha;have hi:j/sz<n':=Nat.div_lt_of_lt_mul (by rw[Nat.mul_comm];omega);refine hone (j/sz) hi a ?_;rw[←h2 _ hi];rw[List.mem_iff_getElem?];refine⟨j%sz,?_⟩;rw[List.getElem?_take,if_pos (Nat.mod_lt _ hsz),List.getElem?_drop,Nat.mul_comm,Nat.div_add_mod,List.getElem?_eq_getElem hj,e]
 rcases hx with⟨rfl,rfl⟩|⟨b,o,c,ex,cs,m,rfl,h1,h2,h3,h4,h5⟩
 ·exact go [] (by simp) (λi hi=>by omega)
 ·refine lZ (ex:=ex) (cap:=c) (k:=λl=>qP sz bytes n' _ l H k) hM h2 (by omega) ?_;refine go _ (by rw[List.length_take,List.length_drop];omega) λi hi=>?_;have hle:(i+1)*sz≤n'*sz:=Nat.mul_le_mul_right _ (by omega);rw[Nat.add_mul,Nat.one_mul]at hle;rw[List.drop_take,List.take_take,Nat.min_eq_left (by omega),List.drop_drop];exact h5 i hi
end
end Go.X
namespace Go.Proofs.YtcedghechlgecaaGreatDoor
open Go Go.X Go.Proofs.YtcedghechlgecaaGreatDoor.G
section
variable {H:AH}{S:LS}{K:KF}{C:Ctx}{i d:Nat}
theorem pV(m:Nat):s13 (m+1)=(A6 (jV (s13 m)),A7 (dD (s13 m)),A8 (nL (s13 m)),A9 (iS (s13 m)),HG (pE (s13 m)),Ba (lM (s13 m)),wO (ox (s13 m)),wP (dU (s13 m)),Cm (gH (s13 m)),wR (eY (s13 m)),Co (gI (s13 m)),wT (iy (s13 m)),wU (eM (s13 m)),Cs (jn (s13 m)),wV (gp (s13 m)),Ct (jK (s13 m)),wW (lN (s13 m)),Cv (jo (s13 m)),Cx (jq (s13 m)),Cy (iz (s13 m))):=by kernel_rfl
theorem azI{m n:Nat}(hpv:C.pv=.iface 57 (.agg []))(O:gX C m n){S0:LS}{H0:AH}{i0:Nat}(hd:d≤200)(hM0:Mem H0 S0)(hp0:bE C S0 i0 d):∀k,k≤n+1→∀(q i:Nat) (first:Bool) (l:List aO) (v:AV) (H:AH) (S:LS),k≤q→l.length≤16→Mem H S→bE C S i d→ax (bJ C) S0 S→df mY S0.n S v l→Post C (bJ C) d xB K S0 (jG C.T k first l i d)→
  sj (eM (s13 m)) K q (.ptr C.bp 0) v first H:=by
 intro k
 induction k with
 |zero=>intro _ q i f l v H S _ _ _ _ _ _ hP;simp only[jG]at hP;exact False.elim hP
 |succ k ih=>
  intro hk q i first l v H S hq hl hM hp hx hO hP
  obtain⟨q,rfl⟩:∃p,q=p+1:=⟨q-1,by omega⟩
  have r1:(eM (s13 m)).1=f25:=rfl;have r2:(eM (s13 m)).2.1=f56:=rfl;have r3:(eM (s13 m)).2.2.1=f94:=rfl;have r4:(eM (s13 m)).2.2.2.1=(s13 m).2.2.2.2.1:=rfl;have r5:(eM (s13 m)).2.2.2.2=ng:=rfl;have hbp:=hp0.eT hM0;show DF (eM (s13 m)) K (vm (eM (s13 m)) K (vk (eM (s13 m)) K (sj (eM (s13 m)) K q))) (zD (eM (s13 m)) K) (.ptr C.bp 0) v first H
  unfold DF;rw[r1,r2,r3];simp only[jG]at hP;have Ou:∀{v:AV}{l:List aO}{S1 S2:LS}{H1:AH},Mem H1 S1→df mY S0.n S1 v l→ax (bJ C) S1 S2→df mY S0.n S2 v l:=λm1 o g=>o.keep m1 g.1 λb h1 h2=>g.2 b h2 λe=>by have e:b=C.bp:=e;omega
  have stop:∀{H1:AH}{S1:LS}{i:Nat},Mem H1 S1→bE C S1 i d→ax (bJ C) S0 S1→df mY S0.n S1 v l→Post C (bJ C) d xB K S0 ((dR C.T [41] i).bind λ_ j=>.ok l j)→zD (eM (s13 m)) K (.ptr C.bp 0) v H1:=λ{H1 S1 i} m1 p1 x1 o1 hP=>by
   unfold zD;rw[r5];refine gP (s:=[41]) hpv (bg (by decide)) m1 p1 (Post.call (jM:=oQ) hP x1 (λ_ h=>h) λ_ j H2 S2 w m2 c2 p2 _ hP2=>?_);obtain⟨cl,g1,g2⟩:=(Ou m1 o1 c2).done m2;exact hP2 H2 S2 v m2 (x1.trans c2) p2 ⟨cl,g1,g2⟩
  have more:∀{H1:AH}{S1:LS}{i:Nat},Mem H1 S1→bE C S1 i d→ax (bJ C) S0 S1→df mY S0.n S1 v l→Post C (bJ C) d xB K S0 (if l.length=16 then cG.err 8 i else (fu C.T k i d).bind λe j=>jG C.T k false (l++[e]) j d)→
    bR v λv5=>cI 0 v5 λz6=>bI (aV z6 (.ofNat 16)) (f25 (.ptr C.bp 0) (.ofNat 8) H1 λo7 H8=>cR K o7 H8 λv9=>vm (eM (s13 m)) K (vk (eM (s13 m)) K (sj (eM (s13 m)) K q)) (.ptr C.bp 0) v H8) (vm (eM (s13 m)) K (vk (eM (s13 m)) K (sj (eM (s13 m)) K q)) (.ptr C.bp 0) v H1):=λ{H1 S1 i} m1 p1 x1 o1 hP=>by
   refine o1.afm ?_;have e16:Int.ofNat 16=((16:Nat):Int):=rfl;rw[az,bD,e16];by_cases h16:l.length=16
   ·rw[if_pos h16]at hP;rw[decide_eq_true (by omega),aG];refine pK (c:=8) hpv m1 p1 λH2 S2 m2 c2 e2=>?_;rw[dt];exact hP H2 S2 m2 (x1.trans c2) e2
   ·rw[if_neg h16]at hP;rw[decide_eq_false (by omega),aw];unfold vm;rw[r4];refine O.exp k (by omega) hd m1 p1 (Post.call hP x1 (λ_ h=>h) λe j H2 S2 w m2 c2 p2 ⟨c,hw,hR⟩ hP2=>?_);subst hw;rw[gK];refine ia hR.len ?_;rw[CW hR.len rfl];have o2:=Ou m1 o1 c2;refine o2.push (R:=mY) (bytes:=96) m2 hR (λb hb=>⟨Nat.le_trans x1.1 hb.1,hb.2,λq=>by have:=o1.lt m1 q;have:=hb.1;omega⟩) (Nat.le_trans x1.1 c2.1) (by omega) λH3 S3 v' m3 o3 n3 k3 b3=>?_;unfold vk;have c3:ax (λb=>aF v b) S2 S3:=⟨n3,λb hb hx=>k3 b hb hx⟩
    have p3:bE C S3 j d:=p2.keep m2 c3 (λq=>by obtain⟨_,_,_,h,_⟩:=o2;have:=h _ q;omega) (λb hb q=>by
     obtain⟨_,_,_,h,_⟩:=o2;have h1:=h _ q;have h2:=hp0.tk.lt hM0 hb;omega)
    exact ih (by omega) q j false (l++[e]) v' H3 S3 (by omega) (by simp;omega) m3 p3 ((x1.trans c2).jv c3 λb hb=>.inr (by obtain⟨_,_,_,h,_⟩:=o2;exact h _ hb)) o3 hP2
  cases first with
  |true=>
   rw[aG];refine sT (s:=[41]) (bg (by decide)) hM hp λH1 S1 m1 c1 p1=>?_;simp only[aq,aX];have o1:=Ou hM hO (c1.no (X:=bJ C));cases hi:isA C.T [41] i with
   |false=>
    simp only[hi,Bool.not_false,if_true]at hP;rw[Bool.not_false,aG];exact more m1 p1 (hx.trans c1.no) o1 hP
   |true=>
    simp only[hi,Bool.not_true,if_true,Bool.false_eq_true,if_false]at hP;simp only[Bool.not_true,aw];exact stop m1 p1 (hx.trans c1.no) o1 hP
  |false=>
   simp only[Bool.not_false,aw,aG];refine dF (s:=[44]) (bg (by decide)) hM hp λH1 S1 m1 c1 p1=>?_;simp only[aq,aX];have o1:=Ou hM hO c1;cases hi:isA C.T [44] i with
   |true=>
    simp only[hi,if_true,Bool.false_eq_true,if_false]at hP p1;rw[aG];exact more m1 p1 (hx.trans c1) o1 hP
   |false=>
    simp only[hi,if_true,Bool.false_eq_true,if_false]at hP p1;rw[aw];exact stop m1 p1 (hx.trans c1) o1 hP
theorem azJ{m n:Nat}(hn:n≤900000)(hpv:C.pv=.iface 57 (.agg []))(O:gX C m n):∀k,k≤n+1→∀{K:KF}{H:AH}{S:LS}{i d:Nat},d≤200→Mem H S→bE C S i d→Post C (bJ C) d xB K S (jG C.T k true [] i d)→(s13 (m+1)).2.2.2.2.2.2.2.2.2.2.2.2.1 (.ptr C.bp 0) H K:=by
 intro k hk K H S i d hd hM hp hP;have e:(s13 (m+1)).2.2.2.2.2.2.2.2.2.2.2.2.1=wU (eM (s13 m)):=by rw[pV]
 rw[e];unfold wU VB J6;have cQ:G.NL=1000000:=rfl;exact azI hpv O hd hM hp k hk G.NL i true [] .ab H S (by omega) (by simp) hM hp (ax.refl _ _) (df.nil _ _ _) hP
end
end Go.Proofs.YtcedghechlgecaaGreatDoor
namespace Go.X
theorem SF(T:List Tok):∀(n:Nat) (f:Bool) (out:List aO) (i d:Nat) (l:List aO) (j:Nat),out.length≤16→jG T n f out i d=.ok l j→l.length≤16
 |0,f,out,i,d,l,j,_,h=>by simp only[jG]at h;cases h
 |n+1,f,out,i,d,l,j,ho,h=>by
  have step:∀b:Nat,(if out.length=16 then cG.err 8 b else (fu T n b d).bind λe j'=>jG T n false (out++[e]) j' d)=.ok l j→l.length≤16:=λb h=>by
   split at h
   ·cases h
   ·rename_i h16;cases he:fu T n b d with
    |ok e j'=>
     rw[he]at h;exact SF T n false (out++[e]) j' d l j (by simp;omega) h
    |err c j'=>rw[he]at h;cases h
    |dZ=>rw[he]at h;cases h
  have stop:((dR T [41] i).bind λ_ j=>.ok out j)=.ok l j→l.length≤16:=λh=>by
   unfold dR at h;split at h
   ·cases h;exact ho
   ·cases h
  simp only[jG]at h;cases f with
  |true=>
   simp only[if_true]at h;cases hb:isA T [41] i with
   |true=>rw[hb]at h;exact stop h
   |false=>rw[hb]at h;exact step _ h
  |false=>
   simp only[Bool.false_eq_true,if_false]at h;cases hb:isA T [44] i with
   |true=>rw[hb]at h;exact step _ h
   |false=>rw[hb]at h;exact stop h
end Go.X
namespace Go.Proofs.YtcedghechlgecaaGreatDoor
open Go Go.X Go.Proofs.YtcedghechlgecaaGreatDoor.G
section
variable {H:AH}{S:LS}{K:KF}{C:Ctx}{i d:Nat}
theorem cK.one{sz n:Nat}{v:AV}{l:List AV}(h:cK S sz v n l):v.one=true:=by
 rcases h with⟨rfl,_⟩|⟨b,c,ex,cs,rfl,_⟩<;>rfl
theorem azK{m n:Nat}(hpv:C.pv=.iface 57 (.agg []))(O:gX C m n){S0:LS}{H0:AH}{i0 b1 b3:Nat}(hd:d≤200)(hM0:Mem H0 S0)(hp0:bE C S0 i0 d):∀k,k≤n+1→∀(q i:Nat) (e:aO) (c:List AV) (H:AH) (S:LS),k≤q→Mem H S→bE C S i d→je C S0 S b1 b3 c e→Post C (bJ C) d nO K S0 (mL C.T k e i d)→
  sg (eY (s13 m)) K q (.ptr C.bp 0) (.ptr b1 0) (.ptr b3 0) H:=by
 intro k
 induction k with
 |zero=>intro _ q i e c H S _ _ _ _ hP;simp only[mL]at hP;exact False.elim hP
 |succ k ih=>
  intro hk q i e c H S hq hM hp hF hP;obtain⟨q,rfl⟩:∃p,q=p+1:=⟨q-1,by omega⟩
  show DB (eY (s13 m)) K (sg (eY (s13 m)) K q) (DA (eY (s13 m)) K (sg (eY (s13 m)) K q)) (.ptr C.bp 0) (.ptr b1 0) (.ptr b3 0) H;unfold DB;have r1:(eY (s13 m)).1=f23:=rfl;have r2:(eY (s13 m)).2.1=f56:=rfl;have r4:(eY (s13 m)).2.2.2.1=(s13 m).2.2.2.2.1:=rfl;have r5:(eY (s13 m)).2.2.2.2.1=ng:=rfl;have r6:(eY (s13 m)).2.2.2.2.2.1=f130:=rfl;have r7:(eY (s13 m)).2.2.2.2.2.2.1=f164:=rfl;have r9:(eY (s13 m)).2.2.2.2.2.2.2.2=(s13 m).2.2.2.2.2.2.2.2.2.2.2.2.1:=rfl;rw[r1,r2,r4,r5,r6,r7,r9];have hbp:=hp0.eT hM0;simp only[mL]at hP;refine jw hM hp λH1 S1 m1 c1 p1=>?_;rw[aq];refine js ?_;have F1:=hF.keep hM hbp c1.no;refine dF (s:=[46]) (bg (by decide)) m1 p1 λH2 S2 m2 c2 p2=>?_;simp only[aq,aX];have F2:=F1.keep m1 hbp c2;have SG:∀{H:AH}{S:LS}{c:List AV}{e:aO},Mem H S→je C S0 S b1 b3 c e→b1<S.n∧b3<S.n∧S0.n≤S.n:=λm F=>⟨by obtain⟨z,hz,_⟩:=F.o1;exact m.lt (by rw[hz];simp),m.lt (by rw[F.o3];simp),F.x.1⟩
  cases h1:isA C.T [46] i with
  |true=>
   simp only[h1,if_true]at hP p2;rw[aG];refine jw m2 p2 λH3 S3 m3 c3 p3=>?_;rw[aq];refine js ?_;have F3:=F2.keep m2 hbp c3.no;simp only[gQ];refine bZ (bF m3 dB λH4 m4=>?_);refine jc m4 (c:=[.int 0 ((5:Nat):Int),.int 0 (aZ C.T (i+1):Int),.int 0 ((0:Nat):Int),ak [],.int 0 ((0:Nat):Int),.ab,.ab]) (LS.al _ _) rfl rfl (λa h=>?_) λH5 m5=>?_
   ·simp only[List.mem_cons,List.not_mem_nil,or_false]at h;rcases h with rfl|rfl|rfl|rfl|rfl|rfl|rfl<;>rfl
   have c5:ax cD S3 ((S3.push (.ce z7 0)).set S3.n (.ce [.int 0 ((5:Nat):Int),.int 0 (aZ C.T (i+1):Int),.int 0 ((0:Nat):Int),ak [],.int 0 ((0:Nat):Int),.ab,.ab] 0)):=((ax.refl _ _).push _).set (.inr (Nat.le_refl _)) _;have p5:=p3.no m3 c5;have F5:=F3.keep m3 hbp c5.no;have o5:LS.ob _ S3.n=_:=LS.au (S3.push (.ce z7 0)) S3.n (.ce [.int 0 ((5:Nat):Int),.int 0 (aZ C.T (i+1):Int),.int 0 ((0:Nat):Int),ak [],.int 0 ((0:Nat):Int),.ab,.ab] 0);have n3:S0.n≤S3.n:=F3.x.1;refine Au hpv m5 p5 (Post.call hP F5.x (λ_ h=>h) λs j H6 S6 v m6 c6 p6 ⟨hv,h8⟩ hP2=>?_);subst hv;have F6:=F5.keep m5 hbp c6;have o6:=c6.ob m5 o5 λq=>by have q:S3.n=C.bp:=q;omega
   rw[av,Nat.zero_add];refine aS m6 o6 (by omega) (by show 3<7;omega) (jm s) λH7 m7=>?_;have m7:Mem H7 (S6.set S3.n (.ce [.int 0 ((5:Nat):Int),.int 0 (aZ C.T (i+1):Int),.int 0 ((0:Nat):Int),ak s,.int 0 ((0:Nat):Int),.ab,.ab] 0)):=m7;have lt3:=SG m3 F3;have c7:ax (λb=>b=S3.n) S6 (S6.set S3.n (.ce [.int 0 ((5:Nat):Int),.int 0 (aZ C.T (i+1):Int),.int 0 ((0:Nat):Int),ak s,.int 0 ((0:Nat):Int),.ab,.ab] 0)):=(ax.refl (λb=>b=S3.n) S6).set (.inl (rfl:S3.n=S3.n)) _;have F7:je C S0 (S6.set S3.n (.ce [.int 0 ((5:Nat):Int),.int 0 (aZ C.T (i+1):Int),.int 0 ((0:Nat):Int),ak s,.int 0 ((0:Nat):Int),.ab,.ab] 0)) b1 b3 c e:=by
    obtain⟨z,hz,I7⟩:=F6.o1;obtain⟨Q,g1,g2⟩:=F3.re;exact⟨F6.x.set (.inr n3) _,⟨z,(LS.ao _ _ (by omega)).trans hz,I7⟩,(LS.ao _ _ (by omega)).trans F6.o3,F6.n1,F6.n3,F6.ne,Q,g1.go (λb hb=>by
     have h2:=g2 b hb;rw[LS.ao _ _ (by omega),c6.2 b (Nat.lt_of_lt_of_le h2.2.1 c5.1) (λq=>by have q:b=C.bp:=q;omega)];exact c5.2 b h2.2.1 λq=>q) (λ_ h=>h),λb hb=>⟨(g2 b hb).1,Nat.lt_of_lt_of_le (g2 b hb).2.1 (Nat.le_trans c5.1 c6.1),(g2 b hb).2.2⟩⟩
   have p7:=p6.iF hp0 hM0 n3 (.ce [.int 0 ((5:Nat):Int),.int 0 (aZ C.T (i+1):Int),.int 0 ((0:Nat):Int),ak s,.int 0 ((0:Nat):Int),.ab,.ab] 0);unfold DA;rw[r7];refine gz m7 F7.o3 F7.len ?_;refine gz m7 (LS.au _ _ _) rfl ?_;refine F7.two (kind:=9) (op:=0) (at_:=aZ C.T i) (S1:=S3) (H1:=H3) (x:=.mk 5 (aZ C.T (i+1)) 0 s 0 [] []) m7 hbp lt3 (RE.simple h8) λH8 S8 c' m8 c8 F8 r8=>?_;refine jc m8 F8.o3 F8.len r8.len r8.ones λH9 m9=>?_;exact ih (by omega) q j _ _ H9 _ (by omega) m9 ((p7.no m7 c8).iF hp0 hM0 hF.n3 _) (F8.nP r8 λb hb=>hb) hP2
  |false=>
  simp only[h1,Bool.false_eq_true,if_false]at hP p2;rw[aw];refine dF (s:=[91]) (bg (by decide)) m2 p2 λH3 S3 m3 c3 p3=>?_;simp only[aq,aX];have F3:=F2.keep m2 hbp c3;cases h2:isA C.T [91] i with
  |true=>
   simp only[h2,if_true]at hP p3;rw[aG];have lt3:=SG m3 F3;refine gz m3 F3.o3 F3.len ?_;refine O.exp k (by omega) hd m3 p3 (Post.call hP F3.x (λ_ h=>h) λx j H4 S4 v m4 c4 p4 ⟨cb,hv,hR⟩ hP2=>?_);subst hv;have F4:=F3.keep m3 hbp c4;refine gz m4 F4.o3 F4.len ?_;refine bA (by obtain⟨Q,h1,_⟩:=F4.re;exact h1.same) ?_;refine F4.two (kind:=9) (op:=0) (S1:=S3) (H1:=H3) m4 hbp lt3 hR λH5 S5 c' m5 c5 F5 r5=>?_;refine jc m5 F5.o3 F5.len r5.len r5.ones λH6 m6=>?_;have F6:=F5.nP r5 λb hb=>hb;have p6:=(p4.no m4 c5).iF hp0 hM0 hF.n3 (.ce c' 0);refine gP (s:=[93]) hpv (bg (by decide)) m6 p6 (Post.call (jM:=oQ) hP2 F6.x (λ_ h=>h) λ_ j' H7 S7 w m7 c7 p7 _ hP3=>?_);exact ih (by omega) q j' _ _ H7 S7 (by omega) m7 p7 (F6.keep m6 hbp c7) hP3
  |false=>
  simp only[h2,Bool.false_eq_true,if_false]at hP p3;rw[aw];refine dF (s:=[40]) (bg (by decide)) m3 p3 λH4 S4 m4 c4 p4=>?_;simp only[aq,aX];have F4:=F3.keep m3 hbp c4;cases h3:isA C.T [40] i with
  |true=>
   simp only[h3,if_true]at hP p4;rw[aG];have lt4:=SG m4 F4;refine gz m4 F4.o3 F4.len ?_;refine m4.bP ?_;rw[gK];refine ia F4.len ?_;rw[CW F4.len rfl];obtain⟨Q,g1,g2⟩:=F4.re;refine cZ m4 (by rw[F4.len]) g1.ones λH5 m5=>bA (uG (by rw[m5.n,m4.n];rfl)) ?_;have c5:ax cD S4 (S4.push (.ce c 0)):=(ax.refl _ _).push _;have F5:=F4.keep m4 hbp c5.no;refine O.args k (by omega) hd m5 (p4.no m4 c5) ?_;cases ha:jG C.T k true [] (i+1) d with
   |dZ=>rw[ha]at hP;exact hP
   |err cc j=>
    rw[ha]at hP;exact λH6 S6 m6 c6 e6=>by show cR K (.cj C.pv) H6 _;rw[dt];exact hP H6 S6 m6 (F5.x.trans c6) e6
   |ok l j=>
   rw[ha]at hP;have hll:=SF C.T k true [] (i+1) d l j (by simp) ha;intro H6 S6 v m6 c6 p6 hv;obtain⟨cl,hsl,hre⟩:=hv;rw[aq];have F6:=F5.keep m5 hbp c6;have o6:S6.ob S4.n=.ce c 0:=c6.ob m5 (LS.al _ _) λq=>by have q:S4.n=C.bp:=q;omega
   refine gz m6 F6.o3 F6.len ?_;refine bA g1.same ?_;have fr:cK S6 7 (.slice S4.n 0 1 1 7 true) 1 c:=.inr ⟨S4.n,1,true,c,rfl,o6,by rw[F4.len],Nat.le_refl _,by rw[F4.len],List.take_of_length_le (Nat.le_refl _),g1.ones⟩;refine al2 (n':=l.length) m6 fr (.inr (by simp)) (by omega) hsl (λi hi=>(hre i _ (List.getElem?_eq_getElem hi)).ones) (by omega) λH7 S7 v' l' m7 hl' hcl he=>?_;have n5:S4.n+1≤S6.n:=c6.1;have c7:ax (λb=>b=S4.n) S6 S7:=⟨he.1,λb hb hx=>he.2.1 b hb hx⟩
   have Vf:S7.ob b3=.ce c 0:=c7.ob m6 F6.o3 λq=>by have q:b3=S4.n:=q;omega
   refine gU (cK.one he.2.2.1) ?_;have hb7:∀b,aF v' b→S4.n≤b∧b<S7.n:=λb hb=>⟨by
    rcases he.2.2.2 b hb with g|g
    ·have g:b=S4.n:=g;omega
    ·omega,he.2.2.1.lt m7 hb⟩
   have x7:ax (bJ C) S0 S7:=F6.x.jv c7 λb hb=>.inr (by have hb:b=S4.n:=hb;omega);have F7:je C S0 S7 b1 b3 c e:=by
    obtain⟨z,hz,I7⟩:=F6.o1;exact⟨x7,⟨z,c7.ob m6 hz λq=>by have q:b1=S4.n:=q;omega,I7⟩,Vf,F6.n1,F6.n3,F6.ne,Q,g1.go (λb hb=>by
     have h2:=g2 b hb;rw[c7.2 b (by omega) (λq=>by have q:b=S4.n:=q;omega),c6.2 b (by show b<S4.n+1;omega) (λq=>by have q:b=C.bp:=q;omega)];exact LS.bq _ _ h2.2.1) (λ_ h=>h),λb hb=>⟨(g2 b hb).1,by have:=(g2 b hb).2.1;have:=c7.1;omega,(g2 b hb).2.2⟩⟩
   have hnew:RE S7 (λb=>S0.n≤b∧b<S7.n∧b≠b1∧b≠b3) [.int 0 ((10:Nat):Int),.int 0 (aZ C.T i:Int),.int 0 ((0:Nat):Int),ak [],.int 0 ((0:Nat):Int),v',.ab] (.mk 10 (aZ C.T i) 0 [] 0 (e::l) []):=by
    refine .mk 10 (aZ C.T i) 0 [] 0 (e::l) [] v' .ab _ (λ_=>[]) B8.nil (by rw[List.length_cons,Nat.add_comm];exact he.2.2.1.slR λb hb=>⟨by have:=hb7 b hb;omega,(hb7 b hb).2,by have:=hb7 b hb;omega,by have:=hb7 b hb;omega⟩) (λi' e' h=>?_) (bW.nil _ _ _ _) (λi e h=>by simp at h);cases i' with
    |zero=>
     have e1:e=e':=by simpa using h
     subst e1;obtain⟨Q7,r1,r2⟩:=F7.re;have ec:((c++l').drop (0*7)).take 7=c:=by rw[Nat.zero_mul,List.drop_zero];exact List.take_left' F4.len
     rw[ec];exact r1.go (λ_ _=>rfl) r2
    |succ i'=>
     have h':l[i']? = some e':=by simpa using h
     have hi':=(List.getElem?_eq_some_iff.1 h').1;have ec:((c++l').drop ((i'+1)*7)).take 7=cl i':=by
      rw[Nat.add_mul,Nat.one_mul,Nat.add_comm,←List.drop_drop,List.drop_left' F4.len];exact hcl i' hi'
     rw[ec];exact(hre i' e' h').go (λb hb=>c7.2 b hb.2 λq=>by have q:b=S4.n:=q;have:=hb.1;have:S4.n+1≤b:=hb.1;omega) λb hb=>by
      have h4:S4.n+1≤b:=hb.1;have h5:=hb.2;have h6:=c7.1;exact⟨by omega,by omega,by omega,by omega⟩
   refine jc m7 Vf F4.len rfl (λa h=>hnew.ones a h) λH8 m8=>?_;have p7:bE C S7 j d:=p6.keep m6 c7 (λq=>by have q:C.bp=S4.n:=q;omega) (λb hb q=>by have q:b=S4.n:=q;have:=hp0.tk.lt hM0 hb;omega);exact ih (by omega) q j _ _ H8 _ (by omega) m8 (p7.iF hp0 hM0 hF.n3 _) (F7.nP hnew λb hb=>hb) hP
  |false=>
   simp only[h3,Bool.false_eq_true,if_false]at hP p4;rw[aw];exact F4.fin m4 hM0 hp0 p4 hP
end
section
variable {H:AH}{S:LS}{K:KF}{C:Ctx}{i d:Nat}
theorem NA{T:List Tok}{i:Nat}{k:Int→Prop}(h:k (cg T i:Int)):fW (.agg (fa T i)) λl12=>cE l12 0 λv13=>cI 0 v13 k:=by
 show cI 0 (.int 0 (cg T i:Int)) k;rw[az];exact h
theorem azL{m n:Nat}(hn:n≤900000)(hpv:C.pv=.iface 57 (.agg []))(O:gX C m n):∀k,k≤n+1→qI C (s13 (m+1)).2.2.2.2.2.2.2.2.2.1 (oK C.T k):=by
 intro k hk K H S i d hd hM hp hP;cases k with
 |zero=>simp only[oK]at hP;exact False.elim hP
 |succ k=>
  have e:(s13 (m+1)).2.2.2.2.2.2.2.2.2.1=wR (eY (s13 m)):=by rw[pV]
  rw[e];have r1:(eY (s13 m)).1=f23:=rfl;have r3:(eY (s13 m)).2.2.1=f94:=rfl;have r8:(eY (s13 m)).2.2.2.2.2.2.2.1=(s13 m).2.2.2.2.2.2.2.2.2.2.2.1:=rfl;unfold wR Vs JU JV;rw[r1,r3,r8,gQ];simp only[oK]at hP;have hbp:=hp.eT hM;have cQ:G.NL=1000000:=rfl;generalize G.NL=iC at cQ ⊢;refine bZ (bF hM dB λH1 m1=>?_);have c1:ax cD S (S.push (.ce z7 0)):=(ax.refl _ _).push _;have p1:=hp.no hM c1;have o1:(S.push (.ce z7 0)).ob S.n=.ce z7 0:=LS.al _ _;have gY:¬bJ C S.n:=λq=>by have q:S.n=C.bp:=q;omega
  have loop:∀{H2:AH}{S2:LS},Mem H2 S2→bE C S2 i d→ax cD S S2→S2.ob S.n=.ce z7 0→Post C (bJ C) d nO K S ((jL C.T k i d).bind λe j=>mL C.T k e j d)→
    (s13 m).2.2.2.2.2.2.2.2.2.2.2.1 (.ptr C.bp 0) H2 (λQD ik=>cR K QD ik λv20=>cm ik (cW Tryz.prog (aA ik) 49 λv21 jC=>ag 7 v21 v20 jC λnh=>DC (eY (s13 m)) K (sg (eY (s13 m)) K iC) (.ptr C.bp 0) (.ptr S.n 0) v21 nh)):=by
   intro H2 S2 m2 p2 c2 o2 hP;have n2:S.n<S2.n:=m2.lt (by rw[o2];simp);refine O.simple k (by omega) hd m2 p2 (Post.call hP c2.no (λ_ h=>h) λe j H3 S3 v m3 c3 p3 ⟨c,hv,hR⟩ hP2=>?_);subst hv;simp only[gQ];refine bZ (bF m3 dB λH4 m4=>?_);refine jc m4 (LS.al _ _) rfl hR.len hR.ones λH5 m5=>?_;have c4:ax cD S3 ((S3.push (.ce z7 0)).set S3.n (.ce c 0)):=((ax.refl _ _).push _).set (.inr (Nat.le_refl _)) _;have F:=je.mk0 (C:=C) hbp rfl (c2.no.trans c3) m3 (c3.ob m2 o2 gY) (hR.go (λ_ _=>rfl) λb hb=>⟨by have:=hb.1;omega,hb.2⟩);unfold DC;exact azK hpv O hd hM hp k (by omega) iC j e c H5 _ (by omega) m5 (p3.no m3 c4) F hP2
  refine jw m1 p1 λH2 S2 m2 c2 p2=>?_;rw[aq];refine NA ?_;have c12:=c1.trans c2;have o2:=c2.ob m1 o1 λq=>q;have e2:Int.ofNat 2=((2:Nat):Int):=rfl;rw[bD,e2];by_cases g:cg C.T i=2
  ·rw[if_pos (.inl g)]at hP;rw[decide_eq_true (by omega)];simp only[Bool.not_true,aw];exact loop m2 p2 c12 o2 hP
  ·rw[decide_eq_false (by omega)];simp only[Bool.not_false,aG];refine sT (s:=[40]) (bg (by decide)) m2 p2 λH3 S3 m3 c3 p3=>?_;simp only[aq,aX];have o3:=c3.ob m2 o2 λq=>q;have c13:=c12.trans c3;cases h1:isA C.T [40] i with
   |true=>
    rw[if_pos (.inr h1)]at hP;simp only[Bool.not_true,aw];exact loop m3 p3 c13 o3 hP
   |false=>
    rw[if_neg (by rintro(q|q);exact g q;rw[h1]at q;cases q)]at hP;simp only[Bool.not_false,aG];have n3:S.n<S3.n:=m3.lt (by rw[o3];simp);refine O.simple k (by omega) hd m3 p3 (Post.tail hP c13.no (λ_ h=>h) λe j H6 S6 v m6 c6 p6 ⟨c,hv,hR⟩ hfin=>?_);subst hv;refine jc m6 (c6.ob m3 o3 gY) rfl hR.len hR.ones λH7 m7=>?_;refine gz m7 (LS.au _ _ _) hR.len ?_;exact hfin H7 _ _ m7 ((c13.no.trans c6).set (.inr (Nat.le_refl _)) _) (p6.iF hp hM (Nat.le_refl _) _) ⟨c,rfl,hR.go (λb hb=>LS.ao _ _ (by have:=hb.1;omega)) λb hb=>⟨by have:=hb.1;omega,hb.2⟩⟩
end
section
variable {H:AH}{S:LS}{K:KF}{C:Ctx}{i d:Nat}
def z4:List AV:=[.int 0 (.ofNat 0),.str 0 0,.int 0 (.ofNat 0),.int 0 (.ofNat 0)]
theorem SI:∀a∈z4,a.one=true:=by
 intro a ha;simp only[z4,List.mem_cons,List.not_mem_nil,or_false]at ha;rcases ha with rfl|rfl|rfl|rfl<;>rfl
theorem Gj{T:List Tok}{i:Nat}:∀a∈fa T i,a.one=true:=by
 intro a ha;simp only[fa,List.mem_cons,List.not_mem_nil,or_false]at ha;rcases ha with rfl|rfl|rfl|rfl<;>rfl
theorem xy{T:List Tok}{s:List Nat}{i:Nat}(h:isA T s i=true):cg T i≠0:=by
 rw[SD]at h;simp only[Bool.and_eq_true,Bool.or_eq_true,decide_eq_true_eq]at h;omega
theorem azM{m n:Nat}(hpv:C.pv=.iface 57 (.agg []))(O:gX C m n):∀k,k≤n+1→qI C (s13 (m+1)).2.2.2.2.2.2.2.2.2.2.2.1 (jL C.T k):=by
 intro k hk K H S i d hd hM hp hP;cases k with
 |zero=>simp only[jL]at hP;exact False.elim hP
 |succ k=>
  have e:(s13 (m+1)).2.2.2.2.2.2.2.2.2.2.2.1=wT (iy (s13 m)):=by rw[pV]
  rw[e];have r1:(iy (s13 m)).1=f23:=rfl;have r2:(iy (s13 m)).2.1=f25:=rfl;have r3:(iy (s13 m)).2.2.1=f56:=rfl;have r4:(iy (s13 m)).2.2.2.1=f94:=rfl;have r5:(iy (s13 m)).2.2.2.2.1=(s13 m).2.2.2.2.1:=rfl;have r6:(iy (s13 m)).2.2.2.2.2.1=ng:=rfl;have r7:(iy (s13 m)).2.2.2.2.2.2.1=(s13 m).2.2.2.2.2.2.2.1:=rfl;have r8:(iy (s13 m)).2.2.2.2.2.2.2=(s13 m).2.2.2.2.2.2.2.2.2.2.2.2.2.2.1:=rfl;unfold wT Vw J2;rw[r1,r2,r3,r4,r5,r7,r8,gQ];simp only[jL]at hP;have hbp:=hp.eT hM;refine bZ (bF hM dB λH1 m1=>?_);have c1:ax cD S (S.push (.ce z7 0)):=(ax.refl _ _).push _;have o1:(S.push (.ce z7 0)).ob S.n=.ce z7 0:=LS.al _ _;refine jw m1 (hp.no hM c1) λH2 S2 m2 c2 p2=>?_;rw[aq];have c12:=c1.trans c2;have o2:=c2.ob m1 o1 λq=>q;have n2:S.n<S2.n:=m2.lt (by rw[o2];simp);refine bZ (bF m2 SI λH3 m3=>?_);refine hV m3 (LS.al S2 (.ce z4 0)) (by omega) rfl (by show 0+4≤4;omega) Gj λH4 m4=>?_;have m4:Mem H4 ((S2.push (.ce z4 0)).set S2.n (.ce (fa C.T i) 0)):=m4;have c4:ax cD S2 ((S2.push (.ce z4 0)).set S2.n (.ce (fa C.T i) 0)):=((ax.refl _ _).push _).set (.inr (Nat.le_refl _)) _;have SJ:((S2.push (.ce z4 0)).set S2.n (.ce (fa C.T i) 0)).ob S2.n=.ce (fa C.T i) 0:=LS.au _ _ _;have n4:((S2.push (.ce z4 0)).set S2.n (.ce (fa C.T i) 0)).n=S2.n+1:=rfl;have o4:=c4.ob m2 o2 λq=>q;have p4:=p2.no m2 c4;revert m4 c4 SJ n4 o4 p4;generalize (S2.push (.ce z4 0)).set S2.n (.ce (fa C.T i) 0)=S4;intro m4 c4 SJ n4 o4 p4;generalize S2.n=bT at n2 SJ n4 ⊢;have c14:=c12.trans c4;simp only[av,Nat.zero_add,gQ];refine aj m4 SJ (v:=.int 0 (aZ C.T i:Int)) rfl ?_;rw[az];refine bZ (bF m4 dB λH5 m5=>?_);generalize hC0:([.int 0 (.ofNat 0),.int 0 (aZ C.T i:Int),.int 0 (.ofNat 0),.str 0 0,.int 0 (.ofNat 0),.ab,.ab]:List AV)=C0;have R0:RE S4 cD C0 (.mk 0 (aZ C.T i) 0 [] 0 [] []):=by rw[←hC0];exact RE.simple B8.nil
  refine jc m5 (LS.al _ _) rfl R0.len R0.ones λH6 m6=>?_;have F6:je C S ((S4.push (.ce z7 0)).set S4.n (.ce C0 0)) S.n S4.n C0 (.mk 0 (aZ C.T i) 0 [] 0 [] []):=je.mk0 (C:=C) hbp rfl c14.no m4 o4 (R0.go (λ_ _=>rfl) λb hb=>hb.elim);have c6:ax cD S4 ((S4.push (.ce z7 0)).set S4.n (.ce C0 0)):=((ax.refl _ _).push _).set (.inr (Nat.le_refl _)) _;have p6:=p4.no m4 c6;have uC:=c6.ob m4 SJ λq=>q;revert m6 F6 c6 p6 uC;generalize (S4.push (.ce z7 0)).set S4.n (.ce C0 0)=S6;intro m6 F6 c6 p6 uC;generalize hb3:S4.n=b3 at F6 ⊢;have nT:bT≠b3:=by omega
  have Gk:¬bJ C bT:=λq=>by have q:bT=C.bp:=q;omega
  have gY:¬bJ C S.n:=λq=>by have q:S.n=C.bp:=q;omega
  have adv:∀{H1:AH}{S1:LS}{c:List AV}{e:aO},Mem H1 S1→bE C S1 i d→cg C.T i≠0→je C S S1 S.n b3 c e→Post C (bJ C) d nO K S (.ok e (i+1))→zC (iy (s13 m)) K (.ptr C.bp 0) (.ptr S.n 0) (.ptr b3 0) H1:=by
   intro H1 S1 c e m1 p1 hk F hP;unfold zC J1;simp only[aW,av,Nat.zero_add];have hlt:=mA (i:=i) C.ok hk;have hfew:=C.few;refine aj m1 p1.ob (v:=.int 0 (i:Int)) rfl ?_;simp only[az,eo,fN];refine w0 (by omega) (by omega) ?_;refine aS m1 p1.ob (by omega) (by show 1<4;omega) rfl λH2 m2=>?_;exact(F.keep m1 hbp (ax.Gi (ax.refl _ _) _)).fin m2 hM hp (p1.set (e:=d) hlt) hP
  have awq:∀{r:cG aO}{H1:AH}{S1:LS}{F:KF→Prop},Mem H1 S1→ax (bJ C) S S1→S1.ob S.n=.ce z7 0→Post C (bJ C) d nO K S r→
    (∀K',Post C (bJ C) d nO K' S1 r→F K')→F (λo72 H73=>cR K o72 H73 λv74=>ag 7 (.ptr S.n 0) v74 H73 λH75=>aM 7 (.ptr S.n 0) H75 λv76=>K (.ret v76) H75):=by
   intro r H1 S1 F m1 c1 o1 hP hF;have n1:S.n<S1.n:=m1.lt (by rw[o1];simp);refine hF _ (Post.tail hP c1 (λ_ h=>h) λe j H6 S6 v m6 c6 p6 ⟨c,hv,hR⟩ hfin=>?_);subst hv;refine jc m6 (c6.ob m1 o1 gY) rfl hR.len hR.ones λH7 m7=>?_;refine gz m7 (LS.au _ _ _) hR.len ?_;exact hfin H7 _ _ m7 ((c1.trans c6).set (.inr (Nat.le_refl _)) _) (p6.iF hp hM (Nat.le_refl _) _) ⟨c,rfl,hR.go (λb hb=>LS.ao _ _ (by have:=hb.1;omega)) λb hb=>⟨by have:=hb.1;omega,hb.2⟩⟩
  have hkind:∀{k:Int→Prop},k (cg C.T i:Int)→af (.ptr bT 0) H6 λv=>cI 0 v k:=λh=>aj m6 uC (v:=.int 0 (cg C.T i:Int)) rfl (by rw[az];exact h);have e2:Int.ofNat 2=((2:Nat):Int):=rfl;have e3:Int.ofNat 3=((3:Nat):Int):=rfl;have e4:Int.ofNat 4=((4:Nat):Int):=rfl;subst hC0;refine hkind ?_;rw[bD,e3];by_cases g3:cg C.T i=3
  ·rw[if_pos g3]at hP;rw[decide_eq_true (by omega),aG];refine aj m6 uC (v:=.int 0 (xv C.T i:Int)) rfl ?_;rw[az];refine aS (v:=.int 0 ((4:Nat):Int)) m6 F6.o3 (by omega) (by show 0<7;omega) rfl λH7 m7=>?_;have F7:=F6.nP (c':=[.int 0 ((4:Nat):Int),.int 0 (aZ C.T i:Int),.int 0 ((0:Nat):Int),ak [],.int 0 ((0:Nat):Int),.ab,.ab]) (e':=.mk 4 (aZ C.T i) 0 [] 0 [] []) (Q:=cD) (RE.simple B8.nil) λb hb=>hb.elim;refine aj m7 ((LS.ao _ _ nT).trans uC) (v:=.int 0 (xv C.T i:Int)) rfl ?_;rw[az];refine bA (qX _ _) ?_;refine aS (v:=.int 0 (xv C.T i:Int)) m7 F7.o3 (by omega) (by show 2<7;omega) rfl λH8 m8=>?_;have F8:=F7.nP (c':=[.int 0 ((4:Nat):Int),.int 0 (aZ C.T i:Int),.int 0 (xv C.T i:Int),ak [],.int 0 ((0:Nat):Int),.ab,.ab]) (e':=.mk 4 (aZ C.T i) (xv C.T i) [] 0 [] []) (Q:=cD) (RE.simple B8.nil) λb hb=>hb.elim;exact adv m8 ((p6.iF hp hM F6.n3 _).iF hp hM F6.n3 _) (by omega) F8 hP
  rw[if_neg g3]at hP;rw[decide_eq_false (by omega),aw];refine hkind ?_;rw[bD,e4];by_cases g4:cg C.T i=4
  ·rw[if_pos g4]at hP;rw[decide_eq_true (by omega),aG];refine aj m6 uC (v:=ak (ft C.T i)) rfl ?_;refine aS (v:=.int 0 ((5:Nat):Int)) m6 F6.o3 (by omega) (by show 0<7;omega) rfl λH7 m7=>?_;have F7:=F6.nP (c':=[.int 0 ((5:Nat):Int),.int 0 (aZ C.T i:Int),.int 0 ((0:Nat):Int),ak [],.int 0 ((0:Nat):Int),.ab,.ab]) (e':=.mk 5 (aZ C.T i) 0 [] 0 [] []) (Q:=cD) (RE.simple B8.nil) λb hb=>hb.elim;refine aj m7 ((LS.ao _ _ nT).trans uC) (v:=ak (ft C.T i)) rfl ?_;refine bA (uV _ _) ?_;refine aS m7 F7.o3 (by omega) (by show 3<7;omega) (jm _) λH8 m8=>?_;have F8:=F7.nP (c':=[.int 0 ((5:Nat):Int),.int 0 (aZ C.T i:Int),.int 0 ((0:Nat):Int),ak (ft C.T i),.int 0 ((0:Nat):Int),.ab,.ab]) (e':=.mk 5 (aZ C.T i) 0 (ft C.T i) 0 [] []) (Q:=cD) (RE.simple (wi C i)) λb hb=>hb.elim;exact adv m8 ((p6.iF hp hM F6.n3 _).iF hp hM F6.n3 _) (by omega) F8 hP
  rw[if_neg g4]at hP;rw[decide_eq_false (by omega),aw];refine hkind ?_;rw[bD,e2];by_cases g2:cg C.T i=2
  ·rw[if_pos g2]at hP;rw[decide_eq_true (by omega),aG];refine aj m6 uC (v:=ak (ft C.T i)) rfl ?_;refine aS (v:=.int 0 ((6:Nat):Int)) m6 F6.o3 (by omega) (by show 0<7;omega) rfl λH7 m7=>?_;have F7:=F6.nP (c':=[.int 0 ((6:Nat):Int),.int 0 (aZ C.T i:Int),.int 0 ((0:Nat):Int),ak [],.int 0 ((0:Nat):Int),.ab,.ab]) (e':=.mk 6 (aZ C.T i) 0 [] 0 [] []) (Q:=cD) (RE.simple B8.nil) λb hb=>hb.elim;refine aj m7 ((LS.ao _ _ nT).trans uC) (v:=ak (ft C.T i)) rfl ?_;refine bA (uV _ _) ?_;refine aS m7 F7.o3 (by omega) (by show 3<7;omega) (jm _) λH8 m8=>?_;have F8:=F7.nP (c':=[.int 0 ((6:Nat):Int),.int 0 (aZ C.T i:Int),.int 0 ((0:Nat):Int),ak (ft C.T i),.int 0 ((0:Nat):Int),.ab,.ab]) (e':=.mk 6 (aZ C.T i) 0 (ft C.T i) 0 [] []) (Q:=cD) (RE.simple (wi C i)) λb hb=>hb.elim;exact adv m8 ((p6.iF hp hM F6.n3 _).iF hp hM F6.n3 _) (by omega) F8 hP
  rw[if_neg g2]at hP;rw[decide_eq_false (by omega),aw];have lone:∀{H1:AH}{S1:LS}{c:List AV}{e:aO}(kd:Nat) , pS C.T i=kd→kd≠0→cg C.T i≠0→c=[.int 0 (.ofNat 0),.int 0 (aZ C.T i:Int),.int 0 (.ofNat 0),.str 0 0,.int 0 (.ofNat 0),.ab,.ab]→Mem H1 S1→bE C S1 i d→je C S S1 S.n b3 c e→
    ag 1 (.ptr b3 0) (.int 0 (kd:Int)) H1 λNq=>zC (iy (s13 m)) K (.ptr C.bp 0) (.ptr S.n 0) (.ptr b3 0) Nq:=by
   intro H1 S1 c e kd hkd hk0 hk1 hc m1 p1 F;rw[hkd,if_pos hk0]at hP;subst hc;refine aS m1 F.o3 (by omega) (by show 0<7;omega) rfl λH7 m7=>?_;have F7:=F.nP (c':=[.int 0 (kd:Int),.int 0 (aZ C.T i:Int),.int 0 ((0:Nat):Int),ak [],.int 0 ((0:Nat):Int),.ab,.ab]) (e':=.mk kd (aZ C.T i) 0 [] 0 [] []) (Q:=cD) (RE.simple B8.nil) λb hb=>hb.elim;exact adv m7 (p1.iF hp hM F.n3 _) hk1 F7 hP
  refine sT (s:=[110,105,108]) (bg (by decide)) m6 p6 λH7 S7 m7 c7 p7=>?_;simp only[aq,aX];have F7:=F6.keep m6 hbp c7.no;cases h1:isA C.T [110,105,108] i with
  |true=>
   rw[aG];exact lone 1 (by unfold pS;rw[h1];rfl) (by omega) (xy h1) rfl m7 p7 F7
  |false=>
  rw[aw];refine sT (s:=[116,114,117,101]) (bg (by decide)) m7 p7 λH8 S8 m8 c8 p8=>?_;simp only[aq,aX];have F8:=F7.keep m7 hbp c8.no;cases h2:isA C.T [116,114,117,101] i with
  |true=>
   rw[aG];exact lone 2 (by unfold pS;rw[h1,h2];rfl) (by omega) (xy h2) rfl m8 p8 F8
  |false=>
  rw[aw];refine sT (s:=[102,97,108,115,101]) (bg (by decide)) m8 p8 λH9 S9 m9 c9 p9=>?_;simp only[aq,aX];have F9:=F8.keep m8 hbp c9.no;cases h3:isA C.T [102,97,108,115,101] i with
  |true=>
   rw[aG];exact lone 3 (by unfold pS;rw[h1,h2,h3];rfl) (by omega) (xy h3) rfl m9 p9 F9
  |false=>
  rw[aw];have hl0:pS C.T i=0:=by unfold pS;rw[h1,h2,h3];rfl
  rw[if_neg (by rw[hl0];exact λq=>q rfl)]at hP;have X7:=(c7.trans c8).trans c9;have oT9:=X7.ob m6 uC λq=>q;have o9:S9.ob S.n=.ce z7 0:=(c6.trans X7).ob m4 o4 λq=>q;have x9:ax (bJ C) S S9:=F9.x;refine dF (s:=[102,117,110,99,116,105,111,110]) (bg (by decide)) m9 p9 λHa Sa ma ca pa=>?_;simp only[aq,aX];have oTa:=ca.ob m9 oT9 Gk;have oa:=ca.ob m9 o9 gY;have Fa:=F9.keep m9 hbp ca;cases h4:isA C.T [102,117,110,99,116,105,111,110] i with
  |true=>
   simp only[h4,if_true]at hP pa;rw[aG];refine aj ma oTa (v:=.int 0 (aZ C.T i:Int)) rfl ?_;rw[az];exact awq (F:=λK'=>(s13 m).2.2.2.2.2.2.2.1 (.ptr C.bp 0) (aZ C.T i:Int) Ha K') ma Fa.x oa hP λK' h=>O.body k (by omega) hd ma pa h
  |false=>
  simp only[h4,Bool.false_eq_true,if_false]at hP pa;rw[aw];refine dF (s:=[123]) (bg (by decide)) ma pa λHb Sb mb cb pb=>?_;simp only[aq,aX];have oTb:=cb.ob ma oTa Gk;have ob:=cb.ob ma oa gY;have Fb:=Fa.keep ma hbp cb;cases h5:isA C.T [123] i with
  |true=>
   simp only[h5,if_true]at hP pb;rw[aG];refine aj mb oTb (v:=.int 0 (aZ C.T i:Int)) rfl ?_;rw[az];exact awq (F:=λK'=>(s13 m).2.2.2.2.2.2.2.2.2.2.2.2.2.2.1 (.ptr C.bp 0) (aZ C.T i:Int) Hb K') mb Fb.x ob hP λK' h=>O.table k (by omega) hd mb pb h
  |false=>
  simp only[h5,Bool.false_eq_true,if_false]at hP pb;rw[aw];refine dF (s:=[40]) (bg (by decide)) mb pb λHc Sc mc cc pc=>?_;simp only[aq,aX];have Fc:=Fb.keep mb hbp cc;cases h6:isA C.T [40] i with
  |true=>
   simp only[h6,if_true]at hP pc;rw[aG];refine O.exp k (by omega) hd mc pc (Post.call hP Fc.x (λ_ h=>h) λx j Hd Sd v md cd pd ⟨c,hv,hR⟩ hP2=>?_);subst hv;have Fd:=Fc.keep mc hbp cd;have n1c:S.n<Sc.n∧b3<Sc.n:=⟨by obtain⟨z,hz,_⟩:=Fc.o1;exact mc.lt (by rw[hz];simp),mc.lt (by rw[Fc.o3];simp)⟩
   refine jc md Fd.o3 Fd.len hR.len hR.ones λHe me=>?_;have Fe:=Fd.nP hR λb hb=>⟨by have:=hb.1;omega,hb.2,by have:=hb.1;omega,by have:=hb.1;omega⟩
   unfold J0 JZ;rw[r6];refine gP (s:=[41]) hpv (bg (by decide)) me (pd.iF hp hM Fd.n3 _) (Post.call (jM:=oQ) hP2 Fe.x (λ_ h=>h) λ_ j' Hf Sf w mf cf pf _ hP3=>?_);exact(Fe.keep me hbp cf).fin mf hM hp pf hP3
  |false=>
  simp only[h6,Bool.false_eq_true,if_false]at hP pc;rw[aw];refine pK (c:=14) hpv mc pc λHd Sd md cd ed=>?_;rw[dt];exact hP Hd Sd md (Fc.x.trans cd) ed
end
end Go.Proofs.YtcedghechlgecaaGreatDoor
namespace Go.X
section
variable {H:AH}{S:LS}
theorem df.same{α:Type}{R:Rep α}{lo:Nat}{v:AV}{l:List α}(h:df R lo S v l):aH v v=true:=by
 obtain⟨cl,h1,_⟩:=h;rcases h1 with⟨rfl,_⟩|⟨b,c,ex,cs,rfl,_⟩
 ·rfl
 ·simp[aH]
theorem df.one{α:Type}{R:Rep α}{lo:Nat}{v:AV}{l:List α}(h:df R lo S v l):v.one=true:=by
 obtain⟨cl,h1,_⟩:=h;rcases h1 with⟨rfl,_⟩|⟨b,c,ex,cs,rfl,_⟩<;>rfl
theorem df.lo{α:Type}{R:Rep α}{lo:Nat}{v:AV}{l:List α}(h:df R lo S v l){b:Nat}(hb:aF v b):lo≤b:=by
 obtain⟨_,_,_,h3,_⟩:=h;exact h3 b hb
theorem df.ayd{α:Type}{R:Rep α}{lo:Nat}{v v':AV}{l l2:List α}{S':LS}{pL:List (List AV)}(h:df R lo S v l)(h2l:pL.length=l2.length)(hr:∀(i:Nat) (c:List AV) (a:α),pL[i]? = some c→l2[i]? = some a→∃Q,R.rel S Q c a∧∀b,Q b→lo≤b∧b<S.n∧¬aF v b)(hlo:lo≤S.n)
  (hs:∀cl,cK S R.sz v l.length cl→uH S v (l.length+l2.length) R.sz (cl++pL.flatten) S' v'):df R lo S' v' (l++l2):=by
 obtain⟨cl,h1,h2,h3,h4⟩:=h;obtain⟨a1,a2,a3,a4⟩:=hs _ h1;refine⟨cl++pL,?_,by simp[h2,h2l],λb hb'=>?_,λi c' a' hc ha=>?_⟩
 ·rw[List.flatten_append,List.length_append];exact a3
 ·rcases a4 b hb' with g|g
  ·exact h3 b g
  ·omega
 ·have fin:∀{Q:Nat→Prop}{c:List AV}{a:α},R.rel S Q c a→(∀b,Q b→lo≤b∧b<S.n∧¬aF v b)→∃Q,R.rel S' Q c a∧∀b,Q b→lo≤b∧b<S'.n∧¬aF v' b:=λ{Q c a} g1 g2=>
   ⟨Q,R.go (λb hb=>a2 b (g2 b hb).2.1 (g2 b hb).2.2) (λ_ h=>h) g1,λb hb=>⟨(g2 b hb).1,Nat.lt_of_lt_of_le (g2 b hb).2.1 a1,λhb'=>by
    rcases a4 b hb' with q|q
    ·exact(g2 b hb).2.2 q
    ·have:=(g2 b hb).2.1;omega⟩⟩
  by_cases hi:i<cl.length
  ·rw[List.getElem?_append_left hi]at hc;rw[List.getElem?_append_left (by omega)]at ha;obtain⟨Q,g1,g2⟩:=h4 i c' a' hc ha;exact fin g1 g2
  ·rw[List.getElem?_append_right (by omega)]at hc ha;rw[h2]at hc;obtain⟨Q,g1,g2⟩:=hr _ c' a' hc ha;exact fin g1 g2
theorem df.aye{α:Type}{R:Rep α}{lo bytes:Nat}{v x:AV}{l l2:List α}{pL:Nat→List AV}{Q:Nat→Prop}{k:AV→AH→Prop}(h:df R lo S v l)(hM:Mem H S)(h2:l2.length=2)(hx:bW S Q R.sz x l2.length pL)(hr:∀i e,l2[i]? = some e→R.rel S Q (pL i) e)(hQ:∀b,Q b→lo≤b∧b<S.n∧¬aF v b)(hlo:lo≤S.n)(hl:(l.length+2)*bytes≤1099511627776)
  (hk:∀H' S' v',Mem H' S'→df R lo S' v' (l++l2)→S.n≤S'.n→(∀b,b<S.n→¬aF v b→S'.ob b=S.ob b)→(∀b,aF v' b→aF v b∨S.n≤b)→k v' H'):cV R.sz bytes v x H k:=by
 obtain⟨cl,h1,hh⟩:=id h;have gt:∀i,i<l2.length→(pL i).length=R.sz∧∀a∈pL i,a.one=true:=λi hi=>by
  have g:=hr i _ (List.getElem?_eq_getElem hi);exact⟨R.len g,R.ones g⟩
 refine al2 (n':=l2.length) hM h1 (.inl (by omega)) R.pos hx (λi hi=>(gt i hi).2) (by rw[h2];exact hl) λH' S' v' l' m' hl' hcl he=>?_;have el:l'=([pL 0,pL 1]:List (List AV)).flatten:=by
  have e0:=hcl 0 (by omega);have e1:=hcl 1 (by omega);rw[Nat.zero_mul,List.drop_zero]at e0;rw[Nat.one_mul,List.take_of_length_le (by rw[List.length_drop];rw[h2]at hl';omega)]at e1;rw[←e0,←e1];simp
 refine hk H' S' v' m' (h.ayd (pL:=[pL 0,pL 1]) (by rw[h2];rfl) (λi c a hc ha=>?_) hlo λcl' h'=>?_) he.1 he.2.1 he.2.2.2
 ·have hi:i<l2.length:=(List.getElem?_eq_some_iff.1 ha).1;have ec:c=pL i:=by
   have hi2:i=0∨i=1:=by omega
   rcases hi2 with rfl|rfl<;>(simp at hc;exact hc.symm)
  subst ec;exact⟨Q,hr i a ha,hQ⟩
 ·have e:cl'=cl.flatten:=by
   rcases h1 with⟨e1,e2,e3⟩|⟨b,c1,ex,cs,e1,e2,e3,e4,e5,e6,e7⟩
   ·rcases h' with⟨_,_,g3⟩|⟨b',c1',ex',cs',g1,_⟩
    ·rw[g3,e3]
    ·rw[e1]at g1;cases g1
   ·rcases h' with⟨g1,_⟩|⟨b',c1',ex',cs',g1,g2,g3,g4,g5,g6,g7⟩
    ·rw[e1]at g1;cases g1
    ·rw[e1]at g1;injection g1 with q1;subst q1;rw[e2]at g2;injection g2 with q2;rw[←g6,←e6,g5,e5,q2]
  rw[e,←el];exact he
theorem Post.ayf{C:Ctx}{X Y:Nat→Prop}{S S1:LS}{K:KF}{d d1:Nat}{α β:Type}{jM:LS→(Nat→Prop)→AV→α→Prop}{Rp2:LS→(Nat→Prop)→AV→β→Prop}{r1:cG α}{f:α→Nat→cG β}(h:Post C X d Rp2 K S (r1.bind f))(hx:ax X S S1)(hX:∀b,Y b→X b∨S.n≤b){k:AV→AH→Prop}
  (hk:∀a j H' S' v,r1=.ok a j→Mem H' S'→ax Y S1 S'→bE C S' j d1→jM S' (gE S1.n S'.n) v a→Post C X d Rp2 K S (f a j)→k v H'):Post C Y d1 jM (λo H=>cR K o H λv=>k v H) S1 r1:=by
 cases r1 with
 |ok a j=>exact λH' S' v m c p q=>hk a j H' S' v rfl m c p q h
 |err c j=>exact λH' S' m ch p=>h H' S' m (hx.jv ch hX) p
 |dZ=>exact h
theorem bind_ok{α β:Type}{r:cG α}{f:α→Nat→cG β}{b:β}{j:Nat}(h:r.bind f=.ok b j):∃a i,r=.ok a i∧f a i=.ok b j:=by
 cases r with
 |ok a i=>exact⟨a,i,rfl,h⟩
 |err c i=>cases h
 |dZ=>cases h
theorem al3(T:List Tok)(n c i d:Nat)(r:List aO×Nat)(j:Nat)(h:mM T n c i d=.ok r j):r.1.length=2∧r.2≤c+1:=by
 cases n with
 |zero=>simp only[mM]at h;cases h
 |succ n=>
  simp only[mM]at h;split at h
  ·obtain⟨_,_,_,h⟩:=bind_ok h;obtain⟨_,_,_,h⟩:=bind_ok h;obtain⟨_,_,_,h⟩:=bind_ok h;obtain⟨_,_,_,h⟩:=bind_ok h;cases h;exact⟨rfl,Nat.le_succ _⟩
  ·split at h
   ·obtain⟨_,_,_,h⟩:=bind_ok h;cases h;exact⟨rfl,Nat.le_succ _⟩
   ·obtain⟨_,_,_,h⟩:=bind_ok h;cases h;exact⟨rfl,Nat.le_refl _⟩
end
end Go.X
namespace Go.Proofs.YtcedghechlgecaaGreatDoor
open Go Go.X Go.Proofs.YtcedghechlgecaaGreatDoor.G
section
variable {H:AH}{S:LS}{K:KF}{C:Ctx}{i d:Nat}
def uJ(a:Nat)(v:AV):List AV:=[.int 0 ((8:Nat):Int),.int 0 (a:Int),.int 0 ((0:Nat):Int),ak [],.int 0 ((0:Nat):Int),v,.ab]
structure Bk(C:Ctx)(S0 S:LS)(a c:Nat)(v:AV)(out:List aO):Prop where
 x:ax (bJ C) S0 S
 o1:S.ob S0.n=.ce z7 0
 o3:S.ob (S0.n+1)=.ce (uJ a v) 0
 on:S.ob (S0.n+2)=.ce [.int 0 (c:Int)] 0
 n:S0.n+3≤S.n
 L:df mY (S0.n+3) S v out
theorem Bk.keep{S0 S':LS}{a c:Nat}{v:AV}{out:List aO}(h:Bk C S0 S a c v out)(hM:Mem H S)(hbp:C.bp<S0.n)(g:ax (bJ C) S S'):Bk C S0 S' a c v out:=by
 have nb:∀b,S0.n≤b→¬bJ C b:=λb hb q=>by have q:b=C.bp:=q;omega
 exact⟨h.x.trans g,g.ob hM h.o1 (nb _ (Nat.le_refl _)),g.ob hM h.o3 (nb _ (by omega)),g.ob hM h.on (nb _ (by omega)),Nat.le_trans h.n g.1,h.L.keep hM g.1 λb h1 h2=>g.2 b h2 (nb b (by omega))⟩
theorem Bk.fr{S0:LS}{a c:Nat}{v:AV}{out:List aO}(h:Bk C S0 S a c v out)(hM:Mem H S):je C S0 S S0.n (S0.n+1) (uJ a v) (.mk 8 a 0 [] 0 out []):=by
 obtain⟨cl,g1,g2⟩:=h.L.done hM;exact⟨h.x,⟨z7,h.o1,rfl⟩,h.o3,Nat.le_refl _,by omega,by omega,gE (S0.n+3) S.n,.mk 8 a 0 [] 0 out [] v .ab cl (λ_=>[]) B8.nil g1 g2 (bW.nil _ _ _ _) (λi e h=>by simp at h),λb hb=>⟨by have:=hb.1;omega,hb.2,by have:=hb.1;omega,by have:=hb.1;omega⟩⟩
theorem azN{m n:Nat}(hpv:C.pv=.iface 57 (.agg []))(O:gX C m n){S0:LS}{H0:AH}{i0 a:Nat}(hd:d≤200)(hM0:Mem H0 S0)(hp0:bE C S0 i0 d):∀k,k≤n+1→∀(q i c:Nat) (out:List aO) (v:AV) (H:AH) (S:LS),k≤q→out.length≤128→out.length%2=0→c≤out.length→Mem H S→bE C S i d→Bk C S0 S a c v out→Post C (bJ C) d nO K S0 (kQ C.T k out c a i d)→
  vt (gp (s13 m)) K q (.ptr C.bp 0) (.ptr S0.n 0) (.ptr (S0.n+1) 0) (.ptr (S0.n+2) 0) H:=by
 intro k
 induction k with
 |zero=>intro _ q i c out v H S _ _ _ _ _ _ _ hP;simp only[kQ]at hP;exact False.elim hP
 |succ k ih=>
  intro hk q i c out v H S hq h128 hev hc hM hp t hP;obtain⟨q,rfl⟩:∃p,q=p+1:=⟨q-1,by omega⟩
  have r1:(gp (s13 m)).1=f25:=rfl;have r2:(gp (s13 m)).2.1=f56:=rfl;have r3:(gp (s13 m)).2.2.1=f94:=rfl;have r4:(gp (s13 m)).2.2.2.1=ng:=rfl;have r5:(gp (s13 m)).2.2.2.2=(s13 m).2.2.2.2.2.2.2.2.2.2.2.2.2.2.2.2.1:=rfl;have hbp:=hp0.eT hM0;show DK (gp (s13 m)) K (DJ (gp (s13 m)) K (vt (gp (s13 m)) K q) (vr (gp (s13 m)) K)) (vr (gp (s13 m)) K) (.ptr C.bp 0) (.ptr S0.n 0) (.ptr (S0.n+1) 0) (.ptr (S0.n+2) 0) H;unfold DK;rw[r1,r3];simp only[kQ]at hP;have stop:∀{H1:AH}{S1:LS}{i c:Nat}{v:AV}{out:List aO},Mem H1 S1→bE C S1 i d→Bk C S0 S1 a c v out→Post C (bJ C) d nO K S0 ((dR C.T [125] i).bind λ_ j=>.ok (.mk 8 a 0 [] 0 out []) j)→vr (gp (s13 m)) K (.ptr C.bp 0) (.ptr S0.n 0) (.ptr (S0.n+1) 0) H1:=by
   intro H1 S1 i c v out m1 p1 t1 hP;unfold vr;rw[r4];have F1:=t1.fr m1;refine gP (s:=[125]) hpv (bg (by decide)) m1 p1 (Post.call (jM:=oQ) hP F1.x (λ_ h=>h) λ_ j H2 S2 w m2 c2 p2 _ hP2=>?_);exact(F1.keep m1 hbp c2).fin m2 hM0 hp0 p2 hP2
  refine sT (s:=[125]) (bg (by decide)) hM hp λH1 S1 m1 c1 p1=>?_;simp only[aq,aX];have t1:=t.keep hM hbp c1.no;cases h1:isA C.T [125] i with
  |true=>
   simp only[h1,if_true]at hP;simp only[Bool.not_true,aw];exact stop m1 p1 t1 (by unfold dR;rw[h1];exact hP)
  |false=>
   simp only[h1,Bool.false_eq_true,if_false]at hP;simp only[Bool.not_false,aG,av,Nat.zero_add];refine aj m1 t1.o3 (v:=v) rfl ?_;refine t1.L.afm ?_;have e128:Int.ofNat 128=((128:Nat):Int):=rfl;rw[az,bD,e128];by_cases h2:out.length=128
   ·rw[if_pos h2]at hP;rw[decide_eq_true (by omega),aG];refine pK (c:=8) hpv m1 p1 λH2 S2 m2 c2 e2=>?_;rw[dt];exact hP H2 S2 m2 (t1.x.trans c2) e2
   ·rw[if_neg h2]at hP;rw[decide_eq_false (by omega),aw];unfold DJ;rw[r2,r5];simp only[av,Nat.zero_add];refine aj m1 t1.o3 (v:=v) rfl ?_;have po:∀b,aF C.vT b→b<S0.n:=λb hb=>hp0.tk.lt hM0 hb;refine O.field k (by omega) (c:=c) (bn:=S0.n+2) hd (by omega) m1 p1 t1.on (by omega) (λb hb=>by have:=po b hb;omega) (Post.ayf hP t1.x (λb hb=>by
     rcases hb with hb|hb
     ·exact .inl hb
     ·exact .inr (by omega)) λr j H2 S2 w e2 m2 c2 p2 ⟨⟨cl,hsl,hre⟩,hcn⟩ hP2=>?_)
    have hn2:=c2.1;have hn1:=t1.n;have nx:∀b,S0.n≤b→b≠S0.n+2→¬fJ C (S0.n+2) b:=λb h1 h2 q=>by
     rcases q with q|q
     ·omega
     ·exact h2 q
    have o3:=c2.ob m1 t1.o3 (nx _ (by omega) (by omega));have o1:=c2.ob m1 t1.o1 (nx _ (by omega) (by omega));obtain⟨hr2,hrc⟩:=al3 _ _ _ _ _ _ _ e2;have L2:df mY (S0.n+3) S2 v out:=t1.L.keep m1 c2.1 λb h1 h2=>c2.2 b h2 (nx b (by omega) (by omega));refine aj m2 o3 (v:=v) rfl ?_;refine bA L2.same ?_;refine L2.aye (R:=mY) (bytes:=96) m2 hr2 hsl hre (λb hb=>⟨by have:=hb.1;omega,hb.2,λq=>by have:=t1.L.lt m1 q;have:=hb.1;omega⟩) (by omega) (by omega) λH3 S3 v' m3 L3 n3 k3 b3=>?_;have c3:ax (λb=>aF v b) S2 S3:=⟨n3,λb hb hx=>k3 b hb hx⟩
    have nv:∀b,b<S0.n+3→¬aF v b:=λb hb q=>by have:=t1.L.lo q;omega
    refine aS m3 (c3.ob m2 o3 (nv _ (by omega))) (by omega) (by show 5<7;omega) L3.one λH4 m4=>?_;have m4:Mem H4 (S3.set (S0.n+1) (.ce (uJ a v') 0)):=m4;have p4:bE C (S3.set (S0.n+1) (.ce (uJ a v') 0)) j d:=(p2.keep m2 c3 (nv _ (by omega)) (λb hb q=>nv b (by have:=po b hb;omega) q)).iF hp0 hM0 (by omega) _;have x2:ax (bJ C) S0 S2:=t1.x.jv c2 λb hb=>by
     rcases hb with hb|hb
     ·exact .inl hb
     ·exact .inr (by omega)
    have x3:ax (bJ C) S0 S3:=x2.jv c3 λb hb=>.inr (by have:=t1.L.lo hb;omega);have t4:Bk C S0 (S3.set (S0.n+1) (.ce (uJ a v') 0)) a r.2 v' (out++r.1):=
     ⟨x3.set (.inr (by omega)) _,(LS.ao _ _ (by omega)).trans (c3.ob m2 o1 (nv _ (by omega))),LS.au _ _ _,(LS.ao _ _ (by omega)).trans (c3.ob m2 hcn (nv _ (by omega))),Nat.le_trans hn1 (Nat.le_trans hn2 n3),L3.keep m3 (Nat.le_refl _) λb h1 h2=>LS.ao _ _ (by omega)⟩
    have hlen:(out++r.1).length=out.length+2:=by rw[List.length_append,hr2]
    have go:∀{H5:AH}{S5:LS},Mem H5 S5→bE C S5 (j+1) d→ax (bJ C) (S3.set (S0.n+1) (.ce (uJ a v') 0)) S5→Post C (bJ C) d nO K S0 (kQ C.T k (out++r.1) r.2 a (j+1) d)→vt (gp (s13 m)) K q (.ptr C.bp 0) (.ptr S0.n 0) (.ptr (S0.n+1) 0) (.ptr (S0.n+2) 0) H5:=λ{H5 S5} m5 p5 c5 hP=>ih (by omega) q (j+1) r.2 (out++r.1) v' H5 S5 (by omega) (by omega) (by omega) (by omega) m5 p5 (t4.keep m4 hbp c5) hP;refine dF (s:=[44]) (bg (by decide)) m4 p4 λH5 S5 m5 c5 p5=>?_;simp only[aq,aX];cases h3:isA C.T [44] j with
    |true=>
     rw[if_pos (.inl h3)]at hP2;simp only[h3,if_true]at p5;simp only[Bool.not_true,aw];exact go m5 p5 c5 hP2
    |false=>
     simp only[h3,Bool.false_eq_true,if_false]at p5;simp only[Bool.not_false,aG];refine dF (s:=[59]) (bg (by decide)) m5 p5 λH6 S6 m6 c6 p6=>?_;simp only[aq,aX];cases h4:isA C.T [59] j with
     |true=>
      rw[if_pos (.inr h4)]at hP2;simp only[h4,if_true]at p6;simp only[Bool.not_true,aw];exact go m6 p6 (c5.trans c6) hP2
     |false=>
      rw[if_neg (by rintro(q|q);rw[h3]at q;cases q;rw[h4]at q;cases q)]at hP2;simp only[h4,Bool.false_eq_true,if_false]at p6;simp only[Bool.not_false,aG];exact stop m6 p6 ((t4.keep m4 hbp c5).keep m5 hbp c6) hP2
theorem aoC{a:Nat}:∀x∈uJ a .ab,x.one=true:=λx hx=>(RE.simple (S:=⟨0,λ_=>.ce [] 0⟩) (Q:=cD) (kind:=8) (at_:=a) (n:=0) (op:=0) B8.nil).ones x hx
theorem azO{m n:Nat}(hn:n≤900000)(hpv:C.pv=.iface 57 (.agg []))(O:gX C m n):∀k,k≤n+1→∀{K:KF}{H:AH}{S:LS}{i d a:Nat},d≤200→Mem H S→bE C S i d→Post C (bJ C) d nO K S (kQ C.T k [] 0 a i d)→(s13 (m+1)).2.2.2.2.2.2.2.2.2.2.2.2.2.2.1 (.ptr C.bp 0) (a:Int) H K:=by
 intro k hk K H S i d a hd hM hp hP;have e:(s13 (m+1)).2.2.2.2.2.2.2.2.2.2.2.2.2.2.1=wV (gp (s13 m)):=by rw[pV]
 rw[e];unfold wV VF J9;have cQ:G.NL=1000000:=rfl;generalize G.NL=iC at cQ ⊢;rw[gQ];refine bZ (bF hM dB λH1 m1=>?_);rw[gQ];refine bZ (bF m1 dB λH2 m2=>?_);refine jc m2 (c:=uJ a .ab) (LS.al _ _) rfl rfl aoC λH3 m3=>?_;refine bZ (bF m3 (λx hx=>?_) λH4 m4=>?_)
 ·simp only[List.mem_cons,List.not_mem_nil,or_false]at hx;subst hx;rfl
 refine aS (v:=.int 0 ((0:Nat):Int)) m4 (LS.al _ _) (by omega) (by show 0<1;omega) rfl λH5 m5=>?_;have c1:ax cD S (S.push (.ce z7 0)):=(ax.refl _ _).push _;have c3:ax cD (S.push (.ce z7 0)) (((S.push (.ce z7 0)).push (.ce z7 0)).set (S.n+1) (.ce (uJ a .ab) 0)):=((ax.refl _ _).push _).set (.inr (Nat.le_refl _)) _;have c5:ax cD (((S.push (.ce z7 0)).push (.ce z7 0)).set (S.n+1) (.ce (uJ a .ab) 0)) (((((S.push (.ce z7 0)).push (.ce z7 0)).set (S.n+1) (.ce (uJ a .ab) 0)).push (.ce [.int 0 (.ofNat 0)] 0)).set (S.n+2) (.ce [.int 0 ((0:Nat):Int)] 0)):=((ax.refl _ _).push _).set (.inr (Nat.le_refl _)) _;have t:Bk C S (((((S.push (.ce z7 0)).push (.ce z7 0)).set (S.n+1) (.ce (uJ a .ab) 0)).push (.ce [.int 0 (.ofNat 0)] 0)).set (S.n+2) (.ce [.int 0 ((0:Nat):Int)] 0)) a 0 .ab []:=
  ⟨((c1.trans c3).trans c5).no,(c3.trans c5).ob m1 (LS.al _ _) (λq=>q),c5.ob m3 (LS.au _ _ _) (λq=>q),LS.au _ _ _,Nat.le_refl _,df.nil _ _ _⟩
 exact azN hpv O hd hM hp k hk iC i 0 [] .ab H5 _ (by omega) (by simp) (by simp) (by simp) m5 (hp.no hM ((c1.trans c3).trans c5)) t hP
end
end Go.Proofs.YtcedghechlgecaaGreatDoor
namespace Go.X
theorem awr{a b:Nat}{k:AV→Prop}(h:∀z:Nat,(z=a∧a<b∨z=b∧b≤a)→k (.int 0 (z:Int))):oh xW [.int 0 (a:Int)] (.int 0 (b:Int)) k:=by
 show bI (bO (a:Int) (b:Int)) (k (.int 0 (a:Int))) (k (.int 0 (b:Int)));rw[bz];exact bY (λg=>h a (.inl ⟨rfl,by omega⟩)) (λg=>h b (.inr ⟨rfl,by omega⟩))
theorem aws{a b c d e f g:AV}{l z:List AV}(hl:l.length=7)(hz:z.length=7):spl l (a::b::c::d::e::f::g::z) 7=[a,b,c,d,e,f,g]++l:=by
 match l,hl,z,hz with
 |[_,_,_,_,_,_,_],_,[_,_,_,_,_,_,_],_=>rfl
end Go.X
namespace Go.Proofs.YtcedghechlgecaaGreatDoor
open Go Go.X Go.Proofs.YtcedghechlgecaaGreatDoor.G
section
variable {H:AH}{S:LS}{K:KF}{C:Ctx}{i d:Nat}
theorem _root_.Go.X.ax.two{S S':LS}{bn:Nat}(h:ax (bJ C) S S'):ax (fJ C bn) S S':=h.mono λ_ g=>.inl g
theorem fC{S S1:LS}{H1:AH}{bn c j:Nat}{ca cb:List AV}{x y:aO}{Q:Nat→Prop}(hM:Mem H S)(hp:bE C S i d)(m1:Mem H1 S1)(p1:bE C S1 j d)(x1:ax (fJ C bn) S S1)(ha:RE S1 Q ca x)(hb:RE S1 Q cb y)(hQ:∀b,Q b→S.n≤b∧b<S1.n)(on:S1.ob bn=.ce [.int 0 (c:Int)] 0)
  (hP:Post C (fJ C bn) d (rvF bn) K S (.ok ([x,y],c) j)):bG (aA H1) 2 7 (ca++cb) λv30 mj=>bT (Nat.beq mj.n (Nat.succ H1.n)) (K (.ret v30) mj):=by
 refine cZ m1 (by rw[List.length_append,ha.len,hb.len]) (λa h=>?_) λH2 m2=>bA (uG (by rw[m2.n,m1.n];rfl)) ?_
 ·rcases List.mem_append.1 h with g|g
  ·exact ha.ones a g
  ·exact hb.ones a g
 have c2:ax cD S1 (S1.push (.ce (ca++cb) 0)):=(ax.refl _ _).push _;have go:∀{c:List AV}{e:aO},RE S1 Q c e→RE (S1.push (.ce (ca++cb) 0)) (gE S.n (S1.push (.ce (ca++cb) 0)).n) c e:=λh=>h.go (λb hb=>LS.bq _ _ (hQ b hb).2) λb hb=>⟨(hQ b hb).1,Nat.lt_succ_of_lt (hQ b hb).2⟩
 refine hP H2 _ _ m2 (x1.trans c2.no) (p1.no m1 c2) ⟨⟨_,bW.two (b:=S1.n) (m:=0) (ex:=true) ⟨x1.1,Nat.lt_succ_self _⟩ (LS.al _ _) ha.len hb.len,λi e h=>?_⟩,c2.ob m1 on λq=>q⟩
 match i,h with
 |0,h=>
  have e1:x=e:=by simpa using h
  subst e1;exact go ha
 |1,h=>
  have e1:y=e:=by simpa using h
  subst e1;exact go hb
 |i+2,h=>simp at h
theorem azP{m n:Nat}(hpv:C.pv=.iface 57 (.agg []))(O:gX C m n):∀k,k≤n+1→∀{K:KF}{H:AH}{S:LS}{i d c bn:Nat},d≤200→c≤1000→Mem H S→bE C S i d→S.ob bn=.ce [.int 0 (c:Int)] 0→bn≠C.bp→(∀b,aF C.vT b→b≠bn)→Post C (fJ C bn) d (rvF bn) K S (mM C.T k c i d)→(s13 (m+1)).2.2.2.2.2.2.2.2.2.2.2.2.2.2.2.2.1 (.ptr C.bp 0) (.ptr bn 0) H K:=by
 intro k hk K H S i d c bn hd hc hM hp ho hbn dV hP;cases k with
 |zero=>simp only[mM]at hP;exact False.elim hP
 |succ k=>
  have e:(s13 (m+1)).2.2.2.2.2.2.2.2.2.2.2.2.2.2.2.2.1=wW (lN (s13 m)):=by rw[pV]
  rw[e];have r1:(lN (s13 m)).1=f23:=rfl;have r2:(lN (s13 m)).2.1=f56:=rfl;have r3:(lN (s13 m)).2.2.1=(s13 m).2.2.2.2.1:=rfl;have r4:(lN (s13 m)).2.2.2=ng:=rfl;unfold wW VH Kn;rw[r1,r2,r3,r4];simp only[mM]at hP;have hbp:=hp.eT hM;have aBd:bn<S.n:=hM.lt (by rw[ho];simp);have nbn:¬bJ C bn:=λq=>hbn (by have q:bn=C.bp:=q;exact q);have hfew:=C.few;refine jw hM hp λH1 S1 m1 c1 p1=>?_;rw[aq];refine bZ (bF m1 SI λH2 m2=>?_);refine hV m2 (LS.al S1 (.ce z4 0)) (by omega) rfl (by show 0+4≤4;omega) Gj λH3 m3=>?_;have m3:Mem H3 ((S1.push (.ce z4 0)).set S1.n (.ce (fa C.T i) 0)):=m3;have c3:ax cD S1 ((S1.push (.ce z4 0)).set S1.n (.ce (fa C.T i) 0)):=((ax.refl _ _).push _).set (.inr (Nat.le_refl _)) _;have oT3:((S1.push (.ce z4 0)).set S1.n (.ce (fa C.T i) 0)).ob S1.n=.ce (fa C.T i) 0:=LS.au _ _ _;have p3:=p1.no m1 c3;have c13:=c1.trans c3;have hbT:S.n≤S1.n:=c1.1;revert m3 c3 oT3 p3 c13;generalize (S1.push (.ce z4 0)).set S1.n (.ce (fa C.T i) 0)=S3;intro m3 c3 oT3 p3 c13;generalize S1.n=bT at hbT oT3 ⊢;have on3:=c13.ob hM ho λq=>q;have Gk:¬bJ C bT:=λq=>by have q:bT=C.bp:=q;omega
  refine dF (s:=[91]) (bg (by decide)) m3 p3 λH4 S4 m4 c4 p4=>?_;simp only[aq,aX];have x4:ax (bJ C) S S4:=c13.no.trans c4;have X8:=c4.ob m3 on3 nbn;have SJ:=c4.ob m3 oT3 Gk;have aoD:∀b,S.n≤b→¬bJ C b:=λb hb q=>by have q:b=C.bp:=q;omega
  cases h1:isA C.T [91] i with
  |true=>
   simp only[h1,if_true]at hP p4;rw[aG];refine O.exp k (by omega) hd m4 p4 (Post.call hP (x4.two (bn:=bn)) (λ_ h=>.inl h) λx j H5 S5 v m5 c5 p5 ⟨ca,hv,hR⟩ hP2=>?_);subst hv;simp only[gQ];refine bZ (bF m5 dB λH6 m6=>?_);refine jc m6 (LS.al _ _) rfl hR.len hR.ones λH7 m7=>?_;have c7:ax cD S5 ((S5.push (.ce z7 0)).set S5.n (.ce ca 0)):=((ax.refl _ _).push _).set (.inr (Nat.le_refl _)) _;have x7:ax (bJ C) S ((S5.push (.ce z7 0)).set S5.n (.ce ca 0)):=(x4.trans c5).trans c7.no;refine gP (s:=[93]) hpv (bg (by decide)) m7 (p5.no m5 c7) (Post.call (jM:=oQ) hP2 (x7.two (bn:=bn)) (λ_ h=>.inl h) λ_ j8 H8 S8 w m8 c8 p8 _ hP3=>?_);refine gP (s:=[61]) hpv (bg (by decide)) m8 p8 (Post.call (jM:=oQ) hP3 ((x7.trans c8).two (bn:=bn)) (λ_ h=>.inl h) λ_ j9 H9 S9 w m9 c9 p9 _ CX=>?_);have c79:=c8.trans c9;have n5:S.n≤S5.n:=Nat.le_trans x4.1 c5.1;have o9:=c79.ob m7 (LS.au (S5.push (.ce z7 0)) S5.n (.ce ca 0)) (aoD _ n5);refine gz m9 o9 hR.len ?_;have x9:=x7.trans c79;refine O.exp k (by omega) hd m9 p9 (Post.call CX (x9.two (bn:=bn)) (λ_ h=>.inl h) λy j' Ha Sa v ma ca' pa ⟨cb,hv,hR2⟩ X9=>?_);subst hv;have oa:=ca'.ob m9 o9 (aoD _ n5);refine gz ma oa hR.len ?_;refine bA hR.same ?_;refine ma.bP ?_;rw[gK];refine ia hR.len ?_;rw[gK];refine ia hR2.len ?_;rw[afg hR.len hR2.len rfl];have c5a:ax (bJ C) S5 Sa:=(c7.no.trans c79).trans ca';refine fC (c:=c) (Q:=gE S.n Sa.n) hM hp ma pa ((x9.trans ca').two (bn:=bn)) (hR.go (λb hb=>c5a.2 b hb.2 (aoD b (Nat.le_trans x4.1 hb.1))) λb hb=>⟨Nat.le_trans x4.1 hb.1,Nat.lt_of_lt_of_le hb.2 c5a.1⟩) (hR2.go (λ_ _=>rfl) λb hb=>⟨Nat.le_trans x9.1 hb.1,hb.2⟩) (λb hb=>hb) ?_ X9;exact(x9.trans ca').ob hM ho nbn
  |false=>
   simp only[h1,Bool.false_eq_true,if_false]at hP p4;rw[aw];simp only[aW,av,Nat.zero_add];have hlt:=p4.lt;refine aj m4 p4.ob (v:=C.vT) rfl ?_;refine aj m4 p4.ob (v:=.int 0 (i:Int)) rfl ?_;simp only[az,eo,fN];refine w0 (by omega) (by omega) ?_;refine aj m4 p4.ob (v:=C.vT) rfl ?_;refine p4.tk.len ?_;simp only[az,wH,fN];refine w0 (by omega) (by omega) ?_;rw[show((C.T.length:Nat):Int)-1=((C.T.length-1:Nat):Int) by omega,show((i:Nat):Int)+1=((i+1:Nat):Int) by omega];refine awr λu hu=>?_;rw[az];have awt:u<C.T.length:=by omega
   have hui:cg C.T i=2→u=i+1:=λg=>by have:=mA (i:=i) C.ok (by omega);omega
   refine p4.tk.load m4 awt ?_;rw[Gg awt];refine m4.bP ?_;refine bZ (bF m4 SI λH5 m5=>bA (uG (by rw[m5.n,m4.n];rfl)) ?_);refine hV m5 (LS.al S4 (.ce z4 0)) (by omega) rfl (by show 0+4≤4;omega) Gj λH6 SK=>?_;have m6:Mem H6 ((S4.push (.ce z4 0)).set S4.n (.ce (fa C.T u) 0)):=SK;clear SK;have c6:ax cD S4 ((S4.push (.ce z4 0)).set S4.n (.ce (fa C.T u) 0)):=((ax.refl _ _).push _).set (.inr (Nat.le_refl _)) _;have oU6:((S4.push (.ce z4 0)).set S4.n (.ce (fa C.T u) 0)).ob S4.n=.ce (fa C.T u) 0:=LS.au _ _ _;have uC:=c6.ob m4 SJ λq=>q;have BD:=c6.ob m4 X8 λq=>q;have p6:=p4.no m4 c6;have x6:=x4.trans c6.no;revert m6 c6 oU6 uC BD p6 x6;generalize (S4.push (.ce z4 0)).set S4.n (.ce (fa C.T u) 0)=S6;intro m6 c6 oU6 uC BD p6 x6;generalize S4.n=bU at oU6 ⊢;have aBg:=uC;have third:Post C (fJ C bn) d (rvF bn) K S ((fu C.T k i d).bind λv j=>.ok ([.mk 4 (aZ C.T i) (c+1) [] 1 [] [],v],c+1) j)→DM (lN (s13 m)) K (.ptr C.bp 0) (.ptr bn 0) (.ptr bT 0) H6:=by
    intro hP;unfold DM Kk;rw[r3];refine O.exp k (by omega) hd m6 p6 (Post.call hP (x6.two (bn:=bn)) (λ_ h=>.inl h) λx j H7 S7 v m7 c7 p7 ⟨ca,hv,hR⟩ hP2=>?_);subst hv;rw[gQ];refine bZ (bF m7 dB λH8 m8=>?_);refine jc m8 (LS.al _ _) rfl hR.len hR.ones λH9 m9=>?_;have c9:ax cD S7 ((S7.push (.ce z7 0)).set S7.n (.ce ca 0)):=((ax.refl _ _).push _).set (.inr (Nat.le_refl _)) _;have X7:=c7.trans c9.no;have on9:=X7.ob m6 BD nbn;have oT9:=X7.ob m6 uC Gk;have o9:LS.ob _ S7.n=_:=LS.au (S7.push (.ce z7 0)) S7.n (.ce ca 0);have p9:=p7.no m7 c9;have x9:=x6.trans X7;have n7:S.n≤S7.n:=Nat.le_trans x6.1 c7.1;simp only[aW,av,Nat.zero_add];refine aj m9 on9 (v:=.int 0 (c:Int)) rfl ?_;simp only[az,eo,fN];refine w0 (by omega) (by omega) ?_;rw[show((c:Nat):Int)+1=((c+1:Nat):Int) by omega];refine aS (v:=.int 0 ((c+1:Nat):Int)) m9 on9 (by omega) (by show 0<1;omega) rfl λHa ma=>?_;have ma:Mem Ha (((S7.push (.ce z7 0)).set S7.n (.ce ca 0)).set bn (.ce [.int 0 ((c+1:Nat):Int)] 0)):=ma;have n6:=x6.1;have aBh:bT<S3.n:=m3.lt (by rw[oT3];simp);have onT:bT≠bn:=by omega
    refine aj ma ((LS.ao _ _ onT).trans oT9) (v:=.int 0 (aZ C.T i:Int)) rfl ?_;rw[az];refine aj ma (LS.au _ _ _) (v:=.int 0 ((c+1:Nat):Int)) rfl ?_;rw[az];refine gz ma ((LS.ao _ _ (by omega)).trans o9) hR.len ?_;refine ma.bP ?_;rw[gK];refine ia hR.len ?_;rw[aws hR.len rfl];have xa:ax (fJ C bn) S (((S7.push (.ce z7 0)).set S7.n (.ce ca 0)).set bn (.ce [.int 0 ((c+1:Nat):Int)] 0)):=(x9.two (bn:=bn)).set (.inl (.inr rfl)) _;have pa:bE C (((S7.push (.ce z7 0)).set S7.n (.ce ca 0)).set bn (.ce [.int 0 ((c+1:Nat):Int)] 0)) j d:=p9.keep (X:=λb=>b=bn) m9 ((ax.refl (λb=>b=bn) _).set (.inl rfl) _) (λq=>hbn q.symm) dV;refine fC (c:=c+1) (Q:=gE S.n S7.n) hM hp ma pa xa (RE.simple B8.nil) (hR.go (λb hb=>(LS.ao _ _ (by have:=hb.1;omega)).trans (c9.2 b hb.2 λq=>q)) λb hb=>⟨Nat.le_trans x6.1 hb.1,hb.2⟩) (λb hb=>⟨hb.1,Nat.lt_of_lt_of_le hb.2 c9.1⟩) (LS.au _ _ _) hP2
   have e2:Int.ofNat 2=((2:Nat):Int):=rfl;have e5:Int.ofNat 5=((5:Nat):Int):=rfl;unfold Km Kl;simp only[av,Nat.zero_add];refine aj m6 uC (v:=.int 0 (cg C.T i:Int)) rfl ?_;rw[az,bD,e2];by_cases g2:cg C.T i=2
   ·have eu:=hui g2;subst eu;rw[decide_eq_true (by omega),aG];refine aj m6 oU6 (v:=.int 0 (cg C.T (i+1):Int)) rfl ?_;rw[az,bD,e5];by_cases g5:cg C.T (i+1)=5
    ·rw[decide_eq_true (by omega),aG];refine aj m6 oU6 (v:=ak (ft C.T (i+1))) rfl ?_;refine A5 (m:=[61]) (wi C _) (bg (by decide)) ?_;rw[aX];by_cases gt:ft C.T (i+1)=[61]
     ·rw[decide_eq_true gt,aG];rw[if_pos ⟨g2,g5,gt⟩]at hP;have hlt2:i+1+1<C.T.length:=mA (i:=i+1) C.ok (by omega);unfold Kj Ki;simp only[aW,av,Nat.zero_add];refine aj m6 p6.ob (v:=.int 0 (i:Int)) rfl ?_;simp only[az,eo,io2];refine w0 (by omega) (by omega) ?_;rw[show((i:Nat):Int)+2=((i+2:Nat):Int) by omega];refine aS (v:=.int 0 ((i+2:Nat):Int)) m6 p6.ob (by omega) (by show 1<4;omega) rfl λH7 m7=>?_;have p7:=p6.set (j:=i+2) (e:=d) hlt2;have c7:ax (bJ C) S6 (S6.set C.bp (.ce [C.vT,.int 0 ((i+2:Nat):Int),.int 0 (d:Int),.int 0 0] 0)):=ax.Gi (ax.refl _ _) _;have m7:Mem H7 (S6.set C.bp (.ce [C.vT,.int 0 ((i+2:Nat):Int),.int 0 (d:Int),.int 0 0] 0)):=m7;have oT7:=c7.ob m6 uC Gk;have x7:=x6.trans c7;unfold Kh Kg;rw[r3];simp only[av,Nat.zero_add];refine aj m7 oT7 (v:=.int 0 (aZ C.T i:Int)) rfl ?_;rw[az];refine aj m7 oT7 (v:=ak (ft C.T i)) rfl ?_;refine gU (jm _) ?_;refine O.exp k (by omega) hd m7 p7 (Post.call hP (x7.two (bn:=bn)) (λ_ h=>.inl h) λx j H8 S8 v m8 c8 p8 ⟨ca,hv,hR⟩ hP2=>?_);subst hv;have oT8:=c8.ob m7 oT7 Gk;refine aj m8 oT8 (v:=ak (ft C.T i)) rfl ?_;refine bA (uV _ _) ?_;refine aj m8 oT8 (v:=.int 0 (aZ C.T i:Int)) rfl ?_;rw[az];refine bA (qX _ _) ?_;refine m8.bP ?_;rw[gK];refine ia hR.len ?_;rw[aws hR.len rfl];exact fC (c:=c) (Q:=gE S.n S8.n) hM hp m8 p8 ((x7.trans c8).two (bn:=bn)) (RE.simple (wi C i)) (hR.go (λ_ _=>rfl) λb hb=>⟨Nat.le_trans x7.1 hb.1,hb.2⟩) (λb hb=>hb) ((x7.trans c8).ob hM ho nbn) hP2
     ·rw[decide_eq_false gt,aw];rw[if_neg (λq=>gt q.2.2)]at hP;exact third hP
    ·rw[decide_eq_false (by omega),aw];rw[if_neg (λq=>g5 q.2.1)]at hP;exact third hP
   ·rw[decide_eq_false (by omega),aw];rw[if_neg (λq=>g2 q.1)]at hP;exact third hP
end
end Go.Proofs.YtcedghechlgecaaGreatDoor
namespace Go.X
section
variable {H:AH}{S:LS}
theorem cG.bind_assoc{α β γ:Type}(r:cG α)(f:α→Nat→cG β)(g:β→Nat→cG γ):(r.bind f).bind g=r.bind λa i=>(f a i).bind g:=by
 cases r<;>rfl
theorem al4{bytes sz n:Nat}{v:AV}{l l':List AV}{k:AV→AH→Prop}(hM:Mem H S)(hs:cK S sz v n l)(hsz:0<sz)(hl':l'.length=sz)(hl:(n+1)*bytes≤1099511627776)(h1:∀a∈l',a.one=true)
  (hK:∀H' S' v',Mem H' S'→uH S v (n+1) sz (l++l') S' v'→k v' H'):bG (aA H) 1 sz l' λx H'=>bT (Nat.beq H'.n (Nat.succ H.n)) (cV sz bytes v x H' k):=by
 refine cZ hM (by omega) h1 λH1 m1=>bA (uG (by rw[m1.n,hM.n];rfl)) ?_;have hs1:cK (S.push (.ce l' 0)) sz v n l:=hs.keep hM λb _ hb=>LS.bq _ _ hb;have hlt1:∀b,aF v b→b<S.n:=λb hb=>hs.lt hM hb;refine lZ (ex:=true) (cap:=1) (o:=0) (n:=1) (l:=l') (m:=0) (b:=S.n) (k:=λl=>qP sz bytes 1 _ l H1 k) m1 (LS.al _ _) (by omega) ?_;rw[List.drop_zero,List.take_of_length_le (by omega)];refine wJ m1 hs1 hsz (.inl (by omega)) (by omega) hl h1 λH' S' v' h' he=>?_;obtain⟨e1,e2,e3,e4⟩:=he;have e1':S.n+1≤S'.n:=e1;refine hK H' S' v' h' ⟨by omega,λb hb hne=>?_,e3,λb hb=>?_⟩
 ·rw[e2 b (by show b<S.n+1;omega) hne,LS.bq _ _ hb]
 ·rcases e4 b hb with g|g
  ·exact .inl g
  ·have g':S.n+1≤b:=g;exact .inr (by omega)
theorem df.pushB{α:Type}{R:Rep α}{lo bytes:Nat}{v:AV}{l:List α}{a:α}{c:List AV}{Q:Nat→Prop}{k:AV→AH→Prop}(h:df R lo S v l)(hM:Mem H S)(hr:R.rel S Q c a)(hQ:∀b,Q b→lo≤b∧b<S.n∧¬aF v b)(hlo:lo≤S.n)(hl:(l.length+1)*bytes≤1099511627776)
  (hk:∀H' S' v',Mem H' S'→df R lo S' v' (l++[a])→S.n≤S'.n→(∀b,b<S.n→¬aF v b→S'.ob b=S.ob b)→(∀b,aF v' b→aF v b∨S.n≤b)→k v' H'):bG (aA H) 1 R.sz c λx H'=>bT (Nat.beq H'.n (Nat.succ H.n)) (cV R.sz bytes v x H' k):=by
 obtain⟨cl,h1,h2⟩:=id h;refine al4 hM h1 R.pos (R.len hr) hl (R.ones hr) λH' S' v' m' he=>?_;refine hk H' S' v' m' (h.step hr hQ hlo λcl' h'=>?_) he.1 he.2.1 he.2.2.2;have e:cl'=cl.flatten:=by
  rcases h1 with⟨e1,e2,e3⟩|⟨b,c1,ex,cs,e1,e2,e3,e4,e5,e6,e7⟩
  ·rcases h' with⟨_,_,g3⟩|⟨b',c1',ex',cs',g1,_⟩
   ·rw[g3,e3]
   ·rw[e1]at g1;cases g1
  ·rcases h' with⟨g1,_⟩|⟨b',c1',ex',cs',g1,g2,g3,g4,g5,g6,g7⟩
   ·rw[e1]at g1;cases g1
   ·rw[e1]at g1;injection g1 with q1;subst q1;rw[e2]at g2;injection g2 with q2;rw[←g6,←e6,g5,e5,q2]
 rw[e];exact he
theorem bW.congr{Q:Nat→Prop}{sz n:Nat}{v:AV}{cl cl':Nat→List AV}(h:bW S Q sz v n cl)(he:∀i,i<n→cl i=cl' i):bW S Q sz v n cl':=by
 rcases h with h|⟨b,o,c,ex,cs,m,h1,h2,h3,h4,h5,h6⟩
 ·exact .inl h
 ·exact .inr ⟨b,o,c,ex,cs,m,h1,h2,h3,h4,h5,λi hi=>(h6 i hi).trans (he i hi)⟩
theorem df.nm{lo:Nat}{v:AV}{l:List (List Nat)}(h:df MF lo S v l)(hM:Mem H S):iZ S (gE lo S.n) v l:=by
 obtain⟨cl,h1,h2⟩:=h.done hM;refine⟨h1.congr λi hi=>?_,λt ht=>?_⟩
 ·have g:=(h2 i _ (List.getElem?_eq_getElem hi)).1;rw[List.getElem?_eq_getElem hi];exact g
 ·obtain⟨i,hi,e⟩:=List.mem_iff_getElem.1 ht;have g:=(h2 i _ (List.getElem?_eq_getElem hi)).2;rw[e]at g;exact g
theorem azQ{l z:List AV}(hl:l.length=2)(hz:z.length=2):spl l z 0=l:=by
 match l,hl,z,hz with
 |[a,b],_,[_,_],_=>rfl
end
end Go.X
namespace Go.Proofs.YtcedghechlgecaaGreatDoor
open Go Go.X Go.Proofs.YtcedghechlgecaaGreatDoor.G
section
variable {H:AH}{S:LS}{K:KF}{C:Ctx}{i d:Nat}
structure CY(C:Ctx)(S0 S:LS)(v:AV)(out:List (List Nat)):Prop where
 x:ax (bJ C) S0 S
 o1:S.ob S0.n=.ce z7 0
 oF:S.ob (S0.n+1)=.ce [v,.ab] 0
 n:S0.n+2≤S.n
 L:df MF (S0.n+2) S v out
theorem CY.keep{S0 S':LS}{v:AV}{out:List (List Nat)}(h:CY C S0 S v out)(hM:Mem H S)(hbp:C.bp<S0.n)(g:ax (bJ C) S S'):CY C S0 S' v out:=by
 have nb:∀b,S0.n≤b→¬bJ C b:=λb hb q=>by have q:b=C.bp:=q;omega
 exact⟨h.x.trans g,g.ob hM h.o1 (nb _ (Nat.le_refl _)),g.ob hM h.oF (nb _ (by omega)),Nat.le_trans h.n g.1,h.L.keep hM g.1 λb h1 h2=>g.2 b h2 (nb b (by omega))⟩
theorem azR{m n:Nat}(hpv:C.pv=.iface 57 (.agg []))(O:gX C m n){S0:LS}{H0:AH}{i0 a n1:Nat}(hn1:n1≤n)(hd:d≤200)(hM0:Mem H0 S0)(hp0:bE C S0 i0 d):∀(k q i:Nat) (first:Bool) (out:List (List Nat)) (v:AV) (H:AH) (S:LS),k≤q→out.length≤16→Mem H S→bE C S i d→CY C S0 S v out→
  Post C (bJ C) d nO K S0 ((kC C.T k first out i).bind λps j=>(fk C.T n1 j d).bind λb j=>(dR C.T [101,110,100] j).bind λ_ j=>.ok (.mk 7 a 0 [] 0 [] [.mk ps b]) j)→
  se (dU (s13 m)) K q (.ptr C.bp 0) (a:Int) (.ptr S0.n 0) (.ptr (S0.n+1) 0) first H:=by
 intro k
 induction k with
 |zero=>intro q i f out v H S _ _ _ _ _ hP;simp only[kC]at hP;exact False.elim hP
 |succ k ih=>
  intro q i first out v H S hq h16 hM hp t hP
  obtain⟨q,rfl⟩:∃p,q=p+1:=⟨q-1,by omega⟩
  have r1:(dU (s13 m)).1=(s13 m).1:=rfl;have r2:(dU (s13 m)).2.1=f25:=rfl;have r3:(dU (s13 m)).2.2.1=f56:=rfl;have r4:(dU (s13 m)).2.2.2.1=f94:=rfl;have r5:(dU (s13 m)).2.2.2.2.1=ng:=rfl;have r6:(dU (s13 m)).2.2.2.2.2=f130:=rfl;have hbp:=hp0.eT hM0;have po:∀b,aF C.vT b→b<S0.n:=λb hb=>hp0.tk.lt hM0 hb;have gY:∀b,S0.n≤b→¬bJ C b:=λb hb q=>by have q:b=C.bp:=q;omega
  show Dx (dU (s13 m)) K (vh (dU (s13 m)) K (vg (dU (s13 m)) K (se (dU (s13 m)) K q))) (zx (dU (s13 m)) K) (.ptr C.bp 0) (a:Int) (.ptr S0.n 0) (.ptr (S0.n+1) 0) first H
  unfold Dx;rw[r2,r3,r4];simp only[kC]at hP;have stop:∀{H1:AH}{S1:LS}{i:Nat},Mem H1 S1→bE C S1 i d→CY C S0 S1 v out→Post C (bJ C) d nO K S0 (((dR C.T [41] i).bind λ_ j=>.ok out j).bind λps j=>(fk C.T n1 j d).bind λb j=>(dR C.T [101,110,100] j).bind λ_ j=>.ok (.mk 7 a 0 [] 0 [] [.mk ps b]) j)→
    zx (dU (s13 m)) K (.ptr C.bp 0) (a:Int) (.ptr S0.n 0) (.ptr (S0.n+1) 0) H1:=by
   intro H1 S1 i m1 p1 t1 hP;rw[cG.bind_assoc]at hP;unfold zx;rw[r1,r5];refine gP (s:=[41]) hpv (bg (by decide)) m1 p1 (Post.call (jM:=oQ) hP t1.x (λ_ h=>h) λ_ j H2 S2 w m2 c2 p2 _ hP2=>?_);have t2:=t1.keep m1 hbp c2;refine O.block n1 hn1 hd m2 p2 (Post.call (jM:=lz) hP2 t2.x (λ_ h=>h) λb j H3 S3 vb m3 c3 p3 ⟨cb,hsl,hrs⟩ hP3=>?_);have t3:=t2.keep m2 hbp c3;have n2:=t2.n;have n3:=t3.n;simp only[av,Nat.zero_add];refine aS m3 t3.oF (by omega) (by show 1<2;omega) hsl.one λH4 m4=>?_;have m4:Mem H4 (S3.set (S0.n+1) (.ce [v,vb] 0)):=m4;have x4:ax (bJ C) S0 (S3.set (S0.n+1) (.ce [v,vb] 0)):=t3.x.set (.inr (by omega)) _;refine gP (s:=[101,110,100]) hpv (bg (by decide)) m4 (p3.iF hp0 hM0 (by omega) _) (Post.call (jM:=oQ) hP3 x4 (λ_ h=>h) λ_ j' H5 S5 w m5 c5 p5 _ CX=>?_);have n5:S3.n≤S5.n:=c5.1;have L5:df MF (S0.n+2) S5 v out:=(t3.L.keep m3 (S':=S3.set (S0.n+1) (.ce [v,vb] 0)) (Nat.le_refl _) λb h1 h2=>LS.ao _ _ (by omega)).keep m4 c5.1 λb h1 h2=>c5.2 b h2 (gY b (by omega));have hnm:=L5.nm m5;have kb:∀b,gE S2.n S3.n b→S5.ob b=S3.ob b:=λb hb=>by
    have h1:=hb.1;rw[c5.2 b hb.2 (gY b (by omega)),LS.ao _ _ (by omega)]
   have qb:∀b,gE S2.n S3.n b→gE (S0.n+2) S5.n b:=λb hb=>⟨by have:=hb.1;omega,by have:=hb.2;omega⟩
   have hF:RF S5 (gE (S0.n+2) S5.n) [v,vb] (.mk out b):=.mk out b v vb cb hnm (hsl.go kb qb) λi e h=>(hrs i e h).go kb qb;refine gz m5 (c5.ob m4 (LS.au _ _ _) (gY _ (by omega))) rfl ?_;rw[gK];refine ia rfl ?_;rw[azQ rfl rfl];refine cZ m5 rfl hF.ones λH6 m6=>gU rfl ?_;have o5:S5.ob S0.n=.ce z7 0:=c5.ob m4 ((LS.ao _ _ (by omega)).trans t3.o1) (gY _ (Nat.le_refl _));refine jc m6 (c:=[.int 0 ((7:Nat):Int),.int 0 (a:Int),.int 0 ((0:Nat):Int),ak [],.int 0 ((0:Nat):Int),.ab,.slice S5.n 0 1 1 2 true]) ((LS.bq _ _ (by omega)).trans o5) rfl rfl (λx h=>?_) λH7 m7=>?_
   ·simp only[List.mem_cons,List.not_mem_nil,or_false]at h;rcases h with rfl|rfl|rfl|rfl|rfl|rfl|rfl<;>rfl
   refine gz m7 (LS.au _ _ _) rfl ?_;refine CX H7 _ _ m7 (((x4.trans c5).push _).set (.inr (Nat.le_refl _)) _) ((p5.no m5 ((ax.refl _ _).push _)).iF hp0 hM0 (Nat.le_refl _) _) ⟨_,rfl,.mk 7 a 0 [] 0 [] [.mk out b] .ab (.slice S5.n 0 1 1 2 true) (λ_=>[]) (λ_=>[v,vb]) B8.nil (bW.nil _ _ _ _) (λi e h=>by simp at h) (bW.single (m:=0) ⟨by omega,Nat.lt_succ_self _⟩ ((LS.ao _ _ (by omega)).trans (LS.al _ _)) rfl) λi e h=>?_⟩
   match i,h with
   |0,h=>
    have e1:gr.mk out b=e:=by simpa using h
    subst e1;exact hF.go (λb hb=>by rw[LS.ao _ _ (by have:=hb.1;omega),LS.bq _ _ hb.2]) λb hb=>⟨by have:=hb.1;omega,Nat.lt_succ_of_lt hb.2⟩
   |i+1,h=>simp at h
  have more:∀{H1:AH}{S1:LS}{i:Nat},Mem H1 S1→bE C S1 i d→CY C S0 S1 v out→Post C (bJ C) d nO K S0 ((if out.length=16 then cG.err 8 i else (oJ C.T i).bind λs j=>kC C.T k false (out++[s]) j).bind λps j=>(fk C.T n1 j d).bind λb j=>(dR C.T [101,110,100] j).bind λ_ j=>.ok (.mk 7 a 0 [] 0 [] [.mk ps b]) j)→
    ah 0 (.ptr (S0.n+1) 0) λv5=>af v5 H1 λv6=>bR v6 λv7=>cI 0 v7 λz8=>bI (aV z8 (.ofNat 16)) (f25 (.ptr C.bp 0) (.ofNat 8) H1 λo9 bo=>cR K o9 bo λv11=>vh (dU (s13 m)) K (vg (dU (s13 m)) K (se (dU (s13 m)) K q)) (.ptr C.bp 0) (a:Int) (.ptr S0.n 0) (.ptr (S0.n+1) 0) bo) (vh (dU (s13 m)) K (vg (dU (s13 m)) K (se (dU (s13 m)) K q)) (.ptr C.bp 0) (a:Int) (.ptr S0.n 0) (.ptr (S0.n+1) 0) H1):=by
   intro H1 S1 i m1 p1 t1 hP;rw[av,Nat.zero_add];refine aj m1 t1.oF (v:=v) rfl ?_;refine t1.L.afm ?_;have e16:Int.ofNat 16=((16:Nat):Int):=rfl;rw[az,bD,e16];by_cases g16:out.length=16
   ·rw[if_pos g16]at hP;rw[decide_eq_true (by omega),aG];refine pK (c:=8) hpv m1 p1 λH2 S2 m2 c2 e2=>?_;rw[dt];exact hP H2 S2 m2 (t1.x.trans c2) e2
   ·rw[if_neg g16,cG.bind_assoc]at hP;rw[decide_eq_false (by omega),aw];unfold vh;rw[r6];simp only[av,Nat.zero_add];refine aj m1 t1.oF (v:=v) rfl ?_;refine Au hpv m1 p1 (Post.call hP t1.x (λ_ h=>h) λs j H2 S2 w m2 c2 p2 ⟨hv,h8⟩ hP2=>?_);subst hv;have t2:=t1.keep m1 hbp c2;have n2:=t2.n;refine aj m2 t2.oF (v:=v) rfl ?_;refine bA t2.L.same ?_;refine m2.bP ?_;refine gU (jm s) ?_;refine t2.L.pushB (R:=MF) (Q:=cD) (bytes:=16) m2 (a:=s) ⟨rfl,h8⟩ (λb hb=>hb.elim) n2 (by omega) λH3 S3 v' m3 L3 n3 k3 b3=>?_;have c3:ax (λb=>aF v b) S2 S3:=⟨n3,λb hb hx=>k3 b hb hx⟩
    have nv:∀b,b<S0.n+2→¬aF v b:=λb hb q=>by have:=t2.L.lo q;omega
    refine aS m3 (c3.ob m2 t2.oF (nv _ (by omega))) (by omega) (by show 0<2;omega) L3.one λH4 m4=>?_;have m4:Mem H4 (S3.set (S0.n+1) (.ce [v',.ab] 0)):=m4;have p4:bE C (S3.set (S0.n+1) (.ce [v',.ab] 0)) j d:=(p2.keep m2 c3 (nv _ (by omega)) (λb hb q=>nv b (by have:=po b hb;omega) q)).iF hp0 hM0 (by omega) _;have x3:ax (bJ C) S0 S3:=t2.x.jv c3 λb hb=>.inr (by have:=t2.L.lo hb;omega);have t4:CY C S0 (S3.set (S0.n+1) (.ce [v',.ab] 0)) v' (out++[s]):=
     ⟨x3.set (.inr (by omega)) _,(LS.ao _ _ (by omega)).trans (c3.ob m2 t2.o1 (nv _ (by omega))),LS.au _ _ _,Nat.le_trans n2 n3,L3.keep m3 (Nat.le_refl _) λb h1 h2=>LS.ao _ _ (by omega)⟩
    unfold vg;exact ih q j false (out++[s]) v' H4 _ (by omega) (by simp;omega) m4 p4 t4 hP2
  cases first with
  |true=>
   rw[aG];refine sT (s:=[41]) (bg (by decide)) hM hp λH1 S1 m1 c1 p1=>?_;simp only[aq,aX];have t1:=t.keep hM hbp c1.no;cases hi:isA C.T [41] i with
   |false=>
    simp only[hi,Bool.not_false,if_true]at hP;rw[Bool.not_false,aG];exact more m1 p1 t1 hP
   |true=>
    simp only[hi,Bool.not_true,if_true,Bool.false_eq_true,if_false]at hP;simp only[Bool.not_true,aw];exact stop m1 p1 t1 hP
  |false=>
   simp only[Bool.false_eq_true,if_false]at hP;simp only[aw,Bool.not_false,aG];refine dF (s:=[44]) (bg (by decide)) hM hp λH1 S1 m1 c1 p1=>?_;simp only[aq,aX];have t1:=t.keep hM hbp c1;cases hi:isA C.T [44] i with
   |true=>
    simp only[hi,if_true]at hP p1;rw[aG];exact more m1 p1 t1 hP
   |false=>
    simp only[hi,Bool.false_eq_true,if_false]at hP p1;rw[aw];exact stop m1 p1 t1 hP
theorem azS{m n:Nat}(hn:n≤900000)(hpv:C.pv=.iface 57 (.agg []))(O:gX C m n):∀k,k≤n+1→∀{K:KF}{H:AH}{S:LS}{i d a:Nat},d≤200→Mem H S→bE C S i d→Post C (bJ C) d nO K S (pU C.T k a i d)→(s13 (m+1)).2.2.2.2.2.2.2.1 (.ptr C.bp 0) (a:Int) H K:=by
 intro k hk K H S i d a hd hM hp hP;cases k with
 |zero=>simp only[pU]at hP;exact False.elim hP
 |succ k=>
  have e:(s13 (m+1)).2.2.2.2.2.2.2.1=wP (dU (s13 m)):=by rw[pV]
  rw[e];have r5:(dU (s13 m)).2.2.2.2.1=ng:=rfl;unfold wP Vn JQ;rw[r5];have cQ:G.NL=1000000:=rfl;generalize G.NL=iC at cQ ⊢;simp only[pU]at hP;rw[gQ];refine bZ (bF hM dB λH1 m1=>?_);refine bZ (bF m1 (λx hx=>?_) λH2 m2=>?_)
  ·simp only[List.mem_cons,List.not_mem_nil,or_false]at hx;rcases hx with rfl|rfl<;>rfl
  have c1:ax cD S (S.push (.ce z7 0)):=(ax.refl _ _).push _;have c2:ax cD (S.push (.ce z7 0)) ((S.push (.ce z7 0)).push (.ce [.ab,.ab] 0)):=(ax.refl _ _).push _;have c12:=c1.trans c2;have t:CY C S ((S.push (.ce z7 0)).push (.ce [.ab,.ab] 0)) .ab []:=
   ⟨c12.no,c2.ob m1 (LS.al _ _) (λq=>q),LS.al _ _,Nat.le_refl _,df.nil _ _ _⟩
  refine gP (s:=[40]) hpv (bg (by decide)) m2 (hp.no hM c12) (Post.call (jM:=oQ) hP c12.no (λ_ h=>h) λ_ j H3 S3 w m3 c3 p3 _ hP2=>?_);exact azR hpv O (by omega) hd hM hp k iC j true [] .ab H3 S3 (by omega) (by simp) m3 p3 (t.keep m2 (hp.eT hM) c3) hP2
end
end Go.Proofs.YtcedghechlgecaaGreatDoor
namespace Go.X
section
variable {H:AH}{S:LS}
theorem fT.k0{Q:Nat→Prop}{c:List AV}{s:aP}(h:fT S Q c s):∃l,c=.int 0 (s.kind:Int)::l:=by
 cases h;exact⟨_,rfl⟩
end
end Go.X
namespace Go.Proofs.YtcedghechlgecaaGreatDoor
open Go Go.X Go.Proofs.YtcedghechlgecaaGreatDoor.G
section
variable {H:AH}{S:LS}{K:KF}{C:Ctx}{i d:Nat}
def z5:List AV:=[.int 0 (.ofNat 0),.int 0 (.ofNat 0),.ab,.ab,.ab]
theorem SL:∀a∈z5,a.one=true:=by
 intro a ha;simp only[z5,List.mem_cons,List.not_mem_nil,or_false]at ha;rcases ha with rfl|rfl|rfl|rfl|rfl<;>rfl
theorem r24{m n:Nat}(hpv:C.pv=.iface 57 (.agg []))(O:gX C m n){S0:LS}{H0:AH}{i0:Nat}(hd:d+1≤200)(hM0:Mem H0 S0)(hp0:bE C S0 i0 d){k:Nat}(hk:k≤n){X:AV→AV→AH→Prop}{out:List aP}
  (hX:∀(i:Nat) (s:aP) (v:AV) (H:AH) (S:LS),Mem H S→bE C S i (d+1)→ax (bJ C) S0 S→df ME S0.n S v (out++[s])→Post C (bJ C) d lz K S0 (dP C.T k (out++[s]) i (d+1))→X (.ptr C.bp 0) v H)
  {v:AV}(hlen:out.length≤1000000) (hM:Mem H S) (hp:bE C S i (d+1)) (hx:ax (bJ C) S0 S) (L:df ME S0.n S v out) (hP:Post C (bJ C) d lz K S0 (dP C.T (k+1) out i (d+1))):wN (jV (s13 m)) K X (.ptr C.bp 0) v H:=by
 have r1:(jV (s13 m)).1=f25:=rfl;have r3:(jV (s13 m)).2.2.1=f54:=rfl;have r4:(jV (s13 m)).2.2.2.1=(s13 m).2.1:=rfl;have r5:(jV (s13 m)).2.2.2.2=f56:=rfl;have hbp:=hp0.eT hM0;have po:∀b,aF C.vT b→b<S0.n:=λb hb=>hp0.tk.lt hM0 hb;have gY:∀b,S0.n≤b→¬bJ C b:=λb hb q=>by have q:b=C.bp:=q;omega
 have EZ:∀{l:List aP}{v:AV}{S1 S2:LS}{H1:AH},Mem H1 S1→df ME S0.n S1 v l→ax (bJ C) S1 S2→df ME S0.n S2 v l:=λm1 o g=>o.keep m1 g.1 λb h1 h2=>g.2 b h2 (gY b h1);unfold wN;rw[r1,r3,r4,r5];simp only[dP]at hP;refine SE hM hp λH1 S1 m1 c1 p1=>?_;simp only[aq,aX];have L1:=EZ hM L c1.no;have x1:=hx.trans (c1.no (X:=bJ C));cases he:nr C.T i with
 |true=>
  simp only[he,if_true]at hP;rw[aG];refine afk (by omega) m1 p1 λH2 S2 m2 c2 p2=>?_;obtain⟨cl,g1,g2⟩:=(EZ m1 L1 c2).done m2;exact hP H2 S2 v m2 (x1.trans c2) p2 ⟨cl,g1,g2⟩
 |false=>
  simp only[he,Bool.false_eq_true,if_false]at hP;rw[aw];refine O.stat k hk hd m1 p1 (Post.call hP x1 (λ_ h=>h) λs j H2 S2 w m2 c2 p2 ⟨c,hw,hR⟩ hP2=>?_);subst hw;obtain⟨cr,hcr⟩:=hR.k0;refine bZ (bF m2 SL λH3 m3=>?_);refine jc m3 (LS.al S2 (.ce z5 0)) rfl hR.len hR.ones λH4 CZ=>?_;have m4:Mem H4 ((S2.push (.ce z5 0)).set S2.n (.ce c 0)):=CZ;clear CZ;have c4:ax cD S2 ((S2.push (.ce z5 0)).set S2.n (.ce c 0)):=((ax.refl _ _).push _).set (.inr (Nat.le_refl _)) _;have o4:((S2.push (.ce z5 0)).set S2.n (.ce c 0)).ob S2.n=.ce c 0:=LS.au _ _ _;have L2:=EZ m1 L1 c2;have L4:=EZ m2 L2 c4.no;have x4:=(x1.trans c2).trans (c4.no (X:=bJ C));have p4:=p2.no m2 c4;have hR4:fT ((S2.push (.ce z5 0)).set S2.n (.ce c 0)) (gE S1.n S2.n) c s:=hR.go (λb hb=>c4.2 b hb.2 λq=>q) λ_ h=>h;have n4:((S2.push (.ce z5 0)).set S2.n (.ce c 0)).n=S2.n+1:=rfl;revert m4 c4 o4 L4 x4 p4 hR4 n4;generalize (S2.push (.ce z5 0)).set S2.n (.ce c 0)=S4;intro m4 c4 o4 L4 x4 p4 hR4 n4;refine gz m4 o4 hR.len ?_;rw[gK];refine ia hR.len ?_;rw[azn hR.len rfl];have hv2:∀b,aF v b→b<S1.n:=λb hb=>L1.lt m1 hb;have n12:=c2.1;refine L4.push (R:=ME) (bytes:=88) m4 hR4 (λb hb=>⟨Nat.le_trans x1.1 hb.1,by have:=hb.2;omega,λq=>by have:=hv2 b q;have:=hb.1;omega⟩) x4.1 (by omega) λH5 S5 v' m5 L5 n5 k5 b5=>?_;have c5:ax (λb=>aF v b) S4 S5:=⟨n5,λb hb hx=>k5 b hb hx⟩
  have p5:bE C S5 j (d+1):=p4.keep m4 c5 (λq=>by have:=L4.lo q;omega) (λb hb q=>by have:=L4.lo q;have:=po b hb;omega);have x5:ax (bJ C) S0 S5:=x4.jv c5 λb hb=>.inr (L4.lo hb);have o5:S5.ob S2.n=.ce c 0:=c5.ob m4 o4 λq=>by have:=hv2 _ q;omega
  refine dF (s:=[59]) (bg (by decide)) m5 p5 λH6 S6 m6 c6 p6=>?_;simp only[aq,aX,av,Nat.zero_add];have o6:S6.ob S2.n=.ce c 0:=c6.ob m5 o5 (gY _ (by have:=x1.1;omega));have L6:=EZ m5 L5 c6;have x6:=x5.trans c6;have p6:bE C S6 (sQ C.T [59] j) (d+1):=p6;have e10:Int.ofNat 10=((10:Nat):Int):=rfl;refine aj m6 o6 (v:=.int 0 (s.kind:Int)) (by rw[hcr];rfl) ?_;rw[az,bD,e10];by_cases g10:s.kind=10
  ·rw[decide_eq_true (by omega),aG];refine SE m6 p6 λH7 S7 m7 c7 p7=>?_;simp only[aq,aX];have L7:=EZ m6 L6 c7.no;have x7:=x6.trans (c7.no (X:=bJ C));cases he2:nr C.T (sQ C.T [59] j)with
   |true=>
    rw[if_neg (by rw[he2];rintro⟨_,q⟩;cases q)]at hP2;simp only[Bool.not_true,aw];exact hX _ s v' H7 S7 m7 p7 x7 L7 hP2
   |false=>
    rw[if_pos ⟨g10,he2⟩]at hP2;simp only[Bool.not_false,aG];refine pK (c:=14) hpv m7 p7 λH8 S8 m8 c8 e8=>?_;rw[dt];exact hP2 H8 S8 m8 (x7.trans c8) e8
  ·rw[decide_eq_false (by omega),aw];rw[if_neg (λq=>g10 q.1)]at hP2;exact hX _ s v' H6 S6 m6 p6 x6 L6 hP2
theorem l24{m n:Nat}(hn:n≤900000)(hpv:C.pv=.iface 57 (.agg []))(O:gX C m n){S0:LS}{H0:AH}{i0:Nat}(hd:d+1≤200)(hM0:Mem H0 S0)(hp0:bE C S0 i0 d):∀(k q i:Nat) (out:List aP) (v:AV) (H:AH) (S:LS),k≤q→k≤n→out.length+k≤n→Mem H S→bE C S i (d+1)→ax (bJ C) S0 S→df ME S0.n S v out→
  Post C (bJ C) d lz K S0 (dP C.T k out i (d+1))→Cf (jV (s13 m)) K q (.ptr C.bp 0) v H:=by
 intro k
 induction k with
 |zero=>intro q i out v H S _ _ _ _ _ _ _ hP;simp only[dP]at hP;exact False.elim hP
 |succ k ih=>
  intro q i out v H S hq hk hl hM hp hx L hP;obtain⟨q,rfl⟩:∃p,q=p+1:=⟨q-1,by omega⟩
  show wN (jV (s13 m)) K (Hw (jV (s13 m)) K (Cf (jV (s13 m)) K q)) (.ptr C.bp 0) v H;refine r24 hpv O hd hM0 hp0 (by omega) (λi s v H S hM hp hx L hP=>?_) (by omega) hM hp hx L hP;unfold Hw;exact ih q i (out++[s]) v H S (by omega) (by omega) (by simp;omega) hM hp hx L hP
theorem q24(R:iv)(K:KF)(X:AV→AV→AH→Prop)(a0:AV)(H:AH):Hy R K X a0 H=R.2.1 a0 H λo1 H2=>cR K o1 H2 λ_=>wN R K X a0 .ab H2:=by
 unfold Hy wN;rfl
theorem s24{m n:Nat}(hn:n≤900000)(hpv:C.pv=.iface 57 (.agg []))(O:gX C m n):∀k,k≤n+1→∀{K:KF}{H:AH}{S:LS}{i d:Nat},d≤200→Mem H S→bE C S i d→Post C (bJ C) d lz K S (fk C.T k i d)→(s13 (m+1)).1 (.ptr C.bp 0) H K:=by
 intro k hk K H S i d hd hM hp hP;cases k with
 |zero=>simp only[fk]at hP;exact False.elim hP
 |succ k=>
  have e:(s13 (m+1)).1=A6 (jV (s13 m)):=by rw[pV]
  rw[e];have r2:(jV (s13 m)).2.1=f53:=rfl;unfold A6 agW PR;rw[q24,r2];have cQ:G.NL=1000000:=rfl;generalize G.NL=iC at cQ ⊢;simp only[fk]at hP;refine afj hpv (by omega) hM hp (λhg H1 S1 m1 c1 e1=>?_) (λhg H1 S1 m1 c1 p1=>?_)
  ·rw[dt];rw[if_pos hg]at hP;exact hP H1 S1 m1 c1 e1
  ·rw[aq];rw[if_neg hg]at hP;cases k with
   |zero=>simp only[dP]at hP;exact False.elim hP
   |succ k=>
    refine r24 hpv O (by omega) hM hp (by omega) (out:=[]) (λi s v H S' hM' hp' hx L hP=>?_) (by simp) m1 p1 c1 (df.nil _ _ _) hP;unfold PQ;exact l24 hn hpv O (by omega) hM hp k iC i ([]++[s]) v H S' (by omega) (by omega) (by simp;omega) hM' hp' hx L hP
end
end Go.Proofs.YtcedghechlgecaaGreatDoor
namespace Go.X
section
variable {H:AH}{S S':LS}
def fz{α:Type}(R:Rep α)(Z:Nat→Prop)(S:LS)(v:AV)(l:List α):Prop:=∃cl:List (List AV),cK S R.sz v l.length cl.flatten∧cl.length=l.length∧(∀b,aF v b→Z b)∧
 ∀(i:Nat) (c:List AV) (a:α),cl[i]? = some c→l[i]? = some a→∃Q,R.rel S Q c a∧∀b,Q b→Z b∧b<S.n∧¬aF v b
section
variable {α:Type}{R:Rep α}{Z Z':Nat→Prop}{v:AV}{l:List α}
theorem fz.nil(R:Rep α)(Z:Nat→Prop)(S:LS):fz R Z S .ab []:=⟨[],cK.nil _ _,rfl,λ_ h=>h.elim,λi c a h=>by simp at h⟩
theorem fz.toR{lo:Nat}(h:fz R Z S v l)(hZ:∀b,Z b→lo≤b):df R lo S v l:=by
 obtain⟨cl,h1,h2,h3,h4⟩:=h;refine⟨cl,h1,h2,λb hb=>hZ b (h3 b hb),λi c a hc ha=>?_⟩;obtain⟨Q,g1,g2⟩:=h4 i c a hc ha;exact⟨Q,g1,λb hb=>⟨hZ b (g2 b hb).1,(g2 b hb).2⟩⟩
theorem fz.imp(h:fz R Z S v l)(hM:Mem H S)(hZ:∀b,Z b→b<S.n→Z' b):fz R Z' S v l:=by
 obtain⟨cl,h1,h2,h3,h4⟩:=h;refine⟨cl,h1,h2,λb hb=>hZ b (h3 b hb) (h1.lt hM hb),λi c a hc ha=>?_⟩;obtain⟨Q,g1,g2⟩:=h4 i c a hc ha;exact⟨Q,g1,λb hb=>⟨hZ b (g2 b hb).1 (g2 b hb).2.1,(g2 b hb).2⟩⟩
theorem fz.keep(h:fz R Z S v l)(hM:Mem H S)(hn:S.n≤S'.n)(hk:∀b,Z b→b<S.n→S'.ob b=S.ob b):fz R Z S' v l:=by
 obtain⟨cl,h1,h2,h3,h4⟩:=h;refine⟨cl,h1.keep hM λb hb hlt=>hk b (h3 b hb) hlt,h2,h3,λi c a hc ha=>?_⟩;obtain⟨Q,g1,g2⟩:=h4 i c a hc ha;exact⟨Q,R.go (λb hb=>hk b (g2 b hb).1 (g2 b hb).2.1) (λ_ h=>h) g1,λb hb=>⟨(g2 b hb).1,Nat.lt_of_lt_of_le (g2 b hb).2.1 hn,(g2 b hb).2.2⟩⟩
theorem fz.lt(h:fz R Z S v l)(hM:Mem H S){b:Nat}(hb:aF v b):b<S.n:=by
 obtain⟨cl,h1,_⟩:=h;exact h1.lt hM hb
theorem fz.BE(h:fz R Z S v l){b:Nat}(hb:aF v b):Z b:=by
 obtain⟨_,_,_,h3,_⟩:=h;exact h3 b hb
theorem fz.step{a:α}{c:List AV}{Q:Nat→Prop}{v':AV}(h:fz R Z S v l)(hr:R.rel S Q c a)(hQ:∀b,Q b→Z b∧b<S.n∧¬aF v b)(hnew:∀b,S.n≤b→Z b)(hs:∀cl,cK S R.sz v l.length cl→uH S v (l.length+1) R.sz (cl++c) S' v'):fz R Z S' v' (l++[a]):=by
 obtain⟨cl,h1,h2,h3,h4⟩:=h;obtain⟨a1,a2,a3,a4⟩:=hs _ h1;refine⟨cl++[c],?_,by simp[h2],λb hb'=>?_,λi c' a' hc ha=>?_⟩
 ·rw[List.flatten_append,List.length_append];show cK S' R.sz v' (l.length+1) (cl.flatten++[c].flatten);have:[c].flatten=c:=by simp
  rw[this];exact a3
 ·rcases a4 b hb' with g|g
  ·exact h3 b g
  ·exact hnew b g
 ·have fin:∀{Q:Nat→Prop}{c:List AV}{a:α},R.rel S Q c a→(∀b,Q b→Z b∧b<S.n∧¬aF v b)→∃Q,R.rel S' Q c a∧∀b,Q b→Z b∧b<S'.n∧¬aF v' b:=λ{Q c a} g1 g2=>
   ⟨Q,R.go (λb hb=>a2 b (g2 b hb).2.1 (g2 b hb).2.2) (λ_ h=>h) g1,λb hb=>⟨(g2 b hb).1,Nat.lt_of_lt_of_le (g2 b hb).2.1 a1,λhb'=>by
    rcases a4 b hb' with q|q
    ·exact(g2 b hb).2.2 q
    ·have:=(g2 b hb).2.1;omega⟩⟩
  by_cases hi:i<cl.length
  ·rw[List.getElem?_append_left hi]at hc;rw[List.getElem?_append_left (by omega)]at ha;obtain⟨Q,g1,g2⟩:=h4 i c' a' hc ha;exact fin g1 g2
  ·rw[List.getElem?_append_right (by omega)]at hc ha;have hi0:=(List.getElem?_eq_some_iff.1 hc).1;have e0:i-cl.length=0:=by simp at hi0;omega
   rw[e0]at hc;rw[h2]at e0;rw[e0]at ha;have ec:c=c':=by simpa using hc
   have ea:a=a':=by simpa using ha
   subst ec;subst ea;exact fin hr hQ
end
theorem cK.uniq{sz n:Nat}{v:AV}{l l':List AV}(h:cK S sz v n l)(h':cK S sz v n l'):l'=l:=by
 rcases h with⟨e1,e2,e3⟩|⟨b,c1,ex,cs,e1,e2,e3,e4,e5,e6,e7⟩
 ·rcases h' with⟨_,_,g3⟩|⟨b',c1',ex',cs',g1,_⟩
  ·rw[g3,e3]
  ·rw[e1]at g1;cases g1
 ·rcases h' with⟨g1,_⟩|⟨b',c1',ex',cs',g1,g2,g3,g4,g5,g6,g7⟩
  ·rw[e1]at g1;cases g1
  ·rw[e1]at g1;injection g1 with q1;subst q1;rw[e2]at g2;injection g2 with q2;rw[←g6,←e6,g5,e5,q2]
theorem atC{m n b b' o o':Nat}{x:Prop}(hb:b≠b')(h:x):mB m n (.ptr b o) (.ptr b' o') x:=by
 show bT _ _;refine bA ?_ h;have:Nat.beq b b'=false:=by
  cases g:Nat.beq b b' with
  |false=>rfl
  |true=>exact absurd (Nat.eq_of_beq_eq_true g) hb
 rw[this];rfl
theorem aqi{bs br n o:Nat}{v:AV}{l c cs0 z:List AV}{X:AH→Prop}(hM:Mem H S)(hs:cK S 7 v n l)(hrow:S.ob br=.ce z 0)(hz:z.length=7)(hzo:∀a∈z,a.one=true)(hc:c.length=7)(hco:∀a∈c,a.one=true)(hbs:S.ob bs=.ce cs0 0)(ho:o<cs0.length)(hne:¬aF v bs)(hl:(n+1)*96≤1099511627776)
  (hK:∀H' S' v',Mem H' (S'.set bs (.ce (cs0.set o v') 0))→uH S v (n+1) 7 (l++c) S' v'→S'.ob bs=.ce cs0 0→X H') :
  cV 7 96 v (.slice br 0 1 1 7 true) H λv14 dH=>cw 7 v14 (.int 0 (n:Int)) λv16=>ag 7 v16 (.agg c) dH λeB=>ag 1 (.ptr bs o) v14 eB λik=>ag 1 (.ptr bs o) v14 dH λgV=>ag 7 v16 (.agg c) gV λkL=>mB 7 1 v16 (.ptr bs o) (X ik):=by
 refine lZ (sz:=7) (ex:=true) (cap:=1) (o:=0) (n:=1) (l:=z) (m:=0) (b:=br) (k:=λl=>qP 7 96 1 _ l H _) hM hrow (by omega) ?_;rw[List.drop_zero,List.take_of_length_le (by omega)];refine wJ hM hs (by omega) (.inl (by omega)) (by omega) hl hzo λH1 S1 v1 m1 he=>?_;obtain⟨e1,e2,e3,e4⟩:=he;have eF:bs<S.n:=hM.lt (by rw[hbs];simp);have o1:S1.ob bs=.ce cs0 0:=(e2 bs eF hne).trans hbs;rcases e3 with⟨_,g,_⟩|⟨b,cp,ex,cs,rfl,g2,g3,g4,g5,g6,g7⟩
 ·omega
 have hbne:b≠bs:=λq=>by
  subst q;rcases e4 b rfl with g|g
  ·exact hne g
  ·omega
 refine qW (by omega) (by omega) ?_;rw[Int.toNat_natCast,Nat.zero_add];have hle:(n+1)*7≤cp*7:=Nat.mul_le_mul_right _ g4;have hone:(AV.slice b 0 (n+1) cp 7 ex).one=true:=rfl;refine hV m1 g2 (by omega) hc (by omega) hco λH2 m2=>?_;have o2:(S1.set b (.ce (dh cs (n*7) c) 0)).ob bs=.ce cs0 0:=(LS.ao _ _ (Ne.symm hbne)).trans o1;refine aS m2 o2 (by omega) ho hone λH3 m3=>?_;refine aS m1 o1 (by omega) ho hone λH4 m4=>?_;refine hV m4 ((LS.ao _ _ hbne).trans g2) (by omega) hc (by omega) hco λH5 m5=>?_;refine atC hbne ?_;have hll:l.length=n*7:=by
  rw[List.length_append,hz]at g5;omega
 have hsl:(dh cs (n*7) c).length=cs.length:=om (by omega);refine hK H3 (S1.set b (.ce (dh cs (n*7) c) 0)) _ m3 ⟨e1,λx hx hn=>?_,.inr ⟨b,cp,ex,dh cs (n*7) c,rfl,LS.au _ _ _,by rw[hsl];exact g3,g4,by rw[List.length_append,hc];omega,?_,λa ha=>?_⟩,e4⟩ o2
 ·have hxb:x≠b:=λq=>by
   subst q;rcases e4 x rfl with g|g
   ·exact hn g
   ·omega
  exact(LS.ao _ _ hxb).trans (e2 x hx hn)
 ·have ht:cs.take (n*7)=l:=by
   have g:(cs.take (l++z).length).take (n*7)=(l++z).take (n*7):=by rw[g6]
   rw[List.take_take,Nat.min_eq_left (by rw[List.length_append];omega)]at g;rw[g,←hll];exact List.take_left' rfl
  unfold dh;rw[ht,List.take_append_of_le_length (by rw[List.length_append];exact Nat.le_refl _)];exact List.take_of_length_le (Nat.le_refl _)
 ·simp only[dh,List.mem_append]at ha;rcases ha with(g|g)|g
  ·exact g7 a (List.mem_of_mem_take g)
  ·exact hco a g
  ·exact g7 a (List.mem_of_mem_drop g)
end
end Go.X
namespace Go.Proofs.YtcedghechlgecaaGreatDoor
open Go Go.X Go.Proofs.YtcedghechlgecaaGreatDoor.G
section
variable {H:AH}{S:LS}{K:KF}{C:Ctx}{i d:Nat}
theorem fT.plain{Q:Nat→Prop}{kind a:Nat}{names:List (List Nat)}{l:List aO}{vn vl:AV}{cl:Nat→List AV}(hn:iZ S Q vn names)(hl:bW S Q 7 vl l.length cl)(he:∀i e,l[i]? = some e→RE S Q (cl i) e):fT S Q [.int 0 (kind:Int),.int 0 (a:Int),vn,vl,.ab] (.mk kind a names l []):=
 .mk kind a names l [] vn vl .ab cl (λ_=>.ab) (λ_ _=>[]) hn hl he (bW.nil _ _ _ _) (λi b h=>by simp at h) (λi b j s h=>by simp at h)
theorem iZ.nil{Q:Nat→Prop}:iZ S Q .ab []:=⟨bW.nil _ _ _ _,λt h=>by simp at h⟩
theorem iZ.one1{Q:Nat→Prop}{b m:Nat}{s:List Nat}{ex:Bool}(hQ:Q b)(hb:S.ob b=.ce [ak s] m)(h8:B8 s):iZ S Q (.slice b 0 1 1 1 ex) [s]:=
 ⟨bW.names (l:=[s]) hQ hb,λt h=>by
  have e:t=s:=by simpa using h
  subst e;exact h8⟩
theorem _root_.Go.X.iZ.go{S S':LS}{Q Q':Nat→Prop}{v:AV}{l:List (List Nat)}(h:iZ S Q v l)(hk:∀b,Q b→S'.ob b=S.ob b)(h1:∀b,Q b→Q' b):iZ S' Q' v l:=⟨h.1.go hk h1,h.2⟩
theorem _root_.Go.X.bE.setB{bs:Nat}(hp:bE C S i d)(hM:Mem H S)(hbs:bs≠C.bp)(dV:∀b,aF C.vT b→b≠bs)(o:gi):bE C (S.set bs o) i d:=
 hp.keep (X:=λb=>b=bs) hM ((ax.refl (λb=>b=bs) _).set (.inl rfl) _) (λq=>hbs q.symm) dV
theorem app0{m n k:Nat}(O:gX C m n)(hk:k≤n)(hd:d≤200){bs:Nat}{cs:List AV}{S0:LS}(hM:Mem H S)(hp:bE C S i d)(hx:ax (fJ C bs) S0 S)(ho:S.ob bs=.ce cs 0)(h3:cs[3]? = some .ab)(hbs:bs≠C.bp)(dV:∀b,aF C.vT b→b≠bs){X:AH→Prop}{f:aO→Nat→cG aP}
  (hP:Post C (fJ C bs) d (xD bs) K S0 ((fu C.T k i d).bind f))
  (hX:∀(e:aO) (c:List AV) (v:AV) (j:Nat) (H':AH) (S':LS),Mem H' (S'.set bs (.ce (cs.set 3 v) 0))→ax (bJ C) S S'→bE C (S'.set bs (.ce (cs.set 3 v) 0)) j d→bW S' (λb=>S.n≤b∧b<S'.n) 7 v 1 (λ_=>c)→RE S' (λb=>S.n≤b∧b<S'.n) c e→Post C (fJ C bs) d (xD bs) K S0 (f e j)→X H') :
  af (.ptr bs 3) H λv28=>bR v28 λv29=>cI 0 v29 λz30=>bP H (bG (aA H) 1 7 z7 λv31 np=>bT (Nat.beq np.n (Nat.succ H.n)) ((s13 m).2.2.2.2.1 (.ptr C.bp 0) np λCg nI=>cR K Cg nI λv35=>af (.ptr bs 3) nI λv36=>bT (aH v36 v28) (cV 7 96 v28 v31 nI λv37 qt=>cw 7 v37 (.int 0 z30) λv39=>ag 7 v39 v35 qt λzw=>ag 1 (.ptr bs 3) v37 zw λqv=>ag 1 (.ptr bs 3) v37 qt λym=>ag 7 v39 v35 ym λNr=>mB 7 1 v39 (.ptr bs 3) (X qv)))):=by
 have hl3:3<cs.length:=(List.getElem?_eq_some_iff.1 h3).1;refine aj hM ho (v:=.ab) h3 ?_;refine(cK.nil S 7).len ?_;rw[az];refine hM.bP ?_;refine cZ hM rfl dB λH1 m1=>bA (uG (by rw[m1.n,hM.n];rfl)) ?_;have c1:ax cD S (S.push (.ce z7 0)):=(ax.refl _ _).push _;have eF:bs<S.n:=hM.lt (by rw[ho];simp);have kG:¬bJ C bs:=λq=>hbs (by have q:bs=C.bp:=q;exact q);have hbp:=hp.eT hM;refine O.exp k hk hd m1 (hp.no hM c1) (Post.call hP (hx.trans c1.no) (λ_ h=>.inl h) λe j H2 S2 w m2 c2 p2 ⟨c,hw,hR⟩ hP2=>?_);subst hw;have c12:=c1.no.trans c2;have o2:=c12.ob hM ho kG;have or2:S2.ob S.n=.ce z7 0:=c2.ob m1 (LS.al _ _) λq=>by have q:S.n=C.bp:=q;omega
 refine aj m2 o2 (v:=.ab) h3 ?_;refine bA rfl ?_;have n2:S.n+1≤S2.n:=c2.1;refine aqi (n:=0) (l:=[]) m2 (cK.nil _ _) or2 rfl dB hR.len hR.ones o2 hl3 (λh=>h) (by omega) λH3 S3 v' m3 he o3=>?_;obtain⟨e1,e2,e3,e4⟩:=he;have c3:ax (bJ C) S S3:=⟨Nat.le_trans c12.1 e1,λb hb hx=>(e2 b (Nat.lt_of_lt_of_le hb c12.1) λh=>h).trans (c12.2 b hb hx)⟩
 have hv':∀b,aF v' b→S2.n≤b:=λb hb=>(e4 b hb).elim (λh=>h.elim) λh=>h;have p3:bE C S3 j d:=p2.keep (X:=cD) m2 ⟨e1,λb hb _=>e2 b hb λh=>h⟩ (λh=>h) λ_ _ h=>h;have hlt3:∀b,aF v' b→b<S3.n:=λb hb=>by
  rcases e3 with⟨_,g,_⟩|⟨b',cp,ex,cs',rfl,g2,g3,_⟩
  ·omega
  ·have e:b=b':=hb;subst e;have hne:b≠bs:=by have:=hv' b rfl;omega
   exact m3.lt (S:=S3.set bs _) (b:=b) (by rw[LS.ao _ _ hne,g2];simp)
 refine hX e c v' j H3 S3 m3 c3 ?_ ((e3.slR (Q:=λb=>S.n≤b∧b<S3.n) λb hb=>⟨by have:=hv' b hb;omega,hlt3 b hb⟩).congr λi hi=>?_) (hR.go (λb hb=>e2 b hb.2 λh=>h) λb hb=>⟨by have h:=hb.1;have h:S.n+1≤b:=h;omega,Nat.lt_of_lt_of_le hb.2 e1⟩) hP2
 ·refine⟨(LS.ao _ _ hbs.symm).trans p3.ob,?_,p3.lt⟩;rcases p3.tk with g|⟨b,cc,ex,cs',g1,g2,g3⟩
  ·exact .inl g
  ·refine .inr ⟨b,cc,ex,cs',g1,?_,g3⟩;rw[LS.ao _ _ (dV b (by rw[g1];rfl))];exact g2
 ·have:i=0:=by omega
  subst this;show(([]++c:List AV).drop (0*7)).take 7=c;rw[Nat.zero_mul,List.drop_zero,List.nil_append,List.take_of_length_le (by rw[hR.len];exact Nat.le_refl _)]
theorem s95{m n:Nat}(hpv:C.pv=.iface 57 (.agg []))(O:gX C m n):∀k,k≤n+1→Nz C (s13 (m+1)).2.2.1 (pJ C.T k):=by
 intro k hk K H S i d a bs hd hM hp ho hbs dV hP;cases k with
 |zero=>simp only[pJ]at hP;exact False.elim hP
 |succ k=>
  have e:(s13 (m+1)).2.2.1=A8 (nL (s13 m)):=by rw[pV]
  rw[e];have r1:(nL (s13 m)).1=f23:=rfl;have r2:(nL (s13 m)).2.1=f56:=rfl;have r3:(nL (s13 m)).2.2.1=(s13 m).2.2.2.2.1:=rfl;have r4:(nL (s13 m)).2.2.2.1=f130:=rfl;have r5:(nL (s13 m)).2.2.2.2=(s13 m).2.2.2.2.2.2.2.1:=rfl;unfold A8 ahd Qn;rw[r2,r3,r4];simp only[pJ]at hP;have hbp:=hp.eT hM;have eF:bs<S.n:=hM.lt (by rw[ho];simp);have kG:¬bJ C bs:=λq=>hbs (by have q:bs=C.bp:=q;exact q);simp only[aW,av,Nat.zero_add];refine aS (v:=.int 0 ((1:Nat):Int)) hM ho (by omega) (by show 0<5;omega) rfl λH1 m1'=>?_;have m1:Mem H1 (S.set bs (.ce [.int 0 ((1:Nat):Int),.int 0 (a:Int),.ab,.ab,.ab] 0)):=m1';clear m1';have x1:ax (fJ C bs) S (S.set bs (.ce [.int 0 ((1:Nat):Int),.int 0 (a:Int),.ab,.ab,.ab] 0)):=(ax.refl _ _).set (.inl (.inr rfl)) _;have p1:=hp.setB hM hbs dV (.ce [.int 0 ((1:Nat):Int),.int 0 (a:Int),.ab,.ab,.ab] 0);have o1:(S.set bs (.ce [.int 0 ((1:Nat):Int),.int 0 (a:Int),.ab,.ab,.ab] 0)).ob bs=.ce [.int 0 ((1:Nat):Int),.int 0 (a:Int),.ab,.ab,.ab] 0:=LS.au _ _ _;refine dF (s:=[102,117,110,99,116,105,111,110]) (bg (by decide)) m1 p1 λH2 S2 m2 c2 p2=>?_;simp only[aq,aX];have o2:=c2.ob m1 o1 kG;have x2:=x1.trans (c2.two (bn:=bs));cases h1:isA C.T [102,117,110,99,116,105,111,110] i with
  |true=>
   simp only[h1,if_true]at hP p2;rw[aG];refine aS (v:=.int 0 ((12:Nat):Int)) m2 o2 (by omega) (by show 0<5;omega) rfl λH3 m3'=>?_;have m3:Mem H3 (S2.set bs (.ce [.int 0 ((12:Nat):Int),.int 0 (a:Int),.ab,.ab,.ab] 0)):=m3';clear m3';have x3:ax (fJ C bs) S (S2.set bs (.ce [.int 0 ((12:Nat):Int),.int 0 (a:Int),.ab,.ab,.ab] 0)):=x2.set (.inl (.inr rfl)) _;have p3:=p2.setB m2 hbs dV (.ce [.int 0 ((12:Nat):Int),.int 0 (a:Int),.ab,.ab,.ab] 0);have o3:(S2.set bs (.ce [.int 0 ((12:Nat):Int),.int 0 (a:Int),.ab,.ab,.ab] 0)).ob bs=.ce [.int 0 ((12:Nat):Int),.int 0 (a:Int),.ab,.ab,.ab] 0:=LS.au _ _ _;refine Au hpv m3 p3 (Post.call hP x3 (λ_ h=>.inl h) λs j H4 S4 w m4 c4 p4 ⟨hv,h8⟩ hP2=>?_);subst hv;have o4:=c4.ob m3 o3 kG;have x4:=x3.trans (c4.two (bn:=bs));refine gU (jm s) ?_;refine cZ m4 rfl (λx h=>by rw[List.mem_singleton]at h;rw[h];exact jm s) λH5 m5=>?_;have c5:ax cD S4 (S4.push (.ce [ak s] 0)):=(ax.refl _ _).push _;refine aS m5 (c5.ob m4 o4 λq=>q) (by omega) (by show 2<5;omega) rfl λH6 SK=>?_;have m6:Mem H6 ((S4.push (.ce [ak s] 0)).set bs (.ce [.int 0 ((12:Nat):Int),.int 0 (a:Int),.slice S4.n 0 1 1 1 true,.ab,.ab] 0)):=SK;clear SK;have x6:ax (fJ C bs) S ((S4.push (.ce [ak s] 0)).set bs (.ce [.int 0 ((12:Nat):Int),.int 0 (a:Int),.slice S4.n 0 1 1 1 true,.ab,.ab] 0)):=(x4.trans c5.no).set (.inl (.inr rfl)) _;have p6:=(p4.no m4 c5).setB m5 hbs dV (.ce [.int 0 ((12:Nat):Int),.int 0 (a:Int),.slice S4.n 0 1 1 1 true,.ab,.ab] 0);have o6:((S4.push (.ce [ak s] 0)).set bs (.ce [.int 0 ((12:Nat):Int),.int 0 (a:Int),.slice S4.n 0 1 1 1 true,.ab,.ab] 0)).ob bs=.ce [.int 0 ((12:Nat):Int),.int 0 (a:Int),.slice S4.n 0 1 1 1 true,.ab,.ab] 0:=LS.au _ _ _;have n4:=x4.1;have BD:((S4.push (.ce [ak s] 0)).set bs (.ce [.int 0 ((12:Nat):Int),.int 0 (a:Int),.slice S4.n 0 1 1 1 true,.ab,.ab] 0)).ob S4.n=.ce [ak s] 0:=(LS.ao _ _ (by omega)).trans (LS.al _ _);have nn6:((S4.push (.ce [ak s] 0)).set bs (.ce [.int 0 ((12:Nat):Int),.int 0 (a:Int),.slice S4.n 0 1 1 1 true,.ab,.ab] 0)).n=S4.n+1:=rfl;revert m6 x6 p6 o6 BD nn6;generalize (S4.push (.ce [ak s] 0)).set bs (.ce [.int 0 ((12:Nat):Int),.int 0 (a:Int),.slice S4.n 0 1 1 1 true,.ab,.ab] 0)=S6;intro m6 x6 p6 o6 BD nn6;unfold Qm Ql;rw[r1,r5];refine jw m6 p6 λH7 S7 m7 c7 p7=>?_;rw[aq];refine js ?_;have o7:=c7.ob m6 o6 λq=>q;have on7:=c7.ob m6 BD λq=>q;have x7:=x6.trans (c7.no (X:=fJ C bs));have n7:=c7.1;refine O.body k (by omega) hd m7 p7 (Post.call hP2 x7 (λ_ h=>.inl h) λe j H8 S8 w m8 c8 p8 ⟨c,hw,hR⟩ hP3=>?_);subst hw;have o8:=c8.ob m7 o7 kG;have on8:=c8.ob m7 on7 λq=>by have q:S4.n=C.bp:=q;omega
   have x8:=x7.trans (c8.two (bn:=bs));have n8:=c8.1;rw[gK];refine ia hR.len ?_;rw[CW hR.len rfl];refine cZ m8 (by rw[hR.len]) hR.ones λH9 m9=>?_;simp only[aW,av,Nat.zero_add];have c9:ax cD S8 (S8.push (.ce c 0)):=(ax.refl _ _).push _;refine aS m9 (c9.ob m8 o8 λq=>q) (by omega) (by show 3<5;omega) rfl λHa ma=>?_;have nx7:=x7.1;have kp:∀b,b<S8.n→b≠bs→((S8.push (.ce c 0)).set bs (.ce [.int 0 ((12:Nat):Int),.int 0 (a:Int),.slice S4.n 0 1 1 1 true,.slice S8.n 0 1 1 7 true,.ab] 0)).ob b=S8.ob b:=λb hb hne=>by rw[LS.ao _ _ hne,LS.bq _ _ hb]
   exact hP3 Ha _ _ ma ((x8.trans c9.no).set (.inl (.inr rfl)) _) ((p8.no m8 c9).setB m9 hbs dV _) ⟨rfl,_,LS.au _ _ _,fT.plain (l:=[e]) (cl:=λ_=>c) (iZ.one1 (b:=S4.n) ⟨n4,by show S4.n<S8.n+1;omega⟩ ((kp _ (by omega) (by omega)).trans on8) h8) (bW.single (m:=0) ⟨by omega,Nat.lt_succ_self _⟩ ((LS.ao _ _ (by omega)).trans (LS.al _ _)) hR.len) λi e' h=>by
    cases i with
    |zero=>
     have e1:e=e':=by simpa using h
     subst e1;exact hR.go (λb hb=>kp b hb.2 (by have:=hb.1;omega)) λb hb=>⟨by have:=hb.1;omega,Nat.lt_succ_of_lt hb.2⟩
    |succ i=>simp at h⟩
  |false=>
   simp only[h1,Bool.false_eq_true,if_false]at hP p2;rw[aw];refine Au hpv m2 p2 (Post.call hP x2 (λ_ h=>.inl h) λs j H3 S3 w m3 c3 p3 ⟨hv,h8⟩ hP2=>?_);subst hv;have o3:=c3.ob m2 o2 kG;have x3:=x2.trans (c3.two (bn:=bs));refine gU (jm s) ?_;refine cZ m3 rfl (λx h=>by rw[List.mem_singleton]at h;rw[h];exact jm s) λH4 m4=>?_;have c4:ax cD S3 (S3.push (.ce [ak s] 0)):=(ax.refl _ _).push _;refine aS m4 (c4.ob m3 o3 λq=>q) (by omega) (by show 2<5;omega) rfl λH5 m5'=>?_;have m5:Mem H5 ((S3.push (.ce [ak s] 0)).set bs (.ce [.int 0 ((1:Nat):Int),.int 0 (a:Int),.slice S3.n 0 1 1 1 true,.ab,.ab] 0)):=m5';clear m5';have x5:ax (fJ C bs) S ((S3.push (.ce [ak s] 0)).set bs (.ce [.int 0 ((1:Nat):Int),.int 0 (a:Int),.slice S3.n 0 1 1 1 true,.ab,.ab] 0)):=(x3.trans c4.no).set (.inl (.inr rfl)) _;have p5:=(p3.no m3 c4).setB m4 hbs dV (.ce [.int 0 ((1:Nat):Int),.int 0 (a:Int),.slice S3.n 0 1 1 1 true,.ab,.ab] 0);have o5:((S3.push (.ce [ak s] 0)).set bs (.ce [.int 0 ((1:Nat):Int),.int 0 (a:Int),.slice S3.n 0 1 1 1 true,.ab,.ab] 0)).ob bs=.ce [.int 0 ((1:Nat):Int),.int 0 (a:Int),.slice S3.n 0 1 1 1 true,.ab,.ab] 0:=LS.au _ _ _;have n3:=x3.1;have on5:((S3.push (.ce [ak s] 0)).set bs (.ce [.int 0 ((1:Nat):Int),.int 0 (a:Int),.slice S3.n 0 1 1 1 true,.ab,.ab] 0)).ob S3.n=.ce [ak s] 0:=(LS.ao _ _ (by omega)).trans (LS.al _ _);have nn5:((S3.push (.ce [ak s] 0)).set bs (.ce [.int 0 ((1:Nat):Int),.int 0 (a:Int),.slice S3.n 0 1 1 1 true,.ab,.ab] 0)).n=S3.n+1:=rfl;revert m5 x5 p5 o5 on5 nn5;generalize (S3.push (.ce [ak s] 0)).set bs (.ce [.int 0 ((1:Nat):Int),.int 0 (a:Int),.slice S3.n 0 1 1 1 true,.ab,.ab] 0)=S5;intro m5 x5 p5 o5 on5 nn5;refine dF (s:=[61]) (bg (by decide)) m5 p5 λH6 S6 m6 c6 p6=>?_;simp only[aq,aX];have o6:=c6.ob m5 o5 kG;have BD:=c6.ob m5 on5 λq=>by have q:S3.n=C.bp:=q;omega
   have x6:=x5.trans (c6.two (bn:=bs));have n6:=c6.1;cases h2:isA C.T [61] j with
   |false=>
    simp only[h2,Bool.false_eq_true,if_false]at hP2 p6;rw[aw];exact hP2 H6 S6 _ m6 x6 p6 ⟨rfl,_,o6,fT.plain (iZ.one1 ⟨n3,by omega⟩ BD h8) (bW.nil _ _ _ (λ_=>[])) λi e h=>by simp at h⟩
   |true=>
    simp only[h2,if_true]at hP2 p6;rw[aG];refine app0 O (k:=k) (by omega) hd m6 p6 x6 o6 rfl hbs dV hP2 λe c v j H7 S7 m7 c7 p7 hsl hR hP3=>?_;have on7:=c7.ob m6 BD λq=>by have q:S3.n=C.bp:=q;omega
    have n7:=c7.1;have n6':=x6.1;have kp:∀b,S.n≤b→(S7.set bs (.ce ([.int 0 ((1:Nat):Int),.int 0 (a:Int),.slice S3.n 0 1 1 1 true,.ab,.ab].set 3 v) 0)).ob b=S7.ob b:=λb hb=>LS.ao _ _ (by omega);exact hP3 H7 _ _ m7 ((x6.trans (c7.two (bn:=bs))).set (.inl (.inr rfl)) _) p7 ⟨rfl,_,LS.au _ _ _,fT.plain (l:=[e]) (iZ.one1 (b:=S3.n) ⟨n3,by show S3.n<S7.n;omega⟩ ((kp _ n3).trans on7) h8) (hsl.go (λb hb=>kp b (by have:=hb.1;omega)) λb hb=>⟨by have:=hb.1;omega,hb.2⟩) λi e' h=>by
     cases i with
     |zero=>
      have e1:e=e':=by simpa using h
      subst e1;exact hR.go (λb hb=>kp b (by have:=hb.1;omega)) λb hb=>⟨by have:=hb.1;omega,hb.2⟩
     |succ i=>simp at h⟩
end
end Go.Proofs.YtcedghechlgecaaGreatDoor
namespace Go.X
theorem RE.k0{S:LS}{Q:Nat→Prop}{c:List AV}{e:aO}(h:RE S Q c e):∃l,c=.int 0 (e.kind:Int)::l:=by
 cases h;exact⟨_,rfl⟩
end Go.X
namespace Go.Proofs.YtcedghechlgecaaGreatDoor
open Go Go.X Go.Proofs.YtcedghechlgecaaGreatDoor.G
section
variable {H:AH}{S:LS}{K:KF}{C:Ctx}{i d:Nat}
theorem azT{m n:Nat}(hpv:C.pv=.iface 57 (.agg []))(O:gX C m n):∀k,k≤n+1→Nz C (s13 (m+1)).2.2.2.2.2.2.1 (rF C.T k):=by
 intro k hk K H S i d a bs hd hM hp ho hbs dV hP;cases k with
 |zero=>simp only[rF]at hP;exact False.elim hP
 |succ k=>
  have e:(s13 (m+1)).2.2.2.2.2.2.1=wO (ox (s13 m)):=by rw[pV]
  rw[e];have r1:(ox (s13 m)).1=(s13 m).2.2.2.2.1:=rfl;have r2:(ox (s13 m)).2.1=ng:=rfl;have r3:(ox (s13 m)).2.2=(s13 m).2.2.2.2.2.2.2.2.2.1:=rfl;unfold wO Vi JM;rw[r1,r2,r3];simp only[rF]at hP;have hbp:=hp.eT hM;have eF:bs<S.n:=hM.lt (by rw[ho];simp);have kG:¬bJ C bs:=λq=>hbs (by have q:bs=C.bp:=q;exact q);have gY:∀b,S.n≤b→¬bJ C b:=λb hb q=>by have q:b=C.bp:=q;omega
  refine O.post k (by omega) hd hM hp (Post.call hP (ax.refl _ _) (λ_ h=>.inl h) λe j H1 S1 v m1 c1 p1 ⟨c,hv,hR⟩ hP2=>?_);subst hv;have o1:=c1.ob hM ho kG;have n1:=c1.1;simp only[gQ];refine bZ (bF m1 dB λH2 m2=>?_);refine jc m2 (LS.al S1 (.ce z7 0)) rfl hR.len hR.ones λH3 m3=>?_;have c3:ax cD S1 ((S1.push (.ce z7 0)).set S1.n (.ce c 0)):=((ax.refl _ _).push _).set (.inr (Nat.le_refl _)) _;have Ya:((S1.push (.ce z7 0)).set S1.n (.ce c 0)).ob S1.n=.ce c 0:=LS.au _ _ _;have nn3:((S1.push (.ce z7 0)).set S1.n (.ce c 0)).n=S1.n+1:=rfl;have o3:=c3.ob m1 o1 λq=>q;have p3:=p1.no m1 c3;have x3:ax (bJ C) S ((S1.push (.ce z7 0)).set S1.n (.ce c 0)):=c1.trans c3.no;have hR3:RE ((S1.push (.ce z7 0)).set S1.n (.ce c 0)) (gE S.n S1.n) c e:=hR.go (λb hb=>c3.2 b hb.2 λq=>q) λ_ h=>h;revert m3 c3 Ya nn3 o3 p3 x3 hR3;generalize (S1.push (.ce z7 0)).set S1.n (.ce c 0)=S3;intro m3 c3 Ya nn3 o3 p3 x3 hR3;obtain⟨cr,hcr⟩:=hR.k0;simp only[aW,av,Nat.zero_add];refine aj m3 Ya (v:=.int 0 (e.kind:Int)) (by rw[hcr];rfl) ?_;have e10:Int.ofNat 10=((10:Nat):Int):=rfl;rw[az,bD,e10];by_cases g10:e.kind=10
  ·rw[if_pos g10]at hP2;rw[decide_eq_true (by omega),aG];refine gz m3 Ya hR.len ?_;refine m3.bP ?_;rw[gK];refine ia hR.len ?_;rw[CW hR.len rfl];refine cZ m3 (by rw[hR.len]) hR.ones λH4 m4=>bA (uG (by rw[m4.n,m3.n];rfl)) ?_;have c4:ax cD S3 (S3.push (.ce c 0)):=(ax.refl _ _).push _;refine aS (v:=.int 0 ((3:Nat):Int)) m4 (c4.ob m3 o3 λq=>q) (by omega) (by show 0<5;omega) rfl λH5 m5'=>?_;have m5:Mem H5 ((S3.push (.ce c 0)).set bs (.ce [.int 0 ((3:Nat):Int),.int 0 (a:Int),.ab,.ab,.ab] 0)):=m5';clear m5';refine gz m5 ((LS.ao _ _ (by omega)).trans (c4.ob m3 Ya λq=>q)) hR.len ?_;refine bA hR.same ?_;refine aS m5 (LS.au _ _ _) (by omega) (by show 3<5;omega) rfl λH6 SK=>?_;have m6:Mem H6 (((S3.push (.ce c 0)).set bs (.ce [.int 0 ((3:Nat):Int),.int 0 (a:Int),.ab,.ab,.ab] 0)).set bs (.ce [.int 0 ((3:Nat):Int),.int 0 (a:Int),.ab,.slice S3.n 0 1 1 7 true,.ab] 0)):=SK;have kp:∀b,b≠bs→b<S3.n→(((S3.push (.ce c 0)).set bs (.ce [.int 0 ((3:Nat):Int),.int 0 (a:Int),.ab,.ab,.ab] 0)).set bs (.ce [.int 0 ((3:Nat):Int),.int 0 (a:Int),.ab,.slice S3.n 0 1 1 7 true,.ab] 0)).ob b=S3.ob b:=λb h1 h2=>by rw[LS.ao _ _ h1,LS.ao _ _ h1,LS.bq _ _ h2]
   have x6:ax (fJ C bs) S (((S3.push (.ce c 0)).set bs (.ce [.int 0 ((3:Nat):Int),.int 0 (a:Int),.ab,.ab,.ab] 0)).set bs (.ce [.int 0 ((3:Nat):Int),.int 0 (a:Int),.ab,.slice S3.n 0 1 1 7 true,.ab] 0)):=(((x3.trans c4.no).two (bn:=bs)).set (.inl (.inr rfl)) _).set (.inl (.inr rfl)) _;refine hP2 H6 _ _ m6 x6 (((p3.no m3 c4).setB m4 hbs dV _).setB m5 hbs dV _) ⟨rfl,_,LS.au _ _ _,fT.plain (l:=[e]) (cl:=λ_=>c) iZ.nil (bW.single (b:=S3.n) (m:=0) ⟨by omega,Nat.lt_succ_self _⟩ (by rw[LS.ao _ _ (by omega),LS.ao _ _ (by omega)];exact LS.al _ _) hR.len) λi e' h=>?_⟩;cases i with
   |zero=>
    have e1:e=e':=by simpa using h
    subst e1;exact hR3.go (λb hb=>kp b (by have:=hb.1;omega) (by have:=hb.2;omega)) λb hb=>⟨hb.1,by show b<S3.n+1;have:=hb.2;omega⟩
   |succ i=>simp at h
  ·rw[if_neg g10]at hP2;rw[decide_eq_false (by omega),aw];refine gP (s:=[61]) hpv (bg (by decide)) m3 p3 (Post.call (jM:=oQ) hP2 (x3.two (bn:=bs)) (λ_ h=>.inl h) λ_ j2 H4 S4 w m4 c4 p4 _ hP3=>?_);have ov4:=c4.ob m3 Ya (gY _ n1);have o4:=c4.ob m3 o3 kG;have x4:=x3.trans c4;refine gz m4 ov4 hR.len ?_;refine O.exp k (by omega) hd m4 p4 (Post.call hP3 (x4.two (bn:=bs)) (λ_ h=>.inl h) λy j3 H5 S5 w m5 c5 p5 ⟨cb,hw,hR2⟩ CX=>?_);subst hw;have ov5:=c5.ob m4 ov4 (gY _ n1);have o5:=c5.ob m4 o4 kG;have x5:=x4.trans c5;have n5:=x5.1;have n4:=x4.1;have c35:ax (bJ C) S3 S5:=c4.trans c5;have n35:=c35.1;refine gz m5 ov5 hR.len ?_;refine bA hR.same ?_;refine m5.bP ?_;rw[gK];refine ia hR.len ?_;rw[gK];refine ia hR2.len ?_;rw[afg hR.len hR2.len rfl];refine cZ m5 (by rw[List.length_append,hR.len,hR2.len]) (λx h=>?_) λH6 m6=>bA (uG (by rw[m6.n,m5.n];rfl)) ?_
   ·rcases List.mem_append.1 h with g|g
    ·exact hR.ones x g
    ·exact hR2.ones x g
   have c6:ax cD S5 (S5.push (.ce (c++cb) 0)):=(ax.refl _ _).push _;refine aS (v:=.int 0 ((2:Nat):Int)) m6 (c6.ob m5 o5 λq=>q) (by omega) (by show 0<5;omega) rfl λH7 m7'=>?_;have m7:Mem H7 ((S5.push (.ce (c++cb) 0)).set bs (.ce [.int 0 ((2:Nat):Int),.int 0 (a:Int),.ab,.ab,.ab] 0)):=m7';clear m7';refine gz m7 ((LS.ao _ _ (by omega)).trans (c6.ob m5 ov5 λq=>q)) hR.len ?_;refine bA hR.same ?_;refine aS m7 (LS.au _ _ _) (by omega) (by show 3<5;omega) rfl λH8 m8'=>?_;have m8:Mem H8 (((S5.push (.ce (c++cb) 0)).set bs (.ce [.int 0 ((2:Nat):Int),.int 0 (a:Int),.ab,.ab,.ab] 0)).set bs (.ce [.int 0 ((2:Nat):Int),.int 0 (a:Int),.ab,.slice S5.n 0 2 2 7 true,.ab] 0)):=m8';have kp:∀b,b≠bs→b<S5.n→(((S5.push (.ce (c++cb) 0)).set bs (.ce [.int 0 ((2:Nat):Int),.int 0 (a:Int),.ab,.ab,.ab] 0)).set bs (.ce [.int 0 ((2:Nat):Int),.int 0 (a:Int),.ab,.slice S5.n 0 2 2 7 true,.ab] 0)).ob b=S5.ob b:=λb h1 h2=>by rw[LS.ao _ _ h1,LS.ao _ _ h1,LS.bq _ _ h2]
   have x8:ax (fJ C bs) S (((S5.push (.ce (c++cb) 0)).set bs (.ce [.int 0 ((2:Nat):Int),.int 0 (a:Int),.ab,.ab,.ab] 0)).set bs (.ce [.int 0 ((2:Nat):Int),.int 0 (a:Int),.ab,.slice S5.n 0 2 2 7 true,.ab] 0)):=(((x5.trans c6.no).two (bn:=bs)).set (.inl (.inr rfl)) _).set (.inl (.inr rfl)) _;refine CX H8 _ _ m8 x8 (((p5.no m5 c6).setB m6 hbs dV _).setB m7 hbs dV _) ⟨rfl,_,LS.au _ _ _,fT.plain (l:=[e,y]) iZ.nil (bW.two (b:=S5.n) (m:=0) ⟨n5,Nat.lt_succ_self _⟩ (by rw[LS.ao _ _ (by omega),LS.ao _ _ (by omega)];exact LS.al _ _) hR.len hR2.len) λi e' h=>?_⟩
   match i,h with
   |0,h=>
    have e1:e=e':=by simpa using h
    subst e1;exact hR3.go (λb hb=>by
     have h1:=hb.1;have h2:=hb.2;rw[kp b (by omega) (by omega)];exact c35.2 b (by omega) (gY b h1)) λb hb=>⟨hb.1,by show b<S5.n+1;have:=hb.2;omega⟩
   |1,h=>
    have e1:y=e':=by simpa using h
    subst e1;exact hR2.go (λb hb=>kp b (by have:=hb.1;omega) hb.2) λb hb=>⟨by have:=hb.1;omega,Nat.lt_succ_of_lt hb.2⟩
   |i+2,h=>simp at h
end
section
variable {H:AH}{S:LS}{K:KF}{C:Ctx}{i d:Nat}
theorem awu{m n k:Nat}(O:gX C m n)(hk:k≤n)(hd:d≤200){bs:Nat}{cs:List AV}{S0:LS}{Z:Nat→Prop}{v:AV}{l:List aO}(hM:Mem H S)(hp:bE C S i d)(hx:ax (fJ C bs) S0 S)(ho:S.ob bs=.ce cs 0)(h3:cs[3]? = some v)(hbs:bs≠C.bp)(dV:∀b,aF C.vT b→b≠bs)
  (L:fz mY Z S v l) (hZ:∀b,Z b→b≠bs∧b≠C.bp∧¬aF C.vT b) (hnew:∀b,S.n≤b→Z b) (hll:l.length≤1000000){X:AH→Prop}{f:aO→Nat→cG aP}
  (hP:Post C (fJ C bs) d (xD bs) K S0 ((fu C.T k i d).bind f))
  (hX:∀(e:aO) (v':AV) (j:Nat) (H':AH) (S':LS),Mem H' (S'.set bs (.ce (cs.set 3 v') 0))→ax (λb=>b=C.bp∨aF v b) S S'→bE C (S'.set bs (.ce (cs.set 3 v') 0)) j d→fz mY Z (S'.set bs (.ce (cs.set 3 v') 0)) v' (l++[e])→(∀b,aF v' b→aF v b∨S.n≤b)→Post C (fJ C bs) d (xD bs) K S0 (f e j)→X H') :
  af (.ptr bs 3) H λv28=>bR v28 λv29=>cI 0 v29 λz30=>bP H (bG (aA H) 1 7 z7 λv31 np=>bT (Nat.beq np.n (Nat.succ H.n)) ((s13 m).2.2.2.2.1 (.ptr C.bp 0) np λCg nI=>cR K Cg nI λv35=>af (.ptr bs 3) nI λv36=>bT (aH v36 v28) (cV 7 96 v28 v31 nI λv37 qt=>cw 7 v37 (.int 0 z30) λv39=>ag 7 v39 v35 qt λzw=>ag 1 (.ptr bs 3) v37 zw λqv=>ag 1 (.ptr bs 3) v37 qt λym=>ag 7 v39 v35 ym λNr=>mB 7 1 v39 (.ptr bs 3) (X qv)))):=by
 have hl3:3<cs.length:=(List.getElem?_eq_some_iff.1 h3).1;have LR:df mY 0 S v l:=L.toR λb _=>Nat.zero_le _;refine aj hM ho (v:=v) h3 ?_;refine LR.afm ?_;rw[az];refine hM.bP ?_;refine cZ hM rfl dB λH1 m1=>bA (uG (by rw[m1.n,hM.n];rfl)) ?_;have c1:ax cD S (S.push (.ce z7 0)):=(ax.refl _ _).push _;have eF:bs<S.n:=hM.lt (by rw[ho];simp);have kG:¬bJ C bs:=λq=>hbs (by have q:bs=C.bp:=q;exact q);have hbp:=hp.eT hM;refine O.exp k hk hd m1 (hp.no hM c1) (Post.call hP (hx.trans c1.no) (λ_ h=>.inl h) λe j H2 S2 w m2 c2 p2 ⟨c,hw,hR⟩ hP2=>?_);subst hw;have c12:ax (bJ C) S S2:=c1.no.trans c2;have o2:=c12.ob hM ho kG;have or2:S2.ob S.n=.ce z7 0:=c2.ob m1 (LS.al _ _) λq=>by have q:S.n=C.bp:=q;omega
 have L2:fz mY Z S2 v l:=L.keep hM c12.1 λb hb hlt=>c12.2 b hlt λq=>(hZ b hb).2.1 (by have q:b=C.bp:=q;exact q);refine aj m2 o2 (v:=v) h3 ?_;refine bA LR.same ?_;have n2:S.n+1≤S2.n:=c2.1;have azU:¬aF v bs:=λq=>(hZ bs (L.BE q)).1 rfl;have aoE:∀b,aF v b→b<S.n:=λb hb=>L.lt hM hb;obtain⟨cl,hfr,hrest⟩:=id L2;refine aqi m2 hfr or2 rfl dB hR.len hR.ones o2 hl3 azU (by omega) λH3 S3 v' m3 he o3=>?_;have he':=he;obtain⟨e1,e2,e3,e4⟩:=he';have c3:ax (λb=>b=C.bp∨aF v b) S S3:=⟨Nat.le_trans c12.1 e1,λb hb hx=>(e2 b (Nat.lt_of_lt_of_le hb c12.1) λh=>hx (.inr h)).trans (c12.2 b hb λq=>hx (.inl (by have q:b=C.bp:=q;exact q)))⟩
 have L3:fz mY Z S3 v' (l++[e]):=L2.step hR (λb hb=>⟨hnew b (by have h:S.n+1≤b:=hb.1;omega),hb.2,λq=>by have:=aoE b q;have h:S.n+1≤b:=hb.1;omega⟩) (λb hb=>hnew b (by omega)) λcl' h'=>by rw[hfr.uniq h'];exact he
 have p3:bE C S3 j d:=p2.keep (X:=λb=>aF v b) m2 ⟨e1,λb hb hn=>e2 b hb hn⟩ (λq=>(hZ _ (L.BE q)).2.1 rfl) λb hb q=>(hZ _ (L.BE q)).2.2 hb;have L4:fz mY Z (S3.set bs (.ce (cs.set 3 v') 0)) v' (l++[e]):=by
  obtain⟨cl3,g1,g2,g3,g4⟩:=L3;refine⟨cl3,?_,g2,g3,λi c a hc ha=>?_⟩
  ·rcases g1 with g|⟨b,cc,ex,cs',q1,q2,q3⟩
   ·exact .inl g
   ·exact .inr ⟨b,cc,ex,cs',q1,(LS.ao _ _ (hZ b (g3 b (by rw[q1];rfl))).1).trans q2,q3⟩
  ·obtain⟨Q,q1,q2⟩:=g4 i c a hc ha;exact⟨Q,RE.go (λb hb=>LS.ao _ _ (hZ b (q2 b hb).1).1) (λ_ h=>h) q1,q2⟩
 refine hX e v' j H3 S3 m3 c3 ?_ L4 (λb hb=>(e4 b hb).elim .inl λh=>.inr (by omega)) hP2;refine⟨(LS.ao _ _ hbs.symm).trans p3.ob,?_,p3.lt⟩;rcases p3.tk with g|⟨b,cc,ex,cs',g1,g2,g3⟩
 ·exact .inl g
 ·refine .inr ⟨b,cc,ex,cs',g1,?_,g3⟩;rw[LS.ao _ _ (dV b (by rw[g1];rfl))];exact g2
end
end Go.Proofs.YtcedghechlgecaaGreatDoor
namespace Go.X
section
variable {S:LS}
theorem bW.BE{Q:Nat→Prop}{sz n:Nat}{v:AV}{cl:Nat→List AV}(h:bW S Q sz v n cl){b:Nat}(hb:aF v b):Q b:=by
 rcases h with⟨rfl,_⟩|⟨b',o,c,ex,cs,m,rfl,h1,_⟩
 ·exact hb.elim
 ·have e:b=b':=hb;rw[e];exact h1
end
end Go.X
namespace Go.Proofs.YtcedghechlgecaaGreatDoor
open Go Go.X Go.Proofs.YtcedghechlgecaaGreatDoor.G
section
variable {H:AH}{S:LS}{K:KF}{C:Ctx}{i d:Nat}
theorem fT.blk{Q:Nat→Prop}{kind a:Nat}{names:List (List Nat)}{l:List aO}{b:List aP}{vn vl vb v6:AV}{cl cb:Nat→List AV}(hn:iZ S Q vn names)(hl:bW S Q 7 vl l.length cl)(he:∀i e,l[i]? = some e→RE S Q (cl i) e)(hvb:bW S Q 1 vb 1 (λ_=>[v6]))(h6:bW S Q 5 v6 b.length cb)(hs:∀j s,b[j]? = some s→fT S Q (cb j) s):fT S Q [.int 0 (kind:Int),.int 0 (a:Int),vn,vl,vb] (.mk kind a names l [b]):=
 .mk kind a names l [b] vn vl vb cl (λ_=>v6) (λ_=>cb) hn hl he hvb (λi b' h=>by
  cases i with
  |zero=>
   have e1:b=b':=by simpa using h
   subst e1;exact h6
  |succ i=>simp at h) (λi b' j s h h2=>by
  cases i with
  |zero=>
   have e1:b=b':=by simpa using h
   subst e1;exact hs j s h2
  |succ i=>simp at h)
structure rG(C:Ctx)(S0 S:LS)(bs kind a:Nat)(vn:AV)(names:List (List Nat))(vl:AV)(l:List aO):Prop where
 x:ax (fJ C bs) S0 S
 ob:S.ob bs=.ce [.int 0 (kind:Int),.int 0 (a:Int),vn,vl,.ab] 0
 N:∃Q,iZ S Q vn names∧∀b,Q b→S0.n≤b∧b<S.n∧¬aF vl b
 E:fz mY (λb=>S0.n≤b∧¬aF vn b) S vl l
theorem rG.keep{S0 S':LS}{bs kind a:Nat}{vn vl:AV}{names:List (List Nat)}{l:List aO}(h:rG C S0 S bs kind a vn names vl l)(hM:Mem H S)(hbp:C.bp<S0.n)(hbs:bs≠C.bp)(g:ax (bJ C) S S'):rG C S0 S' bs kind a vn names vl l:=by
 have nb:∀b,S0.n≤b→¬bJ C b:=λb hb q=>by have q:b=C.bp:=q;omega
 obtain⟨Q,h1,h2⟩:=h.N;exact⟨h.x.trans g.two,g.ob hM h.ob (λq=>hbs (by have q:bs=C.bp:=q;exact q)),⟨Q,h1.go (λb hb=>g.2 b (h2 b hb).2.1 (nb b (h2 b hb).1)) (λ_ h=>h),λb hb=>⟨(h2 b hb).1,Nat.lt_of_lt_of_le (h2 b hb).2.1 g.1,(h2 b hb).2.2⟩⟩,h.E.keep hM g.1 λb h1 h2=>g.2 b h2 (nb b h1.1)⟩
theorem e99{m n:Nat}(hpv:C.pv=.iface 57 (.agg []))(O:gX C m n){S0:LS}{H0:AH}{i0 bs kind a k:Nat}{vn vl:AV}{names:List (List Nat)}{l:List aO}(hd:d≤200)(hM0:Mem H0 S0)(hp0:bE C S0 i0 d)(eF:bs<S0.n)(hbs:bs≠C.bp)(dV:∀b,aF C.vT b→b≠bs)(hk:k≤n+1)
  (hM:Mem H S) (hp:bE C S i d) (t:rG C S0 S bs kind a vn names vl l) (hP:Post C (fJ C bs) d (xD bs) K S0 (oL C.T k kind a names l i d)):HI (lM (s13 m)) K (.ptr C.bp 0) (.ptr bs 0) H:=by
 cases k with
 |zero=>simp only[oL]at hP;exact False.elim hP
 |succ k=>
  have r1:(lM (s13 m)).1=(s13 m).1:=rfl;have r4:(lM (s13 m)).2.2.2.1=ng:=rfl;have hbp:=hp0.eT hM0;have kG:¬bJ C bs:=λq=>hbs (by have q:bs=C.bp:=q;exact q);have gY:∀b,S0.n≤b→¬bJ C b:=λb hb q=>by have q:b=C.bp:=q;omega
  simp only[oL]at hP;unfold HI;rw[r1,r4];refine gP (s:=[100,111]) hpv (bg (by decide)) hM hp (Post.call (jM:=oQ) hP t.x (λ_ h=>.inl h) λ_ j H1 S1 w m1 c1 p1 _ hP1=>?_);have t1:=t.keep hM hbp hbs c1;refine O.block k (by omega) hd m1 p1 (Post.call (jM:=lz) hP1 t1.x (λ_ h=>.inl h) λb j H2 S2 v6 m2 c2 p2 ⟨cb,hsl,hrs⟩ hP2=>?_);have t2:=t1.keep m1 hbp hbs c2;refine gU hsl.one ?_;refine cZ m2 rfl (λx h=>by rw[List.mem_singleton]at h;rw[h];exact hsl.one) λH3 m3=>?_;have c3:ax cD S2 (S2.push (.ce [v6] 0)):=(ax.refl _ _).push _;simp only[aW,av,Nat.zero_add];refine aS m3 (c3.ob m2 t2.ob λq=>q) (by omega) (by show 4<5;omega) rfl λH4 CZ=>?_;have m4:Mem H4 ((S2.push (.ce [v6] 0)).set bs (.ce [.int 0 (kind:Int),.int 0 (a:Int),vn,vl,.slice S2.n 0 1 1 1 true] 0)):=CZ;clear CZ;have x4:ax (fJ C bs) S0 ((S2.push (.ce [v6] 0)).set bs (.ce [.int 0 (kind:Int),.int 0 (a:Int),vn,vl,.slice S2.n 0 1 1 1 true] 0)):=(t2.x.trans c3.no).set (.inl (.inr rfl)) _;have p4:=(p2.no m2 c3).setB m3 hbs dV (.ce [.int 0 (kind:Int),.int 0 (a:Int),vn,vl,.slice S2.n 0 1 1 1 true] 0);refine gP (s:=[101,110,100]) hpv (bg (by decide)) m4 p4 (Post.call (jM:=oQ) hP2 x4 (λ_ h=>.inl h) λ_ j5 H5 S5 w m5 c5 p5 _ hP3=>?_);have n5:S2.n+1≤S5.n:=c5.1;have n12:=c2.1;have n01:=t1.x.1;have kp:∀b,S0.n≤b→b<S2.n→S5.ob b=S2.ob b:=λb h1 h2=>by
   rw[c5.2 b (by show b<S2.n+1;omega) (gY b h1),LS.ao _ _ (by omega),LS.bq _ _ h2]
  obtain⟨cl,g1,g2⟩:=(t2.E.toR (lo:=S0.n) λb hb=>hb.1).done m2;obtain⟨Q,q1,q2⟩:=t2.N;have kq:∀b,gE S0.n S2.n b→S5.ob b=S2.ob b:=λb hb=>kp b hb.1 hb.2;have kw:∀b,gE S0.n S2.n b→gE S0.n S5.n b:=λb hb=>⟨hb.1,by have:=hb.2;omega⟩
  have kb:∀b,gE S1.n S2.n b→S5.ob b=S2.ob b:=λb hb=>kp b (by have:=hb.1;omega) hb.2;have kv:∀b,gE S1.n S2.n b→gE S0.n S5.n b:=λb hb=>⟨by have:=hb.1;omega,by have:=hb.2;omega⟩
  refine hP3 H5 S5 (.aE []) m5 (x4.trans c5.two) p5 ⟨rfl,_,c5.ob m4 (LS.au _ _ _) kG,fT.blk (v6:=v6) (q1.go (λb hb=>kp b (q2 b hb).1 (q2 b hb).2.1) λb hb=>⟨(q2 b hb).1,by have:=(q2 b hb).2.1;omega⟩) (g1.go kq kw) (λi e h=>RE.go kq kw (g2 i e h)) (bW.single (b:=S2.n) (m:=0) ⟨by omega,by omega⟩ (c5.ob m4 ((LS.ao _ _ (by omega)).trans (LS.al _ _)) (gY _ (by omega))) rfl) (hsl.go kb kv) λj s h=>(hrs j s h).go kb kv⟩
theorem rG.awv{S0 S2:LS}{H0:AH}{i0 bs kind a:Nat}{vn:AV}{names:List (List Nat)}{S1:LS}{c:List AV}{e:aO}(hM0:Mem H0 S0)(hp0:bE C S0 i0 d)(eF:bs<S0.n)(hbs:bs≠C.bp)(m2:Mem H S2)(n1:S0.n≤S1.n)(t:rG C S0 S2 bs kind a vn names .ab [])(hN:∀b,aF vn b→b<S1.n)(hR:RE S2 (gE S1.n S2.n) c e) :
  rG C S0 ((S2.push (.ce c 0)).set bs (.ce [.int 0 (kind:Int),.int 0 (a:Int),vn,.slice S2.n 0 1 1 7 true,.ab] 0)) bs kind a vn names (.slice S2.n 0 1 1 7 true) [e]:=by
 have n2:S0.n≤S2.n:=t.x.1;have c3:ax cD S2 (S2.push (.ce c 0)):=(ax.refl _ _).push _;have kp:∀b,b≠bs→b<S2.n→((S2.push (.ce c 0)).set bs (.ce [.int 0 (kind:Int),.int 0 (a:Int),vn,.slice S2.n 0 1 1 7 true,.ab] 0)).ob b=S2.ob b:=λb h1 h2=>by rw[LS.ao _ _ h1,LS.bq _ _ h2]
 have n12:S1.n≤S2.n∨S2.n<S1.n:=by omega
 obtain⟨Q,q1,q2⟩:=t.N;have hN2:∀b,aF vn b→b<S2.n:=λb hb=>(q2 b (q1.1.BE hb)).2.1;refine⟨(t.x.trans c3.no).set (.inl (.inr rfl)) _,LS.au _ _ _,⟨Q,q1.go (λb hb=>kp b (by have:=(q2 b hb).1;omega) (q2 b hb).2.1) (λ_ h=>h),λb hb=>⟨(q2 b hb).1,Nat.lt_succ_of_lt (q2 b hb).2.1,λq=>by have q:b=S2.n:=q;have:=(q2 b hb).2.1;omega⟩⟩,?_⟩;refine⟨[c],.inr ⟨S2.n,1,true,c,rfl,(LS.ao _ _ (by omega)).trans (LS.al _ _),by rw[hR.len];rfl,Nat.le_refl _,by rw[List.flatten_cons,List.flatten_nil,List.append_nil,hR.len];rfl,by rw[List.flatten_cons,List.flatten_nil,List.append_nil];exact List.take_of_length_le (Nat.le_refl _),hR.ones⟩,rfl,λb hb=>?_,λi c' e' hc he=>?_⟩
 ·have hb:b=S2.n:=hb;subst hb;exact⟨n2,λq=>by have:=hN2 _ q;omega⟩
 ·cases i with
  |zero=>
   have e1:c=c':=by simpa using hc
   have e2:e=e':=by simpa using he
   subst e1;subst e2;exact⟨gE S1.n S2.n,hR.go (λb hb=>kp b (by have:=hb.1;omega) hb.2) (λ_ h=>h),λb hb=>⟨⟨by have:=hb.1;omega,λq=>by have:=hN b q;have:=hb.1;omega⟩,Nat.lt_succ_of_lt hb.2,λq=>by have q:b=S2.n:=q;have:=hb.2;omega⟩⟩
  |succ i=>simp at hc
theorem rG.more{m n k:Nat}(O:gX C m n)(hk:k≤n){S0:LS}{H0:AH}{i0 bs kind a:Nat}{vn vl:AV}{names:List (List Nat)}{l:List aO}(hd:d≤200)(hM0:Mem H0 S0)(hp0:bE C S0 i0 d)(eF:bs<S0.n)(hbs:bs≠C.bp)(dV:∀b,aF C.vT b→b≠bs)
  (hM:Mem H S) (hp:bE C S i d) (t:rG C S0 S bs kind a vn names vl l) (hll:l.length≤1000000){X:AH→Prop}{f:aO→Nat→cG aP}
  (hP:Post C (fJ C bs) d (xD bs) K S0 ((fu C.T k i d).bind f))
  (hX:∀(e:aO) (v':AV) (j:Nat) (H':AH) (S':LS),Mem H' S'→bE C S' j d→rG C S0 S' bs kind a vn names v' (l++[e])→Post C (fJ C bs) d (xD bs) K S0 (f e j)→X H') :
  af (.ptr bs 3) H λv28=>bR v28 λv29=>cI 0 v29 λz30=>bP H (bG (aA H) 1 7 z7 λv31 np=>bT (Nat.beq np.n (Nat.succ H.n)) ((s13 m).2.2.2.2.1 (.ptr C.bp 0) np λCg nI=>cR K Cg nI λv35=>af (.ptr bs 3) nI λv36=>bT (aH v36 v28) (cV 7 96 v28 v31 nI λv37 qt=>cw 7 v37 (.int 0 z30) λv39=>ag 7 v39 v35 qt λzw=>ag 1 (.ptr bs 3) v37 zw λqv=>ag 1 (.ptr bs 3) v37 qt λym=>ag 7 v39 v35 ym λNr=>mB 7 1 v39 (.ptr bs 3) (X qv)))):=by
 have hbp:=hp0.eT hM0;have po:∀b,aF C.vT b→b<S0.n:=λb hb=>hp0.tk.lt hM0 hb;obtain⟨Q,q1,q2⟩:=t.N;have hvn:∀b,aF vn b→b<S.n:=λb hb=>(q2 b (q1.1.BE hb)).2.1;have n0:=t.x.1;refine awu O hk hd hM hp t.x t.ob rfl hbs dV t.E (λb hb=>⟨by have:=hb.1;omega,by have:=hb.1;omega,λq=>by have:=po b q;have:=hb.1;omega⟩) (λb hb=>⟨by omega,λq=>by have:=hvn b q;omega⟩) hll hP λe v' j H' S' m' c' p' L' hv' hP'=>?_;refine hX e v' j H' _ m' p' ⟨?_,LS.au _ _ _,⟨Q,q1.go (λb hb=>?_) (λ_ h=>h),λb hb=>⟨(q2 b hb).1,Nat.lt_of_lt_of_le (q2 b hb).2.1 c'.1,λq=>?_⟩⟩,L'⟩ hP'
 ·refine ax.set (t.x.jv c' λb hb=>?_) (.inl (.inr rfl)) _;rcases hb with hb|hb
  ·exact .inl (.inl hb)
  ·exact .inr (t.E.BE hb).1
 ·rw[LS.ao _ _ (by have:=(q2 b hb).1;omega)];refine c'.2 b (q2 b hb).2.1 λq=>?_;rcases q with q|q
  ·have:=(q2 b hb).1;omega
  ·exact(q2 b hb).2.2 q
 ·rcases hv' b q with g|g
  ·exact(q2 b hb).2.2 g
  ·have:=(q2 b hb).2.1;omega
end
section
variable {H:AH}{S:LS}{K:KF}{C:Ctx}{i d:Nat}
theorem s99{m n:Nat}(hpv:C.pv=.iface 57 (.agg []))(O:gX C m n):∀k,k≤n+1→Nz C (s13 (m+1)).2.2.2.2.2.1 (Bi C.T k):=by
 intro k hk K H S i d a bs hd hM hp ho hbs dV hP;cases k with
 |zero=>simp only[Bi]at hP;exact False.elim hP
 |succ k=>
  have e:(s13 (m+1)).2.2.2.2.2.1=Ba (lM (s13 m)):=by rw[pV]
  rw[e];have r2:(lM (s13 m)).2.1=f56:=rfl;have r3:(lM (s13 m)).2.2.1=(s13 m).2.2.2.2.1:=rfl;have r4:(lM (s13 m)).2.2.2.1=ng:=rfl;have r5:(lM (s13 m)).2.2.2.2=f130:=rfl;unfold Ba ahI QF;rw[r2,r4,r5];simp only[Bi]at hP;have hbp:=hp.eT hM;have eF:bs<S.n:=hM.lt (by rw[ho];simp);have kG:¬bJ C bs:=λq=>hbs (by have q:bs=C.bp:=q;exact q);have gY:∀b,S.n≤b→¬bJ C b:=λb hb q=>by have q:b=C.bp:=q;omega
  refine Au hpv hM hp (Post.call hP (ax.refl _ _) (λ_ h=>.inl h) λs j H1 S1 w m1 c1 p1 ⟨hv,h8⟩ hP1=>?_);subst hv;have o1:=c1.ob hM ho kG;have n1:=c1.1;refine gU (jm s) ?_;refine cZ m1 rfl (λx h=>by rw[List.mem_singleton]at h;rw[h];exact jm s) λH2 m2=>?_;have c2:ax cD S1 (S1.push (.ce [ak s] 0)):=(ax.refl _ _).push _;simp only[aW,av,Nat.zero_add];refine aS (v:=.int 0 ((6:Nat):Int)) m2 (c2.ob m1 o1 λq=>q) (by omega) (by show 0<5;omega) rfl λH3 m3=>?_;have p3:=(p1.no m1 c2).setB m2 hbs dV (.ce [.int 0 ((6:Nat):Int),.int 0 (a:Int),.ab,.ab,.ab] 0);refine aS m3 (LS.au _ _ _) (by omega) (by show 2<5;omega) rfl λH4 CZ=>?_;have m4:Mem H4 (((S1.push (.ce [ak s] 0)).set bs (.ce [.int 0 ((6:Nat):Int),.int 0 (a:Int),.ab,.ab,.ab] 0)).set bs (.ce [.int 0 ((6:Nat):Int),.int 0 (a:Int),.slice S1.n 0 1 1 1 true,.ab,.ab] 0)):=CZ;clear CZ;have p4:=p3.setB m3 hbs dV (.ce [.int 0 ((6:Nat):Int),.int 0 (a:Int),.slice S1.n 0 1 1 1 true,.ab,.ab] 0);have X8:(((S1.push (.ce [ak s] 0)).set bs (.ce [.int 0 ((6:Nat):Int),.int 0 (a:Int),.ab,.ab,.ab] 0)).set bs (.ce [.int 0 ((6:Nat):Int),.int 0 (a:Int),.slice S1.n 0 1 1 1 true,.ab,.ab] 0)).ob S1.n=.ce [ak s] 0:=by
   rw[LS.ao _ _ (by omega),LS.ao _ _ (by omega)];exact LS.al _ _
  have t4:rG C S (((S1.push (.ce [ak s] 0)).set bs (.ce [.int 0 ((6:Nat):Int),.int 0 (a:Int),.ab,.ab,.ab] 0)).set bs (.ce [.int 0 ((6:Nat):Int),.int 0 (a:Int),.slice S1.n 0 1 1 1 true,.ab,.ab] 0)) bs 6 a (.slice S1.n 0 1 1 1 true) [s] .ab []:=
   ⟨((c1.two.trans c2.no).set (.inl (.inr rfl)) _).set (.inl (.inr rfl)) _,LS.au _ _ _,⟨λb=>b=S1.n,iZ.one1 rfl X8 h8,λb hb=>by subst hb;exact⟨n1,Nat.lt_succ_self _,λq=>q⟩⟩,fz.nil _ _ _⟩
  have nn4:(((S1.push (.ce [ak s] 0)).set bs (.ce [.int 0 ((6:Nat):Int),.int 0 (a:Int),.ab,.ab,.ab] 0)).set bs (.ce [.int 0 ((6:Nat):Int),.int 0 (a:Int),.slice S1.n 0 1 1 1 true,.ab,.ab] 0)).n=S1.n+1:=rfl;revert m4 p4 X8 t4 nn4;generalize ((S1.push (.ce [ak s] 0)).set bs (.ce [.int 0 ((6:Nat):Int),.int 0 (a:Int),.ab,.ab,.ab] 0)).set bs (.ce [.int 0 ((6:Nat):Int),.int 0 (a:Int),.slice S1.n 0 1 1 1 true,.ab,.ab] 0)=S4;intro m4 p4 X8 t4 nn4;refine dF (s:=[44]) (bg (by decide)) m4 p4 λH5 S5 m5 c5 p5=>?_;simp only[aq,aX];have t5:=t4.keep m4 hbp hbs c5;have on5:=c5.ob m4 X8 (gY _ n1);cases h1:isA C.T [44] j with
  |true=>
   simp only[h1,if_true]at hP1 p5;rw[aG];refine aj m5 t5.ob (v:=.slice S1.n 0 1 1 1 true) rfl ?_;refine Au hpv m5 p5 (Post.call hP1 t5.x (λ_ h=>.inl h) λs2 j6 H6 S6 w m6 c6 p6 ⟨hv,h82⟩ hP2=>?_);subst hv;have t6:=t5.keep m5 hbp hbs c6;have BD:=c6.ob m5 on5 (gY _ n1);have n6:=c6.1;have n5:=c5.1;refine aj m6 t6.ob (v:=.slice S1.n 0 1 1 1 true) rfl ?_;refine bA (by simp[aH]) ?_;refine m6.bP ?_;refine gU (jm s2) ?_;have L6:df MF S.n S6 (.slice S1.n 0 1 1 1 true) [s]:=⟨[[ak s]],.inr ⟨S1.n,1,true,[ak s],rfl,BD,rfl,Nat.le_refl _,rfl,rfl,λx h=>by rw[List.mem_singleton]at h;rw[h];exact jm s⟩,rfl,λb hb=>by have hb:b=S1.n:=hb;omega,λi c a hc ha=>by
    cases i with
    |zero=>
     have e1:[ak s]=c:=by simpa using hc
     have e2:s=a:=by simpa using ha
     subst e1;subst e2;exact⟨cD,⟨rfl,h8⟩,λb hb=>hb.elim⟩
    |succ i=>simp at hc⟩
   refine L6.pushB (R:=MF) (Q:=cD) (bytes:=16) m6 (a:=s2) ⟨rfl,h82⟩ (λb hb=>hb.elim) (by omega) (by simp) λH7 S7 v' m7 L7 n7 k7 b7=>?_;have c7:ax (λb=>b=S1.n) S6 S7:=⟨n7,λb hb hx=>k7 b hb hx⟩
   have o7:S7.ob bs=_:=c7.ob m6 t6.ob λq=>by have q:bs=S1.n:=q;omega
   have po:∀b,aF C.vT b→b<S.n:=λb hb=>hp.tk.lt hM hb;have p7:bE C S7 j6 d:=p6.keep m6 c7 (λq=>by have q:C.bp=S1.n:=q;omega) λb hb q=>by have q:b=S1.n:=q;have:=po b hb;omega
   refine aS (v:=.int 0 ((7:Nat):Int)) m7 o7 (by omega) (by show 0<5;omega) rfl λH8 m8=>?_;have p8:=p7.setB m7 hbs dV (.ce [.int 0 ((7:Nat):Int),.int 0 (a:Int),.slice S1.n 0 1 1 1 true,.ab,.ab] 0);refine aS m8 (LS.au _ _ _) (by omega) (by show 2<5;omega) L7.one λH9 m9'=>?_;have m9:Mem H9 ((S7.set bs (.ce [.int 0 ((7:Nat):Int),.int 0 (a:Int),.slice S1.n 0 1 1 1 true,.ab,.ab] 0)).set bs (.ce [.int 0 ((7:Nat):Int),.int 0 (a:Int),v',.ab,.ab] 0)):=m9';clear m9';have p9:=p8.setB m8 hbs dV (.ce [.int 0 ((7:Nat):Int),.int 0 (a:Int),v',.ab,.ab] 0);have hnm:=L7.nm m7;have t9:rG C S ((S7.set bs (.ce [.int 0 ((7:Nat):Int),.int 0 (a:Int),.slice S1.n 0 1 1 1 true,.ab,.ab] 0)).set bs (.ce [.int 0 ((7:Nat):Int),.int 0 (a:Int),v',.ab,.ab] 0)) bs 7 a v' [s,s2] .ab []:=
    ⟨((t6.x.jv c7 λb hb=>.inr (by have hb:b=S1.n:=hb;omega)).set (.inl (.inr rfl)) _).set (.inl (.inr rfl)) _,LS.au _ _ _,⟨gE S.n S7.n,hnm.go (λb hb=>by rw[LS.ao _ _ (by have:=hb.1;omega),LS.ao _ _ (by have:=hb.1;omega)]) (λ_ h=>h),λb hb=>⟨hb.1,hb.2,λq=>q⟩⟩,fz.nil _ _ _⟩
   have nn9:((S7.set bs (.ce [.int 0 ((7:Nat):Int),.int 0 (a:Int),.slice S1.n 0 1 1 1 true,.ab,.ab] 0)).set bs (.ce [.int 0 ((7:Nat):Int),.int 0 (a:Int),v',.ab,.ab] 0)).n=S7.n:=rfl;revert m9 p9 t9 nn9;generalize (S7.set bs (.ce [.int 0 ((7:Nat):Int),.int 0 (a:Int),.slice S1.n 0 1 1 1 true,.ab,.ab] 0)).set bs (.ce [.int 0 ((7:Nat):Int),.int 0 (a:Int),v',.ab,.ab] 0)=S9;intro m9 p9 t9 nn9;unfold Qz Qy;rw[r3,r4];refine gP (s:=[105,110]) hpv (bg (by decide)) m9 p9 (Post.call (jM:=oQ) hP2 t9.x (λ_ h=>.inl h) λ_ ja Ha Sa w ma ca pa _ hP3=>?_);have ta:=t9.keep m9 hbp hbs ca;refine O.exp k (by omega) hd ma pa (Post.call hP3 ta.x (λ_ h=>.inl h) λe jb Hb Sb w mb cb pb ⟨c,hw,hR⟩ CX=>?_);subst hw;have tb:=ta.keep ma hbp hbs cb;rw[gK];refine ia hR.len ?_;rw[CW hR.len rfl];refine cZ mb (by rw[hR.len]) hR.ones λHc mc=>?_;have cc:ax cD Sb (Sb.push (.ce c 0)):=(ax.refl _ _).push _;simp only[aW,av,Nat.zero_add];refine aS mc (cc.ob mb tb.ob λq=>q) (by omega) (by show 3<5;omega) rfl λHd md=>?_;obtain⟨QN,qn1,qn2⟩:=ta.N;exact e99 hpv O hd hM hp eF hbs dV (by omega) md ((pb.no mb cc).setB mc hbs dV _) (tb.awv hM hp eF hbs mb ta.x.1 (λb hb=>(qn2 b (qn1.1.BE hb)).2.1) hR) CX
  |false=>
   simp only[h1,Bool.false_eq_true,if_false]at hP1 p5;rw[aw];refine gP (s:=[61]) hpv (bg (by decide)) m5 p5 (Post.call (jM:=oQ) hP1 t5.x (λ_ h=>.inl h) λ_ j6 H6 S6 w m6 c6 p6 _ hP2=>?_);have t6:=t5.keep m5 hbp hbs c6;unfold QE QC;rw[r3,r4];refine O.exp k (by omega) hd m6 p6 (Post.call hP2 t6.x (λ_ h=>.inl h) λe j7 H7 S7 w m7 c7 p7 ⟨c,hw,hR⟩ hP3=>?_);subst hw;have t7:=t6.keep m6 hbp hbs c7;rw[gK];refine ia hR.len ?_;rw[CW hR.len rfl];refine cZ m7 (by rw[hR.len]) hR.ones λH8 m8=>?_;have c8:ax cD S7 (S7.push (.ce c 0)):=(ax.refl _ _).push _;simp only[aW,av,Nat.zero_add];refine aS m8 (c8.ob m7 t7.ob λq=>q) (by omega) (by show 3<5;omega) rfl λH9 m9'=>?_;obtain⟨QN,qn1,qn2⟩:=t6.N;have t9:=t7.awv hM hp eF hbs m7 t6.x.1 (λb hb=>(qn2 b (qn1.1.BE hb)).2.1) hR;have p9:=(p7.no m7 c8).setB m8 hbs dV (.ce [.int 0 ((6:Nat):Int),.int 0 (a:Int),.slice S1.n 0 1 1 1 true,.slice S7.n 0 1 1 7 true,.ab] 0);refine gP (s:=[44]) hpv (bg (by decide)) m9' p9 (Post.call (jM:=oQ) hP3 t9.x (λ_ h=>.inl h) λ_ ja Ha Sa w ma ca pa _ CX=>?_);have ta:=t9.keep m9' hbp hbs ca;refine rG.more O (k:=k) (by omega) hd hM hp eF hbs dV ma pa ta (by simp) CX λe2 v2 jb Hb Sb mb pb tb X9=>?_;unfold QB QA;rw[r2,r3];refine dF (s:=[44]) (bg (by decide)) mb pb λHc Sc mc cc pc=>?_;simp only[aq,aX];have tc:=tb.keep mb hbp hbs cc;cases h2:isA C.T [44] jb with
   |false=>
    simp only[h2,Bool.false_eq_true,if_false]at X9 pc;rw[aw];exact e99 hpv O hd hM hp eF hbs dV (by omega) mc pc tc X9
   |true=>
    simp only[h2,if_true]at X9 pc;rw[aG];simp only[aW,av,Nat.zero_add];refine rG.more O (k:=k) (by omega) hd hM hp eF hbs dV mc pc tc (by simp) X9 λe3 v3 jd Hd Sd md pd td hP6=>?_;exact e99 hpv O hd hM hp eF hbs dV (by omega) md pd td hP6
end
end Go.Proofs.YtcedghechlgecaaGreatDoor
namespace Go.X
section
variable {H:AH}{S S':LS}
theorem fz.pushB{α:Type}{R:Rep α}{Z:Nat→Prop}{bytes:Nat}{v:AV}{l:List α}{a:α}{c:List AV}{Q:Nat→Prop}{k:AV→AH→Prop}(h:fz R Z S v l)(hM:Mem H S)(hr:R.rel S Q c a)(hQ:∀b,Q b→Z b∧b<S.n∧¬aF v b)(hnew:∀b,S.n≤b→Z b)(hl:(l.length+1)*bytes≤1099511627776)
  (hk:∀H' S' v',Mem H' S'→fz R Z S' v' (l++[a])→S.n≤S'.n→(∀b,b<S.n→¬aF v b→S'.ob b=S.ob b)→(∀b,aF v' b→aF v b∨S.n≤b)→v'.one=true→k v' H'):bG (aA H) 1 R.sz c λx H'=>bT (Nat.beq H'.n (Nat.succ H.n)) (cV R.sz bytes v x H' k):=by
 obtain⟨cl,h1,h2⟩:=id h;refine al4 hM h1 R.pos (R.len hr) hl (R.ones hr) λH' S' v' m' he=>?_;have g:=h.step hr hQ hnew λcl' h'=>by rw[h1.uniq h'];exact he
 exact hk H' S' v' m' g he.1 he.2.1 he.2.2.2 (g.toR (lo:=0) λb _=>Nat.zero_le _).one
theorem fT.rows{Q:Nat→Prop}{kind a:Nat}{l:List aO}{B:List (List aP)}{vl vb:AV}{cl cb:Nat→List AV}(hl:bW S Q 7 vl l.length cl)(he:∀i e,l[i]? = some e→RE S Q (cl i) e)(hb:bW S Q 1 vb B.length cb)(hs:∀i b,B[i]? = some b→aff.rel S Q (cb i) b):fT S Q [.int 0 (kind:Int),.int 0 (a:Int),.ab,vl,vb] (.mk kind a [] l B):=by
 have key:∀i,∃p:AV×(Nat→List AV),∀b,B[i]? = some b→cb i=[p.1]∧bW S Q 5 p.1 b.length p.2∧∀j s,b[j]? = some s→fT S Q (p.2 j) s:=λi=>by
  cases hi:B[i]? with
  |none=>exact⟨⟨.ab,λ_=>[]⟩,λb h=>by cases h⟩
  |some b=>
   obtain⟨v,bc,e,g1,g2⟩:=hs i b hi;exact⟨⟨v,bc⟩,λb' h=>by cases h;exact⟨e,g1,g2⟩⟩
 obtain⟨p,hp⟩:=Classical.axiomOfChoice key;refine .mk kind a [] l B .ab vl vb cl (λi=>(p i).1) (λi=>(p i).2) ⟨bW.nil _ _ _ _,λt h=>by simp at h⟩ hl he (hb.congr λi hi=>(hp i _ (List.getElem?_eq_getElem hi)).1) (λi b h=>(hp i b h).2.1) λi b j s h h2=>(hp i b h).2.2 j s h2
end
end Go.X
namespace Go.Proofs.YtcedghechlgecaaGreatDoor
open Go Go.X Go.Proofs.YtcedghechlgecaaGreatDoor.G
section
variable {H:AH}{S:LS}{K:KF}{C:Ctx}{i d:Nat}
structure oR(C:Ctx)(S0 S:LS)(bs kind a:Nat)(vl:AV)(l:List aO)(vb:AV)(B:List (List aP)):Prop where
 x:ax (fJ C bs) S0 S
 ob:S.ob bs=.ce [.int 0 (kind:Int),.int 0 (a:Int),.ab,vl,vb] 0
 E:fz mY (λb=>S0.n≤b∧¬aF vb b) S vl l
 B:fz aff (λb=>S0.n≤b∧¬aF vl b) S vb B
theorem oR.keep{S0 S':LS}{bs kind a:Nat}{vl vb:AV}{l:List aO}{B:List (List aP)}(h:oR C S0 S bs kind a vl l vb B)(hM:Mem H S)(hbp:C.bp<S0.n)(hbs:bs≠C.bp)(g:ax (bJ C) S S'):oR C S0 S' bs kind a vl l vb B:=by
 have nb:∀b,S0.n≤b→¬bJ C b:=λb hb q=>by have q:b=C.bp:=q;omega
 exact⟨h.x.trans g.two,g.ob hM h.ob (λq=>hbs (by have q:bs=C.bp:=q;exact q)),h.E.keep hM g.1 λb h1 h2=>g.2 b h2 (nb b h1.1),h.B.keep hM g.1 λb h1 h2=>g.2 b h2 (nb b h1.1)⟩
theorem oR.Yb{S0:LS}{bs kind a:Nat}{vl vb:AV}{l:List aO}{B:List (List aP)}(h:oR C S0 S bs kind a vl l vb B)(hM:Mem H S):fT S (gE S0.n S.n) [.int 0 (kind:Int),.int 0 (a:Int),.ab,vl,vb] (.mk kind a [] l B):=by
 obtain⟨cl,g1,g2⟩:=(h.E.toR (lo:=S0.n) λb hb=>hb.1).done hM;obtain⟨cb,q1,q2⟩:=(h.B.toR (lo:=S0.n) λb hb=>hb.1).done hM;exact fT.rows g1 g2 q1 q2
theorem oR.exp{m n k:Nat}(O:gX C m n)(hk:k≤n){S0:LS}{H0:AH}{i0 bs kind a:Nat}{vl vb:AV}{l:List aO}{B:List (List aP)}(hd:d≤200)(hM0:Mem H0 S0)(hp0:bE C S0 i0 d)(eF:bs<S0.n)(hbs:bs≠C.bp)(dV:∀b,aF C.vT b→b≠bs)
  (hM:Mem H S) (hp:bE C S i d) (t:oR C S0 S bs kind a vl l vb B) (hll:l.length≤1000000){X:AH→Prop}{f:aO→Nat→cG aP}
  (hP:Post C (fJ C bs) d (xD bs) K S0 ((fu C.T k i d).bind f))
  (hX:∀(e:aO) (v':AV) (j:Nat) (H':AH) (S':LS),Mem H' S'→bE C S' j d→oR C S0 S' bs kind a v' (l++[e]) vb B→Post C (fJ C bs) d (xD bs) K S0 (f e j)→X H') :
  af (.ptr bs 3) H λv28=>bR v28 λv29=>cI 0 v29 λz30=>bP H (bG (aA H) 1 7 z7 λv31 np=>bT (Nat.beq np.n (Nat.succ H.n)) ((s13 m).2.2.2.2.1 (.ptr C.bp 0) np λCg nI=>cR K Cg nI λv35=>af (.ptr bs 3) nI λv36=>bT (aH v36 v28) (cV 7 96 v28 v31 nI λv37 qt=>cw 7 v37 (.int 0 z30) λv39=>ag 7 v39 v35 qt λzw=>ag 1 (.ptr bs 3) v37 zw λqv=>ag 1 (.ptr bs 3) v37 qt λym=>ag 7 v39 v35 ym λNr=>mB 7 1 v39 (.ptr bs 3) (X qv)))):=by
 have hbp:=hp0.eT hM0;have po:∀b,aF C.vT b→b<S0.n:=λb hb=>hp0.tk.lt hM0 hb;have hvb:∀b,aF vb b→b<S.n:=λb hb=>t.B.lt hM hb;have n0:=t.x.1;refine awu O hk hd hM hp t.x t.ob rfl hbs dV t.E (λb hb=>⟨by have:=hb.1;omega,by have:=hb.1;omega,λq=>by have:=po b q;have:=hb.1;omega⟩) (λb hb=>⟨by omega,λq=>by have:=hvb b q;omega⟩) hll hP λe v' j H' S' m' c' p' L' hv' hP'=>?_;refine hX e v' j H' _ m' p' ⟨?_,LS.au _ _ _,L',?_⟩ hP'
 ·refine ax.set (t.x.jv c' λb hb=>?_) (.inl (.inr rfl)) _;rcases hb with hb|hb
  ·exact .inl (.inl hb)
  ·exact .inr (t.E.BE hb).1
 ·have g1:fz aff (λb=>(S0.n≤b∧¬aF vl b)∧¬aF v' b) S vb B:=t.B.imp hM λb hb hlt=>⟨hb,λq=>(hv' b q).elim hb.2 λg=>by omega⟩
  obtain⟨cl,q1,q2,q3,q4⟩:=g1.keep hM (S':=S'.set bs (.ce ([.int 0 (kind:Int),.int 0 (a:Int),.ab,vl,vb].set 3 v') 0)) c'.1 λb h1 h2=>by
   rw[LS.ao _ _ (by have:=h1.1.1;omega)];refine c'.2 b h2 λq=>?_;rcases q with q|q
   ·have:=h1.1.1;omega
   ·exact h1.1.2 q
  exact⟨cl,q1,q2,λb hb=>⟨(q3 b hb).1.1,(q3 b hb).2⟩,λi c a hc ha=>by
   obtain⟨Q,w1,w2⟩:=q4 i c a hc ha;exact⟨Q,w1,λb hb=>⟨⟨(w2 b hb).1.1.1,(w2 b hb).1.2⟩,(w2 b hb).2⟩⟩⟩
theorem oR.blk{m n k:Nat}(O:gX C m n)(hk:k≤n){S0:LS}{H0:AH}{i0 bs kind a:Nat}{vl vb:AV}{l:List aO}{B:List (List aP)}(hd:d≤200)(hM0:Mem H0 S0)(hp0:bE C S0 i0 d)(eF:bs<S0.n)(hbs:bs≠C.bp)(dV:∀b,aF C.vT b→b≠bs)
  (hM:Mem H S) (hp:bE C S i d) (t:oR C S0 S bs kind a vl l vb B) (hll:B.length≤1000000){X:AH→Prop}{f:List aP→Nat→cG aP}
  (hP:Post C (fJ C bs) d (xD bs) K S0 ((fk C.T k i d).bind f))
  (hX:∀(b:List aP) (v':AV) (j:Nat) (H':AH) (S':LS),Mem H' S'→bE C S' j d→oR C S0 S' bs kind a vl l v' (B++[b])→Post C (fJ C bs) d (xD bs) K S0 (f b j)→X H') :
  af (.ptr bs 4) H λv5=>(s13 m).1 (.ptr C.bp 0) H λo6 H7=>cR K o6 H7 λv8=>af (.ptr bs 4) H7 λv9=>bT (aH v9 v5) (bP H7 (one v8 (bG (aA H7) 1 1 [v8] λv10 dq=>bT (Nat.beq dq.n (Nat.succ H7.n)) (cV 1 24 v5 v10 dq λv12 dj=>ag 1 (.ptr bs 4) v12 dj λdH=>X dH)))):=by
 have hbp:=hp0.eT hM0;have po:∀b,aF C.vT b→b<S0.n:=λb hb=>hp0.tk.lt hM0 hb;refine aj hM t.ob (v:=vb) rfl ?_;refine O.block k hk hd hM hp (Post.call (jM:=lz) hP t.x (λ_ h=>.inl h) λb j H1 S1 v6 m1 c1 p1 ⟨cb,hsl,hrs⟩ hP1=>?_);have t1:=t.keep hM hbp hbs c1;have hvl:∀b,aF vl b→b<S.n:=λb hb=>t.E.lt hM hb;have hvb:∀b,aF vb b→b<S.n:=λb hb=>t.B.lt hM hb;have n0:=t.x.1;have n1:=c1.1;refine aj m1 t1.ob (v:=vb) rfl ?_;refine bA (t1.B.toR (lo:=0) λb _=>Nat.zero_le _).same ?_;refine m1.bP ?_;refine gU hsl.one ?_;refine t1.B.pushB (R:=aff) (bytes:=24) m1 (a:=b) ⟨v6,cb,rfl,hsl,hrs⟩ (λb hb=>⟨⟨by have:=hb.1;omega,λq=>by have:=hvl b q;have:=hb.1;omega⟩,hb.2,λq=>by have:=hvb b q;have:=hb.1;omega⟩) (λb hb=>⟨by omega,λq=>by have:=hvl b q;omega⟩) (by omega) λH2 S2 v' m2 B2 n2 k2 b2 azV=>?_;have c2:ax (λb=>aF vb b) S1 S2:=⟨n2,λb hb hx=>k2 b hb hx⟩
 have nv:∀b,b<S0.n→¬aF vb b:=λb hb q=>by have:=(t1.B.BE q).1;omega
 have p2:bE C S2 j d:=p1.keep m1 c2 (nv _ hbp) λb hb q=>nv b (po b hb) q;refine aS m2 (c2.ob m1 t1.ob (nv _ eF)) (by omega) (by show 4<5;omega) azV λH3 m3=>?_;refine hX b v' j H3 _ m3 (p2.setB m2 hbs dV _) ⟨(t1.x.jv c2 λb hb=>.inr (t1.B.BE hb).1).set (.inl (.inr rfl)) _,LS.au _ _ _,?_,B2.keep m2 (Nat.le_refl _) λb h1 h2=>LS.ao _ _ (by have:=h1.1;omega)⟩ hP1;have g1:fz mY (λb=>(S0.n≤b∧¬aF vb b)∧¬aF v' b) S1 vl l:=t1.E.imp m1 λb hb hlt=>⟨hb,λq=>(b2 b q).elim hb.2 λg=>by omega⟩
 obtain⟨cl,q1,q2,q3,q4⟩:=(g1.keep m1 n2 λb h1 h2=>k2 b h2 h1.1.2).keep m2 (S':=S2.set bs (.ce ([.int 0 (kind:Int),.int 0 (a:Int),.ab,vl,vb].set 4 v') 0)) (Nat.le_refl _) λb h1 h2=>LS.ao _ _ (by have:=h1.1.1;omega);exact⟨cl,q1,q2,λb hb=>⟨(q3 b hb).1.1,(q3 b hb).2⟩,λi c a hc ha=>by
  obtain⟨Q,w1,w2⟩:=q4 i c a hc ha;exact⟨Q,w1,λb hb=>⟨⟨(w2 b hb).1.1.1,(w2 b hb).1.2⟩,(w2 b hb).2⟩⟩⟩
end
section
variable {H:AH}{S:LS}{K:KF}{C:Ctx}{i d:Nat}
theorem l96{m n:Nat}(hn:n≤900000)(hpv:C.pv=.iface 57 (.agg []))(O:gX C m n){S0:LS}{H0:AH}{i0 bs a:Nat}(hd:d≤200)(hM0:Mem H0 S0)(hp0:bE C S0 i0 d)(eF:bs<S0.n)(hbs:bs≠C.bp)(dV:∀b,aF C.vT b→b≠bs):∀k,k≤n+1→∀(q i:Nat) (l:List aO) (B:List (List aP)) (vl vb:AV) (H:AH) (S:LS),k≤q→l.length+k≤n+1→B.length=l.length→Mem H S→bE C S i d→oR C S0 S bs 4 a vl l vb B→
  Post C (fJ C bs) d (xD bs) K S0 (kD C.T k a l B i d)→Ck (iS (s13 m)) K q (.ptr C.bp 0) (.ptr bs 0) H:=by
 intro k
 induction k with
 |zero=>intro _ q i l B vl vb H S _ _ _ _ _ _ hP;simp only[kD]at hP;exact False.elim hP
 |succ k ih=>
  intro hk q i l B vl vb H S hq hl hB hM hp t hP;obtain⟨q,rfl⟩:∃p,q=p+1:=⟨q-1,by omega⟩
  have r1:(iS (s13 m)).1=(s13 m).1:=rfl;have r2:(iS (s13 m)).2.1=f56:=rfl;have r3:(iS (s13 m)).2.2.1=(s13 m).2.2.2.2.1:=rfl;have r4:(iS (s13 m)).2.2.2=ng:=rfl;have hbp:=hp0.eT hM0;have kG:¬bJ C bs:=λq=>hbs (by have q:bs=C.bp:=q;exact q);simp only[kD]at hP;show HE (iS (s13 m)) K (HD (iS (s13 m)) K (HC (iS (s13 m)) K (Ck (iS (s13 m)) K q) (HB (iS (s13 m)) K (Cj (iS (s13 m)) K)))) (.ptr C.bp 0) (.ptr bs 0) H;have stop:∀{l:List aO}{B:List (List aP)}{vl vb:AV}{i:Nat}{H1:AH}{S1:LS},Mem H1 S1→bE C S1 i d→oR C S0 S1 bs 4 a vl l vb B→Post C (fJ C bs) d (xD bs) K S0 ((dR C.T [101,110,100] i).bind λ_ j=>.ok (.mk 4 a [] l B) j)→Cj (iS (s13 m)) K (.ptr C.bp 0) H1:=by
   intro l B vl vb i H1 S1 m1 p1 t1 hP;unfold Cj;rw[r4];refine gP (s:=[101,110,100]) hpv (bg (by decide)) m1 p1 (Post.call (jM:=oQ) hP t1.x (λ_ h=>.inl h) λ_ j H2 S2 w m2 c2 p2 _ hP2=>?_);have t2:=t1.keep m1 hbp hbs c2;exact hP2 H2 S2 (.aE []) m2 t2.x p2 ⟨rfl,_,t2.ob,t2.Yb m2⟩
  unfold HE;rw[r3];simp only[aW,av,Nat.zero_add];refine oR.exp O (k:=k) (by omega) hd hM0 hp0 eF hbs dV hM hp t (by omega) hP λe v1 j1 H1 S1 m1 p1 t1 hP1=>?_;unfold HD;rw[r1,r4];refine gP (s:=[116,104,101,110]) hpv (bg (by decide)) m1 p1 (Post.call (jM:=oQ) hP1 t1.x (λ_ h=>.inl h) λ_ j2 H2 S2 w m2 c2 p2 _ hP2=>?_);have t2:=t1.keep m1 hbp hbs c2;simp only[aW,av,Nat.zero_add];refine oR.blk O (k:=k) (by omega) hd hM0 hp0 eF hbs dV m2 p2 t2 (by omega) hP2 λb v3 j3 H3 S3 m3 p3 t3 hP3=>?_;unfold HC;rw[r2];refine dF (s:=[101,108,115,101,105,102]) (bg (by decide)) m3 p3 λH4 S4 m4 c4 p4=>?_;simp only[aq,aX];have t4:=t3.keep m3 hbp hbs c4;cases h1:isA C.T [101,108,115,101,105,102] j3 with
  |true=>
   simp only[h1,if_true]at hP3 p4;simp only[Bool.not_true,aw];exact ih (by omega) q (j3+1) (l++[e]) (B++[b]) v1 v3 H4 S4 (by omega) (by simp;omega) (by simp;omega) m4 p4 t4 hP3
  |false=>
   simp only[h1,Bool.false_eq_true,if_false]at hP3 p4;simp only[Bool.not_false,aG];unfold HB;rw[r1,r2];refine dF (s:=[101,108,115,101]) (bg (by decide)) m4 p4 λH5 S5 m5 c5 p5=>?_;simp only[aq,aX];have t5:=t4.keep m4 hbp hbs c5;cases h2:isA C.T [101,108,115,101] j3 with
   |true=>
    simp only[h2,if_true]at hP3 p5;rw[aG];simp only[aW,av,Nat.zero_add];refine oR.blk O (k:=k) (by omega) hd hM0 hp0 eF hbs dV m5 p5 t5 (by simp;omega) hP3 λb2 v6 j6 H6 S6 m6 p6 t6 hP6=>?_;exact stop m6 p6 t6 hP6
   |false=>
    simp only[h2,Bool.false_eq_true,if_false]at hP3 p5;rw[aw];exact stop m5 p5 t5 hP3
theorem s96{m n:Nat}(hn:n≤900000)(hpv:C.pv=.iface 57 (.agg []))(O:gX C m n):∀k,k≤n+1→Nz C (s13 (m+1)).2.2.2.1 (λa i d=>kD C.T k a [] [] i d):=by
 intro k hk K H S i d a bs hd hM hp ho hbs dV hP;have e:(s13 (m+1)).2.2.2.1=A9 (iS (s13 m)):=by rw[pV]
 rw[e];unfold A9 ahv Qs;have cQ:G.NL=1000000:=rfl;generalize G.NL=iC at cQ ⊢;have eF:bs<S.n:=hM.lt (by rw[ho];simp);simp only[aW,av,Nat.zero_add];refine aS (v:=.int 0 ((4:Nat):Int)) hM ho (by omega) (by show 0<5;omega) rfl λH1 m1=>?_;exact l96 hn hpv O hd hM hp eF hbs dV k hk iC i [] [] .ab .ab H1 _ (by omega) (by simp;omega) rfl m1 (hp.setB hM hbs dV _) ⟨(ax.refl _ _).set (.inl (.inr rfl)) _,LS.au _ _ _,fz.nil _ _ _,fz.nil _ _ _⟩ hP
end
section
variable {H:AH}{S:LS}{K:KF}{C:Ctx}{i d:Nat}
theorem s55{m n:Nat}(hpv:C.pv=.iface 57 (.agg []))(O:gX C m n):∀k,k≤n+1→∀{K:KF}{H:AH}{S:LS}{i d:Nat},d≤200→Mem H S→bE C S i d→Post C (bJ C) d X6 K S (nt C.T k i d)→(s13 (m+1)).2.1 (.ptr C.bp 0) H K:=by
 intro k hk K H S i d hd hM hp hP;cases k with
 |zero=>simp only[nt]at hP;exact False.elim hP
 |succ k=>
  have e:(s13 (m+1)).2.1=A7 (dD (s13 m)):=by rw[pV]
  rw[e];have r1:(dD (s13 m)).1=f23:=rfl;have r2:(dD (s13 m)).2.1=(s13 m).1:=rfl;have r3:(dD (s13 m)).2.2.1=f25:=rfl;have r4:(dD (s13 m)).2.2.2.1=f54:=rfl;have r5:(dD (s13 m)).2.2.2.2.1=f56:=rfl;have r6:(dD (s13 m)).2.2.2.2.2.1=f94:=rfl;have r7:(dD (s13 m)).2.2.2.2.2.2.1=(s13 m).2.2.1:=rfl;have r8:(dD (s13 m)).2.2.2.2.2.2.2.1=(s13 m).2.2.2.1:=rfl;have r9:(dD (s13 m)).2.2.2.2.2.2.2.2.1=(s13 m).2.2.2.2.1:=rfl;have r10:(dD (s13 m)).2.2.2.2.2.2.2.2.2.1=ng:=rfl;have r11:(dD (s13 m)).2.2.2.2.2.2.2.2.2.2.1=(s13 m).2.2.2.2.2.1:=rfl;have r12:(dD (s13 m)).2.2.2.2.2.2.2.2.2.2.2=(s13 m).2.2.2.2.2.2.1:=rfl;unfold A7 ag9 Qj;rw[r1,r2,r3,r5,r7,r8,r9,r11,r12];simp only[nt]at hP;have hbp:=hp.eT hM;have po:∀b,aF C.vT b→b<S.n:=λb hb=>hp.tk.lt hM hb;refine bZ (bF hM SL λH1 m1=>?_);have c1:ax cD S (S.push (.ce z5 0)):=(ax.refl _ _).push _;have ob1:(S.push (.ce z5 0)).ob S.n=.ce z5 0:=LS.al _ _;refine jw m1 (hp.no hM c1) λH2 S2 m2 c2 p2=>?_;rw[aq];refine js ?_;have ob2:=c2.ob m1 ob1 λq=>q;have c12:=c1.trans c2;have n2:S.n<S2.n:=m2.lt (by rw[ob2];simp);refine bZ (bF m2 SL λH3 m3=>?_);refine jc m3 (LS.al S2 (.ce z5 0)) (c:=[.int 0 0,.int 0 (aZ C.T i:Int),.ab,.ab,.ab]) rfl rfl (λx hx=>?_) λH4 CZ=>?_
  ·simp only[List.mem_cons,List.not_mem_nil,or_false]at hx;rcases hx with rfl|rfl|rfl|rfl|rfl<;>rfl
  have m4:Mem H4 ((S2.push (.ce z5 0)).set S2.n (.ce [.int 0 0,.int 0 (aZ C.T i:Int),.ab,.ab,.ab] 0)):=CZ;clear CZ;have c4:ax cD S2 ((S2.push (.ce z5 0)).set S2.n (.ce [.int 0 0,.int 0 (aZ C.T i:Int),.ab,.ab,.ab] 0)):=((ax.refl _ _).push _).set (.inr (Nat.le_refl _)) _;have oS4:((S2.push (.ce z5 0)).set S2.n (.ce [.int 0 0,.int 0 (aZ C.T i:Int),.ab,.ab,.ab] 0)).ob S2.n=.ce [.int 0 0,.int 0 (aZ C.T i:Int),.ab,.ab,.ab] 0:=LS.au _ _ _;have nn4:((S2.push (.ce z5 0)).set S2.n (.ce [.int 0 0,.int 0 (aZ C.T i:Int),.ab,.ab,.ab] 0)).n=S2.n+1:=rfl;have ob4:=c4.ob m2 ob2 λq=>q;have p4:=p2.no m2 c4;have x4:ax (bJ C) S ((S2.push (.ce z5 0)).set S2.n (.ce [.int 0 0,.int 0 (aZ C.T i:Int),.ab,.ab,.ab] 0)):=(c12.trans c4).no;revert m4 c4 oS4 nn4 ob4 p4 x4;generalize (S2.push (.ce z5 0)).set S2.n (.ce [.int 0 0,.int 0 (aZ C.T i:Int),.ab,.ab,.ab] 0)=S4;intro m4 c4 oS4 nn4 ob4 p4 x4;generalize hbs:S2.n=bs at *;have kG:¬bJ C bs:=λq=>by have q:bs=C.bp:=q;omega
  have NB:¬bJ C S.n:=λq=>by have q:S.n=C.bp:=q;omega
  have jN:bs≠C.bp:=by omega
  have dV:∀b,aF C.vT b→b≠bs:=λb hb q=>by have:=po b hb;omega
  have fin:∀{r:cG aP}{H9:AH}{S9:LS},Mem H9 S9→ax (bJ C) S S9→S9.ob S.n=.ce z5 0→bs<S9.n→Post C (bJ C) d X6 K S r→Post C (fJ C bs) d (xD bs) (λo H=>cR K o H λ_=>fO (dD (s13 m)) K (.ptr S.n 0) (.ptr bs 0) H) S9 r:=by
   intro r H9 S9 m9 x9 ob9 hb9 hP;cases r with
   |dZ=>exact hP
   |err c j=>exact λH' S' m' c' e'=>hP H' S' m' (x9.jv c' λb hb=>by
     rcases hb with hb|hb
     ·exact .inl hb
     ·exact .inr (by omega)) e'
   |ok s j=>
    intro H' S' v m' c' p' hv;obtain⟨hv,c5,ob5,hR⟩:=hv;subst hv;show fO (dD (s13 m)) K (.ptr S.n 0) (.ptr bs 0) H';unfold fO PZ;have o1':S'.ob S.n=.ce z5 0:=c'.ob m9 ob9 λq=>by
     rcases q with q|q<;>omega
    refine gz m' ob5 hR.len ?_;refine jc m' o1' rfl hR.len hR.ones λSC m''=>?_;refine gz m'' (LS.au _ _ _) hR.len ?_;refine hP SC _ _ m'' ((x9.jv c' λb hb=>by
     rcases hb with hb|hb
     ·exact .inl hb
     ·exact .inr (by omega)).set (.inr (Nat.le_refl _)) _) (p'.iF hp hM (Nat.le_refl _) _) ⟨c5,rfl,hR.go (λb hb=>LS.ao _ _ (by have:=hb.1;have:=x9.1;omega)) λb hb=>⟨by have:=hb.1;have:=x9.1;omega,hb.2⟩⟩
  have Fw:∀{H9:AH}{S9:LS},Mem H9 S9→S9.ob bs=.ce [.int 0 0,.int 0 (aZ C.T i:Int),.ab,.ab,.ab] 0→bs<S9.n:=λm o=>m.lt (by rw[o];simp);refine dF (s:=[108,111,99,97,108]) (bg (by decide)) m4 p4 λH5 S5 m5 c5 p5=>?_;simp only[aq,aX];have oS5:=c5.ob m4 oS4 kG;have ob5:=c5.ob m4 ob4 NB;have x5:=x4.trans c5;cases h1:isA C.T [108,111,99,97,108] i with
  |true=>
   simp only[h1,if_true]at hP p5;rw[aG];exact O.xA k (by omega) hd m5 p5 oS5 jN dV (fin m5 x5 ob5 (Fw m5 oS5) hP)
  |false=>
  simp only[h1,Bool.false_eq_true,if_false]at hP p5;rw[aw];refine dF (s:=[105,102]) (bg (by decide)) m5 p5 λH6 S6 m6 c6 p6=>?_;simp only[aq,aX];have oS6:=c6.ob m5 oS5 kG;have ob6:=c6.ob m5 ob5 NB;have x6:=x5.trans c6;cases h2:isA C.T [105,102] i with
  |true=>
   simp only[h2,if_true]at hP p6;rw[aG];exact O.choice k (by omega) hd m6 p6 oS6 jN dV (fin m6 x6 ob6 (Fw m6 oS6) hP)
  |false=>
  simp only[h2,Bool.false_eq_true,if_false]at hP p6;rw[aw];refine dF (s:=[119,104,105,108,101]) (bg (by decide)) m6 p6 λH7 S7 m7 c7 p7=>?_;simp only[aq,aX];have oS7:=c7.ob m6 oS6 kG;have ob7:=c7.ob m6 ob6 NB;have x7:=x6.trans c7;cases h3:isA C.T [119,104,105,108,101] i with
  |true=>
   simp only[h3,if_true]at hP p7;rw[aG];cases k with
   |zero=>simp only[At]at hP;exact False.elim hP
   |succ k=>
   simp only[At]at hP;have eF:=Fw m7 oS7;have xE:=fin m7 x7 ob7 eF hP;have eR:∀H,fO (dD (s13 m)) K (.ptr S.n 0) (.ptr bs 0) H=(λo H=>cR K o H λ_=>fO (dD (s13 m)) K (.ptr S.n 0) (.ptr bs 0) H:KF) (.ret (.aE [])) H:=λ_=>rfl;have eP:∀v H,K (.cj v) H=(λo H=>cR K o H λ_=>fO (dD (s13 m)) K (.ptr S.n 0) (.ptr bs 0) H:KF) (.cj v) H:=λ_ _=>rfl;generalize (λo H=>cR K o H λ_=>fO (dD (s13 m)) K (.ptr S.n 0) (.ptr bs 0) H:KF)=K2 at xE eR eP;have eK:∀(o:kl) (H:AH) (k:AV→Prop),cR K o H k=cR K2 o H k:=λo H k=>by
    cases o with
    |ret v=>rfl
    |cj v=>exact eP v H
   have aww:C.bp<S7.n:=p7.eT m7;have gY:∀b,S7.n≤b→¬bJ C b:=λb hb q=>by have q:b=C.bp:=q;omega
   simp only[eK];refine O.exp k (by omega) hd m7 p7 (Post.call (K:=K2) xE (ax.refl _ _) (λ_ h=>.inl h) λe j He Se w me ce pe ⟨c,hw,hR⟩ hP1=>?_);subst hw;have oSe:=ce.ob m7 oS7 kG;have ne:=ce.1;rw[gK];refine ia hR.len ?_;rw[CW hR.len rfl];refine cZ me (by rw[hR.len]) hR.ones λHf mf=>?_;have cf:ax cD Se (Se.push (.ce c 0)):=(ax.refl _ _).push _;rw[av,Nat.zero_add];refine aS (v:=.int 0 ((5:Nat):Int)) mf (cf.ob me oSe λq=>q) (by omega) (by show 0<5;omega) rfl λHg mg=>?_;rw[av,Nat.zero_add];refine aS mg (LS.au _ _ _) (by omega) (by show 3<5;omega) rfl λHh NC=>?_;have mh:Mem Hh (((Se.push (.ce c 0)).set bs (.ce [.int 0 ((5:Nat):Int),.int 0 (aZ C.T i:Int),.ab,.ab,.ab] 0)).set bs (.ce [.int 0 ((5:Nat):Int),.int 0 (aZ C.T i:Int),.ab,.slice Se.n 0 1 1 7 true,.ab] 0)):=NC;clear NC;have ph:=((pe.no me cf).setB mf jN dV (.ce [.int 0 ((5:Nat):Int),.int 0 (aZ C.T i:Int),.ab,.ab,.ab] 0)).setB mg jN dV (.ce [.int 0 ((5:Nat):Int),.int 0 (aZ C.T i:Int),.ab,.slice Se.n 0 1 1 7 true,.ab] 0);have kp:∀b,b≠bs→b<Se.n→(((Se.push (.ce c 0)).set bs (.ce [.int 0 ((5:Nat):Int),.int 0 (aZ C.T i:Int),.ab,.ab,.ab] 0)).set bs (.ce [.int 0 ((5:Nat):Int),.int 0 (aZ C.T i:Int),.ab,.slice Se.n 0 1 1 7 true,.ab] 0)).ob b=Se.ob b:=λb h1 h2=>by rw[LS.ao _ _ h1,LS.ao _ _ h1,LS.bq _ _ h2]
   have on:(((Se.push (.ce c 0)).set bs (.ce [.int 0 ((5:Nat):Int),.int 0 (aZ C.T i:Int),.ab,.ab,.ab] 0)).set bs (.ce [.int 0 ((5:Nat):Int),.int 0 (aZ C.T i:Int),.ab,.slice Se.n 0 1 1 7 true,.ab] 0)).ob Se.n=.ce c 0:=by
    rw[LS.ao _ _ (by omega),LS.ao _ _ (by omega)];exact LS.al _ _
   have th:oR C S7 (((Se.push (.ce c 0)).set bs (.ce [.int 0 ((5:Nat):Int),.int 0 (aZ C.T i:Int),.ab,.ab,.ab] 0)).set bs (.ce [.int 0 ((5:Nat):Int),.int 0 (aZ C.T i:Int),.ab,.slice Se.n 0 1 1 7 true,.ab] 0)) bs 5 (aZ C.T i) (.slice Se.n 0 1 1 7 true) [e] .ab []:=
    ⟨((ce.two.trans cf.no).set (.inl (.inr rfl)) _).set (.inl (.inr rfl)) _,LS.au _ _ _,⟨[c],.inr ⟨Se.n,1,true,c,rfl,on,by rw[hR.len];rfl,Nat.le_refl _,by rw[List.flatten_cons,List.flatten_nil,List.append_nil,hR.len];rfl,by rw[List.flatten_cons,List.flatten_nil,List.append_nil];exact List.take_of_length_le (Nat.le_refl _),hR.ones⟩,rfl,λb hb=>⟨by have hb:b=Se.n:=hb;omega,λq=>q⟩,λix c' a hc ha=>by
     cases ix with
     |zero=>
      have e1:c=c':=by simpa using hc
      have e2:e=a:=by simpa using ha
      subst e1;subst e2;exact⟨gE S7.n Se.n,hR.go (λb hb=>kp b (by have:=hb.1;omega) hb.2) (λ_ h=>h),λb hb=>⟨⟨hb.1,λq=>q⟩,Nat.lt_succ_of_lt hb.2,λq=>by have q:b=Se.n:=q;have:=hb.2;omega⟩⟩
     |succ ix=>simp at hc⟩,fz.nil _ _ _⟩
   unfold Qa P0;rw[r2,r10];simp only[eK];refine gP (s:=[100,111]) hpv (bg (by decide)) mh ph (Post.call (K:=K2) (jM:=oQ) hP1 th.x (λ_ h=>.inl h) λ_ ji Hi Si w mi ci pi _ hP2=>?_);have ti:=th.keep mh aww jN ci;simp only[av,Nat.zero_add];refine oR.blk (K:=K2) O (k:=k) (by omega) hd m7 p7 eF jN dV mi pi ti (by simp) hP2 λb v' jg Hg' Sg mg' pg tg hP3=>?_;refine gP (s:=[101,110,100]) hpv (bg (by decide)) mg' pg (Post.call (K:=K2) (jM:=oQ) hP3 tg.x (λ_ h=>.inl h) λ_ jk Hk Sk w mk ck pk _ CX=>?_);have tk:=tg.keep mg' aww jN ck;rw[eR];exact CX Hk Sk (.aE []) mk tk.x pk ⟨rfl,_,tk.ob,tk.Yb mk⟩
  |false=>
  simp only[h3,Bool.false_eq_true,if_false]at hP p7;rw[aw];refine dF (s:=[114,101,112,101,97,116]) (bg (by decide)) m7 p7 λH8 S8 m8 c8 p8=>?_;simp only[aq,aX];have oS8:=c8.ob m7 oS7 kG;have ob8:=c8.ob m7 ob7 NB;have x8:=x7.trans c8;cases h4:isA C.T [114,101,112,101,97,116] i with
  |true=>
   simp only[h4,if_true]at hP p8;rw[aG];cases k with
   |zero=>simp only[wh]at hP;exact False.elim hP
   |succ k=>
   simp only[wh]at hP;have eF:=Fw m8 oS8;have xE:=fin m8 x8 ob8 eF hP;have eR:∀H,fO (dD (s13 m)) K (.ptr S.n 0) (.ptr bs 0) H=(λo H=>cR K o H λ_=>fO (dD (s13 m)) K (.ptr S.n 0) (.ptr bs 0) H:KF) (.ret (.aE [])) H:=λ_=>rfl;have eP:∀v H,K (.cj v) H=(λo H=>cR K o H λ_=>fO (dD (s13 m)) K (.ptr S.n 0) (.ptr bs 0) H:KF) (.cj v) H:=λ_ _=>rfl;generalize (λo H=>cR K o H λ_=>fO (dD (s13 m)) K (.ptr S.n 0) (.ptr bs 0) H:KF)=K2 at xE eR eP;have eK:∀(o:kl) (H:AH) (k:AV→Prop),cR K o H k=cR K2 o H k:=λo H k=>by
    cases o with
    |ret v=>rfl
    |cj v=>exact eP v H
   have azW:C.bp<S8.n:=p8.eT m8;have gY:∀b,S8.n≤b→¬bJ C b:=λb hb q=>by have q:b=C.bp:=q;omega
   simp only[eK];refine O.block k (by omega) hd m8 p8 (Post.call (K:=K2) (jM:=lz) xE (ax.refl _ _) (λ_ h=>.inl h) λb j He Se v6 me ce pe ⟨cb,hsl,hrs⟩ hP1=>?_);have oSe:=ce.ob m8 oS8 kG;have ne:=ce.1;refine gU hsl.one ?_;refine cZ me rfl (λx h=>by rw[List.mem_singleton]at h;rw[h];exact hsl.one) λHf mf=>?_;have cf:ax cD Se (Se.push (.ce [v6] 0)):=(ax.refl _ _).push _;rw[av,Nat.zero_add];refine aS (v:=.int 0 ((8:Nat):Int)) mf (cf.ob me oSe λq=>q) (by omega) (by show 0<5;omega) rfl λHg mg=>?_;rw[av,Nat.zero_add];refine aS mg (LS.au _ _ _) (by omega) (by show 4<5;omega) rfl λHh NC=>?_;have mh:Mem Hh (((Se.push (.ce [v6] 0)).set bs (.ce [.int 0 ((8:Nat):Int),.int 0 (aZ C.T i:Int),.ab,.ab,.ab] 0)).set bs (.ce [.int 0 ((8:Nat):Int),.int 0 (aZ C.T i:Int),.ab,.ab,.slice Se.n 0 1 1 1 true] 0)):=NC;clear NC;have ph:=((pe.no me cf).setB mf jN dV (.ce [.int 0 ((8:Nat):Int),.int 0 (aZ C.T i:Int),.ab,.ab,.ab] 0)).setB mg jN dV (.ce [.int 0 ((8:Nat):Int),.int 0 (aZ C.T i:Int),.ab,.ab,.slice Se.n 0 1 1 1 true] 0);have kp:∀b,b≠bs→b<Se.n→(((Se.push (.ce [v6] 0)).set bs (.ce [.int 0 ((8:Nat):Int),.int 0 (aZ C.T i:Int),.ab,.ab,.ab] 0)).set bs (.ce [.int 0 ((8:Nat):Int),.int 0 (aZ C.T i:Int),.ab,.ab,.slice Se.n 0 1 1 1 true] 0)).ob b=Se.ob b:=λb h1 h2=>by rw[LS.ao _ _ h1,LS.ao _ _ h1,LS.bq _ _ h2]
   have on:(((Se.push (.ce [v6] 0)).set bs (.ce [.int 0 ((8:Nat):Int),.int 0 (aZ C.T i:Int),.ab,.ab,.ab] 0)).set bs (.ce [.int 0 ((8:Nat):Int),.int 0 (aZ C.T i:Int),.ab,.ab,.slice Se.n 0 1 1 1 true] 0)).ob Se.n=.ce [v6] 0:=by
    rw[LS.ao _ _ (by omega),LS.ao _ _ (by omega)];exact LS.al _ _
   have th:oR C S8 (((Se.push (.ce [v6] 0)).set bs (.ce [.int 0 ((8:Nat):Int),.int 0 (aZ C.T i:Int),.ab,.ab,.ab] 0)).set bs (.ce [.int 0 ((8:Nat):Int),.int 0 (aZ C.T i:Int),.ab,.ab,.slice Se.n 0 1 1 1 true] 0)) bs 8 (aZ C.T i) .ab [] (.slice Se.n 0 1 1 1 true) [b]:=
    ⟨((ce.two.trans cf.no).set (.inl (.inr rfl)) _).set (.inl (.inr rfl)) _,LS.au _ _ _,fz.nil _ _ _,⟨[[v6]],.inr ⟨Se.n,1,true,[v6],rfl,on,rfl,Nat.le_refl _,rfl,rfl,λx h=>by rw[List.mem_singleton]at h;rw[h];exact hsl.one⟩,rfl,λb hb=>⟨by have hb:b=Se.n:=hb;omega,λq=>q⟩,λix c a hc ha=>by
     cases ix with
     |zero=>
      have e1:[v6]=c:=by simpa using hc
      have e2:b=a:=by simpa using ha
      subst e1;subst e2;exact⟨gE S8.n Se.n,⟨v6,cb,rfl,hsl.go (λb hb=>kp b (by have:=hb.1;omega) hb.2) (λ_ h=>h),λj s h=>(hrs j s h).go (λb hb=>kp b (by have:=hb.1;omega) hb.2) (λ_ h=>h)⟩,λb hb=>⟨⟨hb.1,λq=>q⟩,Nat.lt_succ_of_lt hb.2,λq=>by have q:b=Se.n:=q;have:=hb.2;omega⟩⟩
     |succ ix=>simp at hc⟩⟩
   unfold Qc Qb;rw[r9,r10];simp only[eK];refine gP (s:=[117,110,116,105,108]) hpv (bg (by decide)) mh ph (Post.call (K:=K2) (jM:=oQ) hP1 th.x (λ_ h=>.inl h) λ_ ji Hi Si w mi ci pi _ hP2=>?_);have ti:=th.keep mh azW jN ci;simp only[av,Nat.zero_add];refine oR.exp (K:=K2) O (k:=k) (by omega) hd m8 p8 eF jN dV mi pi ti (by simp) hP2 λe v' jg Hg' Sg mg' pg tg hP3=>?_;rw[eR];exact hP3 Hg' Sg (.aE []) mg' tg.x pg ⟨rfl,_,tg.ob,tg.Yb mg'⟩
  |false=>
  simp only[h4,Bool.false_eq_true,if_false]at hP p8;rw[aw];refine dF (s:=[102,111,114]) (bg (by decide)) m8 p8 λH9 S9 m9 c9 p9=>?_;simp only[aq,aX];have oS9:=c9.ob m8 oS8 kG;have ob9:=c9.ob m8 ob8 NB;have x9:=x8.trans c9;cases h5:isA C.T [102,111,114] i with
  |true=>
   simp only[h5,if_true]at hP p9;rw[aG];exact O.loop k (by omega) hd m9 p9 oS9 jN dV (fin m9 x9 ob9 (Fw m9 oS9) hP)
  |false=>
  simp only[h5,Bool.false_eq_true,if_false]at hP p9;rw[aw];refine dF (s:=[98,114,101,97,107]) (bg (by decide)) m9 p9 λHa Sa ma ca pa=>?_;simp only[aq,aX];have oSa:=ca.ob m9 oS9 kG;have oba:=ca.ob m9 ob9 NB;have xa:=x9.trans ca;cases h6:isA C.T [98,114,101,97,107] i with
  |true=>
   simp only[h6,if_true]at hP pa;rw[aG];simp only[av,Nat.zero_add];refine aS (v:=.int 0 ((9:Nat):Int)) ma oSa (by omega) (by show 0<5;omega) rfl λHe me=>?_;exact fin ma xa oba (Fw ma oSa) hP He _ (.aE []) me ((ax.refl _ _).set (.inl (.inr rfl)) _) (pa.setB ma jN dV _) ⟨rfl,_,LS.au _ _ _,fT.plain iZ.nil (bW.nil _ _ _ (λ_=>[])) λi e h=>by simp at h⟩
  |false=>
  simp only[h6,Bool.false_eq_true,if_false]at hP pa;rw[aw];refine dF (s:=[100,111]) (bg (by decide)) ma pa λHb Sb mb cb pb=>?_;simp only[aq,aX];have oSb:=cb.ob ma oSa kG;have obb:=cb.ob ma oba NB;have xb:=xa.trans cb;cases h7:isA C.T [100,111] i with
  |true=>
   simp only[h7,if_true]at hP pb;rw[aG];cases k with
   |zero=>simp only[X4]at hP;exact False.elim hP
   |succ k=>
   simp only[X4]at hP;have xE:=fin mb xb obb (Fw mb oSb) hP;have eF:=Fw mb oSb;have gY:∀b,Sb.n≤b→¬bJ C b:=λb hb q=>by have q:b=C.bp:=q;have:=xb.1;omega
   refine O.block k (by omega) hd mb pb (Post.call (K:=λo H=>cR K o H λ_=>fO (dD (s13 m)) K (.ptr S.n 0) (.ptr bs 0) H) (jM:=lz) xE (ax.refl _ _) (λ_ h=>.inl h) λb j He Se v6 me ce pe ⟨cb,hsl,hrs⟩ hP1=>?_);have oSe:=ce.ob mb oSb kG;have ne:=ce.1;refine gU hsl.one ?_;refine cZ me rfl (λx h=>by rw[List.mem_singleton]at h;rw[h];exact hsl.one) λHf mf=>?_;have cf:ax cD Se (Se.push (.ce [v6] 0)):=(ax.refl _ _).push _;simp only[av,Nat.zero_add];refine aS (v:=.int 0 ((11:Nat):Int)) mf (cf.ob me oSe λq=>q) (by omega) (by show 0<5;omega) rfl λHg mg=>?_;refine aS mg (LS.au _ _ _) (by omega) (by show 4<5;omega) rfl λHh NC=>?_;have mh:Mem Hh (((Se.push (.ce [v6] 0)).set bs (.ce [.int 0 ((11:Nat):Int),.int 0 (aZ C.T i:Int),.ab,.ab,.ab] 0)).set bs (.ce [.int 0 ((11:Nat):Int),.int 0 (aZ C.T i:Int),.ab,.ab,.slice Se.n 0 1 1 1 true] 0)):=NC;clear NC;have ph:=((pe.no me cf).setB mf jN dV (.ce [.int 0 ((11:Nat):Int),.int 0 (aZ C.T i:Int),.ab,.ab,.ab] 0)).setB mg jN dV (.ce [.int 0 ((11:Nat):Int),.int 0 (aZ C.T i:Int),.ab,.ab,.slice Se.n 0 1 1 1 true] 0);have xh:ax (fJ C bs) Sb (((Se.push (.ce [v6] 0)).set bs (.ce [.int 0 ((11:Nat):Int),.int 0 (aZ C.T i:Int),.ab,.ab,.ab] 0)).set bs (.ce [.int 0 ((11:Nat):Int),.int 0 (aZ C.T i:Int),.ab,.ab,.slice Se.n 0 1 1 1 true] 0)):=((ce.two.trans cf.no).set (.inl (.inr rfl)) _).set (.inl (.inr rfl)) _;unfold Qe Qd;rw[r10];refine gP (s:=[101,110,100]) hpv (bg (by decide)) mh ph (Post.call (K:=λo H=>cR K o H λ_=>fO (dD (s13 m)) K (.ptr S.n 0) (.ptr bs 0) H) (jM:=oQ) hP1 xh (λ_ h=>.inl h) λ_ ji Hi Si w mi ci pi _ hP2=>?_);have ni:Se.n+1≤Si.n:=ci.1;have kp:∀b,Sb.n≤b→b<Se.n→Si.ob b=Se.ob b:=λb h1 h2=>by
    rw[ci.2 b (by show b<Se.n+1;omega) (gY b h1),LS.ao _ _ (by omega),LS.ao _ _ (by omega),LS.bq _ _ h2]
   refine hP2 Hi Si (.aE []) mi (xh.trans ci.two) pi ⟨rfl,_,ci.ob mh (LS.au _ _ _) kG,fT.blk (v6:=v6) (l:=[]) iZ.nil (bW.nil _ _ _ (λ_=>[])) (λi e h=>by simp at h) (bW.single (b:=Se.n) (m:=0) ⟨ne,by omega⟩ (ci.ob mh (by rw[LS.ao _ _ (by omega),LS.ao _ _ (by omega)];exact LS.al _ _) (gY _ ne)) rfl) (hsl.go (λb hb=>kp b hb.1 hb.2) λb hb=>⟨hb.1,by have:=hb.2;omega⟩) λj s h=>(hrs j s h).go (λb hb=>kp b hb.1 hb.2) λb hb=>⟨hb.1,by have:=hb.2;omega⟩⟩
  |false=>
  simp only[h7,Bool.false_eq_true,if_false]at hP pb;rw[aw];refine dF (s:=[114,101,116,117,114,110]) (bg (by decide)) mb pb λHc Sc mc cc pc=>?_;simp only[aq,aX];have oSc:=cc.ob mb oSb kG;have obc:=cc.ob mb obb NB;have xc:=xb.trans cc;cases h8:isA C.T [114,101,116,117,114,110] i with
  |true=>
   simp only[h8,if_true]at hP pc;rw[aG];cases k with
   |zero=>simp only[sS]at hP;exact False.elim hP
   |succ k=>
   simp only[sS]at hP;have eF:=Fw mc oSc;have xE:=fin mc xc obc eF hP;have eR:∀H,fO (dD (s13 m)) K (.ptr S.n 0) (.ptr bs 0) H=(λo H=>cR K o H λ_=>fO (dD (s13 m)) K (.ptr S.n 0) (.ptr bs 0) H:KF) (.ret (.aE [])) H:=λ_=>rfl;have eP:∀v H,K (.cj v) H=(λo H=>cR K o H λ_=>fO (dD (s13 m)) K (.ptr S.n 0) (.ptr bs 0) H:KF) (.cj v) H:=λ_ _=>rfl;generalize (λo H=>cR K o H λ_=>fO (dD (s13 m)) K (.ptr S.n 0) (.ptr bs 0) H:KF)=K2 at xE eR eP;have eK:∀(o:kl) (H:AH) (k:AV→Prop),cR K o H k=cR K2 o H k:=λo H k=>by
    cases o with
    |ret v=>rfl
    |cj v=>exact eP v H
   simp only[av,Nat.zero_add];refine aS (v:=.int 0 ((10:Nat):Int)) mc oSc (by omega) (by show 0<5;omega) rfl λHd md'=>?_;have md:Mem Hd (Sc.set bs (.ce [.int 0 ((10:Nat):Int),.int 0 (aZ C.T i:Int),.ab,.ab,.ab] 0)):=md';clear md';have td:oR C Sc (Sc.set bs (.ce [.int 0 ((10:Nat):Int),.int 0 (aZ C.T i:Int),.ab,.ab,.ab] 0)) bs 10 (aZ C.T i) .ab [] .ab []:=⟨(ax.refl _ _).set (.inl (.inr rfl)) _,LS.au _ _ _,fz.nil _ _ _,fz.nil _ _ _⟩
   have pd:=pc.setB mc jN dV (.ce [.int 0 ((10:Nat):Int),.int 0 (aZ C.T i:Int),.ab,.ab,.ab] 0);have awx:C.bp<Sc.n:=pc.eT mc;unfold Qi Qh;rw[r4,r6];refine sT (s:=[59]) (bg (by decide)) md pd λHe Se me ce pe=>?_;simp only[aq,aX];have te:=td.keep md awx jN ce.no;cases h9:isA C.T [59] (i+1)with
   |true=>
    rw[if_pos (.inl h9)]at xE;simp only[Bool.not_true,aw];rw[eR];exact xE He Se (.aE []) me te.x pe ⟨rfl,_,te.ob,te.Yb me⟩
   |false=>
    simp only[Bool.not_false,aG];refine SE me pe λHf Sf mf cf pf=>?_;rw[aq,aX];have tf:=te.keep me awx jN cf.no;cases h10:nr C.T (i+1)with
    |true=>
     have hc:(isA C.T [59] (i+1)=true∨nr C.T (i+1)=true):=Or.inr h10;rw[if_pos hc]at xE;simp only[Bool.not_true,aw];rw[eR];exact xE Hf Sf (.aE []) mf tf.x pf ⟨rfl,_,tf.ob,tf.Yb mf⟩
    |false=>
     have hc:¬(isA C.T [59] (i+1)=true∨nr C.T (i+1)=true):=by
      rintro(q|q)
      ·rw[h9]at q;cases q
      ·rw[h10]at q;cases q
     rw[if_neg hc]at xE;rw[Bool.not_false,aG];unfold Qg Qf;rw[r9];simp only[av,Nat.zero_add,eK];refine oR.exp (K:=K2) O (k:=k) (by omega) hd mc pc eF jN dV mf pf tf (by simp) xE λe v' jg Hg Sg mg pg tg hP3=>?_;rw[eR];exact hP3 Hg Sg (.aE []) mg tg.x pg ⟨rfl,_,tg.ob,tg.Yb mg⟩
  |false=>
  simp only[h8,Bool.false_eq_true,if_false]at hP pc;rw[aw];refine jw mc pc λHd Sd md cd pd=>?_;rw[aq];refine NA ?_;have oSd:=cd.ob mc oSc λq=>q;have obd:=cd.ob mc obc λq=>q;have xd:=xc.trans cd.no;have e2:Int.ofNat 2=((2:Nat):Int):=rfl;rw[bD,e2];by_cases g2:cg C.T i=2
  ·rw[if_pos g2]at hP;rw[decide_eq_true (by omega),aG];exact O.plain k (by omega) hd md pd oSd jN dV (fin md xd obd (Fw md oSd) hP)
  ·rw[if_neg g2]at hP;rw[decide_eq_false (by omega),aw];refine pK (c:=14) hpv md pd λHe Se me ce ee=>?_;rw[dt];exact hP He Se me (xd.trans ce) ee
end
section
variable {C:Ctx}
theorem azX(m:Nat):gX C m 0 where
 block k hk _ _ _ _ _ _ _ _ hP:=by
  obtain rfl:k=0:=by omega
  simp only[fk]at hP;exact False.elim hP
 stat k hk _ _ _ _ _ _ _ _ hP:=by
  obtain rfl:k=0:=by omega
  simp only[nt]at hP;exact False.elim hP
 xA k hk _ _ _ _ _ _ _ _ _ _ _ _ _ hP:=by
  obtain rfl:k=0:=by omega
  simp only[pJ]at hP;exact False.elim hP
 choice k hk _ _ _ _ _ _ _ _ _ _ _ _ _ hP:=by
  obtain rfl:k=0:=by omega
  simp only[kD]at hP;exact False.elim hP
 exp k hk _ _ _ _ _ _ _ _ hP:=by
  obtain rfl:k=0:=by omega
  simp only[fu]at hP;exact False.elim hP
 loop k hk _ _ _ _ _ _ _ _ _ _ _ _ _ hP:=by
  obtain rfl:k=0:=by omega
  simp only[Bi]at hP;exact False.elim hP
 plain k hk _ _ _ _ _ _ _ _ _ _ _ _ _ hP:=by
  obtain rfl:k=0:=by omega
  simp only[rF]at hP;exact False.elim hP
 body k hk _ _ _ _ _ _ _ _ _ hP:=by
  obtain rfl:k=0:=by omega
  simp only[pU]at hP;exact False.elim hP
 either k hk _ _ _ _ _ _ _ _ hP:=by
  obtain rfl:k=0:=by omega
  simp only[mU]at hP;exact False.elim hP
 post k hk _ _ _ _ _ _ _ _ hP:=by
  obtain rfl:k=0:=by omega
  simp only[oK]at hP;exact False.elim hP
 both k hk _ _ _ _ _ _ _ _ hP:=by
  obtain rfl:k=0:=by omega
  simp only[rz]at hP;exact False.elim hP
 simple k hk _ _ _ _ _ _ _ _ hP:=by
  obtain rfl:k=0:=by omega
  simp only[jL]at hP;exact False.elim hP
 args k hk _ _ _ _ _ _ _ _ hP:=by
  obtain rfl:k=0:=by omega
  simp only[jG]at hP;exact False.elim hP
 test k hk _ _ _ _ _ _ _ _ hP:=by
  obtain rfl:k=0:=by omega
  simp only[rA]at hP;exact False.elim hP
 table k hk _ _ _ _ _ _ _ _ _ hP:=by
  obtain rfl:k=0:=by omega
  simp only[kQ]at hP;exact False.elim hP
 join k hk _ _ _ _ _ _ _ _ hP:=by
  obtain rfl:k=0:=by omega
  simp only[pT]at hP;exact False.elim hP
 field k hk _ _ _ _ _ _ _ _ _ _ _ _ _ _ hP:=by
  obtain rfl:k=0:=by omega
  simp only[mM]at hP;exact False.elim hP
 sum k hk _ _ _ _ _ _ _ _ hP:=by
  obtain rfl:k=0:=by omega
  simp only[yV]at hP;exact False.elim hP
 term k hk _ _ _ _ _ _ _ _ hP:=by
  obtain rfl:k=0:=by omega
  simp only[rD]at hP;exact False.elim hP
 unary k hk _ _ _ _ _ _ _ _ hP:=by
  obtain rfl:k=0:=by omega
  simp only[iY]at hP;exact False.elim hP
theorem azY{m n:Nat}(hn:n≤900000)(hpv:C.pv=.iface 57 (.agg []))(O:gX C m n):gX C (m+1) (n+1) where
 block:=s24 hn hpv O
 stat:=s55 hpv O
 xA:=s95 hpv O
 choice:=s96 hn hpv O
 exp:=s97 hpv O
 loop:=s99 hpv O
 plain:=azT hpv O
 body:=azS hn hpv O
 either:=azy hn hpv O
 post:=azL hn hpv O
 both:=azA hn hpv O
 simple:=azM hpv O
 args:=azJ hn hpv O
 test:=azC hn hpv O
 table:=azO hn hpv O
 join:=azG hpv O
 field:=azP hpv O
 sum:=azD hn hpv O
 term:=azF hn hpv O
 unary:=azH hpv O
theorem okP(hpv:C.pv=.iface 57 (.agg [])):∀(n m:Nat),n≤900000→n≤m→gX C m n
 |0,m,_,_=>azX m
 |n+1,0,_,h=>by omega
 |n+1,m+1,h1,h2=>azY (by omega) hpv (okP hpv n m (by omega) (by omega))
end
end Go.Proofs.YtcedghechlgecaaGreatDoor
namespace Go.Proofs.YtcedghechlgecaaGreatDoor.G
open Go Go.X
abbrev yW:Type:=(AV→AH→KF→Prop)×(AV→AH→KF→Prop)×(AV→AH→KF→Prop)×(AV→Int→AH→KF→Prop)
noncomputable def aqj(R:yW):List (Nat×bQ):=[(21,ai [.a] R.1),(23,ai [.a] R.2.1),(24,ai [.a] R.2.2.1),(25,ai [.a,.i 0] R.2.2.2)]
noncomputable def afn(R:AV→AH→KF→Prop)(K:KF)(v:AV)(a0 a1 a2 a3:AV)(X:AH→Prop)(H:AH):Prop:=u7 57 (.agg []) true v λv1=>dv v1 λl2=>cE l2 0 λv3=>dv v1 λl4=>cE l4 1 λv5=>bC v5 λz6=>cm H (dC (aA H) [] λv7 H8=>ag 0 v7 v3 H8 λH9=>bI z6 (af a0 H9 λv10=>aC v10 (ah 3 v10 λv11=>af v11 H9 λv12=>cI 0 v12 λz13=>af a0 H9 λv14=>R v14 H9 λtK dJ=>cR K tK dJ λv17=>af v11 dJ λv18=>cI 0 v18 λzy=>bT (aH (.int 0 zy) (.int 0 z13)) (af a0 dJ λv20=>bT (aH v20 v10) (fW v17 λl21=>cE l21 3 λv22=>cI 0 v22 λz23=>ag 1 a1 .ab dJ λgD=>ag 1 a2 (.int 0 z13) gD λmE=>ag 1 a3 (.int 0 z23) mE λjS=>X jS)))) (X H9))
noncomputable def C5(K:KF)(a2 a3 a4:AV)(H:AH):Prop:=af a2 H λv5=>af a3 H λv6=>af a4 H λv7=>K (.ret (.aE [v5,v6,v7])) H
noncomputable def Gl(R:yW)(K:KF)(a2 a3 a4 a8:AV)(v:AV)(H:AH):Prop:=afn R.2.1 K v a8 a2 a3 a4 (C5 K a2 a3 a4) H
noncomputable def aoF(R:yW)(K:KF)(a2 a3 a4 a8:AV):KF:=λo H=>match o with|.cj v=>Gl R K a2 a3 a4 a8 v H|.ret v=>False
noncomputable def Ov(R:yW)(K:KF)(a2 a3 a4 a8:AV)(H:AH):Prop:=af a8 H λv1=>R.2.2.1 v1 H λo2 H3=>cR (aoF R K a2 a3 a4 a8) o2 H3 λv4=>ag 1 a2 v4 H3 λH5=>af a8 H5 λv6=>R.2.1 v6 H5 λo7 H8=>cR (aoF R K a2 a3 a4 a8) o7 H8 λv9=>fW v9 λl10=>cE l10 0 λv11=>cI 0 v11 λz12=>bI (!(aV z12 (.ofNat 0)))
 (af a8 H8 λv13=>R.2.2.2 v13 (.ofNat 14) H8 λzt dH=>cR (aoF R K a2 a3 a4 a8) zt dH λv16=>af a2 dH λv1=>ag 1 a2 v1 dH λH2=>ag 1 a3 (.int 0 (.ofNat 0)) H2 λH3=>ag 1 a4 (.int 0 (.ofNat 0)) H3 λH4=>Gl R K a2 a3 a4 a8 .dS H4)
 (af a2 H8 λv1=>ag 1 a2 v1 H8 λH2=>ag 1 a3 (.int 0 (.ofNat 0)) H2 λH3=>ag 1 a4 (.int 0 (.ofNat 0)) H3 λH4=>Gl R K a2 a3 a4 a8 .dS H4)
noncomputable def SM(R:yW)(K:KF)(a0:AV)(H:AH):Prop:=cm H (dC (aA H) [.ab] λv1 H2=>cm H2 (dC (aA H2) [(.int 0 (.ofNat 0))] λv3 H4=>cm H4 (dC (aA H4) [(.int 0 (.ofNat 0))] λv5 H6=>R.1 a0 H6 λo7 H8=>cR K o7 H8 λv9=>dv v9 λl10=>cE l10 0 λv11=>dv v9 λl12=>cE l12 1 λv13=>cI 0 v13 λlL=>dv v9 λl15=>cE l15 2 λv16=>cI 0 v16 λz17=>bI (!(aV lL (.ofNat 0))) (ag 1 v1 .ab H8 λeB=>ag 1 v3 (.int 0 lL) eB λik=>ag 1 v5 (.int 0 z17) ik λgV=>C5 K v1 v3 v5 gV) (one v11 (dC (aA H8) [v11,(.int 0 (.ofNat 0)),(.int 0 (.ofNat 0)),(.int 0 (.ofNat 0))] λv24 mE=>cm mE (dC (aA mE) [.eH] λv26 ly=>ag 1 v26 v24 ly λHJ=>Ov R K v1 v3 v5 v26 HJ))))))
theorem azZ(R:yW)(K:KF)(a0:AV)(H:AH):SM R K a0 H=GV (fY (aqj R)) (Dk Tryz.prog (fY (aqj R))) Tryz.prog Tryz.prog.globals.size 400 400 8 [a0] H K:=by kernel_rfl
end Go.Proofs.YtcedghechlgecaaGreatDoor.G
namespace Go.Proofs.YtcedghechlgecaaGreatDoor
open Go Go.X Go.Proofs.YtcedghechlgecaaGreatDoor.G
section
variable {H:AH}{S:LS}{K:KF}{C:Ctx}{i d:Nat}
theorem awy{c:Nat}(hM:Mem H S)(hp:Gf C S c i)(hK:∀H' S',Mem H' S'→ax cD S S'→K (.ret (.agg (fa C.T i))) H'):f23 (.ptr C.bp 0) H K:=by
 obtain⟨⟨d,hob⟩,tk,lt⟩:=hp;show zq Hj K (.ptr C.bp 0) H;unfold zq;refine bZ (bF hM (λa ha=>?_) λH1 m1=>?_)
 ·simp only[List.mem_cons,List.not_mem_nil,or_false]at ha;rcases ha with rfl|rfl|rfl|rfl<;>rfl
 have c1:ax cD S (S.push (.ce [.int 0 (.ofNat 0),.str 0 0,.int 0 (.ofNat 0),.int 0 (.ofNat 0)] 0)):=(ax.refl _ _).push _;have o1:=c1.ob hM hob λq=>q;have t1:=tk.keep hM λb _ hb=>c1.2 b hb λq=>q;simp only[aW,av,Nat.zero_add];refine aj m1 o1 (v:=C.vT) rfl ?_;refine aj m1 o1 (v:=.int 0 (i:Int)) rfl ?_;simp only[az];refine t1.load m1 lt ?_;rw[Gg lt];refine hV m1 (LS.al _ _) (by omega) rfl (by show 0+4≤4;omega) (λa ha=>?_) λH2 m2=>?_
 ·simp only[fa,List.mem_cons,List.not_mem_nil,or_false]at ha;rcases ha with rfl|rfl|rfl|rfl<;>rfl
 have m2:Mem H2 ((S.push (.ce [.int 0 (.ofNat 0),.str 0 0,.int 0 (.ofNat 0),.int 0 (.ofNat 0)] 0)).set S.n (.ce (fa C.T i) 0)):=m2;have c2:=c1.set (b:=S.n) (.inr (Nat.le_refl _)) (.ce (fa C.T i) 0);refine kx m2 (LS.au _ _ _) (by show 0+4≤4;omega) ?_;exact hK H2 _ m2 c2
def X3(o c t:Nat):Nat→Prop:=λb=>b=o∨b=c∨b=t
theorem SN{o c t:Nat}{x y z:AV}{v:AV}{n p:Int}(hv:v.one=true)(hM:Mem H S)(ho:S.ob o=.ce [x] 0)(hc:S.ob c=.ce [y] 0)(ht:S.ob t=.ce [z] 0)(h1:o≠c)(h2:o≠t)(h3:c≠t){k:AH→Prop}
  (hk:∀H' S',Mem H' S'→ax (X3 o c t) S S'→S'.ob o=.ce [v] 0→S'.ob c=.ce [.int 0 n] 0→S'.ob t=.ce [.int 0 p] 0→k H') :
  ag 1 (.ptr o 0) v H λH2=>ag 1 (.ptr c 0) (.int 0 n) H2 λH3=>ag 1 (.ptr t 0) (.int 0 p) H3 k:=by
 refine aS (v:=v) hM ho (by omega) (by show 0<1;omega) hv λH2 m2=>?_;have m2:Mem H2 (S.set o (.ce [v] 0)):=m2;refine aS (v:=.int 0 n) m2 ((LS.ao _ _ (Ne.symm h1)).trans hc) (by omega) (by show 0<1;omega) rfl λH3 m3=>?_;have m3:Mem H3 ((S.set o (.ce [v] 0)).set c (.ce [.int 0 n] 0)):=m3;refine aS (v:=.int 0 p) m3 ((LS.ao _ _ (Ne.symm h3)).trans ((LS.ao _ _ (Ne.symm h2)).trans ht)) (by omega) (by show 0<1;omega) rfl λH4 m4=>?_;have m4:Mem H4 (((S.set o (.ce [v] 0)).set c (.ce [.int 0 n] 0)).set t (.ce [.int 0 p] 0)):=m4;refine hk H4 _ m4 ((((ax.refl _ S).set (.inl (.inl rfl)) _).set (.inl (.inr (.inl rfl))) _).set (.inl (.inr (.inr rfl))) _) ?_ ?_ (LS.au _ _ _)
 ·exact(LS.ao _ _ h2).trans ((LS.ao _ _ h1).trans (LS.au _ _ _))
 ·exact(LS.ao _ _ h3).trans (LS.au _ _ _)
theorem Gm{o c t:Nat}{v:AV}{n p:Int}(hM:Mem H S)(ho:S.ob o=.ce [v] 0)(hc:S.ob c=.ce [.int 0 n] 0)(ht:S.ob t=.ce [.int 0 p] 0)(hK:K (.ret (.aE [v,.int 0 n,.int 0 p])) H):C5 K (.ptr o 0) (.ptr c 0) (.ptr t 0) H:=by
 unfold C5;refine aj hM ho (v:=v) rfl ?_;refine aj hM hc (v:=.int 0 n) rfl ?_;refine aj hM ht (v:=.int 0 p) rfl ?_;exact hK
theorem al5{R:yW}(q2:R.2.1=f23){c o cd t bx:Nat}{x y z:AV}(hpv:C.pv=.iface 57 (.agg []))(hM:Mem H S)(hp:Gf C S c i)(ho:S.ob o=.ce [x] 0)(hc:S.ob cd=.ce [y] 0)(ht:S.ob t=.ce [z] 0)(hb:S.ob bx=.ce [.ptr C.bp 0] 0)(h1:o≠cd)(h2:o≠t)(h3:cd≠t)
  (hK:∀H' S',Mem H' S'→ax (X3 o cd t) S S'→K (.ret (.aE [.ab,.int 0 (c:Int),.int 0 (aZ C.T i:Int)])) H'):Gl R K (.ptr o 0) (.ptr cd 0) (.ptr t 0) (.ptr bx 0) C.pv H:=by
 unfold Gl afn;rw[hpv];refine Nx ?_;simp only[fF,fy,fM,aX];refine bZ (bF hM (λa ha=>by simp at ha) λH1 m1=>?_);refine jc m1 (c:=[]) (z:=[]) (LS.al _ _) rfl rfl (λa ha=>by simp at ha) λH2 m2=>?_;have c2:ax cD S ((S.push (.ce [] 0)).set S.n (.ce [] 0)):=((ax.refl _ S).push _).set (.inr (Nat.le_refl _)) _;revert m2 c2;generalize (S.push (.ce [] 0)).set S.n (.ce [] 0)=S2;intro m2 c2;have keep:∀{b:Nat}{l:List AV},S.ob b=.ce l 0→S2.ob b=.ce l 0:=λh=>c2.ob hM h λq=>q;have p2:Gf C S2 c i:=by
  obtain⟨⟨d,hob⟩,tk,lt⟩:=hp;exact⟨⟨d,keep hob⟩,tk.keep hM λb _ hb=>c2.2 b hb λq=>q,lt⟩
 rw[aG];refine aj m2 (keep hb) (v:=.ptr C.bp 0) rfl ?_;simp only[aW,av,Nat.zero_add];obtain⟨d,hob⟩:=hp.ob;refine aj m2 (keep hob) (v:=.int 0 (c:Int)) rfl ?_;rw[az];refine aj m2 (keep hb) (v:=.ptr C.bp 0) rfl ?_;rw[q2];refine awy m2 p2 λH3 S3 m3 c3=>?_;have c13:=c2.trans c3;have I9:∀{b:Nat}{l:List AV},S.ob b=.ce l 0→S3.ob b=.ce l 0:=λh=>c13.ob hM h λq=>q;rw[aq];refine aj m3 (I9 hob) (v:=.int 0 (c:Int)) rfl ?_;rw[az];refine bA (qX _ _) ?_;refine aj m3 (I9 hb) (v:=.ptr C.bp 0) rfl ?_;refine bA (by simp[aH]) ?_;rw[Dp];unfold fa;simp only[fy,fM,az];refine SN rfl m3 (I9 ho) (I9 hc) (I9 ht) h1 h2 h3 λH4 S4 m4 c4 o4 d4 t4=>?_;exact Gm m4 o4 d4 t4 (hK H4 S4 m4 (c13.no.trans c4))
theorem awz{R:yW}{o cd t bx:Nat}{v:AV}{n p:Int}(hM:Mem H S)(ho:S.ob o=.ce [v] 0)(hc:S.ob cd=.ce [.int 0 n] 0)(ht:S.ob t=.ce [.int 0 p] 0)
  (hK:∀H' S',Mem H' S'→ax cD S S'→K (.ret (.aE [v,.int 0 n,.int 0 p])) H'):Gl R K (.ptr o 0) (.ptr cd 0) (.ptr t 0) (.ptr bx 0) .dS H:=by
 unfold Gl afn;refine Ny ?_;simp only[fF,fy,fM,aX];refine bZ (bF hM (λa ha=>by simp at ha) λH1 m1=>?_);refine jc m1 (c:=[]) (z:=[]) (LS.al _ _) rfl rfl (λa ha=>by simp at ha) λH2 m2=>?_;have c2:ax cD S ((S.push (.ce [] 0)).set S.n (.ce [] 0)):=((ax.refl _ S).push _).set (.inr (Nat.le_refl _)) _;rw[aw];exact Gm m2 (c2.ob hM ho λq=>q) (c2.ob hM hc λq=>q) (c2.ob hM ht λq=>q) (hK H2 _ m2 c2)
theorem az0{R:yW}{F:AV→AH→KF→Prop}(q1:R.1=F)(q2:R.2.1=f23)(q3:R.2.2.1=f24)(q4:R.2.2.2=f25){s:List Nat}{r:List Tok ⊕ Nat}(h8:B8 s)(hs:s.length≤10000)(hr:cA s 0 r)(hM:Mem H S)(hF:∀{K:KF}{H':AH}{S':LS},Mem H' S'→Ext S S'→LxQ K S' r→F (ak s) H' K)(hP:ScP K S (Bj r)):SM R K (ak s) H:=by
 unfold SM;rw[q1];refine bZ (bF hM (λa ha=>by simp at ha;subst ha;rfl) λH1 m1=>?_);refine bZ (bF m1 (λa ha=>by simp at ha;subst ha;rfl) λH2 m2=>?_);refine bZ (bF m2 (λa ha=>by simp at ha;subst ha;rfl) λH3 m3=>?_);have e0:Int.ofNat 0=((0:Nat):Int):=rfl;have x3:ax cD S (((S.push (.ce [.ab] 0)).push (.ce [.int 0 (.ofNat 0)] 0)).push (.ce [.int 0 (.ofNat 0)] 0)):=(((ax.refl _ S).push _).push _).push _;have o3:(((S.push (.ce [.ab] 0)).push (.ce [.int 0 (.ofNat 0)] 0)).push (.ce [.int 0 (.ofNat 0)] 0)).ob S.n=.ce [.ab] 0:=by
  rw[LS.bq _ _ (show S.n<S.n+1+1 by omega),LS.bq _ _ (show S.n<S.n+1 by omega)];exact LS.al _ _
 have d3:(((S.push (.ce [.ab] 0)).push (.ce [.int 0 (.ofNat 0)] 0)).push (.ce [.int 0 (.ofNat 0)] 0)).ob (S.n+1)=.ce [.int 0 (.ofNat 0)] 0:=by
  rw[LS.bq _ _ (show S.n+1<S.n+1+1 by omega)];exact LS.al _ _
 have t3:(((S.push (.ce [.ab] 0)).push (.ce [.int 0 (.ofNat 0)] 0)).push (.ce [.int 0 (.ofNat 0)] 0)).ob (S.n+1+1)=.ce [.int 0 (.ofNat 0)] 0:=LS.al _ _;have n3:(((S.push (.ce [.ab] 0)).push (.ce [.int 0 (.ofNat 0)] 0)).push (.ce [.int 0 (.ofNat 0)] 0)).n=S.n+3:=rfl;show F (ak s) H3 (λo7 H8=>cR K o7 H8 λv9=>dv v9 λl10=>cE l10 0 λv11=>dv v9 λl12=>cE l12 1 λv13=>cI 0 v13 λlL=>dv v9 λl15=>cE l15 2 λv16=>cI 0 v16 λz17=>bI (!(aV lL (.ofNat 0))) (ag 1 (.ptr S.n 0) .ab H8 λeB=>ag 1 (.ptr (S.n+1) 0) (.int 0 lL) eB λik=>ag 1 (.ptr (S.n+1+1) 0) (.int 0 z17) ik λgV=>C5 K (.ptr S.n 0) (.ptr (S.n+1) 0) (.ptr (S.n+1+1) 0) gV) (one v11 (dC (aA H8) [v11,(.int 0 (.ofNat 0)),(.int 0 (.ofNat 0)),(.int 0 (.ofNat 0))] λv24 mE=>cm mE (dC (aA mE) [.eH] λv26 ly=>ag 1 v26 v24 ly λHJ=>Ov R K (.ptr S.n 0) (.ptr (S.n+1) 0) (.ptr (S.n+1+1) 0) v26 HJ))));revert m3 x3 o3 d3 t3 n3;generalize ((S.push (.ce [.ab] 0)).push (.ce [.int 0 (.ofNat 0)] 0)).push (.ce [.int 0 (.ofNat 0)] 0)=S3;intro m3 x3 o3 d3 t3 n3;clear m1 m2;refine hF m3 x3.ext ?_;cases r with
 |inr e=>
  intro H4 S4 m4 x4;have x4:ax cD S3 S4:=x4.chg;simp only[aq,fF,fy,fM,az];rw[bD,decide_eq_false (by simp)];simp only[Bool.not_false,aG];refine SN rfl m4 (x4.ob m3 o3 λq=>q) (x4.ob m3 d3 λq=>q) (x4.ob m3 t3 λq=>q) (by omega) (by omega) (by omega) λH5 S5 m5 c5 o5 d5 t5=>?_;refine Gm m5 o5 d5 t5 ?_;exact hP H5 S5 m5 ((x3.trans x4).jv c5 λb hb=>.inr (by rcases hb with q|q|q<;>omega)).ext
 |inl ts=>
  intro H4 S4 v m4 x4 f4 b4;have x4:ax cD S3 S4:=x4.chg;have n4:=x4.1;simp only[aq,fF,fy,fM,az];rw[bD,e0,decide_eq_true (show(0:Int)=((0:Nat):Int)from rfl)];simp only[Bool.not_true,aw];refine gU f4.one' ?_;refine bF m4 (λa ha=>?_) λH5 m5=>?_
  ·simp only[List.mem_cons,List.not_mem_nil,or_false]at ha;rcases ha with rfl|rfl|rfl|rfl
   ·exact f4.one'
   all_goals rfl
  refine bZ (bF m5 (λa ha=>by simp at ha;subst ha;rfl) λH6 m6=>?_);refine aS (v:=.ptr S4.n 0) m6 (LS.al _ _) (by omega) (by show 0<1;omega) rfl λH7 m7=>?_;have m7:Mem H7 (((S4.push (.ce [v,.int 0 ((0:Nat):Int),.int 0 ((0:Nat):Int),.int 0 0] 0)).push (.ce [.eH] 0)).set (S4.n+1) (.ce [.ptr S4.n 0] 0)):=m7;have c7:ax cD S4 (((S4.push (.ce [v,.int 0 ((0:Nat):Int),.int 0 ((0:Nat):Int),.int 0 0] 0)).push (.ce [.eH] 0)).set (S4.n+1) (.ce [.ptr S4.n 0] 0)):=(((ax.refl _ S4).push _).push _).set (.inr (by omega)) _;have o7:LS.ob _ S4.n=.ce [v,.int 0 ((0:Nat):Int),.int 0 ((0:Nat):Int),.int 0 0] 0:=(LS.ao ((S4.push (.ce [v,.int 0 ((0:Nat):Int),.int 0 ((0:Nat):Int),.int 0 0] 0)).push (.ce [.eH] 0)) (.ce [.ptr S4.n 0] 0) (show S4.n≠S4.n+1 by omega)).trans ((LS.bq _ _ (show S4.n<S4.n+1 by omega)).trans (LS.al _ _));have b7:LS.ob _ (S4.n+1)=.ce [.ptr S4.n 0] 0:=LS.au ((S4.push (.ce [v,.int 0 ((0:Nat):Int),.int 0 ((0:Nat):Int),.int 0 0] 0)).push (.ce [.eH] 0)) (S4.n+1) (.ce [.ptr S4.n 0] 0);have n7:(((S4.push (.ce [v,.int 0 ((0:Nat):Int),.int 0 ((0:Nat):Int),.int 0 0] 0)).push (.ce [.eH] 0)).set (S4.n+1) (.ce [.ptr S4.n 0] 0)).n=S4.n+2:=rfl;revert m7 c7 o7 b7 n7;generalize ((S4.push (.ce [v,.int 0 ((0:Nat):Int),.int 0 ((0:Nat):Int),.int 0 0] 0)).push (.ce [.eH] 0)).set (S4.n+1) (.ce [.ptr S4.n 0] 0)=S7;intro m7 c7 o7 b7 n7;clear m5 m6;have hlen:=hr.few ts rfl;have aoE:∀b,aF v b→b<S4.n:=λb hb=>f4.lt m4 hb
  let C:Ctx:=⟨ts,S4.n,v,.iface 57 (.agg []),hr.I6,hr.b8 h8 ts rfl,by omega,λq=>by have:=aoE _ q;omega⟩
  have p7:bE C S7 0 0:=⟨o7,f4.keep m4 λb _ hb=>c7.2 b hb λq=>q,hr.I6.1⟩
  have k7:∀{b:Nat}{l:List AV},b<S.n+3→S3.ob b=.ce l 0→S7.ob b=.ce l 0:=λhb h=>(c7.2 _ (by omega) λq=>q).trans (x4.ob m3 h λq=>q);show Ov R K (.ptr S.n 0) (.ptr (S.n+1) 0) (.ptr (S.n+1+1) 0) (.ptr (S4.n+1) 0) H7;unfold Ov;refine aj m7 b7 (v:=.ptr S4.n 0) rfl ?_;have cQ:G.NL=1000000:=rfl;have e24:f24=(s13 G.NL).1:=by unfold f24;rfl
  rw[q3,e24];clear e24;generalize G.NL=iC at cQ ⊢;refine(okP (C:=C) rfl (64*ts.length+64) iC (by omega) (by omega)).block (64*ts.length+64) (Nat.le_refl _) (by omega) m7 p7 ?_;have hsc:Bj (.inl ts)=(match lV ts with|.ok b _=>.inl b|.err c i=>.inr (c,aZ ts i)|.dZ=>.inl []):=rfl;have hne:=afh hr.I6;have x7:ax cD S S7:=(x3.trans x4).trans c7;have ND:∀{S8:LS},ax (bJ C) S7 S8→∀{b:Nat}{l:List AV},b≠S4.n→b<S7.n→S7.ob b=.ce l 0→S8.ob b=.ce l 0:=by
   intro S8 c8 b l h1 h2 h;exact(c8.2 b h2 λq=>h1 q).trans h
  cases hb:fk ts (64*ts.length+64) 0 0 with
  |dZ=>unfold lV at hne;rw[hb]at hne;exact absurd rfl hne
  |err c i=>
   rw[hsc]at hP;unfold lV at hP;rw[hb]at hP;have hP:∀H' S',Mem H' S'→Ext S S'→K (.ret (.aE [.ab,.int 0 (c:Int),.int 0 (aZ ts i:Int)])) H':=hP;intro H8 S8 m8 c8 p8;rw[dt];refine al5 (C:=C) q2 rfl m8 p8 (ND c8 (by omega) (by omega) (k7 (by omega) o3)) (ND c8 (by omega) (by omega) (k7 (by omega) d3)) (ND c8 (by omega) (by omega) (k7 (by omega) t3)) (ND c8 (by omega) (by omega) b7) (by omega) (by omega) (by omega) λH9 S9 m9 c9=>?_;exact hP H9 S9 m9 ((x7.jv c8 λb hb=>.inr (by have hb:b=S4.n:=hb;omega)).jv c9 λb hb=>.inr (by rcases hb with q|q|q<;>omega)).ext
  |ok b j=>
   have hjl:=afi hr.I6 b j hb;rw[hsc]at hP;unfold lV at hP;rw[hb]at hP;intro H8 S8 w m8 c8 p8 rv8;rw[aq];have x8:ax cD S S8:=x7.jv c8 λb hb=>.inr (by have hb:b=S4.n:=hb;omega);have n8:=c8.1;have awA:w.one=true:=rv8.choose_spec.1.one;refine aS (v:=w) m8 (ND c8 (by omega) (by omega) (k7 (by omega) o3)) (by omega) (by show 0<1;omega) awA λH9 m9=>?_;have m9:Mem H9 (S8.set S.n (.ce [w] 0)):=m9;have p9:bE C (S8.set S.n (.ce [w] 0)) j 0:=p8.keep m8 (X:=λb=>b=S.n) ⟨Nat.le_refl _,λb _ hb=>LS.ao _ _ hb⟩ (λq=>by have q:S4.n=S.n:=q;omega) λb hb q=>by
    have q:b=S.n:=q;have:=b4 b hb;omega
   have o9:=LS.au S8 S.n (.ce [w] 0);have d9:(S8.set S.n (.ce [w] 0)).ob (S.n+1)=.ce [.int 0 (.ofNat 0)] 0:=(LS.ao _ _ (by omega)).trans (ND c8 (by omega) (by omega) (k7 (by omega) d3));have t9:(S8.set S.n (.ce [w] 0)).ob (S.n+1+1)=.ce [.int 0 (.ofNat 0)] 0:=(LS.ao _ _ (by omega)).trans (ND c8 (by omega) (by omega) (k7 (by omega) t3));have bb9:(S8.set S.n (.ce [w] 0)).ob (S4.n+1)=.ce [.ptr S4.n 0] 0:=(LS.ao _ _ (by omega)).trans (ND c8 (by omega) (by omega) b7);have x9:ax cD S (S8.set S.n (.ce [w] 0)):=x8.set (.inr (Nat.le_refl _)) _;have rv9:lz (S8.set S.n (.ce [w] 0)) (gE S7.n S8.n) w b:=rv8.go (λb hb=>LS.ao _ _ (by have:=hb.1;omega)) λ_ h=>h;have n9:(S8.set S.n (.ce [w] 0)).n=S8.n:=rfl;revert m9 p9 o9 d9 t9 bb9 x9 rv9 n9;generalize S8.set S.n (.ce [w] 0)=S9;intro m9 p9 o9 d9 t9 bb9 x9 rv9 n9;clear m8 p8;refine aj m9 bb9 (v:=.ptr S4.n 0) rfl ?_;rw[q2];refine jw (C:=C) m9 p9 λbo S10 m10 c10 p10=>?_;rw[aq,Dp];unfold fa;simp only[fy,fM,az];have k10:∀{b:Nat}{l:List AV},S9.ob b=.ce l 0→S10.ob b=.ce l 0:=λh=>c10.ob m9 h λq=>q;have x10:=x9.trans c10;have n10:=c10.1;rw[bD,e0];by_cases hk:cg ts j=0
   ·rw[decide_eq_true (by show((cg ts j:Nat):Int)=_;rw[hk])];simp only[Bool.not_true,aw];have hP:ScP K S (match (if cg ts j=0 then cG.ok b j else .err 14 j)with|.ok b _=>.inl b|.err c i=>.inr (c,aZ ts i)|.dZ=>.inl []):=hP;rw[if_pos hk]at hP;refine aj m10 (k10 o9) (v:=w) rfl ?_;refine SN awA m10 (k10 o9) (k10 d9) (k10 t9) (by omega) (by omega) (by omega) λdq S11 m11 c11 qY d11 t11=>?_;refine awz m11 qY d11 t11 λcU S12 m12 c12=>?_;have n11:=c11.1;refine hP cU S12 w m12 ((x10.jv c11 λb hb=>.inr (by rcases hb with q|q|q<;>omega)).trans c12).ext ?_;refine rv9.go (λb hb=>?_) λb hb=>?_
    ·have h1:=hb.1;have h2:=hb.2;have hn:b<S9.n:=by omega
     exact(c12.2 b (by omega) λq=>q).trans ((c11.2 b (by omega) λq=>by rcases q with q|q|q<;>omega).trans (c10.2 b hn λq=>q))
    ·have h1:=hb.1;have h2:=hb.2;have:=c12.1;exact⟨by omega,by omega⟩
   ·rw[decide_eq_false (by show ¬((cg ts j:Nat):Int)=_;omega)];simp only[Bool.not_false,aG];have hP:ScP K S (match (if cg ts j=0 then cG.ok b j else .err 14 j)with|.ok b _=>.inl b|.err c i=>.inr (c,aZ ts i)|.dZ=>.inl []):=hP;rw[if_neg hk]at hP;refine aj m10 (k10 bb9) (v:=.ptr S4.n 0) rfl ?_;have e14:Int.ofNat 14=((14:Nat):Int):=rfl;rw[e14];rw[q4];refine pK (C:=C) (c:=14) rfl m10 p10 λdq S11 m11 c11 e11=>?_;rw[dt];have k11:∀{b:Nat}{l:List AV},b≠S4.n→S9.ob b=.ce l 0→S11.ob b=.ce l 0:=λhb h=>c11.ob m10 (k10 h) λq=>hb q;refine al5 (C:=C) q2 rfl m11 e11 (k11 (by omega) o9) (k11 (by omega) d9) (k11 (by omega) t9) (k11 (by omega) bb9) (by omega) (by omega) (by omega) λcU S12 m12 c12=>?_;exact hP cU S12 m12 ((x10.jv c11 λb hb=>.inr (by have hb:b=S4.n:=hb;omega)).jv c12 λb hb=>.inr (by rcases hb with q|q|q<;>omega)).ext
end
end Go.Proofs.YtcedghechlgecaaGreatDoor
