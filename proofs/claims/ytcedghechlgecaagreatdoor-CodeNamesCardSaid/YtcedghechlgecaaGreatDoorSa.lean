/- Check of scripts gives what the spec says. No condition: definitions and lemmas. -/
import Derived.Test.YtcedghechlgecaaGreatDoorQa
set_option maxRecDepth 100000
set_option maxHeartbeats 0
set_option linter.unusedVariables false
set_option linter.unusedSimpArgs false
namespace Go.X
section
variable {S S':LS}{H:AH}
def ltX(S:LS):Nat→Prop:=λx=>x<S.n
theorem bW.at_{Q:Nat→Prop}{sz n:Nat}{v:AV}{cl:Nat→List AV}{i q:Nat}{k:AV→Prop}(h:bW S Q sz v n cl)(hi:i<n)(hk:∀b o cs m,Q b→S.ob b=.ce cs m→o+sz≤cs.length→(cs.drop o).take sz=cl i→k (.ptr b o)):cw sz v (.int q i) k:=by
 rcases h with⟨rfl,rfl⟩|⟨b,o,c,ex,cs,m,rfl,h1,h3,h4,h5,h6⟩
 ·omega
 ·refine qW (by omega) (by omega) ?_;rw[Int.toNat_natCast];have hle:(i+1)*sz≤n*sz:=Nat.mul_le_mul_right _ (by omega);rw[Nat.add_mul,Nat.one_mul]at hle;exact hk b _ cs m h1 h3 (by omega) (h6 i hi)
theorem bW.E0{Q:Nat→Prop}{n:Nat}{v:AV}{f:Nat→AV}{i q:Nat}{k:AV→Prop}(h:bW S Q 1 v n (λi=>[f i]))(hM:Mem H S)(hi:i<n)(hk:k (f i)):cw 1 v (.int q i) λp=>af p H k:=by
 refine h.at_ hi λb o cs m _ h3 h4 h5=>aj hM h3 ?_ hk;have:((cs.drop o).take 1)[0]? = [f i][0]?:=by rw[h5]
 rw[List.getElem?_take,if_pos (by omega),List.getElem?_drop,Nat.add_zero]at this;exact this
def BsR(S:LS)(Q:Nat→Prop)(v:AV)(bs:List (List aP)):Prop:=∃bv:Nat→AV,bW S Q 1 v bs.length (λi=>[bv i])∧∀(i:Nat) (b:List aP),bs[i]? = some b→lz S Q (bv i) b
def FsR(S:LS)(Q:Nat→Prop)(v:AV)(f:List gr):Prop:=∃cf:Nat→List AV,bW S Q 2 v f.length cf∧∀(i:Nat) (g:gr),f[i]? = some g→RF S Q (cf i) g
theorem fT.out{Q:Nat→Prop}{c:List AV}{kind at_:Nat}{names:List (List Nat)}{l:List aO}{bs:List (List aP)}(h:fT S Q c (.mk kind at_ names l bs)):∃vn vl vb,c=[.int 0 kind,.int 0 at_,vn,vl,vb]∧iZ S Q vn names∧xB S Q vl l∧BsR S Q vb bs:=by
 cases h with
 |mk _ _ _ _ _ vn vl vb cl bv bc g1 g2 g3 g4 g5 g6=>exact⟨vn,vl,vb,rfl,g1,⟨cl,g2,g3⟩,⟨bv,g4,λi b hb=>⟨bc i,g5 i b hb,λj s hs=>g6 i b j s hb hs⟩⟩⟩
theorem RE.out{Q:Nat→Prop}{c:List AV}{kind at_ n op:Nat}{s:List Nat}{l:List aO}{f:List gr}(h:RE S Q c (.mk kind at_ n s op l f)):∃vl vf,c=[.int 0 kind,.int 0 at_,.int 0 n,ak s,.int 0 op,vl,vf]∧B8 s∧xB S Q vl l∧FsR S Q vf f:=by
 cases h with
 |mk _ _ _ _ _ _ _ vl vf cl cf g1 g2 g3 g4 g5=>exact⟨vl,vf,rfl,g1,⟨cl,g2,g3⟩,⟨cf,g4,g5⟩⟩
theorem RF.out{Q:Nat→Prop}{c:List AV}{ps:List (List Nat)}{body:List aP}(h:RF S Q c (.mk ps body)):∃vp vb,c=[vp,vb]∧iZ S Q vp ps∧lz S Q vb body:=by
 cases h with
 |mk _ _ vp vb cb g1 g2 g3=>exact⟨vp,vb,rfl,g1,⟨cb,g2,g3⟩⟩
theorem aO.rH(e:aO):1≤e.sz:=by cases e;simp only[aO.sz];omega
theorem aP.rH(e:aP):1≤e.sz:=by cases e;simp only[aP.sz];omega
theorem gr.rH(e:gr):1≤e.sz:=by cases e;simp only[gr.sz];omega
theorem qe:∀{l:List aO}{i:Nat}{e:aO},l[i]? = some e→e.sz≤iG l
 |[],i,e,h=>by simp at h
 |a::l,0,e,h=>by simp at h;subst h;simp only[iG];omega
 |a::l,i+1,e,h=>by have:=qe (l:=l) (i:=i) (e:=e) (by simpa using h);simp only[iG];omega
theorem SO:∀{l:List aP}{i:Nat}{e:aP},l[i]? = some e→e.sz≤dW l
 |[],i,e,h=>by simp at h
 |a::l,0,e,h=>by simp at h;subst h;simp only[dW];omega
 |a::l,i+1,e,h=>by have:=SO (l:=l) (i:=i) (e:=e) (by simpa using h);simp only[dW];omega
theorem Gn:∀{l:List gr}{i:Nat}{e:gr},l[i]? = some e→e.sz≤xC l
 |[],i,e,h=>by simp at h
 |a::l,0,e,h=>by simp at h;subst h;simp only[xC];omega
 |a::l,i+1,e,h=>by have:=Gn (l:=l) (i:=i) (e:=e) (by simpa using h);simp only[xC];omega
theorem xF:∀{l:List (List aP)}{i:Nat}{e:List aP},l[i]? = some e→1+dW e≤qd l
 |[],i,e,h=>by simp at h
 |a::l,0,e,h=>by simp at h;subst h;simp only[qd];omega
 |a::l,i+1,e,h=>by have:=xF (l:=l) (i:=i) (e:=e) (by simpa using h);simp only[qd];omega
theorem xG:∀l:List aO,l.length≤iG l
 |[]=>Nat.le_refl _
 |a::l=>by have:=xG l;have:=a.rH;simp only[iG,List.length_cons];omega
theorem SP:∀l:List aP,l.length≤dW l
 |[]=>Nat.le_refl _
 |a::l=>by have:=SP l;have:=a.rH;simp only[dW,List.length_cons];omega
theorem SQ:∀l:List gr,l.length≤xC l
 |[]=>Nat.le_refl _
 |a::l=>by have:=SQ l;have:=a.rH;simp only[xC,List.length_cons];omega
theorem Bl:∀l:List (List aP),l.length≤qd l
 |[]=>Nat.le_refl _
 |a::l=>by have:=Bl l;simp only[qd,List.length_cons];omega
end
section
variable {S S':LS}{H:AH}
end
section
variable {S S':LS}{H:AH}
end
section
variable {S S':LS}{H:AH}
theorem NF{α:Type}{l:List α}{i:Nat}{a:α}(h:l[i]? = some a):l.take (i+1)=l.take i++[a]:=by
 rw[List.take_add_one,h];rfl
end
section
variable {S:LS}{H:AH}
theorem ayg{sz b o n c i j:Nat}{ex:Bool}{lo hi:Option AV}{k:AV→Prop}(hij:i≤j)(hj:j≤c)(hlo:lo=some (.int 0 i)∨lo=none∧i=0)(hhi:hi=some (.int 0 j)∨hi=none∧j=n)(hk:k (.slice b (o+i*sz) (j-i) (c-i) sz ex)):kU sz (.slice b o n c sz ex) lo hi none k:=by
 have go:bT (Nat.ble i j) (bT (Nat.ble j c) (bT (Nat.ble c c) (bj (Nat.add o (Nat.mul i sz)) λo'=>bj (Nat.sub j i) λn=>bj (Nat.sub c i) λc'=>k (.slice b o' n c' sz (ex||Option.isSome (none:Option AV)))))):=by
  refine bA (Nat.ble_eq_true_of_le hij) (bA (Nat.ble_eq_true_of_le hj) (bA (Nat.ble_eq_true_of_le (Nat.le_refl _)) ?_));simp only[aY,Option.isSome_none,Bool.or_false];exact hk
 rcases hlo with rfl|⟨rfl,rfl⟩<;>rcases hhi with rfl|⟨rfl,rfl⟩<;>(show bT (Nat.beq sz sz) _;exact bA (Nat.beq_refl _) go)
end
section
variable {H:AH}{S S':LS}
theorem Ja{Q:Nat→Prop}{v:AV}{l:List (List Nat)}(h:iZ S Q v l):mC S Q v (l.map ak):=by
 obtain⟨h1,_⟩:=h;rcases h1 with⟨rfl,e0⟩|⟨b,o,c,ex,cs,m,rfl,q1,q2,q3,q4,q5⟩
 ·exact .inl ⟨rfl,by rw[List.length_eq_zero_iff.1 e0];rfl⟩
 ·refine .inr ⟨b,o,c,ex,cs,m,by rw[List.length_map],by rw[List.length_map];exact q3,q1,q2,by rw[List.length_map];omega,?_⟩;refine List.ext_getElem? λi=>?_;rw[List.length_map,List.getElem?_take,List.getElem?_map];by_cases hi:i<l.length
  ·rw[if_pos hi,List.getElem?_drop,List.getElem?_eq_getElem hi];have g:=q5 i hi;have g0:((cs.drop (o+i*1)).take 1)[0]? = [ak (l[i]?.getD [])][0]?:=by rw[g]
   rw[List.getElem?_take,if_pos (by omega),List.getElem?_drop,Nat.add_zero,Nat.mul_one,List.getElem?_eq_getElem hi]at g0;exact g0
  ·rw[if_neg hi,List.getElem?_eq_none (by omega)];rfl
section
variable {lo b:Nat}{vn vo:AV}{ns out:List (List Nat)}
theorem ij.one{v:AV}{l:List AV}(h:ij S v l):v.one=true:=by
 rcases h with⟨rfl,_⟩|⟨b,c,ex,cs,rfl,_⟩<;>rfl
end
end
end Go.X
namespace Go.Proofs.YtcedghechlgecaaGreatDoor
open Go Go.X Go.Proofs.YtcedghechlgecaaGreatDoor.G
section
variable {H:AH}{S:LS}{K:KF}
theorem az1{Q:Nat→Prop}{v:AV}{l:List (List Nat)}{s:List Nat}(hM:Mem H S)(hr:mC S Q v (l.map ak))(hl8:∀t∈l,B8 t)(h8:B8 s)(hl:l.length≤900000)
  (hK:∀z:Int,(0≤z↔s∈l)→K (.ret (.int 0 z)) H):f121 v (ak s) H K:=by
 have loop:∀(q i:Nat),i≤l.length→l.length-i<q→(∀j t,j<i→l[j]? = some t→t≠s)→lO gq K q v (ak s) (l.length:Int) (i:Int) H:=by
  intro q
  induction q with
  |zero=>intro i _ h;omega
  |succ q ih=>
   intro i hi hq hno;show qx gq K (lO gq K q) (sr gq K) v (ak s) (l.length:Int) (i:Int) H;unfold qx sr;rw[bz];refine bY (λg=>?_) (λg=>?_)
   ·have hil:i<l.length:=by omega
    have ht:=List.getElem?_eq_getElem hil;refine hr.load hM (a:=ak l[i]) (by rw[List.getElem?_map,ht];rfl) ?_;refine A5 h8 (hl8 _ (List.getElem_mem _)) ?_;rw[aX];by_cases e:s=l[i]
    ·rw[decide_eq_true e,aG];exact hK i ⟨λ_=>by rw[e];exact List.getElem_mem _,λ_=>by omega⟩
    ·rw[decide_eq_false e,aw];simp only[eo,fN];refine w0 (by omega) (by omega) ?_;refine ih (i+1) (by omega) (by omega) λj t hj hjt=>?_;rcases Nat.lt_or_ge j i with g1|g1
     ·exact hno j t g1 hjt
     ·have e1:j=i:=by omega
      subst e1;rw[ht]at hjt;cases hjt;exact λq=>e q.symm
   ·refine hK _ ⟨λh=>absurd h (by decide),λh=>?_⟩;obtain⟨j,hj⟩:=List.mem_iff_getElem?.1 h;have:=(List.getElem?_eq_some_iff.1 hj).1;exact absurd rfl (hno j s (by omega) hj)
 show qy gq K (lO gq K G.NL) v (ak s) H;unfold qy;have cQ:G.NL=1000000:=rfl;generalize G.NL=iC at cQ ⊢;refine hr.len ?_;rw[az,List.length_map];exact loop iC 0 (Nat.zero_le _) (by omega) λj t h=>by omega
theorem az2{Q:Nat→Prop}{v:AV}{l:List (List Nat)}{s:List Nat}(hM:Mem H S)(hr:mC S Q v (l.map ak))(hl8:∀t∈l,B8 t)(h8:B8 s)(hl:l.length≤900000)
  (hK:K (.ret (.bool (decide (s∈l)))) H):f89 v (ak s) H K:=by
 show zH Cz K v (ak s) H;unfold zH;refine az1 hM hr hl8 h8 hl λz hz=>?_;rw[aq,az,bz];have e:(!decide (z<Int.ofNat 0))=decide (s∈l):=by
  by_cases g:s∈l
  ·have:=hz.2 g;rw[decide_eq_true g,decide_eq_false (by show ¬z<0;omega)];rfl
  ·have:¬0≤z:=λq=>g (hz.1 q);rw[decide_eq_false g,decide_eq_true (by show z<0;omega)];rfl
 rw[e];exact hK
end
end Go.Proofs.YtcedghechlgecaaGreatDoor
namespace Go.X
def afo(c:Bt AV):Nat→List AV→Prop
 |_,[]=>True
 |i,a::l=>c.fH i λv=>bT (aH v a) (afo c (Nat.succ i) l)
def Jb(z:List AV)(o:kl)(H:AH):Prop:=
 match o with
 |.ret (.slice b o' n m sz ex)=>bT (Nat.beq o' 0) (bT (Nat.beq n z.length) (bT (Nat.beq m z.length) (bT (Nat.beq sz 1) (bT ex (H.t.fH b λob=>match ob with|.cells c q md=>bT (Nat.beq q z.length) (bT (Nat.beq md 0) (afo c 0 z))|_=>False)))))
 |_=>False
theorem NG{c:Bt AV}(hs:∀a b,aH a b=true→(∃n x,b=.str n x)→a=b):∀{l:List AV}{i:Nat},(∀a∈l,∃n x,a=.str n x)→afo c i l→∀j,j<l.length→c.get? (i+j)=l[j]?
 |[],i,_,_,j,hj=>by simp at hj
 |a::l,i,hl,h,j,hj=>by
  obtain⟨v,h1,h2⟩:=Bt.dx _ _ _ h;obtain⟨h3,h4⟩:=aD h2;cases j with
  |zero=>rw[Nat.add_zero,h1];exact congrArg some (hs v a h3 (hl a (by simp)))
  |succ j=>
   have:=NG hs (λx hx=>hl x (by simp[hx])) h4 j (by simpa using hj);rw[show i+(j+1)=Nat.succ i+j by omega];simpa using this
theorem al6{a b:AV}(h:aH a b=true)(hb:∃n x,b=.str n x):a=b:=by
 obtain⟨n,x,rfl⟩:=hb;cases a<;>simp only[aH,Bool.and_eq_true]at h<;>try cases h
 rename_i h1 h2;rw[Nat.eq_of_beq_eq_true h1,Nat.eq_of_beq_eq_true h2]
theorem Jc{z:List AV}{o:kl}{H:AH}(hz:∀a∈z,∃n x,a=.str n x)(h:Jb z o H):∃b c,o=.ret (.slice b 0 z.length z.length 1 true)∧H.at b=.cells c z.length 0∧∀i:Nat,i<z.length→c.get? i=z[i]?:=by
 unfold Jb at h;split at h
 ·rename_i b o' n m sz ex;obtain⟨h1,h⟩:=aD h;obtain⟨h2,h⟩:=aD h;obtain⟨h3,h⟩:=aD h;obtain⟨h4,h⟩:=aD h;obtain⟨h5,h⟩:=aD h;obtain⟨ob,g1,h⟩:=Bt.dx _ _ _ h;cases ob with
  |cells c q md=>
   obtain⟨h6,hq⟩:=aD h;obtain⟨h7,hC⟩:=aD hq;have e1:=Nat.eq_of_beq_eq_true h1;have e2:=Nat.eq_of_beq_eq_true h2;have e3:=Nat.eq_of_beq_eq_true h3;have e4:=Nat.eq_of_beq_eq_true h4;have e6:=Nat.eq_of_beq_eq_true h6;have e7:=Nat.eq_of_beq_eq_true h7;subst e1;subst e2;subst e3;subst e4;subst h5;refine⟨b,c,rfl,?_,λi hi=>?_⟩
   ·unfold AH.at
    rw[g1,e6,e7]
    try rfl
   ·have:=NG (λ_ _=>al6) hz hC i hi;rw[Nat.zero_add]at this;exact this
  |map=>exact h.elim
  |iter=>exact h.elim
  |dead=>exact h.elim
 ·exact h.elim
theorem of_run{p:Prop}(h:p=True):p:=by rw[h];trivial
theorem an.weaken{P:Program}{g:Nat}{F F':bQ}(h:an P g F)(hw:∀l H K,F' l H K→F l H K):an P g F':=λhb l H K hf=>h hb l H K (hw l H K hf)
theorem Uw:∀t∈builtins,B8 t:=by
 intro t ht;simp only[builtins,List.mem_cons,List.not_mem_nil,or_false]at ht;rcases ht with rfl|rfl|rfl|rfl|rfl|rfl|rfl|rfl|rfl|rfl|rfl|rfl|rfl|rfl|rfl|rfl|rfl|rfl|rfl|rfl|rfl|rfl<;>exact bg (by decide)
end Go.X
namespace Go.Proofs.YtcedghechlgecaaGreatDoor
open Go Go.X Go.Proofs.YtcedghechlgecaaGreatDoor.G
section
variable {H:AH}{S:LS}{K:KF}
def spc:List Int:=(List.range 256).map λi=>if Nat.beq i 32||(Nat.ble 9 i&&Nat.ble i 13) then 1 else 0
def tb0:List AV:=spc.map λz=>AV.int 1 z
def gl:List (Option (List AV)):=[some tb0,none,none,none,none,none,none,none,none]
def lW:List AV:=[(.str 4 1701869940),(.str 5 491496043109),(.str 5 465674789744),(.str 6 111550524650083),(.str 6 111520796337522),(.str 5 431315315065),(.str 6 126948300911731),(.str 8 7453010373645660020),(.str 5 500068609908),(.str 3 6452595),(.str 4 1702132066),(.str 4 1918986339),(.str 3 7366002),(.str 5 491328139381),(.str 5 491328597868),(.str 7 28555907813500274),(.str 4 1684957542),(.str 6 128034677157481),(.str 6 111559349986674),(.str 4 1937335659),(.str 4 1852403562),(.str 4 1819042147)]
def SR:AV:=.str 130 4989745452750927712642869024936041018982183869112399744596646328559347698139019358746423479417311085373974869505494574274628988303325946808601483887101106809989390966068797068531459062952690525578417336589675308608346298249300317674214036809461764501959304432550546839486516338336139505618763273980857346390260084
theorem Bm:PK gl ⟨.e,0⟩ (λH0=>ai [.a] f90 [SR] H0 (Jb lW))=True:=by kernel_rfl
theorem xH:lW=builtins.map ak:=by kernel_rfl
theorem wj:∀a∈lW,∃n x,a=.str n x:=by
 rw[xH];intro a ha;obtain⟨t,_,rfl⟩:=List.mem_map.1 ha;exact⟨_,_,rfl⟩
theorem Gp:∀z,some z∈gl→∀a∈z,yd a=true:=by
 intro z hz a ha;simp only[gl,List.mem_cons,Option.some.injEq,reduceCtorEq,List.not_mem_nil,or_false]at hz;subst hz;obtain⟨x,_,rfl⟩:=List.mem_map.1 ha;rfl
noncomputable def Bn:AV→AH→KF→Prop:=λa H K=>a=SR∧∃S,Mem H S∧gB gl S∧∀H',Mem H' (S.push (.ce lW 0))→K (.ret (.slice S.n 0 lW.length lW.length 1 true)) H'
theorem MG:an Tryz.prog 90 (ai [.a] Bn):=by
 have h:=an.No (gl:=gl) (by kernel_rfl) Gp aiH (args:=[SR]) (λa ha=>by simp only[List.mem_singleton]at ha;subst ha;rfl) (z:=lW) (λa ha=>by obtain⟨n,x,rfl⟩:=wj a ha;rfl)
  (λo H' hk=>Jc wj hk) (Cb (of_run Bm))
 refine h.weaken λl H K hf=>?_;cases l with
 |nil=>exact hf.elim
 |cons a l=>cases l with
  |nil=>
   have hf':Bn a H K:=hf;obtain⟨rfl,hS⟩:=hf';exact⟨rfl,hS⟩
  |cons b l=>exact hf.elim
noncomputable def R10:tW:=(f89,Bn)
noncomputable def Gq:AV→AH→KF→Prop:=aj5 R10
theorem atD:an Tryz.prog 187 (ai [.a] Gq):=anU R10 (ad.cons ahZ (ad.cons MG ad.nil))
theorem az3{s:List Nat}(hM:Mem H S)(hT:gB gl S)(h8:B8 s)(hK:∀H' S',Mem H' S'→Ext S S'→K (.ret (.bool (decide (s∈builtins)))) H'):Gq (ak s) H K:=by
 show Eb R10 K (ak s) H;unfold Eb;have ra:R10.1=f89:=rfl;have rb:R10.2=Bn:=rfl;rw[ra,rb];refine⟨rfl,S,hM,hT,λH1 m1=>?_⟩;simp only[aq];have x1:Ext S (S.push (.ce lW 0)):=Ext.push _ _;have r1:mC (S.push (.ce lW 0)) (λ_=>True) (.slice S.n 0 lW.length lW.length 1 true) (builtins.map ak):=.inr ⟨S.n,0,lW.length,true,lW,0,by rw[←xH],by rw[←xH];exact Nat.le_refl _,trivial,LS.al _ _,by rw[←xH];omega,by rw[←xH,List.drop_zero];exact List.take_of_length_le (Nat.le_refl _)⟩;refine az2 m1 r1 Uw h8 (by decide) ?_;rw[aq,aX];exact hK H1 _ m1 x1
end
end Go.Proofs.YtcedghechlgecaaGreatDoor
namespace Go.X
theorem NH:∀(l:List aP) (i:Nat),dW (l.take i)≤dW l
 |[],i=>by simp[dW]
 |a::l,0=>by simp[dW]
 |a::l,i+1=>by have:=NH l i;simp only[List.take_succ_cons,dW];omega
theorem aoG{l:List aP}{i:Nat}{e:aP}(h:l[i]? = some e):dW (l.take (i+1))=dW (l.take i)+e.sz:=by
 rw[List.take_add_one,h,Gh];simp[dW]
section
variable {H:AH}{S S':LS}
def dQ(lo:Nat):Nat→Prop:=λx=>x<lo
section
variable {gl:List (Option (List AV))}{lo b:Nat}{vn vo vn' vo':AV}{ns out ns' out':List (List Nat)}{H':AH}
theorem atE(hT:gB gl S)(hg:gl.length≤lo)(hk:∀x,x<lo→S'.ob x=S.ob x):gB gl S':=λx z hz=>(hk x (Nat.lt_of_lt_of_le (List.getElem?_eq_some_iff.1 hz).1 hg)).trans (hT x z hz)
theorem Bo{v:AV}{l:List aO}(h:xB S (dQ lo) v l)(hk:∀x,x<lo→S'.ob x=S.ob x):xB S' (dQ lo) v l:=by
 obtain⟨cl,g1,g2⟩:=h;exact⟨cl,g1.go hk λ_ h=>h,λi e he=>(g2 i e he).go hk λ_ h=>h⟩
theorem SS{v:AV}{l:List aP}(h:lz S (dQ lo) v l)(hk:∀x,x<lo→S'.ob x=S.ob x):lz S' (dQ lo) v l:=by
 obtain⟨cl,g1,g2⟩:=h;exact⟨cl,g1.go hk λ_ h=>h,λi e he=>(g2 i e he).go hk λ_ h=>h⟩
theorem aoH{v:AV}{l:List gr}(h:FsR S (dQ lo) v l)(hk:∀x,x<lo→S'.ob x=S.ob x):FsR S' (dQ lo) v l:=by
 obtain⟨cl,g1,g2⟩:=h;exact⟨cl,g1.go hk λ_ h=>h,λi e he=>(g2 i e he).go hk λ_ h=>h⟩
theorem Bp{v:AV}{l:List (List aP)}(h:BsR S (dQ lo) v l)(hk:∀x,x<lo→S'.ob x=S.ob x):BsR S' (dQ lo) v l:=by
 obtain⟨cl,g1,g2⟩:=h;exact⟨cl,g1.go hk λ_ h=>h,λi e he=>SS (g2 i e he) hk⟩
theorem awB{v:AV}{l:List (List Nat)}(h:iZ S (dQ lo) v l)(hk:∀x,x<lo→S'.ob x=S.ob x):iZ S' (dQ lo) v l:=⟨h.1.go hk λ_ h=>h,h.2⟩
end
end
end Go.X
namespace Go.Proofs.YtcedghechlgecaaGreatDoor
open Go Go.X Go.Proofs.YtcedghechlgecaaGreatDoor.G
section
variable {H:AH}{S:LS}{K:KF}
theorem oM{n:Nat}{z c:List AV}{k:AV→AH→Prop}(hM:Mem H S)(hz:∀a∈z,a.one=true)(hzl:z.length=n)(hc:c.length=n)(ho:∀a∈c,a.one=true)
  (hk:∀H' S',Mem H' S'→Ext S S'→S'.ob S.n=.ce c 0→S'.n=S.n+1→k (.ptr S.n 0) H'):cm H (dC (aA H) z λv H4=>ag n v (.agg c) H4 λH5=>k v H5):=by
 refine bZ (bF hM hz λH1 m1=>?_);refine jc m1 (LS.al _ _) hzl hc ho λH2 m2=>?_;exact hk H2 _ m2 ((Ext.push S _).set (Nat.le_refl _) _) (LS.au _ _ _) rfl
def z2:List AV:=[.ab,.ab]
theorem awC:∀a∈z2,a.one=true:=by
 intro a ha;simp only[z2,List.mem_cons,List.not_mem_nil,or_false]at ha;rcases ha with rfl|rfl<;>rfl
end
end Go.Proofs.YtcedghechlgecaaGreatDoor
namespace Go.X
end Go.X
namespace Go.Proofs.YtcedghechlgecaaGreatDoor
open Go Go.X Go.Proofs.YtcedghechlgecaaGreatDoor.G
section
variable {H:AH}{S:LS}{K:KF}
section
variable {R:ax3}{n lo b x k a:Nat}{wn' wl' wb' v v3 vn vo:AV}{ns nm out:List (List Nat)}{l:List aO}{bs:List (List aP)}{z8:Int}{i3:AV→AV→AV→Int→Int→AH→Prop}{ii:Nat}
theorem nQ(hx:S.ob x=.ce [.int 0 (k:Int),.int 0 (a:Int),wn',wl',wb'] 0){j:Nat}{w:AV}{kk:AV→Prop}(hM:Mem H S)(hw:[.int 0 (k:Int),.int 0 (a:Int),wn',wl',wb'][j]? = some w)(hk:kk w):ah j (.ptr x 0) λp=>af p H kk:=by
 simp only[av,Nat.zero_add];exact aj hM hx hw hk
end
end
end Go.Proofs.YtcedghechlgecaaGreatDoor
namespace Go.X
section
mutual
def aO.wg:aO→Prop
 |.mk k _ _ _ _ l f=>(k=6→l=[]∧f=[])∧Gr l∧aoI f
def Gr:List aO→Prop
 |[]=>True
 |e::l=>e.wg∧Gr l
def gr.wg:gr→Prop
 |.mk _ b=>nR b
def aoI:List gr→Prop
 |[]=>True
 |e::l=>e.wg∧aoI l
def aP.wg:aP→Prop
 |.mk k _ ns l bs=>(k=5∨k=6∨k=7∨k=8→bs.length=1)∧(k=1∨k=12→ns.length=1)∧(k=2→l≠[])∧Gr l∧SU bs
def nR:List aP→Prop
 |[]=>True
 |e::l=>e.wg∧nR l
def SU:List (List aP)→Prop
 |[]=>True
 |e::l=>nR e∧SU l
end
theorem Bq:∀{l:List aO}{i:Nat}{e:aO},Gr l→l[i]? = some e→e.wg
 |[],_,_,_,h=>by simp at h
 |a::l,0,e,h,g=>by simp at g;subst g;exact h.1
 |a::l,i+1,e,h,g=>Bq (l:=l) h.2 (by simpa using g)
theorem SV:∀{l:List gr}{i:Nat}{e:gr},aoI l→l[i]? = some e→e.wg
 |[],_,_,_,h=>by simp at h
 |a::l,0,e,h,g=>by simp at g;subst g;exact h.1
 |a::l,i+1,e,h,g=>SV (l:=l) h.2 (by simpa using g)
theorem SW:∀{l:List aP}{i:Nat}{e:aP},nR l→l[i]? = some e→e.wg
 |[],_,_,_,h=>by simp at h
 |a::l,0,e,h,g=>by simp at g;subst g;exact h.1
 |a::l,i+1,e,h,g=>SW (l:=l) h.2 (by simpa using g)
theorem Br:∀{l:List (List aP)}{i:Nat}{e:List aP},SU l→l[i]? = some e→nR e
 |[],_,_,_,h=>by simp at h
 |a::l,0,e,h,g=>by simp at g;subst g;exact h.1
 |a::l,i+1,e,h,g=>Br (l:=l) h.2 (by simpa using g)
variable {T:List Tok}
end
abbrev Err:=Option (Nat×Nat)
def fl(a b:Err):Err:=match a with|some e=>some e|none=>b
theorem dk(b:Err):fl none b=b:=rfl
theorem pW(a:Err):fl a none=a:=by cases a<;>rfl
theorem NI(a b c:Err):fl (fl a b) c=fl a (fl b c):=by cases a<;>rfl
theorem xI{e:Nat×Nat}(b:Err):fl (some e) b=some e:=rfl
def cy{α:Type}(f:α→Err):List α→Err
 |[]=>none
 |a::l=>fl (f a) (cy f l)
theorem xJ{α:Type}(f:α→Err):∀a b:List α,cy f (a++b)=fl (cy f a) (cy f b)
 |[],b=>rfl
 |x::a,b=>by rw[List.cons_append,cy,cy,xJ f a b,NI]
def uD(L:List (List (List Nat)))(ns:List (List Nat))(s:List Nat):Bool:=decide (s∈L.flatten++ns)
def uK(ns names:List (List Nat))(a:Nat):Err:=if 150<ns.length+names.length then some (8,a) else none
def E1(L:List (List (List Nat)))(ns:List (List Nat)):aO→Err
 |.mk k a _ s _ _ _=>if k=6∧uD L ns s=false then some (14,a) else none
mutual
def kE:Nat→List (List (List Nat))→List (List Nat)→aO→Err
 |0,_,_,_=>none
 |n+1,L,ns,.mk k a _ s _ l f=>fl (if k=6∧uD L ns s=false∧s∉builtins then some (14,a) else none) (fl (cy (kE n L ns) l) (cy (kF n (L++[ns])) f))
def kF:Nat→List (List (List Nat))→gr→Err
 |0,_,_=>none
 |n+1,L,.mk ps b=>kB n L 0 ps b []
def kB:Nat→List (List (List Nat))→Nat→List (List Nat)→List aP→List aO→Err
 |0,_,_,_,_,_=>none
 |n+1,L,lp,ns,b,thn=>fl (b.foldl (kS n L lp) (ns,none)).2 (cy (kE n L (b.foldl (kS n L lp) (ns,none)).1) thn)
def kS:Nat→List (List (List Nat))→Nat→List (List Nat)×Err→aP→List (List Nat)×Err
 |0,_,_,r,_=>r
 |n+1,L,lp,r,.mk k a names l bs=>
  if k=1 then (r.1++names,fl r.2 (fl (uK r.1 names a) (cy (kE n L r.1) l)))
  else if k=12 then (r.1++names,fl r.2 (fl (uK r.1 names a) (cy (kE n L (r.1++names)) l)))
  else if k=2 then (r.1,fl r.2 (fl (cy (E1 L r.1) (l.take 1)) (cy (kE n L r.1) l)))
  else if k=8 then (r.1,fl r.2 (cy (λb=>kB n L (lp+1) r.1 b l) bs))
  else if k=5 then (r.1,fl r.2 (fl (cy (kE n L r.1) l) (cy (λb=>kB n L (lp+1) r.1 b []) bs)))
  else if k=6∨k=7 then (r.1,fl r.2 (fl (uK r.1 names a) (fl (cy (kE n L r.1) l) (cy (λb=>kB n L (lp+1) (r.1++names) b []) bs))))
  else if k=4 then (r.1,fl r.2 (cy (λi=>fl (cy (kE n L r.1) (l[i]?.toList)) (kB n L lp r.1 (bs[i]?.getD []) [])) (List.range bs.length)))
  else if k=9 then (r.1,fl r.2 (if lp=0 then some (14,a) else none))
  else (r.1,fl r.2 (fl (cy (kE n L r.1) l) (cy (λb=>kB n L lp r.1 b []) bs)))
end
section
variable {H:AH}{S S':LS}
def cC(n:Nat):AV:=.int 0 (n:Int)
def eC:Err→Nat
 |none=>0
 |some e=>e.1
def eA:Err→Nat
 |none=>0
 |some e=>e.2
section
end
end
end Go.X
namespace Go.Proofs.YtcedghechlgecaaGreatDoor
open Go Go.X Go.Proofs.YtcedghechlgecaaGreatDoor.G
section
variable {H:AH}{S:LS}{K:KF}
section
end
end
section
variable {H:AH}{S:LS}{K:KF}
theorem Gs{c:List AV}{k:AV→AH→Prop}(hM:Mem H S)(h1:∀a∈c,a.one=true)(hk:∀H' S',Mem H' S'→Ext S S'→S'.ob S.n=.ce c 0→S'.n=S.n+1→k (.ptr S.n 0) H'):kc (aA H) (.agg c) k:=
 qa hM h1 λH' m=>hk H' _ m (Ext.push _ _) (LS.al _ _) rfl
end
end Go.Proofs.YtcedghechlgecaaGreatDoor
namespace Go.X
section
variable {H:AH}{S S':LS}
theorem ayh(n:Nat)(L:List (List (List Nat)))(lp:Nat)(ns:List (List Nat))(er:Err)(s:aP):kS n L lp (ns,er) s=((kS n L lp (ns,none) s).1,fl er (kS n L lp (ns,none) s).2):=by
 cases n with
 |zero=>
  simp only[kS];rw[pW]
 |succ n=>
  obtain⟨k,a,names,l,bs⟩:=s;simp only[kS,dk]
  repeat' split
  all_goals rfl
theorem SX(n:Nat)(L:List (List (List Nat)))(lp:Nat):∀(b:List aP) (ns:List (List Nat)) (er:Err),b.foldl (kS n L lp) (ns,er)=((b.foldl (kS n L lp) (ns,none)).1,fl er (b.foldl (kS n L lp) (ns,none)).2)
 |[],ns,er=>by
  simp only[List.foldl_nil];rw[pW]
 |s::b,ns,er=>by
  simp only[List.foldl_cons];rw[ayh n L lp ns er];generalize kS n L lp (ns,none) s=r;obtain⟨m,e⟩:=r;rw[SX n L lp b m (fl er e),SX n L lp b m e];simp only[NI]
theorem awD(n:Nat)(L:List (List (List Nat)))(lp:Nat)(r:List (List Nat)×Err)(s:aP):∃x,(kS n L lp r s).1=r.1++x∧x.length≤s.sz:=by
 have nil:∃x:List (List Nat),r.1=r.1++x∧x.length≤s.sz:=⟨[],by simp,Nat.zero_le _⟩
 cases n with
 |zero=>exact nil
 |succ n=>
  obtain⟨k,a,names,l,bs⟩:=s;have one:∃x:List (List Nat),r.1++names=r.1++x∧x.length≤(aP.mk k a names l bs).sz:=⟨names,rfl,by simp only[aP.sz];omega⟩
  simp only[kS]
  repeat' split
  all_goals first|exact one|exact nil
theorem Yc(n:Nat)(L:List (List (List Nat)))(lp:Nat):∀(b:List aP) (r:List (List Nat)×Err),∃x,(b.foldl (kS n L lp) r).1=r.1++x∧x.length≤dW b
 |[],r=>⟨[],by simp,Nat.zero_le _⟩
 |s::b,r=>by
  obtain⟨x,e,h⟩:=awD n L lp r s;obtain⟨y,e2,h2⟩:=Yc n L lp b (kS n L lp r s);refine⟨x++y,?_,?_⟩
  ·rw[List.foldl_cons,e2,e,List.append_assoc]
  ·rw[List.length_append,dW];omega
section
end
end
end Go.X
namespace Go.Proofs.YtcedghechlgecaaGreatDoor
open Go Go.X Go.Proofs.YtcedghechlgecaaGreatDoor.G
section
variable {H:AH}{S:LS}{K:KF}
end
end Go.Proofs.YtcedghechlgecaaGreatDoor
namespace Go.X
section
variable {H:AH}{S S':LS}
theorem xB.part{Q:Nat→Prop}{v:AV}{a b:List aO}{lo hi:Option AV}{i j:Nat}{k:AV→Prop}(h:xB S Q v a)(hij:i≤j)(hj:j≤a.length)(hlo:lo=some (.int 0 (i:Int))∨lo=none∧i=0)(hhi:hi=some (.int 0 (j:Int))∨hi=none∧j=a.length)(hb:b=(a.drop i).take (j-i))
  (hk:∀v',xB S Q v' b→k v'):kU 7 v lo hi none k:=by
 obtain⟨cl,g1,g2⟩:=h;have hbl:b.length=j-i:=by rw[hb,List.length_take,List.length_drop];omega
 have hbg:∀n e,b[n]? = some e→a[i+n]? = some e:=λn e he=>by
  have hn:=(List.getElem?_eq_some_iff.1 he).1;rw[hb,List.getElem?_take,if_pos (by omega),List.getElem?_drop]at he;exact he
 rcases g1 with⟨rfl,e0⟩|⟨bk,o,c,ex,cs,m,rfl,q1,q2,q3,q4,q5⟩
 ·have ei:i=0:=by omega
  have ej:j=0:=by omega
  subst ei;subst ej;have:kU 7 .ab lo hi none k↔k .ab:=by
   rcases hlo with rfl|⟨rfl,_⟩<;>rcases hhi with rfl|⟨rfl,_⟩<;>exact Iff.rfl
  rw[this];exact hk _ ⟨λ_=>[],.inl ⟨rfl,by omega⟩,λn e he=>by
   have:=(List.getElem?_eq_some_iff.1 he).1;omega⟩
 ·have hle:i*7+(j-i)*7≤a.length*7:=by rw[←Nat.add_mul];exact Nat.mul_le_mul_right _ (by omega)
  refine ayg hij (by omega) hlo hhi (hk _ ⟨λn=>cl (i+n),.inr ⟨bk,o+i*7,c-i,ex,cs,m,by rw[hbl],q1,q2,by omega,by rw[hbl];omega,λn hn=>?_⟩,λn e he=>g2 _ e (hbg n e he)⟩);have:=q5 (i+n) (by omega);rw[Nat.add_mul,←Nat.add_assoc]at this;exact this
theorem lk{α:Type}(f:α→Err)(l:List α)(i:Nat){e:α}(h:l[i]? = some e):cy f (l.take (i+1))=fl (cy f (l.take i)) (f e):=by
 rw[NF h,xJ];show fl _ (fl (f e) none)=_;rw[pW]
theorem atF{α:Type}(f:α→Err)(e:α):cy f [e]=f e:=pW _
theorem Yd(f:Nat→Err)(i:Nat):cy f (List.range (i+1))=fl (cy f (List.range i)) (f i):=by
 rw[List.range_succ,xJ,atF]
end
end Go.X
namespace Go.Proofs.YtcedghechlgecaaGreatDoor
open Go Go.X Go.Proofs.YtcedghechlgecaaGreatDoor.G
section
variable {H:AH}{S:LS}{K:KF}
section
end
end
end Go.Proofs.YtcedghechlgecaaGreatDoor
namespace Go.X
def eg:List (List Nat):=[[75,69,89,83],[65,82,71,86]]
theorem aoJ:∀t∈eg,B8 t:=by
 intro t ht c hc;simp only[eg,List.mem_cons,List.not_mem_nil,or_false]at ht;rcases ht with rfl|rfl<;>simp only[List.mem_cons,List.not_mem_nil,or_false]at hc<;>omega
theorem aoK:[AV.str 4 1398359371,AV.str 4 1447514689]=eg.map ak:=by kernel_rfl
def Jd(n:Nat)(bd:List aP):Err:=kB n [] 0 eg bd []
theorem MH{S:LS}{l:List AV}{b:Nat}(h:S.ob b=.ce l 0)(h1:∀a∈l,a.one=true):ij S (.slice b 0 l.length l.length 1 true) l:=.inr ⟨b,l.length,true,l,rfl,h,rfl,Nat.le_refl _,by simp,h1⟩
end Go.X
namespace Go.Proofs.YtcedghechlgecaaGreatDoor
open Go Go.X Go.Proofs.YtcedghechlgecaaGreatDoor.G
section
variable {H:AH}{S:LS}{K:KF}
end
end Go.Proofs.YtcedghechlgecaaGreatDoor
namespace Go.X
section
variable {H:AH}{S S':LS}
structure bK where
 p:Nat
 v:AV
 ns:List (List Nat)
 l:Nat
def bK.own(d:bK)(x:Nat):Prop:=x=d.p∨aF d.v x
structure gm(lo b:Nat)(S:LS)(vL:AV)(lv:List bK):Prop where
 ob:S.ob b=.ce [vL] 0
 fL:ij S vL (lv.map λd=>AV.ptr d.p 0)
 lb:∀d∈lv,S.ob d.p=.ce [d.v,cC d.l] 0
 ln:∀d∈lv,ij S d.v (d.ns.map ak)
 n8:∀d∈lv,∀t∈d.ns,B8 t
 bL:¬aF vL b
 pv:∀d∈lv,¬aF d.v d.p
 ap:lv.Pairwise λd d'=>∀x,d.own x→¬d'.own x
 ob':∀d∈lv,∀x,d.own x→x≠b∧¬aF vL x
 lob:lo≤b
 loL:∀x,aF vL x→lo≤x
 lol:∀d∈lv,∀x,d.own x→lo≤x
end
end Go.X
namespace Go.Proofs.YtcedghechlgecaaGreatDoor
open Go Go.X Go.Proofs.YtcedghechlgecaaGreatDoor.G
section
variable {H:AH}{S:LS}{K:KF}
theorem hs62{lo b:Nat}{vL:AV}{lv:List bK}{s:List Nat}(hM:Mem H S)(h:gm lo b S vL lv)(h8:B8 s)(hl:lv.length≤900000)(hn:∀d∈lv,d.ns.length≤900000)(hK:K (.ret (.bool (decide (∃d∈lv,s∈d.ns)))) H):f138 (.ptr b 0) (ak s) H K:=by
 have cQ:G.NL=1000000:=rfl;have outer:∀(q i:Nat),i≤lv.length→lv.length-i<q→(∀j d,j<i→lv[j]? = some d→s∉d.ns)→oz iA K q (ak s) vL (lv.length:Int) (i:Int) H:=by
  intro q
  induction q with
  |zero=>intro i _ g;omega
  |succ q ih=>
   intro i hi hq hno;show D9 iA K (vF iA K (oz iA K q) G.NL) (D8 iA K) (ak s) vL (lv.length:Int) (i:Int) H;unfold D9;rw[bz];refine bY (λg=>?_) (λg=>?_)
   rotate_left
   ·unfold D8;rw[decide_eq_false (λhx=>by
     obtain⟨d,hd,hs⟩:=hx;obtain⟨j,hj⟩:=List.mem_iff_getElem?.1 hd;have:=(List.getElem?_eq_some_iff.1 hj).1;exact hno j d (by omega) hj hs)]at hK
    exact hK
   have hil:i<lv.length:=by omega
   obtain⟨d,hd⟩:∃d,lv[i]? = some d:=⟨_,List.getElem?_eq_getElem hil⟩
   have hdm:=List.mem_of_getElem? hd;have hnd:=hn d hdm;refine h.fL.load hM (a:=.ptr d.p 0) (by rw[List.getElem?_map,hd];rfl) ?_;simp only[aW,av,Nat.zero_add];refine aj hM (h.lb d hdm) (v:=d.v) rfl ?_;refine(h.ln d hdm).len ?_;rw[az,List.length_map];have inner:∀(q2 j:Nat),j≤d.ns.length→d.ns.length-j<q2→(∀m t,m<j→d.ns[m]? = some t→t≠s)→vF iA K (oz iA K q) q2 (ak s) vL (lv.length:Int) (i:Int) d.v (d.ns.length:Int) (j:Int) H:=by
    intro q2
    induction q2 with
    |zero=>intro j _ g;omega
    |succ q2 ih2=>
     intro j hj hq2 awE;show D7 iA K (vF iA K (oz iA K q) q2) (D6 iA K (oz iA K q)) (ak s) vL (lv.length:Int) (i:Int) d.v (d.ns.length:Int) (j:Int) H;unfold D7;rw[bz];refine bY (λg2=>?_) (λg2=>?_)
     ·have hjl:j<d.ns.length:=by omega
      obtain⟨t,ht⟩:∃t,d.ns[j]? = some t:=⟨_,List.getElem?_eq_getElem hjl⟩
      have htm:=List.mem_of_getElem? ht;refine(h.ln d hdm).load hM (a:=ak t) (by rw[List.getElem?_map,ht];rfl) ?_;refine A5 (h.n8 d hdm t htm) h8 ?_;rw[aX];by_cases e:t=s
      ·rw[decide_eq_true e,aG];rw[decide_eq_true ⟨d,hdm,e ▸ htm⟩]at hK;exact hK
      ·rw[decide_eq_false e,aw];rw[eo,fN];refine w0 (by omega) (by omega) ?_;refine ih2 (j+1) (by omega) (by omega) λm t' hm hmt=>?_;rcases Nat.lt_or_ge m j with g1|g1
       ·exact awE m t' g1 hmt
       ·have e1:m=j:=by omega
        subst e1;rw[ht]at hmt;cases hmt;exact e
     ·unfold D6;rw[eo,fN];refine w0 (by omega) (by omega) ?_;refine ih (i+1) (by omega) (by omega) λm d' hm hmd hs=>?_;rcases Nat.lt_or_ge m i with g1|g1
      ·exact hno m d' g1 hmd hs
      ·have e1:m=i:=by omega
       subst e1;rw[hd]at hmd;cases hmd;obtain⟨m2,hm2⟩:=List.mem_iff_getElem?.1 hs;have:=(List.getElem?_eq_some_iff.1 hm2).1;exact absurd rfl (awE m2 s (by omega) hm2)
   exact inner G.NL 0 (Nat.zero_le _) (by omega) λm t g=>by omega
 show Ea iA K (oz iA K G.NL) (.ptr b 0) (ak s) H;unfold Ea;simp only[aW,av,Nat.zero_add];refine aj hM h.ob (v:=vL) rfl ?_;refine h.fL.len ?_;rw[az,List.length_map];exact outer G.NL 0 (Nat.zero_le _) (by omega) λm t g=>by omega
end
end Go.Proofs.YtcedghechlgecaaGreatDoor
namespace Go.X
section
variable {H:AH}{S S' mn:LS}
def mZ(b:Nat)(vL:AV)(lv:List bK)(x:Nat):Prop:=x=b∨aF vL x∨∃d∈lv,d.own x
structure dL(b:Nat)(S S':LS)(vL:AV)(lv:List bK)(di:AV)(Fx:List bK):Prop where
 n:S.n≤S'.n
 ob:∀x,x<S.n→¬mZ b vL lv x→S'.ob x=S.ob x
 own:∀x,mZ b di Fx x→mZ b vL lv x∨S.n≤x
section
variable {lo b:Nat}{vL di awF:AV}{lv Fx awG:List bK}
theorem dL.refl:dL b S S vL lv vL lv:=⟨Nat.le_refl _,λ_ _ _=>rfl,λ_ h=>.inl h⟩
theorem dL.trans(h:dL b S S' vL lv di Fx)(g:dL b S' mn di Fx awF awG):dL b S mn vL lv awF awG:=
 ⟨Nat.le_trans h.n g.n,λx hx hn=>(g.ob x (Nat.lt_of_lt_of_le hx h.n) λq=>(h.own x q).elim hn (by omega)).trans (h.ob x hx hn),λx hx=>(g.own x hx).elim (h.own x) λq=>.inr (Nat.le_trans h.n q)⟩
theorem Ext.pM(hx:Ext S S'):dL b S S' vL lv vL lv:=⟨hx.n,λx h _=>hx.ob x h,λ_ h=>.inl h⟩
theorem gm.awH(h:gm lo b S vL lv){x:Nat}(hx:mZ b vL lv x):lo≤x:=by
 rcases hx with rfl|q|⟨d,hd,q⟩
 ·exact h.lob
 ·exact h.loL x q
 ·exact h.lol d hd x q
theorem gm.bX(h:gm lo b S vL lv)(hM:Mem H S){x:Nat}(hx:mZ b vL lv x):x<S.n:=by
 rcases hx with rfl|q|⟨d,hd,q⟩
 ·exact hM.lt (by rw[h.ob];simp)
 ·exact h.fL.lt hM q
 ·rcases q with rfl|q
  ·exact hM.lt (by rw[h.lb d hd];simp)
  ·exact(h.ln d hd).lt hM q
theorem gm.keep(h:gm lo b S vL lv)(hM:Mem H S)(hk:∀x,mZ b vL lv x→S'.ob x=S.ob x):gm lo b S' vL lv:=
 { h with ob:=(hk b (.inl rfl)).trans h.ob,fL:=h.fL.keep hM λx hx _=>hk x (.inr (.inl hx)),lb:=λd hd=>(hk d.p (.inr (.inr ⟨d,hd,.inl rfl⟩))).trans (h.lb d hd),ln:=λd hd=>(h.ln d hd).keep hM λx hx _=>hk x (.inr (.inr ⟨d,hd,.inr hx⟩)) }
theorem gm.ext(h:gm lo b S vL lv)(hM:Mem H S)(hx:Ext S S'):gm lo b S' vL lv:=h.keep hM λx q=>hx.ob x (h.bX hM q)
theorem dL.low(g:dL b S S' vL lv di Fx)(h:gm lo b S vL lv)(hlo:lo≤S.n){x:Nat}(hx:x<lo):S'.ob x=S.ob x:=g.ob x (by omega) λq=>by have:=h.awH q;omega
end
end
end Go.X
namespace Go.Proofs.YtcedghechlgecaaGreatDoor
open Go Go.X Go.Proofs.YtcedghechlgecaaGreatDoor.G
section
variable {H:AH}{S:LS}{K:KF}
theorem aoL{lo b:Nat}{vL:AV}{lv:List bK}{d:bK}(hM:Mem H S)(h:gm lo b S vL (lv++[d]))(hl:lv.length≤900000)(hK:K (.ret (.ptr d.p 0)) H):f115 (.ptr b 0) H K:=by
 show D5 KV K (.ptr b 0) H;unfold D5;simp only[aW,av,Nat.zero_add];refine aj hM h.ob (v:=vL) rfl ?_;refine aj hM h.ob (v:=vL) rfl ?_;refine h.fL.len ?_;rw[az,List.length_map,List.length_append,List.length_singleton];simp only[wH,fN];refine w0 (by omega) (by omega) ?_;have ep:((lv.length+1:Nat):Int)-1=(lv.length:Int):=by omega
 rw[ep];refine h.fL.load hM (i:=lv.length) (a:=.ptr d.p 0) ?_ hK;rw[List.getElem?_map,List.getElem?_append_right (Nat.le_refl _)];simp
end
section
variable {H H':AH}{S S':LS}{K:KF}
structure Pn(lo b:Nat)(H:AH)(S:LS)(vL:AV)(lv:List bK):Prop where
 m:Mem H S
 p:gm lo b S vL lv
 l:lo≤S.n
 t:gB gl S
 g:gl.length≤lo
section
variable {lo b:Nat}{vL di:AV}{lv Fx:List bK}
theorem Pn.low(h:Pn lo b H S vL lv)(st:dL b S S' vL lv di Fx):∀x,x<lo→S'.ob x=S.ob x:=λx hx=>st.low h.p h.l hx
theorem Pn.step(h:Pn lo b H S vL lv)(m:Mem H' S')(st:dL b S S' vL lv di Fx)(p:gm lo b S' di Fx):Pn lo b H' S' di Fx:=⟨m,p,Nat.le_trans h.l st.n,atE h.t h.g (h.low st),h.g⟩
theorem Pn.ext(h:Pn lo b H S vL lv)(m:Mem H' S')(x:Ext S S'):Pn lo b H' S' vL lv:=h.step m x.pM (h.p.ext h.m x)
theorem Pn.new(h:Pn lo b H S vL lv):¬mZ b vL lv S.n:=λg=>by
 have:=h.p.bX h.m g;omega
end
def Gt(lo:Nat)(S:LS)(K:KF)(e:Nat×Nat):Prop:=∀H' S',Mem H' S'→S.n≤S'.n→(∀x,x<lo→S'.ob x=S.ob x)→K (.cj (.iface 132 (.agg [cC e.1,cC e.2]))) H'
theorem Gt.le{lo:Nat}{e:Nat×Nat}(h:Gt lo S K e)(hn:S.n≤S'.n)(hk:∀x,x<lo→S'.ob x=S.ob x):Gt lo S' K e:=λH2 S2 m n k=>h H2 S2 m (Nat.le_trans hn n) λx hx=>(k x hx).trans (hk x hx)
def PGo(lo b:Nat)(S:LS)(vL:AV)(lv:List bK)(er:Err)(K:KF):Prop:=(er=none→∀H' S' di,Pn lo b H' S' di lv→dL b S S' vL lv di lv→K (.ret (.aE [])) H')∧∀e,er=some e→Gt lo S K e
def Rp(lv:List bK)(z:Nat):Prop:=lv.length+z≤800000∧∀d∈lv,d.ns.length+z≤800000∧d.l+z≤800000
theorem Rp.le{lv:List bK}{z z':Nat}(h:Rp lv z)(hz:z'≤z):Rp lv z':=⟨by have:=h.1;omega,λd hd=>by have:=h.2 d hd;omega⟩
structure PE(F:AV→AV→AH→KF→Prop)(n:Nat)(e:aO):Prop where
 run:∀{K:KF}{H:AH}{S:LS}{lo b:Nat}{vL v:AV}{lv:List bK}{L:List (List (List Nat))}{ns:List (List Nat)},Pn lo b H S vL lv→lv.map bK.ns=L++[ns]→nO S (dQ lo) v e→e.wg→Rp lv e.sz→PGo lo b S vL lv (kE n L ns e) K→F (.ptr b 0) v H K
structure Ye(F:AV→AV→AH→KF→Prop)(n:Nat)(l:List aO):Prop where
 run:∀{K:KF}{H:AH}{S:LS}{lo b:Nat}{vL v:AV}{lv:List bK}{L:List (List (List Nat))}{ns:List (List Nat)},Pn lo b H S vL lv→lv.map bK.ns=L++[ns]→xB S (dQ lo) v l→Gr l→Rp lv (iG l)→PGo lo b S vL lv (cy (kE n L ns) l) K→F (.ptr b 0) v H K
theorem Av{α:Type}(f:α→Err)(l:List α)(i:Nat){e:Nat×Nat}(h:cy f (l.take i)=some e):cy f l=some e:=by
 rw[←List.take_append_drop i l,xJ,h];rfl
theorem e61{R:lj}{n:Nat}{l:List aO}(hE:∀e∈l,PE R n e):Ye (Ro R) n l:=by
 refine⟨λ{K H S lo b vL v lv L ns} hP hlv hv hw hR hK=>?_⟩;have hll:=xG l;have hr1:=hR.1;have loop:∀(q i:Nat) (di:AV) (H':AH) (S':LS),i≤l.length→l.length-i<q→Pn lo b H' S' di lv→cy (kE n L ns) (l.take i)=none→dL b S S' vL lv di lv→vX R K q (.ptr b 0) v (l.length:Int) (i:Int) H':=by
  intro q
  induction q with
  |zero=>intro i _ _ _ _ h;omega
  |succ q ih=>
   intro i di H' S' hi hq P1 he0 st1;show Ey R K (vX R K q) (.ptr b 0) v (l.length:Int) (i:Int) H';unfold Ey;simp only[gQ];rw[bz];refine bY (λg=>?_) (λg=>?_)
   rotate_left
   ·have e:i=l.length:=by omega
    subst e;rw[List.take_length]at he0;exact hK.1 he0 H' S' di P1 st1
   have hil:i<l.length:=by omega
   obtain⟨e,he⟩:∃e,l[i]? = some e:=⟨_,List.getElem?_eq_getElem hil⟩
   have hem:=List.mem_of_getElem? he;have hsz:=qe he;have lw:=hP.low st1;obtain⟨cl,s1,g1⟩:=Bo hv lw;have e1:=g1 i e he;refine s1.load P1.m hil ?_;refine oM P1.m dB rfl e1.len e1.ones λH2 S2 m2 x2 o2 n2=>?_;refine gz m2 o2 e1.len ?_;have P2:=P1.ext m2 x2;refine(hE e hem).run P2 hlv ⟨_,rfl,e1.go (λx hx=>x2.ob x (Nat.lt_of_lt_of_le hx P1.l)) λ_ h=>h⟩ (Bq hw he) (hR.le hsz) ⟨λhn H3 S3 ll P3 eQ=>?_,λp hp H3 S3 m3 n3 k3=>?_⟩
   ·show cR K (.ret (.aE [])) H3 _;rw[aq,eo,fN];refine w0 (by omega) (by omega) ?_;refine ih (i+1) ll H3 S3 (by omega) (by omega) P3 ?_ (st1.trans (x2.pM.trans eQ));rw[lk _ _ _ he,he0,hn];rfl
   ·show cR K (.cj _) H3 _;rw[dt];refine hK.2 p ?_ H3 S3 m3 (by have:=st1.n;omega) λx hx=>?_
    ·refine Av _ _ (i+1) ?_;rw[lk _ _ _ he,he0,hp];rfl
    ·rw[k3 x hx,x2.ob x (Nat.lt_of_lt_of_le hx P1.l),lw x hx]
 show Ez R K (vX R K G.NL) (.ptr b 0) v H;unfold Ez;refine hv.choose_spec.1.len ?_;rw[az];have cQ:G.NL=1000000:=rfl;generalize G.NL=iC at cQ ⊢;exact loop iC 0 vL H S (Nat.zero_le _) (by omega) hP rfl dL.refl
end
end Go.Proofs.YtcedghechlgecaaGreatDoor
namespace Go.X
section
variable {H:AH}{S S':LS}
section
variable {lo b:Nat}{vL:AV}{lv:List bK}{d d':bK}
theorem gm.upd(h:gm lo b S vL (lv++[d]))(hM:Mem H S)(hp:d'.p=d.p)(hob:S'.ob d.p=.ce [d'.v,cC d'.l] 0)(hfn:ij S' d'.v (d'.ns.map ak))(h8:∀t∈d'.ns,B8 t)(hpv:¬aF d'.v d.p)(hown:∀x,aF d'.v x→aF d.v x∨S.n≤x)(hlo:lo≤S.n)(hk:∀x,x<S.n→x≠d.p→¬aF d.v x→S'.ob x=S.ob x):gm lo b S' vL (lv++[d']):=by
 have hd:d∈lv++[d]:=List.mem_append_right _ (List.mem_singleton_self _);have hl:∀{x},x∈lv→x∈lv++[d]:=λg=>List.mem_append_left _ g;have lt:∀{x},mZ b vL (lv++[d]) x→x<S.n:=λg=>h.bX hM g;have ap2:∀a∈lv,∀x,a.own x→¬d.own x:=λa ha=>(List.pairwise_append.1 h.ap).2.2 a ha d (List.mem_singleton_self _);have kd:∀a∈lv,∀x,a.own x→S'.ob x=S.ob x:=λa ha x hx=>hk x (lt (.inr (.inr ⟨a,hl ha,hx⟩))) (λg=>ap2 a ha x hx (.inl g)) λg=>ap2 a ha x hx (.inr g);have sp:∀{a},a∈lv++[d']→a∈lv∨a=d':=λg=>(List.mem_append.1 g).imp id List.mem_singleton.1;have od:∀x,d'.own x→d.own x∨S.n≤x:=λx hx=>hx.elim (λg=>.inl (.inl (g.trans hp))) λg=>(hown x g).imp .inr id;refine⟨(hk b (lt (.inl rfl)) (λg=>(h.ob' d hd d.p (.inl rfl)).1 g.symm) λg=>(h.ob' d hd b (.inr g)).1 rfl).trans h.ob,?_,?_,?_,?_,h.bL,?_,?_,?_,h.lob,h.loL,?_⟩
 ·have:=h.fL.keep (S':=S') hM λx hx hlt=>hk x hlt (λg=>(h.ob' d hd d.p (.inl rfl)).2 (g ▸ hx)) λg=>(h.ob' d hd x (.inr g)).2 hx;have e:(lv++[d']).map (λd=>AV.ptr d.p 0)=(lv++[d]).map (λd=>AV.ptr d.p 0):=by simp[hp]
  rw[e];exact this
 ·intro a ha;rcases sp ha with g|rfl
  ·exact(kd a g a.p (.inl rfl)).trans (h.lb a (hl g))
  ·rw[hp];exact hob
 ·intro a ha;rcases sp ha with g|rfl
  ·exact(h.ln a (hl g)).keep hM λx hx _=>kd a g x (.inr hx)
  ·exact hfn
 ·intro a ha;rcases sp ha with g|rfl
  ·exact h.n8 a (hl g)
  ·exact h8
 ·intro a ha;rcases sp ha with g|rfl
  ·exact h.pv a (hl g)
  ·rw[hp];exact hpv
 ·refine List.pairwise_append.2 ⟨(List.pairwise_append.1 h.ap).1,List.pairwise_singleton _ _,λa ha c hc x hx hy=>?_⟩;rw[List.mem_singleton]at hc;subst hc;rcases od x hy with g|g
  ·exact ap2 a ha x hx g
  ·have:=lt (.inr (.inr ⟨a,hl ha,hx⟩));omega
 ·intro a ha x hx;rcases sp ha with g|rfl
  ·exact h.ob' a (hl g) x hx
  ·rcases od x hx with g|g
   ·exact h.ob' d hd x g
   ·refine⟨λe=>?_,λe=>?_⟩
    ·have:=lt (x:=b) (.inl rfl);omega
    ·have:=lt (x:=x) (.inr (.inl e));omega
 ·intro a ha x hx;rcases sp ha with g|rfl
  ·exact h.lol a (hl g) x hx
  ·rcases od x hx with g|g
   ·exact h.lol d hd x g
   ·omega
theorem gm.lD{r:Nat}{k:AH→Prop}(h:gm lo b S vL (lv++[d]))(hM:Mem H S)(hlo:lo≤S.n)
  (hk:∀H' S',Mem H' S'→dL b S S' vL (lv++[d]) vL (lv++[{ d with l:=r }])→gm lo b S' vL (lv++[{ d with l:=r }])→k H'):aC (.ptr d.p 0) (ah 1 (.ptr d.p 0) λv9=>ag 1 v9 (.int 0 (r:Int)) H k):=by
 have hd:d∈lv++[d]:=List.mem_append_right _ (List.mem_singleton_self _);simp only[aW,av,Nat.zero_add];refine aS hM (h.lb d hd) (by omega) (by show 1<2;omega) rfl λH1 m1=>?_;have m1:Mem H1 (S.set d.p (.ce [d.v,cC r] 0)):=m1;have k1:∀x,x≠d.p→(S.set d.p (.ce [d.v,cC r] 0)).ob x=S.ob x:=λx hx=>LS.ao _ _ hx;refine hk H1 _ m1 ⟨Nat.le_refl _,λx _ hx=>k1 x λg=>hx (.inr (.inr ⟨d,hd,.inl g⟩)),λx hx=>?_⟩ (h.upd hM rfl (LS.au _ _ _) ((h.ln d hd).keep hM λx hx _=>k1 x λg=>h.pv d hd (g ▸ hx)) (h.n8 d hd) (h.pv d hd) (λ_ g=>.inl g) hlo λx _ hx _=>k1 x hx);rcases hx with g|g|⟨a,ha,g⟩
 ·exact .inl (.inl g)
 ·exact .inl (.inr (.inl g))
 ·rcases List.mem_append.1 ha with q|q
  ·exact .inl (.inr (.inr ⟨a,List.mem_append_left _ q,g⟩))
  ·rw[List.mem_singleton]at q;subst q;exact .inl (.inr (.inr ⟨d,hd,g⟩))
end
end
section
variable {H:AH}{S S':LS}
section
variable {lo b:Nat}{vL:AV}{lv:List bK}{d:bK}
theorem gm.pM{d':bK}(h:gm lo b S vL (lv++[d]))(hp:d'.p=d.p)(hown:∀x,aF d'.v x→aF d.v x∨S.n≤x)(hn:S.n≤S'.n)(hk:∀x,x<S.n→x≠d.p→¬aF d.v x→S'.ob x=S.ob x):dL b S S' vL (lv++[d]) vL (lv++[d']):=by
 have hd:d∈lv++[d]:=List.mem_append_right _ (List.mem_singleton_self _);refine⟨hn,λx hx hno=>hk x hx (λg=>hno (.inr (.inr ⟨d,hd,.inl g⟩))) λg=>hno (.inr (.inr ⟨d,hd,.inr g⟩)),λx hx=>?_⟩;rcases hx with g|g|⟨a,ha,g⟩
 ·exact .inl (.inl g)
 ·exact .inl (.inr (.inl g))
 ·rcases List.mem_append.1 ha with q|q
  ·exact .inl (.inr (.inr ⟨a,List.mem_append_left _ q,g⟩))
  ·rw[List.mem_singleton]at q;subst q;rcases g with g|g
   ·exact .inl (.inr (.inr ⟨d,hd,.inl (g.trans hp)⟩))
   ·exact(hown x g).imp (λw=>.inr (.inr ⟨d,hd,.inr w⟩)) id
theorem gm.app{Q:Nat→Prop}{a1:AV}{l:List (List Nat)}{k:AH→Prop}(h:gm lo b S vL (lv++[d]))(hM:Mem H S)(hlo:lo≤S.n)(hr:mC S Q a1 (l.map ak))(h8:∀t∈l,B8 t)(hl:d.ns.length+l.length≤1000000)
  (hk:∀H' S' v',Mem H' S'→dL b S S' vL (lv++[d]) vL (lv++[{ d with v:=v',ns:=d.ns++l }])→gm lo b S' vL (lv++[{ d with v:=v',ns:=d.ns++l }])→k H'):cV 1 16 d.v a1 H λv14 dH=>aC (.ptr d.p 0) (ah 0 (.ptr d.p 0) λv16=>ag 1 v16 v14 dH k):=by
 have hd:d∈lv++[d]:=List.mem_append_right _ (List.mem_singleton_self _);have hdp:d.p<S.n:=h.bX hM (.inr (.inr ⟨d,hd,.inl rfl⟩));have hbb:((d.ns.map ak).length+(l.map ak).length)*16≤1099511627776:=by
  rw[List.length_map,List.length_map];omega
 refine G6 hM (h.ln d hd) hr hbb (λa ha=>by obtain⟨t,_,rfl⟩:=List.mem_map.1 ha;rfl) λH1 S1 v1 m1 n1 k1 f1 b1 _ _ _=>?_;have e1:S1.ob d.p=.ce [d.v,cC d.l] 0:=(k1 _ hdp (h.pv d hd)).trans (h.lb d hd);simp only[aW,av,Nat.zero_add];refine aS m1 e1 (by omega) (by show 0<2;omega) f1.one λH2 m2=>?_;have m2:Mem H2 (S1.set d.p (.ce [v1,cC d.l] 0)):=m2;have k2:∀x,x≠d.p→(S1.set d.p (.ce [v1,cC d.l] 0)).ob x=S1.ob x:=λx hx=>LS.ao _ _ hx;have hpv:¬aF v1 d.p:=λg=>(b1 _ g).elim (h.pv d hd) (by omega);have hk3:∀x,x<S.n→x≠d.p→¬aF d.v x→(S1.set d.p (.ce [v1,cC d.l] 0)).ob x=S.ob x:=λx hx hne hb=>(k2 x hne).trans (k1 x hx hb);refine hk H2 _ v1 m2 (h.pM rfl b1 n1 hk3) (h.upd hM rfl (LS.au _ _ _) ?_ ?_ hpv b1 hlo hk3)
 ·show ij _ v1 ((d.ns++l).map ak);rw[List.map_append];exact f1.keep m1 λx hx _=>k2 x λg=>hpv (g ▸ hx)
 ·intro t ht;exact(List.mem_append.1 ht).elim (h.n8 d hd t) (h8 t)
theorem gm.cut{ns e:List (List Nat)}{k:AH→Prop}(h:gm lo b S vL (lv++[d]))(hM:Mem H S)(hlo:lo≤S.n)(he:d.ns=ns++e)
  (hk:∀H' S' v',Mem H' S'→dL b S S' vL (lv++[d]) vL (lv++[{ d with v:=v',ns:=ns }])→gm lo b S' vL (lv++[{ d with v:=v',ns:=ns }])→k H'):kU 1 d.v none (some (.int 0 (ns.length:Int))) none λv9=>aC (.ptr d.p 0) (ah 0 (.ptr d.p 0) λv10=>ag 1 v10 v9 H k):=by
 have hd:d∈lv++[d]:=List.mem_append_right _ (List.mem_singleton_self _);refine PG (h.ln d hd) (by rw[he];simp) λw1 f1 b1 _ _=>?_;rw[he,List.map_append,List.take_left' (by simp)]at f1;simp only[aW,av,Nat.zero_add];refine aS hM (h.lb d hd) (by omega) (by show 0<2;omega) f1.one λH2 m2=>?_;have m2:Mem H2 (S.set d.p (.ce [w1,cC d.l] 0)):=m2;have k2:∀x,x≠d.p→(S.set d.p (.ce [w1,cC d.l] 0)).ob x=S.ob x:=λx hx=>LS.ao _ _ hx;have hpv:¬aF w1 d.p:=λg=>h.pv d hd ((b1 _).1 g);refine hk H2 _ w1 m2 (h.pM rfl (λx g=>.inl ((b1 x).1 g)) (Nat.le_refl _) λx _ hx _=>k2 x hx) (h.upd hM rfl (LS.au _ _ _) (f1.keep hM λx hx _=>k2 x λg=>hpv (g ▸ hx)) (λt ht=>h.n8 d hd t (by rw[he];exact List.mem_append_left _ ht)) hpv (λx g=>.inl ((b1 x).1 g)) hlo λx _ hx _=>k2 x hx)
end
end
end Go.X
namespace Go.Proofs.YtcedghechlgecaaGreatDoor
open Go Go.X Go.Proofs.YtcedghechlgecaaGreatDoor.G
section
variable {H:AH}{S:LS}{K:KF}
theorem ayi{k:AV→Prop}(h:k (.bool true)):AG true .ab k:=h
theorem ayj{b o n c z:Nat}{ex:Bool}{k:AV→Prop}(h:k (.bool false)):AG true (.slice b o n c z ex) k:=h
theorem az4{Q:Nat→Prop}{v:AV}{l:List (List Nat)}(hM:Mem H S)(hn:iZ S Q v l)(hQ:∀x,Q x→x<S.n)(hl:l.length≤900000)(hK:∀H' S' v',Mem H' S'→Ext S S'→ij S' v' (l.map ak)→(∀x,aF v' x→S.n≤x)→K (.ret v') H'):f35 v H K:=by
 have hr:=Ja hn;show IB Rb K v H;unfold IB;have go:bG (aA H) 0 1 [] λv3 H4=>cV 1 16 v3 v H4 λv5 H6=>K (.ret v5) H6:=by
  refine cZ hM rfl (λa ha=>by simp at ha) λH1 m1=>?_;have m1:Mem H1 (S.push (.ce [] 0)):=m1;have x1:Ext S (S.push (.ce [] 0)):=Ext.push _ _;have o1:(S.push (.ce [] 0)).ob S.n=.ce [] 0:=LS.al _ _;have n1:(S.push (.ce [] 0)).n=S.n+1:=rfl;have hr1:mC (S.push (.ce [] 0)) Q v (l.map ak):=Ja (iZ.go hn (λb hb=>x1.ob b (hQ b hb)) λ_ g=>g);generalize S.push (.ce [] 0)=S1 at m1 x1 o1 n1 hr1;have f0:ij S1 (.slice S.n 0 0 0 1 true) []:=MH (l:=[]) o1 (λa ha=>by simp at ha);have hbb:(([]:List AV).length+(l.map ak).length)*16≤1099511627776:=by
   rw[List.length_map,List.length_nil];omega
  refine G6 m1 f0 hr1 hbb (λa ha=>by obtain⟨t,_,rfl⟩:=List.mem_map.1 ha;rfl) λH2 S2 v2 m2 n2 k2 f2 b2 _ _ _=>?_;refine hK H2 S2 v2 m2 ⟨by have:=x1.n;omega,λx hx=>(k2 x (by omega) λg=>by
   have g:x=S.n:=g;omega).trans (x1.ob x hx)⟩ (by simpa using f2) λx hx=>?_
  rcases b2 x hx with g|g
  ·have g:x=S.n:=g;omega
  ·omega
 rcases hr with⟨rfl,e⟩|⟨bk,o,c,ex,cs,m,rfl,q1,q2,q3,q4,q5⟩
 ·refine ayi ?_;rw[aX,aG];exact hK H S .ab hM (Ext.refl _) (.inl ⟨rfl,e⟩) λx hx=>hx.elim
 ·refine ayj ?_;rw[aX,aw];exact go
end
end Go.Proofs.YtcedghechlgecaaGreatDoor
namespace Go.X
section
variable {H:AH}{S S':LS}
section
variable {lo b:Nat}{vL:AV}{lv:List bK}{d:bK}
theorem gm.push{di v':AV}{p:Nat}{ps:List (List Nat)}(h:gm lo b S vL lv)(hM:Mem H S)(hlo:lo≤S.n)(hb:S'.ob b=.ce [di] 0)(fL:ij S' di ((lv++[bK.mk p v' ps 0]).map λd=>AV.ptr d.p 0))(hp:S'.ob p=.ce [v',cC 0] 0)(fv:ij S' v' (ps.map ak))(h8:∀t∈ps,B8 t)(pn:S.n≤p)(vn:∀x,aF v' x→S.n≤x)(pv:¬aF v' p)(hL:∀x,aF di x→aF vL x∨S.n≤x)(Lp:¬aF di p)(Lv:∀x,aF di x→¬aF v' x)(hn:S.n≤S'.n)(hk:∀x,x<S.n→x≠b→¬aF vL x→S'.ob x=S.ob x):gm lo b S' di (lv++[bK.mk p v' ps 0])∧dL b S S' vL lv di (lv++[bK.mk p v' ps 0]):=by
 have lt:∀{x},mZ b vL lv x→x<S.n:=λg=>h.bX hM g;have la:∀a∈lv,∀x,a.own x→x<S.n:=λa ha x hx=>lt (.inr (.inr ⟨a,ha,hx⟩));have hbl:b<S.n:=lt (.inl rfl);have kd:∀a∈lv,∀x,a.own x→S'.ob x=S.ob x:=λa ha x hx=>hk x (la a ha x hx) (h.ob' a ha x hx).1 (h.ob' a ha x hx).2;have sp:∀{a},a∈lv++[bK.mk p v' ps 0]→a∈lv∨a=bK.mk p v' ps 0:=λg=>(List.mem_append.1 g).imp id List.mem_singleton.1;have nw:∀x,(bK.mk p v' ps 0).own x→S.n≤x:=λx hx=>hx.elim (λg=>by have g:x=p:=g;omega) (vn x);refine⟨⟨hb,fL,?_,?_,?_,?_,?_,?_,?_,h.lob,?_,?_⟩,hn,λx hx hno=>hk x hx (λg=>hno (.inl g)) λg=>hno (.inr (.inl g)),?_⟩
 ·intro a ha;rcases sp ha with g|rfl
  ·exact(kd a g a.p (.inl rfl)).trans (h.lb a g)
  ·exact hp
 ·intro a ha;rcases sp ha with g|rfl
  ·exact(h.ln a g).keep hM λx hx _=>kd a g x (.inr hx)
  ·exact fv
 ·intro a ha;rcases sp ha with g|rfl
  ·exact h.n8 a g
  ·exact h8
 ·intro g;exact(hL b g).elim h.bL (by omega)
 ·intro a ha;rcases sp ha with g|rfl
  ·exact h.pv a g
  ·exact pv
 ·refine List.pairwise_append.2 ⟨h.ap,List.pairwise_singleton _ _,λa ha c hc x hx hy=>?_⟩;rw[List.mem_singleton]at hc;subst hc;have:=la a ha x hx;have:=nw x hy;omega
 ·intro a ha x hx;rcases sp ha with g|rfl
  ·refine⟨(h.ob' a g x hx).1,λq=>(hL x q).elim (h.ob' a g x hx).2 λw=>?_⟩;have:=la a g x hx;omega
  ·refine⟨λq=>by have:=nw x hx;omega,λq=>?_⟩;rcases hx with w|w
   ·have w:x=p:=w;exact Lp (w ▸ q)
   ·exact Lv x q w
 ·intro x hx;exact(hL x hx).elim (h.loL x) λw=>by omega
 ·intro a ha x hx;rcases sp ha with g|rfl
  ·exact h.lol a g x hx
  ·have:=nw x hx;omega
 ·intro x hx;rcases hx with g|g|⟨a,ha,g⟩
  ·exact .inl (.inl g)
  ·exact(hL x g).imp (λw=>.inr (.inl w)) id
  ·rcases sp ha with q|rfl
   ·exact .inl (.inr (.inr ⟨a,q,g⟩))
   ·exact .inr (nw x g)
theorem gm.pop{w:AV}(h:gm lo b S vL (lv++[d]))(hM:Mem H S)(hb:S'.ob b=.ce [w] 0)(fL:ij S' w (lv.map λd=>AV.ptr d.p 0))(hw:∀x,aF w x→aF vL x)(hn:S.n≤S'.n)(hk:∀x,x≠b→S'.ob x=S.ob x):gm lo b S' w lv∧dL b S S' vL (lv++[d]) w lv:=by
 have hl:∀{x},x∈lv→x∈lv++[d]:=λg=>List.mem_append_left _ g;have kd:∀a∈lv,∀x,a.own x→S'.ob x=S.ob x:=λa ha x hx=>hk x (h.ob' a (hl ha) x hx).1;refine⟨⟨hb,fL,λa ha=>(kd a ha a.p (.inl rfl)).trans (h.lb a (hl ha)),λa ha=>(h.ln a (hl ha)).keep hM λx hx _=>kd a ha x (.inr hx),λa ha=>h.n8 a (hl ha),λg=>h.bL (hw b g),λa ha=>h.pv a (hl ha),(List.pairwise_append.1 h.ap).1,λa ha x hx=>⟨(h.ob' a (hl ha) x hx).1,λg=>(h.ob' a (hl ha) x hx).2 (hw x g)⟩,h.lob,λx hx=>h.loL x (hw x hx),λa ha=>h.lol a (hl ha)⟩,hn,λx hx hno=>hk x λg=>hno (.inl g),λx hx=>.inl ?_⟩;rcases hx with g|g|⟨a,ha,g⟩
 ·exact .inl g
 ·exact .inr (.inl (hw x g))
 ·exact .inr (.inr ⟨a,hl ha,g⟩)
end
end
end Go.X
namespace Go.Proofs.YtcedghechlgecaaGreatDoor
open Go Go.X Go.Proofs.YtcedghechlgecaaGreatDoor.G
section
variable {H H':AH}{S S':LS}{K:KF}
def PGs(lo b:Nat)(S:LS)(vL:AV)(lv:List bK)(d:bK)(r:List (List Nat)×Err)(K:KF):Prop:=(r.2=none→∀H' S' di v',Pn lo b H' S' di (lv++[bK.mk d.p v' r.1 d.l])→dL b S S' vL (lv++[d]) di (lv++[bK.mk d.p v' r.1 d.l])→K (.ret (.aE [])) H')∧∀e,r.2=some e→Gt lo S K e
structure NJ(F:AV→AV→AV→AH→KF→Prop)(t:AV)(n:Nat)(bd:List aP):Prop where
 run:∀{K:KF}{H:AH}{S:LS}{lo b:Nat}{vL v:AV}{lv:List bK}{d:bK}{L:List (List (List Nat))},Pn lo b H S vL (lv++[d])→lv.map bK.ns=L→lz S (dQ lo) v bd→nR bd→Rp (lv++[d]) (dW bd+1)→PGs lo b S vL lv d (d.ns,kB n L d.l d.ns bd []) K→F (.ptr b 0) v t H K
theorem Yf{lv:List bK}{L:List (List (List Nat))}{ns:List (List Nat)}(h:lv.map bK.ns=L++[ns])(s:List Nat):decide (∃d∈lv,s∈d.ns)=uD L ns s:=by
 unfold uD;have e:L.flatten++ns=(lv.map bK.ns).flatten:=by rw[h];simp
 rw[e];congr 1;simp only[List.mem_flatten,List.mem_map,eq_iff_iff];constructor
 ·rintro⟨d,hd,hs⟩;exact⟨d.ns,⟨d,hd,rfl⟩,hs⟩
 ·rintro⟨_,⟨d,hd,rfl⟩,hs⟩;exact⟨d,hd,hs⟩
theorem e77{R:cL}{n:Nat}{e:aO}(h10:R.2.2.2.2=Gq)(h62:R.2.2.1=f138)(h83:R.1=f35)(hE:∀k a nn s op l fs,e=.mk k a nn s op l fs→∀x∈l,PE R.2.2.2.1 n x)(hB:∀k a nn s op l fs,e=.mk k a nn s op l fs→∀f∈fs,∃n',n=n'+1∧∀ps bd,f=.mk ps bd→NJ R.2.1 (.func 188 [] []) n' bd):PE (Rt R) (n+1) e:=by
 refine⟨λ{K H S lo b vL v lv L ns} hP hlv hv hw hR hK=>?_⟩;obtain⟨c,rfl,e1⟩:=hv;obtain⟨k,a,nn,s,op,l,fs⟩:=e;have hE:=hE k a nn s op l fs rfl;have hB:=hB k a nn s op l fs rfl;simp only[aO.sz]at hR;simp only[aO.wg]at hw;obtain⟨w6,Je,wgf⟩:=hw;have hll:=xG l;have hfl:=SQ fs;have hr1:=hR.1;have i6:Int.ofNat 6=((6:Nat):Int):=rfl;have cQ:G.NL=1000000:=rfl;show EP R K (EK R K) (Ao R K (sO R K G.NL)) (.ptr b 0) (.agg c) H;unfold EP;refine Gs hP.m e1.ones λH1 S1 m1 x1 o1 n1=>?_;have P1:=hP.ext m1 x1;have hnew:=hP.new;have hxl:S.n<S1.n:=by omega
 obtain⟨vl,vf,rfl,h8,L0,F0⟩:=e1.out;have MI:∀x,x<lo→S1.ob x=S.ob x:=λx hx=>x1.ob x (Nat.lt_of_lt_of_le hx hP.l);have L1:=Bo L0 MI;have F1:=aoH F0 MI;have bx:∀{S2:LS}{BF:AV}{lv2:List bK},dL b S1 S2 vL lv BF lv2→S2.ob S.n=.ce [.int 0 (k:Int),.int 0 (a:Int),.int 0 (nn:Int),ak s,.int 0 (op:Int),vl,vf] 0:=λst=>(st.ob _ hxl hnew).trans o1;have pend:∀{e:Nat×Nat}{S2:LS}{BF:AV}{lv2:List bK},kE (n+1) L ns (.mk k a nn s op l fs)=some e→dL b S1 S2 vL lv BF lv2→Gt lo S2 K e:=λhe st=>(hK.2 _ he).le (by have:=st.n;omega) λx hx=>(P1.low st x hx).trans (MI x hx);have az5:∀(q i:Nat) (di:AV) (H':AH) (S':LS),i≤fs.length→fs.length-i<q→Pn lo b H' S' di lv→(k=6∧uD L ns s=false∧s∉builtins→False)→cy (kE n L ns) l=none→cy (kF n (L++[ns])) (fs.take i)=none→dL b S1 S' vL lv di lv→qG R K q (.ptr b 0) vf (fs.length:Int) (i:Int) H':=by
  intro q
  induction q with
  |zero=>intro i _ _ _ _ h;omega
  |succ q ih=>
   intro i di H' S' hi hq P2 hno hel he0 st2;have hpre:∀{e:Nat×Nat},cy (kF n (L++[ns])) fs=some e→kE (n+1) L ns (.mk k a nn s op l fs)=some e:=λhe=>by
    rw[kE,if_neg (λg=>hno g),dk,hel,dk,he]
   show EL R K (An R K (we R K (qG R K q))) (.ptr b 0) vf (fs.length:Int) (i:Int) H';unfold EL;rw[bz];refine bY (λg=>?_) (λg=>?_)
   rotate_left
   ·have e:i=fs.length:=by omega
    subst e;rw[List.take_length]at he0;refine hK.1 ?_ H' S' di P2 (x1.pM.trans st2);rw[kE,if_neg (λg=>hno g),dk,hel,dk,he0]
   have hil:i<fs.length:=by omega
   obtain⟨f,hf⟩:∃f,fs[i]? = some f:=⟨_,List.getElem?_eq_getElem hil⟩
   have hfm:=List.mem_of_getElem? hf;have hfs:=Gn hf;have hfw:=SV wgf hf;obtain⟨cf,t1,u1⟩:=aoH F1 (P1.low st2);have f1:=u1 i f hf;refine t1.load P2.m hil ?_;refine oM P2.m awC rfl f1.len f1.ones λH3 S3 m3 x3 o3 n3=>?_;have P3:=P2.ext m3 x3;obtain⟨n',hn',hwi⟩:=hB f hfm;obtain⟨ps,bd⟩:=f;have hwi:=hwi ps bd rfl;simp only[gr.sz]at hfs;have hfw:nR bd:=hfw;have f2:RF S3 (dQ lo) (cf i) (.mk ps bd):=f1.go (λx hx=>x3.ob x (Nat.lt_of_lt_of_le hx P2.l)) λ_ h=>h;obtain⟨vp,vb,c5,N5,B5⟩:=f2.out;rw[c5]at o3;simp only[aW,av,Nat.zero_add];refine aj m3 P3.p.ob (v:=di) rfl ?_;refine aj m3 o3 (v:=vp) rfl ?_;rw[h83];refine az4 m3 N5 (λx hx=>Nat.lt_of_lt_of_le hx P3.l) (by omega) λH4 S4 v4 m4 x4 fr4 b4=>?_;have P4:=P3.ext m4 x4;rw[aq];refine aj m4 P4.p.ob (v:=di) rfl ?_;refine bA (anh P4.p.fL) ?_;refine gU fr4.one ?_;refine m4.bP ?_;refine bF m4 (l:=[v4,cC 0]) (λa ha=>by
    simp only[List.mem_cons,List.not_mem_nil,or_false]at ha;rcases ha with rfl|rfl
    ·exact fr4.one
    ·rfl) λH5 m5=>?_
   have m5:Mem H5 (S4.push (.ce [v4,cC 0] 0)):=m5;have x5:Ext S4 (S4.push (.ce [v4,cC 0] 0)):=Ext.push _ _;have o5:(S4.push (.ce [v4,cC 0] 0)).ob S4.n=.ce [v4,cC 0] 0:=LS.al _ _;have n5:(S4.push (.ce [v4,cC 0] 0)).n=S4.n+1:=rfl;rw[m5.n,m4.n];refine bA (by show Nat.beq (S4.n+1) (S4.n+1)=true;exact Nat.beq_refl _) ?_;revert m5 x5 o5 n5;generalize S4.push (.ce [v4,cC 0] 0)=S5;intro m5 x5 o5 n5;refine m5.bP ?_;refine gU rfl ?_;refine cZ m5 rfl (λa ha=>by simp only[List.mem_singleton]at ha;subst ha;rfl) λH6 m6=>?_;have m6:Mem H6 (S5.push (.ce [.ptr S4.n 0] 0)):=m6;have x6:Ext S5 (S5.push (.ce [.ptr S4.n 0] 0)):=Ext.push _ _;have o6:(S5.push (.ce [.ptr S4.n 0] 0)).ob S5.n=.ce [.ptr S4.n 0] 0:=LS.al _ _;have n6:(S5.push (.ce [.ptr S4.n 0] 0)).n=S5.n+1:=rfl;rw[m6.n];refine bA (by show Nat.beq (S5.n+1) (S5.n+1)=true;exact Nat.beq_refl _) ?_;revert m6 x6 o6 n6;generalize S5.push (.ce [.ptr S4.n 0] 0)=S6;intro m6 x6 o6 n6;have x46:=x5.trans x6;have P6:=P4.ext m6 x46;have lt4:∀{x},mZ b di lv x→x<S4.n:=λg=>P4.p.bX m4 g;have hr6:mC S6 (λ_=>True) (.slice S5.n 0 1 1 1 true) [.ptr S4.n 0]:=.inr ⟨S5.n,0,1,true,[.ptr S4.n 0],0,rfl,by simp,trivial,o6,by simp,rfl⟩;have hbb:((lv.map λd=>AV.ptr d.p 0).length+[AV.ptr S4.n 0].length)*8≤1099511627776:=by
    rw[List.length_map,List.length_singleton];omega
   refine G6 m6 P6.p.fL hr6 hbb (λa ha=>by simp only[List.mem_singleton]at ha;subst ha;rfl) λH7 S7 uM m7 n7 k7 f9 b7 _ _ _=>?_;have hbv:¬aF di b:=P4.p.bL;have hbl:b<S4.n:=lt4 (.inl rfl);have e7:S7.ob b=.ce [di] 0:=(k7 b (by omega) hbv).trans P6.p.ob;have hvL:∀x,aF di x→x<S4.n:=λx hx=>lt4 (.inr (.inl hx));have b7':∀x,aF uM x→aF di x∨S6.n≤x:=b7;refine aS m7 e7 (by omega) (by show 0<1;omega) f9.one λH8 m8=>?_;have m8:Mem H8 (S7.set b (.ce [uM] 0)):=m8;have k8:∀x,x≠b→(S7.set b (.ce [uM] 0)).ob x=S7.ob x:=λx hx=>LS.ao _ _ hx;have o8:(S7.set b (.ce [uM] 0)).ob b=.ce [uM] 0:=LS.au _ _ _;have n8:(S7.set b (.ce [uM] 0)).n=S7.n:=rfl;revert m8 k8 o8 n8;generalize S7.set b (.ce [uM] 0)=S8;intro m8 k8 o8 n8;have q4:S8.ob S4.n=.ce [v4,cC 0] 0:=by
    rw[k8 _ (by omega),k7 _ (by omega) λg=>by have:=hvL _ g;omega,x6.ob _ (by omega)];exact o5
   have kb:∀x,x<S4.n→x≠b→¬aF di x→S8.ob x=S4.ob x:=λx hx hne hb=>by
    rw[k8 x hne,k7 x (by omega) hb,x46.ob x hx]
   have awI:∀x,aF v4 x→x<S4.n:=λx hx=>fr4.lt m4 hx;have aoM:∀x,aF v4 x→x≠b∧¬aF di x:=λx hx=>by
    have h1:=b4 x hx;have h2:=P3.p.bX m3 (x:=b) (.inl rfl);refine⟨by omega,λg=>?_⟩;have:=P3.p.bX m3 (x:=x) (.inr (.inl g));omega
   have fr8:ij S8 v4 (ps.map ak):=fr4.keep m4 λx hx hlt=>kb x hlt (aoM x hx).1 (aoM x hx).2;have f40:ij S8 uM ((lv++[bK.mk S4.n v4 ps 0]).map λd=>AV.ptr d.p 0):=by
    rw[List.map_append];exact f9.keep m7 λx hx _=>k8 x λg=>by
     rcases b7' x hx with w|w
     ·exact hbv (g ▸ w)
     ·omega
   obtain⟨p8,Fy⟩:=P3.p.push (S':=S8) m3 P3.l o8 f40 q4 fr8 N5.2 x4.n b4 (λg=>by have:=awI _ g;omega) (λx hx=>(b7' x hx).imp id λw=>by have:=x4.n;omega) (λg=>by
    rcases b7' _ g with w|w
    ·have:=hvL _ w;omega
    ·omega) (λx hx g=>by
    have h1:=awI x g;rcases b7' x hx with w|w
    ·exact(aoM x g).2 w
    ·omega) (by have:=x4.n;omega) (λx hx hne hb=>(kb x (by have:=x4.n;omega) hne hb).trans (x4.ob x hx))
   have P8:=P3.step m8 Fy p8;have awJ:=st2.trans (x3.pM.trans Fy);have o38:=((x3.pM (b:=b) (vL:=di) (lv:=lv)).trans Fy).ob;show An R K (we R K (qG R K q)) (.ptr b 0) (.ptr S'.n 0) vf (fs.length:Int) (i:Int) H8;unfold An;have q3:S8.ob S'.n=.ce [vp,vb] 0:=(Fy.ob _ (by omega) P2.new).trans o3;simp only[aW,av,Nat.zero_add];refine aj m8 q3 (v:=vb) rfl ?_;have eKF:cy (kF n (L++[ns])) (fs.take (i+1))=kB n' (L++[ns]) 0 ps bd []:=by
    rw[lk _ _ _ hf,he0,dk];subst hn';rw[kF]
   refine hwi.run P8 hlv (SS B5 (P3.low Fy)) hfw ⟨?_,?_⟩ ⟨λhnn H9 S9 vL9 v9 P9 st9=>?_,λe he=>?_⟩
   ·rw[List.length_append,List.length_singleton];omega
   ·intro d hd;rcases List.mem_append.1 hd with g|g
    ·have:=hR.2 d g;omega
    ·rw[List.mem_singleton]at g;subst g;show ps.length+_≤_∧0+_≤_;omega
   ·show cR K (.ret (.aE [])) H9 _;rw[aq];refine aj P9.m P9.p.ob (v:=vL9) rfl ?_;refine aj P9.m P9.p.ob (v:=vL9) rfl ?_;refine P9.p.fL.len ?_;rw[az,List.length_map,List.length_append,List.length_singleton];simp only[wH,fN];refine w0 (by omega) (by omega) ?_;have ep:((lv.length+1:Nat):Int)-1=(lv.length:Int):=by omega
    rw[ep];refine PG P9.p.fL (by rw[List.length_map,List.length_append,List.length_singleton];omega) λw1 fw bw _ _=>?_;rw[List.map_append,List.take_left' (by simp)]at fw;refine aS P9.m P9.p.ob (by omega) (by show 0<1;omega) fw.one λHa ma=>?_;have ma:Mem Ha (S9.set b (.ce [w1] 0)):=ma;have ka:∀x,x≠b→(S9.set b (.ce [w1] 0)).ob x=S9.ob x:=λx hx=>LS.ao _ _ hx;obtain⟨pa,sta⟩:=P9.p.pop (S':=S9.set b (.ce [w1] 0)) P9.m (LS.au _ _ _) (fw.keep P9.m λx hx _=>ka x λg=>P9.p.bL (g ▸ (bw x).1 hx)) (λx hx=>(bw x).1 hx) (Nat.le_refl _) ka;have Pa:=P9.step ma sta pa;show we R K (qG R K q) (.ptr b 0) vf (fs.length:Int) (i:Int) Ha;unfold we;rw[eo,fN];refine w0 (by omega) (by omega) ?_;exact ih (i+1) w1 Ha _ (by omega) (by omega) Pa hno hel (eKF.trans hnn) (awJ.trans (st9.trans sta))
   ·intro H9 S9 m9 n9 k9;show cR K (.cj _) H9 _;rw[dt];refine(pend (hpre (Av _ _ (i+1) (eKF.trans he))) awJ) H9 S9 m9 n9 k9
 have az6:∀(q i:Nat) (di:AV) (H':AH) (S':LS),i≤l.length→l.length-i<q→Pn lo b H' S' di lv→(k=6∧uD L ns s=false∧s∉builtins→False)→cy (kE n L ns) (l.take i)=none→dL b S1 S' vL lv di lv→sO R K q (.ptr b 0) (.ptr S.n 0) vl (l.length:Int) (i:Int) H':=by
  intro q
  induction q with
  |zero=>intro i _ _ _ _ h;omega
  |succ q ih=>
   intro i di H' S' hi hq P2 hno he0 st2;show EN R K (sO R K q) (EM R K (qG R K G.NL)) (.ptr b 0) (.ptr S.n 0) vl (l.length:Int) (i:Int) H';unfold EN;simp only[gQ];rw[bz];refine bY (λg=>?_) (λg=>?_)
   rotate_left
   ·have e:i=l.length:=by omega
    subst e;rw[List.take_length]at he0;unfold EM;simp only[av,Nat.zero_add];refine aj P2.m (bx st2) (v:=vf) rfl ?_;refine(aoH F1 (P1.low st2)).choose_spec.1.len ?_;rw[az];exact az5 G.NL 0 di H' S' (Nat.zero_le _) (by omega) P2 hno he0 rfl st2
   have hil:i<l.length:=by omega
   obtain⟨e,he⟩:∃e,l[i]? = some e:=⟨_,List.getElem?_eq_getElem hil⟩
   have hem:=List.mem_of_getElem? he;have hsz:=qe he;obtain⟨cl,s1,g1⟩:=Bo L1 (P1.low st2);have e1:=g1 i e he;refine s1.load P2.m hil ?_;refine oM P2.m dB rfl e1.len e1.ones λH3 S3 m3 x3 o3 n3=>?_;refine gz m3 o3 e1.len ?_;have P3:=P2.ext m3 x3;refine(hE e hem).run P3 hlv ⟨_,rfl,e1.go (λx hx=>x3.ob x (Nat.lt_of_lt_of_le hx P2.l)) λ_ h=>h⟩ (Bq Je he) (hR.le (by omega)) ⟨λhn H4 S4 Jf P4 lA=>?_,λp hp H4 S4 m4 n4 k4=>?_⟩
   ·show cR K (.ret (.aE [])) H4 _;rw[aq,eo,fN];refine w0 (by omega) (by omega) ?_;refine ih (i+1) Jf H4 S4 (by omega) (by omega) P4 hno ?_ (st2.trans (x3.pM.trans lA));rw[lk _ _ _ he,he0,hn];rfl
   ·show cR K (.cj _) H4 _;rw[dt];refine(pend (e:=p) ?_ (st2.trans x3.pM)) H4 S4 m4 n4 k4;rw[kE,if_neg (λg=>hno g),dk,Av _ _ (i+1) (by rw[lk _ _ _ he,he0,hp];rfl)];rfl
 have rest:∀(H2:AH) (S2:LS),Mem H2 S2→Ext S1 S2→(k=6∧uD L ns s=false∧s∉builtins→False)→Ao R K (sO R K G.NL) (.ptr b 0) (.ptr S.n 0) H2:=λH2 S2 m2 x2 hno=>by
  have P2:=P1.ext m2 x2;unfold Ao;simp only[av,Nat.zero_add];refine aj m2 (bx x2.pM) (v:=vl) rfl ?_;refine(Bo L1 (P1.low (x2.pM (b:=b) (vL:=vL) (lv:=lv)))).choose_spec.1.len ?_;rw[az];exact az6 G.NL 0 vL H2 S2 (Nat.zero_le _) (by omega) P2 hno rfl x2.pM
 simp only[av,Nat.zero_add];refine aj m1 o1 (v:=.int 0 (k:Int)) rfl ?_;rw[az,bD,i6];by_cases k6:k=6
 ·rw[decide_eq_true (by omega),aG];refine aj m1 o1 (v:=ak s) rfl ?_;rw[h62];refine hs62 m1 P1.p h8 (by omega) (λd hd=>by have:=(hR.2 d hd).1;omega) ?_;rw[aq,aX,Yf hlv];cases ha:uD L ns s with
  |true=>
   simp only[Bool.not_true,aw];exact rest H1 S1 m1 (Ext.refl _) λg=>by rw[ha]at g;cases g.2.1
  |false=>
   simp only[Bool.not_false,aG];refine aj m1 o1 (v:=ak s) rfl ?_;rw[h10];refine az3 m1 P1.t h8 λH2 S2 m2 x2=>?_;rw[aq,aX];by_cases hb:s∈builtins
   ·rw[decide_eq_true hb];simp only[Bool.not_true,aw];exact rest H2 S2 m2 x2 λg=>g.2.2 hb
   ·rw[decide_eq_false hb];simp only[Bool.not_false,aG];unfold EK;simp only[av,Nat.zero_add];refine aj m2 (bx x2.pM) (v:=.int 0 (a:Int)) rfl ?_;rw[az];refine(pend (e:=(14,a)) ?_ x2.pM) H2 S2 m2 (Nat.le_refl _) λ_ _=>rfl;rw[kE,if_pos ⟨k6,ha,hb⟩,xI]
 ·rw[decide_eq_false (by omega),aw];exact rest H1 S1 m1 (Ext.refl _) λg=>k6 g.1
end
end Go.Proofs.YtcedghechlgecaaGreatDoor
namespace Go.X
section
variable {H:AH}{S S':LS}
section
variable {lo b:Nat}{vL:AV}{lv:List bK}{d:bK}
theorem gm.NK{k:AV→Prop}(h:gm lo b S vL (lv++[d]))(hM:Mem H S)(hk:k d.v):aC (.ptr d.p 0) (ah 0 (.ptr d.p 0) λv=>af v H k):=by
 simp only[aW,av,Nat.zero_add];exact aj hM (h.lb d (List.mem_append_right _ (List.mem_singleton_self _))) (v:=d.v) rfl hk
theorem gm.ldl{k:Int→Prop}(h:gm lo b S vL (lv++[d]))(hM:Mem H S)(hk:k (d.l:Int)):aC (.ptr d.p 0) (ah 1 (.ptr d.p 0) λv=>af v H λv3=>cI 0 v3 k):=by
 simp only[aW,av,Nat.zero_add];refine aj hM (h.lb d (List.mem_append_right _ (List.mem_singleton_self _))) (v:=cC d.l) rfl ?_;show cI 0 (.int 0 _) _;rw[az];exact hk
end
theorem atG{n:Nat}{L:List (List (List Nat))}{lp:Nat}{r:List (List Nat)×Err}{b:List aP}(i:Nat){e:Nat×Nat}(h:((b.take i).foldl (kS n L lp) r).2=some e):(b.foldl (kS n L lp) r).2=some e:=by
 have h2:b.foldl (kS n L lp) r=(b.drop i).foldl (kS n L lp) ((b.take i).foldl (kS n L lp) r):=by
  rw[←List.foldl_append,List.take_append_drop]
 rw[h2];generalize (b.take i).foldl (kS n L lp) r=q at h;obtain⟨m,er⟩:=q;rw[SX];have h:er=some e:=h;subst h;rfl
end
end Go.X
namespace Go.Proofs.YtcedghechlgecaaGreatDoor
open Go Go.X Go.Proofs.YtcedghechlgecaaGreatDoor.G
section
variable {H H':AH}{S S':LS}{K:KF}
theorem Rp.last{lv:List bK}{d:bK}{z z' p l':Nat}{v:AV}{ns':List (List Nat)}(h:Rp (lv++[d]) z)(h1:z'≤z)(h2:ns'.length+z'≤d.ns.length+z)(h3:l'+z'≤d.l+z):Rp (lv++[bK.mk p v ns' l']) z':=by
 refine⟨?_,λa ha=>?_⟩
 ·have:=h.1;rw[List.length_append,List.length_singleton]at this ⊢;omega
 ·rcases List.mem_append.1 ha with g|g
  ·have:=h.2 a (List.mem_append_left _ g);omega
  ·rw[List.mem_singleton]at g;subst g;have:=h.2 d (List.mem_append_right _ (List.mem_singleton_self _));show ns'.length+z'≤_∧l'+z'≤_;omega
structure Yg(C:AH→KF→Prop)(n lo b:Nat)(S0:LS)(Aw:AV)(lv:List bK)(d0:bK)(L:List (List (List Nat)))(thn:List aO):Prop where
 run:∀{K:KF}{H:AH}{S:LS}{vL:AV}{d:bK},Pn lo b H S vL (lv++[d])→dL b S0 S Aw (lv++[d0]) vL (lv++[d])→d.p=d0.p→d.l=d0.l→lv.map bK.ns=L→Rp (lv++[d]) (iG thn+1)→PGo lo b S vL (lv++[d]) (cy (kE n L d.ns) thn) K→C H K
noncomputable def clo(ct:List (Nat×bQ))(t:AV):AH→KF→Prop:=λH K=>qR t λg x y=>bT (ew Tryz.prog g) (fY ct g (x++([]++y)) H K)
structure PB(F:AV→AV→AV→AH→KF→Prop)(C:AV→AH→KF→Prop)(n:Nat)(bd:List aP)(thn:List aO):Prop where
 run:∀{K:KF}{H:AH}{S:LS}{lo b:Nat}{vL v t:AV}{lv:List bK}{d:bK}{L:List (List (List Nat))},Pn lo b H S vL (lv++[d])→lv.map bK.ns=L→lz S (dQ lo) v bd→nR bd→Yg (C t) n lo b S vL lv d L thn→Rp (lv++[d]) (dW bd+iG thn+1)→PGs lo b S vL lv d (d.ns,kB (n+1) L d.l d.ns bd thn) K→F (.ptr b 0) v t H K
structure bE(F:AV→AV→AH→KF→Prop)(n:Nat)(s:aP):Prop where
 run:∀{K:KF}{H:AH}{S:LS}{lo b:Nat}{vL v:AV}{lv:List bK}{d:bK}{L:List (List (List Nat))},Pn lo b H S vL (lv++[d])→lv.map bK.ns=L→X6 S (dQ lo) v s→s.wg→Rp (lv++[d]) s.sz→PGs lo b S vL lv d (kS n L d.l (d.ns,none) s) K→F (.ptr b 0) v H K
theorem b20{R:iJ}{n:Nat}{bd:List aP}{thn:List aO}(h44:R.2.2.1=f115)(hS:∀s∈bd,bE R.2.2.2.1 n s):PB (acM R) (clo (jZ R)) n bd thn:=by
 refine⟨λ{K H S lo b vL v t lv d L} hP hL hb hwb hC hR hK=>?_⟩;have hbl:=SP bd;have hr1:=hR.1;have hd:d∈lv++[d]:=List.mem_append_right _ (List.mem_singleton_self _);have hrd:=hR.2 d hd;rw[List.length_append,List.length_singleton]at hr1;show IK R K (Af R K G.NL) (.ptr b 0) v t H;unfold IK;rw[h44];refine aoL hP.m hP.p (by omega) ?_;rw[aq];refine hP.p.NK hP.m ?_;refine(hP.p.ln d hd).len ?_;rw[az,List.length_map];refine hb.choose_spec.1.len ?_;rw[az];have kbE:∀{e:Nat×Nat},(bd.foldl (kS n L d.l) (d.ns,none)).2=some e→kB (n+1) L d.l d.ns bd thn=some e:=λh=>by
  rw[kB,h,xI]
 have loop:∀(q i:Nat) (di v':AV) (H':AH) (S':LS),i≤bd.length→bd.length-i<q→Pn lo b H' S' di (lv++[bK.mk d.p v' ((bd.take i).foldl (kS n L d.l) (d.ns,none)).1 d.l])→((bd.take i).foldl (kS n L d.l) (d.ns,none)).2=none→dL b S S' vL (lv++[d]) di (lv++[bK.mk d.p v' ((bd.take i).foldl (kS n L d.l) (d.ns,none)).1 d.l])→Af R K q (.ptr b 0) t (.ptr d.p 0) (d.ns.length:Int) v (bd.length:Int) (i:Int) H':=by
  intro q
  induction q with
  |zero=>intro i _ _ _ _ _ h;omega
  |succ q ih=>
   intro i di v' H' S' hi hq P1 he0 st1;show IJ R K (Af R K q) (II R K) (.ptr b 0) t (.ptr d.p 0) (d.ns.length:Int) v (bd.length:Int) (i:Int) H';unfold IJ;rw[bz];have lw:=hP.low st1;obtain⟨x,ex,hx⟩:=Yc n L d.l (bd.take i) (d.ns,none);have ex:((bd.take i).foldl (kS n L d.l) (d.ns,none)).1=d.ns++x:=ex;have hxl:((bd.take i).foldl (kS n L d.l) (d.ns,none)).1.length≤d.ns.length+dW (bd.take i):=by
    rw[ex,List.length_append];omega
   refine bY (λg=>?_) (λg=>?_)
   ·have hil:i<bd.length:=by omega
    obtain⟨s,hs⟩:∃s,bd[i]? = some s:=⟨_,List.getElem?_eq_getElem hil⟩
    have hsm:=List.mem_of_getElem? hs;have t1:=aoG hs;have t2:=NH bd (i+1);obtain⟨cl,s1,g1⟩:=SS hb lw;have e1:=g1 i s hs;refine s1.load P1.m hil ?_;refine oM P1.m (z:=[.int 0 (.ofNat 0),.int 0 (.ofNat 0),.ab,.ab,.ab]) (λa ha=>by
     simp only[List.mem_cons,List.not_mem_nil,or_false]at ha;rcases ha with rfl|rfl|rfl|rfl|rfl<;>rfl) rfl e1.len e1.ones λH2 S2 m2 x2 o2 n2=>?_
    refine gz m2 o2 e1.len ?_;have P2:=P1.ext m2 x2;have er:(bd.take i).foldl (kS n L d.l) (d.ns,none)=(((bd.take i).foldl (kS n L d.l) (d.ns,none)).1,none):=Prod.ext rfl he0;have enx:(bd.take (i+1)).foldl (kS n L d.l) (d.ns,none)=kS n L d.l (((bd.take i).foldl (kS n L d.l) (d.ns,none)).1,none) s:=by
     rw[NF hs,List.foldl_append,←er];rfl
    refine(hS s hsm).run P2 hL ⟨_,rfl,e1.go (λx hx=>x2.ob x (Nat.lt_of_lt_of_le hx P1.l)) λ_ h=>h⟩ (SW hwb hs) (hR.last (by omega) (by omega) (by omega)) ⟨λhn H3 S3 ll v3 P3 eQ=>?_,λe he=>?_⟩
    ·show cR K (.ret (.aE [])) H3 _;rw[aq,eo,fN];refine w0 (by omega) (by omega) ?_;have P3:Pn lo b H3 S3 ll (lv++[bK.mk d.p v3 (kS n L d.l (((bd.take i).foldl (kS n L d.l) (d.ns,none)).1,none) s).1 d.l]):=P3;have eQ:dL b S2 S3 di (lv++[bK.mk d.p v' ((bd.take i).foldl (kS n L d.l) (d.ns,none)).1 d.l]) ll (lv++[bK.mk d.p v3 (kS n L d.l (((bd.take i).foldl (kS n L d.l) (d.ns,none)).1,none) s).1 d.l]):=eQ;have hn:(kS n L d.l (((bd.take i).foldl (kS n L d.l) (d.ns,none)).1,none) s).2=none:=hn;rw[←enx]at P3 eQ hn;exact ih (i+1) ll v3 H3 S3 (by omega) (by omega) P3 hn (st1.trans (x2.pM.trans eQ))
    ·intro H3 S3 m3 n3 k3;show cR K (.cj _) H3 _;rw[dt];have he:(kS n L d.l (((bd.take i).foldl (kS n L d.l) (d.ns,none)).1,none) s).2=some e:=he;rw[←enx]at he;refine hK.2 e (kbE (atG (i+1) he)) H3 S3 m3 (by have:=st1.n;have:=x2.n;omega) λx hx=>?_;rw[k3 x hx,x2.ob x (Nat.lt_of_lt_of_le hx P1.l),lw x hx]
   ·have e:i=bd.length:=by omega
    subst e;rw[List.take_length]at P1 he0 st1 ex hxl;unfold II;refine hC.run (K:=λo1 H2=>cR K o1 H2 _) P1 st1 rfl rfl hL (hR.last (by omega) (by omega) (by omega)) ⟨λhn H3 S3 ll P3 eQ=>?_,λe he=>?_⟩
    ·show cR K (.ret (.aE [])) H3 _;rw[aq];refine P3.p.NK P3.m ?_;refine P3.p.cut P3.m P3.l (ns:=d.ns) (e:=x) ex λH4 S4 v4 m4 lA p4=>?_;refine hK.1 ?_ H4 S4 ll v4 (P3.step m4 lA p4) (st1.trans (eQ.trans lA));show kB (n+1) L d.l d.ns bd thn=none;rw[kB,he0,dk];exact hn
    ·intro H3 S3 m3 n3 k3;show cR K (.cj _) H3 _;rw[dt];refine hK.2 e ?_ H3 S3 m3 (by have:=st1.n;omega) λx hx=>?_
     ·show kB (n+1) L d.l d.ns bd thn=some e;rw[kB,he0,dk];exact he
     ·rw[k3 x hx,lw x hx]
 have cQ:G.NL=1000000:=rfl;generalize G.NL=iC at cQ ⊢;exact loop iC 0 vL d.v H S (Nat.zero_le _) (by omega) hP rfl dL.refl
theorem aqk{C:AH→KF→Prop}{n lo b:Nat}{S0:LS}{Aw:AV}{lv:List bK}{d0:bK}{L:List (List (List Nat))}(h:∀H K,K (.ret (.aE [])) H→C H K):Yg C n lo b S0 Aw lv d0 L []:=
 ⟨λ{K H S vL d} hP _ _ _ _ _ hK=>h H K (hK.1 rfl H S vL hP dL.refl)⟩
theorem PB.zero{F:AV→AV→AV→AH→KF→Prop}{C:AV→AH→KF→Prop}{n:Nat}{bd:List aP}{t:AV}(h:PB F C n bd [])(ht:∀H K,K (.ret (.aE [])) H→C t H K):NJ F t (n+1) bd:=
 ⟨λhP hL hb hw hR hK=>h.run hP hL hb hw (aqk ht) (hR.le (by simp only[iG];omega)) hK⟩
section
variable {R:iJ}
theorem awK(h:R.2.1=f83):∀H K,K (.ret (.aE [])) H→clo (jZ R) (.func 83 [] []) H K:=λH K hk=>by
 show bT (ew Tryz.prog 83) (fY (jZ R) 83 [] H K);refine bA (by kernel_rfl) ?_;show R.2.1 H K;rw[h];exact hk
theorem awL(h:R.2.2.2.2.2.2.2.1=f143):∀H K,K (.ret (.aE [])) H→clo (jZ R) (.func 143 [] []) H K:=λH K hk=>by
 show bT (ew Tryz.prog 143) (fY (jZ R) 143 [] H K);refine bA (by kernel_rfl) ?_;show R.2.2.2.2.2.2.2.1 H K;rw[h];exact hk
theorem awM(h:R.2.2.2.2.2.2.2.2.2.2.2.2.1=f170):∀H K,K (.ret (.aE [])) H→clo (jZ R) (.func 170 [] []) H K:=λH K hk=>by
 show bT (ew Tryz.prog 170) (fY (jZ R) 170 [] H K);refine bA (by kernel_rfl) ?_;show R.2.2.2.2.2.2.2.2.2.2.2.2.1 H K;rw[h];exact hk
theorem awN(h:R.2.2.2.2.2.2.2.2.2.2.2.2.2.2.2=f188):∀H K,K (.ret (.aE [])) H→clo (jZ R) (.func 188 [] []) H K:=λH K hk=>by
 show bT (ew Tryz.prog 188) (fY (jZ R) 188 [] H K);refine bA (by kernel_rfl) ?_;show R.2.2.2.2.2.2.2.2.2.2.2.2.2.2.2 H K;rw[h];exact hk
theorem awO{R:jE}(h:R.2.2.2.2.1=f141):∀H K,K (.ret (.aE [])) H→clo (lS R) (.func 141 [] []) H K:=λH K hk=>by
 show bT (ew Tryz.prog 141) (fY (lS R) 141 [] H K);refine bA (by kernel_rfl) ?_;show R.2.2.2.2.1 H K;rw[h];exact hk
end
end
end Go.Proofs.YtcedghechlgecaaGreatDoor
namespace Go.X
section
variable {H:AH}{S S':LS}
section
variable {lo b:Nat}{vL:AV}{lv:List bK}{d:bK}
theorem gm.app'{Q:Nat→Prop}{z:Nat}{a1:AV}{l:List (List Nat)}{k:AH→Prop}(h:gm lo b S vL (lv++[d]))(hM:Mem H S)(hlo:lo≤S.n)(hz:S.ob z=.ce [.ptr d.p 0] 0)(hzl:z<S.n)(hzo:¬mZ b vL (lv++[d]) z)(hr:mC S Q a1 (l.map ak))(h8:∀t∈l,B8 t)(hl:d.ns.length+l.length≤1000000)
  (hk:∀H' S' v',Mem H' S'→dL b S S' vL (lv++[d]) vL (lv++[{ d with v:=v',ns:=d.ns++l }])→gm lo b S' vL (lv++[{ d with v:=v',ns:=d.ns++l }])→k H'):cV 1 16 d.v a1 H λv14 dH=>af (.ptr z 0) dH λv9=>bT (aH v9 (.ptr d.p 0)) (aC (.ptr d.p 0) (ah 0 (.ptr d.p 0) λv16=>ag 1 v16 v14 dH k)):=by
 have hd:d∈lv++[d]:=List.mem_append_right _ (List.mem_singleton_self _);have hdp:d.p<S.n:=h.bX hM (.inr (.inr ⟨d,hd,.inl rfl⟩));have hbb:((d.ns.map ak).length+(l.map ak).length)*16≤1099511627776:=by
  rw[List.length_map,List.length_map];omega
 refine G6 hM (h.ln d hd) hr hbb (λa ha=>by obtain⟨t,_,rfl⟩:=List.mem_map.1 ha;rfl) λH1 S1 v1 m1 n1 k1 f1 b1 _ _ _=>?_;have e1:S1.ob d.p=.ce [d.v,cC d.l] 0:=(k1 _ hdp (h.pv d hd)).trans (h.lb d hd);refine aj m1 ((k1 z hzl λg=>hzo (.inr (.inr ⟨d,hd,.inr g⟩))).trans hz) (v:=.ptr d.p 0) rfl ?_;refine bA (by simp[aH]) ?_;simp only[aW,av,Nat.zero_add];refine aS m1 e1 (by omega) (by show 0<2;omega) f1.one λH2 m2=>?_;have m2:Mem H2 (S1.set d.p (.ce [v1,cC d.l] 0)):=m2;have k2:∀x,x≠d.p→(S1.set d.p (.ce [v1,cC d.l] 0)).ob x=S1.ob x:=λx hx=>LS.ao _ _ hx;have hpv:¬aF v1 d.p:=λg=>(b1 _ g).elim (h.pv d hd) (by omega);have hk3:∀x,x<S.n→x≠d.p→¬aF d.v x→(S1.set d.p (.ce [v1,cC d.l] 0)).ob x=S.ob x:=λx hx hne hb=>(k2 x hne).trans (k1 x hx hb);refine hk H2 _ v1 m2 (h.pM rfl b1 n1 hk3) (h.upd hM rfl (LS.au _ _ _) ?_ ?_ hpv b1 hlo hk3)
 ·show ij _ v1 ((d.ns++l).map ak);rw[List.map_append];exact f1.keep m1 λx hx _=>k2 x λg=>hpv (g ▸ hx)
 ·intro t ht;exact(List.mem_append.1 ht).elim (h.n8 d hd t) (h8 t)
theorem az7{g:Nat}{x y:List AV}{k:AV→AH→Prop}(hM:Mem H S)(hk:∀H' S',Mem H' S'→Ext S S'→S'.ob S.n=.ce [.func g x y] 0→S'.n=S.n+1→k (.ptr S.n 0) H'):kc (aA H) (.func g x y) k:=by
 show dC (aA H) [.func g x y] k;exact bF hM (λa ha=>by simp only[List.mem_singleton]at ha;subst ha;rfl) λH1 m1=>hk H1 _ m1 (Ext.push _ _) (LS.al _ _) rfl
theorem afp{p o:Nat}{k:AV→AH→Prop}(hM:Mem H S)(hk:∀H' S',Mem H' S'→Ext S S'→S'.ob S.n=.ce [.ptr p o] 0→S'.n=S.n+1→k (.ptr S.n 0) H'):kc (aA H) (.ptr p o) k:=by
 show dC (aA H) [.ptr p o] k;exact bF hM (λa ha=>by simp only[List.mem_singleton]at ha;subst ha;rfl) λH1 m1=>hk H1 _ m1 (Ext.push _ _) (LS.al _ _) rfl
theorem box1{v z:AV}{k:AV→AH→Prop}(hM:Mem H S)(hz:z.one=true)(h1:v.one=true)(hk:∀H' S',Mem H' S'→Ext S S'→S'.ob S.n=.ce [v] 0→S'.n=S.n+1→k (.ptr S.n 0) H'):cm H (dC (aA H) [z] λv8 H9=>ag 1 v8 v H9 λbo=>k v8 bo):=by
 refine bZ (bF hM (λa ha=>by simp only[List.mem_singleton]at ha;subst ha;exact hz) λH1 m1=>?_);refine aS m1 (LS.al _ _) (by omega) (by show 0<1;omega) h1 λH2 m2=>?_;exact hk H2 _ m2 ((Ext.push S _).set (Nat.le_refl _) _) (LS.au _ _ _) rfl
end
end
end Go.X
namespace Go.Proofs.YtcedghechlgecaaGreatDoor
open Go Go.X Go.Proofs.YtcedghechlgecaaGreatDoor.G
section
variable {H H':AH}{S S':LS}{K:KF}
theorem az8{SY:iJ}{rJ:jE}{a6 a5 n lo b l1:Nat}{t vLb Aw:AV}{Sb S0:LS}{lv:List bK}{db d0:bK}{L:List (List (List Nat))}{thn:List aO}(h:SY.2.2.2.2.2.2.2.2.2.2.2.1=CQ rJ)(o6:S0.ob a6=.ce [.ptr d0.p 0] 0)(o5:S0.ob a5=.ce [t] 0)(l6:a6<S0.n)(l5:a5<S0.n)(w6:¬mZ b Aw (lv++[d0]) a6)(w5:¬mZ b Aw (lv++[d0]) a5)(hl:d0.l=l1+1)(hb:dL b Sb S0 vLb (lv++[db]) Aw (lv++[d0]))(hp:db.p=d0.p)(hdl:db.l=l1)(hT:Yg (clo (lS rJ) t) n lo b Sb vLb lv db L thn):Yg (clo (jZ SY) (.func 169 [] [.ptr a6 0,.ptr a5 0])) n lo b S0 Aw lv d0 L thn:=by
 refine⟨λ{K H S vL d} hP st Yh hld hL hR hK=>?_⟩;obtain⟨p,v,ns,l⟩:=d;have Yh:p=d0.p:=Yh;have hld:l=d0.l:=hld;have hrl:l+(iG thn+1)≤800000:=(hR.2 (bK.mk p v ns l) (List.mem_append_right _ (List.mem_singleton_self _))).2;show bT (ew Tryz.prog 169) (fY (jZ SY) 169 [.ptr a6 0,.ptr a5 0] H K);refine bA (by kernel_rfl) ?_;show SY.2.2.2.2.2.2.2.2.2.2.2.1 (.ptr a6 0) (.ptr a5 0) H K;rw[h];show ES rJ K (Ap rJ K) (.ptr a6 0) (.ptr a5 0) H;unfold ES;have o6':=(st.ob _ l6 w6).trans o6;rw[←Yh]at o6';refine aj hP.m o6' (v:=.ptr p 0) rfl ?_;refine hP.p.ldl hP.m ?_;show aJ 0 (Int.sub (l:Int) (.ofNat 1)) _;simp only[wH,fN];refine w0 (by omega) (by omega) ?_;have el:(l:Int)-1=((l1:Nat):Int):=by omega
 rw[el];refine hP.p.lD (r:=l1) hP.m hP.l λH1 S1 m1 st1 p1=>?_;have st1:dL b S S1 vL (lv++[bK.mk p v ns l]) vL (lv++[bK.mk p v ns l1]):=st1;have p1:gm lo b S1 vL (lv++[bK.mk p v ns l1]):=p1;have P1:=hP.step m1 st1 p1;have o5':S1.ob a5=.ce [t] 0:=((st.trans st1).ob _ l5 w5).trans o5;refine aj m1 o5' (v:=t) rfl ?_;refine hT.run (K:=λo9 bo=>cR K o9 bo λv11=>Ap rJ K (.ptr a6 0) bo) P1 (hb.trans (st.trans st1)) (Yh.trans hp.symm) hdl.symm hL (hR.last (Nat.le_refl _) (Nat.le_refl _) (by show l1+_≤l+_;omega)) ⟨λhn H2 S2 BF P2 st2=>?_,λe he H2 S2 m2 n2 k2=>?_⟩
 ·show cR K (.ret (.aE [])) H2 _;rw[aq];unfold Ap;have az9:S2.ob a6=.ce [.ptr p 0] 0:=by
   rw[Yh];exact((st.trans (st1.trans st2)).ob _ l6 w6).trans o6
  refine aj P2.m az9 (v:=.ptr p 0) rfl ?_;refine P2.p.ldl P2.m ?_;show aJ 0 (Int.add (l1:Int) (.ofNat 1)) _;simp only[eo,fN];refine w0 (by omega) (by omega) ?_;have el:(l1:Int)+1=((l:Nat):Int):=by omega
  rw[el];refine P2.p.lD (r:=l) P2.m P2.l λH3 S3 m3 eQ p3=>?_;have eQ:dL b S2 S3 BF (lv++[bK.mk p v ns l1]) BF (lv++[bK.mk p v ns l]):=eQ;have p3:gm lo b S3 BF (lv++[bK.mk p v ns l]):=p3;exact hK.1 hn H3 S3 BF (P2.step m3 eQ p3) (st1.trans (st2.trans eQ))
 ·show cR K (.cj _) H2 _;rw[dt];exact hK.2 e he H2 S2 m2 (by have:=st1.n;omega) λx hx=>(k2 x hx).trans (hP.low st1 x hx)
theorem aAa{rJ:jE}{Yi:rr}{a2 a3 n lo b k a:Nat}{Aw wn wl wb:AV}{H0:AH}{S0:LS}{lv:List bK}{d0:bK}{L:List (List (List Nat))}{l:List aO}(h:rJ.2.2.2.1=CO Yi)(hX:Ye Yi n l)(hP0:Pn lo b H0 S0 Aw (lv++[d0]))(o2:S0.ob a2=.ce [.ptr b 0] 0)(o3:S0.ob a3=.ce [.int 0 (k:Int),.int 0 (a:Int),wn,wl,wb] 0)(l2:a2<S0.n)(l3:a3<S0.n)(w2:¬mZ b Aw (lv++[d0]) a2)(w3:¬mZ b Aw (lv++[d0]) a3)(hv:xB S0 (dQ lo) wl l)(hw:Gr l):Yg (clo (lS rJ) (.func 140 [] [.ptr a2 0,.ptr a3 0])) n lo b S0 Aw lv d0 L l:=by
 refine⟨λ{K H S vL d} hP st Yh hld hL hR hK=>?_⟩;show bT (ew Tryz.prog 140) (fY (lS rJ) 140 [.ptr a2 0,.ptr a3 0] H K);refine bA (by kernel_rfl) ?_;show rJ.2.2.2.1 (.ptr a2 0) (.ptr a3 0) H K;rw[h];show EG Yi K (.ptr a2 0) (.ptr a3 0) H;unfold EG;refine aj hP.m ((st.ob _ l2 w2).trans o2) (v:=.ptr b 0) rfl ?_;refine nQ ((st.ob _ l3 w3).trans o3) hP.m (j:=3) rfl ?_;refine hX.run hP (L:=L) (ns:=d.ns) (by rw[List.map_append,hL];rfl) (Bo hv (hP0.low st)) hw (hR.le (by omega)) ⟨λhn H2 S2 BF P2 st2=>?_,λe he H2 S2 m2 n2 k2=>?_⟩
 ·show cR K (.ret (.aE [])) H2 _;rw[aq];exact hK.1 hn H2 S2 BF P2 st2
 ·show cR K (.cj _) H2 _;rw[dt];exact hK.2 e he H2 S2 m2 n2 k2
structure PLp(F:AV→AV→AV→AH→KF→Prop)(C2:AV→AH→KF→Prop)(n k a:Nat)(nm:List (List Nat))(l:List aO)(bs:List (List aP))(thn:List aO):Prop where
 run:∀{K:KF}{H:AH}{S:LS}{lo b g:Nat}{vL v:AV}{ys:List AV}{lv:List bK}{d:bK}{L:List (List (List Nat))},Pn lo b H S vL (lv++[d])→lv.map bK.ns=L→X6 S (dQ lo) v (.mk k a nm l bs)→SU bs→Yg (C2 (.func g [] ys)) n lo b S vL lv d L thn→Rp (lv++[d]) (nm.length+qd bs+iG thn+1)→PGs lo b S vL lv d (d.ns,cy (λbd=>kB (n+1) L (d.l+1) (if k=5∨k=8 then d.ns else d.ns++nm) bd thn) bs) K→F (.ptr b 0) v (.func g [] ys) H K
theorem l63{R:dd}{SY:iJ}{rJ:jE}{n k a:Nat}{nm:List (List Nat)}{l:List aO}{bs:List (List aP)}{thn:List aO}(h44:R.2=f115)(h78:SY.2.2.2.2.2.2.2.2.2.2.2.1=CQ rJ)(hB:∀bd∈bs,PB R.1 (clo (jZ SY)) n bd thn):PLp (IP R) (clo (lS rJ)) n k a nm l bs thn:=by
 refine⟨λ{K H S lo b g vL v ys lv d L} hP hL hv hwb hC hR hK=>?_⟩;obtain⟨c,rfl,e1⟩:=hv;have hbl:=Bl bs;have hr1:=hR.1;have hd:∀d':bK,d'∈lv++[d']:=λd'=>List.mem_append_right _ (List.mem_singleton_self _);have hrd:=hR.2 d (hd d);rw[List.length_append,List.length_singleton]at hr1;have i5:Int.ofNat 5=((5:Nat):Int):=rfl;have i8:Int.ofNat 8=((8:Nat):Int):=rfl;show EF R K (EE R K (ED R K (vY R K (oC R K G.NL))) (vY R K (oC R K G.NL))) (.ptr b 0) (.agg c) (.func g [] ys) H;unfold EF;have cQ:G.NL=1000000:=rfl;generalize G.NL=iC at cQ ⊢;refine Gs hP.m e1.ones λH1 S1 m1 x1 o1 n1=>?_;obtain⟨wn,wl,wb,rfl,N0,L0,B0⟩:=e1.out;refine az7 m1 λH2 S2 m2 x2 o2 n2=>?_;have P2:=hP.ext m2 (x1.trans x2);rw[h44];refine aoL m2 P2.p (by omega) ?_;rw[aq];refine box1 m2 rfl rfl λH3 S3 m3 x3 o3 n3=>?_;have P3:=P2.ext m3 x3;have xe:=x1.trans (x2.trans x3);have yX:∀x,S.n≤x→¬mZ b vL (lv++[d]) x:=λx hx g=>by have:=hP.p.bX hP.m g;omega
 have q1:S3.ob S.n=.ce [.int 0 (k:Int),.int 0 (a:Int),wn,wl,wb] 0:=(x3.ob _ (by omega)).trans ((x2.ob _ (by omega)).trans o1);have q2:S3.ob S1.n=.ce [.func g [] ys] 0:=(x3.ob _ (by omega)).trans o2;have afq:dL b S S3 vL (lv++[d]) vL (lv++[d]):=xe.pM;have aoN:=hP.low afq;refine aj m3 o3 (v:=.ptr d.p 0) rfl ?_;refine P3.p.NK m3 ?_;refine(P3.p.ln d (hd d)).len ?_;rw[az,List.length_map];have tail:∀(x rK:List (List Nat)) (H4:AH) (S4:LS) (v4:AV),rK=d.ns++x→x.length≤nm.length→rK=(if k=5∨k=8 then d.ns else d.ns++nm)→Pn lo b H4 S4 vL (lv++[bK.mk d.p v4 rK d.l])→dL b S3 S4 vL (lv++[d]) vL (lv++[bK.mk d.p v4 rK d.l])→vY R K (oC R K iC) (.ptr b 0) (.ptr S.n 0) (.ptr S1.n 0) (.ptr S2.n 0) (d.ns.length:Int) H4:=λx rK H4 S4 v4 hx hxl hns P4 lA=>by
  rw[←hns]at hK;have hnl:rK.length≤d.ns.length+nm.length:=by
   rw[hx,List.length_append];omega
  unfold vY;refine nQ ((lA.ob _ (by omega) (yX _ (Nat.le_refl _))).trans q1) P4.m (j:=4) rfl ?_;have B3:=Bp B0 aoN;refine(Bp B3 (P3.low lA)).choose_spec.1.len ?_;rw[az];have loop:∀(q i:Nat) (di v':AV) (H':AH) (S':LS),i≤bs.length→bs.length-i<q→Pn lo b H' S' di (lv++[bK.mk d.p v' rK d.l])→cy (λbd=>kB (n+1) L (d.l+1) rK bd thn) (bs.take i)=none→dL b S3 S' vL (lv++[d]) di (lv++[bK.mk d.p v' rK d.l])→oC R K q (.ptr b 0) (.ptr S1.n 0) (.ptr S2.n 0) (d.ns.length:Int) wb (bs.length:Int) (i:Int) H':=by
   intro q
   induction q with
   |zero=>intro i _ _ _ _ _ h;omega
   |succ q ih=>
    intro i di v' H' S' hi hq P5 he0 NM;show EC R K (Ak R K (Aj R K (oC R K q))) (EB R K) (.ptr b 0) (.ptr S1.n 0) (.ptr S2.n 0) (d.ns.length:Int) wb (bs.length:Int) (i:Int) H';unfold EC;rw[bz];have bx:∀{S6:LS}{Yj:AV}{Yk:List bK},dL b S3 S6 vL (lv++[d]) Yj Yk→S6.ob S2.n=.ce [.ptr d.p 0] 0:=λst=>(st.ob _ (by omega) (yX _ (by omega))).trans o3;have by':∀{S6:LS}{Yj:AV}{Yk:List bK},dL b S3 S6 vL (lv++[d]) Yj Yk→S6.ob S1.n=.ce [.func g [] ys] 0:=λst=>(st.ob _ (by omega) (yX _ (by omega))).trans q2;have no6:∀{S6:LS}{Yj:AV}{Yk:List bK}(x:Nat),dL b S3 S6 vL (lv++[d]) Yj Yk→S.n≤x→x<S3.n→¬mZ b Yj Yk x:=λx st h1 h2 w=>(st.own _ w).elim (yX _ h1) (by omega);refine bY (λhg=>?_) (λhg=>?_)
    ·have hil:i<bs.length:=by omega
     obtain⟨bd,hbd⟩:∃bd,bs[i]? = some bd:=⟨_,List.getElem?_eq_getElem hil⟩
     have hbm:=List.mem_of_getElem? hbd;have hsz:=xF hbd;obtain⟨bv,s1,g1⟩:=Bp B3 (P3.low NM);have b1:=g1 i bd hbd;refine s1.E0 P5.m hil ?_;refine aj P5.m (bx NM) (v:=.ptr d.p 0) rfl ?_;refine P5.p.ldl P5.m ?_;show aJ 0 (Int.add (d.l:Int) (.ofNat 1)) _;simp only[eo,fN];refine w0 (by omega) (by omega) ?_;have el:(d.l:Int)+1=((d.l+1:Nat):Int):=by omega
     rw[el];refine P5.p.lD (r:=d.l+1) P5.m P5.l λH6 S6 m6 NN p6=>?_;have NN:dL b S' S6 di (lv++[bK.mk d.p v' rK d.l]) di (lv++[bK.mk d.p v' rK (d.l+1)]):=NN;have p6:gm lo b S6 di (lv++[bK.mk d.p v' rK (d.l+1)]):=p6;have P6:=P5.step m6 NN p6;have Bs:=NM.trans NN;show Ak R K (Aj R K (oC R K q)) (.ptr b 0) (.ptr S1.n 0) (.ptr S2.n 0) (d.ns.length:Int) (bv i) wb (bs.length:Int) (i:Int) H6;unfold Ak;have n36:=Bs.n;refine(hB bd hbm).run P6 hL (SS b1 (P5.low NN)) (Br hwb hbd) (az8 h78 (bx Bs) (by' Bs) (by omega) (by omega) (no6 _ Bs (by omega) (by omega)) (no6 _ Bs (by omega) (by omega)) rfl (afq.trans Bs) rfl rfl hC) (hR.last (by omega) (by omega) (by omega)) ⟨λhn H7 S7 uM v7 P7 NO=>?_,λe he H7 S7 m7 n7 k7=>?_⟩
     ·show cR K (.ret (.aE [])) H7 _;rw[aq];have P7:Pn lo b H7 S7 uM (lv++[bK.mk d.p v7 rK (d.l+1)]):=P7;have NO:dL b S6 S7 di (lv++[bK.mk d.p v' rK (d.l+1)]) uM (lv++[bK.mk d.p v7 rK (d.l+1)]):=NO;refine aj P7.m (bx (Bs.trans NO)) (v:=.ptr d.p 0) rfl ?_;refine P7.p.ldl P7.m ?_;show aJ 0 (Int.sub ((d.l+1:Nat):Int) (.ofNat 1)) _;simp only[wH,fN];refine w0 (by omega) (by omega) ?_;have el:((d.l+1:Nat):Int)-1=(d.l:Int):=by omega
      rw[el];refine P7.p.lD (r:=d.l) P7.m P7.l λH8 S8 m8 Fy p8=>?_;have Fy:dL b S7 S8 uM (lv++[bK.mk d.p v7 rK (d.l+1)]) uM (lv++[bK.mk d.p v7 rK d.l]):=Fy;have p8:gm lo b S8 uM (lv++[bK.mk d.p v7 rK d.l]):=p8;unfold Aj;rw[eo,fN];refine w0 (by omega) (by omega) ?_;refine ih (i+1) uM v7 H8 S8 (by omega) (by omega) (P7.step m8 Fy p8) ?_ (Bs.trans (NO.trans Fy));rw[lk _ _ _ hbd,he0,dk];exact hn
     ·show cR K (.cj _) H7 _;rw[dt];refine hK.2 e ?_ H7 S7 m7 (by have:=afq.n;omega) λx hx=>?_
      ·refine Av _ _ (i+1) ?_;rw[lk _ _ _ hbd,he0,dk];exact he
      ·rw[k7 x hx,P3.low Bs x hx,aoN x hx]
    ·have e:i=bs.length:=by omega
     subst e;rw[List.take_length]at he0;unfold EB;refine aj P5.m (bx NM) (v:=.ptr d.p 0) rfl ?_;refine aj P5.m (bx NM) (v:=.ptr d.p 0) rfl ?_;refine P5.p.NK P5.m ?_;refine P5.p.cut P5.m P5.l (ns:=d.ns) (e:=x) hx λH6 S6 v6 m6 NN p6=>?_;exact hK.1 he0 H6 S6 di v6 (P5.step m6 NN p6) (afq.trans (NM.trans NN))
  exact loop iC 0 vL v4 H4 S4 (Nat.zero_le _) (by omega) P4 rfl lA
 unfold EE;refine nQ q1 m3 (j:=0) rfl ?_;rw[az,bD,i5];by_cases k5:k=5
 ·rw[decide_eq_true (by omega)];simp only[Bool.not_true,aw];exact tail [] d.ns H3 S3 d.v (by simp) (by simp) (by rw[if_pos (.inl k5)]) P3 dL.refl
 rw[decide_eq_false (by omega)];simp only[Bool.not_false,aG];refine nQ q1 m3 (j:=0) rfl ?_;rw[az,bD,i8];by_cases k8:k=8
 ·rw[decide_eq_true (by omega)];simp only[Bool.not_true,aw];exact tail [] d.ns H3 S3 d.v (by simp) (by simp) (by rw[if_pos (.inr k8)]) P3 dL.refl
 rw[decide_eq_false (by omega)];simp only[Bool.not_false,aG];unfold ED;refine aj m3 o3 (v:=.ptr d.p 0) rfl ?_;refine aj m3 o3 (v:=.ptr d.p 0) rfl ?_;refine P3.p.NK m3 ?_;refine nQ q1 m3 (j:=2) rfl ?_;refine P3.p.app' m3 P3.l o3 (by omega) (yX _ (by omega)) (Ja (awB N0 aoN)) N0.2 (by omega) λH4 S4 v4 m4 lA p4=>?_;exact tail nm (d.ns++nm) H4 S4 v4 rfl (Nat.le_refl _) (by rw[if_neg (by omega)]) (P3.step m4 lA p4) lA
end
end Go.Proofs.YtcedghechlgecaaGreatDoor
namespace Go.X
theorem ayk{m:Nat}{k:AV→Prop}(hm:1≤m)(h:k (.int 0 ((1:Nat):Int))):oh xW [.int 0 (m:Int)] (.int 0 (.ofNat 1)) k:=by
 have e1:Int.ofNat 1=((1:Nat):Int):=rfl;show bI (bO (m:Int) (.ofNat 1)) (oh xW [] (.int 0 (m:Int)) k) (oh xW [] (.int 0 (.ofNat 1)) k);rw[e1,bz,decide_eq_false (by omega),aw];exact h
theorem SZ(f:Nat→Err){i m:Nat}(h:i≤m){e:Nat×Nat}(he:cy f (List.range i)=some e):cy f (List.range m)=some e:=by
 obtain⟨j,rfl⟩:∃j,m=i+j:=⟨m-i,by omega⟩
 rw[List.range_add,xJ,he];rfl
end Go.X
namespace Go.Proofs.YtcedghechlgecaaGreatDoor
open Go Go.X Go.Proofs.YtcedghechlgecaaGreatDoor.G
section
variable {H H':AH}{S S':LS}{K:KF}
structure PCh(F:AV→AV→AH→KF→Prop)(n k a:Nat)(nm:List (List Nat))(l:List aO)(bs:List (List aP)):Prop where
 run:∀{K:KF}{H:AH}{S:LS}{lo b:Nat}{vL v:AV}{lv:List bK}{d:bK}{L:List (List (List Nat))},Pn lo b H S vL (lv++[d])→lv.map bK.ns=L→X6 S (dQ lo) v (.mk k a nm l bs)→Gr l→SU bs→Rp (lv++[d]) (iG l+qd bs)→PGs lo b S vL lv d (d.ns,cy (λi=>fl (cy (kE n L d.ns) (l[i]?.toList)) (kB n L d.l d.ns (bs[i]?.getD []) [])) (List.range bs.length)) K→F (.ptr b 0) v H K
theorem aAb{R:gy}{n k a:Nat}{nm:List (List Nat)}{l:List aO}{bs:List (List aP)}(hX:∀e∈l,PE R.2 n e)(hB:∀bd∈bs,NJ R.1 (.func 170 [] []) n bd):PCh (Rq R) n k a nm l bs:=by
 refine⟨λ{K H S lo b vL v lv d L} hP hL hv hwl hwb hR hK=>?_⟩;obtain⟨c,rfl,e1⟩:=hv;have hbl:=Bl bs;have hll:=xG l;have hr1:=hR.1;have hd:∀d':bK,d'∈lv++[d']:=λd'=>List.mem_append_right _ (List.mem_singleton_self _);have hrd:=hR.2 d (hd d);rw[List.length_append,List.length_singleton]at hr1;show EI R K (sK R K G.NL) (.ptr b 0) (.agg c) H;unfold EI;have cQ:G.NL=1000000:=rfl;generalize G.NL=iC at cQ ⊢;refine Gs hP.m e1.ones λH1 S1 m1 x1 o1 n1=>?_;obtain⟨wn,wl,wb,rfl,N0,L0,B0⟩:=e1.out;have P1:=hP.ext m1 x1;have st01:dL b S S1 vL (lv++[d]) vL (lv++[d]):=x1.pM;have MI:=hP.low st01;have bx:∀{S2:LS}{BF:AV}{lv2:List bK},dL b S1 S2 vL (lv++[d]) BF lv2→S2.ob S.n=.ce [.int 0 (k:Int),.int 0 (a:Int),wn,wl,wb] 0:=λst=>(st.ob _ (by omega) hP.new).trans o1;refine nQ o1 m1 (j:=4) rfl ?_;have B1:=Bp B0 MI;have L1:=Bo L0 MI;refine B1.choose_spec.1.len ?_;rw[az];have hlv:∀v',(lv++[bK.mk d.p v' d.ns d.l]).map bK.ns=L++[d.ns]:=λv'=>by rw[List.map_append,hL];rfl
 have loop:∀(q i:Nat) (di v':AV) (H':AH) (S':LS),i≤bs.length→bs.length-i<q→Pn lo b H' S' di (lv++[bK.mk d.p v' d.ns d.l])→cy (λi=>fl (cy (kE n L d.ns) (l[i]?.toList)) (kB n L d.l d.ns (bs[i]?.getD []) [])) (List.range i)=none→dL b S1 S' vL (lv++[d]) di (lv++[bK.mk d.p v' d.ns d.l])→sK R K q (.ptr b 0) (.ptr S.n 0) wb (bs.length:Int) (i:Int) H':=by
  intro q
  induction q with
  |zero=>intro i _ _ _ _ _ h;omega
  |succ q ih=>
   intro i di v' H' S' hi hq P2 he0 st2;show EH R K (Am R K (Al R K (sK R K q))) (.ptr b 0) (.ptr S.n 0) wb (bs.length:Int) (i:Int) H';unfold EH;rw[bz];refine bY (λhg=>?_) (λhg=>?_)
   rotate_left
   ·have e:i=bs.length:=by omega
    subst e;exact hK.1 he0 H' S' di v' P2 (st01.trans st2)
   have hil:i<bs.length:=by omega
   obtain⟨bd,hbd⟩:∃bd,bs[i]? = some bd:=⟨_,List.getElem?_eq_getElem hil⟩
   have hsz:=xF hbd;obtain⟨bv,s1,g1⟩:=Bp B1 (P1.low st2);have b1:=g1 i bd hbd;refine s1.E0 P2.m hil ?_;have blk:∀(H3:AH) (S3:LS) (ll:AV),cy (kE n L d.ns) (l[i]?.toList)=none→Pn lo b H3 S3 ll (lv++[bK.mk d.p v' d.ns d.l])→dL b S' S3 di (lv++[bK.mk d.p v' d.ns d.l]) ll (lv++[bK.mk d.p v' d.ns d.l])→Am R K (Al R K (sK R K q)) (.ptr b 0) (.ptr S.n 0) (bv i) wb (bs.length:Int) (i:Int) H3:=λH3 S3 ll hen P3 eQ=>by
    unfold Am;have esp:cy (λi=>fl (cy (kE n L d.ns) (l[i]?.toList)) (kB n L d.l d.ns (bs[i]?.getD []) [])) (List.range (i+1))=kB n L d.l d.ns bd []:=by
     rw[Yd,he0,dk,hen,dk,hbd];rfl
    refine(hB bd (List.mem_of_getElem? hbd)).run P3 hL (SS b1 (P2.low eQ)) (Br hwb hbd) (hR.last (by omega) (Nat.add_le_add_left (by omega) _) (Nat.add_le_add_left (by omega) _)) ⟨λhn H4 S4 Jf v4 P4 lA=>?_,λe he H4 S4 m4 n4 k4=>?_⟩
    ·show cR K (.ret (.aE [])) H4 _;rw[aq];unfold Al;rw[eo,fN];refine w0 (by omega) (by omega) ?_;exact ih (i+1) Jf v4 H4 S4 (by omega) (by omega) P4 (esp.trans hn) (st2.trans (eQ.trans lA))
    ·show cR K (.cj _) H4 _;rw[dt];refine((hK.2 e ?_).le (st01.trans (st2.trans eQ)).n (hP.low (st01.trans (st2.trans eQ)))) H4 S4 m4 n4 k4;exact SZ _ (i:=i+1) (by omega) (esp.trans he)
   refine nQ (bx st2) P2.m (j:=3) rfl ?_;have L2:=Bo L1 (P1.low st2);refine L2.choose_spec.1.len ?_;rw[az,bz];refine bY (λh2=>?_) (λh2=>?_)
   ·have awP:i<l.length:=by omega
    obtain⟨e,he⟩:∃e,l[i]? = some e:=⟨_,List.getElem?_eq_getElem awP⟩
    have hes:=qe he;refine nQ (bx st2) P2.m (j:=3) rfl ?_;obtain⟨cl,s2,g2⟩:=L2;refine s2.load P2.m awP ?_;have ee:cy (kE n L d.ns) (l[i]?.toList)=kE n L d.ns e:=by
     rw[he];exact pW _
    refine(hX e (List.mem_of_getElem? he)).run P2 (hlv v') ⟨_,rfl,g2 i e he⟩ (Bq hwl he) (hR.last (by omega) (Nat.add_le_add_left (by omega) _) (Nat.add_le_add_left (by omega) _)) ⟨λhn H3 S3 ll P3 eQ=>?_,λp hp H3 S3 m3 n3 k3=>?_⟩
    ·show cR K (.ret (.aE [])) H3 _;rw[aq];exact blk H3 S3 ll (ee.trans hn) P3 eQ
    ·show cR K (.cj _) H3 _;rw[dt];refine((hK.2 p ?_).le (st01.trans st2).n (hP.low (st01.trans st2))) H3 S3 m3 n3 k3;refine SZ _ (i:=i+1) (by omega) ?_;rw[Yd,he0,dk,ee,hp];rfl
   ·have he:l[i]? = none:=List.getElem?_eq_none (by omega);exact blk H' S' di (by rw[he];rfl) P2 dL.refl
 exact loop iC 0 vL d.v H1 S1 (Nat.zero_le _) (by omega) P1 rfl dL.refl
theorem aAc{R:b9}{rJ:jE}{Yi:rr}{n k a:Nat}{nm:List (List Nat)}{l:List aO}{bs:List (List aP)}(h44:R.2.1=f115)(h62:R.2.2.2.1=f138)(hX:Ye R.2.2.1 (n+1) l)(hB:∀bd∈bs,NJ R.1 (.func 143 [] []) (n+1) bd)(hL0:PLp R.2.2.2.2.1 (clo (lS rJ)) n k a nm l bs [])(hL1:PLp R.2.2.2.2.1 (clo (lS rJ)) n k a nm l bs l)(h64:rJ.2.2.2.1=CO Yi)(aAd:Ye Yi n l)(h65:rJ.2.2.2.2.1=f141)(hC:PCh R.2.2.2.2.2 (n+1) k a nm l bs):bE (Rm R) (n+2) (.mk k a nm l bs):=by
 refine⟨λ{K H S lo b vL v lv d L} hP hL hv hw hR hK=>?_⟩;obtain⟨c,rfl,e1⟩:=hv;simp only[aP.sz]at hR;simp only[aP.wg]at hw;obtain⟨w5,w1,w2,Je,wgb⟩:=hw;have hbl:=Bl bs;have hll:=xG l;have hr1:=hR.1;have hd:∀d':bK,d'∈lv++[d']:=λd'=>List.mem_append_right _ (List.mem_singleton_self _);have hrd:=hR.2 d (hd d);rw[List.length_append,List.length_singleton]at hr1;have cQ:G.NL=1000000:=rfl;show Et R K (vV R K (vU R K (vR R K (oA R K G.NL)) (vS R K) (qE R K (my R K G.NL)))) (.ptr b 0) (.agg c) H;generalize G.NL=iC at cQ ⊢;unfold Et;refine afp hP.m λH1 S1 m1 x1 o1 n1=>?_;refine Gs m1 e1.ones λH2 S2 m2 x2 o2 n2=>?_;have e2:fT S2 (dQ lo) c (.mk k a nm l bs):=e1.go (λx hx=>(x1.trans x2).ob x (Nat.lt_of_lt_of_le hx hP.l)) λ_ h=>h;obtain⟨wn,wl,wb,rfl,N2,L2,B2⟩:=e2.out;have P2:=hP.ext m2 (x1.trans x2);have yY:dL b S S2 vL (lv++[d]) vL (lv++[d]):=(x1.trans x2).pM;have yX:∀x,S.n≤x→¬mZ b vL (lv++[d]) x:=λx hx g=>by have:=hP.p.bX hP.m g;omega
 have q1:S2.ob S.n=.ce [.ptr b 0] 0:=(x2.ob _ (by omega)).trans o1;have ba:∀{S3:LS}{ll:AV}{lv3:List bK},dL b S2 S3 vL (lv++[d]) ll lv3→S3.ob S.n=.ce [.ptr b 0] 0:=λst=>(st.ob _ (by omega) (yX _ (Nat.le_refl _))).trans q1;have bx:∀{S3:LS}{ll:AV}{lv3:List bK},dL b S2 S3 vL (lv++[d]) ll lv3→S3.ob S1.n=.ce [.int 0 (k:Int),.int 0 (a:Int),wn,wl,wb] 0:=λst=>(st.ob _ (by omega) (yX _ (by omega))).trans o2;have pend:∀{e:Nat×Nat}{S3:LS}{ll:AV}{lv3:List bK},(kS (n+2) L d.l (d.ns,none) (.mk k a nm l bs)).2=some e→dL b S2 S3 vL (lv++[d]) ll lv3→Gt lo S3 K e:=λhe st=>(hK.2 _ he).le (yY.trans st).n (hP.low (yY.trans st));have hlv:(lv++[d]).map bK.ns=L++[d.ns]:=by rw[List.map_append,hL];rfl
 refine aj m2 q1 (v:=.ptr b 0) rfl ?_;rw[h44];refine aoL m2 P2.p (by omega) ?_;rw[aq];refine nQ o2 m2 (j:=0) rfl ?_;rw[az];have i1:Int.ofNat 1=((1:Nat):Int):=rfl;have i12:Int.ofNat 12=((12:Nat):Int):=rfl;have i2:Int.ofNat 2=((2:Nat):Int):=rfl;have i4:Int.ofNat 4=((4:Nat):Int):=rfl;have i5:Int.ofNat 5=((5:Nat):Int):=rfl;have i6:Int.ofNat 6=((6:Nat):Int):=rfl;have i7:Int.ofNat 7=((7:Nat):Int):=rfl;have i8:Int.ofNat 8=((8:Nat):Int):=rfl;have i9:Int.ofNat 9=((9:Nat):Int):=rfl;have i0:Int.ofNat 0=((0:Nat):Int):=rfl;have aAe:Int.ofNat 150=((150:Nat):Int):=rfl;have main:(k=1∨k=12∨k=6∨k=7→uK d.ns nm a=none)→vU R K (vR R K (oA R K iC)) (vS R K) (qE R K (my R K iC)) (.ptr S.n 0) (.ptr S1.n 0) (.ptr d.p 0) H2:=λhlim=>by
  unfold vU;refine nQ o2 m2 (j:=0) rfl ?_;rw[az,bD,i1];by_cases k1:k=1
  ·have rk:kS (n+2) L d.l (d.ns,none) (.mk k a nm l bs)=(d.ns++nm,cy (kE (n+1) L d.ns) l):=by
    simp only[kS];rw[if_pos k1,hlim (.inl k1)];rfl
   rw[rk]at hK pend;rw[decide_eq_true (by omega),aG];refine aj m2 q1 (v:=.ptr b 0) rfl ?_;refine nQ o2 m2 (j:=3) rfl ?_;refine hX.run P2 hlv L2 Je (hR.le (by omega)) ⟨λhn H3 S3 ll P3 eQ=>?_,λe he H3 S3 m3 n3 k3=>?_⟩
   ·show cR K (.ret (.aE [])) H3 _;rw[aq];refine P3.p.NK P3.m ?_;refine nQ (bx eQ) P3.m (j:=2) rfl ?_;refine P3.p.app P3.m P3.l (Ja (awB N2 (P2.low eQ))) N2.2 (by omega) λH4 S4 v4 m4 lA p4=>?_;exact hK.1 hn H4 S4 ll v4 (P3.step m4 lA p4) (yY.trans (eQ.trans lA))
   ·show cR K (.cj _) H3 _;rw[dt];exact pend he dL.refl H3 S3 m3 n3 k3
  rw[decide_eq_false (by omega),aw,bD,i12];by_cases k12:k=12
  ·have rk:kS (n+2) L d.l (d.ns,none) (.mk k a nm l bs)=(d.ns++nm,cy (kE (n+1) L (d.ns++nm)) l):=by
    simp only[kS];rw[if_neg k1,if_pos k12,hlim (.inr (.inl k12))];rfl
   rw[rk]at hK pend;rw[decide_eq_true (by omega),aG];refine P2.p.NK m2 ?_;refine nQ o2 m2 (j:=2) rfl ?_;refine P2.p.app m2 P2.l (Ja N2) N2.2 (by omega) λH3 S3 v3 m3 eQ p3=>?_;have P3:Pn lo b H3 S3 vL (lv++[bK.mk d.p v3 (d.ns++nm) d.l]):=P2.step m3 eQ p3;have eQ:dL b S2 S3 vL (lv++[d]) vL (lv++[bK.mk d.p v3 (d.ns++nm) d.l]):=eQ;unfold vS;refine aj m3 (ba eQ) (v:=.ptr b 0) rfl ?_;refine nQ (bx eQ) m3 (j:=3) rfl ?_;refine hX.run P3 (L:=L) (ns:=d.ns++nm) (by rw[List.map_append,hL];rfl) (Bo L2 (P2.low eQ)) Je (hR.last (by omega) (by rw[List.length_append];omega) (by omega)) ⟨λhn H4 S4 Jf P4 lA=>?_,λe he H4 S4 m4 n4 k4=>?_⟩
   ·show cR K (.ret (.aE [])) H4 _;rw[aq];exact hK.1 hn H4 S4 Jf v3 P4 (yY.trans (eQ.trans lA))
   ·show cR K (.cj _) H4 _;rw[dt];exact pend he eQ H4 S4 m4 n4 k4
  rw[decide_eq_false (by omega),aw,bD,i2];by_cases k2:k=2
  ·have rk:kS (n+2) L d.l (d.ns,none) (.mk k a nm l bs)=(d.ns,fl (cy (E1 L d.ns) (l.take 1)) (cy (kE (n+1) L d.ns) l)):=by
    simp only[kS];rw[if_neg k1,if_neg k12,if_pos k2];rfl
   rw[rk]at hK pend;rw[decide_eq_true (by omega),aG];obtain⟨e,t,rfl⟩:∃e t,l=e::t:=by
    cases l with
    |nil=>exact absurd rfl (w2 k2)
    |cons e t=>exact⟨e,t,rfl⟩
   refine nQ o2 m2 (j:=3) rfl ?_;refine nQ o2 m2 (j:=3) rfl ?_;refine L2.choose_spec.1.len ?_;rw[az];refine ayk (by simp) ?_;rw[az];refine L2.part (i:=0) (j:=1) (b:=[e]) (by omega) (by simp) (.inr ⟨rfl,rfl⟩) (.inl rfl) (by simp) λv' L3=>?_;refine L3.choose_spec.1.len ?_;rw[az];unfold vR;have nE:cy (E1 L d.ns) ((e::t).take 1)=E1 L d.ns e:=by
    show cy (E1 L d.ns) [e]=_;exact pW _
   rw[nE]at hK pend;obtain⟨q,rfl⟩:∃q,iC=q+1+1:=⟨iC-2,by omega⟩
   show vQ R K (Ag R K) (Ah R K) (vP R K (oA R K (q+1))) (.ptr S.n 0) (.ptr S1.n 0) v' ((1:Nat):Int) ((0:Nat):Int) H2;unfold vQ;simp only[gQ];rw[bz,decide_eq_true (by omega),aG];obtain⟨cl,s1,g1⟩:=L3;have f1:=g1 0 e rfl;refine s1.load m2 (by simp) ?_;refine oM m2 dB rfl f1.len f1.ones λH3 S3 m3 x3 o3 n3=>?_;have P3:=P2.ext m3 x3;have eQ:dL b S2 S3 vL (lv++[d]) vL (lv++[d]):=x3.pM;obtain⟨ke,ae,nn,s,op,l',fs⟩:=e;obtain⟨wl',wf',c1,h8,L2',F2'⟩:=f1.out;rw[c1]at o3;have rest:E1 L d.ns (.mk ke ae nn s op l' fs)=none→vP R K (oA R K (q+1)) (.ptr S.n 0) (.ptr S1.n 0) v' ((1:Nat):Int) ((0:Nat):Int) H3:=λhno=>by
    rw[hno,dk]at hK pend;unfold vP;rw[eo,fN];refine w0 (by omega) (by omega) ?_;show vQ R K (Ag R K) (Ah R K) (vP R K (oA R K q)) (.ptr S.n 0) (.ptr S1.n 0) v' ((1:Nat):Int) (((0:Nat):Int)+1) H3;unfold vQ;have e01:(((0:Nat):Int)+1)=((1:Nat):Int):=rfl;rw[e01,bz,decide_eq_false (by omega),aw];unfold Ah;refine aj m3 (ba eQ) (v:=.ptr b 0) rfl ?_;refine nQ (bx eQ) m3 (j:=3) rfl ?_;refine hX.run P3 hlv (Bo L2 (P2.low eQ)) Je (hR.le (by omega)) ⟨λhn H4 S4 Jf P4 lA=>?_,λe he H4 S4 m4 n4 k4=>?_⟩
    ·show cR K (.ret (.aE [])) H4 _;rw[aq];exact hK.1 hn H4 S4 Jf d.v P4 (yY.trans (eQ.trans lA))
    ·show cR K (.cj _) H4 _;rw[dt];exact pend he eQ H4 S4 m4 n4 k4
   simp only[av,Nat.zero_add];refine aj m3 o3 (v:=.int 0 (ke:Int)) rfl ?_;rw[az,bD,i6];by_cases k6:ke=6
   ·rw[decide_eq_true (by omega),aG];refine aj m3 (ba eQ) (v:=.ptr b 0) rfl ?_;refine aj m3 o3 (v:=ak s) rfl ?_;rw[h62];refine hs62 m3 P3.p h8 (by rw[List.length_append,List.length_singleton];omega) (λd' hd'=>by have:=(hR.2 d' hd').1;omega) ?_;rw[aq,aX,Yf hlv];cases ha:uD L d.ns s with
    |true=>
     simp only[Bool.not_true,aw];refine rest ?_;show(if ke=6∧uD L d.ns s=false then some (14,ae) else none)=none;rw[if_neg (λg=>by rw[ha]at g;cases g.2)]
    |false=>
     simp only[Bool.not_false,aG];unfold Ag;simp only[av,Nat.zero_add];refine aj m3 o3 (v:=.int 0 (ae:Int)) rfl ?_;rw[az];refine(pend (e:=(14,ae)) ?_ eQ) H3 S3 m3 (Nat.le_refl _) λ_ _=>rfl;show fl (if ke=6∧uD L d.ns s=false then some (14,ae) else none) _=_;rw[if_pos ⟨k6,ha⟩,xI]
   ·rw[decide_eq_false (by omega),aw];refine rest ?_;show(if ke=6∧uD L d.ns s=false then some (14,ae) else none)=none;rw[if_neg (λg=>k6 g.1)]
  rw[decide_eq_false (by omega),aw,bD,i8];by_cases k8:k=8
  ·have rk:kS (n+2) L d.l (d.ns,none) (.mk k a nm l bs)=(d.ns,cy (λb=>kB (n+1) L (d.l+1) d.ns b l) bs):=by
    simp only[kS];rw[if_neg k1,if_neg k12,if_neg k2,if_pos k8];rfl
   rw[rk]at hK pend;rw[decide_eq_true (by omega),aG];refine aj m2 q1 (v:=.ptr b 0) rfl ?_;refine gz m2 o2 rfl ?_;refine hL1.run P2 hL ⟨_,rfl,e2⟩ wgb (aAa h64 aAd P2 q1 o2 (by omega) (by omega) (yX _ (Nat.le_refl _)) (yX _ (by omega)) L2 Je) (hR.le (by omega)) ?_;rw[if_pos (.inr k8)];refine⟨λhn H3 S3 ll v3 P3 eQ=>?_,λe he H3 S3 m3 n3 k3=>?_⟩
   ·show cR K (.ret (.aE [])) H3 _;rw[aq];exact hK.1 hn H3 S3 ll v3 P3 (yY.trans eQ)
   ·show cR K (.cj _) H3 _;rw[dt];exact pend he dL.refl H3 S3 m3 n3 k3
  rw[decide_eq_false (by omega),aw];by_cases aBi:k=5∨k=6∨k=7
  ·have rk:kS (n+2) L d.l (d.ns,none) (.mk k a nm l bs)=(d.ns,fl (cy (kE (n+1) L d.ns) l) (cy (λb=>kB (n+1) L (d.l+1) (if k=5∨k=8 then d.ns else d.ns++nm) b []) bs)):=by
    simp only[kS];rw[if_neg k1,if_neg k12,if_neg k2,if_neg k8];by_cases k5:k=5
    ·rw[if_pos k5,if_pos (.inl k5)];rfl
    ·rw[if_neg k5,if_pos (by omega),if_neg (by omega),hlim (by omega)];rfl
   rw[rk]at hK pend;have go:qE R K (my R K iC) (.ptr S.n 0) (.ptr S1.n 0) (.ptr d.p 0) (k:Int) true H2:=by
    unfold qE;rw[aG];refine aj m2 q1 (v:=.ptr b 0) rfl ?_;refine nQ o2 m2 (j:=3) rfl ?_;refine hX.run P2 hlv L2 Je (hR.le (by omega)) ⟨λhn H3 S3 ll P3 eQ=>?_,λe he H3 S3 m3 n3 k3=>?_⟩
    ·show cR K (.ret (.aE [])) H3 _;rw[aq];refine aj P3.m (ba eQ) (v:=.ptr b 0) rfl ?_;refine gz P3.m (bx eQ) rfl ?_;refine hL0.run P3 hL ⟨_,rfl,e2.go (λx hx=>P2.low eQ x hx) λ_ h=>h⟩ wgb (aqk (awO h65)) (hR.le (by simp only[iG];omega)) ⟨λhn2 H4 S4 Jf v4 P4 lA=>?_,λe he H4 S4 m4 n4 k4=>?_⟩
     ·show cR K (.ret (.aE [])) H4 _;rw[aq];refine hK.1 ?_ H4 S4 Jf v4 P4 (yY.trans (eQ.trans lA));show fl _ _=none;rw[hn,dk];exact hn2
     ·show cR K (.cj _) H4 _;rw[dt];refine pend (e:=e) ?_ eQ H4 S4 m4 n4 k4;show fl _ _=_;rw[hn,dk];exact he
    ·show cR K (.cj _) H3 _;rw[dt];refine pend (e:=e) ?_ dL.refl H3 S3 m3 n3 k3;show fl _ _=_;rw[he,xI]
   rw[bD,i5];by_cases k5:k=5
   ·rw[decide_eq_true (by omega),aG];exact go
   rw[decide_eq_false (by omega),aw,bD,i6];by_cases k6:k=6
   ·rw[decide_eq_true (by omega),aG];exact go
   rw[decide_eq_false (by omega),aw,bD,i7,decide_eq_true (by omega)];exact go
  rw[bD,i5,decide_eq_false (by omega),aw,bD,i6,decide_eq_false (by omega),aw,bD,i7,decide_eq_false (by omega)];unfold qE;rw[aw,bD,i4];by_cases k4:k=4
  ·have rk:kS (n+2) L d.l (d.ns,none) (.mk k a nm l bs)=(d.ns,cy (λi=>fl (cy (kE (n+1) L d.ns) (l[i]?.toList)) (kB (n+1) L d.l d.ns (bs[i]?.getD []) [])) (List.range bs.length)):=by
    simp only[kS];rw[if_neg k1,if_neg k12,if_neg k2,if_neg k8,if_neg (by omega),if_neg (by omega),if_pos k4];rfl
   rw[rk]at hK pend;rw[decide_eq_true (by omega),aG];refine aj m2 q1 (v:=.ptr b 0) rfl ?_;refine gz m2 o2 rfl ?_;refine hC.run P2 hL ⟨_,rfl,e2⟩ Je wgb (hR.le (by omega)) ⟨λhn H3 S3 ll v3 P3 eQ=>?_,λe he H3 S3 m3 n3 k3=>?_⟩
   ·show cR K (.ret (.aE [])) H3 _;rw[aq];exact hK.1 hn H3 S3 ll v3 P3 (yY.trans eQ)
   ·show cR K (.cj _) H3 _;rw[dt];exact pend he dL.refl H3 S3 m3 n3 k3
  rw[decide_eq_false (by omega),aw,bD,i9];by_cases k9:k=9
  ·have rk:kS (n+2) L d.l (d.ns,none) (.mk k a nm l bs)=(d.ns,if d.l=0 then some (14,a) else none):=by
    simp only[kS];rw[if_neg k1,if_neg k12,if_neg k2,if_neg k8,if_neg (by omega),if_neg (by omega),if_neg k4,if_pos k9];rfl
   rw[rk]at hK pend;rw[decide_eq_true (by omega),aG];refine P2.p.ldl m2 ?_;rw[bD,i0];refine bY (λg=>?_) (λg=>?_)
   ·refine nQ o2 m2 (j:=1) rfl ?_;rw[az];refine(pend (e:=(14,a)) ?_ dL.refl) H2 S2 m2 (Nat.le_refl _) λ_ _=>rfl;show(if d.l=0 then some (14,a) else none)=_;rw[if_pos (by omega)]
   ·refine hK.1 ?_ H2 S2 vL d.v P2 yY;show(if d.l=0 then some (14,a) else none)=_;rw[if_neg (by omega)]
  rw[decide_eq_false (by omega),aw];have rk:kS (n+2) L d.l (d.ns,none) (.mk k a nm l bs)=(d.ns,fl (cy (kE (n+1) L d.ns) l) (cy (λb=>kB (n+1) L d.l d.ns b []) bs)):=by
   simp only[kS];rw[if_neg k1,if_neg k12,if_neg k2,if_neg k8,if_neg (by omega),if_neg (by omega),if_neg k4,if_neg k9];rfl
  rw[rk]at hK pend;refine aj m2 q1 (v:=.ptr b 0) rfl ?_;refine nQ o2 m2 (j:=3) rfl ?_;refine hX.run P2 hlv L2 Je (hR.le (by omega)) ⟨λhn H3 S3 ll P3 eQ=>?_,λe he H3 S3 m3 n3 k3=>?_⟩
  ·show cR K (.ret (.aE [])) H3 _;rw[aq];refine nQ (bx eQ) P3.m (j:=4) rfl ?_;have B3:=Bp B2 (P2.low eQ);refine B3.choose_spec.1.len ?_;rw[az];have loop:∀(q i:Nat) (di v':AV) (H':AH) (S':LS),i≤bs.length→bs.length-i<q→Pn lo b H' S' di (lv++[bK.mk d.p v' d.ns d.l])→cy (λb=>kB (n+1) L d.l d.ns b []) (bs.take i)=none→dL b S3 S' ll (lv++[d]) di (lv++[bK.mk d.p v' d.ns d.l])→my R K q (.ptr S.n 0) wb (bs.length:Int) (i:Int) H':=by
    intro q
    induction q with
    |zero=>intro i _ _ _ _ _ h;omega
    |succ q ih=>
     intro i di v' H' S' hi hq P4 he0 lA;show Bf R K (my R K q) (.ptr S.n 0) wb (bs.length:Int) (i:Int) H';unfold Bf;rw[bz];refine bY (λhg=>?_) (λhg=>?_)
     rotate_left
     ·have e:i=bs.length:=by omega
      subst e;rw[List.take_length]at he0;refine hK.1 ?_ H' S' di v' P4 (yY.trans (eQ.trans lA));show fl _ _=none;rw[hn,dk];exact he0
     have hil:i<bs.length:=by omega
     obtain⟨bd,hbd⟩:∃bd,bs[i]? = some bd:=⟨_,List.getElem?_eq_getElem hil⟩
     have hsz:=xF hbd;obtain⟨bv,s1,g1⟩:=Bp B3 (P3.low lA);refine s1.E0 P4.m hil ?_;refine aj P4.m (ba (eQ.trans lA)) (v:=.ptr b 0) rfl ?_;refine(hB bd (List.mem_of_getElem? hbd)).run P4 hL (g1 i bd hbd) (Br wgb hbd) (hR.last (by omega) (by omega) (by omega)) ⟨λhn2 H5 S5 vL5 v5 P5 NM=>?_,λe he H5 S5 m5 n5 k5=>?_⟩
     ·show cR K (.ret (.aE [])) H5 _;rw[aq,eo,fN];refine w0 (by omega) (by omega) ?_;refine ih (i+1) vL5 v5 H5 S5 (by omega) (by omega) P5 ?_ (lA.trans NM);rw[lk _ _ _ hbd,he0,dk];exact hn2
     ·show cR K (.cj _) H5 _;rw[dt];refine pend (e:=e) ?_ (eQ.trans lA) H5 S5 m5 n5 k5;show fl _ _=_;rw[hn,dk];refine Av _ _ (i+1) ?_;rw[lk _ _ _ hbd,he0,dk];exact he
   exact loop iC 0 ll d.v H3 S3 (Nat.zero_le _) (by omega) P3 rfl dL.refl
  ·show cR K (.cj _) H3 _;rw[dt];refine pend (e:=e) ?_ dL.refl H3 S3 m3 n3 k3;show fl _ _=_;rw[he,xI]
 have lim:(k=1∨k=12∨k=6∨k=7)→vV R K (vU R K (vR R K (oA R K iC)) (vS R K) (qE R K (my R K iC))) (.ptr S.n 0) (.ptr S1.n 0) (.ptr d.p 0) true H2:=λhk=>by
  unfold vV;rw[aG];refine P2.p.NK m2 ?_;refine(P2.p.ln d (hd d)).len ?_;rw[az,List.length_map];refine nQ o2 m2 (j:=2) rfl ?_;refine N2.1.len ?_;rw[az,eo];refine w0 (by omega) (by omega) ?_;have ea:(d.ns.length:Int)+(nm.length:Int)=((d.ns.length+nm.length:Nat):Int):=by omega
  rw[ea,aAe,bz];refine bY (λg=>?_) (λg=>?_)
  ·refine nQ o2 m2 (j:=1) rfl ?_;rw[az];have hl:uK d.ns nm a=some (8,a):=by
    unfold uK;rw[if_pos (by omega)]
   refine(pend (e:=(8,a)) ?_ dL.refl) H2 S2 m2 (Nat.le_refl _) λ_ _=>rfl;rcases hk with rfl|rfl|rfl|rfl<;>simp only[kS]<;>simp[hl,fl]
  ·refine main λ_=>?_;unfold uK;rw[if_neg (by omega)]
 rw[bD,i1];by_cases k1:k=1
 ·rw[decide_eq_true (by omega),aG];exact lim (.inl k1)
 rw[decide_eq_false (by omega),aw,bD,i12];by_cases k12:k=12
 ·rw[decide_eq_true (by omega),aG];exact lim (.inr (.inl k12))
 rw[decide_eq_false (by omega),aw,bD,i6];by_cases k6:k=6
 ·rw[decide_eq_true (by omega),aG];exact lim (.inr (.inr (.inl k6)))
 rw[decide_eq_false (by omega),aw,bD,i7];by_cases k7:k=7
 ·rw[decide_eq_true (by omega)];exact lim (.inr (.inr (.inr k7)))
 rw[decide_eq_false (by omega)];unfold vV;rw[aw];exact main λh=>by omega
end
section
variable {H H':AH}{S S':LS}{K:KF}
structure CB where
 c20:AV→AV→AV→AH→KF→Prop
 c45:AV→AV→AH→KF→Prop
 Tb:AV→AV→AH→KF→Prop
 c63:AV→AV→AV→AH→KF→Prop
 c64:AV→AV→AH→KF→Prop
 c66:AV→AV→AH→KF→Prop
 Fz:AV→AV→AH→KF→Prop
 c78:AV→AV→AH→KF→Prop
def jH:AV→AV→AH→KF→Prop:=λ_ _ _ _=>False
def ff4:AV→AV→AV→AV→AH→KF→Prop:=λ_ _ _ _ _ _=>False
theorem fb{g:Nat}:an Tryz.prog g (ai [.a,.a] jH):=λhb args H K h=>by
 cases args with
 |nil=>exact h.elim
 |cons a l=>cases l with
  |nil=>exact h.elim
  |cons b l=>cases l with
   |nil=>exact h.elim
   |cons c l=>exact h.elim
theorem Tc{g:Nat}:an Tryz.prog g (ai [.a,.a,.a,.a] ff4):=λhb args H K h=>by
 cases args with
 |nil=>exact h.elim
 |cons a l=>cases l with
  |nil=>exact h.elim
  |cons b l=>cases l with
   |nil=>exact h.elim
   |cons c l=>cases l with
    |nil=>exact h.elim
    |cons d l=>cases l with
     |nil=>exact h.elim
     |cons e l=>exact h.elim
noncomputable def Yl(S:CB):iJ:=(jH,f83,f115,S.c45,jH,S.c64,f141,f143,jH,jH,jH,S.c78,f170,ff4,jH,f188)
noncomputable def r45(S:CB):b9:=(S.c20,f115,S.Tb,f138,S.c63,S.c66)
noncomputable def aoO(B:AV→AH→KF→Prop)(S:CB):cL:=(f35,S.c20,f138,S.Fz,B)
noncomputable abbrev r77 (S:CB):cL:=aoO Gq S
noncomputable def r78(S:CB):jE:=(jH,f83,jH,S.c64,f141,f143,jH,jH,jH,S.c78,f170,ff4,jH,f188)
noncomputable def cSx(B:AV→AH→KF→Prop)(S:CB):CB:=⟨acM (Yl S),Rm (r45 S),Ro S.Fz,IP (S.c20,f115),CO S.Tb,Rq (S.c20,S.Fz),Rt (aoO B S),CQ (r78 S)⟩
noncomputable abbrev cS (S:CB):CB:=cSx Gq S
noncomputable def cBx(B:AV→AH→KF→Prop)(n:Nat):CB:=Nat.rec (motive:=λ_=>CB) ⟨λ_ _ _ _ _=>False,λ_ _ _ _=>False,λ_ _ _ _=>False,λ_ _ _ _ _=>False,λ_ _ _ _=>False,λ_ _ _ _=>False,λ_ _ _ _=>False,λ_ _ _ _=>False⟩ (λ_ S=>cSx B S) n
noncomputable abbrev cB (n:Nat):CB:=cBx Gq n
theorem yZ(n:Nat):cB (n+1)=cS (cB n):=rfl
structure aoP(S:CB):Prop where
 k20:an Tryz.prog 82 (ai [.a,.a,.a] S.c20)
 k45:an Tryz.prog 116 (ai [.a,.a] S.c45)
 k61:an Tryz.prog 137 (ai [.a,.a] S.Tb)
 k63:an Tryz.prog 139 (ai [.a,.a,.a] S.c63)
 k64:an Tryz.prog 140 (ai [.a,.a] S.c64)
 k66:an Tryz.prog 142 (ai [.a,.a] S.c66)
 k77:an Tryz.prog 168 (ai [.a,.a] S.Fz)
 k78:an Tryz.prog 169 (ai [.a,.a] S.c78)
theorem awQ{B:AV→AH→KF→Prop}(hB:an Tryz.prog 187 (ai [.a] B)){S:CB}(h:aoP S):aoP (cSx B S) where
 k20:=asX (Yl S) (ad.cons fb (ad.cons Rd (ad.cons KW (ad.cons h.k45 (ad.cons fb (ad.cons h.k64 (ad.cons KZ (ad.cons K0 (ad.cons fb (ad.cons fb (ad.cons fb (ad.cons h.k78 (ad.cons Le (ad.cons Tc (ad.cons fb (ad.cons Lf ad.nil))))))))))))))))
 k45:=aod (r45 S) (ad.cons h.k20 (ad.cons KW (ad.cons h.k61 (ad.cons V6 (ad.cons h.k63 (ad.cons h.k66 ad.nil))))))
 k61:=aoh S.Fz (ad.cons h.k77 ad.nil)
 k63:=aoi (S.c20,f115) (ad.cons h.k20 (ad.cons KW ad.nil))
 k64:=aoj S.Tb (ad.cons h.k61 ad.nil)
 k66:=aok (S.c20,S.Fz) (ad.cons h.k20 (ad.cons h.k77 ad.nil))
 k77:=aoo (aoO B S) (ad.cons avS (ad.cons h.k20 (ad.cons V6 (ad.cons h.k77 (ad.cons hB ad.nil)))))
 k78:=aop (r78 S) (ad.cons fb (ad.cons Rd (ad.cons fb (ad.cons h.k64 (ad.cons KZ (ad.cons K0 (ad.cons fb (ad.cons fb (ad.cons fb (ad.cons h.k78 (ad.cons Le (ad.cons Tc (ad.cons fb (ad.cons Lf ad.nil))))))))))))))
theorem no3{g:Nat}:an Tryz.prog g (ai [.a,.a,.a] λ_ _ _ _ _=>False):=λhb args H K h=>by
 cases args with
 |nil=>exact h.elim
 |cons a l=>cases l with
  |nil=>exact h.elim
  |cons b l=>cases l with
   |nil=>exact h.elim
   |cons c l=>cases l with
    |nil=>exact h.elim
    |cons c l=>exact h.elim
theorem BG{g:Nat}:an Tryz.prog g (ai [.a,.a] λ_ _ _ _=>False):=λhb args H K h=>by
 cases args with
 |nil=>exact h.elim
 |cons a l=>cases l with
  |nil=>exact h.elim
  |cons b l=>cases l with
   |nil=>exact h.elim
   |cons c l=>exact h.elim
theorem al7{B:AV→AH→KF→Prop}(hB:an Tryz.prog 187 (ai [.a] B)):∀n,aoP (cBx B n)
 |0=>⟨no3,BG,BG,no3,BG,BG,BG,BG⟩
 |n+1=>awQ hB (al7 hB n)
structure BH(S:CB)(m:Nat):Prop where
 ex:∀n (e:aO),4*n≤m→3*e.sz≤n→PE S.Fz n e
 st:∀n (s:aP),4*n≤m→3*s.sz≤n→bE S.c45 n s
theorem BH.bl{S:CB}{m n:Nat}{bd:List aP}{thn:List aO}(h:BH S m)(h1:4*n≤m)(h2:3*dW bd≤n):PB (cS S).c20 (clo (jZ (Yl S))) n bd thn:=
 b20 (R:=Yl S) rfl λs hs=>by
  obtain⟨i,hi⟩:=List.mem_iff_getElem?.1 hs;have:=SO hi;exact h.st n s h1 (by omega)
theorem BH.exs{S:CB}{m n:Nat}{l:List aO}(h:BH S m)(h1:4*n≤m)(h2:3*iG l≤n):Ye (cS S).Tb n l:=
 e61 (R:=S.Fz) λe he=>by
  obtain⟨i,hi⟩:=List.mem_iff_getElem?.1 he;have:=qe hi;exact h.ex n e h1 (by omega)
theorem BH.b0{S:CB}{m n:Nat}{bd:List aP}{t:AV}(h:BH S m)(h1:4*n≤m+4)(h2:3*dW bd+1≤n)(ht:∀(H:AH) (K:KF),K (.ret (.aE [])) H→clo (jZ (Yl S)) t H K):NJ (cS S).c20 t n bd:=by
 obtain⟨q,rfl⟩:∃q,n=q+1:=⟨n-1,by omega⟩
 exact(h.bl (by omega) (by omega)).zero λH K=>ht H K
theorem awR{S2:CB}{m:Nat}(h1:BH (cS S2) (m+1))(h2:BH S2 m)(n:Nat)(e:aO)(g1:4*n≤m+2)(g2:3*e.sz≤n):PE (cS (cS S2)).Fz n e:=by
 have:=e.rH;obtain⟨n',rfl⟩:∃n',n=n'+1:=⟨n-1,by omega⟩
 refine e77 (R:=r77 (cS S2)) rfl rfl rfl (λk a nn s op l fs he x hx=>?_) λk a nn s op l fs he f hf=>?_
 ·subst he;obtain⟨i,hi⟩:=List.mem_iff_getElem?.1 hx;have:=qe hi;simp only[aO.sz]at g2;exact h1.ex n' x (by omega) (by omega)
 ·subst he;obtain⟨i,hi⟩:=List.mem_iff_getElem?.1 hf;have:=Gn hi;simp only[aO.sz]at g2;obtain⟨n'',rfl⟩:∃n'',n'=n''+1:=⟨n'-1,by omega⟩
  refine⟨n'',rfl,λps bd hf'=>?_⟩;subst hf';simp only[gr.sz]at this;exact h2.b0 (by omega) (by omega) λH K=>awN rfl H K
theorem awS{S2 S3 S4 S5 S6:CB}(e2:S2=cS S3)(e3:S3=cS S4)(e4:S4=cS S5)(e5:S5=cS S6){m:Nat}(h2:BH S2 (m+4))(h3:BH S3 (m+3))(h6:BH S6 m)(n:Nat)(s:aP)(g1:4*n≤m+6)(g2:3*s.sz≤n):bE (cS (cS S2)).c45 n s:=by
 have:=s.rH;obtain⟨n',rfl⟩:∃n',n=n'+2:=⟨n-2,by omega⟩
 obtain⟨k,a,nm,l,bs⟩:=s;simp only[aP.sz]at g2;have hb:∀bd∈bs,1+dW bd≤qd bs:=λbd hbd=>by
  obtain⟨i,hi⟩:=List.mem_iff_getElem?.1 hbd;exact xF hi
 have hl:∀e∈l,e.sz≤iG l:=λe he=>by
  obtain⟨i,hi⟩:=List.mem_iff_getElem?.1 he;exact qe hi
 have h78:(Yl S3).2.2.2.2.2.2.2.2.2.2.2.1=CQ (r78 S4):=by
  rw[e3];rfl
 have h64:(r78 S4).2.2.2.1=CO S5.Tb:=by
  rw[e4];rfl
 have aAf:Ye S5.Tb n' l:=by
  rw[e5];exact h6.exs (by omega) (by omega)
 have hlp:∀thn,PLp (IP (S2.c20,f115)) (clo (lS (r78 S4))) n' k a nm l bs thn:=λthn=>l63 rfl h78 λbd hbd=>by
  have:=hb bd hbd;show PB S2.c20 _ _ _ _;rw[e2];exact h3.bl (by omega) (by omega)
 refine aAc (R:=r45 (cS S2)) rfl rfl (h2.exs (by omega) (by omega)) (λbd hbd=>?_) (hlp []) (hlp l) h64 aAf rfl (aAb (R:=(S2.c20,S2.Fz)) (λe he=>?_) λbd hbd=>?_)
 ·have:=hb bd hbd;exact h2.b0 (by omega) (by omega) λH K=>awL rfl H K
 ·have:=hl e he;exact h2.ex (n'+1) e (by omega) (by omega)
 ·have:=hb bd hbd;show NJ S2.c20 _ _ _;rw[e2];exact h3.b0 (by omega) (by omega) λH K=>awM rfl H K
theorem okQ(m:Nat):BH (cB m) m:=by
 induction m using Nat.strongRecOn with
 |_ m ih=>
  refine⟨λn e g1 g2=>?_,λn s g1 g2=>?_⟩
  ·have:=e.rH;obtain⟨q,rfl⟩:∃q,m=q+1+1:=⟨m-2,by omega⟩
   rw[yZ,yZ];refine awR (m:=q) ?_ (ih q (by omega)) n e (by omega) g2;rw[←yZ];exact ih (q+1) (by omega)
  ·have:=s.rH;obtain⟨q,rfl⟩:∃q,m=q+1+1+1+1+1+1:=⟨m-6,by omega⟩
   have h2:=ih (q+1+1+1+1) (by omega);have h3:=ih (q+1+1+1) (by omega);have h6:=ih q (by omega);rw[yZ (q+1+1+1+1+1),yZ (q+1+1+1+1)];exact awS (yZ _) (yZ _) (yZ _) (yZ _) (m:=q) h2 h3 h6 n s (by omega) g2
end
end Go.Proofs.YtcedghechlgecaaGreatDoor
namespace Go.Proofs.YtcedghechlgecaaGreatDoor.G
open Go Go.X
noncomputable def al8(R:AV→AV→AV→AH→KF→Prop):List (Nat×bQ):=[(82,ai [.a,.a,.a] R)]
noncomputable def afr(v a0 a1:AV)(X:AH→Prop)(H:AH):Prop:=u7 132 (.agg [(.int 0 (.ofNat 0)),(.int 0 (.ofNat 0))]) true v λv1=>dv v1 λl2=>cE l2 0 λv3=>dv v1 λl4=>cE l4 1 λv5=>bC v5 λz6=>cm H (dC (aA H) [(.int 0 (.ofNat 0)),(.int 0 (.ofNat 0))] λv7 H8=>ag 2 v7 v3 H8 λH9=>bI z6 (ah 0 v7 λv10=>af v10 H9 λv11=>cI 0 v11 λz12=>ah 1 v7 λv13=>af v13 H9 λv14=>cI 0 v14 λnk=>ag 1 a0 (.int 0 z12) H9 λdJ=>af v13 dJ λv17=>cI 0 v17 λyn=>bT (aH (.int 0 yn) (.int 0 nk)) (ag 1 a1 (.int 0 nk) dJ λik=>X ik)) (X H9))
noncomputable def MJ(K:KF)(a2 a3:AV)(H:AH):Prop:=af a2 H λv5=>af a3 H λv6=>K (.ret (.aE [v5,v6])) H
noncomputable def Bu(K:KF)(a2 a3:AV)(v:AV)(H:AH):Prop:=afr v a2 a3 (MJ K a2 a3) H
noncomputable def afs(K:KF)(a2 a3:AV):KF:=λo H=>match o with|.cj v=>Bu K a2 a3 v H|.ret v=>False
noncomputable def Jg(R:AV→AV→AV→AH→KF→Prop)(K:KF)(a0:AV)(H:AH):Prop:=cm H (dC (aA H) [(.int 0 (.ofNat 0))] λv1 H2=>cm H2 (dC (aA H2) [(.int 0 (.ofNat 0))] λv3 H4=>bG (aA H4) 2 1 [(.str 4 1398359371),(.str 4 1447514689)] λv5 H6=>one v5 (dC (aA H6) [v5,(.int 0 (.ofNat 0))] λv7 H8=>one v7 (bG (aA H8) 1 1 [v7] λv9 bo=>one v9 (dC (aA bo) [v9] λv11 cU=>R v11 a0 (.func 83 [] []) cU λwL dG=>cR (afs K v1 v3) wL dG λv15=>ag 1 v1 (.int 0 (.ofNat 0)) dG λdJ=>ag 1 v3 (.int 0 (.ofNat 0)) dJ λjt=>Bu K v1 v3 .dS jt)))))
theorem ayl(R:AV→AV→AV→AH→KF→Prop)(K:KF)(a0:AV)(H:AH):Jg R K a0 H=GV (fY (al8 R)) (Dk Tryz.prog (fY (al8 R))) Tryz.prog Tryz.prog.globals.size 400 400 40 [a0] H K:=by kernel_rfl
end Go.Proofs.YtcedghechlgecaaGreatDoor.G
namespace Go.Proofs.YtcedghechlgecaaGreatDoor
open Go Go.X Go.Proofs.YtcedghechlgecaaGreatDoor.G
section
variable {H H':AH}{S S':LS}{K:KF}
noncomputable def awT(B:AV→AH→KF→Prop):AV→AH→KF→Prop:=λa H K=>Jg (cBx B G.NL).c20 K a H
theorem atH{B:AV→AH→KF→Prop}(hB:an Tryz.prog 187 (ai [.a] B)):an Tryz.prog 40 (ai [.a] (awT B)):=λhb l H K hf=>by
 match l,hf with
 |[a],hf=>
  have hf:Jg (cBx B G.NL).c20 K a H:=hf;rw[ayl]at hf;exact an.FP (ad.cons (al7 hB G.NL).k20 ad.nil) mix 400 400 hb [a] H K hf
noncomputable abbrev g40:AV→AH→KF→Prop:=awT Gq
theorem awU:an Tryz.prog 40 (ai [.a] g40):=atH atD
theorem NP{o t:Nat}{x y:AV}(hM:Mem H S)(ho:S.ob o=.ce [x] 0)(ht:S.ob t=.ce [y] 0)(hK:K (.ret (.aE [x,y])) H):MJ K (.ptr o 0) (.ptr t 0) H:=by
 unfold MJ;refine aj hM ho (v:=x) rfl ?_;exact aj hM ht (v:=y) rfl hK
theorem atI{o t:Nat}{x y:AV}{e:Nat×Nat}(hM:Mem H S)(ho:S.ob o=.ce [x] 0)(ht:S.ob t=.ce [y] 0)(h1:o≠t)(hK:∀H' S',Mem H' S'→S.n≤S'.n→(∀b,b<S.n→b≠o→b≠t→S'.ob b=S.ob b)→K (.ret (.aE [cC e.1,cC e.2])) H'):Bu K (.ptr o 0) (.ptr t 0) (.iface 132 (.agg [cC e.1,cC e.2])) H:=by
 unfold Bu afr;refine Nx ?_;simp only[fF,fy,fM,aX];have lo1:o<S.n:=hM.lt (by rw[ho];simp);have SG:t<S.n:=hM.lt (by rw[ht];simp);refine oM hM (λa ha=>by
  simp only[List.mem_cons,List.not_mem_nil,or_false]at ha;rcases ha with rfl|rfl<;>rfl) rfl rfl (λa ha=>by
  simp only[List.mem_cons,List.not_mem_nil,or_false]at ha;rcases ha with rfl|rfl<;>rfl) λH1 S1 m1 x1 o1 n1=>?_
 rw[aG];simp only[av,Nat.zero_add];refine aj m1 o1 (v:=cC e.1) rfl ?_;show cI 0 (.int 0 _) _;rw[az];refine aj m1 o1 (v:=cC e.2) rfl ?_;show cI 0 (.int 0 _) _;rw[az];refine aS (v:=.int 0 (e.1:Int)) m1 ((x1.ob _ lo1).trans ho) (by omega) (by show 0<1;omega) rfl λH2 m2=>?_;have m2:Mem H2 (S1.set o (.ce [.int 0 (e.1:Int)] 0)):=m2;refine aj m2 ((LS.ao _ _ (by omega)).trans o1) (v:=cC e.2) rfl ?_;show cI 0 (.int 0 _) _;rw[az];refine bA (qX _ _) ?_;refine aS (v:=.int 0 (e.2:Int)) m2 ((LS.ao _ _ (Ne.symm h1)).trans ((x1.ob _ SG).trans ht)) (by omega) (by show 0<1;omega) rfl λH3 m3=>?_;have m3:Mem H3 ((S1.set o (.ce [.int 0 (e.1:Int)] 0)).set t (.ce [.int 0 (e.2:Int)] 0)):=m3;refine NP m3 ((LS.ao _ _ h1).trans (LS.au _ _ _)) (LS.au _ _ _) ?_;refine hK H3 _ m3 (by show S.n≤S1.n;exact x1.n) λb hb n1 n2=>?_;exact(LS.ao _ _ n2).trans ((LS.ao _ _ n1).trans (x1.ob b hb))
theorem atJ{o t:Nat}{x y:AV}(hM:Mem H S)(ho:S.ob o=.ce [x] 0)(ht:S.ob t=.ce [y] 0)(hK:∀H' S',Mem H' S'→Ext S S'→K (.ret (.aE [x,y])) H'):Bu K (.ptr o 0) (.ptr t 0) .dS H:=by
 unfold Bu afr;refine Ny ?_;simp only[fF,fy,fM,aX];have lo1:o<S.n:=hM.lt (by rw[ho];simp);have SG:t<S.n:=hM.lt (by rw[ht];simp);refine oM hM (λa ha=>by
  simp only[List.mem_cons,List.not_mem_nil,or_false]at ha;rcases ha with rfl|rfl<;>rfl) rfl rfl (λa ha=>by
  simp only[List.mem_cons,List.not_mem_nil,or_false]at ha;rcases ha with rfl|rfl<;>rfl) λH1 S1 m1 x1 o1 n1=>?_
 rw[aw];exact NP m1 ((x1.ob _ lo1).trans ho) ((x1.ob _ SG).trans ht) (hK H1 S1 m1 x1)
theorem ckW{q n:Nat}{bd:List aP}(h:4*n≤q)(h2:3*dW bd+1≤n):NJ (cB (q+1)).c20 (.func 83 [] []) n bd:=by
 rw[yZ];exact(okQ q).b0 (by omega) h2 λH K=>awK rfl H K
theorem ck8{n:Nat}{v:AV}{bd:List aP}(hM:Mem H S)(hT:gB gl S)(hg:gl.length≤S.n)(hb:lz S (ltX S) v bd)(hw:nR bd)(hsz:dW bd≤200000)(hn:3*dW bd+1≤n)(hn2:n≤200000)(hK:∀H' S',Mem H' S'→Ext S S'→K (.ret (.aE [cC (eC (Jd n bd)),cC (eA (Jd n bd))])) H'):g40 v H K:=by
 have hW:NJ (cB G.NL).c20 (.func 83 [] []) n bd:=by
  have e:∃q,G.NL=q+1∧4*n≤q:=⟨999999,rfl,by omega⟩
  obtain⟨q,e,h⟩:=e;rw[e];exact ckW h hn
 show Jg (cB G.NL).c20 K v H;generalize (cB G.NL).c20=W at hW ⊢;unfold Jg;rw[aoK];have ez:AV.int 0 (.ofNat 0)=cC 0:=rfl;rw[ez];have h1z:∀a∈[cC 0],a.one=true:=λa ha=>by
  simp only[List.mem_singleton]at ha;subst ha;rfl
 have h1k:∀a∈eg.map ak,a.one=true:=by
  intro a ha;obtain⟨t,_,rfl⟩:=List.mem_map.1 ha;rfl
 refine bZ (bF hM h1z λH1 m1=>?_);have m1:Mem H1 (S.push (.ce [cC 0] 0)):=m1;have x1:Ext S (S.push (.ce [cC 0] 0)):=Ext.push _ _;have o1:(S.push (.ce [cC 0] 0)).ob S.n=.ce [cC 0] 0:=LS.al _ _;have n1:(S.push (.ce [cC 0] 0)).n=S.n+1:=rfl;generalize S.push (.ce [cC 0] 0)=S1 at m1 x1 o1 n1;refine bZ (bF m1 h1z λH2 m2=>?_);have m2:Mem H2 (S1.push (.ce [cC 0] 0)):=m2;have x2:Ext S1 (S1.push (.ce [cC 0] 0)):=Ext.push _ _;have o2:(S1.push (.ce [cC 0] 0)).ob S1.n=.ce [cC 0] 0:=LS.al _ _;have n2:(S1.push (.ce [cC 0] 0)).n=S1.n+1:=rfl;generalize S1.push (.ce [cC 0] 0)=S2 at m2 x2 o2 n2;refine cZ m2 rfl h1k λH3 m3=>?_;have m3:Mem H3 (S2.push (.ce (eg.map ak) 0)):=m3;have x3:Ext S2 (S2.push (.ce (eg.map ak) 0)):=Ext.push _ _;have o3:(S2.push (.ce (eg.map ak) 0)).ob S2.n=.ce (eg.map ak) 0:=LS.al _ _;have n3:(S2.push (.ce (eg.map ak) 0)).n=S2.n+1:=rfl;generalize S2.push (.ce (eg.map ak) 0)=S3 at m3 x3 o3 n3;refine gU rfl ?_;refine bF m3 (l:=[.slice S2.n 0 2 2 1 true,cC 0]) (λa ha=>by
  simp only[List.mem_cons,List.not_mem_nil,or_false]at ha;rcases ha with rfl|rfl<;>rfl) λH4 m4=>?_
 have m4:Mem H4 (S3.push (.ce [.slice S2.n 0 2 2 1 true,cC 0] 0)):=m4;have x4:Ext S3 (S3.push (.ce [.slice S2.n 0 2 2 1 true,cC 0] 0)):=Ext.push _ _;have o4:(S3.push (.ce [.slice S2.n 0 2 2 1 true,cC 0] 0)).ob S3.n=.ce [.slice S2.n 0 2 2 1 true,cC 0] 0:=LS.al _ _;have n4:(S3.push (.ce [.slice S2.n 0 2 2 1 true,cC 0] 0)).n=S3.n+1:=rfl;generalize S3.push (.ce [.slice S2.n 0 2 2 1 true,cC 0] 0)=S4 at m4 x4 o4 n4;refine gU rfl ?_;have h1p:∀a∈[AV.ptr S3.n 0],a.one=true:=λa ha=>by
  simp only[List.mem_singleton]at ha;subst ha;rfl
 refine cZ m4 (l:=[.ptr S3.n 0]) rfl h1p λH5 m5=>?_;have m5:Mem H5 (S4.push (.ce [.ptr S3.n 0] 0)):=m5;have x5:Ext S4 (S4.push (.ce [.ptr S3.n 0] 0)):=Ext.push _ _;have o5:(S4.push (.ce [.ptr S3.n 0] 0)).ob S4.n=.ce [.ptr S3.n 0] 0:=LS.al _ _;have n5:(S4.push (.ce [.ptr S3.n 0] 0)).n=S4.n+1:=rfl;generalize S4.push (.ce [.ptr S3.n 0] 0)=S5 at m5 x5 o5 n5;refine gU rfl ?_;refine bF m5 (l:=[.slice S4.n 0 1 1 1 true]) (λa ha=>by
  simp only[List.mem_singleton]at ha;subst ha;rfl) λH6 m6=>?_
 have m6:Mem H6 (S5.push (.ce [.slice S4.n 0 1 1 1 true] 0)):=m6;have x6:Ext S5 (S5.push (.ce [.slice S4.n 0 1 1 1 true] 0)):=Ext.push _ _;have o6:(S5.push (.ce [.slice S4.n 0 1 1 1 true] 0)).ob S5.n=.ce [.slice S4.n 0 1 1 1 true] 0:=LS.al _ _;have n6:(S5.push (.ce [.slice S4.n 0 1 1 1 true] 0)).n=S5.n+1:=rfl;generalize S5.push (.ce [.slice S4.n 0 1 1 1 true] 0)=S6 at m6 x6 o6 n6;have Fs:=x3.trans (x4.trans (x5.trans x6));have hx:=x1.trans (x2.trans Fs);have fr3:ij S3 (.slice S2.n 0 2 2 1 true) (eg.map ak):=MH o3 h1k;have fr5:ij S5 (.slice S4.n 0 1 1 1 true) [.ptr S3.n 0]:=MH (l:=[.ptr S3.n 0]) o5 h1p;have hP:Pn S2.n S5.n H6 S6 (.slice S4.n 0 1 1 1 true) ([]++[bK.mk S3.n (.slice S2.n 0 2 2 1 true) eg 0]):=by
  refine⟨m6,⟨o6,fr5.keep m5 λx _ h=>x6.ob x h,?_,?_,?_,?_,?_,?_,?_,by omega,?_,?_⟩,by have:=Fs.n;omega,hT.ext hM hx,by omega⟩
  all_goals try simp only[List.nil_append,List.mem_singleton,forall_eq]
  ·exact(x6.ob _ (by omega)).trans ((x5.ob _ (by omega)).trans o4)
  ·exact fr3.keep m3 λx _ h=>(x4.trans (x5.trans x6)).ob x h
  ·exact aoJ
  ·intro g;have g:S5.n=S4.n:=g;omega
  ·intro g;have g:S3.n=S2.n:=g;omega
  ·exact List.pairwise_singleton _ _
  ·intro x h;have h:x=S3.n∨x=S2.n:=h;refine⟨by omega,λg=>?_⟩;have g:x=S4.n:=g;omega
  ·intro x g;have g:x=S4.n:=g;omega
  ·intro x h;have h:x=S3.n∨x=S2.n:=h;omega
 have hbox:∀{S7:LS},(∀x,x<S2.n→S7.ob x=S6.ob x)→S7.ob S.n=.ce [cC 0] 0∧S7.ob S1.n=.ce [cC 0] 0:=λh=>by
  refine⟨?_,?_⟩
  ·rw[h _ (by omega),Fs.ob _ (by omega),x2.ob _ (by omega)];exact o1
  ·rw[h _ (by omega),Fs.ob _ (by omega)];exact o2
 have hend:∀{S7 S8:LS},S6.n≤S7.n→(∀x,x<S2.n→S7.ob x=S6.ob x)→S7.n≤S8.n→(∀b,b<S7.n→b≠S.n→b≠S1.n→S8.ob b=S7.ob b)→Ext S S8:=λh1 h2 h3 h4=>⟨by have:=hx.n;omega,λx hxl=>by
  have:=hx.n;rw[h4 x (by omega) (by omega) (by omega),h2 x (by omega)];exact hx.ob x hxl⟩
 refine hW.run hP rfl (hb.go (λx h=>hx.ob x h) λx h=>by have h:x<S.n:=h;show x<S2.n;omega) hw ⟨?_,?_⟩ ⟨λhnn H7 S7 uM v7 P7 NO=>?_,λe he H7 S7 m7 n7 k7=>?_⟩
 ·show 1+_≤_;omega
 ·intro d hd;simp only[List.nil_append,List.mem_singleton]at hd;subst hd;show 2+_≤_∧0+_≤_;omega
 ·show cR (afs K _ _) (.ret (.aE [])) H7 _;rw[aq];obtain⟨b1,b2⟩:=hbox (hP.low NO);refine aS (v:=cC 0) P7.m b1 (by omega) (by show 0<1;omega) rfl λH8 m8=>?_;have m8:Mem H8 (S7.set S.n (.ce [cC 0] 0)):=m8;refine aS (v:=cC 0) m8 ((LS.ao _ _ (by omega)).trans b2) (by omega) (by show 0<1;omega) rfl λH9 m9=>?_;have m9:Mem H9 ((S7.set S.n (.ce [cC 0] 0)).set S1.n (.ce [cC 0] 0)):=m9;refine atJ m9 ((LS.ao _ _ (by omega)).trans (LS.au _ _ _)) (LS.au _ _ _) λHa Sa ma xa=>?_;have hnn:Jd n bd=none:=hnn;rw[hnn]at hK;refine hK Ha Sa ma (hend (S7:=S7) NO.n (hP.low NO) (by have:=xa.n;exact this) λx h h1 h2=>?_);rw[xa.ob x h];exact(LS.ao _ _ h2).trans (LS.ao _ _ h1)
 ·show cR (afs K _ _) (.cj _) H7 _;rw[dt];show Bu K (.ptr S.n 0) (.ptr S1.n 0) _ H7;obtain⟨b1,b2⟩:=hbox k7;refine atI m7 b1 b2 (by omega) λHa Sa ma na ka=>?_;have he:Jd n bd=some e:=he;rw[he]at hK;exact hK Ha Sa ma (hend n7 k7 na ka)
end
end Go.Proofs.YtcedghechlgecaaGreatDoor
