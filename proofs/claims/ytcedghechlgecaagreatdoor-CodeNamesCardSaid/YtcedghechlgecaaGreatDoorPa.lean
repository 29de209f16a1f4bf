/- The grammar with fuel, scripts in memory. No condition: definitions and lemmas. -/
import Derived.Test.YtcedghechlgecaaGreatDoorGc
set_option maxRecDepth 100000
set_option maxHeartbeats 0
set_option linter.unusedVariables false
set_option linter.unusedSimpArgs false
namespace Go.X
section
mutual
inductive aO where
 |mk (kind at_ n:Nat) (s:List Nat) (op:Nat) (l:List aO) (f:List gr)
inductive gr where
 |mk (params:List (List Nat)) (body:List aP)
inductive aP where
 |mk (kind at_:Nat) (names:List (List Nat)) (l:List aO) (blocks:List (List aP))
end
def aO.kind:aO→Nat
 |.mk k ..=>k
def aP.kind:aP→Nat
 |.mk k ..=>k
inductive cG(α:Type) where
 |ok (a:α) (i:Nat)
 |err (c i:Nat)
 |dZ
def cG.bind{α β:Type}(r:cG α)(f:α→Nat→cG β):cG β:=match r with
 |.ok a i=>f a i
 |.err c i=>.err c i
 |.dZ=>.dZ
def cg(T:List Tok)(i:Nat):Nat:=match T[i]? with|some t=>t.kind|none=>0
def ft(T:List Tok)(i:Nat):List Nat:=match T[i]? with|some t=>t.text|none=>[]
def aZ(T:List Tok)(i:Nat):Nat:=match T[i]? with|some t=>t.pos|none=>0
def xv(T:List Tok)(i:Nat):Nat:=match T[i]? with|some t=>t.n|none=>0
def isA(T:List Tok)(s:List Nat)(i:Nat):Bool:=(decide (cg T i=1)||decide (cg T i=5))&&decide (ft T i=s)
def dR(T:List Tok)(s:List Nat)(i:Nat):cG Unit:=if isA T s i then .ok () (i+1) else .err 14 i
def oJ(T:List Tok)(i:Nat):cG (List Nat):=if cg T i=2 then .ok (ft T i) (i+1) else .err 14 i
def mK(T:List Tok)(i:Nat):Nat→List (List Nat)→Nat
 |_,[]=>0
 |f,s::l=>if isA T s i then f else mK T i (f+1) l
def nr(T:List Tok)(i:Nat):Bool:=isA T [101,110,100] i||(isA T [101,108,115,101] i||(isA T [101,108,115,101,105,102] i||(isA T [117,110,116,105,108] i||decide (cg T i=0))))
def xw(kind op at_:Nat)(a b:aO):aO:=.mk kind at_ 0 [] op [a,b] []
def sQ(T:List Tok)(s:List Nat)(i:Nat):Nat:=if isA T s i then i+1 else i
def BC(T:List Tok)(i:Nat):Nat:=if isA T [110,111,116] i then 11 else if isA T [45] i then 12 else if isA T [35] i then 13 else 0
def tests:List (List Nat):=[[61,61],[126,61],[60],[60,61],[62],[62,61]]
def sums:List (List Nat):=[[43],[45]]
def terms:List (List Nat):=[[42],[47,47],[37]]
def pS(T:List Tok)(i:Nat):Nat:=if isA T [110,105,108] i then 1 else if isA T [116,114,117,101] i then 2 else if isA T [102,97,108,115,101] i then 3 else 0
variable (T:List Tok)
mutual
def fu:Nat→Nat→Nat→cG aO
 |0,_,_=>.dZ
 |n+1,i,d=>if 100<d+1 then .err 8 i else mU n i (d+1)
def mU:Nat→Nat→Nat→cG aO
 |0,_,_=>.dZ
 |n+1,i,d=>(rz n i d).bind λe j=>mz n e j d
def mz:Nat→aO→Nat→Nat→cG aO
 |0,_,_,_=>.dZ
 |n+1,e,i,d=>if isA T [111,114] i then (rz n (i+1) d).bind λb j=>mz n (xw 16 0 (aZ T i) e b) j d else .ok e i
def rz:Nat→Nat→Nat→cG aO
 |0,_,_=>.dZ
 |n+1,i,d=>(rA n i d).bind λe j=>rB n e j d
def rB:Nat→aO→Nat→Nat→cG aO
 |0,_,_,_=>.dZ
 |n+1,e,i,d=>if isA T [97,110,100] i then (rA n (i+1) d).bind λb j=>rB n (xw 15 0 (aZ T i) e b) j d else .ok e i
def rA:Nat→Nat→Nat→cG aO
 |0,_,_=>.dZ
 |n+1,i,d=>(pT n i d).bind λe j=>rC n e j d
def rC:Nat→aO→Nat→Nat→cG aO
 |0,_,_,_=>.dZ
 |n+1,e,i,d=>if mK T i 7 tests=0 then .ok e i else (pT n (i+1) d).bind λb j=>rC n (xw 14 (mK T i 7 tests) (aZ T i) e b) j d
def pT:Nat→Nat→Nat→cG aO
 |0,_,_=>.dZ
 |n+1,i,d=>(yV n i d).bind λe j=>if isA T [46,46] j then (if 100<d+1 then .err 8 (j+1) else (pT n (j+1) (d+1)).bind λb k=>.ok (xw 14 6 (aZ T j) e b) k) else .ok e j
def yV:Nat→Nat→Nat→cG aO
 |0,_,_=>.dZ
 |n+1,i,d=>(rD n i d).bind λe j=>uY n e j d
def uY:Nat→aO→Nat→Nat→cG aO
 |0,_,_,_=>.dZ
 |n+1,e,i,d=>if mK T i 1 sums=0 then .ok e i else (rD n (i+1) d).bind λb j=>uY n (xw 14 (mK T i 1 sums) (aZ T i) e b) j d
def rD:Nat→Nat→Nat→cG aO
 |0,_,_=>.dZ
 |n+1,i,d=>(iY n i d).bind λe j=>rE n e j d
def rE:Nat→aO→Nat→Nat→cG aO
 |0,_,_,_=>.dZ
 |n+1,e,i,d=>if mK T i 3 terms=0 then .ok e i else (iY n (i+1) d).bind λb j=>rE n (xw 14 (mK T i 3 terms) (aZ T i) e b) j d
def iY:Nat→Nat→Nat→cG aO
 |0,_,_=>.dZ
 |n+1,i,d=>if BC T i=0 then oK n i d else if 100<d+1 then .err 8 (i+1) else (iY n (i+1) (d+1)).bind λe j=>.ok (.mk (BC T i) (aZ T i) 0 [] 0 [e] []) j
def oK:Nat→Nat→Nat→cG aO
 |0,_,_=>.dZ
 |n+1,i,d=>if cg T i=2∨isA T [40] i=true then (jL n i d).bind λe j=>mL n e j d else jL n i d
def mL:Nat→aO→Nat→Nat→cG aO
 |0,_,_,_=>.dZ
 |n+1,e,i,d=>
  if isA T [46] i then (oJ T (i+1)).bind λs j=>mL n (xw 9 0 (aZ T i) e (.mk 5 (aZ T (i+1)) 0 s 0 [] [])) j d
  else if isA T [91] i then (fu n (i+1) d).bind λk j=>(dR T [93] j).bind λ_ j=>mL n (xw 9 0 (aZ T i) e k) j d
  else if isA T [40] i then (jG n true [] (i+1) d).bind λl j=>mL n (.mk 10 (aZ T i) 0 [] 0 (e::l) []) j d
  else .ok e i
def jG:Nat→Bool→List aO→Nat→Nat→cG (List aO)
 |0,_,_,_,_=>.dZ
 |n+1,first,out,i,d=>
  if (if first then !isA T [41] i else isA T [44] i) then
   (if out.length=16 then .err 8 (if first then i else i+1) else (fu n (if first then i else i+1) d).bind λe j=>jG n false (out++[e]) j d)
  else (dR T [41] i).bind λ_ j=>.ok out j
def jL:Nat→Nat→Nat→cG aO
 |0,_,_=>.dZ
 |n+1,i,d=>
  if cg T i=3 then .ok (.mk 4 (aZ T i) (xv T i) [] 0 [] []) (i+1)
  else if cg T i=4 then .ok (.mk 5 (aZ T i) 0 (ft T i) 0 [] []) (i+1)
  else if cg T i=2 then .ok (.mk 6 (aZ T i) 0 (ft T i) 0 [] []) (i+1)
  else if pS T i≠0 then .ok (.mk (pS T i) (aZ T i) 0 [] 0 [] []) (i+1)
  else if isA T [102,117,110,99,116,105,111,110] i then pU n (aZ T i) (i+1) d
  else if isA T [123] i then kQ n [] 0 (aZ T i) (i+1) d
  else if isA T [40] i then (fu n (i+1) d).bind λe j=>(dR T [41] j).bind λ_ j=>.ok e j
  else .err 14 i
def kQ:Nat→List aO→Nat→Nat→Nat→Nat→cG aO
 |0,_,_,_,_,_=>.dZ
 |n+1,out,c,a,i,d=>
  if isA T [125] i then .ok (.mk 8 a 0 [] 0 out []) (i+1)
  else if out.length=128 then .err 8 i
  else (mM n c i d).bind λr j=>if isA T [44] j∨isA T [59] j then kQ n (out++r.1) r.2 a (j+1) d else (dR T [125] j).bind λ_ k=>.ok (.mk 8 a 0 [] 0 (out++r.1) []) k
def mM:Nat→Nat→Nat→Nat→cG (List aO×Nat)
 |0,_,_,_=>.dZ
 |n+1,c,i,d=>
  if isA T [91] i then (fu n (i+1) d).bind λk j=>(dR T [93] j).bind λ_ j=>(dR T [61] j).bind λ_ j=>(fu n j d).bind λv j=>.ok ([k,v],c) j
  else if cg T i=2∧cg T (i+1)=5∧ft T (i+1)=[61] then (fu n (i+2) d).bind λv j=>.ok ([.mk 5 (aZ T i) 0 (ft T i) 1 [] [],v],c) j
  else (fu n i d).bind λv j=>.ok ([.mk 4 (aZ T i) (c+1) [] 1 [] [],v],c+1) j
def pU:Nat→Nat→Nat→Nat→cG aO
 |0,_,_,_=>.dZ
 |n+1,a,i,d=>(dR T [40] i).bind λ_ j=>(kC n true [] j).bind λps j=>(fk n j d).bind λb j=>(dR T [101,110,100] j).bind λ_ j=>.ok (.mk 7 a 0 [] 0 [] [.mk ps b]) j
def kC:Nat→Bool→List (List Nat)→Nat→cG (List (List Nat))
 |0,_,_,_=>.dZ
 |n+1,first,out,i=>
  if (if first then !isA T [41] i else isA T [44] i) then
   (if out.length=16 then .err 8 (if first then i else i+1) else (oJ T (if first then i else i+1)).bind λs j=>kC n false (out++[s]) j)
  else (dR T [41] i).bind λ_ j=>.ok out j
def fk:Nat→Nat→Nat→cG (List aP)
 |0,_,_=>.dZ
 |n+1,i,d=>if 100<d+1 then .err 8 i else dP n [] i (d+1)
def dP:Nat→List aP→Nat→Nat→cG (List aP)
 |0,_,_,_=>.dZ
 |n+1,out,i,d=>
  if nr T i then .ok out i
  else (nt n i d).bind λs j=>if s.kind=10∧nr T (sQ T [59] j)=false then .err 14 (sQ T [59] j) else dP n (out++[s]) (sQ T [59] j) d
def nt:Nat→Nat→Nat→cG aP
 |0,_,_=>.dZ
 |n+1,i,d=>
  if isA T [108,111,99,97,108] i then pJ n (aZ T i) (i+1) d
  else if isA T [105,102] i then kD n (aZ T i) [] [] (i+1) d
  else if isA T [119,104,105,108,101] i then At n (aZ T i) (i+1) d
  else if isA T [114,101,112,101,97,116] i then wh n (aZ T i) (i+1) d
  else if isA T [102,111,114] i then Bi n (aZ T i) (i+1) d
  else if isA T [98,114,101,97,107] i then .ok (.mk 9 (aZ T i) [] [] []) (i+1)
  else if isA T [100,111] i then X4 n (aZ T i) (i+1) d
  else if isA T [114,101,116,117,114,110] i then sS n (aZ T i) (i+1) d
  else if cg T i=2 then rF n (aZ T i) i d
  else .err 14 i
def pJ:Nat→Nat→Nat→Nat→cG aP
 |0,_,_,_=>.dZ
 |n+1,a,i,d=>
  if isA T [102,117,110,99,116,105,111,110] i then (oJ T (i+1)).bind λs j=>(pU n (aZ T j) j d).bind λb j=>.ok (.mk 12 a [s] [b] []) j
  else (oJ T i).bind λs j=>if isA T [61] j then (fu n (j+1) d).bind λe k=>.ok (.mk 1 a [s] [e] []) k else .ok (.mk 1 a [s] [] []) j
def At:Nat→Nat→Nat→Nat→cG aP
 |0,_,_,_=>.dZ
 |n+1,a,i,d=>(fu n i d).bind λe j=>(dR T [100,111] j).bind λ_ j=>(fk n j d).bind λb j=>(dR T [101,110,100] j).bind λ_ j=>.ok (.mk 5 a [] [e] [b]) j
def wh:Nat→Nat→Nat→Nat→cG aP
 |0,_,_,_=>.dZ
 |n+1,a,i,d=>(fk n i d).bind λb j=>(dR T [117,110,116,105,108] j).bind λ_ j=>(fu n j d).bind λe j=>.ok (.mk 8 a [] [e] [b]) j
def X4:Nat→Nat→Nat→Nat→cG aP
 |0,_,_,_=>.dZ
 |n+1,a,i,d=>(fk n i d).bind λb j=>(dR T [101,110,100] j).bind λ_ j=>.ok (.mk 11 a [] [] [b]) j
def sS:Nat→Nat→Nat→Nat→cG aP
 |0,_,_,_=>.dZ
 |n+1,a,i,d=>if isA T [59] i=true∨nr T i=true then .ok (.mk 10 a [] [] []) i else (fu n i d).bind λe j=>.ok (.mk 10 a [] [e] []) j
def rF:Nat→Nat→Nat→Nat→cG aP
 |0,_,_,_=>.dZ
 |n+1,a,i,d=>(oK n i d).bind λe j=>if e.kind=10 then .ok (.mk 3 a [] [e] []) j else (dR T [61] j).bind λ_ j=>(fu n j d).bind λv j=>.ok (.mk 2 a [] [e,v] []) j
def kD:Nat→Nat→List aO→List (List aP)→Nat→Nat→cG aP
 |0,_,_,_,_,_=>.dZ
 |n+1,a,l,bs,i,d=>(fu n i d).bind λe j=>(dR T [116,104,101,110] j).bind λ_ j=>(fk n j d).bind λb j=>
  if isA T [101,108,115,101,105,102] j then kD n a (l++[e]) (bs++[b]) (j+1) d
  else if isA T [101,108,115,101] j then (fk n (j+1) d).bind λb2 j=>(dR T [101,110,100] j).bind λ_ j=>.ok (.mk 4 a [] (l++[e]) (bs++[b]++[b2])) j
  else (dR T [101,110,100] j).bind λ_ j=>.ok (.mk 4 a [] (l++[e]) (bs++[b])) j
def Bi:Nat→Nat→Nat→Nat→cG aP
 |0,_,_,_=>.dZ
 |n+1,a,i,d=>(oJ T i).bind λs j=>
  if isA T [44] j then (oJ T (j+1)).bind λs2 j=>(dR T [105,110] j).bind λ_ j=>(fu n j d).bind λe j=>oL n 7 a [s,s2] [e] j d
  else (dR T [61] j).bind λ_ j=>(fu n j d).bind λe j=>(dR T [44] j).bind λ_ j=>(fu n j d).bind λe2 j=>
   if isA T [44] j then (fu n (j+1) d).bind λe3 j=>oL n 6 a [s] [e,e2,e3] j d
   else oL n 6 a [s] [e,e2] j d
def oL:Nat→Nat→Nat→List (List Nat)→List aO→Nat→Nat→cG aP
 |0,_,_,_,_,_,_=>.dZ
 |n+1,k,a,ns,l,i,d=>(dR T [100,111] i).bind λ_ j=>(fk n j d).bind λb j=>(dR T [101,110,100] j).bind λ_ j=>.ok (.mk k a ns l [b]) j
end
end
def nu(T:List Tok):Prop:=0<T.length∧∀i,i<T.length→cg T i≠0→i+1<T.length
def gG(α:Type)(L i:Nat)(r:cG α):Prop:=match r with
 |.ok _ j=>i<j∧j<L
 |.err _ j=>j<L
 |.dZ=>False
def gW(α:Type)(L i:Nat)(r:cG α):Prop:=match r with
 |.ok _ j=>i≤j∧j<L
 |.err _ j=>j<L
 |.dZ=>False
section
variable {T:List Tok}{α β:Type}{L i:Nat}
theorem gG.w{r:cG α}(h:gG α L i r):gW α L i r:=by
 cases r with
 |ok a j=>exact⟨Nat.le_of_lt h.1,h.2⟩
 |err c j=>exact h
 |dZ=>exact h
theorem gG.lo{r:cG α}{i':Nat}(h:gG α L i r)(hi:i'≤i):gG α L i' r:=by
 cases r with
 |ok a j=>exact⟨Nat.lt_of_le_of_lt hi h.1,h.2⟩
 |err c j=>exact h
 |dZ=>exact h
theorem gW.lo{r:cG α}{i':Nat}(h:gW α L i r)(hi:i'≤i):gW α L i' r:=by
 cases r with
 |ok a j=>exact⟨Nat.le_trans hi h.1,h.2⟩
 |err c j=>exact h
 |dZ=>exact h
theorem gW.lt{r:cG α}{i':Nat}(h:gW α L i r)(hi:i'<i):gG α L i' r:=by
 cases r with
 |ok a j=>exact⟨Nat.lt_of_lt_of_le hi h.1,h.2⟩
 |err c j=>exact h
 |dZ=>exact h
theorem gG.bind{r:cG α}{f:α→Nat→cG β}(h:gG α L i r)(hf:∀a j,i<j→j<L→gW β L j (f a j)):gG β L i (r.bind f):=by
 cases r with
 |ok a j=>exact(hf a j h.1 h.2).lt h.1
 |err c j=>exact h
 |dZ=>exact h
theorem gW.bind{r:cG α}{f:α→Nat→cG β}(h:gW α L i r)(hf:∀a j,i≤j→j<L→gW β L j (f a j)):gW β L i (r.bind f):=by
 cases r with
 |ok a j=>exact(hf a j h.1 h.2).lo h.1
 |err c j=>exact h
 |dZ=>exact h
theorem gW.aqh{r:cG α}{f:α→Nat→cG β}(h:gW α L i r)(hf:∀a j,i≤j→j<L→gG β L j (f a j)):gG β L i (r.bind f):=by
 cases r with
 |ok a j=>exact(hf a j h.1 h.2).lo h.1
 |err c j=>exact h
 |dZ=>exact h
theorem X5(h:cg T i≠0):i<T.length:=by
 unfold cg at h;rcases Nat.lt_or_ge i T.length with g|g
 ·exact g
 ·rw[List.getElem?_eq_none g]at h;exact absurd rfl h
theorem xy{s:List Nat}(h:isA T s i=true):cg T i=1∨cg T i=5:=by
 unfold isA at h;rw[Bool.and_eq_true,Bool.or_eq_true]at h;rcases h.1 with g|g
 ·exact .inl (of_decide_eq_true g)
 ·exact .inr (of_decide_eq_true g)
theorem cP(hT:nu T){s:List Nat}(h:isA T s i=true):i+1<T.length:=by
 have hk:cg T i≠0:=by
  rcases xy h with g|g<;>omega
 exact hT.2 i (X5 hk) hk
theorem mA(hT:nu T)(h:cg T i≠0):i+1<T.length:=hT.2 i (X5 h) h
theorem fS(hT:nu T){s:List Nat}(hi:i<T.length):gG Unit T.length i (dR T s i):=by
 unfold dR;split
 ·rename_i h;exact⟨by omega,cP hT h⟩
 ·exact hi
theorem xz(hT:nu T)(hi:i<T.length):gG (List Nat) T.length i (oJ T i):=by
 unfold oJ;split
 ·rename_i h;exact⟨by omega,mA hT (by omega)⟩
 ·exact hi
theorem Om(hT:nu T):∀(l:List (List Nat)) (f:Nat),mK T i f l≠0→i+1<T.length
 |[],f,h=>absurd rfl h
 |s::l,f,h=>by
  unfold mK at h;split at h
  ·rename_i g;exact cP hT g
  ·exact Om hT l _ h
theorem ax8(hT:nu T)(h:BC T i≠0):i+1<T.length:=by
 unfold BC at h;split at h
 ·rename_i g;exact cP hT g
 split at h
 ·rename_i g;exact cP hT g
 split at h
 ·rename_i g;exact cP hT g
 ·exact absurd rfl h
theorem atA(hT:nu T)(h:pS T i≠0):i+1<T.length:=by
 unfold pS at h;split at h
 ·rename_i g;exact cP hT g
 split at h
 ·rename_i g;exact cP hT g
 split at h
 ·rename_i g;exact cP hT g
 ·exact absurd rfl h
theorem awm(hT:nu T){s:List Nat}(hi:i<T.length):i≤sQ T s i∧sQ T s i<T.length:=by
 unfold sQ;split
 ·rename_i g;exact⟨by omega,cP hT g⟩
 ·exact⟨Nat.le_refl _,hi⟩
theorem mN{a:α}(h:i<L):gW α L i (.ok a i):=⟨Nat.le_refl _,h⟩
structure Fu(T:List Tok)(n:Nat):Prop where
 exp:∀i d,i<T.length→64*(T.length-i)+20≤n→gG _ T.length i (fu T n i d)
 either:∀i d,i<T.length→64*(T.length-i)+19≤n→gG _ T.length i (mU T n i d)
 EW:∀e i d,i<T.length→64*(T.length-i)+1≤n→gW _ T.length i (mz T n e i d)
 both:∀i d,i<T.length→64*(T.length-i)+18≤n→gG _ T.length i (rz T n i d)
 On:∀e i d,i<T.length→64*(T.length-i)+1≤n→gW _ T.length i (rB T n e i d)
 test:∀i d,i<T.length→64*(T.length-i)+17≤n→gG _ T.length i (rA T n i d)
 Oo:∀e i d,i<T.length→64*(T.length-i)+1≤n→gW _ T.length i (rC T n e i d)
 join:∀i d,i<T.length→64*(T.length-i)+16≤n→gG _ T.length i (pT T n i d)
 sum:∀i d,i<T.length→64*(T.length-i)+15≤n→gG _ T.length i (yV T n i d)
 afe:∀e i d,i<T.length→64*(T.length-i)+1≤n→gW _ T.length i (uY T n e i d)
 term:∀i d,i<T.length→64*(T.length-i)+14≤n→gG _ T.length i (rD T n i d)
 Oq:∀e i d,i<T.length→64*(T.length-i)+1≤n→gW _ T.length i (rE T n e i d)
 unary:∀i d,i<T.length→64*(T.length-i)+13≤n→gG _ T.length i (iY T n i d)
 post:∀i d,i<T.length→64*(T.length-i)+12≤n→gG _ T.length i (oK T n i d)
 EX:∀e i d,i<T.length→64*(T.length-i)+1≤n→gW _ T.length i (mL T n e i d)
 Ot:∀f o i d,i<T.length→64*(T.length-i)+30≤n→gG _ T.length i (jG T n f o i d)
 simple:∀i d,i<T.length→64*(T.length-i)+11≤n→gG _ T.length i (jL T n i d)
 Sy:∀o c a i d,i<T.length→64*(T.length-i)+40≤n→gG _ T.length i (kQ T n o c a i d)
 field:∀c i d,i<T.length→64*(T.length-i)+35≤n→gG _ T.length i (mM T n c i d)
 body:∀a i d,i<T.length→64*(T.length-i)+10≤n→gG _ T.length i (pU T n a i d)
 EY:∀f o i,i<T.length→64*(T.length-i)+5≤n→gG _ T.length i (kC T n f o i)
 block:∀i d,i<T.length→64*(T.length-i)+50≤n→gW _ T.length i (fk T n i d)
 I5:∀o i d,i<T.length→64*(T.length-i)+49≤n→gW _ T.length i (dP T n o i d)
 stat:∀i d,i<T.length→64*(T.length-i)+45≤n→gG _ T.length i (nt T n i d)
 MB:∀a l b i d,i<T.length→64*(T.length-i)+25≤n→gG _ T.length i (kD T n a l b i d)
 for_:∀a i d,i<T.length→64*(T.length-i)+5≤n→gG _ T.length i (Bi T n a i d)
 CV:∀k a ns l i d,i<T.length→64*(T.length-i)+5≤n→gG _ T.length i (oL T n k a ns l i d)
 xA:∀a i d,i<T.length→64*(T.length-i)+30≤n→gG _ T.length i (pJ T n a i d)
 SA:∀a i d,i<T.length→64*(T.length-i)+30≤n→gG _ T.length i (At T n a i d)
 MC:∀a i d,i<T.length→64*(T.length-i)+60≤n→gG _ T.length i (wh T n a i d)
 do_:∀a i d,i<T.length→64*(T.length-i)+60≤n→gG _ T.length i (X4 T n a i d)
 MD:∀a i d,i<T.length→64*(T.length-i)+30≤n→gW _ T.length i (sS T n a i d)
 plain:∀a i d,i<T.length→64*(T.length-i)+30≤n→gG _ T.length i (rF T n a i d)
theorem atB(hT:nu T){n:Nat}(F:Fu T n):Fu T (n+1) where
 exp i d hi hn:=by
  simp only[fu];split
  ·exact hi
  ·exact F.either i _ hi (by omega)
 either i d hi hn:=by
  simp only[mU];exact(F.both i d hi (by omega)).bind λe j h1 h2=>F.EW e j d h2 (by omega)
 EW e i d hi hn:=by
  simp only[mz];split
  ·rename_i h;have:=cP hT h;exact(((F.both (i+1) d this (by omega)).bind λb j h1 h2=>F.EW _ j d h2 (by omega)).lo (by omega)).w
  ·exact⟨Nat.le_refl _,hi⟩
 both i d hi hn:=by
  simp only[rz];exact(F.test i d hi (by omega)).bind λe j h1 h2=>F.On e j d h2 (by omega)
 On e i d hi hn:=by
  simp only[rB];split
  ·rename_i h;have:=cP hT h;exact(((F.test (i+1) d this (by omega)).bind λb j h1 h2=>F.On _ j d h2 (by omega)).lo (by omega)).w
  ·exact⟨Nat.le_refl _,hi⟩
 test i d hi hn:=by
  simp only[rA];exact(F.join i d hi (by omega)).bind λe j h1 h2=>F.Oo e j d h2 (by omega)
 Oo e i d hi hn:=by
  simp only[rC];split
  ·exact⟨Nat.le_refl _,hi⟩
  ·rename_i h;have:=Om hT _ _ h;exact(((F.join (i+1) d this (by omega)).bind λb j h1 h2=>F.Oo _ j d h2 (by omega)).lo (by omega)).w
 join i d hi hn:=by
  simp only[pT];refine(F.sum i d hi (by omega)).bind λe j h1 h2=>?_;split
  ·rename_i h;have:=cP hT h;split
   ·exact this
   ·exact(((F.join (j+1) _ this (by omega)).bind λb k h3 h4=>mN h4).lo (by omega)).w
  ·exact⟨Nat.le_refl _,h2⟩
 sum i d hi hn:=by
  simp only[yV];exact(F.term i d hi (by omega)).bind λe j h1 h2=>F.afe e j d h2 (by omega)
 afe e i d hi hn:=by
  simp only[uY];split
  ·exact⟨Nat.le_refl _,hi⟩
  ·rename_i h;have:=Om hT _ _ h;exact(((F.term (i+1) d this (by omega)).bind λb j h1 h2=>F.afe _ j d h2 (by omega)).lo (by omega)).w
 term i d hi hn:=by
  simp only[rD];exact(F.unary i d hi (by omega)).bind λe j h1 h2=>F.Oq e j d h2 (by omega)
 Oq e i d hi hn:=by
  simp only[rE];split
  ·exact⟨Nat.le_refl _,hi⟩
  ·rename_i h;have:=Om hT _ _ h;exact(((F.unary (i+1) d this (by omega)).bind λb j h1 h2=>F.Oq _ j d h2 (by omega)).lo (by omega)).w
 unary i d hi hn:=by
  simp only[iY];split
  ·exact F.post i d hi (by omega)
  ·rename_i h;have:=ax8 hT h;split
   ·exact this
   ·exact((F.unary (i+1) _ this (by omega)).bind λe j h1 h2=>mN h2).lo (by omega)
 post i d hi hn:=by
  simp only[oK];split
  ·exact(F.simple i d hi (by omega)).bind λe j h1 h2=>F.EX e j d h2 (by omega)
  ·exact F.simple i d hi (by omega)
 EX e i d hi hn:=by
  simp only[mL];split
  ·rename_i h;have:=cP hT h;exact(((xz hT this).bind λs j h1 h2=>F.EX _ j d h2 (by omega)).lo (by omega)).w
  split
  ·rename_i h;have:=cP hT h;exact(((F.exp (i+1) d this (by omega)).bind λk j h1 h2=>((fS hT h2).bind λ_ j' h3 h4=>F.EX _ j' d h4 (by omega)).w).lo (by omega)).w
  split
  ·rename_i h;have:=cP hT h;exact(((F.Ot _ _ (i+1) d this (by omega)).bind λl j h1 h2=>F.EX _ j d h2 (by omega)).lo (by omega)).w
  ·exact⟨Nat.le_refl _,hi⟩
 Ot f o i d hi hn:=by
  simp only[jG];cases f with
  |true=>
   simp only[if_true];split
   ·split
    ·exact hi
    ·exact(F.exp i d hi (by omega)).bind λe j h3 h4=>(F.Ot _ _ j d h4 (by omega)).w
   ·exact(fS hT hi).bind λ_ j h1 h2=>mN h2
  |false=>
   simp only[Bool.false_eq_true,if_false];split
   ·rename_i h;have g1:=cP hT h;split
    ·exact g1
    ·exact((F.exp (i+1) d g1 (by omega)).bind λe j h3 h4=>(F.Ot _ _ j d h4 (by omega)).w).lo (by omega)
   ·exact(fS hT hi).bind λ_ j h1 h2=>mN h2
 simple i d hi hn:=by
  simp only[jL];split
  ·exact⟨by omega,mA hT (by omega)⟩
  split
  ·exact⟨by omega,mA hT (by omega)⟩
  split
  ·exact⟨by omega,mA hT (by omega)⟩
  split
  ·rename_i h;exact⟨by omega,atA hT h⟩
  split
  ·rename_i h;have:=cP hT h;exact(F.body _ (i+1) d this (by omega)).lo (by omega)
  split
  ·rename_i h;have:=cP hT h;exact(F.Sy _ _ _ (i+1) d this (by omega)).lo (by omega)
  split
  ·rename_i h;have:=cP hT h;exact((F.exp (i+1) d this (by omega)).bind λe j h1 h2=>((fS hT h2).bind λ_ j h3 h4=>mN h4).w).lo (by omega)
  ·exact hi
 Sy o c a i d hi hn:=by
  simp only[kQ];split
  ·rename_i h;exact⟨by omega,cP hT h⟩
  split
  ·exact hi
  ·refine(F.field c i d hi (by omega)).bind λr j h1 h2=>?_;split
   ·rename_i h;have:j+1<T.length:=by
     rcases h with h|h<;>exact cP hT h
    exact((F.Sy _ _ _ (j+1) d this (by omega)).lo (by omega)).w
   ·exact((fS hT h2).bind λ_ j h3 h4=>mN h4).w
 field c i d hi hn:=by
  simp only[mM];split
  ·rename_i h;have:=cP hT h;exact((F.exp (i+1) d this (by omega)).bind λk j h1 h2=>((fS hT h2).bind λ_ j h3 h4=>((fS hT h4).bind λ_ j h5 h6=>((F.exp j d h6 (by omega)).bind λv j h7 h8=>mN h8).w).w).w).lo (by omega)
  split
  ·rename_i h;have h1:i+2<T.length:=mA (i:=i+1) hT (by omega);exact((F.exp (i+2) d h1 (by omega)).bind λv j h3 h4=>mN h4).lo (by omega)
  ·exact(F.exp i d hi (by omega)).bind λv j h3 h4=>mN h4
 body a i d hi hn:=by
  simp only[pU];exact(fS hT hi).bind λ_ j h1 h2=>((F.EY _ _ j h2 (by omega)).bind λps j h3 h4=>((F.block j d h4 (by omega)).bind λb j h5 h6=>((fS hT h6).bind λ_ j h7 h8=>mN h8).w)).w
 EY f o i hi hn:=by
  simp only[kC];cases f with
  |true=>
   simp only[if_true];split
   ·split
    ·exact hi
    ·exact(xz hT hi).bind λe j h3 h4=>(F.EY _ _ j h4 (by omega)).w
   ·exact(fS hT hi).bind λ_ j h1 h2=>mN h2
  |false=>
   simp only[Bool.false_eq_true,if_false];split
   ·rename_i h;have g1:=cP hT h;split
    ·exact g1
    ·exact((xz hT g1).bind λe j h3 h4=>(F.EY _ _ j h4 (by omega)).w).lo (by omega)
   ·exact(fS hT hi).bind λ_ j h1 h2=>mN h2
 block i d hi hn:=by
  simp only[fk];split
  ·exact hi
  ·exact F.I5 _ i _ hi (by omega)
 I5 o i d hi hn:=by
  simp only[dP];split
  ·exact⟨Nat.le_refl _,hi⟩
  ·refine((F.stat i d hi (by omega)).bind λs j h1 h2=>?_).w;obtain⟨h3,h4⟩:=awm hT (s:=[59]) h2;split
   ·exact h4
   ·exact(F.I5 _ _ d h4 (by omega)).lo h3
 stat i d hi hn:=by
  simp only[nt];split
  ·rename_i h;have g1:=cP hT h;exact(F.xA _ (i+1) d g1 (by omega)).lo (by omega)
  split
  ·rename_i h;have g1:=cP hT h;exact(F.MB _ _ _ (i+1) d g1 (by omega)).lo (by omega)
  split
  ·rename_i h;have g1:=cP hT h;exact(F.SA _ (i+1) d g1 (by omega)).lo (by omega)
  split
  ·rename_i h;have g1:=cP hT h;exact(F.MC _ (i+1) d g1 (by omega)).lo (by omega)
  split
  ·rename_i h;have g1:=cP hT h;exact(F.for_ _ (i+1) d g1 (by omega)).lo (by omega)
  split
  ·rename_i h;exact⟨by omega,cP hT h⟩
  split
  ·rename_i h;have g1:=cP hT h;exact(F.do_ _ (i+1) d g1 (by omega)).lo (by omega)
  split
  ·rename_i h;have g1:=cP hT h;exact(F.MD _ (i+1) d g1 (by omega)).lt (by omega)
  split
  ·exact F.plain _ i d hi (by omega)
  ·exact hi
 xA a i d hi hn:=by
  simp only[pJ];split
  ·rename_i h;have g2:=cP hT h;exact((xz hT g2).bind λs j h1 h2=>((F.body _ j d h2 (by omega)).bind λb j h3 h4=>mN h4).w).lo (by omega)
  ·refine(xz hT hi).bind λs j h1 h2=>?_;split
   ·rename_i h;have g2:=cP hT h;exact((F.exp (j+1) d g2 (by omega)).bind λe k h3 h4=>mN h4).w.lo (by omega)
   ·exact mN h2
 SA a i d hi hn:=by
  simp only[At];exact(F.exp i d hi (by omega)).bind λe j h1 h2=>((fS hT h2).bind λ_ j h3 h4=>(F.block j d h4 (by omega)).bind λb j h5 h6=>((fS hT h6).bind λ_ j h7 h8=>mN h8).w).w
 MC a i d hi hn:=by
  simp only[wh];exact(F.block i d hi (by omega)).aqh λb j h1 h2=>(fS hT h2).bind λ_ j h3 h4=>((F.exp j d h4 (by omega)).bind λe j h5 h6=>mN h6).w
 do_ a i d hi hn:=by
  simp only[X4];exact(F.block i d hi (by omega)).aqh λb j h1 h2=>(fS hT h2).bind λ_ j h3 h4=>mN h4
 MD a i d hi hn:=by
  simp only[sS];split
  ·exact mN hi
  ·exact((F.exp i d hi (by omega)).bind λe j h1 h2=>mN h2).w
 plain a i d hi hn:=by
  simp only[rF];refine(F.post i d hi (by omega)).bind λe j h1 h2=>?_;split
  ·exact mN h2
  ·exact((fS hT h2).bind λ_ j h3 h4=>((F.exp j d h4 (by omega)).bind λv j h5 h6=>mN h6).w).w
 MB a l b i d hi hn:=by
  simp only[kD];refine(F.exp i d hi (by omega)).bind λe j h1 h2=>((fS hT h2).bind λ_ j h3 h4=>(F.block j d h4 (by omega)).bind λb j h5 h6=>?_).w;split
  ·rename_i h;have g1:=cP hT h;exact((F.MB _ _ _ (j+1) d g1 (by omega)).lo (by omega)).w
  split
  ·rename_i h;have g1:=cP hT h;exact((F.block (j+1) d g1 (by omega)).bind λb2 j h1 h2=>((fS hT h2).bind λ_ j h3 h4=>mN h4).w).lo (by omega)
  ·exact((fS hT h6).bind λ_ j h3 h4=>mN h4).w
 for_ a i d hi hn:=by
  simp only[Bi];refine(xz hT hi).bind λs j h1 h2=>?_;split
  ·rename_i h;have g1:=cP hT h;exact(((xz hT g1).bind λs2 j h3 h4=>((fS hT h4).bind λ_ j h5 h6=>((F.exp j d h6 (by omega)).bind λe j h7 h8=>(F.CV _ _ _ _ j d h8 (by omega)).w).w).w).lo (by omega)).w
  ·refine((fS hT h2).bind λ_ j h3 h4=>((F.exp j d h4 (by omega)).bind λe j h5 h6=>((fS hT h6).bind λ_ j h7 h8=>((F.exp j d h8 (by omega)).bind λe2 j h9 h10=>?_).w).w).w).w;split
   ·rename_i h;have g1:=cP hT h;exact(((F.exp (j+1) d g1 (by omega)).bind λe3 j h11 h12=>(F.CV _ _ _ _ j d h12 (by omega)).w).lo (by omega)).w
   ·exact(F.CV _ _ _ _ j d h10 (by omega)).w
 CV k a ns l i d hi hn:=by
  simp only[oL];exact(fS hT hi).bind λ_ j h3 h4=>(F.block j d h4 (by omega)).bind λb j h5 h6=>((fS hT h6).bind λ_ j h7 h8=>mN h8).w
theorem SB(hT:nu T):∀n,Fu T n
 |0=>by constructor<;>intros<;>omega
 |n+1=>atB hT (SB hT n)
end
section
variable {H:AH}{S S':LS}
def bW(S:LS)(Q:Nat→Prop)(sz:Nat)(v:AV)(n:Nat)(cl:Nat→List AV):Prop:=(v=.ab∧n=0)∨∃b o c ex cs m,v=.slice b o n c sz ex∧Q b∧S.ob b=.ce cs m∧n≤c∧o+n*sz≤cs.length∧∀i,i<n→(cs.drop (o+i*sz)).take sz=cl i
theorem bW.nil(S:LS)(Q:Nat→Prop)(sz:Nat)(cl:Nat→List AV):bW S Q sz .ab 0 cl:=.inl ⟨rfl,rfl⟩
theorem bW.go{Q Q':Nat→Prop}{sz n:Nat}{v:AV}{cl:Nat→List AV}(h:bW S Q sz v n cl)(hk:∀b,Q b→S'.ob b=S.ob b)(h1:∀b,Q b→Q' b):bW S' Q' sz v n cl:=by
 rcases h with h|⟨b,o,c,ex,cs,m,e1,h2,h4,h5⟩
 ·exact .inl h
 ·exact .inr ⟨b,o,c,ex,cs,m,e1,h1 b h2,(hk b h2).trans h4,h5⟩
theorem bW.len{Q:Nat→Prop}{sz n:Nat}{v:AV}{cl:Nat→List AV}{k:AV→Prop}(h:bW S Q sz v n cl)(hk:k (.int 0 n)):bR v k:=by
 rcases h with⟨rfl,rfl⟩|⟨b,o,c,ex,cs,m,rfl,_⟩
 ·exact hk
 ·exact hk
theorem bW.one{Q:Nat→Prop}{sz n:Nat}{v:AV}{cl:Nat→List AV}(h:bW S Q sz v n cl):v.one=true:=by
 rcases h with⟨rfl,rfl⟩|⟨b,o,c,ex,cs,m,rfl,_⟩<;>rfl
theorem bW.same{Q:Nat→Prop}{sz n:Nat}{v:AV}{cl:Nat→List AV}(h:bW S Q sz v n cl):aH v v=true:=by
 rcases h with⟨rfl,rfl⟩|⟨b,o,c,ex,cs,m,rfl,_⟩
 ·rfl
 ·simp[aH]
theorem bW.load{Q:Nat→Prop}{sz n:Nat}{v:AV}{cl:Nat→List AV}{i q:Nat}{k:AV→Prop}(h:bW S Q sz v n cl)(hM:Mem H S)(hi':i<n)(hk:k (.agg (cl i))):cw sz v (.int q i) λp=>aM sz p H k:=by
 rcases h with⟨rfl,rfl⟩|⟨b,o,c,ex,cs,m,rfl,h1,h3,h4,h5,h6⟩
 ·omega
 ·refine qW (by omega) (by omega) ?_;rw[Int.toNat_natCast];have hle:(i+1)*sz≤n*sz:=Nat.mul_le_mul_right _ (by omega);rw[Nat.add_mul,Nat.one_mul]at hle;refine kx hM h3 (by omega) ?_;rw[h6 i hi'];exact hk
theorem bW.names{Q:Nat→Prop}{b m:Nat}{l:List (List Nat)}{ex:Bool}(hQ:Q b)(hb:S.ob b=.ce (l.map ak) m):bW S Q 1 (.slice b 0 l.length l.length 1 ex) l.length (λj=>[ak (l[j]?.getD [])]):=
 .inr ⟨b,0,l.length,ex,l.map ak,m,rfl,hQ,hb,Nat.le_refl _,by rw[List.length_map];omega,λj hj=>by
  show((l.map ak).drop (0+j*1)).take 1=[ak (l[j]?.getD [])];rw[Nat.zero_add,Nat.mul_one,List.drop_eq_getElem_cons (by rw[List.length_map];exact hj),List.getElem?_eq_getElem hj,Option.getD_some,List.getElem_map];rfl⟩
def iZ(S:LS)(Q:Nat→Prop)(v:AV)(l:List (List Nat)):Prop:=bW S Q 1 v l.length (λi=>[ak (l[i]?.getD [])])∧∀t∈l,B8 t
mutual
inductive RE(S:LS)(Q:Nat→Prop):List AV→aO→Prop
 |mk (kind at_ n:Nat) (s:List Nat) (op:Nat) (l:List aO) (f:List gr) (vl vf:AV) (cl cf:Nat→List AV):B8 s→bW S Q 7 vl l.length cl→(∀i e,l[i]? = some e→RE S Q (cl i) e)→bW S Q 2 vf f.length cf→(∀i e,f[i]? = some e→RF S Q (cf i) e)→
   RE S Q [.int 0 kind,.int 0 at_,.int 0 n,ak s,.int 0 op,vl,vf] (.mk kind at_ n s op l f)
inductive RF(S:LS)(Q:Nat→Prop):List AV→gr→Prop
 |mk (ps:List (List Nat)) (body:List aP) (vp vb:AV) (cb:Nat→List AV):iZ S Q vp ps→bW S Q 5 vb body.length cb→(∀i e,body[i]? = some e→fT S Q (cb i) e)→RF S Q [vp,vb] (.mk ps body)
inductive fT(S:LS)(Q:Nat→Prop):List AV→aP→Prop
 |mk (kind at_:Nat) (names:List (List Nat)) (l:List aO) (bs:List (List aP)) (vn vl vb:AV) (cl:Nat→List AV) (bv:Nat→AV) (bc:Nat→Nat→List AV):iZ S Q vn names→bW S Q 7 vl l.length cl→(∀i e,l[i]? = some e→RE S Q (cl i) e)→
   bW S Q 1 vb bs.length (λi=>[bv i])→(∀i b,bs[i]? = some b→bW S Q 5 (bv i) b.length (bc i))→(∀i b j s,bs[i]? = some b→b[j]? = some s→fT S Q (bc i j) s)→
   fT S Q [.int 0 kind,.int 0 at_,vn,vl,vb] (.mk kind at_ names l bs)
end
section
variable {Q Q':Nat→Prop}
theorem RE.go(hk:∀b,Q b→S'.ob b=S.ob b)(h1:∀b,Q b→Q' b){c:List AV}{e:aO}(h:RE S Q c e):RE S' Q' c e:=
 RE.rec (motive_1:=λc e _=>RE S' Q' c e) (motive_2:=λc e _=>RF S' Q' c e) (motive_3:=λc e _=>fT S' Q' c e)
  (λkind at_ n s op l f vl vf cl cf g1 g2 _ g4 _ ih1 ih2=>.mk kind at_ n s op l f vl vf cl cf g1 (g2.go hk h1) ih1 (g4.go hk h1) ih2)
  (λps body vp vb cb g1 g2 _ ih=>.mk ps body vp vb cb ⟨g1.1.go hk h1,g1.2⟩ (g2.go hk h1) ih)
  (λkind at_ names l bs vn vl vb cl bv bc g1 g2 _ g4 g5 _ ih1 ih2=>.mk kind at_ names l bs vn vl vb cl bv bc ⟨g1.1.go hk h1,g1.2⟩ (g2.go hk h1) ih1 (g4.go hk h1) (λi b hb=>(g5 i b hb).go hk h1) ih2) h
theorem RF.go(hk:∀b,Q b→S'.ob b=S.ob b)(h1:∀b,Q b→Q' b){c:List AV}{e:gr}(h:RF S Q c e):RF S' Q' c e:=
 RF.rec (motive_1:=λc e _=>RE S' Q' c e) (motive_2:=λc e _=>RF S' Q' c e) (motive_3:=λc e _=>fT S' Q' c e)
  (λkind at_ n s op l f vl vf cl cf g1 g2 _ g4 _ ih1 ih2=>.mk kind at_ n s op l f vl vf cl cf g1 (g2.go hk h1) ih1 (g4.go hk h1) ih2)
  (λps body vp vb cb g1 g2 _ ih=>.mk ps body vp vb cb ⟨g1.1.go hk h1,g1.2⟩ (g2.go hk h1) ih)
  (λkind at_ names l bs vn vl vb cl bv bc g1 g2 _ g4 g5 _ ih1 ih2=>.mk kind at_ names l bs vn vl vb cl bv bc ⟨g1.1.go hk h1,g1.2⟩ (g2.go hk h1) ih1 (g4.go hk h1) (λi b hb=>(g5 i b hb).go hk h1) ih2) h
theorem fT.go(hk:∀b,Q b→S'.ob b=S.ob b)(h1:∀b,Q b→Q' b){c:List AV}{e:aP}(h:fT S Q c e):fT S' Q' c e:=
 fT.rec (motive_1:=λc e _=>RE S' Q' c e) (motive_2:=λc e _=>RF S' Q' c e) (motive_3:=λc e _=>fT S' Q' c e)
  (λkind at_ n s op l f vl vf cl cf g1 g2 _ g4 _ ih1 ih2=>.mk kind at_ n s op l f vl vf cl cf g1 (g2.go hk h1) ih1 (g4.go hk h1) ih2)
  (λps body vp vb cb g1 g2 _ ih=>.mk ps body vp vb cb ⟨g1.1.go hk h1,g1.2⟩ (g2.go hk h1) ih)
  (λkind at_ names l bs vn vl vb cl bv bc g1 g2 _ g4 g5 _ ih1 ih2=>.mk kind at_ names l bs vn vl vb cl bv bc ⟨g1.1.go hk h1,g1.2⟩ (g2.go hk h1) ih1 (g4.go hk h1) (λi b hb=>(g5 i b hb).go hk h1) ih2) h
theorem RE.len{c:List AV}{e:aO}(h:RE S Q c e):c.length=7:=by cases h;rfl
theorem RF.len{c:List AV}{e:gr}(h:RF S Q c e):c.length=2:=by cases h;rfl
theorem fT.len{c:List AV}{e:aP}(h:fT S Q c e):c.length=5:=by cases h;rfl
theorem iZ.one{v:AV}{l:List (List Nat)}(h:iZ S Q v l):v.one=true:=h.1.one
theorem RE.ones{c:List AV}{e:aO}(h:RE S Q c e):∀a∈c,a.one=true:=by
 cases h with
 |mk kind at_ n s op l f vl vf cl cf g1 g2 _ g4 _=>
  intro a ha;simp only[List.mem_cons,List.not_mem_nil,or_false]at ha;rcases ha with rfl|rfl|rfl|rfl|rfl|rfl|rfl<;>first|rfl|exact g2.one|exact g4.one
theorem RF.ones{c:List AV}{e:gr}(h:RF S Q c e):∀a∈c,a.one=true:=by
 cases h with
 |mk ps body vp vb cb g1 g2 _=>
  intro a ha;simp only[List.mem_cons,List.not_mem_nil,or_false]at ha;rcases ha with rfl|rfl
  ·exact g1.one
  ·exact g2.one
theorem fT.ones{c:List AV}{e:aP}(h:fT S Q c e):∀a∈c,a.one=true:=by
 cases h with
 |mk kind at_ names l bs vn vl vb cl bv bc g1 g2 _ g4 _ _=>
  intro a ha;simp only[List.mem_cons,List.not_mem_nil,or_false]at ha;rcases ha with rfl|rfl|rfl|rfl|rfl<;>first|rfl|exact g1.one|exact g2.one|exact g4.one
theorem aoy{c:List AV}(h:∀a∈c,aH a a=true):aH (.agg c) (.agg c)=true:=Fl h
theorem RE.same{c:List AV}{e:aO}(h:RE S Q c e):aH (.agg c) (.agg c)=true:=by
 cases h with
 |mk kind at_ n s op l f vl vf cl cf g1 g2 _ g4 _=>
  refine aoy λa ha=>?_;simp only[List.mem_cons,List.not_mem_nil,or_false]at ha;rcases ha with rfl|rfl|rfl|rfl|rfl|rfl|rfl<;>first|exact qX _ _|exact uV _ _|exact g2.same|exact g4.same
end
structure Rep(α:Type) where
 rel:LS→(Nat→Prop)→List AV→α→Prop
 sz:Nat
 pos:0<sz
 go:∀{S S':LS}{Q Q':Nat→Prop}{c:List AV}{a:α},(∀b,Q b→S'.ob b=S.ob b)→(∀b,Q b→Q' b)→rel S Q c a→rel S' Q' c a
 len:∀{S:LS}{Q:Nat→Prop}{c:List AV}{a:α},rel S Q c a→c.length=sz
 ones:∀{S:LS}{Q:Nat→Prop}{c:List AV}{a:α},rel S Q c a→∀x∈c,x.one=true
def mY:Rep aO:=⟨RE,7,by omega,λh1 h2 h=>RE.go h1 h2 h,λh=>h.len,λh=>h.ones⟩
def ME:Rep aP:=⟨fT,5,by omega,λh1 h2 h=>fT.go h1 h2 h,λh=>h.len,λh=>h.ones⟩
def MF:Rep (List Nat):=⟨λ_ _ c t=>c=[ak t]∧B8 t,1,by omega,λ_ _ h=>h,λh=>by rw[h.1];rfl,λh x hx=>by rw[h.1]at hx;simp at hx;subst hx;rfl⟩
def aff:Rep (List aP):=⟨λS Q c b=>∃v bc,c=[v]∧bW S Q 5 v b.length bc∧∀j s,b[j]? = some s→fT S Q (bc j) s,1,by omega,
 λhk h1 ⟨v,bc,e,g1,g2⟩=>⟨v,bc,e,g1.go hk h1,λj s hs=>(g2 j s hs).go hk h1⟩,λ⟨v,bc,e,_⟩=>by rw[e];rfl,λ⟨v,bc,e,g1,_⟩ x hx=>by rw[e]at hx;simp at hx;subst hx;exact g1.one⟩
def gE(lo hi:Nat):Nat→Prop:=λb=>lo≤b∧b<hi
def df{α:Type}(R:Rep α)(lo:Nat)(S:LS)(v:AV)(l:List α):Prop:=∃cl:List (List AV),cK S R.sz v l.length cl.flatten∧cl.length=l.length∧(∀b,aF v b→lo≤b)∧
 ∀(i:Nat) (c:List AV) (a:α),cl[i]? = some c→l[i]? = some a→∃Q,R.rel S Q c a∧∀b,Q b→lo≤b∧b<S.n∧¬aF v b
section
variable {α:Type}{R:Rep α}{lo:Nat}{v:AV}{l:List α}
theorem df.nil(R:Rep α)(lo:Nat)(S:LS):df R lo S .ab []:=⟨[],cK.nil _ _,rfl,λ_ h=>h.elim,λi c a h=>by simp at h⟩
theorem df.keep(h:df R lo S v l)(hM:Mem H S)(hn:S.n≤S'.n)(hk:∀b,lo≤b→b<S.n→S'.ob b=S.ob b):df R lo S' v l:=by
 obtain⟨cl,h1,h2,h3,h4⟩:=h;refine⟨cl,h1.keep hM λb hb hlt=>hk b (h3 b hb) hlt,h2,h3,λi c a hc ha=>?_⟩;obtain⟨Q,g1,g2⟩:=h4 i c a hc ha;exact⟨Q,R.go (λb hb=>hk b (g2 b hb).1 (g2 b hb).2.1) (λ_ h=>h) g1,λb hb=>⟨(g2 b hb).1,Nat.lt_of_lt_of_le (g2 b hb).2.1 hn,(g2 b hb).2.2⟩⟩
theorem al0{cl:List (List AV)}{sz:Nat}(h:∀c∈cl,c.length=sz):∀{i:Nat}{c:List AV},cl[i]? = some c→(cl.flatten.drop (i*sz)).take sz=c:=by
 induction cl with
 |nil=>intro i c hc;simp at hc
 |cons d cl ih=>
  intro i c hc;have hd:=h d (by simp);cases i with
  |zero=>
   simp at hc;subst hc;rw[Nat.zero_mul,List.drop_zero,List.flatten_cons,←hd];exact List.take_left' rfl
  |succ i=>
   have:=ih (λx hx=>h x (by simp[hx])) (i:=i) (c:=c) (by simpa using hc);rw[List.flatten_cons,Nat.add_mul,Nat.one_mul,Nat.add_comm,←List.drop_drop,←hd,List.drop_left' rfl,hd];exact this
theorem df.szs{cl:List (List AV)}(h4:∀(i:Nat) (c:List AV) (a:α),cl[i]? = some c→l[i]? = some a→∃Q,R.rel S Q c a∧∀b,Q b→lo≤b∧b<S.n∧¬aF v b)(hl:cl.length=l.length):∀c∈cl,c.length=R.sz:=λc hc=>by
 obtain⟨i,hi,e⟩:=List.mem_iff_getElem.1 hc;obtain⟨_,g,_⟩:=h4 i c (l[i]'(by omega)) (by rw[List.getElem?_eq_getElem hi,e]) (List.getElem?_eq_getElem _);exact R.len g
theorem df.done(h:df R lo S v l)(hM:Mem H S):∃cl,bW S (gE lo S.n) R.sz v l.length cl∧∀i a,l[i]? = some a→R.rel S (gE lo S.n) (cl i) a:=by
 obtain⟨cl,h1,h2,h3,h4⟩:=h;have hsz:=df.szs h4 h2;refine⟨λi=>cl[i]?.getD [],?_,λi a ha=>?_⟩
 ·rcases h1 with⟨rfl,e,_⟩|⟨b,c,ex,cs,rfl,g2,g3,g4,g5,g6,g7⟩
  ·exact .inl ⟨rfl,e⟩
  ·refine .inr ⟨b,0,c,ex,cs,0,rfl,⟨h3 b rfl,hM.lt (by rw[g2];simp)⟩,g2,g4,by rw[g3,Nat.zero_add];exact Nat.mul_le_mul_right _ g4,λi hi=>?_⟩;have hic:i<cl.length:=by omega
   have e1:=al0 hsz (List.getElem?_eq_getElem hic);show(cs.drop (0+i*R.sz)).take R.sz=cl[i]?.getD [];rw[List.getElem?_eq_getElem hic,Option.getD_some,←e1,Nat.zero_add];have hle:(i+1)*R.sz≤l.length*R.sz:=Nat.mul_le_mul_right _ (by omega);rw[Nat.add_mul,Nat.one_mul]at hle
   conv=>rhs;rw[←g6]
   rw[List.drop_take,List.take_take,Nat.min_eq_left (by omega)]
 ·have hil:=(List.getElem?_eq_some_iff.1 ha).1;have hic:i<cl.length:=by omega
  obtain⟨Q,g1,g2⟩:=h4 i _ a (List.getElem?_eq_getElem hic) ha;show R.rel S (gE lo S.n) (cl[i]?.getD []) a;rw[List.getElem?_eq_getElem hic,Option.getD_some];exact R.go (λ_ _=>rfl) (λb hb=>⟨(g2 b hb).1,(g2 b hb).2.1⟩) g1
theorem df.step{a:α}{c:List AV}{Q:Nat→Prop}{v':AV}(h:df R lo S v l)(hr:R.rel S Q c a)(hQ:∀b,Q b→lo≤b∧b<S.n∧¬aF v b)(hlo:lo≤S.n)(hs:∀cl,cK S R.sz v l.length cl→uH S v (l.length+1) R.sz (cl++c) S' v'):df R lo S' v' (l++[a]):=by
 obtain⟨cl,h1,h2,h3,h4⟩:=h;obtain⟨a1,a2,a3,a4⟩:=hs _ h1;refine⟨cl++[c],?_,by simp[h2],λb hb'=>?_,λi c' a' hc ha=>?_⟩
 ·rw[List.flatten_append,List.length_append];show cK S' R.sz v' (l.length+1) (cl.flatten++[c].flatten);have:[c].flatten=c:=by simp
  rw[this];exact a3
 ·rcases a4 b hb' with g|g
  ·exact h3 b g
  ·omega
 ·have fin:∀{Q:Nat→Prop}{c:List AV}{a:α},R.rel S Q c a→(∀b,Q b→lo≤b∧b<S.n∧¬aF v b)→∃Q,R.rel S' Q c a∧∀b,Q b→lo≤b∧b<S'.n∧¬aF v' b:=λ{Q c a} g1 g2=>
   ⟨Q,R.go (λb hb=>a2 b (g2 b hb).2.1 (g2 b hb).2.2) (λ_ h=>h) g1,λb hb=>⟨(g2 b hb).1,Nat.lt_of_lt_of_le (g2 b hb).2.1 a1,λhb'=>by
    rcases a4 b hb' with q|q
    ·exact(g2 b hb).2.2 q
    ·have:=(g2 b hb).2.1;omega⟩⟩
  by_cases hi:i<cl.length
  ·rw[List.getElem?_append_left hi]at hc;rw[List.getElem?_append_left (by omega)]at ha;obtain⟨Q,g1,g2⟩:=h4 i c' a' hc ha;exact fin g1 g2
  ·rw[List.getElem?_append_right (by omega)]at hc ha;have e0:i-cl.length=0:=by
    rcases Nat.eq_zero_or_pos (i-cl.length)with q|q
    ·exact q
    ·rw[List.getElem?_eq_none (by simp;omega)]at hc;cases hc
   have e1:i-l.length=0:=by omega
   rw[e0]at hc;rw[e1]at ha;simp at hc ha;subst hc;subst ha;exact fin hr hQ
end
end
def ax(X:Nat→Prop)(S S':LS):Prop:=S.n≤S'.n∧∀b,b<S.n→¬X b→S'.ob b=S.ob b
def cD:Nat→Prop:=λ_=>False
section
variable {X Y:Nat→Prop}{S S' mn:LS}{H:AH}
theorem ax.refl(X:Nat→Prop)(S:LS):ax X S S:=⟨Nat.le_refl _,λ_ _ _=>rfl⟩
theorem ax.trans(h:ax X S S')(g:ax X S' mn):ax X S mn:=⟨Nat.le_trans h.1 g.1,λb hb hx=>(g.2 b (Nat.lt_of_lt_of_le hb h.1) hx).trans (h.2 b hb hx)⟩
theorem ax.mono(h:ax X S S')(hxy:∀b,X b→Y b):ax Y S S':=⟨h.1,λb hb hx=>h.2 b hb λg=>hx (hxy b g)⟩
theorem ax.no(h:ax cD S S'):ax X S S':=h.mono λ_ g=>g.elim
theorem ax.push(h:ax X S S')(o:gi):ax X S (S'.push o):=⟨Nat.le_trans h.1 (Nat.le_succ _),λb hb hx=>by rw[LS.bq _ _ (Nat.lt_of_lt_of_le hb h.1)];exact h.2 b hb hx⟩
theorem ax.set(h:ax X S S'){b:Nat}(hb:X b∨S.n≤b)(o:gi):ax X S (S'.set b o):=⟨h.1,λc hc hx=>by
 rw[LS.ao _ _ λe=>by subst e;rcases hb with g|g;exact hx g;omega];exact h.2 c hc hx⟩
theorem ax.app{sz n:Nat}{v v':AV}{l:List AV}(h:ax X S S')(ha:uH S' v n sz l mn v')(hv:∀b,aF v b→X b∨S.n≤b):ax X S mn:=⟨Nat.le_trans h.1 ha.1,λb hb hx=>by
 rw[ha.2.1 b (Nat.lt_of_lt_of_le hb h.1) λg=>by rcases hv b g with q|q;exact hx q;omega];exact h.2 b hb hx⟩
end
structure Ctx where
 T:List Tok
 bp:Nat
 vT:AV
 pv:AV
 ok:nu T
 b8:∀t∈T,B8 t.text
 few:T.length≤100000
 ne:¬aF vT bp
structure bE(C:Ctx)(S:LS)(i d:Nat):Prop where
 ob:S.ob C.bp=.ce [C.vT,.int 0 (i:Int),.int 0 (d:Int),.int 0 0] 0
 tk:cK S 4 C.vT C.T.length (tcs C.T)
 lt:i<C.T.length
structure Gf(C:Ctx)(S:LS)(c i:Nat):Prop where
 ob:∃d:Int,S.ob C.bp=.ce [C.vT,.int 0 (i:Int),.int 0 d,.int 0 (c:Int)] 0
 tk:cK S 4 C.vT C.T.length (tcs C.T)
 lt:i<C.T.length
def Post{α:Type}(C:Ctx)(X:Nat→Prop)(d:Nat)(Rp:LS→(Nat→Prop)→AV→α→Prop)(K:KF)(S:LS)(r:cG α):Prop:=match r with
 |.ok a j=>∀H' S' v,Mem H' S'→ax X S S'→bE C S' j d→Rp S' (gE S.n S'.n) v a→K (.ret v) H'
 |.err c j=>∀H' S',Mem H' S'→ax X S S'→Gf C S' c j→K (.cj C.pv) H'
 |.dZ=>False
section
variable {C:Ctx}{X Y:Nat→Prop}{S S' S1:LS}{H:AH}{K:KF}{i d d1:Nat}{α β:Type}{jM:LS→(Nat→Prop)→AV→α→Prop}{Rp2:LS→(Nat→Prop)→AV→β→Prop}
theorem bE.eT(h:bE C S i d)(hM:Mem H S):C.bp<S.n:=hM.lt (by rw[h.ob];simp)
theorem bE.keep(h:bE C S i d)(hM:Mem H S)(hc:ax X S S')(h1:¬X C.bp)(h2:∀b,aF C.vT b→¬X b):bE C S' i d:=
 ⟨(hc.2 C.bp (h.eT hM) h1).trans h.ob,h.tk.keep hM λb hb hlt=>hc.2 b hlt (h2 b hb),h.lt⟩
theorem bE.no(h:bE C S i d)(hM:Mem H S)(hc:ax cD S S'):bE C S' i d:=h.keep hM hc (λg=>g) λ_ _ g=>g
theorem bE.iF{S0:LS}{H0:AH}{i0 d0:Nat}(h:bE C S i d)(h0:bE C S0 i0 d0)(hM0:Mem H0 S0){b:Nat}(hb:S0.n≤b)(o:gi):bE C (S.set b o) i d:=
 ⟨(LS.ao _ _ (by have:=h0.eT hM0;omega)).trans h.ob,by
  have hv:=h0.tk;rcases h.tk with g|⟨b',c,ex,cs,g1,g2,g3⟩
  ·exact .inl g
  ·refine .inr ⟨b',c,ex,cs,g1,?_,g3⟩;have:b'<S0.n:=hv.lt hM0 (by rw[g1];rfl);rw[LS.ao _ _ (by omega)];exact g2,h.lt⟩
theorem bE.set(h:bE C S i d){j e:Nat}(hj:j<C.T.length):bE C (S.set C.bp (.ce [C.vT,.int 0 (j:Int),.int 0 (e:Int),.int 0 0] 0)) j e:=
 ⟨LS.au _ _ _,by
  rcases h.tk with g|⟨b,c,ex,cs,g1,g2,g3⟩
  ·exact .inl g
  ·refine .inr ⟨b,c,ex,cs,g1,?_,g3⟩;rw[LS.ao _ _ λe=>C.ne (by rw[g1,←e];rfl)];exact g2,hj⟩
theorem bE.err(h:bE C S i d){c:Nat}{e:Int}:Gf C (S.set C.bp (.ce [C.vT,.int 0 (i:Int),.int 0 e,.int 0 (c:Int)] 0)) c i:=
 ⟨⟨e,LS.au _ _ _⟩,by
  rcases h.tk with g|⟨b,c,ex,cs,g1,g2,g3⟩
  ·exact .inl g
  ·refine .inr ⟨b,c,ex,cs,g1,?_,g3⟩;rw[LS.ao _ _ λe=>C.ne (by rw[g1,←e];rfl)];exact g2,h.lt⟩
theorem dt(K:KF)(v:AV)(H:AH)(k:AV→Prop):cR K (.cj v) H k=K (.cj v) H:=rfl
theorem Post.call{r1:cG α}{f:α→Nat→cG β}(h:Post C X d Rp2 K S (r1.bind f))(hx:ax X S S1)(hX:∀b,Y b→X b){k:AV→AH→Prop}
  (hk:∀a j H' S' v,Mem H' S'→ax Y S1 S'→bE C S' j d1→jM S' (gE S1.n S'.n) v a→Post C X d Rp2 K S (f a j)→k v H'):Post C Y d1 jM (λo H=>cR K o H λv=>k v H) S1 r1:=by
 cases r1 with
 |ok a j=>exact λH' S' v m c p q=>hk a j H' S' v m c p q h
 |err c j=>exact λH' S' m ch p=>h H' S' m (hx.trans (ch.mono hX)) p
 |dZ=>exact h
theorem al1{T:List Tok}{i:Nat}(h:i<T.length):∃t,T[i]? = some t∧cg T i=t.kind∧ft T i=t.text∧aZ T i=t.pos∧xv T i=t.n:=by
 refine⟨T[i],List.getElem?_eq_getElem h,?_⟩;unfold cg ft aZ xv;rw[List.getElem?_eq_getElem h];exact⟨rfl,rfl,rfl,rfl⟩
theorem wi(C:Ctx)(i:Nat):B8 (ft C.T i):=by
 unfold ft;split
 ·rename_i t h;exact C.b8 t (List.mem_of_getElem? h)
 ·exact B8.nil
def fa(T:List Tok)(i:Nat):List AV:=[.int 0 (cg T i:Int),ak (ft T i),.int 0 (xv T i:Int),.int 0 (aZ T i:Int)]
theorem Gg{T:List Tok}{i:Nat}(h:i<T.length):((tcs T).drop (i*4)).take 4=fa T i:=by
 obtain⟨t,h1,h2,h3,h4,h5⟩:=al1 h;rw[U7 h1];unfold fa;rw[h2,h3,h4,h5];rfl
end
def nO(S:LS)(Q:Nat→Prop)(v:AV)(e:aO):Prop:=∃c,v=.agg c∧RE S Q c e
def X6(S:LS)(Q:Nat→Prop)(v:AV)(e:aP):Prop:=∃c,v=.agg c∧fT S Q c e
def oQ(_:LS)(_:Nat→Prop)(v:AV)(_:Unit):Prop:=v=.aE []
def rvN(_:LS)(_:Nat→Prop)(v:AV)(t:List Nat):Prop:=v=ak t∧B8 t
def xB(S:LS)(Q:Nat→Prop)(v:AV)(l:List aO):Prop:=∃cl,bW S Q 7 v l.length cl∧∀i e,l[i]? = some e→RE S Q (cl i) e
def lz(S:LS)(Q:Nat→Prop)(v:AV)(l:List aP):Prop:=∃cl,bW S Q 5 v l.length cl∧∀i e,l[i]? = some e→fT S Q (cl i) e
section
variable {C:Ctx}{X Y:Nat→Prop}{S S' S1:LS}{H:AH}{K:KF}{i d d1:Nat}{α β:Type}{Rp jM:LS→(Nat→Prop)→AV→α→Prop}
theorem Post.tail{r:cG α}(h:Post C X d Rp K S r)(hx:ax X S S1)(hX:∀b,Y b→X b){k:AV→AH→Prop}
  (hk:∀a j H' S' v,Mem H' S'→ax Y S1 S'→bE C S' j d1→jM S' (gE S1.n S'.n) v a→(∀SC mn w,Mem SC mn→ax X S mn→bE C mn j d→Rp mn (gE S.n mn.n) w a→K (.ret w) SC)→k v H'):Post C Y d1 jM (λo H=>cR K o H λv=>k v H) S1 r:=by
 cases r with
 |ok a j=>exact λH' S' v m c p q=>hk a j H' S' v m c p q h
 |err c j=>exact λH' S' m ch p=>h H' S' m (hx.trans (ch.mono hX)) p
 |dZ=>exact h
theorem ax.jv(h:ax X S S1)(g:ax Y S1 S')(hy:∀b,Y b→X b∨S.n≤b):ax X S S':=⟨Nat.le_trans h.1 g.1,λb hb hx=>(g.2 b (Nat.lt_of_lt_of_le hb h.1) λq=>by
 rcases hy b q with w|w
 ·exact hx w
 ·omega).trans (h.2 b hb hx)⟩
theorem ax.ob{b:Nat}{c:List AV}{m:Nat}(g:ax Y S S')(hM:Mem H S)(hb:S.ob b=.ce c m)(hy:¬Y b):S'.ob b=.ce c m:=(g.2 b (hM.lt (by rw[hb];simp)) hy).trans hb
theorem ia:∀{l:List AV}{n:Nat}{x:Prop},l.length=n→x→iE l n x
 |[],0,x,_,hx=>hx
 |a::l,n+1,x,h,hx=>ia (l:=l) (n:=n) (by simpa using h) hx
theorem gK(l:List AV)(k:List AV→Prop):onVal (.agg l) k=k l:=rfl
theorem CW{l z:List AV}(hl:l.length=7)(hz:z.length=7):spl l z 0=l:=by
 match l,hl,z,hz with
 |[a,b,c,d,e,f,g],_,[_,_,_,_,_,_,_],_=>rfl
theorem afg{l k z:List AV}(hl:l.length=7)(hk:k.length=7)(hz:z.length=14):spl k (spl l z 0) 7=l++k:=by
 match l,hl,k,hk,z,hz with
 |[_,_,_,_,_,_,_],_,[_,_,_,_,_,_,_],_,[_,_,_,_,_,_,_,_,_,_,_,_,_,_],_=>rfl
theorem azn{l z:List AV}(hl:l.length=5)(hz:z.length=5):spl l z 0=l:=by
 match l,hl,z,hz with
 |[a,b,c,d,e],_,[_,_,_,_,_],_=>rfl
theorem gU{v:AV}{x:Prop}(h:v.one=true)(hx:x):one v x:=by
 unfold one;exact bA h hx
end
theorem jA.ax9{l:List Nat}{k:Nat}{t:List Nat}{v j:Nat}(h:jA l k t v j):k≠0:=by cases h<;>decide
theorem cA.ends{l:List Nat}{p:Nat}{r:List Tok ⊕ Nat}(h:cA l p r):∀ts,r=.inl ts→∃a q,ts=a++[⟨0,[],0,q⟩]∧∀t∈a,t.kind≠0:=by
 induction h with
 |nil p=>intro ts e;cases e;exact⟨[],p,rfl,λt h=>by simp at h⟩
 |blank c l p r _ _ ih=>exact ih
 |remark l p r _ ih=>exact ih
 |wrong=>intro ts e;cases e
 |tok c l p k t n j ts _ _ ht _ ih=>
  intro ts' e;cases e;obtain⟨a,q,e,h⟩:=ih ts rfl;refine⟨⟨k,t,n,p⟩::a,q,by rw[e];rfl,λx hx=>?_⟩;rcases List.mem_cons.1 hx with rfl|hx
  ·exact ht.ax9
  ·exact h x hx
 |bad=>intro ts e;cases e
theorem cA.b8{l:List Nat}{p:Nat}{r:List Tok ⊕ Nat}(h:cA l p r):B8 l→∀ts,r=.inl ts→∀t∈ts,B8 t.text:=by
 induction h with
 |nil p=>intro _ ts e t ht;cases e;simp at ht;subst ht;exact B8.nil
 |blank c l p r _ _ ih=>exact λh8=>ih h8.tl
 |remark l p r _ ih=>exact λh8=>ih (h8.drop _)
 |wrong=>intro _ ts e;cases e
 |tok c l p k t n j ts _ _ ht _ ih=>
  intro h8 ts' e;cases e;intro x hx;rcases List.mem_cons.1 hx with rfl|hx
  ·exact ht.b8 h8
  ·exact ih (h8.drop _) ts rfl x hx
 |bad=>intro _ ts e;cases e
theorem cA.I6{l:List Nat}{p:Nat}{ts:List Tok}(h:cA l p (.inl ts)):nu ts:=by
 obtain⟨a,q,e,ha⟩:=h.ends ts rfl;subst e;refine⟨by simp,λi hi hk=>?_⟩;rw[List.length_append,List.length_singleton]at hi ⊢;rcases Nat.lt_or_ge i a.length with g|g
 ·omega
 ·exfalso;have e:i=a.length:=by omega
  subst e;apply hk;unfold cg;rw[List.getElem?_append_right (Nat.le_refl _),Nat.sub_self];rfl
def lV(T:List Tok):cG (List aP):=(fk T (64*T.length+64) 0 0).bind λb j=>if cg T j=0 then .ok b j else .err 14 j
theorem afh{T:List Tok}(hT:nu T):lV T≠.dZ:=by
 have h:=(SB hT (64*T.length+64)).block 0 0 hT.1 (by omega);unfold lV;cases e:fk T (64*T.length+64) 0 0 with
 |dZ=>rw[e]at h;exact h.elim
 |err c i=>intro q;cases q
 |ok b j=>
  show(if cg T j=0 then cG.ok b j else .err 14 j)≠.dZ;split<;>intro q<;>cases q
theorem afi{T:List Tok}(hT:nu T):∀b j,fk T (64*T.length+64) 0 0=.ok b j→j<T.length:=λb j e=>by
 have h:=(SB hT (64*T.length+64)).block 0 0 hT.1 (by omega);rw[e]at h;exact h.2
def Bj(r:List Tok ⊕ Nat):List aP ⊕ Nat×Nat:=match r with
 |.inr e=>.inr (14,e)
 |.inl ts=>(match lV ts with
  |.ok b _=>.inl b
  |.err c i=>.inr (c,aZ ts i)
  |.dZ=>.inl [])
def ScP(K:KF)(S0:LS)(r:List aP ⊕ Nat×Nat):Prop:=match r with
 |.inl b=>∀H' S' v,Mem H' S'→Ext S0 S'→lz S' (gE S0.n S'.n) v b→K (.ret (.aE [v,.int 0 0,.int 0 0])) H'
 |.inr (c,p)=>∀H' S',Mem H' S'→Ext S0 S'→K (.ret (.aE [.ab,.int 0 (c:Int),.int 0 (p:Int)])) H'
def LxQ(K:KF)(S0:LS)(r:List Tok ⊕ Nat):Prop:=match r with
 |.inl ts=>∀H' S' v',Mem H' S'→Ext S0 S'→cK S' 4 v' ts.length (tcs ts)→(∀b,aF v' b→S0.n≤b)→K (.ret (.aE [v',.int 0 0,.int 0 0])) H'
 |.inr e=>∀H' S',Mem H' S'→Ext S0 S'→K (.ret (.aE [.ab,.int 0 14,.int 0 (e:Int)])) H'
theorem lz.go{S S':LS}{Q Q':Nat→Prop}{v:AV}{l:List aP}(h:lz S Q v l)(hk:∀b,Q b→S'.ob b=S.ob b)(h1:∀b,Q b→Q' b):lz S' Q' v l:=by
 obtain⟨cl,g1,g2⟩:=h;exact⟨cl,g1.go hk h1,λi e he=>(g2 i e he).go hk h1⟩
theorem cK.one'{S:LS}{sz n:Nat}{v:AV}{l:List AV}(h:cK S sz v n l):v.one=true:=by
 rcases h with⟨rfl,_⟩|⟨b,c,ex,cs,rfl,_⟩<;>rfl
theorem Nx{u:Nat}{z v:AV}{k:AV→Prop}(h:k (.aE [v,.bool true])):u7 u z true (.iface u v) k:=by
 show bI (Nat.beq u u) (bI true (k (.aE [v,.bool true])) (k v)) (bT true (k (.aE [z,.bool false])));rw[Nat.beq_refl];exact h
theorem Ny{u:Nat}{z:AV}{k:AV→Prop}(h:k (.aE [z,.bool false])):u7 u z true .dS k:=h
theorem ax.ext{S S':LS}(h:ax cD S S'):Ext S S':=⟨h.1,λb hb=>h.2 b hb λq=>q⟩
theorem Ext.chg{X:Nat→Prop}{S S':LS}(h:Ext S S'):ax X S S':=⟨h.n,λb hb _=>h.ob b hb⟩
section
mutual
def aO.sz:aO→Nat
 |.mk _ _ _ _ _ l f=>1+iG l+xC f
def iG:List aO→Nat
 |[]=>0
 |e::l=>e.sz+iG l
def gr.sz:gr→Nat
 |.mk ps b=>1+ps.length+dW b
def xC:List gr→Nat
 |[]=>0
 |f::l=>f.sz+xC l
def aP.sz:aP→Nat
 |.mk _ _ ns l bs=>1+ns.length+iG l+qd bs
def dW:List aP→Nat
 |[]=>0
 |s::l=>s.sz+dW l
def qd:List (List aP)→Nat
 |[]=>0
 |b::l=>1+dW b+qd l
end
theorem Gh:∀a b:List aP,dW (a++b)=dW a+dW b
 |[],b=>by simp[dW]
 |e::a,b=>by rw[List.cons_append,dW,dW,Gh a b];omega
variable {T:List Tok}
structure Sz(T:List Tok)(n:Nat):Prop where
 exp:∀{i d e j},fu T n i d=.ok e j→e.sz+3+4*i≤4*j
 either:∀{i d e j},mU T n i d=.ok e j→e.sz+3+4*i≤4*j
 EW:∀{e0 i d e j},mz T n e0 i d=.ok e j→e.sz+4*i≤e0.sz+4*j
 both:∀{i d e j},rz T n i d=.ok e j→e.sz+3+4*i≤4*j
 On:∀{e0 i d e j},rB T n e0 i d=.ok e j→e.sz+4*i≤e0.sz+4*j
 test:∀{i d e j},rA T n i d=.ok e j→e.sz+3+4*i≤4*j
 Oo:∀{e0 i d e j},rC T n e0 i d=.ok e j→e.sz+4*i≤e0.sz+4*j
 join:∀{i d e j},pT T n i d=.ok e j→e.sz+3+4*i≤4*j
 sum:∀{i d e j},yV T n i d=.ok e j→e.sz+3+4*i≤4*j
 afe:∀{e0 i d e j},uY T n e0 i d=.ok e j→e.sz+4*i≤e0.sz+4*j
 term:∀{i d e j},rD T n i d=.ok e j→e.sz+3+4*i≤4*j
 Oq:∀{e0 i d e j},rE T n e0 i d=.ok e j→e.sz+4*i≤e0.sz+4*j
 unary:∀{i d e j},iY T n i d=.ok e j→e.sz+3+4*i≤4*j
 post:∀{i d e j},oK T n i d=.ok e j→e.sz+3+4*i≤4*j
 EX:∀{e0 i d e j},mL T n e0 i d=.ok e j→e.sz+4*i≤e0.sz+4*j
 args:∀{b out i d l j},jG T n b out i d=.ok l j→iG l+4*i+1≤iG out+4*j
 simple:∀{i d e j},jL T n i d=.ok e j→e.sz+3+4*i≤4*j
 table:∀{out c a i d e j},kQ T n out c a i d=.ok e j→e.sz+3+4*i≤iG out+4*j
 field:∀{c i d l j},mM T n c i d=.ok l j→iG l.1+4*i≤4*j
 body:∀{a i d e j},pU T n a i d=.ok e j→e.sz+3+4*i≤4*j
 params:∀{b out i l j},kC T n b out i=.ok l j→l.length+4*i+3≤out.length+4*j
 block:∀{i d b j},fk T n i d=.ok b j→dW b+4*i≤4*j
 I5:∀{out i d b j},dP T n out i d=.ok b j→dW b+4*i≤dW out+4*j
 stat:∀{i d s j},nt T n i d=.ok s j→s.sz+4*i≤4*j
 xA:∀{a i d s j},pJ T n a i d=.ok s j→s.sz+4*i≤4*j
 SA:∀{a i d s j},At T n a i d=.ok s j→s.sz+4*i≤4*j
 MC:∀{a i d s j},wh T n a i d=.ok s j→s.sz+4*i≤4*j
 do_:∀{a i d s j},X4 T n a i d=.ok s j→s.sz+4*i≤4*j
 MD:∀{a i d s j},sS T n a i d=.ok s j→s.sz+4*i≤1+4*j
 plain:∀{a i d s j},rF T n a i d=.ok s j→s.sz+4*i≤4*j
 choice:∀{a l bs i d s j},kD T n a l bs i d=.ok s j→s.sz+4*i≤iG l+qd bs+4*j
 for_:∀{a i d s j},Bi T n a i d=.ok s j→s.sz+4*i≤4*j
 CV:∀{k a ns l i d s j},oL T n k a ns l i d=.ok s j→s.sz+4*i≤ns.length+iG l+4*j
end
def builtins:List (List Nat):=[[116,121,112,101],[101,114,114,111,114],[112,99,97,108,108],[99,114,101,97,116,101],[114,101,115,117,109,101],[121,105,101,108,100],[115,116,97,116,117,115],[116,111,115,116,114,105,110,103],[116,111,105,110,116],[115,117,98],[98,121,116,101],[99,104,97,114],[114,101,112],[117,112,112,101,114],[108,111,119,101,114],[114,101,118,101,114,115,101],[102,105,110,100],[105,110,115,101,114,116],[114,101,109,111,118,101],[107,101,121,115],[106,111,105,110],[99,97,108,108]]
def azo(ns out:List (List Nat))(s:List Nat):List (List Nat):=if s∈ns then out else if s∈builtins then out else if s∈out then out else out++[s]
mutual
def oE:Nat→List (List Nat)→List (List Nat)→aO→List (List Nat)
 |0,_,out,_=>out
 |n+1,ns,out,.mk k _ _ s _ l f=>f.foldl (oF n ns) (l.foldl (oE n ns) (if k=6 then azo ns out s else out))
def oF:Nat→List (List Nat)→List (List Nat)→gr→List (List Nat)
 |0,_,out,_=>out
 |n+1,ns,out,.mk ps b=>oW n ns ps b [] out
def oW:Nat→List (List Nat)→List (List Nat)→List aP→List aO→List (List Nat)→List (List Nat)
 |0,_,_,_,_,out=>out
 |n+1,ns,names,b,thn,out=>thn.foldl (oE n (b.foldl (oS n) (ns++names,out)).1) (b.foldl (oS n) (ns++names,out)).2
def oS:Nat→List (List Nat)×List (List Nat)→aP→List (List Nat)×List (List Nat)
 |0,r,_=>r
 |n+1,r,.mk k _ names l bs=>
  if k=1 then (r.1++names,l.foldl (oE n r.1) r.2)
  else if k=12 then (r.1++names,l.foldl (oE n (r.1++names)) r.2)
  else if k=8 then (r.1,bs.foldl (λo b=>oW n r.1 [] b l o) r.2)
  else if k=4 then (r.1,(List.range bs.length).foldl (λo i=>oW n r.1 [] (bs[i]?.getD []) [] (match l[i]? with|some e=>oE n r.1 o e|none=>o)) r.2)
  else (r.1,bs.foldl (λo b=>oW n r.1 names b [] o) (l.foldl (oE n r.1) r.2))
end
mutual
def aO.wf:aO→Prop
 |.mk _ _ _ _ _ l f=>aoz l∧awn f
def aoz:List aO→Prop
 |[]=>True
 |e::l=>e.wf∧aoz l
def gr.wf:gr→Prop
 |.mk _ b=>aoA b
def awn:List gr→Prop
 |[]=>True
 |e::l=>e.wf∧awn l
def aP.wf:aP→Prop
 |.mk k _ ns l bs=>(k=8→bs.length≤1)∧((k=1∨k=12)→bs=[])∧(k≠1→k≠6→k≠7→k≠12→ns=[])∧aoz l∧awo bs
def aoA:List aP→Prop
 |[]=>True
 |e::l=>e.wf∧aoA l
def awo:List (List aP)→Prop
 |[]=>True
 |e::l=>aoA e∧awo l
end
end Go.X
