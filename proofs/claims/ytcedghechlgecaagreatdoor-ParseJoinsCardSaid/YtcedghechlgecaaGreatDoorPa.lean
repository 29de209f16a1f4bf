/- The grammar with fuel, how great what it gives is, how scripts lie in memory, the state of a parser (names shortened). No condition: definitions and lemmas. -/
import Derived.Test.YtcedghechlgecaaGreatDoorGb
set_option maxRecDepth 100000
set_option maxHeartbeats 0
set_option linter.unusedVariables false
set_option linter.unusedSimpArgs false
namespace Go.X
section
mutual
inductive aE where
 |mk (kind at_ n:Nat) (s:List Nat) (op:Nat) (l:List aE) (f:List cq)
inductive cq where
 |mk (params:List (List Nat)) (body:List aK)
inductive aK where
 |mk (kind at_:Nat) (names:List (List Nat)) (l:List aE) (blocks:List (List aK))
end
def aE.kind:aE→Nat
 |.mk k ..=>k
def aK.kind:aK→Nat
 |.mk k ..=>k
inductive bF(α:Type) where
 |ok (a:α) (i:Nat)
 |err (c i:Nat)
 |bW
def bF.bind{α β:Type}(r:bF α)(f:α→Nat→bF β):bF β:=match r with
 |.ok a i=>f a i
 |.err c i=>.err c i
 |.bW=>.bW
def bC(T:List Tok)(i:Nat):Nat:=match T[i]? with|some t=>t.kind|none=>0
def dO(T:List Tok)(i:Nat):List Nat:=match T[i]? with|some t=>t.text|none=>[]
def aW(T:List Tok)(i:Nat):Nat:=match T[i]? with|some t=>t.pos|none=>0
def nk(T:List Tok)(i:Nat):Nat:=match T[i]? with|some t=>t.n|none=>0
def isA(T:List Tok)(s:List Nat)(i:Nat):Bool:=(decide (bC T i=1)||decide (bC T i=5))&&decide (dO T i=s)
def cC(T:List Tok)(s:List Nat)(i:Nat):bF Unit:=if isA T s i then .ok () (i+1) else .err 14 i
def gY(T:List Tok)(i:Nat):bF (List Nat):=if bC T i=2 then .ok (dO T i) (i+1) else .err 14 i
def iI(T:List Tok)(i:Nat):Nat→List (List Nat)→Nat
 |_,[]=>0
 |f,s::l=>if isA T s i then f else iI T i (f+1) l
def dH(T:List Tok)(i:Nat):Bool:=isA T [101,110,100] i||(isA T [101,108,115,101] i||(isA T [101,108,115,101,105,102] i||(isA T [117,110,116,105,108] i||decide (bC T i=0))))
def dU(kind op at_:Nat)(a b:aE):aE:=.mk kind at_ 0 [] op [a,b] []
def iv(T:List Tok)(s:List Nat)(i:Nat):Nat:=if isA T s i then i+1 else i
def oE(T:List Tok)(i:Nat):Nat:=if isA T [110,111,116] i then 11 else if isA T [45] i then 12 else if isA T [35] i then 13 else 0
def tests:List (List Nat):=[[61,61],[126,61],[60],[60,61],[62],[62,61]]
def sums:List (List Nat):=[[43],[45]]
def terms:List (List Nat):=[[42],[47,47],[37]]
def jZ(T:List Tok)(i:Nat):Nat:=if isA T [110,105,108] i then 1 else if isA T [116,114,117,101] i then 2 else if isA T [102,97,108,115,101] i then 3 else 0
variable (T:List Tok)
mutual
def de:Nat→Nat→Nat→bF aE
 |0,_,_=>.bW
 |n+1,i,d=>if 100<d+1 then .err 8 i else dx n i (d+1)
def dx:Nat→Nat→Nat→bF aE
 |0,_,_=>.bW
 |n+1,i,d=>(fu n i d).bind λe j=>df n e j d
def df:Nat→aE→Nat→Nat→bF aE
 |0,_,_,_=>.bW
 |n+1,e,i,d=>if isA T [111,114] i then (fu n (i+1) d).bind λb j=>df n (dU 16 0 (aW T i) e b) j d else .ok e i
def fu:Nat→Nat→Nat→bF aE
 |0,_,_=>.bW
 |n+1,i,d=>(fw n i d).bind λe j=>eF n e j d
def eF:Nat→aE→Nat→Nat→bF aE
 |0,_,_,_=>.bW
 |n+1,e,i,d=>if isA T [97,110,100] i then (fw n (i+1) d).bind λb j=>eF n (dU 15 0 (aW T i) e b) j d else .ok e i
def fw:Nat→Nat→Nat→bF aE
 |0,_,_=>.bW
 |n+1,i,d=>(fi n i d).bind λe j=>eG n e j d
def eG:Nat→aE→Nat→Nat→bF aE
 |0,_,_,_=>.bW
 |n+1,e,i,d=>if iI T i 7 tests=0 then .ok e i else (fi n (i+1) d).bind λb j=>eG n (dU 14 (iI T i 7 tests) (aW T i) e b) j d
def fi:Nat→Nat→Nat→bF aE
 |0,_,_=>.bW
 |n+1,i,d=>(ig n i d).bind λe j=>if isA T [46,46] j then (if 100<d+1 then .err 8 (j+1) else (fi n (j+1) (d+1)).bind λb k=>.ok (dU 14 6 (aW T j) e b) k) else .ok e j
def ig:Nat→Nat→Nat→bF aE
 |0,_,_=>.bW
 |n+1,i,d=>(fx n i d).bind λe j=>fT n e j d
def fT:Nat→aE→Nat→Nat→bF aE
 |0,_,_,_=>.bW
 |n+1,e,i,d=>if iI T i 1 sums=0 then .ok e i else (fx n (i+1) d).bind λb j=>fT n (dU 14 (iI T i 1 sums) (aW T i) e b) j d
def fx:Nat→Nat→Nat→bF aE
 |0,_,_=>.bW
 |n+1,i,d=>(dN n i d).bind λe j=>eH n e j d
def eH:Nat→aE→Nat→Nat→bF aE
 |0,_,_,_=>.bW
 |n+1,e,i,d=>if iI T i 3 terms=0 then .ok e i else (dN n (i+1) d).bind λb j=>eH n (dU 14 (iI T i 3 terms) (aW T i) e b) j d
def dN:Nat→Nat→Nat→bF aE
 |0,_,_=>.bW
 |n+1,i,d=>if oE T i=0 then fj n i d else if 100<d+1 then .err 8 (i+1) else (dN n (i+1) (d+1)).bind λe j=>.ok (.mk (oE T i) (aW T i) 0 [] 0 [e] []) j
def fj:Nat→Nat→Nat→bF aE
 |0,_,_=>.bW
 |n+1,i,d=>if bC T i=2∨isA T [40] i=true then (dc n i d).bind λe j=>dI n e j d else dc n i d
def dI:Nat→aE→Nat→Nat→bF aE
 |0,_,_,_=>.bW
 |n+1,e,i,d=>
  if isA T [46] i then (gY T (i+1)).bind λs j=>dI n (dU 9 0 (aW T i) e (.mk 5 (aW T (i+1)) 0 s 0 [] [])) j d
  else if isA T [91] i then (de n (i+1) d).bind λk j=>(cC T [93] j).bind λ_ j=>dI n (dU 9 0 (aW T i) e k) j d
  else if isA T [40] i then (cT n true [] (i+1) d).bind λl j=>dI n (.mk 10 (aW T i) 0 [] 0 (e::l) []) j d
  else .ok e i
def cT:Nat→Bool→List aE→Nat→Nat→bF (List aE)
 |0,_,_,_,_=>.bW
 |n+1,first,out,i,d=>
  if (if first then !isA T [41] i else isA T [44] i) then
   (if out.length=16 then .err 8 (if first then i else i+1) else (de n (if first then i else i+1) d).bind λe j=>cT n false (out++[e]) j d)
  else (cC T [41] i).bind λ_ j=>.ok out j
def dc:Nat→Nat→Nat→bF aE
 |0,_,_=>.bW
 |n+1,i,d=>
  if bC T i=3 then .ok (.mk 4 (aW T i) (nk T i) [] 0 [] []) (i+1)
  else if bC T i=4 then .ok (.mk 5 (aW T i) 0 (dO T i) 0 [] []) (i+1)
  else if bC T i=2 then .ok (.mk 6 (aW T i) 0 (dO T i) 0 [] []) (i+1)
  else if jZ T i≠0 then .ok (.mk (jZ T i) (aW T i) 0 [] 0 [] []) (i+1)
  else if isA T [102,117,110,99,116,105,111,110] i then fy n (aW T i) (i+1) d
  else if isA T [123] i then dh n [] 0 (aW T i) (i+1) d
  else if isA T [40] i then (de n (i+1) d).bind λe j=>(cC T [41] j).bind λ_ j=>.ok e j
  else .err 14 i
def dh:Nat→List aE→Nat→Nat→Nat→Nat→bF aE
 |0,_,_,_,_,_=>.bW
 |n+1,out,c,a,i,d=>
  if isA T [125] i then .ok (.mk 8 a 0 [] 0 out []) (i+1)
  else if out.length=128 then .err 8 i
  else (dJ n c i d).bind λr j=>if isA T [44] j∨isA T [59] j then dh n (out++r.1) r.2 a (j+1) d else (cC T [125] j).bind λ_ k=>.ok (.mk 8 a 0 [] 0 (out++r.1) []) k
def dJ:Nat→Nat→Nat→Nat→bF (List aE×Nat)
 |0,_,_,_=>.bW
 |n+1,c,i,d=>
  if isA T [91] i then (de n (i+1) d).bind λk j=>(cC T [93] j).bind λ_ j=>(cC T [61] j).bind λ_ j=>(de n j d).bind λv j=>.ok ([k,v],c) j
  else if bC T i=2∧bC T (i+1)=5∧dO T (i+1)=[61] then (de n (i+2) d).bind λv j=>.ok ([.mk 5 (aW T i) 0 (dO T i) 1 [] [],v],c) j
  else (de n i d).bind λv j=>.ok ([.mk 4 (aW T i) (c+1) [] 1 [] [],v],c+1) j
def fy:Nat→Nat→Nat→Nat→bF aE
 |0,_,_,_=>.bW
 |n+1,a,i,d=>(cC T [40] i).bind λ_ j=>(cG n true [] j).bind λps j=>(cz n j d).bind λb j=>(cC T [101,110,100] j).bind λ_ j=>.ok (.mk 7 a 0 [] 0 [] [.mk ps b]) j
def cG:Nat→Bool→List (List Nat)→Nat→bF (List (List Nat))
 |0,_,_,_=>.bW
 |n+1,first,out,i=>
  if (if first then !isA T [41] i else isA T [44] i) then
   (if out.length=16 then .err 8 (if first then i else i+1) else (gY T (if first then i else i+1)).bind λs j=>cG n false (out++[s]) j)
  else (cC T [41] i).bind λ_ j=>.ok out j
def cz:Nat→Nat→Nat→bF (List aK)
 |0,_,_=>.bW
 |n+1,i,d=>if 100<d+1 then .err 8 i else bG n [] i (d+1)
def bG:Nat→List aK→Nat→Nat→bF (List aK)
 |0,_,_,_=>.bW
 |n+1,out,i,d=>
  if dH T i then .ok out i
  else (eY n i d).bind λs j=>if s.kind=10∧dH T (iv T [59] j)=false then .err 14 (iv T [59] j) else bG n (out++[s]) (iv T [59] j) d
def eY:Nat→Nat→Nat→bF aK
 |0,_,_=>.bW
 |n+1,i,d=>
  if isA T [108,111,99,97,108] i then ep n (aW T i) (i+1) d
  else if isA T [105,102] i then cO n (aW T i) [] [] (i+1) d
  else if isA T [119,104,105,108,101] i then fe n (aW T i) (i+1) d
  else if isA T [114,101,112,101,97,116] i then dR n (aW T i) (i+1) d
  else if isA T [102,111,114] i then ij n (aW T i) (i+1) d
  else if isA T [98,114,101,97,107] i then .ok (.mk 9 (aW T i) [] [] []) (i+1)
  else if isA T [100,111] i then kV n (aW T i) (i+1) d
  else if isA T [114,101,116,117,114,110] i then dS n (aW T i) (i+1) d
  else if bC T i=2 then ey n (aW T i) i d
  else .err 14 i
def ep:Nat→Nat→Nat→Nat→bF aK
 |0,_,_,_=>.bW
 |n+1,a,i,d=>
  if isA T [102,117,110,99,116,105,111,110] i then (gY T (i+1)).bind λs j=>(fy n (aW T j) j d).bind λb j=>.ok (.mk 12 a [s] [b] []) j
  else (gY T i).bind λs j=>if isA T [61] j then (de n (j+1) d).bind λe k=>.ok (.mk 1 a [s] [e] []) k else .ok (.mk 1 a [s] [] []) j
def fe:Nat→Nat→Nat→Nat→bF aK
 |0,_,_,_=>.bW
 |n+1,a,i,d=>(de n i d).bind λe j=>(cC T [100,111] j).bind λ_ j=>(cz n j d).bind λb j=>(cC T [101,110,100] j).bind λ_ j=>.ok (.mk 5 a [] [e] [b]) j
def dR:Nat→Nat→Nat→Nat→bF aK
 |0,_,_,_=>.bW
 |n+1,a,i,d=>(cz n i d).bind λb j=>(cC T [117,110,116,105,108] j).bind λ_ j=>(de n j d).bind λe j=>.ok (.mk 8 a [] [e] [b]) j
def kV:Nat→Nat→Nat→Nat→bF aK
 |0,_,_,_=>.bW
 |n+1,a,i,d=>(cz n i d).bind λb j=>(cC T [101,110,100] j).bind λ_ j=>.ok (.mk 11 a [] [] [b]) j
def dS:Nat→Nat→Nat→Nat→bF aK
 |0,_,_,_=>.bW
 |n+1,a,i,d=>if isA T [59] i=true∨dH T i=true then .ok (.mk 10 a [] [] []) i else (de n i d).bind λe j=>.ok (.mk 10 a [] [e] []) j
def ey:Nat→Nat→Nat→Nat→bF aK
 |0,_,_,_=>.bW
 |n+1,a,i,d=>(fj n i d).bind λe j=>if e.kind=10 then .ok (.mk 3 a [] [e] []) j else (cC T [61] j).bind λ_ j=>(de n j d).bind λv j=>.ok (.mk 2 a [] [e,v] []) j
def cO:Nat→Nat→List aE→List (List aK)→Nat→Nat→bF aK
 |0,_,_,_,_,_=>.bW
 |n+1,a,l,bs,i,d=>(de n i d).bind λe j=>(cC T [116,104,101,110] j).bind λ_ j=>(cz n j d).bind λb j=>
  if isA T [101,108,115,101,105,102] j then cO n a (l++[e]) (bs++[b]) (j+1) d
  else if isA T [101,108,115,101] j then (cz n (j+1) d).bind λb2 j=>(cC T [101,110,100] j).bind λ_ j=>.ok (.mk 4 a [] (l++[e]) (bs++[b]++[b2])) j
  else (cC T [101,110,100] j).bind λ_ j=>.ok (.mk 4 a [] (l++[e]) (bs++[b])) j
def ij:Nat→Nat→Nat→Nat→bF aK
 |0,_,_,_=>.bW
 |n+1,a,i,d=>(gY T i).bind λs j=>
  if isA T [44] j then (gY T (j+1)).bind λs2 j=>(cC T [105,110] j).bind λ_ j=>(de n j d).bind λe j=>dy n 7 a [s,s2] [e] j d
  else (cC T [61] j).bind λ_ j=>(de n j d).bind λe j=>(cC T [44] j).bind λ_ j=>(de n j d).bind λe2 j=>
   if isA T [44] j then (de n (j+1) d).bind λe3 j=>dy n 6 a [s] [e,e2,e3] j d
   else dy n 6 a [s] [e,e2] j d
def dy:Nat→Nat→Nat→List (List Nat)→List aE→Nat→Nat→bF aK
 |0,_,_,_,_,_,_=>.bW
 |n+1,k,a,ns,l,i,d=>(cC T [100,111] i).bind λ_ j=>(cz n j d).bind λb j=>(cC T [101,110,100] j).bind λ_ j=>.ok (.mk k a ns l [b]) j
end
end
def kG(T:List Tok):Prop:=0<T.length∧∀i,i<T.length→bC T i≠0→i+1<T.length
def gG(α:Type)(L i:Nat)(r:bF α):Prop:=match r with
 |.ok _ j=>i<j∧j<L
 |.err _ j=>j<L
 |.bW=>False
def gW(α:Type)(L i:Nat)(r:bF α):Prop:=match r with
 |.ok _ j=>i≤j∧j<L
 |.err _ j=>j<L
 |.bW=>False
section
variable {T:List Tok}{α β:Type}{L i:Nat}
theorem gG.w{r:bF α}(h:gG α L i r):gW α L i r:=by
 cases r with
 |ok a j=>exact⟨Nat.le_of_lt h.1,h.2⟩
 |err c j=>exact h
 |bW=>exact h
theorem gG.lo{r:bF α}{i':Nat}(h:gG α L i r)(hi:i'≤i):gG α L i' r:=by
 cases r with
 |ok a j=>exact⟨Nat.lt_of_le_of_lt hi h.1,h.2⟩
 |err c j=>exact h
 |bW=>exact h
theorem gW.lo{r:bF α}{i':Nat}(h:gW α L i r)(hi:i'≤i):gW α L i' r:=by
 cases r with
 |ok a j=>exact⟨Nat.le_trans hi h.1,h.2⟩
 |err c j=>exact h
 |bW=>exact h
theorem gW.lt{r:bF α}{i':Nat}(h:gW α L i r)(hi:i'<i):gG α L i' r:=by
 cases r with
 |ok a j=>exact⟨Nat.lt_of_lt_of_le hi h.1,h.2⟩
 |err c j=>exact h
 |bW=>exact h
theorem gG.bind{r:bF α}{f:α→Nat→bF β}(h:gG α L i r)(hf:∀a j,i<j→j<L→gW β L j (f a j)):gG β L i (r.bind f):=by
 cases r with
 |ok a j=>exact(hf a j h.1 h.2).lt h.1
 |err c j=>exact h
 |bW=>exact h
theorem gW.bind{r:bF α}{f:α→Nat→bF β}(h:gW α L i r)(hf:∀a j,i≤j→j<L→gW β L j (f a j)):gW β L i (r.bind f):=by
 cases r with
 |ok a j=>exact(hf a j h.1 h.2).lo h.1
 |err c j=>exact h
 |bW=>exact h
theorem gW.ab8{r:bF α}{f:α→Nat→bF β}(h:gW α L i r)(hf:∀a j,i≤j→j<L→gG β L j (f a j)):gG β L i (r.bind f):=by
 cases r with
 |ok a j=>exact(hf a j h.1 h.2).lo h.1
 |err c j=>exact h
 |bW=>exact h
theorem NO(h:bC T i≠0):i<T.length:=by
 unfold bC at h;rcases Nat.lt_or_ge i T.length with g|g
 ·exact g
 ·rw[List.getElem?_eq_none g]at h;exact absurd rfl h
theorem sO{s:List Nat}(h:isA T s i=true):bC T i=1∨bC T i=5:=by
 unfold isA at h;rw[Bool.and_eq_true,Bool.or_eq_true]at h;rcases h.1 with g|g
 ·exact .inl (of_decide_eq_true g)
 ·exact .inr (of_decide_eq_true g)
theorem cX(hT:kG T){s:List Nat}(h:isA T s i=true):i+1<T.length:=by
 have hk:bC T i≠0:=by
  rcases sO h with g|g<;>omega
 exact hT.2 i (NO hk) hk
theorem ld(hT:kG T)(h:bC T i≠0):i+1<T.length:=hT.2 i (NO h) h
theorem fM(hT:kG T){s:List Nat}(hi:i<T.length):gG Unit T.length i (cC T s i):=by
 unfold cC;split
 ·rename_i h;exact⟨by omega,cX hT h⟩
 ·exact hi
theorem sP(hT:kG T)(hi:i<T.length):gG (List Nat) T.length i (gY T i):=by
 unfold gY;split
 ·rename_i h;exact⟨by omega,ld hT (by omega)⟩
 ·exact hi
theorem GU(hT:kG T):∀(l:List (List Nat)) (f:Nat),iI T i f l≠0→i+1<T.length
 |[],f,h=>absurd rfl h
 |s::l,f,h=>by
  unfold iI at h;split at h
  ·rename_i g;exact cX hT g
  ·exact GU hT l _ h
theorem ahK(hT:kG T)(h:oE T i≠0):i+1<T.length:=by
 unfold oE at h;split at h
 ·rename_i g;exact cX hT g
 split at h
 ·rename_i g;exact cX hT g
 split at h
 ·rename_i g;exact cX hT g
 ·exact absurd rfl h
theorem aef(hT:kG T)(h:jZ T i≠0):i+1<T.length:=by
 unfold jZ at h;split at h
 ·rename_i g;exact cX hT g
 split at h
 ·rename_i g;exact cX hT g
 split at h
 ·rename_i g;exact cX hT g
 ·exact absurd rfl h
theorem agN(hT:kG T){s:List Nat}(hi:i<T.length):i≤iv T s i∧iv T s i<T.length:=by
 unfold iv;split
 ·rename_i g;exact⟨by omega,cX hT g⟩
 ·exact⟨Nat.le_refl _,hi⟩
theorem lp{a:α}(h:i<L):gW α L i (.ok a i):=⟨Nat.le_refl _,h⟩
structure Fu(T:List Tok)(n:Nat):Prop where
 exp:∀i d,i<T.length→64*(T.length-i)+20≤n→gG _ T.length i (de T n i d)
 either:∀i d,i<T.length→64*(T.length-i)+19≤n→gG _ T.length i (dx T n i d)
 ae:∀e i d,i<T.length→64*(T.length-i)+1≤n→gW _ T.length i (df T n e i d)
 both:∀i d,i<T.length→64*(T.length-i)+18≤n→gG _ T.length i (fu T n i d)
 au:∀e i d,i<T.length→64*(T.length-i)+1≤n→gW _ T.length i (eF T n e i d)
 test:∀i d,i<T.length→64*(T.length-i)+17≤n→gG _ T.length i (fw T n i d)
 av:∀e i d,i<T.length→64*(T.length-i)+1≤n→gW _ T.length i (eG T n e i d)
 join:∀i d,i<T.length→64*(T.length-i)+16≤n→gG _ T.length i (fi T n i d)
 sum:∀i d,i<T.length→64*(T.length-i)+15≤n→gG _ T.length i (ig T n i d)
 aI:∀e i d,i<T.length→64*(T.length-i)+1≤n→gW _ T.length i (fT T n e i d)
 term:∀i d,i<T.length→64*(T.length-i)+14≤n→gG _ T.length i (fx T n i d)
 aw:∀e i d,i<T.length→64*(T.length-i)+1≤n→gW _ T.length i (eH T n e i d)
 unary:∀i d,i<T.length→64*(T.length-i)+13≤n→gG _ T.length i (dN T n i d)
 post:∀i d,i<T.length→64*(T.length-i)+12≤n→gG _ T.length i (fj T n i d)
 an:∀e i d,i<T.length→64*(T.length-i)+1≤n→gW _ T.length i (dI T n e i d)
 GV:∀f o i d,i<T.length→64*(T.length-i)+30≤n→gG _ T.length i (cT T n f o i d)
 simple:∀i d,i<T.length→64*(T.length-i)+11≤n→gG _ T.length i (dc T n i d)
 Kr:∀o c a i d,i<T.length→64*(T.length-i)+40≤n→gG _ T.length i (dh T n o c a i d)
 field:∀c i d,i<T.length→64*(T.length-i)+35≤n→gG _ T.length i (dJ T n c i d)
 body:∀a i d,i<T.length→64*(T.length-i)+10≤n→gG _ T.length i (fy T n a i d)
 zj:∀f o i,i<T.length→64*(T.length-i)+5≤n→gG _ T.length i (cG T n f o i)
 block:∀i d,i<T.length→64*(T.length-i)+50≤n→gW _ T.length i (cz T n i d)
 aM:∀o i d,i<T.length→64*(T.length-i)+49≤n→gW _ T.length i (bG T n o i d)
 stat:∀i d,i<T.length→64*(T.length-i)+45≤n→gG _ T.length i (eY T n i d)
 E8:∀a l b i d,i<T.length→64*(T.length-i)+25≤n→gG _ T.length i (cO T n a l b i d)
 for_:∀a i d,i<T.length→64*(T.length-i)+5≤n→gG _ T.length i (ij T n a i d)
 ai:∀k a ns l i d,i<T.length→64*(T.length-i)+5≤n→gG _ T.length i (dy T n k a ns l i d)
 ah:∀a i d,i<T.length→64*(T.length-i)+30≤n→gG _ T.length i (ep T n a i d)
 aj:∀a i d,i<T.length→64*(T.length-i)+30≤n→gG _ T.length i (fe T n a i d)
 af:∀a i d,i<T.length→64*(T.length-i)+60≤n→gG _ T.length i (dR T n a i d)
 do_:∀a i d,i<T.length→64*(T.length-i)+60≤n→gG _ T.length i (kV T n a i d)
 aH:∀a i d,i<T.length→64*(T.length-i)+30≤n→gW _ T.length i (dS T n a i d)
 plain:∀a i d,i<T.length→64*(T.length-i)+30≤n→gG _ T.length i (ey T n a i d)
theorem aeg(hT:kG T){n:Nat}(F:Fu T n):Fu T (n+1) where
 exp i d hi hn:=by
  simp only[de];split
  ·exact hi
  ·exact F.either i _ hi (by omega)
 either i d hi hn:=by
  simp only[dx];exact(F.both i d hi (by omega)).bind λe j h1 h2=>F.ae e j d h2 (by omega)
 ae e i d hi hn:=by
  simp only[df];split
  ·rename_i h;have:=cX hT h;exact(((F.both (i+1) d this (by omega)).bind λb j h1 h2=>F.ae _ j d h2 (by omega)).lo (by omega)).w
  ·exact⟨Nat.le_refl _,hi⟩
 both i d hi hn:=by
  simp only[fu];exact(F.test i d hi (by omega)).bind λe j h1 h2=>F.au e j d h2 (by omega)
 au e i d hi hn:=by
  simp only[eF];split
  ·rename_i h;have:=cX hT h;exact(((F.test (i+1) d this (by omega)).bind λb j h1 h2=>F.au _ j d h2 (by omega)).lo (by omega)).w
  ·exact⟨Nat.le_refl _,hi⟩
 test i d hi hn:=by
  simp only[fw];exact(F.join i d hi (by omega)).bind λe j h1 h2=>F.av e j d h2 (by omega)
 av e i d hi hn:=by
  simp only[eG];split
  ·exact⟨Nat.le_refl _,hi⟩
  ·rename_i h;have:=GU hT _ _ h;exact(((F.join (i+1) d this (by omega)).bind λb j h1 h2=>F.av _ j d h2 (by omega)).lo (by omega)).w
 join i d hi hn:=by
  simp only[fi];refine(F.sum i d hi (by omega)).bind λe j h1 h2=>?_;split
  ·rename_i h;have:=cX hT h;split
   ·exact this
   ·exact(((F.join (j+1) _ this (by omega)).bind λb k h3 h4=>lp h4).lo (by omega)).w
  ·exact⟨Nat.le_refl _,h2⟩
 sum i d hi hn:=by
  simp only[ig];exact(F.term i d hi (by omega)).bind λe j h1 h2=>F.aI e j d h2 (by omega)
 aI e i d hi hn:=by
  simp only[fT];split
  ·exact⟨Nat.le_refl _,hi⟩
  ·rename_i h;have:=GU hT _ _ h;exact(((F.term (i+1) d this (by omega)).bind λb j h1 h2=>F.aI _ j d h2 (by omega)).lo (by omega)).w
 term i d hi hn:=by
  simp only[fx];exact(F.unary i d hi (by omega)).bind λe j h1 h2=>F.aw e j d h2 (by omega)
 aw e i d hi hn:=by
  simp only[eH];split
  ·exact⟨Nat.le_refl _,hi⟩
  ·rename_i h;have:=GU hT _ _ h;exact(((F.unary (i+1) d this (by omega)).bind λb j h1 h2=>F.aw _ j d h2 (by omega)).lo (by omega)).w
 unary i d hi hn:=by
  simp only[dN];split
  ·exact F.post i d hi (by omega)
  ·rename_i h;have:=ahK hT h;split
   ·exact this
   ·exact((F.unary (i+1) _ this (by omega)).bind λe j h1 h2=>lp h2).lo (by omega)
 post i d hi hn:=by
  simp only[fj];split
  ·exact(F.simple i d hi (by omega)).bind λe j h1 h2=>F.an e j d h2 (by omega)
  ·exact F.simple i d hi (by omega)
 an e i d hi hn:=by
  simp only[dI];split
  ·rename_i h;have:=cX hT h;exact(((sP hT this).bind λs j h1 h2=>F.an _ j d h2 (by omega)).lo (by omega)).w
  split
  ·rename_i h;have:=cX hT h;exact(((F.exp (i+1) d this (by omega)).bind λk j h1 h2=>((fM hT h2).bind λ_ j' h3 h4=>F.an _ j' d h4 (by omega)).w).lo (by omega)).w
  split
  ·rename_i h;have:=cX hT h;exact(((F.GV _ _ (i+1) d this (by omega)).bind λl j h1 h2=>F.an _ j d h2 (by omega)).lo (by omega)).w
  ·exact⟨Nat.le_refl _,hi⟩
 GV f o i d hi hn:=by
  simp only[cT];cases f with
  |true=>
   simp only[if_true];split
   ·split
    ·exact hi
    ·exact(F.exp i d hi (by omega)).bind λe j h3 h4=>(F.GV _ _ j d h4 (by omega)).w
   ·exact(fM hT hi).bind λ_ j h1 h2=>lp h2
  |false=>
   simp only[Bool.false_eq_true,if_false];split
   ·rename_i h;have g1:=cX hT h;split
    ·exact g1
    ·exact((F.exp (i+1) d g1 (by omega)).bind λe j h3 h4=>(F.GV _ _ j d h4 (by omega)).w).lo (by omega)
   ·exact(fM hT hi).bind λ_ j h1 h2=>lp h2
 simple i d hi hn:=by
  simp only[dc];split
  ·exact⟨by omega,ld hT (by omega)⟩
  split
  ·exact⟨by omega,ld hT (by omega)⟩
  split
  ·exact⟨by omega,ld hT (by omega)⟩
  split
  ·rename_i h;exact⟨by omega,aef hT h⟩
  split
  ·rename_i h;have:=cX hT h;exact(F.body _ (i+1) d this (by omega)).lo (by omega)
  split
  ·rename_i h;have:=cX hT h;exact(F.Kr _ _ _ (i+1) d this (by omega)).lo (by omega)
  split
  ·rename_i h;have:=cX hT h;exact((F.exp (i+1) d this (by omega)).bind λe j h1 h2=>((fM hT h2).bind λ_ j h3 h4=>lp h4).w).lo (by omega)
  ·exact hi
 Kr o c a i d hi hn:=by
  simp only[dh];split
  ·rename_i h;exact⟨by omega,cX hT h⟩
  split
  ·exact hi
  ·refine(F.field c i d hi (by omega)).bind λr j h1 h2=>?_;split
   ·rename_i h;have:j+1<T.length:=by
     rcases h with h|h<;>exact cX hT h
    exact((F.Kr _ _ _ (j+1) d this (by omega)).lo (by omega)).w
   ·exact((fM hT h2).bind λ_ j h3 h4=>lp h4).w
 field c i d hi hn:=by
  simp only[dJ];split
  ·rename_i h;have:=cX hT h;exact((F.exp (i+1) d this (by omega)).bind λk j h1 h2=>((fM hT h2).bind λ_ j h3 h4=>((fM hT h4).bind λ_ j h5 h6=>((F.exp j d h6 (by omega)).bind λv j h7 h8=>lp h8).w).w).w).lo (by omega)
  split
  ·rename_i h;have h1:i+2<T.length:=ld (i:=i+1) hT (by omega);exact((F.exp (i+2) d h1 (by omega)).bind λv j h3 h4=>lp h4).lo (by omega)
  ·exact(F.exp i d hi (by omega)).bind λv j h3 h4=>lp h4
 body a i d hi hn:=by
  simp only[fy];exact(fM hT hi).bind λ_ j h1 h2=>((F.zj _ _ j h2 (by omega)).bind λps j h3 h4=>((F.block j d h4 (by omega)).bind λb j h5 h6=>((fM hT h6).bind λ_ j h7 h8=>lp h8).w)).w
 zj f o i hi hn:=by
  simp only[cG];cases f with
  |true=>
   simp only[if_true];split
   ·split
    ·exact hi
    ·exact(sP hT hi).bind λe j h3 h4=>(F.zj _ _ j h4 (by omega)).w
   ·exact(fM hT hi).bind λ_ j h1 h2=>lp h2
  |false=>
   simp only[Bool.false_eq_true,if_false];split
   ·rename_i h;have g1:=cX hT h;split
    ·exact g1
    ·exact((sP hT g1).bind λe j h3 h4=>(F.zj _ _ j h4 (by omega)).w).lo (by omega)
   ·exact(fM hT hi).bind λ_ j h1 h2=>lp h2
 block i d hi hn:=by
  simp only[cz];split
  ·exact hi
  ·exact F.aM _ i _ hi (by omega)
 aM o i d hi hn:=by
  simp only[bG];split
  ·exact⟨Nat.le_refl _,hi⟩
  ·refine((F.stat i d hi (by omega)).bind λs j h1 h2=>?_).w;obtain⟨h3,h4⟩:=agN hT (s:=[59]) h2;split
   ·exact h4
   ·exact(F.aM _ _ d h4 (by omega)).lo h3
 stat i d hi hn:=by
  simp only[eY];split
  ·rename_i h;have g1:=cX hT h;exact(F.ah _ (i+1) d g1 (by omega)).lo (by omega)
  split
  ·rename_i h;have g1:=cX hT h;exact(F.E8 _ _ _ (i+1) d g1 (by omega)).lo (by omega)
  split
  ·rename_i h;have g1:=cX hT h;exact(F.aj _ (i+1) d g1 (by omega)).lo (by omega)
  split
  ·rename_i h;have g1:=cX hT h;exact(F.af _ (i+1) d g1 (by omega)).lo (by omega)
  split
  ·rename_i h;have g1:=cX hT h;exact(F.for_ _ (i+1) d g1 (by omega)).lo (by omega)
  split
  ·rename_i h;exact⟨by omega,cX hT h⟩
  split
  ·rename_i h;have g1:=cX hT h;exact(F.do_ _ (i+1) d g1 (by omega)).lo (by omega)
  split
  ·rename_i h;have g1:=cX hT h;exact(F.aH _ (i+1) d g1 (by omega)).lt (by omega)
  split
  ·exact F.plain _ i d hi (by omega)
  ·exact hi
 ah a i d hi hn:=by
  simp only[ep];split
  ·rename_i h;have g2:=cX hT h;exact((sP hT g2).bind λs j h1 h2=>((F.body _ j d h2 (by omega)).bind λb j h3 h4=>lp h4).w).lo (by omega)
  ·refine(sP hT hi).bind λs j h1 h2=>?_;split
   ·rename_i h;have g2:=cX hT h;exact((F.exp (j+1) d g2 (by omega)).bind λe k h3 h4=>lp h4).w.lo (by omega)
   ·exact lp h2
 aj a i d hi hn:=by
  simp only[fe];exact(F.exp i d hi (by omega)).bind λe j h1 h2=>((fM hT h2).bind λ_ j h3 h4=>(F.block j d h4 (by omega)).bind λb j h5 h6=>((fM hT h6).bind λ_ j h7 h8=>lp h8).w).w
 af a i d hi hn:=by
  simp only[dR];exact(F.block i d hi (by omega)).ab8 λb j h1 h2=>(fM hT h2).bind λ_ j h3 h4=>((F.exp j d h4 (by omega)).bind λe j h5 h6=>lp h6).w
 do_ a i d hi hn:=by
  simp only[kV];exact(F.block i d hi (by omega)).ab8 λb j h1 h2=>(fM hT h2).bind λ_ j h3 h4=>lp h4
 aH a i d hi hn:=by
  simp only[dS];split
  ·exact lp hi
  ·exact((F.exp i d hi (by omega)).bind λe j h1 h2=>lp h2).w
 plain a i d hi hn:=by
  simp only[ey];refine(F.post i d hi (by omega)).bind λe j h1 h2=>?_;split
  ·exact lp h2
  ·exact((fM hT h2).bind λ_ j h3 h4=>((F.exp j d h4 (by omega)).bind λv j h5 h6=>lp h6).w).w
 E8 a l b i d hi hn:=by
  simp only[cO];refine(F.exp i d hi (by omega)).bind λe j h1 h2=>((fM hT h2).bind λ_ j h3 h4=>(F.block j d h4 (by omega)).bind λb j h5 h6=>?_).w;split
  ·rename_i h;have g1:=cX hT h;exact((F.E8 _ _ _ (j+1) d g1 (by omega)).lo (by omega)).w
  split
  ·rename_i h;have g1:=cX hT h;exact((F.block (j+1) d g1 (by omega)).bind λb2 j h1 h2=>((fM hT h2).bind λ_ j h3 h4=>lp h4).w).lo (by omega)
  ·exact((fM hT h6).bind λ_ j h3 h4=>lp h4).w
 for_ a i d hi hn:=by
  simp only[ij];refine(sP hT hi).bind λs j h1 h2=>?_;split
  ·rename_i h;have g1:=cX hT h;exact(((sP hT g1).bind λs2 j h3 h4=>((fM hT h4).bind λ_ j h5 h6=>((F.exp j d h6 (by omega)).bind λe j h7 h8=>(F.ai _ _ _ _ j d h8 (by omega)).w).w).w).lo (by omega)).w
  ·refine((fM hT h2).bind λ_ j h3 h4=>((F.exp j d h4 (by omega)).bind λe j h5 h6=>((fM hT h6).bind λ_ j h7 h8=>((F.exp j d h8 (by omega)).bind λe2 j h9 h10=>?_).w).w).w).w;split
   ·rename_i h;have g1:=cX hT h;exact(((F.exp (j+1) d g1 (by omega)).bind λe3 j h11 h12=>(F.ai _ _ _ _ j d h12 (by omega)).w).lo (by omega)).w
   ·exact(F.ai _ _ _ _ j d h10 (by omega)).w
 ai k a ns l i d hi hn:=by
  simp only[dy];exact(fM hT hi).bind λ_ j h3 h4=>(F.block j d h4 (by omega)).bind λb j h5 h6=>((fM hT h6).bind λ_ j h7 h8=>lp h8).w
theorem Ks(hT:kG T):∀n,Fu T n
 |0=>by constructor<;>intros<;>omega
 |n+1=>aeg hT (Ks hT n)
end
section
variable {H:AH}{S S':LS}
def cJ(S:LS)(Q:Nat→Prop)(sz:Nat)(v:AV)(n:Nat)(cl:Nat→List AV):Prop:=(v=.ab∧n=0)∨∃b o c ex cs m,v=.slice b o n c sz ex∧Q b∧S.ob b=.ce cs m∧n≤c∧o+n*sz≤cs.length∧∀i,i<n→(cs.drop (o+i*sz)).take sz=cl i
theorem cJ.nil(S:LS)(Q:Nat→Prop)(sz:Nat)(cl:Nat→List AV):cJ S Q sz .ab 0 cl:=.inl ⟨rfl,rfl⟩
theorem cJ.go{Q Q':Nat→Prop}{sz n:Nat}{v:AV}{cl:Nat→List AV}(h:cJ S Q sz v n cl)(hk:∀b,Q b→S'.ob b=S.ob b)(h1:∀b,Q b→Q' b):cJ S' Q' sz v n cl:=by
 rcases h with h|⟨b,o,c,ex,cs,m,e1,h2,h4,h5⟩
 ·exact .inl h
 ·exact .inr ⟨b,o,c,ex,cs,m,e1,h1 b h2,(hk b h2).trans h4,h5⟩
theorem cJ.len{Q:Nat→Prop}{sz n:Nat}{v:AV}{cl:Nat→List AV}{k:AV→Prop}(h:cJ S Q sz v n cl)(hk:k (.int 0 n)):cN v k:=by
 rcases h with⟨rfl,rfl⟩|⟨b,o,c,ex,cs,m,rfl,_⟩
 ·exact hk
 ·exact hk
theorem cJ.one{Q:Nat→Prop}{sz n:Nat}{v:AV}{cl:Nat→List AV}(h:cJ S Q sz v n cl):v.one=true:=by
 rcases h with⟨rfl,rfl⟩|⟨b,o,c,ex,cs,m,rfl,_⟩<;>rfl
theorem cJ.same{Q:Nat→Prop}{sz n:Nat}{v:AV}{cl:Nat→List AV}(h:cJ S Q sz v n cl):aT v v=true:=by
 rcases h with⟨rfl,rfl⟩|⟨b,o,c,ex,cs,m,rfl,_⟩
 ·rfl
 ·simp[aT]
theorem cJ.load{Q:Nat→Prop}{sz n:Nat}{v:AV}{cl:Nat→List AV}{i q:Nat}{k:AV→Prop}(h:cJ S Q sz v n cl)(hM:Mem H S)(hi':i<n)(hk:k (.agg (cl i))):dj sz v (.int q i) λp=>aQ sz p H k:=by
 rcases h with⟨rfl,rfl⟩|⟨b,o,c,ex,cs,m,rfl,h1,h3,h4,h5,h6⟩
 ·omega
 ·refine oe (by omega) (by omega) ?_;rw[Int.toNat_natCast];have hle:(i+1)*sz≤n*sz:=Nat.mul_le_mul_right _ (by omega);rw[Nat.add_mul,Nat.one_mul]at hle;refine oR hM h3 (by omega) ?_;rw[h6 i hi'];exact hk
theorem cJ.names{Q:Nat→Prop}{b m:Nat}{l:List (List Nat)}{ex:Bool}(hQ:Q b)(hb:S.ob b=.ce (l.map al) m):cJ S Q 1 (.slice b 0 l.length l.length 1 ex) l.length (λj=>[al (l[j]?.getD [])]):=
 .inr ⟨b,0,l.length,ex,l.map al,m,rfl,hQ,hb,Nat.le_refl _,by rw[List.length_map];omega,λj hj=>by
  show((l.map al).drop (0+j*1)).take 1=[al (l[j]?.getD [])];rw[Nat.zero_add,Nat.mul_one,List.drop_eq_getElem_cons (by rw[List.length_map];exact hj),List.getElem?_eq_getElem hj,Option.getD_some,List.getElem_map];rfl⟩
def ik(S:LS)(Q:Nat→Prop)(v:AV)(l:List (List Nat)):Prop:=cJ S Q 1 v l.length (λi=>[al (l[i]?.getD [])])∧∀t∈l,B8 t
mutual
inductive RE(S:LS)(Q:Nat→Prop):List AV→aE→Prop
 |mk (kind at_ n:Nat) (s:List Nat) (op:Nat) (l:List aE) (f:List cq) (vl vf:AV) (cl cf:Nat→List AV):B8 s→cJ S Q 7 vl l.length cl→(∀i e,l[i]? = some e→RE S Q (cl i) e)→cJ S Q 2 vf f.length cf→(∀i e,f[i]? = some e→RF S Q (cf i) e)→
   RE S Q [.int 0 kind,.int 0 at_,.int 0 n,al s,.int 0 op,vl,vf] (.mk kind at_ n s op l f)
inductive RF(S:LS)(Q:Nat→Prop):List AV→cq→Prop
 |mk (ps:List (List Nat)) (body:List aK) (vp vb:AV) (cb:Nat→List AV):ik S Q vp ps→cJ S Q 5 vb body.length cb→(∀i e,body[i]? = some e→eZ S Q (cb i) e)→RF S Q [vp,vb] (.mk ps body)
inductive eZ(S:LS)(Q:Nat→Prop):List AV→aK→Prop
 |mk (kind at_:Nat) (names:List (List Nat)) (l:List aE) (bs:List (List aK)) (vn vl vb:AV) (cl:Nat→List AV) (bv:Nat→AV) (bc:Nat→Nat→List AV):ik S Q vn names→cJ S Q 7 vl l.length cl→(∀i e,l[i]? = some e→RE S Q (cl i) e)→
   cJ S Q 1 vb bs.length (λi=>[bv i])→(∀i b,bs[i]? = some b→cJ S Q 5 (bv i) b.length (bc i))→(∀i b j s,bs[i]? = some b→b[j]? = some s→eZ S Q (bc i j) s)→
   eZ S Q [.int 0 kind,.int 0 at_,vn,vl,vb] (.mk kind at_ names l bs)
end
section
variable {Q Q':Nat→Prop}
theorem RE.go(hk:∀b,Q b→S'.ob b=S.ob b)(h1:∀b,Q b→Q' b){c:List AV}{e:aE}(h:RE S Q c e):RE S' Q' c e:=
 RE.rec (motive_1:=λc e _=>RE S' Q' c e) (motive_2:=λc e _=>RF S' Q' c e) (motive_3:=λc e _=>eZ S' Q' c e)
  (λkind at_ n s op l f vl vf cl cf g1 g2 _ g4 _ ih1 ih2=>.mk kind at_ n s op l f vl vf cl cf g1 (g2.go hk h1) ih1 (g4.go hk h1) ih2)
  (λps body vp vb cb g1 g2 _ ih=>.mk ps body vp vb cb ⟨g1.1.go hk h1,g1.2⟩ (g2.go hk h1) ih)
  (λkind at_ names l bs vn vl vb cl bv bc g1 g2 _ g4 g5 _ ih1 ih2=>.mk kind at_ names l bs vn vl vb cl bv bc ⟨g1.1.go hk h1,g1.2⟩ (g2.go hk h1) ih1 (g4.go hk h1) (λi b hb=>(g5 i b hb).go hk h1) ih2) h
theorem RF.go(hk:∀b,Q b→S'.ob b=S.ob b)(h1:∀b,Q b→Q' b){c:List AV}{e:cq}(h:RF S Q c e):RF S' Q' c e:=
 RF.rec (motive_1:=λc e _=>RE S' Q' c e) (motive_2:=λc e _=>RF S' Q' c e) (motive_3:=λc e _=>eZ S' Q' c e)
  (λkind at_ n s op l f vl vf cl cf g1 g2 _ g4 _ ih1 ih2=>.mk kind at_ n s op l f vl vf cl cf g1 (g2.go hk h1) ih1 (g4.go hk h1) ih2)
  (λps body vp vb cb g1 g2 _ ih=>.mk ps body vp vb cb ⟨g1.1.go hk h1,g1.2⟩ (g2.go hk h1) ih)
  (λkind at_ names l bs vn vl vb cl bv bc g1 g2 _ g4 g5 _ ih1 ih2=>.mk kind at_ names l bs vn vl vb cl bv bc ⟨g1.1.go hk h1,g1.2⟩ (g2.go hk h1) ih1 (g4.go hk h1) (λi b hb=>(g5 i b hb).go hk h1) ih2) h
theorem eZ.go(hk:∀b,Q b→S'.ob b=S.ob b)(h1:∀b,Q b→Q' b){c:List AV}{e:aK}(h:eZ S Q c e):eZ S' Q' c e:=
 eZ.rec (motive_1:=λc e _=>RE S' Q' c e) (motive_2:=λc e _=>RF S' Q' c e) (motive_3:=λc e _=>eZ S' Q' c e)
  (λkind at_ n s op l f vl vf cl cf g1 g2 _ g4 _ ih1 ih2=>.mk kind at_ n s op l f vl vf cl cf g1 (g2.go hk h1) ih1 (g4.go hk h1) ih2)
  (λps body vp vb cb g1 g2 _ ih=>.mk ps body vp vb cb ⟨g1.1.go hk h1,g1.2⟩ (g2.go hk h1) ih)
  (λkind at_ names l bs vn vl vb cl bv bc g1 g2 _ g4 g5 _ ih1 ih2=>.mk kind at_ names l bs vn vl vb cl bv bc ⟨g1.1.go hk h1,g1.2⟩ (g2.go hk h1) ih1 (g4.go hk h1) (λi b hb=>(g5 i b hb).go hk h1) ih2) h
theorem RE.len{c:List AV}{e:aE}(h:RE S Q c e):c.length=7:=by cases h;rfl
theorem RF.len{c:List AV}{e:cq}(h:RF S Q c e):c.length=2:=by cases h;rfl
theorem eZ.len{c:List AV}{e:aK}(h:eZ S Q c e):c.length=5:=by cases h;rfl
theorem ik.one{v:AV}{l:List (List Nat)}(h:ik S Q v l):v.one=true:=h.1.one
theorem RE.ones{c:List AV}{e:aE}(h:RE S Q c e):∀a∈c,a.one=true:=by
 cases h with
 |mk kind at_ n s op l f vl vf cl cf g1 g2 _ g4 _=>
  intro a ha;simp only[List.mem_cons,List.not_mem_nil,or_false]at ha;rcases ha with rfl|rfl|rfl|rfl|rfl|rfl|rfl<;>first|rfl|exact g2.one|exact g4.one
theorem RF.ones{c:List AV}{e:cq}(h:RF S Q c e):∀a∈c,a.one=true:=by
 cases h with
 |mk ps body vp vb cb g1 g2 _=>
  intro a ha;simp only[List.mem_cons,List.not_mem_nil,or_false]at ha;rcases ha with rfl|rfl
  ·exact g1.one
  ·exact g2.one
theorem eZ.ones{c:List AV}{e:aK}(h:eZ S Q c e):∀a∈c,a.one=true:=by
 cases h with
 |mk kind at_ names l bs vn vl vb cl bv bc g1 g2 _ g4 _ _=>
  intro a ha;simp only[List.mem_cons,List.not_mem_nil,or_false]at ha;rcases ha with rfl|rfl|rfl|rfl|rfl<;>first|rfl|exact g1.one|exact g2.one|exact g4.one
theorem Kt{c:List AV}(h:∀a∈c,aT a a=true):aT (.agg c) (.agg c)=true:=zu h
theorem RE.same{c:List AV}{e:aE}(h:RE S Q c e):aT (.agg c) (.agg c)=true:=by
 cases h with
 |mk kind at_ n s op l f vl vf cl cf g1 g2 _ g4 _=>
  refine Kt λa ha=>?_;simp only[List.mem_cons,List.not_mem_nil,or_false]at ha;rcases ha with rfl|rfl|rfl|rfl|rfl|rfl|rfl<;>first|exact ko _ _|exact qL _ _|exact g2.same|exact g4.same
end
structure Rep(α:Type) where
 rel:LS→(Nat→Prop)→List AV→α→Prop
 sz:Nat
 pos:0<sz
 go:∀{S S':LS}{Q Q':Nat→Prop}{c:List AV}{a:α},(∀b,Q b→S'.ob b=S.ob b)→(∀b,Q b→Q' b)→rel S Q c a→rel S' Q' c a
 len:∀{S:LS}{Q:Nat→Prop}{c:List AV}{a:α},rel S Q c a→c.length=sz
 ones:∀{S:LS}{Q:Nat→Prop}{c:List AV}{a:α},rel S Q c a→∀x∈c,x.one=true
def kA:Rep aE:=⟨RE,7,by omega,λh1 h2 h=>RE.go h1 h2 h,λh=>h.len,λh=>h.ones⟩
def aaS:Rep cq:=⟨RF,2,by omega,λh1 h2 h=>RF.go h1 h2 h,λh=>h.len,λh=>h.ones⟩
def wx:Rep aK:=⟨eZ,5,by omega,λh1 h2 h=>eZ.go h1 h2 h,λh=>h.len,λh=>h.ones⟩
def E9:Rep (List Nat):=⟨λ_ _ c t=>c=[al t]∧B8 t,1,by omega,λ_ _ h=>h,λh=>by rw[h.1];rfl,λh x hx=>by rw[h.1]at hx;simp at hx;subst hx;rfl⟩
def Aj:Rep (List aK):=⟨λS Q c b=>∃v bc,c=[v]∧cJ S Q 5 v b.length bc∧∀j s,b[j]? = some s→eZ S Q (bc j) s,1,by omega,
 λhk h1 ⟨v,bc,e,g1,g2⟩=>⟨v,bc,e,g1.go hk h1,λj s hs=>(g2 j s hs).go hk h1⟩,λ⟨v,bc,e,_⟩=>by rw[e];rfl,λ⟨v,bc,e,g1,_⟩ x hx=>by rw[e]at hx;simp at hx;subst hx;exact g1.one⟩
def eI(lo hi:Nat):Nat→Prop:=λb=>lo≤b∧b<hi
def cy{α:Type}(R:Rep α)(lo:Nat)(S:LS)(v:AV)(l:List α):Prop:=∃cl:List (List AV),eg S R.sz v l.length cl.flatten∧cl.length=l.length∧(∀b,bd v b→lo≤b)∧
 ∀(i:Nat) (c:List AV) (a:α),cl[i]? = some c→l[i]? = some a→∃Q,R.rel S Q c a∧∀b,Q b→lo≤b∧b<S.n∧¬bd v b
section
variable {α:Type}{R:Rep α}{lo:Nat}{v:AV}{l:List α}
theorem cy.nil(R:Rep α)(lo:Nat)(S:LS):cy R lo S .ab []:=⟨[],eg.nil _ _,rfl,λ_ h=>h.elim,λi c a h=>by simp at h⟩
theorem cy.keep(h:cy R lo S v l)(hM:Mem H S)(hn:S.n≤S'.n)(hk:∀b,lo≤b→b<S.n→S'.ob b=S.ob b):cy R lo S' v l:=by
 obtain⟨cl,h1,h2,h3,h4⟩:=h;refine⟨cl,h1.keep hM λb hb hlt=>hk b (h3 b hb) hlt,h2,h3,λi c a hc ha=>?_⟩;obtain⟨Q,g1,g2⟩:=h4 i c a hc ha;exact⟨Q,R.go (λb hb=>hk b (g2 b hb).1 (g2 b hb).2.1) (λ_ h=>h) g1,λb hb=>⟨(g2 b hb).1,Nat.lt_of_lt_of_le (g2 b hb).2.1 hn,(g2 b hb).2.2⟩⟩
theorem YG{cl:List (List AV)}{sz:Nat}(h:∀c∈cl,c.length=sz):∀{i:Nat}{c:List AV},cl[i]? = some c→(cl.flatten.drop (i*sz)).take sz=c:=by
 induction cl with
 |nil=>intro i c hc;simp at hc
 |cons d cl ih=>
  intro i c hc;have hd:=h d (by simp);cases i with
  |zero=>
   simp at hc;subst hc;rw[Nat.zero_mul,List.drop_zero,List.flatten_cons,←hd];exact List.take_left' rfl
  |succ i=>
   have:=ih (λx hx=>h x (by simp[hx])) (i:=i) (c:=c) (by simpa using hc);rw[List.flatten_cons,Nat.add_mul,Nat.one_mul,Nat.add_comm,←List.drop_drop,←hd,List.drop_left' rfl,hd];exact this
theorem cy.szs{cl:List (List AV)}(h4:∀(i:Nat) (c:List AV) (a:α),cl[i]? = some c→l[i]? = some a→∃Q,R.rel S Q c a∧∀b,Q b→lo≤b∧b<S.n∧¬bd v b)(hl:cl.length=l.length):∀c∈cl,c.length=R.sz:=λc hc=>by
 obtain⟨i,hi,e⟩:=List.mem_iff_getElem.1 hc;obtain⟨_,g,_⟩:=h4 i c (l[i]'(by omega)) (by rw[List.getElem?_eq_getElem hi,e]) (List.getElem?_eq_getElem _);exact R.len g
theorem cy.done(h:cy R lo S v l)(hM:Mem H S):∃cl,cJ S (eI lo S.n) R.sz v l.length cl∧∀i a,l[i]? = some a→R.rel S (eI lo S.n) (cl i) a:=by
 obtain⟨cl,h1,h2,h3,h4⟩:=h;have hsz:=cy.szs h4 h2;refine⟨λi=>cl[i]?.getD [],?_,λi a ha=>?_⟩
 ·rcases h1 with⟨rfl,e,_⟩|⟨b,c,ex,cs,rfl,g2,g3,g4,g5,g6,g7⟩
  ·exact .inl ⟨rfl,e⟩
  ·refine .inr ⟨b,0,c,ex,cs,0,rfl,⟨h3 b rfl,hM.lt (by rw[g2];simp)⟩,g2,g4,by rw[g3,Nat.zero_add];exact Nat.mul_le_mul_right _ g4,λi hi=>?_⟩;have hic:i<cl.length:=by omega
   have e1:=YG hsz (List.getElem?_eq_getElem hic);show(cs.drop (0+i*R.sz)).take R.sz=cl[i]?.getD [];rw[List.getElem?_eq_getElem hic,Option.getD_some,←e1,Nat.zero_add];have hle:(i+1)*R.sz≤l.length*R.sz:=Nat.mul_le_mul_right _ (by omega);rw[Nat.add_mul,Nat.one_mul]at hle
   conv=>rhs;rw[←g6]
   rw[List.drop_take,List.take_take,Nat.min_eq_left (by omega)]
 ·have hil:=(List.getElem?_eq_some_iff.1 ha).1;have hic:i<cl.length:=by omega
  obtain⟨Q,g1,g2⟩:=h4 i _ a (List.getElem?_eq_getElem hic) ha;show R.rel S (eI lo S.n) (cl[i]?.getD []) a;rw[List.getElem?_eq_getElem hic,Option.getD_some];exact R.go (λ_ _=>rfl) (λb hb=>⟨(g2 b hb).1,(g2 b hb).2.1⟩) g1
theorem cy.step{a:α}{c:List AV}{Q:Nat→Prop}{v':AV}(h:cy R lo S v l)(hr:R.rel S Q c a)(hQ:∀b,Q b→lo≤b∧b<S.n∧¬bd v b)(hlo:lo≤S.n)(hs:∀cl,eg S R.sz v l.length cl→sf S v (l.length+1) R.sz (cl++c) S' v'):cy R lo S' v' (l++[a]):=by
 obtain⟨cl,h1,h2,h3,h4⟩:=h;obtain⟨a1,a2,a3,a4⟩:=hs _ h1;refine⟨cl++[c],?_,by simp[h2],λb hb'=>?_,λi c' a' hc ha=>?_⟩
 ·rw[List.flatten_append,List.length_append];show eg S' R.sz v' (l.length+1) (cl.flatten++[c].flatten);have:[c].flatten=c:=by simp
  rw[this];exact a3
 ·rcases a4 b hb' with g|g
  ·exact h3 b g
  ·omega
 ·have fin:∀{Q:Nat→Prop}{c:List AV}{a:α},R.rel S Q c a→(∀b,Q b→lo≤b∧b<S.n∧¬bd v b)→∃Q,R.rel S' Q c a∧∀b,Q b→lo≤b∧b<S'.n∧¬bd v' b:=λ{Q c a} g1 g2=>
   ⟨Q,R.go (λb hb=>a2 b (g2 b hb).2.1 (g2 b hb).2.2) (λ_ h=>h) g1,λb hb=>⟨(g2 b hb).1,Nat.lt_of_lt_of_le (g2 b hb).2.1 a1,λhb'=>by
    rcases a4 b hb' with q|q
    ·exact(g2 b hb).2.2 q
    ·have:=(g2 b hb).2.1;omega⟩⟩
  by_cases hi:i<cl.length
  ·rw[List.getElem?_append_left hi]at hc;rw[List.getElem?_append_left (by omega)]at ha;obtain⟨Q,g1,g2⟩:=h4 i c' a' hc ha;exact fin g1 g2
  ·rw[List.getElem?_append_right (by omega)]at hc ha;have e0:i-cl.length=0:=by
    rcases Nat.eq_zero_or_pos (i-cl.length)with q|q
    ·exact q
    ·rw[List.getElem?_eq_none (by simp;omega)]at hc;cases hc
   have e1:i-l.length=0:=by omega
   rw[e0]at hc;rw[e1]at ha;simp at hc ha;subst hc;subst ha;exact fin hr hQ
end
end
def aD(X:Nat→Prop)(S S':LS):Prop:=S.n≤S'.n∧∀b,b<S.n→¬X b→S'.ob b=S.ob b
def cB:Nat→Prop:=λ_=>False
section
variable {X Y:Nat→Prop}{S S' zz:LS}{H:AH}
theorem aD.refl(X:Nat→Prop)(S:LS):aD X S S:=⟨Nat.le_refl _,λ_ _ _=>rfl⟩
theorem aD.trans(h:aD X S S')(g:aD X S' zz):aD X S zz:=⟨Nat.le_trans h.1 g.1,λb hb hx=>(g.2 b (Nat.lt_of_lt_of_le hb h.1) hx).trans (h.2 b hb hx)⟩
theorem aD.mono(h:aD X S S')(hxy:∀b,X b→Y b):aD Y S S':=⟨h.1,λb hb hx=>h.2 b hb λg=>hx (hxy b g)⟩
theorem aD.no(h:aD cB S S'):aD X S S':=h.mono λ_ g=>g.elim
theorem aD.push(h:aD X S S')(o:gi):aD X S (S'.push o):=⟨Nat.le_trans h.1 (Nat.le_succ _),λb hb hx=>by rw[LS.cj _ _ (Nat.lt_of_lt_of_le hb h.1)];exact h.2 b hb hx⟩
theorem aD.set(h:aD X S S'){b:Nat}(hb:X b∨S.n≤b)(o:gi):aD X S (S'.set b o):=⟨h.1,λc hc hx=>by
 rw[LS.aq _ _ λe=>by subst e;rcases hb with g|g;exact hx g;omega];exact h.2 c hc hx⟩
theorem aD.app{sz n:Nat}{v v':AV}{l:List AV}(h:aD X S S')(ha:sf S' v n sz l zz v')(hv:∀b,bd v b→X b∨S.n≤b):aD X S zz:=⟨Nat.le_trans h.1 ha.1,λb hb hx=>by
 rw[ha.2.1 b (Nat.lt_of_lt_of_le hb h.1) λg=>by rcases hv b g with q|q;exact hx q;omega];exact h.2 b hb hx⟩
end
structure Ctx where
 T:List Tok
 bp:Nat
 vT:AV
 pv:AV
 ok:kG T
 b8:∀t∈T,B8 t.text
 few:T.length≤100000
 ne:¬bd vT bp
structure bH(C:Ctx)(S:LS)(i d:Nat):Prop where
 ob:S.ob C.bp=.ce [C.vT,.int 0 (i:Int),.int 0 (d:Int),.int 0 0] 0
 tk:eg S 4 C.vT C.T.length (tcs C.T)
 lt:i<C.T.length
structure Ak(C:Ctx)(S:LS)(c i:Nat):Prop where
 ob:∃d:Int,S.ob C.bp=.ce [C.vT,.int 0 (i:Int),.int 0 d,.int 0 (c:Int)] 0
 tk:eg S 4 C.vT C.T.length (tcs C.T)
 lt:i<C.T.length
def Post{α:Type}(C:Ctx)(X:Nat→Prop)(d:Nat)(Rp:LS→(Nat→Prop)→AV→α→Prop)(K:KF)(S:LS)(r:bF α):Prop:=match r with
 |.ok a j=>∀H' S' v,Mem H' S'→aD X S S'→bH C S' j d→Rp S' (eI S.n S'.n) v a→K (.ret v) H'
 |.err c j=>∀H' S',Mem H' S'→aD X S S'→Ak C S' c j→K (.cZ C.pv) H'
 |.bW=>False
section
variable {C:Ctx}{X Y:Nat→Prop}{S S' S1:LS}{H:AH}{K:KF}{i d d1:Nat}{α β:Type}{jy:LS→(Nat→Prop)→AV→α→Prop}{YH:LS→(Nat→Prop)→AV→β→Prop}
theorem bH.eJ(h:bH C S i d)(hM:Mem H S):C.bp<S.n:=hM.lt (by rw[h.ob];simp)
theorem bH.keep(h:bH C S i d)(hM:Mem H S)(hc:aD X S S')(h1:¬X C.bp)(h2:∀b,bd C.vT b→¬X b):bH C S' i d:=
 ⟨(hc.2 C.bp (h.eJ hM) h1).trans h.ob,h.tk.keep hM λb hb hlt=>hc.2 b hlt (h2 b hb),h.lt⟩
theorem bH.no(h:bH C S i d)(hM:Mem H S)(hc:aD cB S S'):bH C S' i d:=h.keep hM hc (λg=>g) λ_ _ g=>g
theorem bH.iw{S0:LS}{H0:AH}{i0 d0:Nat}(h:bH C S i d)(h0:bH C S0 i0 d0)(hM0:Mem H0 S0){b:Nat}(hb:S0.n≤b)(o:gi):bH C (S.set b o) i d:=
 ⟨(LS.aq _ _ (by have:=h0.eJ hM0;omega)).trans h.ob,by
  have hv:=h0.tk;rcases h.tk with g|⟨b',c,ex,cs,g1,g2,g3⟩
  ·exact .inl g
  ·refine .inr ⟨b',c,ex,cs,g1,?_,g3⟩;have:b'<S0.n:=hv.lt hM0 (by rw[g1];rfl);rw[LS.aq _ _ (by omega)];exact g2,h.lt⟩
theorem bH.set(h:bH C S i d){j e:Nat}(hj:j<C.T.length):bH C (S.set C.bp (.ce [C.vT,.int 0 (j:Int),.int 0 (e:Int),.int 0 0] 0)) j e:=
 ⟨LS.ay _ _ _,by
  rcases h.tk with g|⟨b,c,ex,cs,g1,g2,g3⟩
  ·exact .inl g
  ·refine .inr ⟨b,c,ex,cs,g1,?_,g3⟩;rw[LS.aq _ _ λe=>C.ne (by rw[g1,←e];rfl)];exact g2,hj⟩
theorem bH.err(h:bH C S i d){c:Nat}{e:Int}:Ak C (S.set C.bp (.ce [C.vT,.int 0 (i:Int),.int 0 e,.int 0 (c:Int)] 0)) c i:=
 ⟨⟨e,LS.ay _ _ _⟩,by
  rcases h.tk with g|⟨b,c,ex,cs,g1,g2,g3⟩
  ·exact .inl g
  ·refine .inr ⟨b,c,ex,cs,g1,?_,g3⟩;rw[LS.aq _ _ λe=>C.ne (by rw[g1,←e];rfl)];exact g2,h.lt⟩
theorem jJ(K:KF)(v:AV)(H:AH)(k:AV→Prop):cR K (.cZ v) H k=K (.cZ v) H:=rfl
theorem Post.call{r1:bF α}{f:α→Nat→bF β}(h:Post C X d YH K S (r1.bind f))(hx:aD X S S1)(hX:∀b,Y b→X b){k:AV→AH→Prop}
  (hk:∀a j H' S' v,Mem H' S'→aD Y S1 S'→bH C S' j d1→jy S' (eI S1.n S'.n) v a→Post C X d YH K S (f a j)→k v H'):Post C Y d1 jy (λo H=>cR K o H λv=>k v H) S1 r1:=by
 cases r1 with
 |ok a j=>exact λH' S' v m c p q=>hk a j H' S' v m c p q h
 |err c j=>exact λH' S' m ch p=>h H' S' m (hx.trans (ch.mono hX)) p
 |bW=>exact h
theorem YI{T:List Tok}{i:Nat}(h:i<T.length):∃t,T[i]? = some t∧bC T i=t.kind∧dO T i=t.text∧aW T i=t.pos∧nk T i=t.n:=by
 refine⟨T[i],List.getElem?_eq_getElem h,?_⟩;unfold bC dO aW nk;rw[List.getElem?_eq_getElem h];exact⟨rfl,rfl,rfl,rfl⟩
theorem rJ(C:Ctx)(i:Nat):B8 (dO C.T i):=by
 unfold dO;split
 ·rename_i t h;exact C.b8 t (List.mem_of_getElem? h)
 ·exact B8.nil
def eW(T:List Tok)(i:Nat):List AV:=[.int 0 (bC T i:Int),al (dO T i),.int 0 (nk T i:Int),.int 0 (aW T i:Int)]
theorem Al{T:List Tok}{i:Nat}(h:i<T.length):((tcs T).drop (i*4)).take 4=eW T i:=by
 obtain⟨t,h1,h2,h3,h4,h5⟩:=YI h;rw[Mq h1];unfold eW;rw[h2,h3,h4,h5];rfl
end
def kE(S:LS)(Q:Nat→Prop)(v:AV)(e:aE):Prop:=∃c,v=.agg c∧RE S Q c e
def C5(S:LS)(Q:Nat→Prop)(v:AV)(e:aK):Prop:=∃c,v=.agg c∧eZ S Q c e
def mD(_:LS)(_:Nat→Prop)(v:AV)(_:Unit):Prop:=v=.bD []
def rvN(_:LS)(_:Nat→Prop)(v:AV)(t:List Nat):Prop:=v=al t∧B8 t
def gS(S:LS)(Q:Nat→Prop)(v:AV)(l:List aE):Prop:=∃cl,cJ S Q 7 v l.length cl∧∀i e,l[i]? = some e→RE S Q (cl i) e
def dY(S:LS)(Q:Nat→Prop)(v:AV)(l:List aK):Prop:=∃cl,cJ S Q 5 v l.length cl∧∀i e,l[i]? = some e→eZ S Q (cl i) e
section
variable {C:Ctx}{X Y:Nat→Prop}{S S' S1:LS}{H:AH}{K:KF}{i d d1:Nat}{α β:Type}{Rp jy:LS→(Nat→Prop)→AV→α→Prop}
theorem Post.tail{r:bF α}(h:Post C X d Rp K S r)(hx:aD X S S1)(hX:∀b,Y b→X b){k:AV→AH→Prop}
  (hk:∀a j H' S' v,Mem H' S'→aD Y S1 S'→bH C S' j d1→jy S' (eI S1.n S'.n) v a→(∀H'' zz w,Mem H'' zz→aD X S zz→bH C zz j d→Rp zz (eI S.n zz.n) w a→K (.ret w) H'')→k v H'):Post C Y d1 jy (λo H=>cR K o H λv=>k v H) S1 r:=by
 cases r with
 |ok a j=>exact λH' S' v m c p q=>hk a j H' S' v m c p q h
 |err c j=>exact λH' S' m ch p=>h H' S' m (hx.trans (ch.mono hX)) p
 |bW=>exact h
theorem aD.iW(h:aD X S S1)(g:aD Y S1 S')(hy:∀b,Y b→X b∨S.n≤b):aD X S S':=⟨Nat.le_trans h.1 g.1,λb hb hx=>(g.2 b (Nat.lt_of_lt_of_le hb h.1) λq=>by
 rcases hy b q with w|w
 ·exact hx w
 ·omega).trans (h.2 b hb hx)⟩
theorem aD.ob{b:Nat}{c:List AV}{m:Nat}(g:aD Y S S')(hM:Mem H S)(hb:S.ob b=.ce c m)(hy:¬Y b):S'.ob b=.ce c m:=(g.2 b (hM.lt (by rw[hb];simp)) hy).trans hb
theorem gq:∀{l:List AV}{n:Nat}{x:Prop},l.length=n→x→hH l n x
 |[],0,x,_,hx=>hx
 |a::l,n+1,x,h,hx=>gq (l:=l) (n:=n) (by simpa using h) hx
theorem fO(l:List AV)(k:List AV→Prop):onVal (.agg l) k=k l:=rfl
theorem wy{l z:List AV}(hl:l.length=7)(hz:z.length=7):spl l z 0=l:=by
 match l,hl,z,hz with
 |[a,b,c,d,e,f,g],_,[_,_,_,_,_,_,_],_=>rfl
theorem R7{l k z:List AV}(hl:l.length=7)(hk:k.length=7)(hz:z.length=14):spl k (spl l z 0) 7=l++k:=by
 match l,hl,k,hk,z,hz with
 |[_,_,_,_,_,_,_],_,[_,_,_,_,_,_,_],_,[_,_,_,_,_,_,_,_,_,_,_,_,_,_],_=>rfl
theorem agO{l z:List AV}(hl:l.length=5)(hz:z.length=5):spl l z 0=l:=by
 match l,hl,z,hz with
 |[a,b,c,d,e],_,[_,_,_,_,_],_=>rfl
theorem iX{v:AV}{x:Prop}(h:v.one=true)(hx:x):one v x:=by
 unfold one;exact cv h hx
end
theorem gD.ahL{l:List Nat}{k:Nat}{t:List Nat}{v j:Nat}(h:gD l k t v j):k≠0:=by cases h<;>decide
theorem dn.ends{l:List Nat}{p:Nat}{r:List Tok ⊕ Nat}(h:dn l p r):∀ts,r=.inl ts→∃a q,ts=a++[⟨0,[],0,q⟩]∧∀t∈a,t.kind≠0:=by
 induction h with
 |nil p=>intro ts e;cases e;exact⟨[],p,rfl,λt h=>by simp at h⟩
 |blank c l p r _ _ ih=>exact ih
 |remark l p r _ ih=>exact ih
 |wrong=>intro ts e;cases e
 |tok c l p k t n j ts _ _ ht _ ih=>
  intro ts' e;cases e;obtain⟨a,q,e,h⟩:=ih ts rfl;refine⟨⟨k,t,n,p⟩::a,q,by rw[e];rfl,λx hx=>?_⟩;rcases List.mem_cons.1 hx with rfl|hx
  ·exact ht.ahL
  ·exact h x hx
 |bad=>intro ts e;cases e
theorem dn.b8{l:List Nat}{p:Nat}{r:List Tok ⊕ Nat}(h:dn l p r):B8 l→∀ts,r=.inl ts→∀t∈ts,B8 t.text:=by
 induction h with
 |nil p=>intro _ ts e t ht;cases e;simp at ht;subst ht;exact B8.nil
 |blank c l p r _ _ ih=>exact λh8=>ih h8.tl
 |remark l p r _ ih=>exact λh8=>ih (h8.drop _)
 |wrong=>intro _ ts e;cases e
 |tok c l p k t n j ts _ _ ht _ ih=>
  intro h8 ts' e;cases e;intro x hx;rcases List.mem_cons.1 hx with rfl|hx
  ·exact ht.b8 h8
  ·exact ih (h8.drop _) ts rfl x hx
 |bad=>intro _ ts e;cases e
theorem dn.qW{l:List Nat}{p:Nat}{ts:List Tok}(h:dn l p (.inl ts)):kG ts:=by
 obtain⟨a,q,e,ha⟩:=h.ends ts rfl;subst e;refine⟨by simp,λi hi hk=>?_⟩;rw[List.length_append,List.length_singleton]at hi ⊢;rcases Nat.lt_or_ge i a.length with g|g
 ·omega
 ·exfalso;have e:i=a.length:=by omega
  subst e;apply hk;unfold bC;rw[List.getElem?_append_right (Nat.le_refl _),Nat.sub_self];rfl
def fC(T:List Tok):bF (List aK):=(cz T (64*T.length+64) 0 0).bind λb j=>if bC T j=0 then .ok b j else .err 14 j
theorem wz{T:List Tok}(hT:kG T):fC T≠.bW:=by
 have h:=(Ks hT (64*T.length+64)).block 0 0 hT.1 (by omega);unfold fC;cases e:cz T (64*T.length+64) 0 0 with
 |bW=>rw[e]at h;exact h.elim
 |err c i=>intro q;cases q
 |ok b j=>
  show(if bC T j=0 then bF.ok b j else .err 14 j)≠.bW;split<;>intro q<;>cases q
theorem wA{T:List Tok}(hT:kG T):∀b j,cz T (64*T.length+64) 0 0=.ok b j→j<T.length:=λb j e=>by
 have h:=(Ks hT (64*T.length+64)).block 0 0 hT.1 (by omega);rw[e]at h;exact h.2
def lA(r:List Tok ⊕ Nat):List aK ⊕ Nat×Nat:=match r with
 |.inr e=>.inr (14,e)
 |.inl ts=>(match fC ts with
  |.ok b _=>.inl b
  |.err c i=>.inr (c,aW ts i)
  |.bW=>.inl [])
def ScP(K:KF)(S0:LS)(r:List aK ⊕ Nat×Nat):Prop:=match r with
 |.inl b=>∀H' S' v,Mem H' S'→Ext S0 S'→dY S' (eI S0.n S'.n) v b→K (.ret (.bD [v,.int 0 0,.int 0 0])) H'
 |.inr (c,p)=>∀H' S',Mem H' S'→Ext S0 S'→K (.ret (.bD [.ab,.int 0 (c:Int),.int 0 (p:Int)])) H'
def LxQ(K:KF)(S0:LS)(r:List Tok ⊕ Nat):Prop:=match r with
 |.inl ts=>∀H' S' v',Mem H' S'→Ext S0 S'→eg S' 4 v' ts.length (tcs ts)→(∀b,bd v' b→S0.n≤b)→K (.ret (.bD [v',.int 0 0,.int 0 0])) H'
 |.inr e=>∀H' S',Mem H' S'→Ext S0 S'→K (.ret (.bD [.ab,.int 0 14,.int 0 (e:Int)])) H'
theorem dY.go{S S':LS}{Q Q':Nat→Prop}{v:AV}{l:List aK}(h:dY S Q v l)(hk:∀b,Q b→S'.ob b=S.ob b)(h1:∀b,Q b→Q' b):dY S' Q' v l:=by
 obtain⟨cl,g1,g2⟩:=h;exact⟨cl,g1.go hk h1,λi e he=>(g2 i e he).go hk h1⟩
theorem eg.one'{S:LS}{sz n:Nat}{v:AV}{l:List AV}(h:eg S sz v n l):v.one=true:=by
 rcases h with⟨rfl,_⟩|⟨b,c,ex,cs,rfl,_⟩<;>rfl
theorem YJ{u:Nat}{z v:AV}{k:AV→Prop}(h:k (.bD [v,.bool true])):ur u z true (.iface u v) k:=by
 show bI (Nat.beq u u) (bI true (k (.bD [v,.bool true])) (k v)) (bT true (k (.bD [z,.bool false])));rw[Nat.beq_refl];exact h
theorem YK{u:Nat}{z:AV}{k:AV→Prop}(h:k (.bD [z,.bool false])):ur u z true .dZ k:=h
theorem aD.ext{S S':LS}(h:aD cB S S'):Ext S S':=⟨h.1,λb hb=>h.2 b hb λq=>q⟩
theorem Ext.chg{X:Nat→Prop}{S S':LS}(h:Ext S S'):aD X S S':=⟨h.n,λb hb _=>h.ob b hb⟩
section
mutual
def aE.sz:aE→Nat
 |.mk _ _ _ _ _ l f=>1+db l+jA f
def db:List aE→Nat
 |[]=>0
 |e::l=>e.sz+db l
def cq.sz:cq→Nat
 |.mk ps b=>1+ps.length+gb b
def jA:List cq→Nat
 |[]=>0
 |f::l=>f.sz+jA l
def aK.sz:aK→Nat
 |.mk _ _ ns l bs=>1+ns.length+db l+gd bs
def gb:List aK→Nat
 |[]=>0
 |s::l=>s.sz+gb l
def gd:List (List aK)→Nat
 |[]=>0
 |b::l=>1+gb b+gd l
end
theorem np:∀a b:List aE,db (a++b)=db a+db b
 |[],b=>by simp[db]
 |e::a,b=>by rw[List.cons_append,db,db,np a b];omega
theorem Am:∀a b:List aK,gb (a++b)=gb a+gb b
 |[],b=>by simp[gb]
 |e::a,b=>by rw[List.cons_append,gb,gb,Am a b];omega
theorem wB:∀a b:List (List aK),gd (a++b)=gd a+gd b
 |[],b=>by simp[gd]
 |e::a,b=>by rw[List.cons_append,gd,gd,wB a b];omega
theorem aS{α β:Type}{r:bF α}{f:α→Nat→bF β}{b:β}{j:Nat}(h:r.bind f=.ok b j):∃a i,r=.ok a i∧f a i=.ok b j:=by
 cases r with
 |ok a i=>exact⟨a,i,rfl,h⟩
 |err c i=>cases h
 |bW=>cases h
theorem cU{α:Type}{a b:α}{i j:Nat}(h:(bF.ok a i:bF α)=.ok b j):a=b∧i=j:=by cases h;exact⟨rfl,rfl⟩
variable {T:List Tok}
theorem ff{s:List Nat}{i j:Nat}{u:Unit}(h:cC T s i=.ok u j):j=i+1:=by
 unfold cC at h;split at h
 ·cases h;rfl
 ·cases h
theorem rK{i j:Nat}{t:List Nat}(h:gY T i=.ok t j):j=i+1:=by
 unfold gY at h;split at h
 ·cases h;rfl
 ·cases h
structure Sz(T:List Tok)(n:Nat):Prop where
 exp:∀{i d e j},de T n i d=.ok e j→e.sz+3+4*i≤4*j
 either:∀{i d e j},dx T n i d=.ok e j→e.sz+3+4*i≤4*j
 ae:∀{e0 i d e j},df T n e0 i d=.ok e j→e.sz+4*i≤e0.sz+4*j
 both:∀{i d e j},fu T n i d=.ok e j→e.sz+3+4*i≤4*j
 au:∀{e0 i d e j},eF T n e0 i d=.ok e j→e.sz+4*i≤e0.sz+4*j
 test:∀{i d e j},fw T n i d=.ok e j→e.sz+3+4*i≤4*j
 av:∀{e0 i d e j},eG T n e0 i d=.ok e j→e.sz+4*i≤e0.sz+4*j
 join:∀{i d e j},fi T n i d=.ok e j→e.sz+3+4*i≤4*j
 sum:∀{i d e j},ig T n i d=.ok e j→e.sz+3+4*i≤4*j
 aI:∀{e0 i d e j},fT T n e0 i d=.ok e j→e.sz+4*i≤e0.sz+4*j
 term:∀{i d e j},fx T n i d=.ok e j→e.sz+3+4*i≤4*j
 aw:∀{e0 i d e j},eH T n e0 i d=.ok e j→e.sz+4*i≤e0.sz+4*j
 unary:∀{i d e j},dN T n i d=.ok e j→e.sz+3+4*i≤4*j
 post:∀{i d e j},fj T n i d=.ok e j→e.sz+3+4*i≤4*j
 an:∀{e0 i d e j},dI T n e0 i d=.ok e j→e.sz+4*i≤e0.sz+4*j
 args:∀{b out i d l j},cT T n b out i d=.ok l j→db l+4*i+1≤db out+4*j
 simple:∀{i d e j},dc T n i d=.ok e j→e.sz+3+4*i≤4*j
 table:∀{out c a i d e j},dh T n out c a i d=.ok e j→e.sz+3+4*i≤db out+4*j
 field:∀{c i d l j},dJ T n c i d=.ok l j→db l.1+4*i≤4*j
 body:∀{a i d e j},fy T n a i d=.ok e j→e.sz+3+4*i≤4*j
 params:∀{b out i l j},cG T n b out i=.ok l j→l.length+4*i+3≤out.length+4*j
 block:∀{i d b j},cz T n i d=.ok b j→gb b+4*i≤4*j
 aM:∀{out i d b j},bG T n out i d=.ok b j→gb b+4*i≤gb out+4*j
 stat:∀{i d s j},eY T n i d=.ok s j→s.sz+4*i≤4*j
 ah:∀{a i d s j},ep T n a i d=.ok s j→s.sz+4*i≤4*j
 aj:∀{a i d s j},fe T n a i d=.ok s j→s.sz+4*i≤4*j
 af:∀{a i d s j},dR T n a i d=.ok s j→s.sz+4*i≤4*j
 do_:∀{a i d s j},kV T n a i d=.ok s j→s.sz+4*i≤4*j
 aH:∀{a i d s j},dS T n a i d=.ok s j→s.sz+4*i≤1+4*j
 plain:∀{a i d s j},ey T n a i d=.ok s j→s.sz+4*i≤4*j
 choice:∀{a l bs i d s j},cO T n a l bs i d=.ok s j→s.sz+4*i≤db l+gd bs+4*j
 for_:∀{a i d s j},ij T n a i d=.ok s j→s.sz+4*i≤4*j
 ai:∀{k a ns l i d s j},dy T n k a ns l i d=.ok s j→s.sz+4*i≤ns.length+db l+4*j
theorem C6(kind op at_:Nat)(a b:aE):(dU kind op at_ a b).sz=1+a.sz+b.sz:=by
 unfold dU;simp only[aE.sz,db,jA];omega
theorem vx{r:bF aE}{q:aE→Nat→bF aE}{i j:Nat}{e:aE}(h1:∀{e j},r=.ok e j→e.sz+3+4*i≤4*j)(h2:∀{e0 k e j},q e0 k=.ok e j→e.sz+4*k≤e0.sz+4*j)
  (h:r.bind q=.ok e j):e.sz+3+4*i≤4*j:=by
 obtain⟨a,k,g1,g2⟩:=aS h;have:=h1 g1;have:=h2 g2;omega
theorem vy{r:bF aE}{q:aE→Nat→bF aE}{i j kind op at_:Nat}{e e0:aE}(h1:∀{e j},r=.ok e j→e.sz+3+4*(i+1)≤4*j)(h2:∀{e0 k e j},q e0 k=.ok e j→e.sz+4*k≤e0.sz+4*j)
  (h:(r.bind λb j=>q (dU kind op at_ e0 b) j)=.ok e j):e.sz+4*i≤e0.sz+4*j:=by
 obtain⟨a,k,g1,g2⟩:=aS h;have:=h1 g1;have:=h2 g2;rw[C6]at this;omega
theorem sz0:Sz T 0:=by
 constructor<;>intros<;>rename_i h<;>first
  |(simp only[de]at h;cases h)|(simp only[dx]at h;cases h)|(simp only[df]at h;cases h)|(simp only[fu]at h;cases h)|(simp only[eF]at h;cases h)|(simp only[fw]at h;cases h)|(simp only[eG]at h;cases h)
  |(simp only[fi]at h;cases h)|(simp only[ig]at h;cases h)|(simp only[fT]at h;cases h)|(simp only[fx]at h;cases h)|(simp only[eH]at h;cases h)|(simp only[dN]at h;cases h)|(simp only[fj]at h;cases h)|(simp only[dI]at h;cases h)
  |(simp only[cT]at h;cases h)|(simp only[dc]at h;cases h)|(simp only[dh]at h;cases h)|(simp only[dJ]at h;cases h)|(simp only[fy]at h;cases h)|(simp only[cG]at h;cases h)|(simp only[cz]at h;cases h)|(simp only[bG]at h;cases h)
  |(simp only[eY]at h;cases h)|(simp only[ep]at h;cases h)|(simp only[fe]at h;cases h)|(simp only[dR]at h;cases h)|(simp only[kV]at h;cases h)|(simp only[dS]at h;cases h)|(simp only[ey]at h;cases h)|(simp only[cO]at h;cases h)|(simp only[ij]at h;cases h)|(simp only[dy]at h;cases h)
theorem szS{n:Nat}(F:Sz T n):Sz T (n+1) where
 exp h:=by
  simp only[de]at h;split at h
  ·cases h
  ·exact F.either h
 either h:=by simp only[dx]at h;exact vx F.both F.ae h
 ae h:=by
  simp only[df]at h;split at h
  ·exact vy F.both F.ae h
  ·obtain⟨rfl,rfl⟩:=cU h;omega
 both h:=by simp only[fu]at h;exact vx F.test F.au h
 au h:=by
  simp only[eF]at h;split at h
  ·exact vy F.test F.au h
  ·obtain⟨rfl,rfl⟩:=cU h;omega
 test h:=by simp only[fw]at h;exact vx F.join F.av h
 av h:=by
  simp only[eG]at h;split at h
  ·obtain⟨rfl,rfl⟩:=cU h;omega
  ·exact vy F.join F.av h
 join h:=by
  simp only[fi]at h;obtain⟨a,k,g1,h⟩:=aS h;have:=F.sum g1;split at h
  ·split at h
   ·cases h
   ·obtain⟨b,k2,g2,h⟩:=aS h;have:=F.join g2;obtain⟨rfl,rfl⟩:=cU h;rw[C6];omega
  ·obtain⟨rfl,rfl⟩:=cU h;omega
 sum h:=by simp only[ig]at h;exact vx F.term F.aI h
 aI h:=by
  simp only[fT]at h;split at h
  ·obtain⟨rfl,rfl⟩:=cU h;omega
  ·exact vy F.term F.aI h
 term h:=by simp only[fx]at h;exact vx F.unary F.aw h
 aw h:=by
  simp only[eH]at h;split at h
  ·obtain⟨rfl,rfl⟩:=cU h;omega
  ·exact vy F.unary F.aw h
 unary h:=by
  simp only[dN]at h;split at h
  ·exact F.post h
  split at h
  ·cases h
  ·obtain⟨a,k,g1,h⟩:=aS h;have:=F.unary g1;obtain⟨rfl,rfl⟩:=cU h;simp only[aE.sz,db,jA];omega
 post h:=by
  simp only[fj]at h;split at h
  ·exact vx F.simple F.an h
  ·exact F.simple h
 an h:=by
  simp only[dI]at h;split at h
  ·obtain⟨a,k,g1,h⟩:=aS h;have:=rK g1;have:=F.an h;rw[C6]at this;simp only[aE.sz,db,jA]at this;omega
  split at h
  ·obtain⟨a,k,g1,h⟩:=aS h;obtain⟨b,k2,g2,h⟩:=aS h;have:=F.exp g1;have:=ff g2;have:=F.an h;rw[C6]at this;omega
  split at h
  ·obtain⟨a,k,g1,h⟩:=aS h;have:=F.args g1;have:=F.an h;simp only[aE.sz,db,jA]at *;omega
  ·obtain⟨rfl,rfl⟩:=cU h;omega
 args {b out i d l j} h:=by
  cases b
  all_goals
   simp only[cT,Bool.false_eq_true,↓reduceIte]at h;split at h
   ·split at h
    ·cases h
    ·obtain⟨a,k,g1,h⟩:=aS h;have:=F.exp g1;have:=F.args h;rw[np]at this;simp only[db]at this;omega
   ·obtain⟨a,k,g1,h⟩:=aS h;have:=ff g1;obtain⟨rfl,rfl⟩:=cU h;omega
 simple h:=by
  simp only[dc]at h;split at h
  ·obtain⟨rfl,rfl⟩:=cU h;simp only[aE.sz,db,jA];omega
  split at h
  ·obtain⟨rfl,rfl⟩:=cU h;simp only[aE.sz,db,jA];omega
  split at h
  ·obtain⟨rfl,rfl⟩:=cU h;simp only[aE.sz,db,jA];omega
  split at h
  ·obtain⟨rfl,rfl⟩:=cU h;simp only[aE.sz,db,jA];omega
  split at h
  ·have:=F.body h;omega
  split at h
  ·have:=F.table h;simp only[db]at this;omega
  split at h
  ·obtain⟨a,k,g1,h⟩:=aS h;obtain⟨b,k2,g2,h⟩:=aS h;have:=F.exp g1;have:=ff g2;obtain⟨rfl,rfl⟩:=cU h;omega
  ·cases h
 table h:=by
  simp only[dh]at h;split at h
  ·obtain⟨rfl,rfl⟩:=cU h;simp only[aE.sz,db,jA];omega
  split at h
  ·cases h
  obtain⟨a,k,g1,h⟩:=aS h;have:=F.field g1;split at h
  ·have:=F.table h;rw[np]at this;omega
  ·obtain⟨b,k2,g2,h⟩:=aS h;have:=ff g2;obtain⟨rfl,rfl⟩:=cU h;simp only[aE.sz,jA,np];omega
 field h:=by
  simp only[dJ]at h;split at h
  ·obtain⟨a,k,g1,h⟩:=aS h;obtain⟨b,k2,g2,h⟩:=aS h;obtain⟨b3,k3,g3,h⟩:=aS h;obtain⟨b4,k4,g4,h⟩:=aS h;have:=F.exp g1;have:=ff g2;have:=ff g3;have:=F.exp g4;obtain⟨rfl,rfl⟩:=cU h;simp only[db];omega
  split at h
  ·obtain⟨a,k,g1,h⟩:=aS h;have:=F.exp g1;obtain⟨rfl,rfl⟩:=cU h;simp only[aE.sz,db,jA];omega
  ·obtain⟨a,k,g1,h⟩:=aS h;have:=F.exp g1;obtain⟨rfl,rfl⟩:=cU h;simp only[aE.sz,db,jA];omega
 body h:=by
  simp only[fy]at h;obtain⟨a,k,g1,h⟩:=aS h;obtain⟨b,k2,g2,h⟩:=aS h;obtain⟨b3,k3,g3,h⟩:=aS h;obtain⟨b4,k4,g4,h⟩:=aS h;have:=ff g1;have:=F.params g2;have:=F.block g3;have:=ff g4;obtain⟨rfl,rfl⟩:=cU h;simp only[aE.sz,cq.sz,db,jA]at *;simp only[List.length_nil]at *;omega
 params {b out i l j} h:=by
  cases b
  all_goals
   simp only[cG,Bool.false_eq_true,↓reduceIte]at h;split at h
   ·split at h
    ·cases h
    ·obtain⟨a,k,g1,h⟩:=aS h;have:=rK g1;have:=F.params h;rw[List.length_append,List.length_singleton]at this;omega
   ·obtain⟨a,k,g1,h⟩:=aS h;have:=ff g1;obtain⟨rfl,rfl⟩:=cU h;omega
 block h:=by
  simp only[cz]at h;split at h
  ·cases h
  ·have:=F.aM h;simp only[gb]at this;omega
 aM h:=by
  simp only[bG]at h;split at h
  ·obtain⟨rfl,rfl⟩:=cU h;omega
  obtain⟨a,k,g1,h⟩:=aS h;have:=F.stat g1;split at h
  ·cases h
  ·have:=F.aM h;rw[Am]at this;simp only[gb]at this;unfold iv at this;split at this<;>omega
 stat h:=by
  simp only[eY]at h;split at h
  ·have:=F.ah h;omega
  split at h
  ·have:=F.choice h;simp only[db,gd]at this;omega
  split at h
  ·have:=F.aj h;omega
  split at h
  ·have:=F.af h;omega
  split at h
  ·have:=F.for_ h;omega
  split at h
  ·obtain⟨rfl,rfl⟩:=cU h;simp only[aK.sz,db,gd,List.length_nil];omega
  split at h
  ·have:=F.do_ h;omega
  split at h
  ·have:=F.aH h;omega
  split at h
  ·exact F.plain h
  ·cases h
 ah h:=by
  simp only[ep]at h;split at h
  ·obtain⟨a,k,g1,h⟩:=aS h;obtain⟨b,k2,g2,h⟩:=aS h;have:=rK g1;have:=F.body g2;obtain⟨rfl,rfl⟩:=cU h;simp only[aK.sz,db,gd,List.length_cons,List.length_nil];omega
  ·obtain⟨a,k,g1,h⟩:=aS h;have:=rK g1;split at h
   ·obtain⟨b,k2,g2,h⟩:=aS h;have:=F.exp g2;obtain⟨rfl,rfl⟩:=cU h;simp only[aK.sz,db,gd,List.length_cons,List.length_nil];omega
   ·obtain⟨rfl,rfl⟩:=cU h;simp only[aK.sz,db,gd,List.length_cons,List.length_nil];omega
 aj h:=by
  simp only[fe]at h;obtain⟨a,k,g1,h⟩:=aS h;obtain⟨b,k2,g2,h⟩:=aS h;obtain⟨b3,k3,g3,h⟩:=aS h;obtain⟨b4,k4,g4,h⟩:=aS h;have:=F.exp g1;have:=ff g2;have:=F.block g3;have:=ff g4;obtain⟨rfl,rfl⟩:=cU h;simp only[aK.sz,db,gd,List.length_nil];omega
 af h:=by
  simp only[dR]at h;obtain⟨a,k,g1,h⟩:=aS h;obtain⟨b,k2,g2,h⟩:=aS h;obtain⟨b3,k3,g3,h⟩:=aS h;have:=F.block g1;have:=ff g2;have:=F.exp g3;obtain⟨rfl,rfl⟩:=cU h;simp only[aK.sz,db,gd,List.length_nil];omega
 do_ h:=by
  simp only[kV]at h;obtain⟨a,k,g1,h⟩:=aS h;obtain⟨b,k2,g2,h⟩:=aS h;have:=F.block g1;have:=ff g2;obtain⟨rfl,rfl⟩:=cU h;simp only[aK.sz,db,gd,List.length_nil];omega
 aH h:=by
  simp only[dS]at h;split at h
  ·obtain⟨rfl,rfl⟩:=cU h;simp only[aK.sz,db,gd,List.length_nil];omega
  ·obtain⟨a,k,g1,h⟩:=aS h;have:=F.exp g1;obtain⟨rfl,rfl⟩:=cU h;simp only[aK.sz,db,gd,List.length_nil];omega
 plain h:=by
  simp only[ey]at h;obtain⟨a,k,g1,h⟩:=aS h;have:=F.post g1;split at h
  ·obtain⟨rfl,rfl⟩:=cU h;simp only[aK.sz,db,gd,List.length_nil];omega
  ·obtain⟨b,k2,g2,h⟩:=aS h;obtain⟨b3,k3,g3,h⟩:=aS h;have:=ff g2;have:=F.exp g3;obtain⟨rfl,rfl⟩:=cU h;simp only[aK.sz,db,gd,List.length_nil];omega
 choice h:=by
  simp only[cO]at h;obtain⟨a,k,g1,h⟩:=aS h;obtain⟨b,k2,g2,h⟩:=aS h;obtain⟨b3,k3,g3,h⟩:=aS h;have:=F.exp g1;have:=ff g2;have:=F.block g3;split at h
  ·have:=F.choice h;rw[np,wB]at this;simp only[db,gd]at this;omega
  split at h
  ·obtain⟨b4,k4,g4,h⟩:=aS h;obtain⟨b5,k5,g5,h⟩:=aS h;have:=F.block g4;have:=ff g5;obtain⟨rfl,rfl⟩:=cU h;simp only[aK.sz,np,wB,db,gd,List.length_nil];omega
  ·obtain⟨b5,k5,g5,h⟩:=aS h;have:=ff g5;obtain⟨rfl,rfl⟩:=cU h;simp only[aK.sz,np,wB,db,gd,List.length_nil];omega
 for_ h:=by
  simp only[ij]at h;obtain⟨a,k,g1,h⟩:=aS h;have:=rK g1;split at h
  ·obtain⟨b,k2,g2,h⟩:=aS h;obtain⟨b3,k3,g3,h⟩:=aS h;obtain⟨b4,k4,g4,h⟩:=aS h;have:=rK g2;have:=ff g3;have:=F.exp g4;have:=F.ai h;simp only[db,List.length_cons,List.length_nil]at this;omega
  ·obtain⟨b,k2,g2,h⟩:=aS h;obtain⟨b3,k3,g3,h⟩:=aS h;obtain⟨b4,k4,g4,h⟩:=aS h;obtain⟨b5,k5,g5,h⟩:=aS h;have:=ff g2;have:=F.exp g3;have:=ff g4;have:=F.exp g5;split at h
   ·obtain⟨b6,k6,g6,h⟩:=aS h;have:=F.exp g6;have:=F.ai h;simp only[db,List.length_cons,List.length_nil]at this;omega
   ·have:=F.ai h;simp only[db,List.length_cons,List.length_nil]at this;omega
 ai h:=by
  simp only[dy]at h;obtain⟨a,k,g1,h⟩:=aS h;obtain⟨b,k2,g2,h⟩:=aS h;obtain⟨b3,k3,g3,h⟩:=aS h;have:=ff g1;have:=F.block g2;have:=ff g3;obtain⟨rfl,rfl⟩:=cU h;simp only[aK.sz,db,gd];omega
theorem YL:∀n,Sz T n
 |0=>sz0
 |n+1=>szS (YL n)
end
section
def bB{α:Type}(r r':bF α):Prop:=r=.bW∨r=r'
theorem bB.rfl'{α:Type}(r:bF α):bB r r:=.inr rfl
theorem bB.bind{α β:Type}{r r':bF α}{f f':α→Nat→bF β}(h:bB r r')(hf:∀a j,bB (f a j) (f' a j)):bB (r.bind f) (r'.bind f'):=by
 rcases h with rfl|rfl
 ·exact .inl rfl
 ·cases r with
  |ok a i=>exact hf a i
  |err c i=>exact .inr rfl
  |bW=>exact .inl rfl
theorem bB.ite{α:Type}{c:Prop}[Decidable c]{a b a' b':bF α}(h1:bB a a')(h2:bB b b'):bB (if c then a else b) (if c then a' else b'):=by
 split
 ·exact h1
 ·exact h2
variable {T:List Tok}
structure Mn(T:List Tok)(n:Nat):Prop where
 exp:∀i d,bB (de T n i d) (de T (n+1) i d)
 either:∀i d,bB (dx T n i d) (dx T (n+1) i d)
 ae:∀e i d,bB (df T n e i d) (df T (n+1) e i d)
 both:∀i d,bB (fu T n i d) (fu T (n+1) i d)
 au:∀e i d,bB (eF T n e i d) (eF T (n+1) e i d)
 test:∀i d,bB (fw T n i d) (fw T (n+1) i d)
 av:∀e i d,bB (eG T n e i d) (eG T (n+1) e i d)
 join:∀i d,bB (fi T n i d) (fi T (n+1) i d)
 sum:∀i d,bB (ig T n i d) (ig T (n+1) i d)
 aI:∀e i d,bB (fT T n e i d) (fT T (n+1) e i d)
 term:∀i d,bB (fx T n i d) (fx T (n+1) i d)
 aw:∀e i d,bB (eH T n e i d) (eH T (n+1) e i d)
 unary:∀i d,bB (dN T n i d) (dN T (n+1) i d)
 post:∀i d,bB (fj T n i d) (fj T (n+1) i d)
 an:∀e i d,bB (dI T n e i d) (dI T (n+1) e i d)
 args:∀b out i d,bB (cT T n b out i d) (cT T (n+1) b out i d)
 simple:∀i d,bB (dc T n i d) (dc T (n+1) i d)
 table:∀out c a i d,bB (dh T n out c a i d) (dh T (n+1) out c a i d)
 field:∀c i d,bB (dJ T n c i d) (dJ T (n+1) c i d)
 body:∀a i d,bB (fy T n a i d) (fy T (n+1) a i d)
 params:∀b out i,bB (cG T n b out i) (cG T (n+1) b out i)
 block:∀i d,bB (cz T n i d) (cz T (n+1) i d)
 aM:∀out i d,bB (bG T n out i d) (bG T (n+1) out i d)
 stat:∀i d,bB (eY T n i d) (eY T (n+1) i d)
 ah:∀a i d,bB (ep T n a i d) (ep T (n+1) a i d)
 aj:∀a i d,bB (fe T n a i d) (fe T (n+1) a i d)
 af:∀a i d,bB (dR T n a i d) (dR T (n+1) a i d)
 do_:∀a i d,bB (kV T n a i d) (kV T (n+1) a i d)
 aH:∀a i d,bB (dS T n a i d) (dS T (n+1) a i d)
 plain:∀a i d,bB (ey T n a i d) (ey T (n+1) a i d)
 choice:∀a l bs i d,bB (cO T n a l bs i d) (cO T (n+1) a l bs i d)
 for_:∀a i d,bB (ij T n a i d) (ij T (n+1) a i d)
 ai:∀k a ns l i d,bB (dy T n k a ns l i d) (dy T (n+1) k a ns l i d)
theorem mn0:Mn T 0 where
 exp _ _:=.inl (by rw[de.eq_1])
 either _ _:=.inl (by rw[dx.eq_1])
 ae _ _ _:=.inl (by rw[df.eq_1])
 both _ _:=.inl (by rw[fu.eq_1])
 au _ _ _:=.inl (by rw[eF.eq_1])
 test _ _:=.inl (by rw[fw.eq_1])
 av _ _ _:=.inl (by rw[eG.eq_1])
 join _ _:=.inl (by rw[fi.eq_1])
 sum _ _:=.inl (by rw[ig.eq_1])
 aI _ _ _:=.inl (by rw[fT.eq_1])
 term _ _:=.inl (by rw[fx.eq_1])
 aw _ _ _:=.inl (by rw[eH.eq_1])
 unary _ _:=.inl (by rw[dN.eq_1])
 post _ _:=.inl (by rw[fj.eq_1])
 an _ _ _:=.inl (by rw[dI.eq_1])
 args _ _ _ _:=.inl (by rw[cT.eq_1])
 simple _ _:=.inl (by rw[dc.eq_1])
 table _ _ _ _ _:=.inl (by rw[dh.eq_1])
 field _ _ _:=.inl (by rw[dJ.eq_1])
 body _ _ _:=.inl (by rw[fy.eq_1])
 params _ _ _:=.inl (by rw[cG.eq_1])
 block _ _:=.inl (by rw[cz.eq_1])
 aM _ _ _:=.inl (by rw[bG.eq_1])
 stat _ _:=.inl (by rw[eY.eq_1])
 ah _ _ _:=.inl (by rw[ep.eq_1])
 aj _ _ _:=.inl (by rw[fe.eq_1])
 af _ _ _:=.inl (by rw[dR.eq_1])
 do_ _ _ _:=.inl (by rw[kV.eq_1])
 aH _ _ _:=.inl (by rw[dS.eq_1])
 plain _ _ _:=.inl (by rw[ey.eq_1])
 choice _ _ _ _ _:=.inl (by rw[cO.eq_1])
 for_ _ _ _:=.inl (by rw[ij.eq_1])
 ai _ _ _ _ _ _:=.inl (by rw[dy.eq_1])
theorem mnS{n:Nat}(F:Mn T n):Mn T (n+1) where
 exp i d:=by
  rw[de.eq_2,de.eq_2]
  repeat' first|exact F.exp _ _|exact F.either _ _|exact F.ae _ _ _|exact F.both _ _|exact F.au _ _ _|exact F.test _ _|exact F.av _ _ _|exact F.join _ _|exact F.sum _ _|exact F.aI _ _ _|exact F.term _ _|exact F.aw _ _ _|exact F.unary _ _|exact F.post _ _|exact F.an _ _ _|exact F.args _ _ _ _|exact F.simple _ _|exact F.table _ _ _ _ _|exact F.field _ _ _|exact F.body _ _ _|exact F.params _ _ _|exact F.block _ _|exact F.aM _ _ _|exact F.stat _ _|exact F.ah _ _ _|exact F.aj _ _ _|exact F.af _ _ _|exact F.do_ _ _ _|exact F.aH _ _ _|exact F.plain _ _ _|exact F.choice _ _ _ _ _|exact F.for_ _ _ _|exact F.ai _ _ _ _ _ _|exact bB.rfl' _|apply bB.ite|refine bB.bind ?_ λ_ _=>?_
 either i d:=by
  rw[dx.eq_2,dx.eq_2]
  repeat' first|exact F.exp _ _|exact F.either _ _|exact F.ae _ _ _|exact F.both _ _|exact F.au _ _ _|exact F.test _ _|exact F.av _ _ _|exact F.join _ _|exact F.sum _ _|exact F.aI _ _ _|exact F.term _ _|exact F.aw _ _ _|exact F.unary _ _|exact F.post _ _|exact F.an _ _ _|exact F.args _ _ _ _|exact F.simple _ _|exact F.table _ _ _ _ _|exact F.field _ _ _|exact F.body _ _ _|exact F.params _ _ _|exact F.block _ _|exact F.aM _ _ _|exact F.stat _ _|exact F.ah _ _ _|exact F.aj _ _ _|exact F.af _ _ _|exact F.do_ _ _ _|exact F.aH _ _ _|exact F.plain _ _ _|exact F.choice _ _ _ _ _|exact F.for_ _ _ _|exact F.ai _ _ _ _ _ _|exact bB.rfl' _|apply bB.ite|refine bB.bind ?_ λ_ _=>?_
 ae e i d:=by
  rw[df.eq_2,df.eq_2]
  repeat' first|exact F.exp _ _|exact F.either _ _|exact F.ae _ _ _|exact F.both _ _|exact F.au _ _ _|exact F.test _ _|exact F.av _ _ _|exact F.join _ _|exact F.sum _ _|exact F.aI _ _ _|exact F.term _ _|exact F.aw _ _ _|exact F.unary _ _|exact F.post _ _|exact F.an _ _ _|exact F.args _ _ _ _|exact F.simple _ _|exact F.table _ _ _ _ _|exact F.field _ _ _|exact F.body _ _ _|exact F.params _ _ _|exact F.block _ _|exact F.aM _ _ _|exact F.stat _ _|exact F.ah _ _ _|exact F.aj _ _ _|exact F.af _ _ _|exact F.do_ _ _ _|exact F.aH _ _ _|exact F.plain _ _ _|exact F.choice _ _ _ _ _|exact F.for_ _ _ _|exact F.ai _ _ _ _ _ _|exact bB.rfl' _|apply bB.ite|refine bB.bind ?_ λ_ _=>?_
 both i d:=by
  rw[fu.eq_2,fu.eq_2]
  repeat' first|exact F.exp _ _|exact F.either _ _|exact F.ae _ _ _|exact F.both _ _|exact F.au _ _ _|exact F.test _ _|exact F.av _ _ _|exact F.join _ _|exact F.sum _ _|exact F.aI _ _ _|exact F.term _ _|exact F.aw _ _ _|exact F.unary _ _|exact F.post _ _|exact F.an _ _ _|exact F.args _ _ _ _|exact F.simple _ _|exact F.table _ _ _ _ _|exact F.field _ _ _|exact F.body _ _ _|exact F.params _ _ _|exact F.block _ _|exact F.aM _ _ _|exact F.stat _ _|exact F.ah _ _ _|exact F.aj _ _ _|exact F.af _ _ _|exact F.do_ _ _ _|exact F.aH _ _ _|exact F.plain _ _ _|exact F.choice _ _ _ _ _|exact F.for_ _ _ _|exact F.ai _ _ _ _ _ _|exact bB.rfl' _|apply bB.ite|refine bB.bind ?_ λ_ _=>?_
 au e i d:=by
  rw[eF.eq_2,eF.eq_2]
  repeat' first|exact F.exp _ _|exact F.either _ _|exact F.ae _ _ _|exact F.both _ _|exact F.au _ _ _|exact F.test _ _|exact F.av _ _ _|exact F.join _ _|exact F.sum _ _|exact F.aI _ _ _|exact F.term _ _|exact F.aw _ _ _|exact F.unary _ _|exact F.post _ _|exact F.an _ _ _|exact F.args _ _ _ _|exact F.simple _ _|exact F.table _ _ _ _ _|exact F.field _ _ _|exact F.body _ _ _|exact F.params _ _ _|exact F.block _ _|exact F.aM _ _ _|exact F.stat _ _|exact F.ah _ _ _|exact F.aj _ _ _|exact F.af _ _ _|exact F.do_ _ _ _|exact F.aH _ _ _|exact F.plain _ _ _|exact F.choice _ _ _ _ _|exact F.for_ _ _ _|exact F.ai _ _ _ _ _ _|exact bB.rfl' _|apply bB.ite|refine bB.bind ?_ λ_ _=>?_
 test i d:=by
  rw[fw.eq_2,fw.eq_2]
  repeat' first|exact F.exp _ _|exact F.either _ _|exact F.ae _ _ _|exact F.both _ _|exact F.au _ _ _|exact F.test _ _|exact F.av _ _ _|exact F.join _ _|exact F.sum _ _|exact F.aI _ _ _|exact F.term _ _|exact F.aw _ _ _|exact F.unary _ _|exact F.post _ _|exact F.an _ _ _|exact F.args _ _ _ _|exact F.simple _ _|exact F.table _ _ _ _ _|exact F.field _ _ _|exact F.body _ _ _|exact F.params _ _ _|exact F.block _ _|exact F.aM _ _ _|exact F.stat _ _|exact F.ah _ _ _|exact F.aj _ _ _|exact F.af _ _ _|exact F.do_ _ _ _|exact F.aH _ _ _|exact F.plain _ _ _|exact F.choice _ _ _ _ _|exact F.for_ _ _ _|exact F.ai _ _ _ _ _ _|exact bB.rfl' _|apply bB.ite|refine bB.bind ?_ λ_ _=>?_
 av e i d:=by
  rw[eG.eq_2,eG.eq_2]
  repeat' first|exact F.exp _ _|exact F.either _ _|exact F.ae _ _ _|exact F.both _ _|exact F.au _ _ _|exact F.test _ _|exact F.av _ _ _|exact F.join _ _|exact F.sum _ _|exact F.aI _ _ _|exact F.term _ _|exact F.aw _ _ _|exact F.unary _ _|exact F.post _ _|exact F.an _ _ _|exact F.args _ _ _ _|exact F.simple _ _|exact F.table _ _ _ _ _|exact F.field _ _ _|exact F.body _ _ _|exact F.params _ _ _|exact F.block _ _|exact F.aM _ _ _|exact F.stat _ _|exact F.ah _ _ _|exact F.aj _ _ _|exact F.af _ _ _|exact F.do_ _ _ _|exact F.aH _ _ _|exact F.plain _ _ _|exact F.choice _ _ _ _ _|exact F.for_ _ _ _|exact F.ai _ _ _ _ _ _|exact bB.rfl' _|apply bB.ite|refine bB.bind ?_ λ_ _=>?_
 join i d:=by
  rw[fi.eq_2,fi.eq_2]
  repeat' first|exact F.exp _ _|exact F.either _ _|exact F.ae _ _ _|exact F.both _ _|exact F.au _ _ _|exact F.test _ _|exact F.av _ _ _|exact F.join _ _|exact F.sum _ _|exact F.aI _ _ _|exact F.term _ _|exact F.aw _ _ _|exact F.unary _ _|exact F.post _ _|exact F.an _ _ _|exact F.args _ _ _ _|exact F.simple _ _|exact F.table _ _ _ _ _|exact F.field _ _ _|exact F.body _ _ _|exact F.params _ _ _|exact F.block _ _|exact F.aM _ _ _|exact F.stat _ _|exact F.ah _ _ _|exact F.aj _ _ _|exact F.af _ _ _|exact F.do_ _ _ _|exact F.aH _ _ _|exact F.plain _ _ _|exact F.choice _ _ _ _ _|exact F.for_ _ _ _|exact F.ai _ _ _ _ _ _|exact bB.rfl' _|apply bB.ite|refine bB.bind ?_ λ_ _=>?_
 sum i d:=by
  rw[ig.eq_2,ig.eq_2]
  repeat' first|exact F.exp _ _|exact F.either _ _|exact F.ae _ _ _|exact F.both _ _|exact F.au _ _ _|exact F.test _ _|exact F.av _ _ _|exact F.join _ _|exact F.sum _ _|exact F.aI _ _ _|exact F.term _ _|exact F.aw _ _ _|exact F.unary _ _|exact F.post _ _|exact F.an _ _ _|exact F.args _ _ _ _|exact F.simple _ _|exact F.table _ _ _ _ _|exact F.field _ _ _|exact F.body _ _ _|exact F.params _ _ _|exact F.block _ _|exact F.aM _ _ _|exact F.stat _ _|exact F.ah _ _ _|exact F.aj _ _ _|exact F.af _ _ _|exact F.do_ _ _ _|exact F.aH _ _ _|exact F.plain _ _ _|exact F.choice _ _ _ _ _|exact F.for_ _ _ _|exact F.ai _ _ _ _ _ _|exact bB.rfl' _|apply bB.ite|refine bB.bind ?_ λ_ _=>?_
 aI e i d:=by
  rw[fT.eq_2,fT.eq_2]
  repeat' first|exact F.exp _ _|exact F.either _ _|exact F.ae _ _ _|exact F.both _ _|exact F.au _ _ _|exact F.test _ _|exact F.av _ _ _|exact F.join _ _|exact F.sum _ _|exact F.aI _ _ _|exact F.term _ _|exact F.aw _ _ _|exact F.unary _ _|exact F.post _ _|exact F.an _ _ _|exact F.args _ _ _ _|exact F.simple _ _|exact F.table _ _ _ _ _|exact F.field _ _ _|exact F.body _ _ _|exact F.params _ _ _|exact F.block _ _|exact F.aM _ _ _|exact F.stat _ _|exact F.ah _ _ _|exact F.aj _ _ _|exact F.af _ _ _|exact F.do_ _ _ _|exact F.aH _ _ _|exact F.plain _ _ _|exact F.choice _ _ _ _ _|exact F.for_ _ _ _|exact F.ai _ _ _ _ _ _|exact bB.rfl' _|apply bB.ite|refine bB.bind ?_ λ_ _=>?_
 term i d:=by
  rw[fx.eq_2,fx.eq_2]
  repeat' first|exact F.exp _ _|exact F.either _ _|exact F.ae _ _ _|exact F.both _ _|exact F.au _ _ _|exact F.test _ _|exact F.av _ _ _|exact F.join _ _|exact F.sum _ _|exact F.aI _ _ _|exact F.term _ _|exact F.aw _ _ _|exact F.unary _ _|exact F.post _ _|exact F.an _ _ _|exact F.args _ _ _ _|exact F.simple _ _|exact F.table _ _ _ _ _|exact F.field _ _ _|exact F.body _ _ _|exact F.params _ _ _|exact F.block _ _|exact F.aM _ _ _|exact F.stat _ _|exact F.ah _ _ _|exact F.aj _ _ _|exact F.af _ _ _|exact F.do_ _ _ _|exact F.aH _ _ _|exact F.plain _ _ _|exact F.choice _ _ _ _ _|exact F.for_ _ _ _|exact F.ai _ _ _ _ _ _|exact bB.rfl' _|apply bB.ite|refine bB.bind ?_ λ_ _=>?_
 aw e i d:=by
  rw[eH.eq_2,eH.eq_2]
  repeat' first|exact F.exp _ _|exact F.either _ _|exact F.ae _ _ _|exact F.both _ _|exact F.au _ _ _|exact F.test _ _|exact F.av _ _ _|exact F.join _ _|exact F.sum _ _|exact F.aI _ _ _|exact F.term _ _|exact F.aw _ _ _|exact F.unary _ _|exact F.post _ _|exact F.an _ _ _|exact F.args _ _ _ _|exact F.simple _ _|exact F.table _ _ _ _ _|exact F.field _ _ _|exact F.body _ _ _|exact F.params _ _ _|exact F.block _ _|exact F.aM _ _ _|exact F.stat _ _|exact F.ah _ _ _|exact F.aj _ _ _|exact F.af _ _ _|exact F.do_ _ _ _|exact F.aH _ _ _|exact F.plain _ _ _|exact F.choice _ _ _ _ _|exact F.for_ _ _ _|exact F.ai _ _ _ _ _ _|exact bB.rfl' _|apply bB.ite|refine bB.bind ?_ λ_ _=>?_
 unary i d:=by
  rw[dN.eq_2,dN.eq_2]
  repeat' first|exact F.exp _ _|exact F.either _ _|exact F.ae _ _ _|exact F.both _ _|exact F.au _ _ _|exact F.test _ _|exact F.av _ _ _|exact F.join _ _|exact F.sum _ _|exact F.aI _ _ _|exact F.term _ _|exact F.aw _ _ _|exact F.unary _ _|exact F.post _ _|exact F.an _ _ _|exact F.args _ _ _ _|exact F.simple _ _|exact F.table _ _ _ _ _|exact F.field _ _ _|exact F.body _ _ _|exact F.params _ _ _|exact F.block _ _|exact F.aM _ _ _|exact F.stat _ _|exact F.ah _ _ _|exact F.aj _ _ _|exact F.af _ _ _|exact F.do_ _ _ _|exact F.aH _ _ _|exact F.plain _ _ _|exact F.choice _ _ _ _ _|exact F.for_ _ _ _|exact F.ai _ _ _ _ _ _|exact bB.rfl' _|apply bB.ite|refine bB.bind ?_ λ_ _=>?_
 post i d:=by
  rw[fj.eq_2,fj.eq_2]
  repeat' first|exact F.exp _ _|exact F.either _ _|exact F.ae _ _ _|exact F.both _ _|exact F.au _ _ _|exact F.test _ _|exact F.av _ _ _|exact F.join _ _|exact F.sum _ _|exact F.aI _ _ _|exact F.term _ _|exact F.aw _ _ _|exact F.unary _ _|exact F.post _ _|exact F.an _ _ _|exact F.args _ _ _ _|exact F.simple _ _|exact F.table _ _ _ _ _|exact F.field _ _ _|exact F.body _ _ _|exact F.params _ _ _|exact F.block _ _|exact F.aM _ _ _|exact F.stat _ _|exact F.ah _ _ _|exact F.aj _ _ _|exact F.af _ _ _|exact F.do_ _ _ _|exact F.aH _ _ _|exact F.plain _ _ _|exact F.choice _ _ _ _ _|exact F.for_ _ _ _|exact F.ai _ _ _ _ _ _|exact bB.rfl' _|apply bB.ite|refine bB.bind ?_ λ_ _=>?_
 an e i d:=by
  rw[dI.eq_2,dI.eq_2]
  repeat' first|exact F.exp _ _|exact F.either _ _|exact F.ae _ _ _|exact F.both _ _|exact F.au _ _ _|exact F.test _ _|exact F.av _ _ _|exact F.join _ _|exact F.sum _ _|exact F.aI _ _ _|exact F.term _ _|exact F.aw _ _ _|exact F.unary _ _|exact F.post _ _|exact F.an _ _ _|exact F.args _ _ _ _|exact F.simple _ _|exact F.table _ _ _ _ _|exact F.field _ _ _|exact F.body _ _ _|exact F.params _ _ _|exact F.block _ _|exact F.aM _ _ _|exact F.stat _ _|exact F.ah _ _ _|exact F.aj _ _ _|exact F.af _ _ _|exact F.do_ _ _ _|exact F.aH _ _ _|exact F.plain _ _ _|exact F.choice _ _ _ _ _|exact F.for_ _ _ _|exact F.ai _ _ _ _ _ _|exact bB.rfl' _|apply bB.ite|refine bB.bind ?_ λ_ _=>?_
 args b out i d:=by
  rw[cT.eq_2,cT.eq_2]
  repeat' first|exact F.exp _ _|exact F.either _ _|exact F.ae _ _ _|exact F.both _ _|exact F.au _ _ _|exact F.test _ _|exact F.av _ _ _|exact F.join _ _|exact F.sum _ _|exact F.aI _ _ _|exact F.term _ _|exact F.aw _ _ _|exact F.unary _ _|exact F.post _ _|exact F.an _ _ _|exact F.args _ _ _ _|exact F.simple _ _|exact F.table _ _ _ _ _|exact F.field _ _ _|exact F.body _ _ _|exact F.params _ _ _|exact F.block _ _|exact F.aM _ _ _|exact F.stat _ _|exact F.ah _ _ _|exact F.aj _ _ _|exact F.af _ _ _|exact F.do_ _ _ _|exact F.aH _ _ _|exact F.plain _ _ _|exact F.choice _ _ _ _ _|exact F.for_ _ _ _|exact F.ai _ _ _ _ _ _|exact bB.rfl' _|apply bB.ite|refine bB.bind ?_ λ_ _=>?_
 simple i d:=by
  rw[dc.eq_2,dc.eq_2]
  repeat' first|exact F.exp _ _|exact F.either _ _|exact F.ae _ _ _|exact F.both _ _|exact F.au _ _ _|exact F.test _ _|exact F.av _ _ _|exact F.join _ _|exact F.sum _ _|exact F.aI _ _ _|exact F.term _ _|exact F.aw _ _ _|exact F.unary _ _|exact F.post _ _|exact F.an _ _ _|exact F.args _ _ _ _|exact F.simple _ _|exact F.table _ _ _ _ _|exact F.field _ _ _|exact F.body _ _ _|exact F.params _ _ _|exact F.block _ _|exact F.aM _ _ _|exact F.stat _ _|exact F.ah _ _ _|exact F.aj _ _ _|exact F.af _ _ _|exact F.do_ _ _ _|exact F.aH _ _ _|exact F.plain _ _ _|exact F.choice _ _ _ _ _|exact F.for_ _ _ _|exact F.ai _ _ _ _ _ _|exact bB.rfl' _|apply bB.ite|refine bB.bind ?_ λ_ _=>?_
 table out c a i d:=by
  rw[dh.eq_2,dh.eq_2]
  repeat' first|exact F.exp _ _|exact F.either _ _|exact F.ae _ _ _|exact F.both _ _|exact F.au _ _ _|exact F.test _ _|exact F.av _ _ _|exact F.join _ _|exact F.sum _ _|exact F.aI _ _ _|exact F.term _ _|exact F.aw _ _ _|exact F.unary _ _|exact F.post _ _|exact F.an _ _ _|exact F.args _ _ _ _|exact F.simple _ _|exact F.table _ _ _ _ _|exact F.field _ _ _|exact F.body _ _ _|exact F.params _ _ _|exact F.block _ _|exact F.aM _ _ _|exact F.stat _ _|exact F.ah _ _ _|exact F.aj _ _ _|exact F.af _ _ _|exact F.do_ _ _ _|exact F.aH _ _ _|exact F.plain _ _ _|exact F.choice _ _ _ _ _|exact F.for_ _ _ _|exact F.ai _ _ _ _ _ _|exact bB.rfl' _|apply bB.ite|refine bB.bind ?_ λ_ _=>?_
 field c i d:=by
  rw[dJ.eq_2,dJ.eq_2]
  repeat' first|exact F.exp _ _|exact F.either _ _|exact F.ae _ _ _|exact F.both _ _|exact F.au _ _ _|exact F.test _ _|exact F.av _ _ _|exact F.join _ _|exact F.sum _ _|exact F.aI _ _ _|exact F.term _ _|exact F.aw _ _ _|exact F.unary _ _|exact F.post _ _|exact F.an _ _ _|exact F.args _ _ _ _|exact F.simple _ _|exact F.table _ _ _ _ _|exact F.field _ _ _|exact F.body _ _ _|exact F.params _ _ _|exact F.block _ _|exact F.aM _ _ _|exact F.stat _ _|exact F.ah _ _ _|exact F.aj _ _ _|exact F.af _ _ _|exact F.do_ _ _ _|exact F.aH _ _ _|exact F.plain _ _ _|exact F.choice _ _ _ _ _|exact F.for_ _ _ _|exact F.ai _ _ _ _ _ _|exact bB.rfl' _|apply bB.ite|refine bB.bind ?_ λ_ _=>?_
 body a i d:=by
  rw[fy.eq_2,fy.eq_2]
  repeat' first|exact F.exp _ _|exact F.either _ _|exact F.ae _ _ _|exact F.both _ _|exact F.au _ _ _|exact F.test _ _|exact F.av _ _ _|exact F.join _ _|exact F.sum _ _|exact F.aI _ _ _|exact F.term _ _|exact F.aw _ _ _|exact F.unary _ _|exact F.post _ _|exact F.an _ _ _|exact F.args _ _ _ _|exact F.simple _ _|exact F.table _ _ _ _ _|exact F.field _ _ _|exact F.body _ _ _|exact F.params _ _ _|exact F.block _ _|exact F.aM _ _ _|exact F.stat _ _|exact F.ah _ _ _|exact F.aj _ _ _|exact F.af _ _ _|exact F.do_ _ _ _|exact F.aH _ _ _|exact F.plain _ _ _|exact F.choice _ _ _ _ _|exact F.for_ _ _ _|exact F.ai _ _ _ _ _ _|exact bB.rfl' _|apply bB.ite|refine bB.bind ?_ λ_ _=>?_
 params b out i:=by
  rw[cG.eq_2,cG.eq_2]
  repeat' first|exact F.exp _ _|exact F.either _ _|exact F.ae _ _ _|exact F.both _ _|exact F.au _ _ _|exact F.test _ _|exact F.av _ _ _|exact F.join _ _|exact F.sum _ _|exact F.aI _ _ _|exact F.term _ _|exact F.aw _ _ _|exact F.unary _ _|exact F.post _ _|exact F.an _ _ _|exact F.args _ _ _ _|exact F.simple _ _|exact F.table _ _ _ _ _|exact F.field _ _ _|exact F.body _ _ _|exact F.params _ _ _|exact F.block _ _|exact F.aM _ _ _|exact F.stat _ _|exact F.ah _ _ _|exact F.aj _ _ _|exact F.af _ _ _|exact F.do_ _ _ _|exact F.aH _ _ _|exact F.plain _ _ _|exact F.choice _ _ _ _ _|exact F.for_ _ _ _|exact F.ai _ _ _ _ _ _|exact bB.rfl' _|apply bB.ite|refine bB.bind ?_ λ_ _=>?_
 block i d:=by
  rw[cz.eq_2,cz.eq_2]
  repeat' first|exact F.exp _ _|exact F.either _ _|exact F.ae _ _ _|exact F.both _ _|exact F.au _ _ _|exact F.test _ _|exact F.av _ _ _|exact F.join _ _|exact F.sum _ _|exact F.aI _ _ _|exact F.term _ _|exact F.aw _ _ _|exact F.unary _ _|exact F.post _ _|exact F.an _ _ _|exact F.args _ _ _ _|exact F.simple _ _|exact F.table _ _ _ _ _|exact F.field _ _ _|exact F.body _ _ _|exact F.params _ _ _|exact F.block _ _|exact F.aM _ _ _|exact F.stat _ _|exact F.ah _ _ _|exact F.aj _ _ _|exact F.af _ _ _|exact F.do_ _ _ _|exact F.aH _ _ _|exact F.plain _ _ _|exact F.choice _ _ _ _ _|exact F.for_ _ _ _|exact F.ai _ _ _ _ _ _|exact bB.rfl' _|apply bB.ite|refine bB.bind ?_ λ_ _=>?_
 aM out i d:=by
  rw[bG.eq_2,bG.eq_2]
  repeat' first|exact F.exp _ _|exact F.either _ _|exact F.ae _ _ _|exact F.both _ _|exact F.au _ _ _|exact F.test _ _|exact F.av _ _ _|exact F.join _ _|exact F.sum _ _|exact F.aI _ _ _|exact F.term _ _|exact F.aw _ _ _|exact F.unary _ _|exact F.post _ _|exact F.an _ _ _|exact F.args _ _ _ _|exact F.simple _ _|exact F.table _ _ _ _ _|exact F.field _ _ _|exact F.body _ _ _|exact F.params _ _ _|exact F.block _ _|exact F.aM _ _ _|exact F.stat _ _|exact F.ah _ _ _|exact F.aj _ _ _|exact F.af _ _ _|exact F.do_ _ _ _|exact F.aH _ _ _|exact F.plain _ _ _|exact F.choice _ _ _ _ _|exact F.for_ _ _ _|exact F.ai _ _ _ _ _ _|exact bB.rfl' _|apply bB.ite|refine bB.bind ?_ λ_ _=>?_
 stat i d:=by
  rw[eY.eq_2,eY.eq_2]
  repeat' first|exact F.exp _ _|exact F.either _ _|exact F.ae _ _ _|exact F.both _ _|exact F.au _ _ _|exact F.test _ _|exact F.av _ _ _|exact F.join _ _|exact F.sum _ _|exact F.aI _ _ _|exact F.term _ _|exact F.aw _ _ _|exact F.unary _ _|exact F.post _ _|exact F.an _ _ _|exact F.args _ _ _ _|exact F.simple _ _|exact F.table _ _ _ _ _|exact F.field _ _ _|exact F.body _ _ _|exact F.params _ _ _|exact F.block _ _|exact F.aM _ _ _|exact F.stat _ _|exact F.ah _ _ _|exact F.aj _ _ _|exact F.af _ _ _|exact F.do_ _ _ _|exact F.aH _ _ _|exact F.plain _ _ _|exact F.choice _ _ _ _ _|exact F.for_ _ _ _|exact F.ai _ _ _ _ _ _|exact bB.rfl' _|apply bB.ite|refine bB.bind ?_ λ_ _=>?_
 ah a i d:=by
  rw[ep.eq_2,ep.eq_2]
  repeat' first|exact F.exp _ _|exact F.either _ _|exact F.ae _ _ _|exact F.both _ _|exact F.au _ _ _|exact F.test _ _|exact F.av _ _ _|exact F.join _ _|exact F.sum _ _|exact F.aI _ _ _|exact F.term _ _|exact F.aw _ _ _|exact F.unary _ _|exact F.post _ _|exact F.an _ _ _|exact F.args _ _ _ _|exact F.simple _ _|exact F.table _ _ _ _ _|exact F.field _ _ _|exact F.body _ _ _|exact F.params _ _ _|exact F.block _ _|exact F.aM _ _ _|exact F.stat _ _|exact F.ah _ _ _|exact F.aj _ _ _|exact F.af _ _ _|exact F.do_ _ _ _|exact F.aH _ _ _|exact F.plain _ _ _|exact F.choice _ _ _ _ _|exact F.for_ _ _ _|exact F.ai _ _ _ _ _ _|exact bB.rfl' _|apply bB.ite|refine bB.bind ?_ λ_ _=>?_
 aj a i d:=by
  rw[fe.eq_2,fe.eq_2]
  repeat' first|exact F.exp _ _|exact F.either _ _|exact F.ae _ _ _|exact F.both _ _|exact F.au _ _ _|exact F.test _ _|exact F.av _ _ _|exact F.join _ _|exact F.sum _ _|exact F.aI _ _ _|exact F.term _ _|exact F.aw _ _ _|exact F.unary _ _|exact F.post _ _|exact F.an _ _ _|exact F.args _ _ _ _|exact F.simple _ _|exact F.table _ _ _ _ _|exact F.field _ _ _|exact F.body _ _ _|exact F.params _ _ _|exact F.block _ _|exact F.aM _ _ _|exact F.stat _ _|exact F.ah _ _ _|exact F.aj _ _ _|exact F.af _ _ _|exact F.do_ _ _ _|exact F.aH _ _ _|exact F.plain _ _ _|exact F.choice _ _ _ _ _|exact F.for_ _ _ _|exact F.ai _ _ _ _ _ _|exact bB.rfl' _|apply bB.ite|refine bB.bind ?_ λ_ _=>?_
 af a i d:=by
  rw[dR.eq_2,dR.eq_2]
  repeat' first|exact F.exp _ _|exact F.either _ _|exact F.ae _ _ _|exact F.both _ _|exact F.au _ _ _|exact F.test _ _|exact F.av _ _ _|exact F.join _ _|exact F.sum _ _|exact F.aI _ _ _|exact F.term _ _|exact F.aw _ _ _|exact F.unary _ _|exact F.post _ _|exact F.an _ _ _|exact F.args _ _ _ _|exact F.simple _ _|exact F.table _ _ _ _ _|exact F.field _ _ _|exact F.body _ _ _|exact F.params _ _ _|exact F.block _ _|exact F.aM _ _ _|exact F.stat _ _|exact F.ah _ _ _|exact F.aj _ _ _|exact F.af _ _ _|exact F.do_ _ _ _|exact F.aH _ _ _|exact F.plain _ _ _|exact F.choice _ _ _ _ _|exact F.for_ _ _ _|exact F.ai _ _ _ _ _ _|exact bB.rfl' _|apply bB.ite|refine bB.bind ?_ λ_ _=>?_
 do_ a i d:=by
  rw[kV.eq_2,kV.eq_2]
  repeat' first|exact F.exp _ _|exact F.either _ _|exact F.ae _ _ _|exact F.both _ _|exact F.au _ _ _|exact F.test _ _|exact F.av _ _ _|exact F.join _ _|exact F.sum _ _|exact F.aI _ _ _|exact F.term _ _|exact F.aw _ _ _|exact F.unary _ _|exact F.post _ _|exact F.an _ _ _|exact F.args _ _ _ _|exact F.simple _ _|exact F.table _ _ _ _ _|exact F.field _ _ _|exact F.body _ _ _|exact F.params _ _ _|exact F.block _ _|exact F.aM _ _ _|exact F.stat _ _|exact F.ah _ _ _|exact F.aj _ _ _|exact F.af _ _ _|exact F.do_ _ _ _|exact F.aH _ _ _|exact F.plain _ _ _|exact F.choice _ _ _ _ _|exact F.for_ _ _ _|exact F.ai _ _ _ _ _ _|exact bB.rfl' _|apply bB.ite|refine bB.bind ?_ λ_ _=>?_
 aH a i d:=by
  rw[dS.eq_2,dS.eq_2]
  repeat' first|exact F.exp _ _|exact F.either _ _|exact F.ae _ _ _|exact F.both _ _|exact F.au _ _ _|exact F.test _ _|exact F.av _ _ _|exact F.join _ _|exact F.sum _ _|exact F.aI _ _ _|exact F.term _ _|exact F.aw _ _ _|exact F.unary _ _|exact F.post _ _|exact F.an _ _ _|exact F.args _ _ _ _|exact F.simple _ _|exact F.table _ _ _ _ _|exact F.field _ _ _|exact F.body _ _ _|exact F.params _ _ _|exact F.block _ _|exact F.aM _ _ _|exact F.stat _ _|exact F.ah _ _ _|exact F.aj _ _ _|exact F.af _ _ _|exact F.do_ _ _ _|exact F.aH _ _ _|exact F.plain _ _ _|exact F.choice _ _ _ _ _|exact F.for_ _ _ _|exact F.ai _ _ _ _ _ _|exact bB.rfl' _|apply bB.ite|refine bB.bind ?_ λ_ _=>?_
 plain a i d:=by
  rw[ey.eq_2,ey.eq_2]
  repeat' first|exact F.exp _ _|exact F.either _ _|exact F.ae _ _ _|exact F.both _ _|exact F.au _ _ _|exact F.test _ _|exact F.av _ _ _|exact F.join _ _|exact F.sum _ _|exact F.aI _ _ _|exact F.term _ _|exact F.aw _ _ _|exact F.unary _ _|exact F.post _ _|exact F.an _ _ _|exact F.args _ _ _ _|exact F.simple _ _|exact F.table _ _ _ _ _|exact F.field _ _ _|exact F.body _ _ _|exact F.params _ _ _|exact F.block _ _|exact F.aM _ _ _|exact F.stat _ _|exact F.ah _ _ _|exact F.aj _ _ _|exact F.af _ _ _|exact F.do_ _ _ _|exact F.aH _ _ _|exact F.plain _ _ _|exact F.choice _ _ _ _ _|exact F.for_ _ _ _|exact F.ai _ _ _ _ _ _|exact bB.rfl' _|apply bB.ite|refine bB.bind ?_ λ_ _=>?_
 choice a l bs i d:=by
  rw[cO.eq_2,cO.eq_2]
  repeat' first|exact F.exp _ _|exact F.either _ _|exact F.ae _ _ _|exact F.both _ _|exact F.au _ _ _|exact F.test _ _|exact F.av _ _ _|exact F.join _ _|exact F.sum _ _|exact F.aI _ _ _|exact F.term _ _|exact F.aw _ _ _|exact F.unary _ _|exact F.post _ _|exact F.an _ _ _|exact F.args _ _ _ _|exact F.simple _ _|exact F.table _ _ _ _ _|exact F.field _ _ _|exact F.body _ _ _|exact F.params _ _ _|exact F.block _ _|exact F.aM _ _ _|exact F.stat _ _|exact F.ah _ _ _|exact F.aj _ _ _|exact F.af _ _ _|exact F.do_ _ _ _|exact F.aH _ _ _|exact F.plain _ _ _|exact F.choice _ _ _ _ _|exact F.for_ _ _ _|exact F.ai _ _ _ _ _ _|exact bB.rfl' _|apply bB.ite|refine bB.bind ?_ λ_ _=>?_
 for_ a i d:=by
  rw[ij.eq_2,ij.eq_2]
  repeat' first|exact F.exp _ _|exact F.either _ _|exact F.ae _ _ _|exact F.both _ _|exact F.au _ _ _|exact F.test _ _|exact F.av _ _ _|exact F.join _ _|exact F.sum _ _|exact F.aI _ _ _|exact F.term _ _|exact F.aw _ _ _|exact F.unary _ _|exact F.post _ _|exact F.an _ _ _|exact F.args _ _ _ _|exact F.simple _ _|exact F.table _ _ _ _ _|exact F.field _ _ _|exact F.body _ _ _|exact F.params _ _ _|exact F.block _ _|exact F.aM _ _ _|exact F.stat _ _|exact F.ah _ _ _|exact F.aj _ _ _|exact F.af _ _ _|exact F.do_ _ _ _|exact F.aH _ _ _|exact F.plain _ _ _|exact F.choice _ _ _ _ _|exact F.for_ _ _ _|exact F.ai _ _ _ _ _ _|exact bB.rfl' _|apply bB.ite|refine bB.bind ?_ λ_ _=>?_
 ai k a ns l i d:=by
  rw[dy.eq_2,dy.eq_2]
  repeat' first|exact F.exp _ _|exact F.either _ _|exact F.ae _ _ _|exact F.both _ _|exact F.au _ _ _|exact F.test _ _|exact F.av _ _ _|exact F.join _ _|exact F.sum _ _|exact F.aI _ _ _|exact F.term _ _|exact F.aw _ _ _|exact F.unary _ _|exact F.post _ _|exact F.an _ _ _|exact F.args _ _ _ _|exact F.simple _ _|exact F.table _ _ _ _ _|exact F.field _ _ _|exact F.body _ _ _|exact F.params _ _ _|exact F.block _ _|exact F.aM _ _ _|exact F.stat _ _|exact F.ah _ _ _|exact F.aj _ _ _|exact F.af _ _ _|exact F.do_ _ _ _|exact F.aH _ _ _|exact F.plain _ _ _|exact F.choice _ _ _ _ _|exact F.for_ _ _ _|exact F.ai _ _ _ _ _ _|exact bB.rfl' _|apply bB.ite|refine bB.bind ?_ λ_ _=>?_
theorem YM:∀n,Mn T n
 |0=>mn0
 |n+1=>mnS (YM n)
theorem ug{n m i d:Nat}{out:List aK}(h:n≤m)(h0:bG T n out i d≠.bW):bG T m out i d=bG T n out i d:=by
 induction h with
 |refl=>rfl
 |step h ih=>
  rename_i m;rcases(YM (T:=T) m).aM out i d with g|g
  ·rw[ih]at g;exact absurd g h0
  ·rw[←g,ih]
end
section
def C8:List (List Nat):=[[111,114],[97,110,100],[61,61],[126,61],[60],[60,61],[62],[62,61],[46,46],[43],[45],[42],[47,47],[37],[46],[91],[40],[41],[93],[123],[125],[61],[44],[59],[110,111,116],[35],[110,105,108],[116,114,117,101],[102,97,108,115,101],[102,117,110,99,116,105,111,110],[101,108,115,101,105,102],[101,108,115,101],[101,110,100],[117,110,116,105,108],[116,104,101,110],[105,110]]
structure Pre(T1 T:List Tok)(α:Nat):Prop where
 eq:∀i,i<α→T[i]? = T1[i]?
 e0:bC T1 α=0
 nc:∀s∈C8,isA T s α=false
variable {T1 T:List Tok}{α:Nat}
theorem Pre.kind(P:Pre T1 T α){i:Nat}(h:i<α):bC T1 i=bC T i:=by unfold bC;rw[P.eq i h]
theorem Pre.text(P:Pre T1 T α){i:Nat}(h:i<α):dO T1 i=dO T i:=by unfold dO;rw[P.eq i h]
theorem Pre.pos(P:Pre T1 T α){i:Nat}(h:i<α):aW T1 i=aW T i:=by unfold aW;rw[P.eq i h]
theorem Pre.num(P:Pre T1 T α){i:Nat}(h:i<α):nk T1 i=nk T i:=by unfold nk;rw[P.eq i h]
theorem Pre.jO(P:Pre T1 T α){i:Nat}(s:List Nat)(h:i<α):isA T1 s i=isA T s i:=by unfold isA;rw[P.kind h,P.text h]
theorem Pre.mE(P:Pre T1 T α)(s:List Nat):isA T1 s α=false:=by unfold isA;rw[P.e0];simp
theorem Pre.lt(P:Pre T1 T α){i:Nat}{s:List Nat}(hi:i≤α)(h:isA T1 s i=true):i<α:=by
 rcases Nat.lt_or_ge i α with g|g
 ·exact g
 ·rw[show i=α by omega,P.mE]at h;cases h
theorem Pre.klt(P:Pre T1 T α){i:Nat}(hi:i≤α)(h:bC T1 i≠0):i<α:=by
 rcases Nat.lt_or_ge i α with g|g
 ·exact g
 ·rw[show i=α by omega,P.e0]at h;exact absurd rfl h
theorem Pre.is(P:Pre T1 T α){i:Nat}{s:List Nat}(hs:s∈C8)(hi:i≤α):isA T1 s i=isA T s i:=by
 rcases Nat.lt_or_ge i α with g|g
 ·exact P.jO s g
 ·rw[show i=α by omega,P.mE,P.nc s hs]
theorem Pre.op(P:Pre T1 T α){i:Nat}(hi:i≤α):∀(l:List (List Nat)) (f:Nat),(∀s∈l,s∈C8)→iI T1 i f l=iI T i f l
 |[],_,_=>rfl
 |s::l,f,h=>by
  unfold iI;rw[P.is (h s (List.mem_cons_self ..)) hi,P.op hi l (f+1) λs hs=>h s (List.mem_cons_of_mem _ hs)]
theorem Pre.olt(P:Pre T1 T α){i:Nat}(hi:i≤α):∀(l:List (List Nat)) (f:Nat),iI T1 i f l≠0→i<α
 |[],_,h=>absurd rfl h
 |s::l,f,h=>by
  unfold iI at h;split at h
  ·rename_i g;exact P.lt hi g
  ·exact P.olt hi l (f+1) h
theorem Pre.gI(P:Pre T1 T α){i:Nat}(hi:i≤α):iI T1 i 7 tests=iI T i 7 tests:=P.op hi _ _ (by decide)
theorem Pre.op1(P:Pre T1 T α){i:Nat}(hi:i≤α):iI T1 i 1 sums=iI T i 1 sums:=P.op hi _ _ (by decide)
theorem Pre.gJ(P:Pre T1 T α){i:Nat}(hi:i≤α):iI T1 i 3 terms=iI T i 3 terms:=P.op hi _ _ (by decide)
theorem Pre.un(P:Pre T1 T α){i:Nat}(hi:i≤α):oE T1 i=oE T i:=by
 unfold oE;rw[P.is (s:=[110,111,116]) (by decide) hi,P.is (s:=[45]) (by decide) hi,P.is (s:=[35]) (by decide) hi]
theorem Pre.ult(P:Pre T1 T α){i:Nat}(hi:i≤α)(h:oE T1 i≠0):i<α:=by
 rcases Nat.lt_or_ge i α with g|g
 ·exact g
 ·rw[show i=α by omega]at h;unfold oE at h;rw[P.mE,P.mE,P.mE]at h;exact absurd rfl h
theorem Pre.lone(P:Pre T1 T α){i:Nat}(hi:i≤α):jZ T1 i=jZ T i:=by
 unfold jZ;rw[P.is (s:=[110,105,108]) (by decide) hi,P.is (s:=[116,114,117,101]) (by decide) hi,P.is (s:=[102,97,108,115,101]) (by decide) hi]
theorem Pre.opt(P:Pre T1 T α){i:Nat}{s:List Nat}(hs:s∈C8)(hi:i≤α):iv T1 s i=iv T s i∧i≤iv T s i∧iv T s i≤α:=by
 unfold iv;rw[P.is hs hi];refine⟨rfl,?_⟩;split
 ·rename_i g;rw[←P.is hs hi]at g;have:=P.lt hi g;omega
 ·omega
def Sw{β:Type}(α i:Nat)(r r':bF β):Prop:=∀v j,r=.ok v j→i≤j∧j≤α∧r'=.ok v j
theorem Sw.lo{β:Type}{i k:Nat}{r r':bF β}(h:Sw α i r r')(hk:k≤i):Sw α k r r':=λv j e=>⟨Nat.le_trans hk (h v j e).1,(h v j e).2⟩
theorem Sw.bind{β γ:Type}{i k:Nat}{r r':bF β}{f f':β→Nat→bF γ}(h:Sw α i r r')(hf:∀v j,i≤j→j≤α→Sw α k (f v j) (f' v j)):Sw α k (r.bind f) (r'.bind f'):=by
 intro v j e;obtain⟨a,i',e1,e2⟩:=aS e;obtain⟨h1,h2,h3⟩:=h a i' e1;rw[h3];exact hf a i' h1 h2 v j e2
theorem Sw.ok{β:Type}{i k:Nat}(v:β)(h:k≤i)(h2:i≤α):Sw α k (bF.ok v i) (.ok v i):=λw j e=>by cases e;exact⟨h,h2,rfl⟩
theorem Sw.err{β:Type}{c i k:Nat}(r:bF β):Sw α k (bF.err c i) r:=λw j e=>by cases e
theorem Sw.bW{β:Type}{k:Nat}(r:bF β):Sw α k bF.bW r:=λw j e=>by cases e
theorem Sw.ite{β:Type}{k:Nat}{c:Prop}[Decidable c]{a b a' b':bF β}(h1:c→Sw α k a a')(h2:¬c→Sw α k b b'):Sw α k (if c then a else b) (if c then a' else b'):=by
 split
 ·exact h1 (by assumption)
 ·exact h2 (by assumption)
theorem Sw.is{β:Type}{i k:Nat}{s:List Nat}{a b a' b':bF β}(P:Pre T1 T α)(hs:s∈C8)(hi:i≤α)(h1:i<α→Sw α k a a')(h2:Sw α k b b'):Sw α k (if isA T1 s i then a else b) (if isA T s i then a' else b'):=by
 rw[←P.is hs hi];exact Sw.ite (λg=>h1 (P.lt hi g)) λ_=>h2
theorem Sw.must(P:Pre T1 T α){i:Nat}(s:List Nat)(hi:i≤α):Sw α (i+1) (cC T1 s i) (cC T s i):=by
 unfold cC;cases h:isA T1 s i with
 |false=>exact Sw.err _
 |true=>
  have:=P.lt hi h;rw[←P.jO s this,h];exact Sw.ok _ (Nat.le_refl _) (by omega)
theorem Sw.name(P:Pre T1 T α){i:Nat}(hi:i≤α):Sw α (i+1) (gY T1 i) (gY T i):=by
 unfold gY;by_cases h:bC T1 i=2
 ·have:=P.klt hi (by omega);rw[if_pos h,if_pos (by rw[←P.kind this];exact h),P.text this];exact Sw.ok _ (Nat.le_refl _) (by omega)
 ·rw[if_neg h];exact Sw.err _
theorem Sw.within{β:Type}{i k:Nat}{r r' r2:bF β}(h:Sw α (i+1) r r2)(hk:k≤i+1)(h2:i<α→Sw α k r r'):Sw α k r r':=λv j e=>h2 (by have:=h v j e;omega) v j e
def Sb{β:Type}(α i:Nat)(r r':bF β):Prop:=∀v j,r=.ok v j→i≤j∧j≤α∧(j<α→r'=.ok v j)
def Ss(α i:Nat)(r r':bF aK):Prop:=∀v j,r=.ok v j→i≤j∧j≤α∧(j<α∨v.kind≠10→r'=.ok v j)
theorem Sw.s{i k:Nat}{r r':bF aK}(h:Sw α i r r')(hk:k≤i):Ss α k r r':=λv j e=>⟨Nat.le_trans hk (h v j e).1,(h v j e).2.1,λ_=>(h v j e).2.2⟩
theorem Sb.bind{β γ:Type}{i k:Nat}{r r':bF β}{f f':β→Nat→bF γ}(h:Sb α i r r')(h0:∀v w j,f v α≠.ok w j)(hf:∀v j,i≤j→j<α→Sw α k (f v j) (f' v j)):Sw α k (r.bind f) (r'.bind f'):=by
 intro v j e;obtain⟨a,i',e1,e2⟩:=aS e;obtain⟨h1,h2,h3⟩:=h a i' e1;rcases Nat.lt_or_ge i' α with g|g
 ·rw[h3 g];exact hf a i' h1 g v j e2
 ·rw[show i'=α by omega]at e2;exact absurd e2 (h0 a v j)
theorem cx(P:Pre T1 T α){β:Type}(s:List Nat)(f:Unit→Nat→bF β)(v:β)(j:Nat):(cC T1 s α).bind f≠.ok v j:=by
 unfold cC;rw[P.mE];intro h;cases h
structure Ftr(T1 T:List Tok)(α n:Nat):Prop where
 exp:∀i d,i≤α→Sw α (i+1) (de T1 n i d) (de T n i d)
 either:∀i d,i≤α→Sw α (i+1) (dx T1 n i d) (dx T n i d)
 ae:∀e i d,i≤α→Sw α i (df T1 n e i d) (df T n e i d)
 both:∀i d,i≤α→Sw α (i+1) (fu T1 n i d) (fu T n i d)
 au:∀e i d,i≤α→Sw α i (eF T1 n e i d) (eF T n e i d)
 test:∀i d,i≤α→Sw α (i+1) (fw T1 n i d) (fw T n i d)
 av:∀e i d,i≤α→Sw α i (eG T1 n e i d) (eG T n e i d)
 join:∀i d,i≤α→Sw α (i+1) (fi T1 n i d) (fi T n i d)
 sum:∀i d,i≤α→Sw α (i+1) (ig T1 n i d) (ig T n i d)
 aI:∀e i d,i≤α→Sw α i (fT T1 n e i d) (fT T n e i d)
 term:∀i d,i≤α→Sw α (i+1) (fx T1 n i d) (fx T n i d)
 aw:∀e i d,i≤α→Sw α i (eH T1 n e i d) (eH T n e i d)
 unary:∀i d,i≤α→Sw α (i+1) (dN T1 n i d) (dN T n i d)
 post:∀i d,i≤α→Sw α (i+1) (fj T1 n i d) (fj T n i d)
 an:∀e i d,i≤α→Sw α i (dI T1 n e i d) (dI T n e i d)
 args:∀b out i d,i≤α→Sw α (i+1) (cT T1 n b out i d) (cT T n b out i d)
 simple:∀i d,i≤α→Sw α (i+1) (dc T1 n i d) (dc T n i d)
 table:∀out c a i d,i≤α→Sw α (i+1) (dh T1 n out c a i d) (dh T n out c a i d)
 field:∀c i d,i≤α→Sw α (i+1) (dJ T1 n c i d) (dJ T n c i d)
 body:∀a i d,i≤α→Sw α (i+1) (fy T1 n a i d) (fy T n a i d)
 params:∀b out i,i≤α→Sw α (i+1) (cG T1 n b out i) (cG T n b out i)
 block:∀i d,i≤α→Sb α i (cz T1 n i d) (cz T n i d)
 aM:∀out i d,i≤α→Sb α i (bG T1 n out i d) (bG T n out i d)
 stat:∀i d,i≤α→Ss α (i+1) (eY T1 n i d) (eY T n i d)
 ah:∀a i d,i≤α→Sw α (i+1) (ep T1 n a i d) (ep T n a i d)
 aj:∀a i d,i≤α→Sw α (i+1) (fe T1 n a i d) (fe T n a i d)
 af:∀a i d,i≤α→Sw α (i+1) (dR T1 n a i d) (dR T n a i d)
 do_:∀a i d,i≤α→Sw α (i+1) (kV T1 n a i d) (kV T n a i d)
 aH:∀a i d,i≤α→Ss α i (dS T1 n a i d) (dS T n a i d)
 plain:∀a i d,i≤α→Sw α (i+1) (ey T1 n a i d) (ey T n a i d)
 choice:∀a l bs i d,i≤α→Sw α (i+1) (cO T1 n a l bs i d) (cO T n a l bs i d)
 for_:∀a i d,i≤α→Sw α (i+1) (ij T1 n a i d) (ij T n a i d)
 ai:∀k a ns l i d,i≤α→Sw α (i+1) (dy T1 n k a ns l i d) (dy T n k a ns l i d)
theorem fr0:Ftr T1 T α 0 where
 exp _ _ _:=λv j e=>by rw[de.eq_1]at e;cases e
 either _ _ _:=λv j e=>by rw[dx.eq_1]at e;cases e
 ae _ _ _ _:=λv j e=>by rw[df.eq_1]at e;cases e
 both _ _ _:=λv j e=>by rw[fu.eq_1]at e;cases e
 au _ _ _ _:=λv j e=>by rw[eF.eq_1]at e;cases e
 test _ _ _:=λv j e=>by rw[fw.eq_1]at e;cases e
 av _ _ _ _:=λv j e=>by rw[eG.eq_1]at e;cases e
 join _ _ _:=λv j e=>by rw[fi.eq_1]at e;cases e
 sum _ _ _:=λv j e=>by rw[ig.eq_1]at e;cases e
 aI _ _ _ _:=λv j e=>by rw[fT.eq_1]at e;cases e
 term _ _ _:=λv j e=>by rw[fx.eq_1]at e;cases e
 aw _ _ _ _:=λv j e=>by rw[eH.eq_1]at e;cases e
 unary _ _ _:=λv j e=>by rw[dN.eq_1]at e;cases e
 post _ _ _:=λv j e=>by rw[fj.eq_1]at e;cases e
 an _ _ _ _:=λv j e=>by rw[dI.eq_1]at e;cases e
 args _ _ _ _ _:=λv j e=>by rw[cT.eq_1]at e;cases e
 simple _ _ _:=λv j e=>by rw[dc.eq_1]at e;cases e
 table _ _ _ _ _ _:=λv j e=>by rw[dh.eq_1]at e;cases e
 field _ _ _ _:=λv j e=>by rw[dJ.eq_1]at e;cases e
 body _ _ _ _:=λv j e=>by rw[fy.eq_1]at e;cases e
 params _ _ _ _:=λv j e=>by rw[cG.eq_1]at e;cases e
 block _ _ _:=λv j e=>by rw[cz.eq_1]at e;cases e
 aM _ _ _ _:=λv j e=>by rw[bG.eq_1]at e;cases e
 stat _ _ _:=λv j e=>by rw[eY.eq_1]at e;cases e
 ah _ _ _ _:=λv j e=>by rw[ep.eq_1]at e;cases e
 aj _ _ _ _:=λv j e=>by rw[fe.eq_1]at e;cases e
 af _ _ _ _:=λv j e=>by rw[dR.eq_1]at e;cases e
 do_ _ _ _ _:=λv j e=>by rw[kV.eq_1]at e;cases e
 aH _ _ _ _:=λv j e=>by rw[dS.eq_1]at e;cases e
 plain _ _ _ _:=λv j e=>by rw[ey.eq_1]at e;cases e
 choice _ _ _ _ _ _:=λv j e=>by rw[cO.eq_1]at e;cases e
 for_ _ _ _ _:=λv j e=>by rw[ij.eq_1]at e;cases e
 ai _ _ _ _ _ _ _:=λv j e=>by rw[dy.eq_1]at e;cases e
theorem frS(P:Pre T1 T α){n:Nat}(F:Ftr T1 T α n):Ftr T1 T α (n+1) where
 exp i d hi:=by
  rw[de.eq_2,de.eq_2];refine Sw.ite (λ_=>Sw.err _) λ_=>?_
  repeat' first|exact F.exp _ _ (by omega)|exact F.either _ _ (by omega)|exact F.ae _ _ _ (by omega)|exact F.both _ _ (by omega)|exact F.au _ _ _ (by omega)|exact F.test _ _ (by omega)|exact F.av _ _ _ (by omega)|exact F.join _ _ (by omega)|exact F.sum _ _ (by omega)|exact F.aI _ _ _ (by omega)|exact F.term _ _ (by omega)|exact F.aw _ _ _ (by omega)|exact F.unary _ _ (by omega)|exact F.post _ _ (by omega)|exact F.an _ _ _ (by omega)|exact F.args _ _ _ _ (by omega)|exact F.simple _ _ (by omega)|exact F.table _ _ _ _ _ (by omega)|exact F.field _ _ _ (by omega)|exact F.body _ _ _ (by omega)|exact F.params _ _ _ (by omega)|exact F.ah _ _ _ (by omega)|exact F.aj _ _ _ (by omega)|exact F.af _ _ _ (by omega)|exact F.do_ _ _ _ (by omega)|exact F.plain _ _ _ (by omega)|exact F.choice _ _ _ _ _ (by omega)|exact F.for_ _ _ _ (by omega)|exact F.ai _ _ _ _ _ _ (by omega)|exact(F.exp _ _ (by omega)).lo (by omega)|exact(F.either _ _ (by omega)).lo (by omega)|exact(F.ae _ _ _ (by omega)).lo (by omega)|exact(F.both _ _ (by omega)).lo (by omega)|exact(F.au _ _ _ (by omega)).lo (by omega)|exact(F.test _ _ (by omega)).lo (by omega)|exact(F.av _ _ _ (by omega)).lo (by omega)|exact(F.join _ _ (by omega)).lo (by omega)|exact(F.sum _ _ (by omega)).lo (by omega)|exact(F.aI _ _ _ (by omega)).lo (by omega)|exact(F.term _ _ (by omega)).lo (by omega)|exact(F.aw _ _ _ (by omega)).lo (by omega)|exact(F.unary _ _ (by omega)).lo (by omega)|exact(F.post _ _ (by omega)).lo (by omega)|exact(F.an _ _ _ (by omega)).lo (by omega)|exact(F.args _ _ _ _ (by omega)).lo (by omega)|exact(F.simple _ _ (by omega)).lo (by omega)|exact(F.table _ _ _ _ _ (by omega)).lo (by omega)|exact(F.field _ _ _ (by omega)).lo (by omega)|exact(F.body _ _ _ (by omega)).lo (by omega)|exact(F.params _ _ _ (by omega)).lo (by omega)|exact(F.ah _ _ _ (by omega)).lo (by omega)|exact(F.aj _ _ _ (by omega)).lo (by omega)|exact(F.af _ _ _ (by omega)).lo (by omega)|exact(F.do_ _ _ _ (by omega)).lo (by omega)|exact(F.plain _ _ _ (by omega)).lo (by omega)|exact(F.choice _ _ _ _ _ (by omega)).lo (by omega)|exact(F.for_ _ _ _ (by omega)).lo (by omega)|exact(F.ai _ _ _ _ _ _ (by omega)).lo (by omega)|exact Sw.must P _ (by omega)|exact(Sw.must P _ (by omega)).lo (by omega)|exact Sw.name P (by omega)|exact(Sw.name P (by omega)).lo (by omega)|exact Sw.err _|exact Sw.ok _ (by omega) (by omega)|(simp (disch:=omega) only[P.pos,P.gI,P.op1,P.gJ,P.un];done)|refine Sb.bind (F.block _ _ (by omega)) (λ_ _ _=>cx P _ _ _ _) λ_ _ _ _=>?_|apply Sw.bind|intro _ _ _ _|refine Sw.is P (by decide) (by omega) (λ_=>?_) ?_
 either i d hi:=by
  rw[dx.eq_2,dx.eq_2]
  repeat' first|exact F.exp _ _ (by omega)|exact F.either _ _ (by omega)|exact F.ae _ _ _ (by omega)|exact F.both _ _ (by omega)|exact F.au _ _ _ (by omega)|exact F.test _ _ (by omega)|exact F.av _ _ _ (by omega)|exact F.join _ _ (by omega)|exact F.sum _ _ (by omega)|exact F.aI _ _ _ (by omega)|exact F.term _ _ (by omega)|exact F.aw _ _ _ (by omega)|exact F.unary _ _ (by omega)|exact F.post _ _ (by omega)|exact F.an _ _ _ (by omega)|exact F.args _ _ _ _ (by omega)|exact F.simple _ _ (by omega)|exact F.table _ _ _ _ _ (by omega)|exact F.field _ _ _ (by omega)|exact F.body _ _ _ (by omega)|exact F.params _ _ _ (by omega)|exact F.ah _ _ _ (by omega)|exact F.aj _ _ _ (by omega)|exact F.af _ _ _ (by omega)|exact F.do_ _ _ _ (by omega)|exact F.plain _ _ _ (by omega)|exact F.choice _ _ _ _ _ (by omega)|exact F.for_ _ _ _ (by omega)|exact F.ai _ _ _ _ _ _ (by omega)|exact(F.exp _ _ (by omega)).lo (by omega)|exact(F.either _ _ (by omega)).lo (by omega)|exact(F.ae _ _ _ (by omega)).lo (by omega)|exact(F.both _ _ (by omega)).lo (by omega)|exact(F.au _ _ _ (by omega)).lo (by omega)|exact(F.test _ _ (by omega)).lo (by omega)|exact(F.av _ _ _ (by omega)).lo (by omega)|exact(F.join _ _ (by omega)).lo (by omega)|exact(F.sum _ _ (by omega)).lo (by omega)|exact(F.aI _ _ _ (by omega)).lo (by omega)|exact(F.term _ _ (by omega)).lo (by omega)|exact(F.aw _ _ _ (by omega)).lo (by omega)|exact(F.unary _ _ (by omega)).lo (by omega)|exact(F.post _ _ (by omega)).lo (by omega)|exact(F.an _ _ _ (by omega)).lo (by omega)|exact(F.args _ _ _ _ (by omega)).lo (by omega)|exact(F.simple _ _ (by omega)).lo (by omega)|exact(F.table _ _ _ _ _ (by omega)).lo (by omega)|exact(F.field _ _ _ (by omega)).lo (by omega)|exact(F.body _ _ _ (by omega)).lo (by omega)|exact(F.params _ _ _ (by omega)).lo (by omega)|exact(F.ah _ _ _ (by omega)).lo (by omega)|exact(F.aj _ _ _ (by omega)).lo (by omega)|exact(F.af _ _ _ (by omega)).lo (by omega)|exact(F.do_ _ _ _ (by omega)).lo (by omega)|exact(F.plain _ _ _ (by omega)).lo (by omega)|exact(F.choice _ _ _ _ _ (by omega)).lo (by omega)|exact(F.for_ _ _ _ (by omega)).lo (by omega)|exact(F.ai _ _ _ _ _ _ (by omega)).lo (by omega)|exact Sw.must P _ (by omega)|exact(Sw.must P _ (by omega)).lo (by omega)|exact Sw.name P (by omega)|exact(Sw.name P (by omega)).lo (by omega)|exact Sw.err _|exact Sw.ok _ (by omega) (by omega)|(simp (disch:=omega) only[P.pos,P.gI,P.op1,P.gJ,P.un];done)|refine Sb.bind (F.block _ _ (by omega)) (λ_ _ _=>cx P _ _ _ _) λ_ _ _ _=>?_|apply Sw.bind|intro _ _ _ _|refine Sw.is P (by decide) (by omega) (λ_=>?_) ?_
 ae e i d hi:=by
  rw[df.eq_2,df.eq_2];refine Sw.is P (by decide) hi (λhlt=>?_) (Sw.ok _ (by omega) hi);simp (disch:=omega) only[P.pos,P.text,P.num]
  repeat' first|exact F.exp _ _ (by omega)|exact F.either _ _ (by omega)|exact F.ae _ _ _ (by omega)|exact F.both _ _ (by omega)|exact F.au _ _ _ (by omega)|exact F.test _ _ (by omega)|exact F.av _ _ _ (by omega)|exact F.join _ _ (by omega)|exact F.sum _ _ (by omega)|exact F.aI _ _ _ (by omega)|exact F.term _ _ (by omega)|exact F.aw _ _ _ (by omega)|exact F.unary _ _ (by omega)|exact F.post _ _ (by omega)|exact F.an _ _ _ (by omega)|exact F.args _ _ _ _ (by omega)|exact F.simple _ _ (by omega)|exact F.table _ _ _ _ _ (by omega)|exact F.field _ _ _ (by omega)|exact F.body _ _ _ (by omega)|exact F.params _ _ _ (by omega)|exact F.ah _ _ _ (by omega)|exact F.aj _ _ _ (by omega)|exact F.af _ _ _ (by omega)|exact F.do_ _ _ _ (by omega)|exact F.plain _ _ _ (by omega)|exact F.choice _ _ _ _ _ (by omega)|exact F.for_ _ _ _ (by omega)|exact F.ai _ _ _ _ _ _ (by omega)|exact(F.exp _ _ (by omega)).lo (by omega)|exact(F.either _ _ (by omega)).lo (by omega)|exact(F.ae _ _ _ (by omega)).lo (by omega)|exact(F.both _ _ (by omega)).lo (by omega)|exact(F.au _ _ _ (by omega)).lo (by omega)|exact(F.test _ _ (by omega)).lo (by omega)|exact(F.av _ _ _ (by omega)).lo (by omega)|exact(F.join _ _ (by omega)).lo (by omega)|exact(F.sum _ _ (by omega)).lo (by omega)|exact(F.aI _ _ _ (by omega)).lo (by omega)|exact(F.term _ _ (by omega)).lo (by omega)|exact(F.aw _ _ _ (by omega)).lo (by omega)|exact(F.unary _ _ (by omega)).lo (by omega)|exact(F.post _ _ (by omega)).lo (by omega)|exact(F.an _ _ _ (by omega)).lo (by omega)|exact(F.args _ _ _ _ (by omega)).lo (by omega)|exact(F.simple _ _ (by omega)).lo (by omega)|exact(F.table _ _ _ _ _ (by omega)).lo (by omega)|exact(F.field _ _ _ (by omega)).lo (by omega)|exact(F.body _ _ _ (by omega)).lo (by omega)|exact(F.params _ _ _ (by omega)).lo (by omega)|exact(F.ah _ _ _ (by omega)).lo (by omega)|exact(F.aj _ _ _ (by omega)).lo (by omega)|exact(F.af _ _ _ (by omega)).lo (by omega)|exact(F.do_ _ _ _ (by omega)).lo (by omega)|exact(F.plain _ _ _ (by omega)).lo (by omega)|exact(F.choice _ _ _ _ _ (by omega)).lo (by omega)|exact(F.for_ _ _ _ (by omega)).lo (by omega)|exact(F.ai _ _ _ _ _ _ (by omega)).lo (by omega)|exact Sw.must P _ (by omega)|exact(Sw.must P _ (by omega)).lo (by omega)|exact Sw.name P (by omega)|exact(Sw.name P (by omega)).lo (by omega)|exact Sw.err _|exact Sw.ok _ (by omega) (by omega)|(simp (disch:=omega) only[P.pos,P.gI,P.op1,P.gJ,P.un];done)|refine Sb.bind (F.block _ _ (by omega)) (λ_ _ _=>cx P _ _ _ _) λ_ _ _ _=>?_|apply Sw.bind|intro _ _ _ _|refine Sw.is P (by decide) (by omega) (λ_=>?_) ?_
 both i d hi:=by
  rw[fu.eq_2,fu.eq_2]
  repeat' first|exact F.exp _ _ (by omega)|exact F.either _ _ (by omega)|exact F.ae _ _ _ (by omega)|exact F.both _ _ (by omega)|exact F.au _ _ _ (by omega)|exact F.test _ _ (by omega)|exact F.av _ _ _ (by omega)|exact F.join _ _ (by omega)|exact F.sum _ _ (by omega)|exact F.aI _ _ _ (by omega)|exact F.term _ _ (by omega)|exact F.aw _ _ _ (by omega)|exact F.unary _ _ (by omega)|exact F.post _ _ (by omega)|exact F.an _ _ _ (by omega)|exact F.args _ _ _ _ (by omega)|exact F.simple _ _ (by omega)|exact F.table _ _ _ _ _ (by omega)|exact F.field _ _ _ (by omega)|exact F.body _ _ _ (by omega)|exact F.params _ _ _ (by omega)|exact F.ah _ _ _ (by omega)|exact F.aj _ _ _ (by omega)|exact F.af _ _ _ (by omega)|exact F.do_ _ _ _ (by omega)|exact F.plain _ _ _ (by omega)|exact F.choice _ _ _ _ _ (by omega)|exact F.for_ _ _ _ (by omega)|exact F.ai _ _ _ _ _ _ (by omega)|exact(F.exp _ _ (by omega)).lo (by omega)|exact(F.either _ _ (by omega)).lo (by omega)|exact(F.ae _ _ _ (by omega)).lo (by omega)|exact(F.both _ _ (by omega)).lo (by omega)|exact(F.au _ _ _ (by omega)).lo (by omega)|exact(F.test _ _ (by omega)).lo (by omega)|exact(F.av _ _ _ (by omega)).lo (by omega)|exact(F.join _ _ (by omega)).lo (by omega)|exact(F.sum _ _ (by omega)).lo (by omega)|exact(F.aI _ _ _ (by omega)).lo (by omega)|exact(F.term _ _ (by omega)).lo (by omega)|exact(F.aw _ _ _ (by omega)).lo (by omega)|exact(F.unary _ _ (by omega)).lo (by omega)|exact(F.post _ _ (by omega)).lo (by omega)|exact(F.an _ _ _ (by omega)).lo (by omega)|exact(F.args _ _ _ _ (by omega)).lo (by omega)|exact(F.simple _ _ (by omega)).lo (by omega)|exact(F.table _ _ _ _ _ (by omega)).lo (by omega)|exact(F.field _ _ _ (by omega)).lo (by omega)|exact(F.body _ _ _ (by omega)).lo (by omega)|exact(F.params _ _ _ (by omega)).lo (by omega)|exact(F.ah _ _ _ (by omega)).lo (by omega)|exact(F.aj _ _ _ (by omega)).lo (by omega)|exact(F.af _ _ _ (by omega)).lo (by omega)|exact(F.do_ _ _ _ (by omega)).lo (by omega)|exact(F.plain _ _ _ (by omega)).lo (by omega)|exact(F.choice _ _ _ _ _ (by omega)).lo (by omega)|exact(F.for_ _ _ _ (by omega)).lo (by omega)|exact(F.ai _ _ _ _ _ _ (by omega)).lo (by omega)|exact Sw.must P _ (by omega)|exact(Sw.must P _ (by omega)).lo (by omega)|exact Sw.name P (by omega)|exact(Sw.name P (by omega)).lo (by omega)|exact Sw.err _|exact Sw.ok _ (by omega) (by omega)|(simp (disch:=omega) only[P.pos,P.gI,P.op1,P.gJ,P.un];done)|refine Sb.bind (F.block _ _ (by omega)) (λ_ _ _=>cx P _ _ _ _) λ_ _ _ _=>?_|apply Sw.bind|intro _ _ _ _|refine Sw.is P (by decide) (by omega) (λ_=>?_) ?_
 au e i d hi:=by
  rw[eF.eq_2,eF.eq_2];refine Sw.is P (by decide) hi (λhlt=>?_) (Sw.ok _ (by omega) hi);simp (disch:=omega) only[P.pos,P.text,P.num]
  repeat' first|exact F.exp _ _ (by omega)|exact F.either _ _ (by omega)|exact F.ae _ _ _ (by omega)|exact F.both _ _ (by omega)|exact F.au _ _ _ (by omega)|exact F.test _ _ (by omega)|exact F.av _ _ _ (by omega)|exact F.join _ _ (by omega)|exact F.sum _ _ (by omega)|exact F.aI _ _ _ (by omega)|exact F.term _ _ (by omega)|exact F.aw _ _ _ (by omega)|exact F.unary _ _ (by omega)|exact F.post _ _ (by omega)|exact F.an _ _ _ (by omega)|exact F.args _ _ _ _ (by omega)|exact F.simple _ _ (by omega)|exact F.table _ _ _ _ _ (by omega)|exact F.field _ _ _ (by omega)|exact F.body _ _ _ (by omega)|exact F.params _ _ _ (by omega)|exact F.ah _ _ _ (by omega)|exact F.aj _ _ _ (by omega)|exact F.af _ _ _ (by omega)|exact F.do_ _ _ _ (by omega)|exact F.plain _ _ _ (by omega)|exact F.choice _ _ _ _ _ (by omega)|exact F.for_ _ _ _ (by omega)|exact F.ai _ _ _ _ _ _ (by omega)|exact(F.exp _ _ (by omega)).lo (by omega)|exact(F.either _ _ (by omega)).lo (by omega)|exact(F.ae _ _ _ (by omega)).lo (by omega)|exact(F.both _ _ (by omega)).lo (by omega)|exact(F.au _ _ _ (by omega)).lo (by omega)|exact(F.test _ _ (by omega)).lo (by omega)|exact(F.av _ _ _ (by omega)).lo (by omega)|exact(F.join _ _ (by omega)).lo (by omega)|exact(F.sum _ _ (by omega)).lo (by omega)|exact(F.aI _ _ _ (by omega)).lo (by omega)|exact(F.term _ _ (by omega)).lo (by omega)|exact(F.aw _ _ _ (by omega)).lo (by omega)|exact(F.unary _ _ (by omega)).lo (by omega)|exact(F.post _ _ (by omega)).lo (by omega)|exact(F.an _ _ _ (by omega)).lo (by omega)|exact(F.args _ _ _ _ (by omega)).lo (by omega)|exact(F.simple _ _ (by omega)).lo (by omega)|exact(F.table _ _ _ _ _ (by omega)).lo (by omega)|exact(F.field _ _ _ (by omega)).lo (by omega)|exact(F.body _ _ _ (by omega)).lo (by omega)|exact(F.params _ _ _ (by omega)).lo (by omega)|exact(F.ah _ _ _ (by omega)).lo (by omega)|exact(F.aj _ _ _ (by omega)).lo (by omega)|exact(F.af _ _ _ (by omega)).lo (by omega)|exact(F.do_ _ _ _ (by omega)).lo (by omega)|exact(F.plain _ _ _ (by omega)).lo (by omega)|exact(F.choice _ _ _ _ _ (by omega)).lo (by omega)|exact(F.for_ _ _ _ (by omega)).lo (by omega)|exact(F.ai _ _ _ _ _ _ (by omega)).lo (by omega)|exact Sw.must P _ (by omega)|exact(Sw.must P _ (by omega)).lo (by omega)|exact Sw.name P (by omega)|exact(Sw.name P (by omega)).lo (by omega)|exact Sw.err _|exact Sw.ok _ (by omega) (by omega)|(simp (disch:=omega) only[P.pos,P.gI,P.op1,P.gJ,P.un];done)|refine Sb.bind (F.block _ _ (by omega)) (λ_ _ _=>cx P _ _ _ _) λ_ _ _ _=>?_|apply Sw.bind|intro _ _ _ _|refine Sw.is P (by decide) (by omega) (λ_=>?_) ?_
 test i d hi:=by
  rw[fw.eq_2,fw.eq_2]
  repeat' first|exact F.exp _ _ (by omega)|exact F.either _ _ (by omega)|exact F.ae _ _ _ (by omega)|exact F.both _ _ (by omega)|exact F.au _ _ _ (by omega)|exact F.test _ _ (by omega)|exact F.av _ _ _ (by omega)|exact F.join _ _ (by omega)|exact F.sum _ _ (by omega)|exact F.aI _ _ _ (by omega)|exact F.term _ _ (by omega)|exact F.aw _ _ _ (by omega)|exact F.unary _ _ (by omega)|exact F.post _ _ (by omega)|exact F.an _ _ _ (by omega)|exact F.args _ _ _ _ (by omega)|exact F.simple _ _ (by omega)|exact F.table _ _ _ _ _ (by omega)|exact F.field _ _ _ (by omega)|exact F.body _ _ _ (by omega)|exact F.params _ _ _ (by omega)|exact F.ah _ _ _ (by omega)|exact F.aj _ _ _ (by omega)|exact F.af _ _ _ (by omega)|exact F.do_ _ _ _ (by omega)|exact F.plain _ _ _ (by omega)|exact F.choice _ _ _ _ _ (by omega)|exact F.for_ _ _ _ (by omega)|exact F.ai _ _ _ _ _ _ (by omega)|exact(F.exp _ _ (by omega)).lo (by omega)|exact(F.either _ _ (by omega)).lo (by omega)|exact(F.ae _ _ _ (by omega)).lo (by omega)|exact(F.both _ _ (by omega)).lo (by omega)|exact(F.au _ _ _ (by omega)).lo (by omega)|exact(F.test _ _ (by omega)).lo (by omega)|exact(F.av _ _ _ (by omega)).lo (by omega)|exact(F.join _ _ (by omega)).lo (by omega)|exact(F.sum _ _ (by omega)).lo (by omega)|exact(F.aI _ _ _ (by omega)).lo (by omega)|exact(F.term _ _ (by omega)).lo (by omega)|exact(F.aw _ _ _ (by omega)).lo (by omega)|exact(F.unary _ _ (by omega)).lo (by omega)|exact(F.post _ _ (by omega)).lo (by omega)|exact(F.an _ _ _ (by omega)).lo (by omega)|exact(F.args _ _ _ _ (by omega)).lo (by omega)|exact(F.simple _ _ (by omega)).lo (by omega)|exact(F.table _ _ _ _ _ (by omega)).lo (by omega)|exact(F.field _ _ _ (by omega)).lo (by omega)|exact(F.body _ _ _ (by omega)).lo (by omega)|exact(F.params _ _ _ (by omega)).lo (by omega)|exact(F.ah _ _ _ (by omega)).lo (by omega)|exact(F.aj _ _ _ (by omega)).lo (by omega)|exact(F.af _ _ _ (by omega)).lo (by omega)|exact(F.do_ _ _ _ (by omega)).lo (by omega)|exact(F.plain _ _ _ (by omega)).lo (by omega)|exact(F.choice _ _ _ _ _ (by omega)).lo (by omega)|exact(F.for_ _ _ _ (by omega)).lo (by omega)|exact(F.ai _ _ _ _ _ _ (by omega)).lo (by omega)|exact Sw.must P _ (by omega)|exact(Sw.must P _ (by omega)).lo (by omega)|exact Sw.name P (by omega)|exact(Sw.name P (by omega)).lo (by omega)|exact Sw.err _|exact Sw.ok _ (by omega) (by omega)|(simp (disch:=omega) only[P.pos,P.gI,P.op1,P.gJ,P.un];done)|refine Sb.bind (F.block _ _ (by omega)) (λ_ _ _=>cx P _ _ _ _) λ_ _ _ _=>?_|apply Sw.bind|intro _ _ _ _|refine Sw.is P (by decide) (by omega) (λ_=>?_) ?_
 av e i d hi:=by
  rw[eG.eq_2,eG.eq_2];rw[P.gI hi];refine Sw.ite (λ_=>Sw.ok _ (by omega) hi) λg=>?_;have hlt:=P.olt hi _ _ (by rw[P.gI hi];exact g);simp (disch:=omega) only[P.pos,P.text,P.num]
  repeat' first|exact F.exp _ _ (by omega)|exact F.either _ _ (by omega)|exact F.ae _ _ _ (by omega)|exact F.both _ _ (by omega)|exact F.au _ _ _ (by omega)|exact F.test _ _ (by omega)|exact F.av _ _ _ (by omega)|exact F.join _ _ (by omega)|exact F.sum _ _ (by omega)|exact F.aI _ _ _ (by omega)|exact F.term _ _ (by omega)|exact F.aw _ _ _ (by omega)|exact F.unary _ _ (by omega)|exact F.post _ _ (by omega)|exact F.an _ _ _ (by omega)|exact F.args _ _ _ _ (by omega)|exact F.simple _ _ (by omega)|exact F.table _ _ _ _ _ (by omega)|exact F.field _ _ _ (by omega)|exact F.body _ _ _ (by omega)|exact F.params _ _ _ (by omega)|exact F.ah _ _ _ (by omega)|exact F.aj _ _ _ (by omega)|exact F.af _ _ _ (by omega)|exact F.do_ _ _ _ (by omega)|exact F.plain _ _ _ (by omega)|exact F.choice _ _ _ _ _ (by omega)|exact F.for_ _ _ _ (by omega)|exact F.ai _ _ _ _ _ _ (by omega)|exact(F.exp _ _ (by omega)).lo (by omega)|exact(F.either _ _ (by omega)).lo (by omega)|exact(F.ae _ _ _ (by omega)).lo (by omega)|exact(F.both _ _ (by omega)).lo (by omega)|exact(F.au _ _ _ (by omega)).lo (by omega)|exact(F.test _ _ (by omega)).lo (by omega)|exact(F.av _ _ _ (by omega)).lo (by omega)|exact(F.join _ _ (by omega)).lo (by omega)|exact(F.sum _ _ (by omega)).lo (by omega)|exact(F.aI _ _ _ (by omega)).lo (by omega)|exact(F.term _ _ (by omega)).lo (by omega)|exact(F.aw _ _ _ (by omega)).lo (by omega)|exact(F.unary _ _ (by omega)).lo (by omega)|exact(F.post _ _ (by omega)).lo (by omega)|exact(F.an _ _ _ (by omega)).lo (by omega)|exact(F.args _ _ _ _ (by omega)).lo (by omega)|exact(F.simple _ _ (by omega)).lo (by omega)|exact(F.table _ _ _ _ _ (by omega)).lo (by omega)|exact(F.field _ _ _ (by omega)).lo (by omega)|exact(F.body _ _ _ (by omega)).lo (by omega)|exact(F.params _ _ _ (by omega)).lo (by omega)|exact(F.ah _ _ _ (by omega)).lo (by omega)|exact(F.aj _ _ _ (by omega)).lo (by omega)|exact(F.af _ _ _ (by omega)).lo (by omega)|exact(F.do_ _ _ _ (by omega)).lo (by omega)|exact(F.plain _ _ _ (by omega)).lo (by omega)|exact(F.choice _ _ _ _ _ (by omega)).lo (by omega)|exact(F.for_ _ _ _ (by omega)).lo (by omega)|exact(F.ai _ _ _ _ _ _ (by omega)).lo (by omega)|exact Sw.must P _ (by omega)|exact(Sw.must P _ (by omega)).lo (by omega)|exact Sw.name P (by omega)|exact(Sw.name P (by omega)).lo (by omega)|exact Sw.err _|exact Sw.ok _ (by omega) (by omega)|(simp (disch:=omega) only[P.pos,P.gI,P.op1,P.gJ,P.un];done)|refine Sb.bind (F.block _ _ (by omega)) (λ_ _ _=>cx P _ _ _ _) λ_ _ _ _=>?_|apply Sw.bind|intro _ _ _ _|refine Sw.is P (by decide) (by omega) (λ_=>?_) ?_
 join i d hi:=by
  rw[fi.eq_2,fi.eq_2];refine Sw.bind (F.sum _ _ hi) λe j h1 h2=>?_;refine Sw.is P (by decide) h2 (λhlt=>?_) (Sw.ok _ (by omega) h2);refine Sw.ite (λ_=>Sw.err _) λ_=>?_;simp (disch:=omega) only[P.pos,P.text,P.num]
  repeat' first|exact F.exp _ _ (by omega)|exact F.either _ _ (by omega)|exact F.ae _ _ _ (by omega)|exact F.both _ _ (by omega)|exact F.au _ _ _ (by omega)|exact F.test _ _ (by omega)|exact F.av _ _ _ (by omega)|exact F.join _ _ (by omega)|exact F.sum _ _ (by omega)|exact F.aI _ _ _ (by omega)|exact F.term _ _ (by omega)|exact F.aw _ _ _ (by omega)|exact F.unary _ _ (by omega)|exact F.post _ _ (by omega)|exact F.an _ _ _ (by omega)|exact F.args _ _ _ _ (by omega)|exact F.simple _ _ (by omega)|exact F.table _ _ _ _ _ (by omega)|exact F.field _ _ _ (by omega)|exact F.body _ _ _ (by omega)|exact F.params _ _ _ (by omega)|exact F.ah _ _ _ (by omega)|exact F.aj _ _ _ (by omega)|exact F.af _ _ _ (by omega)|exact F.do_ _ _ _ (by omega)|exact F.plain _ _ _ (by omega)|exact F.choice _ _ _ _ _ (by omega)|exact F.for_ _ _ _ (by omega)|exact F.ai _ _ _ _ _ _ (by omega)|exact(F.exp _ _ (by omega)).lo (by omega)|exact(F.either _ _ (by omega)).lo (by omega)|exact(F.ae _ _ _ (by omega)).lo (by omega)|exact(F.both _ _ (by omega)).lo (by omega)|exact(F.au _ _ _ (by omega)).lo (by omega)|exact(F.test _ _ (by omega)).lo (by omega)|exact(F.av _ _ _ (by omega)).lo (by omega)|exact(F.join _ _ (by omega)).lo (by omega)|exact(F.sum _ _ (by omega)).lo (by omega)|exact(F.aI _ _ _ (by omega)).lo (by omega)|exact(F.term _ _ (by omega)).lo (by omega)|exact(F.aw _ _ _ (by omega)).lo (by omega)|exact(F.unary _ _ (by omega)).lo (by omega)|exact(F.post _ _ (by omega)).lo (by omega)|exact(F.an _ _ _ (by omega)).lo (by omega)|exact(F.args _ _ _ _ (by omega)).lo (by omega)|exact(F.simple _ _ (by omega)).lo (by omega)|exact(F.table _ _ _ _ _ (by omega)).lo (by omega)|exact(F.field _ _ _ (by omega)).lo (by omega)|exact(F.body _ _ _ (by omega)).lo (by omega)|exact(F.params _ _ _ (by omega)).lo (by omega)|exact(F.ah _ _ _ (by omega)).lo (by omega)|exact(F.aj _ _ _ (by omega)).lo (by omega)|exact(F.af _ _ _ (by omega)).lo (by omega)|exact(F.do_ _ _ _ (by omega)).lo (by omega)|exact(F.plain _ _ _ (by omega)).lo (by omega)|exact(F.choice _ _ _ _ _ (by omega)).lo (by omega)|exact(F.for_ _ _ _ (by omega)).lo (by omega)|exact(F.ai _ _ _ _ _ _ (by omega)).lo (by omega)|exact Sw.must P _ (by omega)|exact(Sw.must P _ (by omega)).lo (by omega)|exact Sw.name P (by omega)|exact(Sw.name P (by omega)).lo (by omega)|exact Sw.err _|exact Sw.ok _ (by omega) (by omega)|(simp (disch:=omega) only[P.pos,P.gI,P.op1,P.gJ,P.un];done)|refine Sb.bind (F.block _ _ (by omega)) (λ_ _ _=>cx P _ _ _ _) λ_ _ _ _=>?_|apply Sw.bind|intro _ _ _ _|refine Sw.is P (by decide) (by omega) (λ_=>?_) ?_
 sum i d hi:=by
  rw[ig.eq_2,ig.eq_2]
  repeat' first|exact F.exp _ _ (by omega)|exact F.either _ _ (by omega)|exact F.ae _ _ _ (by omega)|exact F.both _ _ (by omega)|exact F.au _ _ _ (by omega)|exact F.test _ _ (by omega)|exact F.av _ _ _ (by omega)|exact F.join _ _ (by omega)|exact F.sum _ _ (by omega)|exact F.aI _ _ _ (by omega)|exact F.term _ _ (by omega)|exact F.aw _ _ _ (by omega)|exact F.unary _ _ (by omega)|exact F.post _ _ (by omega)|exact F.an _ _ _ (by omega)|exact F.args _ _ _ _ (by omega)|exact F.simple _ _ (by omega)|exact F.table _ _ _ _ _ (by omega)|exact F.field _ _ _ (by omega)|exact F.body _ _ _ (by omega)|exact F.params _ _ _ (by omega)|exact F.ah _ _ _ (by omega)|exact F.aj _ _ _ (by omega)|exact F.af _ _ _ (by omega)|exact F.do_ _ _ _ (by omega)|exact F.plain _ _ _ (by omega)|exact F.choice _ _ _ _ _ (by omega)|exact F.for_ _ _ _ (by omega)|exact F.ai _ _ _ _ _ _ (by omega)|exact(F.exp _ _ (by omega)).lo (by omega)|exact(F.either _ _ (by omega)).lo (by omega)|exact(F.ae _ _ _ (by omega)).lo (by omega)|exact(F.both _ _ (by omega)).lo (by omega)|exact(F.au _ _ _ (by omega)).lo (by omega)|exact(F.test _ _ (by omega)).lo (by omega)|exact(F.av _ _ _ (by omega)).lo (by omega)|exact(F.join _ _ (by omega)).lo (by omega)|exact(F.sum _ _ (by omega)).lo (by omega)|exact(F.aI _ _ _ (by omega)).lo (by omega)|exact(F.term _ _ (by omega)).lo (by omega)|exact(F.aw _ _ _ (by omega)).lo (by omega)|exact(F.unary _ _ (by omega)).lo (by omega)|exact(F.post _ _ (by omega)).lo (by omega)|exact(F.an _ _ _ (by omega)).lo (by omega)|exact(F.args _ _ _ _ (by omega)).lo (by omega)|exact(F.simple _ _ (by omega)).lo (by omega)|exact(F.table _ _ _ _ _ (by omega)).lo (by omega)|exact(F.field _ _ _ (by omega)).lo (by omega)|exact(F.body _ _ _ (by omega)).lo (by omega)|exact(F.params _ _ _ (by omega)).lo (by omega)|exact(F.ah _ _ _ (by omega)).lo (by omega)|exact(F.aj _ _ _ (by omega)).lo (by omega)|exact(F.af _ _ _ (by omega)).lo (by omega)|exact(F.do_ _ _ _ (by omega)).lo (by omega)|exact(F.plain _ _ _ (by omega)).lo (by omega)|exact(F.choice _ _ _ _ _ (by omega)).lo (by omega)|exact(F.for_ _ _ _ (by omega)).lo (by omega)|exact(F.ai _ _ _ _ _ _ (by omega)).lo (by omega)|exact Sw.must P _ (by omega)|exact(Sw.must P _ (by omega)).lo (by omega)|exact Sw.name P (by omega)|exact(Sw.name P (by omega)).lo (by omega)|exact Sw.err _|exact Sw.ok _ (by omega) (by omega)|(simp (disch:=omega) only[P.pos,P.gI,P.op1,P.gJ,P.un];done)|refine Sb.bind (F.block _ _ (by omega)) (λ_ _ _=>cx P _ _ _ _) λ_ _ _ _=>?_|apply Sw.bind|intro _ _ _ _|refine Sw.is P (by decide) (by omega) (λ_=>?_) ?_
 aI e i d hi:=by
  rw[fT.eq_2,fT.eq_2];rw[P.op1 hi];refine Sw.ite (λ_=>Sw.ok _ (by omega) hi) λg=>?_;have hlt:=P.olt hi _ _ (by rw[P.op1 hi];exact g);simp (disch:=omega) only[P.pos,P.text,P.num]
  repeat' first|exact F.exp _ _ (by omega)|exact F.either _ _ (by omega)|exact F.ae _ _ _ (by omega)|exact F.both _ _ (by omega)|exact F.au _ _ _ (by omega)|exact F.test _ _ (by omega)|exact F.av _ _ _ (by omega)|exact F.join _ _ (by omega)|exact F.sum _ _ (by omega)|exact F.aI _ _ _ (by omega)|exact F.term _ _ (by omega)|exact F.aw _ _ _ (by omega)|exact F.unary _ _ (by omega)|exact F.post _ _ (by omega)|exact F.an _ _ _ (by omega)|exact F.args _ _ _ _ (by omega)|exact F.simple _ _ (by omega)|exact F.table _ _ _ _ _ (by omega)|exact F.field _ _ _ (by omega)|exact F.body _ _ _ (by omega)|exact F.params _ _ _ (by omega)|exact F.ah _ _ _ (by omega)|exact F.aj _ _ _ (by omega)|exact F.af _ _ _ (by omega)|exact F.do_ _ _ _ (by omega)|exact F.plain _ _ _ (by omega)|exact F.choice _ _ _ _ _ (by omega)|exact F.for_ _ _ _ (by omega)|exact F.ai _ _ _ _ _ _ (by omega)|exact(F.exp _ _ (by omega)).lo (by omega)|exact(F.either _ _ (by omega)).lo (by omega)|exact(F.ae _ _ _ (by omega)).lo (by omega)|exact(F.both _ _ (by omega)).lo (by omega)|exact(F.au _ _ _ (by omega)).lo (by omega)|exact(F.test _ _ (by omega)).lo (by omega)|exact(F.av _ _ _ (by omega)).lo (by omega)|exact(F.join _ _ (by omega)).lo (by omega)|exact(F.sum _ _ (by omega)).lo (by omega)|exact(F.aI _ _ _ (by omega)).lo (by omega)|exact(F.term _ _ (by omega)).lo (by omega)|exact(F.aw _ _ _ (by omega)).lo (by omega)|exact(F.unary _ _ (by omega)).lo (by omega)|exact(F.post _ _ (by omega)).lo (by omega)|exact(F.an _ _ _ (by omega)).lo (by omega)|exact(F.args _ _ _ _ (by omega)).lo (by omega)|exact(F.simple _ _ (by omega)).lo (by omega)|exact(F.table _ _ _ _ _ (by omega)).lo (by omega)|exact(F.field _ _ _ (by omega)).lo (by omega)|exact(F.body _ _ _ (by omega)).lo (by omega)|exact(F.params _ _ _ (by omega)).lo (by omega)|exact(F.ah _ _ _ (by omega)).lo (by omega)|exact(F.aj _ _ _ (by omega)).lo (by omega)|exact(F.af _ _ _ (by omega)).lo (by omega)|exact(F.do_ _ _ _ (by omega)).lo (by omega)|exact(F.plain _ _ _ (by omega)).lo (by omega)|exact(F.choice _ _ _ _ _ (by omega)).lo (by omega)|exact(F.for_ _ _ _ (by omega)).lo (by omega)|exact(F.ai _ _ _ _ _ _ (by omega)).lo (by omega)|exact Sw.must P _ (by omega)|exact(Sw.must P _ (by omega)).lo (by omega)|exact Sw.name P (by omega)|exact(Sw.name P (by omega)).lo (by omega)|exact Sw.err _|exact Sw.ok _ (by omega) (by omega)|(simp (disch:=omega) only[P.pos,P.gI,P.op1,P.gJ,P.un];done)|refine Sb.bind (F.block _ _ (by omega)) (λ_ _ _=>cx P _ _ _ _) λ_ _ _ _=>?_|apply Sw.bind|intro _ _ _ _|refine Sw.is P (by decide) (by omega) (λ_=>?_) ?_
 term i d hi:=by
  rw[fx.eq_2,fx.eq_2]
  repeat' first|exact F.exp _ _ (by omega)|exact F.either _ _ (by omega)|exact F.ae _ _ _ (by omega)|exact F.both _ _ (by omega)|exact F.au _ _ _ (by omega)|exact F.test _ _ (by omega)|exact F.av _ _ _ (by omega)|exact F.join _ _ (by omega)|exact F.sum _ _ (by omega)|exact F.aI _ _ _ (by omega)|exact F.term _ _ (by omega)|exact F.aw _ _ _ (by omega)|exact F.unary _ _ (by omega)|exact F.post _ _ (by omega)|exact F.an _ _ _ (by omega)|exact F.args _ _ _ _ (by omega)|exact F.simple _ _ (by omega)|exact F.table _ _ _ _ _ (by omega)|exact F.field _ _ _ (by omega)|exact F.body _ _ _ (by omega)|exact F.params _ _ _ (by omega)|exact F.ah _ _ _ (by omega)|exact F.aj _ _ _ (by omega)|exact F.af _ _ _ (by omega)|exact F.do_ _ _ _ (by omega)|exact F.plain _ _ _ (by omega)|exact F.choice _ _ _ _ _ (by omega)|exact F.for_ _ _ _ (by omega)|exact F.ai _ _ _ _ _ _ (by omega)|exact(F.exp _ _ (by omega)).lo (by omega)|exact(F.either _ _ (by omega)).lo (by omega)|exact(F.ae _ _ _ (by omega)).lo (by omega)|exact(F.both _ _ (by omega)).lo (by omega)|exact(F.au _ _ _ (by omega)).lo (by omega)|exact(F.test _ _ (by omega)).lo (by omega)|exact(F.av _ _ _ (by omega)).lo (by omega)|exact(F.join _ _ (by omega)).lo (by omega)|exact(F.sum _ _ (by omega)).lo (by omega)|exact(F.aI _ _ _ (by omega)).lo (by omega)|exact(F.term _ _ (by omega)).lo (by omega)|exact(F.aw _ _ _ (by omega)).lo (by omega)|exact(F.unary _ _ (by omega)).lo (by omega)|exact(F.post _ _ (by omega)).lo (by omega)|exact(F.an _ _ _ (by omega)).lo (by omega)|exact(F.args _ _ _ _ (by omega)).lo (by omega)|exact(F.simple _ _ (by omega)).lo (by omega)|exact(F.table _ _ _ _ _ (by omega)).lo (by omega)|exact(F.field _ _ _ (by omega)).lo (by omega)|exact(F.body _ _ _ (by omega)).lo (by omega)|exact(F.params _ _ _ (by omega)).lo (by omega)|exact(F.ah _ _ _ (by omega)).lo (by omega)|exact(F.aj _ _ _ (by omega)).lo (by omega)|exact(F.af _ _ _ (by omega)).lo (by omega)|exact(F.do_ _ _ _ (by omega)).lo (by omega)|exact(F.plain _ _ _ (by omega)).lo (by omega)|exact(F.choice _ _ _ _ _ (by omega)).lo (by omega)|exact(F.for_ _ _ _ (by omega)).lo (by omega)|exact(F.ai _ _ _ _ _ _ (by omega)).lo (by omega)|exact Sw.must P _ (by omega)|exact(Sw.must P _ (by omega)).lo (by omega)|exact Sw.name P (by omega)|exact(Sw.name P (by omega)).lo (by omega)|exact Sw.err _|exact Sw.ok _ (by omega) (by omega)|(simp (disch:=omega) only[P.pos,P.gI,P.op1,P.gJ,P.un];done)|refine Sb.bind (F.block _ _ (by omega)) (λ_ _ _=>cx P _ _ _ _) λ_ _ _ _=>?_|apply Sw.bind|intro _ _ _ _|refine Sw.is P (by decide) (by omega) (λ_=>?_) ?_
 aw e i d hi:=by
  rw[eH.eq_2,eH.eq_2];rw[P.gJ hi];refine Sw.ite (λ_=>Sw.ok _ (by omega) hi) λg=>?_;have hlt:=P.olt hi _ _ (by rw[P.gJ hi];exact g);simp (disch:=omega) only[P.pos,P.text,P.num]
  repeat' first|exact F.exp _ _ (by omega)|exact F.either _ _ (by omega)|exact F.ae _ _ _ (by omega)|exact F.both _ _ (by omega)|exact F.au _ _ _ (by omega)|exact F.test _ _ (by omega)|exact F.av _ _ _ (by omega)|exact F.join _ _ (by omega)|exact F.sum _ _ (by omega)|exact F.aI _ _ _ (by omega)|exact F.term _ _ (by omega)|exact F.aw _ _ _ (by omega)|exact F.unary _ _ (by omega)|exact F.post _ _ (by omega)|exact F.an _ _ _ (by omega)|exact F.args _ _ _ _ (by omega)|exact F.simple _ _ (by omega)|exact F.table _ _ _ _ _ (by omega)|exact F.field _ _ _ (by omega)|exact F.body _ _ _ (by omega)|exact F.params _ _ _ (by omega)|exact F.ah _ _ _ (by omega)|exact F.aj _ _ _ (by omega)|exact F.af _ _ _ (by omega)|exact F.do_ _ _ _ (by omega)|exact F.plain _ _ _ (by omega)|exact F.choice _ _ _ _ _ (by omega)|exact F.for_ _ _ _ (by omega)|exact F.ai _ _ _ _ _ _ (by omega)|exact(F.exp _ _ (by omega)).lo (by omega)|exact(F.either _ _ (by omega)).lo (by omega)|exact(F.ae _ _ _ (by omega)).lo (by omega)|exact(F.both _ _ (by omega)).lo (by omega)|exact(F.au _ _ _ (by omega)).lo (by omega)|exact(F.test _ _ (by omega)).lo (by omega)|exact(F.av _ _ _ (by omega)).lo (by omega)|exact(F.join _ _ (by omega)).lo (by omega)|exact(F.sum _ _ (by omega)).lo (by omega)|exact(F.aI _ _ _ (by omega)).lo (by omega)|exact(F.term _ _ (by omega)).lo (by omega)|exact(F.aw _ _ _ (by omega)).lo (by omega)|exact(F.unary _ _ (by omega)).lo (by omega)|exact(F.post _ _ (by omega)).lo (by omega)|exact(F.an _ _ _ (by omega)).lo (by omega)|exact(F.args _ _ _ _ (by omega)).lo (by omega)|exact(F.simple _ _ (by omega)).lo (by omega)|exact(F.table _ _ _ _ _ (by omega)).lo (by omega)|exact(F.field _ _ _ (by omega)).lo (by omega)|exact(F.body _ _ _ (by omega)).lo (by omega)|exact(F.params _ _ _ (by omega)).lo (by omega)|exact(F.ah _ _ _ (by omega)).lo (by omega)|exact(F.aj _ _ _ (by omega)).lo (by omega)|exact(F.af _ _ _ (by omega)).lo (by omega)|exact(F.do_ _ _ _ (by omega)).lo (by omega)|exact(F.plain _ _ _ (by omega)).lo (by omega)|exact(F.choice _ _ _ _ _ (by omega)).lo (by omega)|exact(F.for_ _ _ _ (by omega)).lo (by omega)|exact(F.ai _ _ _ _ _ _ (by omega)).lo (by omega)|exact Sw.must P _ (by omega)|exact(Sw.must P _ (by omega)).lo (by omega)|exact Sw.name P (by omega)|exact(Sw.name P (by omega)).lo (by omega)|exact Sw.err _|exact Sw.ok _ (by omega) (by omega)|(simp (disch:=omega) only[P.pos,P.gI,P.op1,P.gJ,P.un];done)|refine Sb.bind (F.block _ _ (by omega)) (λ_ _ _=>cx P _ _ _ _) λ_ _ _ _=>?_|apply Sw.bind|intro _ _ _ _|refine Sw.is P (by decide) (by omega) (λ_=>?_) ?_
 unary i d hi:=by
  rw[dN.eq_2,dN.eq_2];rw[P.un hi];refine Sw.ite (λ_=>F.post _ _ hi) λg=>?_;have hlt:=P.ult hi (by rw[P.un hi];exact g);refine Sw.ite (λ_=>Sw.err _) λ_=>?_;simp (disch:=omega) only[P.pos,P.text,P.num]
  repeat' first|exact F.exp _ _ (by omega)|exact F.either _ _ (by omega)|exact F.ae _ _ _ (by omega)|exact F.both _ _ (by omega)|exact F.au _ _ _ (by omega)|exact F.test _ _ (by omega)|exact F.av _ _ _ (by omega)|exact F.join _ _ (by omega)|exact F.sum _ _ (by omega)|exact F.aI _ _ _ (by omega)|exact F.term _ _ (by omega)|exact F.aw _ _ _ (by omega)|exact F.unary _ _ (by omega)|exact F.post _ _ (by omega)|exact F.an _ _ _ (by omega)|exact F.args _ _ _ _ (by omega)|exact F.simple _ _ (by omega)|exact F.table _ _ _ _ _ (by omega)|exact F.field _ _ _ (by omega)|exact F.body _ _ _ (by omega)|exact F.params _ _ _ (by omega)|exact F.ah _ _ _ (by omega)|exact F.aj _ _ _ (by omega)|exact F.af _ _ _ (by omega)|exact F.do_ _ _ _ (by omega)|exact F.plain _ _ _ (by omega)|exact F.choice _ _ _ _ _ (by omega)|exact F.for_ _ _ _ (by omega)|exact F.ai _ _ _ _ _ _ (by omega)|exact(F.exp _ _ (by omega)).lo (by omega)|exact(F.either _ _ (by omega)).lo (by omega)|exact(F.ae _ _ _ (by omega)).lo (by omega)|exact(F.both _ _ (by omega)).lo (by omega)|exact(F.au _ _ _ (by omega)).lo (by omega)|exact(F.test _ _ (by omega)).lo (by omega)|exact(F.av _ _ _ (by omega)).lo (by omega)|exact(F.join _ _ (by omega)).lo (by omega)|exact(F.sum _ _ (by omega)).lo (by omega)|exact(F.aI _ _ _ (by omega)).lo (by omega)|exact(F.term _ _ (by omega)).lo (by omega)|exact(F.aw _ _ _ (by omega)).lo (by omega)|exact(F.unary _ _ (by omega)).lo (by omega)|exact(F.post _ _ (by omega)).lo (by omega)|exact(F.an _ _ _ (by omega)).lo (by omega)|exact(F.args _ _ _ _ (by omega)).lo (by omega)|exact(F.simple _ _ (by omega)).lo (by omega)|exact(F.table _ _ _ _ _ (by omega)).lo (by omega)|exact(F.field _ _ _ (by omega)).lo (by omega)|exact(F.body _ _ _ (by omega)).lo (by omega)|exact(F.params _ _ _ (by omega)).lo (by omega)|exact(F.ah _ _ _ (by omega)).lo (by omega)|exact(F.aj _ _ _ (by omega)).lo (by omega)|exact(F.af _ _ _ (by omega)).lo (by omega)|exact(F.do_ _ _ _ (by omega)).lo (by omega)|exact(F.plain _ _ _ (by omega)).lo (by omega)|exact(F.choice _ _ _ _ _ (by omega)).lo (by omega)|exact(F.for_ _ _ _ (by omega)).lo (by omega)|exact(F.ai _ _ _ _ _ _ (by omega)).lo (by omega)|exact Sw.must P _ (by omega)|exact(Sw.must P _ (by omega)).lo (by omega)|exact Sw.name P (by omega)|exact(Sw.name P (by omega)).lo (by omega)|exact Sw.err _|exact Sw.ok _ (by omega) (by omega)|(simp (disch:=omega) only[P.pos,P.gI,P.op1,P.gJ,P.un];done)|refine Sb.bind (F.block _ _ (by omega)) (λ_ _ _=>cx P _ _ _ _) λ_ _ _ _=>?_|apply Sw.bind|intro _ _ _ _|refine Sw.is P (by decide) (by omega) (λ_=>?_) ?_
 post i d hi:=by
  have h0:Sw α (i+1) (fj T1 (n+1) i d) (if bC T1 i=2∨isA T1 [40] i=true then (dc T n i d).bind λe j=>dI T n e j d else dc T n i d):=by
   rw[fj.eq_2];refine Sw.ite (λ_=>?_) λ_=>F.simple _ _ hi
   repeat' first|exact F.exp _ _ (by omega)|exact F.either _ _ (by omega)|exact F.ae _ _ _ (by omega)|exact F.both _ _ (by omega)|exact F.au _ _ _ (by omega)|exact F.test _ _ (by omega)|exact F.av _ _ _ (by omega)|exact F.join _ _ (by omega)|exact F.sum _ _ (by omega)|exact F.aI _ _ _ (by omega)|exact F.term _ _ (by omega)|exact F.aw _ _ _ (by omega)|exact F.unary _ _ (by omega)|exact F.post _ _ (by omega)|exact F.an _ _ _ (by omega)|exact F.args _ _ _ _ (by omega)|exact F.simple _ _ (by omega)|exact F.table _ _ _ _ _ (by omega)|exact F.field _ _ _ (by omega)|exact F.body _ _ _ (by omega)|exact F.params _ _ _ (by omega)|exact F.ah _ _ _ (by omega)|exact F.aj _ _ _ (by omega)|exact F.af _ _ _ (by omega)|exact F.do_ _ _ _ (by omega)|exact F.plain _ _ _ (by omega)|exact F.choice _ _ _ _ _ (by omega)|exact F.for_ _ _ _ (by omega)|exact F.ai _ _ _ _ _ _ (by omega)|exact(F.exp _ _ (by omega)).lo (by omega)|exact(F.either _ _ (by omega)).lo (by omega)|exact(F.ae _ _ _ (by omega)).lo (by omega)|exact(F.both _ _ (by omega)).lo (by omega)|exact(F.au _ _ _ (by omega)).lo (by omega)|exact(F.test _ _ (by omega)).lo (by omega)|exact(F.av _ _ _ (by omega)).lo (by omega)|exact(F.join _ _ (by omega)).lo (by omega)|exact(F.sum _ _ (by omega)).lo (by omega)|exact(F.aI _ _ _ (by omega)).lo (by omega)|exact(F.term _ _ (by omega)).lo (by omega)|exact(F.aw _ _ _ (by omega)).lo (by omega)|exact(F.unary _ _ (by omega)).lo (by omega)|exact(F.post _ _ (by omega)).lo (by omega)|exact(F.an _ _ _ (by omega)).lo (by omega)|exact(F.args _ _ _ _ (by omega)).lo (by omega)|exact(F.simple _ _ (by omega)).lo (by omega)|exact(F.table _ _ _ _ _ (by omega)).lo (by omega)|exact(F.field _ _ _ (by omega)).lo (by omega)|exact(F.body _ _ _ (by omega)).lo (by omega)|exact(F.params _ _ _ (by omega)).lo (by omega)|exact(F.ah _ _ _ (by omega)).lo (by omega)|exact(F.aj _ _ _ (by omega)).lo (by omega)|exact(F.af _ _ _ (by omega)).lo (by omega)|exact(F.do_ _ _ _ (by omega)).lo (by omega)|exact(F.plain _ _ _ (by omega)).lo (by omega)|exact(F.choice _ _ _ _ _ (by omega)).lo (by omega)|exact(F.for_ _ _ _ (by omega)).lo (by omega)|exact(F.ai _ _ _ _ _ _ (by omega)).lo (by omega)|exact Sw.must P _ (by omega)|exact(Sw.must P _ (by omega)).lo (by omega)|exact Sw.name P (by omega)|exact(Sw.name P (by omega)).lo (by omega)|exact Sw.err _|exact Sw.ok _ (by omega) (by omega)|(simp (disch:=omega) only[P.pos,P.gI,P.op1,P.gJ,P.un];done)|refine Sb.bind (F.block _ _ (by omega)) (λ_ _ _=>cx P _ _ _ _) λ_ _ _ _=>?_|apply Sw.bind|intro _ _ _ _|refine Sw.is P (by decide) (by omega) (λ_=>?_) ?_
  rw[fj.eq_2 T];refine h0.within (Nat.le_refl _) λhlt=>?_;rw[←P.kind hlt,←P.is (s:=[40]) (by decide) hi];exact h0
 an e i d hi:=by
  rw[dI.eq_2,dI.eq_2];refine Sw.is P (by decide) hi (λhlt=>?_) ?_
  ·refine Sw.bind (Sw.name P hlt) λs j h1 h2=>?_;rw[P.pos hlt];rcases Nat.lt_or_ge (i+1) α with g|g
   ·rw[P.pos g]
    repeat' first|exact F.exp _ _ (by omega)|exact F.either _ _ (by omega)|exact F.ae _ _ _ (by omega)|exact F.both _ _ (by omega)|exact F.au _ _ _ (by omega)|exact F.test _ _ (by omega)|exact F.av _ _ _ (by omega)|exact F.join _ _ (by omega)|exact F.sum _ _ (by omega)|exact F.aI _ _ _ (by omega)|exact F.term _ _ (by omega)|exact F.aw _ _ _ (by omega)|exact F.unary _ _ (by omega)|exact F.post _ _ (by omega)|exact F.an _ _ _ (by omega)|exact F.args _ _ _ _ (by omega)|exact F.simple _ _ (by omega)|exact F.table _ _ _ _ _ (by omega)|exact F.field _ _ _ (by omega)|exact F.body _ _ _ (by omega)|exact F.params _ _ _ (by omega)|exact F.ah _ _ _ (by omega)|exact F.aj _ _ _ (by omega)|exact F.af _ _ _ (by omega)|exact F.do_ _ _ _ (by omega)|exact F.plain _ _ _ (by omega)|exact F.choice _ _ _ _ _ (by omega)|exact F.for_ _ _ _ (by omega)|exact F.ai _ _ _ _ _ _ (by omega)|exact(F.exp _ _ (by omega)).lo (by omega)|exact(F.either _ _ (by omega)).lo (by omega)|exact(F.ae _ _ _ (by omega)).lo (by omega)|exact(F.both _ _ (by omega)).lo (by omega)|exact(F.au _ _ _ (by omega)).lo (by omega)|exact(F.test _ _ (by omega)).lo (by omega)|exact(F.av _ _ _ (by omega)).lo (by omega)|exact(F.join _ _ (by omega)).lo (by omega)|exact(F.sum _ _ (by omega)).lo (by omega)|exact(F.aI _ _ _ (by omega)).lo (by omega)|exact(F.term _ _ (by omega)).lo (by omega)|exact(F.aw _ _ _ (by omega)).lo (by omega)|exact(F.unary _ _ (by omega)).lo (by omega)|exact(F.post _ _ (by omega)).lo (by omega)|exact(F.an _ _ _ (by omega)).lo (by omega)|exact(F.args _ _ _ _ (by omega)).lo (by omega)|exact(F.simple _ _ (by omega)).lo (by omega)|exact(F.table _ _ _ _ _ (by omega)).lo (by omega)|exact(F.field _ _ _ (by omega)).lo (by omega)|exact(F.body _ _ _ (by omega)).lo (by omega)|exact(F.params _ _ _ (by omega)).lo (by omega)|exact(F.ah _ _ _ (by omega)).lo (by omega)|exact(F.aj _ _ _ (by omega)).lo (by omega)|exact(F.af _ _ _ (by omega)).lo (by omega)|exact(F.do_ _ _ _ (by omega)).lo (by omega)|exact(F.plain _ _ _ (by omega)).lo (by omega)|exact(F.choice _ _ _ _ _ (by omega)).lo (by omega)|exact(F.for_ _ _ _ (by omega)).lo (by omega)|exact(F.ai _ _ _ _ _ _ (by omega)).lo (by omega)|exact Sw.must P _ (by omega)|exact(Sw.must P _ (by omega)).lo (by omega)|exact Sw.name P (by omega)|exact(Sw.name P (by omega)).lo (by omega)|exact Sw.err _|exact Sw.ok _ (by omega) (by omega)|(simp (disch:=omega) only[P.pos,P.gI,P.op1,P.gJ,P.un];done)|refine Sb.bind (F.block _ _ (by omega)) (λ_ _ _=>cx P _ _ _ _) λ_ _ _ _=>?_|apply Sw.bind|intro _ _ _ _|refine Sw.is P (by decide) (by omega) (λ_=>?_) ?_
   ·omega
  refine Sw.is P (by decide) hi (λhlt=>?_) ?_
  ·simp (disch:=omega) only[P.pos,P.text,P.num]
   repeat' first|exact F.exp _ _ (by omega)|exact F.either _ _ (by omega)|exact F.ae _ _ _ (by omega)|exact F.both _ _ (by omega)|exact F.au _ _ _ (by omega)|exact F.test _ _ (by omega)|exact F.av _ _ _ (by omega)|exact F.join _ _ (by omega)|exact F.sum _ _ (by omega)|exact F.aI _ _ _ (by omega)|exact F.term _ _ (by omega)|exact F.aw _ _ _ (by omega)|exact F.unary _ _ (by omega)|exact F.post _ _ (by omega)|exact F.an _ _ _ (by omega)|exact F.args _ _ _ _ (by omega)|exact F.simple _ _ (by omega)|exact F.table _ _ _ _ _ (by omega)|exact F.field _ _ _ (by omega)|exact F.body _ _ _ (by omega)|exact F.params _ _ _ (by omega)|exact F.ah _ _ _ (by omega)|exact F.aj _ _ _ (by omega)|exact F.af _ _ _ (by omega)|exact F.do_ _ _ _ (by omega)|exact F.plain _ _ _ (by omega)|exact F.choice _ _ _ _ _ (by omega)|exact F.for_ _ _ _ (by omega)|exact F.ai _ _ _ _ _ _ (by omega)|exact(F.exp _ _ (by omega)).lo (by omega)|exact(F.either _ _ (by omega)).lo (by omega)|exact(F.ae _ _ _ (by omega)).lo (by omega)|exact(F.both _ _ (by omega)).lo (by omega)|exact(F.au _ _ _ (by omega)).lo (by omega)|exact(F.test _ _ (by omega)).lo (by omega)|exact(F.av _ _ _ (by omega)).lo (by omega)|exact(F.join _ _ (by omega)).lo (by omega)|exact(F.sum _ _ (by omega)).lo (by omega)|exact(F.aI _ _ _ (by omega)).lo (by omega)|exact(F.term _ _ (by omega)).lo (by omega)|exact(F.aw _ _ _ (by omega)).lo (by omega)|exact(F.unary _ _ (by omega)).lo (by omega)|exact(F.post _ _ (by omega)).lo (by omega)|exact(F.an _ _ _ (by omega)).lo (by omega)|exact(F.args _ _ _ _ (by omega)).lo (by omega)|exact(F.simple _ _ (by omega)).lo (by omega)|exact(F.table _ _ _ _ _ (by omega)).lo (by omega)|exact(F.field _ _ _ (by omega)).lo (by omega)|exact(F.body _ _ _ (by omega)).lo (by omega)|exact(F.params _ _ _ (by omega)).lo (by omega)|exact(F.ah _ _ _ (by omega)).lo (by omega)|exact(F.aj _ _ _ (by omega)).lo (by omega)|exact(F.af _ _ _ (by omega)).lo (by omega)|exact(F.do_ _ _ _ (by omega)).lo (by omega)|exact(F.plain _ _ _ (by omega)).lo (by omega)|exact(F.choice _ _ _ _ _ (by omega)).lo (by omega)|exact(F.for_ _ _ _ (by omega)).lo (by omega)|exact(F.ai _ _ _ _ _ _ (by omega)).lo (by omega)|exact Sw.must P _ (by omega)|exact(Sw.must P _ (by omega)).lo (by omega)|exact Sw.name P (by omega)|exact(Sw.name P (by omega)).lo (by omega)|exact Sw.err _|exact Sw.ok _ (by omega) (by omega)|(simp (disch:=omega) only[P.pos,P.gI,P.op1,P.gJ,P.un];done)|refine Sb.bind (F.block _ _ (by omega)) (λ_ _ _=>cx P _ _ _ _) λ_ _ _ _=>?_|apply Sw.bind|intro _ _ _ _|refine Sw.is P (by decide) (by omega) (λ_=>?_) ?_
  refine Sw.is P (by decide) hi (λhlt=>?_) (Sw.ok _ (by omega) hi);simp (disch:=omega) only[P.pos,P.text,P.num]
  repeat' first|exact F.exp _ _ (by omega)|exact F.either _ _ (by omega)|exact F.ae _ _ _ (by omega)|exact F.both _ _ (by omega)|exact F.au _ _ _ (by omega)|exact F.test _ _ (by omega)|exact F.av _ _ _ (by omega)|exact F.join _ _ (by omega)|exact F.sum _ _ (by omega)|exact F.aI _ _ _ (by omega)|exact F.term _ _ (by omega)|exact F.aw _ _ _ (by omega)|exact F.unary _ _ (by omega)|exact F.post _ _ (by omega)|exact F.an _ _ _ (by omega)|exact F.args _ _ _ _ (by omega)|exact F.simple _ _ (by omega)|exact F.table _ _ _ _ _ (by omega)|exact F.field _ _ _ (by omega)|exact F.body _ _ _ (by omega)|exact F.params _ _ _ (by omega)|exact F.ah _ _ _ (by omega)|exact F.aj _ _ _ (by omega)|exact F.af _ _ _ (by omega)|exact F.do_ _ _ _ (by omega)|exact F.plain _ _ _ (by omega)|exact F.choice _ _ _ _ _ (by omega)|exact F.for_ _ _ _ (by omega)|exact F.ai _ _ _ _ _ _ (by omega)|exact(F.exp _ _ (by omega)).lo (by omega)|exact(F.either _ _ (by omega)).lo (by omega)|exact(F.ae _ _ _ (by omega)).lo (by omega)|exact(F.both _ _ (by omega)).lo (by omega)|exact(F.au _ _ _ (by omega)).lo (by omega)|exact(F.test _ _ (by omega)).lo (by omega)|exact(F.av _ _ _ (by omega)).lo (by omega)|exact(F.join _ _ (by omega)).lo (by omega)|exact(F.sum _ _ (by omega)).lo (by omega)|exact(F.aI _ _ _ (by omega)).lo (by omega)|exact(F.term _ _ (by omega)).lo (by omega)|exact(F.aw _ _ _ (by omega)).lo (by omega)|exact(F.unary _ _ (by omega)).lo (by omega)|exact(F.post _ _ (by omega)).lo (by omega)|exact(F.an _ _ _ (by omega)).lo (by omega)|exact(F.args _ _ _ _ (by omega)).lo (by omega)|exact(F.simple _ _ (by omega)).lo (by omega)|exact(F.table _ _ _ _ _ (by omega)).lo (by omega)|exact(F.field _ _ _ (by omega)).lo (by omega)|exact(F.body _ _ _ (by omega)).lo (by omega)|exact(F.params _ _ _ (by omega)).lo (by omega)|exact(F.ah _ _ _ (by omega)).lo (by omega)|exact(F.aj _ _ _ (by omega)).lo (by omega)|exact(F.af _ _ _ (by omega)).lo (by omega)|exact(F.do_ _ _ _ (by omega)).lo (by omega)|exact(F.plain _ _ _ (by omega)).lo (by omega)|exact(F.choice _ _ _ _ _ (by omega)).lo (by omega)|exact(F.for_ _ _ _ (by omega)).lo (by omega)|exact(F.ai _ _ _ _ _ _ (by omega)).lo (by omega)|exact Sw.must P _ (by omega)|exact(Sw.must P _ (by omega)).lo (by omega)|exact Sw.name P (by omega)|exact(Sw.name P (by omega)).lo (by omega)|exact Sw.err _|exact Sw.ok _ (by omega) (by omega)|(simp (disch:=omega) only[P.pos,P.gI,P.op1,P.gJ,P.un];done)|refine Sb.bind (F.block _ _ (by omega)) (λ_ _ _=>cx P _ _ _ _) λ_ _ _ _=>?_|apply Sw.bind|intro _ _ _ _|refine Sw.is P (by decide) (by omega) (λ_=>?_) ?_
 args b out i d hi:=by
  rw[cT.eq_2,cT.eq_2];cases b with
  |true=>
   show Sw α (i+1) (if (!isA T1 [41] i)=true then (if out.length=16 then bF.err 8 i else (de T1 n i d).bind λe j=>cT T1 n false (out++[e]) j d) else (cC T1 [41] i).bind λ_ j=>.ok out j) (if (!isA T [41] i)=true then (if out.length=16 then bF.err 8 i else (de T n i d).bind λe j=>cT T n false (out++[e]) j d) else (cC T [41] i).bind λ_ j=>.ok out j);rw[P.is (s:=[41]) (by decide) hi];refine Sw.ite (λ_=>Sw.ite (λ_=>Sw.err _) λ_=>?_) λ_=>?_
   ·repeat' first|exact F.exp _ _ (by omega)|exact F.either _ _ (by omega)|exact F.ae _ _ _ (by omega)|exact F.both _ _ (by omega)|exact F.au _ _ _ (by omega)|exact F.test _ _ (by omega)|exact F.av _ _ _ (by omega)|exact F.join _ _ (by omega)|exact F.sum _ _ (by omega)|exact F.aI _ _ _ (by omega)|exact F.term _ _ (by omega)|exact F.aw _ _ _ (by omega)|exact F.unary _ _ (by omega)|exact F.post _ _ (by omega)|exact F.an _ _ _ (by omega)|exact F.args _ _ _ _ (by omega)|exact F.simple _ _ (by omega)|exact F.table _ _ _ _ _ (by omega)|exact F.field _ _ _ (by omega)|exact F.body _ _ _ (by omega)|exact F.params _ _ _ (by omega)|exact F.ah _ _ _ (by omega)|exact F.aj _ _ _ (by omega)|exact F.af _ _ _ (by omega)|exact F.do_ _ _ _ (by omega)|exact F.plain _ _ _ (by omega)|exact F.choice _ _ _ _ _ (by omega)|exact F.for_ _ _ _ (by omega)|exact F.ai _ _ _ _ _ _ (by omega)|exact(F.exp _ _ (by omega)).lo (by omega)|exact(F.either _ _ (by omega)).lo (by omega)|exact(F.ae _ _ _ (by omega)).lo (by omega)|exact(F.both _ _ (by omega)).lo (by omega)|exact(F.au _ _ _ (by omega)).lo (by omega)|exact(F.test _ _ (by omega)).lo (by omega)|exact(F.av _ _ _ (by omega)).lo (by omega)|exact(F.join _ _ (by omega)).lo (by omega)|exact(F.sum _ _ (by omega)).lo (by omega)|exact(F.aI _ _ _ (by omega)).lo (by omega)|exact(F.term _ _ (by omega)).lo (by omega)|exact(F.aw _ _ _ (by omega)).lo (by omega)|exact(F.unary _ _ (by omega)).lo (by omega)|exact(F.post _ _ (by omega)).lo (by omega)|exact(F.an _ _ _ (by omega)).lo (by omega)|exact(F.args _ _ _ _ (by omega)).lo (by omega)|exact(F.simple _ _ (by omega)).lo (by omega)|exact(F.table _ _ _ _ _ (by omega)).lo (by omega)|exact(F.field _ _ _ (by omega)).lo (by omega)|exact(F.body _ _ _ (by omega)).lo (by omega)|exact(F.params _ _ _ (by omega)).lo (by omega)|exact(F.ah _ _ _ (by omega)).lo (by omega)|exact(F.aj _ _ _ (by omega)).lo (by omega)|exact(F.af _ _ _ (by omega)).lo (by omega)|exact(F.do_ _ _ _ (by omega)).lo (by omega)|exact(F.plain _ _ _ (by omega)).lo (by omega)|exact(F.choice _ _ _ _ _ (by omega)).lo (by omega)|exact(F.for_ _ _ _ (by omega)).lo (by omega)|exact(F.ai _ _ _ _ _ _ (by omega)).lo (by omega)|exact Sw.must P _ (by omega)|exact(Sw.must P _ (by omega)).lo (by omega)|exact Sw.name P (by omega)|exact(Sw.name P (by omega)).lo (by omega)|exact Sw.err _|exact Sw.ok _ (by omega) (by omega)|(simp (disch:=omega) only[P.pos,P.gI,P.op1,P.gJ,P.un];done)|refine Sb.bind (F.block _ _ (by omega)) (λ_ _ _=>cx P _ _ _ _) λ_ _ _ _=>?_|apply Sw.bind|intro _ _ _ _|refine Sw.is P (by decide) (by omega) (λ_=>?_) ?_
   ·repeat' first|exact F.exp _ _ (by omega)|exact F.either _ _ (by omega)|exact F.ae _ _ _ (by omega)|exact F.both _ _ (by omega)|exact F.au _ _ _ (by omega)|exact F.test _ _ (by omega)|exact F.av _ _ _ (by omega)|exact F.join _ _ (by omega)|exact F.sum _ _ (by omega)|exact F.aI _ _ _ (by omega)|exact F.term _ _ (by omega)|exact F.aw _ _ _ (by omega)|exact F.unary _ _ (by omega)|exact F.post _ _ (by omega)|exact F.an _ _ _ (by omega)|exact F.args _ _ _ _ (by omega)|exact F.simple _ _ (by omega)|exact F.table _ _ _ _ _ (by omega)|exact F.field _ _ _ (by omega)|exact F.body _ _ _ (by omega)|exact F.params _ _ _ (by omega)|exact F.ah _ _ _ (by omega)|exact F.aj _ _ _ (by omega)|exact F.af _ _ _ (by omega)|exact F.do_ _ _ _ (by omega)|exact F.plain _ _ _ (by omega)|exact F.choice _ _ _ _ _ (by omega)|exact F.for_ _ _ _ (by omega)|exact F.ai _ _ _ _ _ _ (by omega)|exact(F.exp _ _ (by omega)).lo (by omega)|exact(F.either _ _ (by omega)).lo (by omega)|exact(F.ae _ _ _ (by omega)).lo (by omega)|exact(F.both _ _ (by omega)).lo (by omega)|exact(F.au _ _ _ (by omega)).lo (by omega)|exact(F.test _ _ (by omega)).lo (by omega)|exact(F.av _ _ _ (by omega)).lo (by omega)|exact(F.join _ _ (by omega)).lo (by omega)|exact(F.sum _ _ (by omega)).lo (by omega)|exact(F.aI _ _ _ (by omega)).lo (by omega)|exact(F.term _ _ (by omega)).lo (by omega)|exact(F.aw _ _ _ (by omega)).lo (by omega)|exact(F.unary _ _ (by omega)).lo (by omega)|exact(F.post _ _ (by omega)).lo (by omega)|exact(F.an _ _ _ (by omega)).lo (by omega)|exact(F.args _ _ _ _ (by omega)).lo (by omega)|exact(F.simple _ _ (by omega)).lo (by omega)|exact(F.table _ _ _ _ _ (by omega)).lo (by omega)|exact(F.field _ _ _ (by omega)).lo (by omega)|exact(F.body _ _ _ (by omega)).lo (by omega)|exact(F.params _ _ _ (by omega)).lo (by omega)|exact(F.ah _ _ _ (by omega)).lo (by omega)|exact(F.aj _ _ _ (by omega)).lo (by omega)|exact(F.af _ _ _ (by omega)).lo (by omega)|exact(F.do_ _ _ _ (by omega)).lo (by omega)|exact(F.plain _ _ _ (by omega)).lo (by omega)|exact(F.choice _ _ _ _ _ (by omega)).lo (by omega)|exact(F.for_ _ _ _ (by omega)).lo (by omega)|exact(F.ai _ _ _ _ _ _ (by omega)).lo (by omega)|exact Sw.must P _ (by omega)|exact(Sw.must P _ (by omega)).lo (by omega)|exact Sw.name P (by omega)|exact(Sw.name P (by omega)).lo (by omega)|exact Sw.err _|exact Sw.ok _ (by omega) (by omega)|(simp (disch:=omega) only[P.pos,P.gI,P.op1,P.gJ,P.un];done)|refine Sb.bind (F.block _ _ (by omega)) (λ_ _ _=>cx P _ _ _ _) λ_ _ _ _=>?_|apply Sw.bind|intro _ _ _ _|refine Sw.is P (by decide) (by omega) (λ_=>?_) ?_
  |false=>
   show Sw α (i+1) (if isA T1 [44] i=true then (if out.length=16 then bF.err 8 (i+1) else (de T1 n (i+1) d).bind λe j=>cT T1 n false (out++[e]) j d) else (cC T1 [41] i).bind λ_ j=>.ok out j) (if isA T [44] i=true then (if out.length=16 then bF.err 8 (i+1) else (de T n (i+1) d).bind λe j=>cT T n false (out++[e]) j d) else (cC T [41] i).bind λ_ j=>.ok out j);refine Sw.is P (by decide) hi (λhlt=>Sw.ite (λ_=>Sw.err _) λ_=>?_) ?_
   ·repeat' first|exact F.exp _ _ (by omega)|exact F.either _ _ (by omega)|exact F.ae _ _ _ (by omega)|exact F.both _ _ (by omega)|exact F.au _ _ _ (by omega)|exact F.test _ _ (by omega)|exact F.av _ _ _ (by omega)|exact F.join _ _ (by omega)|exact F.sum _ _ (by omega)|exact F.aI _ _ _ (by omega)|exact F.term _ _ (by omega)|exact F.aw _ _ _ (by omega)|exact F.unary _ _ (by omega)|exact F.post _ _ (by omega)|exact F.an _ _ _ (by omega)|exact F.args _ _ _ _ (by omega)|exact F.simple _ _ (by omega)|exact F.table _ _ _ _ _ (by omega)|exact F.field _ _ _ (by omega)|exact F.body _ _ _ (by omega)|exact F.params _ _ _ (by omega)|exact F.ah _ _ _ (by omega)|exact F.aj _ _ _ (by omega)|exact F.af _ _ _ (by omega)|exact F.do_ _ _ _ (by omega)|exact F.plain _ _ _ (by omega)|exact F.choice _ _ _ _ _ (by omega)|exact F.for_ _ _ _ (by omega)|exact F.ai _ _ _ _ _ _ (by omega)|exact(F.exp _ _ (by omega)).lo (by omega)|exact(F.either _ _ (by omega)).lo (by omega)|exact(F.ae _ _ _ (by omega)).lo (by omega)|exact(F.both _ _ (by omega)).lo (by omega)|exact(F.au _ _ _ (by omega)).lo (by omega)|exact(F.test _ _ (by omega)).lo (by omega)|exact(F.av _ _ _ (by omega)).lo (by omega)|exact(F.join _ _ (by omega)).lo (by omega)|exact(F.sum _ _ (by omega)).lo (by omega)|exact(F.aI _ _ _ (by omega)).lo (by omega)|exact(F.term _ _ (by omega)).lo (by omega)|exact(F.aw _ _ _ (by omega)).lo (by omega)|exact(F.unary _ _ (by omega)).lo (by omega)|exact(F.post _ _ (by omega)).lo (by omega)|exact(F.an _ _ _ (by omega)).lo (by omega)|exact(F.args _ _ _ _ (by omega)).lo (by omega)|exact(F.simple _ _ (by omega)).lo (by omega)|exact(F.table _ _ _ _ _ (by omega)).lo (by omega)|exact(F.field _ _ _ (by omega)).lo (by omega)|exact(F.body _ _ _ (by omega)).lo (by omega)|exact(F.params _ _ _ (by omega)).lo (by omega)|exact(F.ah _ _ _ (by omega)).lo (by omega)|exact(F.aj _ _ _ (by omega)).lo (by omega)|exact(F.af _ _ _ (by omega)).lo (by omega)|exact(F.do_ _ _ _ (by omega)).lo (by omega)|exact(F.plain _ _ _ (by omega)).lo (by omega)|exact(F.choice _ _ _ _ _ (by omega)).lo (by omega)|exact(F.for_ _ _ _ (by omega)).lo (by omega)|exact(F.ai _ _ _ _ _ _ (by omega)).lo (by omega)|exact Sw.must P _ (by omega)|exact(Sw.must P _ (by omega)).lo (by omega)|exact Sw.name P (by omega)|exact(Sw.name P (by omega)).lo (by omega)|exact Sw.err _|exact Sw.ok _ (by omega) (by omega)|(simp (disch:=omega) only[P.pos,P.gI,P.op1,P.gJ,P.un];done)|refine Sb.bind (F.block _ _ (by omega)) (λ_ _ _=>cx P _ _ _ _) λ_ _ _ _=>?_|apply Sw.bind|intro _ _ _ _|refine Sw.is P (by decide) (by omega) (λ_=>?_) ?_
   ·repeat' first|exact F.exp _ _ (by omega)|exact F.either _ _ (by omega)|exact F.ae _ _ _ (by omega)|exact F.both _ _ (by omega)|exact F.au _ _ _ (by omega)|exact F.test _ _ (by omega)|exact F.av _ _ _ (by omega)|exact F.join _ _ (by omega)|exact F.sum _ _ (by omega)|exact F.aI _ _ _ (by omega)|exact F.term _ _ (by omega)|exact F.aw _ _ _ (by omega)|exact F.unary _ _ (by omega)|exact F.post _ _ (by omega)|exact F.an _ _ _ (by omega)|exact F.args _ _ _ _ (by omega)|exact F.simple _ _ (by omega)|exact F.table _ _ _ _ _ (by omega)|exact F.field _ _ _ (by omega)|exact F.body _ _ _ (by omega)|exact F.params _ _ _ (by omega)|exact F.ah _ _ _ (by omega)|exact F.aj _ _ _ (by omega)|exact F.af _ _ _ (by omega)|exact F.do_ _ _ _ (by omega)|exact F.plain _ _ _ (by omega)|exact F.choice _ _ _ _ _ (by omega)|exact F.for_ _ _ _ (by omega)|exact F.ai _ _ _ _ _ _ (by omega)|exact(F.exp _ _ (by omega)).lo (by omega)|exact(F.either _ _ (by omega)).lo (by omega)|exact(F.ae _ _ _ (by omega)).lo (by omega)|exact(F.both _ _ (by omega)).lo (by omega)|exact(F.au _ _ _ (by omega)).lo (by omega)|exact(F.test _ _ (by omega)).lo (by omega)|exact(F.av _ _ _ (by omega)).lo (by omega)|exact(F.join _ _ (by omega)).lo (by omega)|exact(F.sum _ _ (by omega)).lo (by omega)|exact(F.aI _ _ _ (by omega)).lo (by omega)|exact(F.term _ _ (by omega)).lo (by omega)|exact(F.aw _ _ _ (by omega)).lo (by omega)|exact(F.unary _ _ (by omega)).lo (by omega)|exact(F.post _ _ (by omega)).lo (by omega)|exact(F.an _ _ _ (by omega)).lo (by omega)|exact(F.args _ _ _ _ (by omega)).lo (by omega)|exact(F.simple _ _ (by omega)).lo (by omega)|exact(F.table _ _ _ _ _ (by omega)).lo (by omega)|exact(F.field _ _ _ (by omega)).lo (by omega)|exact(F.body _ _ _ (by omega)).lo (by omega)|exact(F.params _ _ _ (by omega)).lo (by omega)|exact(F.ah _ _ _ (by omega)).lo (by omega)|exact(F.aj _ _ _ (by omega)).lo (by omega)|exact(F.af _ _ _ (by omega)).lo (by omega)|exact(F.do_ _ _ _ (by omega)).lo (by omega)|exact(F.plain _ _ _ (by omega)).lo (by omega)|exact(F.choice _ _ _ _ _ (by omega)).lo (by omega)|exact(F.for_ _ _ _ (by omega)).lo (by omega)|exact(F.ai _ _ _ _ _ _ (by omega)).lo (by omega)|exact Sw.must P _ (by omega)|exact(Sw.must P _ (by omega)).lo (by omega)|exact Sw.name P (by omega)|exact(Sw.name P (by omega)).lo (by omega)|exact Sw.err _|exact Sw.ok _ (by omega) (by omega)|(simp (disch:=omega) only[P.pos,P.gI,P.op1,P.gJ,P.un];done)|refine Sb.bind (F.block _ _ (by omega)) (λ_ _ _=>cx P _ _ _ _) λ_ _ _ _=>?_|apply Sw.bind|intro _ _ _ _|refine Sw.is P (by decide) (by omega) (λ_=>?_) ?_
 simple i d hi:=by
  rw[dc.eq_2,dc.eq_2];rcases Nat.lt_or_ge i α with hlt|hge
  ·simp only[←P.kind hlt,←P.pos hlt,←P.num hlt,←P.text hlt,←P.lone hi,←P.jO _ hlt];refine Sw.ite (λ_=>Sw.ok _ (by omega) (by omega)) λ_=>?_;refine Sw.ite (λ_=>Sw.ok _ (by omega) (by omega)) λ_=>?_;refine Sw.ite (λ_=>Sw.ok _ (by omega) (by omega)) λ_=>?_;refine Sw.ite (λ_=>Sw.ok _ (by omega) (by omega)) λ_=>?_;refine Sw.ite (λ_=>(F.body _ _ _ (by omega)).lo (by omega)) λ_=>?_;refine Sw.ite (λ_=>(F.table _ _ _ _ _ (by omega)).lo (by omega)) λ_=>?_;refine Sw.ite (λ_=>?_) λ_=>Sw.err _
   repeat' first|exact F.exp _ _ (by omega)|exact F.either _ _ (by omega)|exact F.ae _ _ _ (by omega)|exact F.both _ _ (by omega)|exact F.au _ _ _ (by omega)|exact F.test _ _ (by omega)|exact F.av _ _ _ (by omega)|exact F.join _ _ (by omega)|exact F.sum _ _ (by omega)|exact F.aI _ _ _ (by omega)|exact F.term _ _ (by omega)|exact F.aw _ _ _ (by omega)|exact F.unary _ _ (by omega)|exact F.post _ _ (by omega)|exact F.an _ _ _ (by omega)|exact F.args _ _ _ _ (by omega)|exact F.simple _ _ (by omega)|exact F.table _ _ _ _ _ (by omega)|exact F.field _ _ _ (by omega)|exact F.body _ _ _ (by omega)|exact F.params _ _ _ (by omega)|exact F.ah _ _ _ (by omega)|exact F.aj _ _ _ (by omega)|exact F.af _ _ _ (by omega)|exact F.do_ _ _ _ (by omega)|exact F.plain _ _ _ (by omega)|exact F.choice _ _ _ _ _ (by omega)|exact F.for_ _ _ _ (by omega)|exact F.ai _ _ _ _ _ _ (by omega)|exact(F.exp _ _ (by omega)).lo (by omega)|exact(F.either _ _ (by omega)).lo (by omega)|exact(F.ae _ _ _ (by omega)).lo (by omega)|exact(F.both _ _ (by omega)).lo (by omega)|exact(F.au _ _ _ (by omega)).lo (by omega)|exact(F.test _ _ (by omega)).lo (by omega)|exact(F.av _ _ _ (by omega)).lo (by omega)|exact(F.join _ _ (by omega)).lo (by omega)|exact(F.sum _ _ (by omega)).lo (by omega)|exact(F.aI _ _ _ (by omega)).lo (by omega)|exact(F.term _ _ (by omega)).lo (by omega)|exact(F.aw _ _ _ (by omega)).lo (by omega)|exact(F.unary _ _ (by omega)).lo (by omega)|exact(F.post _ _ (by omega)).lo (by omega)|exact(F.an _ _ _ (by omega)).lo (by omega)|exact(F.args _ _ _ _ (by omega)).lo (by omega)|exact(F.simple _ _ (by omega)).lo (by omega)|exact(F.table _ _ _ _ _ (by omega)).lo (by omega)|exact(F.field _ _ _ (by omega)).lo (by omega)|exact(F.body _ _ _ (by omega)).lo (by omega)|exact(F.params _ _ _ (by omega)).lo (by omega)|exact(F.ah _ _ _ (by omega)).lo (by omega)|exact(F.aj _ _ _ (by omega)).lo (by omega)|exact(F.af _ _ _ (by omega)).lo (by omega)|exact(F.do_ _ _ _ (by omega)).lo (by omega)|exact(F.plain _ _ _ (by omega)).lo (by omega)|exact(F.choice _ _ _ _ _ (by omega)).lo (by omega)|exact(F.for_ _ _ _ (by omega)).lo (by omega)|exact(F.ai _ _ _ _ _ _ (by omega)).lo (by omega)|exact Sw.must P _ (by omega)|exact(Sw.must P _ (by omega)).lo (by omega)|exact Sw.name P (by omega)|exact(Sw.name P (by omega)).lo (by omega)|exact Sw.err _|exact Sw.ok _ (by omega) (by omega)|(simp (disch:=omega) only[P.pos,P.gI,P.op1,P.gJ,P.un];done)|refine Sb.bind (F.block _ _ (by omega)) (λ_ _ _=>cx P _ _ _ _) λ_ _ _ _=>?_|apply Sw.bind|intro _ _ _ _|refine Sw.is P (by decide) (by omega) (λ_=>?_) ?_
  ·have e:i=α:=by omega
   subst e;have l0:jZ T1 i=0:=by unfold jZ;rw[P.mE,P.mE,P.mE];rfl
   rw[P.e0,P.mE,P.mE,P.mE,l0];exact Sw.err _
 table out c a i d hi:=by
  rw[dh.eq_2,dh.eq_2];refine Sw.is P (by decide) hi (λhlt=>Sw.ok _ (by omega) hlt) ?_;refine Sw.ite (λ_=>Sw.err _) λ_=>?_;refine Sw.bind (F.field _ _ _ hi) λr j h1 h2=>?_;rw[P.is (s:=[44]) (by decide) h2,P.is (s:=[59]) (by decide) h2];refine Sw.ite (λg=>?_) λ_=>?_
  ·have hlt:j<α:=by
    rw[←P.is (s:=[44]) (by decide) h2,←P.is (s:=[59]) (by decide) h2]at g;rcases g with g|g<;>exact P.lt h2 g
   exact(F.table _ _ _ _ _ hlt).lo (by omega)
  ·repeat' first|exact F.exp _ _ (by omega)|exact F.either _ _ (by omega)|exact F.ae _ _ _ (by omega)|exact F.both _ _ (by omega)|exact F.au _ _ _ (by omega)|exact F.test _ _ (by omega)|exact F.av _ _ _ (by omega)|exact F.join _ _ (by omega)|exact F.sum _ _ (by omega)|exact F.aI _ _ _ (by omega)|exact F.term _ _ (by omega)|exact F.aw _ _ _ (by omega)|exact F.unary _ _ (by omega)|exact F.post _ _ (by omega)|exact F.an _ _ _ (by omega)|exact F.args _ _ _ _ (by omega)|exact F.simple _ _ (by omega)|exact F.table _ _ _ _ _ (by omega)|exact F.field _ _ _ (by omega)|exact F.body _ _ _ (by omega)|exact F.params _ _ _ (by omega)|exact F.ah _ _ _ (by omega)|exact F.aj _ _ _ (by omega)|exact F.af _ _ _ (by omega)|exact F.do_ _ _ _ (by omega)|exact F.plain _ _ _ (by omega)|exact F.choice _ _ _ _ _ (by omega)|exact F.for_ _ _ _ (by omega)|exact F.ai _ _ _ _ _ _ (by omega)|exact(F.exp _ _ (by omega)).lo (by omega)|exact(F.either _ _ (by omega)).lo (by omega)|exact(F.ae _ _ _ (by omega)).lo (by omega)|exact(F.both _ _ (by omega)).lo (by omega)|exact(F.au _ _ _ (by omega)).lo (by omega)|exact(F.test _ _ (by omega)).lo (by omega)|exact(F.av _ _ _ (by omega)).lo (by omega)|exact(F.join _ _ (by omega)).lo (by omega)|exact(F.sum _ _ (by omega)).lo (by omega)|exact(F.aI _ _ _ (by omega)).lo (by omega)|exact(F.term _ _ (by omega)).lo (by omega)|exact(F.aw _ _ _ (by omega)).lo (by omega)|exact(F.unary _ _ (by omega)).lo (by omega)|exact(F.post _ _ (by omega)).lo (by omega)|exact(F.an _ _ _ (by omega)).lo (by omega)|exact(F.args _ _ _ _ (by omega)).lo (by omega)|exact(F.simple _ _ (by omega)).lo (by omega)|exact(F.table _ _ _ _ _ (by omega)).lo (by omega)|exact(F.field _ _ _ (by omega)).lo (by omega)|exact(F.body _ _ _ (by omega)).lo (by omega)|exact(F.params _ _ _ (by omega)).lo (by omega)|exact(F.ah _ _ _ (by omega)).lo (by omega)|exact(F.aj _ _ _ (by omega)).lo (by omega)|exact(F.af _ _ _ (by omega)).lo (by omega)|exact(F.do_ _ _ _ (by omega)).lo (by omega)|exact(F.plain _ _ _ (by omega)).lo (by omega)|exact(F.choice _ _ _ _ _ (by omega)).lo (by omega)|exact(F.for_ _ _ _ (by omega)).lo (by omega)|exact(F.ai _ _ _ _ _ _ (by omega)).lo (by omega)|exact Sw.must P _ (by omega)|exact(Sw.must P _ (by omega)).lo (by omega)|exact Sw.name P (by omega)|exact(Sw.name P (by omega)).lo (by omega)|exact Sw.err _|exact Sw.ok _ (by omega) (by omega)|(simp (disch:=omega) only[P.pos,P.gI,P.op1,P.gJ,P.un];done)|refine Sb.bind (F.block _ _ (by omega)) (λ_ _ _=>cx P _ _ _ _) λ_ _ _ _=>?_|apply Sw.bind|intro _ _ _ _|refine Sw.is P (by decide) (by omega) (λ_=>?_) ?_
 field c i d hi:=by
  rw[dJ.eq_2,dJ.eq_2];refine Sw.is P (by decide) hi (λhlt=>?_) ?_
  ·repeat' first|exact F.exp _ _ (by omega)|exact F.either _ _ (by omega)|exact F.ae _ _ _ (by omega)|exact F.both _ _ (by omega)|exact F.au _ _ _ (by omega)|exact F.test _ _ (by omega)|exact F.av _ _ _ (by omega)|exact F.join _ _ (by omega)|exact F.sum _ _ (by omega)|exact F.aI _ _ _ (by omega)|exact F.term _ _ (by omega)|exact F.aw _ _ _ (by omega)|exact F.unary _ _ (by omega)|exact F.post _ _ (by omega)|exact F.an _ _ _ (by omega)|exact F.args _ _ _ _ (by omega)|exact F.simple _ _ (by omega)|exact F.table _ _ _ _ _ (by omega)|exact F.field _ _ _ (by omega)|exact F.body _ _ _ (by omega)|exact F.params _ _ _ (by omega)|exact F.ah _ _ _ (by omega)|exact F.aj _ _ _ (by omega)|exact F.af _ _ _ (by omega)|exact F.do_ _ _ _ (by omega)|exact F.plain _ _ _ (by omega)|exact F.choice _ _ _ _ _ (by omega)|exact F.for_ _ _ _ (by omega)|exact F.ai _ _ _ _ _ _ (by omega)|exact(F.exp _ _ (by omega)).lo (by omega)|exact(F.either _ _ (by omega)).lo (by omega)|exact(F.ae _ _ _ (by omega)).lo (by omega)|exact(F.both _ _ (by omega)).lo (by omega)|exact(F.au _ _ _ (by omega)).lo (by omega)|exact(F.test _ _ (by omega)).lo (by omega)|exact(F.av _ _ _ (by omega)).lo (by omega)|exact(F.join _ _ (by omega)).lo (by omega)|exact(F.sum _ _ (by omega)).lo (by omega)|exact(F.aI _ _ _ (by omega)).lo (by omega)|exact(F.term _ _ (by omega)).lo (by omega)|exact(F.aw _ _ _ (by omega)).lo (by omega)|exact(F.unary _ _ (by omega)).lo (by omega)|exact(F.post _ _ (by omega)).lo (by omega)|exact(F.an _ _ _ (by omega)).lo (by omega)|exact(F.args _ _ _ _ (by omega)).lo (by omega)|exact(F.simple _ _ (by omega)).lo (by omega)|exact(F.table _ _ _ _ _ (by omega)).lo (by omega)|exact(F.field _ _ _ (by omega)).lo (by omega)|exact(F.body _ _ _ (by omega)).lo (by omega)|exact(F.params _ _ _ (by omega)).lo (by omega)|exact(F.ah _ _ _ (by omega)).lo (by omega)|exact(F.aj _ _ _ (by omega)).lo (by omega)|exact(F.af _ _ _ (by omega)).lo (by omega)|exact(F.do_ _ _ _ (by omega)).lo (by omega)|exact(F.plain _ _ _ (by omega)).lo (by omega)|exact(F.choice _ _ _ _ _ (by omega)).lo (by omega)|exact(F.for_ _ _ _ (by omega)).lo (by omega)|exact(F.ai _ _ _ _ _ _ (by omega)).lo (by omega)|exact Sw.must P _ (by omega)|exact(Sw.must P _ (by omega)).lo (by omega)|exact Sw.name P (by omega)|exact(Sw.name P (by omega)).lo (by omega)|exact Sw.err _|exact Sw.ok _ (by omega) (by omega)|(simp (disch:=omega) only[P.pos,P.gI,P.op1,P.gJ,P.un];done)|refine Sb.bind (F.block _ _ (by omega)) (λ_ _ _=>cx P _ _ _ _) λ_ _ _ _=>?_|apply Sw.bind|intro _ _ _ _|refine Sw.is P (by decide) (by omega) (λ_=>?_) ?_
  have hc:(bC T1 i=2∧bC T1 (i+1)=5∧dO T1 (i+1)=[61])→i+1<α:=λg=>P.klt (by have:=P.klt hi (by omega);omega) (by omega);by_cases g:bC T1 i=2∧bC T1 (i+1)=5∧dO T1 (i+1)=[61]
  ·have hlt:=hc g;rw[if_pos g,if_pos (by rw[←P.kind (by omega),←P.kind hlt,←P.text hlt];exact g)];simp (disch:=omega) only[P.pos,P.text,P.num]
   repeat' first|exact F.exp _ _ (by omega)|exact F.either _ _ (by omega)|exact F.ae _ _ _ (by omega)|exact F.both _ _ (by omega)|exact F.au _ _ _ (by omega)|exact F.test _ _ (by omega)|exact F.av _ _ _ (by omega)|exact F.join _ _ (by omega)|exact F.sum _ _ (by omega)|exact F.aI _ _ _ (by omega)|exact F.term _ _ (by omega)|exact F.aw _ _ _ (by omega)|exact F.unary _ _ (by omega)|exact F.post _ _ (by omega)|exact F.an _ _ _ (by omega)|exact F.args _ _ _ _ (by omega)|exact F.simple _ _ (by omega)|exact F.table _ _ _ _ _ (by omega)|exact F.field _ _ _ (by omega)|exact F.body _ _ _ (by omega)|exact F.params _ _ _ (by omega)|exact F.ah _ _ _ (by omega)|exact F.aj _ _ _ (by omega)|exact F.af _ _ _ (by omega)|exact F.do_ _ _ _ (by omega)|exact F.plain _ _ _ (by omega)|exact F.choice _ _ _ _ _ (by omega)|exact F.for_ _ _ _ (by omega)|exact F.ai _ _ _ _ _ _ (by omega)|exact(F.exp _ _ (by omega)).lo (by omega)|exact(F.either _ _ (by omega)).lo (by omega)|exact(F.ae _ _ _ (by omega)).lo (by omega)|exact(F.both _ _ (by omega)).lo (by omega)|exact(F.au _ _ _ (by omega)).lo (by omega)|exact(F.test _ _ (by omega)).lo (by omega)|exact(F.av _ _ _ (by omega)).lo (by omega)|exact(F.join _ _ (by omega)).lo (by omega)|exact(F.sum _ _ (by omega)).lo (by omega)|exact(F.aI _ _ _ (by omega)).lo (by omega)|exact(F.term _ _ (by omega)).lo (by omega)|exact(F.aw _ _ _ (by omega)).lo (by omega)|exact(F.unary _ _ (by omega)).lo (by omega)|exact(F.post _ _ (by omega)).lo (by omega)|exact(F.an _ _ _ (by omega)).lo (by omega)|exact(F.args _ _ _ _ (by omega)).lo (by omega)|exact(F.simple _ _ (by omega)).lo (by omega)|exact(F.table _ _ _ _ _ (by omega)).lo (by omega)|exact(F.field _ _ _ (by omega)).lo (by omega)|exact(F.body _ _ _ (by omega)).lo (by omega)|exact(F.params _ _ _ (by omega)).lo (by omega)|exact(F.ah _ _ _ (by omega)).lo (by omega)|exact(F.aj _ _ _ (by omega)).lo (by omega)|exact(F.af _ _ _ (by omega)).lo (by omega)|exact(F.do_ _ _ _ (by omega)).lo (by omega)|exact(F.plain _ _ _ (by omega)).lo (by omega)|exact(F.choice _ _ _ _ _ (by omega)).lo (by omega)|exact(F.for_ _ _ _ (by omega)).lo (by omega)|exact(F.ai _ _ _ _ _ _ (by omega)).lo (by omega)|exact Sw.must P _ (by omega)|exact(Sw.must P _ (by omega)).lo (by omega)|exact Sw.name P (by omega)|exact(Sw.name P (by omega)).lo (by omega)|exact Sw.err _|exact Sw.ok _ (by omega) (by omega)|(simp (disch:=omega) only[P.pos,P.gI,P.op1,P.gJ,P.un];done)|refine Sb.bind (F.block _ _ (by omega)) (λ_ _ _=>cx P _ _ _ _) λ_ _ _ _=>?_|apply Sw.bind|intro _ _ _ _|refine Sw.is P (by decide) (by omega) (λ_=>?_) ?_
  ·rw[if_neg g];have h0:=F.exp i d hi;intro v j e;obtain⟨a,i',e1,e2⟩:=aS e;obtain⟨h1,h2,h3⟩:=h0 a i' e1;have hlt:i<α:=by omega
   have g2:¬(bC T i=2∧bC T (i+1)=5∧dO T (i+1)=[61]):=by
    intro q;rcases Nat.lt_or_ge (i+1) α with g3|g3
    ·rw[←P.kind hlt,←P.kind g3,←P.text g3]at q;exact g q
    ·have e4:i+1=α:=by omega
     rw[e4]at q;have:=P.nc [61] (by decide);unfold isA at this;rw[q.2.1,q.2.2]at this;simp at this
   rw[if_neg g2,h3];cases e2;rw[P.pos hlt];exact⟨by omega,h2,rfl⟩
 body a i d hi:=by
  rw[fy.eq_2,fy.eq_2]
  repeat' first|exact F.exp _ _ (by omega)|exact F.either _ _ (by omega)|exact F.ae _ _ _ (by omega)|exact F.both _ _ (by omega)|exact F.au _ _ _ (by omega)|exact F.test _ _ (by omega)|exact F.av _ _ _ (by omega)|exact F.join _ _ (by omega)|exact F.sum _ _ (by omega)|exact F.aI _ _ _ (by omega)|exact F.term _ _ (by omega)|exact F.aw _ _ _ (by omega)|exact F.unary _ _ (by omega)|exact F.post _ _ (by omega)|exact F.an _ _ _ (by omega)|exact F.args _ _ _ _ (by omega)|exact F.simple _ _ (by omega)|exact F.table _ _ _ _ _ (by omega)|exact F.field _ _ _ (by omega)|exact F.body _ _ _ (by omega)|exact F.params _ _ _ (by omega)|exact F.ah _ _ _ (by omega)|exact F.aj _ _ _ (by omega)|exact F.af _ _ _ (by omega)|exact F.do_ _ _ _ (by omega)|exact F.plain _ _ _ (by omega)|exact F.choice _ _ _ _ _ (by omega)|exact F.for_ _ _ _ (by omega)|exact F.ai _ _ _ _ _ _ (by omega)|exact(F.exp _ _ (by omega)).lo (by omega)|exact(F.either _ _ (by omega)).lo (by omega)|exact(F.ae _ _ _ (by omega)).lo (by omega)|exact(F.both _ _ (by omega)).lo (by omega)|exact(F.au _ _ _ (by omega)).lo (by omega)|exact(F.test _ _ (by omega)).lo (by omega)|exact(F.av _ _ _ (by omega)).lo (by omega)|exact(F.join _ _ (by omega)).lo (by omega)|exact(F.sum _ _ (by omega)).lo (by omega)|exact(F.aI _ _ _ (by omega)).lo (by omega)|exact(F.term _ _ (by omega)).lo (by omega)|exact(F.aw _ _ _ (by omega)).lo (by omega)|exact(F.unary _ _ (by omega)).lo (by omega)|exact(F.post _ _ (by omega)).lo (by omega)|exact(F.an _ _ _ (by omega)).lo (by omega)|exact(F.args _ _ _ _ (by omega)).lo (by omega)|exact(F.simple _ _ (by omega)).lo (by omega)|exact(F.table _ _ _ _ _ (by omega)).lo (by omega)|exact(F.field _ _ _ (by omega)).lo (by omega)|exact(F.body _ _ _ (by omega)).lo (by omega)|exact(F.params _ _ _ (by omega)).lo (by omega)|exact(F.ah _ _ _ (by omega)).lo (by omega)|exact(F.aj _ _ _ (by omega)).lo (by omega)|exact(F.af _ _ _ (by omega)).lo (by omega)|exact(F.do_ _ _ _ (by omega)).lo (by omega)|exact(F.plain _ _ _ (by omega)).lo (by omega)|exact(F.choice _ _ _ _ _ (by omega)).lo (by omega)|exact(F.for_ _ _ _ (by omega)).lo (by omega)|exact(F.ai _ _ _ _ _ _ (by omega)).lo (by omega)|exact Sw.must P _ (by omega)|exact(Sw.must P _ (by omega)).lo (by omega)|exact Sw.name P (by omega)|exact(Sw.name P (by omega)).lo (by omega)|exact Sw.err _|exact Sw.ok _ (by omega) (by omega)|(simp (disch:=omega) only[P.pos,P.gI,P.op1,P.gJ,P.un];done)|refine Sb.bind (F.block _ _ (by omega)) (λ_ _ _=>cx P _ _ _ _) λ_ _ _ _=>?_|apply Sw.bind|intro _ _ _ _|refine Sw.is P (by decide) (by omega) (λ_=>?_) ?_
 params b out i hi:=by
  rw[cG.eq_2,cG.eq_2];cases b with
  |true=>
   show Sw α (i+1) (if (!isA T1 [41] i)=true then (if out.length=16 then bF.err 8 i else (gY T1 i).bind λs j=>cG T1 n false (out++[s]) j) else (cC T1 [41] i).bind λ_ j=>.ok out j) (if (!isA T [41] i)=true then (if out.length=16 then bF.err 8 i else (gY T i).bind λs j=>cG T n false (out++[s]) j) else (cC T [41] i).bind λ_ j=>.ok out j);rw[P.is (s:=[41]) (by decide) hi];refine Sw.ite (λ_=>Sw.ite (λ_=>Sw.err _) λ_=>?_) λ_=>?_
   ·repeat' first|exact F.exp _ _ (by omega)|exact F.either _ _ (by omega)|exact F.ae _ _ _ (by omega)|exact F.both _ _ (by omega)|exact F.au _ _ _ (by omega)|exact F.test _ _ (by omega)|exact F.av _ _ _ (by omega)|exact F.join _ _ (by omega)|exact F.sum _ _ (by omega)|exact F.aI _ _ _ (by omega)|exact F.term _ _ (by omega)|exact F.aw _ _ _ (by omega)|exact F.unary _ _ (by omega)|exact F.post _ _ (by omega)|exact F.an _ _ _ (by omega)|exact F.args _ _ _ _ (by omega)|exact F.simple _ _ (by omega)|exact F.table _ _ _ _ _ (by omega)|exact F.field _ _ _ (by omega)|exact F.body _ _ _ (by omega)|exact F.params _ _ _ (by omega)|exact F.ah _ _ _ (by omega)|exact F.aj _ _ _ (by omega)|exact F.af _ _ _ (by omega)|exact F.do_ _ _ _ (by omega)|exact F.plain _ _ _ (by omega)|exact F.choice _ _ _ _ _ (by omega)|exact F.for_ _ _ _ (by omega)|exact F.ai _ _ _ _ _ _ (by omega)|exact(F.exp _ _ (by omega)).lo (by omega)|exact(F.either _ _ (by omega)).lo (by omega)|exact(F.ae _ _ _ (by omega)).lo (by omega)|exact(F.both _ _ (by omega)).lo (by omega)|exact(F.au _ _ _ (by omega)).lo (by omega)|exact(F.test _ _ (by omega)).lo (by omega)|exact(F.av _ _ _ (by omega)).lo (by omega)|exact(F.join _ _ (by omega)).lo (by omega)|exact(F.sum _ _ (by omega)).lo (by omega)|exact(F.aI _ _ _ (by omega)).lo (by omega)|exact(F.term _ _ (by omega)).lo (by omega)|exact(F.aw _ _ _ (by omega)).lo (by omega)|exact(F.unary _ _ (by omega)).lo (by omega)|exact(F.post _ _ (by omega)).lo (by omega)|exact(F.an _ _ _ (by omega)).lo (by omega)|exact(F.args _ _ _ _ (by omega)).lo (by omega)|exact(F.simple _ _ (by omega)).lo (by omega)|exact(F.table _ _ _ _ _ (by omega)).lo (by omega)|exact(F.field _ _ _ (by omega)).lo (by omega)|exact(F.body _ _ _ (by omega)).lo (by omega)|exact(F.params _ _ _ (by omega)).lo (by omega)|exact(F.ah _ _ _ (by omega)).lo (by omega)|exact(F.aj _ _ _ (by omega)).lo (by omega)|exact(F.af _ _ _ (by omega)).lo (by omega)|exact(F.do_ _ _ _ (by omega)).lo (by omega)|exact(F.plain _ _ _ (by omega)).lo (by omega)|exact(F.choice _ _ _ _ _ (by omega)).lo (by omega)|exact(F.for_ _ _ _ (by omega)).lo (by omega)|exact(F.ai _ _ _ _ _ _ (by omega)).lo (by omega)|exact Sw.must P _ (by omega)|exact(Sw.must P _ (by omega)).lo (by omega)|exact Sw.name P (by omega)|exact(Sw.name P (by omega)).lo (by omega)|exact Sw.err _|exact Sw.ok _ (by omega) (by omega)|(simp (disch:=omega) only[P.pos,P.gI,P.op1,P.gJ,P.un];done)|refine Sb.bind (F.block _ _ (by omega)) (λ_ _ _=>cx P _ _ _ _) λ_ _ _ _=>?_|apply Sw.bind|intro _ _ _ _|refine Sw.is P (by decide) (by omega) (λ_=>?_) ?_
   ·repeat' first|exact F.exp _ _ (by omega)|exact F.either _ _ (by omega)|exact F.ae _ _ _ (by omega)|exact F.both _ _ (by omega)|exact F.au _ _ _ (by omega)|exact F.test _ _ (by omega)|exact F.av _ _ _ (by omega)|exact F.join _ _ (by omega)|exact F.sum _ _ (by omega)|exact F.aI _ _ _ (by omega)|exact F.term _ _ (by omega)|exact F.aw _ _ _ (by omega)|exact F.unary _ _ (by omega)|exact F.post _ _ (by omega)|exact F.an _ _ _ (by omega)|exact F.args _ _ _ _ (by omega)|exact F.simple _ _ (by omega)|exact F.table _ _ _ _ _ (by omega)|exact F.field _ _ _ (by omega)|exact F.body _ _ _ (by omega)|exact F.params _ _ _ (by omega)|exact F.ah _ _ _ (by omega)|exact F.aj _ _ _ (by omega)|exact F.af _ _ _ (by omega)|exact F.do_ _ _ _ (by omega)|exact F.plain _ _ _ (by omega)|exact F.choice _ _ _ _ _ (by omega)|exact F.for_ _ _ _ (by omega)|exact F.ai _ _ _ _ _ _ (by omega)|exact(F.exp _ _ (by omega)).lo (by omega)|exact(F.either _ _ (by omega)).lo (by omega)|exact(F.ae _ _ _ (by omega)).lo (by omega)|exact(F.both _ _ (by omega)).lo (by omega)|exact(F.au _ _ _ (by omega)).lo (by omega)|exact(F.test _ _ (by omega)).lo (by omega)|exact(F.av _ _ _ (by omega)).lo (by omega)|exact(F.join _ _ (by omega)).lo (by omega)|exact(F.sum _ _ (by omega)).lo (by omega)|exact(F.aI _ _ _ (by omega)).lo (by omega)|exact(F.term _ _ (by omega)).lo (by omega)|exact(F.aw _ _ _ (by omega)).lo (by omega)|exact(F.unary _ _ (by omega)).lo (by omega)|exact(F.post _ _ (by omega)).lo (by omega)|exact(F.an _ _ _ (by omega)).lo (by omega)|exact(F.args _ _ _ _ (by omega)).lo (by omega)|exact(F.simple _ _ (by omega)).lo (by omega)|exact(F.table _ _ _ _ _ (by omega)).lo (by omega)|exact(F.field _ _ _ (by omega)).lo (by omega)|exact(F.body _ _ _ (by omega)).lo (by omega)|exact(F.params _ _ _ (by omega)).lo (by omega)|exact(F.ah _ _ _ (by omega)).lo (by omega)|exact(F.aj _ _ _ (by omega)).lo (by omega)|exact(F.af _ _ _ (by omega)).lo (by omega)|exact(F.do_ _ _ _ (by omega)).lo (by omega)|exact(F.plain _ _ _ (by omega)).lo (by omega)|exact(F.choice _ _ _ _ _ (by omega)).lo (by omega)|exact(F.for_ _ _ _ (by omega)).lo (by omega)|exact(F.ai _ _ _ _ _ _ (by omega)).lo (by omega)|exact Sw.must P _ (by omega)|exact(Sw.must P _ (by omega)).lo (by omega)|exact Sw.name P (by omega)|exact(Sw.name P (by omega)).lo (by omega)|exact Sw.err _|exact Sw.ok _ (by omega) (by omega)|(simp (disch:=omega) only[P.pos,P.gI,P.op1,P.gJ,P.un];done)|refine Sb.bind (F.block _ _ (by omega)) (λ_ _ _=>cx P _ _ _ _) λ_ _ _ _=>?_|apply Sw.bind|intro _ _ _ _|refine Sw.is P (by decide) (by omega) (λ_=>?_) ?_
  |false=>
   show Sw α (i+1) (if isA T1 [44] i=true then (if out.length=16 then bF.err 8 (i+1) else (gY T1 (i+1)).bind λs j=>cG T1 n false (out++[s]) j) else (cC T1 [41] i).bind λ_ j=>.ok out j) (if isA T [44] i=true then (if out.length=16 then bF.err 8 (i+1) else (gY T (i+1)).bind λs j=>cG T n false (out++[s]) j) else (cC T [41] i).bind λ_ j=>.ok out j);refine Sw.is P (by decide) hi (λhlt=>Sw.ite (λ_=>Sw.err _) λ_=>?_) ?_
   ·repeat' first|exact F.exp _ _ (by omega)|exact F.either _ _ (by omega)|exact F.ae _ _ _ (by omega)|exact F.both _ _ (by omega)|exact F.au _ _ _ (by omega)|exact F.test _ _ (by omega)|exact F.av _ _ _ (by omega)|exact F.join _ _ (by omega)|exact F.sum _ _ (by omega)|exact F.aI _ _ _ (by omega)|exact F.term _ _ (by omega)|exact F.aw _ _ _ (by omega)|exact F.unary _ _ (by omega)|exact F.post _ _ (by omega)|exact F.an _ _ _ (by omega)|exact F.args _ _ _ _ (by omega)|exact F.simple _ _ (by omega)|exact F.table _ _ _ _ _ (by omega)|exact F.field _ _ _ (by omega)|exact F.body _ _ _ (by omega)|exact F.params _ _ _ (by omega)|exact F.ah _ _ _ (by omega)|exact F.aj _ _ _ (by omega)|exact F.af _ _ _ (by omega)|exact F.do_ _ _ _ (by omega)|exact F.plain _ _ _ (by omega)|exact F.choice _ _ _ _ _ (by omega)|exact F.for_ _ _ _ (by omega)|exact F.ai _ _ _ _ _ _ (by omega)|exact(F.exp _ _ (by omega)).lo (by omega)|exact(F.either _ _ (by omega)).lo (by omega)|exact(F.ae _ _ _ (by omega)).lo (by omega)|exact(F.both _ _ (by omega)).lo (by omega)|exact(F.au _ _ _ (by omega)).lo (by omega)|exact(F.test _ _ (by omega)).lo (by omega)|exact(F.av _ _ _ (by omega)).lo (by omega)|exact(F.join _ _ (by omega)).lo (by omega)|exact(F.sum _ _ (by omega)).lo (by omega)|exact(F.aI _ _ _ (by omega)).lo (by omega)|exact(F.term _ _ (by omega)).lo (by omega)|exact(F.aw _ _ _ (by omega)).lo (by omega)|exact(F.unary _ _ (by omega)).lo (by omega)|exact(F.post _ _ (by omega)).lo (by omega)|exact(F.an _ _ _ (by omega)).lo (by omega)|exact(F.args _ _ _ _ (by omega)).lo (by omega)|exact(F.simple _ _ (by omega)).lo (by omega)|exact(F.table _ _ _ _ _ (by omega)).lo (by omega)|exact(F.field _ _ _ (by omega)).lo (by omega)|exact(F.body _ _ _ (by omega)).lo (by omega)|exact(F.params _ _ _ (by omega)).lo (by omega)|exact(F.ah _ _ _ (by omega)).lo (by omega)|exact(F.aj _ _ _ (by omega)).lo (by omega)|exact(F.af _ _ _ (by omega)).lo (by omega)|exact(F.do_ _ _ _ (by omega)).lo (by omega)|exact(F.plain _ _ _ (by omega)).lo (by omega)|exact(F.choice _ _ _ _ _ (by omega)).lo (by omega)|exact(F.for_ _ _ _ (by omega)).lo (by omega)|exact(F.ai _ _ _ _ _ _ (by omega)).lo (by omega)|exact Sw.must P _ (by omega)|exact(Sw.must P _ (by omega)).lo (by omega)|exact Sw.name P (by omega)|exact(Sw.name P (by omega)).lo (by omega)|exact Sw.err _|exact Sw.ok _ (by omega) (by omega)|(simp (disch:=omega) only[P.pos,P.gI,P.op1,P.gJ,P.un];done)|refine Sb.bind (F.block _ _ (by omega)) (λ_ _ _=>cx P _ _ _ _) λ_ _ _ _=>?_|apply Sw.bind|intro _ _ _ _|refine Sw.is P (by decide) (by omega) (λ_=>?_) ?_
   ·repeat' first|exact F.exp _ _ (by omega)|exact F.either _ _ (by omega)|exact F.ae _ _ _ (by omega)|exact F.both _ _ (by omega)|exact F.au _ _ _ (by omega)|exact F.test _ _ (by omega)|exact F.av _ _ _ (by omega)|exact F.join _ _ (by omega)|exact F.sum _ _ (by omega)|exact F.aI _ _ _ (by omega)|exact F.term _ _ (by omega)|exact F.aw _ _ _ (by omega)|exact F.unary _ _ (by omega)|exact F.post _ _ (by omega)|exact F.an _ _ _ (by omega)|exact F.args _ _ _ _ (by omega)|exact F.simple _ _ (by omega)|exact F.table _ _ _ _ _ (by omega)|exact F.field _ _ _ (by omega)|exact F.body _ _ _ (by omega)|exact F.params _ _ _ (by omega)|exact F.ah _ _ _ (by omega)|exact F.aj _ _ _ (by omega)|exact F.af _ _ _ (by omega)|exact F.do_ _ _ _ (by omega)|exact F.plain _ _ _ (by omega)|exact F.choice _ _ _ _ _ (by omega)|exact F.for_ _ _ _ (by omega)|exact F.ai _ _ _ _ _ _ (by omega)|exact(F.exp _ _ (by omega)).lo (by omega)|exact(F.either _ _ (by omega)).lo (by omega)|exact(F.ae _ _ _ (by omega)).lo (by omega)|exact(F.both _ _ (by omega)).lo (by omega)|exact(F.au _ _ _ (by omega)).lo (by omega)|exact(F.test _ _ (by omega)).lo (by omega)|exact(F.av _ _ _ (by omega)).lo (by omega)|exact(F.join _ _ (by omega)).lo (by omega)|exact(F.sum _ _ (by omega)).lo (by omega)|exact(F.aI _ _ _ (by omega)).lo (by omega)|exact(F.term _ _ (by omega)).lo (by omega)|exact(F.aw _ _ _ (by omega)).lo (by omega)|exact(F.unary _ _ (by omega)).lo (by omega)|exact(F.post _ _ (by omega)).lo (by omega)|exact(F.an _ _ _ (by omega)).lo (by omega)|exact(F.args _ _ _ _ (by omega)).lo (by omega)|exact(F.simple _ _ (by omega)).lo (by omega)|exact(F.table _ _ _ _ _ (by omega)).lo (by omega)|exact(F.field _ _ _ (by omega)).lo (by omega)|exact(F.body _ _ _ (by omega)).lo (by omega)|exact(F.params _ _ _ (by omega)).lo (by omega)|exact(F.ah _ _ _ (by omega)).lo (by omega)|exact(F.aj _ _ _ (by omega)).lo (by omega)|exact(F.af _ _ _ (by omega)).lo (by omega)|exact(F.do_ _ _ _ (by omega)).lo (by omega)|exact(F.plain _ _ _ (by omega)).lo (by omega)|exact(F.choice _ _ _ _ _ (by omega)).lo (by omega)|exact(F.for_ _ _ _ (by omega)).lo (by omega)|exact(F.ai _ _ _ _ _ _ (by omega)).lo (by omega)|exact Sw.must P _ (by omega)|exact(Sw.must P _ (by omega)).lo (by omega)|exact Sw.name P (by omega)|exact(Sw.name P (by omega)).lo (by omega)|exact Sw.err _|exact Sw.ok _ (by omega) (by omega)|(simp (disch:=omega) only[P.pos,P.gI,P.op1,P.gJ,P.un];done)|refine Sb.bind (F.block _ _ (by omega)) (λ_ _ _=>cx P _ _ _ _) λ_ _ _ _=>?_|apply Sw.bind|intro _ _ _ _|refine Sw.is P (by decide) (by omega) (λ_=>?_) ?_
 block i d hi:=by
  rw[cz.eq_2,cz.eq_2];intro v j e;split at e
  ·cases e
  ·rename_i g;rw[if_neg g];exact F.aM _ _ _ hi v j e
 aM out i d hi:=by
  rw[bG.eq_2,bG.eq_2];intro v j e;rcases Nat.lt_or_ge i α with hlt|hge
  ·have hc:dH T1 i=dH T i:=by
    unfold dH;rw[P.jO _ hlt,P.jO _ hlt,P.jO _ hlt,P.jO _ hlt,P.kind hlt]
   rw[hc]at e;split at e
   ·rename_i g;cases e;exact⟨Nat.le_refl _,hi,λ_=>by rw[if_pos g]⟩
   ·rename_i g;obtain⟨s,j1,e1,e2⟩:=aS e;obtain⟨h1,h2,h3⟩:=F.stat i d hi s j1 e1;obtain⟨o1,o2,o3⟩:=P.opt (s:=[59]) (by decide) h2;rw[o1]at e2;split at e2
    ·cases e2
    ·rename_i g2;obtain⟨h4,h5,h6⟩:=F.aM _ _ _ o3 v j e2;refine⟨by omega,h5,λhj=>?_⟩;have hlo:iv T [59] j1<α:=by omega
     have hcl:dH T1 (iv T [59] j1)=dH T (iv T [59] j1):=by
      unfold dH;rw[P.jO _ hlo,P.jO _ hlo,P.jO _ hlo,P.jO _ hlo,P.kind hlo]
     rw[hcl]at g2;rw[if_neg g,h3 (.inl (by omega))];show(if s.kind=10∧dH T (iv T [59] j1)=false then _ else _)=_;rw[if_neg g2];exact h6 hj
  ·have e0:i=α:=by omega
   subst e0;have hE:dH T1 i=true:=by unfold dH;rw[P.e0];simp
   rw[if_pos hE]at e;cases e;exact⟨Nat.le_refl _,hi,λq=>absurd q (Nat.lt_irrefl _)⟩
 stat i d hi:=by
  rw[eY.eq_2,eY.eq_2];rcases Nat.lt_or_ge i α with hlt|hge
  ·rw[P.jO _ hlt,P.jO _ hlt,P.jO _ hlt,P.jO _ hlt,P.jO _ hlt,P.jO _ hlt,P.jO _ hlt,P.jO _ hlt,P.kind hlt,P.pos hlt];split
   ·exact(F.ah _ _ _ hlt).s (by omega)
   split
   ·exact(F.choice _ _ _ _ _ hlt).s (by omega)
   split
   ·exact(F.aj _ _ _ hlt).s (by omega)
   split
   ·exact(F.af _ _ _ hlt).s (by omega)
   split
   ·exact(F.for_ _ _ _ hlt).s (by omega)
   split
   ·exact(Sw.ok _ (Nat.le_refl _) hlt).s (Nat.le_refl _)
   split
   ·exact(F.do_ _ _ _ hlt).s (by omega)
   split
   ·exact F.aH _ _ _ hlt
   split
   ·exact(F.plain _ _ _ hi).s (Nat.le_refl _)
   ·exact(Sw.err _).s (Nat.le_refl _)
  ·have e:i=α:=by omega
   subst e;rw[P.mE,P.mE,P.mE,P.mE,P.mE,P.mE,P.mE,P.mE,P.e0];exact(Sw.err _).s (Nat.le_refl _)
 ah a i d hi:=by
  rw[ep.eq_2,ep.eq_2];refine Sw.is P (by decide) hi (λhlt=>?_) ?_
  ·refine Sw.bind (Sw.name P hlt) λs j h1 h2=>?_;refine Sw.bind (i:=j+1) ?_ λb j2 h3 h4=>Sw.ok _ (by omega) h4;refine(F.body (aW T1 j) j d h2).within (Nat.le_refl _) λg=>?_;rw[P.pos g];exact F.body _ _ _ h2
  ·refine Sw.bind (Sw.name P hi) λs j h1 h2=>?_;refine Sw.is P (by decide) h2 (λhlt=>?_) (Sw.ok _ (by omega) h2)
   repeat' first|exact F.exp _ _ (by omega)|exact F.either _ _ (by omega)|exact F.ae _ _ _ (by omega)|exact F.both _ _ (by omega)|exact F.au _ _ _ (by omega)|exact F.test _ _ (by omega)|exact F.av _ _ _ (by omega)|exact F.join _ _ (by omega)|exact F.sum _ _ (by omega)|exact F.aI _ _ _ (by omega)|exact F.term _ _ (by omega)|exact F.aw _ _ _ (by omega)|exact F.unary _ _ (by omega)|exact F.post _ _ (by omega)|exact F.an _ _ _ (by omega)|exact F.args _ _ _ _ (by omega)|exact F.simple _ _ (by omega)|exact F.table _ _ _ _ _ (by omega)|exact F.field _ _ _ (by omega)|exact F.body _ _ _ (by omega)|exact F.params _ _ _ (by omega)|exact F.ah _ _ _ (by omega)|exact F.aj _ _ _ (by omega)|exact F.af _ _ _ (by omega)|exact F.do_ _ _ _ (by omega)|exact F.plain _ _ _ (by omega)|exact F.choice _ _ _ _ _ (by omega)|exact F.for_ _ _ _ (by omega)|exact F.ai _ _ _ _ _ _ (by omega)|exact(F.exp _ _ (by omega)).lo (by omega)|exact(F.either _ _ (by omega)).lo (by omega)|exact(F.ae _ _ _ (by omega)).lo (by omega)|exact(F.both _ _ (by omega)).lo (by omega)|exact(F.au _ _ _ (by omega)).lo (by omega)|exact(F.test _ _ (by omega)).lo (by omega)|exact(F.av _ _ _ (by omega)).lo (by omega)|exact(F.join _ _ (by omega)).lo (by omega)|exact(F.sum _ _ (by omega)).lo (by omega)|exact(F.aI _ _ _ (by omega)).lo (by omega)|exact(F.term _ _ (by omega)).lo (by omega)|exact(F.aw _ _ _ (by omega)).lo (by omega)|exact(F.unary _ _ (by omega)).lo (by omega)|exact(F.post _ _ (by omega)).lo (by omega)|exact(F.an _ _ _ (by omega)).lo (by omega)|exact(F.args _ _ _ _ (by omega)).lo (by omega)|exact(F.simple _ _ (by omega)).lo (by omega)|exact(F.table _ _ _ _ _ (by omega)).lo (by omega)|exact(F.field _ _ _ (by omega)).lo (by omega)|exact(F.body _ _ _ (by omega)).lo (by omega)|exact(F.params _ _ _ (by omega)).lo (by omega)|exact(F.ah _ _ _ (by omega)).lo (by omega)|exact(F.aj _ _ _ (by omega)).lo (by omega)|exact(F.af _ _ _ (by omega)).lo (by omega)|exact(F.do_ _ _ _ (by omega)).lo (by omega)|exact(F.plain _ _ _ (by omega)).lo (by omega)|exact(F.choice _ _ _ _ _ (by omega)).lo (by omega)|exact(F.for_ _ _ _ (by omega)).lo (by omega)|exact(F.ai _ _ _ _ _ _ (by omega)).lo (by omega)|exact Sw.must P _ (by omega)|exact(Sw.must P _ (by omega)).lo (by omega)|exact Sw.name P (by omega)|exact(Sw.name P (by omega)).lo (by omega)|exact Sw.err _|exact Sw.ok _ (by omega) (by omega)|(simp (disch:=omega) only[P.pos,P.gI,P.op1,P.gJ,P.un];done)|refine Sb.bind (F.block _ _ (by omega)) (λ_ _ _=>cx P _ _ _ _) λ_ _ _ _=>?_|apply Sw.bind|intro _ _ _ _|refine Sw.is P (by decide) (by omega) (λ_=>?_) ?_
 aj a i d hi:=by
  rw[fe.eq_2,fe.eq_2]
  repeat' first|exact F.exp _ _ (by omega)|exact F.either _ _ (by omega)|exact F.ae _ _ _ (by omega)|exact F.both _ _ (by omega)|exact F.au _ _ _ (by omega)|exact F.test _ _ (by omega)|exact F.av _ _ _ (by omega)|exact F.join _ _ (by omega)|exact F.sum _ _ (by omega)|exact F.aI _ _ _ (by omega)|exact F.term _ _ (by omega)|exact F.aw _ _ _ (by omega)|exact F.unary _ _ (by omega)|exact F.post _ _ (by omega)|exact F.an _ _ _ (by omega)|exact F.args _ _ _ _ (by omega)|exact F.simple _ _ (by omega)|exact F.table _ _ _ _ _ (by omega)|exact F.field _ _ _ (by omega)|exact F.body _ _ _ (by omega)|exact F.params _ _ _ (by omega)|exact F.ah _ _ _ (by omega)|exact F.aj _ _ _ (by omega)|exact F.af _ _ _ (by omega)|exact F.do_ _ _ _ (by omega)|exact F.plain _ _ _ (by omega)|exact F.choice _ _ _ _ _ (by omega)|exact F.for_ _ _ _ (by omega)|exact F.ai _ _ _ _ _ _ (by omega)|exact(F.exp _ _ (by omega)).lo (by omega)|exact(F.either _ _ (by omega)).lo (by omega)|exact(F.ae _ _ _ (by omega)).lo (by omega)|exact(F.both _ _ (by omega)).lo (by omega)|exact(F.au _ _ _ (by omega)).lo (by omega)|exact(F.test _ _ (by omega)).lo (by omega)|exact(F.av _ _ _ (by omega)).lo (by omega)|exact(F.join _ _ (by omega)).lo (by omega)|exact(F.sum _ _ (by omega)).lo (by omega)|exact(F.aI _ _ _ (by omega)).lo (by omega)|exact(F.term _ _ (by omega)).lo (by omega)|exact(F.aw _ _ _ (by omega)).lo (by omega)|exact(F.unary _ _ (by omega)).lo (by omega)|exact(F.post _ _ (by omega)).lo (by omega)|exact(F.an _ _ _ (by omega)).lo (by omega)|exact(F.args _ _ _ _ (by omega)).lo (by omega)|exact(F.simple _ _ (by omega)).lo (by omega)|exact(F.table _ _ _ _ _ (by omega)).lo (by omega)|exact(F.field _ _ _ (by omega)).lo (by omega)|exact(F.body _ _ _ (by omega)).lo (by omega)|exact(F.params _ _ _ (by omega)).lo (by omega)|exact(F.ah _ _ _ (by omega)).lo (by omega)|exact(F.aj _ _ _ (by omega)).lo (by omega)|exact(F.af _ _ _ (by omega)).lo (by omega)|exact(F.do_ _ _ _ (by omega)).lo (by omega)|exact(F.plain _ _ _ (by omega)).lo (by omega)|exact(F.choice _ _ _ _ _ (by omega)).lo (by omega)|exact(F.for_ _ _ _ (by omega)).lo (by omega)|exact(F.ai _ _ _ _ _ _ (by omega)).lo (by omega)|exact Sw.must P _ (by omega)|exact(Sw.must P _ (by omega)).lo (by omega)|exact Sw.name P (by omega)|exact(Sw.name P (by omega)).lo (by omega)|exact Sw.err _|exact Sw.ok _ (by omega) (by omega)|(simp (disch:=omega) only[P.pos,P.gI,P.op1,P.gJ,P.un];done)|refine Sb.bind (F.block _ _ (by omega)) (λ_ _ _=>cx P _ _ _ _) λ_ _ _ _=>?_|apply Sw.bind|intro _ _ _ _|refine Sw.is P (by decide) (by omega) (λ_=>?_) ?_
 af a i d hi:=by
  rw[dR.eq_2,dR.eq_2]
  repeat' first|exact F.exp _ _ (by omega)|exact F.either _ _ (by omega)|exact F.ae _ _ _ (by omega)|exact F.both _ _ (by omega)|exact F.au _ _ _ (by omega)|exact F.test _ _ (by omega)|exact F.av _ _ _ (by omega)|exact F.join _ _ (by omega)|exact F.sum _ _ (by omega)|exact F.aI _ _ _ (by omega)|exact F.term _ _ (by omega)|exact F.aw _ _ _ (by omega)|exact F.unary _ _ (by omega)|exact F.post _ _ (by omega)|exact F.an _ _ _ (by omega)|exact F.args _ _ _ _ (by omega)|exact F.simple _ _ (by omega)|exact F.table _ _ _ _ _ (by omega)|exact F.field _ _ _ (by omega)|exact F.body _ _ _ (by omega)|exact F.params _ _ _ (by omega)|exact F.ah _ _ _ (by omega)|exact F.aj _ _ _ (by omega)|exact F.af _ _ _ (by omega)|exact F.do_ _ _ _ (by omega)|exact F.plain _ _ _ (by omega)|exact F.choice _ _ _ _ _ (by omega)|exact F.for_ _ _ _ (by omega)|exact F.ai _ _ _ _ _ _ (by omega)|exact(F.exp _ _ (by omega)).lo (by omega)|exact(F.either _ _ (by omega)).lo (by omega)|exact(F.ae _ _ _ (by omega)).lo (by omega)|exact(F.both _ _ (by omega)).lo (by omega)|exact(F.au _ _ _ (by omega)).lo (by omega)|exact(F.test _ _ (by omega)).lo (by omega)|exact(F.av _ _ _ (by omega)).lo (by omega)|exact(F.join _ _ (by omega)).lo (by omega)|exact(F.sum _ _ (by omega)).lo (by omega)|exact(F.aI _ _ _ (by omega)).lo (by omega)|exact(F.term _ _ (by omega)).lo (by omega)|exact(F.aw _ _ _ (by omega)).lo (by omega)|exact(F.unary _ _ (by omega)).lo (by omega)|exact(F.post _ _ (by omega)).lo (by omega)|exact(F.an _ _ _ (by omega)).lo (by omega)|exact(F.args _ _ _ _ (by omega)).lo (by omega)|exact(F.simple _ _ (by omega)).lo (by omega)|exact(F.table _ _ _ _ _ (by omega)).lo (by omega)|exact(F.field _ _ _ (by omega)).lo (by omega)|exact(F.body _ _ _ (by omega)).lo (by omega)|exact(F.params _ _ _ (by omega)).lo (by omega)|exact(F.ah _ _ _ (by omega)).lo (by omega)|exact(F.aj _ _ _ (by omega)).lo (by omega)|exact(F.af _ _ _ (by omega)).lo (by omega)|exact(F.do_ _ _ _ (by omega)).lo (by omega)|exact(F.plain _ _ _ (by omega)).lo (by omega)|exact(F.choice _ _ _ _ _ (by omega)).lo (by omega)|exact(F.for_ _ _ _ (by omega)).lo (by omega)|exact(F.ai _ _ _ _ _ _ (by omega)).lo (by omega)|exact Sw.must P _ (by omega)|exact(Sw.must P _ (by omega)).lo (by omega)|exact Sw.name P (by omega)|exact(Sw.name P (by omega)).lo (by omega)|exact Sw.err _|exact Sw.ok _ (by omega) (by omega)|(simp (disch:=omega) only[P.pos,P.gI,P.op1,P.gJ,P.un];done)|refine Sb.bind (F.block _ _ (by omega)) (λ_ _ _=>cx P _ _ _ _) λ_ _ _ _=>?_|apply Sw.bind|intro _ _ _ _|refine Sw.is P (by decide) (by omega) (λ_=>?_) ?_
 do_ a i d hi:=by
  rw[kV.eq_2,kV.eq_2]
  repeat' first|exact F.exp _ _ (by omega)|exact F.either _ _ (by omega)|exact F.ae _ _ _ (by omega)|exact F.both _ _ (by omega)|exact F.au _ _ _ (by omega)|exact F.test _ _ (by omega)|exact F.av _ _ _ (by omega)|exact F.join _ _ (by omega)|exact F.sum _ _ (by omega)|exact F.aI _ _ _ (by omega)|exact F.term _ _ (by omega)|exact F.aw _ _ _ (by omega)|exact F.unary _ _ (by omega)|exact F.post _ _ (by omega)|exact F.an _ _ _ (by omega)|exact F.args _ _ _ _ (by omega)|exact F.simple _ _ (by omega)|exact F.table _ _ _ _ _ (by omega)|exact F.field _ _ _ (by omega)|exact F.body _ _ _ (by omega)|exact F.params _ _ _ (by omega)|exact F.ah _ _ _ (by omega)|exact F.aj _ _ _ (by omega)|exact F.af _ _ _ (by omega)|exact F.do_ _ _ _ (by omega)|exact F.plain _ _ _ (by omega)|exact F.choice _ _ _ _ _ (by omega)|exact F.for_ _ _ _ (by omega)|exact F.ai _ _ _ _ _ _ (by omega)|exact(F.exp _ _ (by omega)).lo (by omega)|exact(F.either _ _ (by omega)).lo (by omega)|exact(F.ae _ _ _ (by omega)).lo (by omega)|exact(F.both _ _ (by omega)).lo (by omega)|exact(F.au _ _ _ (by omega)).lo (by omega)|exact(F.test _ _ (by omega)).lo (by omega)|exact(F.av _ _ _ (by omega)).lo (by omega)|exact(F.join _ _ (by omega)).lo (by omega)|exact(F.sum _ _ (by omega)).lo (by omega)|exact(F.aI _ _ _ (by omega)).lo (by omega)|exact(F.term _ _ (by omega)).lo (by omega)|exact(F.aw _ _ _ (by omega)).lo (by omega)|exact(F.unary _ _ (by omega)).lo (by omega)|exact(F.post _ _ (by omega)).lo (by omega)|exact(F.an _ _ _ (by omega)).lo (by omega)|exact(F.args _ _ _ _ (by omega)).lo (by omega)|exact(F.simple _ _ (by omega)).lo (by omega)|exact(F.table _ _ _ _ _ (by omega)).lo (by omega)|exact(F.field _ _ _ (by omega)).lo (by omega)|exact(F.body _ _ _ (by omega)).lo (by omega)|exact(F.params _ _ _ (by omega)).lo (by omega)|exact(F.ah _ _ _ (by omega)).lo (by omega)|exact(F.aj _ _ _ (by omega)).lo (by omega)|exact(F.af _ _ _ (by omega)).lo (by omega)|exact(F.do_ _ _ _ (by omega)).lo (by omega)|exact(F.plain _ _ _ (by omega)).lo (by omega)|exact(F.choice _ _ _ _ _ (by omega)).lo (by omega)|exact(F.for_ _ _ _ (by omega)).lo (by omega)|exact(F.ai _ _ _ _ _ _ (by omega)).lo (by omega)|exact Sw.must P _ (by omega)|exact(Sw.must P _ (by omega)).lo (by omega)|exact Sw.name P (by omega)|exact(Sw.name P (by omega)).lo (by omega)|exact Sw.err _|exact Sw.ok _ (by omega) (by omega)|(simp (disch:=omega) only[P.pos,P.gI,P.op1,P.gJ,P.un];done)|refine Sb.bind (F.block _ _ (by omega)) (λ_ _ _=>cx P _ _ _ _) λ_ _ _ _=>?_|apply Sw.bind|intro _ _ _ _|refine Sw.is P (by decide) (by omega) (λ_=>?_) ?_
 aH a i d hi:=by
  rw[dS.eq_2,dS.eq_2];intro v j e;rcases Nat.lt_or_ge i α with hlt|hge
  ·have hc:(isA T1 [59] i=true∨dH T1 i=true)=(isA T [59] i=true∨dH T i=true):=by
    unfold dH;rw[P.jO _ hlt,P.jO _ hlt,P.jO _ hlt,P.jO _ hlt,P.jO _ hlt,P.kind hlt]
   simp only[hc]at e;split at e
   ·rename_i g;cases e;exact⟨Nat.le_refl _,hi,λ_=>by rw[if_pos g]⟩
   ·rename_i g;obtain⟨a,i',e1,e2⟩:=aS e;obtain⟨h1,h2,h3⟩:=F.exp i d hi a i' e1;cases e2;exact⟨by omega,h2,λ_=>by rw[if_neg g,h3];rfl⟩
  ·have e0:i=α:=by omega
   subst e0;have hE:dH T1 i=true:=by unfold dH;rw[P.e0];simp
   rw[if_pos (.inr hE)]at e;cases e;exact⟨Nat.le_refl _,hi,λq=>by rcases q with q|q;exact absurd q (Nat.lt_irrefl _);exact absurd rfl q⟩
 plain a i d hi:=by
  rw[ey.eq_2,ey.eq_2];refine Sw.bind (F.post _ _ hi) λe j h1 h2=>?_;refine Sw.ite (λ_=>Sw.ok _ (by omega) h2) λ_=>?_
  repeat' first|exact F.exp _ _ (by omega)|exact F.either _ _ (by omega)|exact F.ae _ _ _ (by omega)|exact F.both _ _ (by omega)|exact F.au _ _ _ (by omega)|exact F.test _ _ (by omega)|exact F.av _ _ _ (by omega)|exact F.join _ _ (by omega)|exact F.sum _ _ (by omega)|exact F.aI _ _ _ (by omega)|exact F.term _ _ (by omega)|exact F.aw _ _ _ (by omega)|exact F.unary _ _ (by omega)|exact F.post _ _ (by omega)|exact F.an _ _ _ (by omega)|exact F.args _ _ _ _ (by omega)|exact F.simple _ _ (by omega)|exact F.table _ _ _ _ _ (by omega)|exact F.field _ _ _ (by omega)|exact F.body _ _ _ (by omega)|exact F.params _ _ _ (by omega)|exact F.ah _ _ _ (by omega)|exact F.aj _ _ _ (by omega)|exact F.af _ _ _ (by omega)|exact F.do_ _ _ _ (by omega)|exact F.plain _ _ _ (by omega)|exact F.choice _ _ _ _ _ (by omega)|exact F.for_ _ _ _ (by omega)|exact F.ai _ _ _ _ _ _ (by omega)|exact(F.exp _ _ (by omega)).lo (by omega)|exact(F.either _ _ (by omega)).lo (by omega)|exact(F.ae _ _ _ (by omega)).lo (by omega)|exact(F.both _ _ (by omega)).lo (by omega)|exact(F.au _ _ _ (by omega)).lo (by omega)|exact(F.test _ _ (by omega)).lo (by omega)|exact(F.av _ _ _ (by omega)).lo (by omega)|exact(F.join _ _ (by omega)).lo (by omega)|exact(F.sum _ _ (by omega)).lo (by omega)|exact(F.aI _ _ _ (by omega)).lo (by omega)|exact(F.term _ _ (by omega)).lo (by omega)|exact(F.aw _ _ _ (by omega)).lo (by omega)|exact(F.unary _ _ (by omega)).lo (by omega)|exact(F.post _ _ (by omega)).lo (by omega)|exact(F.an _ _ _ (by omega)).lo (by omega)|exact(F.args _ _ _ _ (by omega)).lo (by omega)|exact(F.simple _ _ (by omega)).lo (by omega)|exact(F.table _ _ _ _ _ (by omega)).lo (by omega)|exact(F.field _ _ _ (by omega)).lo (by omega)|exact(F.body _ _ _ (by omega)).lo (by omega)|exact(F.params _ _ _ (by omega)).lo (by omega)|exact(F.ah _ _ _ (by omega)).lo (by omega)|exact(F.aj _ _ _ (by omega)).lo (by omega)|exact(F.af _ _ _ (by omega)).lo (by omega)|exact(F.do_ _ _ _ (by omega)).lo (by omega)|exact(F.plain _ _ _ (by omega)).lo (by omega)|exact(F.choice _ _ _ _ _ (by omega)).lo (by omega)|exact(F.for_ _ _ _ (by omega)).lo (by omega)|exact(F.ai _ _ _ _ _ _ (by omega)).lo (by omega)|exact Sw.must P _ (by omega)|exact(Sw.must P _ (by omega)).lo (by omega)|exact Sw.name P (by omega)|exact(Sw.name P (by omega)).lo (by omega)|exact Sw.err _|exact Sw.ok _ (by omega) (by omega)|(simp (disch:=omega) only[P.pos,P.gI,P.op1,P.gJ,P.un];done)|refine Sb.bind (F.block _ _ (by omega)) (λ_ _ _=>cx P _ _ _ _) λ_ _ _ _=>?_|apply Sw.bind|intro _ _ _ _|refine Sw.is P (by decide) (by omega) (λ_=>?_) ?_
 choice a l bs i d hi:=by
  rw[cO.eq_2,cO.eq_2];refine Sw.bind (F.exp _ _ hi) λe j h1 h2=>?_;refine Sw.bind (Sw.must P _ h2) λ_ j2 h3 h4=>?_;refine Sb.bind (F.block _ _ h4) (λb w q=>?_) λb j5 h5 h6=>?_
  ·rw[P.mE,P.mE];exact cx P _ _ _ _
  ·refine Sw.is P (by decide) (by omega) (λhlt=>?_) ?_
   ·repeat' first|exact F.exp _ _ (by omega)|exact F.either _ _ (by omega)|exact F.ae _ _ _ (by omega)|exact F.both _ _ (by omega)|exact F.au _ _ _ (by omega)|exact F.test _ _ (by omega)|exact F.av _ _ _ (by omega)|exact F.join _ _ (by omega)|exact F.sum _ _ (by omega)|exact F.aI _ _ _ (by omega)|exact F.term _ _ (by omega)|exact F.aw _ _ _ (by omega)|exact F.unary _ _ (by omega)|exact F.post _ _ (by omega)|exact F.an _ _ _ (by omega)|exact F.args _ _ _ _ (by omega)|exact F.simple _ _ (by omega)|exact F.table _ _ _ _ _ (by omega)|exact F.field _ _ _ (by omega)|exact F.body _ _ _ (by omega)|exact F.params _ _ _ (by omega)|exact F.ah _ _ _ (by omega)|exact F.aj _ _ _ (by omega)|exact F.af _ _ _ (by omega)|exact F.do_ _ _ _ (by omega)|exact F.plain _ _ _ (by omega)|exact F.choice _ _ _ _ _ (by omega)|exact F.for_ _ _ _ (by omega)|exact F.ai _ _ _ _ _ _ (by omega)|exact(F.exp _ _ (by omega)).lo (by omega)|exact(F.either _ _ (by omega)).lo (by omega)|exact(F.ae _ _ _ (by omega)).lo (by omega)|exact(F.both _ _ (by omega)).lo (by omega)|exact(F.au _ _ _ (by omega)).lo (by omega)|exact(F.test _ _ (by omega)).lo (by omega)|exact(F.av _ _ _ (by omega)).lo (by omega)|exact(F.join _ _ (by omega)).lo (by omega)|exact(F.sum _ _ (by omega)).lo (by omega)|exact(F.aI _ _ _ (by omega)).lo (by omega)|exact(F.term _ _ (by omega)).lo (by omega)|exact(F.aw _ _ _ (by omega)).lo (by omega)|exact(F.unary _ _ (by omega)).lo (by omega)|exact(F.post _ _ (by omega)).lo (by omega)|exact(F.an _ _ _ (by omega)).lo (by omega)|exact(F.args _ _ _ _ (by omega)).lo (by omega)|exact(F.simple _ _ (by omega)).lo (by omega)|exact(F.table _ _ _ _ _ (by omega)).lo (by omega)|exact(F.field _ _ _ (by omega)).lo (by omega)|exact(F.body _ _ _ (by omega)).lo (by omega)|exact(F.params _ _ _ (by omega)).lo (by omega)|exact(F.ah _ _ _ (by omega)).lo (by omega)|exact(F.aj _ _ _ (by omega)).lo (by omega)|exact(F.af _ _ _ (by omega)).lo (by omega)|exact(F.do_ _ _ _ (by omega)).lo (by omega)|exact(F.plain _ _ _ (by omega)).lo (by omega)|exact(F.choice _ _ _ _ _ (by omega)).lo (by omega)|exact(F.for_ _ _ _ (by omega)).lo (by omega)|exact(F.ai _ _ _ _ _ _ (by omega)).lo (by omega)|exact Sw.must P _ (by omega)|exact(Sw.must P _ (by omega)).lo (by omega)|exact Sw.name P (by omega)|exact(Sw.name P (by omega)).lo (by omega)|exact Sw.err _|exact Sw.ok _ (by omega) (by omega)|(simp (disch:=omega) only[P.pos,P.gI,P.op1,P.gJ,P.un];done)|refine Sb.bind (F.block _ _ (by omega)) (λ_ _ _=>cx P _ _ _ _) λ_ _ _ _=>?_|apply Sw.bind|intro _ _ _ _|refine Sw.is P (by decide) (by omega) (λ_=>?_) ?_
   refine Sw.is P (by decide) (by omega) (λhlt=>?_) ?_
   ·repeat' first|exact F.exp _ _ (by omega)|exact F.either _ _ (by omega)|exact F.ae _ _ _ (by omega)|exact F.both _ _ (by omega)|exact F.au _ _ _ (by omega)|exact F.test _ _ (by omega)|exact F.av _ _ _ (by omega)|exact F.join _ _ (by omega)|exact F.sum _ _ (by omega)|exact F.aI _ _ _ (by omega)|exact F.term _ _ (by omega)|exact F.aw _ _ _ (by omega)|exact F.unary _ _ (by omega)|exact F.post _ _ (by omega)|exact F.an _ _ _ (by omega)|exact F.args _ _ _ _ (by omega)|exact F.simple _ _ (by omega)|exact F.table _ _ _ _ _ (by omega)|exact F.field _ _ _ (by omega)|exact F.body _ _ _ (by omega)|exact F.params _ _ _ (by omega)|exact F.ah _ _ _ (by omega)|exact F.aj _ _ _ (by omega)|exact F.af _ _ _ (by omega)|exact F.do_ _ _ _ (by omega)|exact F.plain _ _ _ (by omega)|exact F.choice _ _ _ _ _ (by omega)|exact F.for_ _ _ _ (by omega)|exact F.ai _ _ _ _ _ _ (by omega)|exact(F.exp _ _ (by omega)).lo (by omega)|exact(F.either _ _ (by omega)).lo (by omega)|exact(F.ae _ _ _ (by omega)).lo (by omega)|exact(F.both _ _ (by omega)).lo (by omega)|exact(F.au _ _ _ (by omega)).lo (by omega)|exact(F.test _ _ (by omega)).lo (by omega)|exact(F.av _ _ _ (by omega)).lo (by omega)|exact(F.join _ _ (by omega)).lo (by omega)|exact(F.sum _ _ (by omega)).lo (by omega)|exact(F.aI _ _ _ (by omega)).lo (by omega)|exact(F.term _ _ (by omega)).lo (by omega)|exact(F.aw _ _ _ (by omega)).lo (by omega)|exact(F.unary _ _ (by omega)).lo (by omega)|exact(F.post _ _ (by omega)).lo (by omega)|exact(F.an _ _ _ (by omega)).lo (by omega)|exact(F.args _ _ _ _ (by omega)).lo (by omega)|exact(F.simple _ _ (by omega)).lo (by omega)|exact(F.table _ _ _ _ _ (by omega)).lo (by omega)|exact(F.field _ _ _ (by omega)).lo (by omega)|exact(F.body _ _ _ (by omega)).lo (by omega)|exact(F.params _ _ _ (by omega)).lo (by omega)|exact(F.ah _ _ _ (by omega)).lo (by omega)|exact(F.aj _ _ _ (by omega)).lo (by omega)|exact(F.af _ _ _ (by omega)).lo (by omega)|exact(F.do_ _ _ _ (by omega)).lo (by omega)|exact(F.plain _ _ _ (by omega)).lo (by omega)|exact(F.choice _ _ _ _ _ (by omega)).lo (by omega)|exact(F.for_ _ _ _ (by omega)).lo (by omega)|exact(F.ai _ _ _ _ _ _ (by omega)).lo (by omega)|exact Sw.must P _ (by omega)|exact(Sw.must P _ (by omega)).lo (by omega)|exact Sw.name P (by omega)|exact(Sw.name P (by omega)).lo (by omega)|exact Sw.err _|exact Sw.ok _ (by omega) (by omega)|(simp (disch:=omega) only[P.pos,P.gI,P.op1,P.gJ,P.un];done)|refine Sb.bind (F.block _ _ (by omega)) (λ_ _ _=>cx P _ _ _ _) λ_ _ _ _=>?_|apply Sw.bind|intro _ _ _ _|refine Sw.is P (by decide) (by omega) (λ_=>?_) ?_
   ·repeat' first|exact F.exp _ _ (by omega)|exact F.either _ _ (by omega)|exact F.ae _ _ _ (by omega)|exact F.both _ _ (by omega)|exact F.au _ _ _ (by omega)|exact F.test _ _ (by omega)|exact F.av _ _ _ (by omega)|exact F.join _ _ (by omega)|exact F.sum _ _ (by omega)|exact F.aI _ _ _ (by omega)|exact F.term _ _ (by omega)|exact F.aw _ _ _ (by omega)|exact F.unary _ _ (by omega)|exact F.post _ _ (by omega)|exact F.an _ _ _ (by omega)|exact F.args _ _ _ _ (by omega)|exact F.simple _ _ (by omega)|exact F.table _ _ _ _ _ (by omega)|exact F.field _ _ _ (by omega)|exact F.body _ _ _ (by omega)|exact F.params _ _ _ (by omega)|exact F.ah _ _ _ (by omega)|exact F.aj _ _ _ (by omega)|exact F.af _ _ _ (by omega)|exact F.do_ _ _ _ (by omega)|exact F.plain _ _ _ (by omega)|exact F.choice _ _ _ _ _ (by omega)|exact F.for_ _ _ _ (by omega)|exact F.ai _ _ _ _ _ _ (by omega)|exact(F.exp _ _ (by omega)).lo (by omega)|exact(F.either _ _ (by omega)).lo (by omega)|exact(F.ae _ _ _ (by omega)).lo (by omega)|exact(F.both _ _ (by omega)).lo (by omega)|exact(F.au _ _ _ (by omega)).lo (by omega)|exact(F.test _ _ (by omega)).lo (by omega)|exact(F.av _ _ _ (by omega)).lo (by omega)|exact(F.join _ _ (by omega)).lo (by omega)|exact(F.sum _ _ (by omega)).lo (by omega)|exact(F.aI _ _ _ (by omega)).lo (by omega)|exact(F.term _ _ (by omega)).lo (by omega)|exact(F.aw _ _ _ (by omega)).lo (by omega)|exact(F.unary _ _ (by omega)).lo (by omega)|exact(F.post _ _ (by omega)).lo (by omega)|exact(F.an _ _ _ (by omega)).lo (by omega)|exact(F.args _ _ _ _ (by omega)).lo (by omega)|exact(F.simple _ _ (by omega)).lo (by omega)|exact(F.table _ _ _ _ _ (by omega)).lo (by omega)|exact(F.field _ _ _ (by omega)).lo (by omega)|exact(F.body _ _ _ (by omega)).lo (by omega)|exact(F.params _ _ _ (by omega)).lo (by omega)|exact(F.ah _ _ _ (by omega)).lo (by omega)|exact(F.aj _ _ _ (by omega)).lo (by omega)|exact(F.af _ _ _ (by omega)).lo (by omega)|exact(F.do_ _ _ _ (by omega)).lo (by omega)|exact(F.plain _ _ _ (by omega)).lo (by omega)|exact(F.choice _ _ _ _ _ (by omega)).lo (by omega)|exact(F.for_ _ _ _ (by omega)).lo (by omega)|exact(F.ai _ _ _ _ _ _ (by omega)).lo (by omega)|exact Sw.must P _ (by omega)|exact(Sw.must P _ (by omega)).lo (by omega)|exact Sw.name P (by omega)|exact(Sw.name P (by omega)).lo (by omega)|exact Sw.err _|exact Sw.ok _ (by omega) (by omega)|(simp (disch:=omega) only[P.pos,P.gI,P.op1,P.gJ,P.un];done)|refine Sb.bind (F.block _ _ (by omega)) (λ_ _ _=>cx P _ _ _ _) λ_ _ _ _=>?_|apply Sw.bind|intro _ _ _ _|refine Sw.is P (by decide) (by omega) (λ_=>?_) ?_
 for_ a i d hi:=by
  rw[ij.eq_2,ij.eq_2]
  repeat' first|exact F.exp _ _ (by omega)|exact F.either _ _ (by omega)|exact F.ae _ _ _ (by omega)|exact F.both _ _ (by omega)|exact F.au _ _ _ (by omega)|exact F.test _ _ (by omega)|exact F.av _ _ _ (by omega)|exact F.join _ _ (by omega)|exact F.sum _ _ (by omega)|exact F.aI _ _ _ (by omega)|exact F.term _ _ (by omega)|exact F.aw _ _ _ (by omega)|exact F.unary _ _ (by omega)|exact F.post _ _ (by omega)|exact F.an _ _ _ (by omega)|exact F.args _ _ _ _ (by omega)|exact F.simple _ _ (by omega)|exact F.table _ _ _ _ _ (by omega)|exact F.field _ _ _ (by omega)|exact F.body _ _ _ (by omega)|exact F.params _ _ _ (by omega)|exact F.ah _ _ _ (by omega)|exact F.aj _ _ _ (by omega)|exact F.af _ _ _ (by omega)|exact F.do_ _ _ _ (by omega)|exact F.plain _ _ _ (by omega)|exact F.choice _ _ _ _ _ (by omega)|exact F.for_ _ _ _ (by omega)|exact F.ai _ _ _ _ _ _ (by omega)|exact(F.exp _ _ (by omega)).lo (by omega)|exact(F.either _ _ (by omega)).lo (by omega)|exact(F.ae _ _ _ (by omega)).lo (by omega)|exact(F.both _ _ (by omega)).lo (by omega)|exact(F.au _ _ _ (by omega)).lo (by omega)|exact(F.test _ _ (by omega)).lo (by omega)|exact(F.av _ _ _ (by omega)).lo (by omega)|exact(F.join _ _ (by omega)).lo (by omega)|exact(F.sum _ _ (by omega)).lo (by omega)|exact(F.aI _ _ _ (by omega)).lo (by omega)|exact(F.term _ _ (by omega)).lo (by omega)|exact(F.aw _ _ _ (by omega)).lo (by omega)|exact(F.unary _ _ (by omega)).lo (by omega)|exact(F.post _ _ (by omega)).lo (by omega)|exact(F.an _ _ _ (by omega)).lo (by omega)|exact(F.args _ _ _ _ (by omega)).lo (by omega)|exact(F.simple _ _ (by omega)).lo (by omega)|exact(F.table _ _ _ _ _ (by omega)).lo (by omega)|exact(F.field _ _ _ (by omega)).lo (by omega)|exact(F.body _ _ _ (by omega)).lo (by omega)|exact(F.params _ _ _ (by omega)).lo (by omega)|exact(F.ah _ _ _ (by omega)).lo (by omega)|exact(F.aj _ _ _ (by omega)).lo (by omega)|exact(F.af _ _ _ (by omega)).lo (by omega)|exact(F.do_ _ _ _ (by omega)).lo (by omega)|exact(F.plain _ _ _ (by omega)).lo (by omega)|exact(F.choice _ _ _ _ _ (by omega)).lo (by omega)|exact(F.for_ _ _ _ (by omega)).lo (by omega)|exact(F.ai _ _ _ _ _ _ (by omega)).lo (by omega)|exact Sw.must P _ (by omega)|exact(Sw.must P _ (by omega)).lo (by omega)|exact Sw.name P (by omega)|exact(Sw.name P (by omega)).lo (by omega)|exact Sw.err _|exact Sw.ok _ (by omega) (by omega)|(simp (disch:=omega) only[P.pos,P.gI,P.op1,P.gJ,P.un];done)|refine Sb.bind (F.block _ _ (by omega)) (λ_ _ _=>cx P _ _ _ _) λ_ _ _ _=>?_|apply Sw.bind|intro _ _ _ _|refine Sw.is P (by decide) (by omega) (λ_=>?_) ?_
 ai k a ns l i d hi:=by
  rw[dy.eq_2,dy.eq_2]
  repeat' first|exact F.exp _ _ (by omega)|exact F.either _ _ (by omega)|exact F.ae _ _ _ (by omega)|exact F.both _ _ (by omega)|exact F.au _ _ _ (by omega)|exact F.test _ _ (by omega)|exact F.av _ _ _ (by omega)|exact F.join _ _ (by omega)|exact F.sum _ _ (by omega)|exact F.aI _ _ _ (by omega)|exact F.term _ _ (by omega)|exact F.aw _ _ _ (by omega)|exact F.unary _ _ (by omega)|exact F.post _ _ (by omega)|exact F.an _ _ _ (by omega)|exact F.args _ _ _ _ (by omega)|exact F.simple _ _ (by omega)|exact F.table _ _ _ _ _ (by omega)|exact F.field _ _ _ (by omega)|exact F.body _ _ _ (by omega)|exact F.params _ _ _ (by omega)|exact F.ah _ _ _ (by omega)|exact F.aj _ _ _ (by omega)|exact F.af _ _ _ (by omega)|exact F.do_ _ _ _ (by omega)|exact F.plain _ _ _ (by omega)|exact F.choice _ _ _ _ _ (by omega)|exact F.for_ _ _ _ (by omega)|exact F.ai _ _ _ _ _ _ (by omega)|exact(F.exp _ _ (by omega)).lo (by omega)|exact(F.either _ _ (by omega)).lo (by omega)|exact(F.ae _ _ _ (by omega)).lo (by omega)|exact(F.both _ _ (by omega)).lo (by omega)|exact(F.au _ _ _ (by omega)).lo (by omega)|exact(F.test _ _ (by omega)).lo (by omega)|exact(F.av _ _ _ (by omega)).lo (by omega)|exact(F.join _ _ (by omega)).lo (by omega)|exact(F.sum _ _ (by omega)).lo (by omega)|exact(F.aI _ _ _ (by omega)).lo (by omega)|exact(F.term _ _ (by omega)).lo (by omega)|exact(F.aw _ _ _ (by omega)).lo (by omega)|exact(F.unary _ _ (by omega)).lo (by omega)|exact(F.post _ _ (by omega)).lo (by omega)|exact(F.an _ _ _ (by omega)).lo (by omega)|exact(F.args _ _ _ _ (by omega)).lo (by omega)|exact(F.simple _ _ (by omega)).lo (by omega)|exact(F.table _ _ _ _ _ (by omega)).lo (by omega)|exact(F.field _ _ _ (by omega)).lo (by omega)|exact(F.body _ _ _ (by omega)).lo (by omega)|exact(F.params _ _ _ (by omega)).lo (by omega)|exact(F.ah _ _ _ (by omega)).lo (by omega)|exact(F.aj _ _ _ (by omega)).lo (by omega)|exact(F.af _ _ _ (by omega)).lo (by omega)|exact(F.do_ _ _ _ (by omega)).lo (by omega)|exact(F.plain _ _ _ (by omega)).lo (by omega)|exact(F.choice _ _ _ _ _ (by omega)).lo (by omega)|exact(F.for_ _ _ _ (by omega)).lo (by omega)|exact(F.ai _ _ _ _ _ _ (by omega)).lo (by omega)|exact Sw.must P _ (by omega)|exact(Sw.must P _ (by omega)).lo (by omega)|exact Sw.name P (by omega)|exact(Sw.name P (by omega)).lo (by omega)|exact Sw.err _|exact Sw.ok _ (by omega) (by omega)|(simp (disch:=omega) only[P.pos,P.gI,P.op1,P.gJ,P.un];done)|refine Sb.bind (F.block _ _ (by omega)) (λ_ _ _=>cx P _ _ _ _) λ_ _ _ _=>?_|apply Sw.bind|intro _ _ _ _|refine Sw.is P (by decide) (by omega) (λ_=>?_) ?_
theorem YN(P:Pre T1 T α):∀n,Ftr T1 T α n
 |0=>fr0
 |n+1=>frS P (YN P n)
end
section
mutual
def aE.bare:aE→aE
 |.mk k _ n s op l f=>.mk k 0 n s op (bJ l) (cm f)
def bJ:List aE→List aE
 |[]=>[]
 |e::l=>e.bare::bJ l
def cq.bare:cq→cq
 |.mk ps b=>.mk ps (bf b)
def cm:List cq→List cq
 |[]=>[]
 |f::l=>f.bare::cm l
def aK.bare:aK→aK
 |.mk k _ ns l bs=>.mk k 0 ns (bJ l) (cg bs)
def bf:List aK→List aK
 |[]=>[]
 |s::l=>s.bare::bf l
def cg:List (List aK)→List (List aK)
 |[]=>[]
 |b::l=>bf b::cg l
end
theorem bR:∀a b:List aE,bJ (a++b)=bJ a++bJ b
 |[],b=>by simp[bJ]
 |e::a,b=>by rw[List.cons_append,bJ,bJ,bR a b];rfl
theorem bK:∀a b:List aK,bf (a++b)=bf a++bf b
 |[],b=>by simp[bf]
 |e::a,b=>by rw[List.cons_append,bf,bf,bK a b];rfl
theorem bS:∀a b:List (List aK),cg (a++b)=cg a++cg b
 |[],b=>by simp[cg]
 |e::a,b=>by rw[List.cons_append,cg,cg,bS a b];rfl
theorem oA:∀a:List aE,(bJ a).length=a.length
 |[]=>rfl
 |e::a=>by rw[bJ,List.length_cons,List.length_cons,oA a]
theorem wC:∀a:List aK,(bf a).length=a.length
 |[]=>rfl
 |e::a=>by rw[bf,List.length_cons,List.length_cons,wC a]
theorem Sj{e e':aE}(h:e'.bare=e.bare):e'.kind=e.kind:=by
 obtain⟨k,a,n,s,op,l,f⟩:=e;obtain⟨k',a',n',s',op',l',f'⟩:=e';simp only[aE.bare,aE.mk.injEq]at h;exact h.1
theorem Sl{e e':aK}(h:e'.bare=e.bare):e'.kind=e.kind:=by
 obtain⟨k,a,n,l,f⟩:=e;obtain⟨k',a',n',l',f'⟩:=e';simp only[aK.bare,aK.mk.injEq]at h;exact h.1
structure qs(B T:List Tok)(κ:Nat):Prop where
 kind:∀i,bC T (i+κ)=bC B i
 text:∀i,dO T (i+κ)=dO B i
 num:∀i,nk T (i+κ)=nk B i
variable {B T:List Tok}{κ:Nat}
theorem qs.is(Q:qs B T κ)(s:List Nat)(i:Nat):isA T s (i+κ)=isA B s i:=by unfold isA;rw[Q.kind,Q.text]
theorem qs.op(Q:qs B T κ)(i:Nat):∀(f:Nat) (l:List (List Nat)),iI T (i+κ) f l=iI B i f l
 |_,[]=>rfl
 |f,s::l=>by unfold iI;rw[Q.is,Q.op i (f+1) l]
theorem qs.un(Q:qs B T κ)(i:Nat):oE T (i+κ)=oE B i:=by unfold oE;rw[Q.is,Q.is,Q.is]
theorem qs.lone(Q:qs B T κ)(i:Nat):jZ T (i+κ)=jZ B i:=by unfold jZ;rw[Q.is,Q.is,Q.is]
theorem qs.ends(Q:qs B T κ)(i:Nat):dH T (i+κ)=dH B i:=by unfold dH;rw[Q.is,Q.is,Q.is,Q.is,Q.kind]
theorem qs.opt(Q:qs B T κ)(s:List Nat)(i:Nat):iv T s (i+κ)=iv B s i+κ:=by
 unfold iv;rw[Q.is];split<;>omega
def Sh{β:Type}(R:β→β→Prop)(κ:Nat)(r r':bF β):Prop:=∀v j,r=.ok v j→∃v',r'=.ok v' (j+κ)∧R v v'
theorem Sh.bind{β γ:Type}{R:β→β→Prop}{R2:γ→γ→Prop}{r r':bF β}{f f':β→Nat→bF γ}(h:Sh R κ r r')(hf:∀v v' j,R v v'→Sh R2 κ (f v j) (f' v' (j+κ))):Sh R2 κ (r.bind f) (r'.bind f'):=by
 intro v j e;obtain⟨a,i',e1,e2⟩:=aS e;obtain⟨a',h1,h2⟩:=h a i' e1;rw[h1];exact hf a a' i' h2 v j e2
theorem Sh.ok{β:Type}{R:β→β→Prop}{i:Nat}{v v':β}(h:R v v'):Sh R κ (bF.ok v i) (.ok v' (i+κ)):=λw j e=>by cases e;exact⟨v',rfl,h⟩
theorem Sh.err{β:Type}{R:β→β→Prop}{c i:Nat}(r:bF β):Sh R κ (bF.err c i) r:=λw j e=>by cases e
theorem Sh.ite{β:Type}{R:β→β→Prop}{c:Prop}[Decidable c]{a b a' b':bF β}(h1:c→Sh R κ a a')(h2:¬c→Sh R κ b b'):Sh R κ (if c then a else b) (if c then a' else b'):=by
 split
 ·exact h1 (by assumption)
 ·exact h2 (by assumption)
def rU:Unit→Unit→Prop:=λ_ _=>True
def rT{β:Type}:β→β→Prop:=λs s'=>s'=s
def eN:aE→aE→Prop:=λe e'=>e'.bare=e.bare
def iJ:List aE→List aE→Prop:=λe e'=>bJ e'=bJ e
def rP:List aE×Nat→List aE×Nat→Prop:=λe e'=>bJ e'.1=bJ e.1∧e'.2=e.2
def gK:aK→aK→Prop:=λe e'=>e'.bare=e.bare
def jo(pre:List aK):List aK→List aK→Prop:=λe e'=>bf e'=pre++bf e
theorem Sh.must(Q:qs B T κ)(s:List Nat)(i:Nat):Sh rU κ (cC B s i) (cC T s (i+κ)):=by
 unfold cC;rw[Q.is];refine Sh.ite (λ_=>?_) λ_=>Sh.err _;rw[Nat.add_right_comm];exact Sh.ok trivial
theorem Sh.name(Q:qs B T κ)(i:Nat):Sh rT κ (gY B i) (gY T (i+κ)):=by
 unfold gY;rw[Q.kind,Q.text];refine Sh.ite (λ_=>?_) λ_=>Sh.err _;rw[Nat.add_right_comm];exact Sh.ok rfl
structure Aff(B T:List Tok)(κ n:Nat):Prop where
 exp:∀i d,Sh eN κ (de B n i d) (de T n (i+κ) d)
 either:∀i d,Sh eN κ (dx B n i d) (dx T n (i+κ) d)
 both:∀i d,Sh eN κ (fu B n i d) (fu T n (i+κ) d)
 test:∀i d,Sh eN κ (fw B n i d) (fw T n (i+κ) d)
 join:∀i d,Sh eN κ (fi B n i d) (fi T n (i+κ) d)
 sum:∀i d,Sh eN κ (ig B n i d) (ig T n (i+κ) d)
 term:∀i d,Sh eN κ (fx B n i d) (fx T n (i+κ) d)
 unary:∀i d,Sh eN κ (dN B n i d) (dN T n (i+κ) d)
 post:∀i d,Sh eN κ (fj B n i d) (fj T n (i+κ) d)
 simple:∀i d,Sh eN κ (dc B n i d) (dc T n (i+κ) d)
 ae:∀e e' i d,eN e e'→Sh eN κ (df B n e i d) (df T n e' (i+κ) d)
 au:∀e e' i d,eN e e'→Sh eN κ (eF B n e i d) (eF T n e' (i+κ) d)
 av:∀e e' i d,eN e e'→Sh eN κ (eG B n e i d) (eG T n e' (i+κ) d)
 aI:∀e e' i d,eN e e'→Sh eN κ (fT B n e i d) (fT T n e' (i+κ) d)
 aw:∀e e' i d,eN e e'→Sh eN κ (eH B n e i d) (eH T n e' (i+κ) d)
 an:∀e e' i d,eN e e'→Sh eN κ (dI B n e i d) (dI T n e' (i+κ) d)
 args:∀b out out' i d,iJ out out'→Sh iJ κ (cT B n b out i d) (cT T n b out' (i+κ) d)
 table:∀out out' c a a' i d,iJ out out'→Sh eN κ (dh B n out c a i d) (dh T n out' c a' (i+κ) d)
 field:∀c i d,Sh rP κ (dJ B n c i d) (dJ T n c (i+κ) d)
 body:∀a a' i d,Sh eN κ (fy B n a i d) (fy T n a' (i+κ) d)
 params:∀b out i,Sh rT κ (cG B n b out i) (cG T n b out (i+κ))
 block:∀i d,Sh (jo []) κ (cz B n i d) (cz T n (i+κ) d)
 aM:∀pre out out' i d,jo pre out out'→Sh (jo pre) κ (bG B n out i d) (bG T n out' (i+κ) d)
 stat:∀i d,Sh gK κ (eY B n i d) (eY T n (i+κ) d)
 ah:∀a a' i d,Sh gK κ (ep B n a i d) (ep T n a' (i+κ) d)
 aj:∀a a' i d,Sh gK κ (fe B n a i d) (fe T n a' (i+κ) d)
 af:∀a a' i d,Sh gK κ (dR B n a i d) (dR T n a' (i+κ) d)
 do_:∀a a' i d,Sh gK κ (kV B n a i d) (kV T n a' (i+κ) d)
 aH:∀a a' i d,Sh gK κ (dS B n a i d) (dS T n a' (i+κ) d)
 plain:∀a a' i d,Sh gK κ (ey B n a i d) (ey T n a' (i+κ) d)
 for_:∀a a' i d,Sh gK κ (ij B n a i d) (ij T n a' (i+κ) d)
 choice:∀a a' l l' bs bs' i d,iJ l l'→cg bs'=cg bs→Sh gK κ (cO B n a l bs i d) (cO T n a' l' bs' (i+κ) d)
 ai:∀k a a' ns l l' i d,iJ l l'→Sh gK κ (dy B n k a ns l i d) (dy T n k a' ns l' (i+κ) d)
theorem aiM:Aff B T κ 0 where
 exp _ _:=λv j e=>by rw[de.eq_1]at e;cases e
 either _ _:=λv j e=>by rw[dx.eq_1]at e;cases e
 both _ _:=λv j e=>by rw[fu.eq_1]at e;cases e
 test _ _:=λv j e=>by rw[fw.eq_1]at e;cases e
 join _ _:=λv j e=>by rw[fi.eq_1]at e;cases e
 sum _ _:=λv j e=>by rw[ig.eq_1]at e;cases e
 term _ _:=λv j e=>by rw[fx.eq_1]at e;cases e
 unary _ _:=λv j e=>by rw[dN.eq_1]at e;cases e
 post _ _:=λv j e=>by rw[fj.eq_1]at e;cases e
 simple _ _:=λv j e=>by rw[dc.eq_1]at e;cases e
 ae _ _ _ _ _:=λv j e=>by rw[df.eq_1]at e;cases e
 au _ _ _ _ _:=λv j e=>by rw[eF.eq_1]at e;cases e
 av _ _ _ _ _:=λv j e=>by rw[eG.eq_1]at e;cases e
 aI _ _ _ _ _:=λv j e=>by rw[fT.eq_1]at e;cases e
 aw _ _ _ _ _:=λv j e=>by rw[eH.eq_1]at e;cases e
 an _ _ _ _ _:=λv j e=>by rw[dI.eq_1]at e;cases e
 args _ _ _ _ _ _:=λv j e=>by rw[cT.eq_1]at e;cases e
 table _ _ _ _ _ _ _ _:=λv j e=>by rw[dh.eq_1]at e;cases e
 field _ _ _:=λv j e=>by rw[dJ.eq_1]at e;cases e
 body _ _ _ _:=λv j e=>by rw[fy.eq_1]at e;cases e
 params _ _ _:=λv j e=>by rw[cG.eq_1]at e;cases e
 block _ _:=λv j e=>by rw[cz.eq_1]at e;cases e
 aM _ _ _ _ _ _:=λv j e=>by rw[bG.eq_1]at e;cases e
 stat _ _:=λv j e=>by rw[eY.eq_1]at e;cases e
 ah _ _ _ _:=λv j e=>by rw[ep.eq_1]at e;cases e
 aj _ _ _ _:=λv j e=>by rw[fe.eq_1]at e;cases e
 af _ _ _ _:=λv j e=>by rw[dR.eq_1]at e;cases e
 do_ _ _ _ _:=λv j e=>by rw[kV.eq_1]at e;cases e
 aH _ _ _ _:=λv j e=>by rw[dS.eq_1]at e;cases e
 plain _ _ _ _:=λv j e=>by rw[ey.eq_1]at e;cases e
 for_ _ _ _ _:=λv j e=>by rw[ij.eq_1]at e;cases e
 choice _ _ _ _ _ _ _ _ _ _:=λv j e=>by rw[cO.eq_1]at e;cases e
 ai _ _ _ _ _ _ _ _ _:=λv j e=>by rw[dy.eq_1]at e;cases e
theorem aiN(Q:qs B T κ){n:Nat}(F:Aff B T κ n):Aff B T κ (n+1) where
 exp i d:=by
  rw[de.eq_2,de.eq_2]
  repeat' first|exact F.exp _ _|exact F.either _ _|exact F.both _ _|exact F.test _ _|exact F.join _ _|exact F.sum _ _|exact F.term _ _|exact F.unary _ _|exact F.post _ _|exact F.simple _ _|refine F.ae _ _ _ _ ?_|refine F.au _ _ _ _ ?_|refine F.av _ _ _ _ ?_|refine F.aI _ _ _ _ ?_|refine F.aw _ _ _ _ ?_|refine F.an _ _ _ _ ?_|refine F.args _ _ _ _ _ ?_|refine F.table _ _ _ _ _ _ _ ?_|exact F.field _ _ _|exact F.body _ _ _ _|exact F.params _ _ _|exact F.block _ _|refine F.aM _ _ _ _ _ ?_|exact F.stat _ _|exact F.ah _ _ _ _|exact F.aj _ _ _ _|exact F.af _ _ _ _|exact F.do_ _ _ _ _|exact F.aH _ _ _ _|exact F.plain _ _ _ _|exact F.for_ _ _ _ _|refine F.choice _ _ _ _ _ _ _ _ ?_ ?_|refine F.ai _ _ _ _ _ _ _ _ ?_|exact Sh.must Q _ _|exact Sh.name Q _|exact Sh.err _|refine Sh.ite (λ_=>?_) λ_=>?_|apply Sh.bind|(intro v v' j hv;try (have hv:v'=v:=hv;subst hv))|simp only[Nat.add_right_comm _ κ,Q.is,Q.kind,Q.text,Q.num,Q.op,Q.un,Q.lone,Q.ends,Q.opt]|refine Sh.ok ?_|assumption|rfl|(simp_all only[eN,iJ,rP,gK,jo,rT,rU,dU,aE.bare,cq.bare,aK.bare,bJ,cm,bf,cg,bR,bS,bK,List.nil_append,and_self];done)
 either i d:=by
  rw[dx.eq_2,dx.eq_2]
  repeat' first|exact F.exp _ _|exact F.either _ _|exact F.both _ _|exact F.test _ _|exact F.join _ _|exact F.sum _ _|exact F.term _ _|exact F.unary _ _|exact F.post _ _|exact F.simple _ _|refine F.ae _ _ _ _ ?_|refine F.au _ _ _ _ ?_|refine F.av _ _ _ _ ?_|refine F.aI _ _ _ _ ?_|refine F.aw _ _ _ _ ?_|refine F.an _ _ _ _ ?_|refine F.args _ _ _ _ _ ?_|refine F.table _ _ _ _ _ _ _ ?_|exact F.field _ _ _|exact F.body _ _ _ _|exact F.params _ _ _|exact F.block _ _|refine F.aM _ _ _ _ _ ?_|exact F.stat _ _|exact F.ah _ _ _ _|exact F.aj _ _ _ _|exact F.af _ _ _ _|exact F.do_ _ _ _ _|exact F.aH _ _ _ _|exact F.plain _ _ _ _|exact F.for_ _ _ _ _|refine F.choice _ _ _ _ _ _ _ _ ?_ ?_|refine F.ai _ _ _ _ _ _ _ _ ?_|exact Sh.must Q _ _|exact Sh.name Q _|exact Sh.err _|refine Sh.ite (λ_=>?_) λ_=>?_|apply Sh.bind|(intro v v' j hv;try (have hv:v'=v:=hv;subst hv))|simp only[Nat.add_right_comm _ κ,Q.is,Q.kind,Q.text,Q.num,Q.op,Q.un,Q.lone,Q.ends,Q.opt]|refine Sh.ok ?_|assumption|rfl|(simp_all only[eN,iJ,rP,gK,jo,rT,rU,dU,aE.bare,cq.bare,aK.bare,bJ,cm,bf,cg,bR,bS,bK,List.nil_append,and_self];done)
 both i d:=by
  rw[fu.eq_2,fu.eq_2]
  repeat' first|exact F.exp _ _|exact F.either _ _|exact F.both _ _|exact F.test _ _|exact F.join _ _|exact F.sum _ _|exact F.term _ _|exact F.unary _ _|exact F.post _ _|exact F.simple _ _|refine F.ae _ _ _ _ ?_|refine F.au _ _ _ _ ?_|refine F.av _ _ _ _ ?_|refine F.aI _ _ _ _ ?_|refine F.aw _ _ _ _ ?_|refine F.an _ _ _ _ ?_|refine F.args _ _ _ _ _ ?_|refine F.table _ _ _ _ _ _ _ ?_|exact F.field _ _ _|exact F.body _ _ _ _|exact F.params _ _ _|exact F.block _ _|refine F.aM _ _ _ _ _ ?_|exact F.stat _ _|exact F.ah _ _ _ _|exact F.aj _ _ _ _|exact F.af _ _ _ _|exact F.do_ _ _ _ _|exact F.aH _ _ _ _|exact F.plain _ _ _ _|exact F.for_ _ _ _ _|refine F.choice _ _ _ _ _ _ _ _ ?_ ?_|refine F.ai _ _ _ _ _ _ _ _ ?_|exact Sh.must Q _ _|exact Sh.name Q _|exact Sh.err _|refine Sh.ite (λ_=>?_) λ_=>?_|apply Sh.bind|(intro v v' j hv;try (have hv:v'=v:=hv;subst hv))|simp only[Nat.add_right_comm _ κ,Q.is,Q.kind,Q.text,Q.num,Q.op,Q.un,Q.lone,Q.ends,Q.opt]|refine Sh.ok ?_|assumption|rfl|(simp_all only[eN,iJ,rP,gK,jo,rT,rU,dU,aE.bare,cq.bare,aK.bare,bJ,cm,bf,cg,bR,bS,bK,List.nil_append,and_self];done)
 test i d:=by
  rw[fw.eq_2,fw.eq_2]
  repeat' first|exact F.exp _ _|exact F.either _ _|exact F.both _ _|exact F.test _ _|exact F.join _ _|exact F.sum _ _|exact F.term _ _|exact F.unary _ _|exact F.post _ _|exact F.simple _ _|refine F.ae _ _ _ _ ?_|refine F.au _ _ _ _ ?_|refine F.av _ _ _ _ ?_|refine F.aI _ _ _ _ ?_|refine F.aw _ _ _ _ ?_|refine F.an _ _ _ _ ?_|refine F.args _ _ _ _ _ ?_|refine F.table _ _ _ _ _ _ _ ?_|exact F.field _ _ _|exact F.body _ _ _ _|exact F.params _ _ _|exact F.block _ _|refine F.aM _ _ _ _ _ ?_|exact F.stat _ _|exact F.ah _ _ _ _|exact F.aj _ _ _ _|exact F.af _ _ _ _|exact F.do_ _ _ _ _|exact F.aH _ _ _ _|exact F.plain _ _ _ _|exact F.for_ _ _ _ _|refine F.choice _ _ _ _ _ _ _ _ ?_ ?_|refine F.ai _ _ _ _ _ _ _ _ ?_|exact Sh.must Q _ _|exact Sh.name Q _|exact Sh.err _|refine Sh.ite (λ_=>?_) λ_=>?_|apply Sh.bind|(intro v v' j hv;try (have hv:v'=v:=hv;subst hv))|simp only[Nat.add_right_comm _ κ,Q.is,Q.kind,Q.text,Q.num,Q.op,Q.un,Q.lone,Q.ends,Q.opt]|refine Sh.ok ?_|assumption|rfl|(simp_all only[eN,iJ,rP,gK,jo,rT,rU,dU,aE.bare,cq.bare,aK.bare,bJ,cm,bf,cg,bR,bS,bK,List.nil_append,and_self];done)
 join i d:=by
  rw[fi.eq_2,fi.eq_2]
  repeat' first|exact F.exp _ _|exact F.either _ _|exact F.both _ _|exact F.test _ _|exact F.join _ _|exact F.sum _ _|exact F.term _ _|exact F.unary _ _|exact F.post _ _|exact F.simple _ _|refine F.ae _ _ _ _ ?_|refine F.au _ _ _ _ ?_|refine F.av _ _ _ _ ?_|refine F.aI _ _ _ _ ?_|refine F.aw _ _ _ _ ?_|refine F.an _ _ _ _ ?_|refine F.args _ _ _ _ _ ?_|refine F.table _ _ _ _ _ _ _ ?_|exact F.field _ _ _|exact F.body _ _ _ _|exact F.params _ _ _|exact F.block _ _|refine F.aM _ _ _ _ _ ?_|exact F.stat _ _|exact F.ah _ _ _ _|exact F.aj _ _ _ _|exact F.af _ _ _ _|exact F.do_ _ _ _ _|exact F.aH _ _ _ _|exact F.plain _ _ _ _|exact F.for_ _ _ _ _|refine F.choice _ _ _ _ _ _ _ _ ?_ ?_|refine F.ai _ _ _ _ _ _ _ _ ?_|exact Sh.must Q _ _|exact Sh.name Q _|exact Sh.err _|refine Sh.ite (λ_=>?_) λ_=>?_|apply Sh.bind|(intro v v' j hv;try (have hv:v'=v:=hv;subst hv))|simp only[Nat.add_right_comm _ κ,Q.is,Q.kind,Q.text,Q.num,Q.op,Q.un,Q.lone,Q.ends,Q.opt]|refine Sh.ok ?_|assumption|rfl|(simp_all only[eN,iJ,rP,gK,jo,rT,rU,dU,aE.bare,cq.bare,aK.bare,bJ,cm,bf,cg,bR,bS,bK,List.nil_append,and_self];done)
 sum i d:=by
  rw[ig.eq_2,ig.eq_2]
  repeat' first|exact F.exp _ _|exact F.either _ _|exact F.both _ _|exact F.test _ _|exact F.join _ _|exact F.sum _ _|exact F.term _ _|exact F.unary _ _|exact F.post _ _|exact F.simple _ _|refine F.ae _ _ _ _ ?_|refine F.au _ _ _ _ ?_|refine F.av _ _ _ _ ?_|refine F.aI _ _ _ _ ?_|refine F.aw _ _ _ _ ?_|refine F.an _ _ _ _ ?_|refine F.args _ _ _ _ _ ?_|refine F.table _ _ _ _ _ _ _ ?_|exact F.field _ _ _|exact F.body _ _ _ _|exact F.params _ _ _|exact F.block _ _|refine F.aM _ _ _ _ _ ?_|exact F.stat _ _|exact F.ah _ _ _ _|exact F.aj _ _ _ _|exact F.af _ _ _ _|exact F.do_ _ _ _ _|exact F.aH _ _ _ _|exact F.plain _ _ _ _|exact F.for_ _ _ _ _|refine F.choice _ _ _ _ _ _ _ _ ?_ ?_|refine F.ai _ _ _ _ _ _ _ _ ?_|exact Sh.must Q _ _|exact Sh.name Q _|exact Sh.err _|refine Sh.ite (λ_=>?_) λ_=>?_|apply Sh.bind|(intro v v' j hv;try (have hv:v'=v:=hv;subst hv))|simp only[Nat.add_right_comm _ κ,Q.is,Q.kind,Q.text,Q.num,Q.op,Q.un,Q.lone,Q.ends,Q.opt]|refine Sh.ok ?_|assumption|rfl|(simp_all only[eN,iJ,rP,gK,jo,rT,rU,dU,aE.bare,cq.bare,aK.bare,bJ,cm,bf,cg,bR,bS,bK,List.nil_append,and_self];done)
 term i d:=by
  rw[fx.eq_2,fx.eq_2]
  repeat' first|exact F.exp _ _|exact F.either _ _|exact F.both _ _|exact F.test _ _|exact F.join _ _|exact F.sum _ _|exact F.term _ _|exact F.unary _ _|exact F.post _ _|exact F.simple _ _|refine F.ae _ _ _ _ ?_|refine F.au _ _ _ _ ?_|refine F.av _ _ _ _ ?_|refine F.aI _ _ _ _ ?_|refine F.aw _ _ _ _ ?_|refine F.an _ _ _ _ ?_|refine F.args _ _ _ _ _ ?_|refine F.table _ _ _ _ _ _ _ ?_|exact F.field _ _ _|exact F.body _ _ _ _|exact F.params _ _ _|exact F.block _ _|refine F.aM _ _ _ _ _ ?_|exact F.stat _ _|exact F.ah _ _ _ _|exact F.aj _ _ _ _|exact F.af _ _ _ _|exact F.do_ _ _ _ _|exact F.aH _ _ _ _|exact F.plain _ _ _ _|exact F.for_ _ _ _ _|refine F.choice _ _ _ _ _ _ _ _ ?_ ?_|refine F.ai _ _ _ _ _ _ _ _ ?_|exact Sh.must Q _ _|exact Sh.name Q _|exact Sh.err _|refine Sh.ite (λ_=>?_) λ_=>?_|apply Sh.bind|(intro v v' j hv;try (have hv:v'=v:=hv;subst hv))|simp only[Nat.add_right_comm _ κ,Q.is,Q.kind,Q.text,Q.num,Q.op,Q.un,Q.lone,Q.ends,Q.opt]|refine Sh.ok ?_|assumption|rfl|(simp_all only[eN,iJ,rP,gK,jo,rT,rU,dU,aE.bare,cq.bare,aK.bare,bJ,cm,bf,cg,bR,bS,bK,List.nil_append,and_self];done)
 unary i d:=by
  rw[dN.eq_2,dN.eq_2]
  repeat' first|exact F.exp _ _|exact F.either _ _|exact F.both _ _|exact F.test _ _|exact F.join _ _|exact F.sum _ _|exact F.term _ _|exact F.unary _ _|exact F.post _ _|exact F.simple _ _|refine F.ae _ _ _ _ ?_|refine F.au _ _ _ _ ?_|refine F.av _ _ _ _ ?_|refine F.aI _ _ _ _ ?_|refine F.aw _ _ _ _ ?_|refine F.an _ _ _ _ ?_|refine F.args _ _ _ _ _ ?_|refine F.table _ _ _ _ _ _ _ ?_|exact F.field _ _ _|exact F.body _ _ _ _|exact F.params _ _ _|exact F.block _ _|refine F.aM _ _ _ _ _ ?_|exact F.stat _ _|exact F.ah _ _ _ _|exact F.aj _ _ _ _|exact F.af _ _ _ _|exact F.do_ _ _ _ _|exact F.aH _ _ _ _|exact F.plain _ _ _ _|exact F.for_ _ _ _ _|refine F.choice _ _ _ _ _ _ _ _ ?_ ?_|refine F.ai _ _ _ _ _ _ _ _ ?_|exact Sh.must Q _ _|exact Sh.name Q _|exact Sh.err _|refine Sh.ite (λ_=>?_) λ_=>?_|apply Sh.bind|(intro v v' j hv;try (have hv:v'=v:=hv;subst hv))|simp only[Nat.add_right_comm _ κ,Q.is,Q.kind,Q.text,Q.num,Q.op,Q.un,Q.lone,Q.ends,Q.opt]|refine Sh.ok ?_|assumption|rfl|(simp_all only[eN,iJ,rP,gK,jo,rT,rU,dU,aE.bare,cq.bare,aK.bare,bJ,cm,bf,cg,bR,bS,bK,List.nil_append,and_self];done)
 post i d:=by
  rw[fj.eq_2,fj.eq_2]
  repeat' first|exact F.exp _ _|exact F.either _ _|exact F.both _ _|exact F.test _ _|exact F.join _ _|exact F.sum _ _|exact F.term _ _|exact F.unary _ _|exact F.post _ _|exact F.simple _ _|refine F.ae _ _ _ _ ?_|refine F.au _ _ _ _ ?_|refine F.av _ _ _ _ ?_|refine F.aI _ _ _ _ ?_|refine F.aw _ _ _ _ ?_|refine F.an _ _ _ _ ?_|refine F.args _ _ _ _ _ ?_|refine F.table _ _ _ _ _ _ _ ?_|exact F.field _ _ _|exact F.body _ _ _ _|exact F.params _ _ _|exact F.block _ _|refine F.aM _ _ _ _ _ ?_|exact F.stat _ _|exact F.ah _ _ _ _|exact F.aj _ _ _ _|exact F.af _ _ _ _|exact F.do_ _ _ _ _|exact F.aH _ _ _ _|exact F.plain _ _ _ _|exact F.for_ _ _ _ _|refine F.choice _ _ _ _ _ _ _ _ ?_ ?_|refine F.ai _ _ _ _ _ _ _ _ ?_|exact Sh.must Q _ _|exact Sh.name Q _|exact Sh.err _|refine Sh.ite (λ_=>?_) λ_=>?_|apply Sh.bind|(intro v v' j hv;try (have hv:v'=v:=hv;subst hv))|simp only[Nat.add_right_comm _ κ,Q.is,Q.kind,Q.text,Q.num,Q.op,Q.un,Q.lone,Q.ends,Q.opt]|refine Sh.ok ?_|assumption|rfl|(simp_all only[eN,iJ,rP,gK,jo,rT,rU,dU,aE.bare,cq.bare,aK.bare,bJ,cm,bf,cg,bR,bS,bK,List.nil_append,and_self];done)
 simple i d:=by
  rw[dc.eq_2,dc.eq_2]
  repeat' first|exact F.exp _ _|exact F.either _ _|exact F.both _ _|exact F.test _ _|exact F.join _ _|exact F.sum _ _|exact F.term _ _|exact F.unary _ _|exact F.post _ _|exact F.simple _ _|refine F.ae _ _ _ _ ?_|refine F.au _ _ _ _ ?_|refine F.av _ _ _ _ ?_|refine F.aI _ _ _ _ ?_|refine F.aw _ _ _ _ ?_|refine F.an _ _ _ _ ?_|refine F.args _ _ _ _ _ ?_|refine F.table _ _ _ _ _ _ _ ?_|exact F.field _ _ _|exact F.body _ _ _ _|exact F.params _ _ _|exact F.block _ _|refine F.aM _ _ _ _ _ ?_|exact F.stat _ _|exact F.ah _ _ _ _|exact F.aj _ _ _ _|exact F.af _ _ _ _|exact F.do_ _ _ _ _|exact F.aH _ _ _ _|exact F.plain _ _ _ _|exact F.for_ _ _ _ _|refine F.choice _ _ _ _ _ _ _ _ ?_ ?_|refine F.ai _ _ _ _ _ _ _ _ ?_|exact Sh.must Q _ _|exact Sh.name Q _|exact Sh.err _|refine Sh.ite (λ_=>?_) λ_=>?_|apply Sh.bind|(intro v v' j hv;try (have hv:v'=v:=hv;subst hv))|simp only[Nat.add_right_comm _ κ,Q.is,Q.kind,Q.text,Q.num,Q.op,Q.un,Q.lone,Q.ends,Q.opt]|refine Sh.ok ?_|assumption|rfl|(simp_all only[eN,iJ,rP,gK,jo,rT,rU,dU,aE.bare,cq.bare,aK.bare,bJ,cm,bf,cg,bR,bS,bK,List.nil_append,and_self];done)
 ae e e' i d h0:=by
  rw[df.eq_2,df.eq_2]
  repeat' first|exact F.exp _ _|exact F.either _ _|exact F.both _ _|exact F.test _ _|exact F.join _ _|exact F.sum _ _|exact F.term _ _|exact F.unary _ _|exact F.post _ _|exact F.simple _ _|refine F.ae _ _ _ _ ?_|refine F.au _ _ _ _ ?_|refine F.av _ _ _ _ ?_|refine F.aI _ _ _ _ ?_|refine F.aw _ _ _ _ ?_|refine F.an _ _ _ _ ?_|refine F.args _ _ _ _ _ ?_|refine F.table _ _ _ _ _ _ _ ?_|exact F.field _ _ _|exact F.body _ _ _ _|exact F.params _ _ _|exact F.block _ _|refine F.aM _ _ _ _ _ ?_|exact F.stat _ _|exact F.ah _ _ _ _|exact F.aj _ _ _ _|exact F.af _ _ _ _|exact F.do_ _ _ _ _|exact F.aH _ _ _ _|exact F.plain _ _ _ _|exact F.for_ _ _ _ _|refine F.choice _ _ _ _ _ _ _ _ ?_ ?_|refine F.ai _ _ _ _ _ _ _ _ ?_|exact Sh.must Q _ _|exact Sh.name Q _|exact Sh.err _|refine Sh.ite (λ_=>?_) λ_=>?_|apply Sh.bind|(intro v v' j hv;try (have hv:v'=v:=hv;subst hv))|simp only[Nat.add_right_comm _ κ,Q.is,Q.kind,Q.text,Q.num,Q.op,Q.un,Q.lone,Q.ends,Q.opt]|refine Sh.ok ?_|assumption|rfl|(simp_all only[eN,iJ,rP,gK,jo,rT,rU,dU,aE.bare,cq.bare,aK.bare,bJ,cm,bf,cg,bR,bS,bK,List.nil_append,and_self];done)
 au e e' i d h0:=by
  rw[eF.eq_2,eF.eq_2]
  repeat' first|exact F.exp _ _|exact F.either _ _|exact F.both _ _|exact F.test _ _|exact F.join _ _|exact F.sum _ _|exact F.term _ _|exact F.unary _ _|exact F.post _ _|exact F.simple _ _|refine F.ae _ _ _ _ ?_|refine F.au _ _ _ _ ?_|refine F.av _ _ _ _ ?_|refine F.aI _ _ _ _ ?_|refine F.aw _ _ _ _ ?_|refine F.an _ _ _ _ ?_|refine F.args _ _ _ _ _ ?_|refine F.table _ _ _ _ _ _ _ ?_|exact F.field _ _ _|exact F.body _ _ _ _|exact F.params _ _ _|exact F.block _ _|refine F.aM _ _ _ _ _ ?_|exact F.stat _ _|exact F.ah _ _ _ _|exact F.aj _ _ _ _|exact F.af _ _ _ _|exact F.do_ _ _ _ _|exact F.aH _ _ _ _|exact F.plain _ _ _ _|exact F.for_ _ _ _ _|refine F.choice _ _ _ _ _ _ _ _ ?_ ?_|refine F.ai _ _ _ _ _ _ _ _ ?_|exact Sh.must Q _ _|exact Sh.name Q _|exact Sh.err _|refine Sh.ite (λ_=>?_) λ_=>?_|apply Sh.bind|(intro v v' j hv;try (have hv:v'=v:=hv;subst hv))|simp only[Nat.add_right_comm _ κ,Q.is,Q.kind,Q.text,Q.num,Q.op,Q.un,Q.lone,Q.ends,Q.opt]|refine Sh.ok ?_|assumption|rfl|(simp_all only[eN,iJ,rP,gK,jo,rT,rU,dU,aE.bare,cq.bare,aK.bare,bJ,cm,bf,cg,bR,bS,bK,List.nil_append,and_self];done)
 av e e' i d h0:=by
  rw[eG.eq_2,eG.eq_2]
  repeat' first|exact F.exp _ _|exact F.either _ _|exact F.both _ _|exact F.test _ _|exact F.join _ _|exact F.sum _ _|exact F.term _ _|exact F.unary _ _|exact F.post _ _|exact F.simple _ _|refine F.ae _ _ _ _ ?_|refine F.au _ _ _ _ ?_|refine F.av _ _ _ _ ?_|refine F.aI _ _ _ _ ?_|refine F.aw _ _ _ _ ?_|refine F.an _ _ _ _ ?_|refine F.args _ _ _ _ _ ?_|refine F.table _ _ _ _ _ _ _ ?_|exact F.field _ _ _|exact F.body _ _ _ _|exact F.params _ _ _|exact F.block _ _|refine F.aM _ _ _ _ _ ?_|exact F.stat _ _|exact F.ah _ _ _ _|exact F.aj _ _ _ _|exact F.af _ _ _ _|exact F.do_ _ _ _ _|exact F.aH _ _ _ _|exact F.plain _ _ _ _|exact F.for_ _ _ _ _|refine F.choice _ _ _ _ _ _ _ _ ?_ ?_|refine F.ai _ _ _ _ _ _ _ _ ?_|exact Sh.must Q _ _|exact Sh.name Q _|exact Sh.err _|refine Sh.ite (λ_=>?_) λ_=>?_|apply Sh.bind|(intro v v' j hv;try (have hv:v'=v:=hv;subst hv))|simp only[Nat.add_right_comm _ κ,Q.is,Q.kind,Q.text,Q.num,Q.op,Q.un,Q.lone,Q.ends,Q.opt]|refine Sh.ok ?_|assumption|rfl|(simp_all only[eN,iJ,rP,gK,jo,rT,rU,dU,aE.bare,cq.bare,aK.bare,bJ,cm,bf,cg,bR,bS,bK,List.nil_append,and_self];done)
 aI e e' i d h0:=by
  rw[fT.eq_2,fT.eq_2]
  repeat' first|exact F.exp _ _|exact F.either _ _|exact F.both _ _|exact F.test _ _|exact F.join _ _|exact F.sum _ _|exact F.term _ _|exact F.unary _ _|exact F.post _ _|exact F.simple _ _|refine F.ae _ _ _ _ ?_|refine F.au _ _ _ _ ?_|refine F.av _ _ _ _ ?_|refine F.aI _ _ _ _ ?_|refine F.aw _ _ _ _ ?_|refine F.an _ _ _ _ ?_|refine F.args _ _ _ _ _ ?_|refine F.table _ _ _ _ _ _ _ ?_|exact F.field _ _ _|exact F.body _ _ _ _|exact F.params _ _ _|exact F.block _ _|refine F.aM _ _ _ _ _ ?_|exact F.stat _ _|exact F.ah _ _ _ _|exact F.aj _ _ _ _|exact F.af _ _ _ _|exact F.do_ _ _ _ _|exact F.aH _ _ _ _|exact F.plain _ _ _ _|exact F.for_ _ _ _ _|refine F.choice _ _ _ _ _ _ _ _ ?_ ?_|refine F.ai _ _ _ _ _ _ _ _ ?_|exact Sh.must Q _ _|exact Sh.name Q _|exact Sh.err _|refine Sh.ite (λ_=>?_) λ_=>?_|apply Sh.bind|(intro v v' j hv;try (have hv:v'=v:=hv;subst hv))|simp only[Nat.add_right_comm _ κ,Q.is,Q.kind,Q.text,Q.num,Q.op,Q.un,Q.lone,Q.ends,Q.opt]|refine Sh.ok ?_|assumption|rfl|(simp_all only[eN,iJ,rP,gK,jo,rT,rU,dU,aE.bare,cq.bare,aK.bare,bJ,cm,bf,cg,bR,bS,bK,List.nil_append,and_self];done)
 aw e e' i d h0:=by
  rw[eH.eq_2,eH.eq_2]
  repeat' first|exact F.exp _ _|exact F.either _ _|exact F.both _ _|exact F.test _ _|exact F.join _ _|exact F.sum _ _|exact F.term _ _|exact F.unary _ _|exact F.post _ _|exact F.simple _ _|refine F.ae _ _ _ _ ?_|refine F.au _ _ _ _ ?_|refine F.av _ _ _ _ ?_|refine F.aI _ _ _ _ ?_|refine F.aw _ _ _ _ ?_|refine F.an _ _ _ _ ?_|refine F.args _ _ _ _ _ ?_|refine F.table _ _ _ _ _ _ _ ?_|exact F.field _ _ _|exact F.body _ _ _ _|exact F.params _ _ _|exact F.block _ _|refine F.aM _ _ _ _ _ ?_|exact F.stat _ _|exact F.ah _ _ _ _|exact F.aj _ _ _ _|exact F.af _ _ _ _|exact F.do_ _ _ _ _|exact F.aH _ _ _ _|exact F.plain _ _ _ _|exact F.for_ _ _ _ _|refine F.choice _ _ _ _ _ _ _ _ ?_ ?_|refine F.ai _ _ _ _ _ _ _ _ ?_|exact Sh.must Q _ _|exact Sh.name Q _|exact Sh.err _|refine Sh.ite (λ_=>?_) λ_=>?_|apply Sh.bind|(intro v v' j hv;try (have hv:v'=v:=hv;subst hv))|simp only[Nat.add_right_comm _ κ,Q.is,Q.kind,Q.text,Q.num,Q.op,Q.un,Q.lone,Q.ends,Q.opt]|refine Sh.ok ?_|assumption|rfl|(simp_all only[eN,iJ,rP,gK,jo,rT,rU,dU,aE.bare,cq.bare,aK.bare,bJ,cm,bf,cg,bR,bS,bK,List.nil_append,and_self];done)
 an e e' i d h0:=by
  rw[dI.eq_2,dI.eq_2]
  repeat' first|exact F.exp _ _|exact F.either _ _|exact F.both _ _|exact F.test _ _|exact F.join _ _|exact F.sum _ _|exact F.term _ _|exact F.unary _ _|exact F.post _ _|exact F.simple _ _|refine F.ae _ _ _ _ ?_|refine F.au _ _ _ _ ?_|refine F.av _ _ _ _ ?_|refine F.aI _ _ _ _ ?_|refine F.aw _ _ _ _ ?_|refine F.an _ _ _ _ ?_|refine F.args _ _ _ _ _ ?_|refine F.table _ _ _ _ _ _ _ ?_|exact F.field _ _ _|exact F.body _ _ _ _|exact F.params _ _ _|exact F.block _ _|refine F.aM _ _ _ _ _ ?_|exact F.stat _ _|exact F.ah _ _ _ _|exact F.aj _ _ _ _|exact F.af _ _ _ _|exact F.do_ _ _ _ _|exact F.aH _ _ _ _|exact F.plain _ _ _ _|exact F.for_ _ _ _ _|refine F.choice _ _ _ _ _ _ _ _ ?_ ?_|refine F.ai _ _ _ _ _ _ _ _ ?_|exact Sh.must Q _ _|exact Sh.name Q _|exact Sh.err _|refine Sh.ite (λ_=>?_) λ_=>?_|apply Sh.bind|(intro v v' j hv;try (have hv:v'=v:=hv;subst hv))|simp only[Nat.add_right_comm _ κ,Q.is,Q.kind,Q.text,Q.num,Q.op,Q.un,Q.lone,Q.ends,Q.opt]|refine Sh.ok ?_|assumption|rfl|(simp_all only[eN,iJ,rP,gK,jo,rT,rU,dU,aE.bare,cq.bare,aK.bare,bJ,cm,bf,cg,bR,bS,bK,List.nil_append,and_self];done)
 args b out out' i d h0:=by
  rw[cT.eq_2,cT.eq_2];have hl:out'.length=out.length:=by rw[←oA out',←oA out];exact congrArg _ h0
  rw[hl];cases b
  all_goals simp only[Bool.false_eq_true,if_false,if_true]
  all_goals simp only[Nat.add_right_comm _ κ,Q.is,Q.kind,Q.text,Q.num,Q.op,Q.un,Q.lone,Q.ends,Q.opt]
  all_goals repeat' first|exact F.exp _ _|exact F.either _ _|exact F.both _ _|exact F.test _ _|exact F.join _ _|exact F.sum _ _|exact F.term _ _|exact F.unary _ _|exact F.post _ _|exact F.simple _ _|refine F.ae _ _ _ _ ?_|refine F.au _ _ _ _ ?_|refine F.av _ _ _ _ ?_|refine F.aI _ _ _ _ ?_|refine F.aw _ _ _ _ ?_|refine F.an _ _ _ _ ?_|refine F.args _ _ _ _ _ ?_|refine F.table _ _ _ _ _ _ _ ?_|exact F.field _ _ _|exact F.body _ _ _ _|exact F.params _ _ _|exact F.block _ _|refine F.aM _ _ _ _ _ ?_|exact F.stat _ _|exact F.ah _ _ _ _|exact F.aj _ _ _ _|exact F.af _ _ _ _|exact F.do_ _ _ _ _|exact F.aH _ _ _ _|exact F.plain _ _ _ _|exact F.for_ _ _ _ _|refine F.choice _ _ _ _ _ _ _ _ ?_ ?_|refine F.ai _ _ _ _ _ _ _ _ ?_|exact Sh.must Q _ _|exact Sh.name Q _|exact Sh.err _|refine Sh.ite (λ_=>?_) λ_=>?_|apply Sh.bind|(intro v v' j hv;try (have hv:v'=v:=hv;subst hv))|simp only[Nat.add_right_comm _ κ,Q.is,Q.kind,Q.text,Q.num,Q.op,Q.un,Q.lone,Q.ends,Q.opt]|refine Sh.ok ?_|assumption|rfl|(simp_all only[eN,iJ,rP,gK,jo,rT,rU,dU,aE.bare,cq.bare,aK.bare,bJ,cm,bf,cg,bR,bS,bK,List.nil_append,and_self];done)
 table out out' c a a' i d h0:=by
  rw[dh.eq_2,dh.eq_2];have hl:out'.length=out.length:=by rw[←oA out',←oA out];exact congrArg _ h0
  rw[hl];simp only[Nat.add_right_comm _ κ,Q.is,Q.kind,Q.text,Q.num,Q.op,Q.un,Q.lone,Q.ends,Q.opt];refine Sh.ite (λ_=>?_) λ_=>?_
  ·repeat' first|exact F.exp _ _|exact F.either _ _|exact F.both _ _|exact F.test _ _|exact F.join _ _|exact F.sum _ _|exact F.term _ _|exact F.unary _ _|exact F.post _ _|exact F.simple _ _|refine F.ae _ _ _ _ ?_|refine F.au _ _ _ _ ?_|refine F.av _ _ _ _ ?_|refine F.aI _ _ _ _ ?_|refine F.aw _ _ _ _ ?_|refine F.an _ _ _ _ ?_|refine F.args _ _ _ _ _ ?_|refine F.table _ _ _ _ _ _ _ ?_|exact F.field _ _ _|exact F.body _ _ _ _|exact F.params _ _ _|exact F.block _ _|refine F.aM _ _ _ _ _ ?_|exact F.stat _ _|exact F.ah _ _ _ _|exact F.aj _ _ _ _|exact F.af _ _ _ _|exact F.do_ _ _ _ _|exact F.aH _ _ _ _|exact F.plain _ _ _ _|exact F.for_ _ _ _ _|refine F.choice _ _ _ _ _ _ _ _ ?_ ?_|refine F.ai _ _ _ _ _ _ _ _ ?_|exact Sh.must Q _ _|exact Sh.name Q _|exact Sh.err _|refine Sh.ite (λ_=>?_) λ_=>?_|apply Sh.bind|(intro v v' j hv;try (have hv:v'=v:=hv;subst hv))|simp only[Nat.add_right_comm _ κ,Q.is,Q.kind,Q.text,Q.num,Q.op,Q.un,Q.lone,Q.ends,Q.opt]|refine Sh.ok ?_|assumption|rfl|(simp_all only[eN,iJ,rP,gK,jo,rT,rU,dU,aE.bare,cq.bare,aK.bare,bJ,cm,bf,cg,bR,bS,bK,List.nil_append,and_self];done)
  refine Sh.ite (λ_=>Sh.err _) λ_=>?_;refine Sh.bind (F.field _ _ _) λv v' j hv=>?_;obtain⟨v1,v2⟩:=v;obtain⟨w1,w2⟩:=v';have e2:w2=v2:=hv.2;have e1:bJ w1=bJ v1:=hv.1;subst e2;simp only[Nat.add_right_comm _ κ,Q.is,Q.kind,Q.text,Q.num,Q.op,Q.un,Q.lone,Q.ends,Q.opt]
  repeat' first|exact F.exp _ _|exact F.either _ _|exact F.both _ _|exact F.test _ _|exact F.join _ _|exact F.sum _ _|exact F.term _ _|exact F.unary _ _|exact F.post _ _|exact F.simple _ _|refine F.ae _ _ _ _ ?_|refine F.au _ _ _ _ ?_|refine F.av _ _ _ _ ?_|refine F.aI _ _ _ _ ?_|refine F.aw _ _ _ _ ?_|refine F.an _ _ _ _ ?_|refine F.args _ _ _ _ _ ?_|refine F.table _ _ _ _ _ _ _ ?_|exact F.field _ _ _|exact F.body _ _ _ _|exact F.params _ _ _|exact F.block _ _|refine F.aM _ _ _ _ _ ?_|exact F.stat _ _|exact F.ah _ _ _ _|exact F.aj _ _ _ _|exact F.af _ _ _ _|exact F.do_ _ _ _ _|exact F.aH _ _ _ _|exact F.plain _ _ _ _|exact F.for_ _ _ _ _|refine F.choice _ _ _ _ _ _ _ _ ?_ ?_|refine F.ai _ _ _ _ _ _ _ _ ?_|exact Sh.must Q _ _|exact Sh.name Q _|exact Sh.err _|refine Sh.ite (λ_=>?_) λ_=>?_|apply Sh.bind|(intro v v' j hv;try (have hv:v'=v:=hv;subst hv))|simp only[Nat.add_right_comm _ κ,Q.is,Q.kind,Q.text,Q.num,Q.op,Q.un,Q.lone,Q.ends,Q.opt]|refine Sh.ok ?_|assumption|rfl|(simp_all only[eN,iJ,rP,gK,jo,rT,rU,dU,aE.bare,cq.bare,aK.bare,bJ,cm,bf,cg,bR,bS,bK,List.nil_append,and_self];done)
 field c i d:=by
  rw[dJ.eq_2,dJ.eq_2]
  repeat' first|exact F.exp _ _|exact F.either _ _|exact F.both _ _|exact F.test _ _|exact F.join _ _|exact F.sum _ _|exact F.term _ _|exact F.unary _ _|exact F.post _ _|exact F.simple _ _|refine F.ae _ _ _ _ ?_|refine F.au _ _ _ _ ?_|refine F.av _ _ _ _ ?_|refine F.aI _ _ _ _ ?_|refine F.aw _ _ _ _ ?_|refine F.an _ _ _ _ ?_|refine F.args _ _ _ _ _ ?_|refine F.table _ _ _ _ _ _ _ ?_|exact F.field _ _ _|exact F.body _ _ _ _|exact F.params _ _ _|exact F.block _ _|refine F.aM _ _ _ _ _ ?_|exact F.stat _ _|exact F.ah _ _ _ _|exact F.aj _ _ _ _|exact F.af _ _ _ _|exact F.do_ _ _ _ _|exact F.aH _ _ _ _|exact F.plain _ _ _ _|exact F.for_ _ _ _ _|refine F.choice _ _ _ _ _ _ _ _ ?_ ?_|refine F.ai _ _ _ _ _ _ _ _ ?_|exact Sh.must Q _ _|exact Sh.name Q _|exact Sh.err _|refine Sh.ite (λ_=>?_) λ_=>?_|apply Sh.bind|(intro v v' j hv;try (have hv:v'=v:=hv;subst hv))|simp only[Nat.add_right_comm _ κ,Q.is,Q.kind,Q.text,Q.num,Q.op,Q.un,Q.lone,Q.ends,Q.opt]|refine Sh.ok ?_|assumption|rfl|(simp_all only[eN,iJ,rP,gK,jo,rT,rU,dU,aE.bare,cq.bare,aK.bare,bJ,cm,bf,cg,bR,bS,bK,List.nil_append,and_self];done)
 body a a' i d:=by
  rw[fy.eq_2,fy.eq_2]
  repeat' first|exact F.exp _ _|exact F.either _ _|exact F.both _ _|exact F.test _ _|exact F.join _ _|exact F.sum _ _|exact F.term _ _|exact F.unary _ _|exact F.post _ _|exact F.simple _ _|refine F.ae _ _ _ _ ?_|refine F.au _ _ _ _ ?_|refine F.av _ _ _ _ ?_|refine F.aI _ _ _ _ ?_|refine F.aw _ _ _ _ ?_|refine F.an _ _ _ _ ?_|refine F.args _ _ _ _ _ ?_|refine F.table _ _ _ _ _ _ _ ?_|exact F.field _ _ _|exact F.body _ _ _ _|exact F.params _ _ _|exact F.block _ _|refine F.aM _ _ _ _ _ ?_|exact F.stat _ _|exact F.ah _ _ _ _|exact F.aj _ _ _ _|exact F.af _ _ _ _|exact F.do_ _ _ _ _|exact F.aH _ _ _ _|exact F.plain _ _ _ _|exact F.for_ _ _ _ _|refine F.choice _ _ _ _ _ _ _ _ ?_ ?_|refine F.ai _ _ _ _ _ _ _ _ ?_|exact Sh.must Q _ _|exact Sh.name Q _|exact Sh.err _|refine Sh.ite (λ_=>?_) λ_=>?_|apply Sh.bind|(intro v v' j hv;try (have hv:v'=v:=hv;subst hv))|simp only[Nat.add_right_comm _ κ,Q.is,Q.kind,Q.text,Q.num,Q.op,Q.un,Q.lone,Q.ends,Q.opt]|refine Sh.ok ?_|assumption|rfl|(simp_all only[eN,iJ,rP,gK,jo,rT,rU,dU,aE.bare,cq.bare,aK.bare,bJ,cm,bf,cg,bR,bS,bK,List.nil_append,and_self];done)
 params b out i:=by
  rw[cG.eq_2,cG.eq_2];cases b
  all_goals simp only[Bool.false_eq_true,if_false,if_true]
  all_goals simp only[Nat.add_right_comm _ κ,Q.is,Q.kind,Q.text,Q.num,Q.op,Q.un,Q.lone,Q.ends,Q.opt]
  all_goals repeat' first|exact F.exp _ _|exact F.either _ _|exact F.both _ _|exact F.test _ _|exact F.join _ _|exact F.sum _ _|exact F.term _ _|exact F.unary _ _|exact F.post _ _|exact F.simple _ _|refine F.ae _ _ _ _ ?_|refine F.au _ _ _ _ ?_|refine F.av _ _ _ _ ?_|refine F.aI _ _ _ _ ?_|refine F.aw _ _ _ _ ?_|refine F.an _ _ _ _ ?_|refine F.args _ _ _ _ _ ?_|refine F.table _ _ _ _ _ _ _ ?_|exact F.field _ _ _|exact F.body _ _ _ _|exact F.params _ _ _|exact F.block _ _|refine F.aM _ _ _ _ _ ?_|exact F.stat _ _|exact F.ah _ _ _ _|exact F.aj _ _ _ _|exact F.af _ _ _ _|exact F.do_ _ _ _ _|exact F.aH _ _ _ _|exact F.plain _ _ _ _|exact F.for_ _ _ _ _|refine F.choice _ _ _ _ _ _ _ _ ?_ ?_|refine F.ai _ _ _ _ _ _ _ _ ?_|exact Sh.must Q _ _|exact Sh.name Q _|exact Sh.err _|refine Sh.ite (λ_=>?_) λ_=>?_|apply Sh.bind|(intro v v' j hv;try (have hv:v'=v:=hv;subst hv))|simp only[Nat.add_right_comm _ κ,Q.is,Q.kind,Q.text,Q.num,Q.op,Q.un,Q.lone,Q.ends,Q.opt]|refine Sh.ok ?_|assumption|rfl|(simp_all only[eN,iJ,rP,gK,jo,rT,rU,dU,aE.bare,cq.bare,aK.bare,bJ,cm,bf,cg,bR,bS,bK,List.nil_append,and_self];done)
 block i d:=by
  rw[cz.eq_2,cz.eq_2];refine Sh.ite (λ_=>Sh.err _) λ_=>?_;exact F.aM [] [] [] _ _ rfl
 aM pre out out' i d h0:=by
  rw[bG.eq_2,bG.eq_2];simp only[Nat.add_right_comm _ κ,Q.is,Q.kind,Q.text,Q.num,Q.op,Q.un,Q.lone,Q.ends,Q.opt];refine Sh.ite (λ_=>Sh.ok h0) λ_=>?_;refine Sh.bind (F.stat _ _) λv v' j hv=>?_;rw[Sl hv];simp only[Nat.add_right_comm _ κ,Q.is,Q.kind,Q.text,Q.num,Q.op,Q.un,Q.lone,Q.ends,Q.opt];refine Sh.ite (λ_=>Sh.err _) λ_=>?_;refine F.aM pre _ _ _ _ ?_;have h0:bf out'=pre++bf out:=h0;have hv:v'.bare=v.bare:=hv;show bf (out'++[v'])=pre++bf (out++[v]);rw[bK,bK,h0,List.append_assoc];simp only[bf,hv]
 stat i d:=by
  rw[eY.eq_2,eY.eq_2]
  repeat' first|exact F.exp _ _|exact F.either _ _|exact F.both _ _|exact F.test _ _|exact F.join _ _|exact F.sum _ _|exact F.term _ _|exact F.unary _ _|exact F.post _ _|exact F.simple _ _|refine F.ae _ _ _ _ ?_|refine F.au _ _ _ _ ?_|refine F.av _ _ _ _ ?_|refine F.aI _ _ _ _ ?_|refine F.aw _ _ _ _ ?_|refine F.an _ _ _ _ ?_|refine F.args _ _ _ _ _ ?_|refine F.table _ _ _ _ _ _ _ ?_|exact F.field _ _ _|exact F.body _ _ _ _|exact F.params _ _ _|exact F.block _ _|refine F.aM _ _ _ _ _ ?_|exact F.stat _ _|exact F.ah _ _ _ _|exact F.aj _ _ _ _|exact F.af _ _ _ _|exact F.do_ _ _ _ _|exact F.aH _ _ _ _|exact F.plain _ _ _ _|exact F.for_ _ _ _ _|refine F.choice _ _ _ _ _ _ _ _ ?_ ?_|refine F.ai _ _ _ _ _ _ _ _ ?_|exact Sh.must Q _ _|exact Sh.name Q _|exact Sh.err _|refine Sh.ite (λ_=>?_) λ_=>?_|apply Sh.bind|(intro v v' j hv;try (have hv:v'=v:=hv;subst hv))|simp only[Nat.add_right_comm _ κ,Q.is,Q.kind,Q.text,Q.num,Q.op,Q.un,Q.lone,Q.ends,Q.opt]|refine Sh.ok ?_|assumption|rfl|(simp_all only[eN,iJ,rP,gK,jo,rT,rU,dU,aE.bare,cq.bare,aK.bare,bJ,cm,bf,cg,bR,bS,bK,List.nil_append,and_self];done)
 ah a a' i d:=by
  rw[ep.eq_2,ep.eq_2]
  repeat' first|exact F.exp _ _|exact F.either _ _|exact F.both _ _|exact F.test _ _|exact F.join _ _|exact F.sum _ _|exact F.term _ _|exact F.unary _ _|exact F.post _ _|exact F.simple _ _|refine F.ae _ _ _ _ ?_|refine F.au _ _ _ _ ?_|refine F.av _ _ _ _ ?_|refine F.aI _ _ _ _ ?_|refine F.aw _ _ _ _ ?_|refine F.an _ _ _ _ ?_|refine F.args _ _ _ _ _ ?_|refine F.table _ _ _ _ _ _ _ ?_|exact F.field _ _ _|exact F.body _ _ _ _|exact F.params _ _ _|exact F.block _ _|refine F.aM _ _ _ _ _ ?_|exact F.stat _ _|exact F.ah _ _ _ _|exact F.aj _ _ _ _|exact F.af _ _ _ _|exact F.do_ _ _ _ _|exact F.aH _ _ _ _|exact F.plain _ _ _ _|exact F.for_ _ _ _ _|refine F.choice _ _ _ _ _ _ _ _ ?_ ?_|refine F.ai _ _ _ _ _ _ _ _ ?_|exact Sh.must Q _ _|exact Sh.name Q _|exact Sh.err _|refine Sh.ite (λ_=>?_) λ_=>?_|apply Sh.bind|(intro v v' j hv;try (have hv:v'=v:=hv;subst hv))|simp only[Nat.add_right_comm _ κ,Q.is,Q.kind,Q.text,Q.num,Q.op,Q.un,Q.lone,Q.ends,Q.opt]|refine Sh.ok ?_|assumption|rfl|(simp_all only[eN,iJ,rP,gK,jo,rT,rU,dU,aE.bare,cq.bare,aK.bare,bJ,cm,bf,cg,bR,bS,bK,List.nil_append,and_self];done)
 aj a a' i d:=by
  rw[fe.eq_2,fe.eq_2]
  repeat' first|exact F.exp _ _|exact F.either _ _|exact F.both _ _|exact F.test _ _|exact F.join _ _|exact F.sum _ _|exact F.term _ _|exact F.unary _ _|exact F.post _ _|exact F.simple _ _|refine F.ae _ _ _ _ ?_|refine F.au _ _ _ _ ?_|refine F.av _ _ _ _ ?_|refine F.aI _ _ _ _ ?_|refine F.aw _ _ _ _ ?_|refine F.an _ _ _ _ ?_|refine F.args _ _ _ _ _ ?_|refine F.table _ _ _ _ _ _ _ ?_|exact F.field _ _ _|exact F.body _ _ _ _|exact F.params _ _ _|exact F.block _ _|refine F.aM _ _ _ _ _ ?_|exact F.stat _ _|exact F.ah _ _ _ _|exact F.aj _ _ _ _|exact F.af _ _ _ _|exact F.do_ _ _ _ _|exact F.aH _ _ _ _|exact F.plain _ _ _ _|exact F.for_ _ _ _ _|refine F.choice _ _ _ _ _ _ _ _ ?_ ?_|refine F.ai _ _ _ _ _ _ _ _ ?_|exact Sh.must Q _ _|exact Sh.name Q _|exact Sh.err _|refine Sh.ite (λ_=>?_) λ_=>?_|apply Sh.bind|(intro v v' j hv;try (have hv:v'=v:=hv;subst hv))|simp only[Nat.add_right_comm _ κ,Q.is,Q.kind,Q.text,Q.num,Q.op,Q.un,Q.lone,Q.ends,Q.opt]|refine Sh.ok ?_|assumption|rfl|(simp_all only[eN,iJ,rP,gK,jo,rT,rU,dU,aE.bare,cq.bare,aK.bare,bJ,cm,bf,cg,bR,bS,bK,List.nil_append,and_self];done)
 af a a' i d:=by
  rw[dR.eq_2,dR.eq_2]
  repeat' first|exact F.exp _ _|exact F.either _ _|exact F.both _ _|exact F.test _ _|exact F.join _ _|exact F.sum _ _|exact F.term _ _|exact F.unary _ _|exact F.post _ _|exact F.simple _ _|refine F.ae _ _ _ _ ?_|refine F.au _ _ _ _ ?_|refine F.av _ _ _ _ ?_|refine F.aI _ _ _ _ ?_|refine F.aw _ _ _ _ ?_|refine F.an _ _ _ _ ?_|refine F.args _ _ _ _ _ ?_|refine F.table _ _ _ _ _ _ _ ?_|exact F.field _ _ _|exact F.body _ _ _ _|exact F.params _ _ _|exact F.block _ _|refine F.aM _ _ _ _ _ ?_|exact F.stat _ _|exact F.ah _ _ _ _|exact F.aj _ _ _ _|exact F.af _ _ _ _|exact F.do_ _ _ _ _|exact F.aH _ _ _ _|exact F.plain _ _ _ _|exact F.for_ _ _ _ _|refine F.choice _ _ _ _ _ _ _ _ ?_ ?_|refine F.ai _ _ _ _ _ _ _ _ ?_|exact Sh.must Q _ _|exact Sh.name Q _|exact Sh.err _|refine Sh.ite (λ_=>?_) λ_=>?_|apply Sh.bind|(intro v v' j hv;try (have hv:v'=v:=hv;subst hv))|simp only[Nat.add_right_comm _ κ,Q.is,Q.kind,Q.text,Q.num,Q.op,Q.un,Q.lone,Q.ends,Q.opt]|refine Sh.ok ?_|assumption|rfl|(simp_all only[eN,iJ,rP,gK,jo,rT,rU,dU,aE.bare,cq.bare,aK.bare,bJ,cm,bf,cg,bR,bS,bK,List.nil_append,and_self];done)
 do_ a a' i d:=by
  rw[kV.eq_2,kV.eq_2]
  repeat' first|exact F.exp _ _|exact F.either _ _|exact F.both _ _|exact F.test _ _|exact F.join _ _|exact F.sum _ _|exact F.term _ _|exact F.unary _ _|exact F.post _ _|exact F.simple _ _|refine F.ae _ _ _ _ ?_|refine F.au _ _ _ _ ?_|refine F.av _ _ _ _ ?_|refine F.aI _ _ _ _ ?_|refine F.aw _ _ _ _ ?_|refine F.an _ _ _ _ ?_|refine F.args _ _ _ _ _ ?_|refine F.table _ _ _ _ _ _ _ ?_|exact F.field _ _ _|exact F.body _ _ _ _|exact F.params _ _ _|exact F.block _ _|refine F.aM _ _ _ _ _ ?_|exact F.stat _ _|exact F.ah _ _ _ _|exact F.aj _ _ _ _|exact F.af _ _ _ _|exact F.do_ _ _ _ _|exact F.aH _ _ _ _|exact F.plain _ _ _ _|exact F.for_ _ _ _ _|refine F.choice _ _ _ _ _ _ _ _ ?_ ?_|refine F.ai _ _ _ _ _ _ _ _ ?_|exact Sh.must Q _ _|exact Sh.name Q _|exact Sh.err _|refine Sh.ite (λ_=>?_) λ_=>?_|apply Sh.bind|(intro v v' j hv;try (have hv:v'=v:=hv;subst hv))|simp only[Nat.add_right_comm _ κ,Q.is,Q.kind,Q.text,Q.num,Q.op,Q.un,Q.lone,Q.ends,Q.opt]|refine Sh.ok ?_|assumption|rfl|(simp_all only[eN,iJ,rP,gK,jo,rT,rU,dU,aE.bare,cq.bare,aK.bare,bJ,cm,bf,cg,bR,bS,bK,List.nil_append,and_self];done)
 aH a a' i d:=by
  rw[dS.eq_2,dS.eq_2]
  repeat' first|exact F.exp _ _|exact F.either _ _|exact F.both _ _|exact F.test _ _|exact F.join _ _|exact F.sum _ _|exact F.term _ _|exact F.unary _ _|exact F.post _ _|exact F.simple _ _|refine F.ae _ _ _ _ ?_|refine F.au _ _ _ _ ?_|refine F.av _ _ _ _ ?_|refine F.aI _ _ _ _ ?_|refine F.aw _ _ _ _ ?_|refine F.an _ _ _ _ ?_|refine F.args _ _ _ _ _ ?_|refine F.table _ _ _ _ _ _ _ ?_|exact F.field _ _ _|exact F.body _ _ _ _|exact F.params _ _ _|exact F.block _ _|refine F.aM _ _ _ _ _ ?_|exact F.stat _ _|exact F.ah _ _ _ _|exact F.aj _ _ _ _|exact F.af _ _ _ _|exact F.do_ _ _ _ _|exact F.aH _ _ _ _|exact F.plain _ _ _ _|exact F.for_ _ _ _ _|refine F.choice _ _ _ _ _ _ _ _ ?_ ?_|refine F.ai _ _ _ _ _ _ _ _ ?_|exact Sh.must Q _ _|exact Sh.name Q _|exact Sh.err _|refine Sh.ite (λ_=>?_) λ_=>?_|apply Sh.bind|(intro v v' j hv;try (have hv:v'=v:=hv;subst hv))|simp only[Nat.add_right_comm _ κ,Q.is,Q.kind,Q.text,Q.num,Q.op,Q.un,Q.lone,Q.ends,Q.opt]|refine Sh.ok ?_|assumption|rfl|(simp_all only[eN,iJ,rP,gK,jo,rT,rU,dU,aE.bare,cq.bare,aK.bare,bJ,cm,bf,cg,bR,bS,bK,List.nil_append,and_self];done)
 plain a a' i d:=by
  rw[ey.eq_2,ey.eq_2];refine Sh.bind (F.post _ _) λv v' j hv=>?_;rw[Sj hv]
  repeat' first|exact F.exp _ _|exact F.either _ _|exact F.both _ _|exact F.test _ _|exact F.join _ _|exact F.sum _ _|exact F.term _ _|exact F.unary _ _|exact F.post _ _|exact F.simple _ _|refine F.ae _ _ _ _ ?_|refine F.au _ _ _ _ ?_|refine F.av _ _ _ _ ?_|refine F.aI _ _ _ _ ?_|refine F.aw _ _ _ _ ?_|refine F.an _ _ _ _ ?_|refine F.args _ _ _ _ _ ?_|refine F.table _ _ _ _ _ _ _ ?_|exact F.field _ _ _|exact F.body _ _ _ _|exact F.params _ _ _|exact F.block _ _|refine F.aM _ _ _ _ _ ?_|exact F.stat _ _|exact F.ah _ _ _ _|exact F.aj _ _ _ _|exact F.af _ _ _ _|exact F.do_ _ _ _ _|exact F.aH _ _ _ _|exact F.plain _ _ _ _|exact F.for_ _ _ _ _|refine F.choice _ _ _ _ _ _ _ _ ?_ ?_|refine F.ai _ _ _ _ _ _ _ _ ?_|exact Sh.must Q _ _|exact Sh.name Q _|exact Sh.err _|refine Sh.ite (λ_=>?_) λ_=>?_|apply Sh.bind|(intro v v' j hv;try (have hv:v'=v:=hv;subst hv))|simp only[Nat.add_right_comm _ κ,Q.is,Q.kind,Q.text,Q.num,Q.op,Q.un,Q.lone,Q.ends,Q.opt]|refine Sh.ok ?_|assumption|rfl|(simp_all only[eN,iJ,rP,gK,jo,rT,rU,dU,aE.bare,cq.bare,aK.bare,bJ,cm,bf,cg,bR,bS,bK,List.nil_append,and_self];done)
 for_ a a' i d:=by
  rw[ij.eq_2,ij.eq_2]
  repeat' first|exact F.exp _ _|exact F.either _ _|exact F.both _ _|exact F.test _ _|exact F.join _ _|exact F.sum _ _|exact F.term _ _|exact F.unary _ _|exact F.post _ _|exact F.simple _ _|refine F.ae _ _ _ _ ?_|refine F.au _ _ _ _ ?_|refine F.av _ _ _ _ ?_|refine F.aI _ _ _ _ ?_|refine F.aw _ _ _ _ ?_|refine F.an _ _ _ _ ?_|refine F.args _ _ _ _ _ ?_|refine F.table _ _ _ _ _ _ _ ?_|exact F.field _ _ _|exact F.body _ _ _ _|exact F.params _ _ _|exact F.block _ _|refine F.aM _ _ _ _ _ ?_|exact F.stat _ _|exact F.ah _ _ _ _|exact F.aj _ _ _ _|exact F.af _ _ _ _|exact F.do_ _ _ _ _|exact F.aH _ _ _ _|exact F.plain _ _ _ _|exact F.for_ _ _ _ _|refine F.choice _ _ _ _ _ _ _ _ ?_ ?_|refine F.ai _ _ _ _ _ _ _ _ ?_|exact Sh.must Q _ _|exact Sh.name Q _|exact Sh.err _|refine Sh.ite (λ_=>?_) λ_=>?_|apply Sh.bind|(intro v v' j hv;try (have hv:v'=v:=hv;subst hv))|simp only[Nat.add_right_comm _ κ,Q.is,Q.kind,Q.text,Q.num,Q.op,Q.un,Q.lone,Q.ends,Q.opt]|refine Sh.ok ?_|assumption|rfl|(simp_all only[eN,iJ,rP,gK,jo,rT,rU,dU,aE.bare,cq.bare,aK.bare,bJ,cm,bf,cg,bR,bS,bK,List.nil_append,and_self];done)
 choice a a' l l' bs bs' i d h0 h1:=by
  rw[cO.eq_2,cO.eq_2]
  repeat' first|exact F.exp _ _|exact F.either _ _|exact F.both _ _|exact F.test _ _|exact F.join _ _|exact F.sum _ _|exact F.term _ _|exact F.unary _ _|exact F.post _ _|exact F.simple _ _|refine F.ae _ _ _ _ ?_|refine F.au _ _ _ _ ?_|refine F.av _ _ _ _ ?_|refine F.aI _ _ _ _ ?_|refine F.aw _ _ _ _ ?_|refine F.an _ _ _ _ ?_|refine F.args _ _ _ _ _ ?_|refine F.table _ _ _ _ _ _ _ ?_|exact F.field _ _ _|exact F.body _ _ _ _|exact F.params _ _ _|exact F.block _ _|refine F.aM _ _ _ _ _ ?_|exact F.stat _ _|exact F.ah _ _ _ _|exact F.aj _ _ _ _|exact F.af _ _ _ _|exact F.do_ _ _ _ _|exact F.aH _ _ _ _|exact F.plain _ _ _ _|exact F.for_ _ _ _ _|refine F.choice _ _ _ _ _ _ _ _ ?_ ?_|refine F.ai _ _ _ _ _ _ _ _ ?_|exact Sh.must Q _ _|exact Sh.name Q _|exact Sh.err _|refine Sh.ite (λ_=>?_) λ_=>?_|apply Sh.bind|(intro v v' j hv;try (have hv:v'=v:=hv;subst hv))|simp only[Nat.add_right_comm _ κ,Q.is,Q.kind,Q.text,Q.num,Q.op,Q.un,Q.lone,Q.ends,Q.opt]|refine Sh.ok ?_|assumption|rfl|(simp_all only[eN,iJ,rP,gK,jo,rT,rU,dU,aE.bare,cq.bare,aK.bare,bJ,cm,bf,cg,bR,bS,bK,List.nil_append,and_self];done)
 ai k a a' ns l l' i d h0:=by
  rw[dy.eq_2,dy.eq_2]
  repeat' first|exact F.exp _ _|exact F.either _ _|exact F.both _ _|exact F.test _ _|exact F.join _ _|exact F.sum _ _|exact F.term _ _|exact F.unary _ _|exact F.post _ _|exact F.simple _ _|refine F.ae _ _ _ _ ?_|refine F.au _ _ _ _ ?_|refine F.av _ _ _ _ ?_|refine F.aI _ _ _ _ ?_|refine F.aw _ _ _ _ ?_|refine F.an _ _ _ _ ?_|refine F.args _ _ _ _ _ ?_|refine F.table _ _ _ _ _ _ _ ?_|exact F.field _ _ _|exact F.body _ _ _ _|exact F.params _ _ _|exact F.block _ _|refine F.aM _ _ _ _ _ ?_|exact F.stat _ _|exact F.ah _ _ _ _|exact F.aj _ _ _ _|exact F.af _ _ _ _|exact F.do_ _ _ _ _|exact F.aH _ _ _ _|exact F.plain _ _ _ _|exact F.for_ _ _ _ _|refine F.choice _ _ _ _ _ _ _ _ ?_ ?_|refine F.ai _ _ _ _ _ _ _ _ ?_|exact Sh.must Q _ _|exact Sh.name Q _|exact Sh.err _|refine Sh.ite (λ_=>?_) λ_=>?_|apply Sh.bind|(intro v v' j hv;try (have hv:v'=v:=hv;subst hv))|simp only[Nat.add_right_comm _ κ,Q.is,Q.kind,Q.text,Q.num,Q.op,Q.un,Q.lone,Q.ends,Q.opt]|refine Sh.ok ?_|assumption|rfl|(simp_all only[eN,iJ,rP,gK,jo,rT,rU,dU,aE.bare,cq.bare,aK.bare,bJ,cm,bf,cg,bR,bS,bK,List.nil_append,and_self];done)
theorem NP(Q:qs B T κ):∀n,Aff B T κ n
 |0=>aiM
 |n+1=>aiN Q (NP Q n)
end
section
variable {T1 T B:List Tok}{α κ:Nat}
theorem Ku{s:List Nat}{i:Nat}(h:isA T s i=true):dO T i=s:=by
 unfold isA at h;simp only[Bool.and_eq_true,decide_eq_true_eq]at h;exact h.2
theorem nN{s w:List Nat}{i:Nat}(h:isA T s i=true)(hw:w∈C8)(hs:s∉C8):isA T w i=false:=by
 cases g:isA T w i with
 |false=>rfl
 |true=>
  have e:s=w:=by rw[←Ku h,←Ku g]
  rw[e]at hs;exact absurd hw hs
theorem Sm{n i d j:Nat}{s:aK}(h:eY T n i d=.ok s j){w:List Nat}(hw:w∈C8):isA T w i=false:=by
 cases n with
 |zero=>rw[eY.eq_1]at h;cases h
 |succ n=>
  rw[eY.eq_2]at h;split at h
  ·rename_i g;exact nN g hw (by decide)
  split at h
  ·rename_i g;exact nN g hw (by decide)
  split at h
  ·rename_i g;exact nN g hw (by decide)
  split at h
  ·rename_i g;exact nN g hw (by decide)
  split at h
  ·rename_i g;exact nN g hw (by decide)
  split at h
  ·rename_i g;exact nN g hw (by decide)
  split at h
  ·rename_i g;exact nN g hw (by decide)
  split at h
  ·rename_i g;exact nN g hw (by decide)
  split at h
  ·rename_i g;unfold isA;rw[g];rfl
  ·cases h
theorem aaT{i:Nat}(h:bC T i=0)(w:List Nat):isA T w i=false:=by
 unfold isA;rw[h];rfl
theorem Kv{n i d j:Nat}{out b:List aK}(h:bG T n out i d=.ok b j)(hk:bC T j=0){w:List Nat}(hw:w∈C8):isA T w i=false:=by
 cases n with
 |zero=>rw[bG.eq_1]at h;cases h
 |succ n=>
  rw[bG.eq_2]at h;split at h
  ·cases h;exact aaT hk w
  ·obtain⟨s,j1,e1,e2⟩:=aS h;exact Sm e1 hw
theorem wD(P:Pre T1 T α){d:Nat}{a:List aK}(ha:∀x,a.getLast? = some x→x.kind≠10) :
  ∀(n:Nat) (out:List aK) (i:Nat),i≤α→bG T1 n out i d=.ok a α→out.length≤a.length∧(a.length-out.length)+1≤n∧bG T n out i d=bG T (n-(a.length-out.length)) a α d
 |0,out,i,_,h=>by rw[bG.eq_1]at h;cases h
 |n+1,out,i,hi,h=>by
  rcases Nat.lt_or_ge i α with hlt|hge
  ·have hc:dH T1 i=dH T i:=by
    unfold dH;rw[P.jO _ hlt,P.jO _ hlt,P.jO _ hlt,P.jO _ hlt,P.kind hlt]
   rw[bG.eq_2,hc]at h;split at h
   ·exact absurd (cU h).2 (by omega)
   rename_i g;obtain⟨s,j1,e1,e2⟩:=aS h;obtain⟨h1,h2,h3⟩:=(YN P n).stat i d hi s j1 e1;obtain⟨o1,o2,o3⟩:=P.opt (s:=[59]) (by decide) h2;rw[o1]at e2;split at e2
   ·cases e2
   rename_i g2;obtain⟨i1,i2,i3⟩:=wD P ha n (out++[s]) (iv T [59] j1) o3 e2;have hlast:iv T [59] j1=α→s.kind≠10:=λe=>by
    rw[e]at e2;cases n with
    |zero=>rw[bG.eq_1]at e2;cases e2
    |succ n=>
     have hE:dH T1 α=true:=by unfold dH;rw[P.e0];simp
     rw[bG.eq_2,if_pos hE]at e2;have:=(cU e2).1;exact ha s (by rw[←this];simp)
   have hs:=h3 (by
    rcases Nat.lt_or_ge j1 α with q|q
    ·exact .inl q
    ·exact .inr (hlast (by omega)))
   have hg2:¬(s.kind=10∧dH T (iv T [59] j1)=false):=by
    rcases Nat.lt_or_ge (iv T [59] j1) α with q|q
    ·have hcl:dH T1 (iv T [59] j1)=dH T (iv T [59] j1):=by
      unfold dH;rw[P.jO _ q,P.jO _ q,P.jO _ q,P.jO _ q,P.kind q]
     rw[←hcl];exact g2
    ·exact λx=>hlast (by omega) x.1
   rw[List.length_append,List.length_singleton]at i1 i2 i3;refine⟨by omega,by omega,?_⟩;rw[bG.eq_2,if_neg g,hs];show(if s.kind=10∧dH T (iv T [59] j1)=false then _ else _)=_;rw[if_neg hg2,i3];congr 1;omega
  ·have e0:i=α:=by omega
   subst e0;have hE:dH T1 i=true:=by unfold dH;rw[P.e0];simp
   rw[bG.eq_2,if_pos hE]at h;have:=(cU h).1;subst this;exact⟨Nat.le_refl _,by omega,by rw[Nat.sub_self];rfl⟩
theorem C9{d:Nat}:∀(n:Nat) (out:List aK) (i:Nat) (b:List aK) (j:Nat),bG T n out i d=.ok b j→∃l,b=out++l
 |0,out,i,b,j,h=>by rw[bG.eq_1]at h;cases h
 |n+1,out,i,b,j,h=>by
  rw[bG.eq_2]at h;split at h
  ·exact⟨[],by rw[(cU h).1,List.append_nil]⟩
  ·obtain⟨s,j1,e1,e2⟩:=aS h;split at e2
   ·cases e2
   ·obtain⟨l,hl⟩:=C9 n _ _ _ _ e2;exact⟨s::l,by rw[hl];simp⟩
theorem Kw{T:List Tok}{a:List aK}(hT:kG T)(h:lA (.inl T)=.inl a):∃j,fC T=.ok a j:=by
 have hne:=wz hT;have hsc:lA (.inl T)=(match fC T with|.ok b _=>.inl b|.err c i=>.inr (c,aW T i)|.bW=>.inl []):=rfl;rw[hsc]at h;cases e:fC T with
 |bW=>exact absurd e hne
 |err c i=>rw[e]at h;cases h
 |ok b j=>rw[e]at h;cases h;exact⟨j,rfl⟩
theorem aeh{T:List Tok}{a:List aK}{j:Nat}(h:fC T=.ok a j):lA (.inl T)=.inl a:=by
 have hsc:lA (.inl T)=(match fC T with|.ok b _=>.inl b|.err c i=>.inr (c,aW T i)|.bW=>.inl []):=rfl;rw[hsc,h]
theorem Da{T:List Tok}{a:List aK}{j:Nat}(h:fC T=.ok a j):bG T (64*T.length+63) [] 0 1=.ok a j∧bC T j=0:=by
 unfold fC at h;obtain⟨b,j1,e1,e2⟩:=aS h;split at e2
 ·rename_i hk;cases e2;rw[show 64*T.length+64=(64*T.length+63)+1 by omega,cz.eq_2,if_neg (by omega)]at e1;exact⟨e1,hk⟩
 ·cases e2
theorem Sn{T:List Tok}{a:List aK}{j m:Nat}(hT:kG T)(h:bG T m [] 0 1=.ok a j)(hm:64*T.length+63≤m)(hk:bC T j=0):fC T=.ok a j:=by
 have hne:=wz hT;have e:cz T (64*T.length+64) 0 0=bG T (64*T.length+63) [] 0 1:=by
  rw[show 64*T.length+64=(64*T.length+63)+1 by omega,cz.eq_2,if_neg (by omega)]
 unfold fC at hne ⊢;rw[e]at hne ⊢;have h0:bG T (64*T.length+63) [] 0 1≠.bW:=λq=>by rw[q]at hne;exact hne rfl
 rw[←ug hm h0,h];show(if bC T j=0 then _ else _)=_;rw[if_pos hk]
theorem YO{A:List Tok}{x:Tok}(hx:x.kind=0)(hA:∀t∈A,t.kind≠0){j:Nat}(hj:j<A.length+1)(h:bC (A++[x]) j=0):j=A.length:=by
 rcases Nat.lt_or_ge j A.length with g|g
 ·exfalso;unfold bC at h;rw[List.getElem?_append_left g,List.getElem?_eq_getElem g]at h;exact hA _ (List.getElem_mem _) h
 ·omega
theorem LC{s t:List Nat}{ta tb:List Tok}{a b:List aK}(h1:dn s 0 (.inl ta))(h2:dn t 0 (.inl tb))(e1:lA (.inl ta)=.inl a)(e2:lA (.inl tb)=.inl b)(hk:∀x,a.getLast? = some x→x.kind≠10) :
  ∃tc b',dn (s++10::t) 0 (.inl tc)∧lA (.inl tc)=.inl (a++b')∧bf b'=bf b:=by
 have h2':=h2.sh (0+s.length+1) tb rfl;rw[show 0+(0+s.length+1)=0+s.length+1 by omega]at h2';have h3:=h1.join ta rfl h2';generalize hm:0+s.length+1=m at h3;refine⟨ta.dropLast++tb.map (Tok.sh m),?_⟩;obtain⟨A,q,eA,hA⟩:=h1.ends ta rfl;have okA:=h1.qW;have okB:=h2.qW;have okC:=h3.qW;obtain⟨ja,pa⟩:=Kw okA e1;obtain⟨jb,pb⟩:=Kw okB e2;obtain⟨ba,ka⟩:=Da pa;obtain⟨bb,kb⟩:=Da pb;subst eA;rw[List.dropLast_concat]at h3 okC ⊢;have hja:ja<A.length+1:=by
  have h:=wA okA;unfold fC at pa;obtain⟨b0,j1,x1,x2⟩:=aS pa;have:=h _ _ x1;split at x2
  ·cases x2;rw[List.length_append,List.length_singleton]at this;exact this
  ·cases x2
 have eja:=YO rfl hA hja ka;subst eja;have hget:∀i,(A++tb.map (Tok.sh m))[i+A.length]? = (tb[i]?).map (Tok.sh m):=λi=>by
  rw[List.getElem?_append_right (by omega),List.getElem?_map,Nat.add_sub_cancel]
 have Q:qs tb (A++tb.map (Tok.sh m)) A.length:=by
  refine⟨λi=>?_,λi=>?_,λi=>?_⟩
  ·unfold bC;rw[hget];cases tb[i]?<;>rfl
  ·unfold dO;rw[hget];cases tb[i]?<;>rfl
  ·unfold nk;rw[hget];cases tb[i]?<;>rfl
 have P:Pre (A++[⟨0,[],0,q⟩]) (A++tb.map (Tok.sh m)) A.length:=by
  refine⟨λi hi=>?_,ka,λw hw=>?_⟩
  ·rw[List.getElem?_append_left hi,List.getElem?_append_left hi]
  ·have:=Kv bb kb hw;rw[←Q.is w 0,Nat.zero_add]at this;exact this
 generalize hC:A++tb.map (Tok.sh m)=C at h3 okC Q P ⊢;rw[List.length_append,List.length_singleton]at ba;have hne:bG (A++[⟨0,[],0,q⟩]) (64*(A.length+1)+63) [] 0 1≠.bW:=by rw[ba];intro x;cases x
 have aj9:C.length=A.length+tb.length:=by rw[←hC];simp
 have big:=ug (m:=(64*(A.length+1)+63)+(64*tb.length+63)) (by omega) hne;rw[ba]at big;obtain⟨_,t2,t3⟩:=wD P hk _ _ _ (Nat.zero_le _) big;obtain⟨_,t2',_⟩:=wD P hk _ _ _ (Nat.zero_le _) ba;rw[List.length_nil]at t2' t3;obtain⟨v',v1,v2⟩:=(NP Q (64*tb.length+63)).aM (bf a) [] a 0 1 (by show bf a=bf a++bf [];simp[bf]) b jb bb;have v2:bf v'=bf a++bf b:=v2;rw[Nat.zero_add]at v1;obtain⟨l,hl⟩:=C9 _ _ _ _ _ v1;have hne2:bG C (64*tb.length+63) a A.length 1≠.bW:=by rw[v1];intro x;cases x
 rw[ug (by omega) hne2,v1]at t3;have hkC:bC C (jb+A.length)=0:=by rw[Q.kind];exact kb
 refine⟨l,h3,?_,?_⟩
 ·have:=Sn okC t3 (by omega) hkC;rw[aeh this,hl]
 ·rw[hl,bK]at v2;exact List.append_cancel_left v2
end
section
def ax{α:Type}(r:bF α):Prop:=∀c i,r=.err c i→c≠0
theorem ax.ok{α:Type}(a:α)(i:Nat):ax (.ok a i):=λc i h=>by cases h
theorem ax.bW{α:Type}:ax (.bW:bF α):=λc i h=>by cases h
theorem ax.e8{α:Type}(i:Nat):ax (.err 8 i:bF α):=λc i h=>by cases h;decide
theorem ax.e14{α:Type}(i:Nat):ax (.err 14 i:bF α):=λc i h=>by cases h;decide
theorem ax.bind{α β:Type}{r:bF α}{f:α→Nat→bF β}(h:ax r)(hf:∀a j,ax (f a j)):ax (r.bind f):=by
 cases r with
 |ok a i=>exact hf a i
 |err c i=>intro c' i' e;cases e;exact h c i rfl
 |bW=>exact ax.bW
theorem ax.ite{α:Type}{c:Prop}[Decidable c]{a b:bF α}(h1:ax a)(h2:ax b):ax (if c then a else b):=by
 split
 ·exact h1
 ·exact h2
variable {T:List Tok}
theorem ax.must(s:List Nat)(i:Nat):ax (cC T s i):=ax.ite (ax.ok _ _) (ax.e14 _)
theorem ax.name(i:Nat):ax (gY T i):=ax.ite (ax.ok _ _) (ax.e14 _)
structure Nez(T:List Tok)(n:Nat):Prop where
 exp:∀i d,ax (de T n i d)
 either:∀i d,ax (dx T n i d)
 ae:∀e i d,ax (df T n e i d)
 both:∀i d,ax (fu T n i d)
 au:∀e i d,ax (eF T n e i d)
 test:∀i d,ax (fw T n i d)
 av:∀e i d,ax (eG T n e i d)
 join:∀i d,ax (fi T n i d)
 sum:∀i d,ax (ig T n i d)
 aI:∀e i d,ax (fT T n e i d)
 term:∀i d,ax (fx T n i d)
 aw:∀e i d,ax (eH T n e i d)
 unary:∀i d,ax (dN T n i d)
 post:∀i d,ax (fj T n i d)
 an:∀e i d,ax (dI T n e i d)
 args:∀b out i d,ax (cT T n b out i d)
 simple:∀i d,ax (dc T n i d)
 table:∀out c a i d,ax (dh T n out c a i d)
 field:∀c i d,ax (dJ T n c i d)
 body:∀a i d,ax (fy T n a i d)
 params:∀b out i,ax (cG T n b out i)
 block:∀i d,ax (cz T n i d)
 aM:∀out i d,ax (bG T n out i d)
 stat:∀i d,ax (eY T n i d)
 ah:∀a i d,ax (ep T n a i d)
 aj:∀a i d,ax (fe T n a i d)
 af:∀a i d,ax (dR T n a i d)
 do_:∀a i d,ax (kV T n a i d)
 aH:∀a i d,ax (dS T n a i d)
 plain:∀a i d,ax (ey T n a i d)
 choice:∀a l bs i d,ax (cO T n a l bs i d)
 for_:∀a i d,ax (ij T n a i d)
 ai:∀k a ns l i d,ax (dy T n k a ns l i d)
theorem aiO:Nez T 0 where
 exp _ _:=by rw[de.eq_1];exact ax.bW
 either _ _:=by rw[dx.eq_1];exact ax.bW
 ae _ _ _:=by rw[df.eq_1];exact ax.bW
 both _ _:=by rw[fu.eq_1];exact ax.bW
 au _ _ _:=by rw[eF.eq_1];exact ax.bW
 test _ _:=by rw[fw.eq_1];exact ax.bW
 av _ _ _:=by rw[eG.eq_1];exact ax.bW
 join _ _:=by rw[fi.eq_1];exact ax.bW
 sum _ _:=by rw[ig.eq_1];exact ax.bW
 aI _ _ _:=by rw[fT.eq_1];exact ax.bW
 term _ _:=by rw[fx.eq_1];exact ax.bW
 aw _ _ _:=by rw[eH.eq_1];exact ax.bW
 unary _ _:=by rw[dN.eq_1];exact ax.bW
 post _ _:=by rw[fj.eq_1];exact ax.bW
 an _ _ _:=by rw[dI.eq_1];exact ax.bW
 args _ _ _ _:=by rw[cT.eq_1];exact ax.bW
 simple _ _:=by rw[dc.eq_1];exact ax.bW
 table _ _ _ _ _:=by rw[dh.eq_1];exact ax.bW
 field _ _ _:=by rw[dJ.eq_1];exact ax.bW
 body _ _ _:=by rw[fy.eq_1];exact ax.bW
 params _ _ _:=by rw[cG.eq_1];exact ax.bW
 block _ _:=by rw[cz.eq_1];exact ax.bW
 aM _ _ _:=by rw[bG.eq_1];exact ax.bW
 stat _ _:=by rw[eY.eq_1];exact ax.bW
 ah _ _ _:=by rw[ep.eq_1];exact ax.bW
 aj _ _ _:=by rw[fe.eq_1];exact ax.bW
 af _ _ _:=by rw[dR.eq_1];exact ax.bW
 do_ _ _ _:=by rw[kV.eq_1];exact ax.bW
 aH _ _ _:=by rw[dS.eq_1];exact ax.bW
 plain _ _ _:=by rw[ey.eq_1];exact ax.bW
 choice _ _ _ _ _:=by rw[cO.eq_1];exact ax.bW
 for_ _ _ _:=by rw[ij.eq_1];exact ax.bW
 ai _ _ _ _ _ _:=by rw[dy.eq_1];exact ax.bW
theorem aiP{n:Nat}(F:Nez T n):Nez T (n+1) where
 exp i d:=by
  rw[de.eq_2]
  repeat' first|exact F.exp _ _|exact F.either _ _|exact F.ae _ _ _|exact F.both _ _|exact F.au _ _ _|exact F.test _ _|exact F.av _ _ _|exact F.join _ _|exact F.sum _ _|exact F.aI _ _ _|exact F.term _ _|exact F.aw _ _ _|exact F.unary _ _|exact F.post _ _|exact F.an _ _ _|exact F.args _ _ _ _|exact F.simple _ _|exact F.table _ _ _ _ _|exact F.field _ _ _|exact F.body _ _ _|exact F.params _ _ _|exact F.block _ _|exact F.aM _ _ _|exact F.stat _ _|exact F.ah _ _ _|exact F.aj _ _ _|exact F.af _ _ _|exact F.do_ _ _ _|exact F.aH _ _ _|exact F.plain _ _ _|exact F.choice _ _ _ _ _|exact F.for_ _ _ _|exact F.ai _ _ _ _ _ _|exact ax.must _ _|exact ax.name _|exact ax.ok _ _|exact ax.e8 _|exact ax.e14 _|apply ax.ite|refine ax.bind ?_ λ_ _=>?_
 either i d:=by
  rw[dx.eq_2]
  repeat' first|exact F.exp _ _|exact F.either _ _|exact F.ae _ _ _|exact F.both _ _|exact F.au _ _ _|exact F.test _ _|exact F.av _ _ _|exact F.join _ _|exact F.sum _ _|exact F.aI _ _ _|exact F.term _ _|exact F.aw _ _ _|exact F.unary _ _|exact F.post _ _|exact F.an _ _ _|exact F.args _ _ _ _|exact F.simple _ _|exact F.table _ _ _ _ _|exact F.field _ _ _|exact F.body _ _ _|exact F.params _ _ _|exact F.block _ _|exact F.aM _ _ _|exact F.stat _ _|exact F.ah _ _ _|exact F.aj _ _ _|exact F.af _ _ _|exact F.do_ _ _ _|exact F.aH _ _ _|exact F.plain _ _ _|exact F.choice _ _ _ _ _|exact F.for_ _ _ _|exact F.ai _ _ _ _ _ _|exact ax.must _ _|exact ax.name _|exact ax.ok _ _|exact ax.e8 _|exact ax.e14 _|apply ax.ite|refine ax.bind ?_ λ_ _=>?_
 ae e i d:=by
  rw[df.eq_2]
  repeat' first|exact F.exp _ _|exact F.either _ _|exact F.ae _ _ _|exact F.both _ _|exact F.au _ _ _|exact F.test _ _|exact F.av _ _ _|exact F.join _ _|exact F.sum _ _|exact F.aI _ _ _|exact F.term _ _|exact F.aw _ _ _|exact F.unary _ _|exact F.post _ _|exact F.an _ _ _|exact F.args _ _ _ _|exact F.simple _ _|exact F.table _ _ _ _ _|exact F.field _ _ _|exact F.body _ _ _|exact F.params _ _ _|exact F.block _ _|exact F.aM _ _ _|exact F.stat _ _|exact F.ah _ _ _|exact F.aj _ _ _|exact F.af _ _ _|exact F.do_ _ _ _|exact F.aH _ _ _|exact F.plain _ _ _|exact F.choice _ _ _ _ _|exact F.for_ _ _ _|exact F.ai _ _ _ _ _ _|exact ax.must _ _|exact ax.name _|exact ax.ok _ _|exact ax.e8 _|exact ax.e14 _|apply ax.ite|refine ax.bind ?_ λ_ _=>?_
 both i d:=by
  rw[fu.eq_2]
  repeat' first|exact F.exp _ _|exact F.either _ _|exact F.ae _ _ _|exact F.both _ _|exact F.au _ _ _|exact F.test _ _|exact F.av _ _ _|exact F.join _ _|exact F.sum _ _|exact F.aI _ _ _|exact F.term _ _|exact F.aw _ _ _|exact F.unary _ _|exact F.post _ _|exact F.an _ _ _|exact F.args _ _ _ _|exact F.simple _ _|exact F.table _ _ _ _ _|exact F.field _ _ _|exact F.body _ _ _|exact F.params _ _ _|exact F.block _ _|exact F.aM _ _ _|exact F.stat _ _|exact F.ah _ _ _|exact F.aj _ _ _|exact F.af _ _ _|exact F.do_ _ _ _|exact F.aH _ _ _|exact F.plain _ _ _|exact F.choice _ _ _ _ _|exact F.for_ _ _ _|exact F.ai _ _ _ _ _ _|exact ax.must _ _|exact ax.name _|exact ax.ok _ _|exact ax.e8 _|exact ax.e14 _|apply ax.ite|refine ax.bind ?_ λ_ _=>?_
 au e i d:=by
  rw[eF.eq_2]
  repeat' first|exact F.exp _ _|exact F.either _ _|exact F.ae _ _ _|exact F.both _ _|exact F.au _ _ _|exact F.test _ _|exact F.av _ _ _|exact F.join _ _|exact F.sum _ _|exact F.aI _ _ _|exact F.term _ _|exact F.aw _ _ _|exact F.unary _ _|exact F.post _ _|exact F.an _ _ _|exact F.args _ _ _ _|exact F.simple _ _|exact F.table _ _ _ _ _|exact F.field _ _ _|exact F.body _ _ _|exact F.params _ _ _|exact F.block _ _|exact F.aM _ _ _|exact F.stat _ _|exact F.ah _ _ _|exact F.aj _ _ _|exact F.af _ _ _|exact F.do_ _ _ _|exact F.aH _ _ _|exact F.plain _ _ _|exact F.choice _ _ _ _ _|exact F.for_ _ _ _|exact F.ai _ _ _ _ _ _|exact ax.must _ _|exact ax.name _|exact ax.ok _ _|exact ax.e8 _|exact ax.e14 _|apply ax.ite|refine ax.bind ?_ λ_ _=>?_
 test i d:=by
  rw[fw.eq_2]
  repeat' first|exact F.exp _ _|exact F.either _ _|exact F.ae _ _ _|exact F.both _ _|exact F.au _ _ _|exact F.test _ _|exact F.av _ _ _|exact F.join _ _|exact F.sum _ _|exact F.aI _ _ _|exact F.term _ _|exact F.aw _ _ _|exact F.unary _ _|exact F.post _ _|exact F.an _ _ _|exact F.args _ _ _ _|exact F.simple _ _|exact F.table _ _ _ _ _|exact F.field _ _ _|exact F.body _ _ _|exact F.params _ _ _|exact F.block _ _|exact F.aM _ _ _|exact F.stat _ _|exact F.ah _ _ _|exact F.aj _ _ _|exact F.af _ _ _|exact F.do_ _ _ _|exact F.aH _ _ _|exact F.plain _ _ _|exact F.choice _ _ _ _ _|exact F.for_ _ _ _|exact F.ai _ _ _ _ _ _|exact ax.must _ _|exact ax.name _|exact ax.ok _ _|exact ax.e8 _|exact ax.e14 _|apply ax.ite|refine ax.bind ?_ λ_ _=>?_
 av e i d:=by
  rw[eG.eq_2]
  repeat' first|exact F.exp _ _|exact F.either _ _|exact F.ae _ _ _|exact F.both _ _|exact F.au _ _ _|exact F.test _ _|exact F.av _ _ _|exact F.join _ _|exact F.sum _ _|exact F.aI _ _ _|exact F.term _ _|exact F.aw _ _ _|exact F.unary _ _|exact F.post _ _|exact F.an _ _ _|exact F.args _ _ _ _|exact F.simple _ _|exact F.table _ _ _ _ _|exact F.field _ _ _|exact F.body _ _ _|exact F.params _ _ _|exact F.block _ _|exact F.aM _ _ _|exact F.stat _ _|exact F.ah _ _ _|exact F.aj _ _ _|exact F.af _ _ _|exact F.do_ _ _ _|exact F.aH _ _ _|exact F.plain _ _ _|exact F.choice _ _ _ _ _|exact F.for_ _ _ _|exact F.ai _ _ _ _ _ _|exact ax.must _ _|exact ax.name _|exact ax.ok _ _|exact ax.e8 _|exact ax.e14 _|apply ax.ite|refine ax.bind ?_ λ_ _=>?_
 join i d:=by
  rw[fi.eq_2]
  repeat' first|exact F.exp _ _|exact F.either _ _|exact F.ae _ _ _|exact F.both _ _|exact F.au _ _ _|exact F.test _ _|exact F.av _ _ _|exact F.join _ _|exact F.sum _ _|exact F.aI _ _ _|exact F.term _ _|exact F.aw _ _ _|exact F.unary _ _|exact F.post _ _|exact F.an _ _ _|exact F.args _ _ _ _|exact F.simple _ _|exact F.table _ _ _ _ _|exact F.field _ _ _|exact F.body _ _ _|exact F.params _ _ _|exact F.block _ _|exact F.aM _ _ _|exact F.stat _ _|exact F.ah _ _ _|exact F.aj _ _ _|exact F.af _ _ _|exact F.do_ _ _ _|exact F.aH _ _ _|exact F.plain _ _ _|exact F.choice _ _ _ _ _|exact F.for_ _ _ _|exact F.ai _ _ _ _ _ _|exact ax.must _ _|exact ax.name _|exact ax.ok _ _|exact ax.e8 _|exact ax.e14 _|apply ax.ite|refine ax.bind ?_ λ_ _=>?_
 sum i d:=by
  rw[ig.eq_2]
  repeat' first|exact F.exp _ _|exact F.either _ _|exact F.ae _ _ _|exact F.both _ _|exact F.au _ _ _|exact F.test _ _|exact F.av _ _ _|exact F.join _ _|exact F.sum _ _|exact F.aI _ _ _|exact F.term _ _|exact F.aw _ _ _|exact F.unary _ _|exact F.post _ _|exact F.an _ _ _|exact F.args _ _ _ _|exact F.simple _ _|exact F.table _ _ _ _ _|exact F.field _ _ _|exact F.body _ _ _|exact F.params _ _ _|exact F.block _ _|exact F.aM _ _ _|exact F.stat _ _|exact F.ah _ _ _|exact F.aj _ _ _|exact F.af _ _ _|exact F.do_ _ _ _|exact F.aH _ _ _|exact F.plain _ _ _|exact F.choice _ _ _ _ _|exact F.for_ _ _ _|exact F.ai _ _ _ _ _ _|exact ax.must _ _|exact ax.name _|exact ax.ok _ _|exact ax.e8 _|exact ax.e14 _|apply ax.ite|refine ax.bind ?_ λ_ _=>?_
 aI e i d:=by
  rw[fT.eq_2]
  repeat' first|exact F.exp _ _|exact F.either _ _|exact F.ae _ _ _|exact F.both _ _|exact F.au _ _ _|exact F.test _ _|exact F.av _ _ _|exact F.join _ _|exact F.sum _ _|exact F.aI _ _ _|exact F.term _ _|exact F.aw _ _ _|exact F.unary _ _|exact F.post _ _|exact F.an _ _ _|exact F.args _ _ _ _|exact F.simple _ _|exact F.table _ _ _ _ _|exact F.field _ _ _|exact F.body _ _ _|exact F.params _ _ _|exact F.block _ _|exact F.aM _ _ _|exact F.stat _ _|exact F.ah _ _ _|exact F.aj _ _ _|exact F.af _ _ _|exact F.do_ _ _ _|exact F.aH _ _ _|exact F.plain _ _ _|exact F.choice _ _ _ _ _|exact F.for_ _ _ _|exact F.ai _ _ _ _ _ _|exact ax.must _ _|exact ax.name _|exact ax.ok _ _|exact ax.e8 _|exact ax.e14 _|apply ax.ite|refine ax.bind ?_ λ_ _=>?_
 term i d:=by
  rw[fx.eq_2]
  repeat' first|exact F.exp _ _|exact F.either _ _|exact F.ae _ _ _|exact F.both _ _|exact F.au _ _ _|exact F.test _ _|exact F.av _ _ _|exact F.join _ _|exact F.sum _ _|exact F.aI _ _ _|exact F.term _ _|exact F.aw _ _ _|exact F.unary _ _|exact F.post _ _|exact F.an _ _ _|exact F.args _ _ _ _|exact F.simple _ _|exact F.table _ _ _ _ _|exact F.field _ _ _|exact F.body _ _ _|exact F.params _ _ _|exact F.block _ _|exact F.aM _ _ _|exact F.stat _ _|exact F.ah _ _ _|exact F.aj _ _ _|exact F.af _ _ _|exact F.do_ _ _ _|exact F.aH _ _ _|exact F.plain _ _ _|exact F.choice _ _ _ _ _|exact F.for_ _ _ _|exact F.ai _ _ _ _ _ _|exact ax.must _ _|exact ax.name _|exact ax.ok _ _|exact ax.e8 _|exact ax.e14 _|apply ax.ite|refine ax.bind ?_ λ_ _=>?_
 aw e i d:=by
  rw[eH.eq_2]
  repeat' first|exact F.exp _ _|exact F.either _ _|exact F.ae _ _ _|exact F.both _ _|exact F.au _ _ _|exact F.test _ _|exact F.av _ _ _|exact F.join _ _|exact F.sum _ _|exact F.aI _ _ _|exact F.term _ _|exact F.aw _ _ _|exact F.unary _ _|exact F.post _ _|exact F.an _ _ _|exact F.args _ _ _ _|exact F.simple _ _|exact F.table _ _ _ _ _|exact F.field _ _ _|exact F.body _ _ _|exact F.params _ _ _|exact F.block _ _|exact F.aM _ _ _|exact F.stat _ _|exact F.ah _ _ _|exact F.aj _ _ _|exact F.af _ _ _|exact F.do_ _ _ _|exact F.aH _ _ _|exact F.plain _ _ _|exact F.choice _ _ _ _ _|exact F.for_ _ _ _|exact F.ai _ _ _ _ _ _|exact ax.must _ _|exact ax.name _|exact ax.ok _ _|exact ax.e8 _|exact ax.e14 _|apply ax.ite|refine ax.bind ?_ λ_ _=>?_
 unary i d:=by
  rw[dN.eq_2]
  repeat' first|exact F.exp _ _|exact F.either _ _|exact F.ae _ _ _|exact F.both _ _|exact F.au _ _ _|exact F.test _ _|exact F.av _ _ _|exact F.join _ _|exact F.sum _ _|exact F.aI _ _ _|exact F.term _ _|exact F.aw _ _ _|exact F.unary _ _|exact F.post _ _|exact F.an _ _ _|exact F.args _ _ _ _|exact F.simple _ _|exact F.table _ _ _ _ _|exact F.field _ _ _|exact F.body _ _ _|exact F.params _ _ _|exact F.block _ _|exact F.aM _ _ _|exact F.stat _ _|exact F.ah _ _ _|exact F.aj _ _ _|exact F.af _ _ _|exact F.do_ _ _ _|exact F.aH _ _ _|exact F.plain _ _ _|exact F.choice _ _ _ _ _|exact F.for_ _ _ _|exact F.ai _ _ _ _ _ _|exact ax.must _ _|exact ax.name _|exact ax.ok _ _|exact ax.e8 _|exact ax.e14 _|apply ax.ite|refine ax.bind ?_ λ_ _=>?_
 post i d:=by
  rw[fj.eq_2]
  repeat' first|exact F.exp _ _|exact F.either _ _|exact F.ae _ _ _|exact F.both _ _|exact F.au _ _ _|exact F.test _ _|exact F.av _ _ _|exact F.join _ _|exact F.sum _ _|exact F.aI _ _ _|exact F.term _ _|exact F.aw _ _ _|exact F.unary _ _|exact F.post _ _|exact F.an _ _ _|exact F.args _ _ _ _|exact F.simple _ _|exact F.table _ _ _ _ _|exact F.field _ _ _|exact F.body _ _ _|exact F.params _ _ _|exact F.block _ _|exact F.aM _ _ _|exact F.stat _ _|exact F.ah _ _ _|exact F.aj _ _ _|exact F.af _ _ _|exact F.do_ _ _ _|exact F.aH _ _ _|exact F.plain _ _ _|exact F.choice _ _ _ _ _|exact F.for_ _ _ _|exact F.ai _ _ _ _ _ _|exact ax.must _ _|exact ax.name _|exact ax.ok _ _|exact ax.e8 _|exact ax.e14 _|apply ax.ite|refine ax.bind ?_ λ_ _=>?_
 an e i d:=by
  rw[dI.eq_2]
  repeat' first|exact F.exp _ _|exact F.either _ _|exact F.ae _ _ _|exact F.both _ _|exact F.au _ _ _|exact F.test _ _|exact F.av _ _ _|exact F.join _ _|exact F.sum _ _|exact F.aI _ _ _|exact F.term _ _|exact F.aw _ _ _|exact F.unary _ _|exact F.post _ _|exact F.an _ _ _|exact F.args _ _ _ _|exact F.simple _ _|exact F.table _ _ _ _ _|exact F.field _ _ _|exact F.body _ _ _|exact F.params _ _ _|exact F.block _ _|exact F.aM _ _ _|exact F.stat _ _|exact F.ah _ _ _|exact F.aj _ _ _|exact F.af _ _ _|exact F.do_ _ _ _|exact F.aH _ _ _|exact F.plain _ _ _|exact F.choice _ _ _ _ _|exact F.for_ _ _ _|exact F.ai _ _ _ _ _ _|exact ax.must _ _|exact ax.name _|exact ax.ok _ _|exact ax.e8 _|exact ax.e14 _|apply ax.ite|refine ax.bind ?_ λ_ _=>?_
 args b out i d:=by
  rw[cT.eq_2]
  repeat' first|exact F.exp _ _|exact F.either _ _|exact F.ae _ _ _|exact F.both _ _|exact F.au _ _ _|exact F.test _ _|exact F.av _ _ _|exact F.join _ _|exact F.sum _ _|exact F.aI _ _ _|exact F.term _ _|exact F.aw _ _ _|exact F.unary _ _|exact F.post _ _|exact F.an _ _ _|exact F.args _ _ _ _|exact F.simple _ _|exact F.table _ _ _ _ _|exact F.field _ _ _|exact F.body _ _ _|exact F.params _ _ _|exact F.block _ _|exact F.aM _ _ _|exact F.stat _ _|exact F.ah _ _ _|exact F.aj _ _ _|exact F.af _ _ _|exact F.do_ _ _ _|exact F.aH _ _ _|exact F.plain _ _ _|exact F.choice _ _ _ _ _|exact F.for_ _ _ _|exact F.ai _ _ _ _ _ _|exact ax.must _ _|exact ax.name _|exact ax.ok _ _|exact ax.e8 _|exact ax.e14 _|apply ax.ite|refine ax.bind ?_ λ_ _=>?_
 simple i d:=by
  rw[dc.eq_2]
  repeat' first|exact F.exp _ _|exact F.either _ _|exact F.ae _ _ _|exact F.both _ _|exact F.au _ _ _|exact F.test _ _|exact F.av _ _ _|exact F.join _ _|exact F.sum _ _|exact F.aI _ _ _|exact F.term _ _|exact F.aw _ _ _|exact F.unary _ _|exact F.post _ _|exact F.an _ _ _|exact F.args _ _ _ _|exact F.simple _ _|exact F.table _ _ _ _ _|exact F.field _ _ _|exact F.body _ _ _|exact F.params _ _ _|exact F.block _ _|exact F.aM _ _ _|exact F.stat _ _|exact F.ah _ _ _|exact F.aj _ _ _|exact F.af _ _ _|exact F.do_ _ _ _|exact F.aH _ _ _|exact F.plain _ _ _|exact F.choice _ _ _ _ _|exact F.for_ _ _ _|exact F.ai _ _ _ _ _ _|exact ax.must _ _|exact ax.name _|exact ax.ok _ _|exact ax.e8 _|exact ax.e14 _|apply ax.ite|refine ax.bind ?_ λ_ _=>?_
 table out c a i d:=by
  rw[dh.eq_2]
  repeat' first|exact F.exp _ _|exact F.either _ _|exact F.ae _ _ _|exact F.both _ _|exact F.au _ _ _|exact F.test _ _|exact F.av _ _ _|exact F.join _ _|exact F.sum _ _|exact F.aI _ _ _|exact F.term _ _|exact F.aw _ _ _|exact F.unary _ _|exact F.post _ _|exact F.an _ _ _|exact F.args _ _ _ _|exact F.simple _ _|exact F.table _ _ _ _ _|exact F.field _ _ _|exact F.body _ _ _|exact F.params _ _ _|exact F.block _ _|exact F.aM _ _ _|exact F.stat _ _|exact F.ah _ _ _|exact F.aj _ _ _|exact F.af _ _ _|exact F.do_ _ _ _|exact F.aH _ _ _|exact F.plain _ _ _|exact F.choice _ _ _ _ _|exact F.for_ _ _ _|exact F.ai _ _ _ _ _ _|exact ax.must _ _|exact ax.name _|exact ax.ok _ _|exact ax.e8 _|exact ax.e14 _|apply ax.ite|refine ax.bind ?_ λ_ _=>?_
 field c i d:=by
  rw[dJ.eq_2]
  repeat' first|exact F.exp _ _|exact F.either _ _|exact F.ae _ _ _|exact F.both _ _|exact F.au _ _ _|exact F.test _ _|exact F.av _ _ _|exact F.join _ _|exact F.sum _ _|exact F.aI _ _ _|exact F.term _ _|exact F.aw _ _ _|exact F.unary _ _|exact F.post _ _|exact F.an _ _ _|exact F.args _ _ _ _|exact F.simple _ _|exact F.table _ _ _ _ _|exact F.field _ _ _|exact F.body _ _ _|exact F.params _ _ _|exact F.block _ _|exact F.aM _ _ _|exact F.stat _ _|exact F.ah _ _ _|exact F.aj _ _ _|exact F.af _ _ _|exact F.do_ _ _ _|exact F.aH _ _ _|exact F.plain _ _ _|exact F.choice _ _ _ _ _|exact F.for_ _ _ _|exact F.ai _ _ _ _ _ _|exact ax.must _ _|exact ax.name _|exact ax.ok _ _|exact ax.e8 _|exact ax.e14 _|apply ax.ite|refine ax.bind ?_ λ_ _=>?_
 body a i d:=by
  rw[fy.eq_2]
  repeat' first|exact F.exp _ _|exact F.either _ _|exact F.ae _ _ _|exact F.both _ _|exact F.au _ _ _|exact F.test _ _|exact F.av _ _ _|exact F.join _ _|exact F.sum _ _|exact F.aI _ _ _|exact F.term _ _|exact F.aw _ _ _|exact F.unary _ _|exact F.post _ _|exact F.an _ _ _|exact F.args _ _ _ _|exact F.simple _ _|exact F.table _ _ _ _ _|exact F.field _ _ _|exact F.body _ _ _|exact F.params _ _ _|exact F.block _ _|exact F.aM _ _ _|exact F.stat _ _|exact F.ah _ _ _|exact F.aj _ _ _|exact F.af _ _ _|exact F.do_ _ _ _|exact F.aH _ _ _|exact F.plain _ _ _|exact F.choice _ _ _ _ _|exact F.for_ _ _ _|exact F.ai _ _ _ _ _ _|exact ax.must _ _|exact ax.name _|exact ax.ok _ _|exact ax.e8 _|exact ax.e14 _|apply ax.ite|refine ax.bind ?_ λ_ _=>?_
 params b out i:=by
  rw[cG.eq_2]
  repeat' first|exact F.exp _ _|exact F.either _ _|exact F.ae _ _ _|exact F.both _ _|exact F.au _ _ _|exact F.test _ _|exact F.av _ _ _|exact F.join _ _|exact F.sum _ _|exact F.aI _ _ _|exact F.term _ _|exact F.aw _ _ _|exact F.unary _ _|exact F.post _ _|exact F.an _ _ _|exact F.args _ _ _ _|exact F.simple _ _|exact F.table _ _ _ _ _|exact F.field _ _ _|exact F.body _ _ _|exact F.params _ _ _|exact F.block _ _|exact F.aM _ _ _|exact F.stat _ _|exact F.ah _ _ _|exact F.aj _ _ _|exact F.af _ _ _|exact F.do_ _ _ _|exact F.aH _ _ _|exact F.plain _ _ _|exact F.choice _ _ _ _ _|exact F.for_ _ _ _|exact F.ai _ _ _ _ _ _|exact ax.must _ _|exact ax.name _|exact ax.ok _ _|exact ax.e8 _|exact ax.e14 _|apply ax.ite|refine ax.bind ?_ λ_ _=>?_
 block i d:=by
  rw[cz.eq_2]
  repeat' first|exact F.exp _ _|exact F.either _ _|exact F.ae _ _ _|exact F.both _ _|exact F.au _ _ _|exact F.test _ _|exact F.av _ _ _|exact F.join _ _|exact F.sum _ _|exact F.aI _ _ _|exact F.term _ _|exact F.aw _ _ _|exact F.unary _ _|exact F.post _ _|exact F.an _ _ _|exact F.args _ _ _ _|exact F.simple _ _|exact F.table _ _ _ _ _|exact F.field _ _ _|exact F.body _ _ _|exact F.params _ _ _|exact F.block _ _|exact F.aM _ _ _|exact F.stat _ _|exact F.ah _ _ _|exact F.aj _ _ _|exact F.af _ _ _|exact F.do_ _ _ _|exact F.aH _ _ _|exact F.plain _ _ _|exact F.choice _ _ _ _ _|exact F.for_ _ _ _|exact F.ai _ _ _ _ _ _|exact ax.must _ _|exact ax.name _|exact ax.ok _ _|exact ax.e8 _|exact ax.e14 _|apply ax.ite|refine ax.bind ?_ λ_ _=>?_
 aM out i d:=by
  rw[bG.eq_2]
  repeat' first|exact F.exp _ _|exact F.either _ _|exact F.ae _ _ _|exact F.both _ _|exact F.au _ _ _|exact F.test _ _|exact F.av _ _ _|exact F.join _ _|exact F.sum _ _|exact F.aI _ _ _|exact F.term _ _|exact F.aw _ _ _|exact F.unary _ _|exact F.post _ _|exact F.an _ _ _|exact F.args _ _ _ _|exact F.simple _ _|exact F.table _ _ _ _ _|exact F.field _ _ _|exact F.body _ _ _|exact F.params _ _ _|exact F.block _ _|exact F.aM _ _ _|exact F.stat _ _|exact F.ah _ _ _|exact F.aj _ _ _|exact F.af _ _ _|exact F.do_ _ _ _|exact F.aH _ _ _|exact F.plain _ _ _|exact F.choice _ _ _ _ _|exact F.for_ _ _ _|exact F.ai _ _ _ _ _ _|exact ax.must _ _|exact ax.name _|exact ax.ok _ _|exact ax.e8 _|exact ax.e14 _|apply ax.ite|refine ax.bind ?_ λ_ _=>?_
 stat i d:=by
  rw[eY.eq_2]
  repeat' first|exact F.exp _ _|exact F.either _ _|exact F.ae _ _ _|exact F.both _ _|exact F.au _ _ _|exact F.test _ _|exact F.av _ _ _|exact F.join _ _|exact F.sum _ _|exact F.aI _ _ _|exact F.term _ _|exact F.aw _ _ _|exact F.unary _ _|exact F.post _ _|exact F.an _ _ _|exact F.args _ _ _ _|exact F.simple _ _|exact F.table _ _ _ _ _|exact F.field _ _ _|exact F.body _ _ _|exact F.params _ _ _|exact F.block _ _|exact F.aM _ _ _|exact F.stat _ _|exact F.ah _ _ _|exact F.aj _ _ _|exact F.af _ _ _|exact F.do_ _ _ _|exact F.aH _ _ _|exact F.plain _ _ _|exact F.choice _ _ _ _ _|exact F.for_ _ _ _|exact F.ai _ _ _ _ _ _|exact ax.must _ _|exact ax.name _|exact ax.ok _ _|exact ax.e8 _|exact ax.e14 _|apply ax.ite|refine ax.bind ?_ λ_ _=>?_
 ah a i d:=by
  rw[ep.eq_2]
  repeat' first|exact F.exp _ _|exact F.either _ _|exact F.ae _ _ _|exact F.both _ _|exact F.au _ _ _|exact F.test _ _|exact F.av _ _ _|exact F.join _ _|exact F.sum _ _|exact F.aI _ _ _|exact F.term _ _|exact F.aw _ _ _|exact F.unary _ _|exact F.post _ _|exact F.an _ _ _|exact F.args _ _ _ _|exact F.simple _ _|exact F.table _ _ _ _ _|exact F.field _ _ _|exact F.body _ _ _|exact F.params _ _ _|exact F.block _ _|exact F.aM _ _ _|exact F.stat _ _|exact F.ah _ _ _|exact F.aj _ _ _|exact F.af _ _ _|exact F.do_ _ _ _|exact F.aH _ _ _|exact F.plain _ _ _|exact F.choice _ _ _ _ _|exact F.for_ _ _ _|exact F.ai _ _ _ _ _ _|exact ax.must _ _|exact ax.name _|exact ax.ok _ _|exact ax.e8 _|exact ax.e14 _|apply ax.ite|refine ax.bind ?_ λ_ _=>?_
 aj a i d:=by
  rw[fe.eq_2]
  repeat' first|exact F.exp _ _|exact F.either _ _|exact F.ae _ _ _|exact F.both _ _|exact F.au _ _ _|exact F.test _ _|exact F.av _ _ _|exact F.join _ _|exact F.sum _ _|exact F.aI _ _ _|exact F.term _ _|exact F.aw _ _ _|exact F.unary _ _|exact F.post _ _|exact F.an _ _ _|exact F.args _ _ _ _|exact F.simple _ _|exact F.table _ _ _ _ _|exact F.field _ _ _|exact F.body _ _ _|exact F.params _ _ _|exact F.block _ _|exact F.aM _ _ _|exact F.stat _ _|exact F.ah _ _ _|exact F.aj _ _ _|exact F.af _ _ _|exact F.do_ _ _ _|exact F.aH _ _ _|exact F.plain _ _ _|exact F.choice _ _ _ _ _|exact F.for_ _ _ _|exact F.ai _ _ _ _ _ _|exact ax.must _ _|exact ax.name _|exact ax.ok _ _|exact ax.e8 _|exact ax.e14 _|apply ax.ite|refine ax.bind ?_ λ_ _=>?_
 af a i d:=by
  rw[dR.eq_2]
  repeat' first|exact F.exp _ _|exact F.either _ _|exact F.ae _ _ _|exact F.both _ _|exact F.au _ _ _|exact F.test _ _|exact F.av _ _ _|exact F.join _ _|exact F.sum _ _|exact F.aI _ _ _|exact F.term _ _|exact F.aw _ _ _|exact F.unary _ _|exact F.post _ _|exact F.an _ _ _|exact F.args _ _ _ _|exact F.simple _ _|exact F.table _ _ _ _ _|exact F.field _ _ _|exact F.body _ _ _|exact F.params _ _ _|exact F.block _ _|exact F.aM _ _ _|exact F.stat _ _|exact F.ah _ _ _|exact F.aj _ _ _|exact F.af _ _ _|exact F.do_ _ _ _|exact F.aH _ _ _|exact F.plain _ _ _|exact F.choice _ _ _ _ _|exact F.for_ _ _ _|exact F.ai _ _ _ _ _ _|exact ax.must _ _|exact ax.name _|exact ax.ok _ _|exact ax.e8 _|exact ax.e14 _|apply ax.ite|refine ax.bind ?_ λ_ _=>?_
 do_ a i d:=by
  rw[kV.eq_2]
  repeat' first|exact F.exp _ _|exact F.either _ _|exact F.ae _ _ _|exact F.both _ _|exact F.au _ _ _|exact F.test _ _|exact F.av _ _ _|exact F.join _ _|exact F.sum _ _|exact F.aI _ _ _|exact F.term _ _|exact F.aw _ _ _|exact F.unary _ _|exact F.post _ _|exact F.an _ _ _|exact F.args _ _ _ _|exact F.simple _ _|exact F.table _ _ _ _ _|exact F.field _ _ _|exact F.body _ _ _|exact F.params _ _ _|exact F.block _ _|exact F.aM _ _ _|exact F.stat _ _|exact F.ah _ _ _|exact F.aj _ _ _|exact F.af _ _ _|exact F.do_ _ _ _|exact F.aH _ _ _|exact F.plain _ _ _|exact F.choice _ _ _ _ _|exact F.for_ _ _ _|exact F.ai _ _ _ _ _ _|exact ax.must _ _|exact ax.name _|exact ax.ok _ _|exact ax.e8 _|exact ax.e14 _|apply ax.ite|refine ax.bind ?_ λ_ _=>?_
 aH a i d:=by
  rw[dS.eq_2]
  repeat' first|exact F.exp _ _|exact F.either _ _|exact F.ae _ _ _|exact F.both _ _|exact F.au _ _ _|exact F.test _ _|exact F.av _ _ _|exact F.join _ _|exact F.sum _ _|exact F.aI _ _ _|exact F.term _ _|exact F.aw _ _ _|exact F.unary _ _|exact F.post _ _|exact F.an _ _ _|exact F.args _ _ _ _|exact F.simple _ _|exact F.table _ _ _ _ _|exact F.field _ _ _|exact F.body _ _ _|exact F.params _ _ _|exact F.block _ _|exact F.aM _ _ _|exact F.stat _ _|exact F.ah _ _ _|exact F.aj _ _ _|exact F.af _ _ _|exact F.do_ _ _ _|exact F.aH _ _ _|exact F.plain _ _ _|exact F.choice _ _ _ _ _|exact F.for_ _ _ _|exact F.ai _ _ _ _ _ _|exact ax.must _ _|exact ax.name _|exact ax.ok _ _|exact ax.e8 _|exact ax.e14 _|apply ax.ite|refine ax.bind ?_ λ_ _=>?_
 plain a i d:=by
  rw[ey.eq_2]
  repeat' first|exact F.exp _ _|exact F.either _ _|exact F.ae _ _ _|exact F.both _ _|exact F.au _ _ _|exact F.test _ _|exact F.av _ _ _|exact F.join _ _|exact F.sum _ _|exact F.aI _ _ _|exact F.term _ _|exact F.aw _ _ _|exact F.unary _ _|exact F.post _ _|exact F.an _ _ _|exact F.args _ _ _ _|exact F.simple _ _|exact F.table _ _ _ _ _|exact F.field _ _ _|exact F.body _ _ _|exact F.params _ _ _|exact F.block _ _|exact F.aM _ _ _|exact F.stat _ _|exact F.ah _ _ _|exact F.aj _ _ _|exact F.af _ _ _|exact F.do_ _ _ _|exact F.aH _ _ _|exact F.plain _ _ _|exact F.choice _ _ _ _ _|exact F.for_ _ _ _|exact F.ai _ _ _ _ _ _|exact ax.must _ _|exact ax.name _|exact ax.ok _ _|exact ax.e8 _|exact ax.e14 _|apply ax.ite|refine ax.bind ?_ λ_ _=>?_
 choice a l bs i d:=by
  rw[cO.eq_2]
  repeat' first|exact F.exp _ _|exact F.either _ _|exact F.ae _ _ _|exact F.both _ _|exact F.au _ _ _|exact F.test _ _|exact F.av _ _ _|exact F.join _ _|exact F.sum _ _|exact F.aI _ _ _|exact F.term _ _|exact F.aw _ _ _|exact F.unary _ _|exact F.post _ _|exact F.an _ _ _|exact F.args _ _ _ _|exact F.simple _ _|exact F.table _ _ _ _ _|exact F.field _ _ _|exact F.body _ _ _|exact F.params _ _ _|exact F.block _ _|exact F.aM _ _ _|exact F.stat _ _|exact F.ah _ _ _|exact F.aj _ _ _|exact F.af _ _ _|exact F.do_ _ _ _|exact F.aH _ _ _|exact F.plain _ _ _|exact F.choice _ _ _ _ _|exact F.for_ _ _ _|exact F.ai _ _ _ _ _ _|exact ax.must _ _|exact ax.name _|exact ax.ok _ _|exact ax.e8 _|exact ax.e14 _|apply ax.ite|refine ax.bind ?_ λ_ _=>?_
 for_ a i d:=by
  rw[ij.eq_2]
  repeat' first|exact F.exp _ _|exact F.either _ _|exact F.ae _ _ _|exact F.both _ _|exact F.au _ _ _|exact F.test _ _|exact F.av _ _ _|exact F.join _ _|exact F.sum _ _|exact F.aI _ _ _|exact F.term _ _|exact F.aw _ _ _|exact F.unary _ _|exact F.post _ _|exact F.an _ _ _|exact F.args _ _ _ _|exact F.simple _ _|exact F.table _ _ _ _ _|exact F.field _ _ _|exact F.body _ _ _|exact F.params _ _ _|exact F.block _ _|exact F.aM _ _ _|exact F.stat _ _|exact F.ah _ _ _|exact F.aj _ _ _|exact F.af _ _ _|exact F.do_ _ _ _|exact F.aH _ _ _|exact F.plain _ _ _|exact F.choice _ _ _ _ _|exact F.for_ _ _ _|exact F.ai _ _ _ _ _ _|exact ax.must _ _|exact ax.name _|exact ax.ok _ _|exact ax.e8 _|exact ax.e14 _|apply ax.ite|refine ax.bind ?_ λ_ _=>?_
 ai k a ns l i d:=by
  rw[dy.eq_2]
  repeat' first|exact F.exp _ _|exact F.either _ _|exact F.ae _ _ _|exact F.both _ _|exact F.au _ _ _|exact F.test _ _|exact F.av _ _ _|exact F.join _ _|exact F.sum _ _|exact F.aI _ _ _|exact F.term _ _|exact F.aw _ _ _|exact F.unary _ _|exact F.post _ _|exact F.an _ _ _|exact F.args _ _ _ _|exact F.simple _ _|exact F.table _ _ _ _ _|exact F.field _ _ _|exact F.body _ _ _|exact F.params _ _ _|exact F.block _ _|exact F.aM _ _ _|exact F.stat _ _|exact F.ah _ _ _|exact F.aj _ _ _|exact F.af _ _ _|exact F.do_ _ _ _|exact F.aH _ _ _|exact F.plain _ _ _|exact F.choice _ _ _ _ _|exact F.for_ _ _ _|exact F.ai _ _ _ _ _ _|exact ax.must _ _|exact ax.name _|exact ax.ok _ _|exact ax.e8 _|exact ax.e14 _|apply ax.ite|refine ax.bind ?_ λ_ _=>?_
theorem NQ:∀n,Nez T n
 |0=>aiO
 |n+1=>aiP (NQ n)
theorem NR{r:List Tok ⊕ Nat}{c p:Nat}(h:lA r=.inr (c,p)):c≠0:=by
 cases r with
 |inr e=>cases h;decide
 |inl ts=>
  have hsc:lA (.inl ts)=(match fC ts with|.ok b _=>.inl b|.err c i=>.inr (c,aW ts i)|.bW=>.inl []):=rfl;rw[hsc]at h;cases e:fC ts with
  |ok b j=>rw[e]at h;cases h
  |bW=>rw[e]at h;cases h
  |err c' i=>
   rw[e]at h;cases h;unfold fC at e;have:ax ((cz ts (64*ts.length+64) 0 0).bind λb j=>if bC ts j=0 then .ok b j else .err 14 j):=ax.bind ((NQ _).block _ _) λ_ _=>ax.ite (ax.ok _ _) (ax.e14 _);exact this c i e
end
end Go.X
