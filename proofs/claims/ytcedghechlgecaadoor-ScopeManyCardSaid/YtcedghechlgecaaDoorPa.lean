/- The grammar with fuel, scripts in memory. No condition: definitions and lemmas. -/
import Derived.Test.YtcedghechlgecaaDoorGc
set_option maxRecDepth 100000
set_option maxHeartbeats 0
set_option linter.unusedVariables false
set_option linter.unusedSimpArgs false
namespace Go.X
section
mutual
inductive au where
 |mk (kind at_ n:Nat) (s:List Nat) (op:Nat) (l:List au) (f:List fm)
inductive fm where
 |mk (params:List (List Nat)) (body:List az)
inductive az where
 |mk (kind at_:Nat) (names:List (List Nat)) (l:List au) (blocks:List (List az))
end
def au.kind:au→Nat
 |.mk k ..=>k
def az.kind:az→Nat
 |.mk k ..=>k
inductive ak(α:Type) where
 |ok (a:α) (i:Nat)
 |err (c i:Nat)
 |bb
def ak.bind{α β:Type}(r:ak α)(f:α→Nat→ak β):ak β:=match r with
 |.ok a i=>f a i
 |.err c i=>.err c i
 |.bb=>.bb
def bW(T:List Tok)(i:Nat):Nat:=match T[i]? with|some t=>t.kind|none=>0
def fM(T:List Tok)(i:Nat):List Nat:=match T[i]? with|some t=>t.text|none=>[]
def ay(T:List Tok)(i:Nat):Nat:=match T[i]? with|some t=>t.pos|none=>0
def Mg(T:List Tok)(i:Nat):Nat:=match T[i]? with|some t=>t.n|none=>0
def isA(T:List Tok)(s:List Nat)(i:Nat):Bool:=(decide (bW T i=1)||decide (bW T i=5))&&decide (fM T i=s)
def aS(T:List Tok)(s:List Nat)(i:Nat):ak Unit:=if isA T s i then .ok () (i+1) else .err 14 i
def ey(T:List Tok)(i:Nat):ak (List Nat):=if bW T i=2 then .ok (fM T i) (i+1) else .err 14 i
def lY(T:List Tok)(i:Nat):Nat→List (List Nat)→Nat
 |_,[]=>0
 |f,s::l=>if isA T s i then f else lY T i (f+1) l
def eP(T:List Tok)(i:Nat):Bool:=isA T [101,110,100] i||(isA T [101,108,115,101] i||(isA T [101,108,115,101,105,102] i||(isA T [117,110,116,105,108] i||decide (bW T i=0))))
def mV(kind op at_:Nat)(a b:au):au:=.mk kind at_ 0 [] op [a,b] []
def dw(T:List Tok)(s:List Nat)(i:Nat):Nat:=if isA T s i then i+1 else i
def tP(T:List Tok)(i:Nat):Nat:=if isA T [110,111,116] i then 11 else if isA T [45] i then 12 else if isA T [35] i then 13 else 0
def tests:List (List Nat):=[[61,61],[126,61],[60],[60,61],[62],[62,61]]
def sums:List (List Nat):=[[43],[45]]
def terms:List (List Nat):=[[42],[47,47],[37]]
def lj(T:List Tok)(i:Nat):Nat:=if isA T [110,105,108] i then 1 else if isA T [116,114,117,101] i then 2 else if isA T [102,97,108,115,101] i then 3 else 0
variable (T:List Tok)
mutual
def bP:Nat→Nat→Nat→ak au
 |0,_,_=>.bb
 |n+1,i,d=>if 100<d+1 then .err 8 i else gd n i (d+1)
def gd:Nat→Nat→Nat→ak au
 |0,_,_=>.bb
 |n+1,i,d=>(jw n i d).bind λe j=>fN n e j d
def fN:Nat→au→Nat→Nat→ak au
 |0,_,_,_=>.bb
 |n+1,e,i,d=>if isA T [111,114] i then (jw n (i+1) d).bind λb j=>fN n (mV 16 0 (ay T i) e b) j d else .ok e i
def jw:Nat→Nat→Nat→ak au
 |0,_,_=>.bb
 |n+1,i,d=>(jx n i d).bind λe j=>iF n e j d
def iF:Nat→au→Nat→Nat→ak au
 |0,_,_,_=>.bb
 |n+1,e,i,d=>if isA T [97,110,100] i then (jx n (i+1) d).bind λb j=>iF n (mV 15 0 (ay T i) e b) j d else .ok e i
def jx:Nat→Nat→Nat→ak au
 |0,_,_=>.bb
 |n+1,i,d=>(gk n i d).bind λe j=>iG n e j d
def iG:Nat→au→Nat→Nat→ak au
 |0,_,_,_=>.bb
 |n+1,e,i,d=>if lY T i 7 tests=0 then .ok e i else (gk n (i+1) d).bind λb j=>iG n (mV 14 (lY T i 7 tests) (ay T i) e b) j d
def gk:Nat→Nat→Nat→ak au
 |0,_,_=>.bb
 |n+1,i,d=>(lO n i d).bind λe j=>if isA T [46,46] j then (if 100<d+1 then .err 8 (j+1) else (gk n (j+1) (d+1)).bind λb k=>.ok (mV 14 6 (ay T j) e b) k) else .ok e j
def lO:Nat→Nat→Nat→ak au
 |0,_,_=>.bb
 |n+1,i,d=>(jy n i d).bind λe j=>jJ n e j d
def jJ:Nat→au→Nat→Nat→ak au
 |0,_,_,_=>.bb
 |n+1,e,i,d=>if lY T i 1 sums=0 then .ok e i else (jy n (i+1) d).bind λb j=>jJ n (mV 14 (lY T i 1 sums) (ay T i) e b) j d
def jy:Nat→Nat→Nat→ak au
 |0,_,_=>.bb
 |n+1,i,d=>(fk n i d).bind λe j=>iH n e j d
def iH:Nat→au→Nat→Nat→ak au
 |0,_,_,_=>.bb
 |n+1,e,i,d=>if lY T i 3 terms=0 then .ok e i else (fk n (i+1) d).bind λb j=>iH n (mV 14 (lY T i 3 terms) (ay T i) e b) j d
def fk:Nat→Nat→Nat→ak au
 |0,_,_=>.bb
 |n+1,i,d=>if tP T i=0 then iI n i d else if 100<d+1 then .err 8 (i+1) else (fk n (i+1) (d+1)).bind λe j=>.ok (.mk (tP T i) (ay T i) 0 [] 0 [e] []) j
def iI:Nat→Nat→Nat→ak au
 |0,_,_=>.bb
 |n+1,i,d=>if bW T i=2∨isA T [40] i=true then (dK n i d).bind λe j=>cF n e j d else dK n i d
def cF:Nat→au→Nat→Nat→ak au
 |0,_,_,_=>.bb
 |n+1,e,i,d=>
  if isA T [46] i then (ey T (i+1)).bind λs j=>cF n (mV 9 0 (ay T i) e (.mk 5 (ay T (i+1)) 0 s 0 [] [])) j d
  else if isA T [91] i then (bP n (i+1) d).bind λk j=>(aS T [93] j).bind λ_ j=>cF n (mV 9 0 (ay T i) e k) j d
  else if isA T [40] i then (dH n true [] (i+1) d).bind λl j=>cF n (.mk 10 (ay T i) 0 [] 0 (e::l) []) j d
  else .ok e i
def dH:Nat→Bool→List au→Nat→Nat→ak (List au)
 |0,_,_,_,_=>.bb
 |n+1,first,out,i,d=>
  if (if first then !isA T [41] i else isA T [44] i) then
   (if out.length=16 then .err 8 (if first then i else i+1) else (bP n (if first then i else i+1) d).bind λe j=>dH n false (out++[e]) j d)
  else (aS T [41] i).bind λ_ j=>.ok out j
def dK:Nat→Nat→Nat→ak au
 |0,_,_=>.bb
 |n+1,i,d=>
  if bW T i=3 then .ok (.mk 4 (ay T i) (Mg T i) [] 0 [] []) (i+1)
  else if bW T i=4 then .ok (.mk 5 (ay T i) 0 (fM T i) 0 [] []) (i+1)
  else if bW T i=2 then .ok (.mk 6 (ay T i) 0 (fM T i) 0 [] []) (i+1)
  else if lj T i≠0 then .ok (.mk (lj T i) (ay T i) 0 [] 0 [] []) (i+1)
  else if isA T [102,117,110,99,116,105,111,110] i then gY n (ay T i) (i+1) d
  else if isA T [123] i then fx n [] 0 (ay T i) (i+1) d
  else if isA T [40] i then (bP n (i+1) d).bind λe j=>(aS T [41] j).bind λ_ j=>.ok e j
  else .err 14 i
def fx:Nat→List au→Nat→Nat→Nat→Nat→ak au
 |0,_,_,_,_,_=>.bb
 |n+1,out,c,a,i,d=>
  if isA T [125] i then .ok (.mk 8 a 0 [] 0 out []) (i+1)
  else if out.length=128 then .err 8 i
  else (ie n c i d).bind λr j=>if isA T [44] j∨isA T [59] j then fx n (out++r.1) r.2 a (j+1) d else (aS T [125] j).bind λ_ k=>.ok (.mk 8 a 0 [] 0 (out++r.1) []) k
def ie:Nat→Nat→Nat→Nat→ak (List au×Nat)
 |0,_,_,_=>.bb
 |n+1,c,i,d=>
  if isA T [91] i then (bP n (i+1) d).bind λk j=>(aS T [93] j).bind λ_ j=>(aS T [61] j).bind λ_ j=>(bP n j d).bind λv j=>.ok ([k,v],c) j
  else if bW T i=2∧bW T (i+1)=5∧fM T (i+1)=[61] then (bP n (i+2) d).bind λv j=>.ok ([.mk 5 (ay T i) 0 (fM T i) 1 [] [],v],c) j
  else (bP n i d).bind λv j=>.ok ([.mk 4 (ay T i) (c+1) [] 1 [] [],v],c+1) j
def gY:Nat→Nat→Nat→Nat→ak au
 |0,_,_,_=>.bb
 |n+1,a,i,d=>(aS T [40] i).bind λ_ j=>(bQ n true [] j).bind λps j=>(cj n j d).bind λb j=>(aS T [101,110,100] j).bind λ_ j=>.ok (.mk 7 a 0 [] 0 [] [.mk ps b]) j
def bQ:Nat→Bool→List (List Nat)→Nat→ak (List (List Nat))
 |0,_,_,_=>.bb
 |n+1,first,out,i=>
  if (if first then !isA T [41] i else isA T [44] i) then
   (if out.length=16 then .err 8 (if first then i else i+1) else (ey T (if first then i else i+1)).bind λs j=>bQ n false (out++[s]) j)
  else (aS T [41] i).bind λ_ j=>.ok out j
def cj:Nat→Nat→Nat→ak (List az)
 |0,_,_=>.bb
 |n+1,i,d=>if 100<d+1 then .err 8 i else bA n [] i (d+1)
def bA:Nat→List az→Nat→Nat→ak (List az)
 |0,_,_,_=>.bb
 |n+1,out,i,d=>
  if eP T i then .ok out i
  else (eW n i d).bind λs j=>if s.kind=10∧eP T (dw T [59] j)=false then .err 14 (dw T [59] j) else bA n (out++[s]) (dw T [59] j) d
def eW:Nat→Nat→Nat→ak az
 |0,_,_=>.bb
 |n+1,i,d=>
  if isA T [108,111,99,97,108] i then gV n (ay T i) (i+1) d
  else if isA T [105,102] i then eS n (ay T i) [] [] (i+1) d
  else if isA T [119,104,105,108,101] i then iJ n (ay T i) (i+1) d
  else if isA T [114,101,112,101,97,116] i then gE n (ay T i) (i+1) d
  else if isA T [102,111,114] i then lP n (ay T i) (i+1) d
  else if isA T [98,114,101,97,107] i then .ok (.mk 9 (ay T i) [] [] []) (i+1)
  else if isA T [100,111] i then oD n (ay T i) (i+1) d
  else if isA T [114,101,116,117,114,110] i then ig n (ay T i) (i+1) d
  else if bW T i=2 then gH n (ay T i) i d
  else .err 14 i
def gV:Nat→Nat→Nat→Nat→ak az
 |0,_,_,_=>.bb
 |n+1,a,i,d=>
  if isA T [102,117,110,99,116,105,111,110] i then (ey T (i+1)).bind λs j=>(gY n (ay T j) j d).bind λb j=>.ok (.mk 12 a [s] [b] []) j
  else (ey T i).bind λs j=>if isA T [61] j then (bP n (j+1) d).bind λe k=>.ok (.mk 1 a [s] [e] []) k else .ok (.mk 1 a [s] [] []) j
def iJ:Nat→Nat→Nat→Nat→ak az
 |0,_,_,_=>.bb
 |n+1,a,i,d=>(bP n i d).bind λe j=>(aS T [100,111] j).bind λ_ j=>(cj n j d).bind λb j=>(aS T [101,110,100] j).bind λ_ j=>.ok (.mk 5 a [] [e] [b]) j
def gE:Nat→Nat→Nat→Nat→ak az
 |0,_,_,_=>.bb
 |n+1,a,i,d=>(cj n i d).bind λb j=>(aS T [117,110,116,105,108] j).bind λ_ j=>(bP n j d).bind λe j=>.ok (.mk 8 a [] [e] [b]) j
def oD:Nat→Nat→Nat→Nat→ak az
 |0,_,_,_=>.bb
 |n+1,a,i,d=>(cj n i d).bind λb j=>(aS T [101,110,100] j).bind λ_ j=>.ok (.mk 11 a [] [] [b]) j
def ig:Nat→Nat→Nat→Nat→ak az
 |0,_,_,_=>.bb
 |n+1,a,i,d=>if isA T [59] i=true∨eP T i=true then .ok (.mk 10 a [] [] []) i else (bP n i d).bind λe j=>.ok (.mk 10 a [] [e] []) j
def gH:Nat→Nat→Nat→Nat→ak az
 |0,_,_,_=>.bb
 |n+1,a,i,d=>(iI n i d).bind λe j=>if e.kind=10 then .ok (.mk 3 a [] [e] []) j else (aS T [61] j).bind λ_ j=>(bP n j d).bind λv j=>.ok (.mk 2 a [] [e,v] []) j
def eS:Nat→Nat→List au→List (List az)→Nat→Nat→ak az
 |0,_,_,_,_,_=>.bb
 |n+1,a,l,bs,i,d=>(bP n i d).bind λe j=>(aS T [116,104,101,110] j).bind λ_ j=>(cj n j d).bind λb j=>
  if isA T [101,108,115,101,105,102] j then eS n a (l++[e]) (bs++[b]) (j+1) d
  else if isA T [101,108,115,101] j then (cj n (j+1) d).bind λb2 j=>(aS T [101,110,100] j).bind λ_ j=>.ok (.mk 4 a [] (l++[e]) (bs++[b]++[b2])) j
  else (aS T [101,110,100] j).bind λ_ j=>.ok (.mk 4 a [] (l++[e]) (bs++[b])) j
def lP:Nat→Nat→Nat→Nat→ak az
 |0,_,_,_=>.bb
 |n+1,a,i,d=>(ey T i).bind λs j=>
  if isA T [44] j then (ey T (j+1)).bind λs2 j=>(aS T [105,110] j).bind λ_ j=>(bP n j d).bind λe j=>cD n 7 a [s,s2] [e] j d
  else (aS T [61] j).bind λ_ j=>(bP n j d).bind λe j=>(aS T [44] j).bind λ_ j=>(bP n j d).bind λe2 j=>
   if isA T [44] j then (bP n (j+1) d).bind λe3 j=>cD n 6 a [s] [e,e2,e3] j d
   else cD n 6 a [s] [e,e2] j d
def cD:Nat→Nat→Nat→List (List Nat)→List au→Nat→Nat→ak az
 |0,_,_,_,_,_,_=>.bb
 |n+1,k,a,ns,l,i,d=>(aS T [100,111] i).bind λ_ j=>(cj n j d).bind λb j=>(aS T [101,110,100] j).bind λ_ j=>.ok (.mk k a ns l [b]) j
end
end
def lQ(T:List Tok):Prop:=0<T.length∧∀i,i<T.length→bW T i≠0→i+1<T.length
def gG(α:Type)(L i:Nat)(r:ak α):Prop:=match r with
 |.ok _ j=>i<j∧j<L
 |.err _ j=>j<L
 |.bb=>False
def gW(α:Type)(L i:Nat)(r:ak α):Prop:=match r with
 |.ok _ j=>i≤j∧j<L
 |.err _ j=>j<L
 |.bb=>False
section
variable {T:List Tok}{α β:Type}{L i:Nat}
theorem gG.w{r:ak α}(h:gG α L i r):gW α L i r:=by
 cases r with
 |ok a j=>exact⟨Nat.le_of_lt h.1,h.2⟩
 |err c j=>exact h
 |bb=>exact h
theorem gG.lo{r:ak α}{i':Nat}(h:gG α L i r)(hi:i'≤i):gG α L i' r:=by
 cases r with
 |ok a j=>exact⟨Nat.lt_of_le_of_lt hi h.1,h.2⟩
 |err c j=>exact h
 |bb=>exact h
theorem gW.lo{r:ak α}{i':Nat}(h:gW α L i r)(hi:i'≤i):gW α L i' r:=by
 cases r with
 |ok a j=>exact⟨Nat.le_trans hi h.1,h.2⟩
 |err c j=>exact h
 |bb=>exact h
theorem gW.lt{r:ak α}{i':Nat}(h:gW α L i r)(hi:i'<i):gG α L i' r:=by
 cases r with
 |ok a j=>exact⟨Nat.lt_of_lt_of_le hi h.1,h.2⟩
 |err c j=>exact h
 |bb=>exact h
theorem gG.bind{r:ak α}{f:α→Nat→ak β}(h:gG α L i r)(hf:∀a j,i<j→j<L→gW β L j (f a j)):gG β L i (r.bind f):=by
 cases r with
 |ok a j=>exact(hf a j h.1 h.2).lt h.1
 |err c j=>exact h
 |bb=>exact h
theorem gW.bind{r:ak α}{f:α→Nat→ak β}(h:gW α L i r)(hf:∀a j,i≤j→j<L→gW β L j (f a j)):gW β L i (r.bind f):=by
 cases r with
 |ok a j=>exact(hf a j h.1 h.2).lo h.1
 |err c j=>exact h
 |bb=>exact h
theorem gW.afX{r:ak α}{f:α→Nat→ak β}(h:gW α L i r)(hf:∀a j,i≤j→j<L→gG β L j (f a j)):gG β L i (r.bind f):=by
 cases r with
 |ok a j=>exact(hf a j h.1 h.2).lo h.1
 |err c j=>exact h
 |bb=>exact h
theorem Ow(h:bW T i≠0):i<T.length:=by
 unfold bW at h;rcases Nat.lt_or_ge i T.length with g|g
 ·exact g
 ·rw[List.getElem?_eq_none g]at h;exact absurd rfl h
theorem ad9{s:List Nat}(h:isA T s i=true):bW T i=1∨bW T i=5:=by
 unfold isA at h;rw[Bool.and_eq_true,Bool.or_eq_true]at h;rcases h.1 with g|g
 ·exact .inl (of_decide_eq_true g)
 ·exact .inr (of_decide_eq_true g)
theorem df(hT:lQ T){s:List Nat}(h:isA T s i=true):i+1<T.length:=by
 have hk:bW T i≠0:=by
  rcases ad9 h with g|g<;>omega
 exact hT.2 i (Ow hk) hk
theorem kT(hT:lQ T)(h:bW T i≠0):i+1<T.length:=hT.2 i (Ow h) h
theorem ga(hT:lQ T){s:List Nat}(hi:i<T.length):gG Unit T.length i (aS T s i):=by
 unfold aS;split
 ·rename_i h;exact⟨by omega,df hT h⟩
 ·exact hi
theorem sP(hT:lQ T)(hi:i<T.length):gG (List Nat) T.length i (ey T i):=by
 unfold ey;split
 ·rename_i h;exact⟨by omega,kT hT (by omega)⟩
 ·exact hi
theorem Hx(hT:lQ T):∀(l:List (List Nat)) (f:Nat),lY T i f l≠0→i+1<T.length
 |[],f,h=>absurd rfl h
 |s::l,f,h=>by
  unfold lY at h;split at h
  ·rename_i g;exact df hT g
  ·exact Hx hT l _ h
theorem ao9(hT:lQ T)(h:tP T i≠0):i+1<T.length:=by
 unfold tP at h;split at h
 ·rename_i g;exact df hT g
 split at h
 ·rename_i g;exact df hT g
 split at h
 ·rename_i g;exact df hT g
 ·exact absurd rfl h
theorem ahF(hT:lQ T)(h:lj T i≠0):i+1<T.length:=by
 unfold lj at h;split at h
 ·rename_i g;exact df hT g
 split at h
 ·rename_i g;exact df hT g
 split at h
 ·rename_i g;exact df hT g
 ·exact absurd rfl h
theorem anf(hT:lQ T){s:List Nat}(hi:i<T.length):i≤dw T s i∧dw T s i<T.length:=by
 unfold dw;split
 ·rename_i g;exact⟨by omega,df hT g⟩
 ·exact⟨Nat.le_refl _,hi⟩
theorem lZ{a:α}(h:i<L):gW α L i (.ok a i):=⟨Nat.le_refl _,h⟩
structure Fu(T:List Tok)(n:Nat):Prop where
 exp:∀i d,i<T.length→64*(T.length-i)+20≤n→gG _ T.length i (bP T n i d)
 either:∀i d,i<T.length→64*(T.length-i)+19≤n→gG _ T.length i (gd T n i d)
 bZ:∀e i d,i<T.length→64*(T.length-i)+1≤n→gW _ T.length i (fN T n e i d)
 both:∀i d,i<T.length→64*(T.length-i)+18≤n→gG _ T.length i (jw T n i d)
 dB:∀e i d,i<T.length→64*(T.length-i)+1≤n→gW _ T.length i (iF T n e i d)
 test:∀i d,i<T.length→64*(T.length-i)+17≤n→gG _ T.length i (jx T n i d)
 dC:∀e i d,i<T.length→64*(T.length-i)+1≤n→gW _ T.length i (iG T n e i d)
 join:∀i d,i<T.length→64*(T.length-i)+16≤n→gG _ T.length i (gk T n i d)
 sum:∀i d,i<T.length→64*(T.length-i)+15≤n→gG _ T.length i (lO T n i d)
 fe:∀e i d,i<T.length→64*(T.length-i)+1≤n→gW _ T.length i (jJ T n e i d)
 term:∀i d,i<T.length→64*(T.length-i)+14≤n→gG _ T.length i (jy T n i d)
 dD:∀e i d,i<T.length→64*(T.length-i)+1≤n→gW _ T.length i (iH T n e i d)
 unary:∀i d,i<T.length→64*(T.length-i)+13≤n→gG _ T.length i (fk T n i d)
 post:∀i d,i<T.length→64*(T.length-i)+12≤n→gG _ T.length i (iI T n i d)
 dj:∀e i d,i<T.length→64*(T.length-i)+1≤n→gW _ T.length i (cF T n e i d)
 Hy:∀f o i d,i<T.length→64*(T.length-i)+30≤n→gG _ T.length i (dH T n f o i d)
 simple:∀i d,i<T.length→64*(T.length-i)+11≤n→gG _ T.length i (dK T n i d)
 Mh:∀o c a i d,i<T.length→64*(T.length-i)+40≤n→gG _ T.length i (fx T n o c a i d)
 field:∀c i d,i<T.length→64*(T.length-i)+35≤n→gG _ T.length i (ie T n c i d)
 body:∀a i d,i<T.length→64*(T.length-i)+10≤n→gG _ T.length i (gY T n a i d)
 zg:∀f o i,i<T.length→64*(T.length-i)+5≤n→gG _ T.length i (bQ T n f o i)
 block:∀i d,i<T.length→64*(T.length-i)+50≤n→gW _ T.length i (cj T n i d)
 cH:∀o i d,i<T.length→64*(T.length-i)+49≤n→gW _ T.length i (bA T n o i d)
 stat:∀i d,i<T.length→64*(T.length-i)+45≤n→gG _ T.length i (eW T n i d)
 FH:∀a l b i d,i<T.length→64*(T.length-i)+25≤n→gG _ T.length i (eS T n a l b i d)
 for_:∀a i d,i<T.length→64*(T.length-i)+5≤n→gG _ T.length i (lP T n a i d)
 cJ:∀k a ns l i d,i<T.length→64*(T.length-i)+5≤n→gG _ T.length i (cD T n k a ns l i d)
 cV:∀a i d,i<T.length→64*(T.length-i)+30≤n→gG _ T.length i (gV T n a i d)
 cW:∀a i d,i<T.length→64*(T.length-i)+30≤n→gG _ T.length i (iJ T n a i d)
 cn:∀a i d,i<T.length→64*(T.length-i)+60≤n→gG _ T.length i (gE T n a i d)
 do_:∀a i d,i<T.length→64*(T.length-i)+60≤n→gG _ T.length i (oD T n a i d)
 cq:∀a i d,i<T.length→64*(T.length-i)+30≤n→gW _ T.length i (ig T n a i d)
 plain:∀a i d,i<T.length→64*(T.length-i)+30≤n→gG _ T.length i (gH T n a i d)
theorem ahG(hT:lQ T){n:Nat}(F:Fu T n):Fu T (n+1) where
 exp i d hi hn:=by
  simp only[bP];split
  ·exact hi
  ·exact F.either i _ hi (by omega)
 either i d hi hn:=by
  simp only[gd];exact(F.both i d hi (by omega)).bind λe j h1 h2=>F.bZ e j d h2 (by omega)
 bZ e i d hi hn:=by
  simp only[fN];split
  ·rename_i h;have:=df hT h;exact(((F.both (i+1) d this (by omega)).bind λb j h1 h2=>F.bZ _ j d h2 (by omega)).lo (by omega)).w
  ·exact⟨Nat.le_refl _,hi⟩
 both i d hi hn:=by
  simp only[jw];exact(F.test i d hi (by omega)).bind λe j h1 h2=>F.dB e j d h2 (by omega)
 dB e i d hi hn:=by
  simp only[iF];split
  ·rename_i h;have:=df hT h;exact(((F.test (i+1) d this (by omega)).bind λb j h1 h2=>F.dB _ j d h2 (by omega)).lo (by omega)).w
  ·exact⟨Nat.le_refl _,hi⟩
 test i d hi hn:=by
  simp only[jx];exact(F.join i d hi (by omega)).bind λe j h1 h2=>F.dC e j d h2 (by omega)
 dC e i d hi hn:=by
  simp only[iG];split
  ·exact⟨Nat.le_refl _,hi⟩
  ·rename_i h;have:=Hx hT _ _ h;exact(((F.join (i+1) d this (by omega)).bind λb j h1 h2=>F.dC _ j d h2 (by omega)).lo (by omega)).w
 join i d hi hn:=by
  simp only[gk];refine(F.sum i d hi (by omega)).bind λe j h1 h2=>?_;split
  ·rename_i h;have:=df hT h;split
   ·exact this
   ·exact(((F.join (j+1) _ this (by omega)).bind λb k h3 h4=>lZ h4).lo (by omega)).w
  ·exact⟨Nat.le_refl _,h2⟩
 sum i d hi hn:=by
  simp only[lO];exact(F.term i d hi (by omega)).bind λe j h1 h2=>F.fe e j d h2 (by omega)
 fe e i d hi hn:=by
  simp only[jJ];split
  ·exact⟨Nat.le_refl _,hi⟩
  ·rename_i h;have:=Hx hT _ _ h;exact(((F.term (i+1) d this (by omega)).bind λb j h1 h2=>F.fe _ j d h2 (by omega)).lo (by omega)).w
 term i d hi hn:=by
  simp only[jy];exact(F.unary i d hi (by omega)).bind λe j h1 h2=>F.dD e j d h2 (by omega)
 dD e i d hi hn:=by
  simp only[iH];split
  ·exact⟨Nat.le_refl _,hi⟩
  ·rename_i h;have:=Hx hT _ _ h;exact(((F.unary (i+1) d this (by omega)).bind λb j h1 h2=>F.dD _ j d h2 (by omega)).lo (by omega)).w
 unary i d hi hn:=by
  simp only[fk];split
  ·exact F.post i d hi (by omega)
  ·rename_i h;have:=ao9 hT h;split
   ·exact this
   ·exact((F.unary (i+1) _ this (by omega)).bind λe j h1 h2=>lZ h2).lo (by omega)
 post i d hi hn:=by
  simp only[iI];split
  ·exact(F.simple i d hi (by omega)).bind λe j h1 h2=>F.dj e j d h2 (by omega)
  ·exact F.simple i d hi (by omega)
 dj e i d hi hn:=by
  simp only[cF];split
  ·rename_i h;have:=df hT h;exact(((sP hT this).bind λs j h1 h2=>F.dj _ j d h2 (by omega)).lo (by omega)).w
  split
  ·rename_i h;have:=df hT h;exact(((F.exp (i+1) d this (by omega)).bind λk j h1 h2=>((ga hT h2).bind λ_ j' h3 h4=>F.dj _ j' d h4 (by omega)).w).lo (by omega)).w
  split
  ·rename_i h;have:=df hT h;exact(((F.Hy _ _ (i+1) d this (by omega)).bind λl j h1 h2=>F.dj _ j d h2 (by omega)).lo (by omega)).w
  ·exact⟨Nat.le_refl _,hi⟩
 Hy f o i d hi hn:=by
  simp only[dH];cases f with
  |true=>
   simp only[if_true];split
   ·split
    ·exact hi
    ·exact(F.exp i d hi (by omega)).bind λe j h3 h4=>(F.Hy _ _ j d h4 (by omega)).w
   ·exact(ga hT hi).bind λ_ j h1 h2=>lZ h2
  |false=>
   simp only[Bool.false_eq_true,if_false];split
   ·rename_i h;have g1:=df hT h;split
    ·exact g1
    ·exact((F.exp (i+1) d g1 (by omega)).bind λe j h3 h4=>(F.Hy _ _ j d h4 (by omega)).w).lo (by omega)
   ·exact(ga hT hi).bind λ_ j h1 h2=>lZ h2
 simple i d hi hn:=by
  simp only[dK];split
  ·exact⟨by omega,kT hT (by omega)⟩
  split
  ·exact⟨by omega,kT hT (by omega)⟩
  split
  ·exact⟨by omega,kT hT (by omega)⟩
  split
  ·rename_i h;exact⟨by omega,ahF hT h⟩
  split
  ·rename_i h;have:=df hT h;exact(F.body _ (i+1) d this (by omega)).lo (by omega)
  split
  ·rename_i h;have:=df hT h;exact(F.Mh _ _ _ (i+1) d this (by omega)).lo (by omega)
  split
  ·rename_i h;have:=df hT h;exact((F.exp (i+1) d this (by omega)).bind λe j h1 h2=>((ga hT h2).bind λ_ j h3 h4=>lZ h4).w).lo (by omega)
  ·exact hi
 Mh o c a i d hi hn:=by
  simp only[fx];split
  ·rename_i h;exact⟨by omega,df hT h⟩
  split
  ·exact hi
  ·refine(F.field c i d hi (by omega)).bind λr j h1 h2=>?_;split
   ·rename_i h;have:j+1<T.length:=by
     rcases h with h|h<;>exact df hT h
    exact((F.Mh _ _ _ (j+1) d this (by omega)).lo (by omega)).w
   ·exact((ga hT h2).bind λ_ j h3 h4=>lZ h4).w
 field c i d hi hn:=by
  simp only[ie];split
  ·rename_i h;have:=df hT h;exact((F.exp (i+1) d this (by omega)).bind λk j h1 h2=>((ga hT h2).bind λ_ j h3 h4=>((ga hT h4).bind λ_ j h5 h6=>((F.exp j d h6 (by omega)).bind λv j h7 h8=>lZ h8).w).w).w).lo (by omega)
  split
  ·rename_i h;have h1:i+2<T.length:=kT (i:=i+1) hT (by omega);exact((F.exp (i+2) d h1 (by omega)).bind λv j h3 h4=>lZ h4).lo (by omega)
  ·exact(F.exp i d hi (by omega)).bind λv j h3 h4=>lZ h4
 body a i d hi hn:=by
  simp only[gY];exact(ga hT hi).bind λ_ j h1 h2=>((F.zg _ _ j h2 (by omega)).bind λps j h3 h4=>((F.block j d h4 (by omega)).bind λb j h5 h6=>((ga hT h6).bind λ_ j h7 h8=>lZ h8).w)).w
 zg f o i hi hn:=by
  simp only[bQ];cases f with
  |true=>
   simp only[if_true];split
   ·split
    ·exact hi
    ·exact(sP hT hi).bind λe j h3 h4=>(F.zg _ _ j h4 (by omega)).w
   ·exact(ga hT hi).bind λ_ j h1 h2=>lZ h2
  |false=>
   simp only[Bool.false_eq_true,if_false];split
   ·rename_i h;have g1:=df hT h;split
    ·exact g1
    ·exact((sP hT g1).bind λe j h3 h4=>(F.zg _ _ j h4 (by omega)).w).lo (by omega)
   ·exact(ga hT hi).bind λ_ j h1 h2=>lZ h2
 block i d hi hn:=by
  simp only[cj];split
  ·exact hi
  ·exact F.cH _ i _ hi (by omega)
 cH o i d hi hn:=by
  simp only[bA];split
  ·exact⟨Nat.le_refl _,hi⟩
  ·refine((F.stat i d hi (by omega)).bind λs j h1 h2=>?_).w;obtain⟨h3,h4⟩:=anf hT (s:=[59]) h2;split
   ·exact h4
   ·exact(F.cH _ _ d h4 (by omega)).lo h3
 stat i d hi hn:=by
  simp only[eW];split
  ·rename_i h;have g1:=df hT h;exact(F.cV _ (i+1) d g1 (by omega)).lo (by omega)
  split
  ·rename_i h;have g1:=df hT h;exact(F.FH _ _ _ (i+1) d g1 (by omega)).lo (by omega)
  split
  ·rename_i h;have g1:=df hT h;exact(F.cW _ (i+1) d g1 (by omega)).lo (by omega)
  split
  ·rename_i h;have g1:=df hT h;exact(F.cn _ (i+1) d g1 (by omega)).lo (by omega)
  split
  ·rename_i h;have g1:=df hT h;exact(F.for_ _ (i+1) d g1 (by omega)).lo (by omega)
  split
  ·rename_i h;exact⟨by omega,df hT h⟩
  split
  ·rename_i h;have g1:=df hT h;exact(F.do_ _ (i+1) d g1 (by omega)).lo (by omega)
  split
  ·rename_i h;have g1:=df hT h;exact(F.cq _ (i+1) d g1 (by omega)).lt (by omega)
  split
  ·exact F.plain _ i d hi (by omega)
  ·exact hi
 cV a i d hi hn:=by
  simp only[gV];split
  ·rename_i h;have g2:=df hT h;exact((sP hT g2).bind λs j h1 h2=>((F.body _ j d h2 (by omega)).bind λb j h3 h4=>lZ h4).w).lo (by omega)
  ·refine(sP hT hi).bind λs j h1 h2=>?_;split
   ·rename_i h;have g2:=df hT h;exact((F.exp (j+1) d g2 (by omega)).bind λe k h3 h4=>lZ h4).w.lo (by omega)
   ·exact lZ h2
 cW a i d hi hn:=by
  simp only[iJ];exact(F.exp i d hi (by omega)).bind λe j h1 h2=>((ga hT h2).bind λ_ j h3 h4=>(F.block j d h4 (by omega)).bind λb j h5 h6=>((ga hT h6).bind λ_ j h7 h8=>lZ h8).w).w
 cn a i d hi hn:=by
  simp only[gE];exact(F.block i d hi (by omega)).afX λb j h1 h2=>(ga hT h2).bind λ_ j h3 h4=>((F.exp j d h4 (by omega)).bind λe j h5 h6=>lZ h6).w
 do_ a i d hi hn:=by
  simp only[oD];exact(F.block i d hi (by omega)).afX λb j h1 h2=>(ga hT h2).bind λ_ j h3 h4=>lZ h4
 cq a i d hi hn:=by
  simp only[ig];split
  ·exact lZ hi
  ·exact((F.exp i d hi (by omega)).bind λe j h1 h2=>lZ h2).w
 plain a i d hi hn:=by
  simp only[gH];refine(F.post i d hi (by omega)).bind λe j h1 h2=>?_;split
  ·exact lZ h2
  ·exact((ga hT h2).bind λ_ j h3 h4=>((F.exp j d h4 (by omega)).bind λv j h5 h6=>lZ h6).w).w
 FH a l b i d hi hn:=by
  simp only[eS];refine(F.exp i d hi (by omega)).bind λe j h1 h2=>((ga hT h2).bind λ_ j h3 h4=>(F.block j d h4 (by omega)).bind λb j h5 h6=>?_).w;split
  ·rename_i h;have g1:=df hT h;exact((F.FH _ _ _ (j+1) d g1 (by omega)).lo (by omega)).w
  split
  ·rename_i h;have g1:=df hT h;exact((F.block (j+1) d g1 (by omega)).bind λb2 j h1 h2=>((ga hT h2).bind λ_ j h3 h4=>lZ h4).w).lo (by omega)
  ·exact((ga hT h6).bind λ_ j h3 h4=>lZ h4).w
 for_ a i d hi hn:=by
  simp only[lP];refine(sP hT hi).bind λs j h1 h2=>?_;split
  ·rename_i h;have g1:=df hT h;exact(((sP hT g1).bind λs2 j h3 h4=>((ga hT h4).bind λ_ j h5 h6=>((F.exp j d h6 (by omega)).bind λe j h7 h8=>(F.cJ _ _ _ _ j d h8 (by omega)).w).w).w).lo (by omega)).w
  ·refine((ga hT h2).bind λ_ j h3 h4=>((F.exp j d h4 (by omega)).bind λe j h5 h6=>((ga hT h6).bind λ_ j h7 h8=>((F.exp j d h8 (by omega)).bind λe2 j h9 h10=>?_).w).w).w).w;split
   ·rename_i h;have g1:=df hT h;exact(((F.exp (j+1) d g1 (by omega)).bind λe3 j h11 h12=>(F.cJ _ _ _ _ j d h12 (by omega)).w).lo (by omega)).w
   ·exact(F.cJ _ _ _ _ j d h10 (by omega)).w
 cJ k a ns l i d hi hn:=by
  simp only[cD];exact(ga hT hi).bind λ_ j h3 h4=>(F.block j d h4 (by omega)).bind λb j h5 h6=>((ga hT h6).bind λ_ j h7 h8=>lZ h8).w
theorem Mi(hT:lQ T):∀n,Fu T n
 |0=>by constructor<;>intros<;>omega
 |n+1=>ahG hT (Mi hT n)
end
section
variable {H:AH}{S S':LS}
def dZ(S:LS)(Q:Nat→Prop)(sz:Nat)(v:AV)(n:Nat)(cl:Nat→List AV):Prop:=(v=.ab∧n=0)∨∃b o c ex cs m,v=.slice b o n c sz ex∧Q b∧S.ob b=.ce cs m∧n≤c∧o+n*sz≤cs.length∧∀i,i<n→(cs.drop (o+i*sz)).take sz=cl i
theorem dZ.nil(S:LS)(Q:Nat→Prop)(sz:Nat)(cl:Nat→List AV):dZ S Q sz .ab 0 cl:=.inl ⟨rfl,rfl⟩
theorem dZ.go{Q Q':Nat→Prop}{sz n:Nat}{v:AV}{cl:Nat→List AV}(h:dZ S Q sz v n cl)(hk:∀b,Q b→S'.ob b=S.ob b)(h1:∀b,Q b→Q' b):dZ S' Q' sz v n cl:=by
 rcases h with h|⟨b,o,c,ex,cs,m,e1,h2,h4,h5⟩
 ·exact .inl h
 ·exact .inr ⟨b,o,c,ex,cs,m,e1,h1 b h2,(hk b h2).trans h4,h5⟩
theorem dZ.len{Q:Nat→Prop}{sz n:Nat}{v:AV}{cl:Nat→List AV}{k:AV→Prop}(h:dZ S Q sz v n cl)(hk:k (.int 0 n)):bN v k:=by
 rcases h with⟨rfl,rfl⟩|⟨b,o,c,ex,cs,m,rfl,_⟩
 ·exact hk
 ·exact hk
theorem dZ.one{Q:Nat→Prop}{sz n:Nat}{v:AV}{cl:Nat→List AV}(h:dZ S Q sz v n cl):v.one=true:=by
 rcases h with⟨rfl,rfl⟩|⟨b,o,c,ex,cs,m,rfl,_⟩<;>rfl
theorem dZ.same{Q:Nat→Prop}{sz n:Nat}{v:AV}{cl:Nat→List AV}(h:dZ S Q sz v n cl):bj v v=true:=by
 rcases h with⟨rfl,rfl⟩|⟨b,o,c,ex,cs,m,rfl,_⟩
 ·rfl
 ·simp[bj]
theorem dZ.load{Q:Nat→Prop}{sz n:Nat}{v:AV}{cl:Nat→List AV}{i q:Nat}{k:AV→Prop}(h:dZ S Q sz v n cl)(hM:Mem H S)(hi':i<n)(hk:k (.agg (cl i))):bf sz v (.int q i) λp=>aN sz p H k:=by
 rcases h with⟨rfl,rfl⟩|⟨b,o,c,ex,cs,m,rfl,h1,h3,h4,h5,h6⟩
 ·omega
 ·refine mN (by omega) (by omega) ?_;rw[Int.toNat_natCast];have hle:(i+1)*sz≤n*sz:=Nat.mul_le_mul_right _ (by omega);rw[Nat.add_mul,Nat.one_mul]at hle;refine wD hM h3 (by omega) ?_;rw[h6 i hi'];exact hk
theorem dZ.names{Q:Nat→Prop}{b m:Nat}{l:List (List Nat)}{ex:Bool}(hQ:Q b)(hb:S.ob b=.ce (l.map ai) m):dZ S Q 1 (.slice b 0 l.length l.length 1 ex) l.length (λj=>[ai (l[j]?.getD [])]):=
 .inr ⟨b,0,l.length,ex,l.map ai,m,rfl,hQ,hb,Nat.le_refl _,by rw[List.length_map];omega,λj hj=>by
  show((l.map ai).drop (0+j*1)).take 1=[ai (l[j]?.getD [])];rw[Nat.zero_add,Nat.mul_one,List.drop_eq_getElem_cons (by rw[List.length_map];exact hj),List.getElem?_eq_getElem hj,Option.getD_some,List.getElem_map];rfl⟩
def kK(S:LS)(Q:Nat→Prop)(v:AV)(l:List (List Nat)):Prop:=dZ S Q 1 v l.length (λi=>[ai (l[i]?.getD [])])∧∀t∈l,B8 t
mutual
inductive RE(S:LS)(Q:Nat→Prop):List AV→au→Prop
 |mk (kind at_ n:Nat) (s:List Nat) (op:Nat) (l:List au) (f:List fm) (vl vf:AV) (cl cf:Nat→List AV):B8 s→dZ S Q 7 vl l.length cl→(∀i e,l[i]? = some e→RE S Q (cl i) e)→dZ S Q 2 vf f.length cf→(∀i e,f[i]? = some e→RF S Q (cf i) e)→
   RE S Q [.int 0 kind,.int 0 at_,.int 0 n,ai s,.int 0 op,vl,vf] (.mk kind at_ n s op l f)
inductive RF(S:LS)(Q:Nat→Prop):List AV→fm→Prop
 |mk (ps:List (List Nat)) (body:List az) (vp vb:AV) (cb:Nat→List AV):kK S Q vp ps→dZ S Q 5 vb body.length cb→(∀i e,body[i]? = some e→iz S Q (cb i) e)→RF S Q [vp,vb] (.mk ps body)
inductive iz(S:LS)(Q:Nat→Prop):List AV→az→Prop
 |mk (kind at_:Nat) (names:List (List Nat)) (l:List au) (bs:List (List az)) (vn vl vb:AV) (cl:Nat→List AV) (bv:Nat→AV) (bc:Nat→Nat→List AV):kK S Q vn names→dZ S Q 7 vl l.length cl→(∀i e,l[i]? = some e→RE S Q (cl i) e)→
   dZ S Q 1 vb bs.length (λi=>[bv i])→(∀i b,bs[i]? = some b→dZ S Q 5 (bv i) b.length (bc i))→(∀i b j s,bs[i]? = some b→b[j]? = some s→iz S Q (bc i j) s)→
   iz S Q [.int 0 kind,.int 0 at_,vn,vl,vb] (.mk kind at_ names l bs)
end
section
variable {Q Q':Nat→Prop}
theorem RE.go(hk:∀b,Q b→S'.ob b=S.ob b)(h1:∀b,Q b→Q' b){c:List AV}{e:au}(h:RE S Q c e):RE S' Q' c e:=
 RE.rec (motive_1:=λc e _=>RE S' Q' c e) (motive_2:=λc e _=>RF S' Q' c e) (motive_3:=λc e _=>iz S' Q' c e)
  (λkind at_ n s op l f vl vf cl cf g1 g2 _ g4 _ ih1 ih2=>.mk kind at_ n s op l f vl vf cl cf g1 (g2.go hk h1) ih1 (g4.go hk h1) ih2)
  (λps body vp vb cb g1 g2 _ ih=>.mk ps body vp vb cb ⟨g1.1.go hk h1,g1.2⟩ (g2.go hk h1) ih)
  (λkind at_ names l bs vn vl vb cl bv bc g1 g2 _ g4 g5 _ ih1 ih2=>.mk kind at_ names l bs vn vl vb cl bv bc ⟨g1.1.go hk h1,g1.2⟩ (g2.go hk h1) ih1 (g4.go hk h1) (λi b hb=>(g5 i b hb).go hk h1) ih2) h
theorem RF.go(hk:∀b,Q b→S'.ob b=S.ob b)(h1:∀b,Q b→Q' b){c:List AV}{e:fm}(h:RF S Q c e):RF S' Q' c e:=
 RF.rec (motive_1:=λc e _=>RE S' Q' c e) (motive_2:=λc e _=>RF S' Q' c e) (motive_3:=λc e _=>iz S' Q' c e)
  (λkind at_ n s op l f vl vf cl cf g1 g2 _ g4 _ ih1 ih2=>.mk kind at_ n s op l f vl vf cl cf g1 (g2.go hk h1) ih1 (g4.go hk h1) ih2)
  (λps body vp vb cb g1 g2 _ ih=>.mk ps body vp vb cb ⟨g1.1.go hk h1,g1.2⟩ (g2.go hk h1) ih)
  (λkind at_ names l bs vn vl vb cl bv bc g1 g2 _ g4 g5 _ ih1 ih2=>.mk kind at_ names l bs vn vl vb cl bv bc ⟨g1.1.go hk h1,g1.2⟩ (g2.go hk h1) ih1 (g4.go hk h1) (λi b hb=>(g5 i b hb).go hk h1) ih2) h
theorem iz.go(hk:∀b,Q b→S'.ob b=S.ob b)(h1:∀b,Q b→Q' b){c:List AV}{e:az}(h:iz S Q c e):iz S' Q' c e:=
 iz.rec (motive_1:=λc e _=>RE S' Q' c e) (motive_2:=λc e _=>RF S' Q' c e) (motive_3:=λc e _=>iz S' Q' c e)
  (λkind at_ n s op l f vl vf cl cf g1 g2 _ g4 _ ih1 ih2=>.mk kind at_ n s op l f vl vf cl cf g1 (g2.go hk h1) ih1 (g4.go hk h1) ih2)
  (λps body vp vb cb g1 g2 _ ih=>.mk ps body vp vb cb ⟨g1.1.go hk h1,g1.2⟩ (g2.go hk h1) ih)
  (λkind at_ names l bs vn vl vb cl bv bc g1 g2 _ g4 g5 _ ih1 ih2=>.mk kind at_ names l bs vn vl vb cl bv bc ⟨g1.1.go hk h1,g1.2⟩ (g2.go hk h1) ih1 (g4.go hk h1) (λi b hb=>(g5 i b hb).go hk h1) ih2) h
theorem RE.len{c:List AV}{e:au}(h:RE S Q c e):c.length=7:=by cases h;rfl
theorem RF.len{c:List AV}{e:fm}(h:RF S Q c e):c.length=2:=by cases h;rfl
theorem iz.len{c:List AV}{e:az}(h:iz S Q c e):c.length=5:=by cases h;rfl
theorem kK.one{v:AV}{l:List (List Nat)}(h:kK S Q v l):v.one=true:=h.1.one
theorem RE.ones{c:List AV}{e:au}(h:RE S Q c e):∀a∈c,a.one=true:=by
 cases h with
 |mk kind at_ n s op l f vl vf cl cf g1 g2 _ g4 _=>
  intro a ha;simp only[List.mem_cons,List.not_mem_nil,or_false]at ha;rcases ha with rfl|rfl|rfl|rfl|rfl|rfl|rfl<;>first|rfl|exact g2.one|exact g4.one
theorem RF.ones{c:List AV}{e:fm}(h:RF S Q c e):∀a∈c,a.one=true:=by
 cases h with
 |mk ps body vp vb cb g1 g2 _=>
  intro a ha;simp only[List.mem_cons,List.not_mem_nil,or_false]at ha;rcases ha with rfl|rfl
  ·exact g1.one
  ·exact g2.one
theorem iz.ones{c:List AV}{e:az}(h:iz S Q c e):∀a∈c,a.one=true:=by
 cases h with
 |mk kind at_ names l bs vn vl vb cl bv bc g1 g2 _ g4 _ _=>
  intro a ha;simp only[List.mem_cons,List.not_mem_nil,or_false]at ha;rcases ha with rfl|rfl|rfl|rfl|rfl<;>first|rfl|exact g1.one|exact g2.one|exact g4.one
theorem Mj{c:List AV}(h:∀a∈c,bj a a=true):bj (.agg c) (.agg c)=true:=zG h
theorem RE.same{c:List AV}{e:au}(h:RE S Q c e):bj (.agg c) (.agg c)=true:=by
 cases h with
 |mk kind at_ n s op l f vl vf cl cf g1 g2 _ g4 _=>
  refine Mj λa ha=>?_;simp only[List.mem_cons,List.not_mem_nil,or_false]at ha;rcases ha with rfl|rfl|rfl|rfl|rfl|rfl|rfl<;>first|exact wE _ _|exact Qd _ _|exact g2.same|exact g4.same
end
structure Rep(α:Type) where
 rel:LS→(Nat→Prop)→List AV→α→Prop
 sz:Nat
 pos:0<sz
 go:∀{S S':LS}{Q Q':Nat→Prop}{c:List AV}{a:α},(∀b,Q b→S'.ob b=S.ob b)→(∀b,Q b→Q' b)→rel S Q c a→rel S' Q' c a
 len:∀{S:LS}{Q:Nat→Prop}{c:List AV}{a:α},rel S Q c a→c.length=sz
 ones:∀{S:LS}{Q:Nat→Prop}{c:List AV}{a:α},rel S Q c a→∀x∈c,x.one=true
def km:Rep au:=⟨RE,7,by omega,λh1 h2 h=>RE.go h1 h2 h,λh=>h.len,λh=>h.ones⟩
def aqk:Rep fm:=⟨RF,2,by omega,λh1 h2 h=>RF.go h1 h2 h,λh=>h.len,λh=>h.ones⟩
def mo:Rep az:=⟨iz,5,by omega,λh1 h2 h=>iz.go h1 h2 h,λh=>h.len,λh=>h.ones⟩
def uh:Rep (List Nat):=⟨λ_ _ c t=>c=[ai t]∧B8 t,1,by omega,λ_ _ h=>h,λh=>by rw[h.1];rfl,λh x hx=>by rw[h.1]at hx;simp at hx;subst hx;rfl⟩
def sQ:Rep (List az):=⟨λS Q c b=>∃v bc,c=[v]∧dZ S Q 5 v b.length bc∧∀j s,b[j]? = some s→iz S Q (bc j) s,1,by omega,
 λhk h1 ⟨v,bc,e,g1,g2⟩=>⟨v,bc,e,g1.go hk h1,λj s hs=>(g2 j s hs).go hk h1⟩,λ⟨v,bc,e,_⟩=>by rw[e];rfl,λ⟨v,bc,e,g1,_⟩ x hx=>by rw[e]at hx;simp at hx;subst hx;exact g1.one⟩
def jd(lo hi:Nat):Nat→Prop:=λb=>lo≤b∧b<hi
def iU{α:Type}(R:Rep α)(lo:Nat)(S:LS)(v:AV)(l:List α):Prop:=∃cl:List (List AV),fj S R.sz v l.length cl.flatten∧cl.length=l.length∧(∀b,aj v b→lo≤b)∧
 ∀(i:Nat) (c:List AV) (a:α),cl[i]? = some c→l[i]? = some a→∃Q,R.rel S Q c a∧∀b,Q b→lo≤b∧b<S.n∧¬aj v b
section
variable {α:Type}{R:Rep α}{lo:Nat}{v:AV}{l:List α}
theorem iU.nil(R:Rep α)(lo:Nat)(S:LS):iU R lo S .ab []:=⟨[],fj.nil _ _,rfl,λ_ h=>h.elim,λi c a h=>by simp at h⟩
theorem iU.keep(h:iU R lo S v l)(hM:Mem H S)(hn:S.n≤S'.n)(hk:∀b,lo≤b→b<S.n→S'.ob b=S.ob b):iU R lo S' v l:=by
 obtain⟨cl,h1,h2,h3,h4⟩:=h;refine⟨cl,h1.keep hM λb hb hlt=>hk b (h3 b hb) hlt,h2,h3,λi c a hc ha=>?_⟩;obtain⟨Q,g1,g2⟩:=h4 i c a hc ha;exact⟨Q,R.go (λb hb=>hk b (g2 b hb).1 (g2 b hb).2.1) (λ_ h=>h) g1,λb hb=>⟨(g2 b hb).1,Nat.lt_of_lt_of_le (g2 b hb).2.1 hn,(g2 b hb).2.2⟩⟩
theorem GF{cl:List (List AV)}{sz:Nat}(h:∀c∈cl,c.length=sz):∀{i:Nat}{c:List AV},cl[i]? = some c→(cl.flatten.drop (i*sz)).take sz=c:=by
 induction cl with
 |nil=>intro i c hc;simp at hc
 |cons d cl ih=>
  intro i c hc;have hd:=h d (by simp);cases i with
  |zero=>
   simp at hc;subst hc;rw[Nat.zero_mul,List.drop_zero,List.flatten_cons,←hd];exact List.take_left' rfl
  |succ i=>
   have:=ih (λx hx=>h x (by simp[hx])) (i:=i) (c:=c) (by simpa using hc);rw[List.flatten_cons,Nat.add_mul,Nat.one_mul,Nat.add_comm,←List.drop_drop,←hd,List.drop_left' rfl,hd];exact this
theorem iU.szs{cl:List (List AV)}(h4:∀(i:Nat) (c:List AV) (a:α),cl[i]? = some c→l[i]? = some a→∃Q,R.rel S Q c a∧∀b,Q b→lo≤b∧b<S.n∧¬aj v b)(hl:cl.length=l.length):∀c∈cl,c.length=R.sz:=λc hc=>by
 obtain⟨i,hi,e⟩:=List.mem_iff_getElem.1 hc;obtain⟨_,g,_⟩:=h4 i c (l[i]'(by omega)) (by rw[List.getElem?_eq_getElem hi,e]) (List.getElem?_eq_getElem _);exact R.len g
theorem iU.done(h:iU R lo S v l)(hM:Mem H S):∃cl,dZ S (jd lo S.n) R.sz v l.length cl∧∀i a,l[i]? = some a→R.rel S (jd lo S.n) (cl i) a:=by
 obtain⟨cl,h1,h2,h3,h4⟩:=h;have hsz:=iU.szs h4 h2;refine⟨λi=>cl[i]?.getD [],?_,λi a ha=>?_⟩
 ·rcases h1 with⟨rfl,e,_⟩|⟨b,c,ex,cs,rfl,g2,g3,g4,g5,g6,g7⟩
  ·exact .inl ⟨rfl,e⟩
  ·refine .inr ⟨b,0,c,ex,cs,0,rfl,⟨h3 b rfl,hM.lt (by rw[g2];simp)⟩,g2,g4,by rw[g3,Nat.zero_add];exact Nat.mul_le_mul_right _ g4,λi hi=>?_⟩;have hic:i<cl.length:=by omega
   have e1:=GF hsz (List.getElem?_eq_getElem hic);show(cs.drop (0+i*R.sz)).take R.sz=cl[i]?.getD [];rw[List.getElem?_eq_getElem hic,Option.getD_some,←e1,Nat.zero_add];have hle:(i+1)*R.sz≤l.length*R.sz:=Nat.mul_le_mul_right _ (by omega);rw[Nat.add_mul,Nat.one_mul]at hle
   conv=>rhs;rw[←g6]
   rw[List.drop_take,List.take_take,Nat.min_eq_left (by omega)]
 ·have hil:=(List.getElem?_eq_some_iff.1 ha).1;have hic:i<cl.length:=by omega
  obtain⟨Q,g1,g2⟩:=h4 i _ a (List.getElem?_eq_getElem hic) ha;show R.rel S (jd lo S.n) (cl[i]?.getD []) a;rw[List.getElem?_eq_getElem hic,Option.getD_some];exact R.go (λ_ _=>rfl) (λb hb=>⟨(g2 b hb).1,(g2 b hb).2.1⟩) g1
theorem iU.step{a:α}{c:List AV}{Q:Nat→Prop}{v':AV}(h:iU R lo S v l)(hr:R.rel S Q c a)(hQ:∀b,Q b→lo≤b∧b<S.n∧¬aj v b)(hlo:lo≤S.n)(hs:∀cl,fj S R.sz v l.length cl→qT S v (l.length+1) R.sz (cl++c) S' v'):iU R lo S' v' (l++[a]):=by
 obtain⟨cl,h1,h2,h3,h4⟩:=h;obtain⟨a1,a2,a3,a4⟩:=hs _ h1;refine⟨cl++[c],?_,by simp[h2],λb hb'=>?_,λi c' a' hc ha=>?_⟩
 ·rw[List.flatten_append,List.length_append];show fj S' R.sz v' (l.length+1) (cl.flatten++[c].flatten);have:[c].flatten=c:=by simp
  rw[this];exact a3
 ·rcases a4 b hb' with g|g
  ·exact h3 b g
  ·omega
 ·have fin:∀{Q:Nat→Prop}{c:List AV}{a:α},R.rel S Q c a→(∀b,Q b→lo≤b∧b<S.n∧¬aj v b)→∃Q,R.rel S' Q c a∧∀b,Q b→lo≤b∧b<S'.n∧¬aj v' b:=λ{Q c a} g1 g2=>
   ⟨Q,R.go (λb hb=>a2 b (g2 b hb).2.1 (g2 b hb).2.2) (λ_ h=>h) g1,λb hb=>⟨(g2 b hb).1,Nat.lt_of_lt_of_le (g2 b hb).2.1 a1,λhb'=>by
    rcases a4 b hb' with q|q
    ·exact(g2 b hb).2.2 q
    ·have:=(g2 b hb).2.1;omega⟩⟩
  by_cases hi:i<cl.length
  ·rw[List.getElem?_append_left hi]at hc;rw[List.getElem?_append_left (by omega)]at ha;obtain⟨Q,g1,g2⟩:=h4 i c' a' hc ha;exact fin g1 g2
  ·rw[List.getElem?_append_right (by omega)]at hc ha;have e0:i-cl.length=0:=by
    rcases Nat.eq_zero_or_pos (i-cl.length)with q|q
    ·exact q
    ·rw[List.getElem?_eq_none (by simp;omega)]at hc;cases hc
   have e1:i-l.length=0:=by omega
   rw[e0]at hc;rw[e1]at ha;simp at hc ha;subst hc;subst ha;exact fin hr hQ
end
end
def aK(X:Nat→Prop)(S S':LS):Prop:=S.n≤S'.n∧∀b,b<S.n→¬X b→S'.ob b=S.ob b
def bU:Nat→Prop:=λ_=>False
section
variable {X Y:Nat→Prop}{S S' lD:LS}{H:AH}
theorem aK.refl(X:Nat→Prop)(S:LS):aK X S S:=⟨Nat.le_refl _,λ_ _ _=>rfl⟩
theorem aK.trans(h:aK X S S')(g:aK X S' lD):aK X S lD:=⟨Nat.le_trans h.1 g.1,λb hb hx=>(g.2 b (Nat.lt_of_lt_of_le hb h.1) hx).trans (h.2 b hb hx)⟩
theorem aK.mono(h:aK X S S')(hxy:∀b,X b→Y b):aK Y S S':=⟨h.1,λb hb hx=>h.2 b hb λg=>hx (hxy b g)⟩
theorem aK.no(h:aK bU S S'):aK X S S':=h.mono λ_ g=>g.elim
theorem aK.push(h:aK X S S')(o:gu):aK X S (S'.push o):=⟨Nat.le_trans h.1 (Nat.le_succ _),λb hb hx=>by rw[LS.bR _ _ (Nat.lt_of_lt_of_le hb h.1)];exact h.2 b hb hx⟩
theorem aK.set(h:aK X S S'){b:Nat}(hb:X b∨S.n≤b)(o:gu):aK X S (S'.set b o):=⟨h.1,λc hc hx=>by
 rw[LS.an _ _ λe=>by subst e;rcases hb with g|g;exact hx g;omega];exact h.2 c hc hx⟩
theorem aK.app{sz n:Nat}{v v':AV}{l:List AV}(h:aK X S S')(ha:qT S' v n sz l lD v')(hv:∀b,aj v b→X b∨S.n≤b):aK X S lD:=⟨Nat.le_trans h.1 ha.1,λb hb hx=>by
 rw[ha.2.1 b (Nat.lt_of_lt_of_le hb h.1) λg=>by rcases hv b g with q|q;exact hx q;omega];exact h.2 b hb hx⟩
end
structure Ctx where
 T:List Tok
 bp:Nat
 vT:AV
 pv:AV
 ok:lQ T
 b8:∀t∈T,B8 t.text
 few:T.length≤100000
 ne:¬aj vT bp
structure lG(C:Ctx)(S:LS)(i d:Nat):Prop where
 ob:S.ob C.bp=.ce [C.vT,.int 0 (i:Int),.int 0 (d:Int),.int 0 0] 0
 tk:fj S 4 C.vT C.T.length (tcs C.T)
 lt:i<C.T.length
structure ang(C:Ctx)(S:LS)(c i:Nat):Prop where
 ob:∃d:Int,S.ob C.bp=.ce [C.vT,.int 0 (i:Int),.int 0 d,.int 0 (c:Int)] 0
 tk:fj S 4 C.vT C.T.length (tcs C.T)
 lt:i<C.T.length
def Post{α:Type}(C:Ctx)(X:Nat→Prop)(d:Nat)(Rp:LS→(Nat→Prop)→AV→α→Prop)(K:KF)(S:LS)(r:ak α):Prop:=match r with
 |.ok a j=>∀H' S' v,Mem H' S'→aK X S S'→lG C S' j d→Rp S' (jd S.n S'.n) v a→K (.ret v) H'
 |.err c j=>∀H' S',Mem H' S'→aK X S S'→ang C S' c j→K (.cG C.pv) H'
 |.bb=>False
section
variable {C:Ctx}{X Y:Nat→Prop}{S S' S1:LS}{H:AH}{K:KF}{i d d1:Nat}{α β:Type}{eT:LS→(Nat→Prop)→AV→α→Prop}{Es:LS→(Nat→Prop)→AV→β→Prop}
theorem lG.mW(h:lG C S i d)(hM:Mem H S):C.bp<S.n:=hM.lt (by rw[h.ob];simp)
theorem lG.keep(h:lG C S i d)(hM:Mem H S)(hc:aK X S S')(h1:¬X C.bp)(h2:∀b,aj C.vT b→¬X b):lG C S' i d:=
 ⟨(hc.2 C.bp (h.mW hM) h1).trans h.ob,h.tk.keep hM λb hb hlt=>hc.2 b hlt (h2 b hb),h.lt⟩
theorem lG.no(h:lG C S i d)(hM:Mem H S)(hc:aK bU S S'):lG C S' i d:=h.keep hM hc (λg=>g) λ_ _ g=>g
theorem lG.pZ{S0:LS}{H0:AH}{i0 d0:Nat}(h:lG C S i d)(h0:lG C S0 i0 d0)(hM0:Mem H0 S0){b:Nat}(hb:S0.n≤b)(o:gu):lG C (S.set b o) i d:=
 ⟨(LS.an _ _ (by have:=h0.mW hM0;omega)).trans h.ob,by
  have hv:=h0.tk;rcases h.tk with g|⟨b',c,ex,cs,g1,g2,g3⟩
  ·exact .inl g
  ·refine .inr ⟨b',c,ex,cs,g1,?_,g3⟩;have:b'<S0.n:=hv.lt hM0 (by rw[g1];rfl);rw[LS.an _ _ (by omega)];exact g2,h.lt⟩
theorem lG.set(h:lG C S i d){j e:Nat}(hj:j<C.T.length):lG C (S.set C.bp (.ce [C.vT,.int 0 (j:Int),.int 0 (e:Int),.int 0 0] 0)) j e:=
 ⟨LS.av _ _ _,by
  rcases h.tk with g|⟨b,c,ex,cs,g1,g2,g3⟩
  ·exact .inl g
  ·refine .inr ⟨b,c,ex,cs,g1,?_,g3⟩;rw[LS.an _ _ λe=>C.ne (by rw[g1,←e];rfl)];exact g2,hj⟩
theorem lG.err(h:lG C S i d){c:Nat}{e:Int}:ang C (S.set C.bp (.ce [C.vT,.int 0 (i:Int),.int 0 e,.int 0 (c:Int)] 0)) c i:=
 ⟨⟨e,LS.av _ _ _⟩,by
  rcases h.tk with g|⟨b,c,ex,cs,g1,g2,g3⟩
  ·exact .inl g
  ·refine .inr ⟨b,c,ex,cs,g1,?_,g3⟩;rw[LS.an _ _ λe=>C.ne (by rw[g1,←e];rfl)];exact g2,h.lt⟩
theorem ij(K:KF)(v:AV)(H:AH)(k:AV→Prop):cR K (.cG v) H k=K (.cG v) H:=rfl
theorem Post.call{r1:ak α}{f:α→Nat→ak β}(h:Post C X d Es K S (r1.bind f))(hx:aK X S S1)(hX:∀b,Y b→X b){k:AV→AH→Prop}
  (hk:∀a j H' S' v,Mem H' S'→aK Y S1 S'→lG C S' j d1→eT S' (jd S1.n S'.n) v a→Post C X d Es K S (f a j)→k v H'):Post C Y d1 eT (λo H=>cR K o H λv=>k v H) S1 r1:=by
 cases r1 with
 |ok a j=>exact λH' S' v m c p q=>hk a j H' S' v m c p q h
 |err c j=>exact λH' S' m ch p=>h H' S' m (hx.trans (ch.mono hX)) p
 |bb=>exact h
theorem ack{T:List Tok}{i:Nat}(h:i<T.length):∃t,T[i]? = some t∧bW T i=t.kind∧fM T i=t.text∧ay T i=t.pos∧Mg T i=t.n:=by
 refine⟨T[i],List.getElem?_eq_getElem h,?_⟩;unfold bW fM ay Mg;rw[List.getElem?_eq_getElem h];exact⟨rfl,rfl,rfl,rfl⟩
theorem vM(C:Ctx)(i:Nat):B8 (fM C.T i):=by
 unfold fM;split
 ·rename_i t h;exact C.b8 t (List.mem_of_getElem? h)
 ·exact B8.nil
def mX(T:List Tok)(i:Nat):List AV:=[.int 0 (bW T i:Int),ai (fM T i),.int 0 (Mg T i:Int),.int 0 (ay T i:Int)]
theorem An{T:List Tok}{i:Nat}(h:i<T.length):((tcs T).drop (i*4)).take 4=mX T i:=by
 obtain⟨t,h1,h2,h3,h4,h5⟩:=ack h;rw[Oh h1];unfold mX;rw[h2,h3,h4,h5];rfl
end
def dV(S:LS)(Q:Nat→Prop)(v:AV)(e:au):Prop:=∃c,v=.agg c∧RE S Q c e
def rvS(S:LS)(Q:Nat→Prop)(v:AV)(e:az):Prop:=∃c,v=.agg c∧iz S Q c e
def mY(_:LS)(_:Nat→Prop)(v:AV)(_:Unit):Prop:=v=.aL []
def Mk(_:LS)(_:Nat→Prop)(v:AV)(t:List Nat):Prop:=v=ai t∧B8 t
def pt(S:LS)(Q:Nat→Prop)(v:AV)(l:List au):Prop:=∃cl,dZ S Q 7 v l.length cl∧∀i e,l[i]? = some e→RE S Q (cl i) e
def gw(S:LS)(Q:Nat→Prop)(v:AV)(l:List az):Prop:=∃cl,dZ S Q 5 v l.length cl∧∀i e,l[i]? = some e→iz S Q (cl i) e
section
variable {C:Ctx}{X Y:Nat→Prop}{S S' S1:LS}{H:AH}{K:KF}{i d d1:Nat}{α β:Type}{Rp eT:LS→(Nat→Prop)→AV→α→Prop}
theorem Post.tail{r:ak α}(h:Post C X d Rp K S r)(hx:aK X S S1)(hX:∀b,Y b→X b){k:AV→AH→Prop}
  (hk:∀a j H' S' v,Mem H' S'→aK Y S1 S'→lG C S' j d1→eT S' (jd S1.n S'.n) v a→(∀Et lD w,Mem Et lD→aK X S lD→lG C lD j d→Rp lD (jd S.n lD.n) w a→K (.ret w) Et)→k v H'):Post C Y d1 eT (λo H=>cR K o H λv=>k v H) S1 r:=by
 cases r with
 |ok a j=>exact λH' S' v m c p q=>hk a j H' S' v m c p q h
 |err c j=>exact λH' S' m ch p=>h H' S' m (hx.trans (ch.mono hX)) p
 |bb=>exact h
theorem aK.rB(h:aK X S S1)(g:aK Y S1 S')(hy:∀b,Y b→X b∨S.n≤b):aK X S S':=⟨Nat.le_trans h.1 g.1,λb hb hx=>(g.2 b (Nat.lt_of_lt_of_le hb h.1) λq=>by
 rcases hy b q with w|w
 ·exact hx w
 ·omega).trans (h.2 b hb hx)⟩
theorem aK.ob{b:Nat}{c:List AV}{m:Nat}(g:aK Y S S')(hM:Mem H S)(hb:S.ob b=.ce c m)(hy:¬Y b):S'.ob b=.ce c m:=(g.2 b (hM.lt (by rw[hb];simp)) hy).trans hb
theorem gx:∀{l:List AV}{n:Nat}{x:Prop},l.length=n→x→gK l n x
 |[],0,x,_,hx=>hx
 |a::l,n+1,x,h,hx=>gx (l:=l) (n:=n) (by simpa using h) hx
theorem iN(l:List AV)(k:List AV→Prop):onVal (.agg l) k=k l:=rfl
theorem FI{l z:List AV}(hl:l.length=7)(hz:z.length=7):spl l z 0=l:=by
 match l,hl,z,hz with
 |[a,b,c,d,e,f,g],_,[_,_,_,_,_,_,_],_=>rfl
theorem zh{l k z:List AV}(hl:l.length=7)(hk:k.length=7)(hz:z.length=14):spl k (spl l z 0) 7=l++k:=by
 match l,hl,k,hk,z,hz with
 |[_,_,_,_,_,_,_],_,[_,_,_,_,_,_,_],_,[_,_,_,_,_,_,_,_,_,_,_,_,_,_],_=>rfl
theorem anh{l z:List AV}(hl:l.length=5)(hz:z.length=5):spl l z 0=l:=by
 match l,hl,z,hz with
 |[a,b,c,d,e],_,[_,_,_,_,_],_=>rfl
theorem fC{v:AV}{x:Prop}(h:v.one=true)(hx:x):one v x:=by
 unfold one;exact cC h hx
end
theorem kR.apa{l:List Nat}{k:Nat}{t:List Nat}{v j:Nat}(h:kR l k t v j):k≠0:=by cases h<;>decide
theorem dT.ends{l:List Nat}{p:Nat}{r:List Tok ⊕ Nat}(h:dT l p r):∀ts,r=.inl ts→∃a q,ts=a++[⟨0,[],0,q⟩]∧∀t∈a,t.kind≠0:=by
 induction h with
 |nil p=>intro ts e;cases e;exact⟨[],p,rfl,λt h=>by simp at h⟩
 |blank c l p r _ _ ih=>exact ih
 |remark l p r _ ih=>exact ih
 |wrong=>intro ts e;cases e
 |tok c l p k t n j ts _ _ ht _ ih=>
  intro ts' e;cases e;obtain⟨a,q,e,h⟩:=ih ts rfl;refine⟨⟨k,t,n,p⟩::a,q,by rw[e];rfl,λx hx=>?_⟩;rcases List.mem_cons.1 hx with rfl|hx
  ·exact ht.apa
  ·exact h x hx
 |bad=>intro ts e;cases e
theorem dT.b8{l:List Nat}{p:Nat}{r:List Tok ⊕ Nat}(h:dT l p r):B8 l→∀ts,r=.inl ts→∀t∈ts,B8 t.text:=by
 induction h with
 |nil p=>intro _ ts e t ht;cases e;simp at ht;subst ht;exact B8.nil
 |blank c l p r _ _ ih=>exact λh8=>ih h8.tl
 |remark l p r _ ih=>exact λh8=>ih (h8.drop _)
 |wrong=>intro _ ts e;cases e
 |tok c l p k t n j ts _ _ ht _ ih=>
  intro h8 ts' e;cases e;intro x hx;rcases List.mem_cons.1 hx with rfl|hx
  ·exact ht.b8 h8
  ·exact ih (h8.drop _) ts rfl x hx
 |bad=>intro _ ts e;cases e
theorem dT.Eu{l:List Nat}{p:Nat}{ts:List Tok}(h:dT l p (.inl ts)):lQ ts:=by
 obtain⟨a,q,e,ha⟩:=h.ends ts rfl;subst e;refine⟨by simp,λi hi hk=>?_⟩;rw[List.length_append,List.length_singleton]at hi ⊢;rcases Nat.lt_or_ge i a.length with g|g
 ·omega
 ·exfalso;have e:i=a.length:=by omega
  subst e;apply hk;unfold bW;rw[List.getElem?_append_right (Nat.le_refl _),Nat.sub_self];rfl
def kr(T:List Tok):ak (List az):=(cj T (64*T.length+64) 0 0).bind λb j=>if bW T j=0 then .ok b j else .err 14 j
theorem Ev{T:List Tok}(hT:lQ T):kr T≠.bb:=by
 have h:=(Mi hT (64*T.length+64)).block 0 0 hT.1 (by omega);unfold kr;cases e:cj T (64*T.length+64) 0 0 with
 |bb=>rw[e]at h;exact h.elim
 |err c i=>intro q;cases q
 |ok b j=>
  show(if bW T j=0 then ak.ok b j else .err 14 j)≠.bb;split<;>intro q<;>cases q
theorem Rj{T:List Tok}(hT:lQ T):∀b j,cj T (64*T.length+64) 0 0=.ok b j→j<T.length:=λb j e=>by
 have h:=(Mi hT (64*T.length+64)).block 0 0 hT.1 (by omega);rw[e]at h;exact h.2
def yr(r:List Tok ⊕ Nat):List az ⊕ Nat×Nat:=match r with
 |.inr e=>.inr (14,e)
 |.inl ts=>(match kr ts with
  |.ok b _=>.inl b
  |.err c i=>.inr (c,ay ts i)
  |.bb=>.inl [])
def ScP(K:KF)(S0:LS)(r:List az ⊕ Nat×Nat):Prop:=match r with
 |.inl b=>∀H' S' v,Mem H' S'→Ext S0 S'→gw S' (jd S0.n S'.n) v b→K (.ret (.aL [v,.int 0 0,.int 0 0])) H'
 |.inr (c,p)=>∀H' S',Mem H' S'→Ext S0 S'→K (.ret (.aL [.ab,.int 0 (c:Int),.int 0 (p:Int)])) H'
def LxQ(K:KF)(S0:LS)(r:List Tok ⊕ Nat):Prop:=match r with
 |.inl ts=>∀H' S' v',Mem H' S'→Ext S0 S'→fj S' 4 v' ts.length (tcs ts)→(∀b,aj v' b→S0.n≤b)→K (.ret (.aL [v',.int 0 0,.int 0 0])) H'
 |.inr e=>∀H' S',Mem H' S'→Ext S0 S'→K (.ret (.aL [.ab,.int 0 14,.int 0 (e:Int)])) H'
theorem gw.go{S S':LS}{Q Q':Nat→Prop}{v:AV}{l:List az}(h:gw S Q v l)(hk:∀b,Q b→S'.ob b=S.ob b)(h1:∀b,Q b→Q' b):gw S' Q' v l:=by
 obtain⟨cl,g1,g2⟩:=h;exact⟨cl,g1.go hk h1,λi e he=>(g2 i e he).go hk h1⟩
theorem fj.one'{S:LS}{sz n:Nat}{v:AV}{l:List AV}(h:fj S sz v n l):v.one=true:=by
 rcases h with⟨rfl,_⟩|⟨b,c,ex,cs,rfl,_⟩<;>rfl
theorem acm{u:Nat}{z v:AV}{k:AV→Prop}(h:k (.aL [v,.bool true])):uB u z true (.iface u v) k:=by
 show bI (Nat.beq u u) (bI true (k (.aL [v,.bool true])) (k v)) (bT true (k (.aL [z,.bool false])));rw[Nat.beq_refl];exact h
theorem acn{u:Nat}{z:AV}{k:AV→Prop}(h:k (.aL [z,.bool false])):uB u z true .jj k:=h
theorem aK.ext{S S':LS}(h:aK bU S S'):Ext S S':=⟨h.1,λb hb=>h.2 b hb λq=>q⟩
section
mutual
def au.sz:au→Nat
 |.mk _ _ _ _ _ l f=>1+fD l+yt f
def fD:List au→Nat
 |[]=>0
 |e::l=>e.sz+fD l
def fm.sz:fm→Nat
 |.mk ps b=>1+ps.length+dI b
def yt:List fm→Nat
 |[]=>0
 |f::l=>f.sz+yt l
def az.sz:az→Nat
 |.mk _ _ ns l bs=>1+ns.length+fD l+pw bs
def dI:List az→Nat
 |[]=>0
 |s::l=>s.sz+dI l
def pw:List (List az)→Nat
 |[]=>0
 |b::l=>1+dI b+pw l
end
theorem Ao:∀a b:List az,dI (a++b)=dI a+dI b
 |[],b=>by simp[dI]
 |e::a,b=>by rw[List.cons_append,dI,dI,Ao a b];omega
theorem Ml{α β:Type}{r:ak α}{f:α→Nat→ak β}{b:β}{j:Nat}(h:r.bind f=.ok b j):∃a i,r=.ok a i∧f a i=.ok b j:=by
 cases r with
 |ok a i=>exact⟨a,i,rfl,h⟩
 |err c i=>cases h
 |bb=>cases h
variable {T:List Tok}
structure Sz(T:List Tok)(n:Nat):Prop where
 exp:∀{i d e j},bP T n i d=.ok e j→e.sz+3+4*i≤4*j
 either:∀{i d e j},gd T n i d=.ok e j→e.sz+3+4*i≤4*j
 bZ:∀{e0 i d e j},fN T n e0 i d=.ok e j→e.sz+4*i≤e0.sz+4*j
 both:∀{i d e j},jw T n i d=.ok e j→e.sz+3+4*i≤4*j
 dB:∀{e0 i d e j},iF T n e0 i d=.ok e j→e.sz+4*i≤e0.sz+4*j
 test:∀{i d e j},jx T n i d=.ok e j→e.sz+3+4*i≤4*j
 dC:∀{e0 i d e j},iG T n e0 i d=.ok e j→e.sz+4*i≤e0.sz+4*j
 join:∀{i d e j},gk T n i d=.ok e j→e.sz+3+4*i≤4*j
 sum:∀{i d e j},lO T n i d=.ok e j→e.sz+3+4*i≤4*j
 fe:∀{e0 i d e j},jJ T n e0 i d=.ok e j→e.sz+4*i≤e0.sz+4*j
 term:∀{i d e j},jy T n i d=.ok e j→e.sz+3+4*i≤4*j
 dD:∀{e0 i d e j},iH T n e0 i d=.ok e j→e.sz+4*i≤e0.sz+4*j
 unary:∀{i d e j},fk T n i d=.ok e j→e.sz+3+4*i≤4*j
 post:∀{i d e j},iI T n i d=.ok e j→e.sz+3+4*i≤4*j
 dj:∀{e0 i d e j},cF T n e0 i d=.ok e j→e.sz+4*i≤e0.sz+4*j
 args:∀{b out i d l j},dH T n b out i d=.ok l j→fD l+4*i+1≤fD out+4*j
 simple:∀{i d e j},dK T n i d=.ok e j→e.sz+3+4*i≤4*j
 table:∀{out c a i d e j},fx T n out c a i d=.ok e j→e.sz+3+4*i≤fD out+4*j
 field:∀{c i d l j},ie T n c i d=.ok l j→fD l.1+4*i≤4*j
 body:∀{a i d e j},gY T n a i d=.ok e j→e.sz+3+4*i≤4*j
 params:∀{b out i l j},bQ T n b out i=.ok l j→l.length+4*i+3≤out.length+4*j
 block:∀{i d b j},cj T n i d=.ok b j→dI b+4*i≤4*j
 cH:∀{out i d b j},bA T n out i d=.ok b j→dI b+4*i≤dI out+4*j
 stat:∀{i d s j},eW T n i d=.ok s j→s.sz+4*i≤4*j
 cV:∀{a i d s j},gV T n a i d=.ok s j→s.sz+4*i≤4*j
 cW:∀{a i d s j},iJ T n a i d=.ok s j→s.sz+4*i≤4*j
 cn:∀{a i d s j},gE T n a i d=.ok s j→s.sz+4*i≤4*j
 do_:∀{a i d s j},oD T n a i d=.ok s j→s.sz+4*i≤4*j
 cq:∀{a i d s j},ig T n a i d=.ok s j→s.sz+4*i≤1+4*j
 plain:∀{a i d s j},gH T n a i d=.ok s j→s.sz+4*i≤4*j
 choice:∀{a l bs i d s j},eS T n a l bs i d=.ok s j→s.sz+4*i≤fD l+pw bs+4*j
 for_:∀{a i d s j},lP T n a i d=.ok s j→s.sz+4*i≤4*j
 cJ:∀{k a ns l i d s j},cD T n k a ns l i d=.ok s j→s.sz+4*i≤ns.length+fD l+4*j
end
section
def bz{α:Type}(r r':ak α):Prop:=r=.bb∨r=r'
theorem bz.rfl'{α:Type}(r:ak α):bz r r:=.inr rfl
theorem bz.bind{α β:Type}{r r':ak α}{f f':α→Nat→ak β}(h:bz r r')(hf:∀a j,bz (f a j) (f' a j)):bz (r.bind f) (r'.bind f'):=by
 rcases h with rfl|rfl
 ·exact .inl rfl
 ·cases r with
  |ok a i=>exact hf a i
  |err c i=>exact .inr rfl
  |bb=>exact .inl rfl
theorem bz.ite{α:Type}{c:Prop}[Decidable c]{a b a' b':ak α}(h1:bz a a')(h2:bz b b'):bz (if c then a else b) (if c then a' else b'):=by
 split
 ·exact h1
 ·exact h2
variable {T:List Tok}
structure Mn(T:List Tok)(n:Nat):Prop where
 exp:∀i d,bz (bP T n i d) (bP T (n+1) i d)
 either:∀i d,bz (gd T n i d) (gd T (n+1) i d)
 bZ:∀e i d,bz (fN T n e i d) (fN T (n+1) e i d)
 both:∀i d,bz (jw T n i d) (jw T (n+1) i d)
 dB:∀e i d,bz (iF T n e i d) (iF T (n+1) e i d)
 test:∀i d,bz (jx T n i d) (jx T (n+1) i d)
 dC:∀e i d,bz (iG T n e i d) (iG T (n+1) e i d)
 join:∀i d,bz (gk T n i d) (gk T (n+1) i d)
 sum:∀i d,bz (lO T n i d) (lO T (n+1) i d)
 fe:∀e i d,bz (jJ T n e i d) (jJ T (n+1) e i d)
 term:∀i d,bz (jy T n i d) (jy T (n+1) i d)
 dD:∀e i d,bz (iH T n e i d) (iH T (n+1) e i d)
 unary:∀i d,bz (fk T n i d) (fk T (n+1) i d)
 post:∀i d,bz (iI T n i d) (iI T (n+1) i d)
 dj:∀e i d,bz (cF T n e i d) (cF T (n+1) e i d)
 args:∀b out i d,bz (dH T n b out i d) (dH T (n+1) b out i d)
 simple:∀i d,bz (dK T n i d) (dK T (n+1) i d)
 table:∀out c a i d,bz (fx T n out c a i d) (fx T (n+1) out c a i d)
 field:∀c i d,bz (ie T n c i d) (ie T (n+1) c i d)
 body:∀a i d,bz (gY T n a i d) (gY T (n+1) a i d)
 params:∀b out i,bz (bQ T n b out i) (bQ T (n+1) b out i)
 block:∀i d,bz (cj T n i d) (cj T (n+1) i d)
 cH:∀out i d,bz (bA T n out i d) (bA T (n+1) out i d)
 stat:∀i d,bz (eW T n i d) (eW T (n+1) i d)
 cV:∀a i d,bz (gV T n a i d) (gV T (n+1) a i d)
 cW:∀a i d,bz (iJ T n a i d) (iJ T (n+1) a i d)
 cn:∀a i d,bz (gE T n a i d) (gE T (n+1) a i d)
 do_:∀a i d,bz (oD T n a i d) (oD T (n+1) a i d)
 cq:∀a i d,bz (ig T n a i d) (ig T (n+1) a i d)
 plain:∀a i d,bz (gH T n a i d) (gH T (n+1) a i d)
 choice:∀a l bs i d,bz (eS T n a l bs i d) (eS T (n+1) a l bs i d)
 for_:∀a i d,bz (lP T n a i d) (lP T (n+1) a i d)
 cJ:∀k a ns l i d,bz (cD T n k a ns l i d) (cD T (n+1) k a ns l i d)
theorem mn0:Mn T 0 where
 exp _ _:=.inl (by rw[bP.eq_1])
 either _ _:=.inl (by rw[gd.eq_1])
 bZ _ _ _:=.inl (by rw[fN.eq_1])
 both _ _:=.inl (by rw[jw.eq_1])
 dB _ _ _:=.inl (by rw[iF.eq_1])
 test _ _:=.inl (by rw[jx.eq_1])
 dC _ _ _:=.inl (by rw[iG.eq_1])
 join _ _:=.inl (by rw[gk.eq_1])
 sum _ _:=.inl (by rw[lO.eq_1])
 fe _ _ _:=.inl (by rw[jJ.eq_1])
 term _ _:=.inl (by rw[jy.eq_1])
 dD _ _ _:=.inl (by rw[iH.eq_1])
 unary _ _:=.inl (by rw[fk.eq_1])
 post _ _:=.inl (by rw[iI.eq_1])
 dj _ _ _:=.inl (by rw[cF.eq_1])
 args _ _ _ _:=.inl (by rw[dH.eq_1])
 simple _ _:=.inl (by rw[dK.eq_1])
 table _ _ _ _ _:=.inl (by rw[fx.eq_1])
 field _ _ _:=.inl (by rw[ie.eq_1])
 body _ _ _:=.inl (by rw[gY.eq_1])
 params _ _ _:=.inl (by rw[bQ.eq_1])
 block _ _:=.inl (by rw[cj.eq_1])
 cH _ _ _:=.inl (by rw[bA.eq_1])
 stat _ _:=.inl (by rw[eW.eq_1])
 cV _ _ _:=.inl (by rw[gV.eq_1])
 cW _ _ _:=.inl (by rw[iJ.eq_1])
 cn _ _ _:=.inl (by rw[gE.eq_1])
 do_ _ _ _:=.inl (by rw[oD.eq_1])
 cq _ _ _:=.inl (by rw[ig.eq_1])
 plain _ _ _:=.inl (by rw[gH.eq_1])
 choice _ _ _ _ _:=.inl (by rw[eS.eq_1])
 for_ _ _ _:=.inl (by rw[lP.eq_1])
 cJ _ _ _ _ _ _:=.inl (by rw[cD.eq_1])
theorem mnS{n:Nat}(F:Mn T n):Mn T (n+1) where
 exp i d:=by
  rw[bP.eq_2,bP.eq_2]
  repeat' first|exact F.exp _ _|exact F.either _ _|exact F.bZ _ _ _|exact F.both _ _|exact F.dB _ _ _|exact F.test _ _|exact F.dC _ _ _|exact F.join _ _|exact F.sum _ _|exact F.fe _ _ _|exact F.term _ _|exact F.dD _ _ _|exact F.unary _ _|exact F.post _ _|exact F.dj _ _ _|exact F.args _ _ _ _|exact F.simple _ _|exact F.table _ _ _ _ _|exact F.field _ _ _|exact F.body _ _ _|exact F.params _ _ _|exact F.block _ _|exact F.cH _ _ _|exact F.stat _ _|exact F.cV _ _ _|exact F.cW _ _ _|exact F.cn _ _ _|exact F.do_ _ _ _|exact F.cq _ _ _|exact F.plain _ _ _|exact F.choice _ _ _ _ _|exact F.for_ _ _ _|exact F.cJ _ _ _ _ _ _|exact bz.rfl' _|apply bz.ite|refine bz.bind ?_ λ_ _=>?_
 either i d:=by
  rw[gd.eq_2,gd.eq_2]
  repeat' first|exact F.exp _ _|exact F.either _ _|exact F.bZ _ _ _|exact F.both _ _|exact F.dB _ _ _|exact F.test _ _|exact F.dC _ _ _|exact F.join _ _|exact F.sum _ _|exact F.fe _ _ _|exact F.term _ _|exact F.dD _ _ _|exact F.unary _ _|exact F.post _ _|exact F.dj _ _ _|exact F.args _ _ _ _|exact F.simple _ _|exact F.table _ _ _ _ _|exact F.field _ _ _|exact F.body _ _ _|exact F.params _ _ _|exact F.block _ _|exact F.cH _ _ _|exact F.stat _ _|exact F.cV _ _ _|exact F.cW _ _ _|exact F.cn _ _ _|exact F.do_ _ _ _|exact F.cq _ _ _|exact F.plain _ _ _|exact F.choice _ _ _ _ _|exact F.for_ _ _ _|exact F.cJ _ _ _ _ _ _|exact bz.rfl' _|apply bz.ite|refine bz.bind ?_ λ_ _=>?_
 bZ e i d:=by
  rw[fN.eq_2,fN.eq_2]
  repeat' first|exact F.exp _ _|exact F.either _ _|exact F.bZ _ _ _|exact F.both _ _|exact F.dB _ _ _|exact F.test _ _|exact F.dC _ _ _|exact F.join _ _|exact F.sum _ _|exact F.fe _ _ _|exact F.term _ _|exact F.dD _ _ _|exact F.unary _ _|exact F.post _ _|exact F.dj _ _ _|exact F.args _ _ _ _|exact F.simple _ _|exact F.table _ _ _ _ _|exact F.field _ _ _|exact F.body _ _ _|exact F.params _ _ _|exact F.block _ _|exact F.cH _ _ _|exact F.stat _ _|exact F.cV _ _ _|exact F.cW _ _ _|exact F.cn _ _ _|exact F.do_ _ _ _|exact F.cq _ _ _|exact F.plain _ _ _|exact F.choice _ _ _ _ _|exact F.for_ _ _ _|exact F.cJ _ _ _ _ _ _|exact bz.rfl' _|apply bz.ite|refine bz.bind ?_ λ_ _=>?_
 both i d:=by
  rw[jw.eq_2,jw.eq_2]
  repeat' first|exact F.exp _ _|exact F.either _ _|exact F.bZ _ _ _|exact F.both _ _|exact F.dB _ _ _|exact F.test _ _|exact F.dC _ _ _|exact F.join _ _|exact F.sum _ _|exact F.fe _ _ _|exact F.term _ _|exact F.dD _ _ _|exact F.unary _ _|exact F.post _ _|exact F.dj _ _ _|exact F.args _ _ _ _|exact F.simple _ _|exact F.table _ _ _ _ _|exact F.field _ _ _|exact F.body _ _ _|exact F.params _ _ _|exact F.block _ _|exact F.cH _ _ _|exact F.stat _ _|exact F.cV _ _ _|exact F.cW _ _ _|exact F.cn _ _ _|exact F.do_ _ _ _|exact F.cq _ _ _|exact F.plain _ _ _|exact F.choice _ _ _ _ _|exact F.for_ _ _ _|exact F.cJ _ _ _ _ _ _|exact bz.rfl' _|apply bz.ite|refine bz.bind ?_ λ_ _=>?_
 dB e i d:=by
  rw[iF.eq_2,iF.eq_2]
  repeat' first|exact F.exp _ _|exact F.either _ _|exact F.bZ _ _ _|exact F.both _ _|exact F.dB _ _ _|exact F.test _ _|exact F.dC _ _ _|exact F.join _ _|exact F.sum _ _|exact F.fe _ _ _|exact F.term _ _|exact F.dD _ _ _|exact F.unary _ _|exact F.post _ _|exact F.dj _ _ _|exact F.args _ _ _ _|exact F.simple _ _|exact F.table _ _ _ _ _|exact F.field _ _ _|exact F.body _ _ _|exact F.params _ _ _|exact F.block _ _|exact F.cH _ _ _|exact F.stat _ _|exact F.cV _ _ _|exact F.cW _ _ _|exact F.cn _ _ _|exact F.do_ _ _ _|exact F.cq _ _ _|exact F.plain _ _ _|exact F.choice _ _ _ _ _|exact F.for_ _ _ _|exact F.cJ _ _ _ _ _ _|exact bz.rfl' _|apply bz.ite|refine bz.bind ?_ λ_ _=>?_
 test i d:=by
  rw[jx.eq_2,jx.eq_2]
  repeat' first|exact F.exp _ _|exact F.either _ _|exact F.bZ _ _ _|exact F.both _ _|exact F.dB _ _ _|exact F.test _ _|exact F.dC _ _ _|exact F.join _ _|exact F.sum _ _|exact F.fe _ _ _|exact F.term _ _|exact F.dD _ _ _|exact F.unary _ _|exact F.post _ _|exact F.dj _ _ _|exact F.args _ _ _ _|exact F.simple _ _|exact F.table _ _ _ _ _|exact F.field _ _ _|exact F.body _ _ _|exact F.params _ _ _|exact F.block _ _|exact F.cH _ _ _|exact F.stat _ _|exact F.cV _ _ _|exact F.cW _ _ _|exact F.cn _ _ _|exact F.do_ _ _ _|exact F.cq _ _ _|exact F.plain _ _ _|exact F.choice _ _ _ _ _|exact F.for_ _ _ _|exact F.cJ _ _ _ _ _ _|exact bz.rfl' _|apply bz.ite|refine bz.bind ?_ λ_ _=>?_
 dC e i d:=by
  rw[iG.eq_2,iG.eq_2]
  repeat' first|exact F.exp _ _|exact F.either _ _|exact F.bZ _ _ _|exact F.both _ _|exact F.dB _ _ _|exact F.test _ _|exact F.dC _ _ _|exact F.join _ _|exact F.sum _ _|exact F.fe _ _ _|exact F.term _ _|exact F.dD _ _ _|exact F.unary _ _|exact F.post _ _|exact F.dj _ _ _|exact F.args _ _ _ _|exact F.simple _ _|exact F.table _ _ _ _ _|exact F.field _ _ _|exact F.body _ _ _|exact F.params _ _ _|exact F.block _ _|exact F.cH _ _ _|exact F.stat _ _|exact F.cV _ _ _|exact F.cW _ _ _|exact F.cn _ _ _|exact F.do_ _ _ _|exact F.cq _ _ _|exact F.plain _ _ _|exact F.choice _ _ _ _ _|exact F.for_ _ _ _|exact F.cJ _ _ _ _ _ _|exact bz.rfl' _|apply bz.ite|refine bz.bind ?_ λ_ _=>?_
 join i d:=by
  rw[gk.eq_2,gk.eq_2]
  repeat' first|exact F.exp _ _|exact F.either _ _|exact F.bZ _ _ _|exact F.both _ _|exact F.dB _ _ _|exact F.test _ _|exact F.dC _ _ _|exact F.join _ _|exact F.sum _ _|exact F.fe _ _ _|exact F.term _ _|exact F.dD _ _ _|exact F.unary _ _|exact F.post _ _|exact F.dj _ _ _|exact F.args _ _ _ _|exact F.simple _ _|exact F.table _ _ _ _ _|exact F.field _ _ _|exact F.body _ _ _|exact F.params _ _ _|exact F.block _ _|exact F.cH _ _ _|exact F.stat _ _|exact F.cV _ _ _|exact F.cW _ _ _|exact F.cn _ _ _|exact F.do_ _ _ _|exact F.cq _ _ _|exact F.plain _ _ _|exact F.choice _ _ _ _ _|exact F.for_ _ _ _|exact F.cJ _ _ _ _ _ _|exact bz.rfl' _|apply bz.ite|refine bz.bind ?_ λ_ _=>?_
 sum i d:=by
  rw[lO.eq_2,lO.eq_2]
  repeat' first|exact F.exp _ _|exact F.either _ _|exact F.bZ _ _ _|exact F.both _ _|exact F.dB _ _ _|exact F.test _ _|exact F.dC _ _ _|exact F.join _ _|exact F.sum _ _|exact F.fe _ _ _|exact F.term _ _|exact F.dD _ _ _|exact F.unary _ _|exact F.post _ _|exact F.dj _ _ _|exact F.args _ _ _ _|exact F.simple _ _|exact F.table _ _ _ _ _|exact F.field _ _ _|exact F.body _ _ _|exact F.params _ _ _|exact F.block _ _|exact F.cH _ _ _|exact F.stat _ _|exact F.cV _ _ _|exact F.cW _ _ _|exact F.cn _ _ _|exact F.do_ _ _ _|exact F.cq _ _ _|exact F.plain _ _ _|exact F.choice _ _ _ _ _|exact F.for_ _ _ _|exact F.cJ _ _ _ _ _ _|exact bz.rfl' _|apply bz.ite|refine bz.bind ?_ λ_ _=>?_
 fe e i d:=by
  rw[jJ.eq_2,jJ.eq_2]
  repeat' first|exact F.exp _ _|exact F.either _ _|exact F.bZ _ _ _|exact F.both _ _|exact F.dB _ _ _|exact F.test _ _|exact F.dC _ _ _|exact F.join _ _|exact F.sum _ _|exact F.fe _ _ _|exact F.term _ _|exact F.dD _ _ _|exact F.unary _ _|exact F.post _ _|exact F.dj _ _ _|exact F.args _ _ _ _|exact F.simple _ _|exact F.table _ _ _ _ _|exact F.field _ _ _|exact F.body _ _ _|exact F.params _ _ _|exact F.block _ _|exact F.cH _ _ _|exact F.stat _ _|exact F.cV _ _ _|exact F.cW _ _ _|exact F.cn _ _ _|exact F.do_ _ _ _|exact F.cq _ _ _|exact F.plain _ _ _|exact F.choice _ _ _ _ _|exact F.for_ _ _ _|exact F.cJ _ _ _ _ _ _|exact bz.rfl' _|apply bz.ite|refine bz.bind ?_ λ_ _=>?_
 term i d:=by
  rw[jy.eq_2,jy.eq_2]
  repeat' first|exact F.exp _ _|exact F.either _ _|exact F.bZ _ _ _|exact F.both _ _|exact F.dB _ _ _|exact F.test _ _|exact F.dC _ _ _|exact F.join _ _|exact F.sum _ _|exact F.fe _ _ _|exact F.term _ _|exact F.dD _ _ _|exact F.unary _ _|exact F.post _ _|exact F.dj _ _ _|exact F.args _ _ _ _|exact F.simple _ _|exact F.table _ _ _ _ _|exact F.field _ _ _|exact F.body _ _ _|exact F.params _ _ _|exact F.block _ _|exact F.cH _ _ _|exact F.stat _ _|exact F.cV _ _ _|exact F.cW _ _ _|exact F.cn _ _ _|exact F.do_ _ _ _|exact F.cq _ _ _|exact F.plain _ _ _|exact F.choice _ _ _ _ _|exact F.for_ _ _ _|exact F.cJ _ _ _ _ _ _|exact bz.rfl' _|apply bz.ite|refine bz.bind ?_ λ_ _=>?_
 dD e i d:=by
  rw[iH.eq_2,iH.eq_2]
  repeat' first|exact F.exp _ _|exact F.either _ _|exact F.bZ _ _ _|exact F.both _ _|exact F.dB _ _ _|exact F.test _ _|exact F.dC _ _ _|exact F.join _ _|exact F.sum _ _|exact F.fe _ _ _|exact F.term _ _|exact F.dD _ _ _|exact F.unary _ _|exact F.post _ _|exact F.dj _ _ _|exact F.args _ _ _ _|exact F.simple _ _|exact F.table _ _ _ _ _|exact F.field _ _ _|exact F.body _ _ _|exact F.params _ _ _|exact F.block _ _|exact F.cH _ _ _|exact F.stat _ _|exact F.cV _ _ _|exact F.cW _ _ _|exact F.cn _ _ _|exact F.do_ _ _ _|exact F.cq _ _ _|exact F.plain _ _ _|exact F.choice _ _ _ _ _|exact F.for_ _ _ _|exact F.cJ _ _ _ _ _ _|exact bz.rfl' _|apply bz.ite|refine bz.bind ?_ λ_ _=>?_
 unary i d:=by
  rw[fk.eq_2,fk.eq_2]
  repeat' first|exact F.exp _ _|exact F.either _ _|exact F.bZ _ _ _|exact F.both _ _|exact F.dB _ _ _|exact F.test _ _|exact F.dC _ _ _|exact F.join _ _|exact F.sum _ _|exact F.fe _ _ _|exact F.term _ _|exact F.dD _ _ _|exact F.unary _ _|exact F.post _ _|exact F.dj _ _ _|exact F.args _ _ _ _|exact F.simple _ _|exact F.table _ _ _ _ _|exact F.field _ _ _|exact F.body _ _ _|exact F.params _ _ _|exact F.block _ _|exact F.cH _ _ _|exact F.stat _ _|exact F.cV _ _ _|exact F.cW _ _ _|exact F.cn _ _ _|exact F.do_ _ _ _|exact F.cq _ _ _|exact F.plain _ _ _|exact F.choice _ _ _ _ _|exact F.for_ _ _ _|exact F.cJ _ _ _ _ _ _|exact bz.rfl' _|apply bz.ite|refine bz.bind ?_ λ_ _=>?_
 post i d:=by
  rw[iI.eq_2,iI.eq_2]
  repeat' first|exact F.exp _ _|exact F.either _ _|exact F.bZ _ _ _|exact F.both _ _|exact F.dB _ _ _|exact F.test _ _|exact F.dC _ _ _|exact F.join _ _|exact F.sum _ _|exact F.fe _ _ _|exact F.term _ _|exact F.dD _ _ _|exact F.unary _ _|exact F.post _ _|exact F.dj _ _ _|exact F.args _ _ _ _|exact F.simple _ _|exact F.table _ _ _ _ _|exact F.field _ _ _|exact F.body _ _ _|exact F.params _ _ _|exact F.block _ _|exact F.cH _ _ _|exact F.stat _ _|exact F.cV _ _ _|exact F.cW _ _ _|exact F.cn _ _ _|exact F.do_ _ _ _|exact F.cq _ _ _|exact F.plain _ _ _|exact F.choice _ _ _ _ _|exact F.for_ _ _ _|exact F.cJ _ _ _ _ _ _|exact bz.rfl' _|apply bz.ite|refine bz.bind ?_ λ_ _=>?_
 dj e i d:=by
  rw[cF.eq_2,cF.eq_2]
  repeat' first|exact F.exp _ _|exact F.either _ _|exact F.bZ _ _ _|exact F.both _ _|exact F.dB _ _ _|exact F.test _ _|exact F.dC _ _ _|exact F.join _ _|exact F.sum _ _|exact F.fe _ _ _|exact F.term _ _|exact F.dD _ _ _|exact F.unary _ _|exact F.post _ _|exact F.dj _ _ _|exact F.args _ _ _ _|exact F.simple _ _|exact F.table _ _ _ _ _|exact F.field _ _ _|exact F.body _ _ _|exact F.params _ _ _|exact F.block _ _|exact F.cH _ _ _|exact F.stat _ _|exact F.cV _ _ _|exact F.cW _ _ _|exact F.cn _ _ _|exact F.do_ _ _ _|exact F.cq _ _ _|exact F.plain _ _ _|exact F.choice _ _ _ _ _|exact F.for_ _ _ _|exact F.cJ _ _ _ _ _ _|exact bz.rfl' _|apply bz.ite|refine bz.bind ?_ λ_ _=>?_
 args b out i d:=by
  rw[dH.eq_2,dH.eq_2]
  repeat' first|exact F.exp _ _|exact F.either _ _|exact F.bZ _ _ _|exact F.both _ _|exact F.dB _ _ _|exact F.test _ _|exact F.dC _ _ _|exact F.join _ _|exact F.sum _ _|exact F.fe _ _ _|exact F.term _ _|exact F.dD _ _ _|exact F.unary _ _|exact F.post _ _|exact F.dj _ _ _|exact F.args _ _ _ _|exact F.simple _ _|exact F.table _ _ _ _ _|exact F.field _ _ _|exact F.body _ _ _|exact F.params _ _ _|exact F.block _ _|exact F.cH _ _ _|exact F.stat _ _|exact F.cV _ _ _|exact F.cW _ _ _|exact F.cn _ _ _|exact F.do_ _ _ _|exact F.cq _ _ _|exact F.plain _ _ _|exact F.choice _ _ _ _ _|exact F.for_ _ _ _|exact F.cJ _ _ _ _ _ _|exact bz.rfl' _|apply bz.ite|refine bz.bind ?_ λ_ _=>?_
 simple i d:=by
  rw[dK.eq_2,dK.eq_2]
  repeat' first|exact F.exp _ _|exact F.either _ _|exact F.bZ _ _ _|exact F.both _ _|exact F.dB _ _ _|exact F.test _ _|exact F.dC _ _ _|exact F.join _ _|exact F.sum _ _|exact F.fe _ _ _|exact F.term _ _|exact F.dD _ _ _|exact F.unary _ _|exact F.post _ _|exact F.dj _ _ _|exact F.args _ _ _ _|exact F.simple _ _|exact F.table _ _ _ _ _|exact F.field _ _ _|exact F.body _ _ _|exact F.params _ _ _|exact F.block _ _|exact F.cH _ _ _|exact F.stat _ _|exact F.cV _ _ _|exact F.cW _ _ _|exact F.cn _ _ _|exact F.do_ _ _ _|exact F.cq _ _ _|exact F.plain _ _ _|exact F.choice _ _ _ _ _|exact F.for_ _ _ _|exact F.cJ _ _ _ _ _ _|exact bz.rfl' _|apply bz.ite|refine bz.bind ?_ λ_ _=>?_
 table out c a i d:=by
  rw[fx.eq_2,fx.eq_2]
  repeat' first|exact F.exp _ _|exact F.either _ _|exact F.bZ _ _ _|exact F.both _ _|exact F.dB _ _ _|exact F.test _ _|exact F.dC _ _ _|exact F.join _ _|exact F.sum _ _|exact F.fe _ _ _|exact F.term _ _|exact F.dD _ _ _|exact F.unary _ _|exact F.post _ _|exact F.dj _ _ _|exact F.args _ _ _ _|exact F.simple _ _|exact F.table _ _ _ _ _|exact F.field _ _ _|exact F.body _ _ _|exact F.params _ _ _|exact F.block _ _|exact F.cH _ _ _|exact F.stat _ _|exact F.cV _ _ _|exact F.cW _ _ _|exact F.cn _ _ _|exact F.do_ _ _ _|exact F.cq _ _ _|exact F.plain _ _ _|exact F.choice _ _ _ _ _|exact F.for_ _ _ _|exact F.cJ _ _ _ _ _ _|exact bz.rfl' _|apply bz.ite|refine bz.bind ?_ λ_ _=>?_
 field c i d:=by
  rw[ie.eq_2,ie.eq_2]
  repeat' first|exact F.exp _ _|exact F.either _ _|exact F.bZ _ _ _|exact F.both _ _|exact F.dB _ _ _|exact F.test _ _|exact F.dC _ _ _|exact F.join _ _|exact F.sum _ _|exact F.fe _ _ _|exact F.term _ _|exact F.dD _ _ _|exact F.unary _ _|exact F.post _ _|exact F.dj _ _ _|exact F.args _ _ _ _|exact F.simple _ _|exact F.table _ _ _ _ _|exact F.field _ _ _|exact F.body _ _ _|exact F.params _ _ _|exact F.block _ _|exact F.cH _ _ _|exact F.stat _ _|exact F.cV _ _ _|exact F.cW _ _ _|exact F.cn _ _ _|exact F.do_ _ _ _|exact F.cq _ _ _|exact F.plain _ _ _|exact F.choice _ _ _ _ _|exact F.for_ _ _ _|exact F.cJ _ _ _ _ _ _|exact bz.rfl' _|apply bz.ite|refine bz.bind ?_ λ_ _=>?_
 body a i d:=by
  rw[gY.eq_2,gY.eq_2]
  repeat' first|exact F.exp _ _|exact F.either _ _|exact F.bZ _ _ _|exact F.both _ _|exact F.dB _ _ _|exact F.test _ _|exact F.dC _ _ _|exact F.join _ _|exact F.sum _ _|exact F.fe _ _ _|exact F.term _ _|exact F.dD _ _ _|exact F.unary _ _|exact F.post _ _|exact F.dj _ _ _|exact F.args _ _ _ _|exact F.simple _ _|exact F.table _ _ _ _ _|exact F.field _ _ _|exact F.body _ _ _|exact F.params _ _ _|exact F.block _ _|exact F.cH _ _ _|exact F.stat _ _|exact F.cV _ _ _|exact F.cW _ _ _|exact F.cn _ _ _|exact F.do_ _ _ _|exact F.cq _ _ _|exact F.plain _ _ _|exact F.choice _ _ _ _ _|exact F.for_ _ _ _|exact F.cJ _ _ _ _ _ _|exact bz.rfl' _|apply bz.ite|refine bz.bind ?_ λ_ _=>?_
 params b out i:=by
  rw[bQ.eq_2,bQ.eq_2]
  repeat' first|exact F.exp _ _|exact F.either _ _|exact F.bZ _ _ _|exact F.both _ _|exact F.dB _ _ _|exact F.test _ _|exact F.dC _ _ _|exact F.join _ _|exact F.sum _ _|exact F.fe _ _ _|exact F.term _ _|exact F.dD _ _ _|exact F.unary _ _|exact F.post _ _|exact F.dj _ _ _|exact F.args _ _ _ _|exact F.simple _ _|exact F.table _ _ _ _ _|exact F.field _ _ _|exact F.body _ _ _|exact F.params _ _ _|exact F.block _ _|exact F.cH _ _ _|exact F.stat _ _|exact F.cV _ _ _|exact F.cW _ _ _|exact F.cn _ _ _|exact F.do_ _ _ _|exact F.cq _ _ _|exact F.plain _ _ _|exact F.choice _ _ _ _ _|exact F.for_ _ _ _|exact F.cJ _ _ _ _ _ _|exact bz.rfl' _|apply bz.ite|refine bz.bind ?_ λ_ _=>?_
 block i d:=by
  rw[cj.eq_2,cj.eq_2]
  repeat' first|exact F.exp _ _|exact F.either _ _|exact F.bZ _ _ _|exact F.both _ _|exact F.dB _ _ _|exact F.test _ _|exact F.dC _ _ _|exact F.join _ _|exact F.sum _ _|exact F.fe _ _ _|exact F.term _ _|exact F.dD _ _ _|exact F.unary _ _|exact F.post _ _|exact F.dj _ _ _|exact F.args _ _ _ _|exact F.simple _ _|exact F.table _ _ _ _ _|exact F.field _ _ _|exact F.body _ _ _|exact F.params _ _ _|exact F.block _ _|exact F.cH _ _ _|exact F.stat _ _|exact F.cV _ _ _|exact F.cW _ _ _|exact F.cn _ _ _|exact F.do_ _ _ _|exact F.cq _ _ _|exact F.plain _ _ _|exact F.choice _ _ _ _ _|exact F.for_ _ _ _|exact F.cJ _ _ _ _ _ _|exact bz.rfl' _|apply bz.ite|refine bz.bind ?_ λ_ _=>?_
 cH out i d:=by
  rw[bA.eq_2,bA.eq_2]
  repeat' first|exact F.exp _ _|exact F.either _ _|exact F.bZ _ _ _|exact F.both _ _|exact F.dB _ _ _|exact F.test _ _|exact F.dC _ _ _|exact F.join _ _|exact F.sum _ _|exact F.fe _ _ _|exact F.term _ _|exact F.dD _ _ _|exact F.unary _ _|exact F.post _ _|exact F.dj _ _ _|exact F.args _ _ _ _|exact F.simple _ _|exact F.table _ _ _ _ _|exact F.field _ _ _|exact F.body _ _ _|exact F.params _ _ _|exact F.block _ _|exact F.cH _ _ _|exact F.stat _ _|exact F.cV _ _ _|exact F.cW _ _ _|exact F.cn _ _ _|exact F.do_ _ _ _|exact F.cq _ _ _|exact F.plain _ _ _|exact F.choice _ _ _ _ _|exact F.for_ _ _ _|exact F.cJ _ _ _ _ _ _|exact bz.rfl' _|apply bz.ite|refine bz.bind ?_ λ_ _=>?_
 stat i d:=by
  rw[eW.eq_2,eW.eq_2]
  repeat' first|exact F.exp _ _|exact F.either _ _|exact F.bZ _ _ _|exact F.both _ _|exact F.dB _ _ _|exact F.test _ _|exact F.dC _ _ _|exact F.join _ _|exact F.sum _ _|exact F.fe _ _ _|exact F.term _ _|exact F.dD _ _ _|exact F.unary _ _|exact F.post _ _|exact F.dj _ _ _|exact F.args _ _ _ _|exact F.simple _ _|exact F.table _ _ _ _ _|exact F.field _ _ _|exact F.body _ _ _|exact F.params _ _ _|exact F.block _ _|exact F.cH _ _ _|exact F.stat _ _|exact F.cV _ _ _|exact F.cW _ _ _|exact F.cn _ _ _|exact F.do_ _ _ _|exact F.cq _ _ _|exact F.plain _ _ _|exact F.choice _ _ _ _ _|exact F.for_ _ _ _|exact F.cJ _ _ _ _ _ _|exact bz.rfl' _|apply bz.ite|refine bz.bind ?_ λ_ _=>?_
 cV a i d:=by
  rw[gV.eq_2,gV.eq_2]
  repeat' first|exact F.exp _ _|exact F.either _ _|exact F.bZ _ _ _|exact F.both _ _|exact F.dB _ _ _|exact F.test _ _|exact F.dC _ _ _|exact F.join _ _|exact F.sum _ _|exact F.fe _ _ _|exact F.term _ _|exact F.dD _ _ _|exact F.unary _ _|exact F.post _ _|exact F.dj _ _ _|exact F.args _ _ _ _|exact F.simple _ _|exact F.table _ _ _ _ _|exact F.field _ _ _|exact F.body _ _ _|exact F.params _ _ _|exact F.block _ _|exact F.cH _ _ _|exact F.stat _ _|exact F.cV _ _ _|exact F.cW _ _ _|exact F.cn _ _ _|exact F.do_ _ _ _|exact F.cq _ _ _|exact F.plain _ _ _|exact F.choice _ _ _ _ _|exact F.for_ _ _ _|exact F.cJ _ _ _ _ _ _|exact bz.rfl' _|apply bz.ite|refine bz.bind ?_ λ_ _=>?_
 cW a i d:=by
  rw[iJ.eq_2,iJ.eq_2]
  repeat' first|exact F.exp _ _|exact F.either _ _|exact F.bZ _ _ _|exact F.both _ _|exact F.dB _ _ _|exact F.test _ _|exact F.dC _ _ _|exact F.join _ _|exact F.sum _ _|exact F.fe _ _ _|exact F.term _ _|exact F.dD _ _ _|exact F.unary _ _|exact F.post _ _|exact F.dj _ _ _|exact F.args _ _ _ _|exact F.simple _ _|exact F.table _ _ _ _ _|exact F.field _ _ _|exact F.body _ _ _|exact F.params _ _ _|exact F.block _ _|exact F.cH _ _ _|exact F.stat _ _|exact F.cV _ _ _|exact F.cW _ _ _|exact F.cn _ _ _|exact F.do_ _ _ _|exact F.cq _ _ _|exact F.plain _ _ _|exact F.choice _ _ _ _ _|exact F.for_ _ _ _|exact F.cJ _ _ _ _ _ _|exact bz.rfl' _|apply bz.ite|refine bz.bind ?_ λ_ _=>?_
 cn a i d:=by
  rw[gE.eq_2,gE.eq_2]
  repeat' first|exact F.exp _ _|exact F.either _ _|exact F.bZ _ _ _|exact F.both _ _|exact F.dB _ _ _|exact F.test _ _|exact F.dC _ _ _|exact F.join _ _|exact F.sum _ _|exact F.fe _ _ _|exact F.term _ _|exact F.dD _ _ _|exact F.unary _ _|exact F.post _ _|exact F.dj _ _ _|exact F.args _ _ _ _|exact F.simple _ _|exact F.table _ _ _ _ _|exact F.field _ _ _|exact F.body _ _ _|exact F.params _ _ _|exact F.block _ _|exact F.cH _ _ _|exact F.stat _ _|exact F.cV _ _ _|exact F.cW _ _ _|exact F.cn _ _ _|exact F.do_ _ _ _|exact F.cq _ _ _|exact F.plain _ _ _|exact F.choice _ _ _ _ _|exact F.for_ _ _ _|exact F.cJ _ _ _ _ _ _|exact bz.rfl' _|apply bz.ite|refine bz.bind ?_ λ_ _=>?_
 do_ a i d:=by
  rw[oD.eq_2,oD.eq_2]
  repeat' first|exact F.exp _ _|exact F.either _ _|exact F.bZ _ _ _|exact F.both _ _|exact F.dB _ _ _|exact F.test _ _|exact F.dC _ _ _|exact F.join _ _|exact F.sum _ _|exact F.fe _ _ _|exact F.term _ _|exact F.dD _ _ _|exact F.unary _ _|exact F.post _ _|exact F.dj _ _ _|exact F.args _ _ _ _|exact F.simple _ _|exact F.table _ _ _ _ _|exact F.field _ _ _|exact F.body _ _ _|exact F.params _ _ _|exact F.block _ _|exact F.cH _ _ _|exact F.stat _ _|exact F.cV _ _ _|exact F.cW _ _ _|exact F.cn _ _ _|exact F.do_ _ _ _|exact F.cq _ _ _|exact F.plain _ _ _|exact F.choice _ _ _ _ _|exact F.for_ _ _ _|exact F.cJ _ _ _ _ _ _|exact bz.rfl' _|apply bz.ite|refine bz.bind ?_ λ_ _=>?_
 cq a i d:=by
  rw[ig.eq_2,ig.eq_2]
  repeat' first|exact F.exp _ _|exact F.either _ _|exact F.bZ _ _ _|exact F.both _ _|exact F.dB _ _ _|exact F.test _ _|exact F.dC _ _ _|exact F.join _ _|exact F.sum _ _|exact F.fe _ _ _|exact F.term _ _|exact F.dD _ _ _|exact F.unary _ _|exact F.post _ _|exact F.dj _ _ _|exact F.args _ _ _ _|exact F.simple _ _|exact F.table _ _ _ _ _|exact F.field _ _ _|exact F.body _ _ _|exact F.params _ _ _|exact F.block _ _|exact F.cH _ _ _|exact F.stat _ _|exact F.cV _ _ _|exact F.cW _ _ _|exact F.cn _ _ _|exact F.do_ _ _ _|exact F.cq _ _ _|exact F.plain _ _ _|exact F.choice _ _ _ _ _|exact F.for_ _ _ _|exact F.cJ _ _ _ _ _ _|exact bz.rfl' _|apply bz.ite|refine bz.bind ?_ λ_ _=>?_
 plain a i d:=by
  rw[gH.eq_2,gH.eq_2]
  repeat' first|exact F.exp _ _|exact F.either _ _|exact F.bZ _ _ _|exact F.both _ _|exact F.dB _ _ _|exact F.test _ _|exact F.dC _ _ _|exact F.join _ _|exact F.sum _ _|exact F.fe _ _ _|exact F.term _ _|exact F.dD _ _ _|exact F.unary _ _|exact F.post _ _|exact F.dj _ _ _|exact F.args _ _ _ _|exact F.simple _ _|exact F.table _ _ _ _ _|exact F.field _ _ _|exact F.body _ _ _|exact F.params _ _ _|exact F.block _ _|exact F.cH _ _ _|exact F.stat _ _|exact F.cV _ _ _|exact F.cW _ _ _|exact F.cn _ _ _|exact F.do_ _ _ _|exact F.cq _ _ _|exact F.plain _ _ _|exact F.choice _ _ _ _ _|exact F.for_ _ _ _|exact F.cJ _ _ _ _ _ _|exact bz.rfl' _|apply bz.ite|refine bz.bind ?_ λ_ _=>?_
 choice a l bs i d:=by
  rw[eS.eq_2,eS.eq_2]
  repeat' first|exact F.exp _ _|exact F.either _ _|exact F.bZ _ _ _|exact F.both _ _|exact F.dB _ _ _|exact F.test _ _|exact F.dC _ _ _|exact F.join _ _|exact F.sum _ _|exact F.fe _ _ _|exact F.term _ _|exact F.dD _ _ _|exact F.unary _ _|exact F.post _ _|exact F.dj _ _ _|exact F.args _ _ _ _|exact F.simple _ _|exact F.table _ _ _ _ _|exact F.field _ _ _|exact F.body _ _ _|exact F.params _ _ _|exact F.block _ _|exact F.cH _ _ _|exact F.stat _ _|exact F.cV _ _ _|exact F.cW _ _ _|exact F.cn _ _ _|exact F.do_ _ _ _|exact F.cq _ _ _|exact F.plain _ _ _|exact F.choice _ _ _ _ _|exact F.for_ _ _ _|exact F.cJ _ _ _ _ _ _|exact bz.rfl' _|apply bz.ite|refine bz.bind ?_ λ_ _=>?_
 for_ a i d:=by
  rw[lP.eq_2,lP.eq_2]
  repeat' first|exact F.exp _ _|exact F.either _ _|exact F.bZ _ _ _|exact F.both _ _|exact F.dB _ _ _|exact F.test _ _|exact F.dC _ _ _|exact F.join _ _|exact F.sum _ _|exact F.fe _ _ _|exact F.term _ _|exact F.dD _ _ _|exact F.unary _ _|exact F.post _ _|exact F.dj _ _ _|exact F.args _ _ _ _|exact F.simple _ _|exact F.table _ _ _ _ _|exact F.field _ _ _|exact F.body _ _ _|exact F.params _ _ _|exact F.block _ _|exact F.cH _ _ _|exact F.stat _ _|exact F.cV _ _ _|exact F.cW _ _ _|exact F.cn _ _ _|exact F.do_ _ _ _|exact F.cq _ _ _|exact F.plain _ _ _|exact F.choice _ _ _ _ _|exact F.for_ _ _ _|exact F.cJ _ _ _ _ _ _|exact bz.rfl' _|apply bz.ite|refine bz.bind ?_ λ_ _=>?_
 cJ k a ns l i d:=by
  rw[cD.eq_2,cD.eq_2]
  repeat' first|exact F.exp _ _|exact F.either _ _|exact F.bZ _ _ _|exact F.both _ _|exact F.dB _ _ _|exact F.test _ _|exact F.dC _ _ _|exact F.join _ _|exact F.sum _ _|exact F.fe _ _ _|exact F.term _ _|exact F.dD _ _ _|exact F.unary _ _|exact F.post _ _|exact F.dj _ _ _|exact F.args _ _ _ _|exact F.simple _ _|exact F.table _ _ _ _ _|exact F.field _ _ _|exact F.body _ _ _|exact F.params _ _ _|exact F.block _ _|exact F.cH _ _ _|exact F.stat _ _|exact F.cV _ _ _|exact F.cW _ _ _|exact F.cn _ _ _|exact F.do_ _ _ _|exact F.cq _ _ _|exact F.plain _ _ _|exact F.choice _ _ _ _ _|exact F.for_ _ _ _|exact F.cJ _ _ _ _ _ _|exact bz.rfl' _|apply bz.ite|refine bz.bind ?_ λ_ _=>?_
theorem aco:∀n,Mn T n
 |0=>mn0
 |n+1=>mnS (aco n)
theorem Nz{n m i d:Nat}{out:List az}(h:n≤m)(h0:bA T n out i d≠.bb):bA T m out i d=bA T n out i d:=by
 induction h with
 |refl=>rfl
 |step h ih=>
  rename_i m;rcases(aco (T:=T) m).cH out i d with g|g
  ·rw[ih]at g;exact absurd g h0
  ·rw[←g,ih]
end
def builtins:List (List Nat):=[[116,121,112,101],[101,114,114,111,114],[112,99,97,108,108],[99,114,101,97,116,101],[114,101,115,117,109,101],[121,105,101,108,100],[115,116,97,116,117,115],[116,111,115,116,114,105,110,103],[116,111,105,110,116],[115,117,98],[98,121,116,101],[99,104,97,114],[114,101,112],[117,112,112,101,114],[108,111,119,101,114],[114,101,118,101,114,115,101],[102,105,110,100],[105,110,115,101,114,116],[114,101,109,111,118,101],[107,101,121,115],[106,111,105,110],[99,97,108,108]]
def aql(ns out:List (List Nat))(s:List Nat):List (List Nat):=if s∈ns then out else if s∈builtins then out else if s∈out then out else out++[s]
mutual
def oE:Nat→List (List Nat)→List (List Nat)→au→List (List Nat)
 |0,_,out,_=>out
 |n+1,ns,out,.mk k _ _ s _ l f=>f.foldl (oF n ns) (l.foldl (oE n ns) (if k=6 then aql ns out s else out))
def oF:Nat→List (List Nat)→List (List Nat)→fm→List (List Nat)
 |0,_,out,_=>out
 |n+1,ns,out,.mk ps b=>oW n ns ps b [] out
def oW:Nat→List (List Nat)→List (List Nat)→List az→List au→List (List Nat)→List (List Nat)
 |0,_,_,_,_,out=>out
 |n+1,ns,names,b,thn,out=>thn.foldl (oE n (b.foldl (oS n) (ns++names,out)).1) (b.foldl (oS n) (ns++names,out)).2
def oS:Nat→List (List Nat)×List (List Nat)→az→List (List Nat)×List (List Nat)
 |0,r,_=>r
 |n+1,r,.mk k _ names l bs=>
  if k=1 then (r.1++names,l.foldl (oE n r.1) r.2)
  else if k=12 then (r.1++names,l.foldl (oE n (r.1++names)) r.2)
  else if k=8 then (r.1,bs.foldl (λo b=>oW n r.1 [] b l o) r.2)
  else if k=4 then (r.1,(List.range bs.length).foldl (λo i=>oW n r.1 [] (bs[i]?.getD []) [] (match l[i]? with|some e=>oE n r.1 o e|none=>o)) r.2)
  else (r.1,bs.foldl (λo b=>oW n r.1 names b [] o) (l.foldl (oE n r.1) r.2))
end
mutual
def au.wf:au→Prop
 |.mk _ _ _ _ _ l f=>qW l∧ani f
def qW:List au→Prop
 |[]=>True
 |e::l=>e.wf∧qW l
def fm.wf:fm→Prop
 |.mk _ b=>yu b
def ani:List fm→Prop
 |[]=>True
 |e::l=>e.wf∧ani l
def az.wf:az→Prop
 |.mk k _ ns l bs=>(k=8→bs.length≤1)∧((k=1∨k=12)→bs=[])∧(k≠1→k≠6→k≠7→k≠12→ns=[])∧qW l∧aea bs
def yu:List az→Prop
 |[]=>True
 |e::l=>e.wf∧yu l
def aea:List (List az)→Prop
 |[]=>True
 |e::l=>yu e∧aea l
end
section
variable {T:List Tok}
structure cU{β:Type}(P:β→Prop)(r:ak β):Prop where
 h:∀v j,r=.ok v j→P v
theorem cU.bind{β γ:Type}{P:β→Prop}{P2:γ→Prop}{r:ak β}{f:β→Nat→ak γ}(h:cU P r)(hf:∀v j,P v→cU P2 (f v j)):cU P2 (r.bind f):=by
 refine⟨λv j e=>?_⟩;obtain⟨a,i,e1,e2⟩:=Ml e;exact(hf a i (h.h a i e1)).h v j e2
theorem cU.ok{β:Type}{P:β→Prop}{v:β}{i:Nat}(h:P v):cU P (.ok v i):=⟨λw j e=>by cases e;exact h⟩
theorem cU.err{β:Type}{P:β→Prop}{c i:Nat}:cU P (.err c i):=⟨λw j e=>by cases e⟩
theorem cU.ite{β:Type}{P:β→Prop}{c:Prop}[Decidable c]{a b:ak β}(h1:cU P a)(h2:cU P b):cU P (if c then a else b):=by
 split
 ·exact h1
 ·exact h2
structure QU{β:Type}(x:β):Prop where
 h:True
structure QE(e:au):Prop where
 h:e.wf
structure QEs(l:List au):Prop where
 h:qW l
structure QP(p:List au×Nat):Prop where
 h:qW p.1
structure QSs(l:List az):Prop where
 h:yu l
structure zJ(s:az):Prop where
 h:s.wf
theorem cU.must{s:List Nat}{i:Nat}:cU QU (aS T s i):=⟨λ_ _ _=>⟨trivial⟩⟩
theorem cU.name{i:Nat}:cU QU (ey T i):=⟨λ_ _ _=>⟨trivial⟩⟩
structure Wfn(T:List Tok)(n:Nat):Prop where
 exp:∀i d,cU QE (bP T n i d)
 either:∀i d,cU QE (gd T n i d)
 both:∀i d,cU QE (jw T n i d)
 test:∀i d,cU QE (jx T n i d)
 join:∀i d,cU QE (gk T n i d)
 sum:∀i d,cU QE (lO T n i d)
 term:∀i d,cU QE (jy T n i d)
 unary:∀i d,cU QE (fk T n i d)
 post:∀i d,cU QE (iI T n i d)
 simple:∀i d,cU QE (dK T n i d)
 bZ:∀e i d,e.wf→cU QE (fN T n e i d)
 dB:∀e i d,e.wf→cU QE (iF T n e i d)
 dC:∀e i d,e.wf→cU QE (iG T n e i d)
 fe:∀e i d,e.wf→cU QE (jJ T n e i d)
 dD:∀e i d,e.wf→cU QE (iH T n e i d)
 dj:∀e i d,e.wf→cU QE (cF T n e i d)
 args:∀b out i d,qW out→cU QEs (dH T n b out i d)
 table:∀out c a i d,qW out→cU QE (fx T n out c a i d)
 field:∀c i d,cU QP (ie T n c i d)
 body:∀a i d,cU QE (gY T n a i d)
 params:∀b out i,cU QU (bQ T n b out i)
 block:∀i d,cU QSs (cj T n i d)
 cH:∀out i d,yu out→cU QSs (bA T n out i d)
 stat:∀i d,cU zJ (eW T n i d)
 cV:∀a i d,cU zJ (gV T n a i d)
 cW:∀a i d,cU zJ (iJ T n a i d)
 cn:∀a i d,cU zJ (gE T n a i d)
 do_:∀a i d,cU zJ (oD T n a i d)
 cq:∀a i d,cU zJ (ig T n a i d)
 plain:∀a i d,cU zJ (gH T n a i d)
 for_:∀a i d,cU zJ (lP T n a i d)
 choice:∀a l bs i d,qW l→aea bs→cU zJ (eS T n a l bs i d)
 cJ:∀k a ns l i d,(k=6∨k=7)→qW l→cU zJ (cD T n k a ns l i d)
end
section
variable {T1 T B:List Tok}{α κ:Nat}
theorem Ew{T:List Tok}{a:List az}{j m:Nat}(hT:lQ T)(h:bA T m [] 0 1=.ok a j)(hm:64*T.length+63≤m)(hk:bW T j=0):kr T=.ok a j:=by
 have hne:=Ev hT;have e:cj T (64*T.length+64) 0 0=bA T (64*T.length+63) [] 0 1:=by
  rw[show 64*T.length+64=(64*T.length+63)+1 by omega,cj.eq_2,if_neg (by omega)]
 unfold kr at hne ⊢;rw[e]at hne ⊢;have h0:bA T (64*T.length+63) [] 0 1≠.bb:=λq=>by rw[q]at hne;exact hne rfl
 rw[←Nz hm h0,h];show(if bW T j=0 then _ else _)=_;rw[if_pos hk]
end
end Go.X
