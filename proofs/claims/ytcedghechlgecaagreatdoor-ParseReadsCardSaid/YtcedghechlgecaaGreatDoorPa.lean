/- The grammar with fuel, how great what it gives is, how scripts lie in memory, the state of a parser. No condition: lemmas. -/
import Derived.Test.YtcedghechlgecaaGreatDoorGb
set_option maxRecDepth 100000
set_option maxHeartbeats 0
set_option linter.unusedVariables false
set_option linter.unusedSimpArgs false
namespace Go.X
section
mutual
inductive aC where
 |mk (kind at_ n:Nat) (s:List Nat) (op:Nat) (l:List aC) (f:List iP)
inductive iP where
 |mk (params:List (List Nat)) (body:List aS)
inductive aS where
 |mk (kind at_:Nat) (names:List (List Nat)) (l:List aC) (blocks:List (List aS))
end
def aC.kind:aC→Nat
 |.mk k ..=>k
def aS.kind:aS→Nat
 |.mk k ..=>k
inductive ay(α:Type) where
 |ok (a:α) (i:Nat)
 |err (c i:Nat)
 |bA
def ay.bind{α β:Type}(r:ay α)(f:α→Nat→ay β):ay β:=match r with
 |.ok a i=>f a i
 |.err c i=>.err c i
 |.bA=>.bA
def bH(T:List Tok)(i:Nat):Nat:=match T[i]? with|some t=>t.kind|none=>0
def dR(T:List Tok)(i:Nat):List Nat:=match T[i]? with|some t=>t.text|none=>[]
def aq(T:List Tok)(i:Nat):Nat:=match T[i]? with|some t=>t.pos|none=>0
def xj(T:List Tok)(i:Nat):Nat:=match T[i]? with|some t=>t.n|none=>0
def isA(T:List Tok)(s:List Nat)(i:Nat):Bool:=(decide (bH T i=1)||decide (bH T i=5))&&decide (dR T i=s)
def aW(T:List Tok)(s:List Nat)(i:Nat):ay Unit:=if isA T s i then .ok () (i+1) else .err 14 i
def eF(T:List Tok)(i:Nat):ay (List Nat):=if bH T i=2 then .ok (dR T i) (i+1) else .err 14 i
def jz(T:List Tok)(i:Nat):Nat→List (List Nat)→Nat
 |_,[]=>0
 |f,s::l=>if isA T s i then f else jz T i (f+1) l
def eG(T:List Tok)(i:Nat):Bool:=isA T [101,110,100] i||(isA T [101,108,115,101] i||(isA T [101,108,115,101,105,102] i||(isA T [117,110,116,105,108] i||decide (bH T i=0))))
def lT(kind op at_:Nat)(a b:aC):aC:=.mk kind at_ 0 [] op [a,b] []
def dF(T:List Tok)(s:List Nat)(i:Nat):Nat:=if isA T s i then i+1 else i
def s7(T:List Tok)(i:Nat):Nat:=if isA T [110,111,116] i then 11 else if isA T [45] i then 12 else if isA T [35] i then 13 else 0
def tests:List (List Nat):=[[61,61],[126,61],[60],[60,61],[62],[62,61]]
def sums:List (List Nat):=[[43],[45]]
def terms:List (List Nat):=[[42],[47,47],[37]]
def jY(T:List Tok)(i:Nat):Nat:=if isA T [110,105,108] i then 1 else if isA T [116,114,117,101] i then 2 else if isA T [102,97,108,115,101] i then 3 else 0
variable (T:List Tok)
mutual
def bY:Nat→Nat→Nat→ay aC
 |0,_,_=>.bA
 |n+1,i,d=>if 100<d+1 then .err 8 i else iI n i (d+1)
def iI:Nat→Nat→Nat→ay aC
 |0,_,_=>.bA
 |n+1,i,d=>(lI n i d).bind λe j=>iW n e j d
def iW:Nat→aC→Nat→Nat→ay aC
 |0,_,_,_=>.bA
 |n+1,e,i,d=>if isA T [111,114] i then (lI n (i+1) d).bind λb j=>iW n (lT 16 0 (aq T i) e b) j d else .ok e i
def lI:Nat→Nat→Nat→ay aC
 |0,_,_=>.bA
 |n+1,i,d=>(lJ n i d).bind λe j=>lK n e j d
def lK:Nat→aC→Nat→Nat→ay aC
 |0,_,_,_=>.bA
 |n+1,e,i,d=>if isA T [97,110,100] i then (lJ n (i+1) d).bind λb j=>lK n (lT 15 0 (aq T i) e b) j d else .ok e i
def lJ:Nat→Nat→Nat→ay aC
 |0,_,_=>.bA
 |n+1,i,d=>(iy n i d).bind λe j=>lL n e j d
def lL:Nat→aC→Nat→Nat→ay aC
 |0,_,_,_=>.bA
 |n+1,e,i,d=>if jz T i 7 tests=0 then .ok e i else (iy n (i+1) d).bind λb j=>lL n (lT 14 (jz T i 7 tests) (aq T i) e b) j d
def iy:Nat→Nat→Nat→ay aC
 |0,_,_=>.bA
 |n+1,i,d=>(oJ n i d).bind λe j=>if isA T [46,46] j then (if 100<d+1 then .err 8 (j+1) else (iy n (j+1) (d+1)).bind λb k=>.ok (lT 14 6 (aq T j) e b) k) else .ok e j
def oJ:Nat→Nat→Nat→ay aC
 |0,_,_=>.bA
 |n+1,i,d=>(lM n i d).bind λe j=>nC n e j d
def nC:Nat→aC→Nat→Nat→ay aC
 |0,_,_,_=>.bA
 |n+1,e,i,d=>if jz T i 1 sums=0 then .ok e i else (lM n (i+1) d).bind λb j=>nC n (lT 14 (jz T i 1 sums) (aq T i) e b) j d
def lM:Nat→Nat→Nat→ay aC
 |0,_,_=>.bA
 |n+1,i,d=>(gv n i d).bind λe j=>lN n e j d
def lN:Nat→aC→Nat→Nat→ay aC
 |0,_,_,_=>.bA
 |n+1,e,i,d=>if jz T i 3 terms=0 then .ok e i else (gv n (i+1) d).bind λb j=>lN n (lT 14 (jz T i 3 terms) (aq T i) e b) j d
def gv:Nat→Nat→Nat→ay aC
 |0,_,_=>.bA
 |n+1,i,d=>if s7 T i=0 then jZ n i d else if 100<d+1 then .err 8 (i+1) else (gv n (i+1) (d+1)).bind λe j=>.ok (.mk (s7 T i) (aq T i) 0 [] 0 [e] []) j
def jZ:Nat→Nat→Nat→ay aC
 |0,_,_=>.bA
 |n+1,i,d=>if bH T i=2∨isA T [40] i=true then (eZ n i d).bind λe j=>dj n e j d else eZ n i d
def dj:Nat→aC→Nat→Nat→ay aC
 |0,_,_,_=>.bA
 |n+1,e,i,d=>
  if isA T [46] i then (eF T (i+1)).bind λs j=>dj n (lT 9 0 (aq T i) e (.mk 5 (aq T (i+1)) 0 s 0 [] [])) j d
  else if isA T [91] i then (bY n (i+1) d).bind λk j=>(aW T [93] j).bind λ_ j=>dj n (lT 9 0 (aq T i) e k) j d
  else if isA T [40] i then (dt n true [] (i+1) d).bind λl j=>dj n (.mk 10 (aq T i) 0 [] 0 (e::l) []) j d
  else .ok e i
def dt:Nat→Bool→List aC→Nat→Nat→ay (List aC)
 |0,_,_,_,_=>.bA
 |n+1,first,out,i,d=>
  if (if first then !isA T [41] i else isA T [44] i) then
   (if out.length=16 then .err 8 (if first then i else i+1) else (bY n (if first then i else i+1) d).bind λe j=>dt n false (out++[e]) j d)
  else (aW T [41] i).bind λ_ j=>.ok out j
def eZ:Nat→Nat→Nat→ay aC
 |0,_,_=>.bA
 |n+1,i,d=>
  if bH T i=3 then .ok (.mk 4 (aq T i) (xj T i) [] 0 [] []) (i+1)
  else if bH T i=4 then .ok (.mk 5 (aq T i) 0 (dR T i) 0 [] []) (i+1)
  else if bH T i=2 then .ok (.mk 6 (aq T i) 0 (dR T i) 0 [] []) (i+1)
  else if jY T i≠0 then .ok (.mk (jY T i) (aq T i) 0 [] 0 [] []) (i+1)
  else if isA T [102,117,110,99,116,105,111,110] i then jJ n (aq T i) (i+1) d
  else if isA T [123] i then fJ n [] 0 (aq T i) (i+1) d
  else if isA T [40] i then (bY n (i+1) d).bind λe j=>(aW T [41] j).bind λ_ j=>.ok e j
  else .err 14 i
def fJ:Nat→List aC→Nat→Nat→Nat→Nat→ay aC
 |0,_,_,_,_,_=>.bA
 |n+1,out,c,a,i,d=>
  if isA T [125] i then .ok (.mk 8 a 0 [] 0 out []) (i+1)
  else if out.length=128 then .err 8 i
  else (iq n c i d).bind λr j=>if isA T [44] j∨isA T [59] j then fJ n (out++r.1) r.2 a (j+1) d else (aW T [125] j).bind λ_ k=>.ok (.mk 8 a 0 [] 0 (out++r.1) []) k
def iq:Nat→Nat→Nat→Nat→ay (List aC×Nat)
 |0,_,_,_=>.bA
 |n+1,c,i,d=>
  if isA T [91] i then (bY n (i+1) d).bind λk j=>(aW T [93] j).bind λ_ j=>(aW T [61] j).bind λ_ j=>(bY n j d).bind λv j=>.ok ([k,v],c) j
  else if bH T i=2∧bH T (i+1)=5∧dR T (i+1)=[61] then (bY n (i+2) d).bind λv j=>.ok ([.mk 5 (aq T i) 0 (dR T i) 1 [] [],v],c) j
  else (bY n i d).bind λv j=>.ok ([.mk 4 (aq T i) (c+1) [] 1 [] [],v],c+1) j
def jJ:Nat→Nat→Nat→Nat→ay aC
 |0,_,_,_=>.bA
 |n+1,a,i,d=>(aW T [40] i).bind λ_ j=>(cL n true [] j).bind λps j=>(cF n j d).bind λb j=>(aW T [101,110,100] j).bind λ_ j=>.ok (.mk 7 a 0 [] 0 [] [.mk ps b]) j
def cL:Nat→Bool→List (List Nat)→Nat→ay (List (List Nat))
 |0,_,_,_=>.bA
 |n+1,first,out,i=>
  if (if first then !isA T [41] i else isA T [44] i) then
   (if out.length=16 then .err 8 (if first then i else i+1) else (eF T (if first then i else i+1)).bind λs j=>cL n false (out++[s]) j)
  else (aW T [41] i).bind λ_ j=>.ok out j
def cF:Nat→Nat→Nat→ay (List aS)
 |0,_,_=>.bA
 |n+1,i,d=>if 100<d+1 then .err 8 i else cS n [] i (d+1)
def cS:Nat→List aS→Nat→Nat→ay (List aS)
 |0,_,_,_=>.bA
 |n+1,out,i,d=>
  if eG T i then .ok out i
  else (gC n i d).bind λs j=>if s.kind=10∧eG T (dF T [59] j)=false then .err 14 (dF T [59] j) else cS n (out++[s]) (dF T [59] j) d
def gC:Nat→Nat→Nat→ay aS
 |0,_,_=>.bA
 |n+1,i,d=>
  if isA T [108,111,99,97,108] i then jS n (aq T i) (i+1) d
  else if isA T [105,102] i then fk n (aq T i) [] [] (i+1) d
  else if isA T [119,104,105,108,101] i then lO n (aq T i) (i+1) d
  else if isA T [114,101,112,101,97,116] i then j0 n (aq T i) (i+1) d
  else if isA T [102,111,114] i then nX n (aq T i) (i+1) d
  else if isA T [98,114,101,97,107] i then .ok (.mk 9 (aq T i) [] [] []) (i+1)
  else if isA T [100,111] i then wP n (aq T i) (i+1) d
  else if isA T [114,101,116,117,114,110] i then lk n (aq T i) (i+1) d
  else if bH T i=2 then iJ n (aq T i) i d
  else .err 14 i
def jS:Nat→Nat→Nat→Nat→ay aS
 |0,_,_,_=>.bA
 |n+1,a,i,d=>
  if isA T [102,117,110,99,116,105,111,110] i then (eF T (i+1)).bind λs j=>(jJ n (aq T j) j d).bind λb j=>.ok (.mk 12 a [s] [b] []) j
  else (eF T i).bind λs j=>if isA T [61] j then (bY n (j+1) d).bind λe k=>.ok (.mk 1 a [s] [e] []) k else .ok (.mk 1 a [s] [] []) j
def lO:Nat→Nat→Nat→Nat→ay aS
 |0,_,_,_=>.bA
 |n+1,a,i,d=>(bY n i d).bind λe j=>(aW T [100,111] j).bind λ_ j=>(cF n j d).bind λb j=>(aW T [101,110,100] j).bind λ_ j=>.ok (.mk 5 a [] [e] [b]) j
def j0:Nat→Nat→Nat→Nat→ay aS
 |0,_,_,_=>.bA
 |n+1,a,i,d=>(cF n i d).bind λb j=>(aW T [117,110,116,105,108] j).bind λ_ j=>(bY n j d).bind λe j=>.ok (.mk 8 a [] [e] [b]) j
def wP:Nat→Nat→Nat→Nat→ay aS
 |0,_,_,_=>.bA
 |n+1,a,i,d=>(cF n i d).bind λb j=>(aW T [101,110,100] j).bind λ_ j=>.ok (.mk 11 a [] [] [b]) j
def lk:Nat→Nat→Nat→Nat→ay aS
 |0,_,_,_=>.bA
 |n+1,a,i,d=>if isA T [59] i=true∨eG T i=true then .ok (.mk 10 a [] [] []) i else (bY n i d).bind λe j=>.ok (.mk 10 a [] [e] []) j
def iJ:Nat→Nat→Nat→Nat→ay aS
 |0,_,_,_=>.bA
 |n+1,a,i,d=>(jZ n i d).bind λe j=>if e.kind=10 then .ok (.mk 3 a [] [e] []) j else (aW T [61] j).bind λ_ j=>(bY n j d).bind λv j=>.ok (.mk 2 a [] [e,v] []) j
def fk:Nat→Nat→List aC→List (List aS)→Nat→Nat→ay aS
 |0,_,_,_,_,_=>.bA
 |n+1,a,l,bs,i,d=>(bY n i d).bind λe j=>(aW T [116,104,101,110] j).bind λ_ j=>(cF n j d).bind λb j=>
  if isA T [101,108,115,101,105,102] j then fk n a (l++[e]) (bs++[b]) (j+1) d
  else if isA T [101,108,115,101] j then (cF n (j+1) d).bind λb2 j=>(aW T [101,110,100] j).bind λ_ j=>.ok (.mk 4 a [] (l++[e]) (bs++[b]++[b2])) j
  else (aW T [101,110,100] j).bind λ_ j=>.ok (.mk 4 a [] (l++[e]) (bs++[b])) j
def nX:Nat→Nat→Nat→Nat→ay aS
 |0,_,_,_=>.bA
 |n+1,a,i,d=>(eF T i).bind λs j=>
  if isA T [44] j then (eF T (j+1)).bind λs2 j=>(aW T [105,110] j).bind λ_ j=>(bY n j d).bind λe j=>de n 7 a [s,s2] [e] j d
  else (aW T [61] j).bind λ_ j=>(bY n j d).bind λe j=>(aW T [44] j).bind λ_ j=>(bY n j d).bind λe2 j=>
   if isA T [44] j then (bY n (j+1) d).bind λe3 j=>de n 6 a [s] [e,e2,e3] j d
   else de n 6 a [s] [e,e2] j d
def de:Nat→Nat→Nat→List (List Nat)→List aC→Nat→Nat→ay aS
 |0,_,_,_,_,_,_=>.bA
 |n+1,k,a,ns,l,i,d=>(aW T [100,111] i).bind λ_ j=>(cF n j d).bind λb j=>(aW T [101,110,100] j).bind λ_ j=>.ok (.mk k a ns l [b]) j
end
end
def nD(T:List Tok):Prop:=0<T.length∧∀i,i<T.length→bH T i≠0→i+1<T.length
def gG(α:Type)(L i:Nat)(r:ay α):Prop:=match r with
 |.ok _ j=>i<j∧j<L
 |.err _ j=>j<L
 |.bA=>False
def gW(α:Type)(L i:Nat)(r:ay α):Prop:=match r with
 |.ok _ j=>i≤j∧j<L
 |.err _ j=>j<L
 |.bA=>False
section
variable {T:List Tok}{α β:Type}{L i:Nat}
theorem gG.w{r:ay α}(h:gG α L i r):gW α L i r:=by
 cases r with
 |ok a j=>exact⟨Nat.le_of_lt h.1,h.2⟩
 |err c j=>exact h
 |bA=>exact h
theorem gG.lo{r:ay α}{i':Nat}(h:gG α L i r)(hi:i'≤i):gG α L i' r:=by
 cases r with
 |ok a j=>exact⟨Nat.lt_of_le_of_lt hi h.1,h.2⟩
 |err c j=>exact h
 |bA=>exact h
theorem gW.lo{r:ay α}{i':Nat}(h:gW α L i r)(hi:i'≤i):gW α L i' r:=by
 cases r with
 |ok a j=>exact⟨Nat.le_trans hi h.1,h.2⟩
 |err c j=>exact h
 |bA=>exact h
theorem gW.lt{r:ay α}{i':Nat}(h:gW α L i r)(hi:i'<i):gG α L i' r:=by
 cases r with
 |ok a j=>exact⟨Nat.lt_of_lt_of_le hi h.1,h.2⟩
 |err c j=>exact h
 |bA=>exact h
theorem gG.bind{r:ay α}{f:α→Nat→ay β}(h:gG α L i r)(hf:∀a j,i<j→j<L→gW β L j (f a j)):gG β L i (r.bind f):=by
 cases r with
 |ok a j=>exact(hf a j h.1 h.2).lt h.1
 |err c j=>exact h
 |bA=>exact h
theorem gW.bind{r:ay α}{f:α→Nat→ay β}(h:gW α L i r)(hf:∀a j,i≤j→j<L→gW β L j (f a j)):gW β L i (r.bind f):=by
 cases r with
 |ok a j=>exact(hf a j h.1 h.2).lo h.1
 |err c j=>exact h
 |bA=>exact h
theorem gW.anD{r:ay α}{f:α→Nat→ay β}(h:gW α L i r)(hf:∀a j,i≤j→j<L→gG β L j (f a j)):gG β L i (r.bind f):=by
 cases r with
 |ok a j=>exact(hf a j h.1 h.2).lo h.1
 |err c j=>exact h
 |bA=>exact h
theorem Wp(h:bH T i≠0):i<T.length:=by
 unfold bH at h;rcases Nat.lt_or_ge i T.length with g|g
 ·exact g
 ·rw[List.getElem?_eq_none g]at h;exact absurd rfl h
theorem vD{s:List Nat}(h:isA T s i=true):bH T i=1∨bH T i=5:=by
 unfold isA at h;rw[Bool.and_eq_true,Bool.or_eq_true]at h;rcases h.1 with g|g
 ·exact .inl (of_decide_eq_true g)
 ·exact .inr (of_decide_eq_true g)
theorem dk(hT:nD T){s:List Nat}(h:isA T s i=true):i+1<T.length:=by
 have hk:bH T i≠0:=by
  rcases vD h with g|g<;>omega
 exact hT.2 i (Wp hk) hk
theorem iX(hT:nD T)(h:bH T i≠0):i+1<T.length:=hT.2 i (Wp h) h
theorem gw(hT:nD T){s:List Nat}(hi:i<T.length):gG Unit T.length i (aW T s i):=by
 unfold aW;split
 ·rename_i h;exact⟨by omega,dk hT h⟩
 ·exact hi
theorem vE(hT:nD T)(hi:i<T.length):gG (List Nat) T.length i (eF T i):=by
 unfold eF;split
 ·rename_i h;exact⟨by omega,iX hT (by omega)⟩
 ·exact hi
theorem Od(hT:nD T):∀(l:List (List Nat)) (f:Nat),jz T i f l≠0→i+1<T.length
 |[],f,h=>absurd rfl h
 |s::l,f,h=>by
  unfold jz at h;split at h
  ·rename_i g;exact dk hT g
  ·exact Od hT l _ h
theorem aus(hT:nD T)(h:s7 T i≠0):i+1<T.length:=by
 unfold s7 at h;split at h
 ·rename_i g;exact dk hT g
 split at h
 ·rename_i g;exact dk hT g
 split at h
 ·rename_i g;exact dk hT g
 ·exact absurd rfl h
theorem ap4(hT:nD T)(h:jY T i≠0):i+1<T.length:=by
 unfold jY at h;split at h
 ·rename_i g;exact dk hT g
 split at h
 ·rename_i g;exact dk hT g
 split at h
 ·rename_i g;exact dk hT g
 ·exact absurd rfl h
theorem atf(hT:nD T){s:List Nat}(hi:i<T.length):i≤dF T s i∧dF T s i<T.length:=by
 unfold dF;split
 ·rename_i g;exact⟨by omega,dk hT g⟩
 ·exact⟨Nat.le_refl _,hi⟩
theorem mZ{a:α}(h:i<L):gW α L i (.ok a i):=⟨Nat.le_refl _,h⟩
structure Fu(T:List Tok)(n:Nat):Prop where
 exp:∀i d,i<T.length→64*(T.length-i)+20≤n→gG _ T.length i (bY T n i d)
 either:∀i d,i<T.length→64*(T.length-i)+19≤n→gG _ T.length i (iI T n i d)
 rJ:∀e i d,i<T.length→64*(T.length-i)+1≤n→gW _ T.length i (iW T n e i d)
 both:∀i d,i<T.length→64*(T.length-i)+18≤n→gG _ T.length i (lI T n i d)
 zU:∀e i d,i<T.length→64*(T.length-i)+1≤n→gW _ T.length i (lK T n e i d)
 test:∀i d,i<T.length→64*(T.length-i)+17≤n→gG _ T.length i (lJ T n i d)
 zV:∀e i d,i<T.length→64*(T.length-i)+1≤n→gW _ T.length i (lL T n e i d)
 join:∀i d,i<T.length→64*(T.length-i)+16≤n→gG _ T.length i (iy T n i d)
 sum:∀i d,i<T.length→64*(T.length-i)+15≤n→gG _ T.length i (oJ T n i d)
 E8:∀e i d,i<T.length→64*(T.length-i)+1≤n→gW _ T.length i (nC T n e i d)
 term:∀i d,i<T.length→64*(T.length-i)+14≤n→gG _ T.length i (lM T n i d)
 zW:∀e i d,i<T.length→64*(T.length-i)+1≤n→gW _ T.length i (lN T n e i d)
 unary:∀i d,i<T.length→64*(T.length-i)+13≤n→gG _ T.length i (gv T n i d)
 post:∀i d,i<T.length→64*(T.length-i)+12≤n→gG _ T.length i (jZ T n i d)
 qA:∀e i d,i<T.length→64*(T.length-i)+1≤n→gW _ T.length i (dj T n e i d)
 Oe:∀f o i d,i<T.length→64*(T.length-i)+30≤n→gG _ T.length i (dt T n f o i d)
 simple:∀i d,i<T.length→64*(T.length-i)+11≤n→gG _ T.length i (eZ T n i d)
 Sy:∀o c a i d,i<T.length→64*(T.length-i)+40≤n→gG _ T.length i (fJ T n o c a i d)
 field:∀c i d,i<T.length→64*(T.length-i)+35≤n→gG _ T.length i (iq T n c i d)
 body:∀a i d,i<T.length→64*(T.length-i)+10≤n→gG _ T.length i (jJ T n a i d)
 D1:∀f o i,i<T.length→64*(T.length-i)+5≤n→gG _ T.length i (cL T n f o i)
 block:∀i d,i<T.length→64*(T.length-i)+50≤n→gW _ T.length i (cF T n i d)
 vF:∀o i d,i<T.length→64*(T.length-i)+49≤n→gW _ T.length i (cS T n o i d)
 stat:∀i d,i<T.length→64*(T.length-i)+45≤n→gG _ T.length i (gC T n i d)
 MH:∀a l b i d,i<T.length→64*(T.length-i)+25≤n→gG _ T.length i (fk T n a l b i d)
 for_:∀a i d,i<T.length→64*(T.length-i)+5≤n→gG _ T.length i (nX T n a i d)
 qB:∀k a ns l i d,i<T.length→64*(T.length-i)+5≤n→gG _ T.length i (de T n k a ns l i d)
 qC:∀a i d,i<T.length→64*(T.length-i)+30≤n→gG _ T.length i (jS T n a i d)
 Bv:∀a i d,i<T.length→64*(T.length-i)+30≤n→gG _ T.length i (lO T n a i d)
 yU:∀a i d,i<T.length→64*(T.length-i)+60≤n→gG _ T.length i (j0 T n a i d)
 do_:∀a i d,i<T.length→64*(T.length-i)+60≤n→gG _ T.length i (wP T n a i d)
 yV:∀a i d,i<T.length→64*(T.length-i)+30≤n→gW _ T.length i (lk T n a i d)
 plain:∀a i d,i<T.length→64*(T.length-i)+30≤n→gG _ T.length i (iJ T n a i d)
theorem ap5(hT:nD T){n:Nat}(F:Fu T n):Fu T (n+1) where
 exp i d hi hn:=by
  simp only[bY];split
  ·exact hi
  ·exact F.either i _ hi (by omega)
 either i d hi hn:=by
  simp only[iI];exact(F.both i d hi (by omega)).bind λe j h1 h2=>F.rJ e j d h2 (by omega)
 rJ e i d hi hn:=by
  simp only[iW];split
  ·rename_i h;have:=dk hT h;exact(((F.both (i+1) d this (by omega)).bind λb j h1 h2=>F.rJ _ j d h2 (by omega)).lo (by omega)).w
  ·exact⟨Nat.le_refl _,hi⟩
 both i d hi hn:=by
  simp only[lI];exact(F.test i d hi (by omega)).bind λe j h1 h2=>F.zU e j d h2 (by omega)
 zU e i d hi hn:=by
  simp only[lK];split
  ·rename_i h;have:=dk hT h;exact(((F.test (i+1) d this (by omega)).bind λb j h1 h2=>F.zU _ j d h2 (by omega)).lo (by omega)).w
  ·exact⟨Nat.le_refl _,hi⟩
 test i d hi hn:=by
  simp only[lJ];exact(F.join i d hi (by omega)).bind λe j h1 h2=>F.zV e j d h2 (by omega)
 zV e i d hi hn:=by
  simp only[lL];split
  ·exact⟨Nat.le_refl _,hi⟩
  ·rename_i h;have:=Od hT _ _ h;exact(((F.join (i+1) d this (by omega)).bind λb j h1 h2=>F.zV _ j d h2 (by omega)).lo (by omega)).w
 join i d hi hn:=by
  simp only[iy];refine(F.sum i d hi (by omega)).bind λe j h1 h2=>?_;split
  ·rename_i h;have:=dk hT h;split
   ·exact this
   ·exact(((F.join (j+1) _ this (by omega)).bind λb k h3 h4=>mZ h4).lo (by omega)).w
  ·exact⟨Nat.le_refl _,h2⟩
 sum i d hi hn:=by
  simp only[oJ];exact(F.term i d hi (by omega)).bind λe j h1 h2=>F.E8 e j d h2 (by omega)
 E8 e i d hi hn:=by
  simp only[nC];split
  ·exact⟨Nat.le_refl _,hi⟩
  ·rename_i h;have:=Od hT _ _ h;exact(((F.term (i+1) d this (by omega)).bind λb j h1 h2=>F.E8 _ j d h2 (by omega)).lo (by omega)).w
 term i d hi hn:=by
  simp only[lM];exact(F.unary i d hi (by omega)).bind λe j h1 h2=>F.zW e j d h2 (by omega)
 zW e i d hi hn:=by
  simp only[lN];split
  ·exact⟨Nat.le_refl _,hi⟩
  ·rename_i h;have:=Od hT _ _ h;exact(((F.unary (i+1) d this (by omega)).bind λb j h1 h2=>F.zW _ j d h2 (by omega)).lo (by omega)).w
 unary i d hi hn:=by
  simp only[gv];split
  ·exact F.post i d hi (by omega)
  ·rename_i h;have:=aus hT h;split
   ·exact this
   ·exact((F.unary (i+1) _ this (by omega)).bind λe j h1 h2=>mZ h2).lo (by omega)
 post i d hi hn:=by
  simp only[jZ];split
  ·exact(F.simple i d hi (by omega)).bind λe j h1 h2=>F.qA e j d h2 (by omega)
  ·exact F.simple i d hi (by omega)
 qA e i d hi hn:=by
  simp only[dj];split
  ·rename_i h;have:=dk hT h;exact(((vE hT this).bind λs j h1 h2=>F.qA _ j d h2 (by omega)).lo (by omega)).w
  split
  ·rename_i h;have:=dk hT h;exact(((F.exp (i+1) d this (by omega)).bind λk j h1 h2=>((gw hT h2).bind λ_ j' h3 h4=>F.qA _ j' d h4 (by omega)).w).lo (by omega)).w
  split
  ·rename_i h;have:=dk hT h;exact(((F.Oe _ _ (i+1) d this (by omega)).bind λl j h1 h2=>F.qA _ j d h2 (by omega)).lo (by omega)).w
  ·exact⟨Nat.le_refl _,hi⟩
 Oe f o i d hi hn:=by
  simp only[dt];cases f with
  |true=>
   simp only[if_true];split
   ·split
    ·exact hi
    ·exact(F.exp i d hi (by omega)).bind λe j h3 h4=>(F.Oe _ _ j d h4 (by omega)).w
   ·exact(gw hT hi).bind λ_ j h1 h2=>mZ h2
  |false=>
   simp only[Bool.false_eq_true,if_false];split
   ·rename_i h;have g1:=dk hT h;split
    ·exact g1
    ·exact((F.exp (i+1) d g1 (by omega)).bind λe j h3 h4=>(F.Oe _ _ j d h4 (by omega)).w).lo (by omega)
   ·exact(gw hT hi).bind λ_ j h1 h2=>mZ h2
 simple i d hi hn:=by
  simp only[eZ];split
  ·exact⟨by omega,iX hT (by omega)⟩
  split
  ·exact⟨by omega,iX hT (by omega)⟩
  split
  ·exact⟨by omega,iX hT (by omega)⟩
  split
  ·rename_i h;exact⟨by omega,ap4 hT h⟩
  split
  ·rename_i h;have:=dk hT h;exact(F.body _ (i+1) d this (by omega)).lo (by omega)
  split
  ·rename_i h;have:=dk hT h;exact(F.Sy _ _ _ (i+1) d this (by omega)).lo (by omega)
  split
  ·rename_i h;have:=dk hT h;exact((F.exp (i+1) d this (by omega)).bind λe j h1 h2=>((gw hT h2).bind λ_ j h3 h4=>mZ h4).w).lo (by omega)
  ·exact hi
 Sy o c a i d hi hn:=by
  simp only[fJ];split
  ·rename_i h;exact⟨by omega,dk hT h⟩
  split
  ·exact hi
  ·refine(F.field c i d hi (by omega)).bind λr j h1 h2=>?_;split
   ·rename_i h;have:j+1<T.length:=by
     rcases h with h|h<;>exact dk hT h
    exact((F.Sy _ _ _ (j+1) d this (by omega)).lo (by omega)).w
   ·exact((gw hT h2).bind λ_ j h3 h4=>mZ h4).w
 field c i d hi hn:=by
  simp only[iq];split
  ·rename_i h;have:=dk hT h;exact((F.exp (i+1) d this (by omega)).bind λk j h1 h2=>((gw hT h2).bind λ_ j h3 h4=>((gw hT h4).bind λ_ j h5 h6=>((F.exp j d h6 (by omega)).bind λv j h7 h8=>mZ h8).w).w).w).lo (by omega)
  split
  ·rename_i h;have h1:i+2<T.length:=iX (i:=i+1) hT (by omega);exact((F.exp (i+2) d h1 (by omega)).bind λv j h3 h4=>mZ h4).lo (by omega)
  ·exact(F.exp i d hi (by omega)).bind λv j h3 h4=>mZ h4
 body a i d hi hn:=by
  simp only[jJ];exact(gw hT hi).bind λ_ j h1 h2=>((F.D1 _ _ j h2 (by omega)).bind λps j h3 h4=>((F.block j d h4 (by omega)).bind λb j h5 h6=>((gw hT h6).bind λ_ j h7 h8=>mZ h8).w)).w
 D1 f o i hi hn:=by
  simp only[cL];cases f with
  |true=>
   simp only[if_true];split
   ·split
    ·exact hi
    ·exact(vE hT hi).bind λe j h3 h4=>(F.D1 _ _ j h4 (by omega)).w
   ·exact(gw hT hi).bind λ_ j h1 h2=>mZ h2
  |false=>
   simp only[Bool.false_eq_true,if_false];split
   ·rename_i h;have g1:=dk hT h;split
    ·exact g1
    ·exact((vE hT g1).bind λe j h3 h4=>(F.D1 _ _ j h4 (by omega)).w).lo (by omega)
   ·exact(gw hT hi).bind λ_ j h1 h2=>mZ h2
 block i d hi hn:=by
  simp only[cF];split
  ·exact hi
  ·exact F.vF _ i _ hi (by omega)
 vF o i d hi hn:=by
  simp only[cS];split
  ·exact⟨Nat.le_refl _,hi⟩
  ·refine((F.stat i d hi (by omega)).bind λs j h1 h2=>?_).w;obtain⟨h3,h4⟩:=atf hT (s:=[59]) h2;split
   ·exact h4
   ·exact(F.vF _ _ d h4 (by omega)).lo h3
 stat i d hi hn:=by
  simp only[gC];split
  ·rename_i h;have g1:=dk hT h;exact(F.qC _ (i+1) d g1 (by omega)).lo (by omega)
  split
  ·rename_i h;have g1:=dk hT h;exact(F.MH _ _ _ (i+1) d g1 (by omega)).lo (by omega)
  split
  ·rename_i h;have g1:=dk hT h;exact(F.Bv _ (i+1) d g1 (by omega)).lo (by omega)
  split
  ·rename_i h;have g1:=dk hT h;exact(F.yU _ (i+1) d g1 (by omega)).lo (by omega)
  split
  ·rename_i h;have g1:=dk hT h;exact(F.for_ _ (i+1) d g1 (by omega)).lo (by omega)
  split
  ·rename_i h;exact⟨by omega,dk hT h⟩
  split
  ·rename_i h;have g1:=dk hT h;exact(F.do_ _ (i+1) d g1 (by omega)).lo (by omega)
  split
  ·rename_i h;have g1:=dk hT h;exact(F.yV _ (i+1) d g1 (by omega)).lt (by omega)
  split
  ·exact F.plain _ i d hi (by omega)
  ·exact hi
 qC a i d hi hn:=by
  simp only[jS];split
  ·rename_i h;have g2:=dk hT h;exact((vE hT g2).bind λs j h1 h2=>((F.body _ j d h2 (by omega)).bind λb j h3 h4=>mZ h4).w).lo (by omega)
  ·refine(vE hT hi).bind λs j h1 h2=>?_;split
   ·rename_i h;have g2:=dk hT h;exact((F.exp (j+1) d g2 (by omega)).bind λe k h3 h4=>mZ h4).w.lo (by omega)
   ·exact mZ h2
 Bv a i d hi hn:=by
  simp only[lO];exact(F.exp i d hi (by omega)).bind λe j h1 h2=>((gw hT h2).bind λ_ j h3 h4=>(F.block j d h4 (by omega)).bind λb j h5 h6=>((gw hT h6).bind λ_ j h7 h8=>mZ h8).w).w
 yU a i d hi hn:=by
  simp only[j0];exact(F.block i d hi (by omega)).anD λb j h1 h2=>(gw hT h2).bind λ_ j h3 h4=>((F.exp j d h4 (by omega)).bind λe j h5 h6=>mZ h6).w
 do_ a i d hi hn:=by
  simp only[wP];exact(F.block i d hi (by omega)).anD λb j h1 h2=>(gw hT h2).bind λ_ j h3 h4=>mZ h4
 yV a i d hi hn:=by
  simp only[lk];split
  ·exact mZ hi
  ·exact((F.exp i d hi (by omega)).bind λe j h1 h2=>mZ h2).w
 plain a i d hi hn:=by
  simp only[iJ];refine(F.post i d hi (by omega)).bind λe j h1 h2=>?_;split
  ·exact mZ h2
  ·exact((gw hT h2).bind λ_ j h3 h4=>((F.exp j d h4 (by omega)).bind λv j h5 h6=>mZ h6).w).w
 MH a l b i d hi hn:=by
  simp only[fk];refine(F.exp i d hi (by omega)).bind λe j h1 h2=>((gw hT h2).bind λ_ j h3 h4=>(F.block j d h4 (by omega)).bind λb j h5 h6=>?_).w;split
  ·rename_i h;have g1:=dk hT h;exact((F.MH _ _ _ (j+1) d g1 (by omega)).lo (by omega)).w
  split
  ·rename_i h;have g1:=dk hT h;exact((F.block (j+1) d g1 (by omega)).bind λb2 j h1 h2=>((gw hT h2).bind λ_ j h3 h4=>mZ h4).w).lo (by omega)
  ·exact((gw hT h6).bind λ_ j h3 h4=>mZ h4).w
 for_ a i d hi hn:=by
  simp only[nX];refine(vE hT hi).bind λs j h1 h2=>?_;split
  ·rename_i h;have g1:=dk hT h;exact(((vE hT g1).bind λs2 j h3 h4=>((gw hT h4).bind λ_ j h5 h6=>((F.exp j d h6 (by omega)).bind λe j h7 h8=>(F.qB _ _ _ _ j d h8 (by omega)).w).w).w).lo (by omega)).w
  ·refine((gw hT h2).bind λ_ j h3 h4=>((F.exp j d h4 (by omega)).bind λe j h5 h6=>((gw hT h6).bind λ_ j h7 h8=>((F.exp j d h8 (by omega)).bind λe2 j h9 h10=>?_).w).w).w).w;split
   ·rename_i h;have g1:=dk hT h;exact(((F.exp (j+1) d g1 (by omega)).bind λe3 j h11 h12=>(F.qB _ _ _ _ j d h12 (by omega)).w).lo (by omega)).w
   ·exact(F.qB _ _ _ _ j d h10 (by omega)).w
 qB k a ns l i d hi hn:=by
  simp only[de];exact(gw hT hi).bind λ_ j h3 h4=>(F.block j d h4 (by omega)).bind λb j h5 h6=>((gw hT h6).bind λ_ j h7 h8=>mZ h8).w
theorem SA(hT:nD T):∀n,Fu T n
 |0=>by constructor<;>intros<;>omega
 |n+1=>ap5 hT (SA hT n)
end
section
variable {H:AH}{S S':LS}
def cM(S:LS)(Q:Nat→Prop)(sz:Nat)(v:AV)(n:Nat)(cl:Nat→List AV):Prop:=(v=.ab∧n=0)∨∃b o c ex cs m,v=.slice b o n c sz ex∧Q b∧S.ob b=.ce cs m∧n≤c∧o+n*sz≤cs.length∧∀i,i<n→(cs.drop (o+i*sz)).take sz=cl i
theorem cM.nil(S:LS)(Q:Nat→Prop)(sz:Nat)(cl:Nat→List AV):cM S Q sz .ab 0 cl:=.inl ⟨rfl,rfl⟩
theorem cM.go{Q Q':Nat→Prop}{sz n:Nat}{v:AV}{cl:Nat→List AV}(h:cM S Q sz v n cl)(hk:∀b,Q b→S'.ob b=S.ob b)(h1:∀b,Q b→Q' b):cM S' Q' sz v n cl:=by
 rcases h with h|⟨b,o,c,ex,cs,m,e1,h2,h4,h5⟩
 ·exact .inl h
 ·exact .inr ⟨b,o,c,ex,cs,m,e1,h1 b h2,(hk b h2).trans h4,h5⟩
theorem cM.len{Q:Nat→Prop}{sz n:Nat}{v:AV}{cl:Nat→List AV}{k:AV→Prop}(h:cM S Q sz v n cl)(hk:k (.int 0 n)):dp v k:=by
 rcases h with⟨rfl,rfl⟩|⟨b,o,c,ex,cs,m,rfl,_⟩
 ·exact hk
 ·exact hk
theorem cM.one{Q:Nat→Prop}{sz n:Nat}{v:AV}{cl:Nat→List AV}(h:cM S Q sz v n cl):v.one=true:=by
 rcases h with⟨rfl,rfl⟩|⟨b,o,c,ex,cs,m,rfl,_⟩<;>rfl
theorem cM.same{Q:Nat→Prop}{sz n:Nat}{v:AV}{cl:Nat→List AV}(h:cM S Q sz v n cl):aU v v=true:=by
 rcases h with⟨rfl,rfl⟩|⟨b,o,c,ex,cs,m,rfl,_⟩
 ·rfl
 ·simp[aU]
theorem cM.load{Q:Nat→Prop}{sz n:Nat}{v:AV}{cl:Nat→List AV}{i q:Nat}{k:AV→Prop}(h:cM S Q sz v n cl)(hM:Mem H S)(hi':i<n)(hk:k (.agg (cl i))):cK sz v (.int q i) λp=>aF sz p H k:=by
 rcases h with⟨rfl,rfl⟩|⟨b,o,c,ex,cs,m,rfl,h1,h3,h4,h5,h6⟩
 ·omega
 ·refine mj (by omega) (by omega) ?_;rw[Int.toNat_natCast];have hle:(i+1)*sz≤n*sz:=Nat.mul_le_mul_right _ (by omega);rw[Nat.add_mul,Nat.one_mul]at hle;refine lQ hM h3 (by omega) ?_;rw[h6 i hi'];exact hk
theorem cM.names{Q:Nat→Prop}{b m:Nat}{l:List (List Nat)}{ex:Bool}(hQ:Q b)(hb:S.ob b=.ce (l.map af) m):cM S Q 1 (.slice b 0 l.length l.length 1 ex) l.length (λj=>[af (l[j]?.getD [])]):=
 .inr ⟨b,0,l.length,ex,l.map af,m,rfl,hQ,hb,Nat.le_refl _,by rw[List.length_map];omega,λj hj=>by
  show((l.map af).drop (0+j*1)).take 1=[af (l[j]?.getD [])];rw[Nat.zero_add,Nat.mul_one,List.drop_eq_getElem_cons (by rw[List.length_map];exact hj),List.getElem?_eq_getElem hj,Option.getD_some,List.getElem_map];rfl⟩
def ku(S:LS)(Q:Nat→Prop)(v:AV)(l:List (List Nat)):Prop:=cM S Q 1 v l.length (λi=>[af (l[i]?.getD [])])∧∀t∈l,B8 t
mutual
inductive RE(S:LS)(Q:Nat→Prop):List AV→aC→Prop
 |mk (kind at_ n:Nat) (s:List Nat) (op:Nat) (l:List aC) (f:List iP) (vl vf:AV) (cl cf:Nat→List AV):B8 s→cM S Q 7 vl l.length cl→(∀i e,l[i]? = some e→RE S Q (cl i) e)→cM S Q 2 vf f.length cf→(∀i e,f[i]? = some e→RF S Q (cf i) e)→
   RE S Q [.int 0 kind,.int 0 at_,.int 0 n,af s,.int 0 op,vl,vf] (.mk kind at_ n s op l f)
inductive RF(S:LS)(Q:Nat→Prop):List AV→iP→Prop
 |mk (ps:List (List Nat)) (body:List aS) (vp vb:AV) (cb:Nat→List AV):ku S Q vp ps→cM S Q 5 vb body.length cb→(∀i e,body[i]? = some e→ft S Q (cb i) e)→RF S Q [vp,vb] (.mk ps body)
inductive ft(S:LS)(Q:Nat→Prop):List AV→aS→Prop
 |mk (kind at_:Nat) (names:List (List Nat)) (l:List aC) (bs:List (List aS)) (vn vl vb:AV) (cl:Nat→List AV) (bv:Nat→AV) (bc:Nat→Nat→List AV):ku S Q vn names→cM S Q 7 vl l.length cl→(∀i e,l[i]? = some e→RE S Q (cl i) e)→
   cM S Q 1 vb bs.length (λi=>[bv i])→(∀i b,bs[i]? = some b→cM S Q 5 (bv i) b.length (bc i))→(∀i b j s,bs[i]? = some b→b[j]? = some s→ft S Q (bc i j) s)→
   ft S Q [.int 0 kind,.int 0 at_,vn,vl,vb] (.mk kind at_ names l bs)
end
section
variable {Q Q':Nat→Prop}
theorem RE.go(hk:∀b,Q b→S'.ob b=S.ob b)(h1:∀b,Q b→Q' b){c:List AV}{e:aC}(h:RE S Q c e):RE S' Q' c e:=
 RE.rec (motive_1:=λc e _=>RE S' Q' c e) (motive_2:=λc e _=>RF S' Q' c e) (motive_3:=λc e _=>ft S' Q' c e)
  (λkind at_ n s op l f vl vf cl cf g1 g2 _ g4 _ ih1 ih2=>.mk kind at_ n s op l f vl vf cl cf g1 (g2.go hk h1) ih1 (g4.go hk h1) ih2)
  (λps body vp vb cb g1 g2 _ ih=>.mk ps body vp vb cb ⟨g1.1.go hk h1,g1.2⟩ (g2.go hk h1) ih)
  (λkind at_ names l bs vn vl vb cl bv bc g1 g2 _ g4 g5 _ ih1 ih2=>.mk kind at_ names l bs vn vl vb cl bv bc ⟨g1.1.go hk h1,g1.2⟩ (g2.go hk h1) ih1 (g4.go hk h1) (λi b hb=>(g5 i b hb).go hk h1) ih2) h
theorem RF.go(hk:∀b,Q b→S'.ob b=S.ob b)(h1:∀b,Q b→Q' b){c:List AV}{e:iP}(h:RF S Q c e):RF S' Q' c e:=
 RF.rec (motive_1:=λc e _=>RE S' Q' c e) (motive_2:=λc e _=>RF S' Q' c e) (motive_3:=λc e _=>ft S' Q' c e)
  (λkind at_ n s op l f vl vf cl cf g1 g2 _ g4 _ ih1 ih2=>.mk kind at_ n s op l f vl vf cl cf g1 (g2.go hk h1) ih1 (g4.go hk h1) ih2)
  (λps body vp vb cb g1 g2 _ ih=>.mk ps body vp vb cb ⟨g1.1.go hk h1,g1.2⟩ (g2.go hk h1) ih)
  (λkind at_ names l bs vn vl vb cl bv bc g1 g2 _ g4 g5 _ ih1 ih2=>.mk kind at_ names l bs vn vl vb cl bv bc ⟨g1.1.go hk h1,g1.2⟩ (g2.go hk h1) ih1 (g4.go hk h1) (λi b hb=>(g5 i b hb).go hk h1) ih2) h
theorem ft.go(hk:∀b,Q b→S'.ob b=S.ob b)(h1:∀b,Q b→Q' b){c:List AV}{e:aS}(h:ft S Q c e):ft S' Q' c e:=
 ft.rec (motive_1:=λc e _=>RE S' Q' c e) (motive_2:=λc e _=>RF S' Q' c e) (motive_3:=λc e _=>ft S' Q' c e)
  (λkind at_ n s op l f vl vf cl cf g1 g2 _ g4 _ ih1 ih2=>.mk kind at_ n s op l f vl vf cl cf g1 (g2.go hk h1) ih1 (g4.go hk h1) ih2)
  (λps body vp vb cb g1 g2 _ ih=>.mk ps body vp vb cb ⟨g1.1.go hk h1,g1.2⟩ (g2.go hk h1) ih)
  (λkind at_ names l bs vn vl vb cl bv bc g1 g2 _ g4 g5 _ ih1 ih2=>.mk kind at_ names l bs vn vl vb cl bv bc ⟨g1.1.go hk h1,g1.2⟩ (g2.go hk h1) ih1 (g4.go hk h1) (λi b hb=>(g5 i b hb).go hk h1) ih2) h
theorem RE.len{c:List AV}{e:aC}(h:RE S Q c e):c.length=7:=by cases h;rfl
theorem RF.len{c:List AV}{e:iP}(h:RF S Q c e):c.length=2:=by cases h;rfl
theorem ft.len{c:List AV}{e:aS}(h:ft S Q c e):c.length=5:=by cases h;rfl
theorem ku.one{v:AV}{l:List (List Nat)}(h:ku S Q v l):v.one=true:=h.1.one
theorem RE.ones{c:List AV}{e:aC}(h:RE S Q c e):∀a∈c,a.one=true:=by
 cases h with
 |mk kind at_ n s op l f vl vf cl cf g1 g2 _ g4 _=>
  intro a ha;simp only[List.mem_cons,List.not_mem_nil,or_false]at ha;rcases ha with rfl|rfl|rfl|rfl|rfl|rfl|rfl<;>first|rfl|exact g2.one|exact g4.one
theorem RF.ones{c:List AV}{e:iP}(h:RF S Q c e):∀a∈c,a.one=true:=by
 cases h with
 |mk ps body vp vb cb g1 g2 _=>
  intro a ha;simp only[List.mem_cons,List.not_mem_nil,or_false]at ha;rcases ha with rfl|rfl
  ·exact g1.one
  ·exact g2.one
theorem ft.ones{c:List AV}{e:aS}(h:ft S Q c e):∀a∈c,a.one=true:=by
 cases h with
 |mk kind at_ names l bs vn vl vb cl bv bc g1 g2 _ g4 _ _=>
  intro a ha;simp only[List.mem_cons,List.not_mem_nil,or_false]at ha;rcases ha with rfl|rfl|rfl|rfl|rfl<;>first|rfl|exact g1.one|exact g2.one|exact g4.one
theorem SB{c:List AV}(h:∀a∈c,aU a a=true):aU (.agg c) (.agg c)=true:=Ej h
theorem RE.same{c:List AV}{e:aC}(h:RE S Q c e):aU (.agg c) (.agg c)=true:=by
 cases h with
 |mk kind at_ n s op l f vl vf cl cf g1 g2 _ g4 _=>
  refine SB λa ha=>?_;simp only[List.mem_cons,List.not_mem_nil,or_false]at ha;rcases ha with rfl|rfl|rfl|rfl|rfl|rfl|rfl<;>first|exact ql _ _|exact tA _ _|exact g2.same|exact g4.same
end
structure Rep(α:Type) where
 rel:LS→(Nat→Prop)→List AV→α→Prop
 sz:Nat
 pos:0<sz
 go:∀{S S':LS}{Q Q':Nat→Prop}{c:List AV}{a:α},(∀b,Q b→S'.ob b=S.ob b)→(∀b,Q b→Q' b)→rel S Q c a→rel S' Q' c a
 len:∀{S:LS}{Q:Nat→Prop}{c:List AV}{a:α},rel S Q c a→c.length=sz
 ones:∀{S:LS}{Q:Nat→Prop}{c:List AV}{a:α},rel S Q c a→∀x∈c,x.one=true
def fZ:Rep aC:=⟨RE,7,by omega,λh1 h2 h=>RE.go h1 h2 h,λh=>h.len,λh=>h.ones⟩
def kP:Rep aS:=⟨ft,5,by omega,λh1 h2 h=>ft.go h1 h2 h,λh=>h.len,λh=>h.ones⟩
def pz:Rep (List Nat):=⟨λ_ _ c t=>c=[af t]∧B8 t,1,by omega,λ_ _ h=>h,λh=>by rw[h.1];rfl,λh x hx=>by rw[h.1]at hx;simp at hx;subst hx;rfl⟩
def qD:Rep (List aS):=⟨λS Q c b=>∃v bc,c=[v]∧cM S Q 5 v b.length bc∧∀j s,b[j]? = some s→ft S Q (bc j) s,1,by omega,
 λhk h1 ⟨v,bc,e,g1,g2⟩=>⟨v,bc,e,g1.go hk h1,λj s hs=>(g2 j s hs).go hk h1⟩,λ⟨v,bc,e,_⟩=>by rw[e];rfl,λ⟨v,bc,e,g1,_⟩ x hx=>by rw[e]at hx;simp at hx;subst hx;exact g1.one⟩
def fb(lo hi:Nat):Nat→Prop:=λb=>lo≤b∧b<hi
def dN{α:Type}(R:Rep α)(lo:Nat)(S:LS)(v:AV)(l:List α):Prop:=∃cl:List (List AV),eI S R.sz v l.length cl.flatten∧cl.length=l.length∧(∀b,aG v b→lo≤b)∧
 ∀(i:Nat) (c:List AV) (a:α),cl[i]? = some c→l[i]? = some a→∃Q,R.rel S Q c a∧∀b,Q b→lo≤b∧b<S.n∧¬aG v b
section
variable {α:Type}{R:Rep α}{lo:Nat}{v:AV}{l:List α}
theorem dN.nil(R:Rep α)(lo:Nat)(S:LS):dN R lo S .ab []:=⟨[],eI.nil _ _,rfl,λ_ h=>h.elim,λi c a h=>by simp at h⟩
theorem dN.keep(h:dN R lo S v l)(hM:Mem H S)(hn:S.n≤S'.n)(hk:∀b,lo≤b→b<S.n→S'.ob b=S.ob b):dN R lo S' v l:=by
 obtain⟨cl,h1,h2,h3,h4⟩:=h;refine⟨cl,h1.keep hM λb hb hlt=>hk b (h3 b hb) hlt,h2,h3,λi c a hc ha=>?_⟩;obtain⟨Q,g1,g2⟩:=h4 i c a hc ha;exact⟨Q,R.go (λb hb=>hk b (g2 b hb).1 (g2 b hb).2.1) (λ_ h=>h) g1,λb hb=>⟨(g2 b hb).1,Nat.lt_of_lt_of_le (g2 b hb).2.1 hn,(g2 b hb).2.2⟩⟩
theorem Nt{cl:List (List AV)}{sz:Nat}(h:∀c∈cl,c.length=sz):∀{i:Nat}{c:List AV},cl[i]? = some c→(cl.flatten.drop (i*sz)).take sz=c:=by
 induction cl with
 |nil=>intro i c hc;simp at hc
 |cons d cl ih=>
  intro i c hc;have hd:=h d (by simp);cases i with
  |zero=>
   simp at hc;subst hc;rw[Nat.zero_mul,List.drop_zero,List.flatten_cons,←hd];exact List.take_left' rfl
  |succ i=>
   have:=ih (λx hx=>h x (by simp[hx])) (i:=i) (c:=c) (by simpa using hc);rw[List.flatten_cons,Nat.add_mul,Nat.one_mul,Nat.add_comm,←List.drop_drop,←hd,List.drop_left' rfl,hd];exact this
theorem dN.szs{cl:List (List AV)}(h4:∀(i:Nat) (c:List AV) (a:α),cl[i]? = some c→l[i]? = some a→∃Q,R.rel S Q c a∧∀b,Q b→lo≤b∧b<S.n∧¬aG v b)(hl:cl.length=l.length):∀c∈cl,c.length=R.sz:=λc hc=>by
 obtain⟨i,hi,e⟩:=List.mem_iff_getElem.1 hc;obtain⟨_,g,_⟩:=h4 i c (l[i]'(by omega)) (by rw[List.getElem?_eq_getElem hi,e]) (List.getElem?_eq_getElem _);exact R.len g
theorem dN.done(h:dN R lo S v l)(hM:Mem H S):∃cl,cM S (fb lo S.n) R.sz v l.length cl∧∀i a,l[i]? = some a→R.rel S (fb lo S.n) (cl i) a:=by
 obtain⟨cl,h1,h2,h3,h4⟩:=h;have hsz:=dN.szs h4 h2;refine⟨λi=>cl[i]?.getD [],?_,λi a ha=>?_⟩
 ·rcases h1 with⟨rfl,e,_⟩|⟨b,c,ex,cs,rfl,g2,g3,g4,g5,g6,g7⟩
  ·exact .inl ⟨rfl,e⟩
  ·refine .inr ⟨b,0,c,ex,cs,0,rfl,⟨h3 b rfl,hM.lt (by rw[g2];simp)⟩,g2,g4,by rw[g3,Nat.zero_add];exact Nat.mul_le_mul_right _ g4,λi hi=>?_⟩;have hic:i<cl.length:=by omega
   have e1:=Nt hsz (List.getElem?_eq_getElem hic);show(cs.drop (0+i*R.sz)).take R.sz=cl[i]?.getD [];rw[List.getElem?_eq_getElem hic,Option.getD_some,←e1,Nat.zero_add];have hle:(i+1)*R.sz≤l.length*R.sz:=Nat.mul_le_mul_right _ (by omega);rw[Nat.add_mul,Nat.one_mul]at hle
   conv=>rhs;rw[←g6]
   rw[List.drop_take,List.take_take,Nat.min_eq_left (by omega)]
 ·have hil:=(List.getElem?_eq_some_iff.1 ha).1;have hic:i<cl.length:=by omega
  obtain⟨Q,g1,g2⟩:=h4 i _ a (List.getElem?_eq_getElem hic) ha;show R.rel S (fb lo S.n) (cl[i]?.getD []) a;rw[List.getElem?_eq_getElem hic,Option.getD_some];exact R.go (λ_ _=>rfl) (λb hb=>⟨(g2 b hb).1,(g2 b hb).2.1⟩) g1
theorem dN.step{a:α}{c:List AV}{Q:Nat→Prop}{v':AV}(h:dN R lo S v l)(hr:R.rel S Q c a)(hQ:∀b,Q b→lo≤b∧b<S.n∧¬aG v b)(hlo:lo≤S.n)(hs:∀cl,eI S R.sz v l.length cl→qY S v (l.length+1) R.sz (cl++c) S' v'):dN R lo S' v' (l++[a]):=by
 obtain⟨cl,h1,h2,h3,h4⟩:=h;obtain⟨a1,a2,a3,a4⟩:=hs _ h1;refine⟨cl++[c],?_,by simp[h2],λb hb'=>?_,λi c' a' hc ha=>?_⟩
 ·rw[List.flatten_append,List.length_append];show eI S' R.sz v' (l.length+1) (cl.flatten++[c].flatten);have:[c].flatten=c:=by simp
  rw[this];exact a3
 ·rcases a4 b hb' with g|g
  ·exact h3 b g
  ·omega
 ·have fin:∀{Q:Nat→Prop}{c:List AV}{a:α},R.rel S Q c a→(∀b,Q b→lo≤b∧b<S.n∧¬aG v b)→∃Q,R.rel S' Q c a∧∀b,Q b→lo≤b∧b<S'.n∧¬aG v' b:=λ{Q c a} g1 g2=>
   ⟨Q,R.go (λb hb=>a2 b (g2 b hb).2.1 (g2 b hb).2.2) (λ_ h=>h) g1,λb hb=>⟨(g2 b hb).1,Nat.lt_of_lt_of_le (g2 b hb).2.1 a1,λhb'=>by
    rcases a4 b hb' with q|q
    ·exact(g2 b hb).2.2 q
    ·have:=(g2 b hb).2.1;omega⟩⟩
  by_cases hi:i<cl.length
  ·rw[List.getElem?_append_left hi]at hc;rw[List.getElem?_append_left (by omega)]at ha;obtain⟨Q,g1,g2⟩:=h4 i c' a' hc ha;exact fin g1 g2
  ·rw[List.getElem?_append_right (by omega)]at hc ha;have e0:i-cl.length=0:=by
    rcases Nat.eq_zero_or_pos (i-cl.length)with q|q
    ·exact q
    ·rw[List.getElem?_eq_none (by simp;omega)]at hc;cases hc
   have e1:i-l.length=0:=by omega
   rw[e0]at hc;rw[e1]at ha;simp at hc ha;subst hc;subst ha;exact fin hr hQ
end
end
def an(X:Nat→Prop)(S S':LS):Prop:=S.n≤S'.n∧∀b,b<S.n→¬X b→S'.ob b=S.ob b
def aV:Nat→Prop:=λ_=>False
section
variable {X Y:Nat→Prop}{S S' qK:LS}{H:AH}
theorem an.refl(X:Nat→Prop)(S:LS):an X S S:=⟨Nat.le_refl _,λ_ _ _=>rfl⟩
theorem an.trans(h:an X S S')(g:an X S' qK):an X S qK:=⟨Nat.le_trans h.1 g.1,λb hb hx=>(g.2 b (Nat.lt_of_lt_of_le hb h.1) hx).trans (h.2 b hb hx)⟩
theorem an.mono(h:an X S S')(hxy:∀b,X b→Y b):an Y S S':=⟨h.1,λb hb hx=>h.2 b hb λg=>hx (hxy b g)⟩
theorem an.no(h:an aV S S'):an X S S':=h.mono λ_ g=>g.elim
theorem an.push(h:an X S S')(o:gd):an X S (S'.push o):=⟨Nat.le_trans h.1 (Nat.le_succ _),λb hb hx=>by rw[LS.aZ _ _ (Nat.lt_of_lt_of_le hb h.1)];exact h.2 b hb hx⟩
theorem an.set(h:an X S S'){b:Nat}(hb:X b∨S.n≤b)(o:gd):an X S (S'.set b o):=⟨h.1,λc hc hx=>by
 rw[LS.ah _ _ λe=>by subst e;rcases hb with g|g;exact hx g;omega];exact h.2 c hc hx⟩
theorem an.app{sz n:Nat}{v v':AV}{l:List AV}(h:an X S S')(ha:qY S' v n sz l qK v')(hv:∀b,aG v b→X b∨S.n≤b):an X S qK:=⟨Nat.le_trans h.1 ha.1,λb hb hx=>by
 rw[ha.2.1 b (Nat.lt_of_lt_of_le hb h.1) λg=>by rcases hv b g with q|q;exact hx q;omega];exact h.2 b hb hx⟩
end
structure Ctx where
 T:List Tok
 bp:Nat
 vT:AV
 pv:AV
 ok:nD T
 b8:∀t∈T,B8 t.text
 few:T.length≤100000
 ne:¬aG vT bp
structure bS(C:Ctx)(S:LS)(i d:Nat):Prop where
 ob:S.ob C.bp=.ce [C.vT,.int 0 (i:Int),.int 0 (d:Int),.int 0 0] 0
 tk:eI S 4 C.vT C.T.length (tcs C.T)
 lt:i<C.T.length
structure E9(C:Ctx)(S:LS)(c i:Nat):Prop where
 ob:∃d:Int,S.ob C.bp=.ce [C.vT,.int 0 (i:Int),.int 0 d,.int 0 (c:Int)] 0
 tk:eI S 4 C.vT C.T.length (tcs C.T)
 lt:i<C.T.length
def Post{α:Type}(C:Ctx)(X:Nat→Prop)(d:Nat)(Rp:LS→(Nat→Prop)→AV→α→Prop)(K:KF)(S:LS)(r:ay α):Prop:=match r with
 |.ok a j=>∀H' S' v,Mem H' S'→an X S S'→bS C S' j d→Rp S' (fb S.n S'.n) v a→K (.ret v) H'
 |.err c j=>∀H' S',Mem H' S'→an X S S'→E9 C S' c j→K (.dB C.pv) H'
 |.bA=>False
section
variable {C:Ctx}{X Y:Nat→Prop}{S S' S1:LS}{H:AH}{K:KF}{i d d1:Nat}{α β:Type}{cV:LS→(Nat→Prop)→AV→α→Prop}{An:LS→(Nat→Prop)→AV→β→Prop}
theorem bS.dO(h:bS C S i d)(hM:Mem H S):C.bp<S.n:=hM.lt (by rw[h.ob];simp)
theorem bS.keep(h:bS C S i d)(hM:Mem H S)(hc:an X S S')(h1:¬X C.bp)(h2:∀b,aG C.vT b→¬X b):bS C S' i d:=
 ⟨(hc.2 C.bp (h.dO hM) h1).trans h.ob,h.tk.keep hM λb hb hlt=>hc.2 b hlt (h2 b hb),h.lt⟩
theorem bS.no(h:bS C S i d)(hM:Mem H S)(hc:an aV S S'):bS C S' i d:=h.keep hM hc (λg=>g) λ_ _ g=>g
theorem bS.ga{S0:LS}{H0:AH}{i0 d0:Nat}(h:bS C S i d)(h0:bS C S0 i0 d0)(hM0:Mem H0 S0){b:Nat}(hb:S0.n≤b)(o:gd):bS C (S.set b o) i d:=
 ⟨(LS.ah _ _ (by have:=h0.dO hM0;omega)).trans h.ob,by
  have hv:=h0.tk;rcases h.tk with g|⟨b',c,ex,cs,g1,g2,g3⟩
  ·exact .inl g
  ·refine .inr ⟨b',c,ex,cs,g1,?_,g3⟩;have:b'<S0.n:=hv.lt hM0 (by rw[g1];rfl);rw[LS.ah _ _ (by omega)];exact g2,h.lt⟩
theorem bS.set(h:bS C S i d){j e:Nat}(hj:j<C.T.length):bS C (S.set C.bp (.ce [C.vT,.int 0 (j:Int),.int 0 (e:Int),.int 0 0] 0)) j e:=
 ⟨LS.aj _ _ _,by
  rcases h.tk with g|⟨b,c,ex,cs,g1,g2,g3⟩
  ·exact .inl g
  ·refine .inr ⟨b,c,ex,cs,g1,?_,g3⟩;rw[LS.ah _ _ λe=>C.ne (by rw[g1,←e];rfl)];exact g2,hj⟩
theorem bS.err(h:bS C S i d){c:Nat}{e:Int}:E9 C (S.set C.bp (.ce [C.vT,.int 0 (i:Int),.int 0 e,.int 0 (c:Int)] 0)) c i:=
 ⟨⟨e,LS.aj _ _ _⟩,by
  rcases h.tk with g|⟨b,c,ex,cs,g1,g2,g3⟩
  ·exact .inl g
  ·refine .inr ⟨b,c,ex,cs,g1,?_,g3⟩;rw[LS.ah _ _ λe=>C.ne (by rw[g1,←e];rfl)];exact g2,h.lt⟩
theorem kx(K:KF)(v:AV)(H:AH)(k:AV→Prop):cR K (.dB v) H k=K (.dB v) H:=rfl
theorem Post.call{r1:ay α}{f:α→Nat→ay β}(h:Post C X d An K S (r1.bind f))(hx:an X S S1)(hX:∀b,Y b→X b){k:AV→AH→Prop}
  (hk:∀a j H' S' v,Mem H' S'→an Y S1 S'→bS C S' j d1→cV S' (fb S1.n S'.n) v a→Post C X d An K S (f a j)→k v H'):Post C Y d1 cV (λo H=>cR K o H λv=>k v H) S1 r1:=by
 cases r1 with
 |ok a j=>exact λH' S' v m c p q=>hk a j H' S' v m c p q h
 |err c j=>exact λH' S' m ch p=>h H' S' m (hx.trans (ch.mono hX)) p
 |bA=>exact h
theorem ajO{T:List Tok}{i:Nat}(h:i<T.length):∃t,T[i]? = some t∧bH T i=t.kind∧dR T i=t.text∧aq T i=t.pos∧xj T i=t.n:=by
 refine⟨T[i],List.getElem?_eq_getElem h,?_⟩;unfold bH dR aq xj;rw[List.getElem?_eq_getElem h];exact⟨rfl,rfl,rfl,rfl⟩
theorem mz(C:Ctx)(i:Nat):B8 (dR C.T i):=by
 unfold dR;split
 ·rename_i t h;exact C.b8 t (List.mem_of_getElem? h)
 ·exact B8.nil
def dY(T:List Tok)(i:Nat):List AV:=[.int 0 (bH T i:Int),af (dR T i),.int 0 (xj T i:Int),.int 0 (aq T i:Int)]
theorem rK{T:List Tok}{i:Nat}(h:i<T.length):((tcs T).drop (i*4)).take 4=dY T i:=by
 obtain⟨t,h1,h2,h3,h4,h5⟩:=ajO h;rw[UT h1];unfold dY;rw[h2,h3,h4,h5];rfl
end
def dc(S:LS)(Q:Nat→Prop)(v:AV)(e:aC):Prop:=∃c,v=.agg c∧RE S Q c e
def rvS(S:LS)(Q:Nat→Prop)(v:AV)(e:aS):Prop:=∃c,v=.agg c∧ft S Q c e
def gY(_:LS)(_:Nat→Prop)(v:AV)(_:Unit):Prop:=v=.aY []
def Nu(_:LS)(_:Nat→Prop)(v:AV)(t:List Nat):Prop:=v=af t∧B8 t
def s8(S:LS)(Q:Nat→Prop)(v:AV)(l:List aC):Prop:=∃cl,cM S Q 7 v l.length cl∧∀i e,l[i]? = some e→RE S Q (cl i) e
def fK(S:LS)(Q:Nat→Prop)(v:AV)(l:List aS):Prop:=∃cl,cM S Q 5 v l.length cl∧∀i e,l[i]? = some e→ft S Q (cl i) e
section
variable {C:Ctx}{X Y:Nat→Prop}{S S' S1:LS}{H:AH}{K:KF}{i d d1:Nat}{α β:Type}{Rp cV:LS→(Nat→Prop)→AV→α→Prop}
theorem Post.tail{r:ay α}(h:Post C X d Rp K S r)(hx:an X S S1)(hX:∀b,Y b→X b){k:AV→AH→Prop}
  (hk:∀a j H' S' v,Mem H' S'→an Y S1 S'→bS C S' j d1→cV S' (fb S1.n S'.n) v a→(∀Bw qK w,Mem Bw qK→an X S qK→bS C qK j d→Rp qK (fb S.n qK.n) w a→K (.ret w) Bw)→k v H'):Post C Y d1 cV (λo H=>cR K o H λv=>k v H) S1 r:=by
 cases r with
 |ok a j=>exact λH' S' v m c p q=>hk a j H' S' v m c p q h
 |err c j=>exact λH' S' m ch p=>h H' S' m (hx.trans (ch.mono hX)) p
 |bA=>exact h
theorem an.gi(h:an X S S1)(g:an Y S1 S')(hy:∀b,Y b→X b∨S.n≤b):an X S S':=⟨Nat.le_trans h.1 g.1,λb hb hx=>(g.2 b (Nat.lt_of_lt_of_le hb h.1) λq=>by
 rcases hy b q with w|w
 ·exact hx w
 ·omega).trans (h.2 b hb hx)⟩
theorem an.ob{b:Nat}{c:List AV}{m:Nat}(g:an Y S S')(hM:Mem H S)(hb:S.ob b=.ce c m)(hy:¬Y b):S'.ob b=.ce c m:=(g.2 b (hM.lt (by rw[hb];simp)) hy).trans hb
theorem dv:∀{l:List AV}{n:Nat}{x:Prop},l.length=n→x→dV l n x
 |[],0,x,_,hx=>hx
 |a::l,n+1,x,h,hx=>dv (l:=l) (n:=n) (by simpa using h) hx
theorem dD(l:List AV)(k:List AV→Prop):onVal (.agg l) k=k l:=rfl
theorem qE{l z:List AV}(hl:l.length=7)(hz:z.length=7):spl l z 0=l:=by
 match l,hl,z,hz with
 |[a,b,c,d,e,f,g],_,[_,_,_,_,_,_,_],_=>rfl
theorem tF{l k z:List AV}(hl:l.length=7)(hk:k.length=7)(hz:z.length=14):spl k (spl l z 0) 7=l++k:=by
 match l,hl,k,hk,z,hz with
 |[_,_,_,_,_,_,_],_,[_,_,_,_,_,_,_],_,[_,_,_,_,_,_,_,_,_,_,_,_,_,_],_=>rfl
theorem al2{l z:List AV}(hl:l.length=5)(hz:z.length=5):spl l z 0=l:=by
 match l,hl,z,hz with
 |[a,b,c,d,e],_,[_,_,_,_,_],_=>rfl
theorem ey{v:AV}{x:Prop}(h:v.one=true)(hx:x):one v x:=by
 unfold one;exact cE h hx
end
theorem bV{α β γ:Type}(r:ay α)(f:α→Nat→ay β)(g:β→Nat→ay γ):(r.bind f).bind g=r.bind λa j=>(f a j).bind g:=by cases r<;>rfl
def Ag{α:Type}(r:ay α)(a:α):Prop:=∀a' j,r=.ok a' j→a=a'
theorem ap6{α β:Type}{r:ay α}{a:α}(h:Ag r a)(f:α→Nat→ay β):r.bind f=r.bind λ_ j=>f a j:=by
 cases r with
 |ok b j=>rw[h b j rfl];rfl
 |err c j=>rfl
 |bA=>rfl
def ay.ix{α:Type}:ay α→Nat
 |.ok _ i=>i
 |.err _ i=>i
 |.bA=>0
def ay.cd{α:Type}:ay α→Nat
 |.err c _=>c
 |_=>0
def ay.pl{α:Type}(T:List Tok):ay α→Nat
 |.err _ i=>aq T i
 |_=>0
structure bB(C:Ctx)(S:LS){α:Type}(r:ay α):Prop where
 ob:S.ob C.bp=.ce [C.vT,.int 0 (r.ix:Int),.int 0 (r.cd:Int),.int 0 (r.pl C.T:Int)] 0
 tk:eI S 4 C.vT C.T.length (tcs C.T)
 lt:r.ix<C.T.length
 no:r≠.bA
 cd:∀c i,r=.err c i→c≠0∧c≤100
def bd{α:Type}(C:Ctx)(X:Nat→Prop)(Rp:LS→(Nat→Prop)→AV→α→Prop)(K:KF)(S:LS)(r:ay α):Prop:=
 r≠.bA∧∀H' S' v a,Mem H' S'→an X S S'→bB C S' r→Rp S' (fb S.n S'.n) v a→Ag r a→K (.ret v) H'
def pW{α:Type}(T:List Tok)(s:List Nat):ay α→Bool
 |.ok _ i=>isA T s i
 |_=>false
section
variable {C:Ctx}{X Y:Nat→Prop}{S S' S1:LS}{H:AH}{K:KF}{α β γ:Type}{cV:LS→(Nat→Prop)→AV→α→Prop}{An:LS→(Nat→Prop)→AV→β→Prop}{r:ay α}
theorem bB.dO(h:bB C S r)(hM:Mem H S):C.bp<S.n:=hM.lt (by rw[h.ob];simp)
theorem bB.keep(h:bB C S r)(hM:Mem H S)(hc:an X S S')(h1:¬X C.bp)(h2:∀b,aG C.vT b→¬X b):bB C S' r:=
 ⟨(hc.2 C.bp (h.dO hM) h1).trans h.ob,h.tk.keep hM λb hb hlt=>hc.2 b hlt (h2 b hb),h.lt,h.no,h.cd⟩
theorem bB.iK(h:bB C S r)(hM:Mem H S)(hc:an aV S S'):bB C S' r:=h.keep hM hc (λg=>g) λ_ _ g=>g
theorem bB.as{r':ay β}(h:bB C S r)(h1:r'.ix=r.ix)(h2:r'.cd=r.cd)(h3:r'.pl C.T=r.pl C.T)(h4:r'≠.bA)(h5:∀c i,r'=.err c i→c≠0∧c≤100):bB C S r':=
 ⟨by rw[h1,h2,h3];exact h.ob,h.tk,by rw[h1];exact h.lt,h4,h5⟩
theorem Je(h:eI S 4 C.vT C.T.length (tcs C.T))(o:gd):eI (S.set C.bp o) 4 C.vT C.T.length (tcs C.T):=by
 rcases h with g|⟨b,c,ex,cs,g1,g2,g3⟩
 ·exact .inl g
 ·refine .inr ⟨b,c,ex,cs,g1,?_,g3⟩;rw[LS.ah _ _ λe=>C.ne (by rw[g1,←e];rfl)];exact g2
theorem bB.ga{r0:ay γ}{S0:LS}{H0:AH}(h:bB C S r)(h0:bB C S0 r0)(hM0:Mem H0 S0){b:Nat}(hb:S0.n≤b)(o:gd):bB C (S.set b o) r:=
 ⟨(LS.ah _ _ (by have:=h0.dO hM0;omega)).trans h.ob,by
  have hv:=h0.tk;rcases h.tk with g|⟨b',c,ex,cs,g1,g2,g3⟩
  ·exact .inl g
  ·refine .inr ⟨b',c,ex,cs,g1,?_,g3⟩;have:b'<S0.n:=hv.lt hM0 (by rw[g1];rfl);rw[LS.ah _ _ (by omega)];exact g2,h.lt,h.no,h.cd⟩
theorem bB.setB(h:bB C S r){b:Nat}(h1:b≠C.bp)(h2:∀x,aG C.vT x→x≠b)(o:gd):bB C (S.set b o) r:=
 ⟨(LS.ah _ _ (Ne.symm h1)).trans h.ob,by
  rcases h.tk with g|⟨b',c,ex,cs,g1,g2,g3⟩
  ·exact .inl g
  ·refine .inr ⟨b',c,ex,cs,g1,?_,g3⟩;rw[LS.ah _ _ (h2 b' (by rw[g1];rfl))];exact g2,h.lt,h.no,h.cd⟩
theorem bB.ok(h:bB C S r){j:Nat}(a:β)(hj:j<C.T.length):bB C (S.set C.bp (.ce [C.vT,.int 0 (j:Int),.int 0 0,.int 0 0] 0)) (ay.ok a j):=
 ⟨LS.aj _ _ _,Je h.tk _,hj,λe=>(by cases e),λc i e=>(by cases e)⟩
theorem bB.err{c i:Nat}(h:bB C S r)(hi:i<C.T.length)(h0:c≠0)(h1:c≤100):bB C (S.set C.bp (.ce [C.vT,.int 0 (i:Int),.int 0 (c:Int),.int 0 (aq C.T i:Int)] 0)) (ay.err c i:ay β):=
 ⟨LS.aj _ _ _,Je h.tk _,hi,λe=>(by cases e),λc' i' e=>(by cases e;exact⟨h0,h1⟩)⟩
theorem bd.call{f:α→Nat→ay β}(h:bd C X An K S (r.bind f)){k:AV→AH→Prop}
  (hk:∀a H' S' v,Mem H' S'→an Y S1 S'→bB C S' r→cV S' (fb S1.n S'.n) v a→bd C X An K S (r.bind λ_ j=>f a j)→k v H'):bd C Y cV (λo H=>cR K o H λv=>k v H) S1 r:=
 ⟨λe=>h.1 (by rw[e];rfl),λH' S' v a m c d p g=>hk a H' S' v m c d p (by rw[←ap6 g];exact h)⟩
theorem bd.tail{r:ay β}(h:bd C X An K S r){cV:LS→(Nat→Prop)→AV→β→Prop}{k:AV→AH→Prop}
  (hk:∀a H' S' v,Mem H' S'→an Y S1 S'→bB C S' r→cV S' (fb S1.n S'.n) v a→(∀Bw qK w,Mem Bw qK→an X S qK→bB C qK r→An qK (fb S.n qK.n) w a→K (.ret w) Bw)→k v H'):bd C Y cV (λo H=>cR K o H λv=>k v H) S1 r:=
 ⟨h.1,λH' S' v a m c d p g=>hk a H' S' v m c d p λBw qK w m' c' d' p'=>h.2 Bw qK w a m' c' d' p' g⟩
theorem bd.seq{r:ay γ}{p:γ→Nat→ay α}{f:α→Nat→ay β}(h:bd C X An K S (r.bind λx i=>(p x i).bind f)):bd C X An K S ((r.bind p).bind f):=by rw[bV];exact h
theorem Ff{s:List Nat}(h:pW C.T s r=true):∃a i,r=.ok a i∧isA C.T s i=true:=by
 cases r with
 |ok a i=>exact⟨a,i,rfl,h⟩
 |err c i=>cases h
 |bA=>cases h
theorem zX{s:List Nat}(h:pW C.T s r=false)(f g:α→Nat→ay β):(r.bind λa i=>if isA C.T s i=true then f a i else g a i)=r.bind g:=by
 cases r with
 |ok a i=>
  have h:isA C.T s i=false:=h;show(if isA C.T s i=true then f a i else g a i)=g a i;rw[h];rfl
 |err c i=>rfl
 |bA=>rfl
end
theorem jO.aut{l:List Nat}{k:Nat}{t:List Nat}{v j:Nat}(h:jO l k t v j):k≠0:=by cases h<;>decide
theorem fh.ends{l:List Nat}{p:Nat}{r:List Tok ⊕ Nat}(h:fh l p r):∀ts,r=.inl ts→∃a q,ts=a++[⟨0,[],0,q⟩]∧∀t∈a,t.kind≠0:=by
 induction h with
 |nil p=>intro ts e;cases e;exact⟨[],p,rfl,λt h=>by simp at h⟩
 |blank c l p r _ _ ih=>exact ih
 |remark l p r _ ih=>exact ih
 |wrong=>intro ts e;cases e
 |tok c l p k t n j ts _ _ ht _ ih=>
  intro ts' e;cases e;obtain⟨a,q,e,h⟩:=ih ts rfl;refine⟨⟨k,t,n,p⟩::a,q,by rw[e];rfl,λx hx=>?_⟩;rcases List.mem_cons.1 hx with rfl|hx
  ·exact ht.aut
  ·exact h x hx
 |bad=>intro ts e;cases e
theorem fh.b8{l:List Nat}{p:Nat}{r:List Tok ⊕ Nat}(h:fh l p r):B8 l→∀ts,r=.inl ts→∀t∈ts,B8 t.text:=by
 induction h with
 |nil p=>intro _ ts e t ht;cases e;simp at ht;subst ht;exact B8.nil
 |blank c l p r _ _ ih=>exact λh8=>ih h8.tl
 |remark l p r _ ih=>exact λh8=>ih (h8.drop _)
 |wrong=>intro _ ts e;cases e
 |tok c l p k t n j ts _ _ ht _ ih=>
  intro h8 ts' e;cases e;intro x hx;rcases List.mem_cons.1 hx with rfl|hx
  ·exact ht.b8 h8
  ·exact ih (h8.drop _) ts rfl x hx
 |bad=>intro _ ts e;cases e
theorem fh.tG{l:List Nat}{p:Nat}{ts:List Tok}(h:fh l p (.inl ts)):nD ts:=by
 obtain⟨a,q,e,ha⟩:=h.ends ts rfl;subst e;refine⟨by simp,λi hi hk=>?_⟩;rw[List.length_append,List.length_singleton]at hi ⊢;rcases Nat.lt_or_ge i a.length with g|g
 ·omega
 ·exfalso;have e:i=a.length:=by omega
  subst e;apply hk;unfold bH;rw[List.getElem?_append_right (Nat.le_refl _),Nat.sub_self];rfl
def mA(T:List Tok):ay (List aS):=(cF T (64*T.length+64) 0 0).bind λb j=>if bH T j=0 then .ok b j else .err 14 j
theorem Jf{T:List Tok}(hT:nD T):mA T≠.bA:=by
 have h:=(SA hT (64*T.length+64)).block 0 0 hT.1 (by omega);unfold mA;cases e:cF T (64*T.length+64) 0 0 with
 |bA=>rw[e]at h;exact h.elim
 |err c i=>intro q;cases q
 |ok b j=>
  show(if bH T j=0 then ay.ok b j else .err 14 j)≠.bA;split<;>intro q<;>cases q
theorem zY{T:List Tok}(hT:nD T):∀b j,cF T (64*T.length+64) 0 0=.ok b j→j<T.length:=λb j e=>by
 have h:=(SA hT (64*T.length+64)).block 0 0 hT.1 (by omega);rw[e]at h;exact h.2
def vG(r:List Tok ⊕ Nat):List aS ⊕ Nat×Nat:=match r with
 |.inr e=>.inr (14,e)
 |.inl ts=>(match mA ts with
  |.ok b _=>.inl b
  |.err c i=>.inr (c,aq ts i)
  |.bA=>.inl [])
def SC(K:KF)(S0:LS)(r:List aS ⊕ Nat×Nat):Prop:=match r with
 |.inl b=>∀H' S' v,Mem H' S'→Ext S0 S'→fK S' (fb S0.n S'.n) v b→K (.ret (.aY [v,.int 0 0,.int 0 0])) H'
 |.inr (c,p)=>∀H' S',Mem H' S'→Ext S0 S'→K (.ret (.aY [.ab,.int 0 (c:Int),.int 0 (p:Int)])) H'
def LxQ(K:KF)(S0:LS)(r:List Tok ⊕ Nat):Prop:=match r with
 |.inl ts=>∀H' S' v',Mem H' S'→Ext S0 S'→eI S' 4 v' ts.length (tcs ts)→(∀b,aG v' b→S0.n≤b)→K (.ret (.aY [v',.int 0 0,.int 0 0])) H'
 |.inr e=>∀H' S',Mem H' S'→Ext S0 S'→K (.ret (.aY [.ab,.int 0 14,.int 0 (e:Int)])) H'
theorem fK.go{S S':LS}{Q Q':Nat→Prop}{v:AV}{l:List aS}(h:fK S Q v l)(hk:∀b,Q b→S'.ob b=S.ob b)(h1:∀b,Q b→Q' b):fK S' Q' v l:=by
 obtain⟨cl,g1,g2⟩:=h;exact⟨cl,g1.go hk h1,λi e he=>(g2 i e he).go hk h1⟩
theorem eI.one'{S:LS}{sz n:Nat}{v:AV}{l:List AV}(h:eI S sz v n l):v.one=true:=by
 rcases h with⟨rfl,_⟩|⟨b,c,ex,cs,rfl,_⟩<;>rfl
theorem ajP{u:Nat}{z v:AV}{k:AV→Prop}(h:k (.aY [v,.bool true])):xt u z true (.iface u v) k:=by
 show bI (Nat.beq u u) (bI true (k (.aY [v,.bool true])) (k v)) (bT true (k (.aY [z,.bool false])));rw[Nat.beq_refl];exact h
theorem ajQ{u:Nat}{z:AV}{k:AV→Prop}(h:k (.aY [z,.bool false])):xt u z true .fl k:=h
theorem an.ext{S S':LS}(h:an aV S S'):Ext S S':=⟨h.1,λb hb=>h.2 b hb λq=>q⟩
theorem Ext.chg{X:Nat→Prop}{S S':LS}(h:Ext S S'):an X S S':=⟨h.n,λb hb _=>h.ob b hb⟩
section
mutual
def aC.sz:aC→Nat
 |.mk _ _ _ _ _ l f=>1+dH l+mB f
def dH:List aC→Nat
 |[]=>0
 |e::l=>e.sz+dH l
def iP.sz:iP→Nat
 |.mk ps b=>1+ps.length+iY b
def mB:List iP→Nat
 |[]=>0
 |f::l=>f.sz+mB l
def aS.sz:aS→Nat
 |.mk _ _ ns l bs=>1+ns.length+dH l+iQ bs
def iY:List aS→Nat
 |[]=>0
 |s::l=>s.sz+iY l
def iQ:List (List aS)→Nat
 |[]=>0
 |b::l=>1+iY b+iQ l
end
theorem pA:∀a b:List aC,dH (a++b)=dH a+dH b
 |[],b=>by simp[dH]
 |e::a,b=>by rw[List.cons_append,dH,dH,pA a b];omega
theorem SD:∀a b:List aS,iY (a++b)=iY a+iY b
 |[],b=>by simp[iY]
 |e::a,b=>by rw[List.cons_append,iY,iY,SD a b];omega
theorem zZ:∀a b:List (List aS),iQ (a++b)=iQ a+iQ b
 |[],b=>by simp[iQ]
 |e::a,b=>by rw[List.cons_append,iQ,iQ,zZ a b];omega
theorem bg{α β:Type}{r:ay α}{f:α→Nat→ay β}{b:β}{j:Nat}(h:r.bind f=.ok b j):∃a i,r=.ok a i∧f a i=.ok b j:=by
 cases r with
 |ok a i=>exact⟨a,i,rfl,h⟩
 |err c i=>cases h
 |bA=>cases h
theorem dS{α:Type}{a b:α}{i j:Nat}(h:(ay.ok a i:ay α)=.ok b j):a=b∧i=j:=by cases h;exact⟨rfl,rfl⟩
variable {T:List Tok}
theorem fW{s:List Nat}{i j:Nat}{u:Unit}(h:aW T s i=.ok u j):j=i+1:=by
 unfold aW at h;split at h
 ·cases h;rfl
 ·cases h
theorem uz{i j:Nat}{t:List Nat}(h:eF T i=.ok t j):j=i+1:=by
 unfold eF at h;split at h
 ·cases h;rfl
 ·cases h
structure Sz(T:List Tok)(n:Nat):Prop where
 exp:∀{i d e j},bY T n i d=.ok e j→e.sz+3+4*i≤4*j
 either:∀{i d e j},iI T n i d=.ok e j→e.sz+3+4*i≤4*j
 rJ:∀{e0 i d e j},iW T n e0 i d=.ok e j→e.sz+4*i≤e0.sz+4*j
 both:∀{i d e j},lI T n i d=.ok e j→e.sz+3+4*i≤4*j
 zU:∀{e0 i d e j},lK T n e0 i d=.ok e j→e.sz+4*i≤e0.sz+4*j
 test:∀{i d e j},lJ T n i d=.ok e j→e.sz+3+4*i≤4*j
 zV:∀{e0 i d e j},lL T n e0 i d=.ok e j→e.sz+4*i≤e0.sz+4*j
 join:∀{i d e j},iy T n i d=.ok e j→e.sz+3+4*i≤4*j
 sum:∀{i d e j},oJ T n i d=.ok e j→e.sz+3+4*i≤4*j
 E8:∀{e0 i d e j},nC T n e0 i d=.ok e j→e.sz+4*i≤e0.sz+4*j
 term:∀{i d e j},lM T n i d=.ok e j→e.sz+3+4*i≤4*j
 zW:∀{e0 i d e j},lN T n e0 i d=.ok e j→e.sz+4*i≤e0.sz+4*j
 unary:∀{i d e j},gv T n i d=.ok e j→e.sz+3+4*i≤4*j
 post:∀{i d e j},jZ T n i d=.ok e j→e.sz+3+4*i≤4*j
 qA:∀{e0 i d e j},dj T n e0 i d=.ok e j→e.sz+4*i≤e0.sz+4*j
 args:∀{b out i d l j},dt T n b out i d=.ok l j→dH l+4*i+1≤dH out+4*j
 simple:∀{i d e j},eZ T n i d=.ok e j→e.sz+3+4*i≤4*j
 table:∀{out c a i d e j},fJ T n out c a i d=.ok e j→e.sz+3+4*i≤dH out+4*j
 field:∀{c i d l j},iq T n c i d=.ok l j→dH l.1+4*i≤4*j
 body:∀{a i d e j},jJ T n a i d=.ok e j→e.sz+3+4*i≤4*j
 params:∀{b out i l j},cL T n b out i=.ok l j→l.length+4*i+3≤out.length+4*j
 block:∀{i d b j},cF T n i d=.ok b j→iY b+4*i≤4*j
 vF:∀{out i d b j},cS T n out i d=.ok b j→iY b+4*i≤iY out+4*j
 stat:∀{i d s j},gC T n i d=.ok s j→s.sz+4*i≤4*j
 qC:∀{a i d s j},jS T n a i d=.ok s j→s.sz+4*i≤4*j
 Bv:∀{a i d s j},lO T n a i d=.ok s j→s.sz+4*i≤4*j
 yU:∀{a i d s j},j0 T n a i d=.ok s j→s.sz+4*i≤4*j
 do_:∀{a i d s j},wP T n a i d=.ok s j→s.sz+4*i≤4*j
 yV:∀{a i d s j},lk T n a i d=.ok s j→s.sz+4*i≤1+4*j
 plain:∀{a i d s j},iJ T n a i d=.ok s j→s.sz+4*i≤4*j
 choice:∀{a l bs i d s j},fk T n a l bs i d=.ok s j→s.sz+4*i≤dH l+iQ bs+4*j
 for_:∀{a i d s j},nX T n a i d=.ok s j→s.sz+4*i≤4*j
 qB:∀{k a ns l i d s j},de T n k a ns l i d=.ok s j→s.sz+4*i≤ns.length+dH l+4*j
theorem Jg(kind op at_:Nat)(a b:aC):(lT kind op at_ a b).sz=1+a.sz+b.sz:=by
 unfold lT;simp only[aC.sz,dH,mB];omega
theorem yW{r:ay aC}{q:aC→Nat→ay aC}{i j:Nat}{e:aC}(h1:∀{e j},r=.ok e j→e.sz+3+4*i≤4*j)(h2:∀{e0 k e j},q e0 k=.ok e j→e.sz+4*k≤e0.sz+4*j)
  (h:r.bind q=.ok e j):e.sz+3+4*i≤4*j:=by
 obtain⟨a,k,g1,g2⟩:=bg h;have:=h1 g1;have:=h2 g2;omega
theorem yX{r:ay aC}{q:aC→Nat→ay aC}{i j kind op at_:Nat}{e e0:aC}(h1:∀{e j},r=.ok e j→e.sz+3+4*(i+1)≤4*j)(h2:∀{e0 k e j},q e0 k=.ok e j→e.sz+4*k≤e0.sz+4*j)
  (h:(r.bind λb j=>q (lT kind op at_ e0 b) j)=.ok e j):e.sz+4*i≤e0.sz+4*j:=by
 obtain⟨a,k,g1,g2⟩:=bg h;have:=h1 g1;have:=h2 g2;rw[Jg]at this;omega
theorem sz0:Sz T 0:=by
 constructor<;>intros<;>rename_i h<;>first
  |(simp only[bY]at h;cases h)|(simp only[iI]at h;cases h)|(simp only[iW]at h;cases h)|(simp only[lI]at h;cases h)|(simp only[lK]at h;cases h)|(simp only[lJ]at h;cases h)|(simp only[lL]at h;cases h)
  |(simp only[iy]at h;cases h)|(simp only[oJ]at h;cases h)|(simp only[nC]at h;cases h)|(simp only[lM]at h;cases h)|(simp only[lN]at h;cases h)|(simp only[gv]at h;cases h)|(simp only[jZ]at h;cases h)|(simp only[dj]at h;cases h)
  |(simp only[dt]at h;cases h)|(simp only[eZ]at h;cases h)|(simp only[fJ]at h;cases h)|(simp only[iq]at h;cases h)|(simp only[jJ]at h;cases h)|(simp only[cL]at h;cases h)|(simp only[cF]at h;cases h)|(simp only[cS]at h;cases h)
  |(simp only[gC]at h;cases h)|(simp only[jS]at h;cases h)|(simp only[lO]at h;cases h)|(simp only[j0]at h;cases h)|(simp only[wP]at h;cases h)|(simp only[lk]at h;cases h)|(simp only[iJ]at h;cases h)|(simp only[fk]at h;cases h)|(simp only[nX]at h;cases h)|(simp only[de]at h;cases h)
theorem szS{n:Nat}(F:Sz T n):Sz T (n+1) where
 exp h:=by
  simp only[bY]at h;split at h
  ·cases h
  ·exact F.either h
 either h:=by simp only[iI]at h;exact yW F.both F.rJ h
 rJ h:=by
  simp only[iW]at h;split at h
  ·exact yX F.both F.rJ h
  ·obtain⟨rfl,rfl⟩:=dS h;omega
 both h:=by simp only[lI]at h;exact yW F.test F.zU h
 zU h:=by
  simp only[lK]at h;split at h
  ·exact yX F.test F.zU h
  ·obtain⟨rfl,rfl⟩:=dS h;omega
 test h:=by simp only[lJ]at h;exact yW F.join F.zV h
 zV h:=by
  simp only[lL]at h;split at h
  ·obtain⟨rfl,rfl⟩:=dS h;omega
  ·exact yX F.join F.zV h
 join h:=by
  simp only[iy]at h;obtain⟨a,k,g1,h⟩:=bg h;have:=F.sum g1;split at h
  ·split at h
   ·cases h
   ·obtain⟨b,k2,g2,h⟩:=bg h;have:=F.join g2;obtain⟨rfl,rfl⟩:=dS h;rw[Jg];omega
  ·obtain⟨rfl,rfl⟩:=dS h;omega
 sum h:=by simp only[oJ]at h;exact yW F.term F.E8 h
 E8 h:=by
  simp only[nC]at h;split at h
  ·obtain⟨rfl,rfl⟩:=dS h;omega
  ·exact yX F.term F.E8 h
 term h:=by simp only[lM]at h;exact yW F.unary F.zW h
 zW h:=by
  simp only[lN]at h;split at h
  ·obtain⟨rfl,rfl⟩:=dS h;omega
  ·exact yX F.unary F.zW h
 unary h:=by
  simp only[gv]at h;split at h
  ·exact F.post h
  split at h
  ·cases h
  ·obtain⟨a,k,g1,h⟩:=bg h;have:=F.unary g1;obtain⟨rfl,rfl⟩:=dS h;simp only[aC.sz,dH,mB];omega
 post h:=by
  simp only[jZ]at h;split at h
  ·exact yW F.simple F.qA h
  ·exact F.simple h
 qA h:=by
  simp only[dj]at h;split at h
  ·obtain⟨a,k,g1,h⟩:=bg h;have:=uz g1;have:=F.qA h;rw[Jg]at this;simp only[aC.sz,dH,mB]at this;omega
  split at h
  ·obtain⟨a,k,g1,h⟩:=bg h;obtain⟨b,k2,g2,h⟩:=bg h;have:=F.exp g1;have:=fW g2;have:=F.qA h;rw[Jg]at this;omega
  split at h
  ·obtain⟨a,k,g1,h⟩:=bg h;have:=F.args g1;have:=F.qA h;simp only[aC.sz,dH,mB]at *;omega
  ·obtain⟨rfl,rfl⟩:=dS h;omega
 args {b out i d l j} h:=by
  cases b
  all_goals
   simp only[dt,Bool.false_eq_true,↓reduceIte]at h;split at h
   ·split at h
    ·cases h
    ·obtain⟨a,k,g1,h⟩:=bg h;have:=F.exp g1;have:=F.args h;rw[pA]at this;simp only[dH]at this;omega
   ·obtain⟨a,k,g1,h⟩:=bg h;have:=fW g1;obtain⟨rfl,rfl⟩:=dS h;omega
 simple h:=by
  simp only[eZ]at h;split at h
  ·obtain⟨rfl,rfl⟩:=dS h;simp only[aC.sz,dH,mB];omega
  split at h
  ·obtain⟨rfl,rfl⟩:=dS h;simp only[aC.sz,dH,mB];omega
  split at h
  ·obtain⟨rfl,rfl⟩:=dS h;simp only[aC.sz,dH,mB];omega
  split at h
  ·obtain⟨rfl,rfl⟩:=dS h;simp only[aC.sz,dH,mB];omega
  split at h
  ·have:=F.body h;omega
  split at h
  ·have:=F.table h;simp only[dH]at this;omega
  split at h
  ·obtain⟨a,k,g1,h⟩:=bg h;obtain⟨b,k2,g2,h⟩:=bg h;have:=F.exp g1;have:=fW g2;obtain⟨rfl,rfl⟩:=dS h;omega
  ·cases h
 table h:=by
  simp only[fJ]at h;split at h
  ·obtain⟨rfl,rfl⟩:=dS h;simp only[aC.sz,dH,mB];omega
  split at h
  ·cases h
  obtain⟨a,k,g1,h⟩:=bg h;have:=F.field g1;split at h
  ·have:=F.table h;rw[pA]at this;omega
  ·obtain⟨b,k2,g2,h⟩:=bg h;have:=fW g2;obtain⟨rfl,rfl⟩:=dS h;simp only[aC.sz,mB,pA];omega
 field h:=by
  simp only[iq]at h;split at h
  ·obtain⟨a,k,g1,h⟩:=bg h;obtain⟨b,k2,g2,h⟩:=bg h;obtain⟨b3,k3,g3,h⟩:=bg h;obtain⟨b4,k4,g4,h⟩:=bg h;have:=F.exp g1;have:=fW g2;have:=fW g3;have:=F.exp g4;obtain⟨rfl,rfl⟩:=dS h;simp only[dH];omega
  split at h
  ·obtain⟨a,k,g1,h⟩:=bg h;have:=F.exp g1;obtain⟨rfl,rfl⟩:=dS h;simp only[aC.sz,dH,mB];omega
  ·obtain⟨a,k,g1,h⟩:=bg h;have:=F.exp g1;obtain⟨rfl,rfl⟩:=dS h;simp only[aC.sz,dH,mB];omega
 body h:=by
  simp only[jJ]at h;obtain⟨a,k,g1,h⟩:=bg h;obtain⟨b,k2,g2,h⟩:=bg h;obtain⟨b3,k3,g3,h⟩:=bg h;obtain⟨b4,k4,g4,h⟩:=bg h;have:=fW g1;have:=F.params g2;have:=F.block g3;have:=fW g4;obtain⟨rfl,rfl⟩:=dS h;simp only[aC.sz,iP.sz,dH,mB]at *;simp only[List.length_nil]at *;omega
 params {b out i l j} h:=by
  cases b
  all_goals
   simp only[cL,Bool.false_eq_true,↓reduceIte]at h;split at h
   ·split at h
    ·cases h
    ·obtain⟨a,k,g1,h⟩:=bg h;have:=uz g1;have:=F.params h;rw[List.length_append,List.length_singleton]at this;omega
   ·obtain⟨a,k,g1,h⟩:=bg h;have:=fW g1;obtain⟨rfl,rfl⟩:=dS h;omega
 block h:=by
  simp only[cF]at h;split at h
  ·cases h
  ·have:=F.vF h;simp only[iY]at this;omega
 vF h:=by
  simp only[cS]at h;split at h
  ·obtain⟨rfl,rfl⟩:=dS h;omega
  obtain⟨a,k,g1,h⟩:=bg h;have:=F.stat g1;split at h
  ·cases h
  ·have:=F.vF h;rw[SD]at this;simp only[iY]at this;unfold dF at this;split at this<;>omega
 stat h:=by
  simp only[gC]at h;split at h
  ·have:=F.qC h;omega
  split at h
  ·have:=F.choice h;simp only[dH,iQ]at this;omega
  split at h
  ·have:=F.Bv h;omega
  split at h
  ·have:=F.yU h;omega
  split at h
  ·have:=F.for_ h;omega
  split at h
  ·obtain⟨rfl,rfl⟩:=dS h;simp only[aS.sz,dH,iQ,List.length_nil];omega
  split at h
  ·have:=F.do_ h;omega
  split at h
  ·have:=F.yV h;omega
  split at h
  ·exact F.plain h
  ·cases h
 qC h:=by
  simp only[jS]at h;split at h
  ·obtain⟨a,k,g1,h⟩:=bg h;obtain⟨b,k2,g2,h⟩:=bg h;have:=uz g1;have:=F.body g2;obtain⟨rfl,rfl⟩:=dS h;simp only[aS.sz,dH,iQ,List.length_cons,List.length_nil];omega
  ·obtain⟨a,k,g1,h⟩:=bg h;have:=uz g1;split at h
   ·obtain⟨b,k2,g2,h⟩:=bg h;have:=F.exp g2;obtain⟨rfl,rfl⟩:=dS h;simp only[aS.sz,dH,iQ,List.length_cons,List.length_nil];omega
   ·obtain⟨rfl,rfl⟩:=dS h;simp only[aS.sz,dH,iQ,List.length_cons,List.length_nil];omega
 Bv h:=by
  simp only[lO]at h;obtain⟨a,k,g1,h⟩:=bg h;obtain⟨b,k2,g2,h⟩:=bg h;obtain⟨b3,k3,g3,h⟩:=bg h;obtain⟨b4,k4,g4,h⟩:=bg h;have:=F.exp g1;have:=fW g2;have:=F.block g3;have:=fW g4;obtain⟨rfl,rfl⟩:=dS h;simp only[aS.sz,dH,iQ,List.length_nil];omega
 yU h:=by
  simp only[j0]at h;obtain⟨a,k,g1,h⟩:=bg h;obtain⟨b,k2,g2,h⟩:=bg h;obtain⟨b3,k3,g3,h⟩:=bg h;have:=F.block g1;have:=fW g2;have:=F.exp g3;obtain⟨rfl,rfl⟩:=dS h;simp only[aS.sz,dH,iQ,List.length_nil];omega
 do_ h:=by
  simp only[wP]at h;obtain⟨a,k,g1,h⟩:=bg h;obtain⟨b,k2,g2,h⟩:=bg h;have:=F.block g1;have:=fW g2;obtain⟨rfl,rfl⟩:=dS h;simp only[aS.sz,dH,iQ,List.length_nil];omega
 yV h:=by
  simp only[lk]at h;split at h
  ·obtain⟨rfl,rfl⟩:=dS h;simp only[aS.sz,dH,iQ,List.length_nil];omega
  ·obtain⟨a,k,g1,h⟩:=bg h;have:=F.exp g1;obtain⟨rfl,rfl⟩:=dS h;simp only[aS.sz,dH,iQ,List.length_nil];omega
 plain h:=by
  simp only[iJ]at h;obtain⟨a,k,g1,h⟩:=bg h;have:=F.post g1;split at h
  ·obtain⟨rfl,rfl⟩:=dS h;simp only[aS.sz,dH,iQ,List.length_nil];omega
  ·obtain⟨b,k2,g2,h⟩:=bg h;obtain⟨b3,k3,g3,h⟩:=bg h;have:=fW g2;have:=F.exp g3;obtain⟨rfl,rfl⟩:=dS h;simp only[aS.sz,dH,iQ,List.length_nil];omega
 choice h:=by
  simp only[fk]at h;obtain⟨a,k,g1,h⟩:=bg h;obtain⟨b,k2,g2,h⟩:=bg h;obtain⟨b3,k3,g3,h⟩:=bg h;have:=F.exp g1;have:=fW g2;have:=F.block g3;split at h
  ·have:=F.choice h;rw[pA,zZ]at this;simp only[dH,iQ]at this;omega
  split at h
  ·obtain⟨b4,k4,g4,h⟩:=bg h;obtain⟨b5,k5,g5,h⟩:=bg h;have:=F.block g4;have:=fW g5;obtain⟨rfl,rfl⟩:=dS h;simp only[aS.sz,pA,zZ,dH,iQ,List.length_nil];omega
  ·obtain⟨b5,k5,g5,h⟩:=bg h;have:=fW g5;obtain⟨rfl,rfl⟩:=dS h;simp only[aS.sz,pA,zZ,dH,iQ,List.length_nil];omega
 for_ h:=by
  simp only[nX]at h;obtain⟨a,k,g1,h⟩:=bg h;have:=uz g1;split at h
  ·obtain⟨b,k2,g2,h⟩:=bg h;obtain⟨b3,k3,g3,h⟩:=bg h;obtain⟨b4,k4,g4,h⟩:=bg h;have:=uz g2;have:=fW g3;have:=F.exp g4;have:=F.qB h;simp only[dH,List.length_cons,List.length_nil]at this;omega
  ·obtain⟨b,k2,g2,h⟩:=bg h;obtain⟨b3,k3,g3,h⟩:=bg h;obtain⟨b4,k4,g4,h⟩:=bg h;obtain⟨b5,k5,g5,h⟩:=bg h;have:=fW g2;have:=F.exp g3;have:=fW g4;have:=F.exp g5;split at h
   ·obtain⟨b6,k6,g6,h⟩:=bg h;have:=F.exp g6;have:=F.qB h;simp only[dH,List.length_cons,List.length_nil]at this;omega
   ·have:=F.qB h;simp only[dH,List.length_cons,List.length_nil]at this;omega
 qB h:=by
  simp only[de]at h;obtain⟨a,k,g1,h⟩:=bg h;obtain⟨b,k2,g2,h⟩:=bg h;obtain⟨b3,k3,g3,h⟩:=bg h;have:=fW g1;have:=F.block g2;have:=fW g3;obtain⟨rfl,rfl⟩:=dS h;simp only[aS.sz,dH,iQ];omega
theorem ajR:∀n,Sz T n
 |0=>sz0
 |n+1=>szS (ajR n)
end
end Go.X
