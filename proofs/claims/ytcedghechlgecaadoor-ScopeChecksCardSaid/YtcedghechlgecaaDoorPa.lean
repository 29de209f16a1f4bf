/- The grammar with fuel, scripts in memory. No condition: definitions and lemmas. -/
import Derived.Test.YtcedghechlgecaaDoorGc
set_option maxRecDepth 100000
set_option maxHeartbeats 0
set_option linter.unusedVariables false
set_option linter.unusedSimpArgs false
namespace Go.X
section
mutual
inductive al where
 |mk (kind at_ n:Nat) (s:List Nat) (op:Nat) (l:List al) (f:List eV)
inductive eV where
 |mk (params:List (List Nat)) (body:List aA)
inductive aA where
 |mk (kind at_:Nat) (names:List (List Nat)) (l:List al) (blocks:List (List aA))
end
def al.kind:al→Nat
 |.mk k ..=>k
def aA.kind:aA→Nat
 |.mk k ..=>k
inductive an(α:Type) where
 |ok (a:α) (i:Nat)
 |err (c i:Nat)
 |aS
def an.bind{α β:Type}(r:an α)(f:α→Nat→an β):an β:=match r with
 |.ok a i=>f a i
 |.err c i=>.err c i
 |.aS=>.aS
def cC(T:List Tok)(i:Nat):Nat:=match T[i]? with|some t=>t.kind|none=>0
def fU(T:List Tok)(i:Nat):List Nat:=match T[i]? with|some t=>t.text|none=>[]
def aB(T:List Tok)(i:Nat):Nat:=match T[i]? with|some t=>t.pos|none=>0
def Nw(T:List Tok)(i:Nat):Nat:=match T[i]? with|some t=>t.n|none=>0
def isA(T:List Tok)(s:List Nat)(i:Nat):Bool:=(decide (cC T i=1)||decide (cC T i=5))&&decide (fU T i=s)
def aU(T:List Tok)(s:List Nat)(i:Nat):an Unit:=if isA T s i then .ok () (i+1) else .err 14 i
def dT(T:List Tok)(i:Nat):an (List Nat):=if cC T i=2 then .ok (fU T i) (i+1) else .err 14 i
def nt(T:List Tok)(i:Nat):Nat→List (List Nat)→Nat
 |_,[]=>0
 |f,s::l=>if isA T s i then f else nt T i (f+1) l
def fe(T:List Tok)(i:Nat):Bool:=isA T [101,110,100] i||(isA T [101,108,115,101] i||(isA T [101,108,115,101,105,102] i||(isA T [117,110,116,105,108] i||decide (cC T i=0))))
def lK(kind op at_:Nat)(a b:al):al:=.mk kind at_ 0 [] op [a,b] []
def dA(T:List Tok)(s:List Nat)(i:Nat):Nat:=if isA T s i then i+1 else i
def xN(T:List Tok)(i:Nat):Nat:=if isA T [110,111,116] i then 11 else if isA T [45] i then 12 else if isA T [35] i then 13 else 0
def tests:List (List Nat):=[[61,61],[126,61],[60],[60,61],[62],[62,61]]
def sums:List (List Nat):=[[43],[45]]
def terms:List (List Nat):=[[42],[47,47],[37]]
def mQ(T:List Tok)(i:Nat):Nat:=if isA T [110,105,108] i then 1 else if isA T [116,114,117,101] i then 2 else if isA T [102,97,108,115,101] i then 3 else 0
variable (T:List Tok)
mutual
def bW:Nat→Nat→Nat→an al
 |0,_,_=>.aS
 |n+1,i,d=>if 100<d+1 then .err 8 i else gB n i (d+1)
def gB:Nat→Nat→Nat→an al
 |0,_,_=>.aS
 |n+1,i,d=>(jH n i d).bind λe j=>fQ n e j d
def fQ:Nat→al→Nat→Nat→an al
 |0,_,_,_=>.aS
 |n+1,e,i,d=>if isA T [111,114] i then (jH n (i+1) d).bind λb j=>fQ n (lK 16 0 (aB T i) e b) j d else .ok e i
def jH:Nat→Nat→Nat→an al
 |0,_,_=>.aS
 |n+1,i,d=>(jI n i d).bind λe j=>ja n e j d
def ja:Nat→al→Nat→Nat→an al
 |0,_,_,_=>.aS
 |n+1,e,i,d=>if isA T [97,110,100] i then (jI n (i+1) d).bind λb j=>ja n (lK 15 0 (aB T i) e b) j d else .ok e i
def jI:Nat→Nat→Nat→an al
 |0,_,_=>.aS
 |n+1,i,d=>(gC n i d).bind λe j=>jb n e j d
def jb:Nat→al→Nat→Nat→an al
 |0,_,_,_=>.aS
 |n+1,e,i,d=>if nt T i 7 tests=0 then .ok e i else (gC n (i+1) d).bind λb j=>jb n (lK 14 (nt T i 7 tests) (aB T i) e b) j d
def gC:Nat→Nat→Nat→an al
 |0,_,_=>.aS
 |n+1,i,d=>(mF n i d).bind λe j=>if isA T [46,46] j then (if 100<d+1 then .err 8 (j+1) else (gC n (j+1) (d+1)).bind λb k=>.ok (lK 14 6 (aB T j) e b) k) else .ok e j
def mF:Nat→Nat→Nat→an al
 |0,_,_=>.aS
 |n+1,i,d=>(jJ n i d).bind λe j=>kh n e j d
def kh:Nat→al→Nat→Nat→an al
 |0,_,_,_=>.aS
 |n+1,e,i,d=>if nt T i 1 sums=0 then .ok e i else (jJ n (i+1) d).bind λb j=>kh n (lK 14 (nt T i 1 sums) (aB T i) e b) j d
def jJ:Nat→Nat→Nat→an al
 |0,_,_=>.aS
 |n+1,i,d=>(fz n i d).bind λe j=>jc n e j d
def jc:Nat→al→Nat→Nat→an al
 |0,_,_,_=>.aS
 |n+1,e,i,d=>if nt T i 3 terms=0 then .ok e i else (fz n (i+1) d).bind λb j=>jc n (lK 14 (nt T i 3 terms) (aB T i) e b) j d
def fz:Nat→Nat→Nat→an al
 |0,_,_=>.aS
 |n+1,i,d=>if xN T i=0 then iW n i d else if 100<d+1 then .err 8 (i+1) else (fz n (i+1) (d+1)).bind λe j=>.ok (.mk (xN T i) (aB T i) 0 [] 0 [e] []) j
def iW:Nat→Nat→Nat→an al
 |0,_,_=>.aS
 |n+1,i,d=>if cC T i=2∨isA T [40] i=true then (dW n i d).bind λe j=>cK n e j d else dW n i d
def cK:Nat→al→Nat→Nat→an al
 |0,_,_,_=>.aS
 |n+1,e,i,d=>
  if isA T [46] i then (dT T (i+1)).bind λs j=>cK n (lK 9 0 (aB T i) e (.mk 5 (aB T (i+1)) 0 s 0 [] [])) j d
  else if isA T [91] i then (bW n (i+1) d).bind λk j=>(aU T [93] j).bind λ_ j=>cK n (lK 9 0 (aB T i) e k) j d
  else if isA T [40] i then (dJ n true [] (i+1) d).bind λl j=>cK n (.mk 10 (aB T i) 0 [] 0 (e::l) []) j d
  else .ok e i
def dJ:Nat→Bool→List al→Nat→Nat→an (List al)
 |0,_,_,_,_=>.aS
 |n+1,first,out,i,d=>
  if (if first then !isA T [41] i else isA T [44] i) then
   (if out.length=16 then .err 8 (if first then i else i+1) else (bW n (if first then i else i+1) d).bind λe j=>dJ n false (out++[e]) j d)
  else (aU T [41] i).bind λ_ j=>.ok out j
def dW:Nat→Nat→Nat→an al
 |0,_,_=>.aS
 |n+1,i,d=>
  if cC T i=3 then .ok (.mk 4 (aB T i) (Nw T i) [] 0 [] []) (i+1)
  else if cC T i=4 then .ok (.mk 5 (aB T i) 0 (fU T i) 0 [] []) (i+1)
  else if cC T i=2 then .ok (.mk 6 (aB T i) 0 (fU T i) 0 [] []) (i+1)
  else if mQ T i≠0 then .ok (.mk (mQ T i) (aB T i) 0 [] 0 [] []) (i+1)
  else if isA T [102,117,110,99,116,105,111,110] i then iH n (aB T i) (i+1) d
  else if isA T [123] i then fq n [] 0 (aB T i) (i+1) d
  else if isA T [40] i then (bW n (i+1) d).bind λe j=>(aU T [41] j).bind λ_ j=>.ok e j
  else .err 14 i
def fq:Nat→List al→Nat→Nat→Nat→Nat→an al
 |0,_,_,_,_,_=>.aS
 |n+1,out,c,a,i,d=>
  if isA T [125] i then .ok (.mk 8 a 0 [] 0 out []) (i+1)
  else if out.length=128 then .err 8 i
  else (ig n c i d).bind λr j=>if isA T [44] j∨isA T [59] j then fq n (out++r.1) r.2 a (j+1) d else (aU T [125] j).bind λ_ k=>.ok (.mk 8 a 0 [] 0 (out++r.1) []) k
def ig:Nat→Nat→Nat→Nat→an (List al×Nat)
 |0,_,_,_=>.aS
 |n+1,c,i,d=>
  if isA T [91] i then (bW n (i+1) d).bind λk j=>(aU T [93] j).bind λ_ j=>(aU T [61] j).bind λ_ j=>(bW n j d).bind λv j=>.ok ([k,v],c) j
  else if cC T i=2∧cC T (i+1)=5∧fU T (i+1)=[61] then (bW n (i+2) d).bind λv j=>.ok ([.mk 5 (aB T i) 0 (fU T i) 1 [] [],v],c) j
  else (bW n i d).bind λv j=>.ok ([.mk 4 (aB T i) (c+1) [] 1 [] [],v],c+1) j
def iH:Nat→Nat→Nat→Nat→an al
 |0,_,_,_=>.aS
 |n+1,a,i,d=>(aU T [40] i).bind λ_ j=>(cg n true [] j).bind λps j=>(cD n j d).bind λb j=>(aU T [101,110,100] j).bind λ_ j=>.ok (.mk 7 a 0 [] 0 [] [.mk ps b]) j
def cg:Nat→Bool→List (List Nat)→Nat→an (List (List Nat))
 |0,_,_,_=>.aS
 |n+1,first,out,i=>
  if (if first then !isA T [41] i else isA T [44] i) then
   (if out.length=16 then .err 8 (if first then i else i+1) else (dT T (if first then i else i+1)).bind λs j=>cg n false (out++[s]) j)
  else (aU T [41] i).bind λ_ j=>.ok out j
def cD:Nat→Nat→Nat→an (List aA)
 |0,_,_=>.aS
 |n+1,i,d=>if 100<d+1 then .err 8 i else cE n [] i (d+1)
def cE:Nat→List aA→Nat→Nat→an (List aA)
 |0,_,_,_=>.aS
 |n+1,out,i,d=>
  if fe T i then .ok out i
  else (fK n i d).bind λs j=>if s.kind=10∧fe T (dA T [59] j)=false then .err 14 (dA T [59] j) else cE n (out++[s]) (dA T [59] j) d
def fK:Nat→Nat→Nat→an aA
 |0,_,_=>.aS
 |n+1,i,d=>
  if isA T [108,111,99,97,108] i then iI n (aB T i) (i+1) d
  else if isA T [105,102] i then eN n (aB T i) [] [] (i+1) d
  else if isA T [119,104,105,108,101] i then iJ n (aB T i) (i+1) d
  else if isA T [114,101,112,101,97,116] i then gD n (aB T i) (i+1) d
  else if isA T [102,111,114] i then lX n (aB T i) (i+1) d
  else if isA T [98,114,101,97,107] i then .ok (.mk 9 (aB T i) [] [] []) (i+1)
  else if isA T [100,111] i then pR n (aB T i) (i+1) d
  else if isA T [114,101,116,117,114,110] i then ij n (aB T i) (i+1) d
  else if cC T i=2 then gF n (aB T i) i d
  else .err 14 i
def iI:Nat→Nat→Nat→Nat→an aA
 |0,_,_,_=>.aS
 |n+1,a,i,d=>
  if isA T [102,117,110,99,116,105,111,110] i then (dT T (i+1)).bind λs j=>(iH n (aB T j) j d).bind λb j=>.ok (.mk 12 a [s] [b] []) j
  else (dT T i).bind λs j=>if isA T [61] j then (bW n (j+1) d).bind λe k=>.ok (.mk 1 a [s] [e] []) k else .ok (.mk 1 a [s] [] []) j
def iJ:Nat→Nat→Nat→Nat→an aA
 |0,_,_,_=>.aS
 |n+1,a,i,d=>(bW n i d).bind λe j=>(aU T [100,111] j).bind λ_ j=>(cD n j d).bind λb j=>(aU T [101,110,100] j).bind λ_ j=>.ok (.mk 5 a [] [e] [b]) j
def gD:Nat→Nat→Nat→Nat→an aA
 |0,_,_,_=>.aS
 |n+1,a,i,d=>(cD n i d).bind λb j=>(aU T [117,110,116,105,108] j).bind λ_ j=>(bW n j d).bind λe j=>.ok (.mk 8 a [] [e] [b]) j
def pR:Nat→Nat→Nat→Nat→an aA
 |0,_,_,_=>.aS
 |n+1,a,i,d=>(cD n i d).bind λb j=>(aU T [101,110,100] j).bind λ_ j=>.ok (.mk 11 a [] [] [b]) j
def ij:Nat→Nat→Nat→Nat→an aA
 |0,_,_,_=>.aS
 |n+1,a,i,d=>if isA T [59] i=true∨fe T i=true then .ok (.mk 10 a [] [] []) i else (bW n i d).bind λe j=>.ok (.mk 10 a [] [e] []) j
def gF:Nat→Nat→Nat→Nat→an aA
 |0,_,_,_=>.aS
 |n+1,a,i,d=>(iW n i d).bind λe j=>if e.kind=10 then .ok (.mk 3 a [] [e] []) j else (aU T [61] j).bind λ_ j=>(bW n j d).bind λv j=>.ok (.mk 2 a [] [e,v] []) j
def eN:Nat→Nat→List al→List (List aA)→Nat→Nat→an aA
 |0,_,_,_,_,_=>.aS
 |n+1,a,l,bs,i,d=>(bW n i d).bind λe j=>(aU T [116,104,101,110] j).bind λ_ j=>(cD n j d).bind λb j=>
  if isA T [101,108,115,101,105,102] j then eN n a (l++[e]) (bs++[b]) (j+1) d
  else if isA T [101,108,115,101] j then (cD n (j+1) d).bind λb2 j=>(aU T [101,110,100] j).bind λ_ j=>.ok (.mk 4 a [] (l++[e]) (bs++[b]++[b2])) j
  else (aU T [101,110,100] j).bind λ_ j=>.ok (.mk 4 a [] (l++[e]) (bs++[b])) j
def lX:Nat→Nat→Nat→Nat→an aA
 |0,_,_,_=>.aS
 |n+1,a,i,d=>(dT T i).bind λs j=>
  if isA T [44] j then (dT T (j+1)).bind λs2 j=>(aU T [105,110] j).bind λ_ j=>(bW n j d).bind λe j=>cF n 7 a [s,s2] [e] j d
  else (aU T [61] j).bind λ_ j=>(bW n j d).bind λe j=>(aU T [44] j).bind λ_ j=>(bW n j d).bind λe2 j=>
   if isA T [44] j then (bW n (j+1) d).bind λe3 j=>cF n 6 a [s] [e,e2,e3] j d
   else cF n 6 a [s] [e,e2] j d
def cF:Nat→Nat→Nat→List (List Nat)→List al→Nat→Nat→an aA
 |0,_,_,_,_,_,_=>.aS
 |n+1,k,a,ns,l,i,d=>(aU T [100,111] i).bind λ_ j=>(cD n j d).bind λb j=>(aU T [101,110,100] j).bind λ_ j=>.ok (.mk k a ns l [b]) j
end
end
def mR(T:List Tok):Prop:=0<T.length∧∀i,i<T.length→cC T i≠0→i+1<T.length
def gG(α:Type)(L i:Nat)(r:an α):Prop:=match r with
 |.ok _ j=>i<j∧j<L
 |.err _ j=>j<L
 |.aS=>False
def gW(α:Type)(L i:Nat)(r:an α):Prop:=match r with
 |.ok _ j=>i≤j∧j<L
 |.err _ j=>j<L
 |.aS=>False
section
variable {T:List Tok}{α β:Type}{L i:Nat}
theorem gG.w{r:an α}(h:gG α L i r):gW α L i r:=by
 cases r with
 |ok a j=>exact⟨Nat.le_of_lt h.1,h.2⟩
 |err c j=>exact h
 |aS=>exact h
theorem gG.lo{r:an α}{i':Nat}(h:gG α L i r)(hi:i'≤i):gG α L i' r:=by
 cases r with
 |ok a j=>exact⟨Nat.lt_of_le_of_lt hi h.1,h.2⟩
 |err c j=>exact h
 |aS=>exact h
theorem gW.lo{r:an α}{i':Nat}(h:gW α L i r)(hi:i'≤i):gW α L i' r:=by
 cases r with
 |ok a j=>exact⟨Nat.le_trans hi h.1,h.2⟩
 |err c j=>exact h
 |aS=>exact h
theorem gW.lt{r:an α}{i':Nat}(h:gW α L i r)(hi:i'<i):gG α L i' r:=by
 cases r with
 |ok a j=>exact⟨Nat.lt_of_lt_of_le hi h.1,h.2⟩
 |err c j=>exact h
 |aS=>exact h
theorem gG.bind{r:an α}{f:α→Nat→an β}(h:gG α L i r)(hf:∀a j,i<j→j<L→gW β L j (f a j)):gG β L i (r.bind f):=by
 cases r with
 |ok a j=>exact(hf a j h.1 h.2).lt h.1
 |err c j=>exact h
 |aS=>exact h
theorem gW.bind{r:an α}{f:α→Nat→an β}(h:gW α L i r)(hf:∀a j,i≤j→j<L→gW β L j (f a j)):gW β L i (r.bind f):=by
 cases r with
 |ok a j=>exact(hf a j h.1 h.2).lo h.1
 |err c j=>exact h
 |aS=>exact h
theorem gW.ahI{r:an α}{f:α→Nat→an β}(h:gW α L i r)(hf:∀a j,i≤j→j<L→gG β L j (f a j)):gG β L i (r.bind f):=by
 cases r with
 |ok a j=>exact(hf a j h.1 h.2).lo h.1
 |err c j=>exact h
 |aS=>exact h
theorem PD(h:cC T i≠0):i<T.length:=by
 unfold cC at h;rcases Nat.lt_or_ge i T.length with g|g
 ·exact g
 ·rw[List.getElem?_eq_none g]at h;exact absurd rfl h
theorem afU{s:List Nat}(h:isA T s i=true):cC T i=1∨cC T i=5:=by
 unfold isA at h;rw[Bool.and_eq_true,Bool.or_eq_true]at h;rcases h.1 with g|g
 ·exact .inl (of_decide_eq_true g)
 ·exact .inr (of_decide_eq_true g)
theorem di(hT:mR T){s:List Nat}(h:isA T s i=true):i+1<T.length:=by
 have hk:cC T i≠0:=by
  rcases afU h with g|g<;>omega
 exact hT.2 i (PD hk) hk
theorem kZ(hT:mR T)(h:cC T i≠0):i+1<T.length:=hT.2 i (PD h) h
theorem fV(hT:mR T){s:List Nat}(hi:i<T.length):gG Unit T.length i (aU T s i):=by
 unfold aU;split
 ·rename_i h;exact⟨by omega,di hT h⟩
 ·exact hi
theorem te(hT:mR T)(hi:i<T.length):gG (List Nat) T.length i (dT T i):=by
 unfold dT;split
 ·rename_i h;exact⟨by omega,kZ hT (by omega)⟩
 ·exact hi
theorem IK(hT:mR T):∀(l:List (List Nat)) (f:Nat),nt T i f l≠0→i+1<T.length
 |[],f,h=>absurd rfl h
 |s::l,f,h=>by
  unfold nt at h;split at h
  ·rename_i g;exact di hT g
  ·exact IK hT l _ h
theorem apU(hT:mR T)(h:xN T i≠0):i+1<T.length:=by
 unfold xN at h;split at h
 ·rename_i g;exact di hT g
 split at h
 ·rename_i g;exact di hT g
 split at h
 ·rename_i g;exact di hT g
 ·exact absurd rfl h
theorem ajv(hT:mR T)(h:mQ T i≠0):i+1<T.length:=by
 unfold mQ at h;split at h
 ·rename_i g;exact di hT g
 split at h
 ·rename_i g;exact di hT g
 split at h
 ·rename_i g;exact di hT g
 ·exact absurd rfl h
theorem aom(hT:mR T){s:List Nat}(hi:i<T.length):i≤dA T s i∧dA T s i<T.length:=by
 unfold dA;split
 ·rename_i g;exact⟨by omega,di hT g⟩
 ·exact⟨Nat.le_refl _,hi⟩
theorem mn{a:α}(h:i<L):gW α L i (.ok a i):=⟨Nat.le_refl _,h⟩
structure Fu(T:List Tok)(n:Nat):Prop where
 exp:∀i d,i<T.length→64*(T.length-i)+20≤n→gG _ T.length i (bW T n i d)
 either:∀i d,i<T.length→64*(T.length-i)+19≤n→gG _ T.length i (gB T n i d)
 jw:∀e i d,i<T.length→64*(T.length-i)+1≤n→gW _ T.length i (fQ T n e i d)
 both:∀i d,i<T.length→64*(T.length-i)+18≤n→gG _ T.length i (jH T n i d)
 mS:∀e i d,i<T.length→64*(T.length-i)+1≤n→gW _ T.length i (ja T n e i d)
 test:∀i d,i<T.length→64*(T.length-i)+17≤n→gG _ T.length i (jI T n i d)
 mT:∀e i d,i<T.length→64*(T.length-i)+1≤n→gW _ T.length i (jb T n e i d)
 join:∀i d,i<T.length→64*(T.length-i)+16≤n→gG _ T.length i (gC T n i d)
 sum:∀i d,i<T.length→64*(T.length-i)+15≤n→gG _ T.length i (mF T n i d)
 pS:∀e i d,i<T.length→64*(T.length-i)+1≤n→gW _ T.length i (kh T n e i d)
 term:∀i d,i<T.length→64*(T.length-i)+14≤n→gG _ T.length i (jJ T n i d)
 mU:∀e i d,i<T.length→64*(T.length-i)+1≤n→gW _ T.length i (jc T n e i d)
 unary:∀i d,i<T.length→64*(T.length-i)+13≤n→gG _ T.length i (fz T n i d)
 post:∀i d,i<T.length→64*(T.length-i)+12≤n→gG _ T.length i (iW T n i d)
 ki:∀e i d,i<T.length→64*(T.length-i)+1≤n→gW _ T.length i (cK T n e i d)
 IL:∀f o i d,i<T.length→64*(T.length-i)+30≤n→gG _ T.length i (dJ T n f o i d)
 simple:∀i d,i<T.length→64*(T.length-i)+11≤n→gG _ T.length i (dW T n i d)
 Nx:∀o c a i d,i<T.length→64*(T.length-i)+40≤n→gG _ T.length i (fq T n o c a i d)
 field:∀c i d,i<T.length→64*(T.length-i)+35≤n→gG _ T.length i (ig T n c i d)
 body:∀a i d,i<T.length→64*(T.length-i)+10≤n→gG _ T.length i (iH T n a i d)
 zT:∀f o i,i<T.length→64*(T.length-i)+5≤n→gG _ T.length i (cg T n f o i)
 block:∀i d,i<T.length→64*(T.length-i)+50≤n→gW _ T.length i (cD T n i d)
 kU:∀o i d,i<T.length→64*(T.length-i)+49≤n→gW _ T.length i (cE T n o i d)
 stat:∀i d,i<T.length→64*(T.length-i)+45≤n→gG _ T.length i (fK T n i d)
 G6:∀a l b i d,i<T.length→64*(T.length-i)+25≤n→gG _ T.length i (eN T n a l b i d)
 for_:∀a i d,i<T.length→64*(T.length-i)+5≤n→gG _ T.length i (lX T n a i d)
 jD:∀k a ns l i d,i<T.length→64*(T.length-i)+5≤n→gG _ T.length i (cF T n k a ns l i d)
 mo:∀a i d,i<T.length→64*(T.length-i)+30≤n→gG _ T.length i (iI T n a i d)
 mq:∀a i d,i<T.length→64*(T.length-i)+30≤n→gG _ T.length i (iJ T n a i d)
 kz:∀a i d,i<T.length→64*(T.length-i)+60≤n→gG _ T.length i (gD T n a i d)
 do_:∀a i d,i<T.length→64*(T.length-i)+60≤n→gG _ T.length i (pR T n a i d)
 kA:∀a i d,i<T.length→64*(T.length-i)+30≤n→gW _ T.length i (ij T n a i d)
 plain:∀a i d,i<T.length→64*(T.length-i)+30≤n→gG _ T.length i (gF T n a i d)
theorem ajw(hT:mR T){n:Nat}(F:Fu T n):Fu T (n+1) where
 exp i d hi hn:=by
  simp only[bW];split
  ·exact hi
  ·exact F.either i _ hi (by omega)
 either i d hi hn:=by
  simp only[gB];exact(F.both i d hi (by omega)).bind λe j h1 h2=>F.jw e j d h2 (by omega)
 jw e i d hi hn:=by
  simp only[fQ];split
  ·rename_i h;have:=di hT h;exact(((F.both (i+1) d this (by omega)).bind λb j h1 h2=>F.jw _ j d h2 (by omega)).lo (by omega)).w
  ·exact⟨Nat.le_refl _,hi⟩
 both i d hi hn:=by
  simp only[jH];exact(F.test i d hi (by omega)).bind λe j h1 h2=>F.mS e j d h2 (by omega)
 mS e i d hi hn:=by
  simp only[ja];split
  ·rename_i h;have:=di hT h;exact(((F.test (i+1) d this (by omega)).bind λb j h1 h2=>F.mS _ j d h2 (by omega)).lo (by omega)).w
  ·exact⟨Nat.le_refl _,hi⟩
 test i d hi hn:=by
  simp only[jI];exact(F.join i d hi (by omega)).bind λe j h1 h2=>F.mT e j d h2 (by omega)
 mT e i d hi hn:=by
  simp only[jb];split
  ·exact⟨Nat.le_refl _,hi⟩
  ·rename_i h;have:=IK hT _ _ h;exact(((F.join (i+1) d this (by omega)).bind λb j h1 h2=>F.mT _ j d h2 (by omega)).lo (by omega)).w
 join i d hi hn:=by
  simp only[gC];refine(F.sum i d hi (by omega)).bind λe j h1 h2=>?_;split
  ·rename_i h;have:=di hT h;split
   ·exact this
   ·exact(((F.join (j+1) _ this (by omega)).bind λb k h3 h4=>mn h4).lo (by omega)).w
  ·exact⟨Nat.le_refl _,h2⟩
 sum i d hi hn:=by
  simp only[mF];exact(F.term i d hi (by omega)).bind λe j h1 h2=>F.pS e j d h2 (by omega)
 pS e i d hi hn:=by
  simp only[kh];split
  ·exact⟨Nat.le_refl _,hi⟩
  ·rename_i h;have:=IK hT _ _ h;exact(((F.term (i+1) d this (by omega)).bind λb j h1 h2=>F.pS _ j d h2 (by omega)).lo (by omega)).w
 term i d hi hn:=by
  simp only[jJ];exact(F.unary i d hi (by omega)).bind λe j h1 h2=>F.mU e j d h2 (by omega)
 mU e i d hi hn:=by
  simp only[jc];split
  ·exact⟨Nat.le_refl _,hi⟩
  ·rename_i h;have:=IK hT _ _ h;exact(((F.unary (i+1) d this (by omega)).bind λb j h1 h2=>F.mU _ j d h2 (by omega)).lo (by omega)).w
 unary i d hi hn:=by
  simp only[fz];split
  ·exact F.post i d hi (by omega)
  ·rename_i h;have:=apU hT h;split
   ·exact this
   ·exact((F.unary (i+1) _ this (by omega)).bind λe j h1 h2=>mn h2).lo (by omega)
 post i d hi hn:=by
  simp only[iW];split
  ·exact(F.simple i d hi (by omega)).bind λe j h1 h2=>F.ki e j d h2 (by omega)
  ·exact F.simple i d hi (by omega)
 ki e i d hi hn:=by
  simp only[cK];split
  ·rename_i h;have:=di hT h;exact(((te hT this).bind λs j h1 h2=>F.ki _ j d h2 (by omega)).lo (by omega)).w
  split
  ·rename_i h;have:=di hT h;exact(((F.exp (i+1) d this (by omega)).bind λk j h1 h2=>((fV hT h2).bind λ_ j' h3 h4=>F.ki _ j' d h4 (by omega)).w).lo (by omega)).w
  split
  ·rename_i h;have:=di hT h;exact(((F.IL _ _ (i+1) d this (by omega)).bind λl j h1 h2=>F.ki _ j d h2 (by omega)).lo (by omega)).w
  ·exact⟨Nat.le_refl _,hi⟩
 IL f o i d hi hn:=by
  simp only[dJ];cases f with
  |true=>
   simp only[if_true];split
   ·split
    ·exact hi
    ·exact(F.exp i d hi (by omega)).bind λe j h3 h4=>(F.IL _ _ j d h4 (by omega)).w
   ·exact(fV hT hi).bind λ_ j h1 h2=>mn h2
  |false=>
   simp only[Bool.false_eq_true,if_false];split
   ·rename_i h;have g1:=di hT h;split
    ·exact g1
    ·exact((F.exp (i+1) d g1 (by omega)).bind λe j h3 h4=>(F.IL _ _ j d h4 (by omega)).w).lo (by omega)
   ·exact(fV hT hi).bind λ_ j h1 h2=>mn h2
 simple i d hi hn:=by
  simp only[dW];split
  ·exact⟨by omega,kZ hT (by omega)⟩
  split
  ·exact⟨by omega,kZ hT (by omega)⟩
  split
  ·exact⟨by omega,kZ hT (by omega)⟩
  split
  ·rename_i h;exact⟨by omega,ajv hT h⟩
  split
  ·rename_i h;have:=di hT h;exact(F.body _ (i+1) d this (by omega)).lo (by omega)
  split
  ·rename_i h;have:=di hT h;exact(F.Nx _ _ _ (i+1) d this (by omega)).lo (by omega)
  split
  ·rename_i h;have:=di hT h;exact((F.exp (i+1) d this (by omega)).bind λe j h1 h2=>((fV hT h2).bind λ_ j h3 h4=>mn h4).w).lo (by omega)
  ·exact hi
 Nx o c a i d hi hn:=by
  simp only[fq];split
  ·rename_i h;exact⟨by omega,di hT h⟩
  split
  ·exact hi
  ·refine(F.field c i d hi (by omega)).bind λr j h1 h2=>?_;split
   ·rename_i h;have:j+1<T.length:=by
     rcases h with h|h<;>exact di hT h
    exact((F.Nx _ _ _ (j+1) d this (by omega)).lo (by omega)).w
   ·exact((fV hT h2).bind λ_ j h3 h4=>mn h4).w
 field c i d hi hn:=by
  simp only[ig];split
  ·rename_i h;have:=di hT h;exact((F.exp (i+1) d this (by omega)).bind λk j h1 h2=>((fV hT h2).bind λ_ j h3 h4=>((fV hT h4).bind λ_ j h5 h6=>((F.exp j d h6 (by omega)).bind λv j h7 h8=>mn h8).w).w).w).lo (by omega)
  split
  ·rename_i h;have h1:i+2<T.length:=kZ (i:=i+1) hT (by omega);exact((F.exp (i+2) d h1 (by omega)).bind λv j h3 h4=>mn h4).lo (by omega)
  ·exact(F.exp i d hi (by omega)).bind λv j h3 h4=>mn h4
 body a i d hi hn:=by
  simp only[iH];exact(fV hT hi).bind λ_ j h1 h2=>((F.zT _ _ j h2 (by omega)).bind λps j h3 h4=>((F.block j d h4 (by omega)).bind λb j h5 h6=>((fV hT h6).bind λ_ j h7 h8=>mn h8).w)).w
 zT f o i hi hn:=by
  simp only[cg];cases f with
  |true=>
   simp only[if_true];split
   ·split
    ·exact hi
    ·exact(te hT hi).bind λe j h3 h4=>(F.zT _ _ j h4 (by omega)).w
   ·exact(fV hT hi).bind λ_ j h1 h2=>mn h2
  |false=>
   simp only[Bool.false_eq_true,if_false];split
   ·rename_i h;have g1:=di hT h;split
    ·exact g1
    ·exact((te hT g1).bind λe j h3 h4=>(F.zT _ _ j h4 (by omega)).w).lo (by omega)
   ·exact(fV hT hi).bind λ_ j h1 h2=>mn h2
 block i d hi hn:=by
  simp only[cD];split
  ·exact hi
  ·exact F.kU _ i _ hi (by omega)
 kU o i d hi hn:=by
  simp only[cE];split
  ·exact⟨Nat.le_refl _,hi⟩
  ·refine((F.stat i d hi (by omega)).bind λs j h1 h2=>?_).w;obtain⟨h3,h4⟩:=aom hT (s:=[59]) h2;split
   ·exact h4
   ·exact(F.kU _ _ d h4 (by omega)).lo h3
 stat i d hi hn:=by
  simp only[fK];split
  ·rename_i h;have g1:=di hT h;exact(F.mo _ (i+1) d g1 (by omega)).lo (by omega)
  split
  ·rename_i h;have g1:=di hT h;exact(F.G6 _ _ _ (i+1) d g1 (by omega)).lo (by omega)
  split
  ·rename_i h;have g1:=di hT h;exact(F.mq _ (i+1) d g1 (by omega)).lo (by omega)
  split
  ·rename_i h;have g1:=di hT h;exact(F.kz _ (i+1) d g1 (by omega)).lo (by omega)
  split
  ·rename_i h;have g1:=di hT h;exact(F.for_ _ (i+1) d g1 (by omega)).lo (by omega)
  split
  ·rename_i h;exact⟨by omega,di hT h⟩
  split
  ·rename_i h;have g1:=di hT h;exact(F.do_ _ (i+1) d g1 (by omega)).lo (by omega)
  split
  ·rename_i h;have g1:=di hT h;exact(F.kA _ (i+1) d g1 (by omega)).lt (by omega)
  split
  ·exact F.plain _ i d hi (by omega)
  ·exact hi
 mo a i d hi hn:=by
  simp only[iI];split
  ·rename_i h;have g2:=di hT h;exact((te hT g2).bind λs j h1 h2=>((F.body _ j d h2 (by omega)).bind λb j h3 h4=>mn h4).w).lo (by omega)
  ·refine(te hT hi).bind λs j h1 h2=>?_;split
   ·rename_i h;have g2:=di hT h;exact((F.exp (j+1) d g2 (by omega)).bind λe k h3 h4=>mn h4).w.lo (by omega)
   ·exact mn h2
 mq a i d hi hn:=by
  simp only[iJ];exact(F.exp i d hi (by omega)).bind λe j h1 h2=>((fV hT h2).bind λ_ j h3 h4=>(F.block j d h4 (by omega)).bind λb j h5 h6=>((fV hT h6).bind λ_ j h7 h8=>mn h8).w).w
 kz a i d hi hn:=by
  simp only[gD];exact(F.block i d hi (by omega)).ahI λb j h1 h2=>(fV hT h2).bind λ_ j h3 h4=>((F.exp j d h4 (by omega)).bind λe j h5 h6=>mn h6).w
 do_ a i d hi hn:=by
  simp only[pR];exact(F.block i d hi (by omega)).ahI λb j h1 h2=>(fV hT h2).bind λ_ j h3 h4=>mn h4
 kA a i d hi hn:=by
  simp only[ij];split
  ·exact mn hi
  ·exact((F.exp i d hi (by omega)).bind λe j h1 h2=>mn h2).w
 plain a i d hi hn:=by
  simp only[gF];refine(F.post i d hi (by omega)).bind λe j h1 h2=>?_;split
  ·exact mn h2
  ·exact((fV hT h2).bind λ_ j h3 h4=>((F.exp j d h4 (by omega)).bind λv j h5 h6=>mn h6).w).w
 G6 a l b i d hi hn:=by
  simp only[eN];refine(F.exp i d hi (by omega)).bind λe j h1 h2=>((fV hT h2).bind λ_ j h3 h4=>(F.block j d h4 (by omega)).bind λb j h5 h6=>?_).w;split
  ·rename_i h;have g1:=di hT h;exact((F.G6 _ _ _ (j+1) d g1 (by omega)).lo (by omega)).w
  split
  ·rename_i h;have g1:=di hT h;exact((F.block (j+1) d g1 (by omega)).bind λb2 j h1 h2=>((fV hT h2).bind λ_ j h3 h4=>mn h4).w).lo (by omega)
  ·exact((fV hT h6).bind λ_ j h3 h4=>mn h4).w
 for_ a i d hi hn:=by
  simp only[lX];refine(te hT hi).bind λs j h1 h2=>?_;split
  ·rename_i h;have g1:=di hT h;exact(((te hT g1).bind λs2 j h3 h4=>((fV hT h4).bind λ_ j h5 h6=>((F.exp j d h6 (by omega)).bind λe j h7 h8=>(F.jD _ _ _ _ j d h8 (by omega)).w).w).w).lo (by omega)).w
  ·refine((fV hT h2).bind λ_ j h3 h4=>((F.exp j d h4 (by omega)).bind λe j h5 h6=>((fV hT h6).bind λ_ j h7 h8=>((F.exp j d h8 (by omega)).bind λe2 j h9 h10=>?_).w).w).w).w;split
   ·rename_i h;have g1:=di hT h;exact(((F.exp (j+1) d g1 (by omega)).bind λe3 j h11 h12=>(F.jD _ _ _ _ j d h12 (by omega)).w).lo (by omega)).w
   ·exact(F.jD _ _ _ _ j d h10 (by omega)).w
 jD k a ns l i d hi hn:=by
  simp only[cF];exact(fV hT hi).bind λ_ j h3 h4=>(F.block j d h4 (by omega)).bind λb j h5 h6=>((fV hT h6).bind λ_ j h7 h8=>mn h8).w
theorem Ny(hT:mR T):∀n,Fu T n
 |0=>by constructor<;>intros<;>omega
 |n+1=>ajw hT (Ny hT n)
end
section
variable {H:AH}{S S':LS}
def eu(S:LS)(Q:Nat→Prop)(sz:Nat)(v:AV)(n:Nat)(cl:Nat→List AV):Prop:=(v=.ab∧n=0)∨∃b o c ex cs m,v=.slice b o n c sz ex∧Q b∧S.ob b=.ce cs m∧n≤c∧o+n*sz≤cs.length∧∀i,i<n→(cs.drop (o+i*sz)).take sz=cl i
theorem eu.nil(S:LS)(Q:Nat→Prop)(sz:Nat)(cl:Nat→List AV):eu S Q sz .ab 0 cl:=.inl ⟨rfl,rfl⟩
theorem eu.go{Q Q':Nat→Prop}{sz n:Nat}{v:AV}{cl:Nat→List AV}(h:eu S Q sz v n cl)(hk:∀b,Q b→S'.ob b=S.ob b)(h1:∀b,Q b→Q' b):eu S' Q' sz v n cl:=by
 rcases h with h|⟨b,o,c,ex,cs,m,e1,h2,h4,h5⟩
 ·exact .inl h
 ·exact .inr ⟨b,o,c,ex,cs,m,e1,h1 b h2,(hk b h2).trans h4,h5⟩
theorem eu.len{Q:Nat→Prop}{sz n:Nat}{v:AV}{cl:Nat→List AV}{k:AV→Prop}(h:eu S Q sz v n cl)(hk:k (.int 0 n)):bO v k:=by
 rcases h with⟨rfl,rfl⟩|⟨b,o,c,ex,cs,m,rfl,_⟩
 ·exact hk
 ·exact hk
theorem eu.one{Q:Nat→Prop}{sz n:Nat}{v:AV}{cl:Nat→List AV}(h:eu S Q sz v n cl):v.one=true:=by
 rcases h with⟨rfl,rfl⟩|⟨b,o,c,ex,cs,m,rfl,_⟩<;>rfl
theorem eu.same{Q:Nat→Prop}{sz n:Nat}{v:AV}{cl:Nat→List AV}(h:eu S Q sz v n cl):bu v v=true:=by
 rcases h with⟨rfl,rfl⟩|⟨b,o,c,ex,cs,m,rfl,_⟩
 ·rfl
 ·simp[bu]
theorem eu.load{Q:Nat→Prop}{sz n:Nat}{v:AV}{cl:Nat→List AV}{i q:Nat}{k:AV→Prop}(h:eu S Q sz v n cl)(hM:Mem H S)(hi':i<n)(hk:k (.agg (cl i))):bb sz v (.int q i) λp=>aQ sz p H k:=by
 rcases h with⟨rfl,rfl⟩|⟨b,o,c,ex,cs,m,rfl,h1,h3,h4,h5,h6⟩
 ·omega
 ·refine ng (by omega) (by omega) ?_;rw[Int.toNat_natCast];have hle:(i+1)*sz≤n*sz:=Nat.mul_le_mul_right _ (by omega);rw[Nat.add_mul,Nat.one_mul]at hle;refine xl hM h3 (by omega) ?_;rw[h6 i hi'];exact hk
theorem eu.names{Q:Nat→Prop}{b m:Nat}{l:List (List Nat)}{ex:Bool}(hQ:Q b)(hb:S.ob b=.ce (l.map ai) m):eu S Q 1 (.slice b 0 l.length l.length 1 ex) l.length (λj=>[ai (l[j]?.getD [])]):=
 .inr ⟨b,0,l.length,ex,l.map ai,m,rfl,hQ,hb,Nat.le_refl _,by rw[List.length_map];omega,λj hj=>by
  show((l.map ai).drop (0+j*1)).take 1=[ai (l[j]?.getD [])];rw[Nat.zero_add,Nat.mul_one,List.drop_eq_getElem_cons (by rw[List.length_map];exact hj),List.getElem?_eq_getElem hj,Option.getD_some,List.getElem_map];rfl⟩
def kl(S:LS)(Q:Nat→Prop)(v:AV)(l:List (List Nat)):Prop:=eu S Q 1 v l.length (λi=>[ai (l[i]?.getD [])])∧∀t∈l,B8 t
mutual
inductive RE(S:LS)(Q:Nat→Prop):List AV→al→Prop
 |mk (kind at_ n:Nat) (s:List Nat) (op:Nat) (l:List al) (f:List eV) (vl vf:AV) (cl cf:Nat→List AV):B8 s→eu S Q 7 vl l.length cl→(∀i e,l[i]? = some e→RE S Q (cl i) e)→eu S Q 2 vf f.length cf→(∀i e,f[i]? = some e→RF S Q (cf i) e)→
   RE S Q [.int 0 kind,.int 0 at_,.int 0 n,ai s,.int 0 op,vl,vf] (.mk kind at_ n s op l f)
inductive RF(S:LS)(Q:Nat→Prop):List AV→eV→Prop
 |mk (ps:List (List Nat)) (body:List aA) (vp vb:AV) (cb:Nat→List AV):kl S Q vp ps→eu S Q 5 vb body.length cb→(∀i e,body[i]? = some e→iA S Q (cb i) e)→RF S Q [vp,vb] (.mk ps body)
inductive iA(S:LS)(Q:Nat→Prop):List AV→aA→Prop
 |mk (kind at_:Nat) (names:List (List Nat)) (l:List al) (bs:List (List aA)) (vn vl vb:AV) (cl:Nat→List AV) (bv:Nat→AV) (bc:Nat→Nat→List AV):kl S Q vn names→eu S Q 7 vl l.length cl→(∀i e,l[i]? = some e→RE S Q (cl i) e)→
   eu S Q 1 vb bs.length (λi=>[bv i])→(∀i b,bs[i]? = some b→eu S Q 5 (bv i) b.length (bc i))→(∀i b j s,bs[i]? = some b→b[j]? = some s→iA S Q (bc i j) s)→
   iA S Q [.int 0 kind,.int 0 at_,vn,vl,vb] (.mk kind at_ names l bs)
end
section
variable {Q Q':Nat→Prop}
theorem RE.go(hk:∀b,Q b→S'.ob b=S.ob b)(h1:∀b,Q b→Q' b){c:List AV}{e:al}(h:RE S Q c e):RE S' Q' c e:=
 RE.rec (motive_1:=λc e _=>RE S' Q' c e) (motive_2:=λc e _=>RF S' Q' c e) (motive_3:=λc e _=>iA S' Q' c e)
  (λkind at_ n s op l f vl vf cl cf g1 g2 _ g4 _ ih1 ih2=>.mk kind at_ n s op l f vl vf cl cf g1 (g2.go hk h1) ih1 (g4.go hk h1) ih2)
  (λps body vp vb cb g1 g2 _ ih=>.mk ps body vp vb cb ⟨g1.1.go hk h1,g1.2⟩ (g2.go hk h1) ih)
  (λkind at_ names l bs vn vl vb cl bv bc g1 g2 _ g4 g5 _ ih1 ih2=>.mk kind at_ names l bs vn vl vb cl bv bc ⟨g1.1.go hk h1,g1.2⟩ (g2.go hk h1) ih1 (g4.go hk h1) (λi b hb=>(g5 i b hb).go hk h1) ih2) h
theorem RF.go(hk:∀b,Q b→S'.ob b=S.ob b)(h1:∀b,Q b→Q' b){c:List AV}{e:eV}(h:RF S Q c e):RF S' Q' c e:=
 RF.rec (motive_1:=λc e _=>RE S' Q' c e) (motive_2:=λc e _=>RF S' Q' c e) (motive_3:=λc e _=>iA S' Q' c e)
  (λkind at_ n s op l f vl vf cl cf g1 g2 _ g4 _ ih1 ih2=>.mk kind at_ n s op l f vl vf cl cf g1 (g2.go hk h1) ih1 (g4.go hk h1) ih2)
  (λps body vp vb cb g1 g2 _ ih=>.mk ps body vp vb cb ⟨g1.1.go hk h1,g1.2⟩ (g2.go hk h1) ih)
  (λkind at_ names l bs vn vl vb cl bv bc g1 g2 _ g4 g5 _ ih1 ih2=>.mk kind at_ names l bs vn vl vb cl bv bc ⟨g1.1.go hk h1,g1.2⟩ (g2.go hk h1) ih1 (g4.go hk h1) (λi b hb=>(g5 i b hb).go hk h1) ih2) h
theorem iA.go(hk:∀b,Q b→S'.ob b=S.ob b)(h1:∀b,Q b→Q' b){c:List AV}{e:aA}(h:iA S Q c e):iA S' Q' c e:=
 iA.rec (motive_1:=λc e _=>RE S' Q' c e) (motive_2:=λc e _=>RF S' Q' c e) (motive_3:=λc e _=>iA S' Q' c e)
  (λkind at_ n s op l f vl vf cl cf g1 g2 _ g4 _ ih1 ih2=>.mk kind at_ n s op l f vl vf cl cf g1 (g2.go hk h1) ih1 (g4.go hk h1) ih2)
  (λps body vp vb cb g1 g2 _ ih=>.mk ps body vp vb cb ⟨g1.1.go hk h1,g1.2⟩ (g2.go hk h1) ih)
  (λkind at_ names l bs vn vl vb cl bv bc g1 g2 _ g4 g5 _ ih1 ih2=>.mk kind at_ names l bs vn vl vb cl bv bc ⟨g1.1.go hk h1,g1.2⟩ (g2.go hk h1) ih1 (g4.go hk h1) (λi b hb=>(g5 i b hb).go hk h1) ih2) h
theorem RE.len{c:List AV}{e:al}(h:RE S Q c e):c.length=7:=by cases h;rfl
theorem RF.len{c:List AV}{e:eV}(h:RF S Q c e):c.length=2:=by cases h;rfl
theorem iA.len{c:List AV}{e:aA}(h:iA S Q c e):c.length=5:=by cases h;rfl
theorem kl.one{v:AV}{l:List (List Nat)}(h:kl S Q v l):v.one=true:=h.1.one
theorem RE.ones{c:List AV}{e:al}(h:RE S Q c e):∀a∈c,a.one=true:=by
 cases h with
 |mk kind at_ n s op l f vl vf cl cf g1 g2 _ g4 _=>
  intro a ha;simp only[List.mem_cons,List.not_mem_nil,or_false]at ha;rcases ha with rfl|rfl|rfl|rfl|rfl|rfl|rfl<;>first|rfl|exact g2.one|exact g4.one
theorem RF.ones{c:List AV}{e:eV}(h:RF S Q c e):∀a∈c,a.one=true:=by
 cases h with
 |mk ps body vp vb cb g1 g2 _=>
  intro a ha;simp only[List.mem_cons,List.not_mem_nil,or_false]at ha;rcases ha with rfl|rfl
  ·exact g1.one
  ·exact g2.one
theorem iA.ones{c:List AV}{e:aA}(h:iA S Q c e):∀a∈c,a.one=true:=by
 cases h with
 |mk kind at_ names l bs vn vl vb cl bv bc g1 g2 _ g4 _ _=>
  intro a ha;simp only[List.mem_cons,List.not_mem_nil,or_false]at ha;rcases ha with rfl|rfl|rfl|rfl|rfl<;>first|rfl|exact g1.one|exact g2.one|exact g4.one
theorem Nz{c:List AV}(h:∀a∈c,bu a a=true):bu (.agg c) (.agg c)=true:=Am h
theorem RE.same{c:List AV}{e:al}(h:RE S Q c e):bu (.agg c) (.agg c)=true:=by
 cases h with
 |mk kind at_ n s op l f vl vf cl cf g1 g2 _ g4 _=>
  refine Nz λa ha=>?_;simp only[List.mem_cons,List.not_mem_nil,or_false]at ha;rcases ha with rfl|rfl|rfl|rfl|rfl|rfl|rfl<;>first|exact xm _ _|exact Rd _ _|exact g2.same|exact g4.same
end
structure Rep(α:Type) where
 rel:LS→(Nat→Prop)→List AV→α→Prop
 sz:Nat
 pos:0<sz
 go:∀{S S':LS}{Q Q':Nat→Prop}{c:List AV}{a:α},(∀b,Q b→S'.ob b=S.ob b)→(∀b,Q b→Q' b)→rel S Q c a→rel S' Q' c a
 len:∀{S:LS}{Q:Nat→Prop}{c:List AV}{a:α},rel S Q c a→c.length=sz
 ones:∀{S:LS}{Q:Nat→Prop}{c:List AV}{a:α},rel S Q c a→∀x∈c,x.one=true
def ku:Rep al:=⟨RE,7,by omega,λh1 h2 h=>RE.go h1 h2 h,λh=>h.len,λh=>h.ones⟩
def aq2:Rep eV:=⟨RF,2,by omega,λh1 h2 h=>RF.go h1 h2 h,λh=>h.len,λh=>h.ones⟩
def mG:Rep aA:=⟨iA,5,by omega,λh1 h2 h=>iA.go h1 h2 h,λh=>h.len,λh=>h.ones⟩
def uQ:Rep (List Nat):=⟨λ_ _ c t=>c=[ai t]∧B8 t,1,by omega,λ_ _ h=>h,λh=>by rw[h.1];rfl,λh x hx=>by rw[h.1]at hx;simp at hx;subst hx;rfl⟩
def tf:Rep (List aA):=⟨λS Q c b=>∃v bc,c=[v]∧eu S Q 5 v b.length bc∧∀j s,b[j]? = some s→iA S Q (bc j) s,1,by omega,
 λhk h1 ⟨v,bc,e,g1,g2⟩=>⟨v,bc,e,g1.go hk h1,λj s hs=>(g2 j s hs).go hk h1⟩,λ⟨v,bc,e,_⟩=>by rw[e];rfl,λ⟨v,bc,e,g1,_⟩ x hx=>by rw[e]at hx;simp at hx;subst hx;exact g1.one⟩
def jd(lo hi:Nat):Nat→Prop:=λb=>lo≤b∧b<hi
def iR{α:Type}(R:Rep α)(lo:Nat)(S:LS)(v:AV)(l:List α):Prop:=∃cl:List (List AV),ff S R.sz v l.length cl.flatten∧cl.length=l.length∧(∀b,ak v b→lo≤b)∧
 ∀(i:Nat) (c:List AV) (a:α),cl[i]? = some c→l[i]? = some a→∃Q,R.rel S Q c a∧∀b,Q b→lo≤b∧b<S.n∧¬ak v b
section
variable {α:Type}{R:Rep α}{lo:Nat}{v:AV}{l:List α}
theorem iR.nil(R:Rep α)(lo:Nat)(S:LS):iR R lo S .ab []:=⟨[],ff.nil _ _,rfl,λ_ h=>h.elim,λi c a h=>by simp at h⟩
theorem iR.keep(h:iR R lo S v l)(hM:Mem H S)(hn:S.n≤S'.n)(hk:∀b,lo≤b→b<S.n→S'.ob b=S.ob b):iR R lo S' v l:=by
 obtain⟨cl,h1,h2,h3,h4⟩:=h;refine⟨cl,h1.keep hM λb hb hlt=>hk b (h3 b hb) hlt,h2,h3,λi c a hc ha=>?_⟩;obtain⟨Q,g1,g2⟩:=h4 i c a hc ha;exact⟨Q,R.go (λb hb=>hk b (g2 b hb).1 (g2 b hb).2.1) (λ_ h=>h) g1,λb hb=>⟨(g2 b hb).1,Nat.lt_of_lt_of_le (g2 b hb).2.1 hn,(g2 b hb).2.2⟩⟩
theorem HV{cl:List (List AV)}{sz:Nat}(h:∀c∈cl,c.length=sz):∀{i:Nat}{c:List AV},cl[i]? = some c→(cl.flatten.drop (i*sz)).take sz=c:=by
 induction cl with
 |nil=>intro i c hc;simp at hc
 |cons d cl ih=>
  intro i c hc;have hd:=h d (by simp);cases i with
  |zero=>
   simp at hc;subst hc;rw[Nat.zero_mul,List.drop_zero,List.flatten_cons,←hd];exact List.take_left' rfl
  |succ i=>
   have:=ih (λx hx=>h x (by simp[hx])) (i:=i) (c:=c) (by simpa using hc);rw[List.flatten_cons,Nat.add_mul,Nat.one_mul,Nat.add_comm,←List.drop_drop,←hd,List.drop_left' rfl,hd];exact this
theorem iR.szs{cl:List (List AV)}(h4:∀(i:Nat) (c:List AV) (a:α),cl[i]? = some c→l[i]? = some a→∃Q,R.rel S Q c a∧∀b,Q b→lo≤b∧b<S.n∧¬ak v b)(hl:cl.length=l.length):∀c∈cl,c.length=R.sz:=λc hc=>by
 obtain⟨i,hi,e⟩:=List.mem_iff_getElem.1 hc;obtain⟨_,g,_⟩:=h4 i c (l[i]'(by omega)) (by rw[List.getElem?_eq_getElem hi,e]) (List.getElem?_eq_getElem _);exact R.len g
theorem iR.done(h:iR R lo S v l)(hM:Mem H S):∃cl,eu S (jd lo S.n) R.sz v l.length cl∧∀i a,l[i]? = some a→R.rel S (jd lo S.n) (cl i) a:=by
 obtain⟨cl,h1,h2,h3,h4⟩:=h;have hsz:=iR.szs h4 h2;refine⟨λi=>cl[i]?.getD [],?_,λi a ha=>?_⟩
 ·rcases h1 with⟨rfl,e,_⟩|⟨b,c,ex,cs,rfl,g2,g3,g4,g5,g6,g7⟩
  ·exact .inl ⟨rfl,e⟩
  ·refine .inr ⟨b,0,c,ex,cs,0,rfl,⟨h3 b rfl,hM.lt (by rw[g2];simp)⟩,g2,g4,by rw[g3,Nat.zero_add];exact Nat.mul_le_mul_right _ g4,λi hi=>?_⟩;have hic:i<cl.length:=by omega
   have e1:=HV hsz (List.getElem?_eq_getElem hic);show(cs.drop (0+i*R.sz)).take R.sz=cl[i]?.getD [];rw[List.getElem?_eq_getElem hic,Option.getD_some,←e1,Nat.zero_add];have hle:(i+1)*R.sz≤l.length*R.sz:=Nat.mul_le_mul_right _ (by omega);rw[Nat.add_mul,Nat.one_mul]at hle
   conv=>rhs;rw[←g6]
   rw[List.drop_take,List.take_take,Nat.min_eq_left (by omega)]
 ·have hil:=(List.getElem?_eq_some_iff.1 ha).1;have hic:i<cl.length:=by omega
  obtain⟨Q,g1,g2⟩:=h4 i _ a (List.getElem?_eq_getElem hic) ha;show R.rel S (jd lo S.n) (cl[i]?.getD []) a;rw[List.getElem?_eq_getElem hic,Option.getD_some];exact R.go (λ_ _=>rfl) (λb hb=>⟨(g2 b hb).1,(g2 b hb).2.1⟩) g1
theorem iR.step{a:α}{c:List AV}{Q:Nat→Prop}{v':AV}(h:iR R lo S v l)(hr:R.rel S Q c a)(hQ:∀b,Q b→lo≤b∧b<S.n∧¬ak v b)(hlo:lo≤S.n)(hs:∀cl,ff S R.sz v l.length cl→rz S v (l.length+1) R.sz (cl++c) S' v'):iR R lo S' v' (l++[a]):=by
 obtain⟨cl,h1,h2,h3,h4⟩:=h;obtain⟨a1,a2,a3,a4⟩:=hs _ h1;refine⟨cl++[c],?_,by simp[h2],λb hb'=>?_,λi c' a' hc ha=>?_⟩
 ·rw[List.flatten_append,List.length_append];show ff S' R.sz v' (l.length+1) (cl.flatten++[c].flatten);have:[c].flatten=c:=by simp
  rw[this];exact a3
 ·rcases a4 b hb' with g|g
  ·exact h3 b g
  ·omega
 ·have fin:∀{Q:Nat→Prop}{c:List AV}{a:α},R.rel S Q c a→(∀b,Q b→lo≤b∧b<S.n∧¬ak v b)→∃Q,R.rel S' Q c a∧∀b,Q b→lo≤b∧b<S'.n∧¬ak v' b:=λ{Q c a} g1 g2=>
   ⟨Q,R.go (λb hb=>a2 b (g2 b hb).2.1 (g2 b hb).2.2) (λ_ h=>h) g1,λb hb=>⟨(g2 b hb).1,Nat.lt_of_lt_of_le (g2 b hb).2.1 a1,λhb'=>by
    rcases a4 b hb' with q|q
    ·exact(g2 b hb).2.2 q
    ·have:=(g2 b hb).2.1;omega⟩⟩
  by_cases hi:i<cl.length
  ·rw[List.getElem?_append_left hi]at hc;rw[List.getElem?_append_left (by omega)]at ha;obtain⟨Q,g1,g2⟩:=h4 i c' a' hc ha;exact fin g1 g2
  ·rw[List.getElem?_append_right (by omega)]at hc ha;have e0:i-cl.length=0:=by
    rcases Nat.eq_zero_or_pos (i-cl.length)with q|q
    ·exact q
    ·rw[List.getElem?_eq_none (by simp;omega)]at hc;cases hc
   have e1:i-l.length=0:=by omega
   rw[e0]at hc;rw[e1]at ha;simp at hc ha;subst hc;subst ha;exact fin hr hQ
end
end
def aO(X:Nat→Prop)(S S':LS):Prop:=S.n≤S'.n∧∀b,b<S.n→¬X b→S'.ob b=S.ob b
def bU:Nat→Prop:=λ_=>False
section
variable {X Y:Nat→Prop}{S S' lL:LS}{H:AH}
theorem aO.refl(X:Nat→Prop)(S:LS):aO X S S:=⟨Nat.le_refl _,λ_ _ _=>rfl⟩
theorem aO.trans(h:aO X S S')(g:aO X S' lL):aO X S lL:=⟨Nat.le_trans h.1 g.1,λb hb hx=>(g.2 b (Nat.lt_of_lt_of_le hb h.1) hx).trans (h.2 b hb hx)⟩
theorem aO.mono(h:aO X S S')(hxy:∀b,X b→Y b):aO Y S S':=⟨h.1,λb hb hx=>h.2 b hb λg=>hx (hxy b g)⟩
theorem aO.no(h:aO bU S S'):aO X S S':=h.mono λ_ g=>g.elim
theorem aO.push(h:aO X S S')(o:gm):aO X S (S'.push o):=⟨Nat.le_trans h.1 (Nat.le_succ _),λb hb hx=>by rw[LS.bS _ _ (Nat.lt_of_lt_of_le hb h.1)];exact h.2 b hb hx⟩
theorem aO.set(h:aO X S S'){b:Nat}(hb:X b∨S.n≤b)(o:gm):aO X S (S'.set b o):=⟨h.1,λc hc hx=>by
 rw[LS.aq _ _ λe=>by subst e;rcases hb with g|g;exact hx g;omega];exact h.2 c hc hx⟩
theorem aO.app{sz n:Nat}{v v':AV}{l:List AV}(h:aO X S S')(ha:rz S' v n sz l lL v')(hv:∀b,ak v b→X b∨S.n≤b):aO X S lL:=⟨Nat.le_trans h.1 ha.1,λb hb hx=>by
 rw[ha.2.1 b (Nat.lt_of_lt_of_le hb h.1) λg=>by rcases hv b g with q|q;exact hx q;omega];exact h.2 b hb hx⟩
end
structure Ctx where
 T:List Tok
 bp:Nat
 vT:AV
 pv:AV
 ok:mR T
 b8:∀t∈T,B8 t.text
 few:T.length≤100000
 ne:¬ak vT bp
structure lQ(C:Ctx)(S:LS)(i d:Nat):Prop where
 ob:S.ob C.bp=.ce [C.vT,.int 0 (i:Int),.int 0 (d:Int),.int 0 0] 0
 tk:ff S 4 C.vT C.T.length (tcs C.T)
 lt:i<C.T.length
structure aon(C:Ctx)(S:LS)(c i:Nat):Prop where
 ob:∃d:Int,S.ob C.bp=.ce [C.vT,.int 0 (i:Int),.int 0 d,.int 0 (c:Int)] 0
 tk:ff S 4 C.vT C.T.length (tcs C.T)
 lt:i<C.T.length
def Post{α:Type}(C:Ctx)(X:Nat→Prop)(d:Nat)(Rp:LS→(Nat→Prop)→AV→α→Prop)(K:KF)(S:LS)(r:an α):Prop:=match r with
 |.ok a j=>∀H' S' v,Mem H' S'→aO X S S'→lQ C S' j d→Rp S' (jd S.n S'.n) v a→K (.ret v) H'
 |.err c j=>∀H' S',Mem H' S'→aO X S S'→aon C S' c j→K (.cM C.pv) H'
 |.aS=>False
section
variable {C:Ctx}{X Y:Nat→Prop}{S S' S1:LS}{H:AH}{K:KF}{i d d1:Nat}{α β:Type}{eO:LS→(Nat→Prop)→AV→α→Prop}{FU:LS→(Nat→Prop)→AV→β→Prop}
theorem lQ.nu(h:lQ C S i d)(hM:Mem H S):C.bp<S.n:=hM.lt (by rw[h.ob];simp)
theorem lQ.keep(h:lQ C S i d)(hM:Mem H S)(hc:aO X S S')(h1:¬X C.bp)(h2:∀b,ak C.vT b→¬X b):lQ C S' i d:=
 ⟨(hc.2 C.bp (h.nu hM) h1).trans h.ob,h.tk.keep hM λb hb hlt=>hc.2 b hlt (h2 b hb),h.lt⟩
theorem lQ.no(h:lQ C S i d)(hM:Mem H S)(hc:aO bU S S'):lQ C S' i d:=h.keep hM hc (λg=>g) λ_ _ g=>g
theorem lQ.qu{S0:LS}{H0:AH}{i0 d0:Nat}(h:lQ C S i d)(h0:lQ C S0 i0 d0)(hM0:Mem H0 S0){b:Nat}(hb:S0.n≤b)(o:gm):lQ C (S.set b o) i d:=
 ⟨(LS.aq _ _ (by have:=h0.nu hM0;omega)).trans h.ob,by
  have hv:=h0.tk;rcases h.tk with g|⟨b',c,ex,cs,g1,g2,g3⟩
  ·exact .inl g
  ·refine .inr ⟨b',c,ex,cs,g1,?_,g3⟩;have:b'<S0.n:=hv.lt hM0 (by rw[g1];rfl);rw[LS.aq _ _ (by omega)];exact g2,h.lt⟩
theorem lQ.set(h:lQ C S i d){j e:Nat}(hj:j<C.T.length):lQ C (S.set C.bp (.ce [C.vT,.int 0 (j:Int),.int 0 (e:Int),.int 0 0] 0)) j e:=
 ⟨LS.ay _ _ _,by
  rcases h.tk with g|⟨b,c,ex,cs,g1,g2,g3⟩
  ·exact .inl g
  ·refine .inr ⟨b,c,ex,cs,g1,?_,g3⟩;rw[LS.aq _ _ λe=>C.ne (by rw[g1,←e];rfl)];exact g2,hj⟩
theorem lQ.err(h:lQ C S i d){c:Nat}{e:Int}:aon C (S.set C.bp (.ce [C.vT,.int 0 (i:Int),.int 0 e,.int 0 (c:Int)] 0)) c i:=
 ⟨⟨e,LS.ay _ _ _⟩,by
  rcases h.tk with g|⟨b,c,ex,cs,g1,g2,g3⟩
  ·exact .inl g
  ·refine .inr ⟨b,c,ex,cs,g1,?_,g3⟩;rw[LS.aq _ _ λe=>C.ne (by rw[g1,←e];rfl)];exact g2,h.lt⟩
theorem ik(K:KF)(v:AV)(H:AH)(k:AV→Prop):cR K (.cM v) H k=K (.cM v) H:=rfl
theorem Post.call{r1:an α}{f:α→Nat→an β}(h:Post C X d FU K S (r1.bind f))(hx:aO X S S1)(hX:∀b,Y b→X b){k:AV→AH→Prop}
  (hk:∀a j H' S' v,Mem H' S'→aO Y S1 S'→lQ C S' j d1→eO S' (jd S1.n S'.n) v a→Post C X d FU K S (f a j)→k v H'):Post C Y d1 eO (λo H=>cR K o H λv=>k v H) S1 r1:=by
 cases r1 with
 |ok a j=>exact λH' S' v m c p q=>hk a j H' S' v m c p q h
 |err c j=>exact λH' S' m ch p=>h H' S' m (hx.trans (ch.mono hX)) p
 |aS=>exact h
theorem aeq{T:List Tok}{i:Nat}(h:i<T.length):∃t,T[i]? = some t∧cC T i=t.kind∧fU T i=t.text∧aB T i=t.pos∧Nw T i=t.n:=by
 refine⟨T[i],List.getElem?_eq_getElem h,?_⟩;unfold cC fU aB Nw;rw[List.getElem?_eq_getElem h];exact⟨rfl,rfl,rfl,rfl⟩
theorem wG(C:Ctx)(i:Nat):B8 (fU C.T i):=by
 unfold fU;split
 ·rename_i t h;exact C.b8 t (List.mem_of_getElem? h)
 ·exact B8.nil
def nx(T:List Tok)(i:Nat):List AV:=[.int 0 (cC T i:Int),ai (fU T i),.int 0 (Nw T i:Int),.int 0 (aB T i:Int)]
theorem AW{T:List Tok}{i:Nat}(h:i<T.length):((tcs T).drop (i*4)).take 4=nx T i:=by
 obtain⟨t,h1,h2,h3,h4,h5⟩:=aeq h;rw[Po h1];unfold nx;rw[h2,h3,h4,h5];rfl
end
def dS(S:LS)(Q:Nat→Prop)(v:AV)(e:al):Prop:=∃c,v=.agg c∧RE S Q c e
def rvS(S:LS)(Q:Nat→Prop)(v:AV)(e:aA):Prop:=∃c,v=.agg c∧iA S Q c e
def ny(_:LS)(_:Nat→Prop)(v:AV)(_:Unit):Prop:=v=.aP []
def NA(_:LS)(_:Nat→Prop)(v:AV)(t:List Nat):Prop:=v=ai t∧B8 t
def oq(S:LS)(Q:Nat→Prop)(v:AV)(l:List al):Prop:=∃cl,eu S Q 7 v l.length cl∧∀i e,l[i]? = some e→RE S Q (cl i) e
def fY(S:LS)(Q:Nat→Prop)(v:AV)(l:List aA):Prop:=∃cl,eu S Q 5 v l.length cl∧∀i e,l[i]? = some e→iA S Q (cl i) e
section
variable {C:Ctx}{X Y:Nat→Prop}{S S' S1:LS}{H:AH}{K:KF}{i d d1:Nat}{α β:Type}{Rp eO:LS→(Nat→Prop)→AV→α→Prop}
theorem Post.tail{r:an α}(h:Post C X d Rp K S r)(hx:aO X S S1)(hX:∀b,Y b→X b){k:AV→AH→Prop}
  (hk:∀a j H' S' v,Mem H' S'→aO Y S1 S'→lQ C S' j d1→eO S' (jd S1.n S'.n) v a→(∀FV lL w,Mem FV lL→aO X S lL→lQ C lL j d→Rp lL (jd S.n lL.n) w a→K (.ret w) FV)→k v H'):Post C Y d1 eO (λo H=>cR K o H λv=>k v H) S1 r:=by
 cases r with
 |ok a j=>exact λH' S' v m c p q=>hk a j H' S' v m c p q h
 |err c j=>exact λH' S' m ch p=>h H' S' m (hx.trans (ch.mono hX)) p
 |aS=>exact h
theorem aO.rW(h:aO X S S1)(g:aO Y S1 S')(hy:∀b,Y b→X b∨S.n≤b):aO X S S':=⟨Nat.le_trans h.1 g.1,λb hb hx=>(g.2 b (Nat.lt_of_lt_of_le hb h.1) λq=>by
 rcases hy b q with w|w
 ·exact hx w
 ·omega).trans (h.2 b hb hx)⟩
theorem aO.ob{b:Nat}{c:List AV}{m:Nat}(g:aO Y S S')(hM:Mem H S)(hb:S.ob b=.ce c m)(hy:¬Y b):S'.ob b=.ce c m:=(g.2 b (hM.lt (by rw[hb];simp)) hy).trans hb
theorem gq:∀{l:List AV}{n:Nat}{x:Prop},l.length=n→x→gK l n x
 |[],0,x,_,hx=>hx
 |a::l,n+1,x,h,hx=>gq (l:=l) (n:=n) (by simpa using h) hx
theorem iN(l:List AV)(k:List AV→Prop):onVal (.agg l) k=k l:=rfl
theorem G7{l z:List AV}(hl:l.length=7)(hz:z.length=7):spl l z 0=l:=by
 match l,hl,z,hz with
 |[a,b,c,d,e,f,g],_,[_,_,_,_,_,_,_],_=>rfl
theorem zU{l k z:List AV}(hl:l.length=7)(hk:k.length=7)(hz:z.length=14):spl k (spl l z 0) 7=l++k:=by
 match l,hl,k,hk,z,hz with
 |[_,_,_,_,_,_,_],_,[_,_,_,_,_,_,_],_,[_,_,_,_,_,_,_,_,_,_,_,_,_,_],_=>rfl
theorem aoo{l z:List AV}(hl:l.length=5)(hz:z.length=5):spl l z 0=l:=by
 match l,hl,z,hz with
 |[a,b,c,d,e],_,[_,_,_,_,_],_=>rfl
theorem eY{v:AV}{x:Prop}(h:v.one=true)(hx:x):one v x:=by
 unfold one;exact cG h hx
end
theorem mE.apV{l:List Nat}{k:Nat}{t:List Nat}{v j:Nat}(h:mE l k t v j):k≠0:=by cases h<;>decide
theorem jl.ends{l:List Nat}{p:Nat}{r:List Tok ⊕ Nat}(h:jl l p r):∀ts,r=.inl ts→∃a q,ts=a++[⟨0,[],0,q⟩]∧∀t∈a,t.kind≠0:=by
 induction h with
 |nil p=>intro ts e;cases e;exact⟨[],p,rfl,λt h=>by simp at h⟩
 |blank c l p r _ _ ih=>exact ih
 |remark l p r _ ih=>exact ih
 |wrong=>intro ts e;cases e
 |tok c l p k t n j ts _ _ ht _ ih=>
  intro ts' e;cases e;obtain⟨a,q,e,h⟩:=ih ts rfl;refine⟨⟨k,t,n,p⟩::a,q,by rw[e];rfl,λx hx=>?_⟩;rcases List.mem_cons.1 hx with rfl|hx
  ·exact ht.apV
  ·exact h x hx
 |bad=>intro ts e;cases e
theorem jl.b8{l:List Nat}{p:Nat}{r:List Tok ⊕ Nat}(h:jl l p r):B8 l→∀ts,r=.inl ts→∀t∈ts,B8 t.text:=by
 induction h with
 |nil p=>intro _ ts e t ht;cases e;simp at ht;subst ht;exact B8.nil
 |blank c l p r _ _ ih=>exact λh8=>ih h8.tl
 |remark l p r _ ih=>exact λh8=>ih (h8.drop _)
 |wrong=>intro _ ts e;cases e
 |tok c l p k t n j ts _ _ ht _ ih=>
  intro h8 ts' e;cases e;intro x hx;rcases List.mem_cons.1 hx with rfl|hx
  ·exact ht.b8 h8
  ·exact ih (h8.drop _) ts rfl x hx
 |bad=>intro _ ts e;cases e
theorem jl.zV{l:List Nat}{p:Nat}{ts:List Tok}(h:jl l p (.inl ts)):mR ts:=by
 obtain⟨a,q,e,ha⟩:=h.ends ts rfl;subst e;refine⟨by simp,λi hi hk=>?_⟩;rw[List.length_append,List.length_singleton]at hi ⊢;rcases Nat.lt_or_ge i a.length with g|g
 ·omega
 ·exfalso;have e:i=a.length:=by omega
  subst e;apply hk;unfold cC;rw[List.getElem?_append_right (Nat.le_refl _),Nat.sub_self];rfl
def jx(T:List Tok):an (List aA):=(cD T (64*T.length+64) 0 0).bind λb j=>if cC T j=0 then .ok b j else .err 14 j
theorem FW{T:List Tok}(hT:mR T):jx T≠.aS:=by
 have h:=(Ny hT (64*T.length+64)).block 0 0 hT.1 (by omega);unfold jx;cases e:cD T (64*T.length+64) 0 0 with
 |aS=>rw[e]at h;exact h.elim
 |err c i=>intro q;cases q
 |ok b j=>
  show(if cC T j=0 then an.ok b j else .err 14 j)≠.aS;split<;>intro q<;>cases q
theorem FX{T:List Tok}(hT:mR T):∀b j,cD T (64*T.length+64) 0 0=.ok b j→j<T.length:=λb j e=>by
 have h:=(Ny hT (64*T.length+64)).block 0 0 hT.1 (by omega);rw[e]at h;exact h.2
def uR(r:List Tok ⊕ Nat):List aA ⊕ Nat×Nat:=match r with
 |.inr e=>.inr (14,e)
 |.inl ts=>(match jx ts with
  |.ok b _=>.inl b
  |.err c i=>.inr (c,aB ts i)
  |.aS=>.inl [])
def ScP(K:KF)(S0:LS)(r:List aA ⊕ Nat×Nat):Prop:=match r with
 |.inl b=>∀H' S' v,Mem H' S'→Ext S0 S'→fY S' (jd S0.n S'.n) v b→K (.ret (.aP [v,.int 0 0,.int 0 0])) H'
 |.inr (c,p)=>∀H' S',Mem H' S'→Ext S0 S'→K (.ret (.aP [.ab,.int 0 (c:Int),.int 0 (p:Int)])) H'
def LxQ(K:KF)(S0:LS)(r:List Tok ⊕ Nat):Prop:=match r with
 |.inl ts=>∀H' S' v',Mem H' S'→Ext S0 S'→ff S' 4 v' ts.length (tcs ts)→(∀b,ak v' b→S0.n≤b)→K (.ret (.aP [v',.int 0 0,.int 0 0])) H'
 |.inr e=>∀H' S',Mem H' S'→Ext S0 S'→K (.ret (.aP [.ab,.int 0 14,.int 0 (e:Int)])) H'
theorem fY.go{S S':LS}{Q Q':Nat→Prop}{v:AV}{l:List aA}(h:fY S Q v l)(hk:∀b,Q b→S'.ob b=S.ob b)(h1:∀b,Q b→Q' b):fY S' Q' v l:=by
 obtain⟨cl,g1,g2⟩:=h;exact⟨cl,g1.go hk h1,λi e he=>(g2 i e he).go hk h1⟩
theorem ff.one'{S:LS}{sz n:Nat}{v:AV}{l:List AV}(h:ff S sz v n l):v.one=true:=by
 rcases h with⟨rfl,_⟩|⟨b,c,ex,cs,rfl,_⟩<;>rfl
theorem aer{u:Nat}{z v:AV}{k:AV→Prop}(h:k (.aP [v,.bool true])):va u z true (.iface u v) k:=by
 show bI (Nat.beq u u) (bI true (k (.aP [v,.bool true])) (k v)) (bT true (k (.aP [z,.bool false])));rw[Nat.beq_refl];exact h
theorem aes{u:Nat}{z:AV}{k:AV→Prop}(h:k (.aP [z,.bool false])):va u z true .ji k:=h
theorem aO.ext{S S':LS}(h:aO bU S S'):Ext S S':=⟨h.1,λb hb=>h.2 b hb λq=>q⟩
section
mutual
def al.sz:al→Nat
 |.mk _ _ _ _ _ l f=>1+bB l+lM f
def bB:List al→Nat
 |[]=>0
 |e::l=>e.sz+bB l
def eV.sz:eV→Nat
 |.mk ps b=>1+ps.length+dO b
def lM:List eV→Nat
 |[]=>0
 |f::l=>f.sz+lM l
def aA.sz:aA→Nat
 |.mk _ _ ns l bs=>1+ns.length+bB l+fI bs
def dO:List aA→Nat
 |[]=>0
 |s::l=>s.sz+dO l
def fI:List (List aA)→Nat
 |[]=>0
 |b::l=>1+dO b+fI l
end
theorem oG:∀a b:List al,bB (a++b)=bB a+bB b
 |[],b=>by simp[bB]
 |e::a,b=>by rw[List.cons_append,bB,bB,oG a b];omega
theorem AX:∀a b:List aA,dO (a++b)=dO a+dO b
 |[],b=>by simp[dO]
 |e::a,b=>by rw[List.cons_append,dO,dO,AX a b];omega
theorem xB:∀a b:List (List aA),fI (a++b)=fI a+fI b
 |[],b=>by simp[fI]
 |e::a,b=>by rw[List.cons_append,fI,fI,xB a b];omega
theorem aV{α β:Type}{r:an α}{f:α→Nat→an β}{b:β}{j:Nat}(h:r.bind f=.ok b j):∃a i,r=.ok a i∧f a i=.ok b j:=by
 cases r with
 |ok a i=>exact⟨a,i,rfl,h⟩
 |err c i=>cases h
 |aS=>cases h
theorem dB{α:Type}{a b:α}{i j:Nat}(h:(an.ok a i:an α)=.ok b j):a=b∧i=j:=by cases h;exact⟨rfl,rfl⟩
variable {T:List Tok}
theorem fA{s:List Nat}{i j:Nat}{u:Unit}(h:aU T s i=.ok u j):j=i+1:=by
 unfold aU at h;split at h
 ·cases h;rfl
 ·cases h
theorem sg{i j:Nat}{t:List Nat}(h:dT T i=.ok t j):j=i+1:=by
 unfold dT at h;split at h
 ·cases h;rfl
 ·cases h
structure Sz(T:List Tok)(n:Nat):Prop where
 exp:∀{i d e j},bW T n i d=.ok e j→e.sz+3+4*i≤4*j
 either:∀{i d e j},gB T n i d=.ok e j→e.sz+3+4*i≤4*j
 jw:∀{e0 i d e j},fQ T n e0 i d=.ok e j→e.sz+4*i≤e0.sz+4*j
 both:∀{i d e j},jH T n i d=.ok e j→e.sz+3+4*i≤4*j
 mS:∀{e0 i d e j},ja T n e0 i d=.ok e j→e.sz+4*i≤e0.sz+4*j
 test:∀{i d e j},jI T n i d=.ok e j→e.sz+3+4*i≤4*j
 mT:∀{e0 i d e j},jb T n e0 i d=.ok e j→e.sz+4*i≤e0.sz+4*j
 join:∀{i d e j},gC T n i d=.ok e j→e.sz+3+4*i≤4*j
 sum:∀{i d e j},mF T n i d=.ok e j→e.sz+3+4*i≤4*j
 pS:∀{e0 i d e j},kh T n e0 i d=.ok e j→e.sz+4*i≤e0.sz+4*j
 term:∀{i d e j},jJ T n i d=.ok e j→e.sz+3+4*i≤4*j
 mU:∀{e0 i d e j},jc T n e0 i d=.ok e j→e.sz+4*i≤e0.sz+4*j
 unary:∀{i d e j},fz T n i d=.ok e j→e.sz+3+4*i≤4*j
 post:∀{i d e j},iW T n i d=.ok e j→e.sz+3+4*i≤4*j
 ki:∀{e0 i d e j},cK T n e0 i d=.ok e j→e.sz+4*i≤e0.sz+4*j
 args:∀{b out i d l j},dJ T n b out i d=.ok l j→bB l+4*i+1≤bB out+4*j
 simple:∀{i d e j},dW T n i d=.ok e j→e.sz+3+4*i≤4*j
 table:∀{out c a i d e j},fq T n out c a i d=.ok e j→e.sz+3+4*i≤bB out+4*j
 field:∀{c i d l j},ig T n c i d=.ok l j→bB l.1+4*i≤4*j
 body:∀{a i d e j},iH T n a i d=.ok e j→e.sz+3+4*i≤4*j
 params:∀{b out i l j},cg T n b out i=.ok l j→l.length+4*i+3≤out.length+4*j
 block:∀{i d b j},cD T n i d=.ok b j→dO b+4*i≤4*j
 kU:∀{out i d b j},cE T n out i d=.ok b j→dO b+4*i≤dO out+4*j
 stat:∀{i d s j},fK T n i d=.ok s j→s.sz+4*i≤4*j
 mo:∀{a i d s j},iI T n a i d=.ok s j→s.sz+4*i≤4*j
 mq:∀{a i d s j},iJ T n a i d=.ok s j→s.sz+4*i≤4*j
 kz:∀{a i d s j},gD T n a i d=.ok s j→s.sz+4*i≤4*j
 do_:∀{a i d s j},pR T n a i d=.ok s j→s.sz+4*i≤4*j
 kA:∀{a i d s j},ij T n a i d=.ok s j→s.sz+4*i≤1+4*j
 plain:∀{a i d s j},gF T n a i d=.ok s j→s.sz+4*i≤4*j
 choice:∀{a l bs i d s j},eN T n a l bs i d=.ok s j→s.sz+4*i≤bB l+fI bs+4*j
 for_:∀{a i d s j},lX T n a i d=.ok s j→s.sz+4*i≤4*j
 jD:∀{k a ns l i d s j},cF T n k a ns l i d=.ok s j→s.sz+4*i≤ns.length+bB l+4*j
theorem FY(kind op at_:Nat)(a b:al):(lK kind op at_ a b).sz=1+a.sz+b.sz:=by
 unfold lK;simp only[al.sz,bB,lM];omega
theorem wH{r:an al}{q:al→Nat→an al}{i j:Nat}{e:al}(h1:∀{e j},r=.ok e j→e.sz+3+4*i≤4*j)(h2:∀{e0 k e j},q e0 k=.ok e j→e.sz+4*k≤e0.sz+4*j)
  (h:r.bind q=.ok e j):e.sz+3+4*i≤4*j:=by
 obtain⟨a,k,g1,g2⟩:=aV h;have:=h1 g1;have:=h2 g2;omega
theorem wI{r:an al}{q:al→Nat→an al}{i j kind op at_:Nat}{e e0:al}(h1:∀{e j},r=.ok e j→e.sz+3+4*(i+1)≤4*j)(h2:∀{e0 k e j},q e0 k=.ok e j→e.sz+4*k≤e0.sz+4*j)
  (h:(r.bind λb j=>q (lK kind op at_ e0 b) j)=.ok e j):e.sz+4*i≤e0.sz+4*j:=by
 obtain⟨a,k,g1,g2⟩:=aV h;have:=h1 g1;have:=h2 g2;rw[FY]at this;omega
theorem sz0:Sz T 0:=by
 constructor<;>intros<;>rename_i h<;>first
  |(simp only[bW]at h;cases h)|(simp only[gB]at h;cases h)|(simp only[fQ]at h;cases h)|(simp only[jH]at h;cases h)|(simp only[ja]at h;cases h)|(simp only[jI]at h;cases h)|(simp only[jb]at h;cases h)
  |(simp only[gC]at h;cases h)|(simp only[mF]at h;cases h)|(simp only[kh]at h;cases h)|(simp only[jJ]at h;cases h)|(simp only[jc]at h;cases h)|(simp only[fz]at h;cases h)|(simp only[iW]at h;cases h)|(simp only[cK]at h;cases h)
  |(simp only[dJ]at h;cases h)|(simp only[dW]at h;cases h)|(simp only[fq]at h;cases h)|(simp only[ig]at h;cases h)|(simp only[iH]at h;cases h)|(simp only[cg]at h;cases h)|(simp only[cD]at h;cases h)|(simp only[cE]at h;cases h)
  |(simp only[fK]at h;cases h)|(simp only[iI]at h;cases h)|(simp only[iJ]at h;cases h)|(simp only[gD]at h;cases h)|(simp only[pR]at h;cases h)|(simp only[ij]at h;cases h)|(simp only[gF]at h;cases h)|(simp only[eN]at h;cases h)|(simp only[lX]at h;cases h)|(simp only[cF]at h;cases h)
theorem szS{n:Nat}(F:Sz T n):Sz T (n+1) where
 exp h:=by
  simp only[bW]at h;split at h
  ·cases h
  ·exact F.either h
 either h:=by simp only[gB]at h;exact wH F.both F.jw h
 jw h:=by
  simp only[fQ]at h;split at h
  ·exact wI F.both F.jw h
  ·obtain⟨rfl,rfl⟩:=dB h;omega
 both h:=by simp only[jH]at h;exact wH F.test F.mS h
 mS h:=by
  simp only[ja]at h;split at h
  ·exact wI F.test F.mS h
  ·obtain⟨rfl,rfl⟩:=dB h;omega
 test h:=by simp only[jI]at h;exact wH F.join F.mT h
 mT h:=by
  simp only[jb]at h;split at h
  ·obtain⟨rfl,rfl⟩:=dB h;omega
  ·exact wI F.join F.mT h
 join h:=by
  simp only[gC]at h;obtain⟨a,k,g1,h⟩:=aV h;have:=F.sum g1;split at h
  ·split at h
   ·cases h
   ·obtain⟨b,k2,g2,h⟩:=aV h;have:=F.join g2;obtain⟨rfl,rfl⟩:=dB h;rw[FY];omega
  ·obtain⟨rfl,rfl⟩:=dB h;omega
 sum h:=by simp only[mF]at h;exact wH F.term F.pS h
 pS h:=by
  simp only[kh]at h;split at h
  ·obtain⟨rfl,rfl⟩:=dB h;omega
  ·exact wI F.term F.pS h
 term h:=by simp only[jJ]at h;exact wH F.unary F.mU h
 mU h:=by
  simp only[jc]at h;split at h
  ·obtain⟨rfl,rfl⟩:=dB h;omega
  ·exact wI F.unary F.mU h
 unary h:=by
  simp only[fz]at h;split at h
  ·exact F.post h
  split at h
  ·cases h
  ·obtain⟨a,k,g1,h⟩:=aV h;have:=F.unary g1;obtain⟨rfl,rfl⟩:=dB h;simp only[al.sz,bB,lM];omega
 post h:=by
  simp only[iW]at h;split at h
  ·exact wH F.simple F.ki h
  ·exact F.simple h
 ki h:=by
  simp only[cK]at h;split at h
  ·obtain⟨a,k,g1,h⟩:=aV h;have:=sg g1;have:=F.ki h;rw[FY]at this;simp only[al.sz,bB,lM]at this;omega
  split at h
  ·obtain⟨a,k,g1,h⟩:=aV h;obtain⟨b,k2,g2,h⟩:=aV h;have:=F.exp g1;have:=fA g2;have:=F.ki h;rw[FY]at this;omega
  split at h
  ·obtain⟨a,k,g1,h⟩:=aV h;have:=F.args g1;have:=F.ki h;simp only[al.sz,bB,lM]at *;omega
  ·obtain⟨rfl,rfl⟩:=dB h;omega
 args {b out i d l j} h:=by
  cases b
  all_goals
   simp only[dJ,Bool.false_eq_true,↓reduceIte]at h;split at h
   ·split at h
    ·cases h
    ·obtain⟨a,k,g1,h⟩:=aV h;have:=F.exp g1;have:=F.args h;rw[oG]at this;simp only[bB]at this;omega
   ·obtain⟨a,k,g1,h⟩:=aV h;have:=fA g1;obtain⟨rfl,rfl⟩:=dB h;omega
 simple h:=by
  simp only[dW]at h;split at h
  ·obtain⟨rfl,rfl⟩:=dB h;simp only[al.sz,bB,lM];omega
  split at h
  ·obtain⟨rfl,rfl⟩:=dB h;simp only[al.sz,bB,lM];omega
  split at h
  ·obtain⟨rfl,rfl⟩:=dB h;simp only[al.sz,bB,lM];omega
  split at h
  ·obtain⟨rfl,rfl⟩:=dB h;simp only[al.sz,bB,lM];omega
  split at h
  ·have:=F.body h;omega
  split at h
  ·have:=F.table h;simp only[bB]at this;omega
  split at h
  ·obtain⟨a,k,g1,h⟩:=aV h;obtain⟨b,k2,g2,h⟩:=aV h;have:=F.exp g1;have:=fA g2;obtain⟨rfl,rfl⟩:=dB h;omega
  ·cases h
 table h:=by
  simp only[fq]at h;split at h
  ·obtain⟨rfl,rfl⟩:=dB h;simp only[al.sz,bB,lM];omega
  split at h
  ·cases h
  obtain⟨a,k,g1,h⟩:=aV h;have:=F.field g1;split at h
  ·have:=F.table h;rw[oG]at this;omega
  ·obtain⟨b,k2,g2,h⟩:=aV h;have:=fA g2;obtain⟨rfl,rfl⟩:=dB h;simp only[al.sz,lM,oG];omega
 field h:=by
  simp only[ig]at h;split at h
  ·obtain⟨a,k,g1,h⟩:=aV h;obtain⟨b,k2,g2,h⟩:=aV h;obtain⟨b3,k3,g3,h⟩:=aV h;obtain⟨b4,k4,g4,h⟩:=aV h;have:=F.exp g1;have:=fA g2;have:=fA g3;have:=F.exp g4;obtain⟨rfl,rfl⟩:=dB h;simp only[bB];omega
  split at h
  ·obtain⟨a,k,g1,h⟩:=aV h;have:=F.exp g1;obtain⟨rfl,rfl⟩:=dB h;simp only[al.sz,bB,lM];omega
  ·obtain⟨a,k,g1,h⟩:=aV h;have:=F.exp g1;obtain⟨rfl,rfl⟩:=dB h;simp only[al.sz,bB,lM];omega
 body h:=by
  simp only[iH]at h;obtain⟨a,k,g1,h⟩:=aV h;obtain⟨b,k2,g2,h⟩:=aV h;obtain⟨b3,k3,g3,h⟩:=aV h;obtain⟨b4,k4,g4,h⟩:=aV h;have:=fA g1;have:=F.params g2;have:=F.block g3;have:=fA g4;obtain⟨rfl,rfl⟩:=dB h;simp only[al.sz,eV.sz,bB,lM]at *;simp only[List.length_nil]at *;omega
 params {b out i l j} h:=by
  cases b
  all_goals
   simp only[cg,Bool.false_eq_true,↓reduceIte]at h;split at h
   ·split at h
    ·cases h
    ·obtain⟨a,k,g1,h⟩:=aV h;have:=sg g1;have:=F.params h;rw[List.length_append,List.length_singleton]at this;omega
   ·obtain⟨a,k,g1,h⟩:=aV h;have:=fA g1;obtain⟨rfl,rfl⟩:=dB h;omega
 block h:=by
  simp only[cD]at h;split at h
  ·cases h
  ·have:=F.kU h;simp only[dO]at this;omega
 kU h:=by
  simp only[cE]at h;split at h
  ·obtain⟨rfl,rfl⟩:=dB h;omega
  obtain⟨a,k,g1,h⟩:=aV h;have:=F.stat g1;split at h
  ·cases h
  ·have:=F.kU h;rw[AX]at this;simp only[dO]at this;unfold dA at this;split at this<;>omega
 stat h:=by
  simp only[fK]at h;split at h
  ·have:=F.mo h;omega
  split at h
  ·have:=F.choice h;simp only[bB,fI]at this;omega
  split at h
  ·have:=F.mq h;omega
  split at h
  ·have:=F.kz h;omega
  split at h
  ·have:=F.for_ h;omega
  split at h
  ·obtain⟨rfl,rfl⟩:=dB h;simp only[aA.sz,bB,fI,List.length_nil];omega
  split at h
  ·have:=F.do_ h;omega
  split at h
  ·have:=F.kA h;omega
  split at h
  ·exact F.plain h
  ·cases h
 mo h:=by
  simp only[iI]at h;split at h
  ·obtain⟨a,k,g1,h⟩:=aV h;obtain⟨b,k2,g2,h⟩:=aV h;have:=sg g1;have:=F.body g2;obtain⟨rfl,rfl⟩:=dB h;simp only[aA.sz,bB,fI,List.length_cons,List.length_nil];omega
  ·obtain⟨a,k,g1,h⟩:=aV h;have:=sg g1;split at h
   ·obtain⟨b,k2,g2,h⟩:=aV h;have:=F.exp g2;obtain⟨rfl,rfl⟩:=dB h;simp only[aA.sz,bB,fI,List.length_cons,List.length_nil];omega
   ·obtain⟨rfl,rfl⟩:=dB h;simp only[aA.sz,bB,fI,List.length_cons,List.length_nil];omega
 mq h:=by
  simp only[iJ]at h;obtain⟨a,k,g1,h⟩:=aV h;obtain⟨b,k2,g2,h⟩:=aV h;obtain⟨b3,k3,g3,h⟩:=aV h;obtain⟨b4,k4,g4,h⟩:=aV h;have:=F.exp g1;have:=fA g2;have:=F.block g3;have:=fA g4;obtain⟨rfl,rfl⟩:=dB h;simp only[aA.sz,bB,fI,List.length_nil];omega
 kz h:=by
  simp only[gD]at h;obtain⟨a,k,g1,h⟩:=aV h;obtain⟨b,k2,g2,h⟩:=aV h;obtain⟨b3,k3,g3,h⟩:=aV h;have:=F.block g1;have:=fA g2;have:=F.exp g3;obtain⟨rfl,rfl⟩:=dB h;simp only[aA.sz,bB,fI,List.length_nil];omega
 do_ h:=by
  simp only[pR]at h;obtain⟨a,k,g1,h⟩:=aV h;obtain⟨b,k2,g2,h⟩:=aV h;have:=F.block g1;have:=fA g2;obtain⟨rfl,rfl⟩:=dB h;simp only[aA.sz,bB,fI,List.length_nil];omega
 kA h:=by
  simp only[ij]at h;split at h
  ·obtain⟨rfl,rfl⟩:=dB h;simp only[aA.sz,bB,fI,List.length_nil];omega
  ·obtain⟨a,k,g1,h⟩:=aV h;have:=F.exp g1;obtain⟨rfl,rfl⟩:=dB h;simp only[aA.sz,bB,fI,List.length_nil];omega
 plain h:=by
  simp only[gF]at h;obtain⟨a,k,g1,h⟩:=aV h;have:=F.post g1;split at h
  ·obtain⟨rfl,rfl⟩:=dB h;simp only[aA.sz,bB,fI,List.length_nil];omega
  ·obtain⟨b,k2,g2,h⟩:=aV h;obtain⟨b3,k3,g3,h⟩:=aV h;have:=fA g2;have:=F.exp g3;obtain⟨rfl,rfl⟩:=dB h;simp only[aA.sz,bB,fI,List.length_nil];omega
 choice h:=by
  simp only[eN]at h;obtain⟨a,k,g1,h⟩:=aV h;obtain⟨b,k2,g2,h⟩:=aV h;obtain⟨b3,k3,g3,h⟩:=aV h;have:=F.exp g1;have:=fA g2;have:=F.block g3;split at h
  ·have:=F.choice h;rw[oG,xB]at this;simp only[bB,fI]at this;omega
  split at h
  ·obtain⟨b4,k4,g4,h⟩:=aV h;obtain⟨b5,k5,g5,h⟩:=aV h;have:=F.block g4;have:=fA g5;obtain⟨rfl,rfl⟩:=dB h;simp only[aA.sz,oG,xB,bB,fI,List.length_nil];omega
  ·obtain⟨b5,k5,g5,h⟩:=aV h;have:=fA g5;obtain⟨rfl,rfl⟩:=dB h;simp only[aA.sz,oG,xB,bB,fI,List.length_nil];omega
 for_ h:=by
  simp only[lX]at h;obtain⟨a,k,g1,h⟩:=aV h;have:=sg g1;split at h
  ·obtain⟨b,k2,g2,h⟩:=aV h;obtain⟨b3,k3,g3,h⟩:=aV h;obtain⟨b4,k4,g4,h⟩:=aV h;have:=sg g2;have:=fA g3;have:=F.exp g4;have:=F.jD h;simp only[bB,List.length_cons,List.length_nil]at this;omega
  ·obtain⟨b,k2,g2,h⟩:=aV h;obtain⟨b3,k3,g3,h⟩:=aV h;obtain⟨b4,k4,g4,h⟩:=aV h;obtain⟨b5,k5,g5,h⟩:=aV h;have:=fA g2;have:=F.exp g3;have:=fA g4;have:=F.exp g5;split at h
   ·obtain⟨b6,k6,g6,h⟩:=aV h;have:=F.exp g6;have:=F.jD h;simp only[bB,List.length_cons,List.length_nil]at this;omega
   ·have:=F.jD h;simp only[bB,List.length_cons,List.length_nil]at this;omega
 jD h:=by
  simp only[cF]at h;obtain⟨a,k,g1,h⟩:=aV h;obtain⟨b,k2,g2,h⟩:=aV h;obtain⟨b3,k3,g3,h⟩:=aV h;have:=fA g1;have:=F.block g2;have:=fA g3;obtain⟨rfl,rfl⟩:=dB h;simp only[aA.sz,bB,fI];omega
theorem aet:∀n,Sz T n
 |0=>sz0
 |n+1=>szS (aet n)
end
def builtins:List (List Nat):=[[116,121,112,101],[101,114,114,111,114],[112,99,97,108,108],[99,114,101,97,116,101],[114,101,115,117,109,101],[121,105,101,108,100],[115,116,97,116,117,115],[116,111,115,116,114,105,110,103],[116,111,105,110,116],[115,117,98],[98,121,116,101],[99,104,97,114],[114,101,112],[117,112,112,101,114],[108,111,119,101,114],[114,101,118,101,114,115,101],[102,105,110,100],[105,110,115,101,114,116],[114,101,109,111,118,101],[107,101,121,115],[106,111,105,110],[99,97,108,108]]
def aq3(ns out:List (List Nat))(s:List Nat):List (List Nat):=if s∈ns then out else if s∈builtins then out else if s∈out then out else out++[s]
mutual
def oE:Nat→List (List Nat)→List (List Nat)→al→List (List Nat)
 |0,_,out,_=>out
 |n+1,ns,out,.mk k _ _ s _ l f=>f.foldl (oF n ns) (l.foldl (oE n ns) (if k=6 then aq3 ns out s else out))
def oF:Nat→List (List Nat)→List (List Nat)→eV→List (List Nat)
 |0,_,out,_=>out
 |n+1,ns,out,.mk ps b=>oW n ns ps b [] out
def oW:Nat→List (List Nat)→List (List Nat)→List aA→List al→List (List Nat)→List (List Nat)
 |0,_,_,_,_,out=>out
 |n+1,ns,names,b,thn,out=>thn.foldl (oE n (b.foldl (oS n) (ns++names,out)).1) (b.foldl (oS n) (ns++names,out)).2
def oS:Nat→List (List Nat)×List (List Nat)→aA→List (List Nat)×List (List Nat)
 |0,r,_=>r
 |n+1,r,.mk k _ names l bs=>
  if k=1 then (r.1++names,l.foldl (oE n r.1) r.2)
  else if k=12 then (r.1++names,l.foldl (oE n (r.1++names)) r.2)
  else if k=8 then (r.1,bs.foldl (λo b=>oW n r.1 [] b l o) r.2)
  else if k=4 then (r.1,(List.range bs.length).foldl (λo i=>oW n r.1 [] (bs[i]?.getD []) [] (match l[i]? with|some e=>oE n r.1 o e|none=>o)) r.2)
  else (r.1,bs.foldl (λo b=>oW n r.1 names b [] o) (l.foldl (oE n r.1) r.2))
end
mutual
def al.wf:al→Prop
 |.mk _ _ _ _ _ l f=>rD l∧aop f
def rD:List al→Prop
 |[]=>True
 |e::l=>e.wf∧rD l
def eV.wf:eV→Prop
 |.mk _ b=>yZ b
def aop:List eV→Prop
 |[]=>True
 |e::l=>e.wf∧aop l
def aA.wf:aA→Prop
 |.mk k _ ns l bs=>(k=8→bs.length≤1)∧((k=1∨k=12)→bs=[])∧(k≠1→k≠6→k≠7→k≠12→ns=[])∧rD l∧afV bs
def yZ:List aA→Prop
 |[]=>True
 |e::l=>e.wf∧yZ l
def afV:List (List aA)→Prop
 |[]=>True
 |e::l=>yZ e∧afV l
end
section
variable {T:List Tok}
structure cX{β:Type}(P:β→Prop)(r:an β):Prop where
 h:∀v j,r=.ok v j→P v
theorem cX.bind{β γ:Type}{P:β→Prop}{P2:γ→Prop}{r:an β}{f:β→Nat→an γ}(h:cX P r)(hf:∀v j,P v→cX P2 (f v j)):cX P2 (r.bind f):=by
 refine⟨λv j e=>?_⟩;obtain⟨a,i,e1,e2⟩:=aV e;exact(hf a i (h.h a i e1)).h v j e2
theorem cX.ok{β:Type}{P:β→Prop}{v:β}{i:Nat}(h:P v):cX P (.ok v i):=⟨λw j e=>by cases e;exact h⟩
theorem cX.err{β:Type}{P:β→Prop}{c i:Nat}:cX P (.err c i):=⟨λw j e=>by cases e⟩
theorem cX.ite{β:Type}{P:β→Prop}{c:Prop}[Decidable c]{a b:an β}(h1:cX P a)(h2:cX P b):cX P (if c then a else b):=by
 split
 ·exact h1
 ·exact h2
structure QU{β:Type}(x:β):Prop where
 h:True
structure QE(e:al):Prop where
 h:e.wf
structure QEs(l:List al):Prop where
 h:rD l
structure QP(p:List al×Nat):Prop where
 h:rD p.1
structure QSs(l:List aA):Prop where
 h:yZ l
structure Aq(s:aA):Prop where
 h:s.wf
theorem cX.must{s:List Nat}{i:Nat}:cX QU (aU T s i):=⟨λ_ _ _=>⟨trivial⟩⟩
theorem cX.name{i:Nat}:cX QU (dT T i):=⟨λ_ _ _=>⟨trivial⟩⟩
structure Wfn(T:List Tok)(n:Nat):Prop where
 exp:∀i d,cX QE (bW T n i d)
 either:∀i d,cX QE (gB T n i d)
 both:∀i d,cX QE (jH T n i d)
 test:∀i d,cX QE (jI T n i d)
 join:∀i d,cX QE (gC T n i d)
 sum:∀i d,cX QE (mF T n i d)
 term:∀i d,cX QE (jJ T n i d)
 unary:∀i d,cX QE (fz T n i d)
 post:∀i d,cX QE (iW T n i d)
 simple:∀i d,cX QE (dW T n i d)
 jw:∀e i d,e.wf→cX QE (fQ T n e i d)
 mS:∀e i d,e.wf→cX QE (ja T n e i d)
 mT:∀e i d,e.wf→cX QE (jb T n e i d)
 pS:∀e i d,e.wf→cX QE (kh T n e i d)
 mU:∀e i d,e.wf→cX QE (jc T n e i d)
 ki:∀e i d,e.wf→cX QE (cK T n e i d)
 args:∀b out i d,rD out→cX QEs (dJ T n b out i d)
 table:∀out c a i d,rD out→cX QE (fq T n out c a i d)
 field:∀c i d,cX QP (ig T n c i d)
 body:∀a i d,cX QE (iH T n a i d)
 params:∀b out i,cX QU (cg T n b out i)
 block:∀i d,cX QSs (cD T n i d)
 kU:∀out i d,yZ out→cX QSs (cE T n out i d)
 stat:∀i d,cX Aq (fK T n i d)
 mo:∀a i d,cX Aq (iI T n a i d)
 mq:∀a i d,cX Aq (iJ T n a i d)
 kz:∀a i d,cX Aq (gD T n a i d)
 do_:∀a i d,cX Aq (pR T n a i d)
 kA:∀a i d,cX Aq (ij T n a i d)
 plain:∀a i d,cX Aq (gF T n a i d)
 for_:∀a i d,cX Aq (lX T n a i d)
 choice:∀a l bs i d,rD l→afV bs→cX Aq (eN T n a l bs i d)
 jD:∀k a ns l i d,(k=6∨k=7)→rD l→cX Aq (cF T n k a ns l i d)
end
section
def cj{α:Type}(r:an α):Prop:=∀c i,r=.err c i→c≠0
theorem cj.ok{α:Type}(a:α)(i:Nat):cj (.ok a i):=λc i h=>by cases h
theorem cj.aS{α:Type}:cj (.aS:an α):=λc i h=>by cases h
theorem cj.e8{α:Type}(i:Nat):cj (.err 8 i:an α):=λc i h=>by cases h;decide
theorem cj.e14{α:Type}(i:Nat):cj (.err 14 i:an α):=λc i h=>by cases h;decide
theorem cj.bind{α β:Type}{r:an α}{f:α→Nat→an β}(h:cj r)(hf:∀a j,cj (f a j)):cj (r.bind f):=by
 cases r with
 |ok a i=>exact hf a i
 |err c i=>intro c' i' e;cases e;exact h c i rfl
 |aS=>exact cj.aS
theorem cj.ite{α:Type}{c:Prop}[Decidable c]{a b:an α}(h1:cj a)(h2:cj b):cj (if c then a else b):=by
 split
 ·exact h1
 ·exact h2
variable {T:List Tok}
theorem cj.must(s:List Nat)(i:Nat):cj (aU T s i):=cj.ite (cj.ok _ _) (cj.e14 _)
theorem cj.name(i:Nat):cj (dT T i):=cj.ite (cj.ok _ _) (cj.e14 _)
structure Nez(T:List Tok)(n:Nat):Prop where
 exp:∀i d,cj (bW T n i d)
 either:∀i d,cj (gB T n i d)
 jw:∀e i d,cj (fQ T n e i d)
 both:∀i d,cj (jH T n i d)
 mS:∀e i d,cj (ja T n e i d)
 test:∀i d,cj (jI T n i d)
 mT:∀e i d,cj (jb T n e i d)
 join:∀i d,cj (gC T n i d)
 sum:∀i d,cj (mF T n i d)
 pS:∀e i d,cj (kh T n e i d)
 term:∀i d,cj (jJ T n i d)
 mU:∀e i d,cj (jc T n e i d)
 unary:∀i d,cj (fz T n i d)
 post:∀i d,cj (iW T n i d)
 ki:∀e i d,cj (cK T n e i d)
 args:∀b out i d,cj (dJ T n b out i d)
 simple:∀i d,cj (dW T n i d)
 table:∀out c a i d,cj (fq T n out c a i d)
 field:∀c i d,cj (ig T n c i d)
 body:∀a i d,cj (iH T n a i d)
 params:∀b out i,cj (cg T n b out i)
 block:∀i d,cj (cD T n i d)
 kU:∀out i d,cj (cE T n out i d)
 stat:∀i d,cj (fK T n i d)
 mo:∀a i d,cj (iI T n a i d)
 mq:∀a i d,cj (iJ T n a i d)
 kz:∀a i d,cj (gD T n a i d)
 do_:∀a i d,cj (pR T n a i d)
 kA:∀a i d,cj (ij T n a i d)
 plain:∀a i d,cj (gF T n a i d)
 choice:∀a l bs i d,cj (eN T n a l bs i d)
 for_:∀a i d,cj (lX T n a i d)
 jD:∀k a ns l i d,cj (cF T n k a ns l i d)
theorem aq4:Nez T 0 where
 exp _ _:=by rw[bW.eq_1];exact cj.aS
 either _ _:=by rw[gB.eq_1];exact cj.aS
 jw _ _ _:=by rw[fQ.eq_1];exact cj.aS
 both _ _:=by rw[jH.eq_1];exact cj.aS
 mS _ _ _:=by rw[ja.eq_1];exact cj.aS
 test _ _:=by rw[jI.eq_1];exact cj.aS
 mT _ _ _:=by rw[jb.eq_1];exact cj.aS
 join _ _:=by rw[gC.eq_1];exact cj.aS
 sum _ _:=by rw[mF.eq_1];exact cj.aS
 pS _ _ _:=by rw[kh.eq_1];exact cj.aS
 term _ _:=by rw[jJ.eq_1];exact cj.aS
 mU _ _ _:=by rw[jc.eq_1];exact cj.aS
 unary _ _:=by rw[fz.eq_1];exact cj.aS
 post _ _:=by rw[iW.eq_1];exact cj.aS
 ki _ _ _:=by rw[cK.eq_1];exact cj.aS
 args _ _ _ _:=by rw[dJ.eq_1];exact cj.aS
 simple _ _:=by rw[dW.eq_1];exact cj.aS
 table _ _ _ _ _:=by rw[fq.eq_1];exact cj.aS
 field _ _ _:=by rw[ig.eq_1];exact cj.aS
 body _ _ _:=by rw[iH.eq_1];exact cj.aS
 params _ _ _:=by rw[cg.eq_1];exact cj.aS
 block _ _:=by rw[cD.eq_1];exact cj.aS
 kU _ _ _:=by rw[cE.eq_1];exact cj.aS
 stat _ _:=by rw[fK.eq_1];exact cj.aS
 mo _ _ _:=by rw[iI.eq_1];exact cj.aS
 mq _ _ _:=by rw[iJ.eq_1];exact cj.aS
 kz _ _ _:=by rw[gD.eq_1];exact cj.aS
 do_ _ _ _:=by rw[pR.eq_1];exact cj.aS
 kA _ _ _:=by rw[ij.eq_1];exact cj.aS
 plain _ _ _:=by rw[gF.eq_1];exact cj.aS
 choice _ _ _ _ _:=by rw[eN.eq_1];exact cj.aS
 for_ _ _ _:=by rw[lX.eq_1];exact cj.aS
 jD _ _ _ _ _ _:=by rw[cF.eq_1];exact cj.aS
theorem aq5{n:Nat}(F:Nez T n):Nez T (n+1):=by
 refine⟨?_,?_,?_,?_,?_,?_,?_,?_,?_,?_,?_,?_,?_,?_,?_,?_,?_,?_,?_,?_,?_,?_,?_,?_,?_,?_,?_,?_,?_,?_,?_,?_,?_⟩
 all_goals intros
 all_goals first|rw[bW.eq_2]|rw[gB.eq_2]|rw[fQ.eq_2]|rw[jH.eq_2]|rw[ja.eq_2]|rw[jI.eq_2]|rw[jb.eq_2]|rw[gC.eq_2]|rw[mF.eq_2]|rw[kh.eq_2]|rw[jJ.eq_2]|rw[jc.eq_2]|rw[fz.eq_2]|rw[iW.eq_2]|rw[cK.eq_2]|rw[dJ.eq_2]|rw[dW.eq_2]|rw[fq.eq_2]|rw[ig.eq_2]|rw[iH.eq_2]|rw[cg.eq_2]|rw[cD.eq_2]|rw[cE.eq_2]|rw[fK.eq_2]|rw[iI.eq_2]|rw[iJ.eq_2]|rw[gD.eq_2]|rw[pR.eq_2]|rw[ij.eq_2]|rw[gF.eq_2]|rw[eN.eq_2]|rw[lX.eq_2]|rw[cF.eq_2]
 all_goals repeat' first|exact F.exp _ _|exact F.either _ _|exact F.jw _ _ _|exact F.both _ _|exact F.mS _ _ _|exact F.test _ _|exact F.mT _ _ _|exact F.join _ _|exact F.sum _ _|exact F.pS _ _ _|exact F.term _ _|exact F.mU _ _ _|exact F.unary _ _|exact F.post _ _|exact F.ki _ _ _|exact F.args _ _ _ _|exact F.simple _ _|exact F.table _ _ _ _ _|exact F.field _ _ _|exact F.body _ _ _|exact F.params _ _ _|exact F.block _ _|exact F.kU _ _ _|exact F.stat _ _|exact F.mo _ _ _|exact F.mq _ _ _|exact F.kz _ _ _|exact F.do_ _ _ _|exact F.kA _ _ _|exact F.plain _ _ _|exact F.choice _ _ _ _ _|exact F.for_ _ _ _|exact F.jD _ _ _ _ _ _|exact cj.must _ _|exact cj.name _|exact cj.ok _ _|exact cj.e8 _|exact cj.e14 _|apply cj.ite|refine cj.bind ?_ λ_ _=>?_
theorem PG:∀n,Nez T n
 |0=>aq4
 |n+1=>aq5 (PG n)
theorem ajx{r:List Tok ⊕ Nat}{c p:Nat}(h:uR r=.inr (c,p)):c≠0:=by
 cases r with
 |inr e=>cases h;decide
 |inl ts=>
  have hsc:uR (.inl ts)=(match jx ts with|.ok b _=>.inl b|.err c i=>.inr (c,aB ts i)|.aS=>.inl []):=rfl;rw[hsc]at h;cases e:jx ts with
  |ok b j=>rw[e]at h;cases h
  |aS=>rw[e]at h;cases h
  |err c' i=>
   rw[e]at h;cases h;unfold jx at e;have:cj ((cD ts (64*ts.length+64) 0 0).bind λb j=>if cC ts j=0 then .ok b j else .err 14 j):=cj.bind ((PG _).block _ _) λ_ _=>cj.ite (cj.ok _ _) (cj.e14 _);exact this c i e
end
end Go.X
