/- The grammar with fuel, scripts in memory. No condition: definitions and lemmas. -/
import Derived.Test.YtcedghechlgecaaDoorGb
set_option maxRecDepth 100000
set_option maxHeartbeats 0
set_option linter.unusedVariables false
set_option linter.unusedSimpArgs false
namespace Go.X
section
mutual
inductive ao where
 |mk (kind at_ n:Nat) (s:List Nat) (op:Nat) (l:List ao) (f:List dq)
inductive dq where
 |mk (params:List (List Nat)) (body:List aw)
inductive aw where
 |mk (kind at_:Nat) (names:List (List Nat)) (l:List ao) (blocks:List (List aw))
end
def ao.kind:ao→Nat
 |.mk k ..=>k
def aw.kind:aw→Nat
 |.mk k ..=>k
inductive aj(α:Type) where
 |ok (a:α) (i:Nat)
 |err (c i:Nat)
 |aO
def aj.bind{α β:Type}(r:aj α)(f:α→Nat→aj β):aj β:=match r with
 |.ok a i=>f a i
 |.err c i=>.err c i
 |.aO=>.aO
def cz(T:List Tok)(i:Nat):Nat:=match T[i]? with|some t=>t.kind|none=>0
def fQ(T:List Tok)(i:Nat):List Nat:=match T[i]? with|some t=>t.text|none=>[]
def aq(T:List Tok)(i:Nat):Nat:=match T[i]? with|some t=>t.pos|none=>0
def Pp(T:List Tok)(i:Nat):Nat:=match T[i]? with|some t=>t.n|none=>0
def isA(T:List Tok)(s:List Nat)(i:Nat):Bool:=(decide (cz T i=1)||decide (cz T i=5))&&decide (fQ T i=s)
def aR(T:List Tok)(s:List Nat)(i:Nat):aj Unit:=if isA T s i then .ok () (i+1) else .err 14 i
def dS(T:List Tok)(i:Nat):aj (List Nat):=if cz T i=2 then .ok (fQ T i) (i+1) else .err 14 i
def nQ(T:List Tok)(i:Nat):Nat→List (List Nat)→Nat
 |_,[]=>0
 |f,s::l=>if isA T s i then f else nQ T i (f+1) l
def eR(T:List Tok)(i:Nat):Bool:=isA T [101,110,100] i||(isA T [101,108,115,101] i||(isA T [101,108,115,101,105,102] i||(isA T [117,110,116,105,108] i||decide (cz T i=0))))
def lN(kind op at_:Nat)(a b:ao):ao:=.mk kind at_ 0 [] op [a,b] []
def dz(T:List Tok)(s:List Nat)(i:Nat):Nat:=if isA T s i then i+1 else i
def Bp(T:List Tok)(i:Nat):Nat:=if isA T [110,111,116] i then 11 else if isA T [45] i then 12 else if isA T [35] i then 13 else 0
def tests:List (List Nat):=[[61,61],[126,61],[60],[60,61],[62],[62,61]]
def sums:List (List Nat):=[[43],[45]]
def terms:List (List Nat):=[[42],[47,47],[37]]
def np(T:List Tok)(i:Nat):Nat:=if isA T [110,105,108] i then 1 else if isA T [116,114,117,101] i then 2 else if isA T [102,97,108,115,101] i then 3 else 0
variable (T:List Tok)
mutual
def bQ:Nat→Nat→Nat→aj ao
 |0,_,_=>.aO
 |n+1,i,d=>if 100<d+1 then .err 8 i else gK n i (d+1)
def gK:Nat→Nat→Nat→aj ao
 |0,_,_=>.aO
 |n+1,i,d=>(km n i d).bind λe j=>gm n e j d
def gm:Nat→ao→Nat→Nat→aj ao
 |0,_,_,_=>.aO
 |n+1,e,i,d=>if isA T [111,114] i then (km n (i+1) d).bind λb j=>gm n (lN 16 0 (aq T i) e b) j d else .ok e i
def km:Nat→Nat→Nat→aj ao
 |0,_,_=>.aO
 |n+1,i,d=>(ko n i d).bind λe j=>jl n e j d
def jl:Nat→ao→Nat→Nat→aj ao
 |0,_,_,_=>.aO
 |n+1,e,i,d=>if isA T [97,110,100] i then (ko n (i+1) d).bind λb j=>jl n (lN 15 0 (aq T i) e b) j d else .ok e i
def ko:Nat→Nat→Nat→aj ao
 |0,_,_=>.aO
 |n+1,i,d=>(gF n i d).bind λe j=>jm n e j d
def jm:Nat→ao→Nat→Nat→aj ao
 |0,_,_,_=>.aO
 |n+1,e,i,d=>if nQ T i 7 tests=0 then .ok e i else (gF n (i+1) d).bind λb j=>jm n (lN 14 (nQ T i 7 tests) (aq T i) e b) j d
def gF:Nat→Nat→Nat→aj ao
 |0,_,_=>.aO
 |n+1,i,d=>(nR n i d).bind λe j=>if isA T [46,46] j then (if 100<d+1 then .err 8 (j+1) else (gF n (j+1) (d+1)).bind λb k=>.ok (lN 14 6 (aq T j) e b) k) else .ok e j
def nR:Nat→Nat→Nat→aj ao
 |0,_,_=>.aO
 |n+1,i,d=>(ku n i d).bind λe j=>kY n e j d
def kY:Nat→ao→Nat→Nat→aj ao
 |0,_,_,_=>.aO
 |n+1,e,i,d=>if nQ T i 1 sums=0 then .ok e i else (ku n (i+1) d).bind λb j=>kY n (lN 14 (nQ T i 1 sums) (aq T i) e b) j d
def ku:Nat→Nat→Nat→aj ao
 |0,_,_=>.aO
 |n+1,i,d=>(fA n i d).bind λe j=>jn n e j d
def jn:Nat→ao→Nat→Nat→aj ao
 |0,_,_,_=>.aO
 |n+1,e,i,d=>if nQ T i 3 terms=0 then .ok e i else (fA n (i+1) d).bind λb j=>jn n (lN 14 (nQ T i 3 terms) (aq T i) e b) j d
def fA:Nat→Nat→Nat→aj ao
 |0,_,_=>.aO
 |n+1,i,d=>if Bp T i=0 then ja n i d else if 100<d+1 then .err 8 (i+1) else (fA n (i+1) (d+1)).bind λe j=>.ok (.mk (Bp T i) (aq T i) 0 [] 0 [e] []) j
def ja:Nat→Nat→Nat→aj ao
 |0,_,_=>.aO
 |n+1,i,d=>if cz T i=2∨isA T [40] i=true then (ep n i d).bind λe j=>cK n e j d else ep n i d
def cK:Nat→ao→Nat→Nat→aj ao
 |0,_,_,_=>.aO
 |n+1,e,i,d=>
  if isA T [46] i then (dS T (i+1)).bind λs j=>cK n (lN 9 0 (aq T i) e (.mk 5 (aq T (i+1)) 0 s 0 [] [])) j d
  else if isA T [91] i then (bQ n (i+1) d).bind λk j=>(aR T [93] j).bind λ_ j=>cK n (lN 9 0 (aq T i) e k) j d
  else if isA T [40] i then (dO n true [] (i+1) d).bind λl j=>cK n (.mk 10 (aq T i) 0 [] 0 (e::l) []) j d
  else .ok e i
def dO:Nat→Bool→List ao→Nat→Nat→aj (List ao)
 |0,_,_,_,_=>.aO
 |n+1,first,out,i,d=>
  if (if first then !isA T [41] i else isA T [44] i) then
   (if out.length=16 then .err 8 (if first then i else i+1) else (bQ n (if first then i else i+1) d).bind λe j=>dO n false (out++[e]) j d)
  else (aR T [41] i).bind λ_ j=>.ok out j
def ep:Nat→Nat→Nat→aj ao
 |0,_,_=>.aO
 |n+1,i,d=>
  if cz T i=3 then .ok (.mk 4 (aq T i) (Pp T i) [] 0 [] []) (i+1)
  else if cz T i=4 then .ok (.mk 5 (aq T i) 0 (fQ T i) 0 [] []) (i+1)
  else if cz T i=2 then .ok (.mk 6 (aq T i) 0 (fQ T i) 0 [] []) (i+1)
  else if np T i≠0 then .ok (.mk (np T i) (aq T i) 0 [] 0 [] []) (i+1)
  else if isA T [102,117,110,99,116,105,111,110] i then iN n (aq T i) (i+1) d
  else if isA T [123] i then fp n [] 0 (aq T i) (i+1) d
  else if isA T [40] i then (bQ n (i+1) d).bind λe j=>(aR T [41] j).bind λ_ j=>.ok e j
  else .err 14 i
def fp:Nat→List ao→Nat→Nat→Nat→Nat→aj ao
 |0,_,_,_,_,_=>.aO
 |n+1,out,c,a,i,d=>
  if isA T [125] i then .ok (.mk 8 a 0 [] 0 out []) (i+1)
  else if out.length=128 then .err 8 i
  else (iw n c i d).bind λr j=>if isA T [44] j∨isA T [59] j then fp n (out++r.1) r.2 a (j+1) d else (aR T [125] j).bind λ_ k=>.ok (.mk 8 a 0 [] 0 (out++r.1) []) k
def iw:Nat→Nat→Nat→Nat→aj (List ao×Nat)
 |0,_,_,_=>.aO
 |n+1,c,i,d=>
  if isA T [91] i then (bQ n (i+1) d).bind λk j=>(aR T [93] j).bind λ_ j=>(aR T [61] j).bind λ_ j=>(bQ n j d).bind λv j=>.ok ([k,v],c) j
  else if cz T i=2∧cz T (i+1)=5∧fQ T (i+1)=[61] then (bQ n (i+2) d).bind λv j=>.ok ([.mk 5 (aq T i) 0 (fQ T i) 1 [] [],v],c) j
  else (bQ n i d).bind λv j=>.ok ([.mk 4 (aq T i) (c+1) [] 1 [] [],v],c+1) j
def iN:Nat→Nat→Nat→Nat→aj ao
 |0,_,_,_=>.aO
 |n+1,a,i,d=>(aR T [40] i).bind λ_ j=>(bY n true [] j).bind λps j=>(cB n j d).bind λb j=>(aR T [101,110,100] j).bind λ_ j=>.ok (.mk 7 a 0 [] 0 [] [.mk ps b]) j
def bY:Nat→Bool→List (List Nat)→Nat→aj (List (List Nat))
 |0,_,_,_=>.aO
 |n+1,first,out,i=>
  if (if first then !isA T [41] i else isA T [44] i) then
   (if out.length=16 then .err 8 (if first then i else i+1) else (dS T (if first then i else i+1)).bind λs j=>bY n false (out++[s]) j)
  else (aR T [41] i).bind λ_ j=>.ok out j
def cB:Nat→Nat→Nat→aj (List aw)
 |0,_,_=>.aO
 |n+1,i,d=>if 100<d+1 then .err 8 i else cC n [] i (d+1)
def cC:Nat→List aw→Nat→Nat→aj (List aw)
 |0,_,_,_=>.aO
 |n+1,out,i,d=>
  if eR T i then .ok out i
  else (fR n i d).bind λs j=>if s.kind=10∧eR T (dz T [59] j)=false then .err 14 (dz T [59] j) else cC n (out++[s]) (dz T [59] j) d
def fR:Nat→Nat→Nat→aj aw
 |0,_,_=>.aO
 |n+1,i,d=>
  if isA T [108,111,99,97,108] i then iR n (aq T i) (i+1) d
  else if isA T [105,102] i then eN n (aq T i) [] [] (i+1) d
  else if isA T [119,104,105,108,101] i then iS n (aq T i) (i+1) d
  else if isA T [114,101,112,101,97,116] i then gM n (aq T i) (i+1) d
  else if isA T [102,111,114] i then mV n (aq T i) (i+1) d
  else if isA T [98,114,101,97,107] i then .ok (.mk 9 (aq T i) [] [] []) (i+1)
  else if isA T [100,111] i then qw n (aq T i) (i+1) d
  else if isA T [114,101,116,117,114,110] i then iC n (aq T i) (i+1) d
  else if cz T i=2 then gP n (aq T i) i d
  else .err 14 i
def iR:Nat→Nat→Nat→Nat→aj aw
 |0,_,_,_=>.aO
 |n+1,a,i,d=>
  if isA T [102,117,110,99,116,105,111,110] i then (dS T (i+1)).bind λs j=>(iN n (aq T j) j d).bind λb j=>.ok (.mk 12 a [s] [b] []) j
  else (dS T i).bind λs j=>if isA T [61] j then (bQ n (j+1) d).bind λe k=>.ok (.mk 1 a [s] [e] []) k else .ok (.mk 1 a [s] [] []) j
def iS:Nat→Nat→Nat→Nat→aj aw
 |0,_,_,_=>.aO
 |n+1,a,i,d=>(bQ n i d).bind λe j=>(aR T [100,111] j).bind λ_ j=>(cB n j d).bind λb j=>(aR T [101,110,100] j).bind λ_ j=>.ok (.mk 5 a [] [e] [b]) j
def gM:Nat→Nat→Nat→Nat→aj aw
 |0,_,_,_=>.aO
 |n+1,a,i,d=>(cB n i d).bind λb j=>(aR T [117,110,116,105,108] j).bind λ_ j=>(bQ n j d).bind λe j=>.ok (.mk 8 a [] [e] [b]) j
def qw:Nat→Nat→Nat→Nat→aj aw
 |0,_,_,_=>.aO
 |n+1,a,i,d=>(cB n i d).bind λb j=>(aR T [101,110,100] j).bind λ_ j=>.ok (.mk 11 a [] [] [b]) j
def iC:Nat→Nat→Nat→Nat→aj aw
 |0,_,_,_=>.aO
 |n+1,a,i,d=>if isA T [59] i=true∨eR T i=true then .ok (.mk 10 a [] [] []) i else (bQ n i d).bind λe j=>.ok (.mk 10 a [] [e] []) j
def gP:Nat→Nat→Nat→Nat→aj aw
 |0,_,_,_=>.aO
 |n+1,a,i,d=>(ja n i d).bind λe j=>if e.kind=10 then .ok (.mk 3 a [] [e] []) j else (aR T [61] j).bind λ_ j=>(bQ n j d).bind λv j=>.ok (.mk 2 a [] [e,v] []) j
def eN:Nat→Nat→List ao→List (List aw)→Nat→Nat→aj aw
 |0,_,_,_,_,_=>.aO
 |n+1,a,l,bs,i,d=>(bQ n i d).bind λe j=>(aR T [116,104,101,110] j).bind λ_ j=>(cB n j d).bind λb j=>
  if isA T [101,108,115,101,105,102] j then eN n a (l++[e]) (bs++[b]) (j+1) d
  else if isA T [101,108,115,101] j then (cB n (j+1) d).bind λb2 j=>(aR T [101,110,100] j).bind λ_ j=>.ok (.mk 4 a [] (l++[e]) (bs++[b]++[b2])) j
  else (aR T [101,110,100] j).bind λ_ j=>.ok (.mk 4 a [] (l++[e]) (bs++[b])) j
def mV:Nat→Nat→Nat→Nat→aj aw
 |0,_,_,_=>.aO
 |n+1,a,i,d=>(dS T i).bind λs j=>
  if isA T [44] j then (dS T (j+1)).bind λs2 j=>(aR T [105,110] j).bind λ_ j=>(bQ n j d).bind λe j=>cD n 7 a [s,s2] [e] j d
  else (aR T [61] j).bind λ_ j=>(bQ n j d).bind λe j=>(aR T [44] j).bind λ_ j=>(bQ n j d).bind λe2 j=>
   if isA T [44] j then (bQ n (j+1) d).bind λe3 j=>cD n 6 a [s] [e,e2,e3] j d
   else cD n 6 a [s] [e,e2] j d
def cD:Nat→Nat→Nat→List (List Nat)→List ao→Nat→Nat→aj aw
 |0,_,_,_,_,_,_=>.aO
 |n+1,k,a,ns,l,i,d=>(aR T [100,111] i).bind λ_ j=>(cB n j d).bind λb j=>(aR T [101,110,100] j).bind λ_ j=>.ok (.mk k a ns l [b]) j
end
end
def nq(T:List Tok):Prop:=0<T.length∧∀i,i<T.length→cz T i≠0→i+1<T.length
def gG(α:Type)(L i:Nat)(r:aj α):Prop:=match r with
 |.ok _ j=>i<j∧j<L
 |.err _ j=>j<L
 |.aO=>False
def gW(α:Type)(L i:Nat)(r:aj α):Prop:=match r with
 |.ok _ j=>i≤j∧j<L
 |.err _ j=>j<L
 |.aO=>False
section
variable {T:List Tok}{α β:Type}{L i:Nat}
theorem gG.w{r:aj α}(h:gG α L i r):gW α L i r:=by
 cases r with
 |ok a j=>exact⟨Nat.le_of_lt h.1,h.2⟩
 |err c j=>exact h
 |aO=>exact h
theorem gG.lo{r:aj α}{i':Nat}(h:gG α L i r)(hi:i'≤i):gG α L i' r:=by
 cases r with
 |ok a j=>exact⟨Nat.lt_of_le_of_lt hi h.1,h.2⟩
 |err c j=>exact h
 |aO=>exact h
theorem gW.lo{r:aj α}{i':Nat}(h:gW α L i r)(hi:i'≤i):gW α L i' r:=by
 cases r with
 |ok a j=>exact⟨Nat.le_trans hi h.1,h.2⟩
 |err c j=>exact h
 |aO=>exact h
theorem gW.lt{r:aj α}{i':Nat}(h:gW α L i r)(hi:i'<i):gG α L i' r:=by
 cases r with
 |ok a j=>exact⟨Nat.lt_of_lt_of_le hi h.1,h.2⟩
 |err c j=>exact h
 |aO=>exact h
theorem gG.bind{r:aj α}{f:α→Nat→aj β}(h:gG α L i r)(hf:∀a j,i<j→j<L→gW β L j (f a j)):gG β L i (r.bind f):=by
 cases r with
 |ok a j=>exact(hf a j h.1 h.2).lt h.1
 |err c j=>exact h
 |aO=>exact h
theorem gW.bind{r:aj α}{f:α→Nat→aj β}(h:gW α L i r)(hf:∀a j,i≤j→j<L→gW β L j (f a j)):gW β L i (r.bind f):=by
 cases r with
 |ok a j=>exact(hf a j h.1 h.2).lo h.1
 |err c j=>exact h
 |aO=>exact h
theorem gW.agF{r:aj α}{f:α→Nat→aj β}(h:gW α L i r)(hf:∀a j,i≤j→j<L→gG β L j (f a j)):gG β L i (r.bind f):=by
 cases r with
 |ok a j=>exact(hf a j h.1 h.2).lo h.1
 |err c j=>exact h
 |aO=>exact h
theorem Rs(h:cz T i≠0):i<T.length:=by
 unfold cz at h;rcases Nat.lt_or_ge i T.length with g|g
 ·exact g
 ·rw[List.getElem?_eq_none g]at h;exact absurd rfl h
theorem ae6{s:List Nat}(h:isA T s i=true):cz T i=1∨cz T i=5:=by
 unfold isA at h;rw[Bool.and_eq_true,Bool.or_eq_true]at h;rcases h.1 with g|g
 ·exact .inl (of_decide_eq_true g)
 ·exact .inr (of_decide_eq_true g)
theorem de(hT:nq T){s:List Nat}(h:isA T s i=true):i+1<T.length:=by
 have hk:cz T i≠0:=by
  rcases ae6 h with g|g<;>omega
 exact hT.2 i (Rs hk) hk
theorem lj(hT:nq T)(h:cz T i≠0):i+1<T.length:=hT.2 i (Rs h) h
theorem fS(hT:nq T){s:List Nat}(hi:i<T.length):gG Unit T.length i (aR T s i):=by
 unfold aR;split
 ·rename_i h;exact⟨by omega,de hT h⟩
 ·exact hi
theorem ua(hT:nq T)(hi:i<T.length):gG (List Nat) T.length i (dS T i):=by
 unfold dS;split
 ·rename_i h;exact⟨by omega,lj hT (by omega)⟩
 ·exact hi
theorem Kv(hT:nq T):∀(l:List (List Nat)) (f:Nat),nQ T i f l≠0→i+1<T.length
 |[],f,h=>absurd rfl h
 |s::l,f,h=>by
  unfold nQ at h;split at h
  ·rename_i g;exact de hT g
  ·exact Kv hT l _ h
theorem amj(hT:nq T)(h:Bp T i≠0):i+1<T.length:=by
 unfold Bp at h;split at h
 ·rename_i g;exact de hT g
 split at h
 ·rename_i g;exact de hT g
 split at h
 ·rename_i g;exact de hT g
 ·exact absurd rfl h
theorem ah3(hT:nq T)(h:np T i≠0):i+1<T.length:=by
 unfold np at h;split at h
 ·rename_i g;exact de hT g
 split at h
 ·rename_i g;exact de hT g
 split at h
 ·rename_i g;exact de hT g
 ·exact absurd rfl h
theorem alc(hT:nq T){s:List Nat}(hi:i<T.length):i≤dz T s i∧dz T s i<T.length:=by
 unfold dz;split
 ·rename_i g;exact⟨by omega,de hT g⟩
 ·exact⟨Nat.le_refl _,hi⟩
theorem mL{a:α}(h:i<L):gW α L i (.ok a i):=⟨Nat.le_refl _,h⟩
structure Fu(T:List Tok)(n:Nat):Prop where
 exp:∀i d,i<T.length→64*(T.length-i)+20≤n→gG _ T.length i (bQ T n i d)
 either:∀i d,i<T.length→64*(T.length-i)+19≤n→gG _ T.length i (gK T n i d)
 jP:∀e i d,i<T.length→64*(T.length-i)+1≤n→gW _ T.length i (gm T n e i d)
 both:∀i d,i<T.length→64*(T.length-i)+18≤n→gG _ T.length i (km T n i d)
 oC:∀e i d,i<T.length→64*(T.length-i)+1≤n→gW _ T.length i (jl T n e i d)
 test:∀i d,i<T.length→64*(T.length-i)+17≤n→gG _ T.length i (ko T n i d)
 oD:∀e i d,i<T.length→64*(T.length-i)+1≤n→gW _ T.length i (jm T n e i d)
 join:∀i d,i<T.length→64*(T.length-i)+16≤n→gG _ T.length i (gF T n i d)
 sum:∀i d,i<T.length→64*(T.length-i)+15≤n→gG _ T.length i (nR T n i d)
 qS:∀e i d,i<T.length→64*(T.length-i)+1≤n→gW _ T.length i (kY T n e i d)
 term:∀i d,i<T.length→64*(T.length-i)+14≤n→gG _ T.length i (ku T n i d)
 oG:∀e i d,i<T.length→64*(T.length-i)+1≤n→gW _ T.length i (jn T n e i d)
 unary:∀i d,i<T.length→64*(T.length-i)+13≤n→gG _ T.length i (fA T n i d)
 post:∀i d,i<T.length→64*(T.length-i)+12≤n→gG _ T.length i (ja T n i d)
 kZ:∀e i d,i<T.length→64*(T.length-i)+1≤n→gW _ T.length i (cK T n e i d)
 uE:∀f o i d,i<T.length→64*(T.length-i)+30≤n→gG _ T.length i (dO T n f o i d)
 simple:∀i d,i<T.length→64*(T.length-i)+11≤n→gG _ T.length i (ep T n i d)
 Pq:∀o c a i d,i<T.length→64*(T.length-i)+40≤n→gG _ T.length i (fp T n o c a i d)
 field:∀c i d,i<T.length→64*(T.length-i)+35≤n→gG _ T.length i (iw T n c i d)
 body:∀a i d,i<T.length→64*(T.length-i)+10≤n→gG _ T.length i (iN T n a i d)
 AQ:∀f o i,i<T.length→64*(T.length-i)+5≤n→gG _ T.length i (bY T n f o i)
 block:∀i d,i<T.length→64*(T.length-i)+50≤n→gW _ T.length i (cB T n i d)
 lO:∀o i d,i<T.length→64*(T.length-i)+49≤n→gW _ T.length i (cC T n o i d)
 stat:∀i d,i<T.length→64*(T.length-i)+45≤n→gG _ T.length i (fR T n i d)
 IH:∀a l b i d,i<T.length→64*(T.length-i)+25≤n→gG _ T.length i (eN T n a l b i d)
 for_:∀a i d,i<T.length→64*(T.length-i)+5≤n→gG _ T.length i (mV T n a i d)
 j5:∀k a ns l i d,i<T.length→64*(T.length-i)+5≤n→gG _ T.length i (cD T n k a ns l i d)
 nU:∀a i d,i<T.length→64*(T.length-i)+30≤n→gG _ T.length i (iR T n a i d)
 nV:∀a i d,i<T.length→64*(T.length-i)+30≤n→gG _ T.length i (iS T n a i d)
 lP:∀a i d,i<T.length→64*(T.length-i)+60≤n→gG _ T.length i (gM T n a i d)
 do_:∀a i d,i<T.length→64*(T.length-i)+60≤n→gG _ T.length i (qw T n a i d)
 lQ:∀a i d,i<T.length→64*(T.length-i)+30≤n→gW _ T.length i (iC T n a i d)
 plain:∀a i d,i<T.length→64*(T.length-i)+30≤n→gG _ T.length i (gP T n a i d)
theorem ah4(hT:nq T){n:Nat}(F:Fu T n):Fu T (n+1) where
 exp i d hi hn:=by
  simp only[bQ];split
  ·exact hi
  ·exact F.either i _ hi (by omega)
 either i d hi hn:=by
  simp only[gK];exact(F.both i d hi (by omega)).bind λe j h1 h2=>F.jP e j d h2 (by omega)
 jP e i d hi hn:=by
  simp only[gm];split
  ·rename_i h;have:=de hT h;exact(((F.both (i+1) d this (by omega)).bind λb j h1 h2=>F.jP _ j d h2 (by omega)).lo (by omega)).w
  ·exact⟨Nat.le_refl _,hi⟩
 both i d hi hn:=by
  simp only[km];exact(F.test i d hi (by omega)).bind λe j h1 h2=>F.oC e j d h2 (by omega)
 oC e i d hi hn:=by
  simp only[jl];split
  ·rename_i h;have:=de hT h;exact(((F.test (i+1) d this (by omega)).bind λb j h1 h2=>F.oC _ j d h2 (by omega)).lo (by omega)).w
  ·exact⟨Nat.le_refl _,hi⟩
 test i d hi hn:=by
  simp only[ko];exact(F.join i d hi (by omega)).bind λe j h1 h2=>F.oD e j d h2 (by omega)
 oD e i d hi hn:=by
  simp only[jm];split
  ·exact⟨Nat.le_refl _,hi⟩
  ·rename_i h;have:=Kv hT _ _ h;exact(((F.join (i+1) d this (by omega)).bind λb j h1 h2=>F.oD _ j d h2 (by omega)).lo (by omega)).w
 join i d hi hn:=by
  simp only[gF];refine(F.sum i d hi (by omega)).bind λe j h1 h2=>?_;split
  ·rename_i h;have:=de hT h;split
   ·exact this
   ·exact(((F.join (j+1) _ this (by omega)).bind λb k h3 h4=>mL h4).lo (by omega)).w
  ·exact⟨Nat.le_refl _,h2⟩
 sum i d hi hn:=by
  simp only[nR];exact(F.term i d hi (by omega)).bind λe j h1 h2=>F.qS e j d h2 (by omega)
 qS e i d hi hn:=by
  simp only[kY];split
  ·exact⟨Nat.le_refl _,hi⟩
  ·rename_i h;have:=Kv hT _ _ h;exact(((F.term (i+1) d this (by omega)).bind λb j h1 h2=>F.qS _ j d h2 (by omega)).lo (by omega)).w
 term i d hi hn:=by
  simp only[ku];exact(F.unary i d hi (by omega)).bind λe j h1 h2=>F.oG e j d h2 (by omega)
 oG e i d hi hn:=by
  simp only[jn];split
  ·exact⟨Nat.le_refl _,hi⟩
  ·rename_i h;have:=Kv hT _ _ h;exact(((F.unary (i+1) d this (by omega)).bind λb j h1 h2=>F.oG _ j d h2 (by omega)).lo (by omega)).w
 unary i d hi hn:=by
  simp only[fA];split
  ·exact F.post i d hi (by omega)
  ·rename_i h;have:=amj hT h;split
   ·exact this
   ·exact((F.unary (i+1) _ this (by omega)).bind λe j h1 h2=>mL h2).lo (by omega)
 post i d hi hn:=by
  simp only[ja];split
  ·exact(F.simple i d hi (by omega)).bind λe j h1 h2=>F.kZ e j d h2 (by omega)
  ·exact F.simple i d hi (by omega)
 kZ e i d hi hn:=by
  simp only[cK];split
  ·rename_i h;have:=de hT h;exact(((ua hT this).bind λs j h1 h2=>F.kZ _ j d h2 (by omega)).lo (by omega)).w
  split
  ·rename_i h;have:=de hT h;exact(((F.exp (i+1) d this (by omega)).bind λk j h1 h2=>((fS hT h2).bind λ_ j' h3 h4=>F.kZ _ j' d h4 (by omega)).w).lo (by omega)).w
  split
  ·rename_i h;have:=de hT h;exact(((F.uE _ _ (i+1) d this (by omega)).bind λl j h1 h2=>F.kZ _ j d h2 (by omega)).lo (by omega)).w
  ·exact⟨Nat.le_refl _,hi⟩
 uE f o i d hi hn:=by
  simp only[dO];cases f with
  |true=>
   simp only[if_true];split
   ·split
    ·exact hi
    ·exact(F.exp i d hi (by omega)).bind λe j h3 h4=>(F.uE _ _ j d h4 (by omega)).w
   ·exact(fS hT hi).bind λ_ j h1 h2=>mL h2
  |false=>
   simp only[Bool.false_eq_true,if_false];split
   ·rename_i h;have g1:=de hT h;split
    ·exact g1
    ·exact((F.exp (i+1) d g1 (by omega)).bind λe j h3 h4=>(F.uE _ _ j d h4 (by omega)).w).lo (by omega)
   ·exact(fS hT hi).bind λ_ j h1 h2=>mL h2
 simple i d hi hn:=by
  simp only[ep];split
  ·exact⟨by omega,lj hT (by omega)⟩
  split
  ·exact⟨by omega,lj hT (by omega)⟩
  split
  ·exact⟨by omega,lj hT (by omega)⟩
  split
  ·rename_i h;exact⟨by omega,ah3 hT h⟩
  split
  ·rename_i h;have:=de hT h;exact(F.body _ (i+1) d this (by omega)).lo (by omega)
  split
  ·rename_i h;have:=de hT h;exact(F.Pq _ _ _ (i+1) d this (by omega)).lo (by omega)
  split
  ·rename_i h;have:=de hT h;exact((F.exp (i+1) d this (by omega)).bind λe j h1 h2=>((fS hT h2).bind λ_ j h3 h4=>mL h4).w).lo (by omega)
  ·exact hi
 Pq o c a i d hi hn:=by
  simp only[fp];split
  ·rename_i h;exact⟨by omega,de hT h⟩
  split
  ·exact hi
  ·refine(F.field c i d hi (by omega)).bind λr j h1 h2=>?_;split
   ·rename_i h;have:j+1<T.length:=by
     rcases h with h|h<;>exact de hT h
    exact((F.Pq _ _ _ (j+1) d this (by omega)).lo (by omega)).w
   ·exact((fS hT h2).bind λ_ j h3 h4=>mL h4).w
 field c i d hi hn:=by
  simp only[iw];split
  ·rename_i h;have:=de hT h;exact((F.exp (i+1) d this (by omega)).bind λk j h1 h2=>((fS hT h2).bind λ_ j h3 h4=>((fS hT h4).bind λ_ j h5 h6=>((F.exp j d h6 (by omega)).bind λv j h7 h8=>mL h8).w).w).w).lo (by omega)
  split
  ·rename_i h;have h1:i+2<T.length:=lj (i:=i+1) hT (by omega);exact((F.exp (i+2) d h1 (by omega)).bind λv j h3 h4=>mL h4).lo (by omega)
  ·exact(F.exp i d hi (by omega)).bind λv j h3 h4=>mL h4
 body a i d hi hn:=by
  simp only[iN];exact(fS hT hi).bind λ_ j h1 h2=>((F.AQ _ _ j h2 (by omega)).bind λps j h3 h4=>((F.block j d h4 (by omega)).bind λb j h5 h6=>((fS hT h6).bind λ_ j h7 h8=>mL h8).w)).w
 AQ f o i hi hn:=by
  simp only[bY];cases f with
  |true=>
   simp only[if_true];split
   ·split
    ·exact hi
    ·exact(ua hT hi).bind λe j h3 h4=>(F.AQ _ _ j h4 (by omega)).w
   ·exact(fS hT hi).bind λ_ j h1 h2=>mL h2
  |false=>
   simp only[Bool.false_eq_true,if_false];split
   ·rename_i h;have g1:=de hT h;split
    ·exact g1
    ·exact((ua hT g1).bind λe j h3 h4=>(F.AQ _ _ j h4 (by omega)).w).lo (by omega)
   ·exact(fS hT hi).bind λ_ j h1 h2=>mL h2
 block i d hi hn:=by
  simp only[cB];split
  ·exact hi
  ·exact F.lO _ i _ hi (by omega)
 lO o i d hi hn:=by
  simp only[cC];split
  ·exact⟨Nat.le_refl _,hi⟩
  ·refine((F.stat i d hi (by omega)).bind λs j h1 h2=>?_).w;obtain⟨h3,h4⟩:=alc hT (s:=[59]) h2;split
   ·exact h4
   ·exact(F.lO _ _ d h4 (by omega)).lo h3
 stat i d hi hn:=by
  simp only[fR];split
  ·rename_i h;have g1:=de hT h;exact(F.nU _ (i+1) d g1 (by omega)).lo (by omega)
  split
  ·rename_i h;have g1:=de hT h;exact(F.IH _ _ _ (i+1) d g1 (by omega)).lo (by omega)
  split
  ·rename_i h;have g1:=de hT h;exact(F.nV _ (i+1) d g1 (by omega)).lo (by omega)
  split
  ·rename_i h;have g1:=de hT h;exact(F.lP _ (i+1) d g1 (by omega)).lo (by omega)
  split
  ·rename_i h;have g1:=de hT h;exact(F.for_ _ (i+1) d g1 (by omega)).lo (by omega)
  split
  ·rename_i h;exact⟨by omega,de hT h⟩
  split
  ·rename_i h;have g1:=de hT h;exact(F.do_ _ (i+1) d g1 (by omega)).lo (by omega)
  split
  ·rename_i h;have g1:=de hT h;exact(F.lQ _ (i+1) d g1 (by omega)).lt (by omega)
  split
  ·exact F.plain _ i d hi (by omega)
  ·exact hi
 nU a i d hi hn:=by
  simp only[iR];split
  ·rename_i h;have g2:=de hT h;exact((ua hT g2).bind λs j h1 h2=>((F.body _ j d h2 (by omega)).bind λb j h3 h4=>mL h4).w).lo (by omega)
  ·refine(ua hT hi).bind λs j h1 h2=>?_;split
   ·rename_i h;have g2:=de hT h;exact((F.exp (j+1) d g2 (by omega)).bind λe k h3 h4=>mL h4).w.lo (by omega)
   ·exact mL h2
 nV a i d hi hn:=by
  simp only[iS];exact(F.exp i d hi (by omega)).bind λe j h1 h2=>((fS hT h2).bind λ_ j h3 h4=>(F.block j d h4 (by omega)).bind λb j h5 h6=>((fS hT h6).bind λ_ j h7 h8=>mL h8).w).w
 lP a i d hi hn:=by
  simp only[gM];exact(F.block i d hi (by omega)).agF λb j h1 h2=>(fS hT h2).bind λ_ j h3 h4=>((F.exp j d h4 (by omega)).bind λe j h5 h6=>mL h6).w
 do_ a i d hi hn:=by
  simp only[qw];exact(F.block i d hi (by omega)).agF λb j h1 h2=>(fS hT h2).bind λ_ j h3 h4=>mL h4
 lQ a i d hi hn:=by
  simp only[iC];split
  ·exact mL hi
  ·exact((F.exp i d hi (by omega)).bind λe j h1 h2=>mL h2).w
 plain a i d hi hn:=by
  simp only[gP];refine(F.post i d hi (by omega)).bind λe j h1 h2=>?_;split
  ·exact mL h2
  ·exact((fS hT h2).bind λ_ j h3 h4=>((F.exp j d h4 (by omega)).bind λv j h5 h6=>mL h6).w).w
 IH a l b i d hi hn:=by
  simp only[eN];refine(F.exp i d hi (by omega)).bind λe j h1 h2=>((fS hT h2).bind λ_ j h3 h4=>(F.block j d h4 (by omega)).bind λb j h5 h6=>?_).w;split
  ·rename_i h;have g1:=de hT h;exact((F.IH _ _ _ (j+1) d g1 (by omega)).lo (by omega)).w
  split
  ·rename_i h;have g1:=de hT h;exact((F.block (j+1) d g1 (by omega)).bind λb2 j h1 h2=>((fS hT h2).bind λ_ j h3 h4=>mL h4).w).lo (by omega)
  ·exact((fS hT h6).bind λ_ j h3 h4=>mL h4).w
 for_ a i d hi hn:=by
  simp only[mV];refine(ua hT hi).bind λs j h1 h2=>?_;split
  ·rename_i h;have g1:=de hT h;exact(((ua hT g1).bind λs2 j h3 h4=>((fS hT h4).bind λ_ j h5 h6=>((F.exp j d h6 (by omega)).bind λe j h7 h8=>(F.j5 _ _ _ _ j d h8 (by omega)).w).w).w).lo (by omega)).w
  ·refine((fS hT h2).bind λ_ j h3 h4=>((F.exp j d h4 (by omega)).bind λe j h5 h6=>((fS hT h6).bind λ_ j h7 h8=>((F.exp j d h8 (by omega)).bind λe2 j h9 h10=>?_).w).w).w).w;split
   ·rename_i h;have g1:=de hT h;exact(((F.exp (j+1) d g1 (by omega)).bind λe3 j h11 h12=>(F.j5 _ _ _ _ j d h12 (by omega)).w).lo (by omega)).w
   ·exact(F.j5 _ _ _ _ j d h10 (by omega)).w
 j5 k a ns l i d hi hn:=by
  simp only[cD];exact(fS hT hi).bind λ_ j h3 h4=>(F.block j d h4 (by omega)).bind λb j h5 h6=>((fS hT h6).bind λ_ j h7 h8=>mL h8).w
theorem Pr(hT:nq T):∀n,Fu T n
 |0=>by constructor<;>intros<;>omega
 |n+1=>ah4 hT (Pr hT n)
end
section
variable {H:AH}{S S':LS}
def dH(S:LS)(Q:Nat→Prop)(sz:Nat)(v:AV)(n:Nat)(cl:Nat→List AV):Prop:=(v=.ab∧n=0)∨∃b o c ex cs m,v=.slice b o n c sz ex∧Q b∧S.ob b=.ce cs m∧n≤c∧o+n*sz≤cs.length∧∀i,i<n→(cs.drop (o+i*sz)).take sz=cl i
theorem dH.nil(S:LS)(Q:Nat→Prop)(sz:Nat)(cl:Nat→List AV):dH S Q sz .ab 0 cl:=.inl ⟨rfl,rfl⟩
theorem dH.go{Q Q':Nat→Prop}{sz n:Nat}{v:AV}{cl:Nat→List AV}(h:dH S Q sz v n cl)(hk:∀b,Q b→S'.ob b=S.ob b)(h1:∀b,Q b→Q' b):dH S' Q' sz v n cl:=by
 rcases h with h|⟨b,o,c,ex,cs,m,e1,h2,h4,h5⟩
 ·exact .inl h
 ·exact .inr ⟨b,o,c,ex,cs,m,e1,h1 b h2,(hk b h2).trans h4,h5⟩
theorem dH.len{Q:Nat→Prop}{sz n:Nat}{v:AV}{cl:Nat→List AV}{k:AV→Prop}(h:dH S Q sz v n cl)(hk:k (.int 0 n)):eP v k:=by
 rcases h with⟨rfl,rfl⟩|⟨b,o,c,ex,cs,m,rfl,_⟩
 ·exact hk
 ·exact hk
theorem dH.one{Q:Nat→Prop}{sz n:Nat}{v:AV}{cl:Nat→List AV}(h:dH S Q sz v n cl):v.one=true:=by
 rcases h with⟨rfl,rfl⟩|⟨b,o,c,ex,cs,m,rfl,_⟩<;>rfl
theorem dH.same{Q:Nat→Prop}{sz n:Nat}{v:AV}{cl:Nat→List AV}(h:dH S Q sz v n cl):bw v v=true:=by
 rcases h with⟨rfl,rfl⟩|⟨b,o,c,ex,cs,m,rfl,_⟩
 ·rfl
 ·simp[bw]
theorem dH.load{Q:Nat→Prop}{sz n:Nat}{v:AV}{cl:Nat→List AV}{i q:Nat}{k:AV→Prop}(h:dH S Q sz v n cl)(hM:Mem H S)(hi':i<n)(hk:k (.agg (cl i))):cn sz v (.int q i) λp=>aZ sz p H k:=by
 rcases h with⟨rfl,rfl⟩|⟨b,o,c,ex,cs,m,rfl,h1,h3,h4,h5,h6⟩
 ·omega
 ·refine nE (by omega) (by omega) ?_;rw[Int.toNat_natCast];have hle:(i+1)*sz≤n*sz:=Nat.mul_le_mul_right _ (by omega);rw[Nat.add_mul,Nat.one_mul]at hle;refine qM hM h3 (by omega) ?_;rw[h6 i hi'];exact hk
theorem dH.names{Q:Nat→Prop}{b m:Nat}{l:List (List Nat)}{ex:Bool}(hQ:Q b)(hb:S.ob b=.ce (l.map ah) m):dH S Q 1 (.slice b 0 l.length l.length 1 ex) l.length (λj=>[ah (l[j]?.getD [])]):=
 .inr ⟨b,0,l.length,ex,l.map ah,m,rfl,hQ,hb,Nat.le_refl _,by rw[List.length_map];omega,λj hj=>by
  show((l.map ah).drop (0+j*1)).take 1=[ah (l[j]?.getD [])];rw[Nat.zero_add,Nat.mul_one,List.drop_eq_getElem_cons (by rw[List.length_map];exact hj),List.getElem?_eq_getElem hj,Option.getD_some,List.getElem_map];rfl⟩
def jG(S:LS)(Q:Nat→Prop)(v:AV)(l:List (List Nat)):Prop:=dH S Q 1 v l.length (λi=>[ah (l[i]?.getD [])])∧∀t∈l,B8 t
mutual
inductive RE(S:LS)(Q:Nat→Prop):List AV→ao→Prop
 |mk (kind at_ n:Nat) (s:List Nat) (op:Nat) (l:List ao) (f:List dq) (vl vf:AV) (cl cf:Nat→List AV):B8 s→dH S Q 7 vl l.length cl→(∀i e,l[i]? = some e→RE S Q (cl i) e)→dH S Q 2 vf f.length cf→(∀i e,f[i]? = some e→RF S Q (cf i) e)→
   RE S Q [.int 0 kind,.int 0 at_,.int 0 n,ah s,.int 0 op,vl,vf] (.mk kind at_ n s op l f)
inductive RF(S:LS)(Q:Nat→Prop):List AV→dq→Prop
 |mk (ps:List (List Nat)) (body:List aw) (vp vb:AV) (cb:Nat→List AV):jG S Q vp ps→dH S Q 5 vb body.length cb→(∀i e,body[i]? = some e→gR S Q (cb i) e)→RF S Q [vp,vb] (.mk ps body)
inductive gR(S:LS)(Q:Nat→Prop):List AV→aw→Prop
 |mk (kind at_:Nat) (names:List (List Nat)) (l:List ao) (bs:List (List aw)) (vn vl vb:AV) (cl:Nat→List AV) (bv:Nat→AV) (bc:Nat→Nat→List AV):jG S Q vn names→dH S Q 7 vl l.length cl→(∀i e,l[i]? = some e→RE S Q (cl i) e)→
   dH S Q 1 vb bs.length (λi=>[bv i])→(∀i b,bs[i]? = some b→dH S Q 5 (bv i) b.length (bc i))→(∀i b j s,bs[i]? = some b→b[j]? = some s→gR S Q (bc i j) s)→
   gR S Q [.int 0 kind,.int 0 at_,vn,vl,vb] (.mk kind at_ names l bs)
end
section
variable {Q Q':Nat→Prop}
theorem RE.go(hk:∀b,Q b→S'.ob b=S.ob b)(h1:∀b,Q b→Q' b){c:List AV}{e:ao}(h:RE S Q c e):RE S' Q' c e:=
 RE.rec (motive_1:=λc e _=>RE S' Q' c e) (motive_2:=λc e _=>RF S' Q' c e) (motive_3:=λc e _=>gR S' Q' c e)
  (λkind at_ n s op l f vl vf cl cf g1 g2 _ g4 _ ih1 ih2=>.mk kind at_ n s op l f vl vf cl cf g1 (g2.go hk h1) ih1 (g4.go hk h1) ih2)
  (λps body vp vb cb g1 g2 _ ih=>.mk ps body vp vb cb ⟨g1.1.go hk h1,g1.2⟩ (g2.go hk h1) ih)
  (λkind at_ names l bs vn vl vb cl bv bc g1 g2 _ g4 g5 _ ih1 ih2=>.mk kind at_ names l bs vn vl vb cl bv bc ⟨g1.1.go hk h1,g1.2⟩ (g2.go hk h1) ih1 (g4.go hk h1) (λi b hb=>(g5 i b hb).go hk h1) ih2) h
theorem RF.go(hk:∀b,Q b→S'.ob b=S.ob b)(h1:∀b,Q b→Q' b){c:List AV}{e:dq}(h:RF S Q c e):RF S' Q' c e:=
 RF.rec (motive_1:=λc e _=>RE S' Q' c e) (motive_2:=λc e _=>RF S' Q' c e) (motive_3:=λc e _=>gR S' Q' c e)
  (λkind at_ n s op l f vl vf cl cf g1 g2 _ g4 _ ih1 ih2=>.mk kind at_ n s op l f vl vf cl cf g1 (g2.go hk h1) ih1 (g4.go hk h1) ih2)
  (λps body vp vb cb g1 g2 _ ih=>.mk ps body vp vb cb ⟨g1.1.go hk h1,g1.2⟩ (g2.go hk h1) ih)
  (λkind at_ names l bs vn vl vb cl bv bc g1 g2 _ g4 g5 _ ih1 ih2=>.mk kind at_ names l bs vn vl vb cl bv bc ⟨g1.1.go hk h1,g1.2⟩ (g2.go hk h1) ih1 (g4.go hk h1) (λi b hb=>(g5 i b hb).go hk h1) ih2) h
theorem gR.go(hk:∀b,Q b→S'.ob b=S.ob b)(h1:∀b,Q b→Q' b){c:List AV}{e:aw}(h:gR S Q c e):gR S' Q' c e:=
 gR.rec (motive_1:=λc e _=>RE S' Q' c e) (motive_2:=λc e _=>RF S' Q' c e) (motive_3:=λc e _=>gR S' Q' c e)
  (λkind at_ n s op l f vl vf cl cf g1 g2 _ g4 _ ih1 ih2=>.mk kind at_ n s op l f vl vf cl cf g1 (g2.go hk h1) ih1 (g4.go hk h1) ih2)
  (λps body vp vb cb g1 g2 _ ih=>.mk ps body vp vb cb ⟨g1.1.go hk h1,g1.2⟩ (g2.go hk h1) ih)
  (λkind at_ names l bs vn vl vb cl bv bc g1 g2 _ g4 g5 _ ih1 ih2=>.mk kind at_ names l bs vn vl vb cl bv bc ⟨g1.1.go hk h1,g1.2⟩ (g2.go hk h1) ih1 (g4.go hk h1) (λi b hb=>(g5 i b hb).go hk h1) ih2) h
theorem RE.len{c:List AV}{e:ao}(h:RE S Q c e):c.length=7:=by cases h;rfl
theorem RF.len{c:List AV}{e:dq}(h:RF S Q c e):c.length=2:=by cases h;rfl
theorem gR.len{c:List AV}{e:aw}(h:gR S Q c e):c.length=5:=by cases h;rfl
theorem jG.one{v:AV}{l:List (List Nat)}(h:jG S Q v l):v.one=true:=h.1.one
theorem RE.ones{c:List AV}{e:ao}(h:RE S Q c e):∀a∈c,a.one=true:=by
 cases h with
 |mk kind at_ n s op l f vl vf cl cf g1 g2 _ g4 _=>
  intro a ha;simp only[List.mem_cons,List.not_mem_nil,or_false]at ha;rcases ha with rfl|rfl|rfl|rfl|rfl|rfl|rfl<;>first|rfl|exact g2.one|exact g4.one
theorem RF.ones{c:List AV}{e:dq}(h:RF S Q c e):∀a∈c,a.one=true:=by
 cases h with
 |mk ps body vp vb cb g1 g2 _=>
  intro a ha;simp only[List.mem_cons,List.not_mem_nil,or_false]at ha;rcases ha with rfl|rfl
  ·exact g1.one
  ·exact g2.one
theorem gR.ones{c:List AV}{e:aw}(h:gR S Q c e):∀a∈c,a.one=true:=by
 cases h with
 |mk kind at_ names l bs vn vl vb cl bv bc g1 g2 _ g4 _ _=>
  intro a ha;simp only[List.mem_cons,List.not_mem_nil,or_false]at ha;rcases ha with rfl|rfl|rfl|rfl|rfl<;>first|rfl|exact g1.one|exact g2.one|exact g4.one
theorem BZ{c:List AV}(h:∀a∈c,bw a a=true):bw (.agg c) (.agg c)=true:=Bm h
theorem RE.same{c:List AV}{e:ao}(h:RE S Q c e):bw (.agg c) (.agg c)=true:=by
 cases h with
 |mk kind at_ n s op l f vl vf cl cf g1 g2 _ g4 _=>
  refine BZ λa ha=>?_;simp only[List.mem_cons,List.not_mem_nil,or_false]at ha;rcases ha with rfl|rfl|rfl|rfl|rfl|rfl|rfl<;>first|exact C9 _ _|exact Sv _ _|exact g2.same|exact g4.same
end
structure Rep(α:Type) where
 rel:LS→(Nat→Prop)→List AV→α→Prop
 sz:Nat
 pos:0<sz
 go:∀{S S':LS}{Q Q':Nat→Prop}{c:List AV}{a:α},(∀b,Q b→S'.ob b=S.ob b)→(∀b,Q b→Q' b)→rel S Q c a→rel S' Q' c a
 len:∀{S:LS}{Q:Nat→Prop}{c:List AV}{a:α},rel S Q c a→c.length=sz
 ones:∀{S:LS}{Q:Nat→Prop}{c:List AV}{a:α},rel S Q c a→∀x∈c,x.one=true
def kD:Rep ao:=⟨RE,7,by omega,λh1 h2 h=>RE.go h1 h2 h,λh=>h.len,λh=>h.ones⟩
def anq:Rep dq:=⟨RF,2,by omega,λh1 h2 h=>RF.go h1 h2 h,λh=>h.len,λh=>h.ones⟩
def mW:Rep aw:=⟨gR,5,by omega,λh1 h2 h=>gR.go h1 h2 h,λh=>h.len,λh=>h.ones⟩
def vu:Rep (List Nat):=⟨λ_ _ c t=>c=[ah t]∧B8 t,1,by omega,λ_ _ h=>h,λh=>by rw[h.1];rfl,λh x hx=>by rw[h.1]at hx;simp at hx;subst hx;rfl⟩
def ub:Rep (List aw):=⟨λS Q c b=>∃v bc,c=[v]∧dH S Q 5 v b.length bc∧∀j s,b[j]? = some s→gR S Q (bc j) s,1,by omega,
 λhk h1 ⟨v,bc,e,g1,g2⟩=>⟨v,bc,e,g1.go hk h1,λj s hs=>(g2 j s hs).go hk h1⟩,λ⟨v,bc,e,_⟩=>by rw[e];rfl,λ⟨v,bc,e,g1,_⟩ x hx=>by rw[e]at hx;simp at hx;subst hx;exact g1.one⟩
def iy(lo hi:Nat):Nat→Prop:=λb=>lo≤b∧b<hi
def iI{α:Type}(R:Rep α)(lo:Nat)(S:LS)(v:AV)(l:List α):Prop:=∃cl:List (List AV),dT S R.sz v l.length cl.flatten∧cl.length=l.length∧(∀b,au v b→lo≤b)∧
 ∀(i:Nat) (c:List AV) (a:α),cl[i]? = some c→l[i]? = some a→∃Q,R.rel S Q c a∧∀b,Q b→lo≤b∧b<S.n∧¬au v b
section
variable {α:Type}{R:Rep α}{lo:Nat}{v:AV}{l:List α}
theorem iI.nil(R:Rep α)(lo:Nat)(S:LS):iI R lo S .ab []:=⟨[],dT.nil _ _,rfl,λ_ h=>h.elim,λi c a h=>by simp at h⟩
theorem iI.keep(h:iI R lo S v l)(hM:Mem H S)(hn:S.n≤S'.n)(hk:∀b,lo≤b→b<S.n→S'.ob b=S.ob b):iI R lo S' v l:=by
 obtain⟨cl,h1,h2,h3,h4⟩:=h;refine⟨cl,h1.keep hM λb hb hlt=>hk b (h3 b hb) hlt,h2,h3,λi c a hc ha=>?_⟩;obtain⟨Q,g1,g2⟩:=h4 i c a hc ha;exact⟨Q,R.go (λb hb=>hk b (g2 b hb).1 (g2 b hb).2.1) (λ_ h=>h) g1,λb hb=>⟨(g2 b hb).1,Nat.lt_of_lt_of_le (g2 b hb).2.1 hn,(g2 b hb).2.2⟩⟩
theorem JM{cl:List (List AV)}{sz:Nat}(h:∀c∈cl,c.length=sz):∀{i:Nat}{c:List AV},cl[i]? = some c→(cl.flatten.drop (i*sz)).take sz=c:=by
 induction cl with
 |nil=>intro i c hc;simp at hc
 |cons d cl ih=>
  intro i c hc;have hd:=h d (by simp);cases i with
  |zero=>
   simp at hc;subst hc;rw[Nat.zero_mul,List.drop_zero,List.flatten_cons,←hd];exact List.take_left' rfl
  |succ i=>
   have:=ih (λx hx=>h x (by simp[hx])) (i:=i) (c:=c) (by simpa using hc);rw[List.flatten_cons,Nat.add_mul,Nat.one_mul,Nat.add_comm,←List.drop_drop,←hd,List.drop_left' rfl,hd];exact this
theorem iI.szs{cl:List (List AV)}(h4:∀(i:Nat) (c:List AV) (a:α),cl[i]? = some c→l[i]? = some a→∃Q,R.rel S Q c a∧∀b,Q b→lo≤b∧b<S.n∧¬au v b)(hl:cl.length=l.length):∀c∈cl,c.length=R.sz:=λc hc=>by
 obtain⟨i,hi,e⟩:=List.mem_iff_getElem.1 hc;obtain⟨_,g,_⟩:=h4 i c (l[i]'(by omega)) (by rw[List.getElem?_eq_getElem hi,e]) (List.getElem?_eq_getElem _);exact R.len g
theorem iI.done(h:iI R lo S v l)(hM:Mem H S):∃cl,dH S (iy lo S.n) R.sz v l.length cl∧∀i a,l[i]? = some a→R.rel S (iy lo S.n) (cl i) a:=by
 obtain⟨cl,h1,h2,h3,h4⟩:=h;have hsz:=iI.szs h4 h2;refine⟨λi=>cl[i]?.getD [],?_,λi a ha=>?_⟩
 ·rcases h1 with⟨rfl,e,_⟩|⟨b,c,ex,cs,rfl,g2,g3,g4,g5,g6,g7⟩
  ·exact .inl ⟨rfl,e⟩
  ·refine .inr ⟨b,0,c,ex,cs,0,rfl,⟨h3 b rfl,hM.lt (by rw[g2];simp)⟩,g2,g4,by rw[g3,Nat.zero_add];exact Nat.mul_le_mul_right _ g4,λi hi=>?_⟩;have hic:i<cl.length:=by omega
   have e1:=JM hsz (List.getElem?_eq_getElem hic);show(cs.drop (0+i*R.sz)).take R.sz=cl[i]?.getD [];rw[List.getElem?_eq_getElem hic,Option.getD_some,←e1,Nat.zero_add];have hle:(i+1)*R.sz≤l.length*R.sz:=Nat.mul_le_mul_right _ (by omega);rw[Nat.add_mul,Nat.one_mul]at hle
   conv=>rhs;rw[←g6]
   rw[List.drop_take,List.take_take,Nat.min_eq_left (by omega)]
 ·have hil:=(List.getElem?_eq_some_iff.1 ha).1;have hic:i<cl.length:=by omega
  obtain⟨Q,g1,g2⟩:=h4 i _ a (List.getElem?_eq_getElem hic) ha;show R.rel S (iy lo S.n) (cl[i]?.getD []) a;rw[List.getElem?_eq_getElem hic,Option.getD_some];exact R.go (λ_ _=>rfl) (λb hb=>⟨(g2 b hb).1,(g2 b hb).2.1⟩) g1
theorem iI.step{a:α}{c:List AV}{Q:Nat→Prop}{v':AV}(h:iI R lo S v l)(hr:R.rel S Q c a)(hQ:∀b,Q b→lo≤b∧b<S.n∧¬au v b)(hlo:lo≤S.n)(hs:∀cl,dT S R.sz v l.length cl→qN S v (l.length+1) R.sz (cl++c) S' v'):iI R lo S' v' (l++[a]):=by
 obtain⟨cl,h1,h2,h3,h4⟩:=h;obtain⟨a1,a2,a3,a4⟩:=hs _ h1;refine⟨cl++[c],?_,by simp[h2],λb hb'=>?_,λi c' a' hc ha=>?_⟩
 ·rw[List.flatten_append,List.length_append];show dT S' R.sz v' (l.length+1) (cl.flatten++[c].flatten);have:[c].flatten=c:=by simp
  rw[this];exact a3
 ·rcases a4 b hb' with g|g
  ·exact h3 b g
  ·omega
 ·have fin:∀{Q:Nat→Prop}{c:List AV}{a:α},R.rel S Q c a→(∀b,Q b→lo≤b∧b<S.n∧¬au v b)→∃Q,R.rel S' Q c a∧∀b,Q b→lo≤b∧b<S'.n∧¬au v' b:=λ{Q c a} g1 g2=>
   ⟨Q,R.go (λb hb=>a2 b (g2 b hb).2.1 (g2 b hb).2.2) (λ_ h=>h) g1,λb hb=>⟨(g2 b hb).1,Nat.lt_of_lt_of_le (g2 b hb).2.1 a1,λhb'=>by
    rcases a4 b hb' with q|q
    ·exact(g2 b hb).2.2 q
    ·have:=(g2 b hb).2.1;omega⟩⟩
  by_cases hi:i<cl.length
  ·rw[List.getElem?_append_left hi]at hc;rw[List.getElem?_append_left (by omega)]at ha;obtain⟨Q,g1,g2⟩:=h4 i c' a' hc ha;exact fin g1 g2
  ·rw[List.getElem?_append_right (by omega)]at hc ha;have e0:i-cl.length=0:=by
    rcases Nat.eq_zero_or_pos (i-cl.length)with q|q
    ·exact q
    ·rw[List.getElem?_eq_none (by simp;omega)]at hc;cases hc
   have e1:i-l.length=0:=by omega
   rw[e0]at hc;rw[e1]at ha;simp at hc ha;subst hc;subst ha;exact fin hr hQ
end
end
def aJ(X:Nat→Prop)(S S':LS):Prop:=S.n≤S'.n∧∀b,b<S.n→¬X b→S'.ob b=S.ob b
def bP:Nat→Prop:=λ_=>False
section
variable {X Y:Nat→Prop}{S S' pb:LS}{H:AH}
theorem aJ.refl(X:Nat→Prop)(S:LS):aJ X S S:=⟨Nat.le_refl _,λ_ _ _=>rfl⟩
theorem aJ.trans(h:aJ X S S')(g:aJ X S' pb):aJ X S pb:=⟨Nat.le_trans h.1 g.1,λb hb hx=>(g.2 b (Nat.lt_of_lt_of_le hb h.1) hx).trans (h.2 b hb hx)⟩
theorem aJ.mono(h:aJ X S S')(hxy:∀b,X b→Y b):aJ Y S S':=⟨h.1,λb hb hx=>h.2 b hb λg=>hx (hxy b g)⟩
theorem aJ.no(h:aJ bP S S'):aJ X S S':=h.mono λ_ g=>g.elim
theorem aJ.push(h:aJ X S S')(o:gh):aJ X S (S'.push o):=⟨Nat.le_trans h.1 (Nat.le_succ _),λb hb hx=>by rw[LS.bC _ _ (Nat.lt_of_lt_of_le hb h.1)];exact h.2 b hb hx⟩
theorem aJ.set(h:aJ X S S'){b:Nat}(hb:X b∨S.n≤b)(o:gh):aJ X S (S'.set b o):=⟨h.1,λc hc hx=>by
 rw[LS.av _ _ λe=>by subst e;rcases hb with g|g;exact hx g;omega];exact h.2 c hc hx⟩
theorem aJ.app{sz n:Nat}{v v':AV}{l:List AV}(h:aJ X S S')(ha:qN S' v n sz l pb v')(hv:∀b,au v b→X b∨S.n≤b):aJ X S pb:=⟨Nat.le_trans h.1 ha.1,λb hb hx=>by
 rw[ha.2.1 b (Nat.lt_of_lt_of_le hb h.1) λg=>by rcases hv b g with q|q;exact hx q;omega];exact h.2 b hb hx⟩
end
structure Ctx where
 T:List Tok
 bp:Nat
 vT:AV
 pv:AV
 ok:nq T
 b8:∀t∈T,B8 t.text
 few:T.length≤100000
 ne:¬au vT bp
structure pc(C:Ctx)(S:LS)(i d:Nat):Prop where
 ob:S.ob C.bp=.ce [C.vT,.int 0 (i:Int),.int 0 (d:Int),.int 0 0] 0
 tk:dT S 4 C.vT C.T.length (tcs C.T)
 lt:i<C.T.length
structure ald(C:Ctx)(S:LS)(c i:Nat):Prop where
 ob:∃d:Int,S.ob C.bp=.ce [C.vT,.int 0 (i:Int),.int 0 d,.int 0 (c:Int)] 0
 tk:dT S 4 C.vT C.T.length (tcs C.T)
 lt:i<C.T.length
def Post{α:Type}(C:Ctx)(X:Nat→Prop)(d:Nat)(Rp:LS→(Nat→Prop)→AV→α→Prop)(K:KF)(S:LS)(r:aj α):Prop:=match r with
 |.ok a j=>∀H' S' v,Mem H' S'→aJ X S S'→pc C S' j d→Rp S' (iy S.n S'.n) v a→K (.ret v) H'
 |.err c j=>∀H' S',Mem H' S'→aJ X S S'→ald C S' c j→K (.cJ C.pv) H'
 |.aO=>False
section
variable {C:Ctx}{X Y:Nat→Prop}{S S' S1:LS}{H:AH}{K:KF}{i d d1:Nat}{α β:Type}{eD:LS→(Nat→Prop)→AV→α→Prop}{Hf:LS→(Nat→Prop)→AV→β→Prop}
theorem pc.nW(h:pc C S i d)(hM:Mem H S):C.bp<S.n:=hM.lt (by rw[h.ob];simp)
theorem pc.keep(h:pc C S i d)(hM:Mem H S)(hc:aJ X S S')(h1:¬X C.bp)(h2:∀b,au C.vT b→¬X b):pc C S' i d:=
 ⟨(hc.2 C.bp (h.nW hM) h1).trans h.ob,h.tk.keep hM λb hb hlt=>hc.2 b hlt (h2 b hb),h.lt⟩
theorem pc.no(h:pc C S i d)(hM:Mem H S)(hc:aJ bP S S'):pc C S' i d:=h.keep hM hc (λg=>g) λ_ _ g=>g
theorem pc.qT{S0:LS}{H0:AH}{i0 d0:Nat}(h:pc C S i d)(h0:pc C S0 i0 d0)(hM0:Mem H0 S0){b:Nat}(hb:S0.n≤b)(o:gh):pc C (S.set b o) i d:=
 ⟨(LS.av _ _ (by have:=h0.nW hM0;omega)).trans h.ob,by
  have hv:=h0.tk;rcases h.tk with g|⟨b',c,ex,cs,g1,g2,g3⟩
  ·exact .inl g
  ·refine .inr ⟨b',c,ex,cs,g1,?_,g3⟩;have:b'<S0.n:=hv.lt hM0 (by rw[g1];rfl);rw[LS.av _ _ (by omega)];exact g2,h.lt⟩
theorem pc.set(h:pc C S i d){j e:Nat}(hj:j<C.T.length):pc C (S.set C.bp (.ce [C.vT,.int 0 (j:Int),.int 0 (e:Int),.int 0 0] 0)) j e:=
 ⟨LS.aC _ _ _,by
  rcases h.tk with g|⟨b,c,ex,cs,g1,g2,g3⟩
  ·exact .inl g
  ·refine .inr ⟨b,c,ex,cs,g1,?_,g3⟩;rw[LS.av _ _ λe=>C.ne (by rw[g1,←e];rfl)];exact g2,hj⟩
theorem pc.err(h:pc C S i d){c:Nat}{e:Int}:ald C (S.set C.bp (.ce [C.vT,.int 0 (i:Int),.int 0 e,.int 0 (c:Int)] 0)) c i:=
 ⟨⟨e,LS.aC _ _ _⟩,by
  rcases h.tk with g|⟨b,c,ex,cs,g1,g2,g3⟩
  ·exact .inl g
  ·refine .inr ⟨b,c,ex,cs,g1,?_,g3⟩;rw[LS.av _ _ λe=>C.ne (by rw[g1,←e];rfl)];exact g2,h.lt⟩
theorem Post.call{r1:aj α}{f:α→Nat→aj β}(h:Post C X d Hf K S (r1.bind f))(hx:aJ X S S1)(hX:∀b,Y b→X b){k:AV→AH→Prop}
  (hk:∀a j H' S' v,Mem H' S'→aJ Y S1 S'→pc C S' j d1→eD S' (iy S1.n S'.n) v a→Post C X d Hf K S (f a j)→k v H'):Post C Y d1 eD (λo H=>cR K o H λv=>k v H) S1 r1:=by
 cases r1 with
 |ok a j=>exact λH' S' v m c p q=>hk a j H' S' v m c p q h
 |err c j=>exact λH' S' m ch p=>h H' S' m (hx.trans (ch.mono hX)) p
 |aO=>exact h
theorem adk{T:List Tok}{i:Nat}(h:i<T.length):∃t,T[i]? = some t∧cz T i=t.kind∧fQ T i=t.text∧aq T i=t.pos∧Pp T i=t.n:=by
 refine⟨T[i],List.getElem?_eq_getElem h,?_⟩;unfold cz fQ aq Pp;rw[List.getElem?_eq_getElem h];exact⟨rfl,rfl,rfl,rfl⟩
theorem wV(C:Ctx)(i:Nat):B8 (fQ C.T i):=by
 unfold fQ;split
 ·rename_i t h;exact C.b8 t (List.mem_of_getElem? h)
 ·exact B8.nil
def nX(T:List Tok)(i:Nat):List AV:=[.int 0 (cz T i:Int),ah (fQ T i),.int 0 (Pp T i:Int),.int 0 (aq T i:Int)]
theorem B6{T:List Tok}{i:Nat}(h:i<T.length):((tcs T).drop (i*4)).take 4=nX T i:=by
 obtain⟨t,h1,h2,h3,h4,h5⟩:=adk h;rw[Q6 h1];unfold nX;rw[h2,h3,h4,h5];rfl
end
def dW(S:LS)(Q:Nat→Prop)(v:AV)(e:ao):Prop:=∃c,v=.agg c∧RE S Q c e
def rvS(S:LS)(Q:Nat→Prop)(v:AV)(e:aw):Prop:=∃c,v=.agg c∧gR S Q c e
def nY(_:LS)(_:Nat→Prop)(v:AV)(_:Unit):Prop:=v=.bF []
def Ps(_:LS)(_:Nat→Prop)(v:AV)(t:List Nat):Prop:=v=ah t∧B8 t
def qx(S:LS)(Q:Nat→Prop)(v:AV)(l:List ao):Prop:=∃cl,dH S Q 7 v l.length cl∧∀i e,l[i]? = some e→RE S Q (cl i) e
def gp(S:LS)(Q:Nat→Prop)(v:AV)(l:List aw):Prop:=∃cl,dH S Q 5 v l.length cl∧∀i e,l[i]? = some e→gR S Q (cl i) e
section
variable {C:Ctx}{X Y:Nat→Prop}{S S' S1:LS}{H:AH}{K:KF}{i d d1:Nat}{α β:Type}{Rp eD:LS→(Nat→Prop)→AV→α→Prop}
theorem Post.tail{r:aj α}(h:Post C X d Rp K S r)(hx:aJ X S S1)(hX:∀b,Y b→X b){k:AV→AH→Prop}
  (hk:∀a j H' S' v,Mem H' S'→aJ Y S1 S'→pc C S' j d1→eD S' (iy S1.n S'.n) v a→(∀Hg pb w,Mem Hg pb→aJ X S pb→pc C pb j d→Rp pb (iy S.n pb.n) w a→K (.ret w) Hg)→k v H'):Post C Y d1 eD (λo H=>cR K o H λv=>k v H) S1 r:=by
 cases r with
 |ok a j=>exact λH' S' v m c p q=>hk a j H' S' v m c p q h
 |err c j=>exact λH' S' m ch p=>h H' S' m (hx.trans (ch.mono hX)) p
 |aO=>exact h
theorem aJ.sS(h:aJ X S S1)(g:aJ Y S1 S')(hy:∀b,Y b→X b∨S.n≤b):aJ X S S':=⟨Nat.le_trans h.1 g.1,λb hb hx=>(g.2 b (Nat.lt_of_lt_of_le hb h.1) λq=>by
 rcases hy b q with w|w
 ·exact hx w
 ·omega).trans (h.2 b hb hx)⟩
theorem aJ.ob{b:Nat}{c:List AV}{m:Nat}(g:aJ Y S S')(hM:Mem H S)(hb:S.ob b=.ce c m)(hy:¬Y b):S'.ob b=.ce c m:=(g.2 b (hM.lt (by rw[hb];simp)) hy).trans hb
theorem fT:∀{l:List AV}{n:Nat}{x:Prop},l.length=n→x→gv l n x
 |[],0,x,_,hx=>hx
 |a::l,n+1,x,h,hx=>fT (l:=l) (n:=n) (by simpa using h) hx
theorem ib(l:List AV)(k:List AV→Prop):onVal (.agg l) k=k l:=rfl
theorem II{l z:List AV}(hl:l.length=7)(hz:z.length=7):spl l z 0=l:=by
 match l,hl,z,hz with
 |[a,b,c,d,e,f,g],_,[_,_,_,_,_,_,_],_=>rfl
theorem AS{l k z:List AV}(hl:l.length=7)(hk:k.length=7)(hz:z.length=14):spl k (spl l z 0) 7=l++k:=by
 match l,hl,k,hk,z,hz with
 |[_,_,_,_,_,_,_],_,[_,_,_,_,_,_,_],_,[_,_,_,_,_,_,_,_,_,_,_,_,_,_],_=>rfl
theorem ale{l z:List AV}(hl:l.length=5)(hz:z.length=5):spl l z 0=l:=by
 match l,hl,z,hz with
 |[a,b,c,d,e],_,[_,_,_,_,_],_=>rfl
theorem fU{v:AV}{x:Prop}(h:v.one=true)(hx:x):one v x:=by
 unfold one;exact cV h hx
end
theorem mU.amk{l:List Nat}{k:Nat}{t:List Nat}{v j:Nat}(h:mU l k t v j):k≠0:=by cases h<;>decide
theorem jg.ends{l:List Nat}{p:Nat}{r:List Tok ⊕ Nat}(h:jg l p r):∀ts,r=.inl ts→∃a q,ts=a++[⟨0,[],0,q⟩]∧∀t∈a,t.kind≠0:=by
 induction h with
 |nil p=>intro ts e;cases e;exact⟨[],p,rfl,λt h=>by simp at h⟩
 |blank c l p r _ _ ih=>exact ih
 |remark l p r _ ih=>exact ih
 |wrong=>intro ts e;cases e
 |tok c l p k t n j ts _ _ ht _ ih=>
  intro ts' e;cases e;obtain⟨a,q,e,h⟩:=ih ts rfl;refine⟨⟨k,t,n,p⟩::a,q,by rw[e];rfl,λx hx=>?_⟩;rcases List.mem_cons.1 hx with rfl|hx
  ·exact ht.amk
  ·exact h x hx
 |bad=>intro ts e;cases e
theorem jg.b8{l:List Nat}{p:Nat}{r:List Tok ⊕ Nat}(h:jg l p r):B8 l→∀ts,r=.inl ts→∀t∈ts,B8 t.text:=by
 induction h with
 |nil p=>intro _ ts e t ht;cases e;simp at ht;subst ht;exact B8.nil
 |blank c l p r _ _ ih=>exact λh8=>ih h8.tl
 |remark l p r _ ih=>exact λh8=>ih (h8.drop _)
 |wrong=>intro _ ts e;cases e
 |tok c l p k t n j ts _ _ ht _ ih=>
  intro h8 ts' e;cases e;intro x hx;rcases List.mem_cons.1 hx with rfl|hx
  ·exact ht.b8 h8
  ·exact ih (h8.drop _) ts rfl x hx
 |bad=>intro _ ts e;cases e
theorem jg.AT{l:List Nat}{p:Nat}{ts:List Tok}(h:jg l p (.inl ts)):nq ts:=by
 obtain⟨a,q,e,ha⟩:=h.ends ts rfl;subst e;refine⟨by simp,λi hi hk=>?_⟩;rw[List.length_append,List.length_singleton]at hi ⊢;rcases Nat.lt_or_ge i a.length with g|g
 ·omega
 ·exfalso;have e:i=a.length:=by omega
  subst e;apply hk;unfold cz;rw[List.getElem?_append_right (Nat.le_refl _),Nat.sub_self];rfl
def jx(T:List Tok):aj (List aw):=(cB T (64*T.length+64) 0 0).bind λb j=>if cz T j=0 then .ok b j else .err 14 j
theorem Hh{T:List Tok}(hT:nq T):jx T≠.aO:=by
 have h:=(Pr hT (64*T.length+64)).block 0 0 hT.1 (by omega);unfold jx;cases e:cB T (64*T.length+64) 0 0 with
 |aO=>rw[e]at h;exact h.elim
 |err c i=>intro q;cases q
 |ok b j=>
  show(if cz T j=0 then aj.ok b j else .err 14 j)≠.aO;split<;>intro q<;>cases q
theorem Hi{T:List Tok}(hT:nq T):∀b j,cB T (64*T.length+64) 0 0=.ok b j→j<T.length:=λb j e=>by
 have h:=(Pr hT (64*T.length+64)).block 0 0 hT.1 (by omega);rw[e]at h;exact h.2
def vw(r:List Tok ⊕ Nat):List aw ⊕ Nat×Nat:=match r with
 |.inr e=>.inr (14,e)
 |.inl ts=>(match jx ts with
  |.ok b _=>.inl b
  |.err c i=>.inr (c,aq ts i)
  |.aO=>.inl [])
def ScP(K:KF)(S0:LS)(r:List aw ⊕ Nat×Nat):Prop:=match r with
 |.inl b=>∀H' S' v,Mem H' S'→Ext S0 S'→gp S' (iy S0.n S'.n) v b→K (.ret (.bF [v,.int 0 0,.int 0 0])) H'
 |.inr (c,p)=>∀H' S',Mem H' S'→Ext S0 S'→K (.ret (.bF [.ab,.int 0 (c:Int),.int 0 (p:Int)])) H'
def LxQ(K:KF)(S0:LS)(r:List Tok ⊕ Nat):Prop:=match r with
 |.inl ts=>∀H' S' v',Mem H' S'→Ext S0 S'→dT S' 4 v' ts.length (tcs ts)→(∀b,au v' b→S0.n≤b)→K (.ret (.bF [v',.int 0 0,.int 0 0])) H'
 |.inr e=>∀H' S',Mem H' S'→Ext S0 S'→K (.ret (.bF [.ab,.int 0 14,.int 0 (e:Int)])) H'
theorem gp.go{S S':LS}{Q Q':Nat→Prop}{v:AV}{l:List aw}(h:gp S Q v l)(hk:∀b,Q b→S'.ob b=S.ob b)(h1:∀b,Q b→Q' b):gp S' Q' v l:=by
 obtain⟨cl,g1,g2⟩:=h;exact⟨cl,g1.go hk h1,λi e he=>(g2 i e he).go hk h1⟩
theorem dT.one'{S:LS}{sz n:Nat}{v:AV}{l:List AV}(h:dT S sz v n l):v.one=true:=by
 rcases h with⟨rfl,_⟩|⟨b,c,ex,cs,rfl,_⟩<;>rfl
theorem aJ.ext{S S':LS}(h:aJ bP S S'):Ext S S':=⟨h.1,λb hb=>h.2 b hb λq=>q⟩
section
mutual
def ao.sz:ao→Nat
 |.mk _ _ _ _ _ l f=>1+aH l+fJ f
def aH:List ao→Nat
 |[]=>0
 |e::l=>e.sz+aH l
def dq.sz:dq→Nat
 |.mk ps b=>1+ps.length+cx b
def fJ:List dq→Nat
 |[]=>0
 |f::l=>f.sz+fJ l
def aw.sz:aw→Nat
 |.mk _ _ ns l bs=>1+ns.length+aH l+dR bs
def cx:List aw→Nat
 |[]=>0
 |s::l=>s.sz+cx l
def dR:List (List aw)→Nat
 |[]=>0
 |b::l=>1+cx b+dR l
end
theorem mu:∀a b:List ao,aH (a++b)=aH a+aH b
 |[],b=>by simp[aH]
 |e::a,b=>by rw[List.cons_append,aH,aH,mu a b];omega
theorem B7:∀a b:List aw,cx (a++b)=cx a+cx b
 |[],b=>by simp[cx]
 |e::a,b=>by rw[List.cons_append,cx,cx,B7 a b];omega
theorem uc:∀a b:List (List aw),dR (a++b)=dR a+dR b
 |[],b=>by simp[dR]
 |e::a,b=>by rw[List.cons_append,dR,dR,uc a b];omega
theorem aS{α β:Type}{r:aj α}{f:α→Nat→aj β}{b:β}{j:Nat}(h:r.bind f=.ok b j):∃a i,r=.ok a i∧f a i=.ok b j:=by
 cases r with
 |ok a i=>exact⟨a,i,rfl,h⟩
 |err c i=>cases h
 |aO=>cases h
theorem dA{α:Type}{a b:α}{i j:Nat}(h:(aj.ok a i:aj α)=.ok b j):a=b∧i=j:=by cases h;exact⟨rfl,rfl⟩
variable {T:List Tok}
theorem fq{s:List Nat}{i j:Nat}{u:Unit}(h:aR T s i=.ok u j):j=i+1:=by
 unfold aR at h;split at h
 ·cases h;rfl
 ·cases h
theorem s3{i j:Nat}{t:List Nat}(h:dS T i=.ok t j):j=i+1:=by
 unfold dS at h;split at h
 ·cases h;rfl
 ·cases h
structure Sz(T:List Tok)(n:Nat):Prop where
 exp:∀{i d e j},bQ T n i d=.ok e j→e.sz+3+4*i≤4*j
 either:∀{i d e j},gK T n i d=.ok e j→e.sz+3+4*i≤4*j
 jP:∀{e0 i d e j},gm T n e0 i d=.ok e j→e.sz+4*i≤e0.sz+4*j
 both:∀{i d e j},km T n i d=.ok e j→e.sz+3+4*i≤4*j
 oC:∀{e0 i d e j},jl T n e0 i d=.ok e j→e.sz+4*i≤e0.sz+4*j
 test:∀{i d e j},ko T n i d=.ok e j→e.sz+3+4*i≤4*j
 oD:∀{e0 i d e j},jm T n e0 i d=.ok e j→e.sz+4*i≤e0.sz+4*j
 join:∀{i d e j},gF T n i d=.ok e j→e.sz+3+4*i≤4*j
 sum:∀{i d e j},nR T n i d=.ok e j→e.sz+3+4*i≤4*j
 qS:∀{e0 i d e j},kY T n e0 i d=.ok e j→e.sz+4*i≤e0.sz+4*j
 term:∀{i d e j},ku T n i d=.ok e j→e.sz+3+4*i≤4*j
 oG:∀{e0 i d e j},jn T n e0 i d=.ok e j→e.sz+4*i≤e0.sz+4*j
 unary:∀{i d e j},fA T n i d=.ok e j→e.sz+3+4*i≤4*j
 post:∀{i d e j},ja T n i d=.ok e j→e.sz+3+4*i≤4*j
 kZ:∀{e0 i d e j},cK T n e0 i d=.ok e j→e.sz+4*i≤e0.sz+4*j
 args:∀{b out i d l j},dO T n b out i d=.ok l j→aH l+4*i+1≤aH out+4*j
 simple:∀{i d e j},ep T n i d=.ok e j→e.sz+3+4*i≤4*j
 table:∀{out c a i d e j},fp T n out c a i d=.ok e j→e.sz+3+4*i≤aH out+4*j
 field:∀{c i d l j},iw T n c i d=.ok l j→aH l.1+4*i≤4*j
 body:∀{a i d e j},iN T n a i d=.ok e j→e.sz+3+4*i≤4*j
 params:∀{b out i l j},bY T n b out i=.ok l j→l.length+4*i+3≤out.length+4*j
 block:∀{i d b j},cB T n i d=.ok b j→cx b+4*i≤4*j
 lO:∀{out i d b j},cC T n out i d=.ok b j→cx b+4*i≤cx out+4*j
 stat:∀{i d s j},fR T n i d=.ok s j→s.sz+4*i≤4*j
 nU:∀{a i d s j},iR T n a i d=.ok s j→s.sz+4*i≤4*j
 nV:∀{a i d s j},iS T n a i d=.ok s j→s.sz+4*i≤4*j
 lP:∀{a i d s j},gM T n a i d=.ok s j→s.sz+4*i≤4*j
 do_:∀{a i d s j},qw T n a i d=.ok s j→s.sz+4*i≤4*j
 lQ:∀{a i d s j},iC T n a i d=.ok s j→s.sz+4*i≤1+4*j
 plain:∀{a i d s j},gP T n a i d=.ok s j→s.sz+4*i≤4*j
 choice:∀{a l bs i d s j},eN T n a l bs i d=.ok s j→s.sz+4*i≤aH l+dR bs+4*j
 for_:∀{a i d s j},mV T n a i d=.ok s j→s.sz+4*i≤4*j
 j5:∀{k a ns l i d s j},cD T n k a ns l i d=.ok s j→s.sz+4*i≤ns.length+aH l+4*j
theorem Hj(kind op at_:Nat)(a b:ao):(lN kind op at_ a b).sz=1+a.sz+b.sz:=by
 unfold lN;simp only[ao.sz,aH,fJ];omega
theorem wW{r:aj ao}{q:ao→Nat→aj ao}{i j:Nat}{e:ao}(h1:∀{e j},r=.ok e j→e.sz+3+4*i≤4*j)(h2:∀{e0 k e j},q e0 k=.ok e j→e.sz+4*k≤e0.sz+4*j)
  (h:r.bind q=.ok e j):e.sz+3+4*i≤4*j:=by
 obtain⟨a,k,g1,g2⟩:=aS h;have:=h1 g1;have:=h2 g2;omega
theorem wX{r:aj ao}{q:ao→Nat→aj ao}{i j kind op at_:Nat}{e e0:ao}(h1:∀{e j},r=.ok e j→e.sz+3+4*(i+1)≤4*j)(h2:∀{e0 k e j},q e0 k=.ok e j→e.sz+4*k≤e0.sz+4*j)
  (h:(r.bind λb j=>q (lN kind op at_ e0 b) j)=.ok e j):e.sz+4*i≤e0.sz+4*j:=by
 obtain⟨a,k,g1,g2⟩:=aS h;have:=h1 g1;have:=h2 g2;rw[Hj]at this;omega
theorem sz0:Sz T 0:=by
 constructor<;>intros<;>rename_i h<;>first
  |(simp only[bQ]at h;cases h)|(simp only[gK]at h;cases h)|(simp only[gm]at h;cases h)|(simp only[km]at h;cases h)|(simp only[jl]at h;cases h)|(simp only[ko]at h;cases h)|(simp only[jm]at h;cases h)
  |(simp only[gF]at h;cases h)|(simp only[nR]at h;cases h)|(simp only[kY]at h;cases h)|(simp only[ku]at h;cases h)|(simp only[jn]at h;cases h)|(simp only[fA]at h;cases h)|(simp only[ja]at h;cases h)|(simp only[cK]at h;cases h)
  |(simp only[dO]at h;cases h)|(simp only[ep]at h;cases h)|(simp only[fp]at h;cases h)|(simp only[iw]at h;cases h)|(simp only[iN]at h;cases h)|(simp only[bY]at h;cases h)|(simp only[cB]at h;cases h)|(simp only[cC]at h;cases h)
  |(simp only[fR]at h;cases h)|(simp only[iR]at h;cases h)|(simp only[iS]at h;cases h)|(simp only[gM]at h;cases h)|(simp only[qw]at h;cases h)|(simp only[iC]at h;cases h)|(simp only[gP]at h;cases h)|(simp only[eN]at h;cases h)|(simp only[mV]at h;cases h)|(simp only[cD]at h;cases h)
theorem szS{n:Nat}(F:Sz T n):Sz T (n+1) where
 exp h:=by
  simp only[bQ]at h;split at h
  ·cases h
  ·exact F.either h
 either h:=by simp only[gK]at h;exact wW F.both F.jP h
 jP h:=by
  simp only[gm]at h;split at h
  ·exact wX F.both F.jP h
  ·obtain⟨rfl,rfl⟩:=dA h;omega
 both h:=by simp only[km]at h;exact wW F.test F.oC h
 oC h:=by
  simp only[jl]at h;split at h
  ·exact wX F.test F.oC h
  ·obtain⟨rfl,rfl⟩:=dA h;omega
 test h:=by simp only[ko]at h;exact wW F.join F.oD h
 oD h:=by
  simp only[jm]at h;split at h
  ·obtain⟨rfl,rfl⟩:=dA h;omega
  ·exact wX F.join F.oD h
 join h:=by
  simp only[gF]at h;obtain⟨a,k,g1,h⟩:=aS h;have:=F.sum g1;split at h
  ·split at h
   ·cases h
   ·obtain⟨b,k2,g2,h⟩:=aS h;have:=F.join g2;obtain⟨rfl,rfl⟩:=dA h;rw[Hj];omega
  ·obtain⟨rfl,rfl⟩:=dA h;omega
 sum h:=by simp only[nR]at h;exact wW F.term F.qS h
 qS h:=by
  simp only[kY]at h;split at h
  ·obtain⟨rfl,rfl⟩:=dA h;omega
  ·exact wX F.term F.qS h
 term h:=by simp only[ku]at h;exact wW F.unary F.oG h
 oG h:=by
  simp only[jn]at h;split at h
  ·obtain⟨rfl,rfl⟩:=dA h;omega
  ·exact wX F.unary F.oG h
 unary h:=by
  simp only[fA]at h;split at h
  ·exact F.post h
  split at h
  ·cases h
  ·obtain⟨a,k,g1,h⟩:=aS h;have:=F.unary g1;obtain⟨rfl,rfl⟩:=dA h;simp only[ao.sz,aH,fJ];omega
 post h:=by
  simp only[ja]at h;split at h
  ·exact wW F.simple F.kZ h
  ·exact F.simple h
 kZ h:=by
  simp only[cK]at h;split at h
  ·obtain⟨a,k,g1,h⟩:=aS h;have:=s3 g1;have:=F.kZ h;rw[Hj]at this;simp only[ao.sz,aH,fJ]at this;omega
  split at h
  ·obtain⟨a,k,g1,h⟩:=aS h;obtain⟨b,k2,g2,h⟩:=aS h;have:=F.exp g1;have:=fq g2;have:=F.kZ h;rw[Hj]at this;omega
  split at h
  ·obtain⟨a,k,g1,h⟩:=aS h;have:=F.args g1;have:=F.kZ h;simp only[ao.sz,aH,fJ]at *;omega
  ·obtain⟨rfl,rfl⟩:=dA h;omega
 args {b out i d l j} h:=by
  cases b
  all_goals
   simp only[dO,Bool.false_eq_true,↓reduceIte]at h;split at h
   ·split at h
    ·cases h
    ·obtain⟨a,k,g1,h⟩:=aS h;have:=F.exp g1;have:=F.args h;rw[mu]at this;simp only[aH]at this;omega
   ·obtain⟨a,k,g1,h⟩:=aS h;have:=fq g1;obtain⟨rfl,rfl⟩:=dA h;omega
 simple h:=by
  simp only[ep]at h;split at h
  ·obtain⟨rfl,rfl⟩:=dA h;simp only[ao.sz,aH,fJ];omega
  split at h
  ·obtain⟨rfl,rfl⟩:=dA h;simp only[ao.sz,aH,fJ];omega
  split at h
  ·obtain⟨rfl,rfl⟩:=dA h;simp only[ao.sz,aH,fJ];omega
  split at h
  ·obtain⟨rfl,rfl⟩:=dA h;simp only[ao.sz,aH,fJ];omega
  split at h
  ·have:=F.body h;omega
  split at h
  ·have:=F.table h;simp only[aH]at this;omega
  split at h
  ·obtain⟨a,k,g1,h⟩:=aS h;obtain⟨b,k2,g2,h⟩:=aS h;have:=F.exp g1;have:=fq g2;obtain⟨rfl,rfl⟩:=dA h;omega
  ·cases h
 table h:=by
  simp only[fp]at h;split at h
  ·obtain⟨rfl,rfl⟩:=dA h;simp only[ao.sz,aH,fJ];omega
  split at h
  ·cases h
  obtain⟨a,k,g1,h⟩:=aS h;have:=F.field g1;split at h
  ·have:=F.table h;rw[mu]at this;omega
  ·obtain⟨b,k2,g2,h⟩:=aS h;have:=fq g2;obtain⟨rfl,rfl⟩:=dA h;simp only[ao.sz,fJ,mu];omega
 field h:=by
  simp only[iw]at h;split at h
  ·obtain⟨a,k,g1,h⟩:=aS h;obtain⟨b,k2,g2,h⟩:=aS h;obtain⟨b3,k3,g3,h⟩:=aS h;obtain⟨b4,k4,g4,h⟩:=aS h;have:=F.exp g1;have:=fq g2;have:=fq g3;have:=F.exp g4;obtain⟨rfl,rfl⟩:=dA h;simp only[aH];omega
  split at h
  ·obtain⟨a,k,g1,h⟩:=aS h;have:=F.exp g1;obtain⟨rfl,rfl⟩:=dA h;simp only[ao.sz,aH,fJ];omega
  ·obtain⟨a,k,g1,h⟩:=aS h;have:=F.exp g1;obtain⟨rfl,rfl⟩:=dA h;simp only[ao.sz,aH,fJ];omega
 body h:=by
  simp only[iN]at h;obtain⟨a,k,g1,h⟩:=aS h;obtain⟨b,k2,g2,h⟩:=aS h;obtain⟨b3,k3,g3,h⟩:=aS h;obtain⟨b4,k4,g4,h⟩:=aS h;have:=fq g1;have:=F.params g2;have:=F.block g3;have:=fq g4;obtain⟨rfl,rfl⟩:=dA h;simp only[ao.sz,dq.sz,aH,fJ]at *;simp only[List.length_nil]at *;omega
 params {b out i l j} h:=by
  cases b
  all_goals
   simp only[bY,Bool.false_eq_true,↓reduceIte]at h;split at h
   ·split at h
    ·cases h
    ·obtain⟨a,k,g1,h⟩:=aS h;have:=s3 g1;have:=F.params h;rw[List.length_append,List.length_singleton]at this;omega
   ·obtain⟨a,k,g1,h⟩:=aS h;have:=fq g1;obtain⟨rfl,rfl⟩:=dA h;omega
 block h:=by
  simp only[cB]at h;split at h
  ·cases h
  ·have:=F.lO h;simp only[cx]at this;omega
 lO h:=by
  simp only[cC]at h;split at h
  ·obtain⟨rfl,rfl⟩:=dA h;omega
  obtain⟨a,k,g1,h⟩:=aS h;have:=F.stat g1;split at h
  ·cases h
  ·have:=F.lO h;rw[B7]at this;simp only[cx]at this;unfold dz at this;split at this<;>omega
 stat h:=by
  simp only[fR]at h;split at h
  ·have:=F.nU h;omega
  split at h
  ·have:=F.choice h;simp only[aH,dR]at this;omega
  split at h
  ·have:=F.nV h;omega
  split at h
  ·have:=F.lP h;omega
  split at h
  ·have:=F.for_ h;omega
  split at h
  ·obtain⟨rfl,rfl⟩:=dA h;simp only[aw.sz,aH,dR,List.length_nil];omega
  split at h
  ·have:=F.do_ h;omega
  split at h
  ·have:=F.lQ h;omega
  split at h
  ·exact F.plain h
  ·cases h
 nU h:=by
  simp only[iR]at h;split at h
  ·obtain⟨a,k,g1,h⟩:=aS h;obtain⟨b,k2,g2,h⟩:=aS h;have:=s3 g1;have:=F.body g2;obtain⟨rfl,rfl⟩:=dA h;simp only[aw.sz,aH,dR,List.length_cons,List.length_nil];omega
  ·obtain⟨a,k,g1,h⟩:=aS h;have:=s3 g1;split at h
   ·obtain⟨b,k2,g2,h⟩:=aS h;have:=F.exp g2;obtain⟨rfl,rfl⟩:=dA h;simp only[aw.sz,aH,dR,List.length_cons,List.length_nil];omega
   ·obtain⟨rfl,rfl⟩:=dA h;simp only[aw.sz,aH,dR,List.length_cons,List.length_nil];omega
 nV h:=by
  simp only[iS]at h;obtain⟨a,k,g1,h⟩:=aS h;obtain⟨b,k2,g2,h⟩:=aS h;obtain⟨b3,k3,g3,h⟩:=aS h;obtain⟨b4,k4,g4,h⟩:=aS h;have:=F.exp g1;have:=fq g2;have:=F.block g3;have:=fq g4;obtain⟨rfl,rfl⟩:=dA h;simp only[aw.sz,aH,dR,List.length_nil];omega
 lP h:=by
  simp only[gM]at h;obtain⟨a,k,g1,h⟩:=aS h;obtain⟨b,k2,g2,h⟩:=aS h;obtain⟨b3,k3,g3,h⟩:=aS h;have:=F.block g1;have:=fq g2;have:=F.exp g3;obtain⟨rfl,rfl⟩:=dA h;simp only[aw.sz,aH,dR,List.length_nil];omega
 do_ h:=by
  simp only[qw]at h;obtain⟨a,k,g1,h⟩:=aS h;obtain⟨b,k2,g2,h⟩:=aS h;have:=F.block g1;have:=fq g2;obtain⟨rfl,rfl⟩:=dA h;simp only[aw.sz,aH,dR,List.length_nil];omega
 lQ h:=by
  simp only[iC]at h;split at h
  ·obtain⟨rfl,rfl⟩:=dA h;simp only[aw.sz,aH,dR,List.length_nil];omega
  ·obtain⟨a,k,g1,h⟩:=aS h;have:=F.exp g1;obtain⟨rfl,rfl⟩:=dA h;simp only[aw.sz,aH,dR,List.length_nil];omega
 plain h:=by
  simp only[gP]at h;obtain⟨a,k,g1,h⟩:=aS h;have:=F.post g1;split at h
  ·obtain⟨rfl,rfl⟩:=dA h;simp only[aw.sz,aH,dR,List.length_nil];omega
  ·obtain⟨b,k2,g2,h⟩:=aS h;obtain⟨b3,k3,g3,h⟩:=aS h;have:=fq g2;have:=F.exp g3;obtain⟨rfl,rfl⟩:=dA h;simp only[aw.sz,aH,dR,List.length_nil];omega
 choice h:=by
  simp only[eN]at h;obtain⟨a,k,g1,h⟩:=aS h;obtain⟨b,k2,g2,h⟩:=aS h;obtain⟨b3,k3,g3,h⟩:=aS h;have:=F.exp g1;have:=fq g2;have:=F.block g3;split at h
  ·have:=F.choice h;rw[mu,uc]at this;simp only[aH,dR]at this;omega
  split at h
  ·obtain⟨b4,k4,g4,h⟩:=aS h;obtain⟨b5,k5,g5,h⟩:=aS h;have:=F.block g4;have:=fq g5;obtain⟨rfl,rfl⟩:=dA h;simp only[aw.sz,mu,uc,aH,dR,List.length_nil];omega
  ·obtain⟨b5,k5,g5,h⟩:=aS h;have:=fq g5;obtain⟨rfl,rfl⟩:=dA h;simp only[aw.sz,mu,uc,aH,dR,List.length_nil];omega
 for_ h:=by
  simp only[mV]at h;obtain⟨a,k,g1,h⟩:=aS h;have:=s3 g1;split at h
  ·obtain⟨b,k2,g2,h⟩:=aS h;obtain⟨b3,k3,g3,h⟩:=aS h;obtain⟨b4,k4,g4,h⟩:=aS h;have:=s3 g2;have:=fq g3;have:=F.exp g4;have:=F.j5 h;simp only[aH,List.length_cons,List.length_nil]at this;omega
  ·obtain⟨b,k2,g2,h⟩:=aS h;obtain⟨b3,k3,g3,h⟩:=aS h;obtain⟨b4,k4,g4,h⟩:=aS h;obtain⟨b5,k5,g5,h⟩:=aS h;have:=fq g2;have:=F.exp g3;have:=fq g4;have:=F.exp g5;split at h
   ·obtain⟨b6,k6,g6,h⟩:=aS h;have:=F.exp g6;have:=F.j5 h;simp only[aH,List.length_cons,List.length_nil]at this;omega
   ·have:=F.j5 h;simp only[aH,List.length_cons,List.length_nil]at this;omega
 j5 h:=by
  simp only[cD]at h;obtain⟨a,k,g1,h⟩:=aS h;obtain⟨b,k2,g2,h⟩:=aS h;obtain⟨b3,k3,g3,h⟩:=aS h;have:=fq g1;have:=F.block g2;have:=fq g3;obtain⟨rfl,rfl⟩:=dA h;simp only[aw.sz,aH,dR];omega
theorem adl:∀n,Sz T n
 |0=>sz0
 |n+1=>szS (adl n)
end
def builtins:List (List Nat):=[[116,121,112,101],[101,114,114,111,114],[112,99,97,108,108],[99,114,101,97,116,101],[114,101,115,117,109,101],[121,105,101,108,100],[115,116,97,116,117,115],[116,111,115,116,114,105,110,103],[116,111,105,110,116],[115,117,98],[98,121,116,101],[99,104,97,114],[114,101,112],[117,112,112,101,114],[108,111,119,101,114],[114,101,118,101,114,115,101],[102,105,110,100],[105,110,115,101,114,116],[114,101,109,111,118,101],[107,101,121,115],[106,111,105,110],[99,97,108,108]]
def jo(ns out:List (List Nat))(s:List Nat):List (List Nat):=if s∈ns then out else if s∈builtins then out else if s∈out then out else out++[s]
mutual
def oE:Nat→List (List Nat)→List (List Nat)→ao→List (List Nat)
 |0,_,out,_=>out
 |n+1,ns,out,.mk k _ _ s _ l f=>f.foldl (oF n ns) (l.foldl (oE n ns) (if k=6 then jo ns out s else out))
def oF:Nat→List (List Nat)→List (List Nat)→dq→List (List Nat)
 |0,_,out,_=>out
 |n+1,ns,out,.mk ps b=>oW n ns ps b [] out
def oW:Nat→List (List Nat)→List (List Nat)→List aw→List ao→List (List Nat)→List (List Nat)
 |0,_,_,_,_,out=>out
 |n+1,ns,names,b,thn,out=>thn.foldl (oE n (b.foldl (oS n) (ns++names,out)).1) (b.foldl (oS n) (ns++names,out)).2
def oS:Nat→List (List Nat)×List (List Nat)→aw→List (List Nat)×List (List Nat)
 |0,r,_=>r
 |n+1,r,.mk k _ names l bs=>
  if k=1 then (r.1++names,l.foldl (oE n r.1) r.2)
  else if k=12 then (r.1++names,l.foldl (oE n (r.1++names)) r.2)
  else if k=8 then (r.1,bs.foldl (λo b=>oW n r.1 [] b l o) r.2)
  else if k=4 then (r.1,(List.range bs.length).foldl (λo i=>oW n r.1 [] (bs[i]?.getD []) [] (match l[i]? with|some e=>oE n r.1 o e|none=>o)) r.2)
  else (r.1,bs.foldl (λo b=>oW n r.1 names b [] o) (l.foldl (oE n r.1) r.2))
end
mutual
def ao.wf:ao→Prop
 |.mk _ _ _ _ _ l f=>iJ l∧Pt f
def iJ:List ao→Prop
 |[]=>True
 |e::l=>e.wf∧iJ l
def dq.wf:dq→Prop
 |.mk _ b=>jA b
def Pt:List dq→Prop
 |[]=>True
 |e::l=>e.wf∧Pt l
def aw.wf:aw→Prop
 |.mk k _ ns l bs=>(k=8→bs.length≤1)∧((k=1∨k=12)→bs=[])∧(k≠1→k≠6→k≠7→k≠12→ns=[])∧iJ l∧qp bs
def jA:List aw→Prop
 |[]=>True
 |e::l=>e.wf∧jA l
def qp:List (List aw)→Prop
 |[]=>True
 |e::l=>jA e∧qp l
end
theorem B9:∀a b:List ao,iJ (a++b)↔iJ a∧iJ b
 |[],b=>by simp[iJ]
 |e::a,b=>by rw[List.cons_append,iJ,iJ,B9 a b,and_assoc]
theorem Ca:∀a b:List aw,jA (a++b)↔jA a∧jA b
 |[],b=>by simp[jA]
 |e::a,b=>by rw[List.cons_append,jA,jA,Ca a b,and_assoc]
theorem Pu:∀a b:List (List aw),qp (a++b)↔qp a∧qp b
 |[],b=>by simp[qp]
 |e::a,b=>by rw[List.cons_append,qp,qp,Pu a b,and_assoc]
theorem lk:∀{l:List ao}{i:Nat}{e:ao},iJ l→l[i]? = some e→e.wf
 |[],_,_,_,h=>by simp at h
 |a::l,0,e,h,g=>by simp at g;subst g;exact h.1
 |a::l,i+1,e,h,g=>lk (l:=l) h.2 (by simpa using g)
theorem ud:∀{l:List dq}{i:Nat}{e:dq},Pt l→l[i]? = some e→e.wf
 |[],_,_,_,h=>by simp at h
 |a::l,0,e,h,g=>by simp at g;subst g;exact h.1
 |a::l,i+1,e,h,g=>ud (l:=l) h.2 (by simpa using g)
theorem xV:∀{l:List aw}{i:Nat}{e:aw},jA l→l[i]? = some e→e.wf
 |[],_,_,_,h=>by simp at h
 |a::l,0,e,h,g=>by simp at g;subst g;exact h.1
 |a::l,i+1,e,h,g=>xV (l:=l) h.2 (by simpa using g)
theorem jB:∀{l:List (List aw)}{i:Nat}{e:List aw},qp l→l[i]? = some e→jA e
 |[],_,_,_,h=>by simp at h
 |a::l,0,e,h,g=>by simp at g;subst g;exact h.1
 |a::l,i+1,e,h,g=>jB (l:=l) h.2 (by simpa using g)
theorem ae7{l:List ao}(h:iJ l):∀e∈l,e.wf:=λe he=>by
 obtain⟨i,hi⟩:=List.mem_iff_getElem?.1 he;exact lk h hi
theorem Cb{l:List dq}(h:Pt l):∀e∈l,e.wf:=λe he=>by
 obtain⟨i,hi⟩:=List.mem_iff_getElem?.1 he;exact ud h hi
theorem Cc{l:List (List aw)}(h:qp l):∀e∈l,jA e:=λe he=>by
 obtain⟨i,hi⟩:=List.mem_iff_getElem?.1 he;exact jB h hi
section
variable {T:List Tok}
structure fa{β:Type}(P:β→Prop)(r:aj β):Prop where
 h:∀v j,r=.ok v j→P v
theorem fa.bind{β γ:Type}{P:β→Prop}{P2:γ→Prop}{r:aj β}{f:β→Nat→aj γ}(h:fa P r)(hf:∀v j,P v→fa P2 (f v j)):fa P2 (r.bind f):=by
 refine⟨λv j e=>?_⟩;obtain⟨a,i,e1,e2⟩:=aS e;exact(hf a i (h.h a i e1)).h v j e2
theorem fa.ok{β:Type}{P:β→Prop}{v:β}{i:Nat}(h:P v):fa P (.ok v i):=⟨λw j e=>by cases e;exact h⟩
theorem fa.err{β:Type}{P:β→Prop}{c i:Nat}:fa P (.err c i):=⟨λw j e=>by cases e⟩
theorem fa.ite{β:Type}{P:β→Prop}{c:Prop}[Decidable c]{a b:aj β}(h1:fa P a)(h2:fa P b):fa P (if c then a else b):=by
 split
 ·exact h1
 ·exact h2
structure QU{β:Type}(x:β):Prop where
 h:True
structure QE(e:ao):Prop where
 h:e.wf
structure QEs(l:List ao):Prop where
 h:iJ l
structure QP(p:List ao×Nat):Prop where
 h:iJ p.1
structure QSs(l:List aw):Prop where
 h:jA l
structure Bq(s:aw):Prop where
 h:s.wf
theorem fa.must{s:List Nat}{i:Nat}:fa QU (aR T s i):=⟨λ_ _ _=>⟨trivial⟩⟩
theorem fa.name{i:Nat}:fa QU (dS T i):=⟨λ_ _ _=>⟨trivial⟩⟩
structure Wfn(T:List Tok)(n:Nat):Prop where
 exp:∀i d,fa QE (bQ T n i d)
 either:∀i d,fa QE (gK T n i d)
 both:∀i d,fa QE (km T n i d)
 test:∀i d,fa QE (ko T n i d)
 join:∀i d,fa QE (gF T n i d)
 sum:∀i d,fa QE (nR T n i d)
 term:∀i d,fa QE (ku T n i d)
 unary:∀i d,fa QE (fA T n i d)
 post:∀i d,fa QE (ja T n i d)
 simple:∀i d,fa QE (ep T n i d)
 jP:∀e i d,e.wf→fa QE (gm T n e i d)
 oC:∀e i d,e.wf→fa QE (jl T n e i d)
 oD:∀e i d,e.wf→fa QE (jm T n e i d)
 qS:∀e i d,e.wf→fa QE (kY T n e i d)
 oG:∀e i d,e.wf→fa QE (jn T n e i d)
 kZ:∀e i d,e.wf→fa QE (cK T n e i d)
 args:∀b out i d,iJ out→fa QEs (dO T n b out i d)
 table:∀out c a i d,iJ out→fa QE (fp T n out c a i d)
 field:∀c i d,fa QP (iw T n c i d)
 body:∀a i d,fa QE (iN T n a i d)
 params:∀b out i,fa QU (bY T n b out i)
 block:∀i d,fa QSs (cB T n i d)
 lO:∀out i d,jA out→fa QSs (cC T n out i d)
 stat:∀i d,fa Bq (fR T n i d)
 nU:∀a i d,fa Bq (iR T n a i d)
 nV:∀a i d,fa Bq (iS T n a i d)
 lP:∀a i d,fa Bq (gM T n a i d)
 do_:∀a i d,fa Bq (qw T n a i d)
 lQ:∀a i d,fa Bq (iC T n a i d)
 plain:∀a i d,fa Bq (gP T n a i d)
 for_:∀a i d,fa Bq (mV T n a i d)
 choice:∀a l bs i d,iJ l→qp bs→fa Bq (eN T n a l bs i d)
 j5:∀k a ns l i d,(k=6∨k=7)→iJ l→fa Bq (cD T n k a ns l i d)
theorem anr:Wfn T 0 where
 exp _ _:=⟨λv j e=>by rw[bQ.eq_1]at e;cases e⟩
 either _ _:=⟨λv j e=>by rw[gK.eq_1]at e;cases e⟩
 both _ _:=⟨λv j e=>by rw[km.eq_1]at e;cases e⟩
 test _ _:=⟨λv j e=>by rw[ko.eq_1]at e;cases e⟩
 join _ _:=⟨λv j e=>by rw[gF.eq_1]at e;cases e⟩
 sum _ _:=⟨λv j e=>by rw[nR.eq_1]at e;cases e⟩
 term _ _:=⟨λv j e=>by rw[ku.eq_1]at e;cases e⟩
 unary _ _:=⟨λv j e=>by rw[fA.eq_1]at e;cases e⟩
 post _ _:=⟨λv j e=>by rw[ja.eq_1]at e;cases e⟩
 simple _ _:=⟨λv j e=>by rw[ep.eq_1]at e;cases e⟩
 jP _ _ _ _:=⟨λv j e=>by rw[gm.eq_1]at e;cases e⟩
 oC _ _ _ _:=⟨λv j e=>by rw[jl.eq_1]at e;cases e⟩
 oD _ _ _ _:=⟨λv j e=>by rw[jm.eq_1]at e;cases e⟩
 qS _ _ _ _:=⟨λv j e=>by rw[kY.eq_1]at e;cases e⟩
 oG _ _ _ _:=⟨λv j e=>by rw[jn.eq_1]at e;cases e⟩
 kZ _ _ _ _:=⟨λv j e=>by rw[cK.eq_1]at e;cases e⟩
 args _ _ _ _ _:=⟨λv j e=>by rw[dO.eq_1]at e;cases e⟩
 table _ _ _ _ _ _:=⟨λv j e=>by rw[fp.eq_1]at e;cases e⟩
 field _ _ _:=⟨λv j e=>by rw[iw.eq_1]at e;cases e⟩
 body _ _ _:=⟨λv j e=>by rw[iN.eq_1]at e;cases e⟩
 params _ _ _:=⟨λv j e=>by rw[bY.eq_1]at e;cases e⟩
 block _ _:=⟨λv j e=>by rw[cB.eq_1]at e;cases e⟩
 lO _ _ _ _:=⟨λv j e=>by rw[cC.eq_1]at e;cases e⟩
 stat _ _:=⟨λv j e=>by rw[fR.eq_1]at e;cases e⟩
 nU _ _ _:=⟨λv j e=>by rw[iR.eq_1]at e;cases e⟩
 nV _ _ _:=⟨λv j e=>by rw[iS.eq_1]at e;cases e⟩
 lP _ _ _:=⟨λv j e=>by rw[gM.eq_1]at e;cases e⟩
 do_ _ _ _:=⟨λv j e=>by rw[qw.eq_1]at e;cases e⟩
 lQ _ _ _:=⟨λv j e=>by rw[iC.eq_1]at e;cases e⟩
 plain _ _ _:=⟨λv j e=>by rw[gP.eq_1]at e;cases e⟩
 for_ _ _ _:=⟨λv j e=>by rw[mV.eq_1]at e;cases e⟩
 choice _ _ _ _ _ _ _:=⟨λv j e=>by rw[eN.eq_1]at e;cases e⟩
 j5 _ _ _ _ _ _ _ _:=⟨λv j e=>by rw[cD.eq_1]at e;cases e⟩
theorem ans{n:Nat}(F:Wfn T n):Wfn T (n+1):=by
 refine⟨?_,?_,?_,?_,?_,?_,?_,?_,?_,?_,?_,?_,?_,?_,?_,?_,?_,?_,?_,?_,?_,?_,?_,?_,?_,?_,?_,?_,?_,?_,?_,?_,?_⟩
 all_goals intros
 all_goals first|rw[bQ.eq_2]|rw[gK.eq_2]|rw[km.eq_2]|rw[ko.eq_2]|rw[gF.eq_2]|rw[nR.eq_2]|rw[ku.eq_2]|rw[fA.eq_2]|rw[ja.eq_2]|rw[ep.eq_2]|rw[gm.eq_2]|rw[jl.eq_2]|rw[jm.eq_2]|rw[kY.eq_2]|rw[jn.eq_2]|rw[cK.eq_2]|rw[dO.eq_2]|rw[fp.eq_2]|rw[iw.eq_2]|rw[iN.eq_2]|rw[bY.eq_2]|rw[cB.eq_2]|rw[cC.eq_2]|rw[fR.eq_2]|rw[iR.eq_2]|rw[iS.eq_2]|rw[gM.eq_2]|rw[qw.eq_2]|rw[iC.eq_2]|rw[gP.eq_2]|rw[mV.eq_2]|rw[eN.eq_2]|rw[cD.eq_2]
 all_goals repeat' first|exact F.exp _ _|exact F.either _ _|exact F.both _ _|exact F.test _ _|exact F.join _ _|exact F.sum _ _|exact F.term _ _|exact F.unary _ _|exact F.post _ _|exact F.simple _ _|refine F.jP _ _ _ ?_|refine F.oC _ _ _ ?_|refine F.oD _ _ _ ?_|refine F.qS _ _ _ ?_|refine F.oG _ _ _ ?_|refine F.kZ _ _ _ ?_|refine F.args _ _ _ _ ?_|refine F.table _ _ _ _ _ ?_|exact F.field _ _ _|exact F.body _ _ _|exact F.params _ _ _|exact F.block _ _|refine F.lO _ _ _ ?_|exact F.stat _ _|exact F.nU _ _ _|exact F.nV _ _ _|exact F.lP _ _ _|exact F.do_ _ _ _|exact F.lQ _ _ _|exact F.plain _ _ _|exact F.for_ _ _ _|refine F.choice _ _ _ _ _ ?_ ?_|refine F.j5 _ _ _ _ _ _ ?_ ?_|exact fa.must|exact fa.name|exact fa.err|apply fa.ite|apply fa.bind|(rintro v j ⟨hv⟩)|refine fa.ok ⟨?_⟩|assumption|trivial|(simp only[lN,ao.wf,dq.wf,aw.wf,iJ,Pt,jA,qp,B9,Pu,Ca,and_true,true_and]at *;(first|done|(repeat' apply And.intro)<;>first|assumption|trivial|(intro q;omega)|(intros;rfl)|(intro _;decide)))|(refine⟨λ_=>Nat.le_refl _,λh=>by omega,λ_ _ _ _=>rfl,⟨?_,trivial⟩,⟨?_,trivial⟩⟩<;>assumption)
theorem Rt:∀n,Wfn T n
 |0=>anr
 |n+1=>ans (Rt n)
theorem ah5{r:List Tok ⊕ Nat}{b:List aw}(h:vw r=.inl b):jA b:=by
 cases r with
 |inr e=>cases h
 |inl ts=>
  have hsc:vw (.inl ts)=(match jx ts with|.ok b _=>.inl b|.err c i=>.inr (c,aq ts i)|.aO=>.inl []):=rfl;rw[hsc]at h;cases e:jx ts with
  |aO=>rw[e]at h;cases h;trivial
  |err c i=>rw[e]at h;cases h
  |ok b' j=>
   rw[e]at h;cases h;unfold jx at e;obtain⟨a,i,e1,e2⟩:=aS e;have:=(((Rt _).block _ _).h a i e1).h;split at e2
   ·cases e2;exact this
   ·cases e2
end
section
def cg{α:Type}(r:aj α):Prop:=∀c i,r=.err c i→c≠0
theorem cg.ok{α:Type}(a:α)(i:Nat):cg (.ok a i):=λc i h=>by cases h
theorem cg.aO{α:Type}:cg (.aO:aj α):=λc i h=>by cases h
theorem cg.e8{α:Type}(i:Nat):cg (.err 8 i:aj α):=λc i h=>by cases h;decide
theorem cg.e14{α:Type}(i:Nat):cg (.err 14 i:aj α):=λc i h=>by cases h;decide
theorem cg.bind{α β:Type}{r:aj α}{f:α→Nat→aj β}(h:cg r)(hf:∀a j,cg (f a j)):cg (r.bind f):=by
 cases r with
 |ok a i=>exact hf a i
 |err c i=>intro c' i' e;cases e;exact h c i rfl
 |aO=>exact cg.aO
theorem cg.ite{α:Type}{c:Prop}[Decidable c]{a b:aj α}(h1:cg a)(h2:cg b):cg (if c then a else b):=by
 split
 ·exact h1
 ·exact h2
variable {T:List Tok}
theorem cg.must(s:List Nat)(i:Nat):cg (aR T s i):=cg.ite (cg.ok _ _) (cg.e14 _)
theorem cg.name(i:Nat):cg (dS T i):=cg.ite (cg.ok _ _) (cg.e14 _)
structure Nez(T:List Tok)(n:Nat):Prop where
 exp:∀i d,cg (bQ T n i d)
 either:∀i d,cg (gK T n i d)
 jP:∀e i d,cg (gm T n e i d)
 both:∀i d,cg (km T n i d)
 oC:∀e i d,cg (jl T n e i d)
 test:∀i d,cg (ko T n i d)
 oD:∀e i d,cg (jm T n e i d)
 join:∀i d,cg (gF T n i d)
 sum:∀i d,cg (nR T n i d)
 qS:∀e i d,cg (kY T n e i d)
 term:∀i d,cg (ku T n i d)
 oG:∀e i d,cg (jn T n e i d)
 unary:∀i d,cg (fA T n i d)
 post:∀i d,cg (ja T n i d)
 kZ:∀e i d,cg (cK T n e i d)
 args:∀b out i d,cg (dO T n b out i d)
 simple:∀i d,cg (ep T n i d)
 table:∀out c a i d,cg (fp T n out c a i d)
 field:∀c i d,cg (iw T n c i d)
 body:∀a i d,cg (iN T n a i d)
 params:∀b out i,cg (bY T n b out i)
 block:∀i d,cg (cB T n i d)
 lO:∀out i d,cg (cC T n out i d)
 stat:∀i d,cg (fR T n i d)
 nU:∀a i d,cg (iR T n a i d)
 nV:∀a i d,cg (iS T n a i d)
 lP:∀a i d,cg (gM T n a i d)
 do_:∀a i d,cg (qw T n a i d)
 lQ:∀a i d,cg (iC T n a i d)
 plain:∀a i d,cg (gP T n a i d)
 choice:∀a l bs i d,cg (eN T n a l bs i d)
 for_:∀a i d,cg (mV T n a i d)
 j5:∀k a ns l i d,cg (cD T n k a ns l i d)
theorem ant:Nez T 0 where
 exp _ _:=by rw[bQ.eq_1];exact cg.aO
 either _ _:=by rw[gK.eq_1];exact cg.aO
 jP _ _ _:=by rw[gm.eq_1];exact cg.aO
 both _ _:=by rw[km.eq_1];exact cg.aO
 oC _ _ _:=by rw[jl.eq_1];exact cg.aO
 test _ _:=by rw[ko.eq_1];exact cg.aO
 oD _ _ _:=by rw[jm.eq_1];exact cg.aO
 join _ _:=by rw[gF.eq_1];exact cg.aO
 sum _ _:=by rw[nR.eq_1];exact cg.aO
 qS _ _ _:=by rw[kY.eq_1];exact cg.aO
 term _ _:=by rw[ku.eq_1];exact cg.aO
 oG _ _ _:=by rw[jn.eq_1];exact cg.aO
 unary _ _:=by rw[fA.eq_1];exact cg.aO
 post _ _:=by rw[ja.eq_1];exact cg.aO
 kZ _ _ _:=by rw[cK.eq_1];exact cg.aO
 args _ _ _ _:=by rw[dO.eq_1];exact cg.aO
 simple _ _:=by rw[ep.eq_1];exact cg.aO
 table _ _ _ _ _:=by rw[fp.eq_1];exact cg.aO
 field _ _ _:=by rw[iw.eq_1];exact cg.aO
 body _ _ _:=by rw[iN.eq_1];exact cg.aO
 params _ _ _:=by rw[bY.eq_1];exact cg.aO
 block _ _:=by rw[cB.eq_1];exact cg.aO
 lO _ _ _:=by rw[cC.eq_1];exact cg.aO
 stat _ _:=by rw[fR.eq_1];exact cg.aO
 nU _ _ _:=by rw[iR.eq_1];exact cg.aO
 nV _ _ _:=by rw[iS.eq_1];exact cg.aO
 lP _ _ _:=by rw[gM.eq_1];exact cg.aO
 do_ _ _ _:=by rw[qw.eq_1];exact cg.aO
 lQ _ _ _:=by rw[iC.eq_1];exact cg.aO
 plain _ _ _:=by rw[gP.eq_1];exact cg.aO
 choice _ _ _ _ _:=by rw[eN.eq_1];exact cg.aO
 for_ _ _ _:=by rw[mV.eq_1];exact cg.aO
 j5 _ _ _ _ _ _:=by rw[cD.eq_1];exact cg.aO
theorem anu{n:Nat}(F:Nez T n):Nez T (n+1):=by
 refine⟨?_,?_,?_,?_,?_,?_,?_,?_,?_,?_,?_,?_,?_,?_,?_,?_,?_,?_,?_,?_,?_,?_,?_,?_,?_,?_,?_,?_,?_,?_,?_,?_,?_⟩
 all_goals intros
 all_goals first|rw[bQ.eq_2]|rw[gK.eq_2]|rw[gm.eq_2]|rw[km.eq_2]|rw[jl.eq_2]|rw[ko.eq_2]|rw[jm.eq_2]|rw[gF.eq_2]|rw[nR.eq_2]|rw[kY.eq_2]|rw[ku.eq_2]|rw[jn.eq_2]|rw[fA.eq_2]|rw[ja.eq_2]|rw[cK.eq_2]|rw[dO.eq_2]|rw[ep.eq_2]|rw[fp.eq_2]|rw[iw.eq_2]|rw[iN.eq_2]|rw[bY.eq_2]|rw[cB.eq_2]|rw[cC.eq_2]|rw[fR.eq_2]|rw[iR.eq_2]|rw[iS.eq_2]|rw[gM.eq_2]|rw[qw.eq_2]|rw[iC.eq_2]|rw[gP.eq_2]|rw[eN.eq_2]|rw[mV.eq_2]|rw[cD.eq_2]
 all_goals repeat' first|exact F.exp _ _|exact F.either _ _|exact F.jP _ _ _|exact F.both _ _|exact F.oC _ _ _|exact F.test _ _|exact F.oD _ _ _|exact F.join _ _|exact F.sum _ _|exact F.qS _ _ _|exact F.term _ _|exact F.oG _ _ _|exact F.unary _ _|exact F.post _ _|exact F.kZ _ _ _|exact F.args _ _ _ _|exact F.simple _ _|exact F.table _ _ _ _ _|exact F.field _ _ _|exact F.body _ _ _|exact F.params _ _ _|exact F.block _ _|exact F.lO _ _ _|exact F.stat _ _|exact F.nU _ _ _|exact F.nV _ _ _|exact F.lP _ _ _|exact F.do_ _ _ _|exact F.lQ _ _ _|exact F.plain _ _ _|exact F.choice _ _ _ _ _|exact F.for_ _ _ _|exact F.j5 _ _ _ _ _ _|exact cg.must _ _|exact cg.name _|exact cg.ok _ _|exact cg.e8 _|exact cg.e14 _|apply cg.ite|refine cg.bind ?_ λ_ _=>?_
theorem Ru:∀n,Nez T n
 |0=>ant
 |n+1=>anu (Ru n)
theorem ah6{r:List Tok ⊕ Nat}{c p:Nat}(h:vw r=.inr (c,p)):c≠0:=by
 cases r with
 |inr e=>cases h;decide
 |inl ts=>
  have hsc:vw (.inl ts)=(match jx ts with|.ok b _=>.inl b|.err c i=>.inr (c,aq ts i)|.aO=>.inl []):=rfl;rw[hsc]at h;cases e:jx ts with
  |ok b j=>rw[e]at h;cases h
  |aO=>rw[e]at h;cases h
  |err c' i=>
   rw[e]at h;cases h;unfold jx at e;have:cg ((cB ts (64*ts.length+64) 0 0).bind λb j=>if cz ts j=0 then .ok b j else .err 14 j):=cg.bind ((Ru _).block _ _) λ_ _=>cg.ite (cg.ok _ _) (cg.e14 _);exact this c i e
end
end Go.X
