/- A machine over values and memory of its own, and that what it does the model does: a tool of this claim. No condition: definitions and lemmas. -/
import Derived.Test.YtcdiojlpmgfmeaaGreatDoorXc
import Derived.Laws.StandIn
import Derived.Laws.IdiomStrings
import Derived.Laws.Externs
set_option linter.unusedVariables false
set_option linter.unusedSimpArgs false
namespace Go.X
noncomputable section
structure OpC (D d : Nat) where
  run : (V → Hs D → Prop) → ETr d → Hs D → Prop
structure OptC (d : Nat) where
  run : Nat → (Nat → Prop) → ETr d → Prop
def N3' {D : Nat} : (d : Nat) → CT d → Nat → Prop := fun _ _ _ => False
def C3 : (d : Nat) → CT d → Nat → Prop := fun _ _ _ => False
def C4 : (d : Nat) → CT d → Nat → Nat → Prop := fun _ _ _ _ => False
def sSetO (D b : Nat) (o : AObj) (hs : Hs D) (k : Hs D → Prop) : Prop := hs fun ht hn => (acc SO D b).mod (fun _ ks => ks fun _ _ O => O o) (fun ht' => k fun s => s ht' hn) ht
def sNext (D : Nat) (v : V) (hs : Hs D) (k : V → Hs D → Prop) : Prop :=
  v False False N1 N1 N2 N2 (fun b o => bT (Nat.beq o 0) (hs fun ht _ => (acc SO D b).get (fun so => so C3 C4 (fun ob => onIter ob fun n x p =>
    bI (Nat.ble (Nat.succ p) n) (forceN (byteAt x p) fun c => bT (Nat.ble c 127) (forceN (Nat.succ p) fun p' => sSetO D b (.iter n x p') hs fun hs' => k (fun _ _ _ _ _ _ _ _ _ h _ => h [.bool true, .int 0 (.ofNat p), .int 2 (.ofNat c)]) hs')) (k (fun _ _ _ _ _ _ _ _ _ h _ => h [.bool false]) hs))) ht)) N6 NL NL NO
/-- Maps. -/
def onMapO (o : AObj) (k : List AEnt → Nat → Prop) : Prop := match o with | .map es cl => k es cl | _ => False
def sMap (D b : Nat) (hs : Hs D) (k : List AEnt → Nat → Prop) : Prop := hs fun ht _ => (acc SO D b).get (fun so => so C3 C4 (fun ob => onMapO ob k)) ht
def sEnts (D : Nat) (a : AV) (hs : Hs D) (k : List AEnt → Prop) : Prop := match a with | .nmap => k [] | .map b => sMap D b hs fun es _ => k es | _ => False
def fE (l : List AEnt) : (List AEnt → Prop) → Prop := @List.rec AEnt (fun _ => (List AEnt → Prop) → Prop) (fun k => k []) (fun e _ ih k => ih fun l => k (e :: l)) l
def foundK (P : Program) (kt : TypeId) (key : AV) (es : List AEnt) (k : Option Nat → Prop) : Prop := match findA P kt key es with | some r => k r | none => False
def sUp (P : Program) (D : Nat) (kt : TypeId) (m key x : AV) (h : Hs D) (k : Hs D → Prop) : Prop := match m with
  | .map b => sMap D b h fun es cl => foundK P kt key es fun r => fE (putE es cl key x r) fun es' => forceN (putCl cl r) fun cl' => sSetO D b (.map es' cl') h k
  | _ => False
def sDel (P : Program) (D : Nat) (kt : TypeId) (m key : AV) (h : Hs D) (k : Hs D → Prop) : Prop := match m with
  | .map b => sMap D b h fun es cl => foundK P kt key es fun r => fE (delE es r) fun es' => sSetO D b (.map es' cl) h k
  | _ => False
variable (P : Program) (G D d : Nat)
def optC (x : Option Operand) : OptC d := match x with | none => ⟨fun n k _ => k n⟩ | some x => ⟨fun _ k e => (opdC G d x).get (fun v => shN v k) e⟩
def failO : OpC D d := ⟨fun _ _ _ => False⟩
def ifO (b : Bool) (c : OpC D d) : OpC D d := @Bool.rec (fun _ => OpC D d) ⟨fun _ _ _ => False⟩ c b
/-- Fields held against each other. -/
def eqOneV (t : TypeId) (x y : AV) (h : Hs D) (k : Bool → Prop) : Prop := match P.underlying t with
  | some (.pointer el) => (match P.info? el with | some i => bT (Nat.ble 1 i.size) (ptrEq D true (enc x) (enc y) h fun v => dec v fun v => onB v k) | none => False)
  | _ => eqOne P t x y emptyH k
def eqFsV (l1 l2 : List AV) (h : Hs D) : List Field → (Bool → Prop) → Prop
  | [], k => k true
  | f :: fs, k => bT (f.name != "_") (nthK l1 f.offset fun x => nthK l2 f.offset fun y => eqOneV P D f.type x y h fun e => eqFsV l1 l2 h fs fun e2 => k (e && e2))
def binC (op : BinOp) (t : TypeId) (x y : Operand) (ty : TypeId) : OpC D d :=
  match P.underlying t with
  | some (.int q) => ⟨fun k e h => (opdC G d x).get (fun a => (opdC G d y).get (fun b => (intC (kn q) op).run a b fun v => k v h) e) e⟩
  | some .string => ⟨fun k e h => (opdC G d x).get (fun a => (opdC G d y).get (fun b => (strC op).run a b fun v => k v h) e) e⟩
  | some (.pointer el) => (match P.info? el with
    | some i => ifO D d (Nat.ble 1 i.size) (match op with
      | .eql => ⟨fun k e h => (opdC G d x).get (fun a => (opdC G d y).get (fun b => ptrEq D true a b h fun v => k v h) e) e⟩
      | .neq => ⟨fun k e h => (opdC G d x).get (fun a => (opdC G d y).get (fun b => ptrEq D false a b h fun v => k v h) e) e⟩
      | _ => failO D d)
    | none => failO D d)
  | some (.struct fs) => ifO D d (!(P.stoodInHeld t) && !(P.eqGuardType P.depth t)) (match op with
      | .eql => ⟨fun k e h => (opdC G d x).get (fun a => (opdC G d y).get (fun b => a False False N1 N1 N2 N2 N2 N6 (fun l1 => b False False N1 N1 N2 N2 N2 N6 (fun l2 => eqFsV P D l1 l2 h fs.toList fun z => k (enc (.bool z)) h) NL NO) NL NO) e) e⟩
      | .neq => ⟨fun k e h => (opdC G d x).get (fun a => (opdC G d y).get (fun b => a False False N1 N1 N2 N2 N2 N6 (fun l1 => b False False N1 N1 N2 N2 N2 N6 (fun l2 => eqFsV P D l1 l2 h fs.toList fun z => k (enc (.bool (!z))) h) NL NO) NL NO) e) e⟩
      | _ => failO D d)
  | some _ => ⟨fun k e h => (opdC G d x).get (fun a => (opdC G d y).get (fun b => g2 (fun a b k => xBin P op t x y a b emptyH k) a b fun v => k v h) e) e⟩
  | none => failO D d
def onTxt (a : AV) (k : Nat → Prop) : Prop := match a with | .txt n => k n | _ => False
def lenC (t : TypeId) (x : Operand) (ty : TypeId) : OpC D d :=
  match P.underlying t with
  | some .string => ⟨fun k e h => (opdC G d x).get (fun a => a False False N1 N1 N2 (fun n _ => k (fun _ _ h _ _ _ _ _ _ _ _ => h n) h) N2 N6 NL NL (fun y => onTxt y fun n => k (fun _ _ _ _ _ _ _ _ _ _ h => h (.rng (.ofNat 0) (.ofNat n))) h)) e⟩
  | some (.slice _) => ⟨fun k e h => (opdC G d x).get (fun a => sLenV a fun n => k (fun _ _ h _ _ _ _ _ _ _ _ => h n) h) e⟩
  | some (.array n _) => ⟨fun k _ h => k (fun _ _ h _ _ _ _ _ _ _ _ => h n) h⟩
  | some (.map _ _) => ⟨fun k e h => (opdC G d x).get (fun a => dec a fun a => sEnts D a h fun es => forceN es.length fun n => k (fun _ _ h _ _ _ _ _ _ _ _ => h n) h) e⟩
  | _ => failO D d
def capV (a : V) (k : Nat → Prop) : Prop := a False False N1 N1 N2 N2 N2 (fun _ _ _ c _ x => bT x (k c)) NL NL (fun a => onNs a (k 0))
def capC (t : TypeId) (x : Operand) : OpC D d :=
  match P.underlying t with
  | some (.slice _) => ⟨fun k e h => (opdC G d x).get (fun a => capV a fun n => k (fun _ _ h _ _ _ _ _ _ _ _ => h n) h) e⟩
  | _ => failO D d
def builtC (b : Builtin) (ty : TypeId) (ts : Array TypeId) (args : Array Operand) : OpC D d :=
  match b, ts.toList, args.toList with
  | .len, t :: _, [x] => lenC P G D d t x ty
  | .cap, t :: _, [x] => capC P G D d t x
  | .append, [t, u], [s, x] => (match P.underlying t, P.underlying u with
    | some (.slice el), some (.slice _) => (match P.info? el, zeroCells P el with
      | some i, some z => ifO D d (Nat.beq z.length i.size && Nat.ble 1 i.bytes) ⟨fun k e h => (opdC G d s).get (fun a => (opdC G d x).get (fun b => sApp D i.size i.bytes a b h k) e) e⟩
      | _, _ => failO D d)
    | some (.slice el), some (.int _) => (match P.info? el, zeroCells P el with
      | some i, some z => ifO D d (Nat.beq z.length i.size && Nat.ble 1 i.bytes) ⟨fun k e h => (opdC G d s).get (fun a => (opdC G d x).get (fun b => sAppZ D i.size i.bytes z a b h k) e) e⟩
      | _, _ => failO D d)
    | some (.slice el), some .string => (match P.info? el, zeroCells P el with
      | some i, some z => ifO D d (Nat.beq z.length i.size && Nat.ble 1 i.bytes) ⟨fun k e h => (opdC G d s).get (fun a => (opdC G d x).get (fun b => sAppStr D i.size i.bytes a b h k) e) e⟩
      | _, _ => failO D d)
    | _, _ => failO D d)
  | .copy, [t, _], [x, s] => (match P.underlying t with
    | some (.slice el) => (match P.info? el with
      | some i => ifO D d (Nat.ble 1 i.size) ⟨fun k e h => (opdC G d x).get (fun a => (opdC G d s).get (fun b => sCopy D i.size a b h fun v h => k v h) e) e⟩
      | none => failO D d)
    | _ => failO D d)
  | .max, _, x :: l => ⟨fun k e h => (opdC G d x).get (fun a => dec a fun a => (decLC G d l).run (fun l => foldK pMax2 l a fun v => k (encB v).v h) e) e⟩
  | .min, _, x :: l => ⟨fun k e h => (opdC G d x).get (fun a => dec a fun a => (decLC G d l).run (fun l => foldK pMin2 l a fun v => k (encB v).v h) e) e⟩
  | .delete, t :: _, [m, x] => (match P.underlying t with
    | some (.map kt _) => ifO D d (lawB P kt) ⟨fun k e h => (opdC G d m).get (fun m => (opdC G d x).get (fun x => dec m fun m => dec x fun x => sDel P D kt m x h fun h => k (fun _ _ _ _ _ _ _ _ _ h _ => h []) h) e) e⟩
    | _ => failO D d)
  | _, _, _ => failO D d
def lookC (t : TypeId) (x i : Operand) (ok : Bool) : OpC D d :=
  match P.underlying t with
  | some (.map kt et) => (match P.info? et with
    | some inf => (match inf.zero with
      | some z => ifO D d (lawB P kt) ⟨fun k e h => (opdC G d x).get (fun m => (opdC G d i).get (fun key => dec m fun m => dec key fun key => sEnts D m h fun es => foundK P kt key es fun r => k (encB (lookV ok (absV z) es r)).v h) e) e⟩
      | none => failO D d)
    | none => failO D d)
  | _ => failO D d
def mapUpC (t : TypeId) (m key x : Operand) : OpC D d :=
  match P.underlying t with
  | some (.map kt _) => ifO D d (lawB P kt) ⟨fun k e h => (opdC G d m).get (fun m => (opdC G d key).get (fun key => (opdC G d x).get (fun x => dec m fun m => dec key fun key => dec x fun x => sUp P D kt m key x h fun h => k (fun _ _ _ _ _ _ _ _ _ h _ => h []) h) e) e) e⟩
  | _ => failO D d
def mkMapC (r : Option Operand) : OpC D d :=
  match r with
  | none => ⟨fun k _ h => sNew D (fun _ _ O => O (.map [] 0)) h fun b h => k (fun _ _ _ _ _ _ _ _ _ _ h => h (.map b)) h⟩
  | some _ => failO D d
def sliceC (t : TypeId) (x : Operand) (lo hi mx : Option Operand) : OpC D d :=
  match P.underlying t with
  | some .string => ifO D d mx.isNone ⟨fun k e h => (opdC G d x).get (fun a => a False False N1 N1 N2 (fun n y => (optC G d hi).run n (fun h1 => (optC G d lo).run 0 (fun l => bT (Nat.ble l h1) (bT (Nat.ble h1 n) (forceN (Nat.sub h1 l) fun m => forceN (subT y l m) fun z => k (fun _ _ _ _ _ h _ _ _ _ _ => h m z) h))) e) e) N2 N6 NL NL NO) e⟩
  | some (.slice el) => (match P.info? el with
    | some i => ifO D d (mx.isNone || hi.isSome) ⟨fun k e h => (opdC G d x).get (fun a => a False False N1 N1 N2 N2 N2
        (fun b o len cap sz' ex => bT (Nat.beq i.size sz') ((optC G d mx).run cap (fun m => (optC G d hi).run len (fun h1 => (optC G d lo).run 0 (fun l =>
          bT (Nat.ble l h1) (bT (Nat.ble h1 m) (bT (Nat.ble m cap) (forceN (Nat.add o (Nat.mul l i.size)) fun o' => forceN (Nat.sub h1 l) fun n => forceN (Nat.sub m l) fun c => bK (ex || mx.isSome) fun ex' => k (fun _ _ _ _ _ _ _ h _ _ _ => h b o' n c i.size ex') h)))) e) e) e)) NL NL
        (fun a => onNs a ((optC G d lo).run 0 (fun l => (optC G d hi).run 0 (fun h1 => (optC G d mx).run 0 (fun m => bT (Nat.beq l 0) (bT (Nat.beq h1 0) (bT (Nat.beq m 0) (k (fun _ _ _ _ _ _ _ _ _ _ h => h .nslice) h)))) e) e) e))) e⟩
    | none => failO D d)
  | some (.array n el) => (match P.info? el with
    | some i => ifO D d (mx.isNone || hi.isSome) ⟨fun k e h => (opdC G d x).get (fun a => a False False N1 N1 N2 N2
        (fun b o => (optC G d mx).run n (fun m => (optC G d hi).run n (fun h1 => (optC G d lo).run 0 (fun l =>
          bT (Nat.ble l h1) (bT (Nat.ble h1 m) (bT (Nat.ble m n) (forceN (Nat.add o (Nat.mul l i.size)) fun o' => forceN (Nat.sub h1 l) fun n => forceN (Nat.sub m l) fun c => k (fun _ _ _ _ _ _ _ h _ _ _ => h b o' n c i.size true) h)))) e) e) e) N6 NL NL NO) e⟩
    | none => failO D d)
  | _ => failO D d
def fldC (t : TypeId) (x : Operand) (i : Nat) : OpC D d :=
  match P.underlying t with
  | some (.struct fs) => (match fs[i]? with
    | some fd => (match P.info? fd.type with
      | some inf => ifO D d (Nat.ble 1 inf.size) (@Nat.rec (fun _ => OpC D d) ⟨fun k e h => (opdC G d x).get (fun a => a False False N1 N1 N2 N2 (fun b o => k (fun _ _ _ _ _ _ h _ _ _ _ => h b o) h) N6 NL NL NO) e⟩
          (fun n _ => ⟨fun k e h => (opdC G d x).get (fun a => a False False N1 N1 N2 N2 (fun b o => k (fun _ _ _ _ _ _ h _ _ _ _ => h b (Nat.add o (Nat.succ n))) h) N6 NL NL NO) e⟩) fd.offset)
      | none => failO D d)
    | none => failO D d)
  | _ => failO D d
def idxAC (t : TypeId) (x i : Operand) : OpC D d :=
  match P.underlying t with
  | some (.slice el) => (match P.info? el with
    | some inf => ⟨fun k e h => (opdC G d x).get (fun a => (opdC G d i).get (fun j => a False False N1 N1 N2 N2 N2 (fun b o len _ sz' _ => shN j fun j => bT (Nat.ble (Nat.succ j) len) (bT (Nat.beq inf.size sz') (k (fun _ _ _ _ _ _ h _ _ _ _ => h b (Nat.add o (Nat.mul j inf.size))) h))) NL NL NO) e) e⟩
    | none => failO D d)
  | some (.array n el) => (match P.info? el with
    | some inf => ⟨fun k e h => (opdC G d x).get (fun a => (opdC G d i).get (fun j => a False False N1 N1 N2 N2 (fun b o => shN j fun j => bT (Nat.ble (Nat.succ j) n) (k (fun _ _ _ _ _ _ h _ _ _ _ => h b (Nat.add o (Nat.mul j inf.size))) h)) N6 NL NL NO) e) e⟩
    | none => failO D d)
  | _ => failO D d
def idxC (t : TypeId) (x i : Operand) (ty : TypeId) : OpC D d :=
  match P.underlying t with
  | some .string => ⟨fun k e h => (opdC G d x).get (fun a => (opdC G d i).get (fun j => sIdxV a j fun v => k v h) e) e⟩
  | some _ => ⟨fun k e h => (opdC G d x).get (fun a => (opdC G d i).get (fun j => g2 (fun a b k => xIndex P t a b k) a j fun v => k v h) e) e⟩
  | none => failO D d
def fieldC (t : TypeId) (x : Operand) (i : Nat) (ty : TypeId) : OpC D d :=
  match P.underlying t with
  | some (.struct fs) => (match fs[i]? with
    | some fd => (match P.underlying fd.type, P.info? fd.type with
      | some _, some inf => @Bool.rec (fun _ => OpC D d)
          ⟨fun k e h => (opdC G d x).get (fun a => a False False N1 N1 N2 N2 N2 N6 (fun l => nthK l fd.offset fun r => k (encB r).v h) NL NO) e⟩
          ⟨fun k e h => (opdC G d x).get (fun a => a False False N1 N1 N2 N2 N2 N6 (fun l => subK inf.size fd.offset l fun r => k (fun _ _ _ _ _ _ _ _ h _ _ => h r) h) NL NO) e⟩ (aggT P fd.type)
      | _, _ => failO D d)
    | none => failO D d)
  | _ => failO D d
def loadC (t : TypeId) (x : Operand) (ty : TypeId) : OpC D d :=
  match P.underlying t, P.info? t with
  | some _, some i => @Bool.rec (fun _ => OpC D d)
      ⟨fun k e h => (opdC G d x).get (fun a => sLoad D a h fun v => k v h) e⟩
      ⟨fun k e h => (opdC G d x).get (fun a => sLoadN D i.size a h fun v => k v h) e⟩ (aggT P t)
  | _, _ => failO D d
def storeC (t : TypeId) (x y : Operand) : OpC D d :=
  match P.info? t with
  | some i => @Bool.rec (fun _ => OpC D d)
      ⟨fun k e h => (opdC G d x).get (fun a => (opdC G d y).get (fun b => sStoreN D i.size a b h fun h => k (fun _ _ _ _ _ _ _ _ _ h _ => h []) h) e) e⟩
      ⟨fun k e h => (opdC G d x).get (fun a => (opdC G d y).get (fun b => sStore1 D a b h fun h => k (fun _ _ _ _ _ _ _ _ _ h _ => h []) h) e) e⟩ (Nat.beq i.size 1 && !(aggT P t))
  | none => failO D d
def allocC (t : TypeId) : OpC D d :=
  match P.info? t with
  | some i => (match i.zero with
    | some z => (match absV z with
      | .tup _ => failO D d
      | .pois => failO D d
      | a => ifO D d (a.cells.all AV.one) ⟨fun k _ h => sZero D a.cells a.cells.length h fun b h => k (fun _ _ _ _ _ _ h _ _ _ _ => h b 0) h⟩)
    | none => failO D d)
  | none => failO D d
def buildC (t : TypeId) (ps : List (Nat × Operand)) : OpC D d :=
  match P.underlying t, zeroCells P t with
  | some (.struct fs), some z => ifO D d (fieldsOk P fs) (match offsOf (fieldPlaces P fs) z.length ps with
    | some l => @Bool.rec (fun _ => OpC D d) ⟨fun k e h => (decLC G d (ps.map (·.2))).run (fun vs => buildK (fieldPlaces P fs) z.length ((ps.map (·.1)).zip vs) z fun cs => k (fun _ _ _ _ _ _ _ _ h _ _ => h cs) h) e⟩
        ⟨fun k e h => (tmplC G d (tset (z.map Sum.inl) l)).run (fun cs => k (fun _ _ _ _ _ _ _ _ h _ _ => h cs) h) e⟩ (nodupB (l.map (·.1)))
    | none => ⟨fun k e h => (decLC G d (ps.map (·.2))).run (fun vs => buildK (fieldPlaces P fs) z.length ((ps.map (·.1)).zip vs) z fun cs => k (fun _ _ _ _ _ _ _ _ h _ _ => h cs) h) e⟩)
  | some (.array _ el), some z => (match P.info? el with
    | some i => ⟨fun k e h => (decLC G d (ps.map (·.2))).run (fun vs => buildK (elemPlaces i.size (!(aggT P el))) z.length ((ps.map (·.1)).zip vs) z fun cs => k (fun _ _ _ _ _ _ _ _ h _ _ => h cs) h) e⟩
    | none => failO D d)
  | _, _ => failO D d
def bslC (t : TypeId) (len : Nat) (ps : List (Nat × Operand)) : OpC D d :=
  match P.underlying t with
  | some (.slice el) => (match P.info? el, zeroCells P el with
    | some i, some z => ifO D d (Nat.ble 1 i.size && (Nat.beq z.length i.size && Nat.ble (Nat.mul len i.size) 16777216)) (match offsOf (elemPlaces i.size (!(aggT P el))) (repL len z).length ps with
      | some l => @Bool.rec (fun _ => OpC D d) ⟨fun k e h => (decLC G d (ps.map (·.2))).run (fun vs => buildK (elemPlaces i.size (!(aggT P el))) (Nat.mul len i.size) ((ps.map (·.1)).zip vs) (repL len z) fun cs => sNewL D cs h fun b m h => bT (Nat.beq m (Nat.mul len i.size)) (k (fun _ _ _ _ _ _ _ h _ _ _ => h b 0 len len i.size true) h)) e⟩
          ⟨fun k e h => (tmplC G d (tset ((repL len z).map Sum.inl) l)).run (fun cs => sNewL D cs h fun b _ h => k (fun _ _ _ _ _ _ _ h _ _ _ => h b 0 len len i.size true) h) e⟩ (nodupB (l.map (·.1)))
      | none => ⟨fun k e h => (decLC G d (ps.map (·.2))).run (fun vs => buildK (elemPlaces i.size (!(aggT P el))) (Nat.mul len i.size) ((ps.map (·.1)).zip vs) (repL len z) fun cs => sNewL D cs h fun b m h => bT (Nat.beq m (Nat.mul len i.size)) (k (fun _ _ _ _ _ _ _ h _ _ _ => h b 0 len len i.size true) h)) e⟩)
    | _, _ => failO D d)
  | _ => failO D d
def mkSC (t : TypeId) (x y : Operand) : OpC D d :=
  match P.underlying t with
  | some (.slice el) => (match P.info? el, zeroCells P el with
    | some i, some z => ifO D d (Nat.ble 1 i.size && (Nat.beq z.length i.size && z.all AV.one)) ⟨fun k e h => (opdC G d x).get (fun a => (opdC G d y).get (fun b => shN a fun n => shN b fun m =>
        bT (Nat.ble n m) (bT (Nat.ble (Nat.mul m i.bytes) 1099511627776) (bT (Nat.ble m 1099511627776) (forceN (Nat.mul m i.size) fun q => sZero D z q h fun b h => k (fun _ _ _ _ _ _ _ h _ _ _ => h b 0 n m i.size true) h)))) e) e⟩
    | _, _ => failO D d)
  | _ => failO D d
def convC (s t : TypeId) (x : Operand) (ty : TypeId) : OpC D d :=
  match P.underlying s, P.underlying t with
  | some (.int _), some (.int q) => ⟨fun k e h => (opdC G d x).get (fun a => (cvC (kn q)).run a fun v => k v h) e⟩
  | some .string, some .string => ⟨fun k e h => (opdC G d x).get (fun a => a False False N1 N1 N2 (fun _ _ => k a h) N2 N6 NL NL NO) e⟩
  | some (.slice el), some .string => (match P.underlying el with
    | some (.int .u8) => ⟨fun k e h => (opdC G d x).get (fun a => sTextOf D a h fun v => k v h) e⟩
    | _ => failO D d)
  | _, _ => failO D d
def unC (op : UnOp) (t : TypeId) (x : Operand) (ty : TypeId) : OpC D d :=
  match op with
  | .not => ⟨fun k e h => (opdC G d x).get (fun a => a (k (fun _ h _ _ _ _ _ _ _ _ _ => h) h) (k (fun h _ _ _ _ _ _ _ _ _ _ => h) h) N1 N1 N2 N2 N2 N6 NL NL NO) e⟩
  | op => ⟨fun k e h => (opdC G d x).get (fun a => g1 (xUn P op t) a fun v => k v h) e⟩
/-- One operation that calls nothing. -/
def opC (o : Oper) : OpC D d :=
  match o.op with
  | .move x => ⟨fun k e h => (opdC G d x).get (fun v => k v h) e⟩
  | .assign x => ⟨fun k e h => (opdC G d x).get (fun v => k v h) e⟩
  | .pick c a b => ⟨fun k e h => (opdC G d c).get (fun v => v ((opdC G d a).get (fun v => k v h) e) ((opdC G d b).get (fun v => k v h) e) N1 N1 N2 N2 N2 N6 NL NL NO) e⟩
  | .alloc t => allocC P D d t
  | .box _ x => ⟨fun k e h => (opdC G d x).get (fun v => sBox D v h k) e⟩
  | .build t ps => buildC P G D d t ps.toList
  | .buildSlice t n ps => bslC P G D d t n ps.toList
  | .load t a => loadC P G D d t a o.type
  | .store t a x => storeC P G D d t a x
  | .nilCheck x => ⟨fun k e h => (opdC G d x).get (fun v => v False False N1 N1 N2 N2 (fun _ _ => k v h) N6 NL NL (fun a => pNil a (k v h))) e⟩
  | .binOp op t x y _ => binC P G D d op t x y o.type
  | .unOp op t x => unC P G D d op t x o.type
  | .convert s t x => convC P G D d s t x o.type
  | .makeInterface t x => ifO D d (notIface P t) ⟨fun k e h => (opdC G d x).get (fun v => dec v fun a => k (fun _ _ _ _ _ _ _ _ _ _ h => h (.iface t a)) h) e⟩
  | .makeFunc fn a b => (match fn with | .func g => ⟨fun k e h => (decLC G d a.toList).run (fun l => (decLC G d b.toList).run (fun m => k (fun _ _ _ _ _ _ _ _ _ _ h => h (.func g l m)) h) e) e⟩ | _ => failO D d)
  | .makeSlice t l c => mkSC P G D d t l c
  | .slice t x lo hi mx => sliceC P G D d t x lo hi mx
  | .fieldAddr t x i => fldC P G D d t x i
  | .field t x i => fieldC P G D d t x i o.type
  | .indexAddr t x i => idxAC P G D d t x i
  | .index t x i => idxC P G D d t x i o.type
  | .extract x i => ⟨fun k e h => (opdC G d x).get (fun v => v False False N1 N1 N2 N2 N2 N6 NL (fun l => nthK l i fun r => k (encB r).v h) NO) e⟩
  | .range t x => (match P.underlying t with | some .string => ⟨fun k e h => (opdC G d x).get (fun v => v False False N1 N1 N2 (fun n y => sNew D (fun _ _ O => O (.iter n y 0)) h fun b h => k (fun _ _ _ _ _ _ h _ _ _ _ => h b 0) h) N2 N6 NL NL NO) e⟩ | _ => failO D d)
  | .next it s => ifO D d s ⟨fun k e h => (opdC G d it).get (fun v => sNext D v h k) e⟩
  | .typeAssert x _ u ok => ⟨fun k e h => (opdC G d x).get (fun a => g1 (xAssert P u ok) a fun v => k v h) e⟩
  | .makeMap _ r => mkMapC D d r
  | .lookup t x i ok => lookC P G D d t x i ok
  | .mapUpdate t m key x => mapUpC P G D d t m key x
  | .insert t m key x => mapUpC P G D d t m key x
  | .call c => (match c.callee with | .builtin b => builtC P G D d b o.type c.argTypes c.args | _ => failO D d)
  | _ => failO D d
end

/-! ### They do what the abstract ones do -/
section
variable {P : Program} {G D d N : Nat} {e : ETr d} {env : List AV} {hs : Hs D} {H : AH}
theorem ifO_out {b : Bool} {c : OpC D d} {k : V → Hs D → Prop} (h : (ifO D d b c).run k e hs) : b = true ∧ c.run k e hs := by cases b; exact (show False from h).elim; exact ⟨rfl, h⟩
theorem optC_out (he : RepE N d e env) {x : Option Operand} {n : Nat} {k : Nat → Prop} (h : (optC G d x).run n k e) : natOr (x.map (aev G env)) n k := by
  cases x with
  | none => exact h
  | some x =>
    obtain ⟨c, m, e1, h⟩ := shN_out (opdC_out he h)
    show onNat (aev G env x) fun _ n => k n
    rw [e1]; exact h
theorem natOr_mono {x : Option AV} {n : Nat} {k k' : Nat → Prop} (hk : ∀ n, k n → k' n) (h : natOr x n k) : natOr x n k' := by
  cases x with
  | none => exact hk _ h
  | some a => obtain ⟨c, m, e, h⟩ := onNat_out h; subst e; exact hk _ h

theorem encA {a : AV} {A : List AV → Prop} (h : enc a False False N1 N1 N2 N2 N2 N6 A NL NO) : ∃ l, a = .agg l ∧ A l := by
  have g := enc_cases h
  rcases g with ⟨_, g⟩ | ⟨_, g⟩ | ⟨n, _, g⟩ | ⟨n, _, g⟩ | ⟨c, n, _, _, g⟩ | ⟨n, x, _, g⟩ | ⟨b, o, _, g⟩ | ⟨b, o, l, c, s, x, _, g⟩ | ⟨l, e, g⟩ | ⟨l, _, g⟩ | ⟨_, g⟩ <;> first | exact g.elim | exact ⟨_, e, g⟩
theorem pPEq_mono {r : Bool} {a b : AV} {k k' : AV → Prop} (hk : ∀ v, k v → k' v) (h : pPEq r a b H k) : pPEq r a b H k' := by
  unfold pPEq at h ⊢
  cases a <;> try exact h.elim
  all_goals cases b <;> try exact h.elim
  · exact hk _ h
  · exact hk _ h
  · exact hk _ h
  · exact bI_monoY (fun g => bI_monoY (hk _) (hk _) g) (fun g => getK_mono (fun _ _ m g => bT_monoY (fun g => getK_mono (fun _ _ m g => bT_monoY (hk _) g) g) g) g) h
theorem nthK_mono {k k' : AV → Prop} (hk : ∀ v, k v → k' v) : ∀ {l : List AV} {n : Nat}, nthK l n k → nthK l n k'
  | [], _, h => h.elim
  | a :: l, 0, h => hk _ h
  | a :: l, n + 1, h => nthK_mono hk (l := l) (n := n) h
theorem eqOne_mono {t : TypeId} {x y : AV} {k k' : Bool → Prop} (hk : ∀ e, k e → k' e) (h : eqOne P t x y H k) : eqOne P t x y H k' := by
  unfold eqOne at h ⊢
  split at h
  · obtain ⟨c, a, rfl, h1⟩ := onInt_out h
    obtain ⟨c', b, rfl, h2⟩ := onInt_out h1
    exact bT_monoY (fun h => bT_monoY (fun h => hk _ h) h) h2
  · obtain ⟨n, a, rfl, h1⟩ := onStr_out h
    obtain ⟨m, b, rfl, h2⟩ := onStr_out h1
    exact hk _ h2
  · obtain ⟨a, rfl, h1⟩ := onB_outN h
    obtain ⟨b, rfl, h2⟩ := onB_outN h1
    exact hk _ h2
  · split at h
    · refine bT_monoY (fun h => pPEq_mono (fun v h => ?_) h) h
      obtain ⟨b, rfl, h⟩ := onB_outN h
      exact hk _ h
    · exact h.elim
  · exact h.elim
theorem eqOneV_out (hr : RepH hs H) {t : TypeId} {x y : AV} {k : Bool → Prop} (h : eqOneV P D t x y hs k) : eqOne P t x y H k := by
  unfold eqOneV at h
  split at h
  · rename_i el ht
    unfold eqOne
    rw [ht]
    simp only
    split at h
    · rename_i i hi
      rw [hi]
      exact bT_monoY (fun h => pPEq_mono (fun v h => dec_enc h) (ptrEq_out hr h)) h
    · exact h.elim
  · rename_i hne
    unfold eqOne at h ⊢
    split at h <;> first | exact h | exact absurd (by assumption) (hne _) | exact h.elim
theorem eqFsV_out (hr : RepH hs H) {l1 l2 : List AV} : ∀ {fs : List Field} {k : Bool → Prop}, eqFsV P D l1 l2 hs fs k → eqFs P l1 l2 H fs k
  | [], _, h => h
  | f :: fs, k, h => by
    obtain ⟨h0, h⟩ := bT_out h
    refine bT_in h0 ?_
    exact nthK_mono (fun x h => nthK_mono (fun y h => eqOne_mono (fun e h => eqFsV_out hr h) (eqOneV_out hr h)) h) h
theorem binC_out (he : RepE N d e env) (hr : RepH hs H) {op : BinOp} {t ty : TypeId} {x y : Operand} {k : V → Hs D → Prop} (h : (binC P G D d op t x y ty).run k e hs) :
    xBin2 P op t x y (aev G env x) (aev G env y) H fun v => k (enc v) hs := by
  unfold binC at h
  split at h
  · rename_i q hq
    have h := intC_out (opdC_out he (k := fun b => (intC (kn q) op).run (enc (aev G env x)) b _) (opdC_out he h))
    unfold xBin2 xBin; rw [hq]; exact h
  · rename_i hq
    have h := strC_out (opdC_out he (k := fun b => (strC op).run (enc (aev G env x)) b _) (opdC_out he h))
    unfold xBin2 xBin; rw [hq]; exact h
  · rename_i el hq
    split at h
    · rename_i i hi
      obtain ⟨h1, h⟩ := ifO_out h
      unfold xBin2 xBin; rw [hq]; simp only; rw [hi]
      refine bT_in h1 ?_
      split at h
      · exact ptrEq_out hr (opdC_out he (k := fun b => ptrEq D true (enc (aev G env x)) b hs _) (opdC_out he h))
      · exact ptrEq_out hr (opdC_out he (k := fun b => ptrEq D false (enc (aev G env x)) b hs _) (opdC_out he h))
      · exact (show False from h).elim
    · exact (show False from h).elim
  · rename_i fs hq
    obtain ⟨h0, h⟩ := ifO_out h
    unfold xBin2; rw [hq]
    simp only
    refine bT_in h0 ?_
    split at h
    · obtain ⟨l1, e1, h⟩ := encA (opdC_out he (k := fun b => (enc (aev G env x)) False False N1 N1 N2 N2 N2 N6 (fun l1 => b False False N1 N1 N2 N2 N2 N6 (fun l2 => eqFsV P D l1 l2 hs fs.toList fun z => k (enc (.bool z)) hs) NL NO) NL NO) (opdC_out he h))
      obtain ⟨l2, e2, h⟩ := encA h
      rw [e1, e2]
      exact eqFsV_out hr h
    · obtain ⟨l1, e1, h⟩ := encA (opdC_out he (k := fun b => (enc (aev G env x)) False False N1 N1 N2 N2 N2 N6 (fun l1 => b False False N1 N1 N2 N2 N2 N6 (fun l2 => eqFsV P D l1 l2 hs fs.toList fun z => k (enc (.bool (!z))) hs) NL NO) NL NO) (opdC_out he h))
      obtain ⟨l2, e2, h⟩ := encA h
      rw [e1, e2]
      exact eqFsV_out hr h
    · exact (show False from h).elim
  · rename_i du h1 h2 h3 h4 hq
    have h := g2_out (opdC_out he (k := fun b => g2 (fun a b k => xBin P op t x y a b emptyH k) (enc (aev G env x)) b _) (opdC_out he h))
    unfold xBin2
    unfold xBin at h ⊢
    rw [hq] at h ⊢
    cases du <;> first | exact h | exact absurd rfl (h3 _) | exact absurd rfl (h2 _) | exact absurd rfl (h4 _)
  · exact (show False from h).elim

theorem sliceC_out (he : RepE N d e env) {t : TypeId} {x : Operand} {lo hi mx : Option Operand} {k : V → Hs D → Prop} (h : (sliceC P G D d t x lo hi mx).run k e hs) :
    xSlice P t (aev G env x) (lo.map (aev G env)) (hi.map (aev G env)) (mx.map (aev G env)) fun v => k (enc v) hs := by
  unfold sliceC at h
  unfold xSlice
  split at h
  · rename_i hq
    rw [hq]
    obtain ⟨h1, h⟩ := ifO_out h
    refine bT_in (by simpa using h1) ?_
    obtain ⟨n, y, e1, h⟩ := encS (opdC_out he h)
    rw [e1]
    show natOr (Option.map (aev G env) hi) n (fun h1 => natOr (Option.map (aev G env) lo) 0 fun l => sSub (.str n y) l h1 fun v => k (enc v) hs)
    refine natOr_mono (fun h1 h => natOr_mono (fun l h => ?_) (optC_out he h)) (optC_out he h)
    show bT (Nat.ble l h1) (bT (Nat.ble h1 n) (forceN (Nat.sub h1 l) fun m => forceN (subT y l m) fun z => k (enc (.str m z)) hs))
    refine bT_monoY (fun h => bT_monoY (fun h => ?_) h) h
    rw [forceN_eq, forceN_eq] at h
    rw [forceN_eq, forceN_eq]
    exact h
  · rename_i el hq
    rw [hq]
    simp only
    split at h
    · rename_i i hi'
      rw [hi']
      obtain ⟨h1, h⟩ := ifO_out h
      refine bT_in (by simpa using h1) ?_
      rcases encL' (opdC_out he h) with ⟨b, o, len, cap, sz', ex, e1, h⟩ | ⟨e1, h⟩
      · rw [e1]
        refine bT_monoY (fun h => natOr_mono (fun m h => natOr_mono (fun h1 h => natOr_mono (fun l h => ?_) (optC_out he h)) (optC_out he h)) (optC_out he h)) h
        refine bT_monoY (fun h => bT_monoY (fun h => bT_monoY (fun h => ?_) h) h) h
        rw [forceN_eq, forceN_eq, forceN_eq, bK_eq] at h
        rw [forceN_eq, forceN_eq, forceN_eq, Option.isSome_map]
        exact h
      · rw [e1]
        exact natOr_mono (fun l h => natOr_mono (fun h1 h => natOr_mono (fun m h => h) (optC_out he h)) (optC_out he h)) (optC_out he h)
    · exact (show False from h).elim
  · rename_i n el hq
    rw [hq]
    simp only
    split at h
    · rename_i i hi'
      rw [hi']
      obtain ⟨h1, h⟩ := ifO_out h
      refine bT_in (by simpa using h1) ?_
      obtain ⟨b, o, e1, h⟩ := encP (opdC_out he h)
      rw [e1]
      show natOr (Option.map (aev G env) mx) n (fun m => natOr (Option.map (aev G env) hi) n fun h => natOr (Option.map (aev G env) lo) 0 fun l =>
        bT (Nat.ble l h) (bT (Nat.ble h m) (bT (Nat.ble m n) (forceN (Nat.add o (Nat.mul l i.size)) fun o' => forceN (Nat.sub h l) fun n => forceN (Nat.sub m l) fun c => k (enc (.slice b o' n c i.size true)) hs))))
      refine natOr_mono (fun m h => natOr_mono (fun h1 h => natOr_mono (fun l h => ?_) (optC_out he h)) (optC_out he h)) (optC_out he h)
      refine bT_monoY (fun h => bT_monoY (fun h => bT_monoY (fun h => ?_) h) h) h
      rw [forceN_eq, forceN_eq, forceN_eq] at h
      rw [forceN_eq, forceN_eq, forceN_eq]
      exact h
    · exact (show False from h).elim
  · exact (show False from h).elim
theorem fldC_out (he : RepE N d e env) {t : TypeId} {x : Operand} {i : Nat} {k : V → Hs D → Prop} (h : (fldC P G D d t x i).run k e hs) : xFld P t (aev G env x) i fun v => k (enc v) hs := by
  unfold fldC at h
  unfold xFld
  split at h
  · rename_i fs hq
    rw [hq]
    simp only
    split at h
    · rename_i fd hf
      rw [hf]
      simp only
      split at h
      · rename_i inf hi
        rw [hi]
        obtain ⟨h1, h⟩ := ifO_out h
        refine bT_in h1 ?_
        generalize fd.offset = off at h ⊢
        cases off with
        | zero =>
          obtain ⟨b, o, e1, h⟩ := encP (opdC_out he h)
          rw [e1]
          show forceN (Nat.add o 0) (fun o' => k (enc (.ptr b o')) hs)
          rw [forceN_eq]
          exact h
        | succ n =>
          obtain ⟨b, o, e1, h⟩ := encP (opdC_out he h)
          rw [e1]
          show forceN (Nat.add o (Nat.succ n)) (fun o' => k (enc (.ptr b o')) hs)
          rw [forceN_eq]
          exact h
      · exact (show False from h).elim
    · exact (show False from h).elim
  · exact (show False from h).elim
theorem idxAC_out (he : RepE N d e env) {t : TypeId} {x i : Operand} {k : V → Hs D → Prop} (h : (idxAC P G D d t x i).run k e hs) : xIdxAddr P t (aev G env x) (aev G env i) fun v => k (enc v) hs := by
  unfold idxAC at h
  unfold xIdxAddr
  split at h
  · rename_i el hq
    rw [hq]
    simp only
    split at h
    · rename_i inf hi
      rw [hi]
      have h := opdC_out he (opdC_out he h)
      have g := enc_cases h
      rcases g with ⟨_, g⟩ | ⟨_, g⟩ | ⟨n, _, g⟩ | ⟨n, _, g⟩ | ⟨c, n, _, _, g⟩ | ⟨n, x, _, g⟩ | ⟨b, o, _, g⟩ | ⟨b, o, l, c, s, x, e1, g⟩ | ⟨l, _, g⟩ | ⟨l, _, g⟩ | ⟨_, g⟩ <;> try exact g.elim
      obtain ⟨c, j, e2, g⟩ := shN_out g
      rw [e1, e2]
      refine bT_monoY (fun h => bT_monoY (fun h => ?_) h) g
      rw [forceN_eq]
      exact h
    · exact (show False from h).elim
  · rename_i n el hq
    rw [hq]
    simp only
    split at h
    · rename_i inf hi
      rw [hi]
      obtain ⟨b, o, e1, h⟩ := encP (opdC_out he (opdC_out he h))
      obtain ⟨c, j, e2, h⟩ := shN_out h
      rw [e1, e2]
      refine bT_monoY (fun h => ?_) h
      rw [forceN_eq]
      exact h
    · exact (show False from h).elim
  · exact (show False from h).elim
theorem idxC_out (he : RepE N d e env) {t ty : TypeId} {x i : Operand} {k : V → Hs D → Prop} (h : (idxC P G D d t x i ty).run k e hs) : xIndex P t (aev G env x) (aev G env i) fun v => k (enc v) hs := by
  unfold idxC at h
  split at h
  · rename_i hq
    unfold xIndex
    rw [hq]
    exact sIdxV_out (opdC_out he (k := fun b => sIdxV (enc (aev G env x)) b _) (opdC_out he h))
  · exact g2_out (opdC_out he (k := fun b => g2 (fun a b k => xIndex P t a b k) (enc (aev G env x)) b _) (opdC_out he h))
  · exact (show False from h).elim
theorem encQ {a : AV} {A : List AV → Prop} (h : enc a False False N1 N1 N2 N2 N2 N6 NL A NO) : ∃ l, a = .tup l ∧ A l := by
  have g := enc_cases h
  rcases g with ⟨_, g⟩ | ⟨_, g⟩ | ⟨n, _, g⟩ | ⟨n, _, g⟩ | ⟨c, n, _, _, g⟩ | ⟨n, x, _, g⟩ | ⟨b, o, _, g⟩ | ⟨b, o, l, c, s, x, _, g⟩ | ⟨l, _, g⟩ | ⟨l, e, g⟩ | ⟨_, g⟩ <;> first | exact g.elim | exact ⟨_, e, g⟩
theorem fieldC_out (he : RepE N d e env) {t ty : TypeId} {x : Operand} {i : Nat} {k : V → Hs D → Prop} (h : (fieldC P G D d t x i ty).run k e hs) : xField P t (aev G env x) i fun v => k (enc v) hs := by
  unfold fieldC at h
  unfold xField
  split at h
  · rename_i fs hq
    rw [hq]
    simp only
    split at h
    · rename_i fd hf
      rw [hf]
      simp only
      split at h
      · rename_i du inf hu hi
        unfold xPart
        rw [hu, hi]
        simp only
        cases ha : aggT P fd.type with
        | true =>
          rw [ha] at h
          obtain ⟨l, e1, h⟩ := encA (opdC_out he h)
          rw [e1]
          exact h
        | false =>
          rw [ha] at h
          obtain ⟨l, e1, h⟩ := encA (opdC_out he h)
          rw [e1]
          exact h
      · exact (show False from h).elim
    · exact (show False from h).elim
  · exact (show False from h).elim
theorem loadC_out (he : RepE N d e env) (hr : RepH hs H) {t ty : TypeId} {x : Operand} {k : V → Hs D → Prop} (h : (loadC P G D d t x ty).run k e hs) : xLoad P t (aev G env x) H fun v => k (enc v) hs := by
  unfold loadC at h
  unfold xLoad
  split at h
  · rename_i du i hu hi
    rw [hu, hi]
    simp only
    cases ha : aggT P t with
    | true => rw [ha] at h; exact sLoadN_out hr (opdC_out he h)
    | false => rw [ha] at h; exact sLoad_out hr (opdC_out he h)
  · exact (show False from h).elim
theorem storeC_out (he : RepE N d e env) (hr : RepH hs H) {t : TypeId} {x y : Operand} {k : V → Hs D → Prop} (h : (storeC P G D d t x y).run k e hs) : xStore P t (aev G env x) (aev G env y) H fun H' => ∃ hs', RepH hs' H' ∧ k (enc undefA) hs' := by
  unfold storeC at h
  unfold xStore
  split at h
  · rename_i i hi
    rw [hi]
    simp only
    cases hb : (Nat.beq i.size 1 && !(aggT P t)) with
    | true =>
      rw [hb] at h
      rw [Bool.and_eq_true] at hb
      rw [Nat.eq_of_beq_eq_true hb.1]
      exact sStore1_out hr (opdC_out he (k := fun b => sStore1 D (enc (aev G env x)) b hs _) (opdC_out he h))
    | false =>
      rw [hb] at h
      exact sStoreN_out hr (opdC_out he (k := fun b => sStoreN D i.size (enc (aev G env x)) b hs _) (opdC_out he h))
  · exact (show False from h).elim
theorem allocC_out (hr : RepH hs H) {t : TypeId} {k : V → Hs D → Prop} (h : (allocC P D d t).run k e hs) : xAlloc P (newK H) t fun v H' => ∃ hs', RepH hs' H' ∧ k (enc v) hs' := by
  unfold allocC at h
  unfold xAlloc
  split at h
  · rename_i i hi
    rw [hi]
    simp only
    split at h
    · rename_i z hz
      rw [hz]
      simp only
      split at h
      · exact (show False from h).elim
      · exact (show False from h).elim
      · rename_i h1 h2
        obtain ⟨h3, h⟩ := ifO_out h
        have h4 : ∀ a ∈ (absV z).cells, a.one = true := by simpa using h3
        have g := sZero_out hr h4 (n := 1) (by rw [Nat.one_mul]) h
        have hv : ∀ {k : List AV → Prop}, k (absV z).cells → onVal (absV z) k := fun {k} hk => by
          generalize absV z = a at hk h1 h2
          cases a <;> first | exact hk | exact absurd rfl (h1 _) | exact absurd rfl h2
        refine hv ?_
        have e1 : repL 1 (absV z).cells = (absV z).cells := by simp [repL]
        rw [e1] at g
        refine storeL_monoY (fun c q g => newK_monoY (fun b H' g => ?_) g) g
        exact g.2
    · exact (show False from h).elim
  · exact (show False from h).elim
theorem zip_map (ps : List (Nat × Operand)) (ρ : Operand → AV) : (ps.map (·.1)).zip ((ps.map (·.2)).map ρ) = ps.map fun x => (x.1, ρ x.2) := by
  induction ps with
  | nil => rfl
  | cons p r ih => simp only [List.map_cons, List.zip_cons_cons, ih]
theorem buildC_out (he : RepE N d e env) {t : TypeId} {ps : List (Nat × Operand)} {k : V → Hs D → Prop} (h : (buildC P G D d t ps).run k e hs) :
    xBuildX P t (ps.map fun x => (x.1, aev G env x.2)) fun v => k (enc v) hs := by
  unfold buildC at h
  split at h
  · rename_i fs z hu hz
    obtain ⟨h1, h⟩ := ifO_out h
    unfold xBuildX
    rw [hu]
    refine bT_in h1 ?_
    unfold xBuild
    rw [hu, hz]
    simp only
    have slow : (decLC G d (ps.map (·.2))).run (fun vs => buildK (fieldPlaces P fs) z.length ((ps.map (·.1)).zip vs) z fun cs => k (fun _ _ _ _ _ _ _ _ h _ _ => h cs) hs) e → buildK (fieldPlaces P fs) z.length (ps.map fun x => (x.1, aev G env x.2)) z fun cs => k (enc (.agg cs)) hs := fun h => by
      have h := decLC_out he _ h
      rw [zip_map] at h
      exact h
    split at h
    · rename_i l hl
      cases hb : nodupB (l.map (·.1)) with
      | true => rw [hb] at h; exact build_tmpl he hl hb h
      | false => rw [hb] at h; exact slow h
    · exact slow h
  · rename_i m el z hu hz
    unfold xBuildX
    rw [hu]
    show xBuildA P t _ _
    unfold xBuildA
    rw [hu, hz]
    simp only
    split at h
    · rename_i i hi
      rw [hi]
      have h := decLC_out he _ h
      rw [zip_map] at h
      exact h
    · exact (show False from h).elim
  · exact (show False from h).elim
theorem bslC_out (he : RepE N d e env) (hr : RepH hs H) {t : TypeId} {len : Nat} {ps : List (Nat × Operand)} {k : V → Hs D → Prop} (h : (bslC P G D d t len ps).run k e hs) :
    xBuildS P (newK H) t len (ps.map fun x => (x.1, aev G env x.2)) fun v H' => ∃ hs', RepH hs' H' ∧ k (enc v) hs' := by
  unfold bslC at h
  unfold xBuildS
  split at h
  · rename_i el hu
    rw [hu]
    simp only
    split at h
    · rename_i i z hi hz
      rw [hi, hz]
      simp only
      obtain ⟨h1, h⟩ := ifO_out h
      rw [Bool.and_eq_true, Bool.and_eq_true] at h1
      refine bT_in h1.1 (bT_in h1.2.1 (bT_in h1.2.2 ?_))
      have hlen : (repL len z).length = Nat.mul len i.size := by rw [repL_length, Nat.eq_of_beq_eq_true h1.2.1]; rfl
      have slow : (decLC G d (ps.map (·.2))).run (fun vs => buildK (elemPlaces i.size (!(aggT P el))) (Nat.mul len i.size) ((ps.map (·.1)).zip vs) (repL len z) fun cs => sNewL D cs hs fun b m h => bT (Nat.beq m (Nat.mul len i.size)) (k (fun _ _ _ _ _ _ _ h _ _ _ => h b 0 len len i.size true) h)) e →
          buildK (elemPlaces i.size (!(aggT P el))) (Nat.mul len i.size) (ps.map fun x => (x.1, aev G env x.2)) (repL len z) fun cs => sNewL D cs hs fun b m h => bT (Nat.beq m (Nat.mul len i.size)) (k (fun _ _ _ _ _ _ _ h _ _ _ => h b 0 len len i.size true) h) := fun h => by
        have h := decLC_out he _ h
        rw [zip_map] at h
        exact h
      have fin : ∀ cs : List AV, (sNewL D cs hs fun b m h => bT (Nat.beq m (Nat.mul len i.size)) (k (fun _ _ _ _ _ _ _ h _ _ _ => h b 0 len len i.size true) h)) → pNewS (newK H) len i.size cs fun v H' => ∃ hs', RepH hs' H' ∧ k (enc v) hs' := fun cs h => by
        obtain ⟨d', t', c', y1, y2, y3, _⟩ := sPushL_out cs TRc.e h
        refine y1 _ ?_
        obtain ⟨hs', H', z1, z2, _, _, _, z3⟩ := sNew_out hr (o := .cells c' (0 + cs.length) 0) ⟨d', t', rfl, y2⟩ y3
        obtain ⟨h5, z3⟩ := bT_out z3
        exact bT_in h5 (z1 _ ⟨hs', z2, z3⟩)
      have slow' := fun h => buildK_mono fin (slow h)
      split at h
      · rename_i l hl
        cases hb : nodupB (l.map (·.1)) with
        | true =>
          rw [hb] at h
          have g := build_tmpl he hl hb h
          rw [hlen] at g
          refine buildK_mono2 (fun cs hcs g => ?_) g rfl
          obtain ⟨d', t', c', y1, y2, y3, y4⟩ := sPushL_out cs TRc.e g
          refine y1 _ (bT_in ?_ ?_)
          · rw [hcs, hlen, Nat.zero_add]; exact Nat.beq_refl _
          · obtain ⟨hs', H', z1, z2, _, _, _, z3⟩ := sNew_out hr (o := .cells c' (0 + cs.length) 0) ⟨d', t', rfl, y2⟩ y3
            exact z1 _ ⟨hs', z2, z3⟩
        | false => rw [hb] at h; exact slow' h
      · exact slow' h
    · exact (show False from h).elim
  · exact (show False from h).elim
 where
  buildK_mono2 {place : Nat → Option (Nat × Nat × Bool)} {n m : Nat} {k k' : List AV → Prop} : ∀ {ps : List (Nat × AV)} {cs : List AV}, (∀ l, l.length = m → k l → k' l) → buildK place n ps cs k → cs.length = m → buildK place n ps cs k'
    | [], cs, hk, h, hl => hk _ hl h
    | (i, v) :: r, cs, hk, h, hl => by
      unfold buildK at h ⊢
      split at h
      · rename_i o sz sc hp
        refine bT_monoY (fun h => bI_monoY (fun h => bT_monoY (fun h => bT_monoY (fun h => buildK_mono2 hk h (by simpa using hl)) h) h) (fun h => ?_) h) h
        obtain ⟨h, h1, h2⟩ := onVal_out h
        obtain ⟨h3, h⟩ := lenI_out _ _ _ h
        have hv : ∀ {k : List AV → Prop}, k v.cells → onVal v k := fun {k} hk => by
          cases v <;> first | exact hk | exact absurd rfl (h2 _) | exact absurd rfl h1
        refine hv ?_
        refine lenI_in _ _ _ h3 (buildK_mono2 hk h (by rw [spl_length]; exact hl))
      · exact h.elim
  lenI_in : ∀ (l : List AV) (n : Nat) (x : Prop), l.length = n → x → lenI l n x
    | [], 0, x, _, h => h
    | [], n + 1, x, e, h => by simp at e
    | a :: l, 0, x, e, h => by simp at e
    | a :: l, n + 1, x, e, h => lenI_in l n x (by simpa using e) h
  buildK_mono {place : Nat → Option (Nat × Nat × Bool)} {n : Nat} {k k' : List AV → Prop} {ps : List (Nat × AV)} {cs : List AV} (hk : ∀ l, k l → k' l) (h : buildK place n ps cs k) : buildK place n ps cs k' := buildK_mono2 (m := cs.length) (fun l _ h => hk l h) h rfl
end
end Go.X

namespace Go.X
section
variable {P : Program} {D d N : Nat} {e : ETr d} {env : List AV} {hs : Hs D} {H : AH}
theorem mkSC_out (he : RepE N d e env) (hr : RepH hs H) {G : Nat} {t : TypeId} {x y : Operand} {k : V → Hs D → Prop} (h : (mkSC P G D d t x y).run k e hs) : xMakeS P (newK H) t (aev G env x) (aev G env y) fun v H' => ∃ hs', RepH hs' H' ∧ k (enc v) hs' := by
  unfold mkSC at h
  unfold xMakeS
  split at h
  · rename_i el hu
    rw [hu]
    simp only
    split at h
    · rename_i i z hi hz
      rw [hi, hz]
      simp only
      obtain ⟨h1, h⟩ := ifO_out h
      rw [Bool.and_eq_true, Bool.and_eq_true] at h1
      refine bT_in h1.1 (bT_in h1.2.1 ?_)
      obtain ⟨c1, n, e1, h⟩ := shN_out (opdC_out he (opdC_out he h))
      obtain ⟨c2, m, e2, h⟩ := shN_out h
      rw [e1, e2]
      show bT (Nat.ble n m) (bT (Nat.ble (Nat.mul m i.bytes) 1099511627776) (bT (Nat.ble m 1099511627776)
        (storeL (repL m z) .e 0 fun t q => bT (Nat.beq q (Nat.mul m i.size)) (newK H (.cells t q 0) fun b H' => ∃ hs', RepH hs' H' ∧ k (enc (.slice b 0 n m i.size true)) hs'))))
      refine bT_monoY (fun h => bT_monoY (fun h => bT_monoY (fun h => ?_) h) h) h
      rw [forceN_eq] at h
      have hz1 : ∀ a ∈ z, a.one = true := by simpa using h1.2.2
      have hsz := Nat.eq_of_beq_eq_true h1.2.1
      have g := sZero_out hr hz1 (n := m) (by rw [hsz]; rfl) h
      refine storeL_monoY (fun c q g => ?_) g
      obtain ⟨H', y1, y2, y3, y4⟩ := newK_out g
      obtain ⟨hq, hs', z1, z2⟩ := y1
      refine bT_in (by rw [hq]; exact Nat.beq_refl _) ?_
      exact newK_monoY (fun b H' g => g.2) g
    · exact (show False from h).elim
  · exact (show False from h).elim
theorem convC_out (he : RepE N d e env) (hr : RepH hs H) {G : Nat} {s t ty : TypeId} {x : Operand} {k : V → Hs D → Prop} (h : (convC P G D d s t x ty).run k e hs) :
    xConv P s t (aev G env x) H fun v H' => H' = H ∧ k (enc v) hs := by
  unfold convC at h
  unfold xConv
  split at h
  · rename_i q0 q hs' ht'
    rw [hs', ht']
    have h := cvC_out (opdC_out he h)
    exact pConv_mono (fun v h => ⟨rfl, h⟩) h
  · rename_i hs' ht'
    rw [hs', ht']
    have g := opdC_out he h
    obtain ⟨n, y, e1, g⟩ := encS g
    rw [e1] at g ⊢
    exact ⟨rfl, g⟩
  · rename_i el hs' ht'
    rw [hs', ht']
    simp only
    split at h
    · rename_i hel
      rw [hel]
      have h := sTextOf_out hr (opdC_out he h)
      rcases onSliceT_out h with ⟨e1, h⟩ | ⟨b, o, l, c, s, x, e1, h⟩
      · rw [e1]; exact ⟨trivial, h⟩
      · rw [e1]
        refine bT_monoY (fun h => getK_mono (fun c _ _ h => sMove_out.loadL_mono (fun l h => ?_) h) h) h
        exact numL_mono (fun n x h => ⟨trivial, h⟩) h
    · exact (show False from h).elim
  · exact (show False from h).elim
 where
  pConv_mono {c : Nat} {a : AV} {k k' : AV → Prop} (hk : ∀ v, k v → k' v) (h : pConv c a k) : pConv c a k' := by
    cases a <;> first | exact (show False from h).elim | exact bT_monoY (hk _) h | exact bT_monoY (bT_monoY (bT_monoY (bT_monoY (hk _)))) h | exact wrapK_in (hk _ (wrapK_out h))
  numL_mono : ∀ {l : List AV} {k k' : Nat → Nat → Prop}, (∀ n x, k n x → k' n x) → numL l k → numL l k'
    | [], _, _, hk, h => hk _ _ h
    | a :: l, k, k', hk, h => by
      unfold numL at h ⊢
      obtain ⟨c, b, rfl, h⟩ := onNat_out h
      refine bT_monoY (fun h => bT_monoY (fun h => numL_mono (fun n x h => ?_) h) h) h
      rw [forceN_eq, forceN_eq] at h ⊢
      exact hk _ _ h
theorem unC_out (he : RepE N d e env) {G : Nat} {op : UnOp} {t ty : TypeId} {x : Operand} {k : V → Hs D → Prop} (h : (unC P G D d op t x ty).run k e hs) : xUn P op t (aev G env x) fun v => k (enc v) hs := by
  unfold unC at h
  split at h
  · have g := enc_cases (opdC_out he h)
    unfold xUn
    rcases g with ⟨e1, g⟩ | ⟨e1, g⟩ | ⟨n, _, g⟩ | ⟨n, _, g⟩ | ⟨c, n, _, _, g⟩ | ⟨n, x, _, g⟩ | ⟨b, o, _, g⟩ | ⟨b, o, l, c, s, x, _, g⟩ | ⟨l, e, g⟩ | ⟨l, _, g⟩ | ⟨_, g⟩ <;> first | exact g.elim | (rw [e1]; exact g)
  · exact g1_out (opdC_out he h)
theorem rangeS_out (hr : RepH hs H) {n y : Nat} {k : V → Hs D → Prop} (h : sNew D (fun _ _ O => O (.iter n y 0)) hs fun b h => k (fun _ _ _ _ _ _ h _ _ _ _ => h b 0) h) : newK H (.iter n y 0) fun b H' => ∃ hs', RepH hs' H' ∧ k (enc (.ptr b 0)) hs' := by
  obtain ⟨hs', H', z1, z2, _, _, _, z3⟩ := sNew_out hr (o := .iter n y 0) rfl h
  exact z1 _ ⟨hs', z2, z3⟩
theorem so_odd {so : SO} {o : AObj} (h : rO so o) {O : AObj → Prop} (hh : so C3 C4 O) : O o := by
  rcases so_cells h hh with ⟨c, n, d, t, _, _, h⟩ | ⟨c, n, m, d, t, _, _, h⟩ | ⟨h, _⟩
  · exact h.elim
  · exact h.elim
  · exact h
theorem sNext_out (hr : RepH hs H) {a : AV} {k : V → Hs D → Prop} (h : sNext D (enc a) hs k) : pNext a H fun v H' => ∃ hs', RepH hs' H' ∧ k (enc v) hs' := by
  obtain ⟨b, o, e1, h⟩ := encP h
  obtain ⟨h0, h⟩ := bT_out h
  rw [e1]
  refine bT_in h0 ?_
  obtain ⟨ht, eh, htr⟩ := hr.tr
  rw [eh] at h
  obtain ⟨_, so, hso, hk⟩ := acc_get D htr h
  obtain ⟨n, x, p, e2, h⟩ := onIter_out (so_odd hso hk)
  rw [← eh] at h
  refine Bt.getK_in (AH.get_of_at e2 (by simp)) ?_
  refine bI_monoY (fun h => ?_) (fun h => ⟨hs, hr, h⟩) h
  rw [forceN_eq] at h ⊢
  refine bT_monoY (fun h => ?_) h
  rw [forceN_eq] at h ⊢
  obtain ⟨so', ks, g1, g2, g3⟩ := heap_mod hr h
  obtain ⟨hs', H', z1, z2, _, _, _, z3⟩ := g3 _ (.iter n x (p + 1)) g2 rfl (hr.lt (by rw [e2]; simp))
  exact z1 _ ⟨hs', z2, z3⟩

section
variable {ρ : Operand → AV} {o : Oper} {c : Call} {b : Builtin}
theorem bi_ops (ho : o.op = .call c) (hb : c.callee = .builtin b) {f : Emb} {a : Act} (hs : Stand f o ρ a) : VL f (c.args.toList.map ρ) (c.args.toList.map a.eval) :=
  VL.ofOperands fun x hx => hs x (by rw [ho]; simp [Op.operands, Call.operands, hb]; simpa using hx)
theorem bi_exec (ho : o.op = .call c) (hb : c.callee = .builtin b) (a : Act) : execOp a.eval o = builtin b c.argTypes o.type (c.args.map fun | .const _ => true | _ => false) (c.args.map a.eval) := by
  simp [execOp, ho, resolve, hb, invoke]
  rfl
theorem bi_one (ho : o.op = .call c) (hb : c.callee = .builtin b) {x : Operand} (hx : c.args.toList = [x]) {f : Emb} {a : Act} (hs : Stand f o ρ a) : ∃ u, c.args.map a.eval = #[u] ∧ VR f (ρ x) u := by
  have hv := bi_ops ho hb hs
  rw [hx] at hv
  generalize hgs : [x].map a.eval = us at hv
  rw [← hx] at hgs
  cases hv with
  | cons _ u _ us hu hl =>
    cases hl
    exact ⟨u, by apply Array.ext'; rw [Array.toList_map, hgs], hu⟩
theorem bi_two (ho : o.op = .call c) (hb : c.callee = .builtin b) {x y : Operand} (hx : c.args.toList = [x, y]) {f : Emb} {a : Act} (hs : Stand f o ρ a) : ∃ u v, c.args.map a.eval = #[u, v] ∧ VR f (ρ x) u ∧ VR f (ρ y) v := by
  have hv := bi_ops ho hb hs
  rw [hx] at hv
  generalize hgs : [x, y].map a.eval = us at hv
  rw [← hx] at hgs
  cases hv with
  | cons _ u _ us hu hl =>
    cases hl with
    | cons _ u2 _ us hu2 hl =>
      cases hl
      exact ⟨u, u2, by apply Array.ext'; rw [Array.toList_map, hgs], hu, hu2⟩
theorem bi_more (ho : o.op = .call c) (hb : c.callee = .builtin b) {x : Operand} {l : List Operand} (hx : c.args.toList = x :: l) {f : Emb} {a : Act} (hs : Stand f o ρ a) : ∃ u us, (c.args.map a.eval).toList = u :: us ∧ VR f (ρ x) u ∧ VL f (l.map ρ) us := by
  have hv := bi_ops ho hb hs
  rw [hx] at hv
  generalize hgs : (x :: l).map a.eval = us at hv
  rw [← hx] at hgs
  cases hv with
  | cons _ u _ us hu hl => exact ⟨u, us, by rw [Array.toList_map, hgs], hu, hl⟩
theorem bi_len (ho : o.op = .call c) (hb : c.callee = .builtin .len) {t : TypeId} {ts : List TypeId} {x : Operand} (hts : c.argTypes.toList = t :: ts) (hx : c.args.toList = [x]) {k : AV → Prop} (h : xLen P t (ρ x) H k) :
    ∃ v, k v ∧ ∀ f w a, HRQ f H.sem w → Stand f o ρ a → ∃ u, Did P o a w u w ∧ VR f v u := by
  obtain ⟨v, h1, h2⟩ := xLen_ok (P := P) (t := t) (u := t) (ty := o.type) (ts := c.argTypes) (by rw [← Array.getElem?_toList, hts]; rfl) h
  refine ⟨v, h1, fun f w a hr hs => ?_⟩
  obtain ⟨u, e, hu⟩ := bi_one ho hb hx hs
  obtain ⟨r, g1, g2⟩ := h2 f w u hr hu
  refine ⟨r, did_v (s := Builtin.len_ c.argTypes o.type #[u]) ?_ g1, g2⟩
  rw [bi_exec ho hb, e]
  rfl
theorem bi_cap (ho : o.op = .call c) (hb : c.callee = .builtin .cap) {t : TypeId} {ts : List TypeId} {x : Operand} (hts : c.argTypes.toList = t :: ts) (hx : c.args.toList = [x]) {k : AV → Prop} (h : xCap P t (ρ x) k) :
    ∃ v, k v ∧ ∀ f w a, HRQ f H.sem w → Stand f o ρ a → ∃ u, Did P o a w u w ∧ VR f v u := by
  obtain ⟨v, h1, h2⟩ := xCap_ok (P := P) (t := t) (ty := o.type) (ts := c.argTypes) (by rw [← Array.getElem?_toList, hts]; rfl) h
  refine ⟨v, h1, fun f w a hr hs => ?_⟩
  obtain ⟨u, e, hu⟩ := bi_one ho hb hx hs
  obtain ⟨r, g1, g2⟩ := h2 f w u hu
  refine ⟨r, did_v (s := Builtin.cap_ c.argTypes o.type #[u]) ?_ g1, g2⟩
  rw [bi_exec ho hb, e]
  rfl
theorem bi_app (ho : o.op = .call c) (hb : c.callee = .builtin .append) {t u0 : TypeId} {s x : Operand} (hts : c.argTypes.toList = [t, u0]) (hx : c.args.toList = [s, x]) {k : AV → AH → Prop} (h : xApp P t u0 (ρ s) (ρ x) H k) :
    ∃ v H', k v H' ∧ ∀ f w a, HR f H w → Stand f o ρ a → ∃ u w' f', Did P o a w u w' ∧ Step f H w f' H' w' ∧ VR f' v u := by
  obtain ⟨v, H', h1, h2⟩ := xApp_ok (P := P) (ty := o.type) h
  refine ⟨v, H', h1, fun f w a hr hs => ?_⟩
  obtain ⟨u, u2, e, hu, hu2⟩ := bi_two ho hb hx hs
  obtain ⟨r, w', f', g1, g2, g3⟩ := h2 f w u u2 hr hu hu2
  refine ⟨r, w', f', did_v (s := Builtin.append_ #[t, u0] o.type #[u, u2]) ?_ g1, g2, g3⟩
  have e2 : c.argTypes = #[t, u0] := by
    apply Array.ext'
    rw [hts]
  rw [bi_exec ho hb, e, e2]
  rfl
theorem bi_copy (ho : o.op = .call c) (hb : c.callee = .builtin .copy) {t u0 : TypeId} {s x : Operand} (hts : c.argTypes.toList = [t, u0]) (hx : c.args.toList = [s, x]) {k : AV → AH → Prop} (h : xCopy P t (ρ s) (ρ x) H k) :
    ∃ v H', k v H' ∧ ∀ f w a, HR f H w → Stand f o ρ a → ∃ u w' f', Did P o a w u w' ∧ Step f H w f' H' w' ∧ VR f' v u := by
  obtain ⟨v, H', h1, h2⟩ := xCopy_ok (P := P) (u := u0) (ty := o.type) h
  refine ⟨v, H', h1, fun f w a hr hs => ?_⟩
  obtain ⟨u, u2, e, hu, hu2⟩ := bi_two ho hb hx hs
  obtain ⟨r, w', f', g1, g2, g3⟩ := h2 f w u u2 hr hu hu2
  refine ⟨r, w', f', did_v (s := Builtin.copy_ #[t, u0] o.type #[u, u2]) ?_ g1, g2, g3⟩
  have e2 : c.argTypes = #[t, u0] := by
    apply Array.ext'
    rw [hts]
  rw [bi_exec ho hb, e, e2]
  rfl
theorem bi_max (ho : o.op = .call c) (hb : c.callee = .builtin .max) {x : Operand} {l : List Operand} (hx : c.args.toList = x :: l) {k : AV → Prop} (h : foldK pMax2 (l.map ρ) (ρ x) k) :
    ∃ v, k v ∧ ∀ f w a, HRQ f H.sem w → Stand f o ρ a → ∃ u, Did P o a w u w ∧ VR f v u := by
  obtain ⟨v, h1, h2⟩ := foldK_ok (P := P) (fun a b k => max2_ok) _ _ _ h
  refine ⟨v, h1, fun f w a hr hs => ?_⟩
  obtain ⟨u, us, e, hu, hl⟩ := bi_more ho hb hx hs
  obtain ⟨r, g1, g2⟩ := h2 f u us hu hl
  refine ⟨r, did_v (s := us.foldlM Builtin.max2 u) ?_ (g1 w), g2⟩
  rw [bi_exec ho hb]
  simp only [builtin, Builtin.max_, e]
theorem bi_min (ho : o.op = .call c) (hb : c.callee = .builtin .min) {x : Operand} {l : List Operand} (hx : c.args.toList = x :: l) {k : AV → Prop} (h : foldK pMin2 (l.map ρ) (ρ x) k) :
    ∃ v, k v ∧ ∀ f w a, HRQ f H.sem w → Stand f o ρ a → ∃ u, Did P o a w u w ∧ VR f v u := by
  obtain ⟨v, h1, h2⟩ := foldK_ok (P := P) (fun a b k => min2_ok) _ _ _ h
  refine ⟨v, h1, fun f w a hr hs => ?_⟩
  obtain ⟨u, us, e, hu, hl⟩ := bi_more ho hb hx hs
  obtain ⟨r, g1, g2⟩ := h2 f u us hu hl
  refine ⟨r, did_v (s := us.foldlM Builtin.min2 u) ?_ (g1 w), g2⟩
  rw [bi_exec ho hb]
  simp only [builtin, Builtin.min_, e]
end

theorem fE_eq (l : List AEnt) (k : List AEnt → Prop) : fE l k = k l := by
  induction l generalizing k with
  | nil => rfl
  | cons e l ih => exact ih fun l => k (e :: l)
theorem foundK_out {kt : TypeId} {key : AV} {es : List AEnt} {k : Option Nat → Prop} (h : foundK P kt key es k) : ∃ r, findA P kt key es = some r ∧ k r := by
  unfold foundK at h
  split at h
  · rename_i r e; exact ⟨r, e, h⟩
  · exact h.elim
theorem sMap_out (hr : RepH hs H) {b : Nat} {k : List AEnt → Nat → Prop} (h : sMap D b hs k) : ∃ es cl, H.at b = .map es cl ∧ k es cl := by
  obtain ⟨ht, eh, htr⟩ := hr.tr
  unfold sMap at h
  rw [eh] at h
  obtain ⟨_, so, hso, hk⟩ := acc_get D htr h
  have h := so_odd hso hk
  unfold onMapO at h
  split at h
  · rename_i es cl e; exact ⟨es, cl, e, h⟩
  · exact h.elim
theorem sEnts_out (hr : RepH hs H) {a : AV} {k : List AEnt → Prop} (h : sEnts D a hs k) : ∃ es, MapAt H a es ∧ k es := by
  unfold sEnts at h
  split at h
  · exact ⟨[], .inl ⟨rfl, rfl⟩, h⟩
  · rename_i b
    obtain ⟨es, cl, e, h⟩ := sMap_out hr h
    exact ⟨es, .inr ⟨b, cl, rfl, e⟩, h⟩
  · exact h.elim
theorem sSetO_out (hr : RepH hs H) {b : Nat} {o : AObj} {k : Hs D → Prop} (ho : rO (fun _ _ O => O o) o) (hb : H.at b ≠ .dead) (h : sSetO D b o hs k) : ∃ hs' H', RepH hs' H' ∧ H'.n = H.n ∧ H'.at b = o ∧ (∀ i, i ≠ b → H'.at i = H.at i) ∧ k hs' := by
  obtain ⟨so', ks, g1, g2, g3⟩ := heap_mod hr h
  obtain ⟨hs', H', _, z2, z3, z4, z5, z6⟩ := g3 _ o g2 ho (hr.lt hb)
  exact ⟨hs', H', z2, z3, z4, z5, z6⟩
theorem sUp_out (hr : RepH hs H) {kt : TypeId} {m key x : AV} {k : Hs D → Prop} (h : sUp P D kt m key x hs k) :
    ∃ b es cl r hs' H', m = .map b ∧ H.at b = .map es cl ∧ findA P kt key es = some r ∧ RepH hs' H' ∧ H'.n = H.n ∧ H'.at b = .map (putE es cl key x r) (putCl cl r) ∧ (∀ c, c ≠ b → H'.at c = H.at c) ∧ k hs' := by
  unfold sUp at h
  split at h
  · rename_i b
    obtain ⟨es, cl, e, h⟩ := sMap_out hr h
    obtain ⟨r, hf, h⟩ := foundK_out h
    rw [fE_eq, forceN_eq] at h
    obtain ⟨hs', H', z1, z2, z3, z4, z5⟩ := sSetO_out hr (by exact rfl) (by rw [e]; simp) h
    exact ⟨b, es, cl, r, hs', H', rfl, e, hf, z1, z2, z3, z4, z5⟩
  · exact h.elim
theorem sDel_out (hr : RepH hs H) {kt : TypeId} {m key : AV} {k : Hs D → Prop} (h : sDel P D kt m key hs k) :
    ∃ b es cl r hs' H', m = .map b ∧ H.at b = .map es cl ∧ findA P kt key es = some r ∧ RepH hs' H' ∧ H'.n = H.n ∧ H'.at b = .map (delE es r) cl ∧ (∀ c, c ≠ b → H'.at c = H.at c) ∧ k hs' := by
  unfold sDel at h
  split at h
  · rename_i b
    obtain ⟨es, cl, e, h⟩ := sMap_out hr h
    obtain ⟨r, hf, h⟩ := foundK_out h
    rw [fE_eq] at h
    obtain ⟨hs', H', z1, z2, z3, z4, z5⟩ := sSetO_out hr (by exact rfl) (by rw [e]; simp) h
    exact ⟨b, es, cl, r, hs', H', rfl, e, hf, z1, z2, z3, z4, z5⟩
  · exact h.elim
theorem encSR {a : AV} {S : Nat → Nat → Prop} {O : AV → Prop} (h : enc a False False N1 N1 N2 S N2 N6 NL NL O) : (∃ n x, a = .str n x ∧ S n x) ∨ O a := by
  have g := enc_cases h
  clear h
  rcases g with ⟨_, h⟩ | ⟨_, h⟩ | ⟨n, _, h⟩ | ⟨n, _, h⟩ | ⟨c, n, _, _, h⟩ | ⟨n, x, e, h⟩ | ⟨b, o, _, h⟩ | ⟨b, o, l, c, s, x, _, h⟩ | ⟨l, _, h⟩ | ⟨l, _, h⟩ | ⟨_, h⟩ <;> first | exact h.elim | exact .inl ⟨_, _, e, h⟩ | exact .inr h
theorem lenC_out (he : RepE N d e env) (hr : RepH hs H) {G : Nat} {t ty : TypeId} {x : Operand} {k : V → Hs D → Prop} (h : (lenC P G D d t x ty).run k e hs) : xLen P t (aev G env x) H fun v => k (enc v) hs := by
  unfold lenC at h
  unfold xLen
  split at h
  · rename_i hu
    rw [hu]
    rcases encSR (opdC_out he h) with ⟨n, y, e1, h⟩ | h
    · rw [e1]; exact h
    · unfold onTxt at h
      split at h
      · rename_i n e1; rw [e1]; exact h
      · exact h.elim
  · rename_i el hu
    rw [hu]
    rcases encL' (opdC_out he h) with ⟨b, o, l, c, s, x, e1, h⟩ | ⟨e1, h⟩
    · rw [e1]; exact h
    · rw [e1]; exact h
  · rename_i n el hu
    rw [hu]; exact h
  · rename_i k1 e1 hu
    rw [hu]
    obtain ⟨es, hm, h⟩ := sEnts_out hr (dec_enc (opdC_out he (k := fun a => dec a fun a => sEnts D a hs fun es => forceN es.length fun n => k (fun _ _ h _ _ _ _ _ _ _ _ => h n) hs) h))
    rw [forceN_eq] at h
    rcases hm with ⟨e2, rfl⟩ | ⟨b, cl, e2, hb⟩
    · rw [e2]; exact h
    · rw [e2]
      refine Bt.getK_in (AH.get_of_at hb (by simp)) ?_
      show forceN es.length _
      rw [forceN_eq]
      exact h
  · exact (show False from h).elim
theorem capC_out (he : RepE N d e env) {G : Nat} {t : TypeId} {x : Operand} {k : V → Hs D → Prop} (h : (capC P G D d t x).run k e hs) : xCap P t (aev G env x) fun v => k (enc v) hs := by
  unfold capC at h
  unfold xCap
  split at h
  · rename_i el hu
    rw [hu]
    rcases encL' (opdC_out he h) with ⟨b, o, l, c, s, x, e1, h⟩ | ⟨e1, h⟩
    · rw [e1]; exact h
    · rw [e1]; exact h
  · exact (show False from h).elim
/-- What a built-in one does. -/
theorem builtC_ok (he : RepE N d e env) (hr : RepH hs H) {o : Oper} {c : Call} {b : Builtin} {k : V → Hs D → Prop} (ho : o.op = .call c) (hb' : c.callee = .builtin b)
    (h : (builtC P P.globals.size D d b o.type c.argTypes c.args).run k e hs) : XRes P o (aev P.globals.size env) (newK H) H fun v H' => ∃ hs', RepH hs' H' ∧ k (enc v) hs' := by
  unfold builtC at h
  split at h
  · rename_i t ts0 x hts hx
    obtain ⟨v, h1, h2⟩ := bi_len (ρ := aev P.globals.size env) ho hb' hts hx (lenC_out he hr h)
    exact .same v ⟨hs, hr, h1⟩ h2
  · rename_i t ts0 x hts hx
    obtain ⟨v, h1, h2⟩ := bi_cap (H := H) (ρ := aev P.globals.size env) ho hb' hts hx (capC_out he h)
    exact .same v ⟨hs, hr, h1⟩ h2
  · rename_i t u0 s x hts hx
    have key : xApp P t u0 (aev P.globals.size env s) (aev P.globals.size env x) H fun v H' => ∃ hs', RepH hs' H' ∧ k (enc v) hs' := by
      unfold xApp
      split at h
      · rename_i el el' hu hu'
        rw [hu, hu']
        simp only
        split at h
        · rename_i i z hi hz
          rw [hi, hz]
          obtain ⟨h1, h⟩ := ifO_out h
          rw [Bool.and_eq_true] at h1
          exact bT_in h1.1 (bT_in h1.2 (sApp_out hr (opdC_out he (k := fun b => sApp D i.size i.bytes (enc (aev P.globals.size env s)) b hs k) (opdC_out he h))))
        · exact (show False from h).elim
      · rename_i el kk hu hu'
        rw [hu, hu']
        simp only
        split at h
        · rename_i i z hi hz
          rw [hi, hz]
          obtain ⟨h1, h⟩ := ifO_out h
          rw [Bool.and_eq_true] at h1
          exact bT_in h1.1 (bT_in h1.2 (sAppZ_out hr (opdC_out he (k := fun b => sAppZ D i.size i.bytes z (enc (aev P.globals.size env s)) b hs k) (opdC_out he h))))
        · exact (show False from h).elim
      · rename_i el hu hu'
        rw [hu, hu']
        simp only
        split at h
        · rename_i i z hi hz
          rw [hi, hz]
          obtain ⟨h1, h⟩ := ifO_out h
          rw [Bool.and_eq_true] at h1
          exact bT_in h1.1 (bT_in h1.2 (sAppStr_out hr (opdC_out he (k := fun b => sAppStr D i.size i.bytes (enc (aev P.globals.size env s)) b hs k) (opdC_out he h))))
        · exact (show False from h).elim
      · exact (show False from h).elim
    obtain ⟨v, H', h1, h2⟩ := bi_app (ρ := aev P.globals.size env) ho hb' hts hx key
    exact .turn v H' h1 (by simp only [turns, ho, hb']) h2
  · rename_i t u0 x s hts hx
    have key : xCopy P t (aev P.globals.size env x) (aev P.globals.size env s) H fun v H' => ∃ hs', RepH hs' H' ∧ k (enc v) hs' := by
      unfold xCopy
      split at h
      · rename_i el hu
        rw [hu]
        simp only
        split at h
        · rename_i i hi
          rw [hi]
          obtain ⟨h1, h⟩ := ifO_out h
          have h := opdC_out he (k := fun a => (opdC P.globals.size d s).get (fun b => sCopy D i.size a b hs fun v h => k v h) e) h
          have h := opdC_out he (k := fun b => sCopy D i.size (enc (aev P.globals.size env x)) b hs fun v h => k v h) h
          have h := sCopy_out hr h
          exact bT_in h1 h
        · exact (show False from h).elim
      · exact (show False from h).elim
    obtain ⟨v, H', ⟨hs', hr', h1⟩, h2⟩ := bi_copy (ρ := aev P.globals.size env) ho hb' hts hx key
    exact .turn v H' ⟨hs', hr', h1⟩ (by simp only [turns, ho, hb']) h2
  · rename_i x l hx
    have h := decLC_out he _ (dec_enc (k := fun a => (decLC P.globals.size d l).run (fun l => foldK pMax2 l a fun v => k (encB v).v hs) e) (opdC_out he h))
    obtain ⟨v, h1, h2⟩ := bi_max (ρ := aev P.globals.size env) ho hb' hx h
    exact .same v ⟨hs, hr, h1⟩ h2
  · rename_i x l hx
    have h := decLC_out he _ (dec_enc (k := fun a => (decLC P.globals.size d l).run (fun l => foldK pMin2 l a fun v => k (encB v).v hs) e) (opdC_out he h))
    obtain ⟨v, h1, h2⟩ := bi_min (ρ := aev P.globals.size env) ho hb' hx h
    exact .same v ⟨hs, hr, h1⟩ h2
  · rename_i t ts0 m x hts hx
    split at h
    · rename_i kt et hu
      obtain ⟨hl, h⟩ := ifO_out h
      have h := dec_enc (dec_enc (opdC_out he (k := fun x => dec (enc (aev P.globals.size env m)) fun m => dec x fun x => sDel P D kt m x hs fun h => k (fun _ _ _ _ _ _ _ _ _ h _ => h []) h) (opdC_out he h)))
      obtain ⟨b, es, cl, r, hs', H', em, hb, hf, hr', hn, hnew, hold, h⟩ := sDel_out hr h
      refine .turn (.tup []) H' ⟨hs', hr', h⟩ (by simp only [turns, ho, hb']) fun f w a hr hs => ?_
      obtain ⟨um, uk, eu, hum, huk⟩ := bi_two ho hb' hx hs
      obtain ⟨w', g1, g2⟩ := delete_run (ts := c.argTypes) (ty := o.type) (by rw [← Array.getElem?_toList, hts]; rfl) hu hl hb hf hn hnew hold hr (em ▸ hum) huk
      refine ⟨.tuple #[], w', f, did_v ?_ g1, g2, .tup [] [] .nil⟩
      rw [bi_exec ho hb', eu]
      rfl
    · exact (show False from h).elim
  · exact (show False from h).elim

theorem opC_ok (he : RepE N d e env) (hr : RepH hs H) {o : Oper} {k : V → Hs D → Prop} (h : (opC P P.globals.size D d o).run k e hs) : XRes P o (aev P.globals.size env) (newK H) H fun v H' => ∃ hs', RepH hs' H' ∧ k (enc v) hs' := by
  unfold opC at h
  split at h
  · rename_i x ho
    exact .same _ ⟨hs, hr, opdC_out he h⟩ fun f w a hr hs => ⟨_, .inl (by simp [execOp, ho]), hs x (by simp [ho, Op.operands])⟩
  · rename_i x ho
    exact .same _ ⟨hs, hr, opdC_out he h⟩ fun f w a hr hs => ⟨_, .inl (by simp [execOp, ho]), hs x (by simp [ho, Op.operands])⟩
  · rename_i c x y ho
    have h := opdC_out he h
    have g := enc_cases h
    rcases g with ⟨e1, g⟩ | ⟨e1, g⟩ | ⟨n, _, g⟩ | ⟨n, _, g⟩ | ⟨c, n, _, _, g⟩ | ⟨n, x, _, g⟩ | ⟨b, o, _, g⟩ | ⟨b, o, l, c, s, x, _, g⟩ | ⟨l, e, g⟩ | ⟨l, _, g⟩ | ⟨_, g⟩ <;> try exact g.elim
    · refine .same _ ⟨hs, hr, opdC_out he g⟩ fun f w a hr hs => ⟨_, .inl ?_, hs x (by simp [ho, Op.operands])⟩
      have := hs c (by simp [ho, Op.operands])
      rw [e1] at this
      simp [execOp, ho, this.inv_bool, asBool]
    · refine .same _ ⟨hs, hr, opdC_out he g⟩ fun f w a hr hs => ⟨_, .inl ?_, hs y (by simp [ho, Op.operands])⟩
      have := hs c (by simp [ho, Op.operands])
      rw [e1] at this
      simp [execOp, ho, this.inv_bool, asBool]
  · rename_i t ho
    obtain ⟨ob, vf, h1, h2, h3⟩ := xAlloc_ok (allocC_out hr h)
    refine .new ob vf (by simp [laysB, ho]) h1 h2 fun f w a hs => ?_
    obtain ⟨r, obj, g1, g2⟩ := h3 f w
    exact ⟨r, obj, did_v (by simp only [execOp, ho]) g1, g2⟩
  · rename_i t x ho
    obtain ⟨ob, vf, h1, h2, h3⟩ := xBox_ok (P := P) (t := t) (sBox_out hr (opdC_out he h))
    refine .new ob vf (by simp [laysB, ho]) h1 h2 fun f w a hs => ?_
    obtain ⟨r, obj, g1, g2⟩ := h3 f w _ (hs x (by simp [ho, Op.operands]))
    exact ⟨r, obj, did_v (by simp only [execOp, ho]) g1, g2⟩
  · rename_i t ps ho
    obtain ⟨v, h1, h2⟩ := xBuildX_ok (buildC_out he h)
    refine .same v ⟨hs, hr, h1⟩ fun f w a hr hs => ?_
    obtain ⟨r, g1, g2⟩ := h2 f a.eval (fun x hx => hs x.2 (by simp only [ho, Op.operands]; simp; exact ⟨x.1, by simpa using hx⟩))
    refine ⟨r, did_v ?_ (g1 w), g2⟩
    simp only [execOp, ho]
    congr 2
    apply Array.ext'
    simp
  · rename_i t n ps ho
    obtain ⟨ob, vf, h1, h2, h3⟩ := xBuildS_ok (bslC_out he hr h)
    refine .new ob vf (by simp [laysB, ho]) h1 h2 fun f w a hs => ?_
    obtain ⟨r, obj, g1, g2⟩ := h3 f w a.eval (fun x hx => hs x.2 (by simp only [ho, Op.operands]; simp; exact ⟨x.1, by simpa using hx⟩))
    refine ⟨r, obj, did_v ?_ g1, g2⟩
    simp only [execOp, ho]
    congr 2
    apply Array.ext'
    simp
  · rename_i t x ho
    obtain ⟨v, h1, h2⟩ := xLoad_ok (loadC_out he hr h)
    refine .same v ⟨hs, hr, h1⟩ fun f w a hr hs => ?_
    obtain ⟨r, g1, g2⟩ := h2 f w _ hr (hs x (by simp [ho, Op.operands]))
    exact ⟨r, did_v (by simp only [execOp, ho]) g1, g2⟩
  · rename_i t x y ho
    obtain ⟨H', h1, _, h2⟩ := xStore_ok (storeC_out he hr h)
    refine .turn _ H' h1 (by simp [turns, ho]) fun f w a hr hs => ?_
    obtain ⟨w', g1, g2⟩ := h2 f w _ _ hr (hs x (by simp [ho, Op.operands])) (hs y (by simp [ho, Op.operands]))
    exact ⟨undef, w', f, .inr ⟨by simp [execOp, ho, g1], rfl⟩, g2, VR.undef f⟩
  · rename_i x ho
    have h := opdC_out he h
    have key : k (enc (aev P.globals.size env x)) hs ∧ ((∃ b o, aev P.globals.size env x = .ptr b o) ∨ (∃ g p q, aev P.globals.size env x = .func g p q) ∨ (∃ t v, aev P.globals.size env x = .iface t v)) := by
      have g := enc_cases h
      rcases g with ⟨_, g⟩ | ⟨_, g⟩ | ⟨n, _, g⟩ | ⟨n, _, g⟩ | ⟨c, n, _, _, g⟩ | ⟨n, x, _, g⟩ | ⟨b, o, e1, g⟩ | ⟨b, o, l, c, s, x, _, g⟩ | ⟨l, e, g⟩ | ⟨l, _, g⟩ | ⟨_, g⟩ <;> try exact g.elim
      · exact ⟨g, .inl ⟨b, o, e1⟩⟩
      · exact pNil_out g
    obtain ⟨h1, h2⟩ := key
    refine .same _ ⟨hs, hr, h1⟩ fun f w a hr hs => ?_
    have hx := hs x (by simp [ho, Op.operands])
    refine ⟨_, .inl ?_, hx⟩
    generalize hz : a.eval x = z at hx
    rcases h2 with ⟨b, o', e⟩ | ⟨g, p, q, e⟩ | ⟨t, v, e⟩ <;> rw [e] at hx
    · rw [hx.inv_ptr.1] at hz ⊢
      simp only [execOp, ho, hz]
      rfl
    · cases hx
      simp only [execOp, ho, hz]
      rfl
    · cases hx
      simp only [execOp, ho, hz]
      rfl
  · rename_i op t x y ty ho
    obtain ⟨v, h1, h2⟩ := xBin2_ok (binC_out he hr h)
    refine .same v ⟨hs, hr, h1⟩ fun f w a hr hs => ?_
    obtain ⟨r, g1, g2⟩ := h2 f w _ _ hr (hs x (by simp [ho, Op.operands])) (hs y (by simp [ho, Op.operands])) (fun v e => by rw [e]; rfl) (fun v e => by rw [e]; rfl)
    exact ⟨r, did_v (by simp only [execOp, ho]) g1, g2⟩
  · rename_i op t x ho
    obtain ⟨v, h1, h2⟩ := xUn_ok (unC_out he h)
    refine .same v ⟨hs, hr, h1⟩ fun f w a hr hs => ?_
    obtain ⟨r, g1, g2⟩ := h2 f _ (hs x (by simp [ho, Op.operands]))
    exact ⟨r, did_v (by simp only [execOp, ho]) (g1 w), g2⟩
  · rename_i s t x ho
    obtain ⟨v, h1, h2⟩ := xConv_ok (convC_out he hr h)
    refine .same v ⟨hs, hr, h1.2⟩ fun f w a hr hs => ?_
    obtain ⟨r, g1, g2⟩ := h2 f w _ hr (hs x (by simp [ho, Op.operands]))
    exact ⟨r, did_v (by simp only [execOp, ho]) g1, g2⟩
  · rename_i t x ho
    obtain ⟨h0, h⟩ := ifO_out h
    obtain ⟨v, h1, h2⟩ := xMakeI_ok (P := P) (t := t) (a := aev P.globals.size env x) (k := fun v => k (enc v) hs) (bT_in h0 (dec_enc (k := fun a => k (enc (.iface t a)) hs) (opdC_out he h)))
    refine .same v ⟨hs, hr, h1⟩ fun f w a hr hs => ?_
    obtain ⟨r, g1, g2⟩ := h2 f _ (hs x (by simp [ho, Op.operands]))
    exact ⟨r, did_v (by simp only [execOp, ho]) (g1 w), g2⟩
  · rename_i fn x y ho
    split at h
    · rename_i g
      have h := decLC_out he _ (k := fun m => k (enc (.func g _ m)) hs) (decLC_out he _ (k := fun l => (decLC P.globals.size d y.toList).run (fun m => k (enc (.func g l m)) hs) e) h)
      refine .same _ ⟨hs, hr, h⟩ fun f w a hr hs => ?_
      have h1 : VL f (x.toList.map (aev P.globals.size env)) (x.toList.map a.eval) := VL.ofOperands fun z hz => hs z (by simp [ho, Op.operands]; left; simpa using hz)
      have h2 : VL f (y.toList.map (aev P.globals.size env)) (y.toList.map a.eval) := VL.ofOperands fun z hz => hs z (by simp [ho, Op.operands]; right; simpa using hz)
      refine ⟨.func (.func g) (x.map a.eval) (y.map a.eval), did_v (s := Instr.makeFunc (.func g) (x.map a.eval) (y.map a.eval)) (by simp only [execOp, ho]) rfl, ?_⟩
      have e1 : x.map a.eval = (x.toList.map a.eval).toArray := by apply Array.ext'; simp
      have e2 : y.map a.eval = (y.toList.map a.eval).toArray := by apply Array.ext'; simp
      rw [e1, e2]
      exact .func g _ _ _ _ h1 h2
    · exact (show False from h).elim
  · rename_i t x y ho
    obtain ⟨ob, vf, h1, h2, h3⟩ := xMakeS_ok (mkSC_out he hr h)
    refine .new ob vf (by simp [laysB, ho]) h1 h2 fun f w a hs => ?_
    obtain ⟨r, obj, g1, g2⟩ := h3 f w _ _ (hs x (by simp [ho, Op.operands])) (hs y (by simp [ho, Op.operands]))
    exact ⟨r, obj, did_v (by simp only [execOp, ho]) g1, g2⟩
  · rename_i t x lo hi mx ho
    obtain ⟨v, h1, h2⟩ := xSlice_ok (sliceC_out he h)
    refine .same v ⟨hs, hr, h1⟩ fun f w a hr hs => ?_
    obtain ⟨r, g1, g2⟩ := h2 f _ _ _ _ (hs x (by simp [ho, Op.operands])) (brOf (a := a) fun y e => hs y (by subst e; simp [ho, Op.operands])) (brOf (a := a) fun y e => hs y (by subst e; simp [ho, Op.operands])) (brOf (a := a) fun y e => hs y (by subst e; simp [ho, Op.operands]))
    exact ⟨r, did_v (by simp only [execOp, ho]) (g1 w), g2⟩
  · rename_i t x i ho
    obtain ⟨v, h1, h2⟩ := xFld_ok (fldC_out he h)
    refine .same v ⟨hs, hr, h1⟩ fun f w a hr hs => ?_
    obtain ⟨r, g1, g2⟩ := h2 f _ (hs x (by simp [ho, Op.operands]))
    exact ⟨r, did_v (by simp only [execOp, ho]) (g1 w), g2⟩
  · rename_i t x i ho
    obtain ⟨v, h1, h2⟩ := xField_ok (fieldC_out he h)
    refine .same v ⟨hs, hr, h1⟩ fun f w a hr hs => ?_
    obtain ⟨r, g1, g2⟩ := h2 f _ (hs x (by simp [ho, Op.operands]))
    exact ⟨r, did_v (by simp only [execOp, ho]) (g1 w), g2⟩
  · rename_i t x i ho
    obtain ⟨v, h1, h2⟩ := xIdxAddr_ok (idxAC_out he h)
    refine .same v ⟨hs, hr, h1⟩ fun f w a hr hs => ?_
    obtain ⟨r, g1, g2⟩ := h2 f _ _ (hs x (by simp [ho, Op.operands])) (hs i (by simp [ho, Op.operands]))
    exact ⟨r, did_v (by simp only [execOp, ho]) (g1 w), g2⟩
  · rename_i t x i ho
    obtain ⟨v, h1, h2⟩ := xIndex_ok (idxC_out he h)
    refine .same v ⟨hs, hr, h1⟩ fun f w a hr hs => ?_
    obtain ⟨r, g1, g2⟩ := h2 f _ _ (hs x (by simp [ho, Op.operands])) (hs i (by simp [ho, Op.operands]))
    exact ⟨r, did_v (by simp only [execOp, ho]) (g1 w), g2⟩
  · rename_i x i ho
    obtain ⟨l, e1, h⟩ := encQ (opdC_out he h)
    obtain ⟨v, h1, h2⟩ := xExtract_ok (P := P) (a := aev P.globals.size env x) (i := i) (k := fun v => k (enc v) hs) (by rw [e1]; exact h)
    refine .same v ⟨hs, hr, h1⟩ fun f w a hr hs => ?_
    obtain ⟨r, g1, g2⟩ := h2 f _ (hs x (by simp [ho, Op.operands]))
    exact ⟨r, did_v (by simp only [execOp, ho]) (g1 w), g2⟩
  · rename_i t x ho
    split at h
    · rename_i hu
      obtain ⟨n, y, e1, h⟩ := encS (opdC_out he h)
      obtain ⟨v, H', h1, h2⟩ := xRange_ok (P := P) (t := t) (a := aev P.globals.size env x) (H := H) (k := fun v H' => ∃ hs', RepH hs' H' ∧ k (enc v) hs') (by unfold xRange; rw [hu, e1]; exact rangeS_out hr h)
      refine .turn v H' h1 (by simp [turns, ho]) fun f w a hr hs => ?_
      obtain ⟨r, w', f', g1, g2, g3⟩ := h2 f w _ hr (hs x (by simp [ho, Op.operands]))
      exact ⟨r, w', f', did_v (by simp only [execOp, ho]) g1, g2, g3⟩
    · exact (show False from h).elim
  · rename_i x s ho
    obtain ⟨hs0, h⟩ := ifO_out h
    obtain ⟨v, H', h1, h2⟩ := pNext_ok (P := P) (ty := o.type) (sNext_out hr (opdC_out he h))
    refine .turn v H' h1 (by simp [turns, ho]) fun f w a hr hs => ?_
    obtain ⟨r, w', f', g1, g2, g3⟩ := h2 f w _ hr (hs x (by simp [ho, Op.operands]))
    exact ⟨r, w', f', did_v (by simp only [execOp, ho, hs0]) g1, g2, g3⟩
  · rename_i x t u ok ho
    obtain ⟨v, h1, h2⟩ := xAssert_ok (t := t) (g1_out (opdC_out he h))
    refine .same v ⟨hs, hr, h1⟩ fun f w a hr hs => ?_
    obtain ⟨r, g1, g2⟩ := h2 f _ (hs x (by simp [ho, Op.operands]))
    exact ⟨r, did_v (by simp only [execOp, ho]) (g1 w), g2⟩
  · rename_i t r ho
    unfold mkMapC at h
    split at h
    · obtain ⟨hs', H', z1, z2, _, _, _, z3⟩ := sNew_out hr (o := .map [] 0) rfl h
      refine .new (.map [] 0) (fun b => .map b) (by simp [laysB, ho]) (z1 _ ⟨hs', z2, z3⟩) rfl fun f w a hs => ?_
      exact ⟨_, _, did_v (by simp only [execOp, ho]; rfl) (makeMap_run w), allocMap f w⟩
    · exact (show False from h).elim
  · rename_i t x i ok ho
    unfold lookC at h
    split at h
    · rename_i kt et hu
      split at h
      · rename_i inf hi
        split at h
        · rename_i z hz
          obtain ⟨hl, h⟩ := ifO_out h
          have h := dec_enc (dec_enc (opdC_out he (k := fun key => dec (enc (aev P.globals.size env x)) fun m => dec key fun key => sEnts D m hs fun es => foundK P kt key es fun r => k (encB (lookV ok (absV z) es r)).v hs) (opdC_out he h)))
          obtain ⟨es, hm, h⟩ := sEnts_out hr h
          obtain ⟨r, hf, h⟩ := foundK_out h
          refine .same _ ⟨hs, hr, h⟩ fun f w a hr hs => ?_
          obtain ⟨v, g1, g2⟩ := lookup_run hu hi hz hl hm hf ok hr (hs x (by simp [ho, Op.operands])) (hs i (by simp [ho, Op.operands]))
          exact ⟨v, did_v (by simp only [execOp, ho]) g1, g2⟩
        · exact (show False from h).elim
      · exact (show False from h).elim
    · exact (show False from h).elim
  · rename_i t m key x ho
    unfold mapUpC at h
    split at h
    · rename_i kt et hu
      obtain ⟨hl, h⟩ := ifO_out h
      have h := opdC_out he (k := fun key' => (opdC P.globals.size d x).get (fun x => dec (enc (aev P.globals.size env m)) fun m => dec key' fun key => dec x fun x => sUp P D kt m key x hs fun h => k (fun _ _ _ _ _ _ _ _ _ h _ => h []) h) e) (opdC_out he h)
      have h := dec_enc (dec_enc (dec_enc (opdC_out he (k := fun x => dec (enc (aev P.globals.size env m)) fun m => dec (enc (aev P.globals.size env key)) fun key => dec x fun x => sUp P D kt m key x hs fun h => k (fun _ _ _ _ _ _ _ _ _ h _ => h []) h) h)))
      obtain ⟨b, es, cl, r, hs', H', em, hb, hf, hr', hn, hnew, hold, h⟩ := sUp_out hr h
      refine .turn (.tup []) H' ⟨hs', hr', h⟩ (by simp [turns, ho]) fun f w a hr hs => ?_
      obtain ⟨w', g1, g2⟩ := mapUpdate_run hu hl hb hf hn hnew hold hr (em ▸ hs m (by simp [ho, Op.operands])) (hs key (by simp [ho, Op.operands])) (hs x (by simp [ho, Op.operands]))
      exact ⟨undef, w', f, .inr ⟨by simp [execOp, ho, g1], rfl⟩, g2, VR.undef f⟩
    · exact (show False from h).elim
  · rename_i t m key x ho
    unfold mapUpC at h
    split at h
    · rename_i kt et hu
      obtain ⟨hl, h⟩ := ifO_out h
      have h := opdC_out he (k := fun key' => (opdC P.globals.size d x).get (fun x => dec (enc (aev P.globals.size env m)) fun m => dec key' fun key => dec x fun x => sUp P D kt m key x hs fun h => k (fun _ _ _ _ _ _ _ _ _ h _ => h []) h) e) (opdC_out he h)
      have h := dec_enc (dec_enc (dec_enc (opdC_out he (k := fun x => dec (enc (aev P.globals.size env m)) fun m => dec (enc (aev P.globals.size env key)) fun key => dec x fun x => sUp P D kt m key x hs fun h => k (fun _ _ _ _ _ _ _ _ _ h _ => h []) h) h)))
      obtain ⟨b, es, cl, r, hs', H', em, hb, hf, hr', hn, hnew, hold, h⟩ := sUp_out hr h
      refine .turn (.tup []) H' ⟨hs', hr', h⟩ (by simp [turns, ho]) fun f w a hr hs => ?_
      obtain ⟨w', g1, g2⟩ := mapUpdate_run hu hl hb hf hn hnew hold hr (em ▸ hs m (by simp [ho, Op.operands])) (hs key (by simp [ho, Op.operands])) (hs x (by simp [ho, Op.operands]))
      exact ⟨undef, w', f, .inr ⟨by simp [execOp, ho, g1], rfl⟩, g2, VR.undef f⟩
    · exact (show False from h).elim
  · rename_i c ho
    split at h
    · rename_i b hb
      exact builtC_ok he hr ho hb h
    · exact (show False from h).elim
  · exact (show False from h).elim
end
end Go.X

namespace Go.X
noncomputable section
/-- The first place of a byte from place i on. -/
def ixB (b n : Nat) : Nat → Nat → (Nat → Prop) → Prop → Prop :=
  @Nat.rec (fun _ => Nat → Nat → (Nat → Prop) → Prop → Prop) (fun _ _ _ z => z) (fun _ ih i x f z => bI (Nat.beq (Nat.mod x 256) b) (f i) (forceN (Nat.succ i) fun i' => forceN (Nat.div x 256) fun x' => ih i' x' f z)) n
def ixV (a b : V) (k : V → Prop) : Prop := a False False N1 N1 N2 (fun n x => b False False N1 N1 (fun c m => bT (Nat.beq c 1) (bT (Nat.ble m 255) (ixB m n 0 x (fun i => k (fun _ _ h _ _ _ _ _ _ _ _ => h i)) (k (fun _ _ _ h _ _ _ _ _ _ _ => h 0))))) N2 N2 N6 NL NL NO) N2 N6 NL NL NO
end
/-- Its name: the second row's. -/
def ibName : String := match Extern.BytealgIndexByte.rows with | [_, (n, _)] => n | _ => ""
/-- Is it that function? -/
def isIB (P : Program) (g : Nat) : Bool := match P.funcs[g]? with | some fn => fn.body.isNone && (fn.name == ibName && fn.origin == "") | none => false

theorem find_ib (fn : Func) (h : fn.name = ibName) : Extern.find fn = some Extern.BytealgIndexByte.indexByte := by
  unfold Extern.find
  rw [h]
  kernel_rfl
theorem findNext_ib (fn : Func) (h : fn.name = ibName) (h2 : fn.origin = "") : Extern.findNext fn = none := by
  unfold Extern.findNext
  rw [h, h2]
  kernel_rfl
theorem isIB_run {P : Program} {g : Nat} (h : isIB P g = true) (args : Array Value) (w : World) : (callFunc g args).run P w = ((Extern.BytealgIndexByte.indexByte args).run P w).andThen fun v w' => .ok (.value v) w' := by
  unfold isIB at h
  split at h
  · rename_i fn hf
    rw [Bool.and_eq_true, Bool.and_eq_true] at h
    have h1 : fn.name = ibName := by simpa using h.2.1
    have h2 : fn.origin = "" := by simpa using h.2.2
    refine run_callFunc_indexByte hf ?_ h.1 (findNext_ib fn h1 h2) (find_ib fn h1) args w
    rw [h1]; decide
  · cases h
theorem ixB_out {b : Nat} (hb : b < 256) {f : Nat → Prop} {z : Prop} : ∀ (n i x : Nat), ixB b n i x f z →
    (∃ j, j < n ∧ x / 256 ^ j % 256 = b ∧ (∀ l, l < j → x / 256 ^ l % 256 ≠ b) ∧ f (i + j)) ∨ ((∀ l, l < n → x / 256 ^ l % 256 ≠ b) ∧ z)
  | 0, i, x, h => .inr ⟨fun l hl => absurd hl (by omega), h⟩
  | n + 1, i, x, h => by
    rcases bI_out h with ⟨e, h⟩ | ⟨e, h⟩
    · have e := Nat.eq_of_beq_eq_true e
      exact .inl ⟨0, by omega, by rw [Nat.pow_zero, Nat.div_one]; exact e, fun l hl => absurd hl (by omega), h⟩
    · rw [forceN_eq, forceN_eq] at h
      have hne : x % 256 ≠ b := fun e' => by
        have : Nat.mod x 256 = b := e'
        rw [this, Nat.beq_refl] at e; cases e
      have hp : ∀ l, x / 256 / 256 ^ l = x / 256 ^ (l + 1) := fun l => by rw [Nat.div_div_eq_div_mul, Nat.pow_succ, Nat.mul_comm]
      rcases ixB_out hb n (i + 1) (x / 256) h with ⟨j, h1, h2, h3, h4⟩ | ⟨h1, h2⟩
      · refine .inl ⟨j + 1, by omega, by rw [← hp]; exact h2, fun l hl => ?_, by rw [show i + (j + 1) = i + 1 + j by omega]; exact h4⟩
        cases l with
        | zero => simpa using hne
        | succ l => rw [← hp]; exact h3 l (by omega)
      · refine .inr ⟨fun l hl => ?_, h2⟩
        cases l with
        | zero => simpa using hne
        | succ l => rw [← hp]; exact h1 l (by omega)
theorem firstIdx_find {p : Nat → Bool} : ∀ (n : Nat), (∀ j, j < n → p j = true → (∀ l, l < j → p l = false) → (List.range n).find? p = some j) ∧ ((∀ l, l < n → p l = false) → (List.range n).find? p = none) := by
  intro n
  refine ⟨fun j hj hp hl => ?_, fun h => ?_⟩
  · rw [List.find?_range_eq_some]
    exact ⟨hp, by simpa using hj, fun l hlj => by rw [hl l hlj]; rfl⟩
  · rw [List.find?_eq_none]
    intro x hx
    rw [h x (by simpa using hx)]; simp
theorem ixV_out {P : Program} {a b : AV} {k : V → Prop} (h : ixV (enc a) (enc b) k) : ∃ v, k (enc v) ∧ ∀ f w u1 u2, VR f a u1 → VR f b u2 → ∃ u, (Extern.BytealgIndexByte.indexByte #[u1, u2]).run P w = .ok u w ∧ VR f v u := by
  obtain ⟨n, x, e1, h⟩ := encS h
  rcases encU h with ⟨c, m, _, e2, h⟩ | ⟨_, h⟩
  · obtain ⟨hc, h⟩ := bT_out h
    obtain ⟨hm, hx⟩ := bT_out h
    have hc := Nat.eq_of_beq_eq_true hc
    have hm := Nat.le_of_ble_eq_true hm
    rw [hc] at e2
    have hget : ∀ i, i < n → ((toBA n x)[i]! == (Int.ofNat m).toNat.toUInt8) = (x / 256 ^ i % 256 == m) := fun i hi => by
      have h1 : (toBA n x)[i]? = some (UInt8.ofNat (byteAt x i)) := toBA_get hi
      have h2 : (toBA n x)[i]! = UInt8.ofNat (byteAt x i) := by rw [getElem!_def, h1]
      rw [h2, byteAt_eq, Bool.eq_iff_iff]
      have hlt : x / 256 ^ i % 256 < 256 := Nat.mod_lt _ (by omega)
      simp only [beq_iff_eq]
      constructor
      · intro e
        have := congrArg UInt8.toNat e
        simpa [UInt8.toNat_ofNat', Nat.mod_eq_of_lt hlt, Nat.mod_eq_of_lt (show m < 256 by omega)] using this
      · intro e; rw [e]; rfl
    have hf : ∀ r, (List.range n).find? (fun i => x / 256 ^ i % 256 == m) = r → (List.range (toBA n x).size).find? (fun i => (toBA n x)[i]! == (Int.ofNat m).toNat.toUInt8) = r := fun r hr => by
      rw [toBA_size, ← hr]
      refine find_congr fun i hi => hget i (by simpa using hi)
    rcases ixB_out (by omega) n 0 x hx with ⟨j, h1, h2, h3, h4⟩ | ⟨h1, h2⟩
    · refine ⟨.int 0 (.ofNat j), by rw [Nat.zero_add] at h4; exact h4, fun f w u1 u2 r1 r2 => ?_⟩
      rw [e1] at r1; rw [e2] at r2
      cases r1; cases r2
      refine ⟨.int .i64 j, ?_, .int 0 _⟩
      rw [show kd 1 = .u8 from rfl, run_indexByte_string]
      unfold firstIdx
      rw [hf _ ((firstIdx_find (p := fun i => x / 256 ^ i % 256 == m) n).1 j h1 (by simpa using h2) fun l hl => by simpa using h3 l hl)]
    · refine ⟨.int 0 (.negSucc 0), h2, fun f w u1 u2 r1 r2 => ?_⟩
      rw [e1] at r1; rw [e2] at r2
      cases r1; cases r2
      refine ⟨.int .i64 (-1), ?_, .int 0 _⟩
      rw [show kd 1 = .u8 from rfl, run_indexByte_string]
      unfold firstIdx
      rw [hf _ ((firstIdx_find (p := fun i => x / 256 ^ i % 256 == m) n).2 fun l hl => by simpa using h1 l hl)]
  · exact h.elim
 where
  find_congr {l : List Nat} {p q : Nat → Bool} (h : ∀ i ∈ l, p i = q i) : l.find? p = l.find? q := by
    induction l with
    | nil => rfl
    | cons a l ih =>
      rw [List.find?_cons, List.find?_cons, h a (by simp), ih fun i hi => h i (by simp [hi])]

/-! ### Two words and a carry added -/
def a6Name : String := match Extern.MathBitsCarry.rows with | (n, _) :: _ => n | _ => ""
def a6F : Array Value → Sem Value := match Extern.MathBitsCarry.rows with | (_, e) :: _ => e | _ => fun _ => pure (.bool false)
def isA6 (P : Program) (g : Nat) : Bool := match P.funcs[g]? with | some fn => fn.body.isNone && (fn.name == a6Name && fn.origin == "") | none => false
theorem find_a6 (fn : Func) (h : fn.name = a6Name) : Extern.find fn = some a6F := by
  unfold Extern.find
  rw [h]
  kernel_rfl
theorem findNext_a6 (fn : Func) (h : fn.name = a6Name) (h2 : fn.origin = "") : Extern.findNext fn = none := by
  unfold Extern.findNext
  rw [h, h2]
  kernel_rfl
theorem isA6_run {P : Program} {g : Nat} (h : isA6 P g = true) (args : Array Value) (w : World) : (callFunc g args).run P w = ((a6F args).run P w).andThen fun v w' => .ok (.value v) w' := by
  unfold isA6 at h
  split at h
  · rename_i fn hf
    rw [Bool.and_eq_true, Bool.and_eq_true] at h
    have h1 : fn.name = a6Name := by simpa using h.2.1
    have h2 : fn.origin = "" := by simpa using h.2.2
    refine run_callFunc_extern hf ?_ h.1 (findNext_a6 fn h1 h2) (find_a6 fn h1) args w
    rw [h1]; decide
  · cases h
noncomputable section
def a6V (a b c : V) (k : V → Prop) : Prop := a False False N1 N1 (fun c1 m => b False False N1 N1 (fun c2 n => c False False N1 N1 (fun c3 q => bT (Nat.beq c1 3) (bT (Nat.beq c2 3) (bT (Nat.beq c3 3) (bT (Nat.ble q 1)
  (forceN ((m + n + q) % 18446744073709551616) fun s => forceN ((m + n + q) / 18446744073709551616) fun t => k (fun _ _ _ _ _ _ _ _ _ h _ => h [.int 3 (.ofNat s), .int 3 (.ofNat t)])))))) N2 N2 N6 NL NL NO) N2 N2 N6 NL NL NO) N2 N2 N6 NL NL NO
end
theorem a6F_eq (x y c : Value) : a6F #[x, y, c] = (do
    let p ← (do
      let c := (← asInt c).toNat
      if c > 1 then unsupported (.noEntry ("extern/math/bits." ++ "Add64" ++ ": a carry that is neither 0 nor 1"))
      pure ((← asInt x).toNat, (← asInt y).toNat, c) : Sem (Nat × Nat × Nat))
    pure (Extern.MathBitsCarry.pair ((p.1 + p.2.1 + p.2.2) % Extern.MathBitsCarry.m64) ((p.1 + p.2.1 + p.2.2) / Extern.MathBitsCarry.m64))) := rfl
theorem a6V_out {P : Program} {a b c : AV} {k : V → Prop} (h : a6V (enc a) (enc b) (enc c) k) : ∃ v, k (enc v) ∧ ∀ f w u1 u2 u3, VR f a u1 → VR f b u2 → VR f c u3 → ∃ u, (a6F #[u1, u2, u3]).run P w = .ok u w ∧ VR f v u := by
  rcases encU h with ⟨c1, m, _, e1, y1⟩ | ⟨_, y1⟩
  case inr => exact y1.elim
  rcases encU y1 with ⟨c2, n, _, e2, y2⟩ | ⟨_, y2⟩
  case inr => exact y2.elim
  rcases encU y2 with ⟨c3, q, _, e3, y3⟩ | ⟨_, y3⟩
  case inr => exact y3.elim
  obtain ⟨h1, y4⟩ := bT_out y3
  obtain ⟨h2, y5⟩ := bT_out y4
  obtain ⟨h3, y6⟩ := bT_out y5
  obtain ⟨h4, y7⟩ := bT_out y6
  rw [forceN_eq, forceN_eq] at y7
  have g1 := Nat.eq_of_beq_eq_true h1
  have g2 := Nat.eq_of_beq_eq_true h2
  have g3 := Nat.eq_of_beq_eq_true h3
  have g4 := Nat.le_of_ble_eq_true h4
  generalize hs : (m + n + q) % 18446744073709551616 = s at y7
  generalize ht : (m + n + q) / 18446744073709551616 = t at y7
  refine ⟨.tup [.int 3 (.ofNat s), .int 3 (.ofNat t)], y7, fun f w u1 u2 u3 r1 r2 r3 => ?_⟩
  rw [e1, g1] at r1; rw [e2, g2] at r2; rw [e3, g3] at r3
  cases r1; cases r2; cases r3
  refine ⟨.tuple #[.int .u64 (.ofNat s), .int .u64 (.ofNat t)], ?_, .tup _ [_, _] (.cons _ _ _ _ (.int 3 _) (.cons _ _ _ _ (.int 3 _) .nil))⟩
  have hq : ¬ q > 1 := by omega
  rw [a6F_eq]
  have e3 : ∀ z, (asInt (.int (kd 3) z)).run P w = .ok z w := fun z => rfl
  simp only [Sem.run_bind, e3, Result.andThen_ok]
  rw [if_neg (by simpa using hq)]
  simp only [Sem.run_bind, Sem.run_pure, e3, Result.andThen_ok]
  have em : Extern.MathBitsCarry.m64 = 18446744073709551616 := by decide +kernel
  have ei : ∀ x : Nat, (Int.ofNat x).toNat = x := fun _ => rfl
  rw [em, ei, ei, ei, hs, ht]
  rfl

/-! ### The bytes of a text -/
/-- Is it that conversion? -/
def isSB (P : Program) (s t : TypeId) : Bool := match P.underlying s, P.underlying t with
  | some .string, some (.slice e) => (match P.underlying e with | some (.int .u8) => true | _ => false)
  | _, _ => false
theorem isSB_out {P : Program} {s t : TypeId} (h : isSB P s t = true) : ∃ e, P.underlying s = some .string ∧ P.underlying t = some (.slice e) ∧ P.underlying e = some (.int .u8) := by
  unfold isSB at h
  split at h
  · rename_i e hs ht
    split at h
    · rename_i he; exact ⟨e, hs, ht, he⟩
    · cases h
  · cases h
theorem bytes_step {f : Emb} {H : AH} {w : World} (hr : HR f H w) {n : Nat} {vs : List Value} (hlen : vs.length = n) {c : Bt AV} (hc : ∀ j a, c.get? j = some a → j < n ∧ ∃ v, vs[j]? = some v ∧ VR f a v)
    {H' : AH} (hn : H'.n = H.n + 1) (hnew : H'.at H.n = .cells c n 1) (hold : ∀ b, b ≠ H.n → H'.at b = H.at b) {cap' : Nat} (hcap : n ≤ cap') {rest : List Value} (hrest : rest.length = cap' - n) (e : TypeId) :
    ∃ f', Step f H w f' H' (w.alloc (.cells (vs ++ rest).toArray e ((vs ++ rest).length, (vs ++ rest).length + 1))) ∧ VR f' (.slice H.n 0 n n 1 false) (.slice (some ⟨w.heap.size, 0, none⟩) n cap') := by
  refine alloc_step hr hn hnew hold (by simp [AObj.sem, SObj.own]) (vf := fun b => .slice b 0 n n 1 false) ⟨(vs ++ rest).length, fun i hi => ⟨?_, ?_⟩⟩
  · have hle := f.le_ext hi w.heap.size 0 (vs ++ rest).length
    refine ⟨_, e, _, _, rfl, by simp, by simp [hlen], fun j a hj => ?_, fun _ j hj => by rw [Emb.ext_lim] at hj; rw [Emb.ext_off]; omega, fun h => absurd h (by omega)⟩
    obtain ⟨h1, v, h2, h3⟩ := hc j a hj
    refine ⟨h1, v, ?_, h3.up hle⟩
    rw [Emb.ext_off, Nat.zero_add]
    simp only [List.getElem?_toArray]
    rw [List.getElem?_append_left (by omega), h2]
  · have := VR.slice (f := f.ext i w.heap.size 0 (vs ++ rest).length) i 0 n n 1 false cap' 0 (Emb.ext_dom _ _ _ _ _) (Nat.le_refl _) hcap (fun _ => by rw [Emb.ext_off]) (fun _ => ⟨rfl, by
      rw [Emb.ext_lim, List.length_append, hlen, hrest]; omega⟩)
    rw [Emb.ext_blk] at this
    exact this
theorem bytes_ok {P : Program} {D : Nat} {hs : Hs D} {H : AH} (hr : RepH hs H) {o : Oper} {s t : TypeId} {x : Operand} (ho : o.op = .convert s t x) (ht : isSB P s t = true) {ρ : Operand → AV} {kv : V → Hs D → Prop} {kp : AV → AH → Prop}
    (h : sBytesOf D (enc (ρ x)) hs kv) : ORes P o ρ H (fun v H' => ∃ hs', RepH hs' H' ∧ kv (enc v) hs') kp := by
  obtain ⟨e, hs1, ht1, he1⟩ := isSB_out ht
  have g := sBytesOf_out hr h
  obtain ⟨n, y, e1, g⟩ := onStr_out g
  obtain ⟨c, g, _, h2, h3⟩ := storeL_out _ _ _ _ g
  obtain ⟨hm, g⟩ := bT_out g
  have hlen := bytesL_len n y
  rw [hlen, Nat.zero_add] at g h3
  obtain ⟨H', g, n1, n2, n3⟩ := newK_out g
  refine .val _ H' g fun f w a hr hg hst next Q hn => ?_
  have hx := hst x (by simp [ho, Op.operands])
  rw [e1] at hx
  obtain ⟨ex, hlt⟩ := hx.inv_str
  have hrun := run_bytes_of_string (P := P) w s t e (toBA n y) hs1 ht1 he1
  rw [toBA_size] at hrun
  have hvl := bytesL_VL f n y
  let vs : List Value := (toL n y).map fun (b : UInt8) => Value.int .u8 (b.toNat : Int)
  let rest : List Value := List.replicate (grownCap w n 0 e - n) (Value.int .u8 0)
  have hrow : bytesRow (toBA n y) (grownCap w n 0 e) = (vs ++ rest).toArray := by
    apply Array.ext'
    simp [bytesRow, vs, rest]
  have hl1 : vs.length = n := by simp [vs, toL_length]
  obtain ⟨f', s1, s2⟩ := bytes_step (HRS.drew hr (w.drawn + 1)) (vs := vs) hl1 (c := c) (fun j a hj => by
    rcases Nat.lt_or_ge j n with hj' | hj'
    · have := h2 j (by rw [hlen]; exact hj')
      rw [Nat.zero_add] at this
      rw [this] at hj
      obtain ⟨v, y1, y2⟩ := hvl.get j a hj
      exact ⟨hj', v, y1, y2⟩
    · rw [h3 j (by omega)] at hj; cases hj) n1 n2 n3 (grownCap_ge w n 0 e) (rest := rest) (by simp [rest]) e
  have hdid : Did P o a w (.slice (some ⟨w.heap.size, 0, none⟩) n (grownCap w n 0 e)) (({ w with drawn := w.drawn + 1 } : World).alloc (.cells (vs ++ rest).toArray e ((vs ++ rest).length, (vs ++ rest).length + 1))) := by
    left
    have e2 : execOp a.eval o = (do pure (.value (← convert s t (a.eval x)))) := by simp only [execOp, ho]
    rw [e2, ex]
    simp only [Sem.run_bind, hrun, Result.andThen_ok, Sem.run_pure, hrow]
    simp only [List.size_toArray]
    rfl
  exact wp_of_did hdid (hn f' _ _ (Step.trans hr (Step.drew hr (w.drawn + 1)) s1) s2)
end Go.X

namespace Go.X
noncomputable section
/-- What calls do. -/
abbrev CallF (D : Nat) : Type := Nat → ETr 1 → (V → Hs D → Prop) → (V → Hs D → Prop) → Hs D → Prop
structure ArgC (d : Nat) where
  run : (ETr 1 → Prop) → ETr d → Prop
/-- Up to eight operands: the first branch of a callee's frame. -/
def argsC (G d : Nat) (l : List Operand) : ArgC d :=
  match l with
  | [] => ⟨fun k _ => k fun s => s (fun _ _ _ _ _ _ _ _ _ h _ => h []) (fun _ _ _ _ _ _ _ _ _ h _ => h []) (fun _ _ _ _ _ _ _ _ _ h _ => h []) (fun _ _ _ _ _ _ _ _ _ h _ => h []) (fun _ _ _ _ _ _ _ _ _ h _ => h []) (fun _ _ _ _ _ _ _ _ _ h _ => h []) (fun _ _ _ _ _ _ _ _ _ h _ => h []) (fun _ _ _ _ _ _ _ _ _ h _ => h [])⟩
  | [x0] => ⟨fun k e => (opdC G d x0).get (fun v0 => k fun s => s v0 (fun _ _ _ _ _ _ _ _ _ h _ => h []) (fun _ _ _ _ _ _ _ _ _ h _ => h []) (fun _ _ _ _ _ _ _ _ _ h _ => h []) (fun _ _ _ _ _ _ _ _ _ h _ => h []) (fun _ _ _ _ _ _ _ _ _ h _ => h []) (fun _ _ _ _ _ _ _ _ _ h _ => h []) (fun _ _ _ _ _ _ _ _ _ h _ => h [])) e⟩
  | [x0, x1] => ⟨fun k e => (opdC G d x0).get (fun v0 => (opdC G d x1).get (fun v1 => k fun s => s v0 v1 (fun _ _ _ _ _ _ _ _ _ h _ => h []) (fun _ _ _ _ _ _ _ _ _ h _ => h []) (fun _ _ _ _ _ _ _ _ _ h _ => h []) (fun _ _ _ _ _ _ _ _ _ h _ => h []) (fun _ _ _ _ _ _ _ _ _ h _ => h []) (fun _ _ _ _ _ _ _ _ _ h _ => h [])) e) e⟩
  | [x0, x1, x2] => ⟨fun k e => (opdC G d x0).get (fun v0 => (opdC G d x1).get (fun v1 => (opdC G d x2).get (fun v2 => k fun s => s v0 v1 v2 (fun _ _ _ _ _ _ _ _ _ h _ => h []) (fun _ _ _ _ _ _ _ _ _ h _ => h []) (fun _ _ _ _ _ _ _ _ _ h _ => h []) (fun _ _ _ _ _ _ _ _ _ h _ => h []) (fun _ _ _ _ _ _ _ _ _ h _ => h [])) e) e) e⟩
  | [x0, x1, x2, x3] => ⟨fun k e => (opdC G d x0).get (fun v0 => (opdC G d x1).get (fun v1 => (opdC G d x2).get (fun v2 => (opdC G d x3).get (fun v3 => k fun s => s v0 v1 v2 v3 (fun _ _ _ _ _ _ _ _ _ h _ => h []) (fun _ _ _ _ _ _ _ _ _ h _ => h []) (fun _ _ _ _ _ _ _ _ _ h _ => h []) (fun _ _ _ _ _ _ _ _ _ h _ => h [])) e) e) e) e⟩
  | [x0, x1, x2, x3, x4] => ⟨fun k e => (opdC G d x0).get (fun v0 => (opdC G d x1).get (fun v1 => (opdC G d x2).get (fun v2 => (opdC G d x3).get (fun v3 => (opdC G d x4).get (fun v4 => k fun s => s v0 v1 v2 v3 v4 (fun _ _ _ _ _ _ _ _ _ h _ => h []) (fun _ _ _ _ _ _ _ _ _ h _ => h []) (fun _ _ _ _ _ _ _ _ _ h _ => h [])) e) e) e) e) e⟩
  | [x0, x1, x2, x3, x4, x5] => ⟨fun k e => (opdC G d x0).get (fun v0 => (opdC G d x1).get (fun v1 => (opdC G d x2).get (fun v2 => (opdC G d x3).get (fun v3 => (opdC G d x4).get (fun v4 => (opdC G d x5).get (fun v5 => k fun s => s v0 v1 v2 v3 v4 v5 (fun _ _ _ _ _ _ _ _ _ h _ => h []) (fun _ _ _ _ _ _ _ _ _ h _ => h [])) e) e) e) e) e) e⟩
  | [x0, x1, x2, x3, x4, x5, x6] => ⟨fun k e => (opdC G d x0).get (fun v0 => (opdC G d x1).get (fun v1 => (opdC G d x2).get (fun v2 => (opdC G d x3).get (fun v3 => (opdC G d x4).get (fun v4 => (opdC G d x5).get (fun v5 => (opdC G d x6).get (fun v6 => k fun s => s v0 v1 v2 v3 v4 v5 v6 (fun _ _ _ _ _ _ _ _ _ h _ => h [])) e) e) e) e) e) e) e⟩
  | [x0, x1, x2, x3, x4, x5, x6, x7] => ⟨fun k e => (opdC G d x0).get (fun v0 => (opdC G d x1).get (fun v1 => (opdC G d x2).get (fun v2 => (opdC G d x3).get (fun v3 => (opdC G d x4).get (fun v4 => (opdC G d x5).get (fun v5 => (opdC G d x6).get (fun v6 => (opdC G d x7).get (fun v7 => k fun s => s v0 v1 v2 v3 v4 v5 v6 v7) e) e) e) e) e) e) e) e⟩
  | _ => ⟨fun _ _ => False⟩
def gA (l : List AV) : Nat → VB := @List.rec AV (fun _ => Nat → VB) (fun _ => ⟨(fun _ _ _ _ _ _ _ _ _ h _ => h [])⟩) (fun a _ ih n => @Nat.rec (fun _ => VB) (encB a) (fun m _ => ih m) n) l
/-- The same of plain values. -/
def argsL (l : List AV) (k : ETr 1 → Prop) : Prop := bT (Nat.ble l.length 8) (k fun s => s (gA l 0).v (gA l 1).v (gA l 2).v (gA l 3).v (gA l 4).v (gA l 5).v (gA l 6).v (gA l 7).v)
structure VOp (D d : Nat) where
  run : (V → Hs D → Prop) → (V → Hs D → Prop) → CallF D → ETr d → Hs D → Prop
structure GuC (d : Nat) where
  run : Prop → Prop → ETr d → Prop
/-- A test of what another operation gave. -/
def guC (ops : Array Oper) (N d : Nat) (j : Nat) (want : Bool) : GuC d :=
  match (ops[j]?).bind (·.dst) with
  | some t => @Bool.rec (fun _ => GuC d) ⟨fun _ _ _ => False⟩ (@Bool.rec (fun _ => GuC d)
      ⟨fun x y e => (acc V d t).get (fun v => v y x N1 N1 N2 N2 N2 N6 NL (fun _ => y) NO) e⟩
      ⟨fun x y e => (acc V d t).get (fun v => v x y N1 N1 N2 N2 N2 N6 NL (fun _ => y) NO) e⟩ want) (Nat.ble (Nat.succ t) N)
  | none => ⟨fun _ _ _ => False⟩
/-- Does it call, or panic? -/
def isV (P : Program) (o : Oper) : Bool := match o.op with | .call c => (match c.callee with | .value _ => true | _ => false) | .panic _ => true | .convert s t _ => isSB P s t | _ => false
section
variable (P : Program) (G D d : Nat)
def callC (f : Operand) (l : List Operand) (ty : TypeId) : VOp D d :=
  match f with
  | .func g => @Bool.rec (fun _ => VOp D d) (@Bool.rec (fun _ => VOp D d) (@Bool.rec (fun _ => VOp D d) ⟨fun _ _ _ _ _ => False⟩ (match l with
      | [x, y, z] => ⟨fun kv _ _ e h => (opdC G d x).get (fun a => (opdC G d y).get (fun b => (opdC G d z).get (fun c => a6V a b c fun v => kv v h) e) e) e⟩
      | _ => ⟨fun _ _ _ _ _ => False⟩) (isA6 P g)) (match l with
      | [x, y] => ⟨fun kv _ _ e h => (opdC G d x).get (fun a => (opdC G d y).get (fun b => ixV a b fun v => kv v h) e) e⟩
      | _ => ⟨fun _ _ _ _ _ => False⟩) (isIB P g)) ⟨fun kv kp C e h => (argsC G d l).run (fun a => C g a kv kp h) e⟩ (hasBody P g)
  | f => ⟨fun kv kp C e h => (opdC G d f).get (fun v => v False False N1 N1 N2 N2 N2 N6 NL NL (fun a => onFunc a fun g x y => bT (hasBody P g) ((decLC G d l).run (fun l => argsL (x ++ (l ++ y)) fun a => C g a kv kp h) e))) e⟩
def vopC (o : Oper) : VOp D d :=
  match o.op with
  | .call c => (match c.callee with
    | .value f => callC P G D d f c.args.toList o.type
    | _ => ⟨fun kv _ _ e h => (opC P G D d o).run kv e h⟩)
  | .panic x => ⟨fun _ kp _ e h => (opdC G d x).get (fun v => v False False N1 N1 N2 N2 N2 N6 NL NL (fun a => onIface a (kp v h))) e⟩
  | .convert s t x => @Bool.rec (fun _ => VOp D d) ⟨fun kv _ _ e h => (opC P G D d o).run kv e h⟩ ⟨fun kv _ _ e h => (opdC G d x).get (fun v => sBytesOf D v h kv) e⟩ (isSB P s t)
  | _ => ⟨fun kv _ _ e h => (opC P G D d o).run kv e h⟩
end
/-- What stands still while a function goes: calls, how it ends, how it panics, what is put off. -/
abbrev Fx (D d : Nat) : Type := (CallF D → (ETr d → List ADef → Hs D → Prop) → (V → ETr d → List ADef → Hs D → Prop) → List ADef → Prop) → Prop
abbrev Kn (D d : Nat) : Type := Fx D d → ETr d → Hs D → Prop
def mkF {D d : Nat} (C : CallF D) (kr : ETr d → List ADef → Hs D → Prop) (kp : V → ETr d → List ADef → Hs D → Prop) (ds : List ADef) : Fx D d := fun s => s C kr kp ds
structure RgC (D d : Nat) where
  run : Kn D d → Fx D d → ETr d → Hs D → Prop
section
variable (P : Program) (G D N d : Nat)
def deferC (o : Oper) (f : Operand) (l : List Operand) (rest : RgC D d) : RgC D d :=
  ⟨fun kn F e h => F fun C kr kp ds => (opdC G d f).get (fun v => v False False N1 N1 N2 N2 N2 N6 NL NL (fun a => onFunc a fun g x y => bT (hasBody P g) ((decLC G d l).run (fun l => (putC N d o.dst).run (fun _ _ _ _ _ _ _ _ _ h _ => h []) (fun e => rest.run kn (fun s => s C kr kp (⟨g, x ++ (l ++ y)⟩ :: ds)) e h) e) e))) e⟩
def rgC (ops : Array Oper) (l : List Oper) : RgC D d :=
  @List.rec Oper (fun _ => RgC D d) ⟨fun kn F e h => kn F e h⟩
    (fun o _ ih => match o.guard with
      | none => (match o.op with
        | .defer c => (match c.callee with | .value f => deferC P G D N d o f c.args.toList ih | _ => ⟨fun _ _ _ _ => False⟩)
        | _ => @Bool.rec (fun _ => RgC D d)
            ⟨fun kn F e h => (opC P G D d o).run (fun v h => (putC N d o.dst).run v (fun e => ih.run kn F e h) e) e h⟩
            ⟨fun kn F e h => F fun C _ kp ds => (vopC P G D d o).run (fun v h => (putC N d o.dst).run v (fun e => ih.run kn F e h) e) (fun v h => kp v e ds h) C e h⟩ (isV P o))
      | some (j, want) => @Bool.rec (fun _ => RgC D d) (@Bool.rec (fun _ => RgC D d)
            ⟨fun kn F e h => (guC ops N d j want).run ((opC P G D d o).run (fun v h => (putC N d o.dst).run v (fun e => ih.run kn F e h) e) e h) ((putC N d o.dst).run (fun _ _ _ _ _ _ _ _ _ h _ => h []) (fun e => ih.run kn F e h) e) e⟩
            ⟨fun kn F e h => (guC ops N d j want).run (F fun C _ kp ds => (vopC P G D d o).run (fun v h => (putC N d o.dst).run v (fun e => ih.run kn F e h) e) (fun v h => kp v e ds h) C e h) ((putC N d o.dst).run (fun _ _ _ _ _ _ _ _ _ h _ => h []) (fun e => ih.run kn F e h) e) e⟩ (isV P o))
            ⟨fun _ _ _ _ => False⟩ (isDefer o)) l
end
end

/-! ### The lemmas -/
structure RepA (a : ETr 1) (args : List AV) : Prop where
  le : args.length ≤ 8
  tr : TR (fun v a => v = enc a) 1 a (fun i => args.getD i undefA)
/-- What calls do, they do in the model. -/
def CallFOk (P : Program) {D : Nat} (C : CallF D) : Prop := ∀ g args a kr kp (hs : Hs D) H, hasBody P g = true → RepA a args → RepH hs H → C g a kr kp hs →
  ∃ o H', (∃ hs', RepH hs' H' ∧ match o with | .ret v => kr (enc v) hs' | .pan v => kp (enc v) hs') ∧ ∀ f w (vs : Array Value), HR f H w → (∀ g, g < P.globals.size → f.dom g ∧ f.blk g = g ∧ f.off g = 0) → VL f args vs.toList → Calls P g vs w (CPost f H w o H')
def toCA {D : Nat} (C : CallF D) : CallA := fun g args H K => ∃ a kr kp, ∃ hs : Hs D, RepA a args ∧ RepH hs H ∧ C g a kr kp hs ∧ (∀ v hs' H', RepH hs' H' → kr (enc v) hs' → K (.ret v) H') ∧ ∀ v hs' H', RepH hs' H' → kp (enc v) hs' → K (.pan v) H'
section
variable {P : Program} {D d N : Nat} {e : ETr d} {env : List AV} {hs : Hs D} {H : AH}
theorem toCA_ok {C : CallF D} (hC : CallFOk P C) : CallsOk P (toCA C) := by
  intro g args H K hb h
  obtain ⟨a, kr, kp, hs, h1, h2, h3, h4, h5⟩ := h
  obtain ⟨o, H', ⟨hs', y1, y2⟩, y3⟩ := hC g args a kr kp hs H hb h1 h2 h3
  cases o with
  | ret v => exact ⟨_, H', h4 v hs' H' y1 y2, y3⟩
  | pan v => exact ⟨_, H', h5 v hs' H' y1 y2, y3⟩
theorem RepA.of {args : List AV} (hl : args.length ≤ 8) (c : Nat → V) (hc : ∀ j, j < 8 → c j = enc (args.getD j undefA)) : RepA (nd c) args :=
  ⟨hl, c, rfl, fun j hj => (by
    show c j = enc (args.getD (j * 8 ^ 0 + 0) undefA)
    rw [Nat.pow_zero, Nat.mul_one, Nat.add_zero]
    exact hc j hj)⟩
theorem argsC_out {G : Nat} (he : RepE N d e env) {l : List Operand} {k : ETr 1 → Prop} (h : (argsC G d l).run k e) : ∃ a, RepA a (l.map (aev G env)) ∧ k a := by
  have fin : ∀ (args : List AV), args.length ≤ 8 → k (nd fun j => enc (args.getD j undefA)) → ∃ a, RepA a args ∧ k a := fun args hl h => ⟨_, RepA.of hl _ fun j _ => rfl, h⟩
  refine fin _ ?_ ?_
  · unfold argsC at h
    split at h <;> first | exact (show False from h).elim | simp
  · unfold argsC at h
    split at h
    · exact h
    · exact (opdC_out he h)
    · exact (opdC_out he (opdC_out he h))
    · exact (opdC_out he (opdC_out he (opdC_out he h)))
    · exact (opdC_out he (opdC_out he (opdC_out he (opdC_out he h))))
    · exact (opdC_out he (opdC_out he (opdC_out he (opdC_out he (opdC_out he h)))))
    · exact (opdC_out he (opdC_out he (opdC_out he (opdC_out he (opdC_out he (opdC_out he h))))))
    · exact (opdC_out he (opdC_out he (opdC_out he (opdC_out he (opdC_out he (opdC_out he (opdC_out he h)))))))
    · exact (opdC_out he (opdC_out he (opdC_out he (opdC_out he (opdC_out he (opdC_out he (opdC_out he (opdC_out he h))))))))
    · exact (show False from h).elim
theorem gA_ok : ∀ (l : List AV) (j : Nat), (gA l j).v = enc (l.getD j undefA)
  | [], j => by simp [gA, List.getD]; rfl
  | a :: l, 0 => by simp [gA, List.getD]; rfl
  | a :: l, j + 1 => by
    have := gA_ok l j
    simpa [gA, List.getD] using this
theorem argsL_out {l : List AV} {k : ETr 1 → Prop} (h : argsL l k) : ∃ a, RepA a l ∧ k a := by
  obtain ⟨h1, h⟩ := bT_out h
  exact ⟨nd fun j => (gA l j).v, RepA.of (Nat.le_of_ble_eq_true h1) _ fun j _ => gA_ok l j, h⟩
theorem onInt_mono {a : AV} {k k' : Nat → Int → Prop} (hk : ∀ c z, k c z → k' c z) (h : onInt a k) : onInt a k' := by obtain ⟨c, z, rfl, h⟩ := onInt_out h; exact hk _ _ h
theorem onB_monoY {a : AV} {k k' : Bool → Prop} (hk : ∀ z, k z → k' z) (h : onB a k) : onB a k' := by cases a <;> first | exact h.elim | exact hk _ h
theorem chkT_mono {t : TypeId} {a : AV} {k k' : AV → Prop} (hk : ∀ x, k x → k' x) (h : chkT P t a k) : chkT P t a k' := by
  unfold chkT at h ⊢
  split at h
  · split at h
    · exact bT_monoY (hk _) h
    · exact onInt_mono (fun c z h => bT_monoY (hk _) h) h
  · exact onB_monoY (fun z h => hk _ h) h
  · exact hk _ h
theorem encO {a : AV} {O : AV → Prop} (h : enc a False False N1 N1 N2 N2 N2 N6 NL NL O) : a.odd = true ∧ O a := by
  have g := enc_cases h
  rcases g with ⟨_, g⟩ | ⟨_, g⟩ | ⟨n, _, g⟩ | ⟨n, _, g⟩ | ⟨c, n, _, _, g⟩ | ⟨n, x, _, g⟩ | ⟨b, o, _, g⟩ | ⟨b, o, l, c, s, x, _, g⟩ | ⟨l, _, g⟩ | ⟨l, _, g⟩ | ⟨h0, g⟩ <;> first | exact g.elim | exact ⟨h0, g⟩
abbrev KV (D : Nat) (kv : V → Hs D → Prop) : AV → AH → Prop := fun v H' => ∃ hs', RepH hs' H' ∧ kv (enc v) hs'
theorem vopC_ok {C : CallF D} (hC : CallFOk P C) (he : RepE N d e env) (hr : RepH hs H) {o : Oper} {kv kp : V → Hs D → Prop} (h : (vopC P P.globals.size D d o).run kv kp C e hs) : ORes P o (aev P.globals.size env) H (KV D kv) (KV D kp) := by
  have call : ∀ {c : Call} {fo : Operand} {g : Nat} {x y : List AV} {a : ETr 1}, o.op = .call c → c.callee = .value fo → aev P.globals.size env fo = .func g x y → hasBody P g = true → RepA a (x ++ (c.args.toList.map (aev P.globals.size env) ++ y)) →
      C g a kv kp hs → ORes P o (aev P.globals.size env) H (KV D kv) (KV D kp) := fun {c fo g x y a} ho hc hf hb ha h => by
    have hexec : ∀ {f : Emb} {act : Act} (w : World), Stand f o (aev P.globals.size env) act → ∃ vs : Array Value, VL f (x ++ (c.args.toList.map (aev P.globals.size env) ++ y)) vs.toList ∧ (execOp act.eval o).run P w = .ok (.enter g vs) w := fun {f act} w hs => by
      have hf' := hs fo (by simp [ho, Op.operands, Call.operands, hc])
      rw [hf] at hf'
      have hv : VL f (c.args.toList.map (aev P.globals.size env)) (c.args.toList.map act.eval) := VL.ofOperands fun z hz => hs z (by simp [ho, Op.operands, Call.operands, hc]; right; simpa using hz)
      generalize hz : act.eval fo = z at hf'
      cases hf' with
      | func _ _ _ us ws h1 h2 =>
        refine ⟨us.toArray ++ c.args.map act.eval ++ ws.toArray, by simp only [Array.toList_append, Array.toList_map]; rw [List.append_assoc]; exact h1.append (hv.append h2), ?_⟩
        simp [execOp, ho, resolve, hc, hz, Deferred.ofValue, invoke, run_callFunc hb]
    obtain ⟨co, H', ⟨hs', y1, y2⟩, h2⟩ := hC g _ a _ _ hs H hb ha hr h
    cases co with
    | ret v =>
      refine .val v H' ⟨hs', y1, y2⟩ fun f w a hr hg hs next Q hn => ?_
      obtain ⟨vs, g1, g2⟩ := hexec w hs
      unfold Oper.wp
      rw [g2, Oper.upon_enter]
      refine (h2 f w vs hr hg g1).mono fun e w' hp => ?_
      obtain ⟨f', s, u, rfl, hu⟩ := hp
      exact hn f' w' u s hu
    | pan v =>
      refine .pan v H' ⟨hs', y1, y2⟩ fun f w a hr hg hs next Q hn => ?_
      obtain ⟨vs, g1, g2⟩ := hexec w hs
      unfold Oper.wp
      rw [g2, Oper.upon_enter]
      refine (h2 f w vs hr hg g1).mono fun e w' hp => ?_
      obtain ⟨f', s, ch, rfl, hu⟩ := hp
      exact hn f' w' ch s hu
  unfold vopC at h
  split at h
  · rename_i c ho
    split at h
    · rename_i fo hc
      unfold callC at h
      split at h
      · rename_i g
        cases hb : hasBody P g with
        | false =>
          rw [hb] at h
          cases hi : isIB P g with
          | false =>
            rw [hi] at h
            simp only at h
            cases hi6 : isA6 P g with
            | false => rw [hi6] at h; exact (show False from h).elim
            | true =>
              rw [hi6] at h
              simp only at h
              split at h
              · rename_i x y z hl
                obtain ⟨v, h1, h2⟩ := a6V_out (P := P) (opdC_out he (k := fun c => a6V (enc (aev P.globals.size env x)) (enc (aev P.globals.size env y)) c fun v => kv v hs) (opdC_out he (k := fun b => (opdC P.globals.size d z).get (fun c => a6V (enc (aev P.globals.size env x)) b c fun v => kv v hs) e) (opdC_out he h)))
                refine .val v H ⟨hs, hr, h1⟩ fun f w a hr _ hst next Q hn => ?_
                have hx := hst x (by simp [ho, Op.operands, Call.operands, hc]; right; have : x ∈ c.args.toList := (by rw [hl]; simp); simpa using this)
                have hy := hst y (by simp [ho, Op.operands, Call.operands, hc]; right; have : y ∈ c.args.toList := (by rw [hl]; simp); simpa using this)
                have hz := hst z (by simp [ho, Op.operands, Call.operands, hc]; right; have : z ∈ c.args.toList := (by rw [hl]; simp); simpa using this)
                obtain ⟨u, g1, g2⟩ := h2 f w _ _ _ hx hy hz
                refine wp_of_did (.inl ?_) (hn f w u (Step.refl hr) g2)
                have e1 : c.args.map a.eval = #[a.eval x, a.eval y, a.eval z] := by apply Array.ext'; rw [Array.toList_map, hl]; rfl
                have e2 : (execOp a.eval o).run P w = (callFunc g #[a.eval x, a.eval y, a.eval z]).run P w := by
                  simp [execOp, ho, resolve, hc, Act.eval, Deferred.ofValue, invoke, e1]
                rw [e2, isA6_run hi6, g1]
                rfl
              · exact (show False from h).elim
          | true =>
            rw [hi] at h
            simp only at h
            split at h
            · rename_i x y hl
              obtain ⟨v, h1, h2⟩ := ixV_out (P := P) (opdC_out he (k := fun b => ixV (enc (aev P.globals.size env x)) b fun v => kv v hs) (opdC_out he h))
              refine .val v H ⟨hs, hr, h1⟩ fun f w a hr _ hst next Q hn => ?_
              have hx := hst x (by simp [ho, Op.operands, Call.operands, hc]; right; have : x ∈ c.args.toList := (by rw [hl]; simp); simpa using this)
              have hy := hst y (by simp [ho, Op.operands, Call.operands, hc]; right; have : y ∈ c.args.toList := (by rw [hl]; simp); simpa using this)
              obtain ⟨u, g1, g2⟩ := h2 f w _ _ hx hy
              refine wp_of_did (.inl ?_) (hn f w u (Step.refl hr) g2)
              have e1 : c.args.map a.eval = #[a.eval x, a.eval y] := by apply Array.ext'; rw [Array.toList_map, hl]; rfl
              have e2 : (execOp a.eval o).run P w = (callFunc g #[a.eval x, a.eval y]).run P w := by
                simp [execOp, ho, resolve, hc, Act.eval, Deferred.ofValue, invoke, e1]
              rw [e2, isIB_run hi, g1]
              rfl
            · exact (show False from h).elim
        | true =>
          rw [hb] at h
          obtain ⟨a, ha, h⟩ := argsC_out he h
          exact call (x := []) (y := []) ho hc rfl hb (by simpa using ha) h
      · rename_i fo hne
        obtain ⟨_, h⟩ := encO (opdC_out he h)
        obtain ⟨g, x, y, hf, h⟩ := onFunc_out h
        obtain ⟨hb, h⟩ := bT_out h
        obtain ⟨a, ha, h⟩ := argsL_out (decLC_out he _ h)
        exact call ho hc hf hb ha h
    · exact ores_of_xres (opC_ok he hr h)
  · rename_i x ho
    have h' := opdC_out he h
    obtain ⟨_, h1⟩ := encO h'
    refine runOpV_ok (C := fun _ _ _ _ => False) (fun _ _ _ _ _ h => h.elim) (G := P.globals.size) ?_
    unfold runOpV
    rw [ho]
    simp only
    generalize aev P.globals.size env x = a at h1
    cases a <;> first | exact h1.elim | exact ⟨hs, hr, h1⟩
  · rename_i s t x ho
    cases hb : isSB P s t with
    | false => rw [hb] at h; exact ores_of_xres (opC_ok he hr h)
    | true => rw [hb] at h; exact bytes_ok hr ho hb (opdC_out he h)
  · exact ores_of_xres (opC_ok he hr h)

theorem guC_out (he : RepE N d e env) {ops : Array Oper} {j : Nat} {want : Bool} {x y : Prop} (h : (guC ops N d j want).run x y e) : guardK (gval ops env j) want x y := by
  unfold guC at h
  split at h
  · rename_i t ht
    cases hb : Nat.ble (Nat.succ t) N with
    | false => rw [hb] at h; exact (show False from h).elim
    | true =>
      rw [hb] at h
      have htl : t < env.length := Nat.lt_of_lt_of_le (Nat.le_of_ble_eq_true hb) he.lo
      have hg : gval ops env j = env.getD t undefA := by
        unfold gval
        rw [ht]
        simp [List.getD_eq_getElem?_getD, htl]
      rw [hg]
      cases want with
      | true =>
        obtain ⟨_, v, rfl, hk⟩ := acc_get d he.tr h
        have g := enc_cases hk
        rcases g with ⟨e1, g⟩ | ⟨e1, g⟩ | ⟨n, _, g⟩ | ⟨n, _, g⟩ | ⟨c, n, _, _, g⟩ | ⟨n, x, _, g⟩ | ⟨b, o, _, g⟩ | ⟨b, o, l, c, s, x, _, g⟩ | ⟨l, _, g⟩ | ⟨l, e1, g⟩ | ⟨h0, g⟩ <;> first | exact g.elim | (rw [e1]; exact g)
      | false =>
        obtain ⟨_, v, rfl, hk⟩ := acc_get d he.tr h
        have g := enc_cases hk
        rcases g with ⟨e1, g⟩ | ⟨e1, g⟩ | ⟨n, _, g⟩ | ⟨n, _, g⟩ | ⟨c, n, _, _, g⟩ | ⟨n, x, _, g⟩ | ⟨b, o, _, g⟩ | ⟨b, o, l, c, s, x, _, g⟩ | ⟨l, _, g⟩ | ⟨l, e1, g⟩ | ⟨h0, g⟩ <;> first | exact g.elim | (rw [e1]; exact g)
  · exact (show False from h).elim

/-- How outcomes go on. -/
def KS (N : Nat) (kn : Kn D d) (kx kg : Nat → Kn D d) (C : CallF D) (kr : ETr d → List ADef → Hs D → Prop) (kp : V → ETr d → List ADef → Hs D → Prop) : KT := fun o env ds H => ∃ e hs, RepE N d e env ∧ RepH hs H ∧ match o with
  | .normal => kn (mkF C kr kp ds) e hs
  | .exit i => kx i (mkF C kr kp ds) e hs
  | .goto l => kg l (mkF C kr kp ds) e hs
  | .ret => kr e ds hs
  | .pan v => kp (enc v) e ds hs
theorem rgC_ok {C : CallF D} (hC : CallFOk P C) {kn : Kn D d} {kx kg : Nat → Kn D d} {kr : ETr d → List ADef → Hs D → Prop} {kp : V → ETr d → List ADef → Hs D → Prop} {ops : Array Oper} :
    ∀ (l : List Oper) {e : ETr d} {env : List AV} {ds : List ADef} {hs : Hs D} {H : AH}, RepE N d e env → RepH hs H → (rgC P P.globals.size D N d ops l).run kn (mkF C kr kp ds) e hs →
      SOk P env ds H (KS N kn kx kg C kr kp) fun a w Q => wpList P ops Q l a w
  | [], e, env, ds, hs, H, he, hr, h => ⟨.normal, env, ds, H, ⟨e, hs, he, hr, h⟩, fun f w a hr ha hd Q hQ => wpList_nil (hQ _ _ _ ⟨f, Step.refl hr, ha, hd, rfl⟩)⟩
  | o :: rest, e, env, ds, hs, H, he, hr, h => by
    have next : ∀ {v : AV} {H' : AH}, KV D (fun v h => (putC N d o.dst).run v (fun e => (rgC P P.globals.size D N d ops rest).run kn (mkF C kr kp ds) e h) e) v H' → SOk P (putA env o.dst v) ds H' (KS N kn kx kg C kr kp) fun a w Q => wpList P ops Q rest a w := fun {v H'} h => by
      obtain ⟨hs', hr', h⟩ := h
      obtain ⟨e', he', h⟩ := putC_out he h
      exact rgC_ok hC rest he' hr' h
    have pan : ∀ {v : AV} {H' : AH}, KV D (fun v h => kp v e ds h) v H' → KS N kn kx kg C kr kp (.pan v) env ds H' := fun {v H'} h => by
      obtain ⟨hs', hr', h⟩ := h
      exact ⟨e, hs', he, hr', h⟩
    have go : (@Bool.rec (fun _ => RgC D d)
            ⟨fun kn F e h => (opC P P.globals.size D d o).run (fun v h => (putC N d o.dst).run v (fun e => (rgC P P.globals.size D N d ops rest).run kn F e h) e) e h⟩
            ⟨fun kn F e h => F fun C _ kp ds => (vopC P P.globals.size D d o).run (fun v h => (putC N d o.dst).run v (fun e => (rgC P P.globals.size D N d ops rest).run kn F e h) e) (fun v h => kp v e ds h) C e h⟩ (isV P o)).run kn (mkF C kr kp ds) e hs →
          (∀ f a, AR P f env a → Region.wanted o (yielded ops a.tmps) = true) → SOk P env ds H (KS N kn kx kg C kr kp) fun a w Q => wpList P ops Q (o :: rest) a w := fun h hw => by
      cases hv : isV P o with
      | false =>
        rw [hv] at h
        exact SOk.opV (ores_of_xres (kp := fun v H => KS N kn kx kg C kr kp (.pan v) env ds H) (opC_ok he hr h)) (fun v H' hk => next hk) (fun f a w Q ha hh => wpList_some (hw f a ha) hh)
      | true =>
        rw [hv] at h
        refine SOk.opV (ores_mono (fun _ _ h => h) (fun v H' h => pan h) (vopC_ok hC he hr h)) (fun v H' hk => next hk) (fun f a w Q ha hh => wpList_some (hw f a ha) hh)
    have h : (match o.guard with
      | none => (match o.op with
        | .defer c => (match c.callee with | .value f => deferC P P.globals.size D N d o f c.args.toList (rgC P P.globals.size D N d ops rest) | _ => ⟨fun _ _ _ _ => False⟩)
        | _ => @Bool.rec (fun _ => RgC D d)
            ⟨fun kn F e h => (opC P P.globals.size D d o).run (fun v h => (putC N d o.dst).run v (fun e => (rgC P P.globals.size D N d ops rest).run kn F e h) e) e h⟩
            ⟨fun kn F e h => F fun C _ kp ds => (vopC P P.globals.size D d o).run (fun v h => (putC N d o.dst).run v (fun e => (rgC P P.globals.size D N d ops rest).run kn F e h) e) (fun v h => kp v e ds h) C e h⟩ (isV P o))
      | some (j, want) => @Bool.rec (fun _ => RgC D d) (@Bool.rec (fun _ => RgC D d)
            ⟨fun kn F e h => (guC ops N d j want).run ((opC P P.globals.size D d o).run (fun v h => (putC N d o.dst).run v (fun e => (rgC P P.globals.size D N d ops rest).run kn F e h) e) e h) ((putC N d o.dst).run (fun _ _ _ _ _ _ _ _ _ h _ => h []) (fun e => (rgC P P.globals.size D N d ops rest).run kn F e h) e) e⟩
            ⟨fun kn F e h => (guC ops N d j want).run (F fun C _ kp ds => (vopC P P.globals.size D d o).run (fun v h => (putC N d o.dst).run v (fun e => (rgC P P.globals.size D N d ops rest).run kn F e h) e) (fun v h => kp v e ds h) C e h) ((putC N d o.dst).run (fun _ _ _ _ _ _ _ _ _ h _ => h []) (fun e => (rgC P P.globals.size D N d ops rest).run kn F e h) e) e⟩ (isV P o))
            ⟨fun _ _ _ _ => False⟩ (isDefer o) : RgC D d).run kn (mkF C kr kp ds) e hs := h
    split at h
    · rename_i hg
      have hw : ∀ t, Region.wanted o t = true := fun t => by simp [Region.wanted, hg]
      split at h
      · rename_i c ho
        split at h
        · rename_i fo hc
          obtain ⟨_, h⟩ := encO (opdC_out he h)
          obtain ⟨g, x, y, hf, h⟩ := onFunc_out h
          obtain ⟨hb, h⟩ := bT_out h
          obtain ⟨e', he', h⟩ := putC_out (a := undefA) he (decLC_out he _ h)
          obtain ⟨ot, env', ds', H2, h1, h2⟩ := rgC_ok hC (kx := kx) (kg := kg) rest he' hr h
          refine ⟨ot, env', ds', H2, h1, fun f w a hr ha hd Q hQ => wpList_some (hw _) ?_⟩
          obtain ⟨d', g1, g2⟩ := defer_wp ho hc ha hf w
          unfold Oper.wp
          rw [g1, Oper.upon_defer]
          have ha' : AR P f env { a with defers := d' :: a.defers } := ha.defers _
          refine h2 f w _ hr (ha'.put o.dst (VR.undef f)) ?_ Q hQ
          rw [put_defers]
          exact g2 ds hd
        · exact (show False from h).elim
      · exact go h fun f a _ => hw _
    · rename_i j want hg
      cases hd : isDefer o with
      | true => rw [hd] at h; exact (show False from h).elim
      | false =>
        rw [hd] at h
        have skip : ((putC N d o.dst).run (fun _ _ _ _ _ _ _ _ _ h _ => h []) (fun e => (rgC P P.globals.size D N d ops rest).run kn (mkF C kr kp ds) e hs) e) → (∀ f a, AR P f env a → Region.wanted o (yielded ops a.tmps) = false) →
            SOk P env ds H (KS N kn kx kg C kr kp) fun a w Q => wpList P ops Q (o :: rest) a w := fun h hw => by
          obtain ⟨e', he', h⟩ := putC_out (a := undefA) he h
          obtain ⟨ot, env', ds', H2, h1, h2⟩ := rgC_ok hC (kx := kx) (kg := kg) rest he' hr h
          refine ⟨ot, env', ds', H2, h1, fun f w a hr ha hd Q hQ => wpList_none (hw f a ha) ?_⟩
          exact h2 f w _ hr (ha.put o.dst (VR.undef f)) (by rw [put_defers]; exact hd) Q hQ
        cases hv : isV P o with
        | false =>
          rw [hv] at h go
          rcases gval_ok (P := P) hg (guC_out he h) with ⟨h, hw⟩ | ⟨h, hw⟩
          · exact go h hw
          · exact skip h hw
        | true =>
          rw [hv] at h go
          rcases gval_ok (P := P) hg (guC_out he h) with ⟨h, hw⟩ | ⟨h, hw⟩
          · exact go h hw
          · exact skip h hw
 where
  ores_mono {o : Oper} {ρ : Operand → AV} {H : AH} {k k' kp kp' : AV → AH → Prop} (h1 : ∀ v H, k v H → k' v H) (h2 : ∀ v H, kp v H → kp' v H) (h : ORes P o ρ H k kp) : ORes P o ρ H k' kp' := by
    cases h with
    | val v H' h g => exact .val v H' (h1 _ _ h) g
    | pan v H' h g => exact .pan v H' (h2 _ _ h) g
end
end Go.X

namespace Go.X
noncomputable section
/-- What was read is read again. -/
abbrev RCk (D : Nat) : Type := Hs D → Prop → Prop
structure AnyC (D d : Nat) where
  run : (List Nat → List (RCk D) → ETr d → Hs D → Prop) → CallF D → (V → ETr d → Hs D → Prop) → List (RCk D) → ETr d → Hs D → Prop
structure CkC (D : Nat) where
  run : List (RCk D) → Hs D → Prop → Prop
def ckC (D : Nat) (mask : List Bool) : CkC D :=
  @List.rec Bool (fun _ => CkC D) ⟨fun _ _ x => x⟩ (fun b _ ih => @Bool.rec (fun _ => CkC D)
    ⟨fun l h x => @List.casesOn (RCk D) (fun _ => Prop) l False fun r rs => r h (ih.run rs h x)⟩ ⟨fun l h x => @List.casesOn (RCk D) (fun _ => Prop) l False fun _ rs => ih.run rs h x⟩ b) mask
def maskOf (ms : List (Nat × List Nat)) (i : Nat) (names : List Nat) : List Bool := names.map fun j => (lookM ms i).contains j
def emHB (D : Nat) : TB (TrT SO D) := @Nat.rec (fun d => TB (TrT SO d)) ⟨fun _ _ O => O .dead⟩ (fun _ ih => ⟨fun s => s ih.t ih.t ih.t ih.t ih.t ih.t ih.t ih.t⟩) D
/-- Memory without blocks. -/
def emptyHs (D : Nat) : Hs D := fun s => s (emHB D).t 0
def sameV (v w : V) (x : Prop) : Prop := dec v fun a => dec w fun b => bT (sameAV a b) x
section
variable (P : Program) (G D N d : Nat) (ops : Array Oper) (ms : List (Nat × List Nat))
def anyO (i : Nat) (o : Oper) (names : List Nat) (ih : List Nat → AnyC D d) : AnyC D d :=
  @Bool.rec (fun _ => AnyC D d)
    (@Bool.rec (fun _ => AnyC D d)
      (@Bool.rec (fun _ => AnyC D d)
        (@Bool.rec (fun _ => AnyC D d)
          ⟨fun K C kp chk e h => (opC P G D d o).run (fun v _ => (putC N d o.dst).run v (fun e' => (ih (i :: names)).run K C kp ((fun h1 x => (opC P G D d o).run (fun v2 _ => sameV v2 v x) e h1) :: chk) e' h) e) e h⟩
          ⟨fun K C kp chk e h => (opC P G D d o).run (fun v _ => (putC N d o.dst).run v (fun e => (ih names).run K C kp chk e h) e) e (emptyHs D)⟩ (stillB P o))
        ⟨fun K C kp chk e h => (opC P G D d o).run (fun v h1 => (putC N d o.dst).run v (fun e => (ih names).run K C kp chk e h1) e) e h⟩ (laysB o))
      (@Bool.rec (fun _ => AnyC D d)
        ⟨fun K C kp chk e h => (vopC P G D d o).run (fun v h1 => (ckC D (maskOf ms i names)).run chk h1 ((putC N d o.dst).run v (fun e => (ih names).run K C kp chk e h1) e)) (fun v h1 => kp v e h1) C e h⟩
        ⟨fun _ _ _ _ _ _ => False⟩ (isDefer o)) (turns o))
    ⟨fun K C kp chk e h => (opC P G D d o).run (fun v _ => (putC N d o.dst).run v (fun e => (ih names).run K C kp chk e h) e) e (emptyHs D)⟩ (lateAt ops i)
def anyS (i : Nat) (o : Oper) (names : List Nat) (ih : List Nat → AnyC D d) : AnyC D d :=
  match o.guard with
  | none => anyO P G D N d ops ms i o names ih
  | some (j, want) => ⟨fun K C kp chk e h => (guC ops N d j want).run ((anyO P G D N d ops ms i o names ih).run K C kp chk e h) ((putC N d o.dst).run (fun _ _ _ _ _ _ _ _ _ h _ => h []) (fun e => (ih names).run K C kp chk e h) e) e⟩
def anyC (l : List Nat) : List Nat → AnyC D d :=
  @List.rec Nat (fun _ => List Nat → AnyC D d) (fun names => ⟨fun K _ _ chk e h => K names chk e h⟩)
    (fun i _ ih names => match ops[i]? with | some o => anyS P G D N d ops ms i o names ih | none => ⟨fun _ _ _ _ _ _ => False⟩) l
structure PoC (d : Nat) where
  run : (ETr d → Prop) → ETr d → Prop
def poisC (l : List Oper) : PoC d := @List.rec Oper (fun _ => PoC d) ⟨fun k e => k e⟩ (fun o _ ih => ⟨fun k e => (putC N d o.dst).run (fun _ _ _ _ _ _ _ _ _ _ h => h .pois) (fun e => ih.run k e) e⟩) l
structure PaC (D d : Nat) where
  run : (Hs D → Prop) → List Nat → List (RCk D) → ETr d → Hs D → Prop
/-- Two stores at the end, in either order. -/
def pairE (o1 o2 : Oper) (s1 s2 : Nat) (ms1 ms2 : List (Nat × List Nat)) : PaC D d :=
  match o1.op, o2.op with
  | .store t1 a1 v1, .store t2 a2 v2 => ⟨fun k names chk e h =>
      (storeC P G D d t1 a1 v1).run (fun _ h1 => (ckC D (maskOf ms1 s1 names)).run chk h1 ((storeC P G D d t2 a2 v2).run (fun _ h12 => (ckC D (maskOf ms1 s2 names)).run chk h12
        ((storeC P G D d t2 a2 v2).run (fun _ h2 => (ckC D (maskOf ms2 s2 names)).run chk h2 ((storeC P G D d t1 a1 v1).run (fun _ h21 => (ckC D (maskOf ms2 s1 names)).run chk h21
          ((opdC G d a1).get (fun p => dec p fun p => (opdC G d a2).get (fun q => dec q fun q => apartK P t1 t2 p q (k h12)) e) e)) e h2)) e h)) e h1)) e h⟩
  | _, _ => ⟨fun _ _ _ _ _ => False⟩
def pairR (pre : List Nat) (s1 s2 : Nat) : RgC D d :=
  @Bool.rec (fun _ => RgC D d) ⟨fun _ _ _ _ => False⟩ (match ops[s1]?, ops[s2]? with
    | some o1, some o2 => @Bool.rec (fun _ => RgC D d) ⟨fun _ _ _ _ => False⟩ ⟨fun kn F e h => F fun C _ kp ds => (anyC P G D N d ops (msOf ops) pre []).run
        (fun names chk e h => (pairE P G D d o1 o2 s1 s2 (masks (addE ops s2 s1) (pre ++ [s1, s2]) []) (masks (addE ops s1 s2) (pre ++ [s2, s1]) [])).run (fun h => kn F e h) names chk e h) C (fun v e h => (poisC N d ops.toList).run (fun e => kp v e ds h) e) [] e h⟩ (pairB o1 o2)
    | _, _ => ⟨fun _ _ _ _ => False⟩)
    (drawOkB (addE ops s2 s1) (pre ++ [s1, s2]) (masks (addE ops s2 s1) (pre ++ [s1, s2]) []) && drawOkB (addE ops s1 s2) (pre ++ [s2, s1]) (masks (addE ops s1 s2) (pre ++ [s2, s1]) []))
def last2 : List Nat → Option (List Nat × Nat × Nat)
  | [a, b] => some ([], a, b)
  | x :: l => (match last2 l with | some (p, a, b) => some (x :: p, a, b) | none => none)
  | [] => none
/-- A region whose order is free. -/
def drawC : RgC D d :=
  @Bool.rec (fun _ => RgC D d)
    (match last2 (canon ops) with | some (pre, s1, s2) => pairR P G D N d ops pre s1 s2 | none => ⟨fun _ _ _ _ => False⟩)
    ⟨fun kn F e h => F fun C _ kp ds => (anyC P G D N d ops (msOf ops) (canon ops) []).run (fun _ _ e h => kn F e h) C (fun v e h => (poisC N d ops.toList).run (fun e => kp v e ds h) e) [] e h⟩
    (drawOkB ops (canon ops) (msOf ops))
end
end

/-! ### The lemmas -/
theorem emHB_ok : ∀ (D : Nat) (m : Nat → AObj), (∀ i, m i = .dead) → TR rO D (emHB D).t m
  | 0, m, hm => by show rO _ (m 0); rw [hm]; rfl
  | D + 1, m, hm => ⟨fun _ => (emHB D).t, rfl, fun j _ => emHB_ok D _ fun i => hm _⟩
theorem emptyHs_ok (D : Nat) : RepH (emptyHs D) emptyH := ⟨⟨(emHB D).t, rfl, emHB_ok D _ fun i => by simp [AH.at, emptyH, Bt.get?]⟩, Nat.zero_le _, Full.e⟩
theorem sameV_out {a b : AV} {x : Prop} (h : sameV (enc a) (enc b) x) : sameAV a b = true ∧ x := bT_out (dec_enc (k := fun b => bT (sameAV a b) x) (dec_enc (k := fun a => dec (enc b) fun b => bT (sameAV a b) x) h))
section
variable {P : Program} {D d N : Nat} {ops : Array Oper} {ms : List (Nat × List Nat)}
/-- How what was read stands to what was worked out. -/
inductive CkR (P : Program) (ops : Array Oper) {D : Nat} : List Nat → List (RCk D) → List Chk → Prop
  | nil : CkR P ops [] [] []
  | cons (j : Nat) (o : Oper) (env : List AV) (v : AV) (r : RCk D) (ns : List Nat) (rs : List (RCk D)) (cs : List Chk) : turns o = false → (∀ hs1 H1 x, RepH hs1 H1 → r hs1 x → x ∧ LookAt P ops o env v H1) → CkR P ops ns rs cs → CkR P ops (j :: ns) (r :: rs) ((j, o, env, v) :: cs)
theorem CkR.turns {ns : List Nat} {rs : List (RCk D)} {cs : List Chk} (h : CkR P ops ns rs cs) : ∀ c ∈ cs, Go.X.turns c.2.1 = false := by
  induction h with
  | nil => simp
  | cons j o env v r ns rs cs h1 h2 h3 ih =>
    intro c hc
    rcases List.mem_cons.1 hc with rfl | hc
    · exact h1
    · exact ih c hc
theorem ckC_out {ops' : Array Oper} (L : Like ops ops') (hm : MsOk ops' ms) {i : Nat} {hs1 : Hs D} {H1 : AH} (hr : RepH hs1 H1) {x : Prop} {ns : List Nat} {rs : List (RCk D)} {cs : List Chk} (hc : CkR P ops ns rs cs)
    (h : (ckC D (maskOf ms i ns)).run rs hs1 x) : x ∧ ∀ c ∈ cs, Dep ops' i c.1 ∨ LookAt P ops' c.2.1 c.2.2.1 c.2.2.2 H1 := by
  induction hc with
  | nil => exact ⟨h, by simp⟩
  | cons j o env v r ns rs cs h1 h2 h3 ih =>
    have h : (@Bool.rec (fun _ => CkC D) ⟨fun l h x => @List.casesOn (RCk D) (fun _ => Prop) l False fun r rs => r h ((ckC D (maskOf ms i ns)).run rs h x)⟩ ⟨fun l h x => @List.casesOn (RCk D) (fun _ => Prop) l False fun _ rs => (ckC D (maskOf ms i ns)).run rs h x⟩ ((lookM ms i).contains j)).run (r :: rs) hs1 x := h
    cases hb : (lookM ms i).contains j with
    | true =>
      rw [hb] at h
      obtain ⟨g1, g2⟩ := ih h
      refine ⟨g1, fun c hc => ?_⟩
      rcases List.mem_cons.1 hc with rfl | hc
      · exact .inl (hm _ _ (by simpa using hb))
      · exact g2 c hc
    | false =>
      rw [hb] at h
      obtain ⟨h, hl⟩ := h2 _ _ _ hr h
      obtain ⟨g1, g2⟩ := ih h
      refine ⟨g1, fun c hc => ?_⟩
      rcases List.mem_cons.1 hc with rfl | hc
      · exact .inr (L.look hl)
      · exact g2 c hc

theorem opC_lay {e : ETr d} {env : List AV} {hs : Hs D} {H : AH} (he : RepE N d e env) (hr : RepH hs H) {o : Oper} (hl : laysB o = true) {k : V → Hs D → Prop} (h : (opC P P.globals.size D d o).run k e hs) :
    ∃ ob vf, newK H ob (fun b H' => ∃ hs', RepH hs' H' ∧ k (enc (vf b)) hs') ∧ ob.sem.own = true ∧ ∀ f w a, Stand f o (aev P.globals.size env) a → ∃ u obj, Did P o a w u (w.alloc obj) ∧ AllocR f w ob vf u obj := by
  unfold laysB at hl
  split at hl
  · rename_i t ho
    unfold opC at h
    rw [ho] at h
    obtain ⟨ob, vf, h1, h2, h3⟩ := xAlloc_ok (allocC_out hr h)
    refine ⟨ob, vf, h1, h2, fun f w a hs => ?_⟩
    obtain ⟨r, obj, g1, g2⟩ := h3 f w
    exact ⟨r, obj, did_v (by simp only [execOp, ho]) g1, g2⟩
  · rename_i t x ho
    unfold opC at h
    rw [ho] at h
    obtain ⟨ob, vf, h1, h2, h3⟩ := xBox_ok (P := P) (t := t) (sBox_out hr (opdC_out he h))
    refine ⟨ob, vf, h1, h2, fun f w a hs => ?_⟩
    obtain ⟨r, obj, g1, g2⟩ := h3 f w _ (hs x (by simp [ho, Op.operands]))
    exact ⟨r, obj, did_v (by simp only [execOp, ho]) g1, g2⟩
  · rename_i t n ps ho
    unfold opC at h
    rw [ho] at h
    obtain ⟨ob, vf, h1, h2, h3⟩ := xBuildS_ok (bslC_out he hr h)
    refine ⟨ob, vf, h1, h2, fun f w a hs => ?_⟩
    obtain ⟨r, obj, g1, g2⟩ := h3 f w a.eval (fun x hx => hs x.2 (by simp only [ho, Op.operands]; simp; exact ⟨x.1, by simpa using hx⟩))
    refine ⟨r, obj, did_v ?_ g1, g2⟩
    simp only [execOp, ho]
    congr 2
    apply Array.ext'
    simp
  · rename_i t x y ho
    unfold opC at h
    rw [ho] at h
    obtain ⟨ob, vf, h1, h2, h3⟩ := xMakeS_ok (mkSC_out he hr h)
    refine ⟨ob, vf, h1, h2, fun f w a hs => ?_⟩
    obtain ⟨r, obj, g1, g2⟩ := h3 f w _ _ (hs x (by simp [ho, Op.operands])) (hs y (by simp [ho, Op.operands]))
    exact ⟨r, obj, did_v (by simp only [execOp, ho]) g1, g2⟩
  · rename_i t r ho
    unfold opC at h
    rw [ho] at h
    simp only at h
    unfold mkMapC at h
    split at h
    · obtain ⟨hs', H', z1, z2, _, _, _, z3⟩ := sNew_out hr (o := .map [] 0) rfl h
      refine ⟨.map [] 0, fun b => .map b, z1 _ ⟨hs', z2, z3⟩, rfl, fun f w a hs => ?_⟩
      exact ⟨_, _, did_v (by simp only [execOp, ho]; rfl) (makeMap_run w), allocMap f w⟩
    · exact (show False from h).elim
  · cases hl
theorem opC_look {e : ETr d} {env : List AV} {hs : Hs D} {H : AH} (he : RepE N d e env) (hr : RepH hs H) {o : Oper} (ht : turns o = false) (hl : laysB o = false) {k : V → Hs D → Prop} (h : (opC P P.globals.size D d o).run k e hs) :
    ∃ v, (∃ hs', RepH hs' H ∧ k (enc v) hs') ∧ LookAt P ops o env v H := by
  cases opC_ok he hr h with
  | same v h g => exact ⟨v, h, fun f w a env2 hr ha hs => g f w a hr (hs.stand ha)⟩
  | new ob vf hl' h => rw [hl] at hl'; cases hl'
  | turn v H' h ht' => rw [ht] at ht'; cases ht'
theorem late_turns {i : Nat} {o : Oper} (ho : ops[i]? = some o) (h : lateAt ops i = true) : turns o = false ∧ laysB o = false := by
  unfold lateAt at h
  rw [ho] at h
  simp only at h
  split at h
  · rename_i x e1 e2 e3 hop _ _; simp [turns, laysB, hop]
  · cases h

def KA (N : Nat) (P : Program) (ops : Array Oper) (K : List Nat → List (RCk D) → ETr d → Hs D → Prop) : List Chk → List AV → AH → Prop := fun cs env H => ∃ ns rs e hs, CkR P ops ns rs cs ∧ RepE N d e env ∧ RepH hs H ∧ K ns rs e hs
def KPA (N : Nat) (kp : V → ETr d → Hs D → Prop) : AV → List AV → AH → Prop := fun v env H => ∃ e hs, RepE N d e env ∧ RepH hs H ∧ kp (enc v) e hs
theorem anyC_out {C : CallF D} (hC : CallFOk P C) (hm : MsOk ops ms) {K : List Nat → List (RCk D) → ETr d → Hs D → Prop} {kp : V → ETr d → Hs D → Prop} :
    ∀ (l ns : List Nat) {rs : List (RCk D)} {cs : List Chk} {e : ETr d} {env : List AV} {hs : Hs D} {H : AH}, CkR P ops ns rs cs → RepE N d e env → RepH hs H → (anyC P P.globals.size D N d ops ms l ns).run K C kp rs e hs → Came P ops l cs env H (KA N P ops K) (KPA N kp)
  | [], ns, rs, cs, e, env, hs, H, hc, he, hr, h => .inl ⟨cs, env, H, ⟨ns, rs, e, hs, hc, he, hr, h⟩, hc.turns, fun _ _ _ _ _ _ _ h => h⟩
  | i :: rest, ns, rs, cs, e, env, hs, H, hc, he, hr, h => by
    have h : (match ops[i]? with | some o => anyS P P.globals.size D N d ops ms i o ns (anyC P P.globals.size D N d ops ms rest) | none => ⟨fun _ _ _ _ _ _ => False⟩).run K C kp rs e hs := h
    split at h
    · rename_i o ho
      have key : WantAt P ops o env true → (anyO P P.globals.size D N d ops ms i o ns (anyC P P.globals.size D N d ops ms rest)).run K C kp rs e hs → Came P ops (i :: rest) cs env H (KA N P ops K) (KPA N kp) := fun hw h => by
        unfold anyO at h
        have still : (turns o = false ∧ laysB o = false) → lateAt ops i = false → ((opC P P.globals.size D d o).run (fun v _ => (putC N d o.dst).run v (fun e => (anyC P P.globals.size D N d ops ms rest ns).run K C kp rs e hs) e) e (emptyHs D)) → Came P ops (i :: rest) cs env H (KA N P ops K) (KPA N kp) := fun h1 hla h => by
          obtain ⟨v, ⟨_, _, h⟩, g⟩ := opC_look (ops := ops) he (emptyHs_ok D) h1.1 h1.2 h
          obtain ⟨e', he', h⟩ := putC_out he h
          exact (anyC_out hC hm rest ns hc he' hr h).cons fun ops' L e l r en hh x => .still v (e.trans ho) (by rw [L.late]; exact hla) (L.want hw) (fun H => L.look fun f w a env2 _ ha hs => g f w a env2 (HRQ.empty f w) ha hs) x
        cases hla : lateAt ops i with
        | true =>
          rw [hla] at h
          obtain ⟨h1, h2⟩ := late_turns ho hla
          obtain ⟨v, ⟨_, _, h⟩, g⟩ := opC_look (ops := ops) he (emptyHs_ok D) h1 h2 h
          obtain ⟨e', he', h⟩ := putC_out he h
          refine (anyC_out hC hm rest ns hc he' hr h).cons fun ops' L e l r en hh x => .turn v H (e.trans ho) (by rw [L.turnsAt e]; exact turnsAt_late hla) (L.want hw) (L.turn fun f w a env2 hr ha hs next Q hn => ?_) (.inl rfl) x
          obtain ⟨u, g1, g2⟩ := g f w a env2 (HRQ.empty f w) ha hs
          exact wp_of_did g1 (hn f w u (Step.refl hr) g2)
        | false =>
          rw [hla] at h
          cases htn : turns o with
          | true =>
            rw [htn] at h
            cases hd : isDefer o with
            | true => rw [hd] at h; exact (show False from h).elim
            | false =>
              rw [hd] at h
              cases vopC_ok hC he hr h with
              | val v H1 h g =>
                obtain ⟨hs1, hr1, h⟩ := h
                obtain ⟨h, hck⟩ := ckC_out (.refl ops) hm hr1 hc h
                obtain ⟨e', he', h⟩ := putC_out he h
                exact (anyC_out hC hm rest ns hc he' hr1 h).cons fun ops' L e l r en hh x => .turn v H1 (e.trans ho) (by rw [L.turnsAt e]; exact turnsAt_of ho htn) (L.want hw) (L.turn fun f w a env2 hr ha hs next Q hn => g f w a hr ha.glob (hs.stand ha) next Q hn) (.inr fun c hcm => (hck c hcm).imp L.dep L.look) x
              | pan v H1 h g =>
                obtain ⟨hs1, hr1, h⟩ := h
                exact .inr ⟨v, env, H1, ⟨e, hs1, he, hr1, h⟩, fun ops' L hl tail => .pan v H1 ((hl i (by simp)).trans ho) (by rw [L.turnsAt (hl i (by simp))]; exact turnsAt_of ho htn) (L.want hw) (L.pan fun f w a env2 hr ha hs next Q hn => g f w a hr ha.glob (hs.stand ha) next Q hn)⟩
          | false =>
            rw [htn] at h
            cases hlb : laysB o with
            | true =>
              rw [hlb] at h
              obtain ⟨ob, vf, h, hown, g⟩ := opC_lay he hr hlb h
              obtain ⟨H1, ⟨hs1, hr1, h⟩, g2, g3, g4⟩ := newK_out h
              obtain ⟨e', he', h⟩ := putC_out he h
              exact (anyC_out hC hm rest ns hc he' hr1 h).cons fun ops' L e l r en hh x => .lay ob vf H1 (e.trans ho) (by rw [L.late]; exact hla) (L.want hw) g2 g3 g4 (hr.full.dead (Nat.le_refl _)) hown (L.lay fun f w a env2 ha hs => g f w a (hs.stand ha)) x
            | false =>
              rw [hlb] at h
              cases hsb : stillB P o with
              | true => rw [hsb] at h; exact still ⟨htn, hlb⟩ hla h
              | false =>
                rw [hsb] at h
                obtain ⟨v, ⟨_, _, h⟩, g⟩ := opC_look (ops := ops) he hr htn hlb h
                obtain ⟨e', he', h⟩ := putC_out he h
                refine (anyC_out hC hm rest (i :: ns) (.cons i o env v _ ns rs cs htn (fun hs1 H1 x hr1 hx => ?_) hc) he' hr h).cons fun ops' L e l r en hh x => .look v (e.trans ho) (by rw [L.late]; exact hla) (L.want hw) (L.look g) x
                obtain ⟨v2, ⟨_, _, hx⟩, g2⟩ := opC_look (ops := ops) he hr1 htn hlb hx
                obtain ⟨h1, h2⟩ := sameV_out hx
                rw [sameAV_ok h1] at g2
                exact ⟨h2, g2⟩
      unfold anyS at h
      split at h
      · rename_i hg
        exact key (.of_none hg) h
      · rename_i j want hg
        rcases WantAt.of_guard hg (guC_out he h) with ⟨h, hw⟩ | ⟨h, hw⟩
        · exact key hw h
        · obtain ⟨e', he', h⟩ := putC_out (a := undefA) he h
          exact (anyC_out hC hm rest ns hc he' hr h).cons fun ops' L e l r en hh x => .skip (e.trans ho) (by rw [L.late]; exact lateAt_guard ho hg) (L.want hw) x
    · exact (show False from h).elim

theorem poisC_out : ∀ (l : List Oper) {e : ETr d} {env : List AV} {k : ETr d → Prop}, RepE N d e env → (poisC N d l).run k e → ∃ e', RepE N d e' (l.foldl (fun e o => putA e o.dst .pois) env) ∧ k e'
  | [], e, env, k, he, h => ⟨e, he, h⟩
  | o :: r, e, env, k, he, h => by
    obtain ⟨e', he', h⟩ := putC_out (a := .pois) he h
    exact poisC_out r he' h
theorem last2_ok : ∀ {l p : List Nat} {a b : Nat}, last2 l = some (p, a, b) → l = p ++ [a, b]
  | [], _, _, _, h => by simp [last2] at h
  | [x], _, _, _, h => by simp [last2] at h
  | [x, y], _, _, _, h => by simp only [last2, Option.some.injEq, Prod.mk.injEq] at h; obtain ⟨rfl, rfl, rfl⟩ := h; rfl
  | x :: y :: z :: l, p, a, b, h => by
    unfold last2 at h
    split at h
    · rename_i p' a' b' h'
      simp only [Option.some.injEq, Prod.mk.injEq] at h
      obtain ⟨rfl, rfl, rfl⟩ := h
      rw [last2_ok h']; rfl
    · cases h

theorem poisAll_addE {ops : Array Oper} {j i : Nat} {env : List AV} : poisAll (addE ops j i) env = poisAll ops env := by
  have h : ∀ (l : List Oper), l.foldl (fun e o => putA e o.dst .pois) env = (l.map Oper.dst).foldl (fun e o => putA e o .pois) env := fun l => by rw [List.foldl_map]
  unfold poisAll
  rw [h, h]
  congr 1
  refine List.ext_getElem? fun k => ?_
  rw [List.getElem?_map, List.getElem?_map, Array.getElem?_toList, Array.getElem?_toList, addE_get]
  split
  · cases ops[k]? <;> rfl
  · rfl
theorem pairR_ok (hmx : P.follows .mixedOrders = true) {C : CallF D} (hC : CallFOk P C) {kn : Kn D d} {kx kg : Nat → Kn D d} {kr : ETr d → List ADef → Hs D → Prop} {kp : V → ETr d → List ADef → Hs D → Prop} {pre : List Nat} {s1 s2 : Nat}
    {e : ETr d} {env : List AV} {ds : List ADef} {hs : Hs D} {H : AH} (he : RepE N d e env) (hr : RepH hs H) (h : (pairR P P.globals.size D N d ops pre s1 s2).run kn (mkF C kr kp ds) e hs) {id : Nat} :
    SOk P env ds H (KS N kn kx kg C kr kp) fun a w Q => (Code.region id ops true).wp P Q a w := by
  unfold pairR at h
  cases hok : (drawOkB (addE ops s2 s1) (pre ++ [s1, s2]) (masks (addE ops s2 s1) (pre ++ [s1, s2]) []) && drawOkB (addE ops s1 s2) (pre ++ [s2, s1]) (masks (addE ops s1 s2) (pre ++ [s2, s1]) [])) with
  | false => rw [hok] at h; exact (show False from h).elim
  | true =>
    rw [hok] at h
    rw [Bool.and_eq_true] at hok
    obtain ⟨ok1, ok2⟩ := hok
    simp only at h
    split at h
    case h_2 => exact (show False from h).elim
    rename_i o1 o2 ho1 ho2
    cases hp : pairB o1 o2 with
    | false => rw [hp] at h; exact (show False from h).elim
    | true =>
      rw [hp] at h
      have hms : MsOk ops (msOf ops) := masks_ok _ (MsOk.nil ops)
      have hms1 : MsOk (addE ops s2 s1) (masks (addE ops s2 s1) (pre ++ [s1, s2]) []) := masks_ok _ (MsOk.nil _)
      have hms2 : MsOk (addE ops s1 s2) (masks (addE ops s1 s2) (pre ++ [s2, s1]) []) := masks_ok _ (MsOk.nil _)
      have S1 := drawOkB_ok hms1 ok1
      have S2 := drawOkB_ok hms2 ok2
      have hnod : s1 ≠ s2 ∧ s1 ∉ pre ∧ s2 ∉ pre := by
        have := S1.nod
        rw [List.nodup_append] at this
        obtain ⟨_, h2, h3⟩ := this
        refine ⟨by simpa using h2, fun hp => h3 s1 hp s1 (by simp) rfl, fun hp => h3 s2 hp s2 (by simp) rfl⟩
      have hl1 : s1 < ops.size := by have := S1.lt s1 (by simp); rwa [addE_size] at this
      have hl2 : s2 < ops.size := by have := S1.lt s2 (by simp); rwa [addE_size] at this
      rcases anyC_out hC hms pre [] (.nil) he hr h with ⟨chk, env', H0, hk, hct, g⟩ | ⟨v, env', H', hk, g⟩
      · obtain ⟨ns, rs, e', hs0, hck, he', hr0, hk⟩ := hk
        simp only [pairB, Bool.and_eq_true, Option.isNone_iff_eq_none] at hp
        obtain ⟨⟨⟨hd1, hd2⟩, hg1⟩, hg2⟩ := hp
        unfold pairE at hk
        split at hk
        case h_2 => exact (show False from hk).elim
        rename_i t1 a1 v1 t2 a2 v2 e1 e2
        have ht1 : turns o1 = true := by simp [turns, e1]
        have ht2 : turns o2 = true := by simp [turns, e2]
        have q11 : (addE ops s2 s1)[s1]? = some o1 := by rw [addE_get, if_neg (Ne.symm hnod.1), ho1]
        have q12 : (addE ops s2 s1)[s2]? = some { o2 with after := o2.after.push ⟨s1, .data⟩ } := by rw [addE_get, if_pos rfl, ho2]; rfl
        have q22 : (addE ops s1 s2)[s2]? = some o2 := by rw [addE_get, if_neg hnod.1, ho2]
        have q21 : (addE ops s1 s2)[s1]? = some { o1 with after := o1.after.push ⟨s2, .data⟩ } := by rw [addE_get, if_pos rfl, ho1]; rfl
        obtain ⟨H1, ⟨hs1, hr1, hk⟩, A1, T1⟩ := store_turn (ops := addE ops s2 s1) e1 (storeC_out he' hr0 hk)
        obtain ⟨hk, C1⟩ := ckC_out (addE_like ops s2 s1) hms1 hr1 hck hk
        obtain ⟨H12, ⟨hs12, hr12, hk⟩, A2, T2⟩ := store_turn (ops := addE ops s2 s1) (o := { o2 with after := o2.after.push ⟨s1, .data⟩ }) e2 (storeC_out he' hr1 hk)
        obtain ⟨hk, C2⟩ := ckC_out (addE_like ops s2 s1) hms1 hr12 hck hk
        obtain ⟨H2, ⟨hs2, hr2, hk⟩, A3, T3⟩ := store_turn (ops := addE ops s1 s2) e2 (storeC_out he' hr0 hk)
        obtain ⟨hk, C3⟩ := ckC_out (addE_like ops s1 s2) hms2 hr2 hck hk
        obtain ⟨H21, ⟨hs21, hr21, hk⟩, A4, T4⟩ := store_turn (ops := addE ops s1 s2) (o := { o1 with after := o1.after.push ⟨s2, .data⟩ }) e1 (storeC_out he' hr2 hk)
        obtain ⟨hk, C4⟩ := ckC_out (addE_like ops s1 s2) hms2 hr21 hck hk
        have hk := dec_enc (k := fun q => apartK P t1 t2 (aev P.globals.size env' a1) q (kn (mkF C kr kp ds) e' hs12)) (opdC_out he' (dec_enc (k := fun p => (opdC P.globals.size d a2).get (fun q => dec q fun q => apartK P t1 t2 p q (kn (mkF C kr kp ds) e' hs12)) e') (opdC_out he' hk)))
        obtain ⟨hk, hsem⟩ := stores_swap hk A1 A2 A3 A4
        have gpre1 : ∀ i ∈ pre, (addE ops s2 s1)[i]? = ops[i]? := fun i hi => by rw [addE_get, if_neg (fun e : s2 = i => hnod.2.2 (by rw [e]; exact hi))]
        have gpre2 : ∀ i ∈ pre, (addE ops s1 s2)[i]? = ops[i]? := fun i hi => by rw [addE_get, if_neg (fun e : s1 = i => hnod.2.1 (by rw [e]; exact hi))]
        have put1 : putA env' o1.dst undefA = env' := by rw [hd1]; rfl
        have put2 : putA env' o2.dst undefA = env' := by rw [hd2]; rfl
        have tr1 := g _ (addE_like ops s2 s1) gpre1 [s1, s2] none env' H12 (.turn undefA H1 q11 (turnsAt_of q11 ht1) (.of_none hg1) T1 (.inr C1)
          (by rw [put1]; exact .turn undefA H12 q12 (turnsAt_of q12 ht2) (.of_none hg2) T2 (.inr C2) (by show Tr P _ [] chk (putA env' o2.dst undefA) H12 none env' H12; rw [put2]; exact .nil _ _ _)))
        have tr2 := g _ (addE_like ops s1 s2) gpre2 [s2, s1] none env' H21 (.turn undefA H2 q22 (turnsAt_of q22 ht2) (.of_none hg2) T3 (.inr C3)
          (by rw [put2]; exact .turn undefA H21 q21 (turnsAt_of q21 ht1) (.of_none hg1) T4 (.inr C4) (by show Tr P _ [] chk (putA env' o1.dst undefA) H21 none env' H21; rw [put1]; exact .nil _ _ _)))
        refine ⟨.normal, env', ds, H12, ⟨e', hs12, he', hr12, hk⟩, fun f w a hr ha hd Q hq => wp_region_draw fun t => ?_⟩
        simp only [Region.schedule, hmx, Bool.true_or, if_true]
        have hv := lin_valid (ops := ops) ops.size t (Array.replicate ops.size false)
        generalize hL : Region.linearise.go .any ops ops.size t (Array.replicate ops.size false) [] = L at hv
        show wpOps P ops Q (Region.linearise.go .any ops ops.size t (Array.replicate ops.size false) []) a _
        rw [hL]
        rcases bef hnod.1 L with hb | hb
        · have w1 := any_run S1 tr1 hr ha hd (Q := Q) fun a' w' hx => hq _ _ _ hx
          rw [addE_size] at w1
          exact addE_wpOps ((hv.addE (j := s2) (i := s1) hl1 (by simp) fun L1 L2 e => .inr (hb L1 L2 e)).wp _ _ w1)
        · have w2 := any_run S2 tr2 hr ha hd (Q := Q) fun a' w' hx => hq _ _ _ (by
            unfold XPost at hx ⊢
            obtain ⟨f', s, hx⟩ := hx
            refine ⟨f', ?_, hx⟩
            unfold Step at s ⊢
            rw [hsem]; exact s)
          rw [addE_size] at w2
          exact addE_wpOps ((hv.addE (j := s1) (i := s2) hl2 (by simp) fun L1 L2 e => .inr (hb L1 L2 e)).wp _ _ w2)
      · obtain ⟨e', hs', he', hr', hk⟩ := hk
        obtain ⟨e2, he2, hk⟩ := poisC_out _ he' hk
        have gpre1 : ∀ i ∈ pre, (addE ops s2 s1)[i]? = ops[i]? := fun i hi => by rw [addE_get, if_neg (fun e : s2 = i => hnod.2.2 (by rw [e]; exact hi))]
        have gpre2 : ∀ i ∈ pre, (addE ops s1 s2)[i]? = ops[i]? := fun i hi => by rw [addE_get, if_neg (fun e : s1 = i => hnod.2.1 (by rw [e]; exact hi))]
        have tr1 := g _ (addE_like ops s2 s1) gpre1 [s1, s2]
        have tr2 := g _ (addE_like ops s1 s2) gpre2 [s2, s1]
        refine ⟨.pan v, _, ds, H', ⟨e2, hs', he2, hr', hk⟩, fun f w a hr ha hd Q hq => wp_region_draw fun t => ?_⟩
        simp only [Region.schedule, hmx, Bool.true_or, if_true]
        have hv := lin_valid (ops := ops) ops.size t (Array.replicate ops.size false)
        generalize hL : Region.linearise.go .any ops ops.size t (Array.replicate ops.size false) [] = L at hv
        show wpOps P ops Q (Region.linearise.go .any ops ops.size t (Array.replicate ops.size false) []) a _
        rw [hL]
        rcases bef hnod.1 L with hb | hb
        · have w1 := any_run S1 tr1 hr ha hd (Q := Q) fun ch a' w' hx => hq _ _ _ (by rw [poisAll_addE] at hx; exact hx)
          rw [addE_size] at w1
          exact addE_wpOps ((hv.addE (j := s2) (i := s1) hl1 (by simp) fun L1 L2 e => .inr (hb L1 L2 e)).wp _ _ w1)
        · have w2 := any_run S2 tr2 hr ha hd (Q := Q) fun ch a' w' hx => hq _ _ _ (by rw [poisAll_addE] at hx; exact hx)
          rw [addE_size] at w2
          exact addE_wpOps ((hv.addE (j := s1) (i := s2) hl2 (by simp) fun L1 L2 e => .inr (hb L1 L2 e)).wp _ _ w2)
theorem drawC_ok (hmx : P.follows .mixedOrders = true) {C : CallF D} (hC : CallFOk P C) {kn : Kn D d} {kx kg : Nat → Kn D d} {kr : ETr d → List ADef → Hs D → Prop} {kp : V → ETr d → List ADef → Hs D → Prop}
    {e : ETr d} {env : List AV} {ds : List ADef} {hs : Hs D} {H : AH} (he : RepE N d e env) (hr : RepH hs H) (h : (drawC P P.globals.size D N d ops).run kn (mkF C kr kp ds) e hs) {id : Nat} :
    SOk P env ds H (KS N kn kx kg C kr kp) fun a w Q => (Code.region id ops true).wp P Q a w := by
  unfold drawC at h
  cases hok : drawOkB ops (canon ops) (msOf ops) with
  | false =>
    rw [hok] at h
    simp only at h
    split at h
    · rename_i pre s1 s2 hl
      exact pairR_ok hmx hC he hr h
    · exact (show False from h).elim
  | true =>
    rw [hok] at h
    have hms : MsOk ops (msOf ops) := masks_ok _ (MsOk.nil ops)
    have S := drawOkB_ok hms hok
    rcases anyC_out hC hms _ [] (.nil) he hr h with ⟨chk', env', H', hk, _, g⟩ | ⟨v, env', H', hk, g⟩
    · obtain ⟨ns, rs, e', hs', _, he', hr', hk⟩ := hk
      have tr := g ops (.refl ops) (fun _ _ => rfl) [] _ _ _ (.nil _ _ _)
      rw [List.append_nil] at tr
      exact ⟨.normal, env', ds, H', ⟨e', hs', he', hr', hk⟩, fun f w a hr ha hd Q hq => wp_region_any hmx (any_run S tr hr ha hd fun a' w' hx => hq _ _ _ hx)⟩
    · obtain ⟨e', hs', he', hr', hk⟩ := hk
      obtain ⟨e2, he2, hk⟩ := poisC_out _ he' hk
      have tr := g ops (.refl ops) (fun _ _ => rfl) []
      rw [List.append_nil] at tr
      exact ⟨.pan v, _, ds, H', ⟨e2, hs', he2, hr', hk⟩, fun f w a hr ha hd Q hq => wp_region_any hmx (any_run S tr hr ha hd fun ch a' w' hx => hq _ _ _ hx)⟩
end
end Go.X
