/- 'ScopeChecks': for every input the law returns true, and each argument reads as it did: the statement of the card. No condition. -/
import Derived.Test.YtcedghechlgecaaDoorTa
import Derived.Lib.Space
import Derived.Lib.LaidTab
import Derived.Test.YtcedghechlgecaaDoorCards
import Derived.Test.YtcedghechlgecaaDoorTie
import Derived.Deep.DeepHandedRow
import Derived.Deep.DeepWitnessRowRef
import Derived.ProofKit
import Derived.OpenShut
import Derived.WalkKit
import Derived.ChangeVars
import Derived.LaidLaws
import Derived.Carry
import Derived.ChangeMaps5
import Derived.SevenTiedAt
set_option maxRecDepth 100000
set_option maxHeartbeats 0
set_option linter.unusedVariables false
set_option linter.unusedSimpArgs false
namespace Go.Proofs.YtcedghechlgecaaDoor.KScopeChecks
open Go Go.X Go.Proofs.YtcedghechlgecaaDoor Go.Proofs.YtcedghechlgecaaDoor.G
open Go.ChangeShapes Go.WideShapes Go.ChangeAt Go.RowKit
theorem own:ownKnob Tryd.prog.godebug=none:=by kernel_rfl
theorem laidOut:laidOutB Tryd.prog=true:=by kernel_rfl
def Hh:List Int:=[0,0,0,0,0,0,0,0,0,1,1,1,1,1,0,0,0,0,0,0,0,0,0,0,0,0,0,0,0,0,0,0,1,0,0,0,0,0,0,0,0,0,0,0,0,0,0,0,0,0,0,0,0,0,0,0,0,0,0,0,0,0,0,0,0,0,0,0,0,0,0,0,0,0,0,0,0,0,0,0,0,0,0,0,0,0,0,0,0,0,0,0,0,0,0,0,0,0,0,0,0,0,0,0,0,0,0,0,0,0,0,0,0,0,0,0,0,0,0,0,0,0,0,0,0,0,0,0,0,0,0,0,0,0,0,0,0,0,0,0,0,0,0,0,0,0,0,0,0,0,0,0,0,0,0,0,0,0,0,0,0,0,0,0,0,0,0,0,0,0,0,0,0,0,0,0,0,0,0,0,0,0,0,0,0,0,0,0,0,0,0,0,0,0,0,0,0,0,0,0,0,0,0,0,0,0,0,0,0,0,0,0,0,0,0,0,0,0,0,0,0,0,0,0,0,0,0,0,0,0,0,0,0,0,0,0,0,0,0,0,0,0,0,0,0,0,0,0,0,0,0,0,0,0,0,0]
theorem gT0:Tryd.prog.globalNamed "strings.asciiSpace" = some 0:=by kernel_rfl
theorem asa:(Tryd.prog.globals[0]?).map (·.type)=some 96:=by kernel_rfl
theorem uA0:Tryd.prog.underlying 96=some (.array 256 5):=by kernel_rfl
theorem uE0:Tryd.prog.underlying 5=some (.int .u8):=by kernel_rfl
theorem cE0:Tryd.prog.cellsOf 5=1:=by kernel_rfl
theorem cA0:Tryd.prog.cellsOf 96=256:=by kernel_rfl
theorem apm{W:World}(h:laidMetH Tryd.prog Rows.scopeChecksRow.laid W):∃t fr,W.heap[0]? = some (.cells (Hh.map fun z=>Value.int .u8 z).toArray t fr):=by
 have h':laidMet Tryd.prog Rows.scopeChecksRow.laid W:=h;obtain⟨ps,hp,_⟩:=h';obtain⟨_,_,_,_,_,_,_,_,_,_,hp,_⟩:=hp;obtain⟨g',t',cs',fuel',p',q',hg',ht',hvar,hd,_,_⟩:=hp;obtain rfl:=Option.some.inj (gT0.symm.trans hg');obtain rfl:=Option.some.inj (asa.symm.trans ht');have hd':DataW.trod (fun _=>()) Tryd.prog W 0 (fun _=>true) false fuel' 96 cs'.toList=some (Lib.tabData .u8 Hh,p'):=by
  rw[hd];exact congrArg (fun x=>some (x,p')) (show Rows.laid_strings_asciiSpace=Lib.tabData .u8 Hh by kernel_rfl)
 have h2:W.var? Tryd.prog "strings.asciiSpace" = some (Hh.map fun z=>Value.int .u8 z).toArray:=by
  rw[hvar,←Lib.cells_of_tab uA0 uE0 cE0 cA0 hd']
 simp only[World.var?,gT0,Option.bind_some]at h2;split at h2
 ·rename_i cs t fr hb;cases h2;exact⟨t,fr,hb⟩
 ·cases h2
theorem row0{W:World}(h:laidMetH Tryd.prog Rows.scopeChecksRow.laid W):Rw.at_ W ⟨0,0,Hh.map fun z=>.int 1 z⟩:=by
 obtain⟨t,⟨lo,hi⟩,hb⟩:=apm h;refine⟨_,t,lo,hi,hb,by simp,fun i a hi=>?_⟩;simp only[List.getElem?_map,Option.map_eq_some_iff]at hi;obtain⟨x,hx,rfl⟩:=hi;exact⟨rfl,.int .u8 x,by simp[hx],.int 1 x⟩
theorem apn:(Hh.map fun z=>AV.int 1 z)=tb0:=by kernel_rfl
theorem apo{W:World}(h:laidMetH Tryd.prog Rows.scopeChecksRow.laid W):yq gl W:=fun b z hb=>by
 match b,hb with
 |0,hb=>
  obtain rfl:=Option.some.inj (Option.some.inj hb);have r:=row0 h;rw[apn]at r;exact r
 |1,hb=>cases hb
 |2,hb=>cases hb
 |b+3,hb=>cases hb
theorem apq{F:AV→AV→AH→KF→Prop}{a b:AV}{H:AH}{K:KF}(h:F a b H K):ao [.a,.a] F [a,b] H K:=h
theorem walk{H:Type}{enc:TypeId×Value→H}{W:World}{b1 b2:Nat}{v v':Value}{d d':DataW H}{ps ps':List MemPlace}(hv:Value.okWide Tryd.prog W .any b1 9 v)(hd:DataW.Trod enc Tryd.prog W 0 (fun _=>true) true 9 v d ps)(hv':Value.okWide Tryd.prog W .any b2 9 v')(hd':DataW.Trod enc Tryd.prog W 0 (fun _=>true) true 9 v' d' ps')(ht:yq gl W) :
  Calls Tryd.prog 3 #[v,v'] W fun e W'=>e=.returned (.bool true)∧Below W.heap.size W W':=by
 obtain⟨st,rfl,_,_,_⟩:=Go.ChangeMaps.open_string Tryd.underlying9 hv hd;obtain⟨n,x,e1,e2,_⟩:=TU st;subst e2;obtain⟨l,h8,hl,hx⟩:=JT e1;subst hl;subst hx;obtain⟨st',rfl,_,_,_⟩:=Go.ChangeMaps.open_string Tryd.underlying9 hv' hd';obtain⟨n',x',e1',e2',_⟩:=TU st';subst e2';obtain⟨l',h8',hl',hx'⟩:=JT e1';subst hl';subst hx';exact aim (aqu ajY) (by kernel_rfl) gl [] [ai l,ai l'] (by kernel_rfl) (fun H hM=>apq (ar9 h8 h8' hM (OM _ _) (by decide) fun _=>trivial)) ht (fun r hr=>by simp at hr) (.cons _ _ _ _ (.str _ _ e1) (.cons _ _ _ _ (.str _ _ e1') .nil))
noncomputable def laidWorld(os:Os):World:=
 let w0:=World.holding Tryd.prog os ⟨#[],#[],[]⟩
 { w0 with heap:=((((w0.heap.modify 1 fun
   |.cells _ t frozen=>.cells #[.pointer (some ⟨w0.heap.size+0,0,none⟩)] t frozen
   |o=>o).modify 0 fun
   |.cells _ t frozen=>.cells (Lib.asciiSpaceTab.map fun z=>Value.int .u8 z).toArray t frozen
   |o=>o).push (.cells #[.slice (some ⟨w0.heap.size+1,0,none⟩) 7 7,.slice none 0 0,.int .i64 2] 121)).push (.cells #[.int .u16 9,.int .u16 13,.int .u16 1,.int .u16 32,.int .u16 133,.int .u16 101,.int .u16 160,.int .u16 5760,.int .u16 5600,.int .u16 8192,.int .u16 8202,.int .u16 1,.int .u16 8232,.int .u16 8233,.int .u16 1,.int .u16 8239,.int .u16 8287,.int .u16 48,.int .u16 12288,.int .u16 12288,.int .u16 1] 124)) }
theorem laid_met(os:Os)(args:Array Value):laidMetH Tryd.prog Rows.scopeChecksRow.laid ((laidWorld os).forCall (fun _ _=>0) ⟨#[],args,[]⟩).memory:=
 show laidMet Tryd.prog Rows.scopeChecksRow.laid ((laidWorld os).forCall (fun _ _=>0) ⟨#[],args,[]⟩).memory from laidMet_of_run' 8 (by kernel_rfl) (by kernel_rfl)
theorem witness_row(os:Os){H:Type}(enc:TypeId×Value→H) :
  (OpenSpec.ofChange Rows.scopeChecksSpec).preRow enc Tryd.prog Tryd.f3 Rows.scopeChecksRow.domain false Rows.scopeChecksRow.laid ((laidWorld os).forCall (fun _ _=>0) ⟨#[],#[.string ⟨#[]⟩,.string ⟨#[]⟩],[]⟩).memory #[.string ⟨#[]⟩,.string ⟨#[]⟩]:=by
 have hw:(DataW.whole enc Tryd.prog ((laidWorld os).forCall (fun _ _=>0) ⟨#[],#[.string ⟨#[]⟩,.string ⟨#[]⟩],[]⟩).memory Tryd.f3.params.toList (OpenSpec.ofChange Rows.scopeChecksSpec).vars false (#[.string ⟨#[]⟩,.string ⟨#[]⟩]:Array Value).toList 8).map (fun x=>(x.1,x.2.1)) =
   some ([.lit (.string []),.lit (.string [])],[]):=by kernel_rfl
 obtain⟨⟨x1,x2,x3⟩,hx,hx1⟩:=Option.map_eq_some_iff.1 hw;simp only[Prod.mk.injEq]at hx1;obtain⟨rfl,rfl⟩:=hx1;exact OpenSpec.preRow_of_cond 8 hx (by kernel_rfl) (fun k hk=>by cases hk) (by kernel_rfl) (laid_met os _)
theorem lifted(os:Os)(started:os.Started)(H:Type)(enc:TypeId×Value→H)(F:Stop.Interp) :
  ReturnsInHanded {} Tryd.checked os 3 .any ((OpenSpec.ofChange Rows.scopeChecksSpec).preRow enc Tryd.prog Tryd.f3 Rows.scopeChecksRow.domain false Rows.scopeChecksRow.laid) (((OpenSpec.ofChange Rows.scopeChecksSpec).at F).post enc Tryd.prog Tryd.f3 false true false false):=by
 refine returnsInHanded_of_row (C:=Tryd.checked) (s:=OpenSpec.ofChange Rows.scopeChecksSpec) own started (by kernel_rfl) Tryd.func3
  (witness_row_atRef (enc:=enc) (C:=Tryd.checked) false (laidWorld os) #[.string ⟨#[]⟩,.string ⟨#[]⟩] rfl (by kernel_rfl) (by kernel_rfl) (by kernel_rfl) (witness_row os enc)) ?_
 intro W base args ds gs before hval0 hW _ _ _ hL _ _;have hval:∀(j:Nat) t v,Tryd.f3.params[j]? = some t→args[j]? = some v→Value.okWide Tryd.prog W .any base t v:=hval0;have hW':=hW;obtain⟨p,q,hA0,hV0,rfl,_,_⟩:=hW;have hA:DataW.TrodAll enc Tryd.prog W 0 (fun _=>true) true Tryd.f3.params.toList args.toList ds p:=hA0;rw[Tryd.params3]at hA hval;obtain⟨v0,O4,d0,ds0,p0,q0,hargs,rfl,rfl,h0,r0⟩:=trodAll_cons hA;obtain⟨v1,vs1,d1,ds1,p1,q1,rfl,rfl,rfl,h1,r1⟩:=trodAll_cons r0;obtain⟨rfl,rfl,rfl⟩:=trodAll_nil r1;obtain rfl:args = #[v0,v1]:=by cases args;simp_all
 have k0:=hval 0 9 v0 rfl rfl;have k1:=hval 1 9 v1 rfl rfl;obtain⟨rfl,rfl⟩:=trodVars_none hV0;clear hA0 hV0 hval0;simp only[List.append_nil]at hW';have hlt:=hW'.lt;refine(walk k0 h0 k1 h1 (apo hL)).mono fun e W' ⟨he,bel⟩=>?_;subst he;refine⟨_,rfl,_,_,_,[],_,[],hW',?_,(trodAll_cons_mk (Below.trod laidOut (by kernel_rfl) (of_decide_eq_true (by kernel_rfl)) h0 bel (fun x hx=>hlt x (by simp[hx]))) (trodAll_cons_mk (Below.trod laidOut (by kernel_rfl) (of_decide_eq_true (by kernel_rfl)) h1 bel (fun x hx=>hlt x (by simp[hx]))) trodAll_mk0)),rfl,bel.frame _,fun h=>by cases h⟩;exact trodAll_mk1 (shut_bool Tryd.underlying4 true)
theorem closed:joinedFacts Tryd.pinned.checked.prog 3 Tryd.f3 (OpenSpec.ofChange Rows.scopeChecksSpec).bare Rows.scopeChecksRow=true:=by
 unfold joinedFacts;simp only[Bool.and_eq_true]
 repeat' apply And.intro
 all_goals decide +kernel
theorem holds:Rows.ScopeChecksSaid:=
 OpenClaim.holds_of_cond 3 Tryd.f3 rfl rfl rfl rfl rfl rfl rfl ⟨rfl,rfl,rfl,rfl,rfl⟩ rfl rfl rfl rfl rfl (by decide +kernel) Tryd.func3 closed
  (of_decide_eq_true (by decide +kernel)) (by unfold Func.isWrapper;rw[if_neg (of_decide_eq_false (by decide +kernel))];exact⟨rfl,rfl⟩)
  (fun os started H enc _ F0=>by rw[OpenClaim.pre_eq_preRow];exact lifted os started H enc F0)
theorem proved:Rows.ScopeChecksCardSaid:=
 Claim7.holds_tied_plain_at .later [] [.listed,.data] true (true, "5ccc04e67c6688cfb64492ea3a59a9546e88a400448c7ddc22206f917b19c9e2") true
  holds (fun _ h=>by cases h) (by decide +kernel) (fun _ h=>by cases h) scopeChecks_row_tie rfl ⟨rfl,rfl⟩ (by decide +kernel) rfl
  (fun f fn hf hfn=>by
   obtain rfl:f=3:=Option.some.inj ((show Tryd.prog.funcNamed Rows.scopeChecksRow.func=some 3 by kernel_rfl).symm.trans hf) |>.symm;obtain rfl:fn=Tryd.f3:=(Option.some.inj (Tryd.func3.symm.trans hfn)).symm;exact⟨by decide +kernel,fun j t ht=>by
    rw[Tryd.params3]at ht;have hall:∀x∈([9,9]:List Nat),Tryd.prog.wantsStandIn x=false:=by
     intro x hx;simp only[List.mem_cons,List.mem_nil_iff,or_false]at hx;rcases hx with rfl|rfl
     all_goals decide +kernel
    exact hall t (by have:=Array.mem_of_getElem? ht;simpa using this)⟩)
  (by decide +kernel)
#print axioms proved
end Go.Proofs.YtcedghechlgecaaDoor.KScopeChecks
