/- 'ScopeMany': for every input the law returns true, and each argument reads as it did: the statement of the card. No condition. -/
import Derived.Test.YtcedghechlgecaaDoorTa
import Derived.Lib.Space
import Derived.Lib.LaidTab
import Derived.Test.YtcedghechlgecaaDoorCards
import Derived.Test.YtcedghechlgecaaDoorTie
import Derived.Deep.DeepHandedRow
import Derived.Deep.DeepWitnessRowRef
import Derived.ProofKit
import Derived.OpenShut
import Derived.WalkKit
import Derived.ChangeVars
import Derived.LaidLaws
import Derived.Carry
import Derived.ChangeMaps5
import Derived.SevenTiedAt
set_option maxRecDepth 100000
set_option maxHeartbeats 0
set_option linter.unusedVariables false
set_option linter.unusedSimpArgs false
namespace Go.Proofs.YtcedghechlgecaaDoor.KScopeMany
open Go Go.X Go.Proofs.YtcedghechlgecaaDoor Go.Proofs.YtcedghechlgecaaDoor.G
open Go.ChangeShapes Go.WideShapes Go.ChangeAt Go.RowKit
theorem own:ownKnob Tryd.prog.godebug=none:=by kernel_rfl
def FU:List Int:=[0,0,0,0,0,0,0,0,0,1,1,1,1,1,0,0,0,0,0,0,0,0,0,0,0,0,0,0,0,0,0,0,1,0,0,0,0,0,0,0,0,0,0,0,0,0,0,0,0,0,0,0,0,0,0,0,0,0,0,0,0,0,0,0,0,0,0,0,0,0,0,0,0,0,0,0,0,0,0,0,0,0,0,0,0,0,0,0,0,0,0,0,0,0,0,0,0,0,0,0,0,0,0,0,0,0,0,0,0,0,0,0,0,0,0,0,0,0,0,0,0,0,0,0,0,0,0,0,0,0,0,0,0,0,0,0,0,0,0,0,0,0,0,0,0,0,0,0,0,0,0,0,0,0,0,0,0,0,0,0,0,0,0,0,0,0,0,0,0,0,0,0,0,0,0,0,0,0,0,0,0,0,0,0,0,0,0,0,0,0,0,0,0,0,0,0,0,0,0,0,0,0,0,0,0,0,0,0,0,0,0,0,0,0,0,0,0,0,0,0,0,0,0,0,0,0,0,0,0,0,0,0,0,0,0,0,0,0,0,0,0,0,0,0,0,0,0,0,0,0,0,0,0,0,0,0]
theorem gT0:Tryd.prog.globalNamed "strings.asciiSpace" = some 0:=by kernel_rfl
theorem ars:(Tryd.prog.globals[0]?).map (·.type)=some 96:=by kernel_rfl
theorem uA0:Tryd.prog.underlying 96=some (.array 256 5):=by kernel_rfl
theorem uE0:Tryd.prog.underlying 5=some (.int .u8):=by kernel_rfl
theorem cE0:Tryd.prog.cellsOf 5=1:=by kernel_rfl
theorem cA0:Tryd.prog.cellsOf 96=256:=by kernel_rfl
theorem aoq{W:World}(h:laidMetH Tryd.prog Rows.scopeManyRow.laid W):∃t fr,W.heap[0]? = some (.cells (FU.map fun z=>Value.int .u8 z).toArray t fr):=by
 have h':laidMet Tryd.prog Rows.scopeManyRow.laid W:=h;obtain⟨ps,hp,_⟩:=h';obtain⟨_,_,_,_,_,_,_,_,_,_,hp,_⟩:=hp;obtain⟨g',t',cs',fuel',p',q',hg',ht',hvar,hd,_,_⟩:=hp;obtain rfl:=Option.some.inj (gT0.symm.trans hg');obtain rfl:=Option.some.inj (ars.symm.trans ht');have hd':DataW.trod (fun _=>()) Tryd.prog W 0 (fun _=>true) false fuel' 96 cs'.toList=some (Lib.tabData .u8 FU,p'):=by
  rw[hd];exact congrArg (fun x=>some (x,p')) (show Rows.laid_strings_asciiSpace=Lib.tabData .u8 FU by kernel_rfl)
 have h2:W.var? Tryd.prog "strings.asciiSpace" = some (FU.map fun z=>Value.int .u8 z).toArray:=by
  rw[hvar,←Lib.cells_of_tab uA0 uE0 cE0 cA0 hd']
 simp only[World.var?,gT0,Option.bind_some]at h2;split at h2
 ·rename_i cs t fr hb;cases h2;exact⟨t,fr,hb⟩
 ·cases h2
theorem row0{W:World}(h:laidMetH Tryd.prog Rows.scopeManyRow.laid W):Rw.at_ W ⟨0,0,FU.map fun z=>.int 1 z⟩:=by
 obtain⟨t,⟨lo,hi⟩,hb⟩:=aoq h;refine⟨_,t,lo,hi,hb,by simp,fun i a hi=>?_⟩;simp only[List.getElem?_map,Option.map_eq_some_iff]at hi;obtain⟨x,hx,rfl⟩:=hi;exact⟨rfl,.int .u8 x,by simp[hx],.int 1 x⟩
theorem aor:(FU.map fun z=>AV.int 1 z)=tb0:=by kernel_rfl
theorem aos{W:World}(h:laidMetH Tryd.prog Rows.scopeManyRow.laid W):xL gl W:=fun b z hb=>by
 match b,hb with
 |0,hb=>
  obtain rfl:=Option.some.inj (Option.some.inj hb);have r:=row0 h;rw[aor]at r;exact r
 |1,hb=>cases hb
 |2,hb=>cases hb
 |b+3,hb=>cases hb
theorem aot{F:Int→Bool→Int→AH→KF→Prop}{b:Bool}{y z:Int}{H:AH}{K:KF}(h:F y b z H K):aw [.i 0,.b,.i 0] F [.int 0 y,.bool b,.int 0 z] H K:=h
theorem walk{W:World}{a0:Int}(w0:(Lit.int .i64 a0).wf=true)(a1:Bool){a2:Int}(w2:(Lit.int .i64 a2).wf=true)(ht:xL gl W) :
  Calls Tryd.prog 5 #[.int .i64 a0,.bool a1,.int .i64 a2] W fun e W'=>e=.returned (.bool true)∧Below W.heap.size W W':=
 agB (apI aih) (by kernel_rfl) gl [] [.int 0 a0,.bool a1,.int 0 a2] (by kernel_rfl) (fun H hM=>aot (arp hM (Ny _ _) (by decide) fun _=>trivial)) ht (fun r hr=>by simp at hr) (.cons _ _ _ _ (.int 0 a0) (.cons _ _ _ _ (.bool a1) (.cons _ _ _ _ (.int 0 a2) .nil)))
noncomputable def laidWorld(os:Os):World:=
 let w0:=World.holding Tryd.prog os ⟨#[],#[],[]⟩
 { w0 with heap:=((((w0.heap.modify 1 fun
   |.cells _ t frozen=>.cells #[.pointer (some ⟨w0.heap.size+0,0,none⟩)] t frozen
   |o=>o).modify 0 fun
   |.cells _ t frozen=>.cells (Lib.asciiSpaceTab.map fun z=>Value.int .u8 z).toArray t frozen
   |o=>o).push (.cells #[.slice (some ⟨w0.heap.size+1,0,none⟩) 7 7,.slice none 0 0,.int .i64 2] 121)).push (.cells #[.int .u16 9,.int .u16 13,.int .u16 1,.int .u16 32,.int .u16 133,.int .u16 101,.int .u16 160,.int .u16 5760,.int .u16 5600,.int .u16 8192,.int .u16 8202,.int .u16 1,.int .u16 8232,.int .u16 8233,.int .u16 1,.int .u16 8239,.int .u16 8287,.int .u16 48,.int .u16 12288,.int .u16 12288,.int .u16 1] 124)) }
theorem laid_met(os:Os)(args:Array Value):laidMetH Tryd.prog Rows.scopeManyRow.laid ((laidWorld os).forCall (fun _ _=>0) ⟨#[],args,[]⟩).memory:=
 show laidMet Tryd.prog Rows.scopeManyRow.laid ((laidWorld os).forCall (fun _ _=>0) ⟨#[],args,[]⟩).memory from laidMet_of_run' 8 (by kernel_rfl) (by kernel_rfl)
theorem witness_row(os:Os){H:Type}(enc:TypeId×Value→H) :
  (OpenSpec.ofChange Rows.scopeManySpec).preRow enc Tryd.prog Tryd.f5 Rows.scopeManyRow.domain false Rows.scopeManyRow.laid ((laidWorld os).forCall (fun _ _=>0) ⟨#[],#[.int .i64 0,.bool false,.int .i64 0],[]⟩).memory #[.int .i64 0,.bool false,.int .i64 0]:=by
 have hw:(DataW.whole enc Tryd.prog ((laidWorld os).forCall (fun _ _=>0) ⟨#[],#[.int .i64 0,.bool false,.int .i64 0],[]⟩).memory Tryd.f5.params.toList (OpenSpec.ofChange Rows.scopeManySpec).vars false (#[.int .i64 0,.bool false,.int .i64 0]:Array Value).toList 8).map (fun x=>(x.1,x.2.1)) =
   some ([.lit (.int .i64 0),.lit (.bool false),.lit (.int .i64 0)],[]):=by kernel_rfl
 obtain⟨⟨x1,x2,x3⟩,hx,hx1⟩:=Option.map_eq_some_iff.1 hw;simp only[Prod.mk.injEq]at hx1;obtain⟨rfl,rfl⟩:=hx1;exact OpenSpec.preRow_of_cond 8 hx (by kernel_rfl) (fun k hk=>by cases hk) (by kernel_rfl) (laid_met os _)
theorem lifted(os:Os)(started:os.Started)(H:Type)(enc:TypeId×Value→H)(F:Stop.Interp) :
  ReturnsInHanded {} Tryd.checked os 5 .any ((OpenSpec.ofChange Rows.scopeManySpec).preRow enc Tryd.prog Tryd.f5 Rows.scopeManyRow.domain false Rows.scopeManyRow.laid) (((OpenSpec.ofChange Rows.scopeManySpec).at F).post enc Tryd.prog Tryd.f5 false true false false):=by
 refine returnsInHanded_of_row (C:=Tryd.checked) (s:=OpenSpec.ofChange Rows.scopeManySpec) own started (by kernel_rfl) Tryd.func5
  (witness_row_atRef (enc:=enc) (C:=Tryd.checked) false (laidWorld os) #[.int .i64 0,.bool false,.int .i64 0] rfl (by kernel_rfl) (by kernel_rfl) (by kernel_rfl) (witness_row os enc)) ?_
 intro W base args ds gs before hval0 hW _ _ _ hL _ _;have hval:∀(j:Nat) t v,Tryd.f5.params[j]? = some t→args[j]? = some v→Value.okWide Tryd.prog W .any base t v:=hval0;have hW':=hW;obtain⟨p,q,hA0,hV0,rfl,_,_⟩:=hW;have hA:DataW.TrodAll enc Tryd.prog W 0 (fun _=>true) true Tryd.f5.params.toList args.toList ds p:=hA0;rw[Tryd.params5]at hA hval;obtain⟨v0,NT,d0,ds0,p0,q0,hargs,rfl,rfl,h0,r0⟩:=trodAll_cons hA;obtain⟨v1,vs1,d1,ds1,p1,q1,rfl,rfl,rfl,h1,r1⟩:=trodAll_cons r0;obtain⟨v2,vs2,d2,ds2,p2,q2,rfl,rfl,rfl,h2,r2⟩:=trodAll_cons r1;obtain⟨rfl,rfl,rfl⟩:=trodAll_nil r2;obtain rfl:args = #[v0,v1,v2]:=by cases args;simp_all
 obtain⟨a0,rfl,rfl,rfl,w0⟩:=open_int Tryd.underlying3 (hval 0 3 v0 rfl rfl) h0;obtain⟨a1,rfl,rfl,rfl⟩:=open_bool Tryd.underlying4 (hval 1 4 v1 rfl rfl) h1;obtain⟨a2,rfl,rfl,rfl,w2⟩:=open_int Tryd.underlying3 (hval 2 3 v2 rfl rfl) h2;obtain⟨rfl,rfl⟩:=trodVars_none hV0;clear hA0 hV0 hval0;simp only[List.append_nil]at hW';have hlt:=hW'.lt;refine(walk w0 a1 w2 (aos hL)).mono fun e W' ⟨he,bel⟩=>?_;subst he;refine⟨_,rfl,_,_,_,[],_,[],hW',?_,(trodAll_cons_mk (shut_int Tryd.underlying3 w0) (trodAll_cons_mk (shut_bool Tryd.underlying4 _) (trodAll_cons_mk (shut_int Tryd.underlying3 w2) trodAll_mk0))),rfl,bel.frame _,fun h=>by cases h⟩;exact trodAll_mk1 (shut_bool Tryd.underlying4 true)
theorem closed:joinedFacts Tryd.pinned.checked.prog 5 Tryd.f5 (OpenSpec.ofChange Rows.scopeManySpec).bare Rows.scopeManyRow=true:=by
 unfold joinedFacts;simp only[Bool.and_eq_true]
 repeat' apply And.intro
 all_goals decide +kernel
theorem holds:Rows.ScopeManySaid:=
 OpenClaim.holds_of_cond 5 Tryd.f5 rfl rfl rfl rfl rfl rfl rfl ⟨rfl,rfl,rfl,rfl,rfl⟩ rfl rfl rfl rfl rfl (by decide +kernel) Tryd.func5 closed
  (of_decide_eq_true (by decide +kernel)) (by unfold Func.isWrapper;rw[if_neg (of_decide_eq_false (by decide +kernel))];exact⟨rfl,rfl⟩)
  (fun os started H enc _ F0=>by rw[OpenClaim.pre_eq_preRow];exact lifted os started H enc F0)
theorem proved:Rows.ScopeManyCardSaid:=
 Claim7.holds_tied_plain_at .later [] [.listed,.data] true (true, "5ccc04e67c6688cfb64492ea3a59a9546e88a400448c7ddc22206f917b19c9e2") true
  holds (fun _ h=>by cases h) (by decide +kernel) (fun _ h=>by cases h) scopeMany_row_tie rfl ⟨rfl,rfl⟩ (by decide +kernel) rfl
  (fun f fn hf hfn=>by
   obtain rfl:f=5:=Option.some.inj ((show Tryd.prog.funcNamed Rows.scopeManyRow.func=some 5 by kernel_rfl).symm.trans hf) |>.symm;obtain rfl:fn=Tryd.f5:=(Option.some.inj (Tryd.func5.symm.trans hfn)).symm;exact⟨by decide +kernel,fun j t ht=>by
    rw[Tryd.params5]at ht;have hall:∀x∈([3,4,3]:List Nat),Tryd.prog.wantsStandIn x=false:=by
     intro x hx;simp only[List.mem_cons,List.mem_nil_iff,or_false]at hx;rcases hx with rfl|rfl|rfl
     all_goals decide +kernel
    exact hall t (by have:=Array.mem_of_getElem? ht;simpa using this)⟩)
  (by decide +kernel)
#print axioms proved
end Go.Proofs.YtcedghechlgecaaDoor.KScopeMany
