/- 'CodeNames': for every input the law returns true, and each argument reads as it did: the statement of the card. No condition. -/
import Derived.Test.YtcedghechlgecaaGreatDoorRa
import Derived.Lib.Space
import Derived.Test.YtcedghechlgecaaGreatDoorCards
import Derived.Test.YtcedghechlgecaaGreatDoorTie
import Derived.Deep.DeepHandedRow
import Derived.Deep.DeepWitnessRowRef
import Derived.ProofKit
import Derived.OpenShut
import Derived.WalkKit
import Derived.ChangeVars
import Derived.LaidLaws
import Derived.Lib.LaidTab
import Derived.Carry
import Derived.Stop.LaidErr
import Derived.ChangeMaps5
import Derived.SevenTiedAt
set_option maxRecDepth 100000
set_option maxHeartbeats 0
set_option linter.unusedVariables false
set_option linter.unusedSimpArgs false
namespace Go.Proofs.YtcedghechlgecaaGreatDoor.KCodeNames
open Go Go.X Go.Proofs.YtcedghechlgecaaGreatDoor Go.Proofs.YtcedghechlgecaaGreatDoor.G
open Go.ChangeShapes Go.WideShapes Go.ChangeAt Go.RowKit
theorem own:ownKnob Tryz.prog.godebug=none:=by kernel_rfl
def MT:List Int:=[0,0,0,0,0,0,0,0,0,1,1,1,1,1,0,0,0,0,0,0,0,0,0,0,0,0,0,0,0,0,0,0,1,0,0,0,0,0,0,0,0,0,0,0,0,0,0,0,0,0,0,0,0,0,0,0,0,0,0,0,0,0,0,0,0,0,0,0,0,0,0,0,0,0,0,0,0,0,0,0,0,0,0,0,0,0,0,0,0,0,0,0,0,0,0,0,0,0,0,0,0,0,0,0,0,0,0,0,0,0,0,0,0,0,0,0,0,0,0,0,0,0,0,0,0,0,0,0,0,0,0,0,0,0,0,0,0,0,0,0,0,0,0,0,0,0,0,0,0,0,0,0,0,0,0,0,0,0,0,0,0,0,0,0,0,0,0,0,0,0,0,0,0,0,0,0,0,0,0,0,0,0,0,0,0,0,0,0,0,0,0,0,0,0,0,0,0,0,0,0,0,0,0,0,0,0,0,0,0,0,0,0,0,0,0,0,0,0,0,0,0,0,0,0,0,0,0,0,0,0,0,0,0,0,0,0,0,0,0,0,0,0,0,0,0,0,0,0,0,0,0,0,0,0,0,0]
theorem gT0:Tryz.prog.globalNamed "strings.asciiSpace" = some 0:=by kernel_rfl
theorem aAT:(Tryz.prog.globals[0]?).map (·.type)=some 168:=by kernel_rfl
theorem uA0:Tryz.prog.underlying 168=some (.array 256 5):=by kernel_rfl
theorem uE0:Tryz.prog.underlying 5=some (.int .u8):=by kernel_rfl
theorem cE0:Tryz.prog.cellsOf 5=1:=by kernel_rfl
theorem cA0:Tryz.prog.cellsOf 168=256:=by kernel_rfl
theorem axO{W:World}(h:laidMetH Tryz.prog Rows.codeNamesRow.laid W):∃t fr,W.heap[0]? = some (.cells (MT.map fun z=>Value.int .u8 z).toArray t fr):=by
 have h':laidMet Tryz.prog Rows.codeNamesRow.laid W:=h;obtain⟨ps,hp,_⟩:=h';obtain⟨_,_,_,_,_,_,_,_,_,_,hp,_⟩:=hp;obtain⟨_,_,_,_,_,_,_,_,_,_,hp,_⟩:=hp;obtain⟨_,_,_,_,_,_,_,_,_,_,hp,_⟩:=hp;obtain⟨_,_,_,_,_,_,_,_,_,_,hp,_⟩:=hp;obtain⟨_,_,_,_,_,_,_,_,_,_,hp,_⟩:=hp;obtain⟨_,_,_,_,_,_,_,_,_,_,hp,_⟩:=hp;obtain⟨g',t',cs',fuel',p',q',hg',ht',hvar,hd,_,_⟩:=hp;obtain rfl:=Option.some.inj (gT0.symm.trans hg');obtain rfl:=Option.some.inj (aAT.symm.trans ht');have hd':DataW.trod (fun _=>()) Tryz.prog W 0 (fun _=>true) false fuel' 168 cs'.toList=some (Lib.tabData .u8 MT,p'):=by
  rw[hd];exact congrArg (fun x=>some (x,p')) (show Rows.laid_strings_asciiSpace=Lib.tabData .u8 MT by kernel_rfl)
 have h2:W.var? Tryz.prog "strings.asciiSpace" = some (MT.map fun z=>Value.int .u8 z).toArray:=by
  rw[hvar,←Lib.cells_of_tab uA0 uE0 cE0 cA0 hd']
 simp only[World.var?,gT0,Option.bind_some]at h2;split at h2
 ·rename_i cs t fr hb;cases h2;exact⟨t,fr,hb⟩
 ·cases h2
theorem row0{W:World}(h:laidMetH Tryz.prog Rows.codeNamesRow.laid W):Rw.at_ W ⟨0,0,MT.map fun z=>.int 1 z⟩:=by
 obtain⟨t,⟨lo,hi⟩,hb⟩:=axO h;refine⟨_,t,lo,hi,hb,by simp,fun i a hi=>?_⟩;simp only[List.getElem?_map,Option.map_eq_some_iff]at hi;obtain⟨x,hx,rfl⟩:=hi;exact⟨rfl,.int .u8 x,by simp[hx],.int 1 x⟩
theorem star : "*" ++ "errors.errorString" = "*errors.errorString" := by decide
theorem gE0:Tryz.prog.globalNamed "strconv.ErrSyntax" = some 3:=by kernel_rfl
theorem aAU:(Tryz.prog.globals[3]?).map (·.type)=some 103:=by kernel_rfl
theorem aAV{W:World}(h:laidMetH Tryz.prog Rows.codeNamesRow.laid W):Rw.at_ W ⟨3,0,[.iface 208 .cH]⟩:=by
 have h':laidMet Tryz.prog Rows.codeNamesRow.laid W:=h;have h2:=h'.tail.tail.tail.tail;obtain⟨a,s,hv,_,_,_⟩:=laid_sentinel (nm := "*errors.errorString") (text:=[105,110,118,97,108,105,100,32,115,121,110,116,97,120]) h2 gE0 aAU Tryz.underlying103 (tp:=208) (fun u hu=>typeName_ptr_named (nm := "errors.errorString") (by rw[star];kernel_rfl) (by kernel_rfl) (by decide) u (by rw[star];exact hu)) Tryz.underlying208 Tryz.underlying210 rfl rfl Tryz.underlying9 (by kernel_rfl) (by kernel_rfl);simp only[World.var?,gE0,Option.bind_some]at hv;split at hv
 ·rename_i cs t fr hb;cases hv;obtain⟨lo,hi⟩:=fr;refine⟨_,t,lo,hi,hb,by simp,fun i a hi=>?_⟩;cases i with
  |zero=>
   simp at hi;subst hi;exact⟨rfl,_,rfl,.iface _ _ _ (.cH _)⟩
  |succ i=>simp at hi
 ·cases hv
theorem gE1:Tryz.prog.globalNamed "strconv.ErrRange" = some 4:=by kernel_rfl
theorem aAW:(Tryz.prog.globals[4]?).map (·.type)=some 103:=by kernel_rfl
theorem aAX{W:World}(h:laidMetH Tryz.prog Rows.codeNamesRow.laid W):Rw.at_ W ⟨4,0,[.iface 208 .cH]⟩:=by
 have h':laidMet Tryz.prog Rows.codeNamesRow.laid W:=h;have h2:=h'.tail.tail.tail;obtain⟨a,s,hv,_,_,_⟩:=laid_sentinel (nm := "*errors.errorString") (text:=[118,97,108,117,101,32,111,117,116,32,111,102,32,114,97,110,103,101]) h2 gE1 aAW Tryz.underlying103 (tp:=208) (fun u hu=>typeName_ptr_named (nm := "errors.errorString") (by rw[star];kernel_rfl) (by kernel_rfl) (by decide) u (by rw[star];exact hu)) Tryz.underlying208 Tryz.underlying210 rfl rfl Tryz.underlying9 (by kernel_rfl) (by kernel_rfl);simp only[World.var?,gE1,Option.bind_some]at hv;split at hv
 ·rename_i cs t fr hb;cases hv;obtain⟨lo,hi⟩:=fr;refine⟨_,t,lo,hi,hb,by simp,fun i a hi=>?_⟩;cases i with
  |zero=>
   simp at hi;subst hi;exact⟨rfl,_,rfl,.iface _ _ _ (.cH _)⟩
  |succ i=>simp at hi
 ·cases hv
theorem axP:(MT.map fun z=>AV.int 1 z)=Lx.tb0:=by kernel_rfl
theorem axQ{W:World}(h:laidMetH Tryz.prog Rows.codeNamesRow.laid W):wI Lx.pN W:=fun b z hb=>by
 match b,hb with
 |0,hb=>
  obtain rfl:=Option.some.inj (Option.some.inj hb);have r:=row0 h;rw[axP]at r;exact r
 |1,hb=>cases hb
 |2,hb=>cases hb
 |3,hb=>
  obtain rfl:=Option.some.inj (Option.some.inj hb);exact aAV h
 |4,hb=>
  obtain rfl:=Option.some.inj (Option.some.inj hb);exact aAX h
 |5,hb=>cases hb
 |6,hb=>cases hb
 |7,hb=>cases hb
 |8,hb=>cases hb
 |b+9,hb=>cases hb
theorem axR{F:Int→Int→Int→Int→AH→KF→Prop}{x y z w:Int}{H:AH}{K:KF}(h:F x y z w H K):ai [.i 0,.i 0,.i 0,.i 0] F [.int 0 x,.int 0 y,.int 0 z,.int 0 w] H K:=h
theorem walk{W:World}{a0:Int}(w0:(Lit.int .i64 a0).wf=true){a1:Int}(w1:(Lit.int .i64 a1).wf=true){a2:Int}(w2:(Lit.int .i64 a2).wf=true){a3:Int}(w3:(Lit.int .i64 a3).wf=true)(ht:wI Lx.pN W) :
  Calls Tryz.prog 6 #[.int .i64 a0,.int .i64 a1,.int .i64 a2,.int .i64 a3] W fun e W'=>e=.returned (.bool true)∧Below W.heap.size W W':=
 aq1 ayN (by kernel_rfl) Lx.pN [] [.int 0 a0,.int 0 a1,.int 0 a2,.int 0 a3] (by kernel_rfl) (fun H hM=>axR (aAR hM (T9 _ _) (by decide) fun _=>trivial)) ht (fun r hr=>by simp at hr) (.cons _ _ _ _ (.int 0 a0) (.cons _ _ _ _ (.int 0 a1) (.cons _ _ _ _ (.int 0 a2) (.cons _ _ _ _ (.int 0 a3) .nil))))
noncomputable def laidWorld(os:Os):World:=
 let w0:=World.holding Tryz.prog os ⟨#[],#[],[]⟩
 { w0 with heap:=(((((((((((w0.heap.modify 6 fun
   |.cells _ t frozen=>.cells #[.int .u8 0,.int .u8 1,.int .u8 28,.int .u8 2,.int .u8 29,.int .u8 14,.int .u8 24,.int .u8 3,.int .u8 30,.int .u8 22,.int .u8 20,.int .u8 15,.int .u8 25,.int .u8 17,.int .u8 4,.int .u8 8,.int .u8 31,.int .u8 27,.int .u8 13,.int .u8 23,.int .u8 21,.int .u8 19,.int .u8 16,.int .u8 7,.int .u8 26,.int .u8 12,.int .u8 18,.int .u8 6,.int .u8 11,.int .u8 5,.int .u8 10,.int .u8 9] t frozen
   |o=>o).modify 7 fun
   |.cells _ t frozen=>.cells #[.int .u8 0,.int .u8 1,.int .u8 56,.int .u8 2,.int .u8 57,.int .u8 49,.int .u8 28,.int .u8 3,.int .u8 61,.int .u8 58,.int .u8 42,.int .u8 50,.int .u8 38,.int .u8 29,.int .u8 17,.int .u8 4,.int .u8 62,.int .u8 47,.int .u8 59,.int .u8 36,.int .u8 45,.int .u8 43,.int .u8 51,.int .u8 22,.int .u8 53,.int .u8 39,.int .u8 33,.int .u8 30,.int .u8 24,.int .u8 18,.int .u8 12,.int .u8 5,.int .u8 63,.int .u8 55,.int .u8 48,.int .u8 27,.int .u8 60,.int .u8 41,.int .u8 37,.int .u8 16,.int .u8 46,.int .u8 35,.int .u8 44,.int .u8 21,.int .u8 52,.int .u8 32,.int .u8 23,.int .u8 11,.int .u8 54,.int .u8 26,.int .u8 40,.int .u8 15,.int .u8 34,.int .u8 20,.int .u8 31,.int .u8 10,.int .u8 25,.int .u8 14,.int .u8 19,.int .u8 9,.int .u8 13,.int .u8 8,.int .u8 7,.int .u8 6] t frozen
   |o=>o).modify 5 fun
   |.cells _ t frozen=>.cells #[.int .u64 1,.int .u64 10,.int .u64 100,.int .u64 1000,.int .u64 10000,.int .u64 100000,.int .u64 1000000,.int .u64 10000000,.int .u64 100000000,.int .u64 1000000000,.int .u64 10000000000,.int .u64 100000000000,.int .u64 1000000000000,.int .u64 10000000000000,.int .u64 100000000000000,.int .u64 1000000000000000,.int .u64 10000000000000000,.int .u64 100000000000000000,.int .u64 1000000000000000000,.int .u64 10000000000000000000] t frozen
   |o=>o).modify 4 fun
   |.cells _ t frozen=>.cells #[.iface 208 (.pointer (some ⟨w0.heap.size+0,0,none⟩))] t frozen
   |o=>o).modify 3 fun
   |.cells _ t frozen=>.cells #[.iface 208 (.pointer (some ⟨w0.heap.size+1,0,none⟩))] t frozen
   |o=>o).modify 2 fun
   |.cells _ t frozen=>.cells #[.pointer (some ⟨w0.heap.size+2,0,none⟩)] t frozen
   |o=>o).modify 0 fun
   |.cells _ t frozen=>.cells (Lib.asciiSpaceTab.map fun z=>Value.int .u8 z).toArray t frozen
   |o=>o).push (.cells #[.string ⟨#[118,97,108,117,101,32,111,117,116,32,111,102,32,114,97,110,103,101]⟩] 210)).push (.cells #[.string ⟨#[105,110,118,97,108,105,100,32,115,121,110,116,97,120]⟩] 210)).push (.cells #[.slice (some ⟨w0.heap.size+3,0,none⟩) 7 7,.slice none 0 0,.int .i64 2] 199)).push (.cells #[.int .u16 9,.int .u16 13,.int .u16 1,.int .u16 32,.int .u16 133,.int .u16 101,.int .u16 160,.int .u16 5760,.int .u16 5600,.int .u16 8192,.int .u16 8202,.int .u16 1,.int .u16 8232,.int .u16 8233,.int .u16 1,.int .u16 8239,.int .u16 8287,.int .u16 48,.int .u16 12288,.int .u16 12288,.int .u16 1] 202)) }
theorem laid_met(os:Os)(args:Array Value):laidMetH Tryz.prog Rows.codeNamesRow.laid ((laidWorld os).forCall (fun _ _=>0) ⟨#[],args,[]⟩).memory:=
 show laidMet Tryz.prog Rows.codeNamesRow.laid ((laidWorld os).forCall (fun _ _=>0) ⟨#[],args,[]⟩).memory from laidMet_of_run' 8 (by kernel_rfl) (by kernel_rfl)
theorem witness_row(os:Os){H:Type}(enc:TypeId×Value→H) :
  (OpenSpec.ofChange Rows.codeNamesSpec).preRow enc Tryz.prog Tryz.f6 Rows.codeNamesRow.domain false Rows.codeNamesRow.laid ((laidWorld os).forCall (fun _ _=>0) ⟨#[],#[.int .i64 0,.int .i64 0,.int .i64 0,.int .i64 0],[]⟩).memory #[.int .i64 0,.int .i64 0,.int .i64 0,.int .i64 0]:=by
 have hw:(DataW.whole enc Tryz.prog ((laidWorld os).forCall (fun _ _=>0) ⟨#[],#[.int .i64 0,.int .i64 0,.int .i64 0,.int .i64 0],[]⟩).memory Tryz.f6.params.toList (OpenSpec.ofChange Rows.codeNamesSpec).vars false (#[.int .i64 0,.int .i64 0,.int .i64 0,.int .i64 0]:Array Value).toList 8).map (fun x=>(x.1,x.2.1)) =
   some ([.lit (.int .i64 0),.lit (.int .i64 0),.lit (.int .i64 0),.lit (.int .i64 0)],[]):=by kernel_rfl
 obtain⟨⟨x1,x2,x3⟩,hx,hx1⟩:=Option.map_eq_some_iff.1 hw;simp only[Prod.mk.injEq]at hx1;obtain⟨rfl,rfl⟩:=hx1;exact OpenSpec.preRow_of_cond 8 hx (by kernel_rfl) (fun k hk=>by cases hk) (by kernel_rfl) (laid_met os _)
theorem lifted(os:Os)(started:os.Started)(H:Type)(enc:TypeId×Value→H)(F:Stop.Interp) :
  ReturnsInHanded {} Tryz.checked os 6 .any ((OpenSpec.ofChange Rows.codeNamesSpec).preRow enc Tryz.prog Tryz.f6 Rows.codeNamesRow.domain false Rows.codeNamesRow.laid) (((OpenSpec.ofChange Rows.codeNamesSpec).at F).post enc Tryz.prog Tryz.f6 false true false false):=by
 refine returnsInHanded_of_row (C:=Tryz.checked) (s:=OpenSpec.ofChange Rows.codeNamesSpec) own started (by kernel_rfl) Tryz.func6
  (witness_row_atRef (enc:=enc) (C:=Tryz.checked) false (laidWorld os) #[.int .i64 0,.int .i64 0,.int .i64 0,.int .i64 0] rfl (by kernel_rfl) (by kernel_rfl) (by kernel_rfl) (witness_row os enc)) ?_
 intro W base args ds gs before hval0 hW _ _ _ hL _ _;have hval:∀(j:Nat) t v,Tryz.f6.params[j]? = some t→args[j]? = some v→Value.okWide Tryz.prog W .any base t v:=hval0;have hW':=hW;obtain⟨p,q,hA0,hV0,rfl,_,_⟩:=hW;have hA:DataW.TrodAll enc Tryz.prog W 0 (fun _=>true) true Tryz.f6.params.toList args.toList ds p:=hA0;rw[Tryz.params6]at hA hval;obtain⟨v0,UO,d0,ds0,p0,q0,hargs,rfl,rfl,h0,r0⟩:=trodAll_cons hA;obtain⟨v1,vs1,d1,ds1,p1,q1,rfl,rfl,rfl,h1,r1⟩:=trodAll_cons r0;obtain⟨v2,vs2,d2,ds2,p2,q2,rfl,rfl,rfl,h2,r2⟩:=trodAll_cons r1;obtain⟨v3,vs3,d3,ds3,p3,q3,rfl,rfl,rfl,h3,r3⟩:=trodAll_cons r2;obtain⟨rfl,rfl,rfl⟩:=trodAll_nil r3;obtain rfl:args = #[v0,v1,v2,v3]:=by cases args;simp_all
 obtain⟨a0,rfl,rfl,rfl,w0⟩:=open_int Tryz.underlying3 (hval 0 3 v0 rfl rfl) h0;obtain⟨a1,rfl,rfl,rfl,w1⟩:=open_int Tryz.underlying3 (hval 1 3 v1 rfl rfl) h1;obtain⟨a2,rfl,rfl,rfl,w2⟩:=open_int Tryz.underlying3 (hval 2 3 v2 rfl rfl) h2;obtain⟨a3,rfl,rfl,rfl,w3⟩:=open_int Tryz.underlying3 (hval 3 3 v3 rfl rfl) h3;obtain⟨rfl,rfl⟩:=trodVars_none hV0;clear hA0 hV0 hval0;simp only[List.append_nil]at hW';have hlt:=hW'.lt;refine(walk w0 w1 w2 w3 (axQ hL)).mono fun e W' ⟨he,bel⟩=>?_;subst he;refine⟨_,rfl,_,_,_,[],_,[],hW',?_,(trodAll_cons_mk (shut_int Tryz.underlying3 w0) (trodAll_cons_mk (shut_int Tryz.underlying3 w1) (trodAll_cons_mk (shut_int Tryz.underlying3 w2) (trodAll_cons_mk (shut_int Tryz.underlying3 w3) trodAll_mk0)))),rfl,bel.frame _,fun h=>by cases h⟩;exact trodAll_mk1 (shut_bool Tryz.underlying4 true)
theorem closed:joinedFacts Tryz.pinned.checked.prog 6 Tryz.f6 (OpenSpec.ofChange Rows.codeNamesSpec).bare Rows.codeNamesRow=true:=by
 unfold joinedFacts;simp only[Bool.and_eq_true]
 repeat' apply And.intro
 all_goals decide +kernel
theorem holds:Rows.CodeNamesSaid:=
 OpenClaim.holds_of_cond 6 Tryz.f6 rfl rfl rfl rfl rfl rfl rfl ⟨rfl,rfl,rfl,rfl,rfl⟩ rfl rfl rfl rfl rfl (by decide +kernel) Tryz.func6 closed
  (of_decide_eq_true (by decide +kernel)) (by unfold Func.isWrapper;rw[if_neg (of_decide_eq_false (by decide +kernel))];exact⟨rfl,rfl⟩)
  (fun os started H enc _ F0=>by rw[OpenClaim.pre_eq_preRow];exact lifted os started H enc F0)
theorem proved:Rows.CodeNamesCardSaid:=
 Claim7.holds_tied_plain_at .later [] [.data,.data,.data,.sentinel,.sentinel,.listed,.data] true (true, "1ed9d05091b2439af0f837ccd3ab11488e78fc670e5bea41bb60aa54226580f7") true
  holds (fun _ h=>by cases h) (by decide +kernel) (fun _ h=>by cases h) codeNames_row_tie rfl ⟨rfl,rfl⟩ (by decide +kernel) rfl
  (fun f fn hf hfn=>by
   obtain rfl:f=6:=Option.some.inj ((show Tryz.prog.funcNamed Rows.codeNamesRow.func=some 6 by kernel_rfl).symm.trans hf) |>.symm;obtain rfl:fn=Tryz.f6:=(Option.some.inj (Tryz.func6.symm.trans hfn)).symm;exact⟨by decide +kernel,fun j t ht=>by
    rw[Tryz.params6]at ht;have hall:∀x∈([3,3,3,3]:List Nat),Tryz.prog.wantsStandIn x=false:=by
     intro x hx;simp only[List.mem_cons,List.mem_nil_iff,or_false]at hx;rcases hx with rfl|rfl|rfl|rfl
     all_goals decide +kernel
    exact hall t (by have:=Array.mem_of_getElem? ht;simpa using this)⟩)
  (by decide +kernel)
#print axioms proved
end Go.Proofs.YtcedghechlgecaaGreatDoor.KCodeNames
