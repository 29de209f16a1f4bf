/- 'SkipPlays': for every input the law returns true, and each argument reads as it did: the statement of the card. No condition. -/
import Derived.Test.YtpfnalokeeidkaaDoorSkipPlaysL
import Derived.Test.YtpfnalokeeidkaaDoorCards
import Derived.Test.YtpfnalokeeidkaaDoorTie
import Derived.Deep.DeepHandedRow
import Derived.Deep.DeepWitnessRowRef
import Derived.ProofKit
import Derived.OpenShut
import Derived.WalkKit
import Derived.ChangeVars
import Derived.LaidLaws
import Derived.Lib.LaidTab
import Derived.Carry
import Derived.SevenTiedAt
namespace Go.Proofs.YtpfnalokeeidkaaDoor.KSkipPlays
open Go Go.X Go.Proofs.YtpfnalokeeidkaaDoor Go.Proofs.YtpfnalokeeidkaaDoor.G
open Go.ChangeShapes Go.WideShapes Go.ChangeAt Go.RowKit
set_option maxRecDepth 100000
set_option maxHeartbeats 0
set_option linter.unusedVariables false
theorem own : ownKnob Tryd.prog.godebug = none := by kernel_rfl
theorem laidOut : laidOutB Tryd.prog = true := by kernel_rfl
def tab0 : List Int := [0, 1, 56, 2, 57, 49, 28, 3, 61, 58, 42, 50, 38, 29, 17, 4, 62, 47, 59, 36, 45, 43, 51, 22, 53, 39, 33, 30, 24, 18, 12, 5, 63, 55, 48, 27, 60, 41, 37, 16, 46, 35, 44, 21, 52, 32, 23, 11, 54, 26, 40, 15, 34, 20, 31, 10, 25, 14, 19, 9, 13, 8, 7, 6]
theorem gT0 : Tryd.prog.globalNamed "math/bits.deBruijn64tab" = some 1 := by kernel_rfl
theorem gTT0 : (Tryd.prog.globals[1]?).map (·.type) = some 86 := by kernel_rfl
theorem uA0 : Tryd.prog.underlying 86 = some (.array 64 5) := by kernel_rfl
theorem uE0 : Tryd.prog.underlying 5 = some (.int .u8) := by kernel_rfl
theorem cE0 : Tryd.prog.cellsOf 5 = 1 := by kernel_rfl
theorem cA0 : Tryd.prog.cellsOf 86 = 64 := by kernel_rfl
theorem tabIs0 {W : World} (h : laidMetH Tryd.prog Rows.skipPlaysRow.laid W) : ∃ t fr, W.heap[1]? = some (.cells (tab0.map fun z => Value.int .u8 z).toArray t fr) := by
  have h' : laidMet Tryd.prog Rows.skipPlaysRow.laid W := h
  obtain ⟨ps, hp, _⟩ := h'
  obtain ⟨_, _, _, _, _, _, _, _, _, _, hp, _⟩ := hp
  obtain ⟨g', t', cs', fuel', p', q', hg', ht', hvar, hd, _, _⟩ := hp
  obtain rfl := Option.some.inj (gT0.symm.trans hg')
  obtain rfl := Option.some.inj (gTT0.symm.trans ht')
  have hd' : DataW.trod (fun _ => ()) Tryd.prog W 0 (fun _ => true) false fuel' 86 cs'.toList = some (Lib.tabData .u8 tab0, p') := by
    rw [hd]; exact congrArg (fun x => some (x, p')) (show Rows.laid_math_bits_deBruijn64tab = Lib.tabData .u8 tab0 by kernel_rfl)
  have h2 : W.var? Tryd.prog "math/bits.deBruijn64tab" = some (tab0.map fun z => Value.int .u8 z).toArray := by
    rw [hvar, ← Lib.cells_of_tab uA0 uE0 cE0 cA0 hd']
  simp only [World.var?, gT0, Option.bind_some] at h2
  split at h2
  · rename_i cs t fr hb
    cases h2
    exact ⟨t, fr, hb⟩
  · cases h2
theorem row0 {W : World} (h : laidMetH Tryd.prog Rows.skipPlaysRow.laid W) : Rw.at_ W ⟨1, 0, tab0.map fun z => .int 1 z⟩ := by
  obtain ⟨t, ⟨lo, hi⟩, hb⟩ := tabIs0 h
  refine ⟨_, t, lo, hi, hb, by simp, fun i a hi => ?_⟩
  simp only [List.getElem?_map, Option.map_eq_some_iff] at hi
  obtain ⟨x, hx, rfl⟩ := hi
  exact ⟨rfl, .int .u8 x, by simp [hx], .int 1 x⟩

noncomputable def gl : List (Option (List AV)) := [none, some (tab0.map fun z => .int 1 z), none]
theorem tabsIn {W : World} (h : laidMetH Tryd.prog Rows.skipPlaysRow.laid W) : TabsIn gl W := fun b z hb => by
  match b, hb with
  | 0, hb => cases hb
  | 1, hb =>
    obtain rfl := Option.some.inj (Option.some.inj hb)
    exact row0 h
  | 2, hb => cases hb
  | b + 3, hb => cases hb
theorem tab (rows : List (Option Rw)) : Tab (firstM gl rows) := by
  refine ⟨_, 2, firstM_tab (gl := gl) (b := 1) rfl, rfl, fun k hk => ?_⟩
  have h : ∀ k, k < 64 → ∃ z : Nat, z < 64 ∧ tab0[k]? = some (z : Int) := by decide
  obtain ⟨z, h1, h2⟩ := h k hk
  exact ⟨z, by rw [List.getElem?_map, h2]; rfl, h1⟩
theorem fnX_in {F : AV → AV → AH → KF → Prop} {a b : AV} {H : AH} {K : KF} (h : F a b H K) : fnX [.a, .a] F [a, b] H K := h
theorem walk {H : Type} {enc : TypeId × Value → H} {W : World} {base : Nat} {v v' : Value} {d d' : DataW H} {ps ps' : List MemPlace} (hv : Value.okWide Tryd.prog W .any base 22 v) (hd : DataW.Trod enc Tryd.prog W 0 (fun _ => true) true 22 v d ps)
    (hv' : Value.okWide Tryd.prog W .any base 48 v') (hd' : DataW.Trod enc Tryd.prog W 0 (fun _ => true) true 48 v' d' ps') (ht : TabsIn gl W) : Calls Tryd.prog 6 #[v, v'] W fun e W' => e = .returned (.bool true) ∧ Below W.heap.size W W' := by
  obtain ⟨q, l, h1, h2, h3, h4⟩ := scores_arg hv hd
  obtain ⟨q', l', h1', h2', h3', h4'⟩ := ops_arg hv' hd'
  obtain ⟨av, g1, g2⟩ := h4 gl [q, q'] 0 rfl
  obtain ⟨av', g1', g2'⟩ := h4' gl [q, q'] 1 rfl
  refine call_of f6_ok (by kernel_rfl) gl [q, q'] [av, av'] (by kernel_rfl) (fun H hM => fnX_in (f6_i hM (tab _) g2 (fun a ha => (h2 a ha).1) g2' h3' h2' fun _ => trivial)) ht (fun r hr => ?_) (.cons _ _ _ _ g1 (.cons _ _ _ _ g1' .nil))
  simp only [List.mem_cons, List.not_mem_nil, or_false] at hr
  exact hr.elim (fun h => h1 r h.symm) (fun h => h1' r h.symm)

/-- A world that meets the condition. -/
noncomputable def laidWorld (os : Os) : World :=
  let w0 := World.holding Tryd.prog os ⟨#[], #[], []⟩
  { w0 with heap := ((w0.heap.modify 0 fun
      | .cells _ t frozen => .cells #[.int .u8 0, .int .u8 1, .int .u8 28, .int .u8 2, .int .u8 29, .int .u8 14, .int .u8 24, .int .u8 3, .int .u8 30, .int .u8 22, .int .u8 20, .int .u8 15, .int .u8 25, .int .u8 17, .int .u8 4, .int .u8 8, .int .u8 31, .int .u8 27, .int .u8 13, .int .u8 23, .int .u8 21, .int .u8 19, .int .u8 16, .int .u8 7, .int .u8 26, .int .u8 12, .int .u8 18, .int .u8 6, .int .u8 11, .int .u8 5, .int .u8 10, .int .u8 9] t frozen
      | o => o).modify 1 fun
      | .cells _ t frozen => .cells #[.int .u8 0, .int .u8 1, .int .u8 56, .int .u8 2, .int .u8 57, .int .u8 49, .int .u8 28, .int .u8 3, .int .u8 61, .int .u8 58, .int .u8 42, .int .u8 50, .int .u8 38, .int .u8 29, .int .u8 17, .int .u8 4, .int .u8 62, .int .u8 47, .int .u8 59, .int .u8 36, .int .u8 45, .int .u8 43, .int .u8 51, .int .u8 22, .int .u8 53, .int .u8 39, .int .u8 33, .int .u8 30, .int .u8 24, .int .u8 18, .int .u8 12, .int .u8 5, .int .u8 63, .int .u8 55, .int .u8 48, .int .u8 27, .int .u8 60, .int .u8 41, .int .u8 37, .int .u8 16, .int .u8 46, .int .u8 35, .int .u8 44, .int .u8 21, .int .u8 52, .int .u8 32, .int .u8 23, .int .u8 11, .int .u8 54, .int .u8 26, .int .u8 40, .int .u8 15, .int .u8 34, .int .u8 20, .int .u8 31, .int .u8 10, .int .u8 25, .int .u8 14, .int .u8 19, .int .u8 9, .int .u8 13, .int .u8 8, .int .u8 7, .int .u8 6] t frozen
      | o => o) }
theorem laid_met (os : Os) (args : Array Value) : laidMetH Tryd.prog Rows.skipPlaysRow.laid ((laidWorld os).forCall (fun _ _ => 0) ⟨#[], args, []⟩).memory :=
  show laidMet Tryd.prog Rows.skipPlaysRow.laid ((laidWorld os).forCall (fun _ _ => 0) ⟨#[], args, []⟩).memory from laidMet_of_run' 8 (by kernel_rfl) (by kernel_rfl)
theorem witness_row (os : Os) {H : Type} (enc : TypeId × Value → H) :
    (OpenSpec.ofChange Rows.skipPlaysSpec).preRow enc Tryd.prog Tryd.f6 Rows.skipPlaysRow.domain false Rows.skipPlaysRow.laid ((laidWorld os).forCall (fun _ _ => 0) ⟨#[], #[.slice none 0 0, .slice none 0 0], []⟩).memory #[.slice none 0 0, .slice none 0 0] := by
  have hw : (DataW.whole enc Tryd.prog ((laidWorld os).forCall (fun _ _ => 0) ⟨#[], #[.slice none 0 0, .slice none 0 0], []⟩).memory Tryd.f6.params.toList (OpenSpec.ofChange Rows.skipPlaysSpec).vars false (#[.slice none 0 0, .slice none 0 0] : Array Value).toList 8).map (fun x => (x.1, x.2.1)) =
      some ([.nil, .nil], []) := by kernel_rfl
  obtain ⟨⟨x1, x2, x3⟩, hx, hx1⟩ := Option.map_eq_some_iff.1 hw
  simp only [Prod.mk.injEq] at hx1
  obtain ⟨rfl, rfl⟩ := hx1
  exact OpenSpec.preRow_of_cond 8 hx (by kernel_rfl) (fun k hk => by cases hk) (by kernel_rfl) (laid_met os _)

theorem lifted (os : Os) (started : os.Started) (H : Type) (enc : TypeId × Value → H) (F : Stop.Interp) :
    ReturnsInHanded {} Tryd.checked os 6 .any ((OpenSpec.ofChange Rows.skipPlaysSpec).preRow enc Tryd.prog Tryd.f6 Rows.skipPlaysRow.domain false Rows.skipPlaysRow.laid) (((OpenSpec.ofChange Rows.skipPlaysSpec).at F).post enc Tryd.prog Tryd.f6 false true false false) := by
  refine returnsInHanded_of_row (C := Tryd.checked) (s := OpenSpec.ofChange Rows.skipPlaysSpec) own started (by kernel_rfl) Tryd.func6
    (witness_row_atRef (enc := enc) (C := Tryd.checked) false (laidWorld os) #[.slice none 0 0, .slice none 0 0] rfl (by kernel_rfl) (by kernel_rfl) (by kernel_rfl) (witness_row os enc)) ?_
  intro W base args ds gs before hval0 hW _ _ _ hL _ _
  have hval : ∀ (j : Nat) t v, Tryd.f6.params[j]? = some t → args[j]? = some v → Value.okWide Tryd.prog W .any base t v := hval0
  have hW' := hW
  obtain ⟨p, q, hA0, hV0, rfl, _, _⟩ := hW
  have hA : DataW.TrodAll enc Tryd.prog W 0 (fun _ => true) true Tryd.f6.params.toList args.toList ds p := hA0
  rw [Tryd.params6] at hA hval
  obtain ⟨v0, vs0, d0, ds0, p0, q0, hargs, rfl, rfl, h0, r0⟩ := trodAll_cons hA
  obtain ⟨v1, vs1, d1, ds1, p1, q1, rfl, rfl, rfl, h1, r1⟩ := trodAll_cons r0
  obtain ⟨rfl, rfl, rfl⟩ := trodAll_nil r1
  obtain rfl : args = #[v0, v1] := by cases args; simp_all
  have k0 := hval 0 22 v0 rfl rfl
  have k1 := hval 1 48 v1 rfl rfl
  obtain ⟨rfl, rfl⟩ := trodVars_none hV0
  clear hA0 hV0 hval0
  simp only [List.append_nil] at hW'
  have hlt := hW'.lt
  refine (walk k0 h0 k1 h1 (tabsIn hL)).mono fun e W' ⟨he, bel⟩ => ?_
  subst he
  refine ⟨_, rfl, _, _, _, [], _, [], hW', ?_, (trodAll_cons_mk (Below.trod laidOut (by kernel_rfl) (of_decide_eq_true (by kernel_rfl)) h0 bel (fun x hx => hlt x (by simp [hx]))) (trodAll_cons_mk (Below.trod laidOut (by kernel_rfl) (of_decide_eq_true (by kernel_rfl)) h1 bel (fun x hx => hlt x (by simp [hx]))) trodAll_mk0)), rfl, bel.frame _, fun h => by cases h⟩
  exact trodAll_mk1 (shut_bool Tryd.underlying4 true)
theorem closed : joinedFacts Tryd.pinned.checked.prog 6 Tryd.f6 (OpenSpec.ofChange Rows.skipPlaysSpec).bare Rows.skipPlaysRow = true := by
  unfold joinedFacts
  simp only [Bool.and_eq_true]
  repeat' apply And.intro
  all_goals decide +kernel
theorem holds : Rows.SkipPlaysSaid :=
  OpenClaim.holds_of_cond 6 Tryd.f6 rfl rfl rfl rfl rfl rfl rfl ⟨rfl, rfl, rfl, rfl, rfl⟩ rfl rfl rfl rfl rfl (by decide +kernel) Tryd.func6 closed
    (of_decide_eq_true (by decide +kernel)) (by unfold Func.isWrapper; rw [if_neg (of_decide_eq_false (by decide +kernel))]; exact ⟨rfl, rfl⟩)
    (fun os started H enc _ F0 => by rw [OpenClaim.pre_eq_preRow]; exact lifted os started H enc F0)
theorem proved : Rows.SkipPlaysCardSaid :=
  Claim7.holds_tied_plain_at .later [] [.data, .data] true (true, "30a09ee7bcda269139f67f4759a0a7bae4954b4d99d4961840b67e49d0bda13f") false
    holds (fun _ h => by cases h) (by decide +kernel) (fun _ h => by cases h) skipPlays_row_tie rfl ⟨rfl, rfl⟩ (by decide +kernel) rfl
    (fun f fn hf hfn => by
      obtain rfl : f = 6 := Option.some.inj ((show Tryd.prog.funcNamed Rows.skipPlaysRow.func = some 6 by kernel_rfl).symm.trans hf) |>.symm
      obtain rfl : fn = Tryd.f6 := (Option.some.inj (Tryd.func6.symm.trans hfn)).symm
      exact ⟨by decide +kernel, fun j t ht => by
        rw [Tryd.params6] at ht
        have hall : ∀ x ∈ ([22, 48] : List Nat), Tryd.prog.wantsStandIn x = false := by
          intro x hx
          simp only [List.mem_cons, List.mem_nil_iff, or_false] at hx
          rcases hx with rfl | rfl
          all_goals decide +kernel
        exact hall t (by have := Array.mem_of_getElem? ht; simpa using this)⟩)
    (by decide +kernel)
#print axioms proved
end Go.Proofs.YtpfnalokeeidkaaDoor.KSkipPlays
