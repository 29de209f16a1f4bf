/- 'ScopeShadows': for every input the law returns true, and each argument reads as it did: the statement of the card. No condition. -/
import Derived.Test.YtaipinbbmlenaaaDoorRS
import Derived.Test.YtaipinbbmlenaaaDoorCards
import Derived.Test.YtaipinbbmlenaaaDoorTie
import Derived.Deep.DeepHandedRow
import Derived.Deep.DeepWitnessRowRef
import Derived.ProofKit
import Derived.OpenShut
import Derived.WalkKit
import Derived.ChangeVars
import Derived.LaidLaws
import Derived.Lib.LaidTab
import Derived.SevenTiedAt
namespace Go.Proofs.YtaipinbbmlenaaaDoor.KScopeShadows
open Go Go.X Go.Proofs.YtaipinbbmlenaaaDoor.G
open Go.ChangeShapes Go.WideShapes Go.ChangeAt Go.RowKit
set_option maxRecDepth 100000
set_option maxHeartbeats 0
set_option linter.unusedVariables false
theorem own : ownKnob Tryd.prog.godebug = none := by kernel_rfl
theorem gT : Tryd.prog.globalNamed "strings.asciiSpace" = some 0 := by kernel_rfl
theorem gTT : (Tryd.prog.globals[0]?).map (·.type) = some 98 := by kernel_rfl
theorem uA : Tryd.prog.underlying 98 = some (.array 256 5) := by kernel_rfl
theorem uE : Tryd.prog.underlying 5 = some (.int .u8) := by kernel_rfl
theorem cE : Tryd.prog.cellsOf 5 = 1 := by kernel_rfl
theorem cA : Tryd.prog.cellsOf 98 = 256 := by kernel_rfl
theorem tabIs {W : World} (h : laidMetH Tryd.prog Rows.scopeShadowsRow.laid W) : Lib.TabIs Tryd.prog W "strings.asciiSpace" .u8 Lib.asciiSpaceTab := by
  have h' : laidMet Tryd.prog Rows.scopeShadowsRow.laid W := h
  obtain ⟨ps, hp, _⟩ := h'
  obtain ⟨g, t, cs, fuel, p, q, _, _, _, _, hr, _⟩ := hp
  obtain ⟨g', t', cs', fuel', p', q', hg', ht', hvar, hd, _, _⟩ := hr
  obtain rfl := Option.some.inj (gT.symm.trans hg')
  obtain rfl := Option.some.inj (gTT.symm.trans ht')
  have hd' : DataW.trod (fun _ => ()) Tryd.prog W 0 (fun _ => true) false fuel' 98 cs'.toList = some (Lib.tabData .u8 Lib.asciiSpaceTab, p') := by
    rw [hd]; exact congrArg (fun x => some (x, p')) (show Rows.laid_strings_asciiSpace = Lib.tabData .u8 Lib.asciiSpaceTab by kernel_rfl)
  unfold Lib.TabIs
  rw [hvar, ← Lib.cells_of_tab uA uE cE cA hd']

/-- A world that meets the condition. -/
noncomputable def laidWorld (os : Os) : World :=
  let w0 := World.holding Tryd.prog os ⟨#[], #[], []⟩
  { w0 with heap := (((w0.heap.modify 0 fun
      | .cells _ t frozen => .cells (Lib.asciiSpaceTab.map fun z => Value.int .u8 z).toArray t frozen
      | o => o).modify 1 fun
      | .cells _ t frozen => .cells #[.pointer (some ⟨w0.heap.size, 0, none⟩)] t frozen
      | o => o).push (.cells #[.slice (some ⟨w0.heap.size + 1, 0, none⟩) 7 7, .slice none 0 0, .int .i64 2] 123)).push (.cells #[.int .u16 9, .int .u16 13, .int .u16 1, .int .u16 32, .int .u16 133, .int .u16 101, .int .u16 160, .int .u16 5760, .int .u16 5600, .int .u16 8192, .int .u16 8202, .int .u16 1, .int .u16 8232, .int .u16 8233, .int .u16 1, .int .u16 8239, .int .u16 8287, .int .u16 48, .int .u16 12288, .int .u16 12288, .int .u16 1] 126) }
theorem laid_met (os : Os) (args : Array Value) : laidMetH Tryd.prog Rows.scopeShadowsRow.laid ((laidWorld os).forCall (fun _ _ => 0) ⟨#[], args, []⟩).memory :=
  show laidMet Tryd.prog Rows.scopeShadowsRow.laid ((laidWorld os).forCall (fun _ _ => 0) ⟨#[], args, []⟩).memory from laidMet_of_run' 8 (by kernel_rfl) (by kernel_rfl)
theorem witness_row (os : Os) {H : Type} (enc : TypeId × Value → H) :
    (OpenSpec.ofChange Rows.scopeShadowsSpec).preRow enc Tryd.prog Tryd.f7 Rows.scopeShadowsRow.domain false Rows.scopeShadowsRow.laid ((laidWorld os).forCall (fun _ _ => 0) ⟨#[], #[.int .i64 0, .int .i64 0], []⟩).memory #[.int .i64 0, .int .i64 0] := by
  have hw : (DataW.whole enc Tryd.prog ((laidWorld os).forCall (fun _ _ => 0) ⟨#[], #[.int .i64 0, .int .i64 0], []⟩).memory Tryd.f7.params.toList (OpenSpec.ofChange Rows.scopeShadowsSpec).vars false (#[.int .i64 0, .int .i64 0] : Array Value).toList 8).map (fun x => (x.1, x.2.1)) =
      some ([.lit (.int .i64 0), .lit (.int .i64 0)], []) := by kernel_rfl
  obtain ⟨⟨x1, x2, x3⟩, hx, hx1⟩ := Option.map_eq_some_iff.1 hw
  simp only [Prod.mk.injEq] at hx1
  obtain ⟨rfl, rfl⟩ := hx1
  exact OpenSpec.preRow_of_cond 8 hx (by kernel_rfl) (fun k hk => by cases hk) (by kernel_rfl) (laid_met os _)

/-! ### The walk -/
theorem spaces_len : spaces.length = 256 := by simp [spaces, Lib.asciiSpaceTab_length]
theorem init_out {k : AH → Prop} (h : init k) : ∃ H c, k H ∧ H.n = 3 ∧ H.at 0 = .cells c 256 2 ∧ (∀ b, b ≠ 0 → b < 3 → H.at b = .dead) ∧ (∀ i, i < 256 → c.get? i = spaces[i]?) ∧ ∀ j, 256 ≤ j → c.get? j = none := by
  obtain ⟨c, h, _, h2, h3⟩ := storeL_out _ _ _ _ h
  obtain ⟨H1, h, n1, t1, o1⟩ := setK_out h
  obtain ⟨H2, h, n2, t2, o2⟩ := setK_out h
  obtain ⟨H3, h, n3, t3, o3⟩ := setK_out h
  rw [spaces_len] at h2 h3
  refine ⟨H3, c, h, by rw [n3, n2, n1], ?_, fun b hb hl => ?_, fun i hi => by have := h2 i hi; rwa [Nat.zero_add] at this, fun j hj => by rw [h3 j (by omega)]; exact Bt.get?_e j⟩
  · rw [o3 0 (by omega), o2 0 (by omega), t1, spaces_len]
  · have : b = 1 ∨ b = 2 := by omega
    rcases this with rfl | rfl
    · rw [o3 1 (by omega), t2]
    · exact t3
def emb : Emb := ⟨fun b => b < 3, fun b => b, fun _ => 0, fun _ => 256⟩
theorem walk (a0 : Int) (a1 : Int) (W : World) (htab : Lib.TabIs Tryd.prog W "strings.asciiSpace" .u8 Lib.asciiSpaceTab) :
    Calls Tryd.prog 7 #[.int .i64 a0, .int .i64 a1] W fun e W' => e = .returned (.bool true) ∧ Below W.heap.size W W' := by
  obtain ⟨H, c, h, hn, h0, hd, hc, hc2⟩ := init_out (run_shadows a0 a1)
  have hcell : ∃ t fr, W.heap[0]? = some (.cells (Lib.asciiSpaceTab.map fun z => Value.int .u8 z).toArray t fr) := by
    have h := htab
    simp only [Lib.TabIs, World.var?, gT, Option.bind_some] at h
    split at h
    · rename_i cs t fr hb
      cases h
      exact ⟨t, fr, hb⟩
    · cases h
  obtain ⟨t, ⟨lo, hi⟩, hb⟩ := hcell
  have hr : HR emb H W := by
    refine HRS.mk' (fun b hb => by rw [AH.sem_n, hn]; exact hb) (fun b hb' ha => ?_) (fun b b' hb1 hb2 ho ha e => e)
    by_cases e : b = 0
    · subst e
      rw [AH.sem_ob, h0]
      refine ⟨_, t, lo, hi, hb, by simp [emb, Lib.asciiSpaceTab_length], Nat.le_refl _, fun j a hj => ?_, fun h => absurd h (by omega), fun h => absurd h (by omega)⟩
      have hj' : c.get? j = some a := hj
      rcases Nat.lt_or_ge j 256 with hl | hl
      · refine ⟨hl, ?_⟩
        rw [hc j hl] at hj'
        simp only [spaces, List.getElem?_map, Option.map_eq_some_iff] at hj'
        obtain ⟨z, hz, rfl⟩ := hj'
        refine ⟨.int .u8 z, ?_, .int 1 z⟩
        simp [emb, hz]
      · rw [hc2 j hl] at hj'; cases hj'
    · rw [AH.sem_ob, hd b e hb'] at ha; cases ha
  refine calls_of_fun (H := H) (args := [.int 0 a0, .int 0 a1]) f7_ok (by kernel_rfl) (by exact h) hr (fun g hg => ⟨by exact hg, rfl, rfl⟩) (.cons _ _ _ _ (.int 0 a0) (.cons _ _ _ _ (.int 0 a1) .nil)) (fun b hb' => ?_)
  by_cases e : b = 0
  · subst e; rw [AH.sem_ob, h0]; rfl
  · rw [AH.sem_ob, hd b e hb']; rfl

theorem lifted (os : Os) (started : os.Started) (H : Type) (enc : TypeId × Value → H) (F : Stop.Interp) :
    ReturnsInHanded {} Tryd.checked os 7 .any ((OpenSpec.ofChange Rows.scopeShadowsSpec).preRow enc Tryd.prog Tryd.f7 Rows.scopeShadowsRow.domain false Rows.scopeShadowsRow.laid) (((OpenSpec.ofChange Rows.scopeShadowsSpec).at F).post enc Tryd.prog Tryd.f7 false true false false) := by
  refine returnsInHanded_of_row (C := Tryd.checked) (s := OpenSpec.ofChange Rows.scopeShadowsSpec) own started (by kernel_rfl) Tryd.func7
    (witness_row_atRef (enc := enc) (C := Tryd.checked) false (laidWorld os) #[.int .i64 0, .int .i64 0] rfl (by kernel_rfl) (by kernel_rfl) (by kernel_rfl) (witness_row os enc)) ?_
  intro W base args ds gs before hval0 hW _ _ _ hL _ _
  have hval : ∀ (j : Nat) t v, Tryd.f7.params[j]? = some t → args[j]? = some v → Value.okWide Tryd.prog W .any base t v := hval0
  have hW' := hW
  obtain ⟨p, q, hA0, hV0, rfl, _, _⟩ := hW
  have hA : DataW.TrodAll enc Tryd.prog W 0 (fun _ => true) true Tryd.f7.params.toList args.toList ds p := hA0
  rw [Tryd.params7] at hA hval
  obtain ⟨v0, vs0, d0, ds0, p0, q0, hargs, rfl, rfl, h0, r0⟩ := trodAll_cons hA
  obtain ⟨v1, vs1, d1, ds1, p1, q1, rfl, rfl, rfl, h1, r1⟩ := trodAll_cons r0
  obtain ⟨rfl, rfl, rfl⟩ := trodAll_nil r1
  obtain rfl : args = #[v0, v1] := by cases args; simp_all
  obtain ⟨a0, rfl, rfl, rfl, w0⟩ := open_int Tryd.underlying3 (hval 0 3 v0 rfl rfl) h0
  obtain ⟨a1, rfl, rfl, rfl, w1⟩ := open_int Tryd.underlying3 (hval 1 3 v1 rfl rfl) h1
  obtain ⟨rfl, rfl⟩ := trodVars_none hV0
  clear hA0 hV0 hval0
  simp only [List.append_nil] at hW'
  refine (walk a0 a1 W (tabIs hL)).mono fun e W' ⟨he, bel⟩ => ?_
  subst he
  refine ⟨_, rfl, _, _, _, [], [], [], hW', ?_, ?_, rfl, bel.frame _, fun h => by cases h⟩
  · exact trodAll_mk1 (shut_bool Tryd.underlying4 true)
  · exact (trodAll_cons_mk (shut_int Tryd.underlying3 w0) (trodAll_cons_mk (shut_int Tryd.underlying3 w1) trodAll_mk0))
theorem holds : Rows.ScopeShadowsSaid :=
  OpenClaim.holds_of_cond 7 Tryd.f7 rfl rfl rfl rfl rfl rfl rfl ⟨rfl, rfl, rfl, rfl, rfl⟩ rfl rfl rfl rfl rfl (by kernel_rfl) Tryd.func7 (by kernel_rfl)
    (of_decide_eq_true (by kernel_rfl)) (by unfold Func.isWrapper; rw [if_neg (of_decide_eq_false (by kernel_rfl))]; exact ⟨rfl, rfl⟩)
    (fun os started H enc _ F0 => by rw [OpenClaim.pre_eq_preRow]; exact lifted os started H enc F0)
theorem proved : Rows.ScopeShadowsCardSaid :=
  Claim7.holds_tied_plain_at .later [] [.listed, .data] true (true, "42c895d711a295cfaf48e1da20e23c9680ad688fe70bcf3f5b2682584aafe1f8") true
    holds (fun _ h => by cases h) (by kernel_rfl) (fun _ h => by cases h) scopeShadows_row_tie rfl ⟨rfl, rfl⟩ (by kernel_rfl) rfl
    (fun f fn hf hfn => by
      obtain rfl : f = 7 := Option.some.inj ((show Tryd.prog.funcNamed "scriptorium/scriptoriumlaw17.ScopeShadows" = some 7 by kernel_rfl).symm.trans hf) |>.symm
      obtain rfl : fn = Tryd.f7 := (Option.some.inj (Tryd.func7.symm.trans hfn)).symm
      exact ⟨by kernel_rfl, fun j t ht => by
        rw [Tryd.params7] at ht
        have hall : ∀ x ∈ ([3, 3] : List Nat), Tryd.prog.wantsStandIn x = false := by
          intro x hx
          simp only [List.mem_cons, List.mem_nil_iff, or_false] at hx
          rcases hx with rfl | rfl
          all_goals kernel_rfl
        exact hall t (by have := Array.mem_of_getElem? ht; simpa using this)⟩)
    (by kernel_rfl)
end Go.Proofs.YtaipinbbmlenaaaDoor.KScopeShadows
