/- 'CellBorders': for every two ints the law returns true, and each argument reads as it did. No condition. -/
import Derived.Test.YtlbojjiijfakaaaC
import Derived.Test.YtlbojjiijfakaaaRows
import Derived.WalkKit
import Derived.Below
import Derived.ProofKit
import Derived.OpenShut
set_option linter.unusedVariables false
set_option linter.unusedSimpArgs false
namespace Go.Proofs.Ytlbojjiijfakaaa.cellBorders
open Go Go.X Go.Proofs.Ytlbojjiijfakaaa Go.Proofs.Ytlbojjiijfakaaa.G
open Go.ChangeShapes Go.WideShapes Go.ChangeAt Go.RowKit
set_option linter.unusedVariables false

theorem own : ownKnob Try.prog.godebug = none := by kernel_rfl

theorem below_of_step {f f' : Emb} {S S' : SH} {w w' : World} (s : StepS f S w f' S' w') (hown : ∀ b, f.dom b → (S.ob b).own = false) : Below w.heap.size w w' :=
  ⟨s.os, s.tape, s.output, s.size, fun k hk => s.keep k hk fun b hb ho => by rw [hown b hb] at ho; cases ho⟩
theorem f3_ok' : FunOk Try.prog 3 (fnX [.i 0, .i 0] (f3_r R3)) := f3_rok R3 (.cons f4_ok (.cons f5_ok (.cons f6_ok (.cons f7_ok (.cons f8_ok (.cons f9_ok (.cons told_ok .nil)))))))
theorem fnX_in {F : Int → Int → AH → KF → Prop} {a b : Int} {H : AH} {K : KF} (h : F a b H K) : fnX [.i 0, .i 0] F [.int 0 a, .int 0 b] H K := h
theorem mem0 : Mem ⟨.e, 0⟩ ⟨0, fun _ => .dead⟩ := ⟨rfl, fun b => by
  have : AH.at ⟨.e, 0⟩ b = .dead := by simp [AH.at, Bt.get?_e]
  rw [this]; trivial, fun b => by simp [Bt.get?_e]⟩
theorem walk (a0 : Int) (a1 : Int) (w : World) :
    Calls Try.prog 3 #[.int .i64 a0, .int .i64 a1] w fun e w' => e = .returned (.bool true) ∧ Below w.heap.size w w' := by
  have h : fnX [.i 0, .i 0] (f3_r R3) [.int 0 a0, .int 0 a1] ⟨.e, 0⟩ (fun o _ => isT o) := fnX_in (f3_i a0 a1 mem0 fun _ => trivial)
  obtain ⟨o, H', h1, h2⟩ := f3_ok' (by kernel_rfl) _ _ _ h
  obtain rfl := isT_out h1
  have hG : Try.prog.globals.size = 0 := by kernel_rfl
  refine (h2 ⟨fun _ => False, fun b => b, fun _ => 0, fun _ => 0⟩ w _ (HRS.mk' (fun b hb => hb.elim) (fun b hb => hb.elim) (fun b c hb => hb.elim)) (fun g hg => by omega) (.cons _ _ _ _ (.int 0 a0) (.cons _ _ _ _ (.int 0 a1) .nil))).mono fun e w' hp => ?_
  obtain ⟨f', s, u, rfl, hu⟩ := hp
  cases hu
  exact ⟨rfl, below_of_step s fun b hb => hb.elim⟩

/-! ### THE ROW's STEP: WRITTEN OUT: LEAVE IT -/
set_option maxRecDepth 100000 in
theorem lifted (os : Os) (started : os.Started) (H : Type) (enc : TypeId × Value → H) :
    ReturnsInHanded {} Try.checked os 3 .any (Rows.cellBordersSpec.pre6 enc Try.prog Try.f3 Rows.cellBordersRow.domain false) (Rows.cellBordersSpec.post enc Try.prog Try.f3 false true false false) := by
  refine returnsInHanded_of_change (C := Try.checked) own started (by kernel_rfl) Try.func3
    (ChangeSpec.witness6 (enc := enc) (C := Try.checked) false ⟨#[], #[.int .i64 0, .int .i64 0], []⟩ 8 (by kernel_rfl) (by kernel_rfl) (by kernel_rfl) (by kernel_rfl)) ?_
  intro W base args ds gs before hval0 hW hcnd _
  have hval : ∀ (j : Nat) t v, Try.f3.params[j]? = some t → args[j]? = some v → Value.okWide Try.prog W .any base t v := hval0
  have hW' := hW
  obtain ⟨p, q, hA0, hV, rfl, hfz, hnd⟩ := hW
  have hA : DataW.TrodAll enc Try.prog W 0 (fun _ => true) true Try.f3.params.toList args.toList ds p := hA0
  rw [Try.params3] at hA hval
  obtain ⟨v0, vs0, d0, ds0, p0, q0, hargs, rfl, rfl, h0, r0⟩ := trodAll_cons hA
  obtain ⟨v1, vs1, d1, ds1, p1, q1, rfl, rfl, rfl, h1, r1⟩ := trodAll_cons r0
  obtain ⟨rfl, rfl, rfl⟩ := trodAll_nil r1
  obtain rfl : args = #[v0, v1] := by cases args; simp_all
  obtain ⟨rfl, rfl⟩ := trodVars_none hV
  obtain ⟨a0, rfl, rfl, rfl, w0⟩ := open_int Try.underlying3 (hval 0 3 v0 rfl rfl) h0
  obtain ⟨a1, rfl, rfl, rfl, w1⟩ := open_int Try.underlying3 (hval 1 3 v1 rfl rfl) h1
  clear hA0 hval0
  simp only [List.append_nil] at hW'
  refine (walk a0 a1 W).mono fun e W' ⟨he, bel⟩ => ?_
  subst he
  refine ⟨_, rfl, _, _, _, [], [], [], hW', ?_, ?_, rfl, bel.frame _, fun h => by cases h⟩
  · exact trodAll_mk1 (shut_bool Try.underlying4 true)
  · exact (trodAll_cons_mk (shut_int Try.underlying3 w0) (trodAll_cons_mk (shut_int Try.underlying3 w1) trodAll_mk0))

theorem over : Rows.cellBordersRow.holds Try.pinned (OpenSpec.ofChange Rows.cellBordersSpec) :=
  OpenClaim.holds_of_wide 3 Try.f3 rfl rfl rfl rfl rfl rfl rfl ⟨rfl, rfl, rfl, rfl, rfl⟩ rfl rfl rfl rfl rfl (by kernel_rfl) Try.func3 (by kernel_rfl)
    (of_decide_eq_true (by kernel_rfl)) (by unfold Func.isWrapper; first | (rw [if_pos (by decide +kernel)]; kernel_rfl) | (rw [if_neg (by decide +kernel)]; exact ⟨rfl, rfl⟩))
    (fun os started H enc _ => lifted os started H enc)

/-- ████ THE STATEMENT ████ -/
theorem proved : Rows.CellBordersSaid :=
  over
#print axioms proved
end Go.Proofs.Ytlbojjiijfakaaa.cellBorders
