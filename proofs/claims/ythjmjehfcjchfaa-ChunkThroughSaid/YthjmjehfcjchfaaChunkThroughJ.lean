/- 'ChunkThrough': for every input the law returns true, and each argument reads as it did. No condition. -/
import Derived.Test.YthjmjehfcjchfaaChunkThroughL
import Derived.Test.YthjmjehfcjchfaaRows
import Derived.WalkKit
import Derived.Below
import Derived.ProofKit
import Derived.OpenShut
import Derived.ChangeVars
import Derived.Carry
import Derived.ChangeMaps5
namespace Go.Proofs.Ythjmjehfcjchfaa.KChunkThrough
open Go Go.X Go.Proofs.Ythjmjehfcjchfaa Go.Proofs.Ythjmjehfcjchfaa.G
open Go.ChangeShapes Go.WideShapes Go.ChangeAt Go.RowKit
set_option maxRecDepth 100000
set_option maxHeartbeats 0
set_option linter.unusedVariables false
theorem own : ownKnob Try.prog.godebug = none := by kernel_rfl
theorem laidOut : laidOutB Try.prog = true := by kernel_rfl
theorem fnX_in {F : Int → Bool → Int → AH → KF → Prop} {a c : Int} {b : Bool} {H : AH} {K : KF} (h : F a b c H K) : fnX [.i 0, .b, .i 0] F [.int 0 a, .bool b, .int 0 c] H K := h
theorem walk {W : World} {a0 a2 : Int} (w0 : (Lit.int .i64 a0).wf = true) (a1 : Bool) (w2 : (Lit.int .i64 a2).wf = true) : Calls Try.prog 6 #[.int .i64 a0, .bool a1, .int .i64 a2] W fun e W' => e = .returned (.bool true) ∧ Below W.heap.size W W' :=
  call_of g6_ok (by kernel_rfl) [] [] [.int 0 a0, .bool a1, .int 0 a2] (by kernel_rfl) (fun H hM => fnX_in (g6_i hM fun _ => trivial)) (fun b z h => by simp at h) (fun r hr => by simp at hr) (.cons _ _ _ _ (.int 0 a0) (.cons _ _ _ _ (.bool a1) (.cons _ _ _ _ (.int 0 a2) .nil)))

theorem lifted (os : Os) (started : os.Started) (H : Type) (enc : TypeId × Value → H) :
    ReturnsInHanded {} Try.checked os 6 .any (Rows.chunkThroughSpec.pre6 enc Try.prog Try.f6 Rows.chunkThroughRow.domain false) (Rows.chunkThroughSpec.post enc Try.prog Try.f6 false true false false) := by
  refine returnsInHanded_of_change (C := Try.checked) own started (by kernel_rfl) Try.func6
    (ChangeSpec.witness6 (enc := enc) (C := Try.checked) false ⟨#[], #[.int .i64 0, .bool false, .int .i64 0], []⟩ 8 (by kernel_rfl) (by kernel_rfl) (by kernel_rfl) (by kernel_rfl)) ?_
  intro W base args ds gs before hval0 hW hcnd _
  have hval : ∀ (j : Nat) t v, Try.f6.params[j]? = some t → args[j]? = some v → Value.okWide Try.prog W .any base t v := hval0
  have hW' := hW
  obtain ⟨p, q, hA0, hV, rfl, hfz, hnd⟩ := hW
  have hA : DataW.TrodAll enc Try.prog W 0 (fun _ => true) true Try.f6.params.toList args.toList ds p := hA0
  rw [Try.params6] at hA hval
  obtain ⟨v0, vs0, d0, ds0, p0, q0, hargs, rfl, rfl, h0, r0⟩ := trodAll_cons hA
  obtain ⟨v1, vs1, d1, ds1, p1, q1, rfl, rfl, rfl, h1, r1⟩ := trodAll_cons r0
  obtain ⟨v2, vs2, d2, ds2, p2, q2, rfl, rfl, rfl, h2, r2⟩ := trodAll_cons r1
  obtain ⟨rfl, rfl, rfl⟩ := trodAll_nil r2
  obtain rfl : args = #[v0, v1, v2] := by cases args; simp_all
  obtain ⟨rfl, rfl⟩ := trodVars_none hV
  obtain ⟨a0, rfl, rfl, rfl, w0⟩ := open_int Try.underlying3 (hval 0 3 v0 rfl rfl) h0
  obtain ⟨a1, rfl, rfl, rfl⟩ := open_bool Try.underlying4 (hval 1 4 v1 rfl rfl) h1
  obtain ⟨a2, rfl, rfl, rfl, w2⟩ := open_int Try.underlying3 (hval 2 3 v2 rfl rfl) h2
  clear hA0 hval0
  simp only [List.append_nil] at hW'
  have hlt := hW'.lt
  refine (walk w0 a1 w2).mono fun e W' ⟨he, bel⟩ => ?_
  subst he
  refine ⟨_, rfl, _, _, _, [], _, [], hW', ?_, (trodAll_cons_mk (shut_int Try.underlying3 w0) (trodAll_cons_mk (shut_bool Try.underlying4 _) (trodAll_cons_mk (shut_int Try.underlying3 w2) trodAll_mk0))), rfl, bel.frame _, fun h => by cases h⟩
  exact trodAll_mk1 (shut_bool Try.underlying4 true)
theorem over : Rows.chunkThroughRow.holds Try.pinned (OpenSpec.ofChange Rows.chunkThroughSpec) :=
  OpenClaim.holds_of_wide 6 Try.f6 rfl rfl rfl rfl rfl rfl rfl ⟨rfl, rfl, rfl, rfl, rfl⟩ rfl rfl rfl rfl rfl (by kernel_rfl) Try.func6 (by kernel_rfl)
    (of_decide_eq_true (by kernel_rfl)) (by unfold Func.isWrapper; first | (rw [if_pos (by decide +kernel)]; kernel_rfl) | (rw [if_neg (by decide +kernel)]; exact ⟨rfl, rfl⟩))
    (fun os started H enc _ => lifted os started H enc)
/-- ████ THE STATEMENT ████ -/
theorem proved : Rows.ChunkThroughSaid :=
  over
#print axioms proved
end Go.Proofs.Ythjmjehfcjchfaa.KChunkThrough
