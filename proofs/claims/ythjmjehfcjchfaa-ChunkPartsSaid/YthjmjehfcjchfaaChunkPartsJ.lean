/- 'ChunkParts': for every input the law returns true, and each argument reads as it did. No condition. -/
import Derived.Test.YthjmjehfcjchfaaChunkPartsL
import Derived.Test.YthjmjehfcjchfaaRows
import Derived.WalkKit
import Derived.Below
import Derived.ProofKit
import Derived.OpenShut
import Derived.ChangeVars
import Derived.Carry
import Derived.ChangeMaps5
namespace Go.Proofs.Ythjmjehfcjchfaa.KChunkParts
open Go Go.X Go.Proofs.Ythjmjehfcjchfaa Go.Proofs.Ythjmjehfcjchfaa.G
open Go.ChangeShapes Go.WideShapes Go.ChangeAt Go.RowKit
set_option maxRecDepth 100000
set_option maxHeartbeats 0
set_option linter.unusedVariables false
theorem own : ownKnob Try.prog.godebug = none := by kernel_rfl
theorem laidOut : laidOutB Try.prog = true := by kernel_rfl
theorem fnX_in {F : AV → Int → Int → AV → AH → KF → Prop} {a d : AV} {b c : Int} {H : AH} {K : KF} (h : F a b c d H K) : fnX [.a, .i 0, .i 0, .a] F [a, .int 0 b, .int 0 c, d] H K := h
theorem walk {H : Type} {enc : TypeId × Value → H} {W : World} {base : Nat} {v s : Value} {d d3 : DataW H} {ps p3 : List MemPlace} (hv : Value.okWide Try.prog W .any base 22 v) (hd : DataW.Trod enc Try.prog W 0 (fun _ => true) true 22 v d ps)
    {a1 a2 : Int} (w1 : (Lit.int .i64 a1).wf = true) (w2 : (Lit.int .i64 a2).wf = true) (hv3 : Value.okWide Try.prog W .any base 9 s) (hd3 : DataW.Trod enc Try.prog W 0 (fun _ => true) true 9 s d3 p3) :
    Calls Try.prog 4 #[v, .int .i64 a1, .int .i64 a2, s] W fun e W' => e = .returned (.bool true) ∧ Below W.heap.size W W' := by
  obtain ⟨q, l, h1, h2, h3, h4⟩ := texts_arg hv hd
  obtain ⟨av, g1, g2⟩ := h4 [] [q] 0 rfl
  obtain ⟨st, rfl, _, _, _⟩ := Go.ChangeMaps.open_string Try.underlying9 hv3 hd3
  obtain ⟨n, x, e1, e2, _⟩ := str_of st
  subst e2
  exact call_of g4_ok (by kernel_rfl) [] [q] [av, .int 0 a1, .int 0 a2, .str n x] (by kernel_rfl) (fun H hM => fnX_in (g4_i hM g2 h2 trivial fun _ => trivial)) (fun b z h => by simp at h) (fun r hr => h1 r (by simp only [List.mem_cons, List.not_mem_nil, or_false] at hr; exact hr.symm)) (.cons _ _ _ _ g1 (.cons _ _ _ _ (.int 0 a1) (.cons _ _ _ _ (.int 0 a2) (.cons _ _ _ _ (.str _ _ e1) .nil))))

theorem lifted (os : Os) (started : os.Started) (H : Type) (enc : TypeId × Value → H) :
    ReturnsInHanded {} Try.checked os 4 .any (Rows.chunkPartsSpec.pre6 enc Try.prog Try.f4 Rows.chunkPartsRow.domain false) (Rows.chunkPartsSpec.post enc Try.prog Try.f4 false true false false) := by
  refine returnsInHanded_of_change (C := Try.checked) own started (by kernel_rfl) Try.func4
    (ChangeSpec.witness6 (enc := enc) (C := Try.checked) false ⟨#[], #[.slice none 0 0, .int .i64 0, .int .i64 0, .string ⟨#[]⟩], []⟩ 8 (by kernel_rfl) (by kernel_rfl) (by kernel_rfl) (by kernel_rfl)) ?_
  intro W base args ds gs before hval0 hW hcnd _
  have hval : ∀ (j : Nat) t v, Try.f4.params[j]? = some t → args[j]? = some v → Value.okWide Try.prog W .any base t v := hval0
  have hW' := hW
  obtain ⟨p, q, hA0, hV, rfl, hfz, hnd⟩ := hW
  have hA : DataW.TrodAll enc Try.prog W 0 (fun _ => true) true Try.f4.params.toList args.toList ds p := hA0
  rw [Try.params4] at hA hval
  obtain ⟨v0, vs0, d0, ds0, p0, q0, hargs, rfl, rfl, h0, r0⟩ := trodAll_cons hA
  obtain ⟨v1, vs1, d1, ds1, p1, q1, rfl, rfl, rfl, h1, r1⟩ := trodAll_cons r0
  obtain ⟨v2, vs2, d2, ds2, p2, q2, rfl, rfl, rfl, h2, r2⟩ := trodAll_cons r1
  obtain ⟨v3, vs3, d3, ds3, p3, q3, rfl, rfl, rfl, h3, r3⟩ := trodAll_cons r2
  obtain ⟨rfl, rfl, rfl⟩ := trodAll_nil r3
  obtain rfl : args = #[v0, v1, v2, v3] := by cases args; simp_all
  obtain ⟨rfl, rfl⟩ := trodVars_none hV
  have k0 := hval 0 22 v0 rfl rfl
  obtain ⟨a1, rfl, rfl, rfl, w1⟩ := open_int Try.underlying3 (hval 1 3 v1 rfl rfl) h1
  obtain ⟨a2, rfl, rfl, rfl, w2⟩ := open_int Try.underlying3 (hval 2 3 v2 rfl rfl) h2
  have k3 := hval 3 9 v3 rfl rfl
  clear hA0 hval0
  simp only [List.append_nil] at hW'
  have hlt := hW'.lt
  refine (walk k0 h0 w1 w2 k3 h3).mono fun e W' ⟨he, bel⟩ => ?_
  subst he
  refine ⟨_, rfl, _, _, _, [], _, [], hW', ?_, (trodAll_cons_mk (Below.trod laidOut (by kernel_rfl) (of_decide_eq_true (by kernel_rfl)) h0 bel (fun x hx => hlt x (by simp [hx]))) (trodAll_cons_mk (shut_int Try.underlying3 w1) (trodAll_cons_mk (shut_int Try.underlying3 w2) (trodAll_cons_mk (Below.trod laidOut (by kernel_rfl) (of_decide_eq_true (by kernel_rfl)) h3 bel (fun x hx => hlt x (by simp [hx]))) trodAll_mk0)))), rfl, bel.frame _, fun h => by cases h⟩
  exact trodAll_mk1 (shut_bool Try.underlying4 true)
theorem over : Rows.chunkPartsRow.holds Try.pinned (OpenSpec.ofChange Rows.chunkPartsSpec) :=
  OpenClaim.holds_of_wide 4 Try.f4 rfl rfl rfl rfl rfl rfl rfl ⟨rfl, rfl, rfl, rfl, rfl⟩ rfl rfl rfl rfl rfl (by kernel_rfl) Try.func4 (by kernel_rfl)
    (of_decide_eq_true (by kernel_rfl)) (by unfold Func.isWrapper; first | (rw [if_pos (by decide +kernel)]; kernel_rfl) | (rw [if_neg (by decide +kernel)]; exact ⟨rfl, rfl⟩))
    (fun os started H enc _ => lifted os started H enc)
/-- ████ THE STATEMENT ████ -/
theorem proved : Rows.ChunkPartsSaid :=
  over
#print axioms proved
end Go.Proofs.Ythjmjehfcjchfaa.KChunkParts
