/- 'ChunkPlays': for every input the law returns true, and each argument reads as it did. No condition. -/
import Derived.Test.YthjmjehfcjchfaaChunkPlaysL
import Derived.Test.YthjmjehfcjchfaaRows
import Derived.WalkKit
import Derived.Below
import Derived.ProofKit
import Derived.OpenShut
import Derived.ChangeVars
import Derived.Carry
import Derived.ChangeMaps5
namespace Go.Proofs.Ythjmjehfcjchfaa.KChunkPlays
open Go Go.X Go.Proofs.Ythjmjehfcjchfaa Go.Proofs.Ythjmjehfcjchfaa.G
open Go.ChangeShapes Go.WideShapes Go.ChangeAt Go.RowKit
set_option maxRecDepth 100000
set_option maxHeartbeats 0
set_option linter.unusedVariables false
theorem own : ownKnob Try.prog.godebug = none := by kernel_rfl
theorem laidOut : laidOutB Try.prog = true := by kernel_rfl
theorem fnX_in {F : AV → AV → AH → KF → Prop} {a b : AV} {H : AH} {K : KF} (h : F a b H K) : fnX [.a, .a] F [a, b] H K := h
theorem walk {H : Type} {enc : TypeId × Value → H} {W : World} {base : Nat} {v v' : Value} {d d' : DataW H} {ps ps' : List MemPlace} (hv : Value.okWide Try.prog W .any base 22 v) (hd : DataW.Trod enc Try.prog W 0 (fun _ => true) true 22 v d ps)
    (hv' : Value.okWide Try.prog W .any base 36 v') (hd' : DataW.Trod enc Try.prog W 0 (fun _ => true) true 36 v' d' ps') : Calls Try.prog 5 #[v, v'] W fun e W' => e = .returned (.bool true) ∧ Below W.heap.size W W' := by
  obtain ⟨q, l, h1, h2, h3, h4⟩ := texts_arg hv hd
  obtain ⟨q', l', h1', h2', h4'⟩ := ops_arg hv' hd'
  obtain ⟨av, g1, g2⟩ := h4 [] [q, q'] 0 rfl
  obtain ⟨av', g1', g2'⟩ := h4' [] [q, q'] 1 rfl
  refine call_of g5_ok (by kernel_rfl) [] [q, q'] [av, av'] (by kernel_rfl) (fun H hM => fnX_in (g5_i hM g2 h2 g2' h2' fun _ => trivial)) (fun b z h => by simp at h) (fun r hr => ?_) (.cons _ _ _ _ g1 (.cons _ _ _ _ g1' .nil))
  simp only [List.mem_cons, List.not_mem_nil, or_false] at hr
  exact hr.elim (fun h => h1 r h.symm) (fun h => h1' r h.symm)

theorem lifted (os : Os) (started : os.Started) (H : Type) (enc : TypeId × Value → H) :
    ReturnsInHanded {} Try.checked os 5 .any (Rows.chunkPlaysSpec.pre6 enc Try.prog Try.f5 Rows.chunkPlaysRow.domain false) (Rows.chunkPlaysSpec.post enc Try.prog Try.f5 false true false false) := by
  refine returnsInHanded_of_change (C := Try.checked) own started (by kernel_rfl) Try.func5
    (ChangeSpec.witness6 (enc := enc) (C := Try.checked) false ⟨#[], #[.slice none 0 0, .slice none 0 0], []⟩ 8 (by kernel_rfl) (by kernel_rfl) (by kernel_rfl) (by kernel_rfl)) ?_
  intro W base args ds gs before hval0 hW hcnd _
  have hval : ∀ (j : Nat) t v, Try.f5.params[j]? = some t → args[j]? = some v → Value.okWide Try.prog W .any base t v := hval0
  have hW' := hW
  obtain ⟨p, q, hA0, hV, rfl, hfz, hnd⟩ := hW
  have hA : DataW.TrodAll enc Try.prog W 0 (fun _ => true) true Try.f5.params.toList args.toList ds p := hA0
  rw [Try.params5] at hA hval
  obtain ⟨v0, vs0, d0, ds0, p0, q0, hargs, rfl, rfl, h0, r0⟩ := trodAll_cons hA
  obtain ⟨v1, vs1, d1, ds1, p1, q1, rfl, rfl, rfl, h1, r1⟩ := trodAll_cons r0
  obtain ⟨rfl, rfl, rfl⟩ := trodAll_nil r1
  obtain rfl : args = #[v0, v1] := by cases args; simp_all
  obtain ⟨rfl, rfl⟩ := trodVars_none hV
  have k0 := hval 0 22 v0 rfl rfl
  have k1 := hval 1 36 v1 rfl rfl
  clear hA0 hval0
  simp only [List.append_nil] at hW'
  have hlt := hW'.lt
  refine (walk k0 h0 k1 h1).mono fun e W' ⟨he, bel⟩ => ?_
  subst he
  refine ⟨_, rfl, _, _, _, [], _, [], hW', ?_, (trodAll_cons_mk (Below.trod laidOut (by kernel_rfl) (of_decide_eq_true (by kernel_rfl)) h0 bel (fun x hx => hlt x (by simp [hx]))) (trodAll_cons_mk (Below.trod laidOut (by kernel_rfl) (of_decide_eq_true (by kernel_rfl)) h1 bel (fun x hx => hlt x (by simp [hx]))) trodAll_mk0)), rfl, bel.frame _, fun h => by cases h⟩
  exact trodAll_mk1 (shut_bool Try.underlying4 true)
theorem over : Rows.chunkPlaysRow.holds Try.pinned (OpenSpec.ofChange Rows.chunkPlaysSpec) :=
  OpenClaim.holds_of_wide 5 Try.f5 rfl rfl rfl rfl rfl rfl rfl ⟨rfl, rfl, rfl, rfl, rfl⟩ rfl rfl rfl rfl rfl (by kernel_rfl) Try.func5 (by kernel_rfl)
    (of_decide_eq_true (by kernel_rfl)) (by unfold Func.isWrapper; first | (rw [if_pos (by decide +kernel)]; kernel_rfl) | (rw [if_neg (by decide +kernel)]; exact ⟨rfl, rfl⟩))
    (fun os started H enc _ => lifted os started H enc)
/-- ████ THE STATEMENT ████ -/
theorem proved : Rows.ChunkPlaysSaid :=
  over
#print axioms proved
end Go.Proofs.Ythjmjehfcjchfaa.KChunkPlays
