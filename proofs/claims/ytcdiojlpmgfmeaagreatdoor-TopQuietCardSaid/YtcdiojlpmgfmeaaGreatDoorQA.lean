/- Small functions of the log, the disk and the rewrite over a server without keys: contracts. No condition. -/
import Derived.Test.YtcdiojlpmgfmeaaGreatDoorProg
import Derived.WalkKit
import Derived.Below
import Derived.Maps.Own
import Derived.Maps.OwnSet
import Derived.Maps.Views
import Derived.Maps.AppendAt
import Derived.StringKeys
import Derived.Carry
import Derived.LoopTactic
import Derived.LoopN
import Derived.WalkMore
import Derived.Deep.RegionHeld3
import Derived.Deep.DeepCutAuto
import Derived.KernelRfl
namespace Go.Proofs.YtcdiojlpmgfmeaaGreatDoor.Q
open Go Go.RowKit Go.Proofs
set_option maxRecDepth 100000
set_option linter.unusedSimpArgs false
set_option linter.unusedVariables false
/-- Jumps in a scope. -/
def ScI (P : Program) (c : Code) (Q : Exit → Act → World → Prop) : Nat → Code → Act → World → Prop
  | 0, _, _, _ => False
  | n + 1, r, a, w => r.wp P (fun e a w => match e with | .goto l => (match findLabel c l with | some r' => ScI P c Q n r' a w | none => Q (.goto l) a w) | e => Q e a w) a w
theorem wp_scope_jumps' {P : Program} {c : Code} {Q : Exit → Act → World → Prop} {n : Nat} {a : Act} {w : World} (h : ScI P c Q n c a w) : (Code.scope c).wp P Q a w := by
  intro b k cs
  have key : ∀ n r a w, ScI P c Q n r a w → ∃ e a' w', Q e a' w' ∧ Arrives P (lone (b.at a (.code r :: .inScope c :: k)) cs w) b k cs e a' w' := by
    intro n
    induction n with
    | zero => exact fun r a w h => h.elim
    | succ n ih =>
      intro r a w h
      obtain ⟨e, a₁, w₁, hq, harr⟩ := h b (.inScope c :: k) cs
      cases e with
      | normal => exact ⟨.normal, a₁, w₁, hq, Steps.trans harr (.one step_inScope)⟩
      | exit id => exact ⟨.exit id, a₁, w₁, hq, fun k' hk => harr k' (by simp [exitTo, hk])⟩
      | goto l =>
        simp only at hq
        split at hq
        · rename_i r' hf
          obtain ⟨e₂, a₂, w₂, hq₂, harr₂⟩ := ih r' a₁ w₁ hq
          exact ⟨e₂, a₂, w₂, hq₂, .of_steps (harr _ (by simp [gotoIn, hf])) harr₂⟩
        · rename_i hf
          exact ⟨.goto l, a₁, w₁, hq, fun k' hk => harr k' (by simp [gotoIn, hf, hk])⟩
      | ret => exact ⟨_, a₁, w₁, hq, harr⟩
      | panic ch => exact ⟨_, a₁, w₁, hq, harr⟩
      | outgrown => exact ⟨_, a₁, w₁, hq, harr⟩
  obtain ⟨e, a', w', q, harr⟩ := key n c a w h
  exact ⟨e, a', w', q, .of_steps (.one step_scope) harr⟩
def ScP (P : Program) (c : Code) (Q : Exit → Act → World → Prop) (n : Nat) : Exit → Act → World → Prop := fun e a w => match e with | .goto l => (match findLabel c l with | some r' => ScI P c Q n r' a w | none => Q (.goto l) a w) | e => Q e a w
theorem ScI_in {P : Program} {c r : Code} {Q : Exit → Act → World → Prop} {n : Nat} {a : Act} {w : World} (h : r.wp P (ScP P c Q n) a w) : ScI P c Q (n + 1) r a w := h
theorem ScP_goto {P : Program} {c r : Code} {Q : Exit → Act → World → Prop} {n l : Nat} {a : Act} {w : World} (h : findLabel c l = some r) (h2 : ScI P c Q n r a w) : ScP P c Q n (.goto l) a w := by
  unfold ScP
  simp only [h]
  exact h2
@[go_sem] theorem ScP_normal {P : Program} {c : Code} {Q : Exit → Act → World → Prop} {n : Nat} {a : Act} {w : World} : ScP P c Q n .normal a w = Q .normal a w := rfl
@[go_sem] theorem ScP_ret {P : Program} {c : Code} {Q : Exit → Act → World → Prop} {n : Nat} {a : Act} {w : World} : ScP P c Q n .ret a w = Q .ret a w := rfl
@[go_sem] theorem ScP_exit {P : Program} {c : Code} {Q : Exit → Act → World → Prop} {n id : Nat} {a : Act} {w : World} : ScP P c Q n (.exit id) a w = Q (.exit id) a w := rfl
@[go_sem] theorem ScP_panic {P : Program} {c : Code} {Q : Exit → Act → World → Prop} {n : Nat} {ch : List PanicEntry} {a : Act} {w : World} : ScP P c Q n (.panic ch) a w = Q (.panic ch) a w := rfl
/-- Only blocks of Z may have changed, and there are new ones. -/
structure Ch (Z : Nat → Prop) (w w' : World) : Prop where
  os : w'.os = w.os
  tape : w'.tape = w.tape
  output : w'.output = w.output
  size : w.heap.size ≤ w'.heap.size
  block : ∀ k, k < w.heap.size → ¬ Z k → w'.heap[k]? = w.heap[k]?
theorem Ch.refl (Z : Nat → Prop) (w : World) : Ch Z w w := ⟨rfl, rfl, rfl, Nat.le_refl _, fun _ _ _ => rfl⟩
theorem Ch.trans {Z : Nat → Prop} {a b c : World} (h : Ch Z a b) (g : Ch Z b c) : Ch Z a c :=
  ⟨g.os.trans h.os, g.tape.trans h.tape, g.output.trans h.output, Nat.le_trans h.size g.size, fun k hk hz => (g.block k (Nat.lt_of_lt_of_le hk h.size) hz).trans (h.block k hk hz)⟩
theorem Ch.mono {Z Z' : Nat → Prop} {a b : World} (h : Ch Z a b) (hz : ∀ k, k < a.heap.size → Z k → Z' k) : Ch Z' a b := ⟨h.os, h.tape, h.output, h.size, fun k hk hn => h.block k hk fun x => hn (hz k hk x)⟩
theorem Ch.of_below {Z : Nat → Prop} {a b : World} (h : Below a.heap.size a b) : Ch Z a b := ⟨h.os, h.tape, h.output, h.size, fun k hk _ => h.block k hk⟩
theorem Ch.below {a b : World} (h : Ch (fun _ => False) a b) : Below a.heap.size a b := ⟨h.os, h.tape, h.output, h.size, fun k hk => h.block k hk (fun x => x)⟩
theorem Ch.alloc {Z : Nat → Prop} {a b : World} (h : Ch Z a b) (o : Obj) : Ch Z a (b.alloc o) :=
  ⟨h.os, h.tape, h.output, Nat.le_trans h.size (by simp), fun k hk hz => (Below.heap_alloc b o k (Nat.lt_of_lt_of_le hk h.size)).trans (h.block k hk hz)⟩
theorem Ch.set {Z : Nat → Prop} {a b : World} (h : Ch Z a b) {p : Addr} (hp : Z p.block ∨ a.heap.size ≤ p.block) (u : Value) : Ch Z a (b.setCell p u) :=
  ⟨h.os, h.tape, h.output, by simpa using h.size, fun k hk hz => (Below.heap_setCell b p u k (fun e => hp.elim (fun x => hz (e ▸ x)) (fun x => by omega))).trans (h.block k hk hz)⟩
theorem Ch.drew {Z : Nat → Prop} {a b : World} (h : Ch Z a b) : Ch Z a b.drew := ⟨h.os, h.tape, h.output, h.size, h.block⟩
theorem Ch.cell {Z : Nat → Prop} {a b : World} (h : Ch Z a b) {p : Addr} (hp : p.block < a.heap.size) (hz : ¬ Z p.block) : b.cell? p = a.cell? p := World.cell?_of_block (w := a) (h.block p.block hp hz)
theorem Ch.frozen {Z : Nat → Prop} {a b : World} (h : Ch Z a b) {p : Addr} (hp : p.block < a.heap.size) (hz : ¬ Z p.block) : b.frozen? p = a.frozen? p := World.frozen?_of_block (w := a) (h.block p.block hp hz)
/-- The log that is safe, by always. -/
structure LogIs (W : World) (L D : Nat) : Prop where
  d : W.cell? ⟨L, 0, none⟩ = some (.pointer (some ⟨D, 0, none⟩))
  policy : W.cell? ⟨L, 1, none⟩ = some (.int .i64 0)
  units : W.cell? ⟨L, 2, none⟩ = some (.int .i64 0)
  state : W.cell? ⟨L, 3, none⟩ = some (.int .i64 0)
  b : W.cell? ⟨L, 5, none⟩ = some (.slice none 0 0)
/-- The disk without files. -/
structure DiskIs (W : World) (D M cl : Nat) : Prop where
  files : W.cell? ⟨D, 0, none⟩ = some (.map (some M))
  down : W.cell? ⟨D, 2, none⟩ = some (.bool false)
  map : W.heap[M]? = some (.map #[] cl)
theorem Tick_ok {W : World} {L D : Nat} (h : LogIs W L D) : Calls Tryz.prog 56 #[.pointer (some ⟨L, 0, none⟩)] W fun e w' => e = .returned (.int .i64 0) ∧ w' = W := by
  have h1 := h.policy
  go_enter Tryz.func56, Tryz.ntmps56
  go_wp2
  go_ret
  exact ⟨rfl, rfl⟩
theorem lUnits_ok {W : World} {L D : Nat} (h : LogIs W L D) : Calls Tryz.prog 34 #[.pointer (some ⟨L, 0, none⟩)] W fun e w' => e = .returned (.int .i64 0) ∧ w' = W := by
  have h1 := h.units
  go_enter Tryz.func34, Tryz.ntmps34
  go_wp2
  go_ret
  exact ⟨rfl, rfl⟩
theorem Gathered_ok {W : World} {L D : Nat} (h : LogIs W L D) : Calls Tryz.prog 120 #[.pointer (some ⟨L, 0, none⟩)] W fun e w' => e = .returned (.slice none 0 0) ∧ w' = W := by
  have h1 := h.b
  go_enter Tryz.func120, Tryz.ntmps120
  go_wp2
  go_ret
  exact ⟨rfl, rfl⟩
theorem Side_ok {W : World} {L : Nat} {s b : Bool} (h1 : W.cell? ⟨L, 4, none⟩ = some (.bool s)) (h2 : W.cell? ⟨L, 5, none⟩ = some (.slice none 0 0)) (f1 : W.frozen? ⟨L, 4, none⟩ = false) (f2 : W.frozen? ⟨L, 5, none⟩ = false) :
    Calls Tryz.prog 117 #[.pointer (some ⟨L, 0, none⟩), .bool b] W fun e w' => (∃ v, e = .returned v) ∧ w' = (W.setCell ⟨L, 4, none⟩ (.bool b)).setCell ⟨L, 5, none⟩ (.slice none 0 0) := by
  go_enter Tryz.func117, Tryz.ntmps117
  go_wp2
  go_end0
  exact ⟨⟨_, rfl⟩, rfl⟩
theorem put_ok {W : World} {R : Nat} : Calls Tryz.prog 119 #[.pointer (some ⟨R, 0, none⟩), .slice none 0 0] W fun e w' => e = .returned (.int .i64 0) ∧ w' = W := by
  go_enter Tryz.func119, Tryz.ntmps119
  go_wp2
  go_ret
  exact ⟨rfl, rfl⟩
end Go.Proofs.YtcdiojlpmgfmeaaGreatDoor.Q
