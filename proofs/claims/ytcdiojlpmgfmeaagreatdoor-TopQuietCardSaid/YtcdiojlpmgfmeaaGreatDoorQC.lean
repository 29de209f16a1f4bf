/- A sweep over a server without keys: contracts. No condition. -/
import Derived.Test.YtcdiojlpmgfmeaaGreatDoorQB
import Derived.LoopN
import Derived.Deep.RegionHeld3
import Derived.Deep.DeepCutAuto
import Derived.KernelRfl
namespace Go.Proofs.YtcdiojlpmgfmeaaGreatDoor.Q
open Go Go.RowKit Go.Proofs
set_option maxRecDepth 100000
set_option linter.unusedSimpArgs false
set_option linter.unusedVariables false
theorem uNew_ok {W : World} {X : Nat} : Calls Tryz.prog 57 #[.pointer (some ⟨X, 0, none⟩)] W fun e w' => e = .returned (.pointer (some ⟨W.heap.size, 0, none⟩)) ∧ w' = W.alloc (.cells #[.pointer (some ⟨X, 0, none⟩), .slice none 0 0] 174) := by
  go_enter Tryz.func57, Tryz.ntmps57
  go_wp2
  go_ret
  exact ⟨rfl, rfl⟩
theorem Effects_ok {W : World} {U : Nat} (h : W.cell? ⟨U, 1, none⟩ = some (.slice none 0 0)) : Calls Tryz.prog 114 #[.pointer (some ⟨U, 0, none⟩)] W fun e w' => e = .returned (.slice none 0 0) ∧ w' = W := by
  go_enter Tryz.func114, Tryz.ntmps114
  go_wp2
  refine wp_loop_rounds 1 ?_
  rw [rounds_succ]
  go_wp2
  go_ret
  exact ⟨rfl, rfl⟩
theorem Add_ok {W : World} {L : Nat} : Calls Tryz.prog 115 #[.pointer (some ⟨L, 0, none⟩), .slice none 0 0] W fun e w' => e = .returned (.int .i64 0) ∧ w' = W := by
  go_enter Tryz.func115, Tryz.ntmps115
  go_wp2
  go_ret
  exact ⟨rfl, rfl⟩
theorem commit_ok {W : World} {S U L : Nat} (h1 : W.cell? ⟨S, 10, none⟩ = some (.pointer (some ⟨L, 0, none⟩))) (h2 : W.cell? ⟨U, 1, none⟩ = some (.slice none 0 0)) : Calls Tryz.prog 60 #[.pointer (some ⟨S, 0, none⟩), .pointer (some ⟨U, 0, none⟩)] W fun e w' => e = .returned (.int .i64 0) ∧ w' = W := by
  have h3 := Effects_ok h2
  go_enter Tryz.func60, Tryz.ntmps60
  go_wp2_with (first
    | (go_at_call 114; refine h3.mono ?_; rintro e w' ⟨rfl, rfl⟩)
    | (go_at_call 115; refine Add_ok.mono ?_; rintro e w' ⟨rfl, rfl⟩))
  refine wp_loop_rounds 1 ?_
  rw [rounds_succ]
  go_wp2
  go_ret
  exact ⟨rfl, rfl⟩
theorem ins_ok {W : World} {f : Value} : Calls Tryz.prog 233 #[.slice none 0 0, .int .i64 0, .int .i64 0, f] W fun e w' => (∃ v, e = .returned v) ∧ w' = W := by
  go_enter Tryz.func233, Tryz.ntmps233
  go_wp2
  refine wp_loop_rounds 1 ?_
  rw [rounds_succ]
  go_wp2
  go_end0
  exact ⟨⟨_, rfl⟩, rfl⟩
theorem pdq_ok {W : World} {f : Value} {n : Int} : Calls Tryz.prog 181 #[.slice none 0 0, .int .i64 0, .int .i64 0, .int .i64 n, f] W fun e w' => (∃ v, e = .returned v) ∧ w' = W := by
  go_enter Tryz.func181, Tryz.ntmps181
  go_wp2
  refine wp_loop_rounds 1 ?_
  rw [rounds_succ]
  go_wp2_with (go_at_call 233; refine ins_ok.mono ?_; rintro e w' ⟨⟨v, rfl⟩, rfl⟩)
  refine bodyPost_ret (results_none rfl _ _ _) rfl ?_
  exact ⟨⟨_, rfl⟩, rfl⟩
theorem SortFunc_ok {W : World} {f : Value} : Calls Tryz.prog 106 #[.slice none 0 0, f] W fun e w' => (∃ v, e = .returned v) ∧ w' = W := by
  go_enter Tryz.func106, Tryz.ntmps106
  go_wp2_with (first
    | (go_at_call 181; refine pdq_ok.mono ?_; rintro e w' ⟨⟨v, rfl⟩, rfl⟩)
    | go_in)
  go_end0
  exact ⟨⟨_, rfl⟩, rfl⟩
/-- All entries of a space without keys. -/
def AllNone (W : World) (X : Nat) : Prop := ∀ w', Below W.heap.size W w' → Calls Tryz.prog 36 #[.pointer (some ⟨X, 0, none⟩)] w' fun e w'' => e = .returned (.slice none 0 0) ∧ Below w'.heap.size w' w''
theorem Ended_ok {W : World} {X : Nat} {t n : Int} (h : Calls Tryz.prog 36 #[.pointer (some ⟨X, 0, none⟩)] W fun e w'' => e = .returned (.slice none 0 0) ∧ Below W.heap.size W w'') :
    Calls Tryz.prog 58 #[.pointer (some ⟨X, 0, none⟩), .int .i64 t, .int .i64 n] W fun e w' => e = .returned (.slice none 0 0) ∧ Below W.heap.size W w' := by
  go_enter Tryz.func58, Tryz.ntmps58
  go_wp2_with (first
    | (go_at_call 36; refine h.mono ?_; rintro e w1 ⟨rfl, b1⟩))
  refine wp_loop_rounds 1 ?_
  rw [rounds_succ]
  go_wp2_with (first
    | (go_at_call 106; refine SortFunc_ok.mono ?_; rintro e w2 ⟨⟨v, rfl⟩, rfl⟩))
  all_goals
    refine wp_loop_rounds 1 ?_
    rw [rounds_succ]
    go_wp2
    go_ret
    exact ⟨rfl, b1⟩
/-- A server without keys that is up. -/
structure SrvIs (W : World) (S X L D M XM cl xc : Nat) : Prop where
  d : W.cell? ⟨S, 5, none⟩ = some (.pointer (some ⟨D, 0, none⟩))
  up : W.cell? ⟨S, 7, none⟩ = some (.bool true)
  s : W.cell? ⟨S, 9, none⟩ = some (.pointer (some ⟨X, 0, none⟩))
  l : W.cell? ⟨S, 10, none⟩ = some (.pointer (some ⟨L, 0, none⟩))
  r : W.cell? ⟨S, 11, none⟩ = some (.pointer none)
  run : W.cell? ⟨S, 14, none⟩ = some (.pointer none)
  log : LogIs W L D
  side : W.cell? ⟨L, 4, none⟩ = some (.bool false)
  disk : DiskIs W D M cl
  xm : W.cell? ⟨X, 0, none⟩ = some (.map (some XM))
  xmap : W.heap[XM]? = some (.map #[] xc)
abbrev evt (k c n : Int) (b : ByteArray) (g : Bool) : Value := .agg #[.int .i64 k, .int .i64 c, .int .i64 n, .string b, .bool g]
theorem goOn_ok {W : World} {S : Nat} {k c n : Int} {b : ByteArray} {g : Bool} (hS : S < W.heap.size) (h : W.cell? ⟨S, 14, none⟩ = some (.pointer none)) :
    Calls Tryz.prog 23 #[.pointer (some ⟨S, 0, none⟩), evt k c n b g] W fun e w' => e = .returned (.int .i64 25) ∧ Below W.heap.size W w' := by
  go_enter Tryz.func23, Tryz.ntmps23
  go_wp2
  go_ret
  exact ⟨rfl, (Below.refl _ _).alloc (Nat.le_refl _) _⟩
theorem sweep_keep {W w' w3 : World} {S X : Nat} {t n : Int} (hS : S < W.heap.size) (hq : w'.cell? ⟨S, 9, none⟩ = some (.pointer (some ⟨X, 0, none⟩)) ∧ w'.cell? ⟨S, 6, none⟩ = some (.int .i64 t) ∧ w'.cell? ⟨W.heap.size, 2, none⟩ = some (.int .i64 n) ∧ w'.cell? ⟨W.heap.size + 1, 1, none⟩ = some (.slice none 0 0) ∧ Below W.heap.size W w' ∧ W.heap.size + 1 < w'.heap.size) (b3 : Below w'.heap.size w' w3) :
    w3.cell? ⟨S, 9, none⟩ = some (.pointer (some ⟨X, 0, none⟩)) ∧ w3.cell? ⟨S, 6, none⟩ = some (.int .i64 t) ∧ w3.cell? ⟨W.heap.size, 2, none⟩ = some (.int .i64 n) ∧ w3.cell? ⟨W.heap.size + 1, 1, none⟩ = some (.slice none 0 0) ∧ Below W.heap.size W w3 ∧ W.heap.size + 1 < w3.heap.size := by
  obtain ⟨h1, h2, h3, h6, h4, h5⟩ := hq
  have := b3.size
  exact ⟨(b3.cell (p := ⟨S, 9, none⟩) (by show S < _; omega)).trans h1, (b3.cell (p := ⟨S, 6, none⟩) (by show S < _; omega)).trans h2, (b3.cell (p := ⟨W.heap.size, 2, none⟩) (by show W.heap.size < _; omega)).trans h3, (b3.cell (p := ⟨W.heap.size + 1, 1, none⟩) (by show W.heap.size + 1 < _; omega)).trans h6, h4.trans (b3.mono h4.size), by omega⟩
theorem sweep_ok {W : World} {S X L : Nat} {k c n t : Int} {b : ByteArray} {g : Bool} (hS : S < W.heap.size) (h1 : W.cell? ⟨S, 14, none⟩ = some (.pointer none)) (h2 : W.cell? ⟨S, 9, none⟩ = some (.pointer (some ⟨X, 0, none⟩))) (h3 : W.cell? ⟨S, 10, none⟩ = some (.pointer (some ⟨L, 0, none⟩)))
    (h4 : W.cell? ⟨S, 6, none⟩ = some (.int .i64 t)) (hA : ∀ w', Below W.heap.size W w' → Calls Tryz.prog 36 #[.pointer (some ⟨X, 0, none⟩)] w' fun e w'' => e = .returned (.slice none 0 0) ∧ Below w'.heap.size w' w'') :
    Calls Tryz.prog 25 #[.pointer (some ⟨S, 0, none⟩), evt k c n b g] W fun e w' => e = .returned (.int .i64 0) ∧ Below W.heap.size W w' := by
  go_enter Tryz.func25, Tryz.ntmps25
  go_wp2_with (first
    | (go_at_call 57; refine uNew_ok.mono ?_; rintro e w1 ⟨rfl, rfl⟩))
  obtain ⟨w2, e2⟩ : ∃ w2, w2 = (W.alloc (.cells #[.int .i64 k, .int .i64 c, .int .i64 n, .string b, .bool g] 29)).alloc (.cells #[.pointer (some ⟨X, 0, none⟩), .slice none 0 0] 174) := ⟨_, rfl⟩
  have b2 : Below W.heap.size W w2 := by rw [e2]; exact ((Below.refl _ _).alloc (Nat.le_refl _) _).alloc (by simp) _
  have c9 : w2.cell? ⟨S, 9, none⟩ = some (.pointer (some ⟨X, 0, none⟩)) := (b2.cell (p := ⟨S, 9, none⟩) hS).trans h2
  have c6 : w2.cell? ⟨S, 6, none⟩ = some (.int .i64 t) := (b2.cell (p := ⟨S, 6, none⟩) hS).trans h4
  have c10 : w2.cell? ⟨S, 10, none⟩ = some (.pointer (some ⟨L, 0, none⟩)) := (b2.cell (p := ⟨S, 10, none⟩) hS).trans h3
  have cn : w2.cell? ⟨W.heap.size, 2, none⟩ = some (.int .i64 n) := by rw [e2]; simp [go_sem]
  have cu : w2.cell? ⟨W.heap.size + 1, 1, none⟩ = some (.slice none 0 0) := by rw [e2]; simp [go_sem]
  have hA2 := fun w' (b : Below W.heap.size W w') => Ended_ok (t := t) (n := n) (hA w' b)
  have hz : W.heap.size + 1 < w2.heap.size := by rw [e2]; simp
  rw [← e2]
  clear e2 h1 h2 h4 hA
  go_region_held3 (fun w' => w'.cell? ⟨S, 9, none⟩ = some (.pointer (some ⟨X, 0, none⟩)) ∧ w'.cell? ⟨S, 6, none⟩ = some (.int .i64 t) ∧ w'.cell? ⟨W.heap.size, 2, none⟩ = some (.int .i64 n) ∧ w'.cell? ⟨W.heap.size + 1, 1, none⟩ = some (.slice none 0 0) ∧ Below W.heap.size W w' ∧ W.heap.size + 1 < w'.heap.size)
    (first | exact ⟨c9, c6, cn, cu, b2.drew, by simpa using hz⟩ | exact sweep_keep hS hq b3 | go_keep)
    (first | (go_at_call 58; have hq := ‹_ ∧ _ ∧ _ ∧ _ ∧ Below _ _ _ ∧ _›; refine (hA2 _ hq.2.2.2.2.1).mono ?_; rintro e w3 ⟨rfl, b3⟩))
  have hq := ‹_ ∧ _ ∧ _ ∧ _ ∧ Below _ _ _ ∧ _›
  obtain ⟨-, -, -, u3, b3, -⟩ := hq
  have hc := fun w' (h : w' = w3) => commit_ok (W := w') (S := S) (U := W.heap.size + 1) (L := L) (by rw [h]; exact (b3.cell (p := ⟨S, 10, none⟩) hS).trans h3) (by rw [h]; exact u3)
  go_wp2
  refine wp_loop_rounds 1 ?_
  rw [rounds_succ]
  go_wp2_with (go_at_call 60; refine (hc _ rfl).mono ?_; rintro e w5 ⟨rfl, rfl⟩)
  go_ret
  exact ⟨rfl, b3⟩
end Go.Proofs.YtcdiojlpmgfmeaaGreatDoor.Q
