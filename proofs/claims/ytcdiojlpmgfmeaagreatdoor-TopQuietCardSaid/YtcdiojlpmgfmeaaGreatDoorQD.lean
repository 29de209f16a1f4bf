/- A rewrite and a tick over a server without keys: contracts. No condition. -/
import Derived.Test.YtcdiojlpmgfmeaaGreatDoorQC
import Derived.Lib.Hide
namespace Go.Proofs.YtcdiojlpmgfmeaaGreatDoor.Q
open Go Go.RowKit Go.Proofs
set_option maxRecDepth 100000
set_option linter.unusedSimpArgs false
set_option linter.unusedVariables false
theorem Step_ok {W : World} {R L D M cl : Nat} {n : Int} (h0 : W.cell? ⟨R, 0, none⟩ = some (.pointer (some ⟨D, 0, none⟩))) (h1 : W.cell? ⟨R, 1, none⟩ = some (.pointer (some ⟨L, 0, none⟩))) (h2 : W.cell? ⟨R, 2, none⟩ = some (.slice none 0 0))
    (h3 : W.cell? ⟨R, 3, none⟩ = some (.bool false)) (h4 : W.cell? ⟨R, 4, none⟩ = some (.bool false)) (f4 : W.frozen? ⟨R, 4, none⟩ = false) (hR : R ≠ L) (hL : LogIs W L D) (hs : ∃ s, W.cell? ⟨L, 4, none⟩ = some (.bool s)) (g4 : W.frozen? ⟨L, 4, none⟩ = false) (g5 : W.frozen? ⟨L, 5, none⟩ = false) (hD : DiskIs W D M cl) :
    Calls Tryz.prog 62 #[.pointer (some ⟨R, 0, none⟩), .int .i64 n] W fun e w' => e = .returned (.tuple #[.bool true, .int .i64 0]) ∧ w' = ((W.setCell ⟨R, 4, none⟩ (.bool true)).setCell ⟨L, 4, none⟩ (.bool false)).setCell ⟨L, 5, none⟩ (.slice none 0 0) := by
  obtain ⟨s, hs⟩ := hs
  have hG := Gathered_ok hL
  have hb := hL.b
  have hC := Cut_ok hD ⟨#[108, 111, 103]⟩ 0 (by unfold maxLen; decide)
  have hS := @Side_ok (W.setCell ⟨R, 4, none⟩ (.bool true)) L s false (by simp [go_sem, hs, hR]) (by simp [go_sem, hb, hR]) (by simp [go_sem, g4]) (by simp [go_sem, g5])
  go_enter Tryz.func62, Tryz.ntmps62
  go_wp2
  refine wp_scope_jumps' (n := 2) (ScI_in ?_)
  go_wp2
  refine wp_loop_rounds 1 ?_
  rw [rounds_succ]
  go_wp2_with (first
    | (go_at_call 120; refine hG.mono ?_; rintro e w' ⟨rfl, rfl⟩)
    | (go_at_call 119; refine put_ok.mono ?_; rintro e w' ⟨rfl, rfl⟩)
    | (go_at_call 121; refine hC.mono ?_; rintro e w' ⟨rfl, rfl⟩))
  all_goals
    refine wp_goto ?_
    simp only [Exit.then]
    refine ScP_goto rfl (ScI_in ?_)
    go_wp2_with (go_at_call 117; refine hS.mono ?_; rintro e w' ⟨⟨v, rfl⟩, rfl⟩)
    rw [ScP_ret]
    go_ret2
    exact ⟨rfl, rfl⟩
/-- All entries of a space without keys. -/
def AllN (X XM xc : Nat) : Prop := ∀ w, w.cell? ⟨X, 0, none⟩ = some (.map (some XM)) → w.heap[XM]? = some (.map #[] xc) → Calls Tryz.prog 36 #[.pointer (some ⟨X, 0, none⟩)] w fun e w' => e = .returned (.slice none 0 0) ∧ Below w.heap.size w w'
/-- A rewrite is begun. -/
theorem Begin_ok {W : World} {D L X M cl XM xc : Nat} {s : Bool} (hL : LogIs W L D) (hs : W.cell? ⟨L, 4, none⟩ = some (.bool s)) (g4 : W.frozen? ⟨L, 4, none⟩ = false) (g5 : W.frozen? ⟨L, 5, none⟩ = false) (hD : DiskIs W D M cl) (hLz : L < W.heap.size)
    (hA : AllN X XM xc) (hx : W.cell? ⟨X, 0, none⟩ = some (.map (some XM))) (hxm : W.heap[XM]? = some (.map #[] xc)) (hXL : X ≠ L) (hML : XM ≠ L) :
    Calls Tryz.prog 61 #[.pointer (some ⟨D, 0, none⟩), .pointer (some ⟨L, 0, none⟩), .pointer (some ⟨X, 0, none⟩)] W fun e w' => ∃ w1, Below W.heap.size ((W.setCell ⟨L, 4, none⟩ (.bool true)).setCell ⟨L, 5, none⟩ (.slice none 0 0)) w1 ∧
      e = .returned (.tuple #[.pointer (some ⟨w1.heap.size, 0, none⟩), .int .i64 0]) ∧ w' = w1.alloc (.cells #[.pointer (some ⟨D, 0, none⟩), .pointer (some ⟨L, 0, none⟩), .slice none 0 0, .bool false, .bool false] 192) := by
  have hb := hL.b
  have hX := Delete_ok hD ⟨#[110, 101, 119]⟩ (by unfold maxLen; decide)
  have hS := @Side_ok W L s true hs hb g4 g5
  obtain ⟨w1, e1⟩ : ∃ w1, w1 = (W.setCell ⟨L, 4, none⟩ (.bool true)).setCell ⟨L, 5, none⟩ (.slice none 0 0) := ⟨_, rfl⟩
  have hA1 := hA w1 (by rw [e1]; simp [go_sem, hx, hXL]) (by rw [e1, Below.heap_setCell _ _ _ _ (by exact hML), Below.heap_setCell _ _ _ _ (by exact hML)]; exact hxm)
  have hz : w1.heap.size = W.heap.size := by rw [e1]; simp
  have hid := Lib.hid e1
  clear e1
  go_enter Tryz.func61, Tryz.ntmps61
  go_wp2_with (first
    | (go_at_call 116; refine hX.mono ?_; rintro e w' ⟨rfl, rfl⟩)
    | (go_at_call 117; refine hS.mono ?_; rintro e w' ⟨⟨v, rfl⟩, rfl⟩; rw [← hid.out])
    | (go_at_call 36; refine hA1.mono ?_; rintro e w2 ⟨rfl, b2⟩))
  go_ret2
  exact ⟨w2, by rw [← hid.out]; exact b2.mono (by omega), rfl, rfl⟩
end Go.Proofs.YtcdiojlpmgfmeaaGreatDoor.Q
