/- A tick; an event's kinds. No condition. -/
import Derived.Test.YtcdiojlpmgfmeaaGreatDoorQH
import Derived.BigRegion
namespace Go.Proofs.YtcdiojlpmgfmeaaGreatDoor.Q
open Go Go.RowKit Go.Proofs Go.Maps Go.WideMaps Go.ChangeMaps
set_option maxRecDepth 100000
set_option linter.unusedSimpArgs false
set_option linter.unusedVariables false
theorem find_none {S : Nat} {k : Int} (h : k < 1 ∨ 9 < k) : Instr.findNow (.int .i64) (.int .i64 k) (hes S 9).toList 0 = some none := by
  have e : (hes S 9).toList = [⟨.int .i64 1, clo S 21, 0⟩, ⟨.int .i64 2, clo S 22, 1⟩, ⟨.int .i64 3, clo S 23, 2⟩, ⟨.int .i64 4, clo S 24, 3⟩, ⟨.int .i64 5, clo S 25, 4⟩, ⟨.int .i64 6, clo S 26, 5⟩, ⟨.int .i64 7, clo S 27, 6⟩, ⟨.int .i64 8, clo S 28, 7⟩, ⟨.int .i64 9, clo S 29, 8⟩] := rfl
  have ne : ∀ j : Int, 1 ≤ j → j ≤ 9 → Instr.sameNow (.int .i64) (.int .i64 k) (.int .i64 j) = some false := fun j h1 h2 => by
    have : k ≠ j := by omega
    simp [Instr.sameNow, this]
  rw [e]
  simp only [Instr.findNow, ne 1 (by omega) (by omega), ne 2 (by omega) (by omega), ne 3 (by omega) (by omega), ne 4 (by omega) (by omega), ne 5 (by omega) (by omega), ne 6 (by omega) (by omega), ne 7 (by omega) (by omega), ne 8 (by omega) (by omega), ne 9 (by omega) (by omega)]
/-- What an event may turn beside bytes: the time. -/
structure Tim (W w : World) (S : Nat) : Prop where
  ch : Ch (fun k => k = S) W w
  sO : ∀ i, i ≠ 6 → w.cell? ⟨S, i, none⟩ = W.cell? ⟨S, i, none⟩
  now : ∃ t, w.cell? ⟨S, 6, none⟩ = some (.int .i64 t) ∧ 0 ≤ t ∧ t ≤ 562949953421312
  sf : ∀ i, w.frozen? ⟨S, i, none⟩ = W.frozen? ⟨S, i, none⟩
theorem tick_ok {W : World} {S X L D M XM cl xc : Nat} {k c n t : Int} {b : ByteArray} {g : Bool} (h : Srv W S X L D M XM cl xc) (h6 : W.cell? ⟨S, 6, none⟩ = some (.int .i64 t)) (ht0 : 0 ≤ t) (ht1 : t ≤ 562949953421312) :
    Calls Tryz.prog 24 #[.pointer (some ⟨S, 0, none⟩), evt k c n b g] W fun e w' => (∃ r, e = .returned (.int .i64 r)) ∧ Tim W w' S := by
  by_cases hn : 0 ≤ n ∧ n ≤ 2147483648
  · have h7 := h.up
    have h10 := h.l
    have f6 := h.f6
    have hS := h.zS
    obtain ⟨hn0, hn1⟩ := hn
    obtain ⟨t', ht', hb0, hb1⟩ : ∃ t', min (t + n) 562949953421312 = t' ∧ 0 ≤ t' ∧ t' ≤ 562949953421312 := ⟨_, rfl, by omega, by omega⟩
    go_enter Tryz.func24, Tryz.ntmps24
    go_wp2
    obtain ⟨w2, e2⟩ : ∃ w2, w2 = W.alloc (.cells #[.int .i64 k, .int .i64 c, .int .i64 n, .string b, .bool g] 29) := ⟨_, rfl⟩
    have b2 : Below W.heap.size W w2 := by rw [e2]; exact (Below.refl _ _).alloc (Nat.le_refl _) _
    have c6 : w2.cell? ⟨S, 6, none⟩ = some (.int .i64 t) := (b2.cell (p := ⟨S, 6, none⟩) hS).trans h6
    have c7 : w2.cell? ⟨S, 7, none⟩ = some (.bool true) := (b2.cell (p := ⟨S, 7, none⟩) hS).trans h7
    have c10 : w2.cell? ⟨S, 10, none⟩ = some (.pointer (some ⟨L, 0, none⟩)) := (b2.cell (p := ⟨S, 10, none⟩) hS).trans h10
    have g6 : w2.frozen? ⟨S, 6, none⟩ = false := (b2.frozen (p := ⟨S, 6, none⟩) hS).trans f6
    have cn : w2.cell? ⟨W.heap.size, 2, none⟩ = some (.int .i64 n) := by rw [e2]; simp [go_sem]
    have hz : w2.heap.size = W.heap.size + 1 := by rw [e2]; simp
    rw [← e2]
    have hTm : ∀ z : Int, 0 ≤ z → z ≤ 562949953421312 → Tim W (w2.setCell ⟨S, 6, none⟩ (.int .i64 z)).drew S := fun z z0 z1 =>
      ⟨(Ch.set (Z := fun k => k = S) (p := ⟨S, 6, none⟩) (Ch.of_below b2) (.inl rfl) _).drew, fun i hi => by
          have e : (w2.setCell ⟨S, 6, none⟩ (.int .i64 z)).drew.cell? ⟨S, i, none⟩ = w2.cell? ⟨S, i, none⟩ := by simp [go_sem, hi]
          rw [e]; exact b2.cell (p := ⟨S, i, none⟩) hS,
        ⟨z, by simp [go_sem, c6], z0, z1⟩, fun i => by
          have e : (w2.setCell ⟨S, 6, none⟩ (.int .i64 z)).drew.frozen? ⟨S, i, none⟩ = w2.frozen? ⟨S, i, none⟩ := by simp [go_sem]
          rw [e]; exact b2.frozen (p := ⟨S, i, none⟩) hS⟩
    have hLg : ∀ z : Int, LogIs (w2.setCell ⟨S, 6, none⟩ (.int .i64 z)).drew L D := fun z => by
      have hn := h.nSL
      have k : ∀ i, (w2.setCell ⟨S, 6, none⟩ (.int .i64 z)).drew.cell? ⟨L, i, none⟩ = W.cell? ⟨L, i, none⟩ := fun i =>
        (World.cell?_of_block (w := w2) (a := ⟨L, i, none⟩) (Below.heap_setCell w2 ⟨S, 6, none⟩ _ L (Ne.symm hn))).trans (b2.cell (p := ⟨L, i, none⟩) h.zL)
      exact ⟨(k 0).trans h.log.d, (k 1).trans h.log.policy, (k 2).trans h.log.units, (k 3).trans h.log.state, (k 5).trans h.log.b⟩
    have hT := fun z => Tick_ok (hLg z)
    have hid := Lib.hid hTm
    have hz2 : 0 ≤ 562949953421312 := by omega
    clear e2 h6 h7 h10 f6 b2 h ht' hTm hLg hz
    go_region
    go_wp2_with (go_at_call 56; refine (hT _).mono ?_; rintro e w5 ⟨rfl, rfl⟩)
    all_goals
      go_ret
      exact ⟨⟨_, rfl⟩, hid.out _ (by omega) (by omega)⟩
  · have hS := h.zS
    have hT : Tim W (W.alloc (.cells #[.int .i64 k, .int .i64 c, .int .i64 n, .string b, .bool g] 29)) S :=
      have b2 : Below W.heap.size W (W.alloc (.cells #[.int .i64 k, .int .i64 c, .int .i64 n, .string b, .bool g] 29)) := (Below.refl _ _).alloc (Nat.le_refl _) _
      ⟨Ch.of_below b2, fun i hi => b2.cell (p := ⟨S, i, none⟩) hS, ⟨t, (b2.cell (p := ⟨S, 6, none⟩) hS).trans h6, ht0, ht1⟩, fun i => b2.frozen (p := ⟨S, i, none⟩) hS⟩
    have hid := Lib.hid hT
    clear hT h h6
    by_cases h0 : n < 0
    · clear hn
      go_enter Tryz.func24, Tryz.ntmps24
      go_wp2
      go_ret
      exact ⟨⟨_, rfl⟩, hid.out⟩
    · have h1 : 2147483648 < n := by omega
      clear hn
      go_enter Tryz.func24, Tryz.ntmps24
      go_wp2
      go_ret
      exact ⟨⟨_, rfl⟩, hid.out⟩
end Go.Proofs.YtcdiojlpmgfmeaaGreatDoor.Q
