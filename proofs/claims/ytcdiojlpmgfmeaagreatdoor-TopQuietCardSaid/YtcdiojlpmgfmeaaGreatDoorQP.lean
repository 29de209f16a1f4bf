/- Take, State, Units, Busy, Disk, Used over a server without keys. No condition. -/
import Derived.Test.YtcdiojlpmgfmeaaGreatDoorQO
import Derived.Laws.BytesArg
namespace Go.Proofs.YtcdiojlpmgfmeaaGreatDoor.Q
open Go Go.RowKit Go.Proofs Go.Maps Go.WideMaps Go.ChangeMaps
set_option maxRecDepth 100000
set_option linter.unusedSimpArgs false
set_option linter.unusedVariables false
def NamesN (D M cl : Nat) : Prop := ∀ w, w.cell? ⟨D, 0, none⟩ = some (.map (some M)) → w.heap[M]? = some (.map #[] cl) → Calls Tryz.prog 37 #[.pointer (some ⟨D, 0, none⟩)] w fun e w' => e = .returned (.slice none 0 0) ∧ Below w.heap.size w w'
theorem sTake_ok {W : World} {s : Nat} (h1 : W.cell? ⟨s, 1, none⟩ = some (.slice none 0 0)) (f1 : W.frozen? ⟨s, 1, none⟩ = false) :
    Calls Tryz.prog 33 #[.pointer (some ⟨s, 0, none⟩)] W fun e w' => e = .returned (.string ⟨#[]⟩) ∧ w' = W.setCell ⟨s, 1, none⟩ (.slice none 0 0) := by
  have hcv := fun w => run_convert_bytes_nil (P := Tryz.prog) (w := w) 110 5 Tryz.underlying110 Tryz.underlying5 0 0
  go_enter Tryz.func33, Tryz.ntmps33
  go_wp2
  go_ret
  exact ⟨rfl, rfl⟩
theorem Units_ok {c : Loc} {W : World} (h : Inv c W) : Calls Tryz.prog 12 #[.pointer (some ⟨c.S, 0, none⟩)] W fun e w' => e = .returned (.int .i64 0) ∧ w' = W := by
  have h1 := h.srv.l
  have h2 := lUnits_ok h.srv.log
  go_enter Tryz.func12, Tryz.ntmps12
  go_wp2_with (go_at_call 34; refine h2.mono ?_; rintro e w' ⟨rfl, rfl⟩)
  go_ret
  exact ⟨rfl, rfl⟩
theorem Busy_ok {c : Loc} {W : World} (h : Inv c W) : Calls Tryz.prog 19 #[.pointer (some ⟨c.S, 0, none⟩)] W fun e w' => e = .returned (.bool false) ∧ w' = W := by
  have h1 := h.srv.run
  go_enter Tryz.func19, Tryz.ntmps19
  go_wp2
  go_ret
  exact ⟨by simp, rfl⟩
theorem Disk_ok {c : Loc} {W : World} (h : Inv c W) : Calls Tryz.prog 17 #[.pointer (some ⟨c.S, 0, none⟩)] W fun e w' => e = .returned (.pointer (some ⟨c.D, 0, none⟩)) ∧ w' = W := by
  have h1 := h.srv.d
  go_enter Tryz.func17, Tryz.ntmps17
  go_wp2
  go_ret
  exact ⟨rfl, rfl⟩
theorem State_ok {c : Loc} {W : World} (h : Inv c W) (hA : AllN c.X c.XM 0) : Calls Tryz.prog 16 #[.pointer (some ⟨c.S, 0, none⟩)] W fun e w' => e = .returned (.slice none 0 0) ∧ Below W.heap.size W w' := by
  have h1 := h.srv.s
  have h2 := h.srv.up
  have h3 := hA W h.srv.xm h.srv.xmap
  go_enter Tryz.func16, Tryz.ntmps16
  go_wp2_with (go_at_call 36; refine h3.mono ?_; rintro e w' ⟨rfl, b1⟩)
  go_ret
  exact ⟨rfl, b1⟩
theorem Used_ok {c : Loc} {W : World} (h : Inv c W) (hN : NamesN c.D c.M 0) : Calls Tryz.prog 18 #[.pointer (some ⟨c.D, 0, none⟩)] W fun e w' => e = .returned (.int .i64 0) ∧ Below W.heap.size W w' := by
  have h3 := hN W h.srv.disk.files h.srv.disk.map
  go_enter Tryz.func18, Tryz.ntmps18
  go_wp2_with (go_at_call 37; refine h3.mono ?_; rintro e w' ⟨rfl, b1⟩)
  refine wp_loop_rounds 1 ?_
  rw [rounds_succ]
  go_wp2
  go_ret
  exact ⟨rfl, b1⟩
/-- Take of a client leaves all as it was. -/
theorem Take_ok {c : Loc} {W : World} {m : Nat} (h : Inv c W) (hm : m < 64) : Calls Tryz.prog 11 #[.pointer (some ⟨c.S, 0, none⟩), .int .i64 (m : Int)] W fun e w' => e = .returned (.string ⟨#[]⟩) ∧ Inv c w' ∧ Foot c W w' := by
  obtain ⟨s, hs, hm'⟩ := h.cl hm
  have q := h.bs s hm'
  obtain ⟨cp, h8⟩ := h.cls
  have hc := h.ptrs m s hs
  have hse := h.ses s hm'
  have hT := sTake_ok hse.out hse.f1
  have hcl := fun w => client_yes (W := w) hm
  have hd : (m : Int) < 64 := by omega
  have hR : Inv c (W.setCell ⟨s, 1, none⟩ (.slice none 0 0)) ∧ Foot c W (W.setCell ⟨s, 1, none⟩ (.slice none 0 0)) := by
    have hk : ∀ k, k ≠ s → (W.setCell ⟨s, 1, none⟩ (.slice none 0 0)).heap[k]? = W.heap[k]? := fun k hk => Below.heap_setCell _ _ _ _ hk
    obtain ⟨t, h6, h7⟩ := h.now
    have hSb := hk c.S (Ne.symm q.2.1)
    have hLb := hk c.L (Ne.symm q.2.2.1)
    refine ⟨h.turn (fun i _ => cellk hSb i) ⟨t, (cellk hSb 6).trans h6, h7⟩ (fun i => cellk hLb i) (fun i => World.frozen?_of_block (w := W) (a := ⟨c.S, i, none⟩) hSb) (fun i => World.frozen?_of_block (w := W) (a := ⟨c.L, i, none⟩) hLb)
      (fun k _ _ _ hn => hk k fun e => hn (e ▸ hm')) (fun s' hs' => ?_) (by first | rfl | simp), ⟨by first | rfl | simp, by first | rfl | simp, by first | rfl | simp, by first | rfl | simp, fun k _ _ _ hn => hk k fun e => hn (e ▸ hm'), fun k _ _ _ hn _ => hk k fun e => hn (e ▸ hm')⟩⟩
    have hg : ∀ v n, GoodIn W c.base v n → GoodIn (W.setCell ⟨s, 1, none⟩ (.slice none 0 0)) c.base v n := fun v n g => by
      rcases g with g | ⟨r, cap, cur, h1, h2, h3, h4⟩
      · exact .inl g
      · exact .inr ⟨r, cap, cur, h1, h2, (hk r (by have := q.1; omega)).trans h3, h4⟩
    by_cases e : s' = s
    · subst e
      obtain ⟨v, n, h1, h2, h3⟩ := hse.inp
      exact ⟨⟨v, n, by simp [go_sem, h1], hg v n h2, h3⟩, by simp [go_sem, hse.out], by simp [go_sem, hse.broken], by simp [go_sem, hse.f0], by simp [go_sem, hse.f1]⟩
    · exact (h.ses s' hs').keep (hk s' e) hg
  have hid := Lib.hid hR
  clear hR hse h hs
  go_enter Tryz.func11, Tryz.ntmps11
  go_wp2_with (first
    | (go_at_call 32; refine (hcl _).mono ?_; rintro e w' ⟨rfl, rfl⟩)
    | (go_at_call 33; refine hT.mono ?_; rintro e w' ⟨rfl, rfl⟩))
  go_ret
  exact ⟨rfl, hid.out⟩
end Go.Proofs.YtcdiojlpmgfmeaaGreatDoor.Q
