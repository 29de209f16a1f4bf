/- commands, and the law's own function. No condition. -/
import Derived.Test.YtcdiojlpmgfmeaaGreatDoorQR
namespace Go.Proofs.YtcdiojlpmgfmeaaGreatDoor.Q
open Go Go.RowKit Go.Proofs Go.Maps Go.WideMaps Go.ChangeMaps
set_option maxRecDepth 100000
set_option linter.unusedSimpArgs false
set_option linter.unusedVariables false
theorem infoE : ∃ i, Tryz.prog.info? 29 = some i ∧ i.zero = some (.agg #[.int .i64 0, .int .i64 0, .int .i64 0, .string ⟨#[]⟩, .bool false]) ∧ i.size = 5 ∧ i.bytes = 48 := by
  refine ⟨_, rfl, ?_, ?_, ?_⟩ <;> kernel_rfl
theorem own_row' {w : World} {base n size : Nat} {e : TypeId} {v : Value} {xs : List Value} (h : w.ownsRow base e size v n xs) : ∀ r, v.ownBlock = some r → base ≤ r := by
  rcases h.2 with ⟨rfl, _⟩ | ⟨g, cap, cur, rfl, hb, _⟩
  · intro r e; cases e
  · intro r e; cases e; exact hb
set_option maxHeartbeats 2000000 in
theorem commands_ok {W : World} {a : Option Addr} {cap : Nat} {l : List Ev} (h : Row W a l) (hl : l.length ≤ 120) :
    Calls Tryz.prog 15 #[.slice a l.length cap] W fun e w' => ∃ a' cap', e = .returned (.slice a' (l.filter keepB).length cap') ∧ Row w' a' (l.filter keepB) ∧ (∀ b x, a' = some ⟨b, x, none⟩ → W.heap.size ≤ b ∧ ∃ cur, w'.heap[b]? = some (.cells cur 29 (0, 0))) ∧ Below W.heap.size W w' := by
  obtain ⟨i0, hi, hz, hsize, hby⟩ := infoE
  go_enter Tryz.func15, Tryz.ntmps15
  go_wp2
  go_loopw [3, 4] (fun v i wr => ∃ k : Nat, k ≤ l.length ∧ i = .int .i64 k ∧ wr.ownsRow W.heap.size 29 5 v ((l.take k).filter keepB).length (flat ((l.take k).filter keepB)) ∧ Below W.heap.size W wr) (fun _ i _ => l.length - (intOf i).toNat)
  case atStart => exact ⟨0, Nat.zero_le _, rfl, World.ownsRow_nil _ _ _ _, Below.refl _ _⟩
  case round =>
    obtain ⟨k, hk, rfl, hown, hb⟩ := hrel
    by_cases hkl : k < l.length
    · obtain ⟨e, he⟩ : ∃ e, l[k]? = some e := ⟨l[k], List.getElem?_eq_getElem hkl⟩
      have hn : (l.take (k + 1)).filter keepB = (l.take k).filter keepB ++ (if keepB e then [e] else []) := by
        rw [List.take_add_one, he, List.filter_append]
        by_cases q : keepB e = true <;> simp [q]
      obtain ⟨b, x, rfl, hbz, c0, c1, c2, c3, c4⟩ := (h.below hb).at_ k e he
      have hlen : ((l.take k).filter keepB).length ≤ 120 := Nat.le_trans (List.length_filter_le _ _) (by rw [List.length_take]; omega)
      have hmx : ((l.take k).filter keepB).length + 1 ≤ maxLen := by unfold maxLen; omega
      by_cases hkeep : keepB e = true
      · rw [if_pos hkeep] at hn
        have hk3 : e.k ≠ 7 ∧ e.k ≠ 8 ∧ e.k ≠ 9 := by simp [keepB] at hkeep; omega
        obtain ⟨n7, n8, n9⟩ := hk3
        have hrow := own_row' hown
        have hbg := hb.size
        clear hkeep
        go_wp2_with (first
          | (at_builtin; refine wpList_append_own _ rfl _ _ 34 rfl W.heap.size 29 i0 _ 5 48 Tryz.underlying34 hi hz hsize hby rfl (by decide) _ _ _ rfl (hown.alloc _) ⟨wr.heap.size, 0, none⟩ 1 1 e.cells rfl rfl ?c1 ?c2 ?c3 ?c4 ?c5 ?_)
          | go_in)
        case c1 => exact World.news_of_block (cs := e.cells.toArray) (t := 29) (fr := (0, 0)) Array.getElem?_push_size
        case c2 => simp [Ev.cells, Value.oneCell']
        case c3 => omega
        case c4 => omega
        case c5 => simp; omega
        intro v' w3 hown3 hgrow3 hx3
        go_wp2
        go_roundw
        case rel =>
          refine ⟨k + 1, by omega, by go_num, ?_, (hb.alloc hbg _).grown hgrow3 (by simp; omega) hrow⟩
          rw [hn, flat_snoc, List.length_append]
          exact hown3
        case measure => simp [intOf]; omega
        all_goals
          rename_i hbad
          exfalso
          simp at hbad
          omega
      · rw [if_neg hkeep, List.append_nil] at hn
        have hk3 : e.k = 8 ∨ e.k = 9 ∨ e.k = 7 := by simp [keepB] at hkeep; omega
        clear hkeep
        rcases hk3 with q | q | q
        all_goals
          rw [q] at c0
          go_wp2
          go_roundw
          case rel => exact ⟨k + 1, by omega, by go_num, by rw [hn]; exact hown, hb⟩
          case measure => simp [intOf]; omega
    · have e : k = l.length := by omega
      subst e
      rw [List.take_length] at hown
      obtain ⟨a', cap', rfl, hr, hg⟩ := Row.of_own hown
      go_wp2
      go_ret
      exact ⟨a', cap', rfl, hr, hg, hb⟩
theorem law_no {W : World} {a : Option Addr} {cap : Nat} {l : List Ev} (h : Row W a l) (hs : ∀ e ∈ l, e.b.size ≤ 9223372036854775807) (hl : l.length ≤ 9223372036854775807) (hG : ¬ Good l)
    (hT : Calls Tryz.prog 14 #[] W fun e w' => e = .returned (.bool true) ∧ Below W.heap.size W w') :
    Calls Tryz.prog 4 #[.slice a l.length cap] W fun e w' => e = .returned (.bool true) ∧ Below W.heap.size W w' := by
  have hF : Calls Tryz.prog 13 #[.slice a l.length cap] W fun e w' => e = .returned (.bool false) ∧ w' = W := (Few_ok h hs hl).mono fun e w' ⟨he, hw⟩ => by
    have hf : goodB l = false := by
      cases q : goodB l with
      | false => rfl
      | true => exact absurd (goodB_iff.1 q) hG
    rw [hf] at he
    exact ⟨he, hw⟩
  go_enter Tryz.func4, Tryz.ntmps4
  go_wp2_with (first
    | (go_at_call 13; refine hF.mono ?_; rintro e w' ⟨rfl, rfl⟩)
    | (go_at_call 14; refine hT.mono ?_; rintro e w' ⟨rfl, hb⟩))
  go_ret
  exact ⟨rfl, hb⟩
set_option maxHeartbeats 2000000 in
theorem law_yes {W : World} {a : Option Addr} {cap : Nat} {l : List Ev} (h : Row W a l) (hs : ∀ e ∈ l, e.b.size ≤ 9223372036854775807) (hl : l.length ≤ 9223372036854775807) (hG : Good l) (hA : ∀ X XM, AllN X XM 0) (hN : ∀ D M, NamesN D M 0)
    (hT : ∀ w, Below W.heap.size W w → Calls Tryz.prog 14 #[] w fun e w' => e = .returned (.bool true) ∧ Below w.heap.size w w') :
    Calls Tryz.prog 4 #[.slice a l.length cap] W fun e w' => e = .returned (.bool true) ∧ Below W.heap.size W w' := by
  have hF : Calls Tryz.prog 13 #[.slice a l.length cap] W fun e w' => e = .returned (.bool true) ∧ w' = W := (Few_ok h hs hl).mono fun e w' ⟨he, hw⟩ => by
    rw [goodB_iff.2 hG] at he
    exact ⟨he, hw⟩
  have hWd := Wide_ok (W := W)
  have hC := fun w (b : Below W.heap.size W w) => commands_ok (cap := cap) (h.below b) hG.2
  go_enter Tryz.func4, Tryz.ntmps4
  go_wp2_with (first
    | (go_at_call 13; refine hF.mono ?_; rintro e w' ⟨rfl, hw'⟩; obtain rfl : W = w' := hw'.symm; clear hF)
    | (go_at_call 5; refine hWd.mono ?_; rintro e w1 ⟨c, rfl, hi, b1, hfr⟩; have hC1 := hC _ b1; clear hC hWd)
    | (go_at_call 15; refine hC1.mono ?_; rintro e w2 ⟨a', cap', rfl, hr, hg, b2⟩; clear hC1))
  have st0 : LawS W c a' (l.filter keepB) w2 := ⟨hi.below b2, hr, fun b x e => ⟨Nat.le_trans hi.bz (hg b x e).1, (hg b x e).2⟩, b1.trans (b2.mono b1.size), hfr⟩
  obtain ⟨out, hout⟩ : ∃ out, out = l.filter keepB := ⟨_, rfl⟩
  have hev : ∀ e ∈ out, (e.k ≠ 7 ∧ e.k ≠ 8 ∧ e.k ≠ 9) ∧ e.b.size ≤ 1500 := fun e he => by
    rw [hout, List.mem_filter] at he
    refine ⟨?_, hG.1 e he.1⟩
    have := he.2
    simp [keepB] at this
    omega
  have hlen : out.length ≤ 120 := by
    rw [hout]
    exact Nat.le_trans (List.length_filter_le _ _) hG.2
  rw [← hout] at st0 ⊢
  clear hi hr hg b1 b2 hfr h hs hl hout
  go_loopw [5] (fun i wr => ∃ k : Nat, k ≤ out.length ∧ i = .int .i64 k ∧ LawS W c a' out wr) (fun i _ => out.length - (intOf i).toNat)
  case atStart => exact ⟨0, Nat.zero_le _, rfl, st0⟩
  case round =>
    obtain ⟨k, hk, rfl, st⟩ := hrel
    by_cases hkl : k < out.length
    · obtain ⟨e, he⟩ : ∃ e, out[k]? = some e := ⟨out[k], List.getElem?_eq_getElem hkl⟩
      obtain ⟨⟨n7, n8, n9⟩, hb⟩ := hev e (List.mem_of_getElem? he)
      obtain ⟨b, x, rfl, hbz, c0, c1, c2, c3, c4⟩ := st.row.at_ k e he
      by_cases h2 : e.k = 2
      · rw [h2] at c0
        go_wp2
        go_roundw
        case rel => exact ⟨k + 1, by omega, by go_num, st⟩
        case measure => simp [intOf]; omega
      · have hD := Do_inv (m := e.c) (n := e.n) (g := e.g) st.inv (show Kind e.k from ⟨h2, n7, n8, n9⟩) hb (hA _ _)
        go_wp2_with (go_at_call 8; refine hD.mono ?_; rintro e' w3 ⟨⟨r, rfl⟩, d⟩)
        go_roundw
        case rel => exact ⟨k + 1, by omega, by go_num, st.foot d.inv d.foot⟩
        case measure => simp [intOf]; omega
    · have e : k = out.length := by omega
      subst e
      clear hk hkl st0
      go_wp2
      go_loopw [6] (fun i wr => ∃ k : Nat, k ≤ 64 ∧ i = .int .i64 k ∧ LawS W c a' out wr) (fun i _ => 64 - (intOf i).toNat)
      case atStart => exact ⟨0, Nat.zero_le _, rfl, st⟩
      case round =>
        clear st
        obtain ⟨k, hk, rfl, st⟩ := hrel
        by_cases hlt : k < 64
        · have hTk := Take_ok st.inv hlt
          go_wp2_with (go_at_call 11; refine hTk.mono ?_; rintro e w3 ⟨rfl, hi, hf⟩)
          go_roundw
          case rel => exact ⟨k + 1, by omega, by go_num, st.foot hi hf⟩
          case measure => simp [intOf]; omega
        · have e : k = 64 := by omega
          subst e
          have hT1 := hT _ st.below
          go_wp2_with (first
            | (go_at_call 14; refine hT1.mono ?_; rintro e w3 ⟨rfl, b3⟩; have st3 := st.below' b3; have hS := State_ok st3.inv (hA _ _); clear hT1)
            | (go_at_call 16; refine hS.mono ?_; rintro e w4 ⟨rfl, b4⟩; have st4 := st3.below' b4; have hDk := Disk_ok st4.inv; have hU := Used_ok st4.inv (hN _ _); clear hS)
            | (go_at_call 17; refine hDk.mono ?_; rintro e w5 ⟨rfl, rfl⟩; clear hDk)
            | (go_at_call 18; refine hU.mono ?_; rintro e w6 ⟨rfl, b6⟩; have st6 := st4.below' b6; have hUn := Units_ok st6.inv; have hBu := Busy_ok st6.inv; clear hU)
            | (go_at_call 12; refine hUn.mono ?_; rintro e w7 ⟨rfl, rfl⟩; clear hUn)
            | (go_at_call 19; refine hBu.mono ?_; rintro e w8 ⟨rfl, rfl⟩; clear hBu))
          go_ret
          exact ⟨rfl, st6.below⟩
end Go.Proofs.YtcdiojlpmgfmeaaGreatDoor.Q
