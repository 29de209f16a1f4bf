/- The law's own function, from what the others answer. No condition: lemmas. -/
import Derived.Test.YtdbemgdlohcghaaGreatDoorScriptsFullM
import Derived.LoopTactic
namespace Go.Proofs.YtdbemgdlohcghaaGreatDoor.KScriptsFull
open Go Go.RowKit Go.Proofs Go.Maps Go.WideMaps
set_option maxRecDepth 100000
set_option linter.unusedVariables false
set_option linter.unusedSimpArgs false
theorem info9 : (Tryz.prog.info? 9).map (fun i => (i.zero, i.size, i.bytes)) = some (some (.string ⟨#[]⟩), 1, 16) := by kernel_rfl
def sl (dg : Nat → ByteArray) (m : Nat) : List Value := (List.range m).map fun j => .string (dg j)
/-- A row of texts that has been gathered, read. -/
theorem row_read {dg : Nat → ByteArray} {wr : World} {base m : Nat} {v : Value} (h : wr.ownsRow base 9 1 v m (sl dg m)) : ∃ p cap, v = .slice p m cap ∧ (0 < m → ∃ g, p = some ⟨g, 0, none⟩ ∧ ∀ q, q < m → wr.cell? ⟨g, q, none⟩ = some (.string (dg q))) := by
  obtain ⟨_, ⟨rfl, rfl⟩ | ⟨g, cap, cur, rfl, _, hc, hle, _, hsz, htk⟩⟩ := h
  · exact ⟨none, 0, rfl, fun h => absurd h (by omega)⟩
  · refine ⟨_, cap, rfl, fun _ => ⟨g, rfl, fun q hq => ?_⟩⟩
    unfold World.cell?
    rw [hc]
    have h1 : (cur.toList.take (m * 1))[q]? = (sl dg m)[q]? := by rw [htk]
    rw [List.getElem?_take_of_lt (by omega)] at h1
    have h2 : (sl dg m)[q]? = some (.string (dg q)) := by simp [sl, hq]
    rw [h2] at h1
    simpa using h1
theorem sl_succ (dg : Nat → ByteArray) (m : Nat) : sl dg (m + 1) = sl dg m ++ [.string (dg m)] := by simp [sl, List.range_succ]
theorem _root_.Go.World.ownsRow.kept_below {wr w : World} {base m : Nat} {v : Value} {xs : List Value} (h : wr.ownsRow base 9 1 v m xs) (hb : Below wr.heap.size wr w) : w.ownsRow base 9 1 v m xs := by
  obtain ⟨h1, h2 | ⟨g, cap, cur, h2, h3, hc, h4⟩⟩ := h
  · exact ⟨h1, .inl h2⟩
  · exact ⟨h1, .inr ⟨g, cap, cur, h2, h3, (hb.block g (Array.getElem?_eq_some_iff.1 hc).1).trans hc, h4⟩⟩
theorem _root_.Go.World.ownsRow.kept_grown {wr w : World} {base m r : Nat} {v : Value} {xs : List Value} (h : wr.ownsRow base 9 1 v m xs) (hg : wr.grownBy w (some r)) (hr : r < base) : w.ownsRow base 9 1 v m xs := by
  obtain ⟨h1, h2 | ⟨g, cap, cur, h2, h3, hc, h4⟩⟩ := h
  · exact ⟨h1, .inl h2⟩
  · exact ⟨h1, .inr ⟨g, cap, cur, h2, h3, (hg.block g (Array.getElem?_eq_some_iff.1 hc).1 (by intro e; cases e; omega)).trans hc, h4⟩⟩
theorem own_row {w : World} {base m : Nat} {v : Value} {xs : List Value} (h : w.ownsRow base 9 1 v m xs) : ∀ r, v.ownBlock = some r → base ≤ r := by
  obtain ⟨_, ⟨rfl, _⟩ | ⟨g, cap, cur, rfl, h3, _⟩⟩ := h
  · intro r e; cases e
  · intro r e; cases e; exact h3
theorem start {Kp : World → Prop} {tx dg : Nat → ByteArray} (E : Env Kp tx dg) {W : World} (hK : Kp W) : St Kp dg W 0 ((W.alloc (Obj.map #[] 0)).alloc (Obj.cells #[Value.map (some W.heap.size)] 40)) := by
  refine ⟨?_, (World.ownsMap_made W Tryz.prog 9 isP).alloc _, ((Below.refl _ W).alloc (Nat.le_refl _) _).alloc (by simp) _, by simp, ?_⟩
  · have e : ((W.alloc (Obj.map #[] 0)).alloc (Obj.cells #[Value.map (some W.heap.size)] 40)).heap[W.heap.size + 1]? = some (Obj.cells #[Value.map (some W.heap.size)] 40) := by
      show ((W.heap.push _).push _)[W.heap.size + 1]? = _
      rw [show W.heap.size + 1 = (W.heap.push (Obj.map #[] 0)).size by simp]
      exact Array.getElem?_push_size
    unfold World.cell?
    rw [e]
    rfl
  · exact E.keep (row := none) (E.keep (row := none) hK (World.grownBy_alloc _ _ none) (by simp)) (World.grownBy_alloc _ _ none) (by simp)
set_option maxHeartbeats 2000000 in
theorem full {Kp : World → Prop} {tx dg : Nat → ByteArray} (E : Env Kp tx dg) (a : Int) {W : World} (hW : 0 < W.heap.size) (hK : Kp W) :
    Calls Tryz.prog 3 #[.int .i64 a] W fun e w' => e = .returned (.bool true) ∧ Below W.heap.size W w' := by
  obtain ⟨i0, hi, hz0, hz1, hz2⟩ := info_parts info9
  have hnew := new_of W
  go_enter Tryz.func3, Tryz.ntmps3
  go_wp2_with (first
    | (go_at_call 4; refine hnew.mono ?_; rintro e w1 ⟨rfl, rfl⟩)
    | go_in)
  obtain ⟨kn, hk, hk1, hk2⟩ : ∃ kn : Nat, wrap64 (250 + wrap64 ((IntKind.u64.wrap a).tmod 11)) = kn ∧ 250 ≤ kn ∧ kn ≤ 260 := by
    have h0 : 0 ≤ IntKind.u64.wrap a := by simp [IntKind.wrap, IntKind.bits, IntKind.signed]; omega
    have h1 : (IntKind.u64.wrap a).tmod 11 = IntKind.u64.wrap a % 11 := Int.tmod_eq_emod_of_nonneg h0
    rw [h1]
    generalize IntKind.u64.wrap a = z at h0
    refine ⟨(250 + z % 11).toNat, ?_, by omega, by omega⟩
    have h2 : wrap64 (z % 11) = z % 11 := by unfold wrap64; omega
    rw [h2]
    unfold wrap64
    omega
  rw [hk]
  have st0 : St Kp dg W 0 ((W.alloc (Obj.map #[] 0)).alloc (Obj.cells #[Value.map (some W.heap.size)] 40)) := start E hK
  go_loopw [6, 7] (fun v i wr => ∃ m : Nat, m ≤ kn ∧ i = .int .i64 m ∧ wr.ownsRow (W.heap.size + 2) 9 1 v m (sl dg m) ∧ St Kp dg W (min m 256) wr) (fun _ i _ => kn - (intOf i).toNat)
  case atStart => exact ⟨0, Nat.zero_le _, rfl, World.ownsRow_nil _ _ _ _, st0⟩
  case round =>
    obtain ⟨m, hm, rfl, hown, hst⟩ := hrel
    obtain ⟨p, cap, rfl, hp⟩ := row_read hown
    by_cases hlt : m < kn
    · have h260 : m < 260 := by omega
      have ht := E.text hst.kp h260
      have hr := fun w1 (b1 : Below wr.heap.size wr w1) => E.rsum (E.below hst.kp b1) h260
      go_wp2_with (first
        | (go_at_call 5; refine ht.mono ?_; rintro e w1 ⟨rfl, b1⟩)
        | (go_at_call 6; refine (hr _ b1).mono ?_; rintro e w2 ⟨rfl, b2⟩)
        | go_in)
      have hb2 : Below wr.heap.size wr w2 := b1.trans (b2.mono b1.size)
      have hst2 := hst.under E hW hb2
      have hp2 : 0 < m → ∃ g, p = some ⟨g, 0, none⟩ ∧ ∀ q, q < m → w2.cell? ⟨g, q, none⟩ = some (.string (dg q)) := by
        obtain ⟨p', cap', e, h⟩ := row_read (hown.kept_below hb2)
        cases e
        exact h
      go_loop [9] (fun j => ∃ q : Nat, q ≤ m ∧ j = .int .i64 q) (fun j => m - (intOf j).toNat)
      case atStart => exact ⟨0, Nat.zero_le _, rfl⟩
      case round =>
        obtain ⟨q, hq, rfl⟩ := hrel
        by_cases hqm : q < m
        · obtain ⟨g, rfl, hc⟩ := hp2 (by omega)
          have hcq := hc q hqm
          have htold := E.told hst2.kp
          have hW2 := hst2.below
          have hbig := hst2.big
          clear hc hp2
          go_wp2_with (first
            | (go_at_call 7; refine htold.mono ?_; rintro e w3 ⟨rfl, b3⟩)
            | go_in)
          · go_ret
            exact ⟨rfl, hW2.trans (b3.mono (by omega))⟩
          go_round
          case rel => exact ⟨q + 1, by omega, by go_num⟩
          case measure => simp [intOf]; omega
        · have e : q = m := by omega
          subst e
          clear hq hqm hp2 hp
          have hown2 := hown.kept_below hb2
          have hbig := hst2.big
          go_wp2_with (first
            | (at_builtin; refine wpList_append_own _ rfl _ _ 27 rfl (W.heap.size + 2) 9 i0 (.string ⟨#[]⟩) 1 16 Tryz.underlying27 hi hz0 hz1 hz2 rfl (by decide) _ _ _ rfl (hown2.alloc _) ⟨w2.heap.size, 0, none⟩ 1 1 [.string (dg q)] rfl rfl ?c1 ?c2 ?c3 ?c4 ?c5 ?_)
            | go_in)
          case c2 => rfl
          case c3 => unfold maxLen; omega
          case c4 => omega
          case c5 => omega
          intro v' w3 hown3 hgrow3 hx3
          rw [← sl_succ] at hown3
          have hst3 := (hst2.grown E hW (World.grownBy_alloc _ _ none) (by simp)).grown E hW hgrow3 (own_row hown2)
          have ht3 := E.text hst3.kp h260
          clear hown hown2 hgrow3 hst hst2 ht hr hb2 b1 b2 hx3
          by_cases h256 : q < 256
          · have hL := fun w4 (b4 : Below w3.heap.size w3 w4) => St.load (m := q) E (by have := hst3.under E hW b4; rwa [Nat.min_eq_left (by omega)] at this) hW h256
            go_wp2_with (first
              | (go_at_call 5; refine ht3.mono ?_; rintro e w4 ⟨rfl, b4⟩)
              | (go_at_call 8; refine (hL _ b4).mono ?_; rintro e w5 ⟨rfl, st5, g5⟩)
              | go_in)
            go_roundw
            case rel => exact ⟨q + 1, by omega, by go_num, (hown3.kept_below b4).kept_grown g5 (by omega), by rw [Nat.min_eq_left (by omega)]; exact st5⟩
            case measure => simp [intOf]; omega
          · have e256 : min q 256 = 256 := Nat.min_eq_right (by omega)
            rw [e256] at hst3
            have hL := fun w4 (b4 : Below w3.heap.size w3 w4) => St.load_full (m := q) E (hst3.under E hW b4) hW (by omega) h260
            go_wp2_with (first
              | (go_at_call 5; refine ht3.mono ?_; rintro e w4 ⟨rfl, b4⟩)
              | (go_at_call 8; refine (hL _ b4).mono ?_; rintro e w5 ⟨rfl, b5⟩)
              | go_in)
            go_roundw
            case rel => exact ⟨q + 1, by omega, by go_num, (hown3.kept_below b4).kept_below b5, by rw [Nat.min_eq_right (by omega)]; exact (hst3.under E hW b4).under E hW b5⟩
            case measure => simp [intOf]; omega
    · have e : m = kn := by omega
      subst e
      clear hm hlt hp hown
      have ht := E.text hst.kp (i := 0) (by omega)
      have hL := fun w4 (b4 : Below wr.heap.size wr w4) => St.again (i := 0) E (hst.under E hW b4) hW (by omega) (by omega)
      have hsize : Maps.size (Dm dg (min m 256)) = min m 256 := Dm_size _ fun i j hi hj => E.apart i j hi (by omega)
      have hmin : min (m : Int) 256 = ((min m 256 : Nat) : Int) := by omega
      go_wp2_with (first
        | (go_at_call 5; refine ht.mono ?_; rintro e w4 ⟨rfl, b4⟩; have hL4 := hL _ b4; clear hL ht)
        | (go_at_call 8; refine hL4.mono ?_; rintro e w5 ⟨rfl, b5⟩
           have st5 := (hst.under E hW b4).under E hW b5
           have hlen := len_of st5.cell st5.own
           rw [hsize] at hlen
           have hfl := flush_of st5.cell st5.own
           clear hL4 hst)
        | (go_at_call 9; refine hlen.mono ?_; rintro e w6 ⟨rfl, rfl⟩; clear hlen)
        | (go_at_call 10; refine hfl.mono ?_; rintro e w7 ⟨⟨v7, rfl⟩, own7, g7⟩
           have cell7 := g7.cell st5.cell (by simp)
           have big7 : W.heap.size + 2 ≤ w7.heap.size := Nat.le_trans st5.big g7.size
           have below7 : Below W.heap.size W w7 := st5.below.grown g7 (by have := st5.big; omega) (fun k hk => by cases hk; exact Nat.le_refl _)
           have kp7 : Kp w7 := E.keep st5.kp g7 (by intro e; have := Option.some.inj e; omega)
           have hnil := load_nil ⟨#[114, 101, 116, 117, 114, 110, 32, 49]⟩ w7
           clear hfl st5 g7)
        | (go_at_call 8; refine hnil.mono ?_; rintro e w8 ⟨rfl, b8⟩; clear hnil)
        | (go_at_call 11; refine (get_nil _ _).mono ?_; rintro e w9 ⟨rfl, rfl⟩)
        | (go_at_call 7; refine (E.told (E.below kp7 b8)).mono ?_; rintro e w10 ⟨rfl, b10⟩
           have b7 : Below w7.heap.size w7 w10 := b8.trans (b10.mono b8.size)
           have cell10 : w10.cell? ⟨W.heap.size + 1, 0, none⟩ = some (.map (some W.heap.size)) := (b7.cell (p := ⟨W.heap.size + 1, 0, none⟩) (by show W.heap.size + 1 < _; omega)).trans cell7
           have own10 := own7.kept (row := none) (below_grown b7) (by simp)
           have hlen2 := len_of cell10 own10
           have below10 : Below W.heap.size W w10 := below7.trans (b7.mono (by omega))
           clear own7 cell7 own10 cell10 b8 b10 kp7)
        | (go_at_call 9; refine hlen2.mono ?_; rintro e w11 ⟨rfl, rfl⟩; clear hlen2)
        | (go_at_call 12; refine (has_nil _ _).mono ?_; rintro e w12 ⟨rfl, b12⟩)
        | (go_at_call 9; refine (len_nil _).mono ?_; rintro e w13 ⟨rfl, rfl⟩)
        | go_in)
      all_goals
        go_ret
        exact ⟨rfl, below10.trans (b12.mono below10.size)⟩
end Go.Proofs.YtdbemgdlohcghaaGreatDoor.KScriptsFull
