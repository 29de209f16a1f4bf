/- Bytes of a client: Push, bytes, Take. No condition. -/
import Derived.Test.YtcdiojlpmgfmeaaGreatDoorQF
namespace Go.Proofs.YtcdiojlpmgfmeaaGreatDoor.Q
open Go Go.RowKit Go.Proofs Go.Lib
set_option maxRecDepth 100000
set_option linter.unusedSimpArgs false
set_option linter.unusedVariables false
/-- A client who is told nothing. -/
structure Ses (W : World) (base s : Nat) : Prop where
  inp : ∃ v n, W.cell? ⟨s, 0, none⟩ = some v ∧ GoodIn W base v n ∧ n ≤ 65536
  out : W.cell? ⟨s, 1, none⟩ = some (.slice none 0 0)
  broken : W.cell? ⟨s, 2, none⟩ = some (.bool false)
  f0 : W.frozen? ⟨s, 0, none⟩ = false
  f1 : W.frozen? ⟨s, 1, none⟩ = false
/-- What Push leaves: the client's first cell, rows of bytes, new blocks. -/
structure PushP (base s : Nat) (w : World) (e : Ending) (w' : World) : Prop where
  res : ∃ r, e = .returned (.int .i64 r)
  ses : Ses w' base s
  byt : ∃ w1 v, Byt base w w1 ∧ (w' = w1 ∨ w' = w1.setCell ⟨s, 0, none⟩ v)
theorem Push_ok {W : World} {base s : Nat} {b : ByteArray} (h : Ses W base s) (hb : b.size ≤ 1500) (hs : s < base) (hz : base ≤ W.heap.size) :
    Calls Tryz.prog 43 #[.pointer (some ⟨s, 0, none⟩), .string b] W (PushP base s W) := by
  obtain ⟨v, n, hv, hg, hn⟩ := h.inp
  obtain ⟨a, cap, rfl⟩ := hg.len
  have h2 := h.broken
  by_cases hr : (b.size : Int) ≤ 65536 - n
  · obtain ⟨v', w1, hrun, hg', hbyt⟩ := append_good 110 hg b hn (by omega) hz
    obtain ⟨a', cap', rfl⟩ := hg'.len
    have hold : w1.heap[s]? = W.heap[s]? := hbyt.old hs hz
    have c0 : w1.cell? ⟨s, 0, none⟩ = some (.slice a n cap) := (World.cell?_of_block (w := W) (a := ⟨s, 0, none⟩) hold).trans hv
    have c1 : w1.cell? ⟨s, 1, none⟩ = some (.slice none 0 0) := (World.cell?_of_block (w := W) (a := ⟨s, 1, none⟩) hold).trans h.out
    have c2 : w1.cell? ⟨s, 2, none⟩ = some (.bool false) := (World.cell?_of_block (w := W) (a := ⟨s, 2, none⟩) hold).trans h2
    have f0 : w1.frozen? ⟨s, 0, none⟩ = false := (World.frozen?_of_block (w := W) (a := ⟨s, 0, none⟩) hold).trans h.f0
    have f1 : w1.frozen? ⟨s, 1, none⟩ = false := (World.frozen?_of_block (w := W) (a := ⟨s, 1, none⟩) hold).trans h.f1
    have hP : PushP base s W (.returned (.int .i64 0)) (w1.setCell ⟨s, 0, none⟩ (.slice a' (n + b.size) cap')) := by
      refine ⟨⟨0, rfl⟩, ⟨⟨.slice a' (n + b.size) cap', n + b.size, ?_, ?_, by omega⟩, ?_, ?_, ?_, ?_⟩, w1, _, hbyt, .inr rfl⟩
      · simp [go_sem, c0]
      · rcases hg' with g | ⟨r, cp, cur, e1, e2, e3, e4⟩
        · exact .inl g
        · exact .inr ⟨r, cp, cur, e1, e2, by rw [Below.heap_setCell _ _ _ _ (show r ≠ s by omega)]; exact e3, e4⟩
      · simp [go_sem, c1]
      · simp [go_sem, c2]
      · simp [go_sem, f0]
      · simp [go_sem, f1]
    have hid := Lib.hid hP
    have hbz := b.size
    have hrn := Lib.hid hrun
    clear hP h hg hg' hbyt hold c1 c2 f1 hrun
    go_enter Tryz.func43, Tryz.ntmps43
    go_wp2_with (first
      | (at_builtin; refine wpList_append_run rfl _ _ _ _ rfl rfl rfl hrn.out ?_))
    go_ret
    exact hid.out
  · have hid := Lib.hid (show PushP base s W (.returned (.int .i64 8)) W from ⟨⟨8, rfl⟩, h, W, .slice a n cap, .refl _ _, .inl rfl⟩)
    clear h
    go_enter Tryz.func43, Tryz.ntmps43
    go_wp2
    go_ret
    exact hid.out
theorem PushP.blk {base s : Nat} {w w' : World} {e : Ending} (p : PushP base s w e w') {k : Nat} (hk : k < w.heap.size) (hs : k ≠ s) (h8 : k < base ∨ ∃ cur t m, w.heap[k]? = some (.cells cur t m) ∧ t ≠ 5) : w'.heap[k]? = w.heap[k]? := by
  obtain ⟨w1, v, hb, hw⟩ := p.byt
  have h1 : w1.heap[k]? = w.heap[k]? := by
    rcases hb.block k hk with e | ⟨hg, cur, cur', e1, e2, _⟩
    · exact e
    · rcases h8 with h | ⟨c, t, m, h1, h2⟩
      · omega
      · rw [h1] at e1; cases e1; exact absurd rfl h2
  rcases hw with rfl | rfl
  · exact h1
  · rw [Below.heap_setCell _ _ _ _ hs]; exact h1
theorem PushP.size {base s : Nat} {w w' : World} {e : Ending} (p : PushP base s w e w') : w.heap.size ≤ w'.heap.size := by
  obtain ⟨w1, v, hb, hw⟩ := p.byt
  rcases hw with rfl | rfl
  · exact hb.size
  · simpa using hb.size
theorem Ses.keep {w w' : World} {base s : Nat} (h : Ses w base s) (hs : w'.heap[s]? = w.heap[s]?) (hg : ∀ v n, GoodIn w base v n → GoodIn w' base v n) : Ses w' base s := by
  obtain ⟨v, n, h1, h2, h3⟩ := h.inp
  exact ⟨⟨v, n, (World.cell?_of_block (w := w) (a := ⟨s, 0, none⟩) hs).trans h1, hg v n h2, h3⟩, (World.cell?_of_block (w := w) (a := ⟨s, 1, none⟩) hs).trans h.out, (World.cell?_of_block (w := w) (a := ⟨s, 2, none⟩) hs).trans h.broken,
    (World.frozen?_of_block (w := w) (a := ⟨s, 0, none⟩) hs).trans h.f0, (World.frozen?_of_block (w := w) (a := ⟨s, 1, none⟩) hs).trans h.f1⟩
theorem GoodIn.below {base : Nat} {w w' : World} {v : Value} {n : Nat} (b : Below w.heap.size w w') (g : GoodIn w base v n) : GoodIn w' base v n := by
  rcases g with g | ⟨r, cap, cur, h1, h2, h3, h4⟩
  · exact .inl g
  · exact .inr ⟨r, cap, cur, h1, h2, (b.block r (Array.getElem?_eq_some_iff.1 h3).1).trans h3, h4⟩
theorem cellk {w w' : World} {k : Nat} (h : w'.heap[k]? = w.heap[k]?) (i : Nat) : w'.cell? ⟨k, i, none⟩ = w.cell? ⟨k, i, none⟩ := World.cell?_of_block (w := w) (a := ⟨k, i, none⟩) h
/-- What bytes leaves: as Push, behind the event's own block. -/
structure BytesP (base s : Nat) (W : World) (e : Ending) (w' : World) : Prop where
  res : ∃ r, e = .returned (.int .i64 r)
  ses : Ses w' base s
  os : w'.os = W.os
  tape : w'.tape = W.tape
  output : w'.output = W.output
  size : W.heap.size ≤ w'.heap.size
  good : ∀ v n, GoodIn W base v n → GoodIn w' base v n
  blk : ∀ k, k < base → k ≠ s → w'.heap[k]? = W.heap[k]?
  rows : ∀ k, k < W.heap.size → k ≠ s → (∀ cur, W.heap[k]? ≠ some (.cells cur 5 (0, 0))) → w'.heap[k]? = W.heap[k]?
theorem PushP.rows {base s : Nat} {w w' : World} {e : Ending} (p : PushP base s w e w') {k : Nat} (hk : k < w.heap.size) (hs : k ≠ s) (h8 : ∀ cur, w.heap[k]? ≠ some (.cells cur 5 (0, 0))) : w'.heap[k]? = w.heap[k]? := by
  obtain ⟨w1, v, hb, hw⟩ := p.byt
  have h1 : w1.heap[k]? = w.heap[k]? := by
    rcases hb.block k hk with e | ⟨hg, cur, cur', e1, e2, _⟩
    · exact e
    · exact absurd e1 (h8 cur)
  rcases hw with rfl | rfl
  · exact h1
  · rw [Below.heap_setCell _ _ _ _ hs]; exact h1
theorem client_no {W : World} {c : Int} (hc : ¬ (0 ≤ c ∧ c < 64)) : Calls Tryz.prog 32 #[.int .i64 c] W fun e w' => e = .returned (.bool false) ∧ w' = W := by
  by_cases h0 : 0 ≤ c
  · have h1 : ¬ c < 64 := fun h => hc ⟨h0, h⟩
    clear hc
    go_enter Tryz.func32, Tryz.ntmps32
    go_wp2
    go_ret
    exact ⟨by simp, rfl⟩
  · clear hc
    go_enter Tryz.func32, Tryz.ntmps32
    go_wp2
    go_ret
    exact ⟨by simp, rfl⟩
theorem client_yes {W : World} {m : Nat} (hc : m < 64) : Calls Tryz.prog 32 #[.int .i64 (m : Int)] W fun e w' => e = .returned (.bool true) ∧ w' = W := by
  have h0 : (0 : Int) ≤ (m : Int) := by omega
  have h1 : (m : Int) < 64 := by omega
  go_enter Tryz.func32, Tryz.ntmps32
  go_wp2
  go_ret
  exact ⟨by simp, rfl⟩
theorem bytes_none {W : World} {S : Nat} {c n k : Int} {b : ByteArray} {g : Bool} (hc : ¬ (0 ≤ c ∧ c < 64)) :
    Calls Tryz.prog 21 #[.pointer (some ⟨S, 0, none⟩), evt k c n b g] W fun e w' => e = .returned (.int .i64 7) ∧ Below W.heap.size W w' := by
  have h := fun w => client_no (W := w) hc
  have hid := Lib.hid hc
  clear hc
  go_enter Tryz.func21, Tryz.ntmps21
  go_wp2_with (go_at_call 32; refine (h _).mono ?_; rintro e w' ⟨rfl, rfl⟩)
  go_ret
  exact ⟨rfl, (Below.refl _ _).alloc (Nat.le_refl _) _⟩
set_option maxHeartbeats 1000000 in
theorem bytes_some {W : World} {S CB cp base s m : Nat} {n k : Int} {b : ByteArray} {g : Bool} (hm : m < 64) (h8 : W.cell? ⟨S, 8, none⟩ = some (.slice (some ⟨CB, 0, none⟩) 64 cp)) (hc : W.cell? ⟨CB, m, none⟩ = some (.pointer (some ⟨s, 0, none⟩)))
    (h : Ses W base s) (hb : b.size ≤ 1500) (hS : S < base) (hC : CB < base) (hs : s < base) (hz : base ≤ W.heap.size) (hSs : S ≠ s) (hCs : CB ≠ s) :
    Calls Tryz.prog 21 #[.pointer (some ⟨S, 0, none⟩), evt k m n b g] W (BytesP base s W) := by
  have hcl := fun w => client_yes (W := w) hm
  obtain ⟨w2, e2⟩ : ∃ w2, w2 = W.alloc (.cells #[.int .i64 k, .int .i64 m, .int .i64 n, .string b, .bool g] 29) := ⟨_, rfl⟩
  have b2 : Below W.heap.size W w2 := by rw [e2]; exact (Below.refl _ _).alloc (Nat.le_refl _) _
  have hbx : w2.heap[W.heap.size]? = some (.cells #[.int .i64 k, .int .i64 m, .int .i64 n, .string b, .bool g] 29 (0, 0)) := by rw [e2]; exact Array.getElem?_push_size
  have z2 : W.heap.size < w2.heap.size := by rw [e2]; simp
  have ses2 : Ses w2 base s := h.keep (b2.block s (by omega)) fun v n g => g.below b2
  have c8 : w2.cell? ⟨S, 8, none⟩ = some (.slice (some ⟨CB, 0, none⟩) 64 cp) := (b2.cell (p := ⟨S, 8, none⟩) (by show S < _; omega)).trans h8
  have cc : w2.cell? ⟨CB, m, none⟩ = some (.pointer (some ⟨s, 0, none⟩)) := (b2.cell (p := ⟨CB, m, none⟩) (by show CB < _; omega)).trans hc
  have c1 : w2.cell? ⟨W.heap.size, 1, none⟩ = some (.int .i64 m) := by unfold World.cell?; rw [hbx]; rfl
  have c3 : w2.cell? ⟨W.heap.size, 3, none⟩ = some (.string b) := by unfold World.cell?; rw [hbx]; rfl
  have hd : (m : Int) < 64 := by omega
  have hid := Lib.hid e2
  go_enter Tryz.func21, Tryz.ntmps21
  go_wp2_with (go_at_call 32; refine (hcl _).mono ?_; rintro e w' ⟨rfl, rfl⟩)
  rw [← hid.out]
  have hP := Push_ok (W := w2.drew) (base := base) (s := s) (b := b) (by exact ses2.keep rfl fun v n g => g) hb hs (by show base ≤ w2.heap.size; omega)
  clear e2 h8 hc hcl h
  go_region_held3 (fun w' => w'.cell? ⟨S, 8, none⟩ = some (.slice (some ⟨CB, 0, none⟩) 64 cp) ∧ w'.cell? ⟨CB, m, none⟩ = some (.pointer (some ⟨s, 0, none⟩)) ∧ w'.cell? ⟨W.heap.size, 1, none⟩ = some (.int .i64 m) ∧ w'.cell? ⟨W.heap.size, 3, none⟩ = some (.string b))
    (first | exact ⟨c8, cc, c1, c3⟩ | exact ⟨(cellk (p5.blk (k := S) (by show S < w2.heap.size; omega) hSs (.inl hS)) 8).trans c8, (cellk (p5.blk (k := CB) (by show CB < w2.heap.size; omega) hCs (.inl hC)) m).trans cc, (cellk (p5.blk (k := W.heap.size) (by show W.heap.size < w2.heap.size; omega) (by omega) (.inr ⟨_, _, _, hbx, by decide⟩)) 1).trans c1, (cellk (p5.blk (k := W.heap.size) (by show W.heap.size < w2.heap.size; omega) (by omega) (.inr ⟨_, _, _, hbx, by decide⟩)) 3).trans c3⟩ | go_keep)
    (first | (go_at_call 43; refine hP.mono ?_; rintro e w5 p5; obtain ⟨r, rfl⟩ := p5.res))
  go_wp2
  go_ret
  obtain ⟨w1, v, hby, hw⟩ := p5.byt
  have z5 := p5.size
  have z5' : w2.heap.size ≤ w5.heap.size := z5
  have hsb : w1.heap.size ≤ w5.heap.size := by rcases hw with rfl | rfl <;> simp
  have hos : w5.os = W.os ∧ w5.tape = W.tape ∧ w5.output = W.output := by
    have := b2.os
    have := b2.tape
    have := b2.output
    have e1 := hby.os
    have e2 := hby.tape
    have e3 := hby.output
    rcases hw with rfl | rfl
    · exact ⟨e1.trans ‹_›, e2.trans ‹_›, e3.trans ‹_›⟩
    · exact ⟨e1.trans ‹_›, e2.trans ‹_›, e3.trans ‹_›⟩
  refine ⟨⟨r, rfl⟩, p5.ses, hos.1, hos.2.1, hos.2.2, by omega, fun v n g => ?_, fun k hk hks => ?_, fun k hk hks h8 => ?_⟩
  · have g1 : GoodIn w1 base v n := (show GoodIn w2.drew base v n from g.below b2.drew).keep hby
    rcases hw with rfl | rfl
    · exact g1
    · rcases g1 with g | ⟨r, cap, cur, h1, h2, h3, h4⟩
      · exact .inl g
      · exact .inr ⟨r, cap, cur, h1, h2, by rw [Below.heap_setCell _ _ _ _ (show r ≠ s by omega)]; exact h3, h4⟩
  · exact (p5.blk (k := k) (by show k < w2.heap.size; omega) hks (.inl hk)).trans (b2.block k (by omega))
  · exact (p5.rows (k := k) (by show k < w2.heap.size; omega) hks (fun cur => by show w2.heap[k]? ≠ _; rw [b2.block k hk]; exact h8 cur)).trans (b2.block k hk)
end Go.Proofs.YtcdiojlpmgfmeaaGreatDoor.Q
