/- A server begins: its clients. No condition. -/
import Derived.Test.YtcdiojlpmgfmeaaGreatDoorQJ
import Derived.Deep.AppendLies
import Derived.Deep.RegionLaw
import Derived.OwnWalk
import Derived.WalkSmall
namespace Go.Proofs.YtcdiojlpmgfmeaaGreatDoor.Q
open Go Go.RowKit Go.Proofs Go.Maps Go.WideMaps Go.ChangeMaps
set_option maxRecDepth 100000
set_option linter.unusedSimpArgs false
set_option linter.unusedVariables false
theorem infoP : (Tryz.prog.info? 59).map (fun i => (i.zero, i.size, i.bytes)) = some (some (.pointer none), 1, 8) := by kernel_rfl
def zses : Array Value := #[.slice none 0 0, .slice none 0 0, .bool false, .bool false, .bool false, .slice none 0 0, .slice none 0 0, .slice none 0 0, .slice none 0 0]
abbrev ptr (s : Nat) : Value := .pointer (some ⟨s, 0, none⟩)
/-- What holds while clients are made. -/
structure BegL (W : World) (S B0 k : Nat) (v : Value) (l : List Nat) (wr : World) : Prop where
  len : l.length = k
  own : wr.ownsRow B0 59 1 v k (l.map ptr)
  nod : l.Nodup
  ses : ∀ s ∈ l, B0 ≤ s ∧ wr.heap[s]? = some (.cells zses 115 (0, 0))
  apart : ∀ g, v.ownBlock = some g → g ∉ l
  old : ∀ b, b < B0 → b ≠ S → wr.heap[b]? = W.heap[b]?
  c8 : wr.cell? ⟨S, 8, none⟩ = some v
  sO : ∀ i, i ≠ 8 → wr.cell? ⟨S, i, none⟩ = W.cell? ⟨S, i, none⟩
  sf : ∀ i, wr.frozen? ⟨S, i, none⟩ = W.frozen? ⟨S, i, none⟩
  size : B0 ≤ wr.heap.size
  os : wr.os = W.os
  tape : wr.tape = W.tape
  output : wr.output = W.output
theorem BegL.next {W wr w1 : World} {S B0 k g cap : Nat} {v : Value} {l : List Nat} (h : BegL W S B0 k v l wr) (hS : S < B0)
    (hown : w1.ownsRow B0 59 1 (.slice (some ⟨g, 0, none⟩) (k + 1) cap) (k + 1) (l.map ptr ++ [ptr wr.heap.size]))
    (hgrow : ((wr.alloc (.cells zses 115)).alloc (.cells #[ptr wr.heap.size] 59)).drew.grownBy w1 v.ownBlock) (hat : v.ownBlock = some g ∨ g = wr.heap.size + 2) :
    BegL W S B0 (k + 1) (.slice (some ⟨g, 0, none⟩) (k + 1) cap) (l ++ [wr.heap.size]) (w1.setCell ⟨S, 8, none⟩ (.slice (some ⟨g, 0, none⟩) (k + 1) cap)) := by
  have hz := h.size
  obtain ⟨w2, e2⟩ : ∃ w2, w2 = ((wr.alloc (.cells zses 115)).alloc (.cells #[ptr wr.heap.size] 59)).drew := ⟨_, rfl⟩
  have z2 : w2.heap.size = wr.heap.size + 2 := by rw [e2]; simp
  have o2 : ∀ b, b < wr.heap.size → w2.heap[b]? = wr.heap[b]? := fun b hb => by
    rw [e2]
    show ((wr.alloc (.cells zses 115)).alloc (.cells #[ptr wr.heap.size] 59)).heap[b]? = _
    rw [Below.heap_alloc _ _ _ (by simp; omega), Below.heap_alloc _ _ _ hb]
  have n2 : w2.heap[wr.heap.size]? = some (.cells zses 115 (0, 0)) := by
    rw [e2]
    show ((wr.alloc (.cells zses 115)).alloc (.cells #[ptr wr.heap.size] 59)).heap[wr.heap.size]? = _
    rw [Below.heap_alloc _ _ _ (by simp)]
    exact Array.getElem?_push_size
  rw [← e2] at hgrow
  have hvb : ∀ r, v.ownBlock = some r → B0 ≤ r ∧ r < wr.heap.size := by
    intro r hr
    rcases h.own.2 with ⟨rfl, _⟩ | ⟨b, cp, cur, rfl, hb, hg, _⟩
    · cases hr
    · cases hr
      exact ⟨hb, (Array.getElem?_eq_some_iff.1 hg).1⟩
  have k1 : ∀ b, b < w2.heap.size → v.ownBlock ≠ some b → w1.heap[b]? = w2.heap[b]? := fun b hb hv => hgrow.block b hb (Ne.symm hv)
  have hSv : v.ownBlock ≠ some S := fun e => by have := hvb S e; omega
  have hgB : B0 ≤ g := hat.elim (fun e => (hvb g e).1) (fun e => by omega)
  have hgS : g ≠ S := by omega
  have hl : ∀ s ∈ l, s < wr.heap.size := fun s hs => (Array.getElem?_eq_some_iff.1 (h.ses s hs).2).1
  have hnew : wr.heap.size ∉ l := fun hm => by have := hl _ hm; omega
  have hsame : ∀ b, b < wr.heap.size → v.ownBlock ≠ some b → b ≠ S → (w1.setCell ⟨S, 8, none⟩ (.slice (some ⟨g, 0, none⟩) (k + 1) cap)).heap[b]? = wr.heap[b]? := fun b hb hv hbS =>
    (Below.heap_setCell _ _ _ _ hbS).trans ((k1 b (by omega) hv).trans (o2 b hb))
  have hSold : w1.heap[S]? = wr.heap[S]? := (k1 S (by omega) hSv).trans (o2 S (by omega))
  have cS : ∀ i, w1.cell? ⟨S, i, none⟩ = wr.cell? ⟨S, i, none⟩ := fun i => World.cell?_of_block (w := wr) (a := ⟨S, i, none⟩) hSold
  have fS : ∀ i, w1.frozen? ⟨S, i, none⟩ = wr.frozen? ⟨S, i, none⟩ := fun i => World.frozen?_of_block (w := wr) (a := ⟨S, i, none⟩) hSold
  have hc8 : w1.cell? ⟨S, 8, none⟩ = some v := (cS 8).trans h.c8
  refine ⟨by simp [h.len], ?_, ?_, fun s hs => ?_, fun g' hg' => ?_, fun b hb hbS => ?_, ?_, fun i hi => ?_, fun i => ?_, ?_, ?_, ?_, ?_⟩
  · rw [List.map_append]
    obtain ⟨h1, h2 | ⟨b, cp, cur, e1, e2, e3, e4⟩⟩ := hown
    · exact ⟨h1, .inl h2⟩
    · refine ⟨h1, .inr ⟨b, cp, cur, e1, e2, ?_, e4⟩⟩
      cases e1
      rw [Below.heap_setCell _ _ _ _ hgS]
      exact e3
  · exact List.nodup_append.2 ⟨h.nod, by simp, fun a ha b hb => by simp at hb; subst hb; exact fun e => hnew (e ▸ ha)⟩
  · rcases List.mem_append.1 hs with hs | hs
    · have := h.ses s hs
      exact ⟨this.1, (hsame s (hl s hs) (fun e => h.apart s e hs) (by omega)).trans this.2⟩
    · simp at hs
      subst hs
      refine ⟨hz, (Below.heap_setCell _ _ _ _ (by show wr.heap.size ≠ S; omega)).trans ((k1 _ (by omega) fun e => ?_).trans n2)⟩
      have := hvb _ e
      omega
  · cases hg'
    intro hm
    rcases List.mem_append.1 hm with hm | hm
    · rcases hat with e | e
      · exact h.apart g e hm
      · have := hl g hm; omega
    · simp at hm
      rcases hat with e | e
      · have := hvb g e; omega
      · omega
  · exact (hsame b (by omega) (fun e => by have := hvb b e; omega) hbS).trans (h.old b hb hbS)
  · simp [go_sem, hc8]
  · rw [← h.sO i hi, ← cS i]; simp [go_sem, hi]
  · rw [← h.sf i, ← fS i]; simp [go_sem]
  · have := hgrow.size; simp; omega
  · exact (show w1.os = W.os from hgrow.os.trans (by rw [e2]; exact h.os))
  · exact (show w1.tape = W.tape from hgrow.tape.trans (by rw [e2]; exact h.tape))
  · exact (show w1.output = W.output from hgrow.output.trans (by rw [e2]; exact h.output))
end Go.Proofs.YtcdiojlpmgfmeaaGreatDoor.Q
