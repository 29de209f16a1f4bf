/- Do over a server without keys: any event that is no pick, no full disk, no crash, no start. No condition. -/
import Derived.Test.YtcdiojlpmgfmeaaGreatDoorQN
namespace Go.Proofs.YtcdiojlpmgfmeaaGreatDoor.Q
open Go Go.RowKit Go.Proofs Go.Maps Go.WideMaps Go.ChangeMaps
set_option maxRecDepth 100000
set_option linter.unusedSimpArgs false
set_option linter.unusedVariables false
theorem Foot.of_bytes {c : Loc} {W w : World} {s : Nat} {e : Ending} (hs : s ∈ c.ss) (p : BytesP c.base s W e w) : Foot c W w :=
  ⟨p.os, p.tape, p.output, p.size, fun k hk _ _ hn => p.blk k hk fun e => hn (e ▸ hs), fun k hk _ _ hn h8 => p.rows k hk (fun e => hn (e ▸ hs)) h8⟩
theorem Foot.then {c : Loc} {W w w' : World} (hc : c.base ≤ W.heap.size) (b : Below W.heap.size W w) (f : Foot c w w') (hz : W.heap.size ≤ w.heap.size) : Foot c W w' :=
  ⟨f.os.trans b.os, f.tape.trans b.tape, f.output.trans b.output, Nat.le_trans hz f.size, fun k hk h1 h2 h3 => (f.old k hk h1 h2 h3).trans (b.block k (by omega)), fun k hk h1 h2 h3 h4 => (f.block k (by omega) h1 h2 h3 (fun cur => by rw [b.block k hk]; exact h4 cur)).trans (b.block k hk)⟩
theorem bytes_inv {c : Loc} {W : World} {k m n : Int} {b : ByteArray} {g : Bool} (h : Inv c W) (hb : b.size ≤ 1500) :
    Calls Tryz.prog 21 #[.pointer (some ⟨c.S, 0, none⟩), evt k m n b g] W fun e w' => (∃ r, e = .returned (.int .i64 r)) ∧ DoP c W e w' := by
  by_cases hm : 0 ≤ m ∧ m < 64
  · obtain ⟨j, rfl⟩ : ∃ j : Nat, m = (j : Int) := ⟨m.toNat, by omega⟩
    obtain ⟨s, hs, hm'⟩ := h.cl (m := j) (by omega)
    have q := h.bs s hm'
    obtain ⟨cp, hc⟩ := h.cls
    exact (bytes_some (by omega) hc (h.ptrs j s hs) (h.ses s hm') hb h.lt.1 h.lt.2.2.2.2.2.2 q.1 h.bz (Ne.symm q.2.1) (Ne.symm q.2.2.2.2.2.2.2)).mono fun e w' p => ⟨p.res, h.bytes hm' p, Foot.of_bytes hm' p⟩
  · exact (bytes_none hm).mono fun e w' ⟨he, b⟩ => ⟨⟨7, he⟩, h.below b, Foot.of_below h.bz b⟩
theorem Do_inv {c : Loc} {W : World} {k m n : Int} {b : ByteArray} {g : Bool} (h : Inv c W) (hk : Kind k) (hb : b.size ≤ 1500) (hA : AllN c.X c.XM 0) :
    Calls Tryz.prog 8 #[.pointer (some ⟨c.S, 0, none⟩), evt k m n b g] W fun e w' => (∃ r, e = .returned (.int .i64 r)) ∧ DoP c W e w' := by
  have hS := h.srv.zS
  have hup := h.srv.up
  have fin : ∀ {w' w'' : World} {e : Ending}, Below W.heap.size W w' → DoP c w' e w'' → DoP c W e w'' := fun b1 d => ⟨d.inv, Foot.then h.bz b1 d.foot b1.size⟩
  by_cases h1 : k = 1
  · subst h1
    refine Do_some hS hup (by decide) (i := 0) (f := 21) rfl (.inl rfl) fun w' b1 => ?_
    exact (bytes_inv (h.below b1) hb).mono fun e w'' ⟨r, d⟩ => ⟨r, r, fin b1 d⟩
  by_cases h3 : k = 3
  · subst h3
    refine Do_some hS hup (by decide) (i := 2) (f := 23) rfl (.inr (.inl rfl)) fun w' b1 => ?_
    have q := h.below b1
    exact (goOn_ok q.srv.zS q.srv.run).mono fun e w'' ⟨r, d⟩ => ⟨⟨25, r⟩, ⟨25, r⟩, fin b1 ⟨q.below d, Foot.of_below q.bz d⟩⟩
  by_cases h4 : k = 4
  · subst h4
    refine Do_some hS hup (by decide) (i := 3) (f := 24) rfl (.inr (.inr (.inl rfl))) fun w' b1 => ?_
    have q := h.below b1
    obtain ⟨t, q1, q2, q3⟩ := q.now
    exact (tick_ok q.srv q1 q2 q3).mono fun e w'' ⟨r, d⟩ => ⟨r, r, fin b1 ⟨(q.tim d).1, (q.tim d).2⟩⟩
  by_cases h5 : k = 5
  · subst h5
    refine Do_some hS hup (by decide) (i := 4) (f := 25) rfl (.inr (.inr (.inr (.inl rfl)))) fun w' b1 => ?_
    have q := h.below b1
    obtain ⟨t, q1, q2, q3⟩ := q.now
    refine (sweep_ok q.srv.zS q.srv.run q.srv.s q.srv.l q1 fun w2 b2 => ?_).mono fun e w'' ⟨r, d⟩ => ⟨⟨0, r⟩, ⟨0, r⟩, fin b1 ⟨q.below d, Foot.of_below q.bz d⟩⟩
    have q2 := q.below b2
    exact hA w2 q2.srv.xm q2.srv.xmap
  by_cases h6 : k = 6
  · subst h6
    refine Do_some hS hup (by decide) (i := 5) (f := 26) rfl (.inr (.inr (.inr (.inr rfl)))) fun w' b1 => ?_
    have q := h.below b1
    exact (rewrite_ok q.srv hA).mono fun e w'' ⟨r, d⟩ => ⟨⟨0, r⟩, ⟨0, r⟩, fin b1 ⟨(q.done d).1, (q.done d).2⟩⟩
  obtain ⟨k2, k7, k8, k9⟩ := hk
  refine (Do_none hS hup (by simpa using k9) (find_none (by omega))).mono fun e w' ⟨r, b1⟩ => ⟨r, h.below b1, Foot.of_below h.bz b1⟩
end Go.Proofs.YtcdiojlpmgfmeaaGreatDoor.Q
