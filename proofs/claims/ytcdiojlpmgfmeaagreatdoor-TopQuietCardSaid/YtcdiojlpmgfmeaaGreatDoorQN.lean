/- An event that is no pick leaves a server without keys as it is. No condition. -/
import Derived.Test.YtcdiojlpmgfmeaaGreatDoorQM
namespace Go.Proofs.YtcdiojlpmgfmeaaGreatDoor.Q
open Go Go.RowKit Go.Proofs Go.Maps Go.WideMaps Go.ChangeMaps
set_option maxRecDepth 100000
set_option linter.unusedSimpArgs false
set_option linter.unusedVariables false
theorem Wide_ok {W : World} : Calls Tryz.prog 5 #[.int .i64 0] W fun e w' => ∃ c : Loc, e = .returned (ptr c.S) ∧ Inv c w' ∧ Below W.heap.size W w' ∧ c.From W.heap.size := by
  have h := New_ok (W := W)
  go_enter Tryz.func5, Tryz.ntmps5
  go_wp2_with (go_at_call 20; refine h.mono ?_; rintro e w' ⟨c, rfl, hi, hb, hc⟩)
  go_ret
  exact ⟨c, rfl, hi, hb, hc⟩
theorem Srv.turn {W w : World} {S X L D M XM cl xc : Nat} (h : Srv W S X L D M XM cl xc) (cS : ∀ i, i ≠ 6 → w.cell? ⟨S, i, none⟩ = W.cell? ⟨S, i, none⟩) (cL : ∀ i, w.cell? ⟨L, i, none⟩ = W.cell? ⟨L, i, none⟩)
    (fS : ∀ i, w.frozen? ⟨S, i, none⟩ = W.frozen? ⟨S, i, none⟩) (fL : ∀ i, w.frozen? ⟨L, i, none⟩ = W.frozen? ⟨L, i, none⟩) (hD : w.heap[D]? = W.heap[D]?) (hM : w.heap[M]? = W.heap[M]?) (hX : w.heap[X]? = W.heap[X]?) (hXM : w.heap[XM]? = W.heap[XM]?)
    (hz : W.heap.size ≤ w.heap.size) : Srv w S X L D M XM cl xc :=
  ⟨(cS 5 (by decide)).trans h.d, (cS 7 (by decide)).trans h.up, (cS 9 (by decide)).trans h.s, (cS 10 (by decide)).trans h.l, (cS 11 (by decide)).trans h.r, (cS 14 (by decide)).trans h.run,
    ⟨(cL 0).trans h.log.d, (cL 1).trans h.log.policy, (cL 2).trans h.log.units, (cL 3).trans h.log.state, (cL 5).trans h.log.b⟩, (cL 4).trans h.side, ⟨(cellk hD 0).trans h.disk.files, (cellk hD 2).trans h.disk.down, hM.trans h.disk.map⟩,
    (cellk hX 0).trans h.xm, hXM.trans h.xmap, (fS 6).trans h.f6, (fS 11).trans h.f11, (fL 4).trans h.g4, (fL 5).trans h.g5, Nat.lt_of_lt_of_le h.zS hz, Nat.lt_of_lt_of_le h.zL hz, Nat.lt_of_lt_of_le h.zD hz, Nat.lt_of_lt_of_le h.zX hz,
    Nat.lt_of_lt_of_le h.zM hz, Nat.lt_of_lt_of_le h.zXM hz, h.nSL, h.nD, h.nX, h.nM, h.nXM⟩
theorem Inv.turn {c : Loc} {W w : World} (h : Inv c W) (cS : ∀ i, i ≠ 6 → w.cell? ⟨c.S, i, none⟩ = W.cell? ⟨c.S, i, none⟩) (now : ∃ t, w.cell? ⟨c.S, 6, none⟩ = some (.int .i64 t) ∧ 0 ≤ t ∧ t ≤ 562949953421312) (cL : ∀ i, w.cell? ⟨c.L, i, none⟩ = W.cell? ⟨c.L, i, none⟩)
    (fS : ∀ i, w.frozen? ⟨c.S, i, none⟩ = W.frozen? ⟨c.S, i, none⟩) (fL : ∀ i, w.frozen? ⟨c.L, i, none⟩ = W.frozen? ⟨c.L, i, none⟩) (old : ∀ k, k < c.base → k ≠ c.S → k ≠ c.L → k ∉ c.ss → w.heap[k]? = W.heap[k]?)
    (ses : ∀ s ∈ c.ss, Ses w c.base s) (hz : W.heap.size ≤ w.heap.size) : Inv c w := by
  obtain ⟨l1, l2, l3, l4, l5, l6, l7⟩ := h.lt
  have nss : ∀ k, (∀ s ∈ c.ss, s ≠ k) → k ∉ c.ss := fun k hk hm => hk k hm rfl
  have hD := old c.D l4 h.srv.nD.2 h.srv.nD.1 (nss _ fun s hs => (h.bs s hs).2.2.2.1)
  have hX := old c.X l2 h.srv.nX.2 h.srv.nX.1 (nss _ fun s hs => (h.bs s hs).2.2.2.2.1)
  have hM := old c.M l5 h.srv.nM.2 h.srv.nM.1 (nss _ fun s hs => (h.bs s hs).2.2.2.2.2.1)
  have hXM := old c.XM l6 h.srv.nXM.2 h.srv.nXM.1 (nss _ fun s hs => (h.bs s hs).2.2.2.2.2.2.1)
  have hCB := old c.CB l7 h.cn.1 h.cn.2 (nss _ fun s hs => (h.bs s hs).2.2.2.2.2.2.2)
  exact ⟨h.srv.turn cS cL fS fL hD hM hX hXM hz, now, h.cls.imp fun cp e => (cS 8 (by decide)).trans e, fun i s hs => (cellk hCB i).trans (h.ptrs i s hs), h.len, ses, h.bs, h.nod, Nat.le_trans h.bz hz, h.lt, h.cn⟩
/-- What may change beside: nothing that is no row of bytes. -/
structure Foot (c : Loc) (W w : World) : Prop where
  os : w.os = W.os
  tape : w.tape = W.tape
  output : w.output = W.output
  size : W.heap.size ≤ w.heap.size
  old : ∀ k, k < c.base → k ≠ c.S → k ≠ c.L → k ∉ c.ss → w.heap[k]? = W.heap[k]?
  block : ∀ k, k < W.heap.size → k ≠ c.S → k ≠ c.L → k ∉ c.ss → (∀ cur, W.heap[k]? ≠ some (.cells cur 5 (0, 0))) → w.heap[k]? = W.heap[k]?
theorem Foot.of_below {c : Loc} {W w : World} (hz : c.base ≤ W.heap.size) (b : Below W.heap.size W w) : Foot c W w := ⟨b.os, b.tape, b.output, b.size, fun k hk _ _ _ => b.block k (by omega), fun k hk _ _ _ _ => b.block k hk⟩
theorem Inv.below {c : Loc} {W w : World} (h : Inv c W) (b : Below W.heap.size W w) : Inv c w := by
  obtain ⟨t, h6, h7⟩ := h.now
  have hS := h.srv.zS
  have hL := h.srv.zL
  exact h.turn (fun i _ => b.cell (p := ⟨c.S, i, none⟩) hS) ⟨t, (b.cell (p := ⟨c.S, 6, none⟩) hS).trans h6, h7⟩ (fun i => b.cell (p := ⟨c.L, i, none⟩) hL) (fun i => b.frozen (p := ⟨c.S, i, none⟩) hS) (fun i => b.frozen (p := ⟨c.L, i, none⟩) hL)
    (fun k hk _ _ _ => b.block k (Nat.lt_of_lt_of_le hk h.bz)) (fun s hs => (h.ses s hs).keep (b.block s (Nat.lt_of_lt_of_le (h.bs s hs).1 h.bz)) fun v n g => g.below b) b.size
theorem GoodIn.ch {Z : Nat → Prop} {base : Nat} {W w : World} {v : Value} {n : Nat} (h : Ch Z W w) (hz : ∀ k, Z k → k < base) (g : GoodIn W base v n) : GoodIn w base v n := by
  rcases g with g | ⟨r, cap, cur, h1, h2, h3, h4⟩
  · exact .inl g
  · exact .inr ⟨r, cap, cur, h1, h2, (h.block r (Array.getElem?_eq_some_iff.1 h3).1 fun x => absurd (hz r x) (by omega)).trans h3, h4⟩
theorem Inv.tim {c : Loc} {W w : World} (h : Inv c W) (t : Tim W w c.S) : Inv c w ∧ Foot c W w := by
  have hL := h.srv.zL
  have hn := h.srv.nSL
  have hLb := t.ch.block c.L hL (Ne.symm hn)
  refine ⟨h.turn t.sO t.now (fun i => cellk hLb i) t.sf (fun i => World.frozen?_of_block (w := W) (a := ⟨c.L, i, none⟩) hLb) (fun k hk hS _ _ => t.ch.block k (Nat.lt_of_lt_of_le hk h.bz) hS) (fun s hs => ?_) t.ch.size,
    ⟨t.ch.os, t.ch.tape, t.ch.output, t.ch.size, fun k hk hS _ _ => t.ch.block k (Nat.lt_of_lt_of_le hk h.bz) hS, fun k hk hS _ _ _ => t.ch.block k hk hS⟩⟩
  exact (h.ses s hs).keep (t.ch.block s (Nat.lt_of_lt_of_le (h.bs s hs).1 h.bz) (h.bs s hs).2.1) fun v n g => g.ch t.ch (fun k e => by subst e; exact h.lt.1)
theorem Inv.done {c : Loc} {W w : World} (h : Inv c W) (d : Done W w c.S c.L) : Inv c w ∧ Foot c W w := by
  obtain ⟨t, h6, h7⟩ := h.now
  refine ⟨h.turn (fun i _ => d.sO i) ⟨t, (d.sO 6).trans h6, h7⟩ d.lO d.sf d.lf (fun k hk hS hL _ => d.ch.block k (Nat.lt_of_lt_of_le hk h.bz) (no2 ⟨hL, hS⟩)) (fun s hs => ?_) d.ch.size,
    ⟨d.ch.os, d.ch.tape, d.ch.output, d.ch.size, fun k hk hS hL _ => d.ch.block k (Nat.lt_of_lt_of_le hk h.bz) (no2 ⟨hL, hS⟩), fun k hk hS hL _ _ => d.ch.block k hk (no2 ⟨hL, hS⟩)⟩⟩
  exact (h.ses s hs).keep (d.ch.block s (Nat.lt_of_lt_of_le (h.bs s hs).1 h.bz) (no2 ⟨(h.bs s hs).2.2.1, (h.bs s hs).2.1⟩)) fun v n g => g.ch d.ch (fun k e => e.elim (fun e => by subst e; exact h.lt.2.2.1) fun e => by subst e; exact h.lt.1)
theorem Inv.bytes {c : Loc} {W w : World} {s : Nat} {e : Ending} (h : Inv c W) (hs : s ∈ c.ss) (p : BytesP c.base s W e w) : Inv c w := by
  obtain ⟨t, h6, h7⟩ := h.now
  have b := h.bs s hs
  have hS := p.blk c.S h.lt.1 (Ne.symm b.2.1)
  have hL := p.blk c.L h.lt.2.2.1 (Ne.symm b.2.2.1)
  refine h.turn (fun i _ => cellk hS i) ⟨t, (cellk hS 6).trans h6, h7⟩ (fun i => cellk hL i) (fun i => World.frozen?_of_block (w := W) (a := ⟨c.S, i, none⟩) hS) (fun i => World.frozen?_of_block (w := W) (a := ⟨c.L, i, none⟩) hL)
    (fun k hk _ _ hn => p.blk k hk fun e => hn (e ▸ hs)) (fun s' hs' => ?_) p.size
  by_cases e : s' = s
  · subst e; exact p.ses
  · exact (h.ses s' hs').keep (p.blk s' (h.bs s' hs').1 e) fun v n g => p.good v n g
theorem Inv.cl {c : Loc} {W : World} (h : Inv c W) {m : Nat} (hm : m < 64) : ∃ s, c.ss[m]? = some s ∧ s ∈ c.ss := by
  have hl : m < c.ss.length := by rw [h.len]; exact hm
  exact ⟨c.ss[m], List.getElem?_eq_getElem hl, List.getElem_mem hl⟩
/-- An event's kind that is no pick, no full disk, no crash and no start. -/
def Kind (k : Int) : Prop := k ≠ 2 ∧ k ≠ 7 ∧ k ≠ 8 ∧ k ≠ 9
structure DoP (c : Loc) (W : World) (e : Ending) (w' : World) : Prop where
  inv : Inv c w'
  foot : Foot c W w'
end Go.Proofs.YtcdiojlpmgfmeaaGreatDoor.Q
