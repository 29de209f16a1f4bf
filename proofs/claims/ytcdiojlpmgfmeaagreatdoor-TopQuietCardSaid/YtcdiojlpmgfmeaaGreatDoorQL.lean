/- A server begins. No condition. -/
import Derived.Test.YtcdiojlpmgfmeaaGreatDoorQK
namespace Go.Proofs.YtcdiojlpmgfmeaaGreatDoor.Q
open Go Go.RowKit Go.Proofs Go.Maps Go.WideMaps Go.ChangeMaps
set_option maxRecDepth 100000
set_option linter.unusedSimpArgs false
set_option linter.unusedVariables false
theorem kp {w2 : World} {S i j : Nat} {u : Value} {o : Obj} (hi : i ≠ j) (hS : S < w2.heap.size) : (((w2.setCell ⟨S, j, none⟩ u).alloc o).drew).cell? ⟨S, i, none⟩ = w2.cell? ⟨S, i, none⟩ := by
  have h1 : (((w2.setCell ⟨S, j, none⟩ u).alloc o).drew).cell? ⟨S, i, none⟩ = (w2.setCell ⟨S, j, none⟩ u).cell? ⟨S, i, none⟩ :=
    World.cell?_of_block (w := w2.setCell ⟨S, j, none⟩ u) (a := ⟨S, i, none⟩) (Below.heap_alloc _ _ S (by simpa using hS))
  rw [h1]
  simp [go_sem, hi]
theorem kpf {w2 : World} {S i j : Nat} {u : Value} {o : Obj} (hS : S < w2.heap.size) : (((w2.setCell ⟨S, j, none⟩ u).alloc o).drew).frozen? ⟨S, i, none⟩ = w2.frozen? ⟨S, i, none⟩ := by
  have h1 : (((w2.setCell ⟨S, j, none⟩ u).alloc o).drew).frozen? ⟨S, i, none⟩ = (w2.setCell ⟨S, j, none⟩ u).frozen? ⟨S, i, none⟩ :=
    World.frozen?_of_block (w := w2.setCell ⟨S, j, none⟩ u) (a := ⟨S, i, none⟩) (Below.heap_alloc _ _ S (by simpa using hS))
  rw [h1]
  simp [go_sem]
theorem news2 (wr : World) (a b : Obj) : (((wr.alloc a).alloc b).drew).heap[wr.heap.size + 1]? = some b := by
  have e : wr.heap.size + 1 = (wr.alloc a).heap.size := by simp
  rw [e]
  exact Array.getElem?_push_size
theorem far8 {wr w1 : World} {a b : Obj} {S : Nat} {v : Value} (hg : (((wr.alloc a).alloc b).drew).grownBy w1 v.ownBlock) (hS : S < wr.heap.size) (hv : v.ownBlock ≠ some S) : (∀ i, w1.cell? ⟨S, i, none⟩ = wr.cell? ⟨S, i, none⟩) ∧ ∀ i, w1.frozen? ⟨S, i, none⟩ = wr.frozen? ⟨S, i, none⟩ := by
  have h1 : w1.heap[S]? = wr.heap[S]? := (hg.block S (by show S < ((wr.alloc a).alloc b).heap.size; simp; omega) (Ne.symm hv)).trans
    (by show ((wr.alloc a).alloc b).heap[S]? = _; rw [Below.heap_alloc _ _ _ (by simp; omega), Below.heap_alloc _ _ _ hS])
  exact ⟨fun i => World.cell?_of_block (w := wr) (a := ⟨S, i, none⟩) h1, fun i => World.frozen?_of_block (w := wr) (a := ⟨S, i, none⟩) h1⟩
/-- The world behind kNew: the server's cells. -/
structure Aft (S : Nat) (wc w4 : World) : Prop where
  c : ∀ i, w4.cell? ⟨S, i, none⟩ = wc.cell? ⟨S, i, none⟩
  f : ∀ i, w4.frozen? ⟨S, i, none⟩ = wc.frozen? ⟨S, i, none⟩
  b : Below wc.heap.size wc w4
theorem kNew_aft {wc : World} {S : Nat} (hS : S < wc.heap.size) : Calls Tryz.prog 73 #[] wc fun e w' => (∃ K, e = .returned (.pointer (some ⟨K, 0, none⟩))) ∧ Aft S wc w' :=
  kNew_ok.mono fun e w' ⟨he, hw⟩ => ⟨⟨_, he⟩, by
    have b : Below wc.heap.size wc w' := by rw [hw]; exact ((Below.refl _ _).alloc (Nat.le_refl _) _).alloc (by simp) _
    exact ⟨fun i => b.cell (p := ⟨S, i, none⟩) hS, fun i => b.frozen (p := ⟨S, i, none⟩) hS, b⟩⟩
/-- A server's block as New makes it. -/
def srv0 (D : Nat) : Array Value := #[.int .i64 4194304, .int .i64 0, .int .i64 4194304, .int .i64 1048576, .int .i64 1048576, ptr D, .int .i64 1, .bool false, .slice none 0 0, .pointer none, .pointer none, .pointer none, .pointer none, .map none, .pointer none]
theorem Ch.setS {a b : World} {S i : Nat} (h : Ch (fun k => k = S) a b) (v : Value) : Ch (fun k => k = S) a (b.setCell ⟨S, i, none⟩ v) := Ch.set (Z := fun k => k = S) (p := ⟨S, i, none⟩) h (.inl rfl) v
theorem alloc_at (w : World) (o : Obj) (n : Nat) (h : n = w.heap.size) : (w.alloc o).heap[n]? = some o := by
  subst h
  exact Array.getElem?_push_size
/-- What begin leaves. -/
structure BegQ (W : World) (S X D : Nat) (e : Ending) (w' : World) : Prop where
  res : ∃ v, e = .returned v
  ch : Ch (fun k => k = S) W w'
  fr : ∀ i, w'.frozen? ⟨S, i, none⟩ = false
  c5 : w'.cell? ⟨S, 5, none⟩ = some (ptr D)
  c6 : w'.cell? ⟨S, 6, none⟩ = some (.int .i64 1)
  c7 : w'.cell? ⟨S, 7, none⟩ = some (.bool true)
  c9 : w'.cell? ⟨S, 9, none⟩ = some (ptr X)
  c11 : w'.cell? ⟨S, 11, none⟩ = some (.pointer none)
  c14 : w'.cell? ⟨S, 14, none⟩ = some (.pointer none)
  rest : ∃ (L B : Nat) (v : Value) (l : List Nat), W.heap.size ≤ L ∧ L < B ∧ w'.cell? ⟨S, 10, none⟩ = some (ptr L) ∧ w'.heap[L]? = some (.cells #[ptr D, .int .i64 0, .int .i64 0, .int .i64 0, .bool false, .slice none 0 0] 117 (0, 0)) ∧
    w'.cell? ⟨S, 8, none⟩ = some v ∧ l.length = 64 ∧ w'.ownsRow B 59 1 v 64 (l.map ptr) ∧ l.Nodup ∧ (∀ s ∈ l, B ≤ s ∧ w'.heap[s]? = some (.cells zses 115 (0, 0))) ∧ (∀ g, v.ownBlock = some g → g ∉ l)
theorem begin_end {W w2 wc w4 w6 wr : World} {S X D K : Nat} {v : Value} {l : List Nat} {ev : Value} (hS : S < W.heap.size) (hc : ∀ i v, (srv0 D)[i]? = some v → W.cell? ⟨S, i, none⟩ = some v) (hf : ∀ i, W.frozen? ⟨S, i, none⟩ = false)
    (e2 : w2 = (W.setCell ⟨S, 7, none⟩ (.bool true)).setCell ⟨S, 9, none⟩ (ptr X))
    (ec : wc = ((w2.setCell ⟨S, 10, none⟩ (ptr w2.heap.size)).alloc (.cells #[ptr D, .int .i64 0, .int .i64 0, .int .i64 0, .bool false, .slice none 0 0] 117)).drew) (a4 : Aft S wc w4)
    (e6 : w6 = (((((w4.setCell ⟨S, 12, none⟩ (ptr K)).setCell ⟨S, 13, none⟩ (.map (some w4.heap.size))).setCell ⟨S, 14, none⟩ (.pointer none)).setCell ⟨S, 11, none⟩ (.pointer none)).setCell ⟨S, 8, none⟩ (.slice none 0 0)).alloc (.map #[] 0))
    (hB : BegL w6 S w6.heap.size 64 v l wr) : BegQ W S X D (.returned ev) wr := by
  have z2 : w2.heap.size = W.heap.size := by rw [e2]; simp
  have zc : wc.heap.size = W.heap.size + 1 := by rw [ec]; simp [z2]
  have z4 := a4.b.size
  have z6 : w6.heap.size = w4.heap.size + 1 := by rw [e6]; simp
  have s6 : ∀ k, k < w4.heap.size → k ≠ S → w6.heap[k]? = w4.heap[k]? := fun k hk hn => by
    rw [e6, Below.heap_alloc _ _ _ (by simpa using hk), Below.heap_setCell _ _ _ _ hn, Below.heap_setCell _ _ _ _ hn, Below.heap_setCell _ _ _ _ hn, Below.heap_setCell _ _ _ _ hn, Below.heap_setCell _ _ _ _ hn]
  have sc : ∀ k, k < W.heap.size → k ≠ S → wc.heap[k]? = W.heap[k]? := fun k hk hn => by
    rw [ec]
    show ((w2.setCell ⟨S, 10, none⟩ (ptr w2.heap.size)).alloc _).heap[k]? = _
    rw [Below.heap_alloc _ _ _ (by simp [z2]; omega), Below.heap_setCell _ _ _ _ hn, e2, Below.heap_setCell _ _ _ _ hn, Below.heap_setCell _ _ _ _ hn]
  have sw : ∀ k, k < W.heap.size → k ≠ S → wr.heap[k]? = W.heap[k]? := fun k hk hn =>
    (hB.old k (by omega) hn).trans ((s6 k (by omega) hn).trans ((a4.b.block k (by omega)).trans (sc k hk hn)))
  have hS2 : S < w2.heap.size := by omega
  have hS4 : S < w4.heap.size := by omega
  have f2 : ∀ i, w2.frozen? ⟨S, i, none⟩ = W.frozen? ⟨S, i, none⟩ := fun i => by rw [e2]; simp [go_sem]
  have f6 : ∀ i, w6.frozen? ⟨S, i, none⟩ = w4.frozen? ⟨S, i, none⟩ := fun i => by rw [e6]; simp [go_sem, hS4]
  have d2 : ∀ i, i ≠ 7 → i ≠ 9 → w2.cell? ⟨S, i, none⟩ = W.cell? ⟨S, i, none⟩ := fun i h7 h9 => by rw [e2]; simp [go_sem, h7, h9]
  have d27 : w2.cell? ⟨S, 7, none⟩ = some (.bool true) := by rw [e2]; simp [go_sem, hc 7 _ rfl]
  have d29 : w2.cell? ⟨S, 9, none⟩ = some (ptr X) := by rw [e2]; simp [go_sem, hc 9 _ rfl]
  have dc : ∀ i, i ≠ 10 → wc.cell? ⟨S, i, none⟩ = w2.cell? ⟨S, i, none⟩ := fun i hi => by rw [ec]; exact kp hi hS2
  have dc10 : wc.cell? ⟨S, 10, none⟩ = some (ptr w2.heap.size) := by
    rw [ec]
    have h1 : (((w2.setCell ⟨S, 10, none⟩ (ptr w2.heap.size)).alloc (.cells #[ptr D, .int .i64 0, .int .i64 0, .int .i64 0, .bool false, .slice none 0 0] 117)).drew).cell? ⟨S, 10, none⟩ = (w2.setCell ⟨S, 10, none⟩ (ptr w2.heap.size)).cell? ⟨S, 10, none⟩ :=
      World.cell?_of_block (w := w2.setCell ⟨S, 10, none⟩ (ptr w2.heap.size)) (a := ⟨S, 10, none⟩) (Below.heap_alloc _ _ S (by simpa using hS2))
    have h2 : w2.cell? ⟨S, 10, none⟩ = some (.pointer none) := (d2 10 (by decide) (by decide)).trans (hc 10 _ rfl)
    rw [h1]
    simp [go_sem, h2]
  have d6 : ∀ i, i ≠ 8 → i ≠ 11 → i ≠ 12 → i ≠ 13 → i ≠ 14 → w6.cell? ⟨S, i, none⟩ = w4.cell? ⟨S, i, none⟩ := fun i h1 h2 h3 h4 h5 => by rw [e6]; simp [go_sem, hS4, h1, h2, h3, h4, h5]
  have x11 : w4.cell? ⟨S, 11, none⟩ = some (.pointer none) := (a4.c 11).trans ((dc 11 (by decide)).trans ((d2 11 (by decide) (by decide)).trans (hc 11 _ rfl)))
  have x14 : w4.cell? ⟨S, 14, none⟩ = some (.pointer none) := (a4.c 14).trans ((dc 14 (by decide)).trans ((d2 14 (by decide) (by decide)).trans (hc 14 _ rfl)))
  have d611 : w6.cell? ⟨S, 11, none⟩ = some (.pointer none) := by rw [e6]; simp [go_sem, hS4, x11]
  have d614 : w6.cell? ⟨S, 14, none⟩ = some (.pointer none) := by rw [e6]; simp [go_sem, hS4, x14]
  have go : ∀ i, i ≠ 8 → i ≠ 11 → i ≠ 12 → i ≠ 13 → i ≠ 14 → i ≠ 10 → wr.cell? ⟨S, i, none⟩ = w2.cell? ⟨S, i, none⟩ := fun i h1 h2 h3 h4 h5 h6 => (hB.sO i h1).trans ((d6 i h1 h2 h3 h4 h5).trans ((a4.c i).trans (dc i h6)))
  have c2 : Ch (fun k => k = S) W w2 := by
    rw [e2]; exact ((Ch.refl _ _).setS _).setS _
  have cc : Ch (fun k => k = S) W wc := by
    rw [ec]; exact ((c2.setS _).alloc _).drew
  have c4 : Ch (fun k => k = S) W w4 := cc.trans (Ch.of_below a4.b)
  have c6 : Ch (fun k => k = S) W w6 := by
    rw [e6]; exact (((((c4.setS _).setS _).setS _).setS _).setS _).alloc _
  refine ⟨⟨_, rfl⟩, ⟨?_, ?_, ?_, ?_, sw⟩, fun i => ?_, ?_, ?_, ?_, ?_, ?_, ?_, w2.heap.size, w6.heap.size, v, l, by omega, by omega, ?_, ?_, hB.c8, hB.len, hB.own, hB.nod, hB.ses, hB.apart⟩
  · exact hB.os.trans c6.os
  · exact hB.tape.trans c6.tape
  · exact hB.output.trans c6.output
  · have := hB.size; omega
  · rw [hB.sf i, f6 i, a4.f i, ec, kpf hS2, f2 i, hf i]
  · exact (go 5 (by decide) (by decide) (by decide) (by decide) (by decide) (by decide)).trans ((d2 5 (by decide) (by decide)).trans (hc 5 _ rfl))
  · exact (go 6 (by decide) (by decide) (by decide) (by decide) (by decide) (by decide)).trans ((d2 6 (by decide) (by decide)).trans (hc 6 _ rfl))
  · exact (go 7 (by decide) (by decide) (by decide) (by decide) (by decide) (by decide)).trans d27
  · exact (go 9 (by decide) (by decide) (by decide) (by decide) (by decide) (by decide)).trans d29
  · exact (hB.sO 11 (by decide)).trans d611
  · exact (hB.sO 14 (by decide)).trans d614
  · exact (hB.sO 10 (by decide)).trans ((d6 10 (by decide) (by decide) (by decide) (by decide) (by decide)).trans ((a4.c 10).trans dc10))
  · have hLS : w2.heap.size ≠ S := by omega
    rw [hB.old _ (by omega) hLS, s6 _ (by omega) hLS, a4.b.block _ (by omega), ec]
    exact alloc_at _ _ _ (by simp)
set_option maxHeartbeats 2000000 in
theorem begin_ok {W : World} {S X D : Nat} (h0 : W.heap[S]? = some (.cells (srv0 D) 54 (0, 0))) : Calls Tryz.prog 41 #[ptr S, ptr X] W fun e w' => BegQ W S X D e w' := by
  have hS : S < W.heap.size := (Array.getElem?_eq_some_iff.1 h0).1
  have hc : ∀ i v, (srv0 D)[i]? = some v → W.cell? ⟨S, i, none⟩ = some v := fun i v hv => by unfold World.cell?; rw [h0]; exact hv
  have hf : ∀ i, W.frozen? ⟨S, i, none⟩ = false := fun i => by unfold World.frozen?; rw [h0]; simp
  have c1 : W.cell? ⟨S, 1, none⟩ = some (.int .i64 0) := hc 1 _ rfl
  have c5 : W.cell? ⟨S, 5, none⟩ = some (ptr D) := hc 5 _ rfl
  have c7 : W.cell? ⟨S, 7, none⟩ = some (.bool false) := hc 7 _ rfl
  have c8 : W.cell? ⟨S, 8, none⟩ = some (.slice none 0 0) := hc 8 _ rfl
  have c9 : W.cell? ⟨S, 9, none⟩ = some (.pointer none) := hc 9 _ rfl
  have c10 : W.cell? ⟨S, 10, none⟩ = some (.pointer none) := hc 10 _ rfl
  have c11 : W.cell? ⟨S, 11, none⟩ = some (.pointer none) := hc 11 _ rfl
  have c12 : W.cell? ⟨S, 12, none⟩ = some (.pointer none) := hc 12 _ rfl
  have c13 : W.cell? ⟨S, 13, none⟩ = some (.map none) := hc 13 _ rfl
  have c14 : W.cell? ⟨S, 14, none⟩ = some (.pointer none) := hc 14 _ rfl
  have f7 : W.frozen? ⟨S, 7, none⟩ = false := hf 7
  have f8 : W.frozen? ⟨S, 8, none⟩ = false := hf 8
  have f9 : W.frozen? ⟨S, 9, none⟩ = false := hf 9
  have f10 : W.frozen? ⟨S, 10, none⟩ = false := hf 10
  have f11 : W.frozen? ⟨S, 11, none⟩ = false := hf 11
  have f12 : W.frozen? ⟨S, 12, none⟩ = false := hf 12
  have f13 : W.frozen? ⟨S, 13, none⟩ = false := hf 13
  have f14 : W.frozen? ⟨S, 14, none⟩ = false := hf 14
  have hcid := Lib.hid hc
  have hfid := Lib.hid hf
  clear hc hf
  go_enter Tryz.func41, Tryz.ntmps41
  go_wp2
  obtain ⟨w2, e2⟩ : ∃ w2, w2 = (W.setCell ⟨S, 7, none⟩ (.bool true)).setCell ⟨S, 9, none⟩ (ptr X) := ⟨_, rfl⟩
  have d1 : w2.cell? ⟨S, 1, none⟩ = some (.int .i64 0) := by rw [e2]; simp [go_sem, c1]
  have d5 : w2.cell? ⟨S, 5, none⟩ = some (ptr D) := by rw [e2]; simp [go_sem, c5]
  have d8 : w2.cell? ⟨S, 8, none⟩ = some (.slice none 0 0) := by rw [e2]; simp [go_sem, c8]
  have d10 : w2.cell? ⟨S, 10, none⟩ = some (.pointer none) := by rw [e2]; simp [go_sem, c10]
  have d11 : w2.cell? ⟨S, 11, none⟩ = some (.pointer none) := by rw [e2]; simp [go_sem, c11]
  have d12 : w2.cell? ⟨S, 12, none⟩ = some (.pointer none) := by rw [e2]; simp [go_sem, c12]
  have d13 : w2.cell? ⟨S, 13, none⟩ = some (.map none) := by rw [e2]; simp [go_sem, c13]
  have d14 : w2.cell? ⟨S, 14, none⟩ = some (.pointer none) := by rw [e2]; simp [go_sem, c14]
  have g8 : w2.frozen? ⟨S, 8, none⟩ = false := by rw [e2]; simp [go_sem, f8]
  have g10 : w2.frozen? ⟨S, 10, none⟩ = false := by rw [e2]; simp [go_sem, f10]
  have g11 : w2.frozen? ⟨S, 11, none⟩ = false := by rw [e2]; simp [go_sem, f11]
  have g12 : w2.frozen? ⟨S, 12, none⟩ = false := by rw [e2]; simp [go_sem, f12]
  have g13 : w2.frozen? ⟨S, 13, none⟩ = false := by rw [e2]; simp [go_sem, f13]
  have g14 : w2.frozen? ⟨S, 14, none⟩ = false := by rw [e2]; simp [go_sem, f14]
  have hS2 : S < w2.heap.size := by rw [e2]; simpa using hS
  have hid := Lib.hid e2
  rw [← e2]
  clear e2 c1 c5 c7 c8 c9 c10 c11 c12 c13 c14 f7 f8 f9 f10 f11 f12 f13 f14 h0
  go_region_held3 (fun w' => w'.cell? ⟨S, 5, none⟩ = some (ptr D) ∧ w'.cell? ⟨S, 1, none⟩ = some (.int .i64 0)) (first | (with_reducible exact ⟨d5, d1⟩) | (with_reducible exact ⟨(kp (by decide) hS2).trans d5, (kp (by decide) hS2).trans d1⟩) | go_keep)
    (first | (go_at_call 72; refine lNew_ok.mono ?_; rintro e w3 ⟨rfl, rfl⟩))
  have hmm := @run_makeMap Tryz.prog
  go_wp2_with fail
  refine (kNew_aft (S := S) (by simp; omega)).mono ?_
  rintro e w4 ⟨⟨K, rfl⟩, a4⟩
  have x8 : w4.cell? ⟨S, 8, none⟩ = some (.slice none 0 0) := (a4.c 8).trans ((kp (by decide) hS2).trans d8)
  have x11 : w4.cell? ⟨S, 11, none⟩ = some (.pointer none) := (a4.c 11).trans ((kp (by decide) hS2).trans d11)
  have x12 : w4.cell? ⟨S, 12, none⟩ = some (.pointer none) := (a4.c 12).trans ((kp (by decide) hS2).trans d12)
  have x13 : w4.cell? ⟨S, 13, none⟩ = some (.map none) := (a4.c 13).trans ((kp (by decide) hS2).trans d13)
  have x14 : w4.cell? ⟨S, 14, none⟩ = some (.pointer none) := (a4.c 14).trans ((kp (by decide) hS2).trans d14)
  have y8 : w4.frozen? ⟨S, 8, none⟩ = false := (a4.f 8).trans ((kpf hS2).trans g8)
  have y11 : w4.frozen? ⟨S, 11, none⟩ = false := (a4.f 11).trans ((kpf hS2).trans g11)
  have y12 : w4.frozen? ⟨S, 12, none⟩ = false := (a4.f 12).trans ((kpf hS2).trans g12)
  have y13 : w4.frozen? ⟨S, 13, none⟩ = false := (a4.f 13).trans ((kpf hS2).trans g13)
  have y14 : w4.frozen? ⟨S, 14, none⟩ = false := (a4.f 14).trans ((kpf hS2).trans g14)
  have hS4 : S < w4.heap.size := Nat.lt_of_lt_of_le (by simp; omega) a4.b.size
  clear d1 d5 d8 d10 d11 d12 d13 d14 g8 g10 g11 g12 g13 g14
  go_wp2_with fail
  obtain ⟨w6, e6⟩ : ∃ w6, w6 = (((((w4.setCell ⟨S, 12, none⟩ (ptr K)).setCell ⟨S, 13, none⟩ (.map (some w4.heap.size))).setCell ⟨S, 14, none⟩ (.pointer none)).setCell ⟨S, 11, none⟩ (.pointer none)).setCell ⟨S, 8, none⟩ (.slice none 0 0)).alloc (.map #[] 0) := ⟨_, rfl⟩
  have v8 : w6.cell? ⟨S, 8, none⟩ = some (.slice none 0 0) := by rw [e6]; simp [go_sem, x8, hS4]
  have u8 : w6.frozen? ⟨S, 8, none⟩ = false := by rw [e6]; simp [go_sem, y8, hS4]
  have z6 : S < w6.heap.size := by rw [e6]; simp; omega
  have hid6 := Lib.hid e6
  rw [← e6]
  have st : BegL w6 S w6.heap.size 0 (.slice none 0 0) [] w6 := ⟨rfl, World.ownsRow_nil _ _ _ _, List.nodup_nil, (fun s hs => by cases hs), (fun g hg => by cases hg), fun _ _ _ => rfl, v8, fun _ _ => rfl, fun _ => rfl, Nat.le_refl _, rfl, rfl, rfl⟩
  obtain ⟨i0, hi, hz, hsize, hby⟩ := info_parts infoP
  clear e6 x8 x11 x12 x13 x14 y8 y11 y12 y13 y14 hS2 hS4 hmm
  go_loopw [44] (fun i wr => ∃ (k : Nat) (v : Value) (l : List Nat), k ≤ 64 ∧ i = .int .i64 k ∧ BegL w6 S w6.heap.size k v l wr) (fun i _ => 64 - (intOf i).toNat)
  case atStart => exact ⟨0, _, _, Nat.zero_le _, rfl, st⟩
  case round =>
    obtain ⟨k, v, l, hk, rfl, hB⟩ := hrel
    by_cases hlt : k < 64
    · have c8 := hB.c8
      have hzz := hB.size
      have hvb : v.ownBlock ≠ some S := by
        intro e
        rcases hB.own.2 with ⟨rfl, _⟩ | ⟨b, cp, cur, rfl, hb, hg, _⟩
        · cases e
        · cases e
          exact absurd z6 (Nat.not_lt.2 hb)
      have f8 : wr.frozen? ⟨S, 8, none⟩ = false := (hB.sf 8).trans u8
      have hn : k + 1 ≤ maxLen := by unfold maxLen; omega
      have hSr : S < wr.heap.size := by omega
      have hBh := Lib.hid hB
      clear hB st v8 u8
      go_wp2
      go_region_law (first
        | (refine step_append_lies _ (by rfl) _ _ _ (by rfl) w6.heap.size 59 i0 _ 1 8 Tryz.underlying46 hi hz hsize hby rfl (by omega) v k (l.map ptr) (by rfl) ((hBh.out.own.alloc _).alloc _).drew ⟨wr.heap.size + 1, 0, none⟩ 1 1 [ptr wr.heap.size] (by rfl) (by rfl) (World.news_of_block (cs := #[ptr wr.heap.size]) (t := 59) (fr := (0, 0)) (news2 _ _ _)) (by simp [Value.oneCell']) (by omega) hn (by omega) (by simp; omega) (wr.heap.size + 2) (by simp) ?_; intro g cap w1 hown1 hgrow hat hlt1; have q8 := ((far8 hgrow hSr hvb).1 8).trans c8; have qf := ((far8 hgrow hSr hvb).2 8).trans f8)
        | (go_simp; go_at_call 74; refine sNew_ok.mono ?_; rintro e w' ⟨rfl, rfl⟩))
      go_wp2
      all_goals exact ⟨⟨k + 1, _, _, by omega, by go_num, hBh.out.next z6 hown1 hgrow hat⟩, by simp [intOf]; omega⟩
    · have e64 : k = 64 := by omega
      subst e64
      have hBh := Lib.hid hB
      clear hB
      go_wp2
      go_end0
      exact begin_end hS hcid.out hfid.out hid.out rfl a4 hid6.out hBh.out
end Go.Proofs.YtcdiojlpmgfmeaaGreatDoor.Q
