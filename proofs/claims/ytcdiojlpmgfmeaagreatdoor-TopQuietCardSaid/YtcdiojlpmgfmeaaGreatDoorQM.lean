/- New and Wide: a server without keys. No condition. -/
import Derived.Test.YtcdiojlpmgfmeaaGreatDoorQL
namespace Go.Proofs.YtcdiojlpmgfmeaaGreatDoor.Q
open Go Go.RowKit Go.Proofs Go.Maps Go.WideMaps Go.ChangeMaps
set_option maxRecDepth 100000
set_option linter.unusedSimpArgs false
set_option linter.unusedVariables false
/-- Where a server lies. -/
structure Loc where
  S : Nat
  X : Nat
  L : Nat
  D : Nat
  M : Nat
  XM : Nat
  CB : Nat
  base : Nat
  ss : List Nat
/-- A server without keys, none of whose clients is told anything. -/
structure Inv (c : Loc) (W : World) : Prop where
  srv : Srv W c.S c.X c.L c.D c.M c.XM 0 0
  now : ∃ t, W.cell? ⟨c.S, 6, none⟩ = some (.int .i64 t) ∧ 0 ≤ t ∧ t ≤ 562949953421312
  cls : ∃ cap, W.cell? ⟨c.S, 8, none⟩ = some (.slice (some ⟨c.CB, 0, none⟩) 64 cap)
  ptrs : ∀ i s, c.ss[i]? = some s → W.cell? ⟨c.CB, i, none⟩ = some (ptr s)
  len : c.ss.length = 64
  ses : ∀ s ∈ c.ss, Ses W c.base s
  bs : ∀ s ∈ c.ss, s < c.base ∧ s ≠ c.S ∧ s ≠ c.L ∧ s ≠ c.D ∧ s ≠ c.X ∧ s ≠ c.M ∧ s ≠ c.XM ∧ s ≠ c.CB
  nod : c.ss.Nodup
  bz : c.base ≤ W.heap.size
  lt : c.S < c.base ∧ c.X < c.base ∧ c.L < c.base ∧ c.D < c.base ∧ c.M < c.base ∧ c.XM < c.base ∧ c.CB < c.base
  cn : c.CB ≠ c.S ∧ c.CB ≠ c.L
theorem cellH {w : World} {b i : Nat} {cs : Array Value} {t : TypeId} {v : Value} (h : w.heap[b]? = some (.cells cs t (0, 0))) (hv : cs[i]? = some v) : w.cell? ⟨b, i, none⟩ = some v := by unfold World.cell?; rw [h]; exact hv
theorem frozH {w : World} {b i : Nat} {cs : Array Value} {t : TypeId} (h : w.heap[b]? = some (.cells cs t (0, 0))) : w.frozen? ⟨b, i, none⟩ = false := by unfold World.frozen?; rw [h]; simp
/-- The server's blocks are new. -/
structure Loc.From (c : Loc) (n : Nat) : Prop where
  S : n ≤ c.S
  L : n ≤ c.L
  ss : ∀ s ∈ c.ss, n ≤ s
  base : n ≤ c.base
/-- From what begin leaves. -/
theorem inv_of_begin {W5 w' : World} {S X D M XM : Nat} {e : Ending} {rm m0 : Value} (q : BegQ W5 S X D e w') (hD : W5.heap[D]? = some (.cells #[.map (some M), rm, .bool false] 131 (0, 0))) (hM : W5.heap[M]? = some (.map #[] 0))
    (hX : W5.heap[X]? = some (.cells #[.map (some XM), m0] 125 (0, 0))) (hXM : W5.heap[XM]? = some (.map #[] 0)) (hS : S < W5.heap.size) (nD : D ≠ S) (nX : X ≠ S) (nM : M ≠ S) (nXM : XM ≠ S) :
    ∃ c : Loc, c.S = S ∧ (W5.heap.size ≤ c.L ∧ (∀ s ∈ c.ss, W5.heap.size ≤ s) ∧ W5.heap.size ≤ c.base) ∧ Inv c w' := by
  obtain ⟨L, B, v, l, hL, hLB, c10, hLb, c8, hlen, hown, hnod, hses, hap⟩ := q.rest
  have zD := (Array.getElem?_eq_some_iff.1 hD).1
  have zM := (Array.getElem?_eq_some_iff.1 hM).1
  have zX := (Array.getElem?_eq_some_iff.1 hX).1
  have zXM := (Array.getElem?_eq_some_iff.1 hXM).1
  have hD' := (q.ch.block D zD nD).trans hD
  have hM' := (q.ch.block M zM nM).trans hM
  have hX' := (q.ch.block X zX nX).trans hX
  have hXM' := (q.ch.block XM zXM nXM).trans hXM
  have zs := q.ch.size
  have zL : L < w'.heap.size := (Array.getElem?_eq_some_iff.1 hLb).1
  rcases hown.2 with ⟨rfl, h0⟩ | ⟨g, cap, cur, rfl, hgB, hg, h64, hcm, hcs, htk⟩
  · cases h0
  have zg : g < w'.heap.size := (Array.getElem?_eq_some_iff.1 hg).1
  have hgl : g ∉ l := hap g rfl
  refine ⟨⟨S, X, L, D, M, XM, g, w'.heap.size, l⟩, rfl, ⟨by show W5.heap.size ≤ L; omega, fun s hs => by have := (hses s hs).1; omega, zs⟩, ⟨?_, ⟨1, q.c6, by decide, by decide⟩, ⟨cap, c8⟩, fun i s hs => ?_, hlen, fun s hs => ?_, fun s hs => ?_, hnod, Nat.le_refl _, ?_, ?_⟩⟩
  · exact ⟨q.c5, q.c7, q.c9, c10, q.c11, q.c14, ⟨cellH hLb rfl, cellH hLb rfl, cellH hLb rfl, cellH hLb rfl, cellH hLb rfl⟩, cellH hLb rfl, ⟨cellH hD' rfl, cellH hD' rfl, hM'⟩, cellH hX' rfl, hXM', q.fr 6, q.fr 11, frozH hLb, frozH hLb,
      by show S < _; omega, zL, by show D < _; omega, by show X < _; omega, by show M < _; omega, by show XM < _; omega, by show S ≠ L; omega, ⟨by show D ≠ L; omega, nD⟩, ⟨by show X ≠ L; omega, nX⟩, ⟨by show M ≠ L; omega, nM⟩, ⟨by show XM ≠ L; omega, nXM⟩⟩
  · have h1 : cur.toList.take 64 = l.map ptr := by simpa using htk
    have h2 : (cur.toList.take 64)[i]? = some (ptr s) := by
      rw [h1, List.getElem?_map]
      have hs' : l[i]? = some s := hs
      rw [hs']
      rfl
    have h3 : cur[i]? = some (ptr s) := by
      rw [List.getElem?_take] at h2
      split at h2
      · simpa using h2
      · cases h2
    exact cellH hg h3
  · have := (hses s hs).2
    exact ⟨⟨.slice none 0 0, 0, cellH this rfl, .inl ⟨rfl, rfl⟩, by decide⟩, cellH this rfl, cellH this rfl, frozH this, frozH this⟩
  · have h1 := hses s hs
    have h2 := (Array.getElem?_eq_some_iff.1 h1.2).1
    exact ⟨h2, by show s ≠ S; omega, by show s ≠ L; omega, by show s ≠ D; omega, by show s ≠ X; omega, by show s ≠ M; omega, by show s ≠ XM; omega, fun e => hgl ((show s = g from e) ▸ hs)⟩
  · exact ⟨by show S < w'.heap.size; omega, by show X < w'.heap.size; omega, zL, by show D < w'.heap.size; omega, by show M < w'.heap.size; omega, by show XM < w'.heap.size; omega, zg⟩
  · exact ⟨by show g ≠ S; omega, by show g ≠ L; omega⟩
/-- The worlds ahead of begin. -/
structure Ahead (W w5 : World) : Prop where
  below : Below W.heap.size W w5
  h1 : w5.heap[W.heap.size + 1]? = some (.map #[] 0)
  h2 : w5.heap[W.heap.size + 2]? = some (.cells #[.map (some (W.heap.size + 1)), .int .i64 4194304, .bool false] 131 (0, 0))
  h3 : w5.heap[W.heap.size + 3]? = some (.cells (srv0 (W.heap.size + 2)) 54 (0, 0))
  h4 : w5.heap[W.heap.size + 4]? = some (.map #[] 0)
  h5 : w5.heap[W.heap.size + 5]? = some (.cells #[.map (some (W.heap.size + 4)), .int .i64 0] 125 (0, 0))
theorem ahead (W : World) (o0 : Obj) : Ahead W ((((((W.alloc o0).alloc (.map #[] 0)).alloc (.cells #[.map (some (W.heap.size + 1)), .int .i64 4194304, .bool false] 131)).alloc (.cells (srv0 (W.heap.size + 2)) 54)).alloc (.map #[] 0)).alloc (.cells #[.map (some (W.heap.size + 4)), .int .i64 0] 125)) := by
  have a : ∀ (w : World) (o : Obj) (k : Nat), k < w.heap.size → (w.alloc o).heap[k]? = w.heap[k]? := fun w o k hk => Below.heap_alloc w o k hk
  refine ⟨((((((Below.refl _ _).alloc (Nat.le_refl _) _).alloc (by simp) _).alloc (by simp; omega) _).alloc (by simp; omega) _).alloc (by simp; omega) _).alloc (by simp; omega) _, ?_, ?_, ?_, ?_, ?_⟩
  · rw [a _ _ _ (by simp), a _ _ _ (by simp), a _ _ _ (by simp), a _ _ _ (by simp)]
    exact alloc_at _ _ _ (by simp)
  · rw [a _ _ _ (by simp), a _ _ _ (by simp), a _ _ _ (by simp)]
    exact alloc_at _ _ _ (by simp)
  · rw [a _ _ _ (by simp), a _ _ _ (by simp)]
    exact alloc_at _ _ _ (by simp)
  · rw [a _ _ _ (by simp)]
    exact alloc_at _ _ _ (by simp)
  · exact alloc_at _ _ _ (by simp)
theorem begin_inv {W w5 : World} (h : Ahead W w5) : Calls Tryz.prog 41 #[ptr (W.heap.size + 3), ptr (W.heap.size + 5)] w5 fun e w' => (∃ v, e = .returned v) ∧ ∃ c : Loc, c.S = W.heap.size + 3 ∧ c.From W.heap.size ∧ Inv c w' ∧ Below W.heap.size W w' :=
  (begin_ok h.h3).mono fun e w' q => ⟨q.res, by
    obtain ⟨c, h1, ⟨g1, g2, g3⟩, h2⟩ := inv_of_begin q h.h2 h.h1 h.h5 h.h4 ((Array.getElem?_eq_some_iff.1 h.h3).1) (by omega) (by omega) (by omega) (by omega)
    have hz := h.below.size
    exact ⟨c, h1, ⟨by omega, by omega, fun s hs => by have := g2 s hs; omega, by omega⟩, h2, ⟨q.ch.os.trans h.below.os, q.ch.tape.trans h.below.tape, q.ch.output.trans h.below.output, Nat.le_trans h.below.size q.ch.size, fun k hk => (q.ch.block k (Nat.lt_of_lt_of_le hk h.below.size) (by show ¬ k = W.heap.size + 3; omega)).trans (h.below.block k hk)⟩⟩⟩
set_option maxHeartbeats 2000000 in
theorem New_ok {W : World} : Calls Tryz.prog 20 #[.agg #[.int .i64 4194304, .int .i64 0, .int .i64 4194304, .int .i64 1048576, .int .i64 1048576]] W fun e w' => ∃ c : Loc, e = .returned (.tuple #[ptr c.S, .int .i64 0]) ∧ Inv c w' ∧ Below W.heap.size W w' ∧ c.From W.heap.size := by
  have hf1 := fun w => few_ok (W := w) (n := 4194304) (by decide) (by decide)
  have hf2 := fun w => few_ok (W := w) (n := 1048576) (by decide) (by decide)
  have hb := begin_inv (ahead W (.cells #[.int .i64 4194304, .int .i64 0, .int .i64 4194304, .int .i64 1048576, .int .i64 1048576] 44))
  go_enter Tryz.func20, Tryz.ntmps20
  go_wp2_with (first
    | (go_at_call 39; ((with_reducible refine (hf1 _).mono ?_); rintro e w' ⟨rfl, rfl⟩))
    | (go_at_call 39; ((with_reducible refine (hf2 _).mono ?_); rintro e w' ⟨rfl, rfl⟩))
    | (go_at_call 40; refine dNew_ok.mono ?_; rintro e w' ⟨rfl, rfl⟩)
    | (go_at_call 42; refine xNew_ok.mono ?_; rintro e w' ⟨rfl, rfl⟩)
    | (go_at_call 41; refine hb.mono ?_; rintro e w' ⟨⟨v, rfl⟩, c, hc, hfr, hi, hbl⟩))
  go_ret2
  exact ⟨c, by simp [hc], hi, hbl, hfr⟩
end Go.Proofs.YtcdiojlpmgfmeaaGreatDoor.Q
