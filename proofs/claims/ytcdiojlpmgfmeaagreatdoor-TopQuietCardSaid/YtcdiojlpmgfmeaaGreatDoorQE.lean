/- A rewrite over a server without keys, whole. No condition. -/
import Derived.Test.YtcdiojlpmgfmeaaGreatDoorQD
import Derived.StillTailTactics
namespace Go.Proofs.YtcdiojlpmgfmeaaGreatDoor.Q
open Go Go.RowKit Go.Proofs
set_option maxRecDepth 100000
set_option linter.unusedSimpArgs false
set_option linter.unusedVariables false
/-- A server without keys that is up, no rewrite under way. -/
structure Srv (W : World) (S X L D M XM cl xc : Nat) : Prop where
  d : W.cell? ⟨S, 5, none⟩ = some (.pointer (some ⟨D, 0, none⟩))
  up : W.cell? ⟨S, 7, none⟩ = some (.bool true)
  s : W.cell? ⟨S, 9, none⟩ = some (.pointer (some ⟨X, 0, none⟩))
  l : W.cell? ⟨S, 10, none⟩ = some (.pointer (some ⟨L, 0, none⟩))
  r : W.cell? ⟨S, 11, none⟩ = some (.pointer none)
  run : W.cell? ⟨S, 14, none⟩ = some (.pointer none)
  log : LogIs W L D
  side : W.cell? ⟨L, 4, none⟩ = some (.bool false)
  disk : DiskIs W D M cl
  xm : W.cell? ⟨X, 0, none⟩ = some (.map (some XM))
  xmap : W.heap[XM]? = some (.map #[] xc)
  f6 : W.frozen? ⟨S, 6, none⟩ = false
  f11 : W.frozen? ⟨S, 11, none⟩ = false
  g4 : W.frozen? ⟨L, 4, none⟩ = false
  g5 : W.frozen? ⟨L, 5, none⟩ = false
  zS : S < W.heap.size
  zL : L < W.heap.size
  zD : D < W.heap.size
  zX : X < W.heap.size
  zM : M < W.heap.size
  zXM : XM < W.heap.size
  nSL : S ≠ L
  nD : D ≠ L ∧ D ≠ S
  nX : X ≠ L ∧ X ≠ S
  nM : M ≠ L ∧ M ≠ S
  nXM : XM ≠ L ∧ XM ≠ S
/-- What holds of the world while a rewrite goes on. -/
structure Mid (W w : World) (S L : Nat) : Prop where
  ch : Ch (fun k => k = L ∨ k = S) W w
  sO : ∀ i, i ≠ 11 → w.cell? ⟨S, i, none⟩ = W.cell? ⟨S, i, none⟩
  s11 : ∃ v, w.cell? ⟨S, 11, none⟩ = some v
  lO : ∀ i, i ≠ 4 → i ≠ 5 → w.cell? ⟨L, i, none⟩ = W.cell? ⟨L, i, none⟩
  l4 : ∃ s, w.cell? ⟨L, 4, none⟩ = some (.bool s)
  l5 : w.cell? ⟨L, 5, none⟩ = some (.slice none 0 0)
  sf : ∀ i, w.frozen? ⟨S, i, none⟩ = W.frozen? ⟨S, i, none⟩
  lf : ∀ i, w.frozen? ⟨L, i, none⟩ = W.frozen? ⟨L, i, none⟩
theorem no2 {k L S : Nat} (h : k ≠ L ∧ k ≠ S) : ¬ (k = L ∨ k = S) := fun e => e.elim h.1 h.2
section
variable {W w : World} {S X L D M XM cl xc : Nat}
theorem Mid.log (m : Mid W w S L) (h : Srv W S X L D M XM cl xc) : LogIs w L D :=
  ⟨(m.lO 0 (by decide) (by decide)).trans h.log.d, (m.lO 1 (by decide) (by decide)).trans h.log.policy, (m.lO 2 (by decide) (by decide)).trans h.log.units, (m.lO 3 (by decide) (by decide)).trans h.log.state, m.l5⟩
theorem Mid.disk (m : Mid W w S L) (h : Srv W S X L D M XM cl xc) : DiskIs w D M cl :=
  ⟨(m.ch.cell (p := ⟨D, 0, none⟩) h.zD (no2 h.nD)).trans h.disk.files, (m.ch.cell (p := ⟨D, 2, none⟩) h.zD (no2 h.nD)).trans h.disk.down,
   (m.ch.block M h.zM (no2 h.nM)).trans h.disk.map⟩
theorem Mid.x (m : Mid W w S L) (h : Srv W S X L D M XM cl xc) : w.cell? ⟨X, 0, none⟩ = some (.map (some XM)) ∧ w.heap[XM]? = some (.map #[] xc) :=
  ⟨(m.ch.cell (p := ⟨X, 0, none⟩) h.zX (no2 h.nX)).trans h.xm, (m.ch.block XM h.zXM (no2 h.nXM)).trans h.xmap⟩
theorem Mid.start (h : Srv W S X L D M XM cl xc) : Mid W W S L := ⟨.refl _ _, fun _ _ => rfl, ⟨_, h.r⟩, fun _ _ _ => rfl, ⟨_, h.side⟩, h.log.b, fun _ => rfl, fun _ => rfl⟩
theorem Mid.below {w' : World} (m : Mid W w S L) (h : Srv W S X L D M XM cl xc) (b : Below w.heap.size w w') : Mid W w' S L := by
  have hz := m.ch.size
  have hS : S < w.heap.size := Nat.lt_of_lt_of_le h.zS hz
  have hL : L < w.heap.size := Nat.lt_of_lt_of_le h.zL hz
  exact ⟨m.ch.trans ((Ch.of_below b).mono fun _ _ h => h), fun i hi => (b.cell (p := ⟨S, i, none⟩) hS).trans (m.sO i hi), m.s11.imp fun s e => (b.cell (p := ⟨S, 11, none⟩) hS).trans e, fun i h4 h5 => (b.cell (p := ⟨L, i, none⟩) hL).trans (m.lO i h4 h5), m.l4.imp fun s e => (b.cell (p := ⟨L, 4, none⟩) hL).trans e,
    (b.cell (p := ⟨L, 5, none⟩) hL).trans m.l5, fun i => (b.frozen (p := ⟨S, i, none⟩) hS).trans (m.sf i), fun i => (b.frozen (p := ⟨L, i, none⟩) hL).trans (m.lf i)⟩
theorem Mid.side (m : Mid W w S L) (h : Srv W S X L D M XM cl xc) (b : Bool) : Mid W ((w.setCell ⟨L, 4, none⟩ (.bool b)).setCell ⟨L, 5, none⟩ (.slice none 0 0)) S L := by
  have hn := h.nSL
  have hz := m.ch.size
  have hL : L < w.heap.size := Nat.lt_of_lt_of_le h.zL hz
  obtain ⟨s, h4⟩ := m.l4
  have h5 := m.l5
  obtain ⟨v, hv⟩ := m.s11
  refine ⟨(m.ch.set (.inl (.inl rfl)) _).set (.inl (.inl rfl)) _, fun i hi => ?_, ⟨v, ?_⟩, fun i h4 h5 => ?_, ⟨b, ?_⟩, ?_, fun i => ?_, fun i => ?_⟩
  · rw [← m.sO i hi]; simp [go_sem, hn]
  · simp [go_sem, hn, hv]
  · rw [← m.lO i h4 h5]; simp [go_sem, h4, h5]
  · simp [go_sem, h4]
  · simp [go_sem, h5]
  · rw [← m.sf i]; simp [go_sem]
  · rw [← m.lf i]; simp [go_sem]
/-- What a rewrite leaves. -/
structure Done (W w : World) (S L : Nat) : Prop where
  ch : Ch (fun k => k = L ∨ k = S) W w
  sO : ∀ i, w.cell? ⟨S, i, none⟩ = W.cell? ⟨S, i, none⟩
  lO : ∀ i, w.cell? ⟨L, i, none⟩ = W.cell? ⟨L, i, none⟩
  sf : ∀ i, w.frozen? ⟨S, i, none⟩ = W.frozen? ⟨S, i, none⟩
  lf : ∀ i, w.frozen? ⟨L, i, none⟩ = W.frozen? ⟨L, i, none⟩
theorem Mid.store (m : Mid W w S L) (h : Srv W S X L D M XM cl xc) (v : Value) : Mid W (w.setCell ⟨S, 11, none⟩ v) S L := by
  have hn := h.nSL
  obtain ⟨s, h4⟩ := m.l4
  have h5 := m.l5
  obtain ⟨u, hu⟩ := m.s11
  refine ⟨m.ch.set (.inl (.inr rfl)) _, fun i hi => ?_, ⟨v, ?_⟩, fun i h4 h5 => ?_, ⟨s, ?_⟩, ?_, fun i => ?_, fun i => ?_⟩
  · rw [← m.sO i hi]; simp [go_sem, hi]
  · simp [go_sem, hu]
  · rw [← m.lO i h4 h5]; simp [go_sem, hn]
  · simp [go_sem, h4, hn]
  · simp [go_sem, h5, hn]
  · rw [← m.sf i]; simp [go_sem]
  · rw [← m.lf i]; simp [go_sem]
theorem Mid.alloc (m : Mid W w S L) (h : Srv W S X L D M XM cl xc) (o : Obj) : Mid W (w.alloc o) S L := m.below h ((Below.refl _ _).alloc (Nat.le_refl _) _)
/-- A store into a block that is newer than the server. -/
theorem Mid.new (m : Mid W w S L) (h : Srv W S X L D M XM cl xc) {p : Addr} (hp : W.heap.size ≤ p.block) (v : Value) : Mid W (w.setCell p v) S L := by
  have h1 := h.zS
  have h2 := h.zL
  have hS : S ≠ p.block := by omega
  have hL : L ≠ p.block := by omega
  have c : ∀ (b i : Nat), b ≠ p.block → (w.setCell p v).cell? ⟨b, i, none⟩ = w.cell? ⟨b, i, none⟩ := fun b i hb => World.cell?_of_block (w := w) (a := ⟨b, i, none⟩) (Below.heap_setCell w p v b hb)
  have f : ∀ (b i : Nat), b ≠ p.block → (w.setCell p v).frozen? ⟨b, i, none⟩ = w.frozen? ⟨b, i, none⟩ := fun b i hb => World.frozen?_of_block (w := w) (a := ⟨b, i, none⟩) (Below.heap_setCell w p v b hb)
  exact ⟨m.ch.set (.inr hp) _, fun i hi => (c _ _ hS).trans (m.sO i hi), m.s11.imp fun s e => (c _ _ hS).trans e, fun i h4 h5 => (c _ _ hL).trans (m.lO i h4 h5), m.l4.imp fun s e => (c _ _ hL).trans e, (c _ _ hL).trans m.l5, fun i => (f _ _ hS).trans (m.sf i), fun i => (f _ _ hL).trans (m.lf i)⟩
theorem Mid.drew (m : Mid W w S L) : Mid W w.drew S L := ⟨m.ch.drew, m.sO, m.s11, m.lO, m.l4, m.l5, m.sf, m.lf⟩
/-- What a rewrite's beginning leaves of the world w. -/
structure BegP (W w : World) (S L D : Nat) (e : Ending) (w' : World) : Prop where
  res : ∃ R, e = .returned (.tuple #[.pointer (some ⟨R, 0, none⟩), .int .i64 0]) ∧ W.heap.size ≤ R ∧ R < w'.heap.size ∧ w.heap.size ≤ R ∧
    w'.heap[R]? = some (.cells #[.pointer (some ⟨D, 0, none⟩), .pointer (some ⟨L, 0, none⟩), .slice none 0 0, .bool false, .bool false] 192 (0, 0))
  mid : Mid W w' S L
  size : w.heap.size ≤ w'.heap.size
  keep : ∀ k, k < w.heap.size → k ≠ L → w'.heap[k]? = w.heap[k]?
theorem RB (h : Srv W S X L D M XM cl xc) (m : Mid W w S L) (hA : AllN X XM xc) : Calls Tryz.prog 61 #[.pointer (some ⟨D, 0, none⟩), .pointer (some ⟨L, 0, none⟩), .pointer (some ⟨X, 0, none⟩)] w (BegP W w S L D) := by
  have hz := m.ch.size
  obtain ⟨s, hs⟩ := m.l4
  have hLz : L < w.heap.size := Nat.lt_of_lt_of_le h.zL hz
  refine (Begin_ok (m.log h) hs ((m.lf 4).trans h.g4) ((m.lf 5).trans h.g5) (m.disk h) hLz hA (m.x h).1 (m.x h).2 h.nX.1 h.nXM.1).mono fun e w' ⟨w1, b1, he, hw⟩ => ?_
  have hz1 := b1.size
  simp at hz1
  have m1 : Mid W w1 S L := (m.side h true).below h (b1.mono (by simp))
  subst hw
  refine ⟨⟨w1.heap.size, he, by omega, by simp, by omega, ?_⟩, m1.alloc h _, by simp; omega, fun k hk hn => ?_⟩
  · exact Array.getElem?_push_size
  · rw [Below.heap_alloc _ _ _ (by omega), b1.block k (by simpa using hk), Below.heap_setCell _ _ _ _ hn, Below.heap_setCell _ _ _ _ hn]
theorem rb_keep {n : Int} {e : Ending} {w3 : World} (h : Srv W S X L D M XM cl xc) (hq : w.cell? ⟨S, 5, none⟩ = some (.pointer (some ⟨D, 0, none⟩)) ∧ w.cell? ⟨S, 9, none⟩ = some (.pointer (some ⟨X, 0, none⟩)) ∧ w.cell? ⟨S, 10, none⟩ = some (.pointer (some ⟨L, 0, none⟩)) ∧ w.cell? ⟨W.heap.size, 2, none⟩ = some (.int .i64 n) ∧ W.heap.size < w.heap.size ∧ Mid W w S L) (p : BegP W w S L D e w3) :
    w3.cell? ⟨S, 5, none⟩ = some (.pointer (some ⟨D, 0, none⟩)) ∧ w3.cell? ⟨S, 9, none⟩ = some (.pointer (some ⟨X, 0, none⟩)) ∧ w3.cell? ⟨S, 10, none⟩ = some (.pointer (some ⟨L, 0, none⟩)) ∧ w3.cell? ⟨W.heap.size, 2, none⟩ = some (.int .i64 n) ∧ W.heap.size < w3.heap.size ∧ Mid W w3 S L := by
  have hL := h.zL
  exact ⟨(p.mid.sO 5 (by decide)).trans h.d, (p.mid.sO 9 (by decide)).trans h.s, (p.mid.sO 10 (by decide)).trans h.l, (World.cell?_of_block (w := w) (a := ⟨W.heap.size, 2, none⟩) (p.keep _ hq.2.2.2.2.1 (show W.heap.size ≠ L by omega))).trans hq.2.2.2.1, Nat.lt_of_lt_of_le hq.2.2.2.2.1 p.size, p.mid⟩
/-- What a rewrite's step leaves. -/
structure StpP (W : World) (S L R : Nat) (n : Int) (e : Ending) (w' : World) : Prop where
  res : e = .returned (.tuple #[.bool true, .int .i64 0])
  mid : Mid W w' S L
  l4 : w'.cell? ⟨L, 4, none⟩ = some (.bool false)
  s11 : w'.cell? ⟨S, 11, none⟩ = some (.pointer (some ⟨R, 0, none⟩))
  bn : w'.cell? ⟨W.heap.size, 2, none⟩ = some (.int .i64 n)
theorem RS {n : Int} {R : Nat} (h : Srv W S X L D M XM cl xc) (m : Mid W w S L) (c11 : w.cell? ⟨S, 11, none⟩ = some (.pointer (some ⟨R, 0, none⟩))) (cn : w.cell? ⟨W.heap.size, 2, none⟩ = some (.int .i64 n)) (hR : W.heap.size < R)
    (hp : w.heap[R]? = some (.cells #[.pointer (some ⟨D, 0, none⟩), .pointer (some ⟨L, 0, none⟩), .slice none 0 0, .bool false, .bool false] 192 (0, 0))) :
    Calls Tryz.prog 62 #[.pointer (some ⟨R, 0, none⟩), .int .i64 n] w (StpP W S L R n) := by
  have hS := h.zS
  have hL := h.zL
  have cell : ∀ (i : Nat) (v : Value), (#[.pointer (some ⟨D, 0, none⟩), .pointer (some ⟨L, 0, none⟩), .slice none 0 0, .bool false, .bool false] : Array Value)[i]? = some v → w.cell? ⟨R, i, none⟩ = some v := fun i v hv => by unfold World.cell?; rw [hp]; exact hv
  have fr : w.frozen? ⟨R, 4, none⟩ = false := by unfold World.frozen?; rw [hp]; rfl
  refine (Step_ok (cell 0 _ rfl) (cell 1 _ rfl) (cell 2 _ rfl) (cell 3 _ rfl) (cell 4 _ rfl) fr (by omega) (m.log h) m.l4 ((m.lf 4).trans h.g4) ((m.lf 5).trans h.g5) (m.disk h)).mono fun e w' ⟨he, hw⟩ => ?_
  subst hw
  have m1 : Mid W (w.setCell ⟨R, 4, none⟩ (.bool true)) S L := m.new h (p := ⟨R, 4, none⟩) (by show W.heap.size ≤ R; omega) _
  obtain ⟨s, h4⟩ := m1.l4
  have k : ∀ (b i : Nat), b ≠ L → b ≠ R → (((w.setCell ⟨R, 4, none⟩ (.bool true)).setCell ⟨L, 4, none⟩ (.bool false)).setCell ⟨L, 5, none⟩ (.slice none 0 0)).cell? ⟨b, i, none⟩ = w.cell? ⟨b, i, none⟩ := fun b i hb hr =>
    World.cell?_of_block (w := w) (a := ⟨b, i, none⟩) (by show (World.heap _)[b]? = w.heap[b]?; rw [Below.heap_setCell _ _ _ _ hb, Below.heap_setCell _ _ _ _ hb, Below.heap_setCell _ _ _ _ hr])
  have hn := h.nSL
  exact ⟨he, m1.side h false, by simp [go_sem, h4], (k _ _ hn (by omega)).trans c11, (k _ _ (by omega) (by omega)).trans cn⟩
end
set_option maxHeartbeats 1000000 in
theorem rewrite_ok {W : World} {S X L D M XM cl xc : Nat} {k c n : Int} {b : ByteArray} {g : Bool} (h : Srv W S X L D M XM cl xc) (hA : AllN X XM xc) :
    Calls Tryz.prog 26 #[.pointer (some ⟨S, 0, none⟩), evt k c n b g] W fun e w' => e = .returned (.int .i64 0) ∧ Done W w' S L := by
  have h5 := h.d
  have h9 := h.s
  have h10 := h.l
  have h11 := h.r
  have h14 := h.run
  have hS := h.zS
  go_enter Tryz.func26, Tryz.ntmps26
  go_wp2
  obtain ⟨w2, e2⟩ : ∃ w2, w2 = W.alloc (.cells #[.int .i64 k, .int .i64 c, .int .i64 n, .string b, .bool g] 29) := ⟨_, rfl⟩
  have m2 : Mid W w2 S L := by rw [e2]; exact (Mid.start h).alloc h _
  have cn : w2.cell? ⟨W.heap.size, 2, none⟩ = some (.int .i64 n) := by rw [e2]; simp [go_sem]
  have z2 : W.heap.size < w2.heap.size := by rw [e2]; simp
  rw [← e2]
  have s5 : w2.cell? ⟨S, 5, none⟩ = some (.pointer (some ⟨D, 0, none⟩)) := (m2.sO 5 (by decide)).trans h5
  have s9 : w2.cell? ⟨S, 9, none⟩ = some (.pointer (some ⟨X, 0, none⟩)) := (m2.sO 9 (by decide)).trans h9
  have s10 : w2.cell? ⟨S, 10, none⟩ = some (.pointer (some ⟨L, 0, none⟩)) := (m2.sO 10 (by decide)).trans h10
  clear e2 h5 h9 h10 h11 h14
  have hB := fun w' (m : Mid W w' S L) => RB h m hA
  go_region_held3 (fun w' => w'.cell? ⟨S, 5, none⟩ = some (.pointer (some ⟨D, 0, none⟩)) ∧ w'.cell? ⟨S, 9, none⟩ = some (.pointer (some ⟨X, 0, none⟩)) ∧ w'.cell? ⟨S, 10, none⟩ = some (.pointer (some ⟨L, 0, none⟩)) ∧ w'.cell? ⟨W.heap.size, 2, none⟩ = some (.int .i64 n) ∧ W.heap.size < w'.heap.size ∧ Mid W w' S L)
    (first | exact ⟨s5, s9, s10, cn, by simpa using z2, m2.drew⟩ | exact rb_keep h hq p3 | go_keep)
    (first | (go_at_call 61; have hq := ‹_ ∧ _ ∧ _ ∧ _ ∧ _ ∧ Mid _ _ _ _›; refine (hB _ hq.2.2.2.2.2).mono ?_; rintro e w3 p3; obtain ⟨R, rfl, r1, r2, r3, r4⟩ := p3.res))
  have hq := ‹_ ∧ _ ∧ _ ∧ _ ∧ _ ∧ Mid _ _ _ _›
  obtain ⟨-, -, -, cn3, z3, m3⟩ := hq
  obtain ⟨v11, c11⟩ := m3.s11
  have f11 : w3.frozen? ⟨S, 11, none⟩ = false := (m3.sf 11).trans h.f11
  have hSz : S < W.heap.size := h.zS
  clear s5 s9 s10 hB cn z2 p3
  go_wp2
  have hR : R ≠ S := by omega
  have hRL : R ≠ L := by have := h.zL; omega
  obtain ⟨w4, e4⟩ : ∃ w4, w4 = w3.setCell ⟨S, 11, none⟩ (.pointer (some ⟨R, 0, none⟩)) := ⟨_, rfl⟩
  have m4 : Mid W w4 S L := by rw [e4]; exact m3.store h _
  have c11' : w4.cell? ⟨S, 11, none⟩ = some (.pointer (some ⟨R, 0, none⟩)) := by rw [e4]; simp [go_sem, c11]
  have cn4 : w4.cell? ⟨W.heap.size, 2, none⟩ = some (.int .i64 n) := by rw [e4]; exact (World.cell?_of_block (w := w3) (a := ⟨W.heap.size, 2, none⟩) (Below.heap_setCell _ _ _ _ (show W.heap.size ≠ S by omega))).trans cn3
  have hp4 : w4.heap[R]? = some (.cells #[.pointer (some ⟨D, 0, none⟩), .pointer (some ⟨L, 0, none⟩), .slice none 0 0, .bool false, .bool false] 192 (0, 0)) := by rw [e4, Below.heap_setCell _ _ _ _ hR]; exact r4
  rw [← e4]
  clear e4 c11 cn3 r4 m3
  have hSt := RS (w := w4.drew) h m4.drew c11' cn4 (by omega) hp4
  go_region_held3 (fun w' => w'.cell? ⟨S, 11, none⟩ = some (.pointer (some ⟨R, 0, none⟩)) ∧ w'.cell? ⟨W.heap.size, 2, none⟩ = some (.int .i64 n) ∧ Mid W w' S L)
    (first | exact ⟨c11', cn4, m4.drew⟩ | exact ⟨p5.s11, p5.bn, p5.mid⟩ | go_keep)
    (first | (go_at_call 62; refine hSt.mono ?_; rintro e w5 p5; obtain rfl := p5.res))
  have m5 := p5.mid
  have f11' : w5.frozen? ⟨S, 11, none⟩ = false := (m5.sf 11).trans h.f11
  have s11' := p5.s11
  go_wp2
  go_ret
  have m6 := m5.store h (.pointer none)
  refine ⟨rfl, ⟨m6.ch, fun i => ?_, fun i => ?_, m6.sf, m6.lf⟩⟩
  · by_cases hi : i = 11
    · subst hi; rw [h.r]; simp [go_sem, s11']
    · exact m6.sO i hi
  · by_cases h4 : i = 4
    · subst h4; rw [h.side]; have hn := h.nSL; have := p5.l4; simp [go_sem, this, hn]
    · by_cases h5 : i = 5
      · subst h5; rw [h.log.b]; exact m6.l5
      · exact m6.lO i h4 h5
end Go.Proofs.YtcdiojlpmgfmeaaGreatDoor.Q
