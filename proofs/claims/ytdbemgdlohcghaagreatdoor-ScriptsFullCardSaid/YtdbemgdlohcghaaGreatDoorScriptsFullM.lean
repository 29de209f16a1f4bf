/- Where the cache lies, and what it holds, step by step. No condition: lemmas. -/
import Derived.Test.YtdbemgdlohcghaaGreatDoorScriptsFullL
namespace Go.Proofs.YtdbemgdlohcghaaGreatDoor.KScriptsFull
open Go Go.RowKit Go.Proofs Go.Maps Go.WideMaps
set_option maxRecDepth 100000
set_option linter.unusedVariables false
set_option linter.unusedSimpArgs false
def kk (dg : Nat → ByteArray) (m : Nat) : List Lit := (List.range m).map fun j => .string (dg j).data.toList
def Dm (dg : Nat → ByteArray) (m : Nat) : DataW Unit := setOf (.lit (.bool true)) (kk dg m)
theorem kk_succ (dg : Nat → ByteArray) (m : Nat) : kk dg (m + 1) = kk dg m ++ [.string (dg m).data.toList] := by simp [kk, List.range_succ]
theorem Dm_succ (dg : Nat → ByteArray) (m : Nat) : Dm dg (m + 1) = (Dm dg m).put (.string (dg m).data.toList) (.lit (.bool true)) := by rw [Dm, kk_succ, setOf_snoc]; rfl
theorem keyS (l : List UInt8) : WideAt.IsKeyLit (.string l) := trivial
theorem Dm_tidy (dg : Nat → ByteArray) (m : Nat) : Tidy (Dm dg m) := tidy_setOf _ _ fun x hx => by
  simp only [kk, List.mem_map] at hx
  obtain ⟨j, _, rfl⟩ := hx
  exact keyS _
theorem Dm_miss {dg : Nat → ByteArray} {l : List UInt8} (z : DataW Unit) : ∀ m, (∀ j, j < m → (dg j).data.toList ≠ l) → (Dm dg m).atKey (.string l) z = z
  | 0, _ => rfl
  | m + 1, h => by
    rw [Dm_succ, atKey_put_other (by intro e; exact h m (by omega) (Lit.string.inj e).symm)]
    exact Dm_miss z m fun j hj => h j (by omega)
theorem Dm_hit {dg : Nat → ByteArray} {i : Nat} (z : DataW Unit) : ∀ m, i < m → (Dm dg m).atKey (.string (dg i).data.toList) z = .lit (.bool true)
  | 0, h => absurd h (by omega)
  | m + 1, h => by
    rw [Dm_succ]
    by_cases e : (dg m).data.toList = (dg i).data.toList
    · rw [e, atKey_put_same (Dm_tidy dg m).isMap (keyS _)]
    · rw [atKey_put_other (by intro e'; exact e (Lit.string.inj e').symm)]
      refine Dm_hit z m ?_
      by_cases e2 : i = m
      · subst e2; exact absurd rfl e
      · omega
theorem Dm_size {dg : Nat → ByteArray} : ∀ m, (∀ i j, i < j → j < m → (dg i).data.toList ≠ (dg j).data.toList) → Maps.size (Dm dg m) = m
  | 0, _ => rfl
  | m + 1, h => by
    have h0 : Maps.has (Dm dg m) (.string (dg m).data.toList) = false := has_false_of_atKey fun z => Dm_miss z m fun j hj => h j m hj (by omega)
    rw [Dm_succ, size_put (Dm_tidy dg m), h0]
    simp [Dm_size m fun i j hi hj => h i j hi (by omega)]
/-- What is asked of the functions around. -/
structure Env (Kp : World → Prop) (tx dg : Nat → ByteArray) : Prop where
  keep : ∀ {W w : World} {row : Option Nat}, Kp W → W.grownBy w row → row ≠ some 0 → Kp w
  text : ∀ {W : World} {i : Nat}, Kp W → i < 260 → Calls Tryz.prog 5 #[.int .i64 i] W fun e w' => e = .returned (.string (tx i)) ∧ Below W.heap.size W w'
  rsum : ∀ {W : World} {i : Nat}, Kp W → i < 260 → Calls Tryz.prog 6 #[.string (tx i)] W fun e w' => e = .returned (.string (dg i)) ∧ Below W.heap.size W w'
  src : ∀ {W : World} {i : Nat}, Kp W → i < 260 → Calls Tryz.prog 15 #[.string (tx i)] W fun e w' => (∃ a, e = .returned (.tuple #[.pointer (some a), .int .i64 0, .int .i64 0])) ∧ Below W.heap.size W w'
  sum : ∀ {W : World} {i : Nat}, Kp W → i < 260 → Calls Tryz.prog 16 #[.string (tx i)] W fun e w' => e = .returned (.string (dg i)) ∧ Below W.heap.size W w'
  told : ∀ {W : World}, Kp W → Calls Tryz.prog 7 #[] W fun e w' => e = .returned (.bool true) ∧ Below W.heap.size W w'
  apart : ∀ i j, i < j → j < 260 → (dg i).data.toList ≠ (dg j).data.toList
  size : ∀ i, (dg i).size ≤ 1000
theorem Env.below {Kp : World → Prop} {tx dg : Nat → ByteArray} (E : Env Kp tx dg) {W w : World} (h : Kp W) (hb : Below W.heap.size W w) : Kp w := E.keep (row := none) h (below_grown hb) (by simp)
/-- Where the cache lies and what it holds. -/
structure St (Kp : World → Prop) (dg : Nat → ByteArray) (W : World) (m : Nat) (wr : World) : Prop where
  cell : wr.cell? ⟨W.heap.size + 1, 0, none⟩ = some (.map (some W.heap.size))
  own : wr.ownsMap Tryz.prog 9 isP W.heap.size m (Dm dg m)
  below : Below W.heap.size W wr
  big : W.heap.size + 2 ≤ wr.heap.size
  kp : Kp wr
theorem St.grown {Kp : World → Prop} {tx dg : Nat → ByteArray} (E : Env Kp tx dg) {W : World} {m : Nat} {wr w : World} (h : St Kp dg W m wr) (hW : 0 < W.heap.size) {row : Option Nat} (hg : wr.grownBy w row) (hr : ∀ r, row = some r → W.heap.size + 2 ≤ r) : St Kp dg W m w :=
  ⟨hg.cell h.cell (by intro e; have h2 : W.heap.size + 2 ≤ W.heap.size + 1 := hr _ e.symm; omega), h.own.kept hg (by intro e; have := hr _ e.symm; omega), h.below.grown hg (by have := h.big; omega) (fun k hk => by have := hr k hk; omega), Nat.le_trans h.big (by have := hg.size; exact this),
    E.keep h.kp hg (by intro e; have := hr _ e; omega)⟩
theorem St.under {Kp : World → Prop} {tx dg : Nat → ByteArray} (E : Env Kp tx dg) {W : World} {m : Nat} {wr w : World} (h : St Kp dg W m wr) (hW : 0 < W.heap.size) (hb : Below wr.heap.size wr w) : St Kp dg W m w := h.grown E hW (row := none) (below_grown hb) (by simp)
/-- Load of the script m, where there is room. -/
theorem St.load {Kp : World → Prop} {tx dg : Nat → ByteArray} (E : Env Kp tx dg) {W : World} {m : Nat} {wr : World} (h : St Kp dg W m wr) (hW : 0 < W.heap.size) (hm : m < 256) :
    Calls Tryz.prog 8 #[.pointer (some ⟨W.heap.size + 1, 0, none⟩), .string (tx m)] wr fun e w' => e = .returned (.tuple #[.string (dg m), .int .i64 0]) ∧ St Kp dg W (m + 1) w' ∧ wr.grownBy w' (some W.heap.size) := by
  refine (load_new h.cell h.own (by have := h.big; omega) (Nat.le_trans (E.size m) (Nat.le_of_ble_eq_true (by kernel_rfl))) (Dm_miss _ m fun j hj => E.apart j m hj (by omega)) (by rw [Dm_size m fun i j hi hj => E.apart i j hi (by omega)]; exact hm) (by unfold maxLen; omega)
    (E.src h.kp (by omega)) (fun W' hb => E.sum (E.below h.kp hb) (by omega))).mono fun e w' ⟨he, own, hg⟩ => ⟨he, ⟨?_, ?_, ?_, ?_, ?_⟩, hg⟩
  · exact hg.cell h.cell (by simp)
  · rw [Dm_succ]; exact own
  · exact h.below.grown hg (by have := h.big; omega) (fun k hk => by cases hk; exact Nat.le_refl _)
  · exact Nat.le_trans h.big hg.size
  · exact E.keep h.kp hg (by intro e; have := Option.some.inj e; omega)
/-- .. where there is none. -/
theorem St.load_full {Kp : World → Prop} {tx dg : Nat → ByteArray} (E : Env Kp tx dg) {W : World} {m : Nat} {wr : World} (h : St Kp dg W 256 wr) (hW : 0 < W.heap.size) (hm : 256 ≤ m) (hm2 : m < 260) :
    Calls Tryz.prog 8 #[.pointer (some ⟨W.heap.size + 1, 0, none⟩), .string (tx m)] wr fun e w' => e = .returned (.tuple #[.string ⟨#[]⟩, .int .i64 8]) ∧ Below wr.heap.size wr w' :=
  Go.Proofs.YtdbemgdlohcghaaGreatDoor.KScriptsFull.load_full h.cell h.own (by have := h.big; omega) (Nat.le_trans (E.size m) (Nat.le_of_ble_eq_true (by kernel_rfl))) (Dm_miss _ 256 fun j hj => E.apart j m (by omega) hm2) (by rw [Dm_size 256 fun i j hi hj => E.apart i j hi (by omega)]; exact Nat.le_refl _)
    (E.src h.kp hm2) (fun W' hb => E.sum (E.below h.kp hb) hm2)
theorem St.again {Kp : World → Prop} {tx dg : Nat → ByteArray} (E : Env Kp tx dg) {W : World} {m i : Nat} {wr : World} (h : St Kp dg W m wr) (hW : 0 < W.heap.size) (hi : i < m) (hm : i < 260) :
    Calls Tryz.prog 8 #[.pointer (some ⟨W.heap.size + 1, 0, none⟩), .string (tx i)] wr fun e w' => e = .returned (.tuple #[.string (dg i), .int .i64 0]) ∧ Below wr.heap.size wr w' :=
  load_again h.cell h.own (by have := h.big; omega) (Nat.le_trans (E.size i) (Nat.le_of_ble_eq_true (by kernel_rfl))) (Dm_hit _ m hi) (E.src h.kp hm) (fun W' hb => E.sum (E.below h.kp hb) hm)
end Go.Proofs.YtdbemgdlohcghaaGreatDoor.KScriptsFull
