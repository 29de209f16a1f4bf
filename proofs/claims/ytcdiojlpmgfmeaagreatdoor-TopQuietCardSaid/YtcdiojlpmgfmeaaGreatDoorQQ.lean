/- The law's events: a row of events in memory; Few, commands. No condition. -/
import Derived.Test.YtcdiojlpmgfmeaaGreatDoorQP
import Derived.Deep.AppendLies
namespace Go.Proofs.YtcdiojlpmgfmeaaGreatDoor.Q
open Go Go.RowKit Go.Proofs Go.Maps Go.WideMaps Go.ChangeMaps
set_option maxRecDepth 100000
set_option linter.unusedSimpArgs false
set_option linter.unusedVariables false
structure Ev where
  k : Int
  c : Int
  n : Int
  b : ByteArray
  g : Bool
def Ev.cells (e : Ev) : List Value := [.int .i64 e.k, .int .i64 e.c, .int .i64 e.n, .string e.b, .bool e.g]
abbrev Ev.val (e : Ev) : Value := evt e.k e.c e.n e.b e.g
def flat (l : List Ev) : List Value := l.flatMap Ev.cells
theorem flat_nil : flat [] = [] := rfl
theorem flat_cons (e : Ev) (l : List Ev) : flat (e :: l) = e.cells ++ flat l := rfl
theorem flat_snoc (l : List Ev) (e : Ev) : flat (l ++ [e]) = flat l ++ e.cells := by simp [flat]
theorem flat_len : ∀ l, (flat l).length = l.length * 5
  | [] => rfl
  | e :: l => by rw [flat_cons, List.length_append, flat_len l, List.length_cons]; show 5 + _ = _; omega
theorem flat_at : ∀ {l : List Ev} {i : Nat} {e : Ev}, l[i]? = some e → ∀ {j : Nat}, j < 5 → (flat l)[i * 5 + j]? = e.cells[j]?
  | [], _, _, h, _, _ => by cases h
  | a :: l, 0, e, h, j, hj => by
    obtain rfl : a = e := Option.some.inj h
    rw [flat_cons, Nat.zero_mul, Nat.zero_add, List.getElem?_append_left (show j < a.cells.length from hj)]
  | a :: l, i + 1, e, h, j, hj => by
    have h' : l[i]? = some e := h
    rw [flat_cons, List.getElem?_append_right (show a.cells.length ≤ (i + 1) * 5 + j by show 5 ≤ _; omega)]
    have : (i + 1) * 5 + j - a.cells.length = i * 5 + j := by show _ - 5 = _; omega
    rw [this]
    exact flat_at h' hj
/-- What is asked of the events. -/
structure Row (W : World) (a : Option Addr) (l : List Ev) : Prop where
  at_ : ∀ i e, l[i]? = some e → ∃ b x, a = some ⟨b, x, none⟩ ∧ b < W.heap.size ∧ W.cell? ⟨b, x + i * 5, none⟩ = some (.int .i64 e.k) ∧ W.cell? ⟨b, x + i * 5 + 1, none⟩ = some (.int .i64 e.c) ∧
    W.cell? ⟨b, x + i * 5 + 2, none⟩ = some (.int .i64 e.n) ∧ W.cell? ⟨b, x + i * 5 + 3, none⟩ = some (.string e.b) ∧ W.cell? ⟨b, x + i * 5 + 4, none⟩ = some (.bool e.g)
theorem Row.keep {W w : World} {a : Option Addr} {l : List Ev} (h : Row W a l) (hz : W.heap.size ≤ w.heap.size) (hk : ∀ b x, a = some ⟨b, x, none⟩ → b < W.heap.size → w.heap[b]? = W.heap[b]?) : Row w a l := by
  refine ⟨fun i e he => ?_⟩
  obtain ⟨b, x, ha, hb, c0, c1, c2, c3, c4⟩ := h.at_ i e he
  have q := hk b x ha hb
  exact ⟨b, x, ha, by omega, (cellk q _).trans c0, (cellk q _).trans c1, (cellk q _).trans c2, (cellk q _).trans c3, (cellk q _).trans c4⟩
theorem Row.below {W w : World} {a : Option Addr} {l : List Ev} (h : Row W a l) (b : Below W.heap.size W w) : Row w a l := h.keep b.size fun k _ _ hk => b.block k hk
/-- A row of one's own is a row of events. -/
theorem Row.of_own {w : World} {base : Nat} {v : Value} {l : List Ev} (h : w.ownsRow base 29 5 v l.length (flat l)) : ∃ a cap, v = .slice a l.length cap ∧ Row w a l ∧ ∀ b x, a = some ⟨b, x, none⟩ → base ≤ b ∧ ∃ cur, w.heap[b]? = some (.cells cur 29 (0, 0)) := by
  rcases h.2 with ⟨rfl, h0⟩ | ⟨g, cap, cur, rfl, hb, hg, hn, hm, hc, ht⟩
  · refine ⟨none, 0, by rw [h0], ⟨fun i e he => ?_⟩, fun b x e => by cases e⟩
    have := (List.getElem?_eq_some_iff.1 he).1
    omega
  · refine ⟨some ⟨g, 0, none⟩, cap, rfl, ⟨fun i e he => ?_⟩, fun b x e => by cases e; exact ⟨hb, cur, hg⟩⟩
    have hi := (List.getElem?_eq_some_iff.1 he).1
    have at_ : ∀ j v, j < 5 → e.cells[j]? = some v → w.cell? ⟨g, 0 + i * 5 + j, none⟩ = some v := fun j v hj hv => by
      have h1 : (cur.toList.take (l.length * 5))[i * 5 + j]? = some v := by rw [ht, flat_at he hj, hv]
      rw [List.getElem?_take_of_lt (by omega)] at h1
      rw [Nat.zero_add]
      exact cellH hg (by simpa using h1)
    exact ⟨g, 0, rfl, (Array.getElem?_eq_some_iff.1 hg).1, at_ 0 _ (by decide) rfl, at_ 1 _ (by decide) rfl, at_ 2 _ (by decide) rfl, at_ 3 _ (by decide) rfl, at_ 4 _ (by decide) rfl⟩
/-- Few: so few events, of so few bytes each. -/
def Good (l : List Ev) : Prop := (∀ e ∈ l, e.b.size ≤ 1500) ∧ l.length ≤ 120
def goodB (l : List Ev) : Bool := l.all (fun e => decide (e.b.size ≤ 1500)) && decide (l.length ≤ 120)
theorem goodB_iff {l : List Ev} : goodB l = true ↔ Good l := by simp [goodB, Good]
set_option maxHeartbeats 1000000 in
theorem Few_ok {W : World} {a : Option Addr} {cap : Nat} {l : List Ev} (h : Row W a l) (hs : ∀ e ∈ l, e.b.size ≤ 9223372036854775807) (hl : l.length ≤ 9223372036854775807) :
    Calls Tryz.prog 13 #[.slice a l.length cap] W fun e w' => e = .returned (.bool (goodB l)) ∧ w' = W := by
  go_enter Tryz.func13, Tryz.ntmps13
  go_wp2
  go_loop [3] (fun i => ∃ k : Nat, k ≤ l.length ∧ i = .int .i64 k ∧ ∀ j e, j < k → l[j]? = some e → e.b.size ≤ 1500) (fun i => l.length - (intOf i).toNat)
  case atStart => exact ⟨0, Nat.zero_le _, rfl, fun j e h => absurd h (by omega)⟩
  case round =>
    obtain ⟨k, hk, rfl, hpre⟩ := hrel
    by_cases hkl : k < l.length
    · obtain ⟨e, he⟩ : ∃ e, l[k]? = some e := ⟨l[k], List.getElem?_eq_getElem hkl⟩
      obtain ⟨b, x, rfl, _, _, _, _, c3, _⟩ := h.at_ k e he
      have hsz := hs e (List.mem_of_getElem? he)
      have hmem := List.mem_of_getElem? he
      go_wp2
      · go_ret
        have hf : goodB l = false := by
          cases q : goodB l with
          | false => rfl
          | true => have := (goodB_iff.1 q).1 e hmem; omega
        rw [hf]
        exact ⟨rfl, rfl⟩
      · go_round
        case rel =>
          refine ⟨k + 1, by omega, by go_num, fun j e' hj he' => ?_⟩
          by_cases e0 : j = k
          · subst e0
            rw [he] at he'
            obtain rfl := Option.some.inj he'
            omega
          · exact hpre j e' (by omega) he'
        case measure => simp [intOf]; omega
    · have e : k = l.length := by omega
      subst e
      have hall : ∀ e ∈ l, e.b.size ≤ 1500 := fun e he => by
        obtain ⟨j, hj, rfl⟩ := List.getElem_of_mem he
        exact hpre j _ hj (List.getElem?_eq_getElem hj)
      go_wp2
      go_ret
      have hf : goodB l = decide ((l.length : Int) ≤ 120) := by
        have h1 : l.all (fun e => decide (e.b.size ≤ 1500)) = true := List.all_eq_true.2 fun e he => by simpa using hall e he
        unfold goodB
        rw [h1, Bool.true_and]
        exact decide_eq_decide.2 (by omega)
      rw [hf]
      exact ⟨rfl, rfl⟩
/-- The events that do not touch the disk's fate. -/
def keepB (e : Ev) : Bool := !(e.k == 8) && !(e.k == 9) && !(e.k == 7)
end Go.Proofs.YtcdiojlpmgfmeaaGreatDoor.Q
