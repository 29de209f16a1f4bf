/- THE CALL GRAPH's CLOSURE, ITS SEEN FUNCTIONS KEPT AS THE BITS OF ONE NUMBER (the kernel reckons with numbers in one step): what this walk hands back is 'Program.closure', whatever its fuel. -/
import GoSem.ClaimJoined
namespace Go.YG
open Go

abbrev lead (P : Program) (g : Nat) : List Nat := (P.funcs[g]?).elim [] P.leadsTo

/-- The walk: 'none' = the fuel was too small. -/
def viaBits (P : Program) : Nat → List Nat → Nat → List Nat → Option (List Nat)
  | _, [], _, seen => some seen.reverse
  | 0, _ :: _, _, _ => none
  | n + 1, f :: todo, bits, seen =>
    bif Nat.testBit bits f then viaBits P n todo bits seen
    else viaBits P n ((P.funcs[f]?).elim [] P.leadsTo ++ todo) (bits ||| 1 <<< f) (f :: seen)

theorem closureVia_of_bits {P : Program} :
    ∀ (n m : Nat) (todo : List Nat) (bits : Nat) (seen r : List Nat), n ≤ m → (∀ f, Nat.testBit bits f = seen.contains f) →
      viaBits P n todo bits seen = some r → P.closureVia m todo seen = r := by
  intro n
  induction n with
  | zero =>
    intro m todo bits seen r _ _ h
    cases todo with
    | nil =>
      simp only [viaBits, Option.some.injEq] at h
      subst h
      cases m <;> simp [Program.closureVia]
    | cons f todo => simp [viaBits] at h
  | succ n ih =>
    intro m todo bits seen r hm hb h
    cases todo with
    | nil =>
      simp only [viaBits, Option.some.injEq] at h
      subst h
      cases m <;> simp [Program.closureVia]
    | cons f todo =>
      obtain ⟨m, rfl⟩ : ∃ k, m = k + 1 := ⟨m - 1, by omega⟩
      rw [Program.closureVia, ← hb f]
      rw [viaBits] at h
      cases hf : Nat.testBit bits f with
      | true =>
        rw [hf] at h
        simp only [cond_true] at h
        simp only [if_true]
        exact ih m todo bits seen r (by omega) hb h
      | false =>
        rw [hf] at h
        simp only [cond_false] at h
        simp only [Bool.false_eq_true, if_false]
        refine ih m _ _ (f :: seen) r (by omega) (fun g => ?_) h
        rw [Nat.testBit_or, hb g, Nat.one_shiftLeft, Nat.testBit_two_pow]
        simp only [List.contains_cons, Bool.or_comm (List.contains seen g)]
        by_cases hgf : f = g
        · subst hgf; simp
        · simp [hgf, beq_eq_false_iff_ne.2 (Ne.symm hgf)]

/-- What the functions not yet seen can still lay. -/
def left (w : Nat → Nat) (seen : List Nat) (l : List Nat) : Nat := (l.map fun g => if seen.contains g then 0 else w g).sum

theorem left_cons (w : Nat → Nat) (seen : List Nat) (f : Nat) (hf : seen.contains f = false) :
    ∀ l : List Nat, l.Nodup → left w (f :: seen) l + (if l.contains f then w f else 0) = left w seen l := by
  intro l
  induction l with
  | nil => intro _; simp [left]
  | cons a l ih =>
    intro hn
    rw [List.nodup_cons] at hn
    have ih := ih hn.2
    simp only [left, List.map_cons, List.sum_cons] at ih ⊢
    by_cases ha : a = f
    · subst ha
      have hc : l.contains a = false := by simpa using hn.1
      rw [hc] at ih
      simp only [Bool.false_eq_true, if_false, Nat.add_zero] at ih
      simp only [List.contains_cons, beq_self_eq_true, Bool.true_or, if_true, hf, Bool.false_eq_true, if_false] at ih ⊢
      omega
    · have h1 : (a == f) = false := beq_eq_false_iff_ne.2 ha
      have h2 : (f == a) = false := beq_eq_false_iff_ne.2 (Ne.symm ha)
      simp only [List.contains_cons, h1, h2, Bool.false_or] at ih ⊢
      omega

/-- Fuel enough for what is on the pile and what can still be laid: more fuel changes nothing. -/
theorem closureVia_more {P : Program} (k : Nat) : ∀ (m : Nat) (todo seen : List Nat),
    todo.length + left (fun g => (lead P g).length) seen (List.range P.funcs.size) ≤ m → P.closureVia (m + k) todo seen = P.closureVia m todo seen := by
  intro m
  induction m with
  | zero =>
    intro todo seen h
    have : todo = [] := List.length_eq_zero_iff.1 (by omega)
    subst this
    cases k <;> simp [Program.closureVia]
  | succ m ih =>
    intro todo seen h
    cases todo with
    | nil => cases k <;> simp [Program.closureVia]
    | cons f todo =>
      rw [show m + 1 + k = (m + k) + 1 by omega, Program.closureVia, Program.closureVia]
      simp only [List.length_cons] at h
      cases hf : seen.contains f with
      | true => simp only [if_true]; exact ih todo seen (by omega)
      | false =>
        simp only [Bool.false_eq_true, if_false]
        refine ih _ _ ?_
        have hl := left_cons (fun g => (lead P g).length) seen f hf (List.range P.funcs.size) List.nodup_range
        rw [List.length_append]
        by_cases hs : f < P.funcs.size
        · have hc : (List.range P.funcs.size).contains f = true := by simpa using hs
          rw [if_pos hc] at hl
          have : ((P.funcs[f]?).elim [] P.leadsTo).length = (lead P f).length := rfl
          omega
        · have hz : ((P.funcs[f]?).elim [] P.leadsTo).length = 0 := by
            rw [Array.getElem?_eq_none (by omega)]; rfl
          omega

theorem left_all (P : Program) : left (fun g => (lead P g).length) [] (List.range P.funcs.size) ≤ (P.funcs.toList.map fun g => (P.leadsTo g).length + 1).sum := by
  have e : (P.funcs.toList.map fun g => (P.leadsTo g).length + 1) = (List.range P.funcs.size).map fun i => (P.funcs[i]?).elim 0 fun g => (P.leadsTo g).length + 1 := by
    apply List.ext_getElem?
    intro i
    simp only [List.getElem?_map, Array.getElem?_toList]
    by_cases hi : i < P.funcs.size
    · simp [hi]
    · rw [Array.getElem?_eq_none (by omega), List.getElem?_eq_none (by simpa using hi)]; rfl
  rw [e]
  unfold left
  generalize List.range P.funcs.size = l
  induction l with
  | nil => simp
  | cons a l ih =>
    simp only [List.map_cons, List.sum_cons]
    refine Nat.add_le_add ?_ ih
    simp only [List.contains_nil, Bool.false_eq_true, if_false, lead]
    cases P.funcs[a]? with
    | none => simp
    | some g => simp

/-- THE CLOSURE BY BITS. -/
theorem closure_of_bits {P : Program} (n f : Nat) (r : List Nat) (h : viaBits P n [f] 0 [] = some r) : P.closure f = r := by
  unfold Program.closure
  have := left_all P
  rw [← closureVia_more n _ [f] [] (by simp only [List.length_cons, List.length_nil]; omega)]
  exact closureVia_of_bits n _ [f] 0 [] r (Nat.le_add_left _ _) (fun g => by simp) h
end Go.YG
