/- The law LexBlanks over lists. No condition: lemmas. -/
import Derived.Test.YthmjeojcciefcaaDoorLb
set_option linter.unusedVariables false
set_option linter.unusedSimpArgs false
namespace Go.X
theorem runL_app : ∀ (l m : List Nat), (∀ c r, m = c :: r → ¬ (LP c ∨ DP c)) → runL (l ++ m) = runL l
  | [], [], _ => rfl
  | [], c :: r, h => by
    show runL (c :: r) = 0
    unfold runL
    rw [if_neg (h c r rfl)]
  | c :: l, m, h => by
    show runL (c :: (l ++ m)) = runL (c :: l)
    unfold runL
    rw [runL_app l m h]
/-- What stands behind a stroke is told by at most three bytes. -/
theorem esc_app {l m : List Nat} {v k : Nat} (h : esc l = some (v, k)) : esc (l ++ m) = some (v, k) := by
  cases l with
  | nil => cases h
  | cons c l =>
    simp only [List.cons_append, esc] at h ⊢
    split at h
    · rw [if_pos (by assumption)]; exact h
    rename_i h1
    rw [if_neg h1]
    split at h
    · rw [if_pos (by assumption)]; exact h
    rename_i h2
    rw [if_neg h2]
    split at h
    · rw [if_pos (by assumption)]; exact h
    rename_i h3
    rw [if_neg h3]
    split at h
    · rename_i h4
      rw [if_pos h4]
      match l, h with
      | a :: b :: r, h => exact h
      | [a], h => cases h
      | [], h => cases h
    · cases h
theorem Quo.app {q : Nat} {l t : List Nat} {j : Nat} (h : Quo q l t j) (m : List Nat) : Quo q (l ++ m) t j := by
  induction h with
  | stop l => exact .stop _
  | one c l t j h1 h2 h3 _ ih => exact .one c _ t j h1 h2 h3 ih
  | esc l t v k j h1 he _ ih =>
    refine .esc (l ++ m) t v k j h1 (esc_app he) ?_
    rw [List.drop_append_of_le_length (esc_len he).2]
    exact ih
theorem sgnL_app {c : Nat} {l m : List Nat} (h : ∀ d r, m = d :: r → BlP d) (hs : sgnL (c :: l) ≠ 0 ∨ l ≠ []) : sgnL (c :: l ++ m) = sgnL (c :: l) := by
  cases l with
  | cons b l => rfl
  | nil =>
    cases m with
    | nil => rfl
    | cons d r =>
      have hd := h d r rfl
      show sgnL (c :: d :: r) = sgnL [c]
      simp only [sgnL]
      rw [if_neg]
      intro g
      simp only [twos, List.mem_cons, List.not_mem_nil, or_false, List.cons.injEq, and_true] at g
      unfold BlP at hd
      omega
/-- A token stays where a blank, or nothing, is put behind the text. -/
theorem TokR.app {l : List Nat} {k : Nat} {t : List Nat} {v j : Nat} (h : TokR l k t v j) {m : List Nat} (hm : ∀ d r, m = d :: r → BlP d) : TokR (l ++ m) k t v j := by
  have hr : ∀ l, runL (l ++ m) = runL l := fun l => runL_app l m fun c r e => by
    have := hm c r e
    unfold BlP at this; unfold LP DP; omega
  have htk : ∀ c l, (c :: l ++ m).take (runL (c :: l)) = (c :: l).take (runL (c :: l)) := fun c l => List.take_append_of_le_length (runL_le _)
  cases h with
  | num c l v h1 h2 =>
    have := TokR.num c (l ++ m) v h1 (by
      have e : runL (c :: (l ++ m)) = runL (c :: l) := hr (c :: l)
      rw [e]
      have := htk c l
      rw [List.cons_append] at this
      rw [this]; exact h2)
    have e : runL (c :: (l ++ m)) = runL (c :: l) := hr (c :: l)
    rw [e] at this
    exact this
  | word c l h1 h2 h3 =>
    have e : runL (c :: (l ++ m)) = runL (c :: l) := hr (c :: l)
    have et := htk c l
    rw [List.cons_append] at et
    have := TokR.word c (l ++ m) h1 (by rw [e]; exact h2) (by rw [e, et]; exact h3)
    rw [e, et] at this
    exact this
  | name c l h1 h2 h3 =>
    have e : runL (c :: (l ++ m)) = runL (c :: l) := hr (c :: l)
    have et := htk c l
    rw [List.cons_append] at et
    have := TokR.name c (l ++ m) h1 (by rw [e]; exact h2) (by rw [e, et]; exact h3)
    rw [e, et] at this
    exact this
  | quo c l t j h1 h2 h3 => exact .quo c (l ++ m) t j h1 (h2.app m) h3
  | sign c l h1 h2 h3 h4 h5 =>
    have e := sgnL_app (c := c) (l := l) (m := m) hm (.inl h5)
    rw [List.cons_append] at e
    have et : (c :: (l ++ m)).take (sgnL (c :: l)) = (c :: l).take (sgnL (c :: l)) := by
      rw [← List.cons_append]
      exact List.take_append_of_le_length (sgn_le _)
    have := TokR.sign c (l ++ m) h1 h2 h3 h4 (by rw [e]; exact h5)
    rw [e, et] at this
    exact this
/-- A token is told by its own bytes and what they end at. -/
theorem lineL_app : ∀ (l m : List Nat), (∀ d r, m = d :: r → d = 10) → lineL (l ++ m) = lineL l
  | [], [], _ => rfl
  | [], c :: r, h => by
    show lineL (c :: r) = 0
    unfold lineL
    rw [if_pos (h c r rfl)]
  | c :: l, m, h => by
    show lineL (c :: (l ++ m)) = lineL (c :: l)
    unfold lineL
    rw [lineL_app l m h]
theorem head_app {l m : List Nat} (hm : ∀ d r, m = d :: r → BlP d) : (l ++ m).head? = some 45 ↔ l.head? = some 45 := by
  cases l with
  | cons a l => simp
  | nil =>
    cases m with
    | nil => simp
    | cons d r =>
      have := hm d r rfl
      simp
      intro e
      subst e
      unfold BlP at this
      omega
def Tok.sh (n : Nat) (t : Tok) : Tok := ⟨t.kind, t.text, t.n, t.pos + n⟩
/-- Places are told from the first one on. -/
theorem LexR.sh {l : List Nat} {p : Nat} {r : List Tok ⊕ Nat} (h : LexR l p r) : ∀ (n : Nat) (ts : List Tok), r = .inl ts → LexR l (p + n) (.inl (ts.map (Tok.sh n))) := by
  induction h with
  | nil p => intro n ts e; cases e; exact .nil _
  | blank c l p r hc _ ih => intro n ts e; exact .blank c l _ _ hc (by rw [show p + n + 1 = p + 1 + n by omega]; exact ih n ts e)
  | remark l p r _ ih => intro n ts e; exact .remark l _ _ (by rw [show p + n + lineL (45 :: 45 :: l) = p + lineL (45 :: 45 :: l) + n by omega]; exact ih n ts e)
  | wrong => intro n ts e; cases e
  | tok c l p k t v j ts h1 h2 ht _ ih =>
    intro n ts' e
    cases e
    exact .tok c l (p + n) k t v j _ h1 h2 ht (by rw [show p + n + j = p + j + n by omega]; exact ih n ts rfl)
  | bad => intro n ts e; cases e
theorem LexR.nonempty {l : List Nat} {p : Nat} {r : List Tok ⊕ Nat} (h : LexR l p r) : ∀ ts, r = .inl ts → ts ≠ [] := by
  induction h with
  | nil p => intro ts e; cases e; simp
  | blank _ _ _ _ _ _ ih => exact ih
  | remark _ _ _ _ ih => exact ih
  | wrong => intro ts e; cases e
  | tok => intro ts e; cases e; simp
  | bad => intro ts e; cases e
/-- Tokens of two texts with a line's end between. -/
theorem LexR.join {t : List Nat} {b : List Tok} {s : List Nat} {p : Nat} {r : List Tok ⊕ Nat} (h : LexR s p r) : ∀ a, r = .inl a → LexR t (p + s.length + 1) (.inl b) → LexR (s ++ 10 :: t) p (.inl (a.dropLast ++ b)) := by
  have hm : ∀ d r, (10 :: t : List Nat) = d :: r → BlP d := fun d r e => by injection e with e; subst e; unfold BlP; omega
  have hm10 : ∀ d r, (10 :: t : List Nat) = d :: r → d = 10 := fun d r e => by injection e with e; exact e.symm
  induction h with
  | nil p =>
    intro a e hb
    cases e
    exact .blank 10 t p _ (by unfold BlP; omega) hb
  | blank c l p r hc _ ih =>
    intro a e hb
    exact .blank c _ p _ hc (ih a e (by rw [show p + 1 + l.length + 1 = p + (c :: l).length + 1 by simp; omega]; exact hb))
  | remark l p r _ ih =>
    intro a e hb
    have el := lineL_app (45 :: 45 :: l) (10 :: t) hm10
    refine .remark (l ++ 10 :: t) p _ ?_
    have el' : lineL (45 :: 45 :: (l ++ 10 :: t)) = lineL (45 :: 45 :: l) := el
    have hle := lineL_le (45 :: 45 :: l)
    rw [el']
    have ed : (45 :: 45 :: (l ++ 10 :: t)).drop (lineL (45 :: 45 :: l)) = (45 :: 45 :: l).drop (lineL (45 :: 45 :: l)) ++ 10 :: t := List.drop_append_of_le_length (l₁ := 45 :: 45 :: l) hle
    rw [ed]
    refine ih a e ?_
    rw [List.length_drop, show p + lineL (45 :: 45 :: l) + ((45 :: 45 :: l).length - lineL (45 :: 45 :: l)) + 1 = p + (45 :: 45 :: l).length + 1 by omega]
    exact hb
  | wrong => intro a e; cases e
  | tok c l p k x v j ts h1 h2 ht hrest ih =>
    intro a e hb
    cases e
    have hj := ht.len
    have hne : ts ≠ [] := hrest.nonempty ts rfl
    rw [List.dropLast_cons_of_ne_nil hne]
    refine .tok c (l ++ 10 :: t) p k x v j (ts.dropLast ++ b) h1 (fun g => h2 ⟨g.1, (head_app hm).1 g.2⟩) (ht.app hm) ?_
    have ed : (c :: (l ++ 10 :: t)).drop j = (c :: l).drop j ++ 10 :: t := List.drop_append_of_le_length (l₁ := c :: l) hj.2
    rw [ed]
    refine ih ts rfl ?_
    rw [List.length_drop, show p + j + ((c :: l).length - j) + 1 = p + (c :: l).length + 1 by omega]
    exact hb
  | bad => intro a e; cases e
end Go.X

namespace Go.X
/-- A blank text: what stands behind it is read as it was. -/
structure Blk (w : List Nat) : Prop where
  go : ∀ rest p r, LexR rest (p + w.length) r → LexR (w ++ rest) p r
  hd : ∃ d r, w = d :: r ∧ BlP d
  inn : ∀ p, LexR (w.drop (lineL w)) (p + lineL w) (.inl [⟨0, [], 0, p + w.length⟩])
theorem runL_take : ∀ (u Y : List Nat), runL (u ++ Y) = u.length → (∀ c ∈ u, LP c ∨ DP c) ∧ ∀ c r, Y = c :: r → ¬ (LP c ∨ DP c)
  | [], [], _ => ⟨fun c h => by simp at h, fun c r h => by cases h⟩
  | [], c :: r, h => by
    refine ⟨fun c h => by simp at h, fun d r' e g => ?_⟩
    cases e
    have : runL (c :: r) = 0 := h
    unfold runL at this
    rw [if_pos g] at this
    omega
  | c :: u, Y, h => by
    have h' : runL (c :: (u ++ Y)) = u.length + 1 := h
    unfold runL at h'
    split at h'
    · rename_i g
      obtain ⟨h1, h2⟩ := runL_take u Y (by omega)
      refine ⟨fun d hd => ?_, h2⟩
      rcases List.mem_cons.1 hd with e | e
      · rw [e]; exact g
      · exact h1 d e
    · omega
theorem runL_put : ∀ (u Z : List Nat), (∀ c ∈ u, LP c ∨ DP c) → (∀ c r, Z = c :: r → ¬ (LP c ∨ DP c)) → runL (u ++ Z) = u.length
  | [], [], _, _ => rfl
  | [], c :: r, _, h => by
    show runL (c :: r) = 0
    unfold runL
    rw [if_neg (h c r rfl)]
  | c :: u, Z, h1, h2 => by
    show runL (c :: (u ++ Z)) = u.length + 1
    unfold runL
    rw [if_pos (h1 c (by simp)), runL_put u Z (fun d hd => h1 d (by simp [hd])) h2]
theorem esc_loc {l : List Nat} {v k : Nat} (h : esc l = some (v, k)) (n : Nat) (hn : k ≤ n) : esc (l.take n) = some (v, k) := by
  have hk := esc_len h
  cases l with
  | nil => cases h
  | cons c l =>
    obtain ⟨n, rfl⟩ : ∃ m, n = m + 1 := ⟨n - 1, by omega⟩
    rw [List.take_succ_cons]
    simp only [esc] at h ⊢
    split at h
    · rw [if_pos (by assumption)]; exact h
    rename_i h1
    rw [if_neg h1]
    split at h
    · rw [if_pos (by assumption)]; exact h
    rename_i h2
    rw [if_neg h2]
    split at h
    · rw [if_pos (by assumption)]; exact h
    rename_i h3
    rw [if_neg h3]
    split at h
    · rename_i h4
      rw [if_pos h4]
      match l, h with
      | a :: b :: r, h =>
        have hk3 : k = 3 := by
          have h' : (match hexv a, hexv b with | some x, some y => some (16 * x + y, 3) | _, _ => none) = some (v, k) := h
          cases ea : hexv a with
          | none => rw [ea] at h'; cases h'
          | some x =>
            cases eb : hexv b with
            | none => rw [ea, eb] at h'; cases h'
            | some y => rw [ea, eb] at h'; cases h'; rfl
        obtain ⟨n, rfl⟩ : ∃ m, n = m + 2 := ⟨n - 2, by omega⟩
        exact h
      | [a], h => cases h
      | [], h => cases h
    · cases h
theorem Quo.loc {q : Nat} {l t : List Nat} {j : Nat} (h : Quo q l t j) : Quo q (l.take j) t j := by
  induction h with
  | stop l => exact .stop _
  | one c l t j h1 h2 h3 _ ih => exact .one c _ t j h1 h2 h3 ih
  | esc l t v k j h1 he hq ih =>
    have hk := esc_len he
    rw [List.take_succ_cons]
    refine .esc _ t v k j h1 (esc_loc he _ (by omega)) ?_
    rw [List.drop_take, Nat.add_sub_cancel_left]
    exact ih
theorem sgnL_two {a b : Nat} {r : List Nat} : sgnL (a :: b :: r) = 2 ↔ [a, b] ∈ twos := by
  simp only [sgnL]
  constructor
  · intro h
    by_cases g : [a, b] ∈ twos
    · exact g
    · rw [if_neg g] at h
      split at h <;> omega
  · intro h; rw [if_pos h]
/-- A token is told by its own bytes and the one behind them. -/
theorem TokR.loc {u Y Z : List Nat} {k : Nat} {t : List Nat} {v : Nat} (h : TokR (u ++ Y) k t v u.length) (hZ : Z.head? = Y.head? ∨ ∃ d r, Z = d :: r ∧ BlP d) : TokR (u ++ Z) k t v u.length := by
  have hlen := h.len
  cases u with
  | nil => simp at hlen
  | cons c u =>
    have hr : runL (c :: u ++ Y) = (c :: u).length → runL (c :: u ++ Z) = (c :: u).length := fun e => by
      obtain ⟨h1, h2⟩ := runL_take _ _ e
      refine runL_put _ _ h1 fun d r hd => ?_
      rcases hZ with hZ | ⟨d', r', hZ, hb⟩
      · cases Y with
        | nil => rw [hd] at hZ; simp at hZ
        | cons y Y =>
          rw [hd] at hZ
          simp at hZ
          subst hZ
          exact h2 d Y rfl
      · rw [hZ] at hd
        cases hd
        unfold BlP at hb; unfold LP DP; omega
    have tk : ∀ W : List Nat, (c :: u ++ W).take (c :: u).length = c :: u := fun W => List.take_left' rfl
    generalize hX : c :: u ++ Y = X at h
    generalize hn : (c :: u).length = n at h
    cases h with
    | num c' l v h1 h2 =>
      have e : c = c' ∧ u ++ Y = l := by simpa using hX
      obtain ⟨rfl, rfl⟩ := e
      have e1 : runL (c :: u ++ Z) = (c :: u).length := hr hn.symm
      have h2' : numT (c :: u) = some v := by
        rw [← hn] at h2
        have := tk Y
        rw [List.cons_append] at this
        rw [this] at h2
        exact h2
      have := TokR.num c (u ++ Z) v h1 (by
        rw [List.cons_append] at e1
        rw [e1]
        have := tk Z
        rw [List.cons_append] at this
        rw [this]; exact h2')
      rw [List.cons_append] at e1
      rw [e1] at this
      rw [← hn]
      exact this
    | word c' l h1 h2 h3 =>
      have e : c = c' ∧ u ++ Y = l := by simpa using hX
      obtain ⟨rfl, rfl⟩ := e
      have e1 : runL (c :: u ++ Z) = (c :: u).length := hr hn.symm
      have tkY := tk Y
      have tkZ := tk Z
      rw [List.cons_append] at e1 tkY tkZ
      rw [← hn] at h2 h3 ⊢
      rw [tkY] at h3 ⊢
      have := TokR.word c (u ++ Z) h1 (by rw [e1]; exact h2) (by rw [e1, tkZ]; exact h3)
      rw [e1, tkZ] at this
      exact this
    | name c' l h1 h2 h3 =>
      have e : c = c' ∧ u ++ Y = l := by simpa using hX
      obtain ⟨rfl, rfl⟩ := e
      have e1 : runL (c :: u ++ Z) = (c :: u).length := hr hn.symm
      have tkY := tk Y
      have tkZ := tk Z
      rw [List.cons_append] at e1 tkY tkZ
      rw [← hn] at h2 h3 ⊢
      rw [tkY] at h3 ⊢
      have := TokR.name c (u ++ Z) h1 (by rw [e1]; exact h2) (by rw [e1, tkZ]; exact h3)
      rw [e1, tkZ] at this
      exact this
    | quo c' l t j h1 h2 h3 =>
      have e : c = c' ∧ u ++ Y = l := by simpa using hX
      obtain ⟨rfl, rfl⟩ := e
      have hj : j = u.length := by simp at hn; omega
      have h4 := h2.loc
      rw [hj, List.take_left' rfl] at h4
      rw [hj]
      exact .quo c (u ++ Z) t u.length h1 (h4.app Z) h3
    | sign c' l h1 h2 h3 h4 h5 =>
      have e : c = c' ∧ u ++ Y = l := by simpa using hX
      obtain ⟨rfl, rfl⟩ := e
      have e1 : sgnL (c :: (u ++ Z)) = (c :: u).length := by
        cases u with
        | nil =>
          have hn' : sgnL (c :: Y) = 1 := hn.symm
          have hone : c ∈ ones := by
            cases Y with
            | nil =>
              simp only [sgnL] at hn'
              split at hn'
              · assumption
              · omega
            | cons y Y =>
              simp only [sgnL] at hn'
              split at hn'
              · omega
              · split at hn'
                · assumption
                · omega
          show sgnL (c :: Z) = 1
          cases Z with
          | nil => simp only [sgnL]; rw [if_pos hone]
          | cons z Z =>
            simp only [sgnL]
            rw [if_neg, if_pos hone]
            intro g
            rcases hZ with hZ | ⟨d', r', hZ, hb⟩
            · cases Y with
              | nil => simp at hZ
              | cons y Y =>
                simp at hZ
                subst hZ
                have : sgnL (c :: z :: Y) = 2 := sgnL_two.2 g
                omega
            · cases hZ
              simp only [twos, List.mem_cons, List.not_mem_nil, or_false, List.cons.injEq, and_true] at g
              unfold BlP at hb
              omega
        | cons b u =>
          have hn' : sgnL (c :: b :: (u ++ Y)) = u.length + 2 := hn.symm
          have hu : u.length = 0 := by
            have hle : sgnL (c :: b :: (u ++ Y)) ≤ 2 := by
              simp only [sgnL]
              split
              · omega
              · split <;> omega
            omega
          have hu' : u = [] := List.eq_nil_of_length_eq_zero hu
          subst hu'
          have g := sgnL_two.1 hn'
          exact sgnL_two.2 g
      have tkY := tk Y
      have tkZ := tk Z
      rw [List.cons_append] at tkY tkZ
      rw [← hn] at h5 ⊢
      rw [tkY]
      have := TokR.sign c (u ++ Z) h1 h2 h3 h4 (by rw [e1]; simp)
      rw [e1, tkZ] at this
      exact this
theorem lineL_no : ∀ (l Z : List Nat), lineL (l.take (lineL l) ++ Z) = lineL l + lineL Z
  | [], Z => by
    show lineL ([] ++ Z) = 0 + lineL Z
    rw [List.nil_append, Nat.zero_add]
  | c :: l, Z => by
    by_cases g : c = 10
    · have : lineL (c :: l) = 0 := by unfold lineL; rw [if_pos g]
      rw [this, List.take_zero, List.nil_append, Nat.zero_add]
    · have e : lineL (c :: l) = lineL l + 1 := by
        conv => lhs; unfold lineL
        rw [if_neg g]
      rw [e, List.take_succ_cons, List.cons_append]
      have e2 : lineL (c :: (l.take (lineL l) ++ Z)) = lineL (l.take (lineL l) ++ Z) + 1 := by
        conv => lhs; unfold lineL
        rw [if_neg g]
      rw [e2, lineL_no l Z]
      omega
theorem lineL_at : ∀ (l : List Nat) c r, l.drop (lineL l) = c :: r → c = 10
  | [], c, r, h => by cases h
  | d :: l, c, r, h => by
    by_cases g : d = 10
    · have : lineL (d :: l) = 0 := by unfold lineL; rw [if_pos g]
      rw [this, List.drop_zero] at h
      cases h; exact g
    · have e : lineL (d :: l) = lineL l + 1 := by
        conv => lhs; unfold lineL
        rw [if_neg g]
      rw [e, List.drop_succ_cons] at h
      exact lineL_at l c r h
theorem LexR.low {l : List Nat} {p : Nat} {r : List Tok ⊕ Nat} (h : LexR l p r) : ∀ ts, r = .inl ts → ∀ t ∈ ts, p ≤ t.pos := by
  induction h with
  | nil p => intro ts e t ht; cases e; simp at ht; subst ht; simp
  | blank c l p r _ _ ih => intro ts e t ht; have := ih ts e t ht; omega
  | remark l p r _ ih => intro ts e t ht; have := ih ts e t ht; omega
  | wrong => intro ts e; cases e
  | tok c l p k x n j ts _ _ htk _ ih =>
    intro ts' e t ht
    cases e
    rcases List.mem_cons.1 ht with g | g
    · subst g; simp
    · have := ih ts rfl t g; omega
  | bad => intro ts e; cases e
/-- A text put in at a place of another one. -/
def putIn (l w : List Nat) (n : Nat) : List Nat := l.take n ++ w ++ l.drop n
theorem putIn_app {l w : List Nat} {a b : Nat} (h : a ≤ b) (hl : a ≤ l.length) : putIn l w b = l.take a ++ putIn (l.drop a) w (b - a) := by
  unfold putIn
  have e1 : l.take b = l.take a ++ (l.drop a).take (b - a) := by
    conv => lhs; rw [show b = a + (b - a) by omega, List.take_add]
  have e2 : l.drop b = (l.drop a).drop (b - a) := by rw [List.drop_drop]; congr 1; omega
  rw [e1, e2]
  simp
theorem putIn_hd {Y w : List Nat} {m : Nat} (hm : 0 < m) (hY : Y ≠ []) : (putIn Y w m).head? = Y.head? := by
  cases Y with
  | nil => exact absurd rfl hY
  | cons y Y =>
    obtain ⟨m, rfl⟩ : ∃ k, m = k + 1 := ⟨m - 1, by omega⟩
    rfl
theorem LexR.put {w : List Nat} (hw : Blk w) {l : List Nat} {p : Nat} {r : List Tok ⊕ Nat} (h : LexR l p r) : ∀ (A : List Tok), r = .inl A → ∀ (k : Nat) (t : Tok), A[k]? = some t →
    LexR (putIn l w (t.pos - p)) p (.inl (A.take k ++ (A.drop k).map (Tok.sh w.length))) := by
  induction h with
  | nil p =>
    intro A e k t ht
    cases e
    cases k with
    | zero =>
      simp at ht
      subst ht
      show LexR (putIn [] w (p - p)) p _
      rw [Nat.sub_self]
      have := hw.go [] p _ (.nil _)
      show LexR ([] ++ w ++ []) p _
      rw [List.nil_append]
      exact this
    | succ k => simp at ht
  | blank c l p r hc hrest ih =>
    intro A e k t ht
    have h1 := hrest.low A e t (List.mem_of_getElem? ht)
    have e1 : putIn (c :: l) w (t.pos - p) = c :: putIn l w (t.pos - (p + 1)) := by
      obtain ⟨m, hm⟩ : ∃ m, t.pos - p = m + 1 := ⟨t.pos - p - 1, by omega⟩
      rw [hm, show t.pos - (p + 1) = m by omega]
      rfl
    rw [e1]
    exact .blank c _ p _ hc (ih A e k t ht)
  | remark l p r hrest ih =>
    intro A e k t ht
    have h1 := hrest.low A e t (List.mem_of_getElem? ht)
    have hle := lineL_le (45 :: 45 :: l)
    have hL2 : 2 ≤ lineL (45 :: 45 :: l) := by unfold lineL; rw [if_neg (by omega)]; unfold lineL; rw [if_neg (by omega)]; omega
    have e1 := putIn_app (l := 45 :: 45 :: l) (w := w) (a := lineL (45 :: 45 :: l)) (b := t.pos - p) (by omega) hle
    rw [e1]
    generalize hL : lineL (45 :: 45 :: l) = L at *
    generalize hY : (45 :: 45 :: l).drop L = Y at *
    have hfront : ∀ Z, ∃ l', (45 :: 45 :: l).take L ++ Z = 45 :: 45 :: l' := fun Z => by
      obtain ⟨m, rfl⟩ : ∃ m, L = m + 2 := ⟨L - 2, by omega⟩
      exact ⟨_, rfl⟩
    have hLZ : ∀ Z, lineL ((45 :: 45 :: l).take L ++ Z) = L + lineL Z := fun Z => by
      have := lineL_no (45 :: 45 :: l) Z
      rw [hL] at this
      exact this
    have hdr : ∀ (Z : List Nat) n, ((45 :: 45 :: l).take L ++ Z).drop (L + n) = Z.drop n := fun Z n => by
      have hlen : ((45 :: 45 :: l).take L).length = L := by rw [List.length_take]; omega
      rw [List.drop_append, hlen, List.drop_of_length_le (by omega), Nat.add_sub_cancel_left, List.nil_append]
    cases Y with
    | nil =>
      -- the remark goes on to the text's end
      have hA : A = [⟨0, [], 0, p + L⟩] := by
        cases e
        cases hrest
        rfl
      subst hA
      cases k with
      | succ k => simp at ht
      | zero =>
        simp at ht
        subst ht
        show LexR ((45 :: 45 :: l).take L ++ putIn [] w (p + L - p - L)) p (.inl [⟨0, [], 0, p + L + w.length⟩])
        have e2 : putIn [] w (p + L - p - L) = w := by unfold putIn; simp
        rw [e2]
        obtain ⟨l', hl'⟩ := hfront w
        have h2 := hLZ w
        have h3 := hdr w (lineL w)
        rw [hl'] at h2 h3 ⊢
        refine .remark l' p _ ?_
        rw [h2, h3, show p + (L + lineL w) = p + L + lineL w by omega]
        exact hw.inn (p + L)
    | cons y Y =>
      have hy : y = 10 := lineL_at (45 :: 45 :: l) y Y (by rw [hL, hY])
      have hpos : p + L + 1 ≤ t.pos := by
        cases hrest with
        | blank c l p r hc hr => exact hr.low A e t (List.mem_of_getElem? ht)
        | remark => omega
        | wrong => cases e
        | tok _ _ _ _ _ _ _ _ hb => subst hy; exact absurd (by unfold BlP; omega) hb
        | bad => cases e
      have e2 : t.pos - (p + L) = t.pos - p - L := by omega
      have hZ0 : lineL (putIn (y :: Y) w (t.pos - p - L)) = 0 := by
        obtain ⟨m, hm⟩ : ∃ m, t.pos - p - L = m + 1 := ⟨t.pos - p - L - 1, by omega⟩
        rw [hm]
        show lineL (y :: _) = 0
        unfold lineL
        rw [if_pos hy]
      obtain ⟨l', hl'⟩ := hfront (putIn (y :: Y) w (t.pos - p - L))
      have h2 := hLZ (putIn (y :: Y) w (t.pos - p - L))
      have h3 := hdr (putIn (y :: Y) w (t.pos - p - L)) 0
      rw [hl'] at h2 h3 ⊢
      refine .remark l' p _ ?_
      rw [h2, hZ0, h3, List.drop_zero, Nat.add_zero, ← e2]
      exact ih A e k t ht
  | wrong => intro A e; cases e
  | tok c l p k0 x v j ts h1 h2 ht0 hrest ih =>
    intro A e k t ht
    cases e
    have hj := ht0.len
    cases k with
    | zero =>
      simp at ht
      subst ht
      show LexR (putIn (c :: l) w (p - p)) p (.inl ((⟨k0, x, v, p⟩ :: ts).map (Tok.sh w.length)))
      rw [Nat.sub_self]
      refine hw.go (c :: l) p _ ?_
      exact (LexR.tok c l p k0 x v j ts h1 h2 ht0 hrest).sh w.length _ rfl
    | succ k =>
      have ht' : ts[k]? = some t := by simpa using ht
      have hlow := hrest.low ts rfl t (List.mem_of_getElem? ht')
      have e1 := putIn_app (l := c :: l) (w := w) (a := j) (b := t.pos - p) (by omega) hj.2
      have e2 : t.pos - (p + j) = t.pos - p - j := by omega
      have ih' := ih ts rfl k t ht'
      rw [e2] at ih'
      generalize hY : (c :: l).drop j = Y at *
      generalize hu : (c :: l).take j = u at *
      have hul : u.length = j := by rw [← hu, List.length_take]; omega
      have huY : u ++ Y = c :: l := by rw [← hu, ← hY]; exact List.take_append_drop _ _
      have hZ : (putIn Y w (t.pos - p - j)).head? = Y.head? ∨ ∃ d r, putIn Y w (t.pos - p - j) = d :: r ∧ BlP d := by
        by_cases hm : 0 < t.pos - p - j ∧ Y ≠ []
        · exact .inl (putIn_hd hm.1 hm.2)
        · right
          obtain ⟨d, r, hw1, hw2⟩ := hw.hd
          refine ⟨d, r ++ Y.drop (t.pos - p - j), ?_, hw2⟩
          have hnil : Y.take (t.pos - p - j) = [] := by
            by_cases hY0 : Y = []
            · rw [hY0]; simp
            · have h0 : ¬ 0 < t.pos - p - j := fun g => hm ⟨g, hY0⟩
              rw [show t.pos - p - j = 0 by omega]; rfl
          unfold putIn
          rw [hnil, hw1]
          rfl
      have ht1 : TokR (u ++ Y) k0 x v u.length := by rw [huY, hul]; exact ht0
      have ht2 := ht1.loc hZ
      rw [e1]
      cases u with
      | nil => simp at hul; omega
      | cons c' u =>
        have hc' : c' = c := by
          have : c' :: (u ++ Y) = c :: l := huY
          injection this
        subst hc'
        have hd2 : ((c' :: u) ++ putIn Y w (t.pos - p - j)).drop j = putIn Y w (t.pos - p - j) := by
          rw [← hul]; exact List.drop_left' rfl
        rw [hul] at ht2
        refine .tok c' (u ++ putIn Y w (t.pos - p - j)) p k0 x v j _ h1 (fun g => ?_) ht2 ?_
        · obtain ⟨g1, g2⟩ := g
          refine h2 ⟨g1, ?_⟩
          have hl : l = u ++ Y := by
            have : c' :: (u ++ Y) = c' :: l := huY
            injection this with _ e
            exact e.symm
          rw [hl]
          cases u with
          | cons b u => exact g2
          | nil =>
            rcases hZ with hZ | ⟨d, r, hZ, hb⟩
            · rw [List.nil_append] at g2 ⊢
              rw [← hZ]; exact g2
            · rw [List.nil_append, hZ] at g2
              simp at g2
              subst g2
              unfold BlP at hb
              omega
        · have : (c' :: (u ++ putIn Y w (t.pos - p - j))).drop j = putIn Y w (t.pos - p - j) := hd2
          rw [this]
          exact ih'
  | bad => intro A e; cases e
/-- The blank texts of the law. -/
def blanks : List (List Nat) := [[32], [9], [10], [13], [32, 45, 45, 120, 10], [32, 32, 10, 32]]
theorem blanks_ok : ∀ w ∈ blanks, Blk w := by
  have one : ∀ c, BlP c → Blk [c] := fun c hc => ⟨fun rest p r h => .blank c rest p r hc h, ⟨c, [], rfl, hc⟩, fun p => by
    by_cases g : c = 10
    · subst g
      exact .blank 10 [] p _ hc (.nil _)
    · have : lineL [c] = 1 := by unfold lineL; rw [if_neg g]; rfl
      rw [this]
      exact .nil _⟩
  intro w hw
  simp only [blanks, List.mem_cons, List.not_mem_nil, or_false] at hw
  rcases hw with rfl | rfl | rfl | rfl | rfl | rfl
  · exact one 32 (by unfold BlP; omega)
  · exact one 9 (by unfold BlP; omega)
  · exact one 10 (by unfold BlP; omega)
  · exact one 13 (by unfold BlP; omega)
  · refine ⟨fun rest p r h => ?_, ⟨32, _, rfl, by unfold BlP; omega⟩, fun p => ?_⟩
    · refine .blank 32 _ p r (by unfold BlP; omega) (.remark (120 :: 10 :: rest) (p + 1) r ?_)
      have : lineL (45 :: 45 :: 120 :: 10 :: rest) = 3 := by simp [lineL]
      rw [this]
      exact .blank 10 rest _ r (by unfold BlP; omega) h
    · have : lineL [32, 45, 45, 120, 10] = 4 := by simp [lineL]
      rw [this]
      exact .blank 10 [] _ _ (by unfold BlP; omega) (.nil _)
  · refine ⟨fun rest p r h => ?_, ⟨32, _, rfl, by unfold BlP; omega⟩, fun p => ?_⟩
    · refine .blank 32 _ p r (by unfold BlP; omega) (.blank 32 _ _ r (by unfold BlP; omega) (.blank 10 _ _ r (by unfold BlP; omega) (.blank 32 _ _ r (by unfold BlP; omega) h)))
    · have : lineL [32, 32, 10, 32] = 2 := by simp [lineL]
      rw [this]
      exact .blank 10 _ _ _ (by unfold BlP; omega) (.blank 32 _ _ _ (by unfold BlP; omega) (.nil _))
end Go.X

namespace Go.X
variable {H : AH} {S : LS}
theorem iEqB_same {z : Int} {k : Bool → Prop} (h : k true) : iEqB 0 (.int 0 z) (.int 0 z) k := by
  show bT (Nat.beq 0 0) (bT (Nat.beq 0 0) (k (iEq z z)))
  refine bT_i rfl (bT_i rfl ?_)
  rw [iEq_d, decide_eq_true rfl]
  exact h
theorem sEqB_same {l : List Nat} {k : Bool → Prop} (h : k true) : sEqB (strA l) (strA l) k := by
  show k (Nat.beq l.length l.length && Nat.beq (num l) (num l))
  rw [Nat.beq_refl, Nat.beq_refl]
  exact h
theorem onAgg_l (l : List AV) (k : List AV → Prop) : onAgg (.agg l) k = k l := rfl
/-- Two tokens held against each other that are the same. -/
theorem tok_same {t : Tok} {k : Bool → Prop} (h : k true) : nthK t.cs 0 fun v10 => nthK t.cs 0 fun v11 => iEqB 0 v10 v11 fun e12 => nthK t.cs 1 fun v13 => nthK t.cs 1 fun v14 => sEqB v13 v14 fun e15 => nthK t.cs 2 fun v16 => nthK t.cs 2 fun v17 => iEqB 0 v16 v17 fun e18 => nthK t.cs 3 fun v19 => nthK t.cs 3 fun v20 => iEqB 0 v19 v20 fun e21 => k (e12 && (e15 && (e18 && (e21 && true)))) := by
  unfold Tok.cs
  simp only [nthK_0, nthK_s]
  refine iEqB_same ?_
  refine sEqB_same ?_
  refine iEqB_same ?_
  refine iEqB_same ?_
  exact h
theorem FrS.ext {S' : LS} {sz n : Nat} {v : AV} {l : List AV} (h : FrS S sz v n l) (hM : Mem H S) (hx : Ext S S') : FrS S' sz v n l := h.keep hM fun b _ hb => hx.ob b hb
theorem LexR.few {l : List Nat} {p : Nat} {r : List Tok ⊕ Nat} (h : LexR l p r) : ∀ ts, r = .inl ts → ts.length ≤ l.length + 1 := by
  induction h with
  | nil p => intro ts e; cases e; simp
  | blank c l p r _ _ ih => intro ts e; have := ih ts e; simp; omega
  | remark l p r _ ih => intro ts e; have := ih ts e; simp at this ⊢; omega
  | wrong => intro ts e; cases e
  | tok c l p k t n j ts _ _ ht _ ih =>
    intro ts' e
    cases e
    have := ih ts rfl
    have := ht.len
    simp at *
    omega
  | bad => intro ts e; cases e
theorem LexR.pos {l : List Nat} {p : Nat} {r : List Tok ⊕ Nat} (h : LexR l p r) : ∀ ts, r = .inl ts → ∀ t ∈ ts, p ≤ t.pos ∧ t.pos ≤ p + l.length := by
  induction h with
  | nil p => intro ts e t ht; cases e; simp at ht; subst ht; simp
  | blank c l p r _ _ ih => intro ts e t ht; have := ih ts e t ht; simp; omega
  | remark l p r _ ih => intro ts e t ht; have := ih ts e t ht; have := lineL_le (45 :: 45 :: l); simp at *; omega
  | wrong => intro ts e; cases e
  | tok c l p k x n j ts _ _ htk _ ih =>
    intro ts' e t ht
    cases e
    have hl := htk.len
    rcases List.mem_cons.1 ht with g | g
    · subst g; simp
    · have := ih ts rfl t g
      rw [List.length_drop] at this
      omega
  | bad => intro ts e; cases e
end Go.X

namespace Go.Proofs.YthmjeojcciefcaaDoor
open Go Go.X Go.Proofs.YthmjeojcciefcaaDoor.G
set_option maxRecDepth 100000
set_option maxHeartbeats 1600000
set_option linter.unusedVariables false
set_option linter.unusedSimpArgs false
variable {H : AH} {S : LS} {K : KF}
theorem FrS_fld {sz n : Nat} {v : AV} {l : List AV} {i o : Nat} {q : Nat} {a : AV} {k : AV → Prop} (h : FrS S sz v n l) (hM : Mem H S) (hi : i < n) (ho : o < sz) (ha : l[i * sz + o]? = some a) (hk : k a) : pIdx sz v (.int q i) fun p => pFld o p fun p' => pLoad p' H k := by
  refine h.at_ hi fun b cs m hb hc he => ?_
  rw [pFld_ptr]
  exact pLoad_i hM hc (by rw [he o ho]; exact ha) hk
theorem tcs_pos {l : List Tok} {i : Nat} {t : Tok} (h : l[i]? = some t) : (tcs l)[i * 4 + 3]? = some (.int 0 (t.pos : Int)) := by
  have e := tcs_get h
  have : (((tcs l).drop (i * 4)).take 4)[3]? = t.cs[3]? := by rw [e]
  rw [List.getElem?_take, if_pos (by omega), List.getElem?_drop] at this
  exact this
noncomputable def R5 : f5_R := (toldT, g9)
noncomputable def g5 : AV → Int → Int → AH → KF → Prop := f5_r R5
theorem g5_ok (ht : FunOk Tryd.prog 8 (fnX [] toldT)) : FunOk Tryd.prog 5 (fnX [.a, .i 0, .i 0] g5) := f5_rok R5 (CTblOk.cons ht (CTblOk.cons g9_ok CTblOk.nil))
theorem r5a : R5.1 = toldT := rfl
theorem r5b : R5.2 = g9 := rfl
theorem f5_loop {S0 : LS} {H0 : AH} (hM0 : Mem H0 S0) (hT : TabS gl2 S0) {w : List Nat} {A C : List Tok} {va vc : AV} {k : Nat} (hw : w.length ≤ 10) (hAl : A.length ≤ 1000) (hAp : ∀ t ∈ A, t.pos ≤ 1000) (hk : k < A.length) (hC : C = A.take k ++ (A.drop k).map (Tok.sh w.length)) (hK : ∀ H', K (.ret (.bool true)) H') :
    ∀ (q i : Nat) (H : AH) (S : LS), i ≤ A.length → A.length - i < q → Mem H S → Ext S0 S → FrS S 4 va A.length (tcs A) → FrS S 4 vc C.length (tcs C) → f5_l4 R5 K q va (k : Int) (strA w) vc (i : Int) H := by
  intro q
  induction q with
  | zero => intro i H S _ h; omega
  | succ q ih =>
    intro i H S hi hq hM hx fa fc
    show f5_q4 R5 K (f5_q6 R5 K (f5_q5 R5 K (f5_l4 R5 K q))) (f5_q3 R5 K) va (k : Int) (strA w) vc (i : Int) H
    unfold f5_q4
    have hCl : C.length = A.length := by rw [hC]; simp; omega
    refine fa.len ?_
    simp only [cI_z, iLt_d]
    refine bI_dec (fun g => ?_) (fun g => ?_)
    · have hiA : i < A.length := by omega
      obtain ⟨u, hu⟩ : ∃ u, A[i]? = some u := ⟨_, List.getElem?_eq_getElem hiA⟩
      have hup := hAp u (List.mem_of_getElem? hu)
      refine fa.load hM hiA ?_
      rw [tcs_get hu]
      refine onAH_i (pNew_i hM (fun a ha => ?_) fun H1 m1 => ?_)
      · simp only [List.mem_cons, List.not_mem_nil, or_false] at ha
        rcases ha with rfl | rfl | rfl | rfl <;> rfl
      refine pStoreN_i m1 (LS.push_ob_self _ _) (by omega) rfl (by show 0 + 4 ≤ 4; omega) (fun a ha => ?_) fun H2 m2 => ?_
      · simp only [Tok.cs, List.mem_cons, List.not_mem_nil, or_false] at ha
        rcases ha with rfl | rfl | rfl | rfl <;> rfl
      have m2 : Mem H2 ((S.push (.cells [.int 0 (.ofNat 0), .str 0 0, .int 0 (.ofNat 0), .int 0 (.ofNat 0)] 0)).set S.n (.cells u.cs 0)) := m2
      have cmp : ∀ {H3 : AH} {S3 : LS} (t : Tok), Mem H3 S3 → Ext S S3 → S3.ob S.n = .cells t.cs 0 → C[i]? = some t → f5_q6 R5 K (f5_q5 R5 K (f5_l4 R5 K q)) va (k : Int) (strA w) vc (i : Int) (.ptr S.n 0) H3 := fun {H3 S3} t m3 x3 h3 ht => by
        unfold f5_q6
        refine pLoadN_i m3 h3 (by show 0 + 4 ≤ 4; omega) ?_
        refine (fc.ext hM x3).load m3 (by omega) ?_
        rw [tcs_get ht]
        show onAgg (.agg t.cs) fun l5 => onAgg (.agg t.cs) _
        simp only [onAgg_l]
        refine tok_same (k := fun b => bI (!b) _ _) ?_
        simp only [Bool.not_true, bI_ff]
        unfold f5_q5
        simp only [iadd, io1]
        refine w0 (by omega) (by omega) ?_
        exact ih (i + 1) H3 S3 (by omega) (by omega) m3 (hx.trans x3) (fa.ext hM x3) (fc.ext hM x3)
      have x2 : Ext S ((S.push (.cells [.int 0 (.ofNat 0), .str 0 0, .int 0 (.ofNat 0), .int 0 (.ofNat 0)] 0)).set S.n (.cells u.cs 0)) := (Ext.push S _).set (Nat.le_refl _) _
      by_cases g2 : (i : Int) < (k : Int)
      · rw [decide_eq_true g2]
        simp only [Bool.not_true, bI_ff]
        refine cmp u m2 x2 (LS.set_ob_self _ _ _) ?_
        rw [hC, List.getElem?_append_left (by rw [List.length_take]; omega), List.getElem?_take, if_pos (by omega)]
        exact hu
      · rw [decide_eq_false g2]
        simp only [Bool.not_false, bI_tt]
        rw [pFld_ptr, Nat.zero_add]
        refine pLoad_i m2 (LS.set_ob_self _ _ _) (v := .int 0 (u.pos : Int)) rfl ?_
        simp only [cI_z, sLen_A, iadd]
        refine w0 (by omega) (by omega) ?_
        rw [pFld_ptr, Nat.zero_add]
        refine pStore_i m2 (LS.set_ob_self _ _ _) (by omega) (by show 3 < 4; omega) rfl fun H3 m3 => ?_
        refine cmp (u.sh w.length) m3 (x2.set (Nat.le_refl _) _) (LS.set_ob_self _ _ _) ?_
        rw [hC, List.getElem?_append_right (by rw [List.length_take]; omega), List.length_take, List.getElem?_map, List.getElem?_drop, show k + (i - min k A.length) = i by omega, hu]
        rfl
    · show f5_q3 R5 K H
      unfold f5_q3
      rw [r5a]
      refine ⟨⟨S, hM, gl2_gl (hT.ext hM0 hx)⟩, ?_⟩
      simp only [cR_ret, onB_b]
      exact hK _
theorem blanks_cells : ([.str 1 32, .str 1 9, .str 1 10, .str 1 13, .str 5 44965899552, .str 4 537534496] : List AV) = blanks.map strA := by rfl
theorem tmod_u (a : Int) (n : Nat) (hn : 0 < n) : ∃ m : Nat, m < n ∧ Int.tmod (a % 18446744073709551616) (n : Int) = (m : Int) := by
  refine ⟨((a % 18446744073709551616).toNat) % n, Nat.mod_lt _ hn, ?_⟩
  have h0 : 0 ≤ a % 18446744073709551616 := Int.emod_nonneg _ (by omega)
  obtain ⟨b, hb⟩ : ∃ b : Nat, a % 18446744073709551616 = (b : Int) := ⟨(a % 18446744073709551616).toNat, by omega⟩
  rw [hb]
  rfl
theorem g5_i {s : List Nat} {at_ which : Int} (h8 : B8 s) (hM : Mem H S) (hT : TabS gl2 S) (hK : ∀ H', K (.ret (.bool true)) H') : g5 (strA s) at_ which H K := by
  show f5_q0 R5 K (f5_q1 R5 K (f5_q2 R5 K (f5_l4 R5 K G.NL))) (strA s) at_ which H
  unfold f5_q0
  rw [r5a, r5b]
  simp only [sLen_A, cI_z, iLt_d]
  have e : Int.ofNat 600 = 600 := rfl
  have e0 : Int.ofNat 0 = 0 := rfl
  have e0' : Int.ofNat 0 = ((0 : Nat) : Int) := rfl
  rw [e]
  refine bI_dec (fun g => ⟨⟨S, hM, gl2_gl hT⟩, by simp only [cR_ret, onB_b]; exact hK _⟩) (fun g => ?_)
  have hs : s.length ≤ 600 := by omega
  obtain ⟨r, hr⟩ := lex_ex (s.length + 1) s 0 (by omega)
  refine g9_i h8 (by omega) hM hT hr ?_
  cases r with
  | inr n =>
    intro H1 S1 m1 x1
    simp only [cR_ret, onTup_t, nthK_0, nthK_s, cI_z, iEq_d]
    rw [show decide ((14 : Int) = Int.ofNat 0) = false from rfl]
    simp only [Bool.not_false, bI_tt]
    refine ⟨⟨S1, m1, gl2_gl (hT.ext hM x1)⟩, ?_⟩
    simp only [cR_ret, onB_b, bI_tt]
    exact hK _
  | inl A =>
    intro H1 S1 va m1 x1 fa _
    simp only [List.nil_append] at fa
    simp only [cR_ret, onTup_t, nthK_0, nthK_s, cI_z, iEq_d]
    rw [show decide ((0 : Int) = Int.ofNat 0) = true from rfl]
    simp only [Bool.not_true, bI_ff]
    have hne := hr.nonempty A rfl
    have hA1 : 1 ≤ A.length := by cases A with | nil => exact absurd rfl hne | cons => simp
    have hAl := hr.few A rfl
    have hAp := hr.pos A rfl
    refine fa.len ?_
    simp only [cI_z]
    rw [e0, decide_eq_false (by omega), bI_ff]
    refine w3 ?_
    refine fa.len ?_
    simp only [cI_z]
    refine wrapK_i (z' := (A.length : Int)) (by rw [wrap3]; omega) ?_
    rw [decide_eq_false (by omega), bI_ff]
    rw [forceI_eq]
    obtain ⟨k, hkA, hke⟩ := tmod_u at_ A.length (by omega)
    rw [hke]
    refine w0 (by omega) (by omega) ?_
    unfold f5_q1
    rw [r5b, blanks_cells]
    have c8 : ∀ a ∈ blanks.map strA, a.one = true := fun a ha => by
      obtain ⟨x, _, rfl⟩ := List.mem_map.1 ha
      rfl
    refine pNewS_i m1 rfl c8 fun H2 m2 => ?_
    refine w3 ?_
    rw [iEq_d]
    first | rw [show decide (Int.ofNat 6 = Int.ofNat 0) = false from rfl, bI_ff, forceI_eq] | rw [show decide (Int.ofNat 6 = 0) = false from rfl, bI_ff, forceI_eq]
    obtain ⟨j, hj6, hje⟩ := tmod_u which 6 (by omega)
    have e6 : Int.ofNat 6 = ((6 : Nat) : Int) := rfl
    rw [e6, hje]
    refine w0 (by omega) (by omega) ?_
    have hjb : j < blanks.length := hj6
    obtain ⟨w, hw⟩ : ∃ w, blanks[j]? = some w := ⟨_, List.getElem?_eq_getElem hjb⟩
    have hwm := List.mem_of_getElem? hw
    have hwB := blanks_ok w hwm
    have hw8 : B8 w := b8_lit ((by decide : ∀ m ∈ blanks, (m.all fun c => Nat.blt c 256) = true) w hwm)
    have hwl : w.length ≤ 10 := (by decide : ∀ m ∈ blanks, m.length ≤ 10) w hwm
    refine pIdx_i (by omega) (by omega) ?_
    rw [Int.toNat_natCast, Nat.mul_one, Nat.zero_add]
    refine pLoad_i m2 (LS.push_ob_self _ _) (v := strA w) (by rw [List.getElem?_map, hw]; rfl) ?_
    have x2 : Ext S1 (S1.push (.cells (blanks.map strA) 0)) := Ext.push _ _
    have fa2 := fa.ext m1 x2
    obtain ⟨t, ht⟩ : ∃ t, A[k]? = some t := ⟨_, List.getElem?_eq_getElem hkA⟩
    have htp := hAp t (List.mem_of_getElem? ht)
    refine FrS_fld fa2 m2 hkA (by omega) (tcs_pos ht) ?_
    simp only [cI_z]
    refine take_A h8 (by omega) ?_
    refine sCat_A (by simp; omega) ?_
    refine drop_A h8 (by omega) ?_
    refine sCat_A (by simp; omega) ?_
    have hput := hr.put hwB A rfl k t ht
    rw [Nat.sub_zero] at hput
    have h8' : B8 (putIn s w t.pos) := ((h8.take _).app hw8).app (h8.drop _)
    have hl' : (putIn s w t.pos).length ≤ 16384 := by unfold putIn; simp; omega
    have x12 := x1.trans x2
    refine g9_i (s := putIn s w t.pos) h8' hl' m2 (hT.ext hM x12) hput ?_
    intro H3 S3 vc m3 x3 fc _
    simp only [List.nil_append] at fc
    simp only [cR_ret, onTup_t, nthK_0, nthK_s, cI_z]
    unfold f5_q2
    have hCl : (A.take k ++ (A.drop k).map (Tok.sh w.length)).length = A.length := by simp; omega
    rw [iEq_d, show decide ((0 : Int) = Int.ofNat 0) = true from rfl]
    simp only [Bool.not_true, bI_ff]
    refine fc.len ?_
    refine (fa2.ext m2 x3).len ?_
    simp only [cI_z, iEq_d]
    rw [hCl]
    simp only [decide_true, Bool.not_true, bI_ff]
    have hNL : G.NL = 1000000 := rfl
    exact f5_loop hM hT hwl (by omega) (fun u hu => by have := hAp u hu; omega) hkA rfl hK G.NL 0 H3 S3 (Nat.zero_le _) (by omega) m3 (x12.trans x3) (fa2.ext m2 x3) fc
end Go.Proofs.YthmjeojcciefcaaDoor
