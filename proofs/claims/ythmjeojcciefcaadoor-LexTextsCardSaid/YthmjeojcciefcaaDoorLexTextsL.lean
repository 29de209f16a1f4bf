/- The law LexTexts over lists. No condition: lemmas. -/
import Derived.Test.YthmjeojcciefcaaDoorLb
set_option linter.unusedVariables false
set_option linter.unusedSimpArgs false
namespace Go.X
theorem runL_app : ∀ (l m : List Nat), (∀ c r, m = c :: r → ¬ (LP c ∨ DP c)) → runL (l ++ m) = runL l
  | [], [], _ => rfl
  | [], c :: r, h => by
    show runL (c :: r) = 0
    unfold runL
    rw [if_neg (h c r rfl)]
  | c :: l, m, h => by
    show runL (c :: (l ++ m)) = runL (c :: l)
    unfold runL
    rw [runL_app l m h]
/-- What stands behind a stroke is told by at most three bytes. -/
theorem esc_app {l m : List Nat} {v k : Nat} (h : esc l = some (v, k)) : esc (l ++ m) = some (v, k) := by
  cases l with
  | nil => cases h
  | cons c l =>
    simp only [List.cons_append, esc] at h ⊢
    split at h
    · rw [if_pos (by assumption)]; exact h
    rename_i h1
    rw [if_neg h1]
    split at h
    · rw [if_pos (by assumption)]; exact h
    rename_i h2
    rw [if_neg h2]
    split at h
    · rw [if_pos (by assumption)]; exact h
    rename_i h3
    rw [if_neg h3]
    split at h
    · rename_i h4
      rw [if_pos h4]
      match l, h with
      | a :: b :: r, h => exact h
      | [a], h => cases h
      | [], h => cases h
    · cases h
theorem Quo.app {q : Nat} {l t : List Nat} {j : Nat} (h : Quo q l t j) (m : List Nat) : Quo q (l ++ m) t j := by
  induction h with
  | stop l => exact .stop _
  | one c l t j h1 h2 h3 _ ih => exact .one c _ t j h1 h2 h3 ih
  | esc l t v k j h1 he _ ih =>
    refine .esc (l ++ m) t v k j h1 (esc_app he) ?_
    rw [List.drop_append_of_le_length (esc_len he).2]
    exact ih
theorem sgnL_app {c : Nat} {l m : List Nat} (h : ∀ d r, m = d :: r → BlP d) (hs : sgnL (c :: l) ≠ 0 ∨ l ≠ []) : sgnL (c :: l ++ m) = sgnL (c :: l) := by
  cases l with
  | cons b l => rfl
  | nil =>
    cases m with
    | nil => rfl
    | cons d r =>
      have hd := h d r rfl
      show sgnL (c :: d :: r) = sgnL [c]
      simp only [sgnL]
      rw [if_neg]
      intro g
      simp only [twos, List.mem_cons, List.not_mem_nil, or_false, List.cons.injEq, and_true] at g
      unfold BlP at hd
      omega
/-- A token stays where a blank, or nothing, is put behind the text. -/
theorem TokR.app {l : List Nat} {k : Nat} {t : List Nat} {v j : Nat} (h : TokR l k t v j) {m : List Nat} (hm : ∀ d r, m = d :: r → BlP d) : TokR (l ++ m) k t v j := by
  have hr : ∀ l, runL (l ++ m) = runL l := fun l => runL_app l m fun c r e => by
    have := hm c r e
    unfold BlP at this; unfold LP DP; omega
  have htk : ∀ c l, (c :: l ++ m).take (runL (c :: l)) = (c :: l).take (runL (c :: l)) := fun c l => List.take_append_of_le_length (runL_le _)
  cases h with
  | num c l v h1 h2 =>
    have := TokR.num c (l ++ m) v h1 (by
      have e : runL (c :: (l ++ m)) = runL (c :: l) := hr (c :: l)
      rw [e]
      have := htk c l
      rw [List.cons_append] at this
      rw [this]; exact h2)
    have e : runL (c :: (l ++ m)) = runL (c :: l) := hr (c :: l)
    rw [e] at this
    exact this
  | word c l h1 h2 h3 =>
    have e : runL (c :: (l ++ m)) = runL (c :: l) := hr (c :: l)
    have et := htk c l
    rw [List.cons_append] at et
    have := TokR.word c (l ++ m) h1 (by rw [e]; exact h2) (by rw [e, et]; exact h3)
    rw [e, et] at this
    exact this
  | name c l h1 h2 h3 =>
    have e : runL (c :: (l ++ m)) = runL (c :: l) := hr (c :: l)
    have et := htk c l
    rw [List.cons_append] at et
    have := TokR.name c (l ++ m) h1 (by rw [e]; exact h2) (by rw [e, et]; exact h3)
    rw [e, et] at this
    exact this
  | quo c l t j h1 h2 h3 => exact .quo c (l ++ m) t j h1 (h2.app m) h3
  | sign c l h1 h2 h3 h4 h5 =>
    have e := sgnL_app (c := c) (l := l) (m := m) hm (.inl h5)
    rw [List.cons_append] at e
    have et : (c :: (l ++ m)).take (sgnL (c :: l)) = (c :: l).take (sgnL (c :: l)) := by
      rw [← List.cons_append]
      exact List.take_append_of_le_length (sgn_le _)
    have := TokR.sign c (l ++ m) h1 h2 h3 h4 (by rw [e]; exact h5)
    rw [e, et] at this
    exact this
/-- A token is told by its own bytes and what they end at. -/
theorem lineL_app : ∀ (l m : List Nat), (∀ d r, m = d :: r → d = 10) → lineL (l ++ m) = lineL l
  | [], [], _ => rfl
  | [], c :: r, h => by
    show lineL (c :: r) = 0
    unfold lineL
    rw [if_pos (h c r rfl)]
  | c :: l, m, h => by
    show lineL (c :: (l ++ m)) = lineL (c :: l)
    unfold lineL
    rw [lineL_app l m h]
theorem head_app {l m : List Nat} (hm : ∀ d r, m = d :: r → BlP d) : (l ++ m).head? = some 45 ↔ l.head? = some 45 := by
  cases l with
  | cons a l => simp
  | nil =>
    cases m with
    | nil => simp
    | cons d r =>
      have := hm d r rfl
      simp
      intro e
      subst e
      unfold BlP at this
      omega
def Tok.sh (n : Nat) (t : Tok) : Tok := ⟨t.kind, t.text, t.n, t.pos + n⟩
/-- Places are told from the first one on. -/
theorem LexR.sh {l : List Nat} {p : Nat} {r : List Tok ⊕ Nat} (h : LexR l p r) : ∀ (n : Nat) (ts : List Tok), r = .inl ts → LexR l (p + n) (.inl (ts.map (Tok.sh n))) := by
  induction h with
  | nil p => intro n ts e; cases e; exact .nil _
  | blank c l p r hc _ ih => intro n ts e; exact .blank c l _ _ hc (by rw [show p + n + 1 = p + 1 + n by omega]; exact ih n ts e)
  | remark l p r _ ih => intro n ts e; exact .remark l _ _ (by rw [show p + n + lineL (45 :: 45 :: l) = p + lineL (45 :: 45 :: l) + n by omega]; exact ih n ts e)
  | wrong => intro n ts e; cases e
  | tok c l p k t v j ts h1 h2 ht _ ih =>
    intro n ts' e
    cases e
    exact .tok c l (p + n) k t v j _ h1 h2 ht (by rw [show p + n + j = p + j + n by omega]; exact ih n ts rfl)
  | bad => intro n ts e; cases e
theorem LexR.nonempty {l : List Nat} {p : Nat} {r : List Tok ⊕ Nat} (h : LexR l p r) : ∀ ts, r = .inl ts → ts ≠ [] := by
  induction h with
  | nil p => intro ts e; cases e; simp
  | blank _ _ _ _ _ _ ih => exact ih
  | remark _ _ _ _ ih => exact ih
  | wrong => intro ts e; cases e
  | tok => intro ts e; cases e; simp
  | bad => intro ts e; cases e
/-- Tokens of two texts with a line's end between. -/
theorem LexR.join {t : List Nat} {b : List Tok} {s : List Nat} {p : Nat} {r : List Tok ⊕ Nat} (h : LexR s p r) : ∀ a, r = .inl a → LexR t (p + s.length + 1) (.inl b) → LexR (s ++ 10 :: t) p (.inl (a.dropLast ++ b)) := by
  have hm : ∀ d r, (10 :: t : List Nat) = d :: r → BlP d := fun d r e => by injection e with e; subst e; unfold BlP; omega
  have hm10 : ∀ d r, (10 :: t : List Nat) = d :: r → d = 10 := fun d r e => by injection e with e; exact e.symm
  induction h with
  | nil p =>
    intro a e hb
    cases e
    exact .blank 10 t p _ (by unfold BlP; omega) hb
  | blank c l p r hc _ ih =>
    intro a e hb
    exact .blank c _ p _ hc (ih a e (by rw [show p + 1 + l.length + 1 = p + (c :: l).length + 1 by simp; omega]; exact hb))
  | remark l p r _ ih =>
    intro a e hb
    have el := lineL_app (45 :: 45 :: l) (10 :: t) hm10
    refine .remark (l ++ 10 :: t) p _ ?_
    have el' : lineL (45 :: 45 :: (l ++ 10 :: t)) = lineL (45 :: 45 :: l) := el
    have hle := lineL_le (45 :: 45 :: l)
    rw [el']
    have ed : (45 :: 45 :: (l ++ 10 :: t)).drop (lineL (45 :: 45 :: l)) = (45 :: 45 :: l).drop (lineL (45 :: 45 :: l)) ++ 10 :: t := List.drop_append_of_le_length (l₁ := 45 :: 45 :: l) hle
    rw [ed]
    refine ih a e ?_
    rw [List.length_drop, show p + lineL (45 :: 45 :: l) + ((45 :: 45 :: l).length - lineL (45 :: 45 :: l)) + 1 = p + (45 :: 45 :: l).length + 1 by omega]
    exact hb
  | wrong => intro a e; cases e
  | tok c l p k x v j ts h1 h2 ht hrest ih =>
    intro a e hb
    cases e
    have hj := ht.len
    have hne : ts ≠ [] := hrest.nonempty ts rfl
    rw [List.dropLast_cons_of_ne_nil hne]
    refine .tok c (l ++ 10 :: t) p k x v j (ts.dropLast ++ b) h1 (fun g => h2 ⟨g.1, (head_app hm).1 g.2⟩) (ht.app hm) ?_
    have ed : (c :: (l ++ 10 :: t)).drop j = (c :: l).drop j ++ 10 :: t := List.drop_append_of_le_length (l₁ := c :: l) hj.2
    rw [ed]
    refine ih ts rfl ?_
    rw [List.length_drop, show p + j + ((c :: l).length - j) + 1 = p + (c :: l).length + 1 by omega]
    exact hb
  | bad => intro a e; cases e
end Go.X

namespace Go.X
variable {H : AH} {S : LS}
/-- How a text is said between marks. -/
inductive EncR : List Nat → List Nat → Prop
  | nil : EncR [] []
  | one (s t : List Nat) (c : Nat) : EncR s t → c ≠ 92 → c ≠ 34 → c ≠ 39 → c ≠ 10 → EncR (s ++ [c]) (t ++ [c])
  | hex (s t : List Nat) (c a b : Nat) : EncR s t → hexv a = some (c / 16) → hexv b = some (c % 16) → EncR (s ++ [c]) (t ++ [92, 120, a, b])
theorem EncR.quo {q : Nat} (hq : q = 34 ∨ q = 39) {s t : List Nat} (h : EncR s t) : ∀ (rest s' : List Nat) (j : Nat), Quo q rest s' j → Quo q (t ++ rest) (s ++ s') (t.length + j) := by
  induction h with
  | nil => intro rest s' j h; rw [List.length_nil, Nat.zero_add]; exact h
  | one s t c _ h1 h2 h3 h4 ih =>
    intro rest s' j h
    rw [List.append_assoc, List.append_assoc, List.length_append, show t.length + [c].length + j = t.length + (j + 1) by simp; omega]
    exact ih _ _ _ (.one c rest s' j (by omega) h4 h1 h)
  | hex s t c a b _ ha hb ih =>
    intro rest s' j h
    rw [List.append_assoc, List.append_assoc, List.length_append, show t.length + [92, 120, a, b].length + j = t.length + (3 + j + 1) by simp; omega]
    refine ih _ _ _ (.esc (120 :: a :: b :: rest) s' c 3 j (by omega) ?_ h)
    simp only [esc]
    rw [if_neg (by omega), if_neg (by omega), if_neg (by omega), if_pos trivial, ha, hb]
    simp only [Option.some.injEq, Prod.mk.injEq, and_true]
    omega
theorem EncR.quoN {q : Nat} (hq : q = 34 ∨ q = 39) {s t : List Nat} (h : EncR s t) : ∀ rest : List Nat, QuoN q rest → QuoN q (t ++ rest) := by
  induction h with
  | nil => intro rest h; exact h
  | one s t c _ h1 h2 h3 h4 ih =>
    intro rest h
    rw [List.append_assoc]
    exact ih _ (.one c rest (by omega) h4 h1 h)
  | hex s t c a b _ ha hb ih =>
    intro rest h
    rw [List.append_assoc]
    refine ih _ (.esc (120 :: a :: b :: rest) (16 * (c / 16) + c % 16) 3 (by omega) ?_ h)
    simp only [esc]
    rw [if_neg (by omega), if_neg (by omega), if_neg (by omega), if_pos trivial, ha, hb]
theorem EncR.len {s t : List Nat} (h : EncR s t) : t.length ≤ 4 * s.length := by
  induction h with
  | nil => simp
  | one => simp; omega
  | hex => simp; omega
theorem lex_quoted {q : Nat} (hq : q = 34 ∨ q = 39) {s t : List Nat} (h : EncR s t) (hs : s.length ≤ 300) : LexR ([q] ++ t ++ [q]) 0 (.inl [⟨4, s, 0, 0⟩, ⟨0, [], 0, t.length + 2⟩]) := by
  have hQ := h.quo hq [q] [] 1 (.stop [])
  rw [List.append_nil] at hQ
  refine .tok q (t ++ [q]) 0 4 s 0 (t.length + 1 + 1) _ (by unfold BlP; omega) (by rintro ⟨g, _⟩; omega) (.quo q (t ++ [q]) s (t.length + 1) hq hQ (by omega)) ?_
  have e : (q :: (t ++ [q])).drop (t.length + 1 + 1) = [] := List.drop_of_length_le (by simp)
  rw [e, Nat.zero_add]
  exact .nil _
theorem lex_open {q : Nat} (hq : q = 34 ∨ q = 39) {s t : List Nat} (h : EncR s t) : LexR ([32] ++ [q] ++ t) 0 (.inr 1) := by
  have hQ := h.quoN hq [] .nil
  rw [List.append_nil] at hQ
  exact .blank 32 (q :: t) 0 _ (by unfold BlP; omega) (.wrong q t 1 (by unfold BlP; omega) (by rintro ⟨g, _⟩; omega) (.quo q t hq hQ))
theorem sub_B {l : List Nat} {i j a b : Nat} {k : AV → Prop} (h : B8 l) (hij : i ≤ j) (hj : j ≤ l.length) (hk : k (strA ((l.drop i).take (j - i)))) : pSliceT (strA l) (some (.int a (i : Int))) (some (.int b (j : Int))) k := by
  have := sub_A h hij hj hk
  exact this
theorem FrS.fld {sz n : Nat} {v : AV} {l : List AV} {i o : Nat} {q : Nat} {a : AV} {k : AV → Prop} (h : FrS S sz v n l) (hM : Mem H S) (hi : i < n) (ho : o < sz) (ha : l[i * sz + o]? = some a) (hk : k a) : pIdx sz v (.int q i) fun p => pFld o p fun p' => pLoad p' H k := by
  refine h.at_ hi fun b cs m hb hc he => ?_
  rw [pFld_ptr]
  exact pLoad_i hM hc (by rw [he o ho]; exact ha) hk
theorem wrapK_any {c : Nat} {z : Int} {k : Int → Prop} (h : ∀ y, k y) : wrapK c z k := wrapK_intro (h _)
def lowX : List Nat := [48, 49, 50, 51, 52, 53, 54, 55, 56, 57, 97, 98, 99, 100, 101, 102]
def uppX : List Nat := [48, 49, 50, 51, 52, 53, 54, 55, 56, 57, 65, 66, 67, 68, 69, 70]
theorem low_hex : ∀ x, x < 16 → ∃ a, lowX[x]? = some a ∧ hexv a = some x := fun x hx => by
  have : ∀ x, x < 16 → hexv (lowX.getD x 0) = some x := by decide
  exact ⟨lowX[x]'(by exact hx), List.getElem?_eq_getElem _, by have h := this x hx; rw [List.getD_eq_getElem?_getD, List.getElem?_eq_getElem (h := by exact hx)] at h; exact h⟩
theorem upp_hex : ∀ x, x < 16 → ∃ a, uppX[x]? = some a ∧ hexv a = some x := fun x hx => by
  have : ∀ x, x < 16 → hexv (uppX.getD x 0) = some x := by decide
  exact ⟨uppX[x]'(by exact hx), List.getElem?_eq_getElem _, by have h := this x hx; rw [List.getD_eq_getElem?_getD, List.getElem?_eq_getElem (h := by exact hx)] at h; exact h⟩
theorem drop_one {l : List Nat} {i a : Nat} (h : l[i]? = some a) : (l.drop i).take (i + 1 - i) = [a] := by
  have hi := (List.getElem?_eq_some_iff.1 h).1
  rw [Nat.add_sub_cancel_left, List.drop_eq_getElem_cons hi, (List.getElem?_eq_some_iff.1 h).2]
  rfl
theorem hex_b8 {a x : Nat} (h : hexv a = some x) : a < 256 := by
  have := hexv_mem' h
  omega
where
  hexv_mem' {c x : Nat} (h : hexv c = some x) : c ≤ 102 := by
    unfold hexv at h
    split at h
    · rename_i g; unfold DP at g; omega
    split at h
    · omega
    split at h
    · omega
    · cases h
end Go.X
namespace Go.Proofs.YthmjeojcciefcaaDoor
open Go Go.X Go.Proofs.YthmjeojcciefcaaDoor.G
set_option maxRecDepth 100000
set_option maxHeartbeats 1600000
set_option linter.unusedVariables false
set_option linter.unusedSimpArgs false
variable {H : AH} {S : LS} {K : KF}
noncomputable def R6 : f6_R := (toldT, g9)
noncomputable def g6 : AV → Bool → Int → AH → KF → Prop := f6_r R6
theorem g6_ok (ht : FunOk Tryd.prog 8 (fnX [] toldT)) : FunOk Tryd.prog 6 (fnX [.a, .b, .i 0] g6) := f6_rok R6 (CTblOk.cons ht (CTblOk.cons g9_ok CTblOk.nil))
theorem r6a : R6.1 = toldT := rfl
theorem r6b : R6.2 = g9 := rfl
theorem low_A : (AV.str 16 136107713667768957684761770045455085872) = strA lowX := by rfl
theorem upp_A : (AV.str 16 93405612720827812017303888595717861680) = strA uppX := by rfl
theorem f6_loop {s : List Nat} {q : Nat} {n : Int} (h8 : B8 s) (hs : s.length ≤ 300)
    (hK : ∀ t, EncR s t → B8 t → f6_p2 R6 K (strA s) (strA [q]) (strA t) H) :
    ∀ (m i : Nat) (t : List Nat), i ≤ s.length → s.length - i < m → EncR (s.take i) t → B8 t → f6_l3 R6 K m (strA s) n (strA [q]) (strA t) (i : Int) H := by
  intro m
  induction m with
  | zero => intro i t _ h; omega
  | succ m ih =>
    intro i t hi hm he ht8
    have htl := he.len
    rw [List.length_take] at htl
    show f6_q3 R6 K (f6_q6 R6 K (f6_q5 R6 K (f6_l3 R6 K m))) (f6_q7 R6 K (f6_q5 R6 K (f6_l3 R6 K m))) (f6_p2 R6 K) (strA s) n (strA [q]) (strA t) (i : Int) H
    unfold f6_q3
    simp only [sLen_A, cI_z, iLt_d]
    refine bI_dec (fun g => ?_) (fun g => ?_)
    · have hil : i < s.length := by omega
      obtain ⟨c, hc⟩ : ∃ c, s[i]? = some c := ⟨_, List.getElem?_eq_getElem hil⟩
      have hc8 := h8 c (List.mem_of_getElem? hc)
      have htk : s.take (i + 1) = s.take i ++ [c] := by rw [List.take_add_one, hc]; rfl
      have next : ∀ t', EncR (s.take (i + 1)) t' → B8 t' → f6_q5 R6 K (f6_l3 R6 K m) (strA s) n (strA [q]) (strA t') (i : Int) H := fun t' h1 h2 => by
        unfold f6_q5
        simp only [iadd, io1]
        refine w0 (by omega) (by omega) ?_
        exact ih (i + 1) t' (by omega) (by omega) h1 h2
      have hex : f6_q6 R6 K (f6_q5 R6 K (f6_l3 R6 K m)) (strA s) n (strA [q]) (strA t) (i : Int) (c : Int) H := by
        unfold f6_q6
        obtain ⟨a, ha1, ha2⟩ := low_hex (c / 16) (by omega)
        obtain ⟨b, hb1, hb2⟩ := upp_hex (c % 16) (by omega)
        have e16 : Int.ofNat 16 = 16 := rfl
        have e0 : Int.ofNat 0 = 0 := rfl
        rw [low_A, upp_A, iEq_d, e16]
        simp only [show decide ((16 : Int) = 0) = false from rfl, bI_ff]
        refine sCat_A (m := [92, 120]) (by simp; omega) ?_
        have ed : Int.tdiv (c : Int) 16 = ((c / 16 : Nat) : Int) := rfl
        have em : Int.tmod (c : Int) 16 = ((c % 16 : Nat) : Int) := rfl
        rw [ed, em]
        refine wrapK_i (z' := ((c / 16 : Nat) : Int)) (by rw [wrap1]; omega) ?_
        refine wrapK_i (z' := ((c / 16 : Nat) : Int)) (by rw [wrap1]; omega) ?_
        rw [iadd, io1]
        refine wrapK_i (z' := ((c / 16 + 1 : Nat) : Int)) (by rw [wrap1]; omega) ?_
        have l8 : B8 lowX := b8_lit (by decide)
        have u8 : B8 uppX := b8_lit (by decide)
        refine sub_B (i := c / 16) (j := c / 16 + 1) l8 (by omega) (by show c / 16 + 1 ≤ 16; omega) ?_
        rw [drop_one ha1]
        refine sCat_A (by simp; omega) ?_
        rw [forceI_eq, forceI_eq, iadd]
        refine wrapK_i (z' := ((c % 16 + 1 : Nat) : Int)) (by rw [wrap1]; omega) ?_
        refine sub_B (i := c % 16) (j := c % 16 + 1) u8 (by omega) (by show c % 16 + 1 ≤ 16; omega) ?_
        rw [drop_one hb1]
        refine sCat_A (by simp; omega) ?_
        have el : t ++ [92, 120] ++ [a] ++ [b] = t ++ [92, 120, a, b] := by simp
        rw [el]
        refine next _ (by rw [htk]; exact .hex _ _ c a b he ha2 hb2) (ht8.app (B8.cons (by omega) (B8.cons (by omega) (B8.cons (hex_b8 ha2) (B8.cons (hex_b8 hb2) B8.nil)))))
      refine sIdx_A h8 hc ?_
      have e32 : Int.ofNat 32 = 32 := rfl
      have e126 : Int.ofNat 126 = 126 := rfl
      have e92 : Int.ofNat 92 = 92 := rfl
      have e34 : Int.ofNat 34 = 34 := rfl
      have e39 : Int.ofNat 39 = 39 := rfl
      simp only [cI_z, iEq_d]
      rw [e32, e126, e92, e34, e39]
      refine bI_dec (fun _ => hex) (fun g1 => ?_)
      refine bI_dec (fun _ => hex) (fun g2 => ?_)
      refine bI_dec (fun _ => hex) (fun g3 => ?_)
      refine bI_dec (fun _ => hex) (fun g4 => ?_)
      refine bI_dec (fun _ => hex) (fun g5 => ?_)
      refine wrapK_any fun y => ?_
      rw [forceN_eq, forceN_eq]
      refine wrapK_any fun y' => ?_
      refine bI_dec (fun _ => hex) (fun _ => ?_)
      unfold f6_q7
      simp only [iadd, io1]
      refine w0 (by omega) (by omega) ?_
      refine sub_A (i := i) (j := i + 1) h8 (by omega) (by omega) ?_
      rw [drop_one hc]
      refine sCat_A (by simp; omega) ?_
      exact next _ (by rw [htk]; exact .one _ _ c he (by omega) (by omega) (by omega) (by omega)) (ht8.app (B8.cons hc8 B8.nil))
    · rw [List.take_of_length_le (by omega)] at he
      exact hK t he ht8
theorem g6_i {s : List Nat} {mark : Bool} {n : Int} (h8 : B8 s) (hM : Mem H S) (hT : TabS gl2 S) (hK : ∀ H', K (.ret (.bool true)) H') : g6 (strA s) mark n H K := by
  show f6_q0 R6 K (f6_q1 R6 K (f6_l3 R6 K G.NL)) (strA s) mark n H
  unfold f6_q0
  rw [r6a]
  simp only [sLen_A, cI_z, iLt_d]
  have e : Int.ofNat 300 = 300 := rfl
  have e0 : Int.ofNat 0 = 0 := rfl
  rw [e]
  refine bI_dec (fun g => ⟨⟨S, hM, gl2_gl hT⟩, by simp only [cR_ret, onB_b]; exact hK _⟩) (fun g => ?_)
  have hs : s.length ≤ 300 := by omega
  have go : ∀ q, q = 34 ∨ q = 39 → f6_q1 R6 K (f6_l3 R6 K G.NL) (strA s) n (strA [q]) H := fun q hq => by
    unfold f6_q1
    have hNL : G.NL = 1000000 := rfl
    refine f6_loop (t := []) (i := 0) h8 hs (fun t he ht8 => ?_) G.NL (Nat.zero_le _) (by omega) .nil B8.nil
    have htl := he.len
    have hq8 : B8 [q] := B8.cons (by omega) B8.nil
    show f6_q2 R6 K (f6_q4 R6 K) (strA s) (strA [q]) (strA t) H
    unfold f6_q2
    rw [r6b]
    refine sCat_A (by simp; omega) ?_
    refine sCat_A (by simp; omega) ?_
    refine g9_i ((hq8.app ht8).app hq8) (by simp; omega) hM hT (lex_quoted hq he hs) ?_
    intro H1 S1 v1 m1 x1 f1 _
    simp only [List.nil_append] at f1
    simp only [cR_ret, onTup_t, nthK_0, nthK_s, cI_z]
    refine sCat_A (l := [32]) (by simp) ?_
    refine sCat_A (by simp; omega) ?_
    refine g9_i (((B8.cons (by omega) B8.nil).app hq8).app ht8) (by simp; omega) m1 (hT.ext hM x1) (lex_open hq he) ?_
    intro H2 S2 m2 x2
    simp only [cR_ret, onTup_t, nthK_0, nthK_s, cI_z]
    have f2 : FrS S2 4 v1 2 (tcs [⟨4, s, 0, 0⟩, ⟨0, [], 0, t.length + 2⟩]) := f1.keep m1 fun b _ hb => x2.ob b hb
    unfold f6_q4
    rw [r6a]
    refine ⟨⟨S2, m2, gl2_gl (hT.ext hM (x1.trans x2))⟩, ?_⟩
    simp only [cR_ret, onB_b, bI_tt, iEq_d]
    rw [e0]
    simp only [decide_true, bI_tt]
    refine f2.len ?_
    have e2 : Int.ofNat 2 = ((2 : Nat) : Int) := rfl
    have e4 : Int.ofNat 4 = ((4 : Nat) : Int) := rfl
    have e14 : Int.ofNat 14 = 14 := rfl
    have e1 : Int.ofNat 1 = ((1 : Nat) : Int) := rfl
    rw [e2, e4, e14, e1]
    simp only [cI_z, decide_true, bI_tt]
    refine f2.fld (i := 0) (o := 0) m2 (by omega) (by omega) (a := .int 0 ((4 : Nat) : Int)) rfl ?_
    simp only [cI_z, decide_true, bI_tt]
    refine f2.fld (i := 0) (o := 1) m2 (by omega) (by omega) (a := strA s) rfl ?_
    refine sEq_A h8 h8 ?_
    simp only [onB_b, decide_true, bI_tt]
    exact hK _
  cases mark with
  | true => exact go 39 (.inr rfl)
  | false => exact go 34 (.inl rfl)
end Go.Proofs.YthmjeojcciefcaaDoor
