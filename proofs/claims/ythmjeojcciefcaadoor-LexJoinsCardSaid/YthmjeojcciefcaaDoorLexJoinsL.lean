/- The law LexJoins over lists. No condition: lemmas. -/
import Derived.Test.YthmjeojcciefcaaDoorLb
set_option linter.unusedVariables false
set_option linter.unusedSimpArgs false
namespace Go.X
theorem runL_app : ∀ (l m : List Nat), (∀ c r, m = c :: r → ¬ (LP c ∨ DP c)) → runL (l ++ m) = runL l
  | [], [], _ => rfl
  | [], c :: r, h => by
    show runL (c :: r) = 0
    unfold runL
    rw [if_neg (h c r rfl)]
  | c :: l, m, h => by
    show runL (c :: (l ++ m)) = runL (c :: l)
    unfold runL
    rw [runL_app l m h]
/-- What stands behind a stroke is told by at most three bytes. -/
theorem esc_app {l m : List Nat} {v k : Nat} (h : esc l = some (v, k)) : esc (l ++ m) = some (v, k) := by
  cases l with
  | nil => cases h
  | cons c l =>
    simp only [List.cons_append, esc] at h ⊢
    split at h
    · rw [if_pos (by assumption)]; exact h
    rename_i h1
    rw [if_neg h1]
    split at h
    · rw [if_pos (by assumption)]; exact h
    rename_i h2
    rw [if_neg h2]
    split at h
    · rw [if_pos (by assumption)]; exact h
    rename_i h3
    rw [if_neg h3]
    split at h
    · rename_i h4
      rw [if_pos h4]
      match l, h with
      | a :: b :: r, h => exact h
      | [a], h => cases h
      | [], h => cases h
    · cases h
theorem Quo.app {q : Nat} {l t : List Nat} {j : Nat} (h : Quo q l t j) (m : List Nat) : Quo q (l ++ m) t j := by
  induction h with
  | stop l => exact .stop _
  | one c l t j h1 h2 h3 _ ih => exact .one c _ t j h1 h2 h3 ih
  | esc l t v k j h1 he _ ih =>
    refine .esc (l ++ m) t v k j h1 (esc_app he) ?_
    rw [List.drop_append_of_le_length (esc_len he).2]
    exact ih
theorem sgnL_app {c : Nat} {l m : List Nat} (h : ∀ d r, m = d :: r → BlP d) (hs : sgnL (c :: l) ≠ 0 ∨ l ≠ []) : sgnL (c :: l ++ m) = sgnL (c :: l) := by
  cases l with
  | cons b l => rfl
  | nil =>
    cases m with
    | nil => rfl
    | cons d r =>
      have hd := h d r rfl
      show sgnL (c :: d :: r) = sgnL [c]
      simp only [sgnL]
      rw [if_neg]
      intro g
      simp only [twos, List.mem_cons, List.not_mem_nil, or_false, List.cons.injEq, and_true] at g
      unfold BlP at hd
      omega
/-- A token stays where a blank, or nothing, is put behind the text. -/
theorem TokR.app {l : List Nat} {k : Nat} {t : List Nat} {v j : Nat} (h : TokR l k t v j) {m : List Nat} (hm : ∀ d r, m = d :: r → BlP d) : TokR (l ++ m) k t v j := by
  have hr : ∀ l, runL (l ++ m) = runL l := fun l => runL_app l m fun c r e => by
    have := hm c r e
    unfold BlP at this; unfold LP DP; omega
  have htk : ∀ c l, (c :: l ++ m).take (runL (c :: l)) = (c :: l).take (runL (c :: l)) := fun c l => List.take_append_of_le_length (runL_le _)
  cases h with
  | num c l v h1 h2 =>
    have := TokR.num c (l ++ m) v h1 (by
      have e : runL (c :: (l ++ m)) = runL (c :: l) := hr (c :: l)
      rw [e]
      have := htk c l
      rw [List.cons_append] at this
      rw [this]; exact h2)
    have e : runL (c :: (l ++ m)) = runL (c :: l) := hr (c :: l)
    rw [e] at this
    exact this
  | word c l h1 h2 h3 =>
    have e : runL (c :: (l ++ m)) = runL (c :: l) := hr (c :: l)
    have et := htk c l
    rw [List.cons_append] at et
    have := TokR.word c (l ++ m) h1 (by rw [e]; exact h2) (by rw [e, et]; exact h3)
    rw [e, et] at this
    exact this
  | name c l h1 h2 h3 =>
    have e : runL (c :: (l ++ m)) = runL (c :: l) := hr (c :: l)
    have et := htk c l
    rw [List.cons_append] at et
    have := TokR.name c (l ++ m) h1 (by rw [e]; exact h2) (by rw [e, et]; exact h3)
    rw [e, et] at this
    exact this
  | quo c l t j h1 h2 h3 => exact .quo c (l ++ m) t j h1 (h2.app m) h3
  | sign c l h1 h2 h3 h4 h5 =>
    have e := sgnL_app (c := c) (l := l) (m := m) hm (.inl h5)
    rw [List.cons_append] at e
    have et : (c :: (l ++ m)).take (sgnL (c :: l)) = (c :: l).take (sgnL (c :: l)) := by
      rw [← List.cons_append]
      exact List.take_append_of_le_length (sgn_le _)
    have := TokR.sign c (l ++ m) h1 h2 h3 h4 (by rw [e]; exact h5)
    rw [e, et] at this
    exact this
/-- A token is told by its own bytes and what they end at. -/
theorem lineL_app : ∀ (l m : List Nat), (∀ d r, m = d :: r → d = 10) → lineL (l ++ m) = lineL l
  | [], [], _ => rfl
  | [], c :: r, h => by
    show lineL (c :: r) = 0
    unfold lineL
    rw [if_pos (h c r rfl)]
  | c :: l, m, h => by
    show lineL (c :: (l ++ m)) = lineL (c :: l)
    unfold lineL
    rw [lineL_app l m h]
theorem head_app {l m : List Nat} (hm : ∀ d r, m = d :: r → BlP d) : (l ++ m).head? = some 45 ↔ l.head? = some 45 := by
  cases l with
  | cons a l => simp
  | nil =>
    cases m with
    | nil => simp
    | cons d r =>
      have := hm d r rfl
      simp
      intro e
      subst e
      unfold BlP at this
      omega
def Tok.sh (n : Nat) (t : Tok) : Tok := ⟨t.kind, t.text, t.n, t.pos + n⟩
/-- Places are told from the first one on. -/
theorem LexR.sh {l : List Nat} {p : Nat} {r : List Tok ⊕ Nat} (h : LexR l p r) : ∀ (n : Nat) (ts : List Tok), r = .inl ts → LexR l (p + n) (.inl (ts.map (Tok.sh n))) := by
  induction h with
  | nil p => intro n ts e; cases e; exact .nil _
  | blank c l p r hc _ ih => intro n ts e; exact .blank c l _ _ hc (by rw [show p + n + 1 = p + 1 + n by omega]; exact ih n ts e)
  | remark l p r _ ih => intro n ts e; exact .remark l _ _ (by rw [show p + n + lineL (45 :: 45 :: l) = p + lineL (45 :: 45 :: l) + n by omega]; exact ih n ts e)
  | wrong => intro n ts e; cases e
  | tok c l p k t v j ts h1 h2 ht _ ih =>
    intro n ts' e
    cases e
    exact .tok c l (p + n) k t v j _ h1 h2 ht (by rw [show p + n + j = p + j + n by omega]; exact ih n ts rfl)
  | bad => intro n ts e; cases e
theorem LexR.nonempty {l : List Nat} {p : Nat} {r : List Tok ⊕ Nat} (h : LexR l p r) : ∀ ts, r = .inl ts → ts ≠ [] := by
  induction h with
  | nil p => intro ts e; cases e; simp
  | blank _ _ _ _ _ _ ih => exact ih
  | remark _ _ _ _ ih => exact ih
  | wrong => intro ts e; cases e
  | tok => intro ts e; cases e; simp
  | bad => intro ts e; cases e
/-- Tokens of two texts with a line's end between. -/
theorem LexR.join {t : List Nat} {b : List Tok} {s : List Nat} {p : Nat} {r : List Tok ⊕ Nat} (h : LexR s p r) : ∀ a, r = .inl a → LexR t (p + s.length + 1) (.inl b) → LexR (s ++ 10 :: t) p (.inl (a.dropLast ++ b)) := by
  have hm : ∀ d r, (10 :: t : List Nat) = d :: r → BlP d := fun d r e => by injection e with e; subst e; unfold BlP; omega
  have hm10 : ∀ d r, (10 :: t : List Nat) = d :: r → d = 10 := fun d r e => by injection e with e; exact e.symm
  induction h with
  | nil p =>
    intro a e hb
    cases e
    exact .blank 10 t p _ (by unfold BlP; omega) hb
  | blank c l p r hc _ ih =>
    intro a e hb
    exact .blank c _ p _ hc (ih a e (by rw [show p + 1 + l.length + 1 = p + (c :: l).length + 1 by simp; omega]; exact hb))
  | remark l p r _ ih =>
    intro a e hb
    have el := lineL_app (45 :: 45 :: l) (10 :: t) hm10
    refine .remark (l ++ 10 :: t) p _ ?_
    have el' : lineL (45 :: 45 :: (l ++ 10 :: t)) = lineL (45 :: 45 :: l) := el
    have hle := lineL_le (45 :: 45 :: l)
    rw [el']
    have ed : (45 :: 45 :: (l ++ 10 :: t)).drop (lineL (45 :: 45 :: l)) = (45 :: 45 :: l).drop (lineL (45 :: 45 :: l)) ++ 10 :: t := List.drop_append_of_le_length (l₁ := 45 :: 45 :: l) hle
    rw [ed]
    refine ih a e ?_
    rw [List.length_drop, show p + lineL (45 :: 45 :: l) + ((45 :: 45 :: l).length - lineL (45 :: 45 :: l)) + 1 = p + (45 :: 45 :: l).length + 1 by omega]
    exact hb
  | wrong => intro a e; cases e
  | tok c l p k x v j ts h1 h2 ht hrest ih =>
    intro a e hb
    cases e
    have hj := ht.len
    have hne : ts ≠ [] := hrest.nonempty ts rfl
    rw [List.dropLast_cons_of_ne_nil hne]
    refine .tok c (l ++ 10 :: t) p k x v j (ts.dropLast ++ b) h1 (fun g => h2 ⟨g.1, (head_app hm).1 g.2⟩) (ht.app hm) ?_
    have ed : (c :: (l ++ 10 :: t)).drop j = (c :: l).drop j ++ 10 :: t := List.drop_append_of_le_length (l₁ := c :: l) hj.2
    rw [ed]
    refine ih ts rfl ?_
    rw [List.length_drop, show p + j + ((c :: l).length - j) + 1 = p + (c :: l).length + 1 by omega]
    exact hb
  | bad => intro a e; cases e
end Go.X

namespace Go.X
variable {H : AH} {S : LS}
theorem iEqB_same {z : Int} {k : Bool → Prop} (h : k true) : iEqB 0 (.int 0 z) (.int 0 z) k := by
  show bT (Nat.beq 0 0) (bT (Nat.beq 0 0) (k (iEq z z)))
  refine bT_i rfl (bT_i rfl ?_)
  rw [iEq_d, decide_eq_true rfl]
  exact h
theorem sEqB_same {l : List Nat} {k : Bool → Prop} (h : k true) : sEqB (strA l) (strA l) k := by
  show k (Nat.beq l.length l.length && Nat.beq (num l) (num l))
  rw [Nat.beq_refl, Nat.beq_refl]
  exact h
theorem onAgg_l (l : List AV) (k : List AV → Prop) : onAgg (.agg l) k = k l := rfl
/-- Two tokens held against each other that are the same. -/
theorem tok_same {t : Tok} {k : Bool → Prop} (h : k true) : nthK t.cs 0 fun v10 => nthK t.cs 0 fun v11 => iEqB 0 v10 v11 fun e12 => nthK t.cs 1 fun v13 => nthK t.cs 1 fun v14 => sEqB v13 v14 fun e15 => nthK t.cs 2 fun v16 => nthK t.cs 2 fun v17 => iEqB 0 v16 v17 fun e18 => nthK t.cs 3 fun v19 => nthK t.cs 3 fun v20 => iEqB 0 v19 v20 fun e21 => k (e12 && (e15 && (e18 && (e21 && true)))) := by
  unfold Tok.cs
  simp only [nthK_0, nthK_s]
  refine iEqB_same ?_
  refine sEqB_same ?_
  refine iEqB_same ?_
  refine iEqB_same ?_
  exact h
theorem FrS.ext {S' : LS} {sz n : Nat} {v : AV} {l : List AV} (h : FrS S sz v n l) (hM : Mem H S) (hx : Ext S S') : FrS S' sz v n l := h.keep hM fun b _ hb => hx.ob b hb
theorem LexR.few {l : List Nat} {p : Nat} {r : List Tok ⊕ Nat} (h : LexR l p r) : ∀ ts, r = .inl ts → ts.length ≤ l.length + 1 := by
  induction h with
  | nil p => intro ts e; cases e; simp
  | blank c l p r _ _ ih => intro ts e; have := ih ts e; simp; omega
  | remark l p r _ ih => intro ts e; have := ih ts e; simp at this ⊢; omega
  | wrong => intro ts e; cases e
  | tok c l p k t n j ts _ _ ht _ ih =>
    intro ts' e
    cases e
    have := ih ts rfl
    have := ht.len
    simp at *
    omega
  | bad => intro ts e; cases e
theorem LexR.pos {l : List Nat} {p : Nat} {r : List Tok ⊕ Nat} (h : LexR l p r) : ∀ ts, r = .inl ts → ∀ t ∈ ts, p ≤ t.pos ∧ t.pos ≤ p + l.length := by
  induction h with
  | nil p => intro ts e t ht; cases e; simp at ht; subst ht; simp
  | blank c l p r _ _ ih => intro ts e t ht; have := ih ts e t ht; simp; omega
  | remark l p r _ ih => intro ts e t ht; have := ih ts e t ht; have := lineL_le (45 :: 45 :: l); simp at *; omega
  | wrong => intro ts e; cases e
  | tok c l p k x n j ts _ _ htk _ ih =>
    intro ts' e t ht
    cases e
    have hl := htk.len
    rcases List.mem_cons.1 ht with g | g
    · subst g; simp
    · have := ih ts rfl t g
      rw [List.length_drop] at this
      omega
  | bad => intro ts e; cases e
end Go.X
namespace Go.Proofs.YthmjeojcciefcaaDoor
open Go Go.X Go.Proofs.YthmjeojcciefcaaDoor.G
set_option maxRecDepth 100000
set_option maxHeartbeats 1600000
set_option linter.unusedVariables false
set_option linter.unusedSimpArgs false
variable {H : AH} {S : LS} {K : KF}
noncomputable def R7 : f7_R := (toldT, g9)
noncomputable def g7 : AV → AV → AH → KF → Prop := f7_r R7
theorem g7_ok (ht : FunOk Tryd.prog 8 (fnX [] toldT)) : FunOk Tryd.prog 7 (fnX [.a, .a] g7) := f7_rok R7 (CTblOk.cons ht (CTblOk.cons g9_ok CTblOk.nil))
theorem r7a : R7.1 = toldT := rfl
theorem r7b : R7.2 = g9 := rfl
theorem f7_loop {S0 : LS} {H0 : AH} (hM0 : Mem H0 S0) (hT : TabS gl2 S0) {s : List Nat} {A B C : List Tok} {va vb vc : AV} (hs : s.length ≤ 300) (hA : A ≠ []) (hAl : A.length ≤ 1000) (hBl : B.length ≤ 1000) (hBp : ∀ t ∈ B, t.pos ≤ 1000) (hC : C = A.dropLast ++ B.map (Tok.sh (s.length + 1))) (hK : ∀ H', K (.ret (.bool true)) H') :
    ∀ (q i : Nat) (H : AH) (S : LS), i ≤ C.length → C.length - i < q → Mem H S → Ext S0 S → FrS S 4 va A.length (tcs A) → FrS S 4 vb B.length (tcs B) → FrS S 4 vc C.length (tcs C) → f7_l4 R7 K q (strA s) va vb vc (i : Int) H := by
  intro q
  induction q with
  | zero => intro i H S _ h; omega
  | succ q ih =>
    intro i H S hi hq hM hx fa fb fc
    show f7_q4 R7 K (f7_q6 R7 K (f7_q5 R7 K (f7_l4 R7 K q))) (f7_q5 R7 K (f7_l4 R7 K q)) (f7_q3 R7 K) (strA s) va vb vc (i : Int) H
    unfold f7_q4
    have hA1 : 1 ≤ A.length := by cases A with | nil => exact absurd rfl hA | cons => simp
    have hCl : C.length = A.length - 1 + B.length := by rw [hC]; simp
    have next : ∀ {H' : AH} {S' : LS}, i < C.length → Mem H' S' → Ext S S' → f7_q5 R7 K (f7_l4 R7 K q) (strA s) va vb vc (i : Int) H' := fun {H' S'} g m x => by
      unfold f7_q5
      simp only [iadd, io1]
      refine w0 (by omega) (by omega) ?_
      exact ih (i + 1) H' S' (by omega) (by omega) m (hx.trans x) (fa.ext hM x) (fb.ext hM x) (fc.ext hM x)
    refine fc.len ?_
    simp only [cI_z, iLt_d]
    refine bI_dec (fun g => ?_) (fun g => ?_)
    · have hiC : i < C.length := by omega
      obtain ⟨t, ht⟩ : ∃ t, C[i]? = some t := ⟨_, List.getElem?_eq_getElem hiC⟩
      refine fa.len ?_
      simp only [cI_z, isub, io1]
      refine w0 (by omega) (by omega) ?_
      refine bI_dec (fun g2 => ?_) (fun g2 => ?_)
      · have hiA : i < A.length - 1 := by omega
        have htA : A[i]? = some t := by
          rw [hC, List.getElem?_append_left (by rw [List.length_dropLast]; exact hiA), List.getElem?_dropLast, if_pos hiA] at ht
          exact ht
        refine fc.load hM hiC ?_
        refine fa.load hM (by omega) ?_
        rw [tcs_get ht, tcs_get htA]
        simp only [onAgg_l]
        refine tok_same (k := fun b => bI (!b) _ _) ?_
        simp only [Bool.not_true, bI_ff]
        exact next hiC hM (Ext.refl S)
      · refine fa.len ?_
        simp only [cI_z, iadd, isub]
        refine w0 (by omega) (by omega) ?_
        refine w0 (by omega) (by omega) ?_
        have hj : i - (A.length - 1) < B.length := by omega
        obtain ⟨u, hu⟩ : ∃ u, B[i - (A.length - 1)]? = some u := ⟨_, List.getElem?_eq_getElem hj⟩
        have htu : t = u.sh (s.length + 1) := by
          rw [hC, List.getElem?_append_right (by rw [List.length_dropLast]; omega), List.length_dropLast, List.getElem?_map, hu] at ht
          cases ht
          rfl
        have hup := hBp u (List.mem_of_getElem? hu)
        rw [show (i : Int) - (A.length : Int) + 1 = ((i - (A.length - 1) : Nat) : Int) by omega]
        refine fb.load hM hj ?_
        rw [tcs_get hu]
        refine onAH_i (pNew_i hM (fun a ha => ?_) fun H1 m1 => ?_)
        · simp only [List.mem_cons, List.not_mem_nil, or_false] at ha
          rcases ha with rfl | rfl | rfl | rfl <;> rfl
        refine pStoreN_i m1 (LS.push_ob_self _ _) (by omega) rfl (by show 0 + 4 ≤ 4; omega) (fun a ha => ?_) fun H2 m2 => ?_
        · simp only [Tok.cs, List.mem_cons, List.not_mem_nil, or_false] at ha
          rcases ha with rfl | rfl | rfl | rfl <;> rfl
        have m2 : Mem H2 ((S.push (.cells [.int 0 (.ofNat 0), .str 0 0, .int 0 (.ofNat 0), .int 0 (.ofNat 0)] 0)).set S.n (.cells u.cs 0)) := m2
        unfold f7_q6
        rw [pFld_ptr, Nat.zero_add]
        refine pLoad_i m2 (LS.set_ob_self _ _ _) (v := .int 0 (u.pos : Int)) rfl ?_
        simp only [cI_z, sLen_A, iadd, io1]
        refine w0 (by omega) (by omega) ?_
        refine w0 (by omega) (by omega) ?_
        rw [pFld_ptr, Nat.zero_add]
        refine pStore_i m2 (LS.set_ob_self _ _ _) (by omega) (by show 3 < 4; omega) rfl fun H3 m3 => ?_
        have m3 : Mem H3 (((S.push (.cells [.int 0 (.ofNat 0), .str 0 0, .int 0 (.ofNat 0), .int 0 (.ofNat 0)] 0)).set S.n (.cells u.cs 0)).set S.n (.cells t.cs 0)) := by
          have e : u.cs.set 3 (.int 0 ((u.pos : Int) + (s.length : Int) + 1)) = t.cs := by
            rw [htu]
            show [AV.int 0 (u.kind : Int), strA u.text, .int 0 (u.n : Int), .int 0 ((u.pos : Int) + (s.length : Int) + 1)] = [AV.int 0 (u.kind : Int), strA u.text, .int 0 (u.n : Int), .int 0 ((u.pos + (s.length + 1) : Nat) : Int)]
            rw [show (u.pos : Int) + (s.length : Int) + 1 = ((u.pos + (s.length + 1) : Nat) : Int) by omega]
          rw [← e]; exact m3
        have x3 : Ext S (((S.push (.cells [.int 0 (.ofNat 0), .str 0 0, .int 0 (.ofNat 0), .int 0 (.ofNat 0)] 0)).set S.n (.cells u.cs 0)).set S.n (.cells t.cs 0)) := ((Ext.push S _).set (Nat.le_refl _) _).set (Nat.le_refl _) _
        refine (fc.ext hM x3).load m3 hiC ?_
        refine pLoadN_i m3 (LS.set_ob_self _ _ _) (by show 0 + 4 ≤ 4; omega) ?_
        rw [tcs_get ht]
        show onAgg (.agg t.cs) fun l14 => onAgg (.agg t.cs) _
        simp only [onAgg_l]
        refine tok_same (k := fun b => bI (!b) _ _) ?_
        simp only [Bool.not_true, bI_ff]
        exact next hiC m3 x3
    · unfold f7_q3
      rw [r7a]
      refine ⟨⟨S, hM, gl2_gl (hT.ext hM0 hx)⟩, ?_⟩
      simp only [cR_ret, onB_b]
      exact hK _
theorem g7_i {s t : List Nat} (h8 : B8 s) (h8t : B8 t) (hM : Mem H S) (hT : TabS gl2 S) (hK : ∀ H', K (.ret (.bool true)) H') : g7 (strA s) (strA t) H K := by
  show f7_q0 R7 K (f7_q1 R7 K (f7_p2 R7 K)) (strA s) (strA t) H
  unfold f7_q0
  rw [r7a, r7b]
  simp only [sLen_A, cI_z, iLt_d]
  have e : Int.ofNat 300 = 300 := rfl
  have e0 : Int.ofNat 0 = 0 := rfl
  rw [e]
  refine bI_dec (fun g => ⟨⟨S, hM, gl2_gl hT⟩, by simp only [cR_ret, onB_b]; exact hK _⟩) (fun g => ?_)
  refine bI_dec (fun g => ⟨⟨S, hM, gl2_gl hT⟩, by simp only [cR_ret, onB_b]; exact hK _⟩) (fun g2 => ?_)
  have hs : s.length ≤ 300 := by omega
  have hts : t.length ≤ 300 := by omega
  obtain ⟨r, hr⟩ := lex_ex (s.length + 1) s 0 (by omega)
  obtain ⟨r', hr'⟩ := lex_ex (t.length + 1) t 0 (by omega)
  have told : ∀ {H' : AH} {S' : LS}, Mem H' S' → Ext S S' → toldT H' fun o H2 => cR K o H2 fun v3 => onB v3 fun z4 => K (.ret (.bool z4)) H2 := fun {H' S'} m x => ⟨⟨S', m, gl2_gl (hT.ext hM x)⟩, by simp only [cR_ret, onB_b]; exact hK _⟩
  have one : ∀ n : Nat, ((n : Int) = 14) → True := fun _ _ => trivial
  refine g9_i h8 (by omega) hM hT hr ?_
  -- the first text
  have second : ∀ {H1 : AH} {S1 : LS} (va : AV) (za : Int), Mem H1 S1 → Ext S S1 → (za = 0 ∧ (∃ A, r = .inl A ∧ FrS S1 4 va A.length (tcs A)) ∨ za = 14) →
      g9 (strA t) H1 fun o24 H25 => cR K o24 H25 fun v26 => onTup v26 fun l27 => nthK l27 0 fun v28 => onTup v26 fun l29 => nthK l29 1 fun v30 => cI 0 v30 fun z31 => onTup v26 fun l32 => nthK l32 2 fun v33 => cI 0 v33 fun z34 => f7_q1 R7 K (f7_p2 R7 K) (strA s) (strA t) va za v28 z31 H25 := by
    intro H1 S1 va za m1 x1 ha
    have third : ∀ {H2 : AH} {S2 : LS} (vb : AV) (zb : Int), Mem H2 S2 → Ext S1 S2 → (zb = 0 ∧ (∃ B, r' = .inl B ∧ FrS S2 4 vb B.length (tcs B)) ∨ zb = 14) → f7_q1 R7 K (f7_p2 R7 K) (strA s) (strA t) va za vb zb H2 := by
      intro H2 S2 vb zb m2 x2 hb
      unfold f7_q1
      rw [r7a, r7b, iEq_d, iEq_d, e0]
      rcases ha with ⟨rfl, A, rfl, fa⟩ | rfl
      · simp only [decide_true, Bool.not_true, bI_ff]
        rcases hb with ⟨rfl, B, rfl, fb⟩ | rfl
        · simp only [decide_true, Bool.not_true, bI_ff]
          refine sCat_A (m := [10]) (by simp; omega) ?_
          refine sCat_A (by simp; omega) ?_
          have hj := hr.join A rfl (by
            have := hr'.sh (s.length + 1) B rfl
            rw [show 0 + (s.length + 1) = 0 + s.length + 1 by omega] at this
            exact this)
          have el : s ++ [10] ++ t = s ++ 10 :: t := by simp
          rw [el]
          refine g9_i (h8.app (B8.cons (by omega) h8t)) (by simp; omega) m2 (hT.ext hM (x1.trans x2)) hj ?_
          intro H3 S3 vc m3 x3 fc _
          simp only [List.nil_append] at fc
          simp only [cR_ret, onTup_t, nthK_0, nthK_s, cI_z, iEq_d, decide_true, Bool.not_true, bI_ff]
          have hA := hr.nonempty A rfl
          have hAl := hr.few A rfl
          have hBl := hr'.few B rfl
          have hA1 : 1 ≤ A.length := by cases A with | nil => exact absurd rfl hA | cons => simp
          refine fc.len ?_
          refine (fa.ext m1 (x2.trans x3)).len ?_
          refine (fb.ext m2 x3).len ?_
          simp only [cI_z, iadd, isub, io1]
          refine w0 (by omega) (by omega) ?_
          refine w0 (by omega) (by omega) ?_
          have hl : ((A.dropLast ++ B.map (Tok.sh (s.length + 1))).length : Int) = (A.length : Int) + (B.length : Int) - 1 := by
            rw [List.length_append, List.length_dropLast, List.length_map]; omega
          rw [decide_eq_true hl]
          simp only [Bool.not_true, bI_ff]
          show f7_q2 R7 K (f7_l4 R7 K G.NL) (strA s) va vb vc H3
          unfold f7_q2
          have hNL : G.NL = 1000000 := rfl
          refine f7_loop hM hT hs hA (by omega) (by omega) (fun u hu => by have := hr'.pos B rfl u hu; omega) rfl hK G.NL 0 H3 S3 (Nat.zero_le _) ?_ m3 ((x1.trans x2).trans x3) (fa.ext m1 (x2.trans x3)) (fb.ext m2 x3) fc
          rw [List.length_append, List.length_dropLast, List.length_map]; omega
        · rw [decide_eq_false (by omega)]
          simp only [Bool.not_false, bI_tt]
          exact told m2 (x1.trans x2)
      · rw [decide_eq_false (by omega)]
        simp only [Bool.not_false, bI_tt]
        exact told m2 (x1.trans x2)
    refine g9_i h8t (by omega) m1 (hT.ext hM x1) hr' ?_
    cases r' with
    | inl B =>
      intro H2 S2 v2 m2 x2 f2 _
      simp only [List.nil_append] at f2
      simp only [cR_ret, onTup_t, nthK_0, nthK_s, cI_z]
      exact third v2 0 m2 x2 (.inl ⟨rfl, B, rfl, f2⟩)
    | inr n =>
      intro H2 S2 m2 x2
      simp only [cR_ret, onTup_t, nthK_0, nthK_s, cI_z]
      exact third .nslice 14 m2 x2 (.inr rfl)
  cases r with
  | inl A =>
    intro H1 S1 v1 m1 x1 f1 _
    simp only [List.nil_append] at f1
    simp only [cR_ret, onTup_t, nthK_0, nthK_s, cI_z]
    exact second v1 0 m1 x1 (.inl ⟨rfl, A, rfl, f1⟩)
  | inr n =>
    intro H1 S1 m1 x1
    simp only [cR_ret, onTup_t, nthK_0, nthK_s, cI_z]
    exact second .nslice 14 m1 x1 (.inr rfl)
end Go.Proofs.YthmjeojcciefcaaDoor
