/- Memory as lists; texts and scores in order; the first memory of a call. No condition: definitions and lemmas. -/
import Derived.Test.YtpfnalokeeidkaaDoorXb
import Derived.Deep.Slices
import Derived.WalkKit
import Derived.Below
import Derived.WideShapes
import Derived.ChangeArms
set_option linter.unusedVariables false
set_option linter.unusedSimpArgs false
namespace Go.X

/-- What a block holds, its cells as a list. -/
inductive LObj where
  | cells (l : List AV) (m : Nat)
  | map (es : List AEnt) (cl : Nat)
  | iter (n x pos : Nat)
  | dead
structure LS where
  n : Nat
  ob : Nat → LObj
def LS.set (S : LS) (b : Nat) (o : LObj) : LS := ⟨S.n, fun x => if x = b then o else S.ob x⟩
def LS.push (S : LS) (o : LObj) : LS := ⟨S.n + 1, fun x => if x = S.n then o else S.ob x⟩
@[simp] theorem LS.set_n (S : LS) (b : Nat) (o : LObj) : (S.set b o).n = S.n := rfl
@[simp] theorem LS.push_n (S : LS) (o : LObj) : (S.push o).n = S.n + 1 := rfl
theorem LS.set_ob (S : LS) (b : Nat) (o : LObj) (x : Nat) : (S.set b o).ob x = if x = b then o else S.ob x := rfl
theorem LS.push_ob (S : LS) (o : LObj) (x : Nat) : (S.push o).ob x = if x = S.n then o else S.ob x := rfl
@[simp] theorem LS.set_ob_self (S : LS) (b : Nat) (o : LObj) : (S.set b o).ob b = o := if_pos rfl
@[simp] theorem LS.push_ob_self (S : LS) (o : LObj) : (S.push o).ob S.n = o := if_pos rfl
theorem LS.set_ob_ne (S : LS) {b : Nat} (o : LObj) {x : Nat} (h : x ≠ b) : (S.set b o).ob x = S.ob x := if_neg h
theorem LS.push_ob_ne (S : LS) (o : LObj) {x : Nat} (h : x ≠ S.n) : (S.push o).ob x = S.ob x := if_neg h
theorem LS.push_ob_lt (S : LS) (o : LObj) {x : Nat} (h : x < S.n) : (S.push o).ob x = S.ob x := if_neg (Nat.ne_of_lt h)

def LR : LObj → AObj → Prop
  | .cells l m, .cells c n m' => n = l.length ∧ m' = m ∧ ∀ i : Nat, c.get? i = l[i]?
  | .map es cl, .map es' cl' => es' = es ∧ cl' = cl
  | .iter n x p, .iter n' x' p' => n' = n ∧ x' = x ∧ p' = p
  | .dead, .dead => True
  | _, _ => False
structure Mem (H : AH) (S : LS) : Prop where
  n : H.n = S.n
  ob : ∀ b, LR (S.ob b) (H.at b)
  dom : ∀ b, (H.t.get? b).isSome = true ↔ b < H.n

theorem Bt.setK_i {α : Type} (t : Bt α) : ∀ (i : Nat) (v : α) (k : Bt α → Prop), (∀ j, j < i → (t.get? j).isSome = true) →
    (∀ t', t'.get? i = some v → (∀ j, j ≠ i → t'.get? j = t.get? j) → k t') → t.setK i v k := by
  induction t with
  | e =>
    intro i v k hp hk
    cases i with
    | zero => exact hk _ rfl fun j hj => by cases j with | zero => exact absurd rfl hj | succ j => simp only [Bt.get?, ite_self]
    | succ j => have := hp 0 (by omega); simp [Bt.get?] at this
  | n u l r il ir =>
    intro i v k hp hk
    cases i with
    | zero => exact hk (.n v l r) rfl fun j hj => by cases j with | zero => exact absurd rfl hj | succ j => simp only [Bt.get?]
    | succ i =>
      change @Nat.rec (fun _ => Prop) (l.setK (i/2) v (fun l' => k (.n u l' r))) (fun _ _ => r.setK (i/2) v (fun r' => k (.n u l r'))) (i % 2)
      rcases Nat.mod_two_eq_zero_or_one i with e | e
      · rw [e]
        refine il _ _ _ (fun j hj => ?_) fun l' h1 h2 => hk _ (by simp only [Bt.get?, e, if_true]; exact h1) fun j hj => ?_
        · have := hp (2 * j + 1) (by omega)
          simp only [Bt.get?] at this
          rw [if_pos (by omega), show 2 * j / 2 = j by omega] at this
          exact this
        · cases j with
          | zero => rfl
          | succ j =>
            simp only [Bt.get?]
            split
            · rename_i ej; exact h2 _ (half_ne hj (by omega))
            · rfl
      · rw [e]
        refine ir _ _ _ (fun j hj => ?_) fun r' h1 h2 => hk _ (by simp only [Bt.get?, e]; exact h1) fun j hj => ?_
        · have := hp (2 * j + 2) (by omega)
          simp only [Bt.get?] at this
          rw [if_neg (by omega), show (2 * j + 1) / 2 = j by omega] at this
          exact this
        · cases j with
          | zero => rfl
          | succ j =>
            simp only [Bt.get?]
            split
            · rfl
            · rename_i ej; exact h2 _ (half_ne hj (by omega))
theorem Bt.getK_i {α : Type} (t : Bt α) : ∀ (i : Nat) (v : α) (k : α → Prop), t.get? i = some v → k v → t.getK i k := by
  induction t with
  | e => intro i v k h _; cases i <;> simp [Bt.get?] at h
  | n u l r il ir =>
    intro i v k h hk
    cases i with
    | zero => simp [Bt.get?] at h; subst h; exact hk
    | succ j =>
      change @Nat.rec (fun _ => Prop) (l.getK (j/2) k) (fun _ _ => r.getK (j/2) k) (j % 2)
      rcases Nat.mod_two_eq_zero_or_one j with e | e
      · rw [e]
        simp only [Bt.get?, e, if_true] at h
        exact il _ _ _ h hk
      · rw [e]
        simp only [Bt.get?, e] at h
        exact ir _ _ _ h hk

variable {H : AH} {S : LS}
theorem Mem.get (h : Mem H S) {b : Nat} {o : AObj} (ho : H.at b = o) (hd : S.ob b ≠ .dead) : H.t.get? b = some o := by
  cases e : H.t.get? b with
  | some x => simp [AH.at, e] at ho; rw [ho]
  | none =>
    have h1 := h.ob b
    rw [show H.at b = .dead by simp [AH.at, e]] at h1
    cases hb : S.ob b <;> rw [hb] at h1 <;> first | exact absurd hb hd | exact h1.elim
theorem Mem.cells (h : Mem H S) {b : Nat} {l : List AV} {m : Nat} (hb : S.ob b = .cells l m) : ∃ c, H.t.get? b = some (.cells c l.length m) ∧ ∀ i : Nat, c.get? i = l[i]? := by
  have h1 := h.ob b
  rw [hb] at h1
  cases e : H.at b with
  | cells c n m' =>
    rw [e] at h1
    obtain ⟨rfl, rfl, h3⟩ := h1
    exact ⟨c, h.get e (by rw [hb]; simp), h3⟩
  | map => rw [e] at h1; exact h1.elim
  | iter => rw [e] at h1; exact h1.elim
  | dead => rw [e] at h1; exact h1.elim
theorem Mem.map (h : Mem H S) {b : Nat} {es : List AEnt} {cl : Nat} (hb : S.ob b = .map es cl) : H.t.get? b = some (.map es cl) := by
  have h1 := h.ob b
  rw [hb] at h1
  cases e : H.at b with
  | cells => rw [e] at h1; exact h1.elim
  | map es' cl' => rw [e] at h1; obtain ⟨rfl, rfl⟩ := h1; exact h.get e (by rw [hb]; simp)
  | iter => rw [e] at h1; exact h1.elim
  | dead => rw [e] at h1; exact h1.elim
theorem Mem.lt (h : Mem H S) {b : Nat} (hb : S.ob b ≠ .dead) : b < S.n := by
  rw [← h.n, ← h.dom]
  have h1 := h.ob b
  cases e : H.t.get? b with
  | some x => rfl
  | none =>
    rw [show H.at b = .dead by simp [AH.at, e]] at h1
    cases hb' : S.ob b <;> rw [hb'] at h1 <;> first | exact absurd hb' hb | exact h1.elim
theorem Mem.dead (h : Mem H S) {b : Nat} (hb : S.n ≤ b) : S.ob b = .dead := by
  cases e : S.ob b with
  | dead => rfl
  | _ => exact absurd (h.lt (b := b) (by rw [e]; simp)) (by omega)
theorem Mem.atDead (h : Mem H S) {x : Prop} (hx : x) : Go.X.atDead H x := by
  have e : H.at H.n = .dead := by
    have := h.dom H.n
    cases e : H.t.get? H.n with
    | none => simp [AH.at, e]
    | some x => rw [e] at this; simp at this
  unfold Go.X.atDead
  rw [e]
  exact hx

theorem Mem.getK_i (h : Mem H S) {b : Nat} {l : List AV} {m : Nat} (hb : S.ob b = .cells l m) {k : Bt AV → Nat → Nat → Prop} (hk : ∀ c, (∀ i : Nat, c.get? i = l[i]?) → k c l.length m) : getK H b k := by
  obtain ⟨c, h1, h2⟩ := h.cells hb
  exact Bt.getK_i _ _ _ _ h1 (hk c h2)
theorem Mem.setK_i (h : Mem H S) {b : Nat} (hb : b < S.n) {o : AObj} {o' : LObj} (hr : LR o' o) {k : AH → Prop} (hk : ∀ H', Mem H' (S.set b o') → k H') : setK H b o k := by
  refine Bt.setK_i _ _ _ _ (fun j hj => (h.dom j).2 (by rw [h.n]; omega)) fun t' h1 h2 => hk _ ⟨h.n, fun x => ?_, fun x => ?_⟩
  · by_cases e : x = b
    · subst e; rw [LS.set_ob_self]; simp only [AH.at, h1]; exact hr
    · rw [LS.set_ob_ne _ _ e]; simp only [AH.at, h2 x e]; exact h.ob x
  · by_cases e : x = b
    · subst e; simp only [h1, Option.isSome_some, true_iff]; rw [h.n]; exact hb
    · simp only [h2 x e]; exact h.dom x
theorem Mem.newK_i (h : Mem H S) {o : AObj} {o' : LObj} (hr : LR o' o) {k : Nat → AH → Prop} (hk : ∀ H', Mem H' (S.push o') → k S.n H') : newK H o k := by
  refine Bt.setK_i _ _ _ _ (fun j hj => (h.dom j).2 hj) fun t' h1 h2 => ?_
  rw [forceN_eq]
  rw [h.n] at h1 h2 ⊢
  refine hk _ ⟨rfl, fun x => ?_, fun x => ?_⟩
  · by_cases e : x = S.n
    · subst e; rw [LS.push_ob_self]; simp only [AH.at, h1]; exact hr
    · rw [LS.push_ob_ne _ _ e]; simp only [AH.at, h2 x e]; exact h.ob x
  · show _ ↔ x < Nat.succ S.n
    by_cases e : x = S.n
    · subst e; simp only [h1, Option.isSome_some, true_iff]; omega
    · simp only [h2 x e]; rw [h.dom x, h.n]; omega

theorem loadL_i {c : Bt AV} {l : List AV} (hc : ∀ i : Nat, c.get? i = l[i]?) : ∀ (n o : Nat) {k : List AV → Prop}, o + n ≤ l.length → k ((l.drop o).take n) → loadL c n o k
  | 0, o, k, _, h => by
    show k []
    simpa using h
  | n + 1, o, k, hl, h => by
    have ho : o < l.length := by omega
    refine Bt.getK_i _ _ l[o] _ (by rw [hc]; simp [ho]) ?_
    rw [forceN_eq]
    refine loadL_i hc n (o + 1) (by omega) ?_
    have e : (l.drop o).take (n + 1) = l[o] :: (l.drop (o + 1)).take n := by
      rw [List.drop_eq_getElem_cons ho, List.take_succ_cons]
    rw [e] at h
    exact h
/-- Cells from a place on turned. -/
def spliceL (l : List AV) (o : Nat) (l' : List AV) : List AV := l.take o ++ l' ++ l.drop (o + l'.length)
theorem spliceL_length {l : List AV} {o : Nat} {l' : List AV} (h : o + l'.length ≤ l.length) : (spliceL l o l').length = l.length := by
  simp [spliceL]; omega
theorem spliceL_one {l : List AV} {o : Nat} {v : AV} (h : o < l.length) : spliceL l o [v] = l.set o v := by
  rw [List.set_eq_take_append_cons_drop]
  simp [spliceL, h]
theorem spliceL_end {l : List AV} {l' : List AV} : spliceL l l.length l' = l ++ l' := by simp [spliceL]
theorem storeL_i : ∀ (l' : List AV) {l : List AV} {c : Bt AV} {o : Nat} {k : Bt AV → Nat → Prop}, (∀ i : Nat, c.get? i = l[i]?) → o ≤ l.length → (∀ a ∈ l', a.one = true) →
    (∀ c', (∀ i : Nat, c'.get? i = (spliceL l o l')[i]?) → k c' (o + l'.length)) → storeL l' c o k
  | [], l, c, o, k, hc, ho, _, hk => by
    refine hk c fun i => ?_
    rw [hc]
    simp [spliceL]
  | a :: l', l, c, o, k, hc, ho, h1, hk => by
    show bT a.one (c.setK o a fun c' => forceN (Nat.succ o) fun o' => storeL l' c' o' k)
    rw [h1 a (by simp)]
    refine Bt.setK_i _ _ _ _ (fun j hj => by rw [hc]; simp; omega) fun c' g1 g2 => ?_
    rw [forceN_eq]
    have hc' : ∀ i : Nat, c'.get? i = (l.take o ++ a :: l.drop (o + 1))[i]? := fun i => by
      by_cases e : i = o
      · subst e
        rw [g1, List.getElem?_append_right (by simp; omega)]
        simp [Nat.min_eq_left ho]
      · rw [g2 i e, hc]
        rcases Nat.lt_or_ge i o with hl | hl
        · rw [List.getElem?_append_left (by simp; omega), List.getElem?_take]
          simp [hl]
        · rw [List.getElem?_append_right (by simp; omega)]
          simp only [List.length_take, Nat.min_eq_left ho]
          obtain ⟨d, rfl⟩ : ∃ d, i = o + 1 + d := ⟨i - (o + 1), by omega⟩
          rw [show o + 1 + d - o = d + 1 by omega]
          simp
    refine storeL_i l' (o := o + 1) hc' (by simp; omega) (fun x hx => h1 x (by simp [hx])) fun c2 g => ?_
    have := hk c2 fun i => ?_
    · rw [show o + 1 + l'.length = o + (a :: l').length by simp; omega]; exact this
    · rw [g]
      have hA : (l.take o).length = o := by simp; omega
      have e1 : (l.take o ++ a :: l.drop (o + 1)).take (o + 1) = l.take o ++ [a] := by
        rw [List.take_append, hA, List.take_of_length_le (by omega), show o + 1 - o = 1 by omega]; rfl
      have e2 : (l.take o ++ a :: l.drop (o + 1)).drop (o + 1 + l'.length) = l.drop (o + (l'.length + 1)) := by
        rw [List.drop_append, hA, List.drop_of_length_le (by omega), show o + 1 + l'.length - o = l'.length + 1 by omega, List.nil_append, List.drop_succ_cons, List.drop_drop]
        congr 1; omega
      simp only [spliceL, List.length_cons, e1, e2]
      simp
theorem storeL_new {l : List AV} {k : Bt AV → Nat → Prop} (h1 : ∀ a ∈ l, a.one = true) (hk : ∀ c, (∀ i : Nat, c.get? i = l[i]?) → k c l.length) : storeL l .e 0 k :=
  storeL_i l (l := []) (fun i => by simp [Bt.get?_e]) (Nat.le_refl _) h1 fun c hc => by
    have := hk c fun i => by rw [hc]; simp [spliceL]
    simpa using this
end Go.X

namespace Go.X

/-! ### Plain ones -/
theorem nbeq {a b : Nat} (h : a = b) : Nat.beq a b = true := by subst h; exact Nat.beq_refl a

@[simp] theorem bT_tt (x : Prop) : bT true x = x := rfl
@[simp] theorem bT_ff (x : Prop) : bT false x = False := rfl
theorem bT_i {b : Bool} {x : Prop} (hb : b = true) (h : x) : bT b x := by subst hb; exact h
@[simp] theorem bI_tt (x y : Prop) : bI true x y = x := rfl
@[simp] theorem bI_ff (x y : Prop) : bI false x y = y := rfl
theorem bI_i {b : Bool} {x y : Prop} (h1 : b = true → x) (h2 : b = false → y) : bI b x y := by
  cases b
  · exact h2 rfl
  · exact h1 rfl
theorem bI_dec {p : Prop} [Decidable p] {x y : Prop} (h1 : p → x) (h2 : ¬p → y) : bI (decide p) x y := bI_i (fun h => h1 (of_decide_eq_true h)) (fun h => h2 (of_decide_eq_false h))
@[simp] theorem onB_b (z : Bool) (k : Bool → Prop) : onB (.bool z) k = k z := rfl
@[simp] theorem onBool_b (z : Bool) (x y : Prop) : onBool (.bool z) x y = bI z x y := by cases z <;> rfl
@[simp] theorem cI_z (q : Nat) (z : Int) (k : Int → Prop) : cI q (.int q z) k = k z := by simp [cI, onInt]
@[simp] theorem iLt_d (x y : Int) : iLt x y = decide (x < y) := by
  rw [Bool.eq_iff_iff, decide_eq_true_iff]
  cases x <;> cases y <;> simp only [iLt, Nat.ble_eq, Bool.false_eq_true, false_iff, true_iff, Int.ofNat_eq_natCast] <;> omega
@[simp] theorem iEq_d (x y : Int) : iEq x y = decide (x = y) := by
  rw [Bool.eq_iff_iff, decide_eq_true_iff]
  rw [iEq_eq]; simp
@[simp] theorem forceI_s (z : Int) (k : Int → Prop) : forceI z k = k z := forceI_eq z k
@[simp] theorem forceN_s (z : Nat) (k : Nat → Prop) : forceN z k = k z := forceN_eq z k
@[simp] theorem one_s (v : AV) (x : Prop) : one v x = bT v.one x := rfl
@[simp] theorem one_ptr (b o : Nat) : (AV.ptr b o).one = true := rfl
@[simp] theorem one_int (q : Nat) (z : Int) : (AV.int q z).one = true := rfl
@[simp] theorem one_bool (z : Bool) : (AV.bool z).one = true := rfl
@[simp] theorem one_str (n x : Nat) : (AV.str n x).one = true := rfl
@[simp] theorem one_nptr : AV.nptr.one = true := rfl
@[simp] theorem one_map (b : Nat) : (AV.map b).one = true := rfl
@[simp] theorem one_nslice : AV.nslice.one = true := rfl
@[simp] theorem one_slice (b o l c s : Nat) (x : Bool) : (AV.slice b o l c s x).one = true := rfl
@[simp] theorem pNil_ptr (b o : Nat) (x : Prop) : pNil (.ptr b o) x = x := rfl
@[simp] theorem pFld_ptr (n b o : Nat) (k : AV → Prop) : pFld n (.ptr b o) k = k (.ptr b (o + n)) := by simp only [pFld, onPtr, forceN_eq]; rfl
@[simp] theorem pLen_slice (b o l c s : Nat) (x : Bool) (k : AV → Prop) : pLen (.slice b o l c s x) k = k (.int 0 l) := rfl
@[simp] theorem pLen_nil (k : AV → Prop) : pLen .nslice k = k (.int 0 0) := rfl
@[simp] theorem pPEq_nn (r : Bool) (H : AH) (k : AV → Prop) : pPEq r .nptr .nptr H k = k (.bool r) := rfl
@[simp] theorem pPEq_np (r : Bool) (b o : Nat) (H : AH) (k : AV → Prop) : pPEq r .nptr (.ptr b o) H k = k (.bool (!r)) := rfl
@[simp] theorem pPEq_pn (r : Bool) (b o : Nat) (H : AH) (k : AV → Prop) : pPEq r (.ptr b o) .nptr H k = k (.bool (!r)) := rfl
@[simp] theorem cR_ret (K : KF) (v : AV) (H : AH) (k : AV → Prop) : cR K (.ret v) H k = k v := rfl
@[simp] theorem onTup_t (l : List AV) (k : List AV → Prop) : onTup (.tup l) k = k l := rfl
@[simp] theorem onAgg_a (l : List AV) (k : List AV → Prop) : onAgg (.agg l) k = k l := rfl
@[simp] theorem nthK_0 (a : AV) (l : List AV) (k : AV → Prop) : nthK (a :: l) 0 k = k a := rfl
@[simp] theorem nthK_s (a : AV) (l : List AV) (n : Nat) (k : AV → Prop) : nthK (a :: l) (n + 1) k = nthK l n k := rfl
theorem wrapK_i {c : Nat} {z z' : Int} {k : Int → Prop} (e : (kd c).wrap z = z') (h : k z') : wrapK c z k := wrapK_intro (by rw [e]; exact h)
theorem wrap0 {z : Int} (h1 : -9223372036854775808 ≤ z) (h2 : z < 9223372036854775808) : (kd 0).wrap z = z := by
  refine wrap_small rfl ?_ ?_ <;> simp [half] <;> omega
theorem wrap3 {z : Int} : (kd 3).wrap z = z % 18446744073709551616 := by
  unfold IntKind.wrap
  simp [kd, IntKind.bits, IntKind.signed]
theorem wrap1 {z : Int} : (kd 1).wrap z = z % 256 := by
  unfold IntKind.wrap
  simp [kd, IntKind.bits, IntKind.signed]
/-- An int of 64 bits that fits. -/
theorem w0 {z : Int} {k : Int → Prop} (h1 : -9223372036854775808 ≤ z) (h2 : z < 9223372036854775808) (h : k z) : wrapK 0 z k := wrapK_i (wrap0 h1 h2) h
theorem w3 {z : Int} {k : Int → Prop} (h : k (z % 18446744073709551616)) : wrapK 3 z k := wrapK_i wrap3 h
@[simp] theorem sEq_s (n x m y : Nat) (k : AV → Prop) : sEq (.str n x) (.str m y) k = k (.bool (Nat.beq n m && Nat.beq x y)) := rfl
@[simp] theorem sLen_s (n x : Nat) (k : AV → Prop) : sLen (.str n x) k = k (.int 0 n) := rfl

theorem iadd (a b : Int) : Int.add a b = a + b := rfl
theorem isub (a b : Int) : Int.sub a b = a - b := rfl
theorem imul (a b : Int) : Int.mul a b = a * b := rfl
theorem io0 : Int.ofNat 0 = 0 := rfl
theorem io1 : Int.ofNat 1 = 1 := rfl
theorem io2 : Int.ofNat 2 = 2 := rfl
theorem iofn (n : Nat) : Int.ofNat n = (n : Int) := rfl

/-! ### Memory -/
variable {H : AH} {S : LS}
theorem onAH_i {H : AH} {x : Prop} (h : x) : onAH H x := by rw [onAH_eq]; exact h
theorem Mem.newC (h : Mem H S) {c : Bt AV} {l : List AV} {m : Nat} (hc : ∀ i : Nat, c.get? i = l[i]?) {k : Nat → AH → Prop} (hk : ∀ H', Mem H' (S.push (.cells l m)) → k S.n H') : newK H (.cells c l.length m) k :=
  h.newK_i (o := .cells c l.length m) (o' := .cells l m) ⟨rfl, rfl, hc⟩ hk
theorem Mem.newM (h : Mem H S) {es : List AEnt} {cl : Nat} {k : Nat → AH → Prop} (hk : ∀ H', Mem H' (S.push (.map es cl)) → k S.n H') : newK H (.map es cl) k :=
  h.newK_i (o := .map es cl) (o' := .map es cl) ⟨rfl, rfl⟩ hk
theorem Mem.setC (h : Mem H S) {b : Nat} (hb : b < S.n) {c : Bt AV} {l : List AV} {n m : Nat} (hn : n = l.length) (hc : ∀ i : Nat, c.get? i = l[i]?) {k : AH → Prop} (hk : ∀ H', Mem H' (S.set b (.cells l m)) → k H') : setK H b (.cells c n m) k :=
  h.setK_i (o := .cells c n m) (o' := .cells l m) hb ⟨hn, rfl, hc⟩ hk
theorem Mem.setM (h : Mem H S) {b : Nat} (hb : b < S.n) {es : List AEnt} {cl : Nat} {k : AH → Prop} (hk : ∀ H', Mem H' (S.set b (.map es cl)) → k H') : setK H b (.map es cl) k :=
  h.setK_i (o := .map es cl) (o' := .map es cl) hb ⟨rfl, rfl⟩ hk
theorem Mem.setD (h : Mem H S) {b : Nat} (hb : b < S.n) {k : AH → Prop} (hk : ∀ H', Mem H' (S.set b .dead) → k H') : setK H b .dead k :=
  h.setK_i (o := .dead) (o' := .dead) hb trivial hk
theorem pLoad_i (h : Mem H S) {b o : Nat} {l : List AV} {m : Nat} {v : AV} {k : AV → Prop} (hb : S.ob b = .cells l m) (ho : l[o]? = some v) (hk : k v) : pLoad (.ptr b o) H k :=
  h.getK_i hb fun c hc => Bt.getK_i _ _ _ _ (by rw [hc]; exact ho) hk
theorem pLoadN_i (h : Mem H S) {b o n : Nat} {l : List AV} {m : Nat} {k : AV → Prop} (hb : S.ob b = .cells l m) (ho : o + n ≤ l.length) (hk : k (.agg ((l.drop o).take n))) : pLoadN n (.ptr b o) H k :=
  h.getK_i hb fun c hc => loadL_i hc n o ho hk
theorem pStore_raw (h : Mem H S) {b o n : Nat} {v : AV} {l l' : List AV} {m : Nat} {k : AH → Prop} (hv : ∀ (k : List AV → Prop), k l' → onVal v k) (hb : S.ob b = .cells l m) (hm : m ≤ 1) (hn : l'.length = n) (ho : o + n ≤ l.length)
    (h1 : ∀ a ∈ l', a.one = true) (hk : ∀ H', Mem H' (S.set b (.cells (spliceL l o l') m)) → k H') : pStore n (.ptr b o) v H k := by
  refine hv _ (h.getK_i hb fun c hc => ?_)
  refine bT_i (Nat.ble_eq_true_of_le hm) (storeL_i l' hc (by omega) h1 fun c' hc' => ?_)
  refine bT_i (nbeq (by rw [hn]; rfl)) (bT_i (Nat.ble_eq_true_of_le (by omega)) ?_)
  exact h.setC (h.lt (by rw [hb]; simp)) (by rw [spliceL_length (by omega)]) hc' hk
theorem pStore_i (h : Mem H S) {b o : Nat} {v : AV} {l : List AV} {m : Nat} {k : AH → Prop} (hb : S.ob b = .cells l m) (hm : m ≤ 1) (ho : o < l.length) (h1 : v.one = true)
    (hk : ∀ H', Mem H' (S.set b (.cells (l.set o v) m)) → k H') : pStore 1 (.ptr b o) v H k := by
  refine pStore_raw h (l' := [v]) (fun k hk => ?_) hb hm rfl (by omega) (by simpa using h1) fun H' hM => hk H' ?_
  · cases v <;> first | exact hk | simp [AV.one] at h1
  · rw [← spliceL_one ho]; exact hM
theorem pStoreN_i (h : Mem H S) {b o n : Nat} {l l' : List AV} {m : Nat} {k : AH → Prop} (hb : S.ob b = .cells l m) (hm : m ≤ 1) (hn : l'.length = n) (ho : o + n ≤ l.length) (h1 : ∀ a ∈ l', a.one = true)
    (hk : ∀ H', Mem H' (S.set b (.cells (spliceL l o l') m)) → k H') : pStore n (.ptr b o) (.agg l') H k :=
  pStore_raw h (fun k hk => hk) hb hm hn ho h1 hk
theorem pNew_i (h : Mem H S) {l : List AV} {k : AV → AH → Prop} (h1 : ∀ a ∈ l, a.one = true) (hk : ∀ H', Mem H' (S.push (.cells l 0)) → k (.ptr S.n 0) H') : pNew (newK H) l k :=
  storeL_new h1 fun _ hc => h.newC hc hk
theorem xBox_agg (h : Mem H S) {l : List AV} {k : AV → AH → Prop} (h1 : ∀ a ∈ l, a.one = true) (hk : ∀ H', Mem H' (S.push (.cells l 0)) → k (.ptr S.n 0) H') : xBox (newK H) (.agg l) k :=
  pNew_i h h1 hk
theorem pNewS_i (h : Mem H S) {n sz : Nat} {l : List AV} {k : AV → AH → Prop} (hl : l.length = n * sz) (h1 : ∀ a ∈ l, a.one = true) (hk : ∀ H', Mem H' (S.push (.cells l 0)) → k (.slice S.n 0 n n sz true) H') : pNewS (newK H) n sz l k :=
  storeL_new h1 fun _ hc => bT_i (nbeq hl) (h.newC hc hk)
theorem repL_mem {z : List AV} {a : AV} : ∀ {n : Nat}, a ∈ repL n z → a ∈ z
  | 0, h => by simp [repL] at h
  | n + 1, h => by
    simp only [repL, List.mem_append] at h
    exact h.elim id repL_mem
theorem pMakeS_i (h : Mem H S) {sz bytes n m q q' : Nat} {z : List AV} {k : AV → AH → Prop} (hz : z.length = sz) (h1 : ∀ a ∈ z, a.one = true) (hn : n ≤ m) (hb : m * bytes ≤ 1099511627776) (hm : m ≤ 1099511627776)
    (hk : ∀ H', Mem H' (S.push (.cells (repL m z) 0)) → k (.slice S.n 0 n m sz true) H') : pMakeS (newK H) sz bytes z (.int q (.ofNat n)) (.int q' (.ofNat m)) k := by
  refine bT_i (Nat.ble_eq_true_of_le hn) (bT_i (Nat.ble_eq_true_of_le hb) (bT_i (Nat.ble_eq_true_of_le hm) ?_))
  refine storeL_new (fun a ha => h1 a (repL_mem ha)) fun c hc => bT_i (nbeq (by rw [repL_length, hz]; rfl)) (h.newC hc hk)
theorem onNat_i {q : Nat} {z : Int} {k : Nat → Nat → Prop} (h0 : 0 ≤ z) (hk : k q z.toNat) : onNat (.int q z) k := by
  cases z with
  | ofNat n => exact hk
  | negSucc n => exact absurd h0 (by omega)
theorem pIdx_i {sz b o len cap q : Nat} {ex : Bool} {i : Int} {k : AV → Prop} (h0 : 0 ≤ i) (h1 : i < len) (hk : k (.ptr b (o + i.toNat * sz))) : pIdx sz (.slice b o len cap sz ex) (.int q i) k := by
  refine onNat_i (q := q) (k := fun _ j => bT (Nat.ble (Nat.succ j) len) (bT (Nat.beq sz sz) (forceN (Nat.add o (Nat.mul j sz)) fun o' => k (.ptr b o')))) h0 ?_
  refine bT_i (Nat.ble_eq_true_of_le (show Nat.succ i.toNat ≤ len by omega)) (bT_i (nbeq rfl) ?_)
  rw [forceN_eq]
  exact hk

/-! ### append -/
theorem cellsOf_i (h : Mem H S) {sz b o n cap : Nat} {ex : Bool} {l : List AV} {m : Nat} {k : List AV → Prop} (hb : S.ob b = .cells l m) (ho : o + n * sz ≤ l.length) (hk : k ((l.drop o).take (n * sz))) : cellsOf sz n (.slice b o n cap sz ex) H k := by
  refine bT_i (Nat.ble_eq_true_of_le (Nat.le_refl _)) (bT_i (nbeq rfl) (h.getK_i hb fun c hc => loadL_i hc _ _ ho hk))
/-- Behind a nil slice. -/
theorem pApp_nil (h : Mem H S) {sz bytes n cap o b : Nat} {ex : Bool} {l : List AV} {m : Nat} {k : AV → AH → Prop} (hb : S.ob b = .cells l m) (ho : o + n * sz ≤ l.length) (hn : 0 < n) (hz : 0 < sz) (hs : n * bytes ≤ 1099511627776)
    (h1 : ∀ a ∈ (l.drop o).take (n * sz), a.one = true) (hk : ∀ H', Mem H' (S.push (.cells ((l.drop o).take (n * sz)) 0)) → k (.slice S.n 0 n n sz false) H') : pApp sz bytes .nslice (.slice b o n cap sz ex) H k := by
  refine cellsOf_i (ex := ex) (cap := cap) (k := fun l => appL sz bytes n _ l H k) h hb ho ?_
  refine bT_i (Nat.ble_eq_true_of_le hz) ?_
  show bI (Nat.beq n 0) _ _
  have : Nat.beq n 0 = false := by cases n with | zero => omega | succ n => rfl
  rw [this]
  refine bT_i (Nat.ble_eq_true_of_le hs) (storeL_new h1 fun c hc => h.newC hc hk)
/-- Behind a slice that has all of its block. -/
theorem pApp_grow (h : Mem H S) {sz bytes n cap o b b' len : Nat} {ex : Bool} {l old : List AV} {m m' : Nat} {k : AV → AH → Prop} (hb : S.ob b = .cells l m) (ho : o + n * sz ≤ l.length) (hb' : S.ob b' = .cells old m') (hm' : m' ≤ 1) (hl : old.length = len * sz) (hn : 0 < n) (hz : 0 < sz)
    (hs : (len + n) * bytes ≤ 1099511627776) (h1 : ∀ a ∈ (l.drop o).take (n * sz), a.one = true)
    (hk : ∀ H', Mem H' ((S.set b' .dead).push (.cells (old ++ (l.drop o).take (n * sz)) m')) → k (.slice S.n 0 (len + n) (len + n) sz false) H') :
    pApp sz bytes (.slice b' 0 len len sz false) (.slice b o n cap sz ex) H k := by
  refine cellsOf_i (ex := ex) (cap := cap) (k := fun l => appL sz bytes n _ l H k) h hb ho ?_
  refine bT_i (Nat.ble_eq_true_of_le hz) ?_
  refine bT_i (nbeq rfl) ?_
  rw [forceN_eq]
  show bI (Nat.ble (len + n) len) _ _
  have : Nat.ble (len + n) len = false := by
    cases e : Nat.ble (len + n) len with
    | false => rfl
    | true => have := Nat.le_of_ble_eq_true e; omega
  rw [this]
  refine bT_i (Nat.ble_eq_true_of_le hs) ?_
  refine h.getK_i hb' fun c hc => bT_i (Nat.ble_eq_true_of_le hm') ?_
  have e : (Nat.beq 0 0 && Nat.beq old.length (Nat.mul len sz)) = true := by simp [hl]
  rw [e]
  refine storeL_i _ hc (Nat.le_refl _) h1 fun c2 hc2 => ?_
  rw [spliceL_end] at hc2
  refine h.setD (h.lt (by rw [hb']; simp)) fun H1 hM1 => ?_
  have e2 : old.length + ((l.drop o).take (n * sz)).length = (old ++ (l.drop o).take (n * sz)).length := by simp
  rw [e2]
  exact hM1.newC hc2 hk

/-! ### Maps -/
theorem pMap_i (h : Mem H S) {k : AV → AH → Prop} (hk : ∀ H', Mem H' (S.push (.map [] 0)) → k (.map S.n) H') : pMap (newK H) k := h.newM hk
theorem pLook_i (h : Mem H S) {P : Program} {kt b cl : Nat} {ok : Bool} {z key : AV} {es : List AEnt} {r : Option Nat} {k : AV → Prop} (hb : S.ob b = .map es cl) (hf : findA P kt key es = some r) (hk : k (lookV ok z es r)) :
    pLook P kt ok z (.map b) key H k := by
  refine Bt.getK_i _ _ _ _ (h.map hb) ?_
  show foundAt P kt key es _
  unfold foundAt
  rw [hf]
  exact hk
theorem pUpd_i (h : Mem H S) {P : Program} {kt b cl : Nat} {key v : AV} {es : List AEnt} {r : Option Nat} {k : AH → Prop} (hb : S.ob b = .map es cl) (hf : findA P kt key es = some r)
    (hk : ∀ H', Mem H' (S.set b (.map (putE es cl key v r) (putCl cl r))) → k H') : pUpd P kt (.map b) key v H k := by
  refine Bt.getK_i _ _ _ _ (h.map hb) ?_
  show foundAt P kt key es _
  unfold foundAt
  rw [hf]
  exact h.setM (h.lt (by rw [hb]; simp)) hk
theorem pDel_i (h : Mem H S) {P : Program} {kt b cl : Nat} {key : AV} {es : List AEnt} {r : Option Nat} {k : AH → Prop} (hb : S.ob b = .map es cl) (hf : findA P kt key es = some r)
    (hk : ∀ H', Mem H' (S.set b (.map (delE es r) cl)) → k H') : pDel P kt (.map b) key H k := by
  refine Bt.getK_i _ _ _ _ (h.map hb) ?_
  show foundAt P kt key es _
  unfold foundAt
  rw [hf]
  exact h.setM (h.lt (by rw [hb]; simp)) hk
theorem mapLen_i (h : Mem H S) {b cl : Nat} {es : List AEnt} {k : AV → Prop} (hb : S.ob b = .map es cl) (hk : k (.int 0 es.length)) : mapLen (.map b) H k := by
  refine Bt.getK_i _ _ _ _ (h.map hb) ?_
  show forceN es.length _
  rw [forceN_eq]
  exact hk
theorem idxs_none {x : AV} : ∀ {es : List AEnt} {j : Nat}, (∀ e ∈ es, sameAV e.key x = false) → idxs x es j = []
  | [], _, _ => rfl
  | e :: es, j, h => by
    simp only [idxs, h e (by simp)]
    exact idxs_none fun e he => h e (by simp [he])
theorem idxs_one {x : AV} : ∀ {es : List AEnt} {i j : Nat} {e : AEnt}, es[i]? = some e → sameAV e.key x = true → (∀ i' e', i' ≠ i → es[i']? = some e' → sameAV e'.key x = false) → idxs x es j = [j + i]
  | [], i, j, e, h, _, _ => by simp at h
  | a :: es, 0, j, e, h, h1, h2 => by
    simp at h
    subst h
    simp only [idxs, h1]
    rw [idxs_none fun e he => ?_]
    · simp
    · obtain ⟨i, hi⟩ := List.getElem?_of_mem he
      exact h2 (i + 1) e (by omega) (by simpa using hi)
  | a :: es, i + 1, j, e, h, h1, h2 => by
    simp only [idxs, h2 0 a (by omega) (by simp)]
    rw [idxs_one (i := i) (j := j + 1) (by simpa using h) h1 fun i' e' hi he => h2 (i' + 1) e' (by omega) (by simpa using he)]
    congr 1
    omega
theorem findA_none {P : Program} {kt : Nat} {x : AV} {es : List AEnt} (hk : keyA P kt x = true) (hks : ∀ e ∈ es, keyA P kt e.key = true) (h : ∀ e ∈ es, sameAV e.key x = false) : findA P kt x es = some none := by
  unfold findA
  rw [show (keyA P kt x && es.all fun e => keyA P kt e.key) = true by simp [hk]; exact hks, idxs_none h]
theorem findA_some {P : Program} {kt : Nat} {x : AV} {es : List AEnt} {i : Nat} {e : AEnt} (hk : keyA P kt x = true) (hks : ∀ e ∈ es, keyA P kt e.key = true) (he : es[i]? = some e) (h1 : sameAV e.key x = true)
    (h2 : ∀ i' e', i' ≠ i → es[i']? = some e' → sameAV e'.key x = false) : findA P kt x es = some (some i) := by
  unfold findA
  rw [show (keyA P kt x && es.all fun e => keyA P kt e.key) = true by simp [hk]; exact hks, idxs_one he h1 h2]
  simp
end Go.X

namespace Go.X
/-- What was there is as it was. -/
structure Ext (S S' : LS) : Prop where
  n : S.n ≤ S'.n
  ob : ∀ b, b < S.n → S'.ob b = S.ob b
theorem Ext.refl (S : LS) : Ext S S := ⟨Nat.le_refl _, fun _ _ => rfl⟩
theorem Ext.trans {A B C : LS} (h : Ext A B) (g : Ext B C) : Ext A C := ⟨Nat.le_trans h.n g.n, fun b hb => (g.ob b (Nat.lt_of_lt_of_le hb h.n)).trans (h.ob b hb)⟩
theorem Ext.push (S : LS) (o : LObj) : Ext S (S.push o) := ⟨by simp, fun b hb => LS.push_ob_lt _ _ hb⟩
theorem Ext.get {H : AH} {S S' : LS} (h : Ext S S') (hM : Mem H S) {b : Nat} {l : List AV} {m : Nat} (e : S.ob b = .cells l m) : S'.ob b = .cells l m := (h.ob b (hM.lt (by rw [e]; simp))).trans e
/-- A store into a block that came later. -/
theorem Ext.set {S S' : LS} (h : Ext S S') {b : Nat} (hb : S.n ≤ b) (o : LObj) : Ext S (S'.set b o) := ⟨h.n, fun x hx => by rw [LS.set_ob_ne _ _ (by omega)]; exact h.ob x hx⟩
theorem xBox_str {H : AH} {S : LS} (h : Mem H S) {n x : Nat} {k : AV → AH → Prop} (hk : ∀ H', Mem H' (S.push (.cells [.str n x] 0)) → k (.ptr S.n 0) H') : xBox (newK H) (.str n x) k :=
  pNew_i h (by simp) hk
theorem pIdxA_i {n sz b o q : Nat} {i : Int} {k : AV → Prop} (h0 : 0 ≤ i) (h1 : i < n) (hk : k (.ptr b (o + i.toNat * sz))) : pIdxA n sz (.ptr b o) (.int q i) k := by
  refine onNat_i (q := q) (k := fun _ j => bT (Nat.ble (Nat.succ j) n) (forceN (Nat.add o (Nat.mul j sz)) fun o' => k (.ptr b o'))) h0 ?_
  refine bT_i (Nat.ble_eq_true_of_le (show Nat.succ i.toNat ≤ n by omega)) ?_
  rw [forceN_eq]
  exact hk
theorem sameAV_int (q : Nat) (z : Int) : sameAV (.int q z) (.int q z) = true := by simp [sameAV]
theorem sameAV_str (n x : Nat) : sameAV (.str n x) (.str n x) = true := by simp [sameAV]
theorem sameAV_ptr (b o : Nat) : sameAV (.ptr b o) (.ptr b o) = true := by simp [sameAV]
theorem sameAV_nptr : sameAV .nptr .nptr = true := rfl
theorem sameAL_refl : ∀ {l : List AV}, (∀ a ∈ l, sameAV a a = true) → sameAL l l = true
  | [], _ => rfl
  | a :: l, h => by
    have h1 := sameAL_refl (l := l) fun x hx => h x (List.mem_cons_of_mem _ hx)
    simp [sameAL, h a (by simp), h1]
end Go.X

namespace Go.X

theorem bl_irrefl : ∀ l, Op.bytesLess l l = false
  | [] => rfl
  | a :: l => by simp [Op.bytesLess, bl_irrefl l]
theorem bl_trans : ∀ {a b c : List UInt8}, Op.bytesLess a b = true → Op.bytesLess b c = true → Op.bytesLess a c = true
  | _, [], _, h, _ => by simp [Op.bytesLess] at h
  | _, _ :: _, [], _, h => by simp [Op.bytesLess] at h
  | [], _ :: _, _ :: _, _, _ => by simp [Op.bytesLess]
  | x :: a, y :: b, z :: c, h, g => by
    simp only [Op.bytesLess, Bool.or_eq_true, decide_eq_true_eq, Bool.and_eq_true, beq_iff_eq, UInt8.lt_iff_toNat_lt] at h g ⊢
    rcases h with h | ⟨rfl, h⟩ <;> rcases g with g | ⟨rfl, g⟩
    · exact .inl (by omega)
    · exact .inl h
    · exact .inl g
    · exact .inr ⟨rfl, bl_trans h g⟩
theorem bl_total : ∀ {a b : List UInt8}, Op.bytesLess a b = false → Op.bytesLess b a = false → a = b
  | [], [], _, _ => rfl
  | [], _ :: _, h, _ => by simp [Op.bytesLess] at h
  | _ :: _, [], _, h => by simp [Op.bytesLess] at h
  | x :: a, y :: b, h, g => by
    simp only [Op.bytesLess, Bool.or_eq_false_iff, decide_eq_false_iff_not, Bool.and_eq_false_imp, beq_iff_eq, UInt8.lt_iff_toNat_lt] at h g
    have e : x = y := by
      apply UInt8.toNat_inj.1
      omega
    subst e
    rw [bl_total (h.2 rfl) (g.2 rfl)]

/-- A name: its length and its bytes. -/
structure Nm where
  n : Nat
  x : Nat
  ok : x < 256 ^ n
def Nm.av (a : Nm) : AV := .str a.n a.x
theorem Nm.ext' {a b : Nm} (h1 : a.n = b.n) (h2 : a.x = b.x) : a = b := by
  cases a; cases b; cases h1; cases h2; rfl
def Nm.l (a : Nm) : List UInt8 := toL a.n a.x
theorem toL_len : ∀ (n x : Nat), (toL n x).length = n
  | 0, _ => rfl
  | n + 1, x => by simp [toL, toL_len n]
theorem Nm.l_inj {a b : Nm} (h : a.l = b.l) : a = b := by
  have hn : a.n = b.n := by
    have := congrArg List.length h
    simpa [Nm.l, toL_len] using this
  refine Nm.ext' hn ?_
  have h' : toL a.n a.x = toL b.n b.x := h
  rw [← hn] at h'
  exact toL_inj a.n a.x b.x a.ok (by rw [hn]; exact b.ok) h'
theorem Nm.av_inj {a b : Nm} (h : a.av = b.av) : a = b := by
  simp only [Nm.av, AV.str.injEq] at h
  exact Nm.ext' h.1 h.2
def nlt (a b : Nm) : Prop := Op.bytesLess a.l b.l = true
instance (a b : Nm) : Decidable (nlt a b) := inferInstanceAs (Decidable (_ = true))
/-- A name with its score. -/
structure Sc where
  nm : Nm
  s : Int
theorem Sc.ext' {a b : Sc} (h1 : a.nm = b.nm) (h2 : a.s = b.s) : a = b := by
  cases a; cases b; cases h1; cases h2; rfl
def Sc.cs (a : Sc) : List AV := [a.nm.av, .int 0 a.s]
/-- Is it ahead? -/
def slt (a b : Sc) : Prop := a.s < b.s ∨ (a.s = b.s ∧ nlt a.nm b.nm)
theorem slt_irrefl (a : Sc) : ¬ slt a a := by
  rintro (h | ⟨_, h⟩)
  · omega
  · unfold nlt at h; rw [bl_irrefl] at h; cases h
theorem slt_trans {a b c : Sc} (h : slt a b) (g : slt b c) : slt a c := by
  rcases h with h | ⟨h, h'⟩ <;> rcases g with g | ⟨g, g'⟩
  · exact .inl (by omega)
  · exact .inl (by omega)
  · exact .inl (by omega)
  · exact .inr ⟨by omega, bl_trans h' g'⟩
theorem slt_total {a b : Sc} (h : ¬ slt a b) (g : ¬ slt b a) : a = b := by
  have hs : a.s = b.s := by
    have h1 : ¬ a.s < b.s := fun x => h (.inl x)
    have h2 : ¬ b.s < a.s := fun x => g (.inl x)
    omega
  refine Sc.ext' (Nm.l_inj (bl_total ?_ ?_)) hs
  · rw [← Bool.not_eq_true]; exact fun x => h (.inr ⟨hs, x⟩)
  · rw [← Bool.not_eq_true]; exact fun x => g (.inr ⟨hs.symm, x⟩)
theorem slt_asymm {a b : Sc} (h : slt a b) : ¬ slt b a := fun g => slt_irrefl a (slt_trans h g)
theorem cmpZ_nm (a b : Nm) : (cmpZ a.n a.x b.n b.x < 0 ↔ nlt a b) ∧ (cmpZ a.n a.x b.n b.x = 0 ↔ a = b) ∧ (0 < cmpZ a.n a.x b.n b.x ↔ nlt b a) := by
  have h1 : sLt a.n a.x b.n b.x = Op.bytesLess a.l b.l := sLt_eq _ _ _ _
  have h2 : (Nat.beq a.n b.n && Nat.beq a.x b.x) = true ↔ a = b := by
    simp only [Bool.and_eq_true]
    exact ⟨fun h => Nm.ext' (Nat.eq_of_beq_eq_true h.1) (Nat.eq_of_beq_eq_true h.2), fun h => by subst h; exact ⟨Nat.beq_refl _, Nat.beq_refl _⟩⟩
  unfold cmpZ
  rw [h1]
  cases hl : Op.bytesLess a.l b.l with
  | true =>
    have hab : a ≠ b := by rintro rfl; rw [bl_irrefl] at hl; cases hl
    have hba : ¬ nlt b a := fun h => by have := bl_trans hl h; rw [bl_irrefl] at this; cases this
    simp only
    exact ⟨iff_of_true (by decide) hl, iff_of_false (by decide) hab, iff_of_false (by decide) hba⟩
  | false =>
    simp only
    have hnl : ¬ nlt a b := fun h => by unfold nlt at h; rw [hl] at h; cases h
    cases he : (Nat.beq a.n b.n && Nat.beq a.x b.x) with
    | true =>
      obtain rfl := h2.1 he
      exact ⟨iff_of_false (by decide) hnl, iff_of_true rfl rfl, iff_of_false (by decide) hnl⟩
    | false =>
      have hab : a ≠ b := fun h => by rw [h2.2 h] at he; cases he
      have hba : nlt b a := by
        unfold nlt
        cases hb : Op.bytesLess b.l a.l with
        | true => rfl
        | false => exact absurd (Nm.l_inj (bl_total hl hb)) hab
      exact ⟨iff_of_false (by decide) hnl, iff_of_false (by decide) hab, iff_of_true (by decide) hba⟩
/-- How two stand to one another. -/
def ordZ (a b : Sc) : Int := if a.s < b.s then -1 else if b.s < a.s then 1 else cmpZ a.nm.n a.nm.x b.nm.n b.nm.x
theorem ordZ_lt (a b : Sc) : ordZ a b < 0 ↔ slt a b := by
  unfold ordZ slt
  split
  · rename_i h; exact iff_of_true (by decide) (.inl h)
  · split
    · rename_i h1 h2
      refine iff_of_false (by decide) ?_
      rintro (h | ⟨h, _⟩) <;> omega
    · rename_i h1 h2
      rw [(cmpZ_nm a.nm b.nm).1]
      constructor
      · exact fun h => .inr ⟨by omega, h⟩
      · rintro (h | ⟨_, h⟩)
        · omega
        · exact h
end Go.X

namespace Go.X
instance : DecidableEq Nm := fun a b => if h : a.n = b.n ∧ a.x = b.x then isTrue (Nm.ext' h.1 h.2) else isFalse fun e => h (by subst e; exact ⟨rfl, rfl⟩)
instance (a b : Sc) : Decidable (slt a b) := inferInstanceAs (Decidable (_ ∨ _))
def Srt (L : List Sc) : Prop := L.Pairwise slt
def Nms (L : List Sc) : Prop := ∀ a ∈ L, ∀ b ∈ L, a.nm = b.nm → a = b
theorem srt_ext : ∀ {A B : List Sc}, Srt A → Srt B → (∀ y, y ∈ A ↔ y ∈ B) → A = B
  | [], [], _, _, _ => rfl
  | [], b :: B, _, _, h => absurd ((h b).2 (by simp)) (by simp)
  | a :: A, [], _, _, h => absurd ((h a).1 (by simp)) (by simp)
  | a :: A, b :: B, hA, hB, h => by
    have hA' := List.pairwise_cons.1 hA
    have hB' := List.pairwise_cons.1 hB
    have e : a = b := by
      rcases List.mem_cons.1 ((h a).1 (by simp)) with e | h1
      · exact e
      · rcases List.mem_cons.1 ((h b).2 (by simp)) with e | h2
        · exact e.symm
        · exact absurd (hB'.1 a h1) (slt_asymm (hA'.1 b h2))
    subst e
    have : A = B := srt_ext hA'.2 hB'.2 fun y => by
      constructor
      · intro hy
        rcases List.mem_cons.1 ((h y).1 (by simp [hy])) with e | h1
        · subst e; exact absurd (hA'.1 y hy) (slt_irrefl y)
        · exact h1
      · intro hy
        rcases List.mem_cons.1 ((h y).2 (by simp [hy])) with e | h1
        · subst e; exact absurd (hB'.1 y hy) (slt_irrefl y)
        · exact h1
    rw [this]
def delL (a : Nm) (L : List Sc) : List Sc := L.filter fun y => !decide (y.nm = a)
def insL (x : Sc) : List Sc → List Sc
  | [] => [x]
  | y :: L => if slt y x then y :: insL x L else x :: y :: L
def putL (L : List Sc) (x : Sc) : List Sc := insL x (delL x.nm L)
def hasN (L : List Sc) (a : Nm) : Bool := L.any fun y => decide (y.nm = a)
theorem hasN_iff {L : List Sc} {a : Nm} : hasN L a = true ↔ ∃ y ∈ L, y.nm = a := by simp [hasN]
theorem mem_delL {a : Nm} {L : List Sc} {y : Sc} : y ∈ delL a L ↔ y ∈ L ∧ y.nm ≠ a := by simp [delL]
theorem mem_insL {x y : Sc} : ∀ {L : List Sc}, y ∈ insL x L ↔ y = x ∨ y ∈ L
  | [] => by simp [insL]
  | z :: L => by
    unfold insL
    split
    · rw [List.mem_cons, mem_insL, List.mem_cons]
      constructor
      · rintro (h | h | h)
        · exact .inr (.inl h)
        · exact .inl h
        · exact .inr (.inr h)
      · rintro (h | h | h)
        · exact .inr (.inl h)
        · exact .inl h
        · exact .inr (.inr h)
    · simp
theorem mem_putL {L : List Sc} {x y : Sc} : y ∈ putL L x ↔ y = x ∨ (y ∈ L ∧ y.nm ≠ x.nm) := by unfold putL; rw [mem_insL, mem_delL]
theorem srt_delL {a : Nm} {L : List Sc} (h : Srt L) : Srt (delL a L) := List.Pairwise.filter _ h
theorem srt_insL {x : Sc} : ∀ {L : List Sc}, Srt L → (∀ y ∈ L, y ≠ x) → Srt (insL x L)
  | [], _, _ => List.pairwise_singleton _ _
  | y :: L, h, hx => by
    have h' := List.pairwise_cons.1 h
    unfold insL
    split
    · rename_i g
      refine List.pairwise_cons.2 ⟨fun z hz => ?_, srt_insL h'.2 fun z hz => hx z (by simp [hz])⟩
      rcases mem_insL.1 hz with e | e
      · subst e; exact g
      · exact h'.1 z e
    · rename_i g
      have gx : slt x y := by
        cases Decidable.em (slt x y) with
        | inl e => exact e
        | inr e => exact absurd (slt_total g e) (hx y (by simp))
      refine List.pairwise_cons.2 ⟨fun z hz => ?_, h⟩
      rcases List.mem_cons.1 hz with e | e
      · subst e; exact gx
      · exact slt_trans gx (h'.1 z e)
theorem srt_putL {x : Sc} {L : List Sc} (h : Srt L) : Srt (putL L x) := srt_insL (srt_delL h) fun y hy e => (mem_delL.1 hy).2 (by rw [e])
theorem nms_putL {x : Sc} {L : List Sc} (h : Nms L) : Nms (putL L x) := fun a ha b hb e => by
  rcases mem_putL.1 ha with rfl | ⟨a1, a2⟩ <;> rcases mem_putL.1 hb with rfl | ⟨b1, b2⟩
  · rfl
  · exact absurd e.symm b2
  · exact absurd e a2
  · exact h a a1 b b1 e
theorem nms_delL {a : Nm} {L : List Sc} (h : Nms L) : Nms (delL a L) := fun x hx y hy e => h x (mem_delL.1 hx).1 y (mem_delL.1 hy).1 e
theorem len_insL {x : Sc} : ∀ {L : List Sc}, (insL x L).length = L.length + 1
  | [] => rfl
  | y :: L => by unfold insL; split <;> simp [len_insL]
theorem len_delL {a : Nm} {L : List Sc} : (delL a L).length ≤ L.length := List.length_filter_le _ _
theorem len_putL {L : List Sc} {x : Sc} : (putL L x).length ≤ L.length + 1 := by unfold putL; rw [len_insL]; have := @len_delL x.nm L; omega
theorem delL_away {a : Nm} {L : List Sc} (h : hasN L a = false) : delL a L = L := by
  unfold delL
  refine List.filter_eq_self.2 fun y hy => ?_
  have : ¬ (∃ y ∈ L, y.nm = a) := fun g => by rw [hasN_iff.2 g] at h; cases h
  simp only [Bool.not_eq_true', decide_eq_false_iff_not]
  exact fun e => this ⟨y, hy, e⟩
def ofL (l : List Sc) : List Sc := l.foldl putL []
theorem foldl_srt : ∀ (l : List Sc) {L : List Sc}, Srt L → Srt (l.foldl putL L)
  | [], _, h => h
  | x :: l, _, h => foldl_srt l (srt_putL h)
theorem foldl_nms : ∀ (l : List Sc) {L : List Sc}, Nms L → Nms (l.foldl putL L)
  | [], _, h => h
  | x :: l, _, h => foldl_nms l (nms_putL h)
theorem foldl_len : ∀ (l : List Sc) {L : List Sc}, (l.foldl putL L).length ≤ L.length + l.length
  | [], L => Nat.le_refl _
  | x :: l, L => by have := foldl_len l (L := putL L x); have := @len_putL L x; simp only [List.foldl_cons, List.length_cons]; omega
theorem srt_at {L : List Sc} (h : Srt L) {i j : Nat} {a b : Sc} (ha : L[i]? = some a) (hb : L[j]? = some b) (hij : i < j) : slt a b := by
  obtain ⟨h1, e1⟩ := List.getElem?_eq_some_iff.1 ha
  obtain ⟨h2, e2⟩ := List.getElem?_eq_some_iff.1 hb
  subst e1; subst e2
  exact List.pairwise_iff_getElem.1 h i j h1 h2 hij
/-- The part of a list that two places mean. -/
def frZ (n : Int) (a : Int) : Int := if a < 0 then max (a + n) 0 else a
def toZ (n : Int) (b : Int) : Int := min (if b < 0 then b + n else b) (n - 1)
def partL (L : List Sc) (a b : Int) : List Sc := if frZ L.length a > toZ L.length b then [] else (L.drop (frZ L.length a).toNat).take (toZ L.length b + 1 - frZ L.length a).toNat
theorem partL_all (L : List Sc) : partL L 0 (-1) = L := by
  unfold partL frZ toZ
  rcases L with _ | ⟨a, L⟩
  · rfl
  · simp only [List.length_cons]
    rw [if_neg (by simp; omega)]
    simp
    exact List.take_of_length_le (by simp; omega)
end Go.X

namespace Go.X
def isT (o : COut) : Prop := match o with | .ret (.bool true) => True | _ => False
theorem isT_out {o : COut} (h : isT o) : o = .ret (.bool true) := by
  unfold isT at h
  split at h
  · rfl
  · exact h.elim
theorem mem0 : Mem ⟨.e, 0⟩ ⟨0, fun _ => .dead⟩ := ⟨rfl, fun b => by
  have : AH.at ⟨.e, 0⟩ b = .dead := by simp [AH.at, Bt.get?_e]
  rw [this]; trivial, fun b => by simp [Bt.get?_e]⟩
theorem Bt.ex (l : List AV) : ∃ c : Bt AV, ∀ i : Nat, c.get? i = l[i]? := by
  have key : ∀ n, n ≤ l.length → ∃ c : Bt AV, ∀ i : Nat, c.get? i = (l.take n)[i]? := by
    intro n
    induction n with
    | zero => exact fun _ => ⟨.e, fun i => by simp [Bt.get?_e]⟩
    | succ n ih =>
      intro hn
      obtain ⟨c, hc⟩ := ih (by omega)
      have h : c.setK n l[n] (fun c' => ∀ i : Nat, c'.get? i = (l.take (n + 1))[i]?) := Bt.setK_i _ _ _ _ (fun j hj => by rw [hc]; simp [List.getElem?_take, hj]; omega) fun c' h1 h2 i => by
        by_cases e : i = n
        · subst e; rw [h1]; simp [List.getElem?_take]
        · rw [h2 i e, hc, List.getElem?_take, List.getElem?_take]
          by_cases g : i < n
          · rw [if_pos g, if_pos (by omega)]
          · rw [if_neg g, if_neg (by omega)]
      obtain ⟨c', h', _⟩ := Bt.setK_out _ _ _ _ h
      exact ⟨c', h'⟩
  obtain ⟨c, hc⟩ := key l.length (Nat.le_refl _)
  exact ⟨c, fun i => by rw [hc, List.take_length]⟩
theorem LR.ex (o : LObj) : ∃ a, LR o a := by
  cases o with
  | cells l m =>
    obtain ⟨c, hc⟩ := Bt.ex l
    exact ⟨.cells c l.length m, rfl, rfl, hc⟩
  | map es cl => exact ⟨.map es cl, rfl, rfl⟩
  | iter n x p => exact ⟨.iter n x p, rfl, rfl, rfl⟩
  | dead => exact ⟨.dead, trivial⟩
def firstS (l : List LObj) : LS := ⟨l.length, fun b => (l[b]?).getD .dead⟩
theorem first_mem (l : List LObj) : ∃ H, Mem H (firstS l) := by
  have key : ∀ n, n ≤ l.length → ∃ H, Mem H (firstS (l.take n)) := by
    intro n
    induction n with
    | zero => exact fun _ => ⟨⟨.e, 0⟩, by simpa [firstS] using mem0⟩
    | succ n ih =>
      intro hn
      obtain ⟨H, hM⟩ := ih (by omega)
      obtain ⟨a, ha⟩ := LR.ex l[n]
      have h : newK H a (fun _ H' => Mem H' ((firstS (l.take n)).push l[n])) := hM.newK_i ha fun H' h' => h'
      obtain ⟨H', h', _⟩ := newK_out h
      refine ⟨H', ?_⟩
      have e : (firstS (l.take n)).push l[n] = firstS (l.take (n + 1)) := by
        unfold firstS LS.push
        congr 1
        · simp; omega
        · funext b
          simp only [List.length_take]
          rw [List.getElem?_take, List.getElem?_take]
          by_cases g : b = min n l.length
          · rw [if_pos g, if_pos (by omega), show b = n by omega, List.getElem?_eq_getElem (by omega)]; rfl
          · rw [if_neg g]
            by_cases g2 : b < n
            · rw [if_pos g2, if_pos (by omega)]
            · rw [if_neg g2, if_neg (by omega)]
      rw [← e]; exact h'
  obtain ⟨H, h⟩ := key l.length (Nat.le_refl _)
  exact ⟨H, by rwa [List.take_length] at h⟩
/-- A row of cells, only read, and where it lies. -/
structure Rw where
  b : Nat
  o : Nat
  l : List AV
def noE : Emb := ⟨fun _ => False, fun b => b, fun _ => 0, fun _ => 0⟩
def plA (a : AV) : Bool := match a with | .bool _ => true | .int .. => true | .str .. => true | _ => false
theorem plA_up {f f' : Emb} {a : AV} {v : Value} (h : plA a = true) (hv : VR f a v) : VR f' a v := by
  cases a with
  | bool b => cases hv; exact .bool b
  | int k n => cases hv; exact .int k n
  | str n x => cases hv with | str _ _ hx => exact .str n x hx
  | _ => cases h
def Rw.at_ (W : World) (r : Rw) : Prop := ∃ cur e lo hi, W.heap[r.b]? = some (.cells cur e (lo, hi)) ∧ r.o + r.l.length ≤ cur.size ∧ ∀ (i : Nat) (a : AV), r.l[i]? = some a → plA a = true ∧ ∃ v, cur[r.o + i]? = some v ∧ VR noE a v
/-- What lies there: a row, or nothing that is looked at. -/
def rwO : Option Rw → LObj
  | some r => .cells r.l 2
  | none => .dead
/-- Tables first: the program's variables, in their own blocks. -/
def tabR (gl : List (Option (List AV))) : List (Option Rw) := (List.range gl.length).map fun b => (gl[b]?.getD none).map fun z => ⟨b, 0, z⟩
def allR (gl : List (Option (List AV))) (rows : List (Option Rw)) : List (Option Rw) := tabR gl ++ rows
def firstE (gl : List (Option (List AV))) (rows : List (Option Rw)) : Emb :=
  ⟨fun b => b < gl.length + rows.length, fun b => if b < gl.length then b else match rows[b - gl.length]? with | some (some r) => r.b | _ => 0, fun b => if b < gl.length then 0 else match rows[b - gl.length]? with | some (some r) => r.o | _ => 0,
   fun b => match (allR gl rows)[b]? with | some (some r) => r.l.length | _ => 0⟩
def firstM (gl : List (Option (List AV))) (rows : List (Option Rw)) : LS := firstS ((allR gl rows).map rwO)
theorem tabR_len (gl : List (Option (List AV))) : (tabR gl).length = gl.length := by simp [tabR]
theorem allR_row {gl : List (Option (List AV))} {rows : List (Option Rw)} (j : Nat) {r : Option Rw} (h : rows[j]? = some r) : (allR gl rows)[gl.length + j]? = some r := by
  unfold allR
  rw [List.getElem?_append_right (by rw [tabR_len]; omega), tabR_len, show gl.length + j - gl.length = j by omega, h]
theorem firstM_row {gl : List (Option (List AV))} {rows : List (Option Rw)} (j : Nat) {r : Rw} (h : rows[j]? = some (some r)) : (firstM gl rows).ob (gl.length + j) = .cells r.l 2 := by
  show ((((allR gl rows).map rwO)[gl.length + j]?).getD .dead) = _
  rw [List.getElem?_map, allR_row j h]; rfl
theorem allR_tab {gl : List (Option (List AV))} {rows : List (Option Rw)} {b : Nat} (h : b < gl.length) : (allR gl rows)[b]? = some ((gl[b]?.getD none).map fun z => ⟨b, 0, z⟩) := by
  unfold allR tabR
  rw [List.getElem?_append_left (by simp; exact h), List.getElem?_map, List.getElem?_range h]; rfl
theorem firstM_tab {gl : List (Option (List AV))} {rows : List (Option Rw)} {b : Nat} {z : List AV} (h : gl[b]? = some (some z)) : (firstM gl rows).ob b = .cells z 2 := by
  show ((((allR gl rows).map rwO)[b]?).getD .dead) = _
  rw [List.getElem?_map, allR_tab (List.getElem?_eq_some_iff.1 h).1, h]; rfl
theorem firstM_n (gl : List (Option (List AV))) (rows : List (Option Rw)) : (firstM gl rows).n = gl.length + rows.length := by
  show ((allR gl rows).map rwO).length = _
  simp [allR, tabR_len]
/-- The tables are there. -/
def TabsIn (gl : List (Option (List AV))) (W : World) : Prop := ∀ (b : Nat) (z : List AV), gl[b]? = some (some z) → Rw.at_ W ⟨b, 0, z⟩
theorem first_HR {gl : List (Option (List AV))} {rows : List (Option Rw)} {H : AH} {W : World} (hM : Mem H (firstM gl rows)) (ht : TabsIn gl W) (hr : ∀ r, some r ∈ rows → r.at_ W) : HR (firstE gl rows) H W := by
  have own : ∀ b, (H.sem.ob b).own = true → False := fun b hb => by
    have h := hM.ob b
    have hob : (firstM gl rows).ob b = (((allR gl rows).map rwO)[b]?).getD .dead := rfl
    rw [hob, List.getElem?_map] at h
    rw [AH.sem_ob] at hb
    cases e : (allR gl rows)[b]? with
    | none => rw [e] at h; cases g : H.at b <;> rw [g] at h hb <;> first | exact h.elim | cases hb
    | some r =>
      rw [e] at h
      cases r with
      | none => cases g : H.at b <;> rw [g] at h hb <;> first | exact h.elim | cases hb
      | some r =>
        cases g : H.at b with
        | cells c n m =>
          rw [g] at h hb
          obtain ⟨_, rfl, _⟩ := h
          cases hb
        | map => rw [g] at h; exact h.elim
        | iter => rw [g] at h; exact h.elim
        | dead => rw [g] at h; exact h.elim
  refine HRS.mk' (fun b hb => by rw [AH.sem_n, hM.n, firstM_n]; exact hb) (fun b hb ha => ?_) (fun b c _ _ ho _ _ => (own b ho).elim)
  have hb' : b < gl.length + rows.length := hb
  have h := hM.ob b
  have hob : (firstM gl rows).ob b = (((allR gl rows).map rwO)[b]?).getD .dead := rfl
  rw [hob, List.getElem?_map] at h
  have go : ∀ r : Rw, (allR gl rows)[b]? = some (some r) → r.at_ W → (firstE gl rows).blk b = r.b → (firstE gl rows).off b = r.o → OR (firstE gl rows) b (H.sem.ob b) W.heap[(firstE gl rows).blk b]? := fun r e hr1 hbk hof => by
    rw [e] at h
    have hlim : (firstE gl rows).lim b = r.l.length := by show (match (allR gl rows)[b]? with | some (some r) => r.l.length | _ => 0) = _; rw [e]
    rw [AH.sem_ob]
    cases g : H.at b with
    | cells c n m =>
      rw [g] at h
      obtain ⟨h1, rfl, h3⟩ := h
      obtain ⟨cur, ty, lo, hi, g1, g2, g3⟩ := hr1
      refine ⟨cur, ty, lo, hi, by rw [hbk]; exact g1, by rw [hof, hlim]; exact g2, by rw [h1, hlim]; exact Nat.le_refl _, fun j a hj => ?_, fun hh => absurd hh (by omega), fun hh => absurd hh (by omega)⟩
      rw [h3] at hj
      obtain ⟨p1, v, p2, p3⟩ := g3 j a hj
      refine ⟨by rw [h1]; exact (List.getElem?_eq_some_iff.1 hj).1, v, by rw [hof]; exact p2, plA_up p1 p3⟩
    | map => rw [g] at h; exact h.elim
    | iter => rw [g] at h; exact h.elim
    | dead => rw [g] at h; exact h.elim
  by_cases hbl : b < gl.length
  · have e := allR_tab (rows := rows) hbl
    cases z : gl[b]?.getD none with
    | none =>
      rw [e, z] at h
      rw [AH.sem_ob] at ha
      cases g : H.at b <;> rw [g] at h ha <;> first | exact h.elim | cases ha
    | some l =>
      rw [z] at e
      refine go _ e (ht b l ?_) (if_pos hbl) (if_pos hbl)
      rw [List.getElem?_eq_getElem hbl] at z ⊢
      exact congrArg some z
  · have hj : b - gl.length < rows.length := by omega
    have e := allR_row (gl := gl) (b - gl.length) (List.getElem?_eq_getElem hj)
    rw [show gl.length + (b - gl.length) = b by omega] at e
    cases hz : rows[b - gl.length] with
    | none =>
      rw [e, hz] at h
      rw [AH.sem_ob] at ha
      cases g : H.at b <;> rw [g] at h ha <;> first | exact h.elim | cases ha
    | some r =>
      have hm : some r ∈ rows := by rw [← hz]; exact List.getElem_mem hj
      rw [hz] at e
      refine go r e (hr r hm) ?_ ?_
      · show (if b < gl.length then b else _) = _
        rw [if_neg hbl, List.getElem?_eq_getElem hj, hz]
      · show (if b < gl.length then 0 else _) = _
        rw [if_neg hbl, List.getElem?_eq_getElem hj, hz]
/-- The value of a slice over a row. -/
theorem row_slice {gl : List (Option (List AV))} {rows : List (Option Rw)} {j : Nat} {r : Rw} (h : rows[j]? = some (some r)) {len cap x sz : Nat} (hl : len ≤ cap) (hx : 0 < cap → x = r.o) : VR (firstE gl rows) (.slice (gl.length + j) 0 len cap sz true) (.slice (some ⟨r.b, x, none⟩) len cap) := by
  have hj := (List.getElem?_eq_some_iff.1 h).1
  have h1 : (firstE gl rows).blk (gl.length + j) = r.b := by
    show (if gl.length + j < gl.length then _ else _) = _
    rw [if_neg (by omega), show gl.length + j - gl.length = j by omega, h]
  have h2 : (firstE gl rows).off (gl.length + j) = r.o := by
    show (if gl.length + j < gl.length then _ else _) = _
    rw [if_neg (by omega), show gl.length + j - gl.length = j by omega, h]
  rw [← h1]
  exact .slice _ 0 len cap sz true cap x (show gl.length + j < gl.length + rows.length by omega) hl (Nat.le_refl _) (fun g => by rw [h2]; exact hx g) (fun g => absurd g (Nat.lt_irrefl _))
theorem below_of' {f f' : Emb} {S S' : SH} {w w' : World} (s : StepS f S w f' S' w') (hown : ∀ b, f.dom b → (S.ob b).own = false) : RowKit.Below w.heap.size w w' :=
  ⟨s.os, s.tape, s.output, s.size, fun k hk => s.keep k hk fun b hb ho => by rw [hown b hb] at ho; cases ho⟩
theorem first_own {gl : List (Option (List AV))} {rows : List (Option Rw)} {H : AH} (hM : Mem H (firstM gl rows)) (b : Nat) : (H.sem.ob b).own = false := by
  have h := hM.ob b
  have hob : (firstM gl rows).ob b = (((allR gl rows).map rwO)[b]?).getD .dead := rfl
  rw [hob, List.getElem?_map] at h
  rw [AH.sem_ob]
  cases e : (allR gl rows)[b]? with
  | none => rw [e] at h; cases g : H.at b <;> rw [g] at h <;> first | exact h.elim | rfl
  | some r =>
    rw [e] at h
    cases r with
    | none => cases g : H.at b <;> rw [g] at h <;> first | exact h.elim | rfl
    | some r =>
      cases g : H.at b with
      | cells c n m => rw [g] at h; obtain ⟨_, rfl, _⟩ := h; rfl
      | map => rw [g] at h; exact h.elim
      | iter => rw [g] at h; exact h.elim
      | dead => rfl
/-- A call whose law is shown over lists. -/
theorem call_of {P : Program} {g : Nat} {F : FnA} (hF : FunOk P g F) (hb : hasBody P g = true) (gl : List (Option (List AV))) (rows : List (Option Rw)) (args : List AV) (hG : gl.length = P.globals.size)
    (h : ∀ H, Mem H (firstM gl rows) → F args H (fun o _ => isT o)) {W : World} (ht : TabsIn gl W) (hr : ∀ r, some r ∈ rows → r.at_ W) {vs : Array Value} (hv : VL (firstE gl rows) args vs.toList) :
    Calls P g vs W fun e w' => e = .returned (.bool true) ∧ RowKit.Below W.heap.size W w' := by
  obtain ⟨H, hM⟩ := first_mem ((allR gl rows).map rwO)
  obtain ⟨o, H', h1, h2⟩ := hF hb args H _ (h H hM)
  obtain rfl := isT_out h1
  refine (h2 (firstE gl rows) W vs (first_HR hM ht hr) (fun g hg => ?_) hv).mono fun e w' hp => ?_
  · rw [← hG] at hg
    exact ⟨by show g < gl.length + rows.length; omega, if_pos hg, if_pos hg⟩
  · obtain ⟨f', s, u, rfl, hu⟩ := hp
    cases hu
    exact ⟨rfl, below_of' s fun b _ => first_own hM b⟩
/-! ### Arguments -/
section
open Go.Deep
variable {H : Type} {enc : TypeId × Value → H} {P : Program} {w : World}
theorem fields_ok {fs : Array Field} (h : ((List.range fs.size).all fun j => match fs[j]? with | some f => Nat.beq f.offset j && Nat.beq (P.cellsOf f.type) 1 | none => true) = true) : ∀ (j : Nat) (f : Field), fs[j]? = some f → f.offset = j ∧ P.cellsOf f.type = 1 := fun j f hj => by
  have h1 := List.all_eq_true.1 h j (List.mem_range.2 (Array.getElem?_eq_some_iff.1 hj).1)
  rw [hj] at h1
  simp only [Bool.and_eq_true] at h1
  exact ⟨Nat.eq_of_beq_eq_true h1.1, Nat.eq_of_beq_eq_true h1.2⟩
/-- A slice of structs whose fields have one cell each. -/
theorem open_structs {r : Reach} {b0 : Nat} {t e k : Nat} {fs : Array Field} {v : Value} {d : DataW H} {ps : List MemPlace} (ht : P.underlying t = some (.slice e)) (he : P.underlying e = some (.struct fs)) (hc : P.cellsOf e = k) (hk : 0 < k)
    (hfs : ∀ (j : Nat) (f : Field), fs[j]? = some f → f.offset = j ∧ P.cellsOf f.type = 1) (hfk : fs.size = k) (hv : Value.okWide P w r b0 t v) (hd : DataW.Trod enc P w 0 (fun _ => true) true t v d ps) :
    v = .slice none 0 0 ∨ ∃ b x len cap, v = .slice (some ⟨b, x, none⟩) len cap ∧ len ≤ cap ∧ cap ≤ maxLen ∧ (∃ cur ty fr, w.heap[b]? = some (.cells cur ty fr) ∧ (0 < cap → x + cap * k ≤ cur.size) ∧
      ∀ (i j : Nat) (f : Field), i < cap → fs[j]? = some f → ∃ u n y, cur[x + i * k + j]? = some u ∧ DataW.trod enc P w 0 (fun _ => true) true n f.type [u] = some y) := by
  obtain ⟨a0, len0, cap0, rfl⟩ := WideShapes.okWide_slice ht hv
  obtain ⟨fuel, hf⟩ := hd
  rcases open_slice ht hf with ⟨hcs, _⟩ | ⟨a, len, cap, m, n, D, Pl, hcs, _, hl, hm, hmm, _, hx⟩
  · have hcs' : [Value.slice a0 len0 cap0] = [Value.slice none 0 0] := hcs
    exact .inl (List.cons.inj hcs').1
  · have hcs' : [Value.slice a0 len0 cap0] = [Value.slice (some a) len cap] := hcs
    obtain ⟨rfl, rfl, rfl⟩ : some a = a0 ∧ len = len0 ∧ cap = cap0 := by have := (List.cons.inj hcs').1; cases this; exact ⟨rfl, rfl, rfl⟩
    have hmm' : cap = m := by simpa using hmm.symm
    subst hmm'
    right
    simp only [Value.okWide, ht, Cell.okWide, Cell.ok] at hv
    obtain ⟨_, _, _, hsp, row, cells, hsh, _⟩ := hv
    obtain ⟨ab, ao, asp⟩ := a
    simp only at hsp
    subst hsp
    refine ⟨ab, ao, len, cap, rfl, hl, hm, ?_⟩
    unfold World.shape? at hsh
    split at hsh
    · rename_i cur ty fr hh
      refine ⟨cur, ty, fr, hh, ?_⟩
      have each : ∀ i j, i < cap → j < k → ∃ u, cur[ao + i * k + j]? = some u ∧ ∀ f, fs[j]? = some f → ∃ n y, DataW.trod enc P w 0 (fun _ => true) true n f.type [u] = some y := fun i j hi hj => by
        obtain ⟨cs', h1, h2⟩ := hx i hi
        rw [hc] at h1
        obtain ⟨_, hlen, hcell⟩ := World.cells?_some h1
        have hu : cs'[j]? = some cs'[j] := List.getElem?_eq_getElem (by omega)
        have hc1 := hcell j hj
        rw [hu] at hc1
        have ha : ∀ q : Nat, (Addr.add ⟨ab, ao, none⟩ q) = ⟨ab, ao + q, none⟩ := fun q => by
          unfold Addr.add
          split
          · rename_i h; subst h; rfl
          · rfl
        rw [ha] at hc1
        have ha2 : (Addr.add ⟨ab, ao + i * k, none⟩ j) = ⟨ab, ao + i * k + j, none⟩ := by
          unfold Addr.add
          split
          · rename_i h; rw [h]; rfl
          · rfl
        rw [ha2] at hc1
        unfold World.cell? at hc1
        simp only [hh] at hc1
        refine ⟨cs'[j], by simpa using hc1, fun f hfj => ?_⟩
        obtain ⟨xs, n', _, _, hcl, hxl, hff⟩ := DataW.trod_struct he h2
        have h3 := hff j f hfj
        obtain ⟨o1, o2⟩ := hfs j f hfj
        rw [o1, o2] at h3
        have h4 : (cs'.drop j).take 1 = [cs'[j]] := by rw [List.drop_eq_getElem_cons (by omega)]; rfl
        rw [h4, List.getElem?_eq_getElem (by omega)] at h3
        exact ⟨n', _, h3⟩
      refine ⟨fun hcap => ?_, fun i j f hi hj => ?_⟩
      · obtain ⟨u, hu, _⟩ := each (cap - 1) (k - 1) (by omega) (by omega)
        have := (Array.getElem?_eq_some_iff.1 hu).1
        have e : (cap - 1) * k + k = cap * k := by rw [← Nat.succ_mul]; congr 1; omega
        omega
      · have hjk : j < k := by rw [← hfk]; exact (Array.getElem?_eq_some_iff.1 hj).1
        obtain ⟨u, hu, hg⟩ := each i j hi hjk
        obtain ⟨n, y, hy⟩ := hg f hj
        exact ⟨u, n, y, hu, hy⟩
    · cases hsh
/-- A text's value. -/
theorem str_of (s : ByteArray) : ∃ n x, x < 256 ^ n ∧ s = toBA n x ∧ n = s.size :=
  ⟨_, _, encL_lt _, (toBA_encL s).symm, Array.length_toList⟩
theorem list_of {α : Type} {p : Nat → α → Prop} : ∀ n, (∀ i, i < n → ∃ a, p i a) → ∃ l : List α, l.length = n ∧ ∀ i a, l[i]? = some a → p i a
  | 0, _ => ⟨[], rfl, fun i a h => by simp at h⟩
  | n + 1, h => by
    obtain ⟨l, h1, h2⟩ := list_of n fun i hi => h i (by omega)
    obtain ⟨a, ha⟩ := h n (by omega)
    refine ⟨l ++ [a], by simp [h1], fun i b hb => ?_⟩
    rcases Nat.lt_or_ge i l.length with hi | hi
    · rw [List.getElem?_append_left hi] at hb
      exact h2 i b hb
    · rw [List.getElem?_append_right hi] at hb
      have : i - l.length = 0 := by
        rcases Nat.eq_zero_or_pos (i - l.length) with g | g
        · exact g
        · rw [List.getElem?_eq_none (by simp; omega)] at hb; cases hb
      rw [this] at hb
      simp at hb
      subst hb
      rw [show i = n by omega]
      exact ha
end
end Go.X
