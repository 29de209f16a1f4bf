/- Memory as lists, and each primitive told forwards: a tool of this claim. No condition: definitions and lemmas. -/
import Derived.Test.YtlbojjiijfakaaaXb
set_option linter.unusedVariables false
set_option linter.unusedSimpArgs false
namespace Go.X

/-- What a block holds, its cells as a list. -/
inductive LObj where
  | cells (l : List AV) (m : Nat)
  | map (es : List AEnt) (cl : Nat)
  | iter (n x pos : Nat)
  | dead
structure LS where
  n : Nat
  ob : Nat → LObj
def LS.set (S : LS) (b : Nat) (o : LObj) : LS := ⟨S.n, fun x => if x = b then o else S.ob x⟩
def LS.push (S : LS) (o : LObj) : LS := ⟨S.n + 1, fun x => if x = S.n then o else S.ob x⟩
@[simp] theorem LS.set_n (S : LS) (b : Nat) (o : LObj) : (S.set b o).n = S.n := rfl
@[simp] theorem LS.push_n (S : LS) (o : LObj) : (S.push o).n = S.n + 1 := rfl
theorem LS.set_ob (S : LS) (b : Nat) (o : LObj) (x : Nat) : (S.set b o).ob x = if x = b then o else S.ob x := rfl
theorem LS.push_ob (S : LS) (o : LObj) (x : Nat) : (S.push o).ob x = if x = S.n then o else S.ob x := rfl
@[simp] theorem LS.set_ob_self (S : LS) (b : Nat) (o : LObj) : (S.set b o).ob b = o := if_pos rfl
@[simp] theorem LS.push_ob_self (S : LS) (o : LObj) : (S.push o).ob S.n = o := if_pos rfl
theorem LS.set_ob_ne (S : LS) {b : Nat} (o : LObj) {x : Nat} (h : x ≠ b) : (S.set b o).ob x = S.ob x := if_neg h
theorem LS.push_ob_ne (S : LS) (o : LObj) {x : Nat} (h : x ≠ S.n) : (S.push o).ob x = S.ob x := if_neg h
theorem LS.push_ob_lt (S : LS) (o : LObj) {x : Nat} (h : x < S.n) : (S.push o).ob x = S.ob x := if_neg (Nat.ne_of_lt h)

def LR : LObj → AObj → Prop
  | .cells l m, .cells c n m' => n = l.length ∧ m' = m ∧ ∀ i : Nat, c.get? i = l[i]?
  | .map es cl, .map es' cl' => es' = es ∧ cl' = cl
  | .iter n x p, .iter n' x' p' => n' = n ∧ x' = x ∧ p' = p
  | .dead, .dead => True
  | _, _ => False
structure Mem (H : AH) (S : LS) : Prop where
  n : H.n = S.n
  ob : ∀ b, LR (S.ob b) (H.at b)
  dom : ∀ b, (H.t.get? b).isSome = true ↔ b < H.n

theorem Bt.setK_i {α : Type} (t : Bt α) : ∀ (i : Nat) (v : α) (k : Bt α → Prop), (∀ j, j < i → (t.get? j).isSome = true) →
    (∀ t', t'.get? i = some v → (∀ j, j ≠ i → t'.get? j = t.get? j) → k t') → t.setK i v k := by
  induction t with
  | e =>
    intro i v k hp hk
    cases i with
    | zero => exact hk _ rfl fun j hj => by cases j with | zero => exact absurd rfl hj | succ j => simp only [Bt.get?, ite_self]
    | succ j => have := hp 0 (by omega); simp [Bt.get?] at this
  | n u l r il ir =>
    intro i v k hp hk
    cases i with
    | zero => exact hk (.n v l r) rfl fun j hj => by cases j with | zero => exact absurd rfl hj | succ j => simp only [Bt.get?]
    | succ i =>
      change @Nat.rec (fun _ => Prop) (l.setK (i/2) v (fun l' => k (.n u l' r))) (fun _ _ => r.setK (i/2) v (fun r' => k (.n u l r'))) (i % 2)
      rcases Nat.mod_two_eq_zero_or_one i with e | e
      · rw [e]
        refine il _ _ _ (fun j hj => ?_) fun l' h1 h2 => hk _ (by simp only [Bt.get?, e, if_true]; exact h1) fun j hj => ?_
        · have := hp (2 * j + 1) (by omega)
          simp only [Bt.get?] at this
          rw [if_pos (by omega), show 2 * j / 2 = j by omega] at this
          exact this
        · cases j with
          | zero => rfl
          | succ j =>
            simp only [Bt.get?]
            split
            · rename_i ej; exact h2 _ (half_ne hj (by omega))
            · rfl
      · rw [e]
        refine ir _ _ _ (fun j hj => ?_) fun r' h1 h2 => hk _ (by simp only [Bt.get?, e]; exact h1) fun j hj => ?_
        · have := hp (2 * j + 2) (by omega)
          simp only [Bt.get?] at this
          rw [if_neg (by omega), show (2 * j + 1) / 2 = j by omega] at this
          exact this
        · cases j with
          | zero => rfl
          | succ j =>
            simp only [Bt.get?]
            split
            · rfl
            · rename_i ej; exact h2 _ (half_ne hj (by omega))
theorem Bt.getK_i {α : Type} (t : Bt α) : ∀ (i : Nat) (v : α) (k : α → Prop), t.get? i = some v → k v → t.getK i k := by
  induction t with
  | e => intro i v k h _; cases i <;> simp [Bt.get?] at h
  | n u l r il ir =>
    intro i v k h hk
    cases i with
    | zero => simp [Bt.get?] at h; subst h; exact hk
    | succ j =>
      change @Nat.rec (fun _ => Prop) (l.getK (j/2) k) (fun _ _ => r.getK (j/2) k) (j % 2)
      rcases Nat.mod_two_eq_zero_or_one j with e | e
      · rw [e]
        simp only [Bt.get?, e, if_true] at h
        exact il _ _ _ h hk
      · rw [e]
        simp only [Bt.get?, e] at h
        exact ir _ _ _ h hk

variable {H : AH} {S : LS}
theorem Mem.get (h : Mem H S) {b : Nat} {o : AObj} (ho : H.at b = o) (hd : S.ob b ≠ .dead) : H.t.get? b = some o := by
  cases e : H.t.get? b with
  | some x => simp [AH.at, e] at ho; rw [ho]
  | none =>
    have h1 := h.ob b
    rw [show H.at b = .dead by simp [AH.at, e]] at h1
    cases hb : S.ob b <;> rw [hb] at h1 <;> first | exact absurd hb hd | exact h1.elim
theorem Mem.cells (h : Mem H S) {b : Nat} {l : List AV} {m : Nat} (hb : S.ob b = .cells l m) : ∃ c, H.t.get? b = some (.cells c l.length m) ∧ ∀ i : Nat, c.get? i = l[i]? := by
  have h1 := h.ob b
  rw [hb] at h1
  cases e : H.at b with
  | cells c n m' =>
    rw [e] at h1
    obtain ⟨rfl, rfl, h3⟩ := h1
    exact ⟨c, h.get e (by rw [hb]; simp), h3⟩
  | map => rw [e] at h1; exact h1.elim
  | iter => rw [e] at h1; exact h1.elim
  | dead => rw [e] at h1; exact h1.elim
theorem Mem.map (h : Mem H S) {b : Nat} {es : List AEnt} {cl : Nat} (hb : S.ob b = .map es cl) : H.t.get? b = some (.map es cl) := by
  have h1 := h.ob b
  rw [hb] at h1
  cases e : H.at b with
  | cells => rw [e] at h1; exact h1.elim
  | map es' cl' => rw [e] at h1; obtain ⟨rfl, rfl⟩ := h1; exact h.get e (by rw [hb]; simp)
  | iter => rw [e] at h1; exact h1.elim
  | dead => rw [e] at h1; exact h1.elim
theorem Mem.lt (h : Mem H S) {b : Nat} (hb : S.ob b ≠ .dead) : b < S.n := by
  rw [← h.n, ← h.dom]
  have h1 := h.ob b
  cases e : H.t.get? b with
  | some x => rfl
  | none =>
    rw [show H.at b = .dead by simp [AH.at, e]] at h1
    cases hb' : S.ob b <;> rw [hb'] at h1 <;> first | exact absurd hb' hb | exact h1.elim
theorem Mem.dead (h : Mem H S) {b : Nat} (hb : S.n ≤ b) : S.ob b = .dead := by
  cases e : S.ob b with
  | dead => rfl
  | _ => exact absurd (h.lt (b := b) (by rw [e]; simp)) (by omega)
theorem Mem.atDead (h : Mem H S) {x : Prop} (hx : x) : Go.X.atDead H x := by
  have e : H.at H.n = .dead := by
    have := h.dom H.n
    cases e : H.t.get? H.n with
    | none => simp [AH.at, e]
    | some x => rw [e] at this; simp at this
  unfold Go.X.atDead
  rw [e]
  exact hx

theorem Mem.getK_i (h : Mem H S) {b : Nat} {l : List AV} {m : Nat} (hb : S.ob b = .cells l m) {k : Bt AV → Nat → Nat → Prop} (hk : ∀ c, (∀ i : Nat, c.get? i = l[i]?) → k c l.length m) : getK H b k := by
  obtain ⟨c, h1, h2⟩ := h.cells hb
  exact Bt.getK_i _ _ _ _ h1 (hk c h2)
theorem Mem.setK_i (h : Mem H S) {b : Nat} (hb : b < S.n) {o : AObj} {o' : LObj} (hr : LR o' o) {k : AH → Prop} (hk : ∀ H', Mem H' (S.set b o') → k H') : setK H b o k := by
  refine Bt.setK_i _ _ _ _ (fun j hj => (h.dom j).2 (by rw [h.n]; omega)) fun t' h1 h2 => hk _ ⟨h.n, fun x => ?_, fun x => ?_⟩
  · by_cases e : x = b
    · subst e; rw [LS.set_ob_self]; simp only [AH.at, h1]; exact hr
    · rw [LS.set_ob_ne _ _ e]; simp only [AH.at, h2 x e]; exact h.ob x
  · by_cases e : x = b
    · subst e; simp only [h1, Option.isSome_some, true_iff]; rw [h.n]; exact hb
    · simp only [h2 x e]; exact h.dom x
theorem Mem.newK_i (h : Mem H S) {o : AObj} {o' : LObj} (hr : LR o' o) {k : Nat → AH → Prop} (hk : ∀ H', Mem H' (S.push o') → k S.n H') : newK H o k := by
  refine Bt.setK_i _ _ _ _ (fun j hj => (h.dom j).2 hj) fun t' h1 h2 => ?_
  rw [forceN_eq]
  rw [h.n] at h1 h2 ⊢
  refine hk _ ⟨rfl, fun x => ?_, fun x => ?_⟩
  · by_cases e : x = S.n
    · subst e; rw [LS.push_ob_self]; simp only [AH.at, h1]; exact hr
    · rw [LS.push_ob_ne _ _ e]; simp only [AH.at, h2 x e]; exact h.ob x
  · show _ ↔ x < Nat.succ S.n
    by_cases e : x = S.n
    · subst e; simp only [h1, Option.isSome_some, true_iff]; omega
    · simp only [h2 x e]; rw [h.dom x, h.n]; omega

theorem loadL_i {c : Bt AV} {l : List AV} (hc : ∀ i : Nat, c.get? i = l[i]?) : ∀ (n o : Nat) {k : List AV → Prop}, o + n ≤ l.length → k ((l.drop o).take n) → loadL c n o k
  | 0, o, k, _, h => by
    show k []
    simpa using h
  | n + 1, o, k, hl, h => by
    have ho : o < l.length := by omega
    refine Bt.getK_i _ _ l[o] _ (by rw [hc]; simp [ho]) ?_
    rw [forceN_eq]
    refine loadL_i hc n (o + 1) (by omega) ?_
    have e : (l.drop o).take (n + 1) = l[o] :: (l.drop (o + 1)).take n := by
      rw [List.drop_eq_getElem_cons ho, List.take_succ_cons]
    rw [e] at h
    exact h
/-- Cells from a place on turned. -/
def spliceL (l : List AV) (o : Nat) (l' : List AV) : List AV := l.take o ++ l' ++ l.drop (o + l'.length)
theorem spliceL_length {l : List AV} {o : Nat} {l' : List AV} (h : o + l'.length ≤ l.length) : (spliceL l o l').length = l.length := by
  simp [spliceL]; omega
theorem spliceL_one {l : List AV} {o : Nat} {v : AV} (h : o < l.length) : spliceL l o [v] = l.set o v := by
  rw [List.set_eq_take_append_cons_drop]
  simp [spliceL, h]
theorem spliceL_end {l : List AV} {l' : List AV} : spliceL l l.length l' = l ++ l' := by simp [spliceL]
theorem storeL_i : ∀ (l' : List AV) {l : List AV} {c : Bt AV} {o : Nat} {k : Bt AV → Nat → Prop}, (∀ i : Nat, c.get? i = l[i]?) → o ≤ l.length → (∀ a ∈ l', a.one = true) →
    (∀ c', (∀ i : Nat, c'.get? i = (spliceL l o l')[i]?) → k c' (o + l'.length)) → storeL l' c o k
  | [], l, c, o, k, hc, ho, _, hk => by
    refine hk c fun i => ?_
    rw [hc]
    simp [spliceL]
  | a :: l', l, c, o, k, hc, ho, h1, hk => by
    show bT a.one (c.setK o a fun c' => forceN (Nat.succ o) fun o' => storeL l' c' o' k)
    rw [h1 a (by simp)]
    refine Bt.setK_i _ _ _ _ (fun j hj => by rw [hc]; simp; omega) fun c' g1 g2 => ?_
    rw [forceN_eq]
    have hc' : ∀ i : Nat, c'.get? i = (l.take o ++ a :: l.drop (o + 1))[i]? := fun i => by
      by_cases e : i = o
      · subst e
        rw [g1, List.getElem?_append_right (by simp; omega)]
        simp [Nat.min_eq_left ho]
      · rw [g2 i e, hc]
        rcases Nat.lt_or_ge i o with hl | hl
        · rw [List.getElem?_append_left (by simp; omega), List.getElem?_take]
          simp [hl]
        · rw [List.getElem?_append_right (by simp; omega)]
          simp only [List.length_take, Nat.min_eq_left ho]
          obtain ⟨d, rfl⟩ : ∃ d, i = o + 1 + d := ⟨i - (o + 1), by omega⟩
          rw [show o + 1 + d - o = d + 1 by omega]
          simp
    refine storeL_i l' (o := o + 1) hc' (by simp; omega) (fun x hx => h1 x (by simp [hx])) fun c2 g => ?_
    have := hk c2 fun i => ?_
    · rw [show o + 1 + l'.length = o + (a :: l').length by simp; omega]; exact this
    · rw [g]
      have hA : (l.take o).length = o := by simp; omega
      have e1 : (l.take o ++ a :: l.drop (o + 1)).take (o + 1) = l.take o ++ [a] := by
        rw [List.take_append, hA, List.take_of_length_le (by omega), show o + 1 - o = 1 by omega]; rfl
      have e2 : (l.take o ++ a :: l.drop (o + 1)).drop (o + 1 + l'.length) = l.drop (o + (l'.length + 1)) := by
        rw [List.drop_append, hA, List.drop_of_length_le (by omega), show o + 1 + l'.length - o = l'.length + 1 by omega, List.nil_append, List.drop_succ_cons, List.drop_drop]
        congr 1; omega
      simp only [spliceL, List.length_cons, e1, e2]
      simp
theorem storeL_new {l : List AV} {k : Bt AV → Nat → Prop} (h1 : ∀ a ∈ l, a.one = true) (hk : ∀ c, (∀ i : Nat, c.get? i = l[i]?) → k c l.length) : storeL l .e 0 k :=
  storeL_i l (l := []) (fun i => by simp [Bt.get?_e]) (Nat.le_refl _) h1 fun c hc => by
    have := hk c fun i => by rw [hc]; simp [spliceL]
    simpa using this
end Go.X

namespace Go.X

/-! ### Plain ones -/
theorem nbeq {a b : Nat} (h : a = b) : Nat.beq a b = true := by subst h; exact Nat.beq_refl a

@[simp] theorem bT_tt (x : Prop) : bT true x = x := rfl
@[simp] theorem bT_ff (x : Prop) : bT false x = False := rfl
theorem bT_i {b : Bool} {x : Prop} (hb : b = true) (h : x) : bT b x := by subst hb; exact h
@[simp] theorem bI_tt (x y : Prop) : bI true x y = x := rfl
@[simp] theorem bI_ff (x y : Prop) : bI false x y = y := rfl
theorem bI_i {b : Bool} {x y : Prop} (h1 : b = true → x) (h2 : b = false → y) : bI b x y := by
  cases b
  · exact h2 rfl
  · exact h1 rfl
theorem bI_dec {p : Prop} [Decidable p] {x y : Prop} (h1 : p → x) (h2 : ¬p → y) : bI (decide p) x y := bI_i (fun h => h1 (of_decide_eq_true h)) (fun h => h2 (of_decide_eq_false h))
@[simp] theorem onB_b (z : Bool) (k : Bool → Prop) : onB (.bool z) k = k z := rfl
@[simp] theorem onBool_b (z : Bool) (x y : Prop) : onBool (.bool z) x y = bI z x y := by cases z <;> rfl
@[simp] theorem cI_z (q : Nat) (z : Int) (k : Int → Prop) : cI q (.int q z) k = k z := by simp [cI, onInt]
@[simp] theorem iLt_d (x y : Int) : iLt x y = decide (x < y) := by
  rw [Bool.eq_iff_iff, decide_eq_true_iff]
  cases x <;> cases y <;> simp only [iLt, Nat.ble_eq, Bool.false_eq_true, false_iff, true_iff, Int.ofNat_eq_natCast] <;> omega
@[simp] theorem iEq_d (x y : Int) : iEq x y = decide (x = y) := by
  rw [Bool.eq_iff_iff, decide_eq_true_iff]
  rw [iEq_eq]; simp
@[simp] theorem forceI_s (z : Int) (k : Int → Prop) : forceI z k = k z := forceI_eq z k
@[simp] theorem forceN_s (z : Nat) (k : Nat → Prop) : forceN z k = k z := forceN_eq z k
@[simp] theorem one_s (v : AV) (x : Prop) : one v x = bT v.one x := rfl
@[simp] theorem one_ptr (b o : Nat) : (AV.ptr b o).one = true := rfl
@[simp] theorem one_int (q : Nat) (z : Int) : (AV.int q z).one = true := rfl
@[simp] theorem one_bool (z : Bool) : (AV.bool z).one = true := rfl
@[simp] theorem one_str (n x : Nat) : (AV.str n x).one = true := rfl
@[simp] theorem one_nptr : AV.nptr.one = true := rfl
@[simp] theorem one_map (b : Nat) : (AV.map b).one = true := rfl
@[simp] theorem one_nslice : AV.nslice.one = true := rfl
@[simp] theorem one_slice (b o l c s : Nat) (x : Bool) : (AV.slice b o l c s x).one = true := rfl
@[simp] theorem pNil_ptr (b o : Nat) (x : Prop) : pNil (.ptr b o) x = x := rfl
@[simp] theorem pFld_ptr (n b o : Nat) (k : AV → Prop) : pFld n (.ptr b o) k = k (.ptr b (o + n)) := by simp only [pFld, onPtr, forceN_eq]; rfl
@[simp] theorem pLen_slice (b o l c s : Nat) (x : Bool) (k : AV → Prop) : pLen (.slice b o l c s x) k = k (.int 0 l) := rfl
@[simp] theorem pLen_nil (k : AV → Prop) : pLen .nslice k = k (.int 0 0) := rfl
@[simp] theorem pPEq_nn (r : Bool) (H : AH) (k : AV → Prop) : pPEq r .nptr .nptr H k = k (.bool r) := rfl
@[simp] theorem pPEq_np (r : Bool) (b o : Nat) (H : AH) (k : AV → Prop) : pPEq r .nptr (.ptr b o) H k = k (.bool (!r)) := rfl
@[simp] theorem pPEq_pn (r : Bool) (b o : Nat) (H : AH) (k : AV → Prop) : pPEq r (.ptr b o) .nptr H k = k (.bool (!r)) := rfl
@[simp] theorem cR_ret (K : KF) (v : AV) (H : AH) (k : AV → Prop) : cR K (.ret v) H k = k v := rfl
@[simp] theorem onTup_t (l : List AV) (k : List AV → Prop) : onTup (.tup l) k = k l := rfl
@[simp] theorem onAgg_a (l : List AV) (k : List AV → Prop) : onAgg (.agg l) k = k l := rfl
@[simp] theorem nthK_0 (a : AV) (l : List AV) (k : AV → Prop) : nthK (a :: l) 0 k = k a := rfl
@[simp] theorem nthK_s (a : AV) (l : List AV) (n : Nat) (k : AV → Prop) : nthK (a :: l) (n + 1) k = nthK l n k := rfl
theorem wrapK_i {c : Nat} {z z' : Int} {k : Int → Prop} (e : (kd c).wrap z = z') (h : k z') : wrapK c z k := wrapK_intro (by rw [e]; exact h)
theorem wrap0 {z : Int} (h1 : -9223372036854775808 ≤ z) (h2 : z < 9223372036854775808) : (kd 0).wrap z = z := by
  refine wrap_small rfl ?_ ?_ <;> simp [half] <;> omega
theorem wrap3 {z : Int} : (kd 3).wrap z = z % 18446744073709551616 := by
  unfold IntKind.wrap
  simp [kd, IntKind.bits, IntKind.signed]
theorem wrap1 {z : Int} : (kd 1).wrap z = z % 256 := by
  unfold IntKind.wrap
  simp [kd, IntKind.bits, IntKind.signed]
/-- An int of 64 bits that fits. -/
theorem w0 {z : Int} {k : Int → Prop} (h1 : -9223372036854775808 ≤ z) (h2 : z < 9223372036854775808) (h : k z) : wrapK 0 z k := wrapK_i (wrap0 h1 h2) h
theorem w3 {z : Int} {k : Int → Prop} (h : k (z % 18446744073709551616)) : wrapK 3 z k := wrapK_i wrap3 h
@[simp] theorem sEq_s (n x m y : Nat) (k : AV → Prop) : sEq (.str n x) (.str m y) k = k (.bool (Nat.beq n m && Nat.beq x y)) := rfl
@[simp] theorem sLen_s (n x : Nat) (k : AV → Prop) : sLen (.str n x) k = k (.int 0 n) := rfl

theorem iadd (a b : Int) : Int.add a b = a + b := rfl
theorem isub (a b : Int) : Int.sub a b = a - b := rfl
theorem imul (a b : Int) : Int.mul a b = a * b := rfl
theorem io0 : Int.ofNat 0 = 0 := rfl
theorem io1 : Int.ofNat 1 = 1 := rfl
theorem io2 : Int.ofNat 2 = 2 := rfl
theorem iofn (n : Nat) : Int.ofNat n = (n : Int) := rfl

/-! ### Memory -/
variable {H : AH} {S : LS}
theorem Mem.newC (h : Mem H S) {c : Bt AV} {l : List AV} {m : Nat} (hc : ∀ i : Nat, c.get? i = l[i]?) {k : Nat → AH → Prop} (hk : ∀ H', Mem H' (S.push (.cells l m)) → k S.n H') : newK H (.cells c l.length m) k :=
  h.newK_i (o := .cells c l.length m) (o' := .cells l m) ⟨rfl, rfl, hc⟩ hk
theorem Mem.newM (h : Mem H S) {es : List AEnt} {cl : Nat} {k : Nat → AH → Prop} (hk : ∀ H', Mem H' (S.push (.map es cl)) → k S.n H') : newK H (.map es cl) k :=
  h.newK_i (o := .map es cl) (o' := .map es cl) ⟨rfl, rfl⟩ hk
theorem Mem.setC (h : Mem H S) {b : Nat} (hb : b < S.n) {c : Bt AV} {l : List AV} {n m : Nat} (hn : n = l.length) (hc : ∀ i : Nat, c.get? i = l[i]?) {k : AH → Prop} (hk : ∀ H', Mem H' (S.set b (.cells l m)) → k H') : setK H b (.cells c n m) k :=
  h.setK_i (o := .cells c n m) (o' := .cells l m) hb ⟨hn, rfl, hc⟩ hk
theorem Mem.setM (h : Mem H S) {b : Nat} (hb : b < S.n) {es : List AEnt} {cl : Nat} {k : AH → Prop} (hk : ∀ H', Mem H' (S.set b (.map es cl)) → k H') : setK H b (.map es cl) k :=
  h.setK_i (o := .map es cl) (o' := .map es cl) hb ⟨rfl, rfl⟩ hk
theorem Mem.setD (h : Mem H S) {b : Nat} (hb : b < S.n) {k : AH → Prop} (hk : ∀ H', Mem H' (S.set b .dead) → k H') : setK H b .dead k :=
  h.setK_i (o := .dead) (o' := .dead) hb trivial hk
theorem pLoad_i (h : Mem H S) {b o : Nat} {l : List AV} {m : Nat} {v : AV} {k : AV → Prop} (hb : S.ob b = .cells l m) (ho : l[o]? = some v) (hk : k v) : pLoad (.ptr b o) H k :=
  h.getK_i hb fun c hc => Bt.getK_i _ _ _ _ (by rw [hc]; exact ho) hk
theorem pLoadN_i (h : Mem H S) {b o n : Nat} {l : List AV} {m : Nat} {k : AV → Prop} (hb : S.ob b = .cells l m) (ho : o + n ≤ l.length) (hk : k (.agg ((l.drop o).take n))) : pLoadN n (.ptr b o) H k :=
  h.getK_i hb fun c hc => loadL_i hc n o ho hk
theorem pStore_raw (h : Mem H S) {b o n : Nat} {v : AV} {l l' : List AV} {m : Nat} {k : AH → Prop} (hv : ∀ (k : List AV → Prop), k l' → onVal v k) (hb : S.ob b = .cells l m) (hm : m ≤ 1) (hn : l'.length = n) (ho : o + n ≤ l.length)
    (h1 : ∀ a ∈ l', a.one = true) (hk : ∀ H', Mem H' (S.set b (.cells (spliceL l o l') m)) → k H') : pStore n (.ptr b o) v H k := by
  refine hv _ (h.getK_i hb fun c hc => ?_)
  refine bT_i (Nat.ble_eq_true_of_le hm) (storeL_i l' hc (by omega) h1 fun c' hc' => ?_)
  refine bT_i (nbeq (by rw [hn]; rfl)) (bT_i (Nat.ble_eq_true_of_le (by omega)) ?_)
  exact h.setC (h.lt (by rw [hb]; simp)) (by rw [spliceL_length (by omega)]) hc' hk
theorem pStore_i (h : Mem H S) {b o : Nat} {v : AV} {l : List AV} {m : Nat} {k : AH → Prop} (hb : S.ob b = .cells l m) (hm : m ≤ 1) (ho : o < l.length) (h1 : v.one = true)
    (hk : ∀ H', Mem H' (S.set b (.cells (l.set o v) m)) → k H') : pStore 1 (.ptr b o) v H k := by
  refine pStore_raw h (l' := [v]) (fun k hk => ?_) hb hm rfl (by omega) (by simpa using h1) fun H' hM => hk H' ?_
  · cases v <;> first | exact hk | simp [AV.one] at h1
  · rw [← spliceL_one ho]; exact hM
theorem pStoreN_i (h : Mem H S) {b o n : Nat} {l l' : List AV} {m : Nat} {k : AH → Prop} (hb : S.ob b = .cells l m) (hm : m ≤ 1) (hn : l'.length = n) (ho : o + n ≤ l.length) (h1 : ∀ a ∈ l', a.one = true)
    (hk : ∀ H', Mem H' (S.set b (.cells (spliceL l o l') m)) → k H') : pStore n (.ptr b o) (.agg l') H k :=
  pStore_raw h (fun k hk => hk) hb hm hn ho h1 hk
theorem pNew_i (h : Mem H S) {l : List AV} {k : AV → AH → Prop} (h1 : ∀ a ∈ l, a.one = true) (hk : ∀ H', Mem H' (S.push (.cells l 0)) → k (.ptr S.n 0) H') : pNew (newK H) l k :=
  storeL_new h1 fun _ hc => h.newC hc hk
theorem xBox_agg (h : Mem H S) {l : List AV} {k : AV → AH → Prop} (h1 : ∀ a ∈ l, a.one = true) (hk : ∀ H', Mem H' (S.push (.cells l 0)) → k (.ptr S.n 0) H') : xBox (newK H) (.agg l) k :=
  pNew_i h h1 hk
theorem pNewS_i (h : Mem H S) {n sz : Nat} {l : List AV} {k : AV → AH → Prop} (hl : l.length = n * sz) (h1 : ∀ a ∈ l, a.one = true) (hk : ∀ H', Mem H' (S.push (.cells l 0)) → k (.slice S.n 0 n n sz true) H') : pNewS (newK H) n sz l k :=
  storeL_new h1 fun _ hc => bT_i (nbeq hl) (h.newC hc hk)
theorem repL_mem {z : List AV} {a : AV} : ∀ {n : Nat}, a ∈ repL n z → a ∈ z
  | 0, h => by simp [repL] at h
  | n + 1, h => by
    simp only [repL, List.mem_append] at h
    exact h.elim id repL_mem
theorem pMakeS_i (h : Mem H S) {sz bytes n m q q' : Nat} {z : List AV} {k : AV → AH → Prop} (hz : z.length = sz) (h1 : ∀ a ∈ z, a.one = true) (hn : n ≤ m) (hb : m * bytes ≤ 1099511627776) (hm : m ≤ 1099511627776)
    (hk : ∀ H', Mem H' (S.push (.cells (repL m z) 0)) → k (.slice S.n 0 n m sz true) H') : pMakeS (newK H) sz bytes z (.int q (.ofNat n)) (.int q' (.ofNat m)) k := by
  refine bT_i (Nat.ble_eq_true_of_le hn) (bT_i (Nat.ble_eq_true_of_le hb) (bT_i (Nat.ble_eq_true_of_le hm) ?_))
  refine storeL_new (fun a ha => h1 a (repL_mem ha)) fun c hc => bT_i (nbeq (by rw [repL_length, hz]; rfl)) (h.newC hc hk)
theorem onNat_i {q : Nat} {z : Int} {k : Nat → Nat → Prop} (h0 : 0 ≤ z) (hk : k q z.toNat) : onNat (.int q z) k := by
  cases z with
  | ofNat n => exact hk
  | negSucc n => exact absurd h0 (by omega)
theorem pIdx_i {sz b o len cap q : Nat} {ex : Bool} {i : Int} {k : AV → Prop} (h0 : 0 ≤ i) (h1 : i < len) (hk : k (.ptr b (o + i.toNat * sz))) : pIdx sz (.slice b o len cap sz ex) (.int q i) k := by
  refine onNat_i (q := q) (k := fun _ j => bT (Nat.ble (Nat.succ j) len) (bT (Nat.beq sz sz) (forceN (Nat.add o (Nat.mul j sz)) fun o' => k (.ptr b o')))) h0 ?_
  refine bT_i (Nat.ble_eq_true_of_le (show Nat.succ i.toNat ≤ len by omega)) (bT_i (nbeq rfl) ?_)
  rw [forceN_eq]
  exact hk

/-! ### append -/
theorem cellsOf_i (h : Mem H S) {sz b o n cap : Nat} {ex : Bool} {l : List AV} {m : Nat} {k : List AV → Prop} (hb : S.ob b = .cells l m) (ho : o + n * sz ≤ l.length) (hk : k ((l.drop o).take (n * sz))) : cellsOf sz n (.slice b o n cap sz ex) H k := by
  refine bT_i (Nat.ble_eq_true_of_le (Nat.le_refl _)) (bT_i (nbeq rfl) (h.getK_i hb fun c hc => loadL_i hc _ _ ho hk))
/-- Behind a nil slice. -/
theorem pApp_nil (h : Mem H S) {sz bytes n cap o b : Nat} {ex : Bool} {l : List AV} {m : Nat} {k : AV → AH → Prop} (hb : S.ob b = .cells l m) (ho : o + n * sz ≤ l.length) (hn : 0 < n) (hz : 0 < sz) (hs : n * bytes ≤ 1099511627776)
    (h1 : ∀ a ∈ (l.drop o).take (n * sz), a.one = true) (hk : ∀ H', Mem H' (S.push (.cells ((l.drop o).take (n * sz)) 0)) → k (.slice S.n 0 n n sz false) H') : pApp sz bytes .nslice (.slice b o n cap sz ex) H k := by
  refine cellsOf_i (ex := ex) (cap := cap) (k := fun l => appL sz bytes n _ l H k) h hb ho ?_
  refine bT_i (Nat.ble_eq_true_of_le hz) ?_
  show bI (Nat.beq n 0) _ _
  have : Nat.beq n 0 = false := by cases n with | zero => omega | succ n => rfl
  rw [this]
  refine bT_i (Nat.ble_eq_true_of_le hs) (storeL_new h1 fun c hc => h.newC hc hk)
/-- Behind a slice that has all of its block. -/
theorem pApp_grow (h : Mem H S) {sz bytes n cap o b b' len : Nat} {ex : Bool} {l old : List AV} {m m' : Nat} {k : AV → AH → Prop} (hb : S.ob b = .cells l m) (ho : o + n * sz ≤ l.length) (hb' : S.ob b' = .cells old m') (hm' : m' ≤ 1) (hl : old.length = len * sz) (hn : 0 < n) (hz : 0 < sz)
    (hs : (len + n) * bytes ≤ 1099511627776) (h1 : ∀ a ∈ (l.drop o).take (n * sz), a.one = true)
    (hk : ∀ H', Mem H' ((S.set b' .dead).push (.cells (old ++ (l.drop o).take (n * sz)) m')) → k (.slice S.n 0 (len + n) (len + n) sz false) H') :
    pApp sz bytes (.slice b' 0 len len sz false) (.slice b o n cap sz ex) H k := by
  refine cellsOf_i (ex := ex) (cap := cap) (k := fun l => appL sz bytes n _ l H k) h hb ho ?_
  refine bT_i (Nat.ble_eq_true_of_le hz) ?_
  refine bT_i (nbeq rfl) ?_
  rw [forceN_eq]
  show bI (Nat.ble (len + n) len) _ _
  have : Nat.ble (len + n) len = false := by
    cases e : Nat.ble (len + n) len with
    | false => rfl
    | true => have := Nat.le_of_ble_eq_true e; omega
  rw [this]
  refine bT_i (Nat.ble_eq_true_of_le hs) ?_
  refine h.getK_i hb' fun c hc => bT_i (Nat.ble_eq_true_of_le hm') ?_
  have e : (Nat.beq 0 0 && Nat.beq old.length (Nat.mul len sz)) = true := by simp [hl]
  rw [e]
  refine storeL_i _ hc (Nat.le_refl _) h1 fun c2 hc2 => ?_
  rw [spliceL_end] at hc2
  refine h.setD (h.lt (by rw [hb']; simp)) fun H1 hM1 => ?_
  have e2 : old.length + ((l.drop o).take (n * sz)).length = (old ++ (l.drop o).take (n * sz)).length := by simp
  rw [e2]
  exact hM1.newC hc2 hk

/-! ### Maps -/
theorem pMap_i (h : Mem H S) {k : AV → AH → Prop} (hk : ∀ H', Mem H' (S.push (.map [] 0)) → k (.map S.n) H') : pMap (newK H) k := h.newM hk
theorem pLook_i (h : Mem H S) {P : Program} {kt b cl : Nat} {ok : Bool} {z key : AV} {es : List AEnt} {r : Option Nat} {k : AV → Prop} (hb : S.ob b = .map es cl) (hf : findA P kt key es = some r) (hk : k (lookV ok z es r)) :
    pLook P kt ok z (.map b) key H k := by
  refine Bt.getK_i _ _ _ _ (h.map hb) ?_
  show foundAt P kt key es _
  unfold foundAt
  rw [hf]
  exact hk
theorem pUpd_i (h : Mem H S) {P : Program} {kt b cl : Nat} {key v : AV} {es : List AEnt} {r : Option Nat} {k : AH → Prop} (hb : S.ob b = .map es cl) (hf : findA P kt key es = some r)
    (hk : ∀ H', Mem H' (S.set b (.map (putE es cl key v r) (putCl cl r))) → k H') : pUpd P kt (.map b) key v H k := by
  refine Bt.getK_i _ _ _ _ (h.map hb) ?_
  show foundAt P kt key es _
  unfold foundAt
  rw [hf]
  exact h.setM (h.lt (by rw [hb]; simp)) hk
theorem pDel_i (h : Mem H S) {P : Program} {kt b cl : Nat} {key : AV} {es : List AEnt} {r : Option Nat} {k : AH → Prop} (hb : S.ob b = .map es cl) (hf : findA P kt key es = some r)
    (hk : ∀ H', Mem H' (S.set b (.map (delE es r) cl)) → k H') : pDel P kt (.map b) key H k := by
  refine Bt.getK_i _ _ _ _ (h.map hb) ?_
  show foundAt P kt key es _
  unfold foundAt
  rw [hf]
  exact h.setM (h.lt (by rw [hb]; simp)) hk
theorem mapLen_i (h : Mem H S) {b cl : Nat} {es : List AEnt} {k : AV → Prop} (hb : S.ob b = .map es cl) (hk : k (.int 0 es.length)) : mapLen (.map b) H k := by
  refine Bt.getK_i _ _ _ _ (h.map hb) ?_
  show forceN es.length _
  rw [forceN_eq]
  exact hk
theorem idxs_none {x : AV} : ∀ {es : List AEnt} {j : Nat}, (∀ e ∈ es, sameAV e.key x = false) → idxs x es j = []
  | [], _, _ => rfl
  | e :: es, j, h => by
    simp only [idxs, h e (by simp)]
    exact idxs_none fun e he => h e (by simp [he])
theorem idxs_one {x : AV} : ∀ {es : List AEnt} {i j : Nat} {e : AEnt}, es[i]? = some e → sameAV e.key x = true → (∀ i' e', i' ≠ i → es[i']? = some e' → sameAV e'.key x = false) → idxs x es j = [j + i]
  | [], i, j, e, h, _, _ => by simp at h
  | a :: es, 0, j, e, h, h1, h2 => by
    simp at h
    subst h
    simp only [idxs, h1]
    rw [idxs_none fun e he => ?_]
    · simp
    · obtain ⟨i, hi⟩ := List.getElem?_of_mem he
      exact h2 (i + 1) e (by omega) (by simpa using hi)
  | a :: es, i + 1, j, e, h, h1, h2 => by
    simp only [idxs, h2 0 a (by omega) (by simp)]
    rw [idxs_one (i := i) (j := j + 1) (by simpa using h) h1 fun i' e' hi he => h2 (i' + 1) e' (by omega) (by simpa using he)]
    congr 1
    omega
theorem findA_none {P : Program} {kt : Nat} {x : AV} {es : List AEnt} (hk : keyA P kt x = true) (hks : ∀ e ∈ es, keyA P kt e.key = true) (h : ∀ e ∈ es, sameAV e.key x = false) : findA P kt x es = some none := by
  unfold findA
  rw [show (keyA P kt x && es.all fun e => keyA P kt e.key) = true by simp [hk]; exact hks, idxs_none h]
theorem findA_some {P : Program} {kt : Nat} {x : AV} {es : List AEnt} {i : Nat} {e : AEnt} (hk : keyA P kt x = true) (hks : ∀ e ∈ es, keyA P kt e.key = true) (he : es[i]? = some e) (h1 : sameAV e.key x = true)
    (h2 : ∀ i' e', i' ≠ i → es[i']? = some e' → sameAV e'.key x = false) : findA P kt x es = some (some i) := by
  unfold findA
  rw [show (keyA P kt x && es.all fun e => keyA P kt e.key) = true by simp [hk]; exact hks, idxs_one he h1 h2]
  simp
end Go.X
