/- What goes on with more goes on with less; how a claim begins and ends. No condition: lemmas. -/
import Derived.Test.YtaipinbbmlenaaaDoorXb
import Derived.Below
namespace Go.X
/-! ### What goes on with more goes on with less -/
theorem forceN_mono {n : Nat} {k k' : Nat → Prop} (h : forceN n k) (hk : ∀ m, k m → k' m) : forceN n k' := by rw [forceN_eq] at *; exact hk _ h
theorem forceI_mono {n : Int} {k k' : Int → Prop} (h : forceI n k) (hk : ∀ m, k m → k' m) : forceI n k' := by rw [forceI_eq] at *; exact hk _ h
theorem bT_mono {b : Bool} {x y : Prop} (h : bT b x) (hk : x → y) : bT b y := by obtain ⟨rfl, h⟩ := bT_out h; exact hk h
theorem Bt.setK_mono {α : Type} (t : Bt α) : ∀ (i : Nat) (v : α) (k k' : Bt α → Prop), t.setK i v k → (∀ t, k t → k' t) → t.setK i v k' := by
  induction t with
  | e =>
    intro i v k k' h hk
    cases i with
    | zero => exact hk _ h
    | succ j => exact h
  | n u l r il ir =>
    intro i v k k' h hk
    cases i with
    | zero => exact hk _ h
    | succ j =>
      change @Nat.rec (fun _ => Prop) (l.setK (j/2) v (fun l' => k (.n u l' r))) (fun _ _ => r.setK (j/2) v (fun r' => k (.n u l r'))) (j % 2) at h
      change @Nat.rec (fun _ => Prop) (l.setK (j/2) v (fun l' => k' (.n u l' r))) (fun _ _ => r.setK (j/2) v (fun r' => k' (.n u l r'))) (j % 2)
      rcases Nat.mod_two_eq_zero_or_one j with e | e
      · rw [e] at h ⊢
        exact il _ _ _ _ h fun _ h => hk _ h
      · rw [e] at h ⊢
        exact ir _ _ _ _ h fun _ h => hk _ h
theorem storeL_mono : ∀ (l : List AV) (c : Bt AV) (o : Nat) (k k' : Bt AV → Nat → Prop), storeL l c o k → (∀ c n, k c n → k' c n) → storeL l c o k'
  | [], _, _, _, _, h, hk => hk _ _ h
  | a :: l, c, o, k, k', h, hk => by
    have h : bT a.one (c.setK o a fun c' => forceN (Nat.succ o) fun o' => storeL l c' o' k) := h
    show bT a.one (c.setK o a fun c' => forceN (Nat.succ o) fun o' => storeL l c' o' k')
    exact bT_mono h fun h => Bt.setK_mono _ _ _ _ _ h fun _ h => forceN_mono h fun _ h => storeL_mono l _ _ _ _ h hk
theorem newK_mono {H : AH} {o : AObj} {k k' : Nat → AH → Prop} (h : newK H o k) (hk : ∀ n H, k n H → k' n H) : newK H o k' :=
  Bt.setK_mono _ _ _ _ _ h fun _ h => forceN_mono h fun _ h => hk _ _ h
theorem pNewS_mono {H : AH} {n sz : Nat} {l : List AV} {k k' : AV → AH → Prop} (h : pNewS (newK H) n sz l k) (hk : ∀ v H, k v H → k' v H) : pNewS (newK H) n sz l k' :=
  storeL_mono _ _ _ _ _ h fun _ _ h => bT_mono h fun h => newK_mono h fun _ _ h => hk _ _ h
theorem pNew_mono {H : AH} {l : List AV} {k k' : AV → AH → Prop} (h : pNew (newK H) l k) (hk : ∀ v H, k v H → k' v H) : pNew (newK H) l k' :=
  storeL_mono _ _ _ _ _ h fun _ _ h => newK_mono h fun _ _ h => hk _ _ h
theorem pLen_mono {s : AV} {k k' : AV → Prop} (h : pLen s k) (hk : ∀ v, k v → k' v) : pLen s k' := by
  rcases onSliceT_out h with ⟨rfl, h⟩ | ⟨b, o, l, c, q, x, rfl, h⟩ <;> exact hk _ h
theorem cI_mono {q : Nat} {v : AV} {k k' : Int → Prop} (h : cI q v k) (hk : ∀ z, k z → k' z) : cI q v k' := by
  obtain ⟨c, z, rfl, h⟩ := onInt_out h
  exact bT_mono h fun h => hk _ h
theorem onB_mono {v : AV} {k k' : Bool → Prop} (h : onB v k) (hk : ∀ z, k z → k' z) : onB v k' := by
  obtain ⟨z, rfl, h⟩ := onB_out h
  exact hk _ h
theorem bI_mono {b : Bool} {x y x' y' : Prop} (h : bI b x y) (hx : x → x') (hy : y → y') : bI b x' y' := by
  rcases bI_out h with ⟨rfl, h⟩ | ⟨rfl, h⟩
  · exact hx h
  · exact hy h
theorem wrapK_intro {c : Nat} {z : Int} {k : Int → Prop} (h : k ((kd c).wrap z)) : wrapK c z k := by
  unfold wrapK
  cases z with
  | ofNat n =>
    show bI (sgn c) (bI (Nat.ble (half c) n) (forceI (wrapZ c (.ofNat n)) k) (forceN n fun m => k (.ofNat m))) (forceN (Nat.mod n (full c)) fun m => k (.ofNat m))
    simp only [forceI_eq, forceN_eq, wrapZ_eq]
    cases hs : sgn c with
    | true =>
      show bI (Nat.ble (half c) n) _ _
      cases hb : Nat.ble (half c) n with
      | true => exact h
      | false =>
        have hb' : ¬ half c ≤ n := fun hle => by rw [Nat.ble_eq_true_of_le hle] at hb; cases hb
        rw [wrap_small hs (by have : (Int.ofNat n : Int) = (n : Int) := rfl; omega) (by have : (Int.ofNat n : Int) = (n : Int) := rfl; omega)] at h
        exact h
    | false =>
      rw [wrap_unsigned hs] at h
      exact h
  | negSucc n =>
    show bI (sgn c) (bI (Nat.ble (half c) n) (forceI (wrapZ c (.negSucc n)) k) (forceN n fun m => k (.negSucc m))) (forceI (wrapZ c (.negSucc n)) k)
    simp only [forceI_eq, forceN_eq, wrapZ_eq]
    cases hs : sgn c with
    | true =>
      show bI (Nat.ble (half c) n) _ _
      cases hb : Nat.ble (half c) n with
      | true => exact h
      | false =>
        have hb' : ¬ half c ≤ n := fun hle => by rw [Nat.ble_eq_true_of_le hle] at hb; cases hb
        rw [wrap_small hs (by omega) (by omega)] at h
        exact h
    | false => exact h

open Go.RowKit
/-! ### The beginning and the end -/
def isB (b : Bool) : COut → AH → Prop := fun o _ => match o with | .ret (.bool c) => bT (c == b) True | _ => False
theorem isB_out {b : Bool} {o : COut} {H : AH} (h : isB b o H) : o = .ret (.bool b) := by
  unfold isB at h
  split at h
  · obtain ⟨h, _⟩ := bT_out h
    rw [eq_of_beq h]
  · exact h.elim
theorem below_of_step {f f' : Emb} {H H' : AH} {w w' : World} (s : Step f H w f' H' w') (hown : ∀ b, f.dom b → (H.sem.ob b).own = false) : Below w.heap.size w w' :=
  ⟨s.os, s.tape, s.output, s.size, fun k hk => s.keep k hk fun b hb ho => by rw [hown b hb] at ho; cases ho⟩
/-- From a function that is carried out well to a call in the model. -/
theorem calls_of_fun {P : Program} {g : Nat} {F : FnA} (hF : FunOk P g F) (hb : hasBody P g = true) {args : List AV} {H : AH} (h : F args H (isB true)) {f : Emb} {w : World} {vs : Array Value} (hr : HR f H w) (hg : GlobOk P f) (hv : VL f args vs.toList)
    (hown : ∀ b, f.dom b → (H.sem.ob b).own = false) : Calls P g vs w fun e w' => e = .returned (.bool true) ∧ Below w.heap.size w w' := by
  obtain ⟨o, H', h1, h2⟩ := hF hb args H _ h
  obtain rfl := isB_out h1
  refine (h2 f w vs hr hg hv).mono fun e w' hp => ?_
  obtain ⟨f', s, u, rfl, hu⟩ := hp
  cases hu
  exact ⟨rfl, below_of_step s hown⟩
end Go.X
