/- A machine over values and memory of its own, and that what it does the model does: a tool of this claim. No condition: definitions and lemmas. -/
import Derived.Test.YtcdiojlpmgfmeaaGreatDoorXb
set_option linter.unusedVariables false
set_option linter.unusedSimpArgs false
namespace Go.X
noncomputable section

/-- A tree of so many levels. -/
def TrT (α : Type) (d : Nat) : Type := Nat.rec (motive := fun _ => Type) α (fun _ T => (T → T → T → T → T → T → T → T → Prop) → Prop) d
abbrev NdT (T : Type) : Type := (T → T → T → T → T → T → T → T → Prop) → Prop
/-- A place: what is there goes on, or is turned. -/
structure Acc (α T : Type) where
  get : (α → Prop) → T → Prop
  mod : (α → (α → Prop) → Prop) → (T → Prop) → T → Prop
def accF (α T : Type) : Acc α T := ⟨fun _ _ => False, fun _ _ _ => False⟩
section
variable {α T : Type}
def sel8 (a : Acc α T) (j : Nat) : Acc α (NdT T) :=
  @Nat.rec (fun _ => Acc α (NdT T)) ⟨fun k t => t fun c _ _ _ _ _ _ _ => a.get k c, fun f k t => t fun c0 c1 c2 c3 c4 c5 c6 c7 => a.mod f (fun c => k fun s => s c c1 c2 c3 c4 c5 c6 c7) c0⟩ (fun j _ =>
  @Nat.rec (fun _ => Acc α (NdT T)) ⟨fun k t => t fun _ c _ _ _ _ _ _ => a.get k c, fun f k t => t fun c0 c1 c2 c3 c4 c5 c6 c7 => a.mod f (fun c => k fun s => s c0 c c2 c3 c4 c5 c6 c7) c1⟩ (fun j _ =>
  @Nat.rec (fun _ => Acc α (NdT T)) ⟨fun k t => t fun _ _ c _ _ _ _ _ => a.get k c, fun f k t => t fun c0 c1 c2 c3 c4 c5 c6 c7 => a.mod f (fun c => k fun s => s c0 c1 c c3 c4 c5 c6 c7) c2⟩ (fun j _ =>
  @Nat.rec (fun _ => Acc α (NdT T)) ⟨fun k t => t fun _ _ _ c _ _ _ _ => a.get k c, fun f k t => t fun c0 c1 c2 c3 c4 c5 c6 c7 => a.mod f (fun c => k fun s => s c0 c1 c2 c c4 c5 c6 c7) c3⟩ (fun j _ =>
  @Nat.rec (fun _ => Acc α (NdT T)) ⟨fun k t => t fun _ _ _ _ c _ _ _ => a.get k c, fun f k t => t fun c0 c1 c2 c3 c4 c5 c6 c7 => a.mod f (fun c => k fun s => s c0 c1 c2 c3 c c5 c6 c7) c4⟩ (fun j _ =>
  @Nat.rec (fun _ => Acc α (NdT T)) ⟨fun k t => t fun _ _ _ _ _ c _ _ => a.get k c, fun f k t => t fun c0 c1 c2 c3 c4 c5 c6 c7 => a.mod f (fun c => k fun s => s c0 c1 c2 c3 c4 c c6 c7) c5⟩ (fun j _ =>
  @Nat.rec (fun _ => Acc α (NdT T)) ⟨fun k t => t fun _ _ _ _ _ _ c _ => a.get k c, fun f k t => t fun c0 c1 c2 c3 c4 c5 c6 c7 => a.mod f (fun c => k fun s => s c0 c1 c2 c3 c4 c5 c c7) c6⟩ (fun j _ =>
  @Nat.rec (fun _ => Acc α (NdT T)) ⟨fun k t => t fun _ _ _ _ _ _ _ c => a.get k c, fun f k t => t fun c0 c1 c2 c3 c4 c5 c6 c7 => a.mod f (fun c => k fun s => s c0 c1 c2 c3 c4 c5 c6 c) c7⟩ (fun _ _ => accF α (NdT T)) j) j) j) j) j) j) j) j
end
def acc (α : Type) (d : Nat) : Nat → Acc α (TrT α d) :=
  @Nat.rec (fun d => Nat → Acc α (TrT α d)) (fun i => @Nat.rec (fun _ => Acc α α) ⟨fun k t => k t, fun f k t => f t k⟩ (fun _ _ => accF α α) i)
    (fun d ih i => sel8 (ih (Nat.mod i (Nat.pow 8 d))) (Nat.div i (Nat.pow 8 d))) d
/-- A tree with one thing everywhere. -/
def allT (α : Type) (x : α) (d : Nat) : TrT α d := @Nat.rec (fun d => TrT α d) x (fun _ t s => s t t t t t t t t) d
end

/-- The branches as a function. -/
def nd {T : Type} (c : Nat → T) : NdT T := fun s => s (c 0) (c 1) (c 2) (c 3) (c 4) (c 5) (c 6) (c 7)
def updN {β : Type} (m : Nat → β) (i : Nat) (b : β) : Nat → β := fun x => if x = i then b else m x
theorem updN_self {β : Type} (m : Nat → β) (i : Nat) (b : β) : updN m i b i = b := by simp [updN]
theorem updN_ne {β : Type} (m : Nat → β) {i x : Nat} (h : x ≠ i) (b : β) : updN m i b x = m x := by simp [updN, h]
/-- How a tree stands to a function of places. -/
def TR {α β : Type} (r : α → β → Prop) : (d : Nat) → TrT α d → (Nat → β) → Prop
  | 0, t, m => r t (m 0)
  | d + 1, t, m => ∃ c : Nat → TrT α d, t = nd c ∧ ∀ j, j < 8 → TR r d (c j) (fun i => m (j * 8 ^ d + i))

section
variable {α β T : Type} {r : α → β → Prop}
theorem sel8_get {a : Acc α T} {j : Nat} {k : α → Prop} {c : Nat → T} (h : (sel8 a j).get k (nd c)) : j < 8 ∧ a.get k (c j) := by
  match j, h with
  | 0, h => exact ⟨by decide, h⟩
  | 1, h => exact ⟨by decide, h⟩
  | 2, h => exact ⟨by decide, h⟩
  | 3, h => exact ⟨by decide, h⟩
  | 4, h => exact ⟨by decide, h⟩
  | 5, h => exact ⟨by decide, h⟩
  | 6, h => exact ⟨by decide, h⟩
  | 7, h => exact ⟨by decide, h⟩
  | n + 8, h => exact (show False from h).elim
theorem sel8_mod {a : Acc α T} {j : Nat} {f : α → (α → Prop) → Prop} {k : NdT T → Prop} {c : Nat → T} (h : (sel8 a j).mod f k (nd c)) : j < 8 ∧ a.mod f (fun x => k (nd (updN c j x))) (c j) := by
  match j, h with
  | 0, h => exact ⟨by decide, h⟩
  | 1, h => exact ⟨by decide, h⟩
  | 2, h => exact ⟨by decide, h⟩
  | 3, h => exact ⟨by decide, h⟩
  | 4, h => exact ⟨by decide, h⟩
  | 5, h => exact ⟨by decide, h⟩
  | 6, h => exact ⟨by decide, h⟩
  | 7, h => exact ⟨by decide, h⟩
  | n + 8, h => exact (show False from h).elim

theorem acc_get : ∀ (d : Nat) {t : TrT α d} {m : Nat → β} {i : Nat} {k : α → Prop}, TR r d t m → (acc α d i).get k t → i < 8 ^ d ∧ ∃ v, r v (m i) ∧ k v
  | 0, t, m, 0, k, ht, h => ⟨by decide, t, ht, h⟩
  | 0, t, m, i + 1, k, ht, h => (show False from h).elim
  | d + 1, t, m, i, k, ht, h => by
    obtain ⟨c, rfl, hc⟩ := ht
    have h' : (sel8 (acc α d (i % 8 ^ d)) (i / 8 ^ d)).get k (nd c) := h
    obtain ⟨hj, h'⟩ := sel8_get h'
    obtain ⟨hl, v, hv, hk⟩ := acc_get d (hc _ hj) h'
    refine ⟨?_, v, ?_, hk⟩
    · rw [Nat.pow_succ, Nat.mul_comm]
      exact (Nat.div_lt_iff_lt_mul (Nat.pow_pos (by decide))).1 hj |> fun x => by rwa [Nat.mul_comm] at x ⊢
    · have : i / 8 ^ d * 8 ^ d + i % 8 ^ d = i := by rw [Nat.mul_comm]; exact Nat.div_add_mod i (8 ^ d)
      rwa [this] at hv
theorem acc_mod : ∀ (d : Nat) {t : TrT α d} {m : Nat → β} {i : Nat} {f : α → (α → Prop) → Prop} {k : TrT α d → Prop}, TR r d t m → (acc α d i).mod f k t →
    i < 8 ^ d ∧ ∃ v k', r v (m i) ∧ f v k' ∧ ∀ v' b', k' v' → r v' b' → ∃ t', TR r d t' (updN m i b') ∧ k t'
  | 0, t, m, 0, f, k, ht, h => ⟨by decide, t, k, ht, h, fun v' b' h1 h2 => ⟨v', (by show r v' (updN m 0 b' 0); rw [updN_self]; exact h2), h1⟩⟩
  | 0, t, m, i + 1, f, k, ht, h => (show False from h).elim
  | d + 1, t, m, i, f, k, ht, h => by
    obtain ⟨c, rfl, hc⟩ := ht
    have h' : (sel8 (acc α d (i % 8 ^ d)) (i / 8 ^ d)).mod f k (nd c) := h
    obtain ⟨hj, h'⟩ := sel8_mod h'
    obtain ⟨hl, v, k', hv, hf, hk⟩ := acc_mod d (hc _ hj) h'
    have hi : i / 8 ^ d * 8 ^ d + i % 8 ^ d = i := by rw [Nat.mul_comm]; exact Nat.div_add_mod i (8 ^ d)
    refine ⟨?_, v, k', by rwa [hi] at hv, hf, fun v' b' h1 h2 => ?_⟩
    · rw [Nat.pow_succ, Nat.mul_comm]
      exact (Nat.div_lt_iff_lt_mul (Nat.pow_pos (by decide))).1 hj |> fun x => by rwa [Nat.mul_comm] at x ⊢
    · obtain ⟨t', g1, g2⟩ := hk v' b' h1 h2
      refine ⟨_, ⟨updN c (i / 8 ^ d) t', rfl, fun j hj' => ?_⟩, g2⟩
      by_cases e : j = i / 8 ^ d
      · subst e
        rw [updN_self]
        have : (fun x => updN m i b' (i / 8 ^ d * 8 ^ d + x)) = updN (fun x => m (i / 8 ^ d * 8 ^ d + x)) (i % 8 ^ d) b' := by
          funext x
          unfold updN
          by_cases ex : x = i % 8 ^ d
          · rw [if_pos ex, if_pos (by rw [ex, hi])]
          · rw [if_neg ex, if_neg (by omega)]
        rw [this]; exact g1
      · rw [updN_ne _ e]
        have hne : ∀ x, x < 8 ^ d → j * 8 ^ d + x ≠ i := fun x hx e2 => e (by
          rw [← e2, Nat.mul_comm, Nat.mul_add_div (Nat.pow_pos (by decide)), Nat.div_eq_of_lt hx, Nat.add_zero])
        exact TR.congr d (hc j hj') fun x hx => (updN_ne _ (hne x hx) b').symm
 where
  TR.congr : ∀ (d : Nat) {t : TrT α d} {m m' : Nat → β}, TR r d t m → (∀ i, i < 8 ^ d → m i = m' i) → TR r d t m'
  | 0, t, m, m', h, e => by unfold TR at h ⊢; rw [← e 0 (by decide)]; exact h
  | d + 1, t, m, m', h, e => by
    obtain ⟨c, rfl, hc⟩ := h
    refine ⟨c, rfl, fun j hj => TR.congr d (hc j hj) fun i hi => e _ ?_⟩
    rw [Nat.pow_succ]
    have : j * 8 ^ d ≤ 7 * 8 ^ d := Nat.mul_le_mul_right _ (by omega)
    omega
theorem TR.congr' {d : Nat} {t : TrT α d} {m m' : Nat → β} (h : TR r d t m) (e : ∀ i, i < 8 ^ d → m i = m' i) : TR r d t m' := acc_mod.TR.congr d h e
theorem allT_ok {x : α} {b : β} (h : r x b) : ∀ (d : Nat) (m : Nat → β), (∀ i, m i = b) → TR r d (allT α x d) m
  | 0, m, hm => by unfold TR; rw [hm]; exact h
  | d + 1, m, hm => ⟨fun _ => allT α x d, rfl, fun j _ => allT_ok h d _ fun i => hm _⟩
end
end Go.X

namespace Go.X
noncomputable section
/-- true, false, an int that is not below 0, one below 0, one of another kind that is not below 0, a text, a pointer, a slice, cells, values of a call, anything else. -/
abbrev V : Type := Prop → Prop → (Nat → Prop) → (Nat → Prop) → (Nat → Nat → Prop) → (Nat → Nat → Prop) → (Nat → Nat → Prop) → (Nat → Nat → Nat → Nat → Nat → Bool → Prop) → (List AV → Prop) → (List AV → Prop) → (AV → Prop) → Prop
def N1 : Nat → Prop := fun _ => False
def N2 : Nat → Nat → Prop := fun _ _ => False
def N6 : Nat → Nat → Nat → Nat → Nat → Bool → Prop := fun _ _ _ _ _ _ => False
def NL : List AV → Prop := fun _ => False
def NO : AV → Prop := fun _ => False
structure VB where
  v : V
def encB (a : AV) : VB :=
  @AV.casesOn (fun _ => VB) a (fun b => @Bool.rec (fun _ => VB) ⟨(fun _ h _ _ _ _ _ _ _ _ _ => h)⟩ ⟨(fun h _ _ _ _ _ _ _ _ _ _ => h)⟩ b)
    (fun k z => @Int.rec (fun _ => VB) (fun n => @Nat.rec (fun _ => VB) ⟨(fun _ _ h _ _ _ _ _ _ _ _ => h n)⟩ (fun c _ => ⟨(fun _ _ _ _ h _ _ _ _ _ _ => h (Nat.succ c) n)⟩) k) (fun n => @Nat.rec (fun _ => VB) ⟨(fun _ _ _ h _ _ _ _ _ _ _ => h n)⟩ (fun c _ => ⟨(fun _ _ _ _ _ _ _ _ _ _ h => h (.int (Nat.succ c) (.negSucc n)))⟩) k) z)
    (fun n x => ⟨(fun _ _ _ _ _ h _ _ _ _ _ => h n x)⟩) ⟨(fun _ _ _ _ _ _ _ _ _ _ h => h .nptr)⟩ (fun b o => ⟨(fun _ _ _ _ _ _ h _ _ _ _ => h b o)⟩) ⟨(fun _ _ _ _ _ _ _ _ _ _ h => h .nslice)⟩ (fun b o l c s x => ⟨(fun _ _ _ _ _ _ _ h _ _ _ => h b o l c s x)⟩) ⟨(fun _ _ _ _ _ _ _ _ _ _ h => h .nmap)⟩ (fun b => ⟨(fun _ _ _ _ _ _ _ _ _ _ h => h (.map b))⟩) ⟨(fun _ _ _ _ _ _ _ _ _ _ h => h .nfunc)⟩
    (fun g x y => ⟨(fun _ _ _ _ _ _ _ _ _ _ h => h (.func g x y))⟩) ⟨(fun _ _ _ _ _ _ _ _ _ _ h => h .niface)⟩ (fun t v => ⟨(fun _ _ _ _ _ _ _ _ _ _ h => h (.iface t v))⟩) (fun l => ⟨(fun _ _ _ _ _ _ _ _ h _ _ => h l)⟩) (fun l => ⟨(fun _ _ _ _ _ _ _ _ _ h _ => h l)⟩) ⟨(fun _ _ _ _ _ _ _ _ _ _ h => h .pois)⟩ (fun m r => ⟨(fun _ _ _ _ _ _ _ _ _ _ h => h (.symS m r))⟩) (fun m r => ⟨(fun _ _ _ _ _ _ _ _ _ _ h => h (.symU m r))⟩) (fun m r => ⟨(fun _ _ _ _ _ _ _ _ _ _ h => h (.symV m r))⟩) (fun lo hi => ⟨(fun _ _ _ _ _ _ _ _ _ _ h => h (.rng lo hi))⟩) (fun n => ⟨(fun _ _ _ _ _ _ _ _ _ _ h => h (.txt n))⟩)
def enc (a : AV) : V := (encB a).v
def dec (v : V) (k : AV → Prop) : Prop := v (k (.bool true)) (k (.bool false)) (fun n => k (.int 0 (.ofNat n))) (fun n => k (.int 0 (.negSucc n))) (fun c n => k (.int c (.ofNat n))) (fun n x => k (.str n x)) (fun b o => k (.ptr b o)) (fun b o l c s x => k (.slice b o l c s x)) (fun l => k (.agg l)) (fun l => k (.tup l)) k
end
/-- The rest: what has no handler of its own. -/
def AV.odd : AV → Bool
  | .bool _ => false
  | .int 0 _ => false
  | .int (_ + 1) (.ofNat _) => false
  | .str _ _ => false
  | .ptr _ _ => false
  | .slice _ _ _ _ _ _ => false
  | .agg _ => false
  | .tup _ => false
  | _ => true
section
variable {T F : Prop} {I M : Nat → Prop} {U S P : Nat → Nat → Prop} {L : Nat → Nat → Nat → Nat → Nat → Bool → Prop} {A Q : List AV → Prop} {O : AV → Prop}
theorem enc_cases {a : AV} (h : enc a T F I M U S P L A Q O) :
    (a = .bool true ∧ T) ∨ (a = .bool false ∧ F) ∨ (∃ n, a = .int 0 (.ofNat n) ∧ I n) ∨ (∃ n, a = .int 0 (.negSucc n) ∧ M n) ∨ (∃ c n, 0 < c ∧ a = .int c (.ofNat n) ∧ U c n) ∨ (∃ n x, a = .str n x ∧ S n x) ∨
    (∃ b o, a = .ptr b o ∧ P b o) ∨ (∃ b o l c s x, a = .slice b o l c s x ∧ L b o l c s x) ∨ (∃ l, a = .agg l ∧ A l) ∨ (∃ l, a = .tup l ∧ Q l) ∨ (a.odd = true ∧ O a) := by
  cases a with
  | bool b => cases b; exact .inr (.inl ⟨rfl, h⟩); exact .inl ⟨rfl, h⟩
  | int k z =>
    cases k with
    | zero => cases z with
      | ofNat n => exact .inr (.inr (.inl ⟨n, rfl, h⟩))
      | negSucc n => exact .inr (.inr (.inr (.inl ⟨n, rfl, h⟩)))
    | succ k => cases z with
      | ofNat n => exact .inr (.inr (.inr (.inr (.inl ⟨k + 1, n, by omega, rfl, h⟩))))
      | negSucc n => exact .inr (.inr (.inr (.inr (.inr (.inr (.inr (.inr (.inr (.inr ⟨rfl, h⟩)))))))))
  | str n x => exact .inr (.inr (.inr (.inr (.inr (.inl ⟨n, x, rfl, h⟩)))))
  | ptr b o => exact .inr (.inr (.inr (.inr (.inr (.inr (.inl ⟨b, o, rfl, h⟩))))))
  | slice b o l c s x => exact .inr (.inr (.inr (.inr (.inr (.inr (.inr (.inl ⟨b, o, l, c, s, x, rfl, h⟩)))))))
  | agg l => exact .inr (.inr (.inr (.inr (.inr (.inr (.inr (.inr (.inl ⟨l, rfl, h⟩))))))))
  | tup l => exact .inr (.inr (.inr (.inr (.inr (.inr (.inr (.inr (.inr (.inl ⟨l, rfl, h⟩)))))))))
  | _ => exact .inr (.inr (.inr (.inr (.inr (.inr (.inr (.inr (.inr (.inr ⟨rfl, h⟩)))))))))
theorem dec_enc {a : AV} {k : AV → Prop} (h : dec (enc a) k) : k a := by
  have g := enc_cases h
  clear h
  rcases g with ⟨rfl, h⟩ | ⟨rfl, h⟩ | ⟨n, rfl, h⟩ | ⟨n, rfl, h⟩ | ⟨c, n, _, rfl, h⟩ | ⟨n, x, rfl, h⟩ | ⟨b, o, rfl, h⟩ | ⟨b, o, l, c, s, x, rfl, h⟩ | ⟨l, rfl, h⟩ | ⟨l, rfl, h⟩ | ⟨_, h⟩ <;> exact h
theorem encI (a : AV) (h : enc a False False I M N2 N2 N2 N6 NL NL NO) : (∃ n, a = .int 0 (.ofNat n) ∧ I n) ∨ (∃ n, a = .int 0 (.negSucc n) ∧ M n) := by
  have g := enc_cases h
  clear h
  rcases g with ⟨rfl, h⟩ | ⟨rfl, h⟩ | ⟨n, rfl, h⟩ | ⟨n, rfl, h⟩ | ⟨c, n, _, rfl, h⟩ | ⟨n, x, rfl, h⟩ | ⟨b, o, rfl, h⟩ | ⟨b, o, l, c, s, x, rfl, h⟩ | ⟨l, rfl, h⟩ | ⟨l, rfl, h⟩ | ⟨_, h⟩ <;>
    first | exact h.elim | exact .inl ⟨_, rfl, h⟩ | exact .inr ⟨_, rfl, h⟩
end
end Go.X

namespace Go.X

/-! ### Trees of the abstract memory, the other way round -/
theorem Bt.getK_in {α : Type} : ∀ {t : Bt α} {i : Nat} {v : α} {k : α → Prop}, t.get? i = some v → k v → t.getK i k
  | .e, _, _, _, h, _ => by simp [Bt.get?] at h
  | .n u l r, 0, v, k, h, hk => by
    simp only [Bt.get?, Option.some.injEq] at h
    subst h; exact hk
  | .n u l r, i + 1, v, k, h, hk => by
    simp only [Bt.get?] at h
    show @Nat.rec (fun _ => Prop) (l.getK (i/2) k) (fun _ _ => r.getK (i/2) k) (i % 2)
    rcases Nat.mod_two_eq_zero_or_one i with e | e
    · rw [e] at h ⊢
      exact Bt.getK_in (by simpa using h) hk
    · rw [e] at h ⊢
      exact Bt.getK_in (by simpa using h) hk
/-- A tree that has just the places below n. -/
def Full {α : Type} (t : Bt α) (n : Nat) : Prop := ∀ i, (t.get? i).isSome = true ↔ i < n
theorem Full.e {α : Type} : Full (.e : Bt α) 0 := fun i => by simp [Bt.get?]
theorem Full.sub {α : Type} {v : α} {l r : Bt α} {n : Nat} (h : Full (.n v l r) n) : 0 < n ∧ Full l (n / 2) ∧ Full r ((n - 1) / 2) := by
  have h0 := (h 0).1 rfl
  refine ⟨h0, fun i => ?_, fun i => ?_⟩
  · have := h (2 * i + 1)
    simp only [Bt.get?, show 2 * i % 2 = 0 by omega, if_true, show 2 * i / 2 = i by omega] at this
    rw [this]; omega
  · have := h (2 * i + 1 + 1)
    simp only [Bt.get?, show (2 * i + 1) % 2 = 1 by omega, show (2 * i + 1) / 2 = i by omega] at this
    simp only [Nat.succ_ne_zero, if_false] at this
    rw [this]; omega
theorem Bt.set_in {α : Type} : ∀ {t : Bt α} {N i : Nat}, Full t N → i ≤ N → ∀ v, ∃ t', (∀ k : Bt α → Prop, k t' → t.setK i v k) ∧ t'.get? i = some v ∧ ∀ j, j ≠ i → t'.get? j = t.get? j
  | .e, N, i, hf, hi, v => by
    have hn : N = 0 := by
      rcases Nat.eq_zero_or_pos N with h | h
      · exact h
      · have := (hf 0).2 h; simp [Bt.get?] at this
    obtain rfl : i = 0 := by omega
    exact ⟨.n v .e .e, fun k h => h, rfl, fun j hj => by cases j with | zero => exact absurd rfl hj | succ j => simp only [Bt.get?, ite_self]⟩
  | .n u l r, N, 0, hf, hi, v => ⟨.n v l r, fun k h => h, rfl, fun j hj => by cases j with | zero => exact absurd rfl hj | succ j => simp only [Bt.get?]⟩
  | .n u l r, N, i + 1, hf, hi, v => by
    obtain ⟨h0, hl, hr⟩ := hf.sub
    rcases Nat.mod_two_eq_zero_or_one i with e | e
    · obtain ⟨l', g1, g2, g3⟩ := Bt.set_in hl (show i / 2 ≤ N / 2 by omega) v
      refine ⟨.n u l' r, fun k h => ?_, by simp only [Bt.get?, e, if_true]; exact g2, fun j hj => ?_⟩
      · show @Nat.rec (fun _ => Prop) (l.setK (i/2) v (fun l' => k (.n u l' r))) (fun _ _ => r.setK (i/2) v (fun r' => k (.n u l r'))) (i % 2)
        rw [e]; exact g1 _ h
      · cases j with
        | zero => rfl
        | succ j =>
          simp only [Bt.get?]
          split
          · rename_i ej; exact g3 _ (half_ne hj (by omega))
          · rfl
    · obtain ⟨r', g1, g2, g3⟩ := Bt.set_in hr (show i / 2 ≤ (N - 1) / 2 by omega) v
      refine ⟨.n u l r', fun k h => ?_, by simp only [Bt.get?, e]; exact g2, fun j hj => ?_⟩
      · show @Nat.rec (fun _ => Prop) (l.setK (i/2) v (fun l' => k (.n u l' r))) (fun _ _ => r.setK (i/2) v (fun r' => k (.n u l r'))) (i % 2)
        rw [e]; exact g1 _ h
      · cases j with
        | zero => rfl
        | succ j =>
          simp only [Bt.get?]
          split
          · rfl
          · rename_i ej; exact g3 _ (half_ne hj (by omega))
theorem Full.set {α : Type} {t t' : Bt α} {n i : Nat} {v : α} (h : Full t n) (hi : i ≤ n) (h1 : t'.get? i = some v) (h2 : ∀ j, j ≠ i → t'.get? j = t.get? j) : Full t' (max n (i + 1)) := fun j => by
  by_cases e : j = i
  · subst e; rw [h1]; simp; omega
  · rw [h2 j e, h j]; omega

/-! ### Memory as functions -/
noncomputable section
/-- A cell: there, or not. -/
abbrev LV : Type := (V → Prop) → Prop
def noL : LV := fun _ => False
abbrev CT (d : Nat) : Type := TrT LV d
/-- A block: cells of mode 0, cells of another mode, anything else. -/
abbrev SO : Type := ((d : Nat) → CT d → Nat → Prop) → ((d : Nat) → CT d → Nat → Nat → Prop) → (AObj → Prop) → Prop
abbrev Hs (D : Nat) : Type := (TrT SO D → Nat → Prop) → Prop
def NB : AObj → Prop := fun _ => False
end

def rL (lv : LV) (o : Option AV) : Prop := match o with | none => lv = noL | some a => lv = fun k => k (enc a)
structure TRc (d : Nat) (t : CT d) (c : Bt AV) (n : Nat) : Prop where
  le : n ≤ 8 ^ d
  full : Full c n
  tr : TR rL d t (fun i => c.get? i)
def rO (so : SO) (o : AObj) : Prop := match o with
  | .cells c n 0 => ∃ d t, so = (fun C _ _ => C d t n) ∧ TRc d t c n
  | .cells c n (m + 1) => ∃ d t, so = (fun _ C _ => C d t n (m + 1)) ∧ TRc d t c n
  | o => so = fun _ _ O => O o
structure RepH {D : Nat} (hs : Hs D) (H : AH) : Prop where
  tr : ∃ ht, hs = (fun s => s ht H.n) ∧ TR rO D ht (fun i => H.at i)
  le : H.n ≤ 8 ^ D
  full : Full H.t H.n

theorem AH.get_of_at {H : AH} {b : Nat} {o : AObj} (h : H.at b = o) (hd : o ≠ .dead) : H.t.get? b = some o := by
  unfold AH.at at h
  cases e : H.t.get? b with
  | none => rw [e] at h; exact absurd h.symm hd
  | some x => rw [e] at h; exact congrArg some h
theorem getK_in {H : AH} {b : Nat} {c : Bt AV} {n m : Nat} {k : Bt AV → Nat → Nat → Prop} (h : H.at b = .cells c n m) (hk : k c n m) : getK H b k :=
  Bt.getK_in (AH.get_of_at h (by simp)) hk
theorem Full.dead {H : AH} (h : Full H.t H.n) {b : Nat} (hb : H.n ≤ b) : H.at b = .dead := by
  unfold AH.at
  have := h b
  cases e : H.t.get? b with
  | none => rfl
  | some x => rw [e] at this; simp at this; omega

section
variable {D : Nat} {hs : Hs D} {H : AH}
/-- Reading cells of a block. -/
theorem so_cells {so : SO} {o : AObj} (h : rO so o) {C : (d : Nat) → CT d → Nat → Prop} {C' : (d : Nat) → CT d → Nat → Nat → Prop} {O : AObj → Prop} (hh : so C C' O) :
    (∃ c n d t, o = .cells c n 0 ∧ TRc d t c n ∧ C d t n) ∨ (∃ c n m d t, o = .cells c n (m + 1) ∧ TRc d t c n ∧ C' d t n (m + 1)) ∨ (O o ∧ ∀ c n m, o ≠ .cells c n m) := by
  cases o with
  | cells c n m =>
    cases m with
    | zero => obtain ⟨d, t, rfl, ht⟩ := h; exact .inl ⟨c, n, d, t, rfl, ht, hh⟩
    | succ m => obtain ⟨d, t, rfl, ht⟩ := h; exact .inr (.inl ⟨c, n, m, d, t, rfl, ht, hh⟩)
  | _ => have h := (show so = _ from h); subst h; exact .inr (.inr ⟨hh, by simp⟩)
theorem cell_get {d : Nat} {t : CT d} {c : Bt AV} {n : Nat} (ht : TRc d t c n) {o : Nat} {k : V → Prop} (h : (acc LV d o).get (fun lv => lv k) t) : ∃ a, c.get? o = some a ∧ o < n ∧ k (enc a) := by
  obtain ⟨_, lv, hl, hk⟩ := acc_get d ht.tr h
  cases e : c.get? o with
  | none => rw [e] at hl; have hl := (show lv = noL from hl); subst hl; exact hk.elim
  | some a =>
    rw [e] at hl
    have hl := (show lv = fun k => k (enc a) from hl)
    subst hl
    exact ⟨a, rfl, (ht.full o).1 (by rw [e]; rfl), hk⟩
end

noncomputable section
variable (D : Nat)
def sCells (b : Nat) (hs : Hs D) (k : (d : Nat) → CT d → Nat → Prop) : Prop := hs fun ht _ => (acc SO D b).get (fun so => so k (fun d t n _ => k d t n) NB) ht
def sLoad (v : V) (hs : Hs D) (k : V → Prop) : Prop :=
  v False False N1 N1 N2 N2 (fun b o => hs fun ht _ => (acc SO D b).get (fun so => so (fun d t _ => (acc LV d o).get (fun lv => lv k) t) (fun d t _ _ => (acc LV d o).get (fun lv => lv k) t) NB) ht) N6 NL NL NO
/-- n cells from place o on. -/
def sLoadL (d : Nat) (t : CT d) (n : Nat) : Nat → (List AV → Prop) → Prop :=
  @Nat.rec (fun _ => Nat → (List AV → Prop) → Prop) (fun _ k => k []) (fun _ ih o k => (acc LV d o).get (fun lv => lv fun v => dec v fun a => forceN (Nat.succ o) fun o' => ih o' fun l => k (a :: l)) t) n
def sLoadN (n : Nat) (v : V) (hs : Hs D) (k : V → Prop) : Prop :=
  v False False N1 N1 N2 N2 (fun b o => sCells D b hs fun d t _ => sLoadL d t n o fun l => k (fun _ _ _ _ _ _ _ _ h _ _ => h l)) N6 NL NL NO
end

section
variable {D : Nat} {hs : Hs D} {H : AH}
theorem sCells_out {b : Nat} {k : (d : Nat) → CT d → Nat → Prop} (hr : RepH hs H) (h : sCells D b hs k) : ∃ c n m d t, H.at b = .cells c n m ∧ TRc d t c n ∧ k d t n := by
  obtain ⟨ht, rfl, htr⟩ := hr.tr
  obtain ⟨_, so, hso, hk⟩ := acc_get D htr h
  rcases so_cells hso hk with ⟨c, n, d, t, e, h1, h2⟩ | ⟨c, n, m, d, t, e, h1, h2⟩ | ⟨h, _⟩
  · exact ⟨c, n, 0, d, t, e, h1, h2⟩
  · exact ⟨c, n, m + 1, d, t, e, h1, h2⟩
  · exact h.elim
theorem encP {a : AV} {P : Nat → Nat → Prop} (h : enc a False False N1 N1 N2 N2 P N6 NL NL NO) : ∃ b o, a = .ptr b o ∧ P b o := by
  have g := enc_cases h
  clear h
  rcases g with ⟨rfl, h⟩ | ⟨rfl, h⟩ | ⟨n, rfl, h⟩ | ⟨n, rfl, h⟩ | ⟨c, n, _, rfl, h⟩ | ⟨n, x, rfl, h⟩ | ⟨b, o, rfl, h⟩ | ⟨b, o, l, c, s, x, rfl, h⟩ | ⟨l, rfl, h⟩ | ⟨l, rfl, h⟩ | ⟨_, h⟩ <;> first | exact h.elim | exact ⟨_, _, rfl, h⟩
theorem sLoad_out (hr : RepH hs H) {a : AV} {k : V → Prop} (h : sLoad D (enc a) hs k) : pLoad a H fun x => k (enc x) := by
  obtain ⟨b, o, rfl, h⟩ := encP h
  obtain ⟨c, n, m, d, t, e, h1, h2⟩ := sCells_out (k := fun d t _ => (acc LV d o).get (fun lv => lv k) t) hr h
  obtain ⟨x, g1, _, g2⟩ := cell_get h1 h2
  exact getK_in e (Bt.getK_in g1 g2)
theorem sLoadL_out {d : Nat} {t : CT d} {c : Bt AV} {m : Nat} (ht : TRc d t c m) : ∀ (n o : Nat) (k : List AV → Prop), sLoadL d t n o k → loadL c n o k
  | 0, _, _, h => h
  | n + 1, o, k, h => by
    obtain ⟨a, g1, _, g2⟩ := cell_get ht h
    have g2 := dec_enc g2
    rw [forceN_eq] at g2
    refine Bt.getK_in g1 ?_
    rw [forceN_eq]
    exact sLoadL_out ht n _ _ g2
theorem sLoadN_out (hr : RepH hs H) {n : Nat} {a : AV} {k : V → Prop} (h : sLoadN D n (enc a) hs k) : pLoadN n a H fun x => k (enc x) := by
  obtain ⟨b, o, rfl, h⟩ := encP h
  obtain ⟨c, n', m, d, t, e, h1, h2⟩ := sCells_out hr h
  exact getK_in e (sLoadL_out h1 _ _ _ h2)
end
end Go.X

namespace Go.X
noncomputable section
def okOne (x : V) (k : Prop) : Prop := x k k (fun _ => k) (fun _ => k) (fun _ _ => k) (fun _ _ => k) (fun _ _ => k) (fun _ _ _ _ _ _ => k) NL NL (fun a => one a k)
structure TB (T : Type) where
  t : T
/-- A tree without cells. -/
def emC (d : Nat) : TB (CT d) := @Nat.rec (fun d => TB (CT d)) ⟨noL⟩ (fun _ ih => ⟨fun s => s ih.t ih.t ih.t ih.t ih.t ih.t ih.t ih.t⟩) d
/-- Cells stored over others from place o on. -/
def sStoL (d : Nat) (l : List AV) : CT d → Nat → (CT d → Nat → Prop) → Prop :=
  @List.rec AV (fun _ => CT d → Nat → (CT d → Nat → Prop) → Prop) (fun t o k => k t o) (fun a _ ih t o k => one a ((acc LV d o).mod (fun lv kl => lv fun _ => kl fun k => k (encB a).v) (fun t' => forceN (Nat.succ o) fun o' => ih t' o' k) t)) l
/-- Cells put behind the last. -/
def sPushL (l : List AV) : (d : Nat) → CT d → Nat → ((d : Nat) → CT d → Nat → Prop) → Prop :=
  @List.rec AV (fun _ => (d : Nat) → CT d → Nat → ((d : Nat) → CT d → Nat → Prop) → Prop) (fun d t o K => K d t o)
    (fun a _ ih d t o K => one a (bI (Nat.ble (Nat.succ o) (Nat.pow 8 d)) ((acc LV d o).mod (fun _ kl => kl fun k => k (encB a).v) (fun t' => forceN (Nat.succ o) fun o' => ih d t' o' K) t)
      ((acc LV (Nat.succ d) o).mod (fun _ kl => kl fun k => k (encB a).v) (fun t' => forceN (Nat.succ o) fun o' => ih (Nat.succ d) t' o' K) (fun s => s t (emC d).t (emC d).t (emC d).t (emC d).t (emC d).t (emC d).t (emC d).t)))) l
variable (D : Nat)
def sStore1 (v x : V) (hs : Hs D) (k : Hs D → Prop) : Prop :=
  okOne x (v False False N1 N1 N2 N2 (fun b o => hs fun ht hn => (acc SO D b).mod (fun so ks => so
     (fun d t n => (acc LV d o).mod (fun lv kl => lv fun _ => kl fun k => k x) (fun t' => ks fun C _ _ => C d t' n) t)
     (fun d t n m => bT (Nat.ble m 1) ((acc LV d o).mod (fun lv kl => lv fun _ => kl fun k => k x) (fun t' => ks fun _ C _ => C d t' n m) t)) NB)
     (fun ht' => k fun s => s ht' hn) ht) N6 NL NL NO)
/-- A block's cells turned. -/
def sModC (b : Nat) (f : (d : Nat) → CT d → Nat → (CT d → Prop) → Prop) (hs : Hs D) (k : Hs D → Prop) : Prop :=
  hs fun ht hn => (acc SO D b).mod (fun so ks => so
     (fun d t n => f d t n fun t' => ks fun C _ _ => C d t' n)
     (fun d t n m => bT (Nat.ble m 1) (f d t n fun t' => ks fun _ C _ => C d t' n m)) NB)
     (fun ht' => k fun s => s ht' hn) ht
/-- Cells stored at a place. -/
def sPut (b o n : Nat) (l : List AV) (hs : Hs D) (k : Hs D → Prop) : Prop :=
  sModC D b (fun d t m kt => sStoL d l t o fun t' o' => bT (Nat.beq o' (Nat.add o n)) (bT (Nat.ble o' m) (kt t'))) hs k
def sStoreN (n : Nat) (v x : V) (hs : Hs D) (k : Hs D → Prop) : Prop :=
  v False False N1 N1 N2 N2 (fun b o => dec x fun a => onVal a fun l => sPut D b o n l hs k) N6 NL NL NO
def sNew (so : SO) (hs : Hs D) (k : Nat → Hs D → Prop) : Prop :=
  hs fun ht hn => (acc SO D hn).mod (fun _ ks => ks so) (fun ht' => forceN (Nat.succ hn) fun n' => k hn fun s => s ht' n') ht
def sKill (b : Nat) (hs : Hs D) (k : Hs D → Prop) : Prop := hs fun ht hn => (acc SO D b).mod (fun so ks => so (fun _ _ _ => ks fun _ _ O => O .dead) (fun _ _ _ _ => ks fun _ _ O => O .dead) NB) (fun ht' => k fun s => s ht' hn) ht
/-- New cells of a list. -/
def sNewL (l : List AV) (hs : Hs D) (k : Nat → Nat → Hs D → Prop) : Prop := sPushL l 0 noL 0 fun d t n => sNew D (fun C _ _ => C d t n) hs fun b hs' => k b n hs'
end

/-! ### The lemmas -/
theorem okOne_out {a : AV} {k : Prop} (h : okOne (enc a) k) : a.one = true ∧ k := by
  have g := enc_cases h
  clear h
  rcases g with ⟨rfl, h⟩ | ⟨rfl, h⟩ | ⟨n, rfl, h⟩ | ⟨n, rfl, h⟩ | ⟨c, n, _, rfl, h⟩ | ⟨n, x, rfl, h⟩ | ⟨b, o, rfl, h⟩ | ⟨b, o, l, c, s, x, rfl, h⟩ | ⟨l, rfl, h⟩ | ⟨l, rfl, h⟩ | ⟨_, h⟩ <;> first | exact h.elim | exact ⟨rfl, h⟩ | exact one_out h
theorem one_in {a : AV} {x : Prop} (h : a.one = true) (hx : x) : one a x := by unfold one bT; rw [h]; exact hx
theorem bT_in {b : Bool} {x : Prop} (h : b = true) (hx : x) : bT b x := by subst h; exact hx
theorem onVal_one {a : AV} {k : List AV → Prop} (h : a.one = true) (hk : k [a]) : onVal a k := by cases a <;> first | exact hk | cases h

/-- One cell set. -/
theorem TRc.set {d : Nat} {t t' : CT d} {c : Bt AV} {n o : Nat} {a : AV} (h : TRc d t c n) (ho : o ≤ n) (hl : o < 8 ^ d) (ht : TR rL d t' (updN (fun i => c.get? i) o (some a))) :
    ∃ c', (∀ k : Bt AV → Prop, k c' → c.setK o a k) ∧ TRc d t' c' (max n (o + 1)) := by
  obtain ⟨c', g1, g2, g3⟩ := Bt.set_in h.full ho a
  refine ⟨c', g1, ⟨by have := h.le; omega, h.full.set ho g2 g3, ht.congr' fun i _ => ?_⟩⟩
  by_cases e : i = o
  · subst e; rw [updN_self, g2]
  · rw [updN_ne _ e, g3 i e]
theorem emC_ok (d : Nat) (m : Nat → Option AV) (hm : ∀ i, m i = none) : TR rL d (emC d).t m := by
  induction d generalizing m with
  | zero => show rL noL (m 0); rw [hm]; rfl
  | succ d ih => exact ⟨fun _ => (emC d).t, rfl, fun j _ => ih _ fun i => hm _⟩
theorem TRc.e : TRc 0 noL .e 0 := ⟨by decide, Full.e, rfl⟩
theorem TRc.grow {d : Nat} {t : CT d} {c : Bt AV} {n : Nat} (h : TRc d t c n) : TRc (d + 1) (fun s => s t (emC d).t (emC d).t (emC d).t (emC d).t (emC d).t (emC d).t (emC d).t : CT (d + 1)) c n := by
  refine ⟨Nat.le_trans h.le (Nat.pow_le_pow_right (by decide) (by omega)), h.full, ⟨fun j => match j with | 0 => t | _ + 1 => (emC d).t, rfl, fun j hj => ?_⟩⟩
  cases j with
  | zero => exact h.tr.congr' fun i _ => by rw [Nat.zero_mul, Nat.zero_add]
  | succ j =>
    refine emC_ok d _ fun i => ?_
    have : ¬ ((j + 1) * 8 ^ d + i < n) := by
      have h1 : 1 * 8 ^ d ≤ (j + 1) * 8 ^ d := Nat.mul_le_mul_right _ (by omega)
      have := h.le
      omega
    have hn := (h.full ((j + 1) * 8 ^ d + i))
    cases e : c.get? ((j + 1) * 8 ^ d + i) with
    | none => exact e
    | some x => rw [e] at hn; exact absurd (hn.1 rfl) this

theorem sStoL_out {d : Nat} : ∀ (l : List AV) {t : CT d} {c : Bt AV} {n o : Nat} {k : CT d → Nat → Prop}, TRc d t c n → sStoL d l t o k →
    (l ≠ [] → o + l.length ≤ n) ∧ ∃ c' t', (∀ K : Bt AV → Nat → Prop, K c' (o + l.length) → storeL l c o K) ∧ TRc d t' c' n ∧ k t' (o + l.length)
  | [], t, c, n, o, k, ht, h => ⟨fun h => absurd rfl h, c, t, fun K h => h, ht, h⟩
  | a :: l, t, c, n, o, k, ht, h => by
    obtain ⟨h1, h⟩ := one_out h
    obtain ⟨hl, lv, kl, g1, g2, g3⟩ := acc_mod d ht.tr h
    cases e : c.get? o with
    | none => rw [e] at g1; have g1 := (show lv = noL from g1); subst g1; exact g2.elim
    | some a0 =>
      rw [e] at g1
      have g1 := (show lv = fun k => k (enc a0) from g1)
      subst g1
      have hon : o < n := (ht.full o).1 (by rw [e]; rfl)
      obtain ⟨t', g4, g5⟩ := g3 _ (some a) g2 (show rL _ (some a) from rfl)
      obtain ⟨c1, g6, g7⟩ := ht.set (Nat.le_of_lt hon) hl g4
      rw [show max n (o + 1) = n by omega] at g7
      rw [forceN_eq] at g5
      obtain ⟨y1, c', t2, y2, y3, y4⟩ := sStoL_out l g7 g5
      have el : o + (a :: l).length = o + 1 + l.length := by simp; omega
      refine ⟨fun _ => ?_, c', t2, fun K hK => one_in h1 (g6 _ (by rw [forceN_eq]; exact y2 K (by rw [← el]; exact hK))), y3, by rw [el]; exact y4⟩
      rw [el]
      cases l with
      | nil => exact hon
      | cons b l => exact y1 (by simp)

theorem sPushL_out : ∀ (l : List AV) {d : Nat} {t : CT d} {c : Bt AV} {o : Nat} {K : (d : Nat) → CT d → Nat → Prop}, TRc d t c o → sPushL l d t o K →
    ∃ d' t' c', (∀ K' : Bt AV → Nat → Prop, K' c' (o + l.length) → storeL l c o K') ∧ TRc d' t' c' (o + l.length) ∧ K d' t' (o + l.length) ∧ ∀ a ∈ l, a.one = true
  | [], d, t, c, o, K, ht, h => ⟨d, t, c, fun K h => h, ht, h, by simp⟩
  | a :: l, d, t, c, o, K, ht, h => by
    obtain ⟨h1, h⟩ := one_out h
    have el : o + (a :: l).length = o + 1 + l.length := by simp; omega
    have key : ∀ {d : Nat} {t : CT d}, TRc d t c o → (acc LV d o).mod (fun _ kl => kl fun k => k (encB a).v) (fun t' => forceN (Nat.succ o) fun o' => sPushL l d t' o' K) t →
        ∃ d' t' c', (∀ K' : Bt AV → Nat → Prop, K' c' (o + (a :: l).length) → storeL (a :: l) c o K') ∧ TRc d' t' c' (o + (a :: l).length) ∧ K d' t' (o + (a :: l).length) ∧ ∀ x ∈ a :: l, x.one = true := fun {d t} ht h => by
      obtain ⟨hl, lv, kl, g1, g2, g3⟩ := acc_mod d ht.tr h
      obtain ⟨t', g4, g5⟩ := g3 _ (some a) g2 (show rL _ (some a) from rfl)
      obtain ⟨c1, g6, g7⟩ := ht.set (Nat.le_refl _) hl g4
      rw [show max o (o + 1) = o + 1 by omega] at g7
      rw [forceN_eq] at g5
      obtain ⟨d', t2, c', y1, y2, y3, y4⟩ := sPushL_out l g7 g5
      exact ⟨d', t2, c', fun K hK => one_in h1 (g6 _ (by rw [forceN_eq]; exact y1 K (by rw [← el]; exact hK))), by rw [el]; exact y2, by rw [el]; exact y3, by simp only [List.mem_cons, forall_eq_or_imp]; exact ⟨h1, y4⟩⟩
    rcases bI_out h with ⟨_, h⟩ | ⟨_, h⟩
    · exact key ht h
    · exact key ht.grow h

section
variable {D : Nat} {hs : Hs D} {H : AH}
theorem setK_in {H : AH} (hf : Full H.t H.n) {b : Nat} (hb : b < H.n) (o : AObj) : ∃ H', (∀ K : AH → Prop, K H' → setK H b o K) ∧ H'.n = H.n ∧ Full H'.t H'.n ∧ H'.at b = o ∧ ∀ i, i ≠ b → H'.at i = H.at i := by
  obtain ⟨t', g1, g2, g3⟩ := Bt.set_in hf (Nat.le_of_lt hb) o
  have hf' := hf.set (Nat.le_of_lt hb) g2 g3
  rw [show max H.n (b + 1) = H.n by omega] at hf'
  exact ⟨⟨t', H.n⟩, fun K h => g1 _ h, rfl, hf', by simp [AH.at, g2], fun i hi => by simp [AH.at, g3 i hi]⟩
theorem newK_in {H : AH} (hf : Full H.t H.n) (o : AObj) : ∃ H', (∀ K : Nat → AH → Prop, K H.n H' → newK H o K) ∧ H'.n = H.n + 1 ∧ Full H'.t H'.n ∧ H'.at H.n = o ∧ ∀ i, i ≠ H.n → H'.at i = H.at i := by
  obtain ⟨t', g1, g2, g3⟩ := Bt.set_in hf (Nat.le_refl _) o
  have hf' := hf.set (Nat.le_refl _) g2 g3
  rw [show max H.n (H.n + 1) = H.n + 1 by omega] at hf'
  exact ⟨⟨t', H.n + 1⟩, fun K h => g1 _ (by rw [forceN_eq]; exact h), rfl, hf', by simp [AH.at, g2], fun i hi => by simp [AH.at, g3 i hi]⟩
theorem RepH.lt (hr : RepH hs H) {b : Nat} (h : H.at b ≠ .dead) : b < H.n := by
  rcases Nat.lt_or_ge b H.n with h1 | h1
  · exact h1
  · exact absurd (hr.full.dead h1) h
/-- A block turned. -/
theorem heap_mod (hr : RepH hs H) {b : Nat} {f : SO → (SO → Prop) → Prop} {k : Hs D → Prop} (h : hs fun ht hn => (acc SO D b).mod f (fun ht' => k fun s => s ht' hn) ht) :
    ∃ so ks, rO so (H.at b) ∧ f so ks ∧ ∀ so' o', ks so' → rO so' o' → b < H.n → ∃ hs' H', (∀ K : AH → Prop, K H' → setK H b o' K) ∧ RepH hs' H' ∧ H'.n = H.n ∧ H'.at b = o' ∧ (∀ i, i ≠ b → H'.at i = H.at i) ∧ k hs' := by
  obtain ⟨ht, rfl, htr⟩ := hr.tr
  obtain ⟨_, so, ks, g1, g2, g3⟩ := acc_mod D htr h
  refine ⟨so, ks, g1, g2, fun so' o' h1 h2 hb => ?_⟩
  obtain ⟨ht', g4, g5⟩ := g3 so' o' h1 h2
  obtain ⟨H', x1, x2, x3, x4, x5⟩ := setK_in hr.full hb o'
  refine ⟨_, H', x1, ⟨⟨ht', by rw [x2], g4.congr' fun i _ => ?_⟩, by rw [x2]; exact hr.le, x3⟩, x2, x4, x5, g5⟩
  by_cases e : i = b
  · subst e; rw [updN_self, x4]
  · rw [updN_ne _ e, x5 i e]
theorem sNew_out (hr : RepH hs H) {so : SO} {o : AObj} (ho : rO so o) {k : Nat → Hs D → Prop} (h : sNew D so hs k) : ∃ hs' H', (∀ K : Nat → AH → Prop, K H.n H' → newK H o K) ∧ RepH hs' H' ∧ H'.n = H.n + 1 ∧ H'.at H.n = o ∧ (∀ i, i ≠ H.n → H'.at i = H.at i) ∧ k H.n hs' := by
  obtain ⟨ht, rfl, htr⟩ := hr.tr
  obtain ⟨hl, so0, ks, g1, g2, g3⟩ := acc_mod D htr h
  obtain ⟨ht', g4, g5⟩ := g3 so o g2 ho
  rw [forceN_eq] at g5
  obtain ⟨H', x1, x2, x3, x4, x5⟩ := newK_in hr.full o
  refine ⟨_, H', x1, ⟨⟨ht', by rw [x2], g4.congr' fun i _ => ?_⟩, by rw [x2]; omega, x3⟩, x2, x4, x5, g5⟩
  by_cases e : i = H.n
  · subst e; rw [updN_self, x4]
  · rw [updN_ne _ e, x5 i e]

theorem sModC_out (hr : RepH hs H) {b : Nat} {f : (d : Nat) → CT d → Nat → (CT d → Prop) → Prop} {k : Hs D → Prop} (h : sModC D b f hs k) :
    ∃ c n m d t kt, H.at b = .cells c n m ∧ m ≤ 1 ∧ TRc d t c n ∧ f d t n kt ∧ ∀ c' t', kt t' → TRc d t' c' n → ∃ hs' H', (∀ K : AH → Prop, K H' → setK H b (.cells c' n m) K) ∧ RepH hs' H' ∧ H'.n = H.n ∧ k hs' := by
  obtain ⟨so, ks, g1, g2, g3⟩ := heap_mod hr h
  rcases so_cells g1 g2 with ⟨c, n, d, t, e, h1, h2⟩ | ⟨c, n, m, d, t, e, h1, h2⟩ | ⟨h, _⟩
  · refine ⟨c, n, 0, d, t, _, e, by omega, h1, h2, fun c' t' y1 y2 => ?_⟩
    obtain ⟨hs', H', z1, z2, z3, z4, z5, z6⟩ := g3 _ (.cells c' n 0) y1 ⟨d, t', rfl, y2⟩ (hr.lt (by rw [e]; simp))
    exact ⟨hs', H', z1, z2, z3, z6⟩
  · obtain ⟨hm, h2⟩ := bT_out h2
    refine ⟨c, n, m + 1, d, t, _, e, Nat.le_of_ble_eq_true hm, h1, h2, fun c' t' y1 y2 => ?_⟩
    obtain ⟨hs', H', z1, z2, z3, z4, z5, z6⟩ := g3 _ (.cells c' n (m + 1)) y1 ⟨d, t', rfl, y2⟩ (hr.lt (by rw [e]; simp))
    exact ⟨hs', H', z1, z2, z3, z6⟩
  · exact h.elim
theorem sPut_out (hr : RepH hs H) {b o n : Nat} {l : List AV} {k : Hs D → Prop} (h : sPut D b o n l hs k) :
    getK H b fun c m w => bT (Nat.ble w 1) (storeL l c o fun c' o' => bT (Nat.beq o' (Nat.add o n)) (bT (Nat.ble o' m) (setK H b (.cells c' m w) fun H' => ∃ hs', RepH hs' H' ∧ k hs'))) := by
  obtain ⟨c, m, w, d, t, kt, e, hw, h1, h2, h3⟩ := sModC_out hr h
  obtain ⟨y1, c', t', y2, y3, y4⟩ := sStoL_out l h1 h2
  obtain ⟨y5, y4⟩ := bT_out y4
  obtain ⟨y6, y4⟩ := bT_out y4
  obtain ⟨hs', H', z1, z2, z3, z4⟩ := h3 c' t' y4 y3
  exact getK_in e (bT_in (Nat.ble_eq_true_of_le hw) (y2 _ (bT_in y5 (bT_in y6 (z1 _ ⟨hs', z2, z4⟩)))))
theorem sStoreN_out (hr : RepH hs H) {n : Nat} {a x : AV} {k : Hs D → Prop} (h : sStoreN D n (enc a) (enc x) hs k) : pStore n a x H fun H' => ∃ hs', RepH hs' H' ∧ k hs' := by
  have g := encP h
  clear h
  obtain ⟨b, o, rfl, g⟩ := g
  have g := dec_enc g
  obtain ⟨h, h1, h2⟩ := onVal_out g
  have h := sPut_out hr h
  show onVal x _
  cases x <;> first | exact h | exact absurd rfl h1 | exact absurd rfl (h2 _)
theorem sStore1_out (hr : RepH hs H) {a x : AV} {k : Hs D → Prop} (h : sStore1 D (enc a) (enc x) hs k) : pStore 1 a x H fun H' => ∃ hs', RepH hs' H' ∧ k hs' := by
  obtain ⟨hx, h⟩ := okOne_out h
  obtain ⟨b, o, rfl, h⟩ := encP h
  obtain ⟨c, n, m, d, t, kt, e, hm, h1, h2, h3⟩ := sModC_out (f := fun d t _ kt => (acc LV d o).mod (fun lv kl => lv fun _ => kl fun k => k (enc x)) kt t) hr h
  obtain ⟨hl, lv, kl, g1, g2, g3⟩ := acc_mod d h1.tr h2
  cases ec : c.get? o with
  | none => rw [ec] at g1; have g1 := (show lv = noL from g1); subst g1; exact g2.elim
  | some a0 =>
    rw [ec] at g1
    have g1 := (show lv = fun k => k (enc a0) from g1)
    subst g1
    have hon : o < n := (h1.full o).1 (by rw [ec]; rfl)
    obtain ⟨t', g4, g5⟩ := g3 _ (some x) g2 (show rL _ (some x) from rfl)
    obtain ⟨c1, g6, g7⟩ := h1.set (Nat.le_of_lt hon) hl g4
    rw [show max n (o + 1) = n by omega] at g7
    obtain ⟨hs', H', z1, z2, z3, z4⟩ := h3 c1 t' g5 g7
    exact onVal_one hx (getK_in e (bT_in (Nat.ble_eq_true_of_le hm) (one_in hx (g6 _ (by
      rw [forceN_eq]
      exact bT_in (Nat.beq_refl _) (bT_in (Nat.ble_eq_true_of_le hon) (z1 _ ⟨hs', z2, z4⟩)))))))
theorem sNewL_out (hr : RepH hs H) {l : List AV} {k : Nat → Nat → Hs D → Prop} (h : sNewL D l hs k) :
    storeL l .e 0 fun c n => newK H (.cells c n 0) fun b H' => n = l.length ∧ ∃ hs', RepH hs' H' ∧ k b n hs' := by
  obtain ⟨d', t', c', y1, y2, y3, _⟩ := sPushL_out l TRc.e h
  refine y1 _ ?_
  obtain ⟨hs', H', z1, z2, _, _, _, z3⟩ := sNew_out hr (o := .cells c' (0 + l.length) 0) ⟨d', t', rfl, y2⟩ y3
  exact z1 _ ⟨by omega, hs', z2, z3⟩
end
end Go.X

namespace Go.X
noncomputable section
def onNs (a : AV) (k : Prop) : Prop := match a with | .nslice => k | _ => False
variable (D : Nat)
/-- A slice's length and its cells. -/
def sSrc (sz : Nat) (x : V) (hs : Hs D) (k : Nat → List AV → Prop) : Prop :=
  x False False N1 N1 N2 N2 N2 (fun b o len _ sz' _ => bT (Nat.beq sz sz') (sCells D b hs fun d t _ => sLoadL d t (Nat.mul len sz) o fun l => k len l)) NL NL (fun a => onNs a (k 0 []))
def sSrcN (sz n : Nat) (x : V) (hs : Hs D) (k : List AV → Prop) : Prop :=
  x False False N1 N1 N2 N2 N2 (fun b o len _ sz' _ => bT (Nat.ble n len) (bT (Nat.beq sz sz') (sCells D b hs fun d t _ => sLoadL d t (Nat.mul n sz) o k))) NL NL (fun a => onNs a (k []))
def sLenV (x : V) (k : Nat → Prop) : Prop := x False False N1 N1 N2 N2 N2 (fun _ _ len _ _ _ => k len) NL NL (fun a => onNs a (k 0))
/-- Cells behind another block's, which is no more. -/
def sMove (b o len sz : Nat) (l : List AV) (hs : Hs D) (k : Nat → Hs D → Prop) : Prop :=
  hs fun ht _ => (acc SO D b).get (fun so => so
    (fun d t m => bI (Nat.beq o 0) (bI (Nat.beq m (Nat.mul len sz))
        (sPushL l d t m fun d2 t2 o2 => sKill D b hs fun h1 => sNew D (fun C _ _ => C d2 t2 o2) h1 k)
        (sLoadL d t (Nat.mul len sz) o fun old => sPushL old 0 noL 0 fun d1 t1 o1 => sPushL l d1 t1 o1 fun d2 t2 o2 => sKill D b hs fun h1 => sNew D (fun C _ _ => C d2 t2 o2) h1 k))
      (sLoadL d t (Nat.mul len sz) o fun old => sPushL old 0 noL 0 fun d1 t1 o1 => sPushL l d1 t1 o1 fun d2 t2 o2 => sKill D b hs fun h1 => sNew D (fun C _ _ => C d2 t2 o2) h1 k))
    (fun d t m w => bT (Nat.ble w 1) (bI (Nat.beq o 0) (bI (Nat.beq m (Nat.mul len sz))
        (sPushL l d t m fun d2 t2 o2 => sKill D b hs fun h1 => sNew D (fun _ C _ => C d2 t2 o2 w) h1 k)
        (sLoadL d t (Nat.mul len sz) o fun old => sPushL old 0 noL 0 fun d1 t1 o1 => sPushL l d1 t1 o1 fun d2 t2 o2 => sKill D b hs fun h1 => sNew D (fun _ C _ => C d2 t2 o2 w) h1 k))
      (sLoadL d t (Nat.mul len sz) o fun old => sPushL old 0 noL 0 fun d1 t1 o1 => sPushL l d1 t1 o1 fun d2 t2 o2 => sKill D b hs fun h1 => sNew D (fun _ C _ => C d2 t2 o2 w) h1 k))) NB) ht
def sAppL (sz bytes n : Nat) (s : V) (l : List AV) (hs : Hs D) (k : V → Hs D → Prop) : Prop :=
  bT (Nat.ble 1 sz) (s False False N1 N1 N2 N2 N2
    (fun b o len cap sz' ex => bT (Nat.beq sz sz') (forceN (Nat.add len n) fun need => bI (Nat.ble need cap)
      (sModC D b (fun d t m kt => sStoL d l t (Nat.add o (Nat.mul len sz)) fun t' o' => bT (Nat.ble o' m) (kt t')) hs fun hs' => k (fun _ _ _ _ _ _ _ h _ _ _ => h b o need cap sz ex) hs')
      (bT (Nat.ble (Nat.mul need bytes) 1099511627776) (bI ex
        (sCells D b hs fun d t _ => sLoadL d t (Nat.mul len sz) o fun old => sPushL old 0 noL 0 fun d1 t1 o1 => sPushL l d1 t1 o1 fun d2 t2 o2 => sNew D (fun C _ _ => C d2 t2 o2) hs fun b' hs' => k (fun _ _ _ _ _ _ _ h _ _ _ => h b' 0 need need sz false) hs')
        (sMove D b o len sz l hs fun b' hs' => k (fun _ _ _ _ _ _ _ h _ _ _ => h b' 0 need need sz false) hs')))))
    NL NL (fun a => onNs a (bI (Nat.beq n 0) (k (fun _ _ _ _ _ _ _ _ _ _ h => h .nslice) hs) (bT (Nat.ble (Nat.mul n bytes) 1099511627776) (sNewL D l hs fun b' _ hs' => k (fun _ _ _ _ _ _ _ h _ _ _ => h b' 0 n n sz false) hs')))))
def sApp (sz bytes : Nat) (s x : V) (hs : Hs D) (k : V → Hs D → Prop) : Prop := sSrc D sz x hs fun n l => sAppL D sz bytes n s l hs k
def sAppStr (sz bytes : Nat) (s x : V) (hs : Hs D) (k : V → Hs D → Prop) : Prop := x False False N1 N1 N2 (fun n y => bT (Nat.beq sz 1) (sAppL D sz bytes n s (bytesL n y) hs k)) N2 N6 NL NL NO
def sAppZ (sz bytes : Nat) (z : List AV) (s x : V) (hs : Hs D) (k : V → Hs D → Prop) : Prop := x False False (fun n => bT (Nat.ble 1 sz) (bT (Nat.ble (Nat.mul n bytes) 1099511627776) (sAppL D sz bytes n s (repL n z) hs k))) N1 N2 N2 N2 N6 NL NL NO
def sCopy (sz : Nat) (d s : V) (hs : Hs D) (k : V → Hs D → Prop) : Prop :=
  sLenV s fun n => sLenV d fun m => forceN (Nat.min n m) fun q => sSrcN D sz q s hs fun l =>
    d False False N1 N1 N2 N2 N2 (fun b o _ _ sz' _ => bT (Nat.beq sz sz') (sModC D b (fun d t m kt => sStoL d l t o fun t' o' => bT (Nat.ble o' m) (kt t')) hs fun hs' => k (fun _ _ h _ _ _ _ _ _ _ _ => h q) hs')) NL NL (fun a => onNs a (k (fun _ _ h _ _ _ _ _ _ _ _ => h q) hs))
def sTextOf (a : V) (hs : Hs D) (k : V → Prop) : Prop :=
  a False False N1 N1 N2 N2 N2 (fun b o len _ sz _ => bT (Nat.beq sz 1) (sCells D b hs fun d t _ => sLoadL d t len o fun l => numL l fun n x => k (fun _ _ _ _ _ h _ _ _ _ _ => h n x))) NL NL (fun a => onNs a (k (fun _ _ _ _ _ h _ _ _ _ _ => h 0 0)))
def sBytesOf (a : V) (hs : Hs D) (k : V → Hs D → Prop) : Prop :=
  a False False N1 N1 N2 (fun n x => sPushL (bytesL n x) 0 noL 0 fun d t m => bT (Nat.beq m n) (sNew D (fun _ C _ => C d t m 1) hs fun b hs' => k (fun _ _ _ _ _ _ _ h _ _ _ => h b 0 n n 1 false) hs')) N2 N6 NL NL NO
end

theorem onNs_out {a : AV} {k : Prop} (h : onNs a k) : a = .nslice ∧ k := by cases a <;> first | exact h.elim | exact ⟨rfl, h⟩
theorem encL' {a : AV} {L : Nat → Nat → Nat → Nat → Nat → Bool → Prop} {k : Prop} (h : enc a False False N1 N1 N2 N2 N2 L NL NL (fun a => onNs a k)) : (∃ b o l c s x, a = .slice b o l c s x ∧ L b o l c s x) ∨ (a = .nslice ∧ k) := by
  have g := enc_cases h
  clear h
  rcases g with ⟨rfl, h⟩ | ⟨rfl, h⟩ | ⟨n, rfl, h⟩ | ⟨n, rfl, h⟩ | ⟨c, n, _, rfl, h⟩ | ⟨n, x, rfl, h⟩ | ⟨b, o, rfl, h⟩ | ⟨b, o, l, c, s, x, rfl, h⟩ | ⟨l, rfl, h⟩ | ⟨l, rfl, h⟩ | ⟨_, h⟩ <;>
    first | exact h.elim | exact .inl ⟨_, _, _, _, _, _, rfl, h⟩ | exact .inr (onNs_out h)
theorem encS {a : AV} {S : Nat → Nat → Prop} (h : enc a False False N1 N1 N2 S N2 N6 NL NL NO) : ∃ n x, a = .str n x ∧ S n x := by
  have g := enc_cases h
  clear h
  rcases g with ⟨rfl, h⟩ | ⟨rfl, h⟩ | ⟨n, rfl, h⟩ | ⟨n, rfl, h⟩ | ⟨c, n, _, rfl, h⟩ | ⟨n, x, rfl, h⟩ | ⟨b, o, rfl, h⟩ | ⟨b, o, l, c, s, x, rfl, h⟩ | ⟨l, rfl, h⟩ | ⟨l, rfl, h⟩ | ⟨_, h⟩ <;> first | exact h.elim | exact ⟨_, _, rfl, h⟩

section
variable {D : Nat} {hs : Hs D} {H : AH}
theorem sLenV_out {a : AV} {k : Nat → Prop} (h : sLenV (enc a) k) : lenOf a k := by
  rcases encL' h with ⟨b, o, l, c, s, x, rfl, h⟩ | ⟨rfl, h⟩ <;> exact h
theorem sSrc_out (hr : RepH hs H) {sz : Nat} {a : AV} {k : Nat → List AV → Prop} (h : sSrc D sz (enc a) hs k) : lenOf a fun n => cellsOf sz n a H fun l => k n l := by
  rcases encL' h with ⟨b, o, len, c, s, x, rfl, g⟩ | ⟨rfl, g⟩
  · obtain ⟨h1, h2⟩ := bT_out g
    obtain ⟨c, n', m, d, t, e, y1, y2⟩ := sCells_out hr h2
    exact bT_in (Nat.ble_eq_true_of_le (Nat.le_refl _)) (bT_in h1 (getK_in e (sLoadL_out y1 _ _ _ y2)))
  · exact g
theorem sSrcN_out (hr : RepH hs H) {sz n : Nat} {a : AV} {k : List AV → Prop} (h : sSrcN D sz n (enc a) hs k) : cellsOf sz n a H k := by
  rcases encL' h with ⟨b, o, len, c, s, x, rfl, g⟩ | ⟨rfl, g⟩
  · obtain ⟨h0, g⟩ := bT_out g
    obtain ⟨h1, h2⟩ := bT_out g
    obtain ⟨c, n', m, d, t, e, y1, y2⟩ := sCells_out hr h2
    exact bT_in h0 (bT_in h1 (getK_in e (sLoadL_out y1 _ _ _ y2)))
  · exact g
theorem sKill_out (hr : RepH hs H) {b : Nat} {k : Hs D → Prop} (h : sKill D b hs k) : ∃ hs' H', (∀ K : AH → Prop, K H' → setK H b .dead K) ∧ RepH hs' H' ∧ k hs' := by
  obtain ⟨so, ks, g1, g2, g3⟩ := heap_mod hr h
  rcases so_cells g1 g2 with ⟨c, n, d, t, e, _, h2⟩ | ⟨c, n, m, d, t, e, _, h2⟩ | ⟨h, _⟩
  · obtain ⟨hs', H', z1, z2, _, _, _, z6⟩ := g3 _ .dead h2 rfl (hr.lt (by rw [e]; simp))
    exact ⟨hs', H', z1, z2, z6⟩
  · obtain ⟨hs', H', z1, z2, _, _, _, z6⟩ := g3 _ .dead h2 rfl (hr.lt (by rw [e]; simp))
    exact ⟨hs', H', z1, z2, z6⟩
  · exact h.elim
theorem bI_in {b : Bool} {x y : Prop} (h : (b = true ∧ x) ∨ (b = false ∧ y)) : bI b x y := by rcases h with ⟨rfl, h⟩ | ⟨rfl, h⟩ <;> exact h
theorem sMove_out (hr : RepH hs H) {b o len sz : Nat} {l : List AV} {k : Nat → Hs D → Prop} (h : sMove D b o len sz l hs k) :
    getK H b fun c m w => bT (Nat.ble w 1) (bI (Nat.beq o 0 && Nat.beq m (Nat.mul len sz))
      (storeL l c m fun c2 o2 => setK H b .dead fun H1 => newK H1 (.cells c2 o2 w) fun b' H' => ∃ hs', RepH hs' H' ∧ k b' hs')
      (loadL c (Nat.mul len sz) o fun old => storeL old .e 0 fun c1 o1 => storeL l c1 o1 fun c2 o2 => setK H b .dead fun H1 => newK H1 (.cells c2 o2 w) fun b' H' => ∃ hs', RepH hs' H' ∧ k b' hs')) := by
  obtain ⟨ht, e1, htr⟩ := hr.tr
  have h' := h
  unfold sMove at h'
  rw [e1] at h'
  obtain ⟨_, so, hso, hk⟩ := acc_get D htr h'
  have fin : ∀ {d2 : Nat} {t2 : CT d2} {c2 : Bt AV} {o2 w : Nat} {so : SO}, rO so (.cells c2 o2 w) → (sKill D b (fun s => s ht H.n) fun h1 => sNew D so h1 k) →
      setK H b .dead fun H1 => newK H1 (.cells c2 o2 w) fun b' H' => ∃ hs', RepH hs' H' ∧ k b' hs' := fun {d2 t2 c2 o2 w so} h1 h2 => by
    obtain ⟨hs1, H1, z1, z2, z3⟩ := sKill_out (by rw [e1] at hr; exact hr) h2
    obtain ⟨hs', H', y1, y2, _, _, _, y3⟩ := sNew_out z2 h1 z3
    exact z1 _ (y1 _ ⟨hs', y2, y3⟩)
  have copy : ∀ {d : Nat} {t : CT d} {c : Bt AV} {m w : Nat} {mk : (d2 : Nat) → CT d2 → Nat → SO}, TRc d t c m → (∀ d2 t2 c2 o2, TRc d2 t2 c2 o2 → rO (mk d2 t2 o2) (.cells c2 o2 w)) →
      (sLoadL d t (Nat.mul len sz) o fun old => sPushL old 0 noL 0 fun d1 t1 o1 => sPushL l d1 t1 o1 fun d2 t2 o2 => sKill D b (fun s => s ht H.n) fun h1 => sNew D (mk d2 t2 o2) h1 k) →
      (loadL c (Nat.mul len sz) o fun old => storeL old .e 0 fun c1 o1 => storeL l c1 o1 fun c2 o2 => setK H b .dead fun H1 => newK H1 (.cells c2 o2 w) fun b' H' => ∃ hs', RepH hs' H' ∧ k b' hs') := fun {d t c m w mk} ht1 hmk h => by
    have h := sLoadL_out ht1 _ _ _ h
    refine loadL_mono (fun old h => ?_) h
    obtain ⟨d1, t1, c1, x1, x2, x3, _⟩ := sPushL_out old TRc.e h
    obtain ⟨d2, t2, c2, w1, w2, w3, _⟩ := sPushL_out l x2 x3
    exact x1 _ (w1 _ (fin (d2 := d2) (t2 := t2) (hmk _ _ _ _ w2) w3))
  have push : ∀ {d : Nat} {t : CT d} {c : Bt AV} {m w : Nat} {mk : (d2 : Nat) → CT d2 → Nat → SO}, TRc d t c m → (∀ d2 t2 c2 o2, TRc d2 t2 c2 o2 → rO (mk d2 t2 o2) (.cells c2 o2 w)) →
      (sPushL l d t m fun d2 t2 o2 => sKill D b (fun s => s ht H.n) fun h1 => sNew D (mk d2 t2 o2) h1 k) →
      (storeL l c m fun c2 o2 => setK H b .dead fun H1 => newK H1 (.cells c2 o2 w) fun b' H' => ∃ hs', RepH hs' H' ∧ k b' hs') := fun {d t c m w mk} ht1 hmk h => by
    obtain ⟨d2, t2, c2, w1, w2, w3, _⟩ := sPushL_out l ht1 h
    exact w1 _ (fin (d2 := d2) (t2 := t2) (hmk _ _ _ _ w2) w3)
  have all : ∀ {d : Nat} {t : CT d} {c : Bt AV} {m w : Nat} {mk : (d2 : Nat) → CT d2 → Nat → SO}, TRc d t c m → (∀ d2 t2 c2 o2, TRc d2 t2 c2 o2 → rO (mk d2 t2 o2) (.cells c2 o2 w)) →
      (bI (Nat.beq o 0) (bI (Nat.beq m (Nat.mul len sz)) (sPushL l d t m fun d2 t2 o2 => sKill D b (fun s => s ht H.n) fun h1 => sNew D (mk d2 t2 o2) h1 k)
        (sLoadL d t (Nat.mul len sz) o fun old => sPushL old 0 noL 0 fun d1 t1 o1 => sPushL l d1 t1 o1 fun d2 t2 o2 => sKill D b (fun s => s ht H.n) fun h1 => sNew D (mk d2 t2 o2) h1 k))
        (sLoadL d t (Nat.mul len sz) o fun old => sPushL old 0 noL 0 fun d1 t1 o1 => sPushL l d1 t1 o1 fun d2 t2 o2 => sKill D b (fun s => s ht H.n) fun h1 => sNew D (mk d2 t2 o2) h1 k)) →
      bI (Nat.beq o 0 && Nat.beq m (Nat.mul len sz))
      (storeL l c m fun c2 o2 => setK H b .dead fun H1 => newK H1 (.cells c2 o2 w) fun b' H' => ∃ hs', RepH hs' H' ∧ k b' hs')
      (loadL c (Nat.mul len sz) o fun old => storeL old .e 0 fun c1 o1 => storeL l c1 o1 fun c2 o2 => setK H b .dead fun H1 => newK H1 (.cells c2 o2 w) fun b' H' => ∃ hs', RepH hs' H' ∧ k b' hs') := fun {d t c m w mk} ht1 hmk h => by
    rcases bI_out h with ⟨g1, h⟩ | ⟨g1, h⟩
    · rcases bI_out h with ⟨g2, h⟩ | ⟨g2, h⟩
      · exact bI_in (.inl ⟨by rw [g1, g2]; rfl, push ht1 hmk h⟩)
      · exact bI_in (.inr ⟨by rw [g1, g2]; rfl, copy ht1 hmk h⟩)
    · exact bI_in (.inr ⟨by rw [g1]; rfl, copy ht1 hmk h⟩)
  rcases so_cells hso hk with ⟨c, n, d, t, e, h1, h2⟩ | ⟨c, n, m, d, t, e, h1, h2⟩ | ⟨h, _⟩
  · exact getK_in e (bT_in rfl (all (mk := fun d2 t2 o2 => fun C _ _ => C d2 t2 o2) h1 (fun d2 t2 c2 o2 h => ⟨d2, t2, rfl, h⟩) h2))
  · obtain ⟨hm, h2⟩ := bT_out h2
    exact getK_in e (bT_in hm (all (mk := fun d2 t2 o2 => fun _ C _ => C d2 t2 o2 (m + 1)) h1 (fun d2 t2 c2 o2 h => ⟨d2, t2, rfl, h⟩) h2))
  · exact h.elim
 where
  loadL_mono : ∀ {n : Nat} {c : Bt AV} {o : Nat} {k k' : List AV → Prop}, (∀ l, k l → k' l) → loadL c n o k → loadL c n o k'
  | 0, _, _, _, _, hk, h => hk _ h
  | n + 1, c, o, k, k', hk, h => by
    obtain ⟨a, ha, h⟩ := Bt.getK_out c o _ h
    rw [forceN_eq] at h
    refine Bt.getK_in ha ?_
    rw [forceN_eq]
    exact loadL_mono (fun l h => hk _ h) h

theorem sModL_out (hr : RepH hs H) {b o : Nat} {l : List AV} {k : Hs D → Prop} (h : sModC D b (fun d t m kt => sStoL d l t o fun t' o' => bT (Nat.ble o' m) (kt t')) hs k) :
    getK H b fun c m w => bT (Nat.ble w 1) (storeL l c o fun c' o' => bT (Nat.ble o' m) (setK H b (.cells c' m w) fun H' => ∃ hs', RepH hs' H' ∧ k hs')) := by
  obtain ⟨c, m, w, d, t, kt, e, hw, h1, h2, h3⟩ := sModC_out hr h
  obtain ⟨_, c', t', y2, y3, y4⟩ := sStoL_out l h1 h2
  obtain ⟨y5, y4⟩ := bT_out y4
  obtain ⟨hs', H', z1, z2, z3, z4⟩ := h3 c' t' y4 y3
  exact getK_in e (bT_in (Nat.ble_eq_true_of_le hw) (y2 _ (bT_in y5 (z1 _ ⟨hs', z2, z4⟩))))
theorem storeL_monoY : ∀ {l : List AV} {c : Bt AV} {o : Nat} {k k' : Bt AV → Nat → Prop}, (∀ c o, k c o → k' c o) → storeL l c o k → storeL l c o k'
  | [], _, _, _, _, hk, h => hk _ _ h
  | a :: l, c, o, k, k', hk, h => by
    obtain ⟨h1, h⟩ := one_out h
    exact one_in h1 (Bt.setK_mono (fun c' h => by rw [forceN_eq] at h ⊢; exact storeL_monoY hk h) h)
 where
  Bt.setK_mono {α : Type} : ∀ {t : Bt α} {i : Nat} {v : α} {k k' : Bt α → Prop}, (∀ t, k t → k' t) → t.setK i v k → t.setK i v k'
  | .e, 0, _, _, _, hk, h => hk _ h
  | .e, i + 1, _, _, _, _, h => (show False from h).elim
  | .n u l r, 0, v, _, _, hk, h => hk _ h
  | .n u l r, i + 1, v, k, k', hk, h => by
    have h := (show @Nat.rec (fun _ => Prop) (l.setK (i/2) v (fun l' => k (.n u l' r))) (fun _ _ => r.setK (i/2) v (fun r' => k (.n u l r'))) (i % 2) from h)
    show @Nat.rec (fun _ => Prop) (l.setK (i/2) v (fun l' => k' (.n u l' r))) (fun _ _ => r.setK (i/2) v (fun r' => k' (.n u l r'))) (i % 2)
    rcases Nat.mod_two_eq_zero_or_one i with e | e
    · rw [e] at h ⊢; exact Bt.setK_mono (fun t h => hk _ h) h
    · rw [e] at h ⊢; exact Bt.setK_mono (fun t h => hk _ h) h

theorem getK_mono {b : Nat} {k k' : Bt AV → Nat → Nat → Prop} (hk : ∀ c n m, k c n m → k' c n m) (h : getK H b k) : getK H b k' := by
  obtain ⟨c, n, m, e, h⟩ := getK_out h
  exact getK_in e (hk _ _ _ h)
theorem bT_monoY {b : Bool} {x y : Prop} (hk : x → y) (h : bT b x) : bT b y := by obtain ⟨h1, h2⟩ := bT_out h; exact bT_in h1 (hk h2)
theorem bI_monoY {b : Bool} {x y x' y' : Prop} (h1 : x → x') (h2 : y → y') (h : bI b x y) : bI b x' y' := by
  rcases bI_out h with ⟨e, h⟩ | ⟨e, h⟩
  · exact bI_in (.inl ⟨e, h1 h⟩)
  · exact bI_in (.inr ⟨e, h2 h⟩)
theorem setK_mono {b : Nat} {o : AObj} {k k' : AH → Prop} (hk : ∀ H, k H → k' H) (h : setK H b o k) : setK H b o k' := storeL_monoY.Bt.setK_mono (fun t h => hk _ h) h
theorem newK_monoY {o : AObj} {k k' : Nat → AH → Prop} (hk : ∀ b H, k b H → k' b H) (h : newK H o k) : newK H o k' := storeL_monoY.Bt.setK_mono (fun t h => by rw [forceN_eq] at h ⊢; exact hk _ _ h) h

theorem sAppL_out (hr : RepH hs H) {sz bytes n : Nat} {s : AV} {l : List AV} {k : V → Hs D → Prop} (h : sAppL D sz bytes n (enc s) l hs k) : appL sz bytes n s l H fun v H' => ∃ hs', RepH hs' H' ∧ k (enc v) hs' := by
  obtain ⟨h1, h⟩ := bT_out h
  refine bT_in h1 ?_
  rcases encL' h with ⟨b, o, len, cap, sz', ex, rfl, g⟩ | ⟨rfl, g⟩
  · obtain ⟨h2, g⟩ := bT_out g
    refine bT_in h2 ?_
    rw [forceN_eq] at g ⊢
    refine bI_monoY (fun g => ?_) (fun g => ?_) g
    · refine getK_mono (fun c m w g => bT_monoY (fun g => storeL_monoY (fun c' o' g => bT_monoY (fun g => setK_mono (fun H' g => ?_) g) g) g) g) (sModL_out hr g)
      exact g
    · refine bT_monoY (fun g => bI_monoY (fun g => ?_) (fun g => ?_) g) g
      · obtain ⟨c, n', m, d, t, e, y1, y2⟩ := sCells_out hr g
        refine getK_in e ?_
        refine sMove_out.loadL_mono (fun old h => ?_) (sLoadL_out y1 _ _ _ y2)
        obtain ⟨d1, t1, c1, x1, x2, x3, _⟩ := sPushL_out old TRc.e h
        obtain ⟨d2, t2, c2, w1, w2, w3, _⟩ := sPushL_out l x2 x3
        obtain ⟨hs', H', u1, u2, _, _, _, u3⟩ := sNew_out hr (o := .cells c2 (0 + old.length + l.length) 0) ⟨d2, t2, rfl, w2⟩ w3
        exact x1 _ (w1 _ (u1 _ ⟨hs', u2, u3⟩))
      · refine getK_mono (fun c m w g => bT_monoY (fun g => bI_monoY (fun g => ?_) (fun g => ?_) g) g) (sMove_out hr g)
        · exact storeL_monoY (fun c' o' g => setK_mono (fun H1 g => newK_monoY (fun b' H' g => g) g) g) g
        · exact sMove_out.loadL_mono (fun old g => storeL_monoY (fun c1 o1 g => storeL_monoY (fun c' o' g => setK_mono (fun H1 g => newK_monoY (fun b' H' g => g) g) g) g) g) g
  · refine bI_monoY (fun g => ⟨hs, hr, g⟩) (fun g => bT_monoY (fun g => ?_) g) g
    refine storeL_monoY (fun c m g => newK_monoY (fun b H' g => ?_) g) (sNewL_out hr g)
    obtain ⟨_, hs', y1, y2⟩ := g
    exact ⟨hs', y1, y2⟩
theorem sApp_out (hr : RepH hs H) {sz bytes : Nat} {s x : AV} {k : V → Hs D → Prop} (h : sApp D sz bytes (enc s) (enc x) hs k) : pApp sz bytes s x H fun v H' => ∃ hs', RepH hs' H' ∧ k (enc v) hs' := by
  have h := sSrc_out hr h
  unfold pApp
  obtain ⟨n, hn, h⟩ : ∃ n, (∀ k : Nat → Prop, k n → lenOf x k) ∧ cellsOf sz n x H fun l => sAppL D sz bytes n (enc s) l hs k := by
    cases x <;> first | exact h.elim | exact ⟨_, fun k h => h, h⟩
  refine hn _ ?_
  refine cellsOf_mono (fun l h => ?_) h
  exact sAppL_out hr h
 where
  cellsOf_mono {sz n : Nat} {x : AV} {k k' : List AV → Prop} (hk : ∀ l, k l → k' l) (h : cellsOf sz n x H k) : cellsOf sz n x H k' := by
    cases x <;> first | exact h.elim | exact hk _ h | exact bT_monoY (bT_monoY (getK_mono fun c _ _ h => sMove_out.loadL_mono hk h)) h
theorem sAppStr_out (hr : RepH hs H) {sz bytes : Nat} {s x : AV} {k : V → Hs D → Prop} (h : sAppStr D sz bytes (enc s) (enc x) hs k) : pAppStr sz bytes s x H fun v H' => ∃ hs', RepH hs' H' ∧ k (enc v) hs' := by
  obtain ⟨n, y, rfl, g⟩ := encS h
  exact bT_monoY (fun g => sAppL_out hr g) g
theorem sAppZ_out (hr : RepH hs H) {sz bytes : Nat} {z : List AV} {s x : AV} {k : V → Hs D → Prop} (h : sAppZ D sz bytes z (enc s) (enc x) hs k) : pAppZ sz bytes z s x H fun v H' => ∃ hs', RepH hs' H' ∧ k (enc v) hs' := by
  rcases encI x h with ⟨n, rfl, g⟩ | ⟨n, _, g⟩
  · exact bT_monoY (fun g => bT_monoY (fun g => sAppL_out hr g) g) g
  · exact g.elim
theorem sCopy_out (hr : RepH hs H) {sz : Nat} {d s : AV} {k : V → Hs D → Prop} (h : sCopy D sz (enc d) (enc s) hs k) : pCopy sz d s H fun v H' => ∃ hs', RepH hs' H' ∧ k (enc v) hs' := by
  unfold pCopy
  have lm : ∀ {a : AV} {k k' : Nat → Prop}, (∀ n, k n → k' n) → lenOf a k → lenOf a k' := fun {a k k'} hk h => by cases a <;> first | exact h.elim | exact hk _ h
  refine lm (fun n h => lm (fun m h => ?_) (sLenV_out h)) (sLenV_out h)
  rw [forceN_eq] at h ⊢
  refine sApp_out.cellsOf_mono (fun l h => ?_) (sSrcN_out hr h)
  rcases encL' h with ⟨b, o, len, cap, sz', ex, rfl, g⟩ | ⟨rfl, g⟩
  · refine bT_monoY (fun g => ?_) g
    exact getK_mono (fun c m w g => bT_monoY (fun g => storeL_monoY (fun c' o' g => bT_monoY (fun g => setK_mono (fun H' g => g) g) g) g) g) (sModL_out hr g)
  · exact ⟨hs, hr, g⟩
theorem sTextOf_out (hr : RepH hs H) {a : AV} {k : V → Prop} (h : sTextOf D (enc a) hs k) : pTextOf a H fun v => k (enc v) := by
  rcases encL' h with ⟨b, o, len, cap, sz', ex, rfl, g⟩ | ⟨rfl, g⟩
  · refine bT_monoY (fun g => ?_) g
    obtain ⟨c, n', m, d, t, e, y1, y2⟩ := sCells_out hr g
    exact getK_in e (sLoadL_out y1 _ _ _ y2)
  · exact g
theorem sBytesOf_out (hr : RepH hs H) {a : AV} {k : V → Hs D → Prop} (h : sBytesOf D (enc a) hs k) : pBytesOf (newK H) a fun v H' => ∃ hs', RepH hs' H' ∧ k (enc v) hs' := by
  obtain ⟨n, x, rfl, g⟩ := encS h
  obtain ⟨d', t', c', y1, y2, y3, _⟩ := sPushL_out _ TRc.e g
  refine y1 _ ?_
  refine bT_monoY (fun g => ?_) y3
  obtain ⟨hs', H', z1, z2, _, _, _, z3⟩ := sNew_out hr (o := .cells c' (0 + (bytesL n x).length) 1) ⟨d', t', rfl, y2⟩ g
  exact z1 _ ⟨hs', z2, z3⟩
end
end Go.X

namespace Go.X

theorem wrapK_in {c : Nat} {z : Int} {k : Int → Prop} (h : k ((kd c).wrap z)) : wrapK c z k := by
  have key : wrapK0 c z k := by
    unfold wrapK0
    cases hs : sgn c with
    | true =>
      refine bI_in (.inl ⟨rfl, ?_⟩)
      cases z with
      | ofNat n =>
        cases hb : Nat.ble (half c) n with
        | true => exact bI_in (.inl ⟨hb, by rw [forceI_eq, wrapZ_eq]; exact h⟩)
        | false =>
          refine bI_in (.inr ⟨hb, ?_⟩)
          rw [forceN_eq]
          have hb' : ¬ half c ≤ n := fun hle => by rw [Nat.ble_eq_true_of_le hle] at hb; cases hb
          have e : (Int.ofNat n : Int) = (n : Int) := rfl
          rw [wrap_small hs (by omega) (by omega)] at h
          exact h
      | negSucc n =>
        cases hb : Nat.ble (half c) n with
        | true => exact bI_in (.inl ⟨hb, by rw [forceI_eq, wrapZ_eq]; exact h⟩)
        | false =>
          refine bI_in (.inr ⟨hb, ?_⟩)
          rw [forceN_eq]
          have hb' : ¬ half c ≤ n := fun hle => by rw [Nat.ble_eq_true_of_le hle] at hb; cases hb
          rw [wrap_small hs (by omega) (by omega)] at h
          exact h
    | false =>
      refine bI_in (.inr ⟨rfl, ?_⟩)
      cases z with
      | ofNat n => rw [wrap_unsigned hs] at h; simp only [forceN_eq]; exact h
      | negSucc n => simp only [forceI_eq, wrapZ_eq]; exact h
  cases z <;> exact key

noncomputable section
/-- Two ints that are not below 0. -/
def ii (a b : V) (f : Nat → Nat → Prop) (slow : Prop) : Prop := a False False (fun m => b False False (f m) (fun _ => slow) N2 N2 N2 N6 NL NL (fun _ => slow)) (fun _ => slow) N2 N2 N2 N6 NL NL (fun _ => slow)
/-- Two integers of another kind that are not below 0. -/
def uu (c : Nat) (a b : V) (f : Nat → Nat → Prop) (slow : Prop) : Prop := a False False N1 N1 (fun c1 m => b False False N1 N1 (fun c2 n => bT (Nat.beq c1 c) (bT (Nat.beq c2 c) (f m n))) N2 N2 N6 NL NL (fun _ => slow)) N2 N2 N6 NL NL (fun _ => slow)
/-- By way of the plain values. -/
def g1 (f : AV → (AV → Prop) → Prop) (a : V) (k : V → Prop) : Prop := dec a fun x => f x fun r => k (encB r).v
def g2 (f : AV → AV → (AV → Prop) → Prop) (a b : V) (k : V → Prop) : Prop := dec a fun x => dec b fun y => f x y fun r => k (encB r).v
structure B2 where
  run : V → V → (V → Prop) → Prop
def slow2 (f : AV → AV → (AV → Prop) → Prop) : B2 := ⟨fun a b k => g2 f a b k⟩
def cmpK (b : Bool) (k : V → Prop) : Prop := @Bool.rec (fun _ => Prop) (k (fun _ h _ _ _ _ _ _ _ _ _ => h)) (k (fun h _ _ _ _ _ _ _ _ _ _ => h)) b
def cmpN (b : Bool) (k : V → Prop) : Prop := @Bool.rec (fun _ => Prop) (k (fun h _ _ _ _ _ _ _ _ _ _ => h)) (k (fun _ h _ _ _ _ _ _ _ _ _ => h)) b
/-- Ints. -/
def int0 (op : BinOp) : B2 :=
  match op with
  | .add => ⟨fun a b k => ii a b (fun m n => forceN (Nat.add m n) fun r => bI (Nat.ble 9223372036854775808 r) (g2 (xIntR 0 .add) a b k) (k (fun _ _ h _ _ _ _ _ _ _ _ => h r))) (g2 (xIntR 0 .add) a b k)⟩
  | .sub => ⟨fun a b k => ii a b (fun m n => bI (Nat.ble n m) (forceN (Nat.sub m n) fun r => bI (Nat.ble 9223372036854775808 r) (g2 (xIntR 0 .sub) a b k) (k (fun _ _ h _ _ _ _ _ _ _ _ => h r))) (g2 (xIntR 0 .sub) a b k)) (g2 (xIntR 0 .sub) a b k)⟩
  | .mul => ⟨fun a b k => ii a b (fun m n => forceN (Nat.mul m n) fun r => bI (Nat.ble 9223372036854775808 r) (g2 (xIntR 0 .mul) a b k) (k (fun _ _ h _ _ _ _ _ _ _ _ => h r))) (g2 (xIntR 0 .mul) a b k)⟩
  | .quo => ⟨fun a b k => ii a b (fun m n => bI (Nat.ble 1 n) (forceN (Nat.div m n) fun r => bI (Nat.ble 9223372036854775808 r) (g2 (xIntR 0 .quo) a b k) (k (fun _ _ h _ _ _ _ _ _ _ _ => h r))) False) (g2 (xIntR 0 .quo) a b k)⟩
  | .rem => ⟨fun a b k => ii a b (fun m n => bI (Nat.ble 1 n) (forceN (Nat.mod m n) fun r => k (fun _ _ h _ _ _ _ _ _ _ _ => h r)) False) (g2 (xIntR 0 .rem) a b k)⟩
  | .eql => ⟨fun a b k => ii a b (fun m n => cmpK (Nat.beq m n) k) (g2 (xIntR 0 .eql) a b k)⟩
  | .neq => ⟨fun a b k => ii a b (fun m n => cmpN (Nat.beq m n) k) (g2 (xIntR 0 .neq) a b k)⟩
  | .lss => ⟨fun a b k => ii a b (fun m n => cmpN (Nat.ble n m) k) (g2 (xIntR 0 .lss) a b k)⟩
  | .leq => ⟨fun a b k => ii a b (fun m n => cmpK (Nat.ble m n) k) (g2 (xIntR 0 .leq) a b k)⟩
  | .gtr => ⟨fun a b k => ii a b (fun m n => cmpN (Nat.ble m n) k) (g2 (xIntR 0 .gtr) a b k)⟩
  | .geq => ⟨fun a b k => ii a b (fun m n => cmpK (Nat.ble n m) k) (g2 (xIntR 0 .geq) a b k)⟩
  | op => slow2 (xIntR 0 op)
/-- A shift's width. -/
def shN (b : V) (f : Nat → Prop) : Prop := b False False f N1 (fun _ n => f n) N2 N2 N6 NL NL NO
/-- Integers of another kind. -/
def intU (c : Nat) (op : BinOp) : B2 :=
  match op with
  | .eql => ⟨fun a b k => uu c a b (fun m n => cmpK (Nat.beq m n) k) (g2 (xInt c .eql) a b k)⟩
  | .neq => ⟨fun a b k => uu c a b (fun m n => cmpN (Nat.beq m n) k) (g2 (xInt c .neq) a b k)⟩
  | .lss => ⟨fun a b k => uu c a b (fun m n => cmpN (Nat.ble n m) k) (g2 (xInt c .lss) a b k)⟩
  | .leq => ⟨fun a b k => uu c a b (fun m n => cmpK (Nat.ble m n) k) (g2 (xInt c .leq) a b k)⟩
  | .gtr => ⟨fun a b k => uu c a b (fun m n => cmpN (Nat.ble m n) k) (g2 (xInt c .gtr) a b k)⟩
  | .geq => ⟨fun a b k => uu c a b (fun m n => cmpK (Nat.ble n m) k) (g2 (xInt c .geq) a b k)⟩
  | op => @Bool.rec (fun _ => B2) (match op with
      | .add => ⟨fun a b k => uu c a b (fun m n => forceN (Nat.mod (Nat.add m n) (full c)) fun r => k (fun _ _ _ _ h _ _ _ _ _ _ => h c r)) (g2 (xInt c .add) a b k)⟩
      | .sub => ⟨fun a b k => uu c a b (fun m n => bI (Nat.ble n m) (forceN (Nat.sub m n) fun r => bI (Nat.ble (full c) r) (g2 (xInt c .sub) a b k) (k (fun _ _ _ _ h _ _ _ _ _ _ => h c r))) (g2 (xInt c .sub) a b k)) (g2 (xInt c .sub) a b k)⟩
      | .mul => ⟨fun a b k => uu c a b (fun m n => forceN (Nat.mod (Nat.mul m n) (full c)) fun r => k (fun _ _ _ _ h _ _ _ _ _ _ => h c r)) (g2 (xInt c .mul) a b k)⟩
      | .and => ⟨fun a b k => uu c a b (fun m n => forceN (Nat.mod (Nat.land m n) (full c)) fun r => k (fun _ _ _ _ h _ _ _ _ _ _ => h c r)) (g2 (xInt c .and) a b k)⟩
      | .or => ⟨fun a b k => uu c a b (fun m n => forceN (Nat.mod (Nat.lor m n) (full c)) fun r => k (fun _ _ _ _ h _ _ _ _ _ _ => h c r)) (g2 (xInt c .or) a b k)⟩
      | .xor => ⟨fun a b k => uu c a b (fun m n => forceN (Nat.mod (Nat.xor m n) (full c)) fun r => k (fun _ _ _ _ h _ _ _ _ _ _ => h c r)) (g2 (xInt c .xor) a b k)⟩
      | .shl => ⟨fun a b k => a False False N1 N1 (fun c1 m => shN b fun n => bT (Nat.beq c1 c) (forceN (Nat.mod (Nat.mul m (Nat.pow 2 (Nat.min n (bits c)))) (full c)) fun r => k (fun _ _ _ _ h _ _ _ _ _ _ => h c r))) N2 N2 N6 NL NL NO⟩
      | .shr => ⟨fun a b k => a False False N1 N1 (fun c1 m => shN b fun n => bT (Nat.beq c1 c) (forceN (Nat.shiftRight m (Nat.min n (bits c))) fun r => k (fun _ _ _ _ h _ _ _ _ _ _ => h c r))) N2 N2 N6 NL NL NO⟩
      | op => slow2 (xInt c op)) (slow2 (xInt c op)) (sgn c)
def intC (c : Nat) (op : BinOp) : B2 := @Nat.rec (fun _ => B2) (int0 op) (fun c' _ => intU (Nat.succ c') op) c
def ss (a b : V) (f : Nat → Nat → Nat → Nat → Prop) : Prop := a False False N1 N1 N2 (fun n x => b False False N1 N1 N2 (fun m y => f n x m y) N2 N6 NL NL NO) N2 N6 NL NL NO
def strC (op : BinOp) : B2 :=
  match op with
  | .add => ⟨fun a b k => ss a b fun n x m y => forceN (Nat.add n m) fun p => bT (Nat.ble p 1099511627776) (forceN (catT n x y) fun z => k (fun _ _ _ _ _ h _ _ _ _ _ => h p z))⟩
  | .eql => ⟨fun a b k => ss a b fun n x m y => bI (Nat.beq n m) (cmpK (Nat.beq x y) k) (k (fun _ h _ _ _ _ _ _ _ _ _ => h))⟩
  | .neq => ⟨fun a b k => ss a b fun n x m y => bI (Nat.beq n m) (cmpN (Nat.beq x y) k) (k (fun h _ _ _ _ _ _ _ _ _ _ => h))⟩
  | op => slow2 (xStr op)
/-- A conversion to another kind. -/
structure G1 where
  run : V → (V → Prop) → Prop
def cvC (c : Nat) : G1 :=
  @Nat.rec (fun _ => G1)
    ⟨fun a k => a False False (fun n => bI (Nat.ble 9223372036854775808 n) (g1 (pConv 0) a k) (k (fun _ _ h _ _ _ _ _ _ _ _ => h n))) (fun _ => g1 (pConv 0) a k) (fun _ n => bI (Nat.ble 9223372036854775808 n) (g1 (pConv 0) a k) (k (fun _ _ h _ _ _ _ _ _ _ _ => h n))) N2 N2 N6 NL NL (fun _ => g1 (pConv 0) a k)⟩
    (fun c' _ => @Bool.rec (fun _ => G1)
      ⟨fun a k => a False False (fun n => forceN (Nat.mod n (full (Nat.succ c'))) fun r => k (fun _ _ _ _ h _ _ _ _ _ _ => h (Nat.succ c') r)) (fun _ => g1 (pConv (Nat.succ c')) a k) (fun _ n => forceN (Nat.mod n (full (Nat.succ c'))) fun r => k (fun _ _ _ _ h _ _ _ _ _ _ => h (Nat.succ c') r)) N2 N2 N6 NL NL (fun _ => g1 (pConv (Nat.succ c')) a k)⟩
      ⟨fun a k => g1 (pConv (Nat.succ c')) a k⟩ (sgn (Nat.succ c'))) c
def sIdxV (a i : V) (k : V → Prop) : Prop := a False False N1 N1 N2 (fun n x => shN i fun j => bT (Nat.ble (Nat.succ j) n) (forceN (byteAt x j) fun b => k (fun _ _ _ _ h _ _ _ _ _ _ => h 1 b))) N2 N6 NL NL NO
def onNp (a : AV) (k : Prop) : Prop := match a with | .nptr => k | _ => False
variable (D : Nat)
/-- A block that is free to be compared. -/
def sFree (b : Nat) (h : Hs D) (x : Prop) : Prop := h fun ht _ => (acc SO D b).get (fun so => so (fun _ _ _ => x) (fun _ _ _ _ => False) NB) ht
def ptrEq (r : Bool) (a b : V) (h : Hs D) (k : V → Prop) : Prop :=
  a False False N1 N1 N2 N2 (fun b1 o1 => b False False N1 N1 N2 N2 (fun b2 o2 => bI (Nat.beq b1 b2) (bI (Nat.beq o1 o2) (cmpK r k) (cmpN r k)) (sFree D b1 h (sFree D b2 h (cmpN r k)))) N6 NL NL (fun y => onNp y (cmpN r k))) N6 NL NL
    (fun x => onNp x (b False False N1 N1 N2 N2 (fun _ _ => cmpN r k) N6 NL NL (fun y => onNp y (cmpK r k))))
end

/-! ### The lemmas -/
theorem g1_out {f : AV → (AV → Prop) → Prop} {a : AV} {k : V → Prop} (h : g1 f (enc a) k) : f a fun r => k (enc r) := dec_enc (k := fun x => f x fun r => k (enc r)) h
theorem g2_out {f : AV → AV → (AV → Prop) → Prop} {a b : AV} {k : V → Prop} (h : g2 f (enc a) (enc b) k) : f a b fun r => k (enc r) :=
  dec_enc (k := fun y => f a y fun r => k (enc r)) (dec_enc (k := fun x => dec (enc b) fun y => f x y fun r => k (enc r)) h)
theorem ii_out {a b : AV} {f : Nat → Nat → Prop} {slow : Prop} (h : ii (enc a) (enc b) f slow) : (∃ m n, a = .int 0 (.ofNat m) ∧ b = .int 0 (.ofNat n) ∧ f m n) ∨ slow := by
  have g := enc_cases h
  rcases g with ⟨_, g⟩ | ⟨_, g⟩ | ⟨m, e, g⟩ | ⟨m, _, g⟩ | ⟨c, n, _, _, g⟩ | ⟨n, x, _, g⟩ | ⟨b, o, _, g⟩ | ⟨b, o, l, c, s, x, _, g⟩ | ⟨l, _, g⟩ | ⟨l, _, g⟩ | ⟨_, g⟩ <;> try exact g.elim
  · have g' := enc_cases g
    rcases g' with ⟨_, g⟩ | ⟨_, g⟩ | ⟨n, e', g⟩ | ⟨n, _, g⟩ | ⟨c, n, _, _, g⟩ | ⟨n, x, _, g⟩ | ⟨b, o, _, g⟩ | ⟨b, o, l, c, s, x, _, g⟩ | ⟨l, _, g⟩ | ⟨l, _, g⟩ | ⟨_, g⟩ <;> try exact g.elim
    · exact .inl ⟨m, n, e, e', g⟩
    · exact .inr g
    · exact .inr g
  · exact .inr g
  · exact .inr g
theorem encU {a : AV} {U : Nat → Nat → Prop} {O : AV → Prop} (h : enc a False False N1 N1 U N2 N2 N6 NL NL O) : (∃ c n, 0 < c ∧ a = .int c (.ofNat n) ∧ U c n) ∨ (a.odd = true ∧ O a) := by
  have g := enc_cases h
  clear h
  rcases g with ⟨rfl, h⟩ | ⟨rfl, h⟩ | ⟨n, rfl, h⟩ | ⟨n, rfl, h⟩ | ⟨c, n, h0, rfl, h⟩ | ⟨n, x, rfl, h⟩ | ⟨b, o, rfl, h⟩ | ⟨b, o, l, c, s, x, rfl, h⟩ | ⟨l, rfl, h⟩ | ⟨l, rfl, h⟩ | ⟨h0, h⟩ <;> first | exact h.elim | exact .inl ⟨_, _, h0, rfl, h⟩ | exact .inr ⟨h0, h⟩
theorem encIU {a : AV} {I M : Nat → Prop} {U : Nat → Nat → Prop} {O : AV → Prop} (h : enc a False False I M U N2 N2 N6 NL NL O) : (∃ n, a = .int 0 (.ofNat n) ∧ I n) ∨ (∃ n, a = .int 0 (.negSucc n) ∧ M n) ∨ (∃ c n, 0 < c ∧ a = .int c (.ofNat n) ∧ U c n) ∨ (a.odd = true ∧ O a) := by
  have g := enc_cases h
  clear h
  rcases g with ⟨rfl, h⟩ | ⟨rfl, h⟩ | ⟨n, rfl, h⟩ | ⟨n, rfl, h⟩ | ⟨c, n, h0, rfl, h⟩ | ⟨n, x, rfl, h⟩ | ⟨b, o, rfl, h⟩ | ⟨b, o, l, c, s, x, rfl, h⟩ | ⟨l, rfl, h⟩ | ⟨l, rfl, h⟩ | ⟨h0, h⟩ <;>
    first | exact h.elim | exact .inl ⟨_, rfl, h⟩ | exact .inr (.inl ⟨_, rfl, h⟩) | exact .inr (.inr (.inl ⟨_, _, h0, rfl, h⟩)) | exact .inr (.inr (.inr ⟨h0, h⟩))
theorem uu_out {c : Nat} {a b : AV} {f : Nat → Nat → Prop} {slow : Prop} (h : uu c (enc a) (enc b) f slow) : (∃ m n, a = .int c (.ofNat m) ∧ b = .int c (.ofNat n) ∧ f m n) ∨ slow := by
  rcases encU h with ⟨c1, m, _, e1, h⟩ | ⟨_, h⟩
  · rcases encU h with ⟨c2, n, _, e2, h⟩ | ⟨_, h⟩
    · obtain ⟨x1, h⟩ := bT_out h
      obtain ⟨x2, h⟩ := bT_out h
      rw [Nat.eq_of_beq_eq_true x1] at e1
      rw [Nat.eq_of_beq_eq_true x2] at e2
      exact .inl ⟨m, n, e1, e2, h⟩
    · exact .inr h
  · exact .inr h
theorem cmpK_out {b : Bool} {k : V → Prop} (h : cmpK b k) : k (enc (.bool b)) := by cases b <;> exact h
theorem cmpN_out {b : Bool} {k : V → Prop} (h : cmpN b k) : k (enc (.bool (!b))) := by cases b <;> exact h
theorem two_in {c : Nat} {x y : Int} {k : Int → Int → Prop} (h : k x y) : two c (.int c x) (.int c y) k := bT_in (Nat.beq_refl c) (bT_in (Nat.beq_refl c) h)
theorem ble_false {a b : Nat} (h : Nat.ble a b = false) : ¬ a ≤ b := fun hle => by rw [Nat.ble_eq_true_of_le hle] at h; cases h
theorem wrap0Y {z : Int} {k : Int → Prop} (h1 : -9223372036854775808 ≤ z) (h2 : z < 9223372036854775808) (h : k z) : wrapK 0 z k := wrapK_in (by rw [wrap_small (c := 0) rfl h1 h2]; exact h)
theorem wrapU {c n : Nat} {k : Int → Prop} (hs : sgn c = false) (h : k (.ofNat (n % full c))) : wrapK c (.ofNat n) k := wrapK_in (by rw [wrap_unsigned hs]; exact h)

theorem iEq_nat (m n : Nat) : iEq (.ofNat m) (.ofNat n) = Nat.beq m n := rfl
theorem iLt_nat (m n : Nat) : iLt (.ofNat m) (.ofNat n) = !(Nat.ble n m) := by
  rw [iLt_eq]
  cases e : Nat.ble n m with
  | false => have := ble_false e; simp; omega
  | true => have := Nat.le_of_ble_eq_true e; simp; omega
theorem cmp_ok {c : Nat} {op : BinOp} {m n : Nat} {k : AV → Prop} :
    (op = .eql → k (.bool (Nat.beq m n)) → xInt c op (.int c (.ofNat m)) (.int c (.ofNat n)) k) ∧ (op = .neq → k (.bool (!(Nat.beq m n))) → xInt c op (.int c (.ofNat m)) (.int c (.ofNat n)) k) ∧
    (op = .lss → k (.bool (!(Nat.ble n m))) → xInt c op (.int c (.ofNat m)) (.int c (.ofNat n)) k) ∧ (op = .leq → k (.bool (Nat.ble m n)) → xInt c op (.int c (.ofNat m)) (.int c (.ofNat n)) k) ∧
    (op = .gtr → k (.bool (!(Nat.ble m n))) → xInt c op (.int c (.ofNat m)) (.int c (.ofNat n)) k) ∧ (op = .geq → k (.bool (Nat.ble n m)) → xInt c op (.int c (.ofNat m)) (.int c (.ofNat n)) k) := by
  refine ⟨?_, ?_, ?_, ?_, ?_, ?_⟩ <;> rintro rfl h
  · simp only [xInt, pEqS, pLtS, pEq, pNe, pLt, pLe]
    refine two_in ?_
    exact h
  · simp only [xInt, pEqS, pLtS, pEq, pNe, pLt, pLe]
    refine two_in ?_
    exact h
  · simp only [xInt, pEqS, pLtS, pEq, pNe, pLt, pLe]
    refine two_in ?_
    rw [iLt_nat]; exact h
  · simp only [xInt, pEqS, pLtS, pEq, pNe, pLt, pLe]
    refine two_in ?_
    rw [iLt_nat, Bool.not_not]; exact h
  · simp only [xInt, pEqS, pLtS, pEq, pNe, pLt, pLe]
    refine two_in ?_
    rw [iLt_nat]; exact h
  · simp only [xInt, pEqS, pLtS, pEq, pNe, pLt, pLe]
    refine two_in ?_
    rw [iLt_nat, Bool.not_not]; exact h

theorem xIntR_ii {c c1 c2 : Nat} {op : BinOp} {x y : Int} {k : AV → Prop} (h : xInt c op (.int c1 x) (.int c2 y) k) : xIntR c op (.int c1 x) (.int c2 y) k := by
  unfold xIntR
  exact h
theorem xIntR_ij {c c1 c2 : Nat} {op : BinOp} {x y : Int} {k : AV → Prop} (h : xIntR c op (.int c1 x) (.int c2 y) k) : xInt c op (.int c1 x) (.int c2 y) k := by
  unfold xIntR at h
  exact h
theorem int0_out {op : BinOp} {a b : AV} {k : V → Prop} (h : (int0 op).run (enc a) (enc b) k) : xIntR 0 op a b fun r => k (enc r) := by
  unfold int0 at h
  split at h
  · rcases ii_out h with ⟨m, n, ea, eb, g⟩ | h
    · clear h; subst ea; subst eb; have h := g; clear g
      refine xIntR_ii ?_
      rw [forceN_eq] at h
      rcases bI_out h with ⟨_, h⟩ | ⟨e, h⟩
      · exact xIntR_ij (g2_out h)
      · have := ble_false e
        simp only [xInt, pAddS, pAdd, pSub, pMul, pQuo, pRem, pAnd, pOr, pXor]
        refine two_in ?_
        exact wrap0Y (z := Int.add (.ofNat m) (.ofNat n)) (by show _ ≤ (m : Int) + n; omega) (by show (m : Int) + n < _; have : (Nat.add m n : Nat) = m + n := rfl; omega) h
    · exact g2_out h
  · rcases ii_out h with ⟨m, n, ea, eb, g⟩ | h
    · clear h; subst ea; subst eb; have h := g; clear g
      refine xIntR_ii ?_
      rcases bI_out h with ⟨e0, h⟩ | ⟨e, h⟩
      · rw [forceN_eq] at h
        rcases bI_out h with ⟨_, h⟩ | ⟨e, h⟩
        · exact xIntR_ij (g2_out h)
        · have := ble_false e
          have h0 := Nat.le_of_ble_eq_true e0
          have hh : (Int.sub (.ofNat m) (.ofNat n) : Int) = .ofNat (Nat.sub m n) := by show (m : Int) - n = ((m - n : Nat) : Int); omega
          have h1 : (Nat.sub m n : Nat) = m - n := rfl
          simp only [xInt, pAddS, pAdd, pSub, pMul, pQuo, pRem, pAnd, pOr, pXor]
          refine two_in ?_
          rw [hh]; exact wrap0Y (by show _ ≤ ((m - n : Nat) : Int); omega) (by show ((m - n : Nat) : Int) < _; omega) h
      · exact xIntR_ij (g2_out h)
    · exact g2_out h
  · rcases ii_out h with ⟨m, n, ea, eb, g⟩ | h
    · clear h; subst ea; subst eb; have h := g; clear g
      refine xIntR_ii ?_
      rw [forceN_eq] at h
      rcases bI_out h with ⟨_, h⟩ | ⟨e, h⟩
      · exact xIntR_ij (g2_out h)
      · have := ble_false e
        have hh : (Int.mul (.ofNat m) (.ofNat n) : Int) = .ofNat (Nat.mul m n) := rfl
        simp only [xInt, pAddS, pAdd, pSub, pMul, pQuo, pRem, pAnd, pOr, pXor]
        refine two_in ?_
        rw [hh]; exact wrap0Y (by show _ ≤ ((Nat.mul m n : Nat) : Int); omega) (by show ((Nat.mul m n : Nat) : Int) < _; omega) h
    · exact g2_out h
  · rcases ii_out h with ⟨m, n, ea, eb, g⟩ | h
    · clear h; subst ea; subst eb; have h := g; clear g
      refine xIntR_ii ?_
      rcases bI_out h with ⟨e0, h⟩ | ⟨_, h⟩
      · rw [forceN_eq] at h
        rcases bI_out h with ⟨_, h⟩ | ⟨e, h⟩
        · exact xIntR_ij (g2_out h)
        · have := ble_false e
          have h0 := Nat.le_of_ble_eq_true e0
          have hn : iEq (.ofNat n) 0 = false := by rw [iEq_eq]; simp; omega
          simp only [xInt, pAddS, pAdd, pSub, pMul, pQuo, pRem, pAnd, pOr, pXor]
          refine two_in ?_
          refine bI_in (.inr ⟨hn, ?_⟩)
          have hh : (Int.tdiv (.ofNat m) (.ofNat n) : Int) = .ofNat (Nat.div m n) := rfl
          rw [hh]; exact wrap0Y (by show _ ≤ ((Nat.div m n : Nat) : Int); omega) (by show ((Nat.div m n : Nat) : Int) < _; omega) h
      · exact h.elim
    · exact g2_out h
  · rcases ii_out h with ⟨m, n, ea, eb, g⟩ | h
    · clear h; subst ea; subst eb; have h := g; clear g
      refine xIntR_ii ?_
      rcases bI_out h with ⟨e0, h⟩ | ⟨_, h⟩
      · rw [forceN_eq] at h
        have h0 := Nat.le_of_ble_eq_true e0
        have hn : iEq (.ofNat n) 0 = false := by rw [iEq_eq]; simp; omega
        simp only [xInt, pAddS, pAdd, pSub, pMul, pQuo, pRem, pAnd, pOr, pXor]
        refine two_in ?_
        refine bI_in (.inr ⟨hn, ?_⟩)
        rw [forceI_eq]; exact h
      · exact h.elim
    · exact g2_out h
  · rcases ii_out h with ⟨m, n, ea, eb, g⟩ | h
    · clear h; subst ea; subst eb; have h := g; clear g
      refine xIntR_ii ?_
      exact cmp_ok.1 rfl (cmpK_out h)
    · exact g2_out h
  · rcases ii_out h with ⟨m, n, ea, eb, g⟩ | h
    · clear h; subst ea; subst eb; have h := g; clear g
      refine xIntR_ii ?_
      exact cmp_ok.2.1 rfl (cmpN_out h)
    · exact g2_out h
  · rcases ii_out h with ⟨m, n, ea, eb, g⟩ | h
    · clear h; subst ea; subst eb; have h := g; clear g
      refine xIntR_ii ?_
      exact cmp_ok.2.2.1 rfl (cmpN_out h)
    · exact g2_out h
  · rcases ii_out h with ⟨m, n, ea, eb, g⟩ | h
    · clear h; subst ea; subst eb; have h := g; clear g
      refine xIntR_ii ?_
      exact cmp_ok.2.2.2.1 rfl (cmpK_out h)
    · exact g2_out h
  · rcases ii_out h with ⟨m, n, ea, eb, g⟩ | h
    · clear h; subst ea; subst eb; have h := g; clear g
      refine xIntR_ii ?_
      exact cmp_ok.2.2.2.2.1 rfl (cmpN_out h)
    · exact g2_out h
  · rcases ii_out h with ⟨m, n, ea, eb, g⟩ | h
    · clear h; subst ea; subst eb; have h := g; clear g
      refine xIntR_ii ?_
      exact cmp_ok.2.2.2.2.2 rfl (cmpK_out h)
    · exact g2_out h
  · exact g2_out h

theorem shN_out {b : AV} {f : Nat → Prop} (h : shN (enc b) f) : ∃ c n, b = .int c (.ofNat n) ∧ f n := by
  have g := enc_cases h
  clear h
  rcases g with ⟨rfl, h⟩ | ⟨rfl, h⟩ | ⟨n, rfl, h⟩ | ⟨n, rfl, h⟩ | ⟨c, n, h0, rfl, h⟩ | ⟨n, x, rfl, h⟩ | ⟨b, o, rfl, h⟩ | ⟨b, o, l, c, s, x, rfl, h⟩ | ⟨l, rfl, h⟩ | ⟨l, rfl, h⟩ | ⟨h0, h⟩ <;> first | exact h.elim | exact ⟨_, _, rfl, h⟩
theorem encUn {c r : Nat} (hc : 0 < c) : enc (.int c (.ofNat r)) = (fun _ _ _ _ h _ _ _ _ _ _ => h c r) := by
  cases c with
  | zero => omega
  | succ c => rfl
theorem intU_out {c : Nat} (hc : 0 < c) {op : BinOp} {a b : AV} {k : V → Prop} (h : (intU c op).run (enc a) (enc b) k) : xInt c op a b fun r => k (enc r) := by
  have fin : ∀ {r : Nat}, k (fun _ _ _ _ h _ _ _ _ _ _ => h c r) → k (enc (.int c (.ofNat r))) := fun h => by rw [encUn hc]; exact h
  unfold intU at h
  split at h
  · rcases uu_out h with ⟨m, n, ea, eb, g⟩ | h
    · clear h; subst ea; subst eb; have h := g; clear g
      exact cmp_ok.1 rfl (cmpK_out h)
    · exact g2_out h
  · rcases uu_out h with ⟨m, n, ea, eb, g⟩ | h
    · clear h; subst ea; subst eb; have h := g; clear g
      exact cmp_ok.2.1 rfl (cmpN_out h)
    · exact g2_out h
  · rcases uu_out h with ⟨m, n, ea, eb, g⟩ | h
    · clear h; subst ea; subst eb; have h := g; clear g
      exact cmp_ok.2.2.1 rfl (cmpN_out h)
    · exact g2_out h
  · rcases uu_out h with ⟨m, n, ea, eb, g⟩ | h
    · clear h; subst ea; subst eb; have h := g; clear g
      exact cmp_ok.2.2.2.1 rfl (cmpK_out h)
    · exact g2_out h
  · rcases uu_out h with ⟨m, n, ea, eb, g⟩ | h
    · clear h; subst ea; subst eb; have h := g; clear g
      exact cmp_ok.2.2.2.2.1 rfl (cmpN_out h)
    · exact g2_out h
  · rcases uu_out h with ⟨m, n, ea, eb, g⟩ | h
    · clear h; subst ea; subst eb; have h := g; clear g
      exact cmp_ok.2.2.2.2.2 rfl (cmpK_out h)
    · exact g2_out h
  · cases hs : sgn c with
    | true => rw [hs] at h; exact g2_out h
    | false =>
      rw [hs] at h
      simp only at h
      split at h
      · rcases uu_out h with ⟨m, n, ea, eb, g⟩ | h
        · clear h; subst ea; subst eb; have h := g; clear g
          rw [forceN_eq] at h
          simp only [xInt, pAddS, pAdd, pSub, pMul, pQuo, pRem, pAnd, pOr, pXor]
          refine two_in ?_
          exact wrapU (n := m + n) hs (fin h)
        · exact g2_out h
      · rcases uu_out h with ⟨m, n, ea, eb, g⟩ | h
        · clear h; subst ea; subst eb; have h := g; clear g
          rcases bI_out h with ⟨e0, h⟩ | ⟨e, h⟩
          · rw [forceN_eq] at h
            rcases bI_out h with ⟨_, h⟩ | ⟨e, h⟩
            · exact g2_out h
            · have := ble_false e
              have h0 := Nat.le_of_ble_eq_true e0
              have hh : (Int.sub (.ofNat m) (.ofNat n) : Int) = .ofNat (Nat.sub m n) := by show (m : Int) - n = ((m - n : Nat) : Int); omega
              simp only [xInt, pAddS, pAdd, pSub, pMul, pQuo, pRem, pAnd, pOr, pXor]
              refine two_in ?_
              rw [hh]; exact wrapU hs (by rw [Nat.mod_eq_of_lt (by omega)]; exact fin h)
          · exact g2_out h
        · exact g2_out h
      · rcases uu_out h with ⟨m, n, ea, eb, g⟩ | h
        · clear h; subst ea; subst eb; have h := g; clear g
          rw [forceN_eq] at h
          simp only [xInt, pAddS, pAdd, pSub, pMul, pQuo, pRem, pAnd, pOr, pXor]
          refine two_in ?_
          exact wrapU (n := m * n) hs (fin h)
        · exact g2_out h
      · rcases uu_out h with ⟨m, n, ea, eb, g⟩ | h
        · clear h; subst ea; subst eb; have h := g; clear g
          rw [forceN_eq] at h
          simp only [xInt, pAddS, pAdd, pSub, pMul, pQuo, pRem, pAnd, pOr, pXor]
          refine two_in ?_
          simp only [forceN_eq, toU]; exact wrapU hs (fin h)
        · exact g2_out h
      · rcases uu_out h with ⟨m, n, ea, eb, g⟩ | h
        · clear h; subst ea; subst eb; have h := g; clear g
          rw [forceN_eq] at h
          simp only [xInt, pAddS, pAdd, pSub, pMul, pQuo, pRem, pAnd, pOr, pXor]
          refine two_in ?_
          simp only [forceN_eq, toU]; exact wrapU hs (fin h)
        · exact g2_out h
      · rcases uu_out h with ⟨m, n, ea, eb, g⟩ | h
        · clear h; subst ea; subst eb; have h := g; clear g
          rw [forceN_eq] at h
          simp only [xInt, pAddS, pAdd, pSub, pMul, pQuo, pRem, pAnd, pOr, pXor]
          refine two_in ?_
          simp only [forceN_eq, toU]; exact wrapU hs (fin h)
        · exact g2_out h
      · rcases encU h with ⟨c1, m, _, ea, g⟩ | ⟨_, g⟩
        · obtain ⟨c2, n, eb, g'⟩ := shN_out g
          clear g h; subst ea; subst eb
          obtain ⟨e, g⟩ := bT_out g'
          rw [forceN_eq] at g
          refine bT_in e (wrapK_in ?_)
          have hh : (Int.mul (.ofNat m) (.ofNat (Nat.pow 2 (Nat.min n (bits c)))) : Int) = .ofNat (Nat.mul m (Nat.pow 2 (Nat.min n (bits c)))) := rfl
          rw [hh, wrap_unsigned hs]
          exact fin g
        · exact g.elim
      · rcases encU h with ⟨c1, m, _, ea, g⟩ | ⟨_, g⟩
        · obtain ⟨c2, n, eb, g'⟩ := shN_out g
          clear g h; subst ea; subst eb
          obtain ⟨e, g⟩ := bT_out g'
          rw [forceN_eq] at g
          refine bT_in e ?_
          rw [forceI_eq]
          exact fin g
        · exact g.elim
      · exact g2_out h
theorem xIntR_of {c : Nat} {op : BinOp} {a b : AV} {k : AV → Prop} (h : xInt c op a b k) : xIntR c op a b k := by
  unfold xIntR
  split
  · exfalso
    cases op <;> exact h
  · exfalso
    cases op <;> exact h
  · exfalso
    cases op <;> first
      | exact (bT_out h).2
      | exact h
  · exact h
theorem intC_out {c : Nat} {op : BinOp} {a b : AV} {k : V → Prop} (h : (intC c op).run (enc a) (enc b) k) : xIntR c op a b fun r => k (enc r) := by
  cases c with
  | zero => exact int0_out h
  | succ c => exact xIntR_of (intU_out (by omega) h)
theorem ss_out {a b : AV} {f : Nat → Nat → Nat → Nat → Prop} (h : ss (enc a) (enc b) f) : ∃ n x m y, a = .str n x ∧ b = .str m y ∧ f n x m y := by
  obtain ⟨n, x, e, h⟩ := encS h
  obtain ⟨m, y, e', h⟩ := encS h
  exact ⟨n, x, m, y, e, e', h⟩
theorem strC_out {op : BinOp} {a b : AV} {k : V → Prop} (h : (strC op).run (enc a) (enc b) k) : xStr op a b fun r => k (enc r) := by
  unfold strC at h
  split at h
  · obtain ⟨n, x, m, y, ea, eb, g⟩ := ss_out h
    clear h; subst ea; subst eb; have h := g; clear g
    rw [forceN_eq] at h
    obtain ⟨h1, h⟩ := bT_out h
    rw [forceN_eq] at h
    show forceN _ _
    rw [forceN_eq]
    refine bT_in h1 ?_
    rw [forceN_eq]
    exact h
  · obtain ⟨n, x, m, y, ea, eb, g⟩ := ss_out h
    clear h; subst ea; subst eb; have h := g; clear g
    show k (enc (.bool _))
    rcases bI_out h with ⟨e, h⟩ | ⟨e, h⟩
    · rw [e]; exact cmpK_out h
    · rw [e]; exact h
  · obtain ⟨n, x, m, y, ea, eb, g⟩ := ss_out h
    clear h; subst ea; subst eb; have h := g; clear g
    show k (enc (.bool _))
    rcases bI_out h with ⟨e, h⟩ | ⟨e, h⟩
    · rw [e]; exact cmpN_out h
    · rw [e]; exact h
  · exact g2_out h
theorem cvC_out {c : Nat} {a : AV} {k : V → Prop} (h : (cvC c).run (enc a) k) : pConv c a fun r => k (enc r) := by
  cases c with
  | zero =>
    have key : ∀ {c1 n : Nat}, a = .int c1 (.ofNat n) → bI (Nat.ble 9223372036854775808 n) (g1 (pConv 0) (enc a) k) (k (fun _ _ h _ _ _ _ _ _ _ _ => h n)) → pConv 0 a fun r => k (enc r) := fun {c1 n} e h => by
      rcases bI_out h with ⟨_, g⟩ | ⟨e', g⟩
      · exact g1_out g
      · have hb := ble_false e'
        rw [e]
        exact wrap0Y (z := .ofNat n) (k := fun z => k (enc (.int 0 z))) (by show _ ≤ (n : Int); omega) (by show (n : Int) < _; omega) g
    rcases encIU h with ⟨n, e, h⟩ | ⟨n, _, h⟩ | ⟨c1, n, _, e, h⟩ | ⟨_, h⟩
    · exact key e h
    · exact g1_out h
    · exact key e h
    · exact g1_out h
  | succ c =>
    have h : (@Bool.rec (fun _ => G1)
      ⟨fun a k => a False False (fun n => forceN (Nat.mod n (full (Nat.succ c))) fun r => k (fun _ _ _ _ h _ _ _ _ _ _ => h (Nat.succ c) r)) (fun _ => g1 (pConv (Nat.succ c)) a k) (fun _ n => forceN (Nat.mod n (full (Nat.succ c))) fun r => k (fun _ _ _ _ h _ _ _ _ _ _ => h (Nat.succ c) r)) N2 N2 N6 NL NL (fun _ => g1 (pConv (Nat.succ c)) a k)⟩
      ⟨fun a k => g1 (pConv (Nat.succ c)) a k⟩ (sgn (Nat.succ c))).run (enc a) k := h
    cases hs : sgn (Nat.succ c) with
    | true => rw [hs] at h; exact g1_out h
    | false =>
      rw [hs] at h
      have key : ∀ {c1 n : Nat}, a = .int c1 (.ofNat n) → (forceN (Nat.mod n (full (Nat.succ c))) fun r => k (fun _ _ _ _ h _ _ _ _ _ _ => h (Nat.succ c) r)) → pConv (Nat.succ c) a fun r => k (enc r) := fun {c1 n} e h => by
        rw [forceN_eq] at h
        rw [e]
        exact wrapU hs h
      rcases encIU h with ⟨n, e, h⟩ | ⟨n, _, h⟩ | ⟨c1, n, _, e, h⟩ | ⟨_, h⟩
      · exact key e h
      · exact g1_out h
      · exact key e h
      · exact g1_out h
theorem sIdxV_out {a i : AV} {k : V → Prop} (h : sIdxV (enc a) (enc i) k) : sIdx a i fun r => k (enc r) := by
  obtain ⟨n, x, ea, g⟩ := encS h
  obtain ⟨c, j, eb, g'⟩ := shN_out g
  rw [ea, eb]
  exact g'
section
variable {D : Nat} {hs : Hs D} {H : AH}
theorem onNp_out {a : AV} {k : Prop} (h : onNp a k) : a = .nptr ∧ k := by cases a <;> first | exact h.elim | exact ⟨rfl, h⟩
theorem encPO {a : AV} {P : Nat → Nat → Prop} {k : Prop} (h : enc a False False N1 N1 N2 N2 P N6 NL NL (fun x => onNp x k)) : (∃ b o, a = .ptr b o ∧ P b o) ∨ (a = .nptr ∧ k) := by
  have g := enc_cases h
  clear h
  rcases g with ⟨rfl, h⟩ | ⟨rfl, h⟩ | ⟨n, rfl, h⟩ | ⟨n, rfl, h⟩ | ⟨c, n, h0, rfl, h⟩ | ⟨n, x, rfl, h⟩ | ⟨b, o, rfl, h⟩ | ⟨b, o, l, c, s, x, rfl, h⟩ | ⟨l, rfl, h⟩ | ⟨l, rfl, h⟩ | ⟨h0, h⟩ <;> first | exact h.elim | exact .inl ⟨_, _, rfl, h⟩ | exact .inr (onNp_out h)
theorem sFree_out (hr : RepH hs H) {b : Nat} {x : Prop} (h : sFree D b hs x) : getK H b fun _ _ m => bT (Nat.beq m 0) x := by
  obtain ⟨ht, rfl, htr⟩ := hr.tr
  obtain ⟨_, so, hso, hk⟩ := acc_get D htr h
  rcases so_cells hso hk with ⟨c, n, d, t, e, h1, h2⟩ | ⟨c, n, m, d, t, e, h1, h2⟩ | ⟨h, _⟩
  · exact getK_in e h2
  · exact h2.elim
  · exact h.elim
theorem ptrEq_out (hr : RepH hs H) {r : Bool} {a b : AV} {k : V → Prop} (h : ptrEq D r (enc a) (enc b) hs k) : pPEq r a b H fun v => k (enc v) := by
  rcases encPO h with ⟨b1, o1, rfl, g⟩ | ⟨rfl, g⟩
  · rcases encPO g with ⟨b2, o2, rfl, g'⟩ | ⟨rfl, g'⟩
    · refine bI_monoY (fun g => bI_monoY cmpK_out cmpN_out g) (fun g => ?_) g'
      refine getK_mono (fun _ _ m g => bT_monoY (fun g => ?_) g) (sFree_out hr g)
      exact getK_mono (fun _ _ m g => bT_monoY cmpN_out g) (sFree_out hr g)
    · exact cmpN_out g'
  · rcases encPO g with ⟨b2, o2, rfl, g'⟩ | ⟨rfl, g'⟩
    · exact cmpN_out g'
    · exact cmpK_out g'
end
end Go.X

namespace Go.X
noncomputable section
/-- What is read of an integer's or a truth value's type is one. -/
def onRng (a : AV) (k : Prop) : Prop := match a with | .rng _ _ => k | _ => False
def chkI (c : Nat) : G1 := @Nat.rec (fun _ => G1) ⟨fun v k => v False False (fun _ => k v) (fun _ => k v) N2 N2 N2 N6 NL NL (fun a => onRng a (k v))⟩
  (fun c' _ => ⟨fun v k => v False False N1 N1 (fun c1 _ => bT (Nat.beq c1 (Nat.succ c')) (k v)) N2 N2 N6 NL NL (fun a => onInt a fun c1 _ => bT (Nat.beq c1 (Nat.succ c')) (k v))⟩) c
def chkC (P : Program) (t : TypeId) : G1 :=
  match P.underlying t with
  | some (.int q) => chkI (kn q)
  | some .bool => ⟨fun v k => v (k v) (k v) N1 N1 N2 N2 N2 N6 NL NL NO⟩
  | _ => ⟨fun v k => k v⟩
abbrev ETr (d : Nat) : Type := TrT V d
/-- What an operand is. -/
def opdC (G d : Nat) (x : Operand) : Acc V (ETr d) :=
  match x with
  | .tmp t => acc V d t
  | .const v => ⟨fun k _ => k (encB (absV v)).v, fun _ _ _ => False⟩
  | .global g => @Bool.rec (fun _ => Acc V (ETr d)) ⟨fun k _ => k (fun _ _ _ _ _ _ _ _ _ _ h => h .pois), fun _ _ _ => False⟩ ⟨fun k _ => k (fun _ _ _ _ _ _ h _ _ _ _ => h g 0), fun _ _ _ => False⟩ (Nat.ble (Nat.succ g) G)
  | .func f => ⟨fun k _ => k (fun _ _ _ _ _ _ _ _ _ _ h => h (.func f [] [])), fun _ _ _ => False⟩
structure PutC (d : Nat) where
  run : V → (ETr d → Prop) → ETr d → Prop
/-- A value put where it goes. -/
def putC (N d : Nat) (dst : Option Tmp) : PutC d :=
  match dst with
  | none => ⟨fun _ k e => k e⟩
  | some t => @Bool.rec (fun _ => PutC d) ⟨fun _ _ _ => False⟩ ⟨fun v k e => (acc V d t).mod (fun _ k => k v) k e⟩ (Nat.ble (Nat.succ t) N)
structure LC (d : Nat) where
  run : (List AV → Prop) → ETr d → Prop
/-- Operands as plain values. -/
def decLC (G d : Nat) (l : List Operand) : LC d := @List.rec Operand (fun _ => LC d) ⟨fun k _ => k []⟩ (fun x _ ih => ⟨fun k e => (opdC G d x).get (fun v => dec v fun a => ih.run (fun l => k (a :: l)) e) e⟩) l
def dec1 (v : V) (k : AV → Prop) : Prop := v (k (.bool true)) (k (.bool false)) (fun n => k (.int 0 (.ofNat n))) (fun n => k (.int 0 (.negSucc n))) (fun c n => k (.int c (.ofNat n))) (fun n x => k (.str n x)) (fun b o => k (.ptr b o)) (fun b o l c s x => k (.slice b o l c s x)) NL NL (fun a => one a (k a))
/-- Cells out of what is known and what operands give. -/
def tmplC (G d : Nat) (l : List (AV ⊕ Operand)) : LC d := @List.rec (AV ⊕ Operand) (fun _ => LC d) ⟨fun k _ => k []⟩ (fun x _ ih => @Sum.rec AV Operand (fun _ => LC d) (fun a => ⟨fun k e => ih.run (fun l => k (a :: l)) e⟩) (fun x => ⟨fun k e => (opdC G d x).get (fun v => dec1 v fun a => ih.run (fun l => k (a :: l)) e) e⟩) x) l
def tset (z : List (AV ⊕ Operand)) (l : List (Nat × Operand)) : List (AV ⊕ Operand) := l.foldl (fun t p => t.set p.1 (.inr p.2)) z
/-- The places of parts that are all of one cell. -/
def offsOf (place : Nat → Option (Nat × Nat × Bool)) (n : Nat) : List (Nat × Operand) → Option (List (Nat × Operand))
  | [] => some []
  | (i, x) :: r => match place i with
    | some (o, sz, sc) => bif sc && (Nat.beq sz 1 && Nat.ble (Nat.add o sz) n) then (match offsOf place n r with | some l => some ((o, x) :: l) | none => none) else none
    | none => none
/-- A tree of which the cells below m are z's, again and again. -/
def zerC (z : List AV) (m : Nat) (d : Nat) : Nat → TB (CT d) :=
  @Nat.rec (fun d => Nat → TB (CT d)) (fun i => @Bool.rec (fun _ => TB LV) ⟨noL⟩ (match z[Nat.mod i z.length]? with | some a => ⟨fun k => k (encB a).v⟩ | none => ⟨noL⟩) (Nat.ble (Nat.succ i) m))
    (fun _ ih i => ⟨fun s => s (ih (Nat.mul 8 i)).t (ih (Nat.add (Nat.mul 8 i) 1)).t (ih (Nat.add (Nat.mul 8 i) 2)).t (ih (Nat.add (Nat.mul 8 i) 3)).t (ih (Nat.add (Nat.mul 8 i) 4)).t (ih (Nat.add (Nat.mul 8 i) 5)).t (ih (Nat.add (Nat.mul 8 i) 6)).t (ih (Nat.add (Nat.mul 8 i) 7)).t⟩) d
/-- How many levels so many cells want. -/
def depN (n : Nat) : Nat := @Nat.rec (fun _ => Nat) 0 (fun m _ => @Nat.rec (fun _ => Nat) 0 (fun _ _ => Nat.succ (Nat.div (Nat.log2 m) 3)) m) n
variable (D : Nat)
/-- n elements of zeros: a new block. -/
def sZero (z : List AV) (m : Nat) (hs : Hs D) (k : Nat → Hs D → Prop) : Prop := bT (Nat.ble m (Nat.pow 8 (depN m))) (sNew D (fun C _ _ => C (depN m) (zerC z m (depN m) 0).t m) hs k)
def sBox (v : V) (hs : Hs D) (k : V → Hs D → Prop) : Prop :=
  v (sNew D (fun C _ _ => C 0 (fun k => k v) 1) hs fun b h => k (fun _ _ _ _ _ _ h _ _ _ _ => h b 0) h) (sNew D (fun C _ _ => C 0 (fun k => k v) 1) hs fun b h => k (fun _ _ _ _ _ _ h _ _ _ _ => h b 0) h)
    (fun _ => sNew D (fun C _ _ => C 0 (fun k => k v) 1) hs fun b h => k (fun _ _ _ _ _ _ h _ _ _ _ => h b 0) h) (fun _ => sNew D (fun C _ _ => C 0 (fun k => k v) 1) hs fun b h => k (fun _ _ _ _ _ _ h _ _ _ _ => h b 0) h) (fun _ _ => sNew D (fun C _ _ => C 0 (fun k => k v) 1) hs fun b h => k (fun _ _ _ _ _ _ h _ _ _ _ => h b 0) h)
    (fun _ _ => sNew D (fun C _ _ => C 0 (fun k => k v) 1) hs fun b h => k (fun _ _ _ _ _ _ h _ _ _ _ => h b 0) h) (fun _ _ => sNew D (fun C _ _ => C 0 (fun k => k v) 1) hs fun b h => k (fun _ _ _ _ _ _ h _ _ _ _ => h b 0) h) (fun _ _ _ _ _ _ => sNew D (fun C _ _ => C 0 (fun k => k v) 1) hs fun b h => k (fun _ _ _ _ _ _ h _ _ _ _ => h b 0) h)
    (fun l => sNewL D l hs fun b _ h => k (fun _ _ _ _ _ _ h _ _ _ _ => h b 0) h) NL (fun a => one a (sNew D (fun C _ _ => C 0 (fun k => k v) 1) hs fun b h => k (fun _ _ _ _ _ _ h _ _ _ _ => h b 0) h))
end

/-! ### The lemmas -/
theorem encIR (a : AV) {I M : Nat → Prop} {O : AV → Prop} (h : enc a False False I M N2 N2 N2 N6 NL NL O) : (∃ n, a = .int 0 (.ofNat n) ∧ I n) ∨ (∃ n, a = .int 0 (.negSucc n) ∧ M n) ∨ O a := by
  have g := enc_cases h
  clear h
  rcases g with ⟨rfl, h⟩ | ⟨rfl, h⟩ | ⟨n, rfl, h⟩ | ⟨n, rfl, h⟩ | ⟨c, n, _, rfl, h⟩ | ⟨n, x, rfl, h⟩ | ⟨b, o, rfl, h⟩ | ⟨b, o, l, c, s, x, rfl, h⟩ | ⟨l, rfl, h⟩ | ⟨l, rfl, h⟩ | ⟨_, h⟩ <;>
    first | exact h.elim | exact .inl ⟨_, rfl, h⟩ | exact .inr (.inl ⟨_, rfl, h⟩) | exact .inr (.inr h)
def chkX (c : Nat) (v : AV) (k : AV → Prop) : Prop := (match v with
    | .rng l h => fun k => bT (Nat.beq c 0) (k (.rng l h))
    | v => fun k => onInt v fun c1 z => bT (Nat.beq c1 c) (k (.int c z)) : (AV → Prop) → Prop) k
theorem chkX_of {c : Nat} {a : AV} {k : AV → Prop} (h : onInt a fun c1 z => bT (Nat.beq c1 c) (k (.int c z))) : chkX c a k := by
  unfold chkX
  split
  · exact h.elim
  · exact h
theorem chkI_out {c : Nat} {a : AV} {k : V → Prop} (h : (chkI c).run (enc a) k) : chkX c a fun x => k (enc x) := by
  cases c with
  | zero =>
    rcases encIR a h with ⟨n, rfl, h⟩ | ⟨n, rfl, h⟩ | h
    · exact h
    · exact h
    · unfold onRng at h
      split at h
      · exact h
      · exact h.elim
  | succ c =>
    refine chkX_of ?_
    rcases encU h with ⟨c1, n, h0, e, g⟩ | ⟨h0, g⟩
    · rw [e] at g ⊢
      refine bT_monoY' (fun e2 g => ?_) g
      rw [Nat.eq_of_beq_eq_true e2] at g
      exact g
    · obtain ⟨c1, z, e, g⟩ := onInt_out g
      rw [e] at g ⊢
      refine bT_monoY' (fun e2 g => ?_) g
      rw [Nat.eq_of_beq_eq_true e2] at g
      exact g
 where bT_monoY' {b : Bool} {x y : Prop} (hk : b = true → x → y) (h : bT b x) : bT b y := by obtain ⟨h1, h2⟩ := bT_out h; exact bT_in h1 (hk h1 h2)
theorem chkC_out {P : Program} {t : TypeId} {a : AV} {k : V → Prop} (h : (chkC P t).run (enc a) k) : chkT P t a fun x => k (enc x) := by
  unfold chkC at h
  unfold chkT
  split at h
  · rename_i q hq
    rw [hq]
    exact chkI_out h
  · rename_i hq
    rw [hq]
    have g := enc_cases h
    rcases g with ⟨e, g⟩ | ⟨e, g⟩ | ⟨n, e, g⟩ | ⟨n, e, g⟩ | ⟨c, n, _, e, g⟩ | ⟨n, x, e, g⟩ | ⟨b, o, e, g⟩ | ⟨b, o, l, c, s, x, e, g⟩ | ⟨l, e, g⟩ | ⟨l, e, g⟩ | ⟨_, g⟩ <;> first | exact g.elim | (subst e; exact g)
  · rename_i h1 h2
    split
    · rename_i q hq; exact absurd hq (h1 q)
    · rename_i hq; exact absurd hq h2
    · exact h

/-- How a frame stands to the abstract one. -/
structure RepE (N d : Nat) (e : ETr d) (env : List AV) : Prop where
  lo : N ≤ env.length
  hi : env.length ≤ 8 ^ d
  tr : TR (fun v a => v = enc a) d e (fun i => env.getD i undefA)

section
variable {N d : Nat} {e : ETr d} {env : List AV} {G : Nat}
theorem opdC_out (he : RepE N d e env) {x : Operand} {k : V → Prop} (h : (opdC G d x).get k e) : k (enc (aev G env x)) := by
  cases x with
  | tmp t =>
    obtain ⟨_, v, rfl, hk⟩ := acc_get d he.tr h
    exact hk
  | const v => exact h
  | global g =>
    have h : (@Bool.rec (fun _ => Acc V (ETr d)) ⟨fun k _ => k (fun _ _ _ _ _ _ _ _ _ _ h => h .pois), fun _ _ _ => False⟩ ⟨fun k _ => k (fun _ _ _ _ _ _ h _ _ _ _ => h g 0), fun _ _ _ => False⟩ (Nat.ble (Nat.succ g) G)).get k e := h
    simp only [aev]
    cases hb : Nat.ble (Nat.succ g) G with
    | true => rw [hb] at h; rw [if_pos rfl]; exact h
    | false => rw [hb] at h; rw [if_neg (by simp)]; exact h
  | func f => exact h
theorem putC_out (he : RepE N d e env) {dst : Option Tmp} {a : AV} {k : ETr d → Prop} (h : (putC N d dst).run (enc a) k e) : ∃ e', RepE N d e' (putA env dst a) ∧ k e' := by
  cases dst with
  | none => exact ⟨e, he, h⟩
  | some t =>
    have h : (@Bool.rec (fun _ => PutC d) ⟨fun _ _ _ => False⟩ ⟨fun v k e => (acc V d t).mod (fun _ k => k v) k e⟩ (Nat.ble (Nat.succ t) N)).run (enc a) k e := h
    cases hb : Nat.ble (Nat.succ t) N with
    | false => rw [hb] at h; exact (show False from h).elim
    | true =>
      rw [hb] at h
      have ht : t < env.length := Nat.lt_of_lt_of_le (Nat.le_of_ble_eq_true hb) he.lo
      obtain ⟨_, v, k', _, g2, g3⟩ := acc_mod d he.tr h
      obtain ⟨t', g4, g5⟩ := g3 _ a g2 rfl
      refine ⟨t', ⟨by simpa [putA] using he.lo, by simpa [putA] using he.hi, g4.congr' fun i _ => ?_⟩, g5⟩
      simp only [putA]
      by_cases e : i = t
      · subst e; rw [updN_self]; simp [List.getD_eq_getElem?_getD, ht]
      · rw [updN_ne _ e]; simp [List.getD_eq_getElem?_getD, List.getElem?_set_ne (Ne.symm e)]
theorem decLC_out (he : RepE N d e env) : ∀ (l : List Operand) {k : List AV → Prop}, (decLC G d l).run k e → k (l.map (aev G env))
  | [], k, h => h
  | x :: r, k, h => decLC_out he r (k := fun l => k (aev G env x :: l)) (dec_enc (k := fun a => (decLC G d r).run (fun l => k (a :: l)) e) (opdC_out he h))
theorem dec1_out {a : AV} {k : AV → Prop} (h : dec1 (enc a) k) : a.one = true ∧ k a := by
  have g := enc_cases h
  rcases g with ⟨e, g⟩ | ⟨e, g⟩ | ⟨n, e, g⟩ | ⟨n, e, g⟩ | ⟨c, n, _, e, g⟩ | ⟨n, x, e, g⟩ | ⟨b, o, e, g⟩ | ⟨b, o, l, c, s, x, e, g⟩ | ⟨l, e, g⟩ | ⟨l, e, g⟩ | ⟨_, g⟩ <;> first | exact one_out g | exact g.elim | (subst e; exact ⟨rfl, g⟩)
def evT (ρ : Operand → AV) : AV ⊕ Operand → AV
  | .inl a => a
  | .inr x => ρ x
theorem tmplC_out (he : RepE N d e env) : ∀ (l : List (AV ⊕ Operand)) {k : List AV → Prop}, (tmplC G d l).run k e → k (l.map (evT (aev G env))) ∧ ∀ x, .inr x ∈ l → (aev G env x).one = true
  | [], k, h => ⟨h, by simp⟩
  | .inl a :: r, k, h => by
    obtain ⟨g1, g2⟩ := tmplC_out he r (k := fun l => k (a :: l)) h
    exact ⟨g1, fun x hx => g2 x (by simpa using hx)⟩
  | .inr x :: r, k, h => by
    obtain ⟨h1, h2⟩ := dec1_out (k := fun a => (tmplC G d r).run (fun l => k (a :: l)) e) (opdC_out he h)
    obtain ⟨g1, g2⟩ := tmplC_out he r (k := fun l => k (aev G env x :: l)) h2
    refine ⟨g1, fun y hy => ?_⟩
    rcases List.mem_cons.1 hy with e | hy
    · cases e; exact h1
    · exact g2 y hy
theorem tset_length : ∀ (l : List (Nat × Operand)) (z : List (AV ⊕ Operand)), (tset z l).length = z.length
  | [], z => rfl
  | p :: r, z => by
    show (tset (z.set p.1 (.inr p.2)) r).length = _
    rw [tset_length r]; simp
theorem tset_ne : ∀ (l : List (Nat × Operand)) (z : List (AV ⊕ Operand)) (j : Nat), (∀ p ∈ l, p.1 ≠ j) → (tset z l)[j]? = z[j]?
  | [], z, j, _ => rfl
  | p :: r, z, j, h => by
    show (tset (z.set p.1 (.inr p.2)) r)[j]? = _
    rw [tset_ne r _ j fun q hq => h q (by simp [hq])]
    exact List.getElem?_set_ne (h p (by simp))
theorem tset_mem : ∀ (l : List (Nat × Operand)) (z : List (AV ⊕ Operand)), (l.map (·.1)).Nodup → (∀ p ∈ l, p.1 < z.length) → ∀ p ∈ l, .inr p.2 ∈ tset z l
  | [], _, _, _, p, hp => by simp at hp
  | q :: r, z, hn, hl, p, hp => by
    simp only [List.map_cons, List.nodup_cons] at hn
    show _ ∈ tset (z.set q.1 (.inr q.2)) r
    rcases List.mem_cons.1 hp with rfl | hp
    · have := tset_ne r (z.set p.1 (.inr p.2)) p.1 fun q hq e => hn.1 (by rw [← e]; exact List.mem_map_of_mem hq)
      rw [List.getElem?_set_self (hl p (by simp))] at this
      exact List.mem_of_getElem? this
    · exact tset_mem r _ hn.2 (fun p hp => by simpa using hl p (by simp [hp])) p hp
theorem offsOf_build {place : Nat → Option (Nat × Nat × Bool)} {n : Nat} {ρ : Operand → AV} : ∀ {ps l : List (Nat × Operand)} {cs : List (AV ⊕ Operand)} {k : List AV → Prop}, offsOf place n ps = some l → (∀ p ∈ l, (ρ p.2).one = true) →
    k ((tset cs l).map (evT ρ)) → buildK place n (ps.map fun x => (x.1, ρ x.2)) (cs.map (evT ρ)) k
  | [], l, cs, k, h, _, hk => by
    simp only [offsOf, Option.some.injEq] at h
    subst h
    exact hk
  | (i, x) :: r, l, cs, k, h, ho, hk => by
    simp only [offsOf] at h
    simp only [List.map_cons, buildK]
    split at h
    · rename_i o sz sc hp
      rw [hp]
      cases hb : (sc && (Nat.beq sz 1 && Nat.ble (Nat.add o sz) n)) with
      | false => rw [hb] at h; cases h
      | true =>
        rw [hb] at h
        simp only [cond_true] at h
        split at h
        · rename_i l' hl'
          simp only [Option.some.injEq] at h
          subst h
          simp only [Bool.and_eq_true] at hb
          obtain ⟨rfl, h1, h2⟩ := hb
          refine bT_in h2 (bT_in h1 (one_in (ho (o, x) (by simp)) ?_))
          have := offsOf_build (cs := cs.set o (.inr x)) (k := k) hl' (fun p hp => ho p (by simp [hp])) hk
          rw [List.map_set] at this
          exact this
        · cases h
    · cases h
theorem offsOf_lt {place : Nat → Option (Nat × Nat × Bool)} {n : Nat} : ∀ {ps l : List (Nat × Operand)}, offsOf place n ps = some l → ∀ p ∈ l, p.1 < n
  | [], l, h, p, hp => by
    simp only [offsOf, Option.some.injEq] at h
    subst h; simp at hp
  | (i, x) :: r, l, h, p, hp => by
    simp only [offsOf] at h
    split at h
    · rename_i o sz sc hp'
      cases hb : (sc && (Nat.beq sz 1 && Nat.ble (Nat.add o sz) n)) with
      | false => rw [hb] at h; cases h
      | true =>
        rw [hb] at h
        simp only [cond_true] at h
        split at h
        · rename_i l' hl'
          simp only [Option.some.injEq] at h
          subst h
          simp only [Bool.and_eq_true] at hb
          obtain ⟨_, h1, h2⟩ := hb
          rcases List.mem_cons.1 hp with rfl | hp
          · have h1 := Nat.eq_of_beq_eq_true h1
            have h2 : o + sz ≤ n := Nat.le_of_ble_eq_true h2
            show o < n; omega
          · exact offsOf_lt hl' p hp
        · cases h
    · cases h
theorem map_inl (z : List AV) (ρ : Operand → AV) : (z.map Sum.inl).map (evT ρ) = z := by
  rw [List.map_map]
  conv => rhs; rw [← List.map_id z]
  rfl
/-- Parts of one cell each. -/
theorem build_tmpl (he : RepE N d e env) {place : Nat → Option (Nat × Nat × Bool)} {ps l : List (Nat × Operand)} {z : List AV} (h1 : offsOf place z.length ps = some l) (h2 : nodupB (l.map (·.1)) = true) {k : List AV → Prop}
    (h : (tmplC G d (tset (z.map Sum.inl) l)).run k e) : buildK place z.length (ps.map fun x => (x.1, aev G env x.2)) z k := by
  obtain ⟨g1, g2⟩ := tmplC_out he _ h
  have hm := tset_mem l (z.map Sum.inl) (nodupB_ok h2) (fun p hp => by simpa using offsOf_lt h1 p hp)
  have := offsOf_build (ρ := aev G env) (cs := z.map Sum.inl) (k := k) h1 (fun p hp => g2 _ (hm p hp)) g1
  rwa [map_inl] at this
end

theorem storeL_in : ∀ (l : List AV) {c : Bt AV} {o : Nat}, Full c o → (∀ a ∈ l, a.one = true) → ∃ c', (∀ K : Bt AV → Nat → Prop, K c' (o + l.length) → storeL l c o K) ∧ Full c' (o + l.length) ∧ (∀ i, i < l.length → c'.get? (o + i) = l[i]?) ∧ ∀ j, j < o → c'.get? j = c.get? j
  | [], c, o, hf, _ => ⟨c, fun K h => h, hf, fun i hi => by simp at hi, fun _ _ => rfl⟩
  | a :: l, c, o, hf, h1 => by
    obtain ⟨c1, g1, g2, g3⟩ := Bt.set_in hf (Nat.le_refl _) a
    have hf1 := hf.set (Nat.le_refl _) g2 g3
    rw [show max o (o + 1) = o + 1 by omega] at hf1
    obtain ⟨c', y1, y2, y3, y4⟩ := storeL_in l hf1 fun x hx => h1 x (by simp [hx])
    have el : o + (a :: l).length = o + 1 + l.length := by simp; omega
    refine ⟨c', fun K hK => one_in (h1 a (by simp)) (g1 _ (by rw [forceN_eq]; exact y1 K (by rw [← el]; exact hK))), by rw [el]; exact y2, fun i hi => ?_, fun j hj => ?_⟩
    · cases i with
      | zero => rw [Nat.add_zero, y4 o (by omega), g2]; rfl
      | succ i => rw [show o + (i + 1) = o + 1 + i by omega, y3 i (by simpa using hi)]; rfl
    · rw [y4 j (by omega), g3 j (by omega)]
theorem repL_get (z : List AV) : ∀ (n i : Nat), i < n * z.length → (repL n z)[i]? = z[i % z.length]?
  | 0, i, h => by omega
  | n + 1, i, h => by
    simp only [repL]
    by_cases hi : i < z.length
    · rw [List.getElem?_append_left hi, Nat.mod_eq_of_lt hi]
    · rw [List.getElem?_append_right (by omega), repL_get z n (i - z.length) (by rw [Nat.succ_mul] at h; omega)]
      rw [Nat.mod_eq_sub_mod (by omega : i ≥ z.length)]
theorem zerC_ok (z : List AV) (m : Nat) (m0 : Nat → Option AV) (hm : ∀ i, m0 i = if i < m then z[i % z.length]? else none) : ∀ (d i : Nat), TR rL d (zerC z m d i).t (fun j => m0 (i * 8 ^ d + j))
  | 0, i => by
    show rL (@Bool.rec (fun _ => TB LV) ⟨noL⟩ (match z[Nat.mod i z.length]? with | some a => ⟨fun k => k (encB a).v⟩ | none => ⟨noL⟩) (Nat.ble (Nat.succ i) m)).t (m0 (i * 1 + 0))
    rw [Nat.mul_one, Nat.add_zero, hm]
    cases hb : Nat.ble (Nat.succ i) m with
    | false => rw [if_neg (show ¬ i < m from ble_false hb)]; rfl
    | true =>
      rw [if_pos (show i < m from Nat.le_of_ble_eq_true hb)]
      show rL (match z[i % z.length]? with | some a => (⟨fun k => k (encB a).v⟩ : TB LV) | none => ⟨noL⟩).t _
      cases z[i % z.length]? <;> rfl
  | d + 1, i => by
    refine ⟨fun j => (zerC z m d (8 * i + j)).t, rfl, fun j hj => ?_⟩
    refine (zerC_ok z m m0 hm d (8 * i + j)).congr' fun x _ => ?_
    congr 1
    rw [Nat.pow_succ, Nat.add_mul, Nat.mul_comm 8 i, Nat.mul_assoc, Nat.mul_comm 8 (8 ^ d), Nat.add_assoc]

section
variable {D : Nat} {hs : Hs D} {H : AH}
theorem sZero_out (hr : RepH hs H) {z : List AV} (hz : ∀ a ∈ z, a.one = true) {n m : Nat} (hm : m = n * z.length) {k : Nat → Hs D → Prop} (h : sZero D z m hs k) :
    storeL (repL n z) .e 0 fun c q => newK H (.cells c q 0) fun b H' => q = m ∧ ∃ hs', RepH hs' H' ∧ k b hs' := by
  obtain ⟨hle, h⟩ := bT_out h
  have hone : ∀ n, ∀ a ∈ repL n z, a.one = true := by
    intro n
    induction n with
    | zero => simp [repL]
    | succ n ih =>
      intro a ha
      simp only [repL, List.mem_append] at ha
      exact ha.elim (hz a) (ih a)
  obtain ⟨c, g1, g2, g3, _⟩ := storeL_in (repL n z) Full.e (hone n)
  rw [Nat.zero_add, repL_length, ← hm] at g1 g2
  refine g1 _ ?_
  have ht : TRc (depN m) (zerC z m (depN m) 0).t c m := ⟨Nat.le_of_ble_eq_true hle, g2, (zerC_ok z m (fun i => c.get? i) (fun i => by
    split
    · rename_i hi
      have := g3 i (by rw [repL_length, ← hm]; exact hi)
      rw [Nat.zero_add] at this
      rw [this, repL_get z n i (by rw [← hm]; exact hi)]
    · rename_i hi
      have := g2 i
      cases e : c.get? i with
      | none => rfl
      | some x => rw [e] at this; exact absurd (this.1 rfl) hi) (depN m) 0).congr' fun i _ => by rw [Nat.zero_mul, Nat.zero_add]⟩
  obtain ⟨hs', H', z1, z2, _, _, _, z3⟩ := sNew_out hr (o := .cells c m 0) ⟨_, _, rfl, ht⟩ h
  exact z1 _ ⟨rfl, hs', z2, z3⟩
theorem new1_out (hr : RepH hs H) {a : AV} (ha : a.one = true) {k : V → Hs D → Prop} (h : sNew D (fun C _ _ => C 0 (fun k => k (enc a)) 1) hs fun b h => k (fun _ _ _ _ _ _ h _ _ _ _ => h b 0) h) : pNew (newK H) [a] fun v H' => ∃ hs', RepH hs' H' ∧ k (enc v) hs' := by
  obtain ⟨c, g1, g2, g3, _⟩ := storeL_in [a] Full.e (by simpa using ha)
  refine g1 _ ?_
  have ht : TRc 0 (fun k => k (enc a) : LV) c 1 := ⟨by decide, g2, by
    show rL _ (c.get? 0)
    have := g3 0 (by simp)
    rw [Nat.zero_add] at this
    rw [this]; rfl⟩
  obtain ⟨hs', H', z1, z2, _, _, _, z3⟩ := sNew_out hr (o := .cells c 1 0) ⟨_, _, rfl, ht⟩ h
  exact z1 _ ⟨hs', z2, z3⟩
theorem sBox_out (hr : RepH hs H) {a : AV} {k : V → Hs D → Prop} (h : sBox D (enc a) hs k) : xBox (newK H) a fun v H' => ∃ hs', RepH hs' H' ∧ k (enc v) hs' := by
  have key : a.one = true → sNew D (fun C _ _ => C 0 (fun k => k (enc a)) 1) hs (fun b h => k (fun _ _ _ _ _ _ h _ _ _ _ => h b 0) h) → xBox (newK H) a fun v H' => ∃ hs', RepH hs' H' ∧ k (enc v) hs' := fun h1 h2 => onVal_one h1 (new1_out hr h1 h2)
  have g := enc_cases h
  rcases g with ⟨e, g⟩ | ⟨e, g⟩ | ⟨n, e, g⟩ | ⟨n, e, g⟩ | ⟨c, n, _, e, g⟩ | ⟨n, x, e, g⟩ | ⟨b, o, e, g⟩ | ⟨b, o, l, c, s, x, e, g⟩ | ⟨l, e, g⟩ | ⟨l, e, g⟩ | ⟨_, g⟩
  · exact key (by rw [e]; rfl) g
  · exact key (by rw [e]; rfl) g
  · exact key (by rw [e]; rfl) g
  · exact key (by rw [e]; rfl) g
  · exact key (by rw [e]; rfl) g
  · exact key (by rw [e]; rfl) g
  · exact key (by rw [e]; rfl) g
  · exact key (by rw [e]; rfl) g
  · rw [e]
    show pNew (newK H) l (fun v H' => ∃ hs', RepH hs' H' ∧ k (enc v) hs')
    refine storeL_monoY (fun c m g => newK_monoY (fun b H' g => ?_) g) (sNewL_out hr g)
    obtain ⟨_, hs', y1, y2⟩ := g
    exact ⟨hs', y1, y2⟩
  · exact g.elim
  · obtain ⟨h1, g⟩ := one_out g
    exact key h1 g
end
end Go.X
