/- A machine over values and memory of its own, and that what it does the model does: a tool of this claim. No condition: definitions and lemmas. -/
import Derived.Test.YthmjeojcciefcaaDoorXb
set_option linter.unusedVariables false
set_option linter.unusedSimpArgs false
namespace Go.X

/-- What waits behind a place in a body. -/
inductive Fr where
  | seq (p : List Nat) (c : Code)
  | blk (id : Nat)
  | loop (p : List Nat) (c : Code)
  | scope (p : List Nat) (c : Code)

def childX (p : List Nat) : Code → List Fr → Nat → Option (Code × List Fr)
  | .seq a b, st, 0 => some (a, .seq (1 :: p) b :: st)
  | .seq _ b, st, 1 => some (b, st)
  | .cond _ a _, st, 0 => some (a, st)
  | .cond _ _ b, st, 1 => some (b, st)
  | .block id c, st, 0 => some (c, .blk id :: st)
  | .loop c, st, 0 => some (c, .loop p c :: st)
  | .scope c, st, 0 => some (c, .scope p c :: st)
  | .scope c, st, l + 2 => (match findLabel c l with | some r => some (r, .scope p c :: st) | none => none)
  | _, _, _ => none
/-- The place at the end of a way, the last turn first. -/
def subX (body : Code) : List Nat → Option (Code × List Fr)
  | [] => some (body, [])
  | b :: p => match subX body p with
    | some (c, st) => childX p c st b
    | none => none
def eqP : List Nat → List Nat → Bool
  | [], [] => true
  | a :: p, b :: q => Nat.beq a b && eqP p q
  | _, _ => false
theorem eqP_ok : ∀ {p q : List Nat}, eqP p q = true → p = q
  | [], [], _ => rfl
  | [], _ :: _, h => by simp [eqP] at h
  | _ :: _, [], h => by simp [eqP] at h
  | a :: p, b :: q, h => by
    simp only [eqP, Bool.and_eq_true] at h
    rw [Nat.eq_of_beq_eq_true h.1, eqP_ok h.2]

abbrev PcF := List AV → List ADef → AH → Prop
abbrev GT := List Nat → Code → List Fr → PcF
section
def popX (g : GT) (K : KT) : List Fr → Out → PcF
  | [], o, env, ds, H => K o env ds H
  | .seq p c :: st, o, env, ds, H => match o with | .normal => g p c st env ds H | o => popX g K st o env ds H
  | .blk id :: st, o, env, ds, H => match o with | .exit i => bI (Nat.beq i id) (popX g K st .normal env ds H) (popX g K st (.exit i) env ds H) | o => popX g K st o env ds H
  | .loop p c :: st, o, env, ds, H => match o with | .normal => g p (.loop c) st env ds H | o => popX g K st o env ds H
  | .scope p c :: st, o, env, ds, H => match o with | .goto l => onCode (findLabel c l) (fun r => g ((l + 2) :: p) r (.scope p c :: st) env ds H) (popX g K st (.goto l) env ds H) | o => popX g K st o env ds H
def stepX (C : CallA) (D : DT) (P : Program) (G : Nat) (g : GT) (K : KT) : GT := fun p c st env ds H =>
  match c with
  | .skip => popX g K st .normal env ds H
  | .region _ ops draw => bI draw (D ops env ds H (fun o env ds H => popX g K st o env ds H)) (runOps C P G ops ops.toList env ds H (fun o env ds H => popX g K st o env ds H))
  | .seq a b => g (0 :: p) a (.seq (1 :: p) b :: st) env ds H
  | .cond c a b => onBool (aev G env c) (g (0 :: p) a st env ds H) (g (1 :: p) b st env ds H)
  | .block id b => g (0 :: p) b (.blk id :: st) env ds H
  | .loop b => g (0 :: p) b (.loop p b :: st) env ds H
  | .scope b => g (0 :: p) b (.scope p b :: st) env ds H
  | .goto l => popX g K st (.goto l) env ds H
  | .exit id => popX g K st (.exit id) env ds H
  | .label _ => popX g K st .normal env ds H
  | .ret => popX g K st .ret env ds H
  | _ => False
abbrev Tbl := List (List Nat × PcF)
def lookX : Tbl → List Nat → Option PcF
  | [], _ => none
  | (m, F) :: r, n => bif eqP m n then some F else lookX r n
def goX (C : CallA) (D : DT) (P : Program) (G : Nat) (t : Tbl) (K : KT) (n : Nat) : GT := Nat.rec (motive := fun _ => GT) (fun _ _ _ _ _ _ => False)
  (fun _ ih p c st env ds H => match lookX t p with | some F => F env ds H | none => stepX C D P G ih K p c st env ds H) n
def onSub (o : Option (Code × List Fr)) (k : Code → List Fr → Prop) : Prop := match o with | some (c, st) => k c st | none => False
/-- A piece: from its place up to the next pieces. -/
def pieceX (C : CallA) (D : DT) (P : Program) (G : Nat) (body : Code) (t : Tbl) (K : KT) (n : Nat) (p : List Nat) : PcF := fun env ds H =>
  onSub (subX body p) fun c st => stepX C D P G (goX C D P G t K n) K p c st env ds H
end

variable {P : Program}

/-- A loop counts its rounds. -/
def wpL (P : Program) (n : Nat) (c : Code) (Q : Exit → Act → World → Prop) (a : Act) (w : World) : Prop := match c with | .loop b => LI P b Q n a w | c => c.wp P Q a w
/-- What is to be reached from a place. -/
def aftX (P : Program) (n : Nat) : List Fr → (Exit → Act → World → Prop) → (Exit → Act → World → Prop)
  | [], Q => Q
  | .seq _ c :: st, Q => fun e a w => match e with | .normal => wpL P n c (aftX P n st Q) a w | e => aftX P n st Q e a w
  | .blk id :: st, Q => Exit.inBlock id (aftX P n st Q)
  | .loop _ c :: st, Q => fun e a w => match e with | .normal => LI P c (aftX P n st Q) n a w | e => aftX P n st Q e a w
  | .scope _ c :: st, Q => fun e a w => match e with | .goto l => (match findLabel c l with | some r => ScI P c (aftX P n st Q) n r a w | none => aftX P n st Q (.goto l) a w) | e => aftX P n st Q e a w

theorem LI_mono {c : Code} {Q Q' : Exit → Act → World → Prop} (hq : ∀ e a w, Q e a w → Q' e a w) : ∀ {n m : Nat}, n ≤ m → ∀ {a w}, LI P c Q n a w → LI P c Q' m a w
  | 0, _, _, _, _, h => h.elim
  | n + 1, 0, hl, _, _, _ => absurd hl (by omega)
  | n + 1, m + 1, hl, a, w, h => by
    unfold LI at h ⊢
    refine Code.wp_mono (fun e a w h => ?_) h
    cases e <;> first | exact LI_mono hq (Nat.le_of_succ_le_succ hl) h | exact hq _ _ _ h
theorem ScI_mono {c : Code} {Q Q' : Exit → Act → World → Prop} (hq : ∀ e a w, Q e a w → Q' e a w) : ∀ {n m : Nat}, n ≤ m → ∀ {r a w}, ScI P c Q n r a w → ScI P c Q' m r a w
  | 0, _, _, _, _, _, h => h.elim
  | n + 1, 0, hl, _, _, _, _ => absurd hl (by omega)
  | n + 1, m + 1, hl, r, a, w, h => by
    unfold ScI at h ⊢
    refine Code.wp_mono (fun e a w h => ?_) h
    cases e with
    | goto l =>
      simp only at h ⊢
      cases hf : findLabel c l with
      | none => rw [hf] at h; exact hq _ _ _ h
      | some r' => rw [hf] at h; exact ScI_mono hq (Nat.le_of_succ_le_succ hl) h
    | _ => exact hq _ _ _ h
theorem wpL_mono {c : Code} {Q Q' : Exit → Act → World → Prop} (hq : ∀ e a w, Q e a w → Q' e a w) {n m : Nat} (hl : n ≤ m) {a : Act} {w : World} (h : wpL P n c Q a w) : wpL P m c Q' a w := by
  unfold wpL at h ⊢
  split at h
  · exact LI_mono hq hl h
  · exact Code.wp_mono hq h
theorem aftX_mono {n m : Nat} (hl : n ≤ m) : ∀ {st : List Fr} {Q : Exit → Act → World → Prop} {e : Exit} {a : Act} {w : World}, aftX P n st Q e a w → aftX P m st Q e a w
  | [], _, _, _, _, h => h
  | .seq _ c :: st, Q, e, a, w, h => by
    cases e <;> first | exact wpL_mono (fun e a w h => aftX_mono hl h) hl h | exact aftX_mono hl (st := st) h
  | .blk id :: st, Q, e, a, w, h => by
    unfold aftX Exit.inBlock at h ⊢
    cases e <;> try exact aftX_mono hl h
    rename_i i
    simp only at h ⊢
    split at h <;> rename_i hi
    · rw [if_pos hi]; exact aftX_mono hl h
    · rw [if_neg hi]; exact aftX_mono hl h
  | .loop _ c :: st, Q, e, a, w, h => by
    cases e <;> first | exact LI_mono (fun e a w h => aftX_mono hl h) hl h | exact aftX_mono hl (st := st) h
  | .scope _ c :: st, Q, e, a, w, h => by
    cases e with
    | goto l =>
      simp only [aftX] at h ⊢
      cases hf : findLabel c l with
      | none => rw [hf] at h; exact aftX_mono hl h
      | some r' => rw [hf] at h; exact ScI_mono (fun e a w h => aftX_mono hl h) hl h
    | _ => exact aftX_mono hl (st := st) h
theorem wpL_wp {n : Nat} {c : Code} {Q : Exit → Act → World → Prop} {a : Act} {w : World} (h : wpL P n c Q a w) : c.wp P Q a w := by
  unfold wpL at h
  split at h
  · exact wp_loop_rounds h
  · exact h
theorem wpL_of {n : Nat} {c : Code} (hn : ∀ b, c ≠ .loop b) {Q : Exit → Act → World → Prop} {a : Act} {w : World} (h : c.wp P Q a w) : wpL P n c Q a w := by
  unfold wpL
  split
  · exact absurd rfl (hn _)
  · exact h

/-- How an outcome shows. -/
def EO (f : Emb) (o : Out) (e : Exit) : Prop := match o with | .normal => e = .normal | .exit id => e = .exit id | .goto l => e = .goto l | .ret => e = .ret | .pan v => ∃ ch, e = .panic ch ∧ PanR f v ch
/-- From a place on, the whole goes as was worked out. -/
def GAt (P : Program) (c : Code) (st : List Fr) (K : KT) (env : List AV) (ds : List ADef) (H : AH) : Prop := ∃ n, SOk P env ds H K fun a w Q => wpL P n c (aftX P n st Q) a w
/-- The same, of what waits, when a piece has ended. -/
def GPop (P : Program) (st : List Fr) (K : KT) (o : Out) (env : List AV) (ds : List ADef) (H : AH) : Prop := ∃ n o' env' ds' H', K o' env' ds' H' ∧ ∀ f w a e, HR f H w → AR P f env a → DR f ds a.defers → EO f o e → ∀ Q : Exit → Act → World → Prop, (∀ e a' w', XPost P f H w o' env' ds' H' e a' w' → Q e a' w') → aftX P n st Q e a w

theorem XPost.outOf {f : Emb} {H : AH} {w : World} {o : Out} {env : List AV} {ds : List ADef} {H' : AH} {e : Exit} {a : Act} {w' : World} (h : XPost P f H w o env ds H' e a w') :
    ∃ f', Step f H w f' H' w' ∧ AR P f' env a ∧ DR f' ds a.defers ∧ EO f' o e := by
  obtain ⟨f', h1, h2, h3, h4⟩ := h
  exact ⟨f', h1, h2, h3, by cases o <;> exact h4⟩

/-- A piece of straight code, then what waits. -/
theorem GAt.of_piece {c : Code} {st : List Fr} {K : KT} {env : List AV} {ds : List ADef} {H : AH} (hn : ∀ b, c ≠ .loop b)
    (h : SOk P env ds H (fun o env ds H => GPop P st K o env ds H) fun a w Q => c.wp P Q a w) : GAt P c st K env ds H := by
  obtain ⟨o, env1, ds1, H1, ⟨n, o', env', ds', H', g1, g2⟩, h2⟩ := h
  refine ⟨n, o', env', ds', H', g1, fun f w a hr ha hd Q hQ => wpL_of hn (h2 f w a hr ha hd _ fun e a' w' hx => ?_)⟩
  obtain ⟨f', s, y1, y2, y3⟩ := hx.outOf
  exact g2 f' w' a' e s.rel y1 y2 y3 Q fun e a2 w2 hx => hQ _ _ _ (hx.after s)

/-- Where ways lead. -/
inductive Pos (body : Code) : List Nat → Code → List Fr → Prop where
  | root : Pos body [] body []
  | step {p c st b c' st'} : Pos body p c st → childX p c st b = some (c', st') → Pos body (b :: p) c' st'
theorem Pos.sub {body : Code} {p : List Nat} {c : Code} {st : List Fr} (h : Pos body p c st) : subX body p = some (c, st) := by
  induction h with
  | root => rfl
  | step h1 h2 ih => simp only [subX, ih, h2]
theorem Pos.of_sub {body : Code} : ∀ {p : List Nat} {c : Code} {st : List Fr}, subX body p = some (c, st) → Pos body p c st
  | [], c, st, h => by simp only [subX, Option.some.injEq, Prod.mk.injEq] at h; obtain ⟨rfl, rfl⟩ := h; exact .root
  | b :: p, c, st, h => by
    simp only [subX] at h
    split at h
    · rename_i c0 st0 h0
      exact .step (Pos.of_sub h0) h
    · cases h
inductive StPos (body : Code) : List Fr → Prop where
  | nil : StPos body []
  | seq {p c st} : Pos body p c st → StPos body st → StPos body (.seq p c :: st)
  | blk {id st} : StPos body st → StPos body (.blk id :: st)
  | loop {p c st} : Pos body p (.loop c) st → StPos body st → StPos body (.loop p c :: st)
  | scope {p c st} : Pos body p (.scope c) st → StPos body st → StPos body (.scope p c :: st)
theorem childX_seq {p : List Nat} {a b : Code} {st : List Fr} {k : Nat} {c' : Code} {st' : List Fr} (h : childX p (.seq a b) st k = some (c', st')) : (st' = .seq (1 :: p) b :: st) ∨ st' = st := by
  rcases k with _ | _ | k
  · simp only [childX, Option.some.injEq, Prod.mk.injEq] at h; exact .inl h.2.symm
  · simp only [childX, Option.some.injEq, Prod.mk.injEq] at h; exact .inr h.2.symm
  · simp [childX] at h
theorem Pos.stack {body : Code} {p : List Nat} {c : Code} {st : List Fr} (h : Pos body p c st) : StPos body st := by
  induction h with
  | root => exact .nil
  | @step p c st b c' st' h1 h2 ih =>
    have g := fun x y z => @Pos.step body p c st x y z h1
    cases c with
    | seq a b' =>
      rcases childX_seq h2 with rfl | rfl
      · exact .seq (g 1 _ _ rfl) ih
      · exact ih
    | cond x a b' =>
      rcases b with _ | _ | b <;> simp only [childX, Option.some.injEq, Prod.mk.injEq, reduceCtorEq] at h2
      · obtain ⟨_, rfl⟩ := h2; exact ih
      · obtain ⟨_, rfl⟩ := h2; exact ih
    | block id a =>
      rcases b with _ | b <;> simp only [childX, Option.some.injEq, Prod.mk.injEq, reduceCtorEq] at h2
      obtain ⟨_, rfl⟩ := h2; exact .blk ih
    | loop a =>
      rcases b with _ | b <;> simp only [childX, Option.some.injEq, Prod.mk.injEq, reduceCtorEq] at h2
      obtain ⟨_, rfl⟩ := h2; exact .loop h1 ih
    | scope a =>
      rcases b with _ | _ | b
      · simp only [childX, Option.some.injEq, Prod.mk.injEq] at h2
        obtain ⟨_, rfl⟩ := h2; exact .scope h1 ih
      · simp [childX] at h2
      · simp only [childX] at h2
        split at h2
        · simp only [Option.some.injEq, Prod.mk.injEq] at h2
          obtain ⟨_, rfl⟩ := h2; exact .scope h1 ih
        · cases h2
    | _ => rcases b with _ | _ | b <;> simp [childX] at h2

abbrev GOk (P : Program) (body : Code) (K : KT) (g : GT) : Prop := ∀ p c st env ds H, Pos body p c st → g p c st env ds H → GAt P c st K env ds H

theorem popX_ok {body : Code} {K : KT} {g : GT} (hg : GOk P body K g) : ∀ {st : List Fr} {o : Out} {env : List AV} {ds : List ADef} {H : AH}, StPos body st → popX g K st o env ds H → GPop P st K o env ds H
  | [], o, env, ds, H, _, h => ⟨0, o, env, ds, H, h, fun f w a e hr ha hd he Q hQ => hQ _ _ _ ⟨f, Step.refl hr, ha, hd, by cases o <;> exact he⟩⟩
  | .seq p c :: st, o, env, ds, H, hs, h => by
    cases hs with
    | seq h1 h2 =>
      cases o with
      | normal =>
        obtain ⟨n, o', env', ds', H', g1, g2⟩ := hg p c st env ds H h1 h
        exact ⟨n, o', env', ds', H', g1, fun f w a e hr ha hd he Q hQ => by cases he; exact g2 f w a hr ha hd Q hQ⟩
      | _ =>
        obtain ⟨n, o', env', ds', H', g1, g2⟩ := popX_ok hg h2 h
        refine ⟨n, o', env', ds', H', g1, fun f w a e hr ha hd he Q hQ => ?_⟩
        have := g2 f w a e hr ha hd he Q hQ
        first | (cases he; exact this) | (obtain ⟨ch, rfl, _⟩ := he; exact this)
  | .loop p c :: st, o, env, ds, H, hs, h => by
    cases hs with
    | loop h1 h2 =>
      cases o with
      | normal =>
        obtain ⟨n, o', env', ds', H', g1, g2⟩ := hg p (.loop c) st env ds H h1 h
        exact ⟨n, o', env', ds', H', g1, fun f w a e hr ha hd he Q hQ => by cases he; exact g2 f w a hr ha hd Q hQ⟩
      | _ =>
        obtain ⟨n, o', env', ds', H', g1, g2⟩ := popX_ok hg h2 h
        refine ⟨n, o', env', ds', H', g1, fun f w a e hr ha hd he Q hQ => ?_⟩
        have := g2 f w a e hr ha hd he Q hQ
        first | (cases he; exact this) | (obtain ⟨ch, rfl, _⟩ := he; exact this)
  | .blk id :: st, o, env, ds, H, hs, h => by
    cases hs with
    | blk h2 =>
      cases o with
      | exit i =>
        rcases bI_out h with ⟨hi, h⟩ | ⟨hi, h⟩
        · obtain ⟨n, o', env', ds', H', g1, g2⟩ := popX_ok hg h2 h
          refine ⟨n, o', env', ds', H', g1, fun f w a e hr ha hd he Q hQ => ?_⟩
          cases he
          have := g2 f w a .normal hr ha hd rfl Q hQ
          simp only [aftX, Exit.inBlock]
          rw [if_pos (Nat.eq_of_beq_eq_true hi)]
          exact this
        · obtain ⟨n, o', env', ds', H', g1, g2⟩ := popX_ok hg h2 h
          refine ⟨n, o', env', ds', H', g1, fun f w a e hr ha hd he Q hQ => ?_⟩
          cases he
          have := g2 f w a (.exit i) hr ha hd rfl Q hQ
          simp only [aftX, Exit.inBlock]
          rw [if_neg (fun e => by subst e; simp at hi)]
          exact this
      | _ =>
        obtain ⟨n, o', env', ds', H', g1, g2⟩ := popX_ok hg h2 h
        refine ⟨n, o', env', ds', H', g1, fun f w a e hr ha hd he Q hQ => ?_⟩
        have := g2 f w a e hr ha hd he Q hQ
        first | (cases he; exact this) | (obtain ⟨ch, rfl, _⟩ := he; exact this)
  | .scope p c :: st, o, env, ds, H, hs, h => by
    cases hs with
    | scope h1 h2 =>
      cases o with
      | goto l =>
        have h : onCode (findLabel c l) (fun r => g ((l + 2) :: p) r (.scope p c :: st) env ds H) (popX g K st (.goto l) env ds H) := h
        cases hf : findLabel c l with
        | none =>
          rw [hf] at h
          obtain ⟨n, o', env', ds', H', g1, g2⟩ := popX_ok hg h2 h
          refine ⟨n, o', env', ds', H', g1, fun f w a e hr ha hd he Q hQ => ?_⟩
          have := g2 f w a e hr ha hd he Q hQ
          cases he
          simp only [aftX, hf]
          exact this
        | some r =>
          rw [hf] at h
          obtain ⟨n, o', env', ds', H', g1, g2⟩ := hg ((l + 2) :: p) r (.scope p c :: st) env ds H (h1.step (by simp [childX, hf])) h
          refine ⟨n + 1, o', env', ds', H', g1, fun f w a e hr ha hd he Q hQ => ?_⟩
          have := wpL_wp (g2 f w a hr ha hd Q hQ)
          cases he
          simp only [aftX, hf]
          show ScI P c _ (n + 1) r a w
          unfold ScI
          refine Code.wp_mono (fun e a w h => ?_) this
          cases e with
          | goto l' =>
            simp only [aftX] at h ⊢
            cases hf' : findLabel c l' with
            | none => rw [hf'] at h; exact aftX_mono (Nat.le_succ n) h
            | some r' => rw [hf'] at h; exact ScI_mono (fun e a w h => aftX_mono (Nat.le_succ n) h) (Nat.le_refl n) h
          | _ => exact aftX_mono (st := st) (Nat.le_succ n) h
      | _ =>
        obtain ⟨n, o', env', ds', H', g1, g2⟩ := popX_ok hg h2 h
        refine ⟨n, o', env', ds', H', g1, fun f w a e hr ha hd he Q hQ => ?_⟩
        have := g2 f w a e hr ha hd he Q hQ
        first | (cases he; exact this) | (obtain ⟨ch, rfl, _⟩ := he; exact this)

theorem GAt.wp {c : Code} {st : List Fr} {K : KT} {env : List AV} {ds : List ADef} {H : AH} (h : GAt P c st K env ds H) {c' : Code} {st' : List Fr} (hn : ∀ b, c' ≠ .loop b)
    (hW : ∀ n f a w Q, AR P f env a → c.wp P (aftX P n st Q) a w → c'.wp P (aftX P n st' Q) a w) : GAt P c' st' K env ds H := by
  obtain ⟨n, h⟩ := h
  exact ⟨n, h.mono (fun f a w Q ha hh => wpL_of hn (hW n f a w Q ha (wpL_wp hh))) fun _ _ _ _ h => h⟩

theorem stepX_ok {C : CallA} (hC : CallsOk P C) {D : DT} (hD : DrawOk P D) {body : Code} {K : KT} {g : GT} (hg : GOk P body K g) : GOk P body K (stepX C D P P.globals.size g K) := by
  intro p c st env ds H hp h
  have hs := hp.stack
  unfold stepX at h
  cases c with
  | skip => exact GAt.of_piece (by simp) (SOk.done (popX_ok hg hs h) .normal (.inl ⟨rfl, rfl⟩) fun a w Q h => wp_skip h)
  | region id ops draw =>
    refine GAt.of_piece (by simp) ?_
    rcases bI_out h with ⟨rfl, h⟩ | ⟨rfl, h⟩
    · exact (hD id ops env ds H _ h).mono (fun _ _ _ _ _ h => h) fun _ _ _ _ h => popX_ok hg hs h
    · exact (runOps_ok hC _ _ _ _ h).mono (fun f a w Q _ h => wp_region_list h) fun _ _ _ _ h => popX_ok hg hs h
  | seq a b => exact (hg _ _ _ env ds H (hp.step rfl) h).wp (by simp) fun n f x w Q _ h => wp_seq (Code.wp_mono (fun e a w h => by cases e <;> first | exact wpL_wp h | exact h) h)
  | cond c a b =>
    have h : onBool (aev P.globals.size env c) (g (0 :: p) a st env ds H) (g (1 :: p) b st env ds H) := h
    generalize hv : aev P.globals.size env c = v at h
    cases v <;> try exact h.elim
    case bool t =>
      have hc : ∀ {f : Emb} {a : Act}, AR P f env a → a.eval c = .bool t := fun {f act} ha => by
        have := aev_ok ha c
        rw [hv] at this
        generalize act.eval c = u at this
        cases this; rfl
      cases t
      · exact (hg _ _ _ env ds H (hp.step rfl) h).wp (by simp) fun n f x w Q ha h => wp_cond (hc ha) h
      · exact (hg _ _ _ env ds H (hp.step rfl) h).wp (by simp) fun n f x w Q ha h => wp_cond (hc ha) h
  | block id c => exact (hg _ _ _ env ds H (hp.step rfl) h).wp (by simp) fun n f x w Q _ h => wp_block h
  | loop c =>
    obtain ⟨n, h⟩ := hg _ _ _ env ds H (hp.step rfl) h
    refine ⟨n + 1, h.mono (fun f a w Q _ hh => ?_) fun _ _ _ _ h => h⟩
    show LI P c _ (n + 1) a w
    unfold LI
    refine Code.wp_mono (fun e a w h => ?_) (wpL_wp hh)
    cases e <;> first | exact LI_mono (fun e a w h => aftX_mono (Nat.le_succ n) h) (Nat.le_refl n) h | exact aftX_mono (st := st) (Nat.le_succ n) h
  | scope c =>
    obtain ⟨n, h⟩ := hg _ _ _ env ds H (hp.step rfl) h
    refine ⟨n, h.mono (fun f a w Q _ hh => wpL_of (by simp) (wp_scope_jumps' (n := n + 1) ?_)) fun _ _ _ _ h => h⟩
    unfold ScI
    refine Code.wp_mono (fun e a w h => ?_) (wpL_wp hh)
    cases e with
    | goto l =>
      simp only [aftX] at h ⊢
      exact h
    | _ => exact h
  | exit id => exact GAt.of_piece (by simp) (SOk.done (popX_ok hg hs h) (.exit id) (.inr (.inl ⟨id, rfl, rfl⟩)) fun a w Q h => wp_exit h)
  | label l => exact GAt.of_piece (by simp) (SOk.done (popX_ok hg hs h) .normal (.inl ⟨rfl, rfl⟩) fun a w Q h => wp_label h)
  | ret => exact GAt.of_piece (by simp) (SOk.done (popX_ok hg hs h) .ret (.inr (.inr (.inr ⟨rfl, rfl⟩))) fun a w Q h => wp_ret h)
  | goto l => exact GAt.of_piece (by simp) (SOk.done (popX_ok hg hs h) (.goto l) (.inr (.inr (.inl ⟨l, rfl, rfl⟩))) fun a w Q h => wp_goto h)
  | rangeFunc => exact h.elim
  | refuse => exact h.elim

/-- A place in a body, and that from there on it goes well. -/
def SAt (P : Program) (body : Code) (K : KT) (p : List Nat) : PcF := fun env ds H => ∃ c st, subX body p = some (c, st) ∧ GAt P c st K env ds H
/-- A table of places. -/
abbrev PTbl := List (List Nat × PcF)
def encT (t : PTbl) : Tbl := t
def PTblOk (P : Program) (body : Code) (K : KT) (t : PTbl) : Prop := ∀ e ∈ t, ∀ env ds H, e.2 env ds H → SAt P body K e.1 env ds H
theorem PTblOk.nil {body : Code} {K : KT} : PTblOk P body K [] := fun e h => by simp at h
theorem PTblOk.cons {body : Code} {K : KT} {p : List Nat} {F : PcF} {t : PTbl} (h : ∀ env ds H, F env ds H → SAt P body K p env ds H) (ht : PTblOk P body K t) : PTblOk P body K ((p, F) :: t) := fun e he => by
  rcases List.mem_cons.1 he with rfl | he
  · exact h
  · exact ht e he
theorem lookX_ok : ∀ {t : PTbl} {p : List Nat} {F : PcF}, lookX (encT t) p = some F → (p, F) ∈ t
  | [], _, _, h => by cases h
  | (q, G) :: t, p, F, h => by
    simp only [encT, lookX] at h
    cases hb : eqP q p with
    | true =>
      rw [hb] at h
      have h : G = F := by simpa using h
      have := eqP_ok hb
      subst h; subst this
      simp
    | false =>
      rw [hb] at h
      exact List.mem_cons_of_mem _ (lookX_ok h)
theorem goX_ok {C : CallA} (hC : CallsOk P C) {D : DT} (hD : DrawOk P D) {body : Code} {K : KT} {t : PTbl} (ht : PTblOk P body K t) : ∀ n, GOk P body K (goX C D P P.globals.size (encT t) K n)
  | 0 => fun _ _ _ _ _ _ _ h => h.elim
  | n + 1 => fun p c st env ds H hp h => by
    change (match lookX (encT t) p with | some F => F env ds H | none => stepX C D P P.globals.size (goX C D P P.globals.size (encT t) K n) K p c st env ds H) at h
    split at h
    · rename_i F hF
      obtain ⟨c', st', h1, h2⟩ := ht _ (lookX_ok hF) env ds H h
      rw [hp.sub] at h1
      cases h1
      exact h2
    · exact stepX_ok hC hD (goX_ok hC hD ht n) p c st env ds H hp h
theorem pieceX_ok {C : CallA} (hC : CallsOk P C) {D : DT} (hD : DrawOk P D) {body : Code} {K : KT} {t : PTbl} (ht : PTblOk P body K t) {n : Nat} {p : List Nat} {env : List AV} {ds : List ADef} {H : AH}
    (h : pieceX C D P P.globals.size body (encT t) K n p env ds H) : SAt P body K p env ds H := by
  unfold pieceX onSub at h
  split at h
  · rename_i c st hs
    exact ⟨c, st, hs, stepX_ok hC hD (goX_ok hC hD ht n) p c st env ds H (Pos.of_sub hs) h⟩
  · exact h.elim
end Go.X

namespace Go.X

abbrev KF := COut → AH → Prop
abbrev FnA := List AV → AH → KF → Prop

/-- What a parameter is: an integer of a kind, a truth value, anything. -/
inductive Ty where
  | i (k : Nat)
  | b
  | a
abbrev FnT (R : Type) : List Ty → Type
  | [] => R
  | .i _ :: τ => Int → FnT R τ
  | .b :: τ => Bool → FnT R τ
  | .a :: τ => AV → FnT R τ
section
def appT {R : Type} : (τ : List Ty) → FnT R τ → List AV → (R → Prop) → Prop
  | [], f, l, k => match l with | [] => k f | _ => False
  | .i q :: τ, f, l, k => match l with | v :: r => onInt v fun c z => bT (Nat.beq c q) (appT τ (f z) r k) | [] => False
  | .b :: τ, f, l, k => match l with | v :: r => onB v fun z => appT τ (f z) r k | [] => False
  | .a :: τ, f, l, k => match l with | v :: r => appT τ (f v) r k | [] => False
def AllT {R : Type} : (τ : List Ty) → FnT R τ → (R → List AV → Prop) → Prop
  | [], f, p => p f []
  | .i q :: τ, f, p => ∀ z : Int, AllT τ (f z) fun r l => p r (.int q z :: l)
  | .b :: τ, f, p => ∀ z : Bool, AllT τ (f z) fun r l => p r (.bool z :: l)
  | .a :: τ, f, p => ∀ v : AV, AllT τ (f v) fun r l => p r (v :: l)
/-- A frame of which the slots of a list hold values, the others anything. -/
def fillG : List Nat → List AV → Nat → AV
  | s :: r, v :: l, i => bif Nat.beq s i then v else fillG r l i
  | _, _, _ => .pois
def fillR (slots : List Nat) (l : List AV) : Nat → Nat → List AV
  | 0, _ => []
  | n + 1, i => fillG slots l i :: fillR slots l n (Nat.succ i)
def fillX (n : Nat) (slots : List Nat) (l : List AV) : List AV := fillR slots l n 0
def noDs (ds : List ADef) (x : Prop) : Prop := match ds with | [] => x | _ => False
/-- A piece, called with what is alive. -/
def orcX (n : Nat) (slots : List Nat) (τ : List Ty) (f : FnT (AH → Prop) τ) : PcF := fun env ds H =>
  bT (Nat.beq env.length n) (noDs ds (appT τ f (slots.map fun s => env.getD s .pois) fun r => r H))
def callT : List (Nat × FnA) → CallA
  | [], _, _, _, _ => False
  | (m, F) :: r, g, args, H, K => bif Nat.beq m g then F args H K else callT r g args H K
def noCD : CallDA := fun _ _ _ _ _ => False
def fnX (τ : List Ty) (sh : FnT (AH → KF → Prop) τ) : FnA := fun args H K => appT τ sh args fun r => r H K
end

theorem onB_out {v : AV} {k : Bool → Prop} (h : onB v k) : ∃ z, v = .bool z ∧ k z := by
  cases v <;> first | exact h.elim | exact ⟨_, rfl, h⟩
theorem appT_out {R : Type} : ∀ {τ : List Ty} {f : FnT R τ} {l : List AV} {k : R → Prop} {p : R → List AV → Prop}, appT τ f l k → AllT τ f p → ∃ r, k r ∧ p r l
  | [], f, l, k, p, h, g => by
    unfold appT at h
    split at h
    · exact ⟨f, h, g⟩
    · exact h.elim
  | .i q :: τ, f, l, k, p, h, g => by
    unfold appT at h
    split at h
    · obtain ⟨c, z, rfl, h⟩ := onInt_out h
      obtain ⟨e, h⟩ := bT_out h
      rw [Nat.eq_of_beq_eq_true e]
      exact appT_out (p := fun r l => p r (.int q z :: l)) h (g z)
    · exact h.elim
  | .b :: τ, f, l, k, p, h, g => by
    unfold appT at h
    split at h
    · obtain ⟨z, rfl, h⟩ := onB_out h
      exact appT_out (p := fun r l => p r (.bool z :: l)) h (g z)
    · exact h.elim
  | .a :: τ, f, l, k, p, h, g => by
    unfold appT at h
    split at h
    · rename_i v l
      exact appT_out (p := fun r l => p r (v :: l)) h (g v)
    · exact h.elim
theorem AllT.imp {R : Type} : ∀ {τ : List Ty} {f : FnT R τ} {p q : R → List AV → Prop}, (∀ r l, p r l → q r l) → AllT τ f p → AllT τ f q
  | [], _, _, _, h, g => h _ _ g
  | .i _ :: _, _, _, _, h, g => fun z => AllT.imp (fun r l => h r _) (g z)
  | .b :: _, _, _, _, h, g => fun z => AllT.imp (fun r l => h r _) (g z)
  | .a :: _, _, _, _, h, g => fun z => AllT.imp (fun r l => h r _) (g z)

theorem fillR_len (s : List Nat) (l : List AV) : ∀ n i, (fillR s l n i).length = n
  | 0, _ => rfl
  | n + 1, i => by simp [fillR, fillR_len s l n]
theorem fillR_get (s : List Nat) (l : List AV) : ∀ n i j, j < n → (fillR s l n i)[j]? = some (fillG s l (i + j))
  | 0, _, _, h => absurd h (by omega)
  | n + 1, i, 0, _ => by simp [fillR]
  | n + 1, i, j + 1, h => by
    simp only [fillR, List.getElem?_cons_succ]
    rw [fillR_get s l n (Nat.succ i) j (by omega), Nat.succ_eq_add_one, Nat.add_assoc, Nat.add_comm 1 j]
theorem fillG_env (env : List AV) : ∀ (s : List Nat) (i : Nat), fillG s (s.map fun t => env.getD t .pois) i = env.getD i .pois ∨ fillG s (s.map fun t => env.getD t .pois) i = .pois
  | [], i => .inr (by simp [fillG])
  | t :: s, i => by
    simp only [List.map_cons, fillG]
    cases h : Nat.beq t i with
    | true => rw [Nat.eq_of_beq_eq_true h]; exact .inl rfl
    | false => exact fillG_env env s i

variable {P : Program}
theorem VL.weak {f : Emb} : ∀ {env env' : List AV} {vs : List Value}, VL f env vs → env'.length = env.length → (∀ i, i < env.length → env'[i]? = env[i]? ∨ env'[i]? = some .pois) → VL f env' vs
  | _, [], _, .nil, _, _ => .nil
  | _, _ :: _, _, .nil, h, _ => by simp at h
  | _, [], _, .cons _ _ _ _ _ _, h, _ => by simp at h
  | _, b :: env', _, .cons a v as vs h1 h2, h, hi => by
    have h0 := hi 0 (by simp)
    refine .cons b v _ _ ?_ (VL.weak h2 (by simpa using h) fun i hl => by have := hi (i + 1) (by simpa using hl); simpa using this)
    simp at h0
    rcases h0 with rfl | rfl
    · exact h1
    · exact .pois v
theorem SAt.weak {body : Code} {K : KT} {p : List Nat} {env env' : List AV} {ds : List ADef} {H : AH} (h : SAt P body K p env' ds H) (hl : env'.length = env.length) (hi : ∀ i, i < env.length → env'[i]? = env[i]? ∨ env'[i]? = some .pois) :
    SAt P body K p env ds H := by
  obtain ⟨c, st, h1, n, o, e2, d2, H2, h3, h4⟩ := h
  exact ⟨c, st, h1, n, o, e2, d2, H2, h3, fun f w a hr ha hd Q hQ => h4 f w a hr ⟨ha.tmps.weak hl hi, ha.glob⟩ hd Q hQ⟩

/-- A piece's law. -/
def PcOk (P : Program) (body : Code) (K : KT) (p : List Nat) (n : Nat) (slots : List Nat) (τ : List Ty) (f : FnT (AH → Prop) τ) : Prop := AllT τ f fun r l => ∀ H, r H → SAt P body K p (fillX n slots l) [] H
theorem orc_ok {body : Code} {K : KT} {p : List Nat} {n : Nat} {slots : List Nat} {τ : List Ty} {f : FnT (AH → Prop) τ} (h : PcOk P body K p n slots τ f) : ∀ env ds H, orcX n slots τ f env ds H → SAt P body K p env ds H := by
  intro env ds H hh
  obtain ⟨hl, hh⟩ := bT_out hh
  unfold noDs at hh
  split at hh
  · obtain ⟨r, h1, h2⟩ := appT_out hh h
    have hl := Nat.eq_of_beq_eq_true hl
    refine (h2 H h1).weak (by rw [fillX, fillR_len, hl]) fun i hi => ?_
    rw [fillX, fillR_get _ _ _ _ _ (by omega), Nat.zero_add]
    rcases fillG_env env slots i with e | e
    · rw [e]; left; simp [List.getD_eq_getElem?_getD, hi]
    · rw [e]; exact .inr rfl
  · exact hh.elim

def GlobOk (P : Program) (f : Emb) : Prop := ∀ g, g < P.globals.size → f.dom g ∧ f.blk g = g ∧ f.off g = 0
/-- A function's law. -/
def FunOk (P : Program) (g : Nat) (F : FnA) : Prop := hasBody P g = true → ∀ args H K, F args H K → ∃ o H', K o H' ∧ ∀ f w (vs : Array Value), HR f H w → GlobOk P f → VL f args vs.toList → Calls P g vs w (CPost f H w o H')
def CTblOk (P : Program) (t : List (Nat × FnA)) : Prop := ∀ e ∈ t, FunOk P e.1 e.2
theorem CTblOk.nil : CTblOk P [] := fun e h => by simp at h
theorem CTblOk.cons {g : Nat} {F : FnA} {t : List (Nat × FnA)} (h : FunOk P g F) (ht : CTblOk P t) : CTblOk P ((g, F) :: t) := fun e he => by
  rcases List.mem_cons.1 he with rfl | he
  · exact h
  · exact ht e he
theorem callT_ok : ∀ {t : List (Nat × FnA)}, CTblOk P t → CallsOk P (callT t)
  | [], _ => fun _ _ _ _ _ h => h.elim
  | (m, F) :: r, ht => fun g args H K hb h => by
    unfold callT at h
    cases e : Nat.beq m g with
    | true =>
      rw [e] at h
      have := Nat.eq_of_beq_eq_true e
      subst this
      exact ht (m, F) (by simp) hb args H K h
    | false =>
      rw [e] at h
      exact callT_ok (fun e he => ht e (List.mem_cons_of_mem _ he)) g args H K hb h

theorem noCD_ok : CallDOk P noCD := fun _ _ _ _ _ _ h => h.elim
/-- A function whose root piece goes well. -/
theorem FunOk.of_root {g : Nat} {fn : Func} {body : Code} (hf : P.funcs[g]? = some fn) (hc : fn.body = some body) {τ : List Ty} {sh : FnT (AH → KF → Prop) τ}
    (h : ∀ K, AllT τ sh fun r l => ∀ H, r H K → SAt P body (finK P noCD fn K) [] (frameA fn l) [] H) : FunOk P g (fnX τ sh) := by
  intro _ args H K hh
  obtain ⟨r, h1, h2⟩ := appT_out hh (h K)
  obtain ⟨c, st, h3, n, o, env', ds', H', h4, h5⟩ := h2 H h1
  simp only [subX, Option.some.injEq, Prod.mk.injEq] at h3
  obtain ⟨rfl, rfl⟩ := h3
  have key : ∀ (M : AMode), leavesA P noCD fn env' ds' M H' K →
      (∀ (f : Emb) (H0 : AH) w (R : Ending → World → Prop) e a w', XPost P f H0 w o env' ds' H' e a w' → (∀ f' u, Step f H0 w f' H' w' → AR P f' env' a → DR f' ds' a.defers → MR f' M u → Leaves P fn a.tmps R a.defers u w') → bodyPostD P fn R e a w') →
      ∃ o H', K o H' ∧ ∀ f w (vs : Array Value), HR f H w → GlobOk P f → VL f args vs.toList → Calls P g vs w (CPost f H w o H') := fun M hl hb => by
    obtain ⟨co, H2, g1, g2⟩ := leavesA_ok noCD_ok _ _ _ hl
    refine ⟨co, H2, g1, fun f w vs hr hg hv => calls_of_wp_defers hf hc (wpL_wp (h5 f w _ hr (frameA_ok hv hg) .nil _ fun e a' w' hp => hb f H w _ e a' w' hp fun f' u s ha hd hm => ?_))⟩
    exact Leaves.mono (fun e w h => h.after s) _ _ _ (g2 f' w' a' a'.defers u s.rel ha hd hm)
  cases o with
  | normal => exact key .ret h4 fun f H0 w R e a w' hp hl => by obtain ⟨f', s, y1, y2, rfl⟩ := hp; exact hl f' _ s y1 y2 rfl
  | ret => exact key .ret h4 fun f H0 w R e a w' hp hl => by obtain ⟨f', s, y1, y2, rfl⟩ := hp; exact hl f' _ s y1 y2 rfl
  | pan v => exact key (.pan v) h4 fun f H0 w R e a w' hp hl => by obtain ⟨f', s, y1, y2, ch, rfl, hp⟩ := hp; exact hl f' _ s y1 y2 ⟨ch, rfl, hp⟩
  | exit => exact h4.elim
  | goto => exact h4.elim
/-- A function as the interpreter carries it out. -/
theorem FunOk.of_callS {g : Nat} {t : List (Nat × FnA)} (ht : CTblOk P t) (hm : P.follows .mixedOrders = true) (N d : Nat) : FunOk P g (callS (callT t) (drawA P (callT t)) P P.globals.size N d g) :=
  fun hb args H K h => callS_ok (callT_ok ht) (drawA_ok hm _ (callT_ok ht)) N d g args H K hb h
end Go.X

namespace Go.X
section
/-- How a call's outcome goes on. -/
def cR (K : KF) (o : COut) (H : AH) (k : AV → Prop) : Prop := cOut o k fun v => K (.pan v) H
def cF (o : COut) (k : AV → Prop) : Prop := cOut o k fun _ => False
/-- Two places of so many cells that do not meet. -/
def apartN (m n : Nat) (p q : AV) (x : Prop) : Prop := onPtr p fun b o => onPtr q fun b' o' => bT (!(Nat.beq b b') || (Nat.ble (Nat.add o m) o' || Nat.ble (Nat.add o' n) o)) x
/-- An integer of a kind. -/
def cI (q : Nat) (v : AV) (k : Int → Prop) : Prop := onInt v fun c z => bT (Nat.beq c q) (k z)
def empF : (τ : List Ty) → FnT (AH → KF → Prop) τ
  | [] => fun _ _ => False
  | .i _ :: τ => fun _ => empF τ
  | .b :: τ => fun _ => empF τ
  | .a :: τ => fun _ => empF τ
end
variable {P : Program}
theorem empF_all : ∀ (τ : List Ty), AllT τ (empF τ) fun r _ => ∀ H K, ¬ r H K
  | [] => fun _ _ h => h
  | .i _ :: τ => fun _ => (empF_all τ).imp fun _ _ h => h
  | .b :: τ => fun _ => (empF_all τ).imp fun _ _ h => h
  | .a :: τ => fun _ => (empF_all τ).imp fun _ _ h => h
theorem empF_ok {g : Nat} (τ : List Ty) : FunOk P g (fnX τ (empF τ)) := fun _ args H K h => by
  obtain ⟨r, h1, h2⟩ := appT_out h (empF_all τ)
  exact (h2 H K h1).elim
theorem FunOk.of_list {g : Nat} {τ : List Ty} {sh : FnT (AH → KF → Prop) τ} {F : FnA} (hF : FunOk P g F) (h : ∀ H K, AllT τ sh fun r l => r H K → F l H K) : FunOk P g (fnX τ sh) := fun hb args H K hh => by
  obtain ⟨r, h1, h2⟩ := appT_out hh (h H K)
  exact hF hb args H K (h2 h1)
end Go.X

namespace Go.X
/-! ### What goes on with more goes on with less -/
theorem forceN_mono {n : Nat} {k k' : Nat → Prop} (h : forceN n k) (hk : ∀ m, k m → k' m) : forceN n k' := by rw [forceN_eq] at *; exact hk _ h
theorem forceI_mono {n : Int} {k k' : Int → Prop} (h : forceI n k) (hk : ∀ m, k m → k' m) : forceI n k' := by rw [forceI_eq] at *; exact hk _ h
theorem bT_mono {b : Bool} {x y : Prop} (h : bT b x) (hk : x → y) : bT b y := by obtain ⟨rfl, h⟩ := bT_out h; exact hk h
theorem Bt.setK_mono {α : Type} (t : Bt α) : ∀ (i : Nat) (v : α) (k k' : Bt α → Prop), t.setK i v k → (∀ t, k t → k' t) → t.setK i v k' := by
  induction t with
  | e =>
    intro i v k k' h hk
    cases i with
    | zero => exact hk _ h
    | succ j => exact h
  | n u l r il ir =>
    intro i v k k' h hk
    cases i with
    | zero => exact hk _ h
    | succ j =>
      change @Nat.rec (fun _ => Prop) (l.setK (j/2) v (fun l' => k (.n u l' r))) (fun _ _ => r.setK (j/2) v (fun r' => k (.n u l r'))) (j % 2) at h
      change @Nat.rec (fun _ => Prop) (l.setK (j/2) v (fun l' => k' (.n u l' r))) (fun _ _ => r.setK (j/2) v (fun r' => k' (.n u l r'))) (j % 2)
      rcases Nat.mod_two_eq_zero_or_one j with e | e
      · rw [e] at h ⊢
        exact il _ _ _ _ h fun _ h => hk _ h
      · rw [e] at h ⊢
        exact ir _ _ _ _ h fun _ h => hk _ h
theorem storeL_mono : ∀ (l : List AV) (c : Bt AV) (o : Nat) (k k' : Bt AV → Nat → Prop), storeL l c o k → (∀ c n, k c n → k' c n) → storeL l c o k'
  | [], _, _, _, _, h, hk => hk _ _ h
  | a :: l, c, o, k, k', h, hk => by
    have h : bT a.one (c.setK o a fun c' => forceN (Nat.succ o) fun o' => storeL l c' o' k) := h
    show bT a.one (c.setK o a fun c' => forceN (Nat.succ o) fun o' => storeL l c' o' k')
    exact bT_mono h fun h => Bt.setK_mono _ _ _ _ _ h fun _ h => forceN_mono h fun _ h => storeL_mono l _ _ _ _ h hk
theorem newK_mono {H : AH} {o : AObj} {k k' : Nat → AH → Prop} (h : newK H o k) (hk : ∀ n H, k n H → k' n H) : newK H o k' :=
  Bt.setK_mono _ _ _ _ _ h fun _ h => forceN_mono h fun _ h => hk _ _ h
theorem pNewS_mono {H : AH} {n sz : Nat} {l : List AV} {k k' : AV → AH → Prop} (h : pNewS (newK H) n sz l k) (hk : ∀ v H, k v H → k' v H) : pNewS (newK H) n sz l k' :=
  storeL_mono _ _ _ _ _ h fun _ _ h => bT_mono h fun h => newK_mono h fun _ _ h => hk _ _ h
theorem pNew_mono {H : AH} {l : List AV} {k k' : AV → AH → Prop} (h : pNew (newK H) l k) (hk : ∀ v H, k v H → k' v H) : pNew (newK H) l k' :=
  storeL_mono _ _ _ _ _ h fun _ _ h => newK_mono h fun _ _ h => hk _ _ h
theorem pLen_mono {s : AV} {k k' : AV → Prop} (h : pLen s k) (hk : ∀ v, k v → k' v) : pLen s k' := by
  rcases onSliceT_out h with ⟨rfl, h⟩ | ⟨b, o, l, c, q, x, rfl, h⟩ <;> exact hk _ h
theorem cI_mono {q : Nat} {v : AV} {k k' : Int → Prop} (h : cI q v k) (hk : ∀ z, k z → k' z) : cI q v k' := by
  obtain ⟨c, z, rfl, h⟩ := onInt_out h
  exact bT_mono h fun h => hk _ h
theorem onB_mono {v : AV} {k k' : Bool → Prop} (h : onB v k) (hk : ∀ z, k z → k' z) : onB v k' := by
  obtain ⟨z, rfl, h⟩ := onB_out h
  exact hk _ h
theorem bI_mono {b : Bool} {x y x' y' : Prop} (h : bI b x y) (hx : x → x') (hy : y → y') : bI b x' y' := by
  rcases bI_out h with ⟨rfl, h⟩ | ⟨rfl, h⟩
  · exact hx h
  · exact hy h
theorem wrapK_intro {c : Nat} {z : Int} {k : Int → Prop} (h : k ((kd c).wrap z)) : wrapK c z k := by
  unfold wrapK
  cases z with
  | ofNat n =>
    show bI (sgn c) (bI (Nat.ble (half c) n) (forceI (wrapZ c (.ofNat n)) k) (forceN n fun m => k (.ofNat m))) (forceN (Nat.mod n (full c)) fun m => k (.ofNat m))
    simp only [forceI_eq, forceN_eq, wrapZ_eq]
    cases hs : sgn c with
    | true =>
      show bI (Nat.ble (half c) n) _ _
      cases hb : Nat.ble (half c) n with
      | true => exact h
      | false =>
        have hb' : ¬ half c ≤ n := fun hle => by rw [Nat.ble_eq_true_of_le hle] at hb; cases hb
        rw [wrap_small hs (by have : (Int.ofNat n : Int) = (n : Int) := rfl; omega) (by have : (Int.ofNat n : Int) = (n : Int) := rfl; omega)] at h
        exact h
    | false =>
      rw [wrap_unsigned hs] at h
      exact h
  | negSucc n =>
    show bI (sgn c) (bI (Nat.ble (half c) n) (forceI (wrapZ c (.negSucc n)) k) (forceN n fun m => k (.negSucc m))) (forceI (wrapZ c (.negSucc n)) k)
    simp only [forceI_eq, forceN_eq, wrapZ_eq]
    cases hs : sgn c with
    | true =>
      show bI (Nat.ble (half c) n) _ _
      cases hb : Nat.ble (half c) n with
      | true => exact h
      | false =>
        have hb' : ¬ half c ≤ n := fun hle => by rw [Nat.ble_eq_true_of_le hle] at hb; cases hb
        rw [wrap_small hs (by omega) (by omega)] at h
        exact h
    | false => exact h
end Go.X
