/- A machine over values and memory of its own, and that what it does the model does: a tool of this claim. No condition: definitions and lemmas. -/
import Derived.Test.YtcdiojlpmgfmeaaGreatDoorXd
import Derived.Below
import Derived.Lib.Repeat
import Derived.Lib.Join
set_option linter.unusedVariables false
set_option linter.unusedSimpArgs false
namespace Go.X
noncomputable section
/-- Where exits and jumps go. -/
abbrev Xx (D d : Nat) : Type := ((Nat → Kn D d) → (Nat → Kn D d) → Prop) → Prop
def mkX {D d : Nat} (kx kg : Nat → Kn D d) : Xx D d := fun s => s kx kg
structure Cl (D d : Nat) where
  run : Fx D d → Xx D d → Kn D d → ETr d → Hs D → Prop
structure LbC (D d : Nat) where
  run : (Cl D d → Prop) → Prop → Prop
section
variable {D d : Nat}
def loopF (M : Nat) (c : Cl D d) (X : Xx D d) : Kn D d := @Nat.rec (fun _ => Kn D d) (fun _ _ _ => False) (fun _ ih F e h => c.run F X ih e h) M
def lbC (f : Code → Cl D d) (r : Option Code) : LbC D d := match r with | some r => ⟨fun k _ => k (f r)⟩ | none => ⟨fun _ x => x⟩
def scopeF (M : Nat) (lb : Nat → LbC D d) (X : Xx D d) (kn : Kn D d) : Cl D d → Kn D d :=
  @Nat.rec (fun _ => Cl D d → Kn D d) (fun _ _ _ _ => False) (fun _ ih r F e h => r.run F (fun s => X fun kx kg => s kx (fun l F e h => (lb l).run (fun r => ih r F e h) (kg l F e h))) kn e h) M
end
variable (P : Program) (G D N d M : Nat)
def codeS (ih : Code → Cl D d) (c : Code) : Cl D d :=
  match c with
  | .skip => ⟨fun F _ kn e h => kn F e h⟩
  | .region _ ops draw => @Bool.rec (fun _ => Cl D d) ⟨fun F _ kn e h => (rgC P G D N d ops ops.toList).run kn F e h⟩ ⟨fun F _ kn e h => (drawC P G D N d ops).run kn F e h⟩ draw
  | .seq a b => ⟨fun F X kn e h => (ih a).run F X (fun F e h => (ih b).run F X kn e h) e h⟩
  | .cond x a b => ⟨fun F X kn e h => (opdC G d x).get (fun v => v ((ih a).run F X kn e h) ((ih b).run F X kn e h) N1 N1 N2 N2 N2 N6 NL NL NO) e⟩
  | .block id c => ⟨fun F X kn e h => X fun kx kg => (ih c).run F (fun s => s (fun i F e h => bI (Nat.beq i id) (kn F e h) (kx i F e h)) kg) kn e h⟩
  | .loop c => ⟨fun F X _ e h => loopF M (ih c) X F e h⟩
  | .exit id => ⟨fun F X _ e h => X fun kx _ => kx id F e h⟩
  | .goto l => ⟨fun F X _ e h => X fun _ kg => kg l F e h⟩
  | .label _ => ⟨fun F _ kn e h => kn F e h⟩
  | .scope c => ⟨fun F X kn e h => scopeF M (fun l => lbC ih (findLabel c l)) X kn (ih c) F e h⟩
  | .ret => ⟨fun F _ _ e h => F fun _ kr _ ds => kr e ds h⟩
  | _ => ⟨fun _ _ _ _ _ => False⟩
def codeC (n : Nat) : Code → Cl D d := @Nat.rec (fun _ => Code → Cl D d) (fun _ => ⟨fun _ _ _ _ _ => False⟩) (fun _ ih => codeS P G D N d M ih) n
end

section
variable {P : Program} {D N d M : Nat}
/-- A closure goes as its code. -/
def ClOk (P : Program) (N : Nat) (C : CallF D) (kr : ETr d → List ADef → Hs D → Prop) (kp : V → ETr d → List ADef → Hs D → Prop) (cl : Cl D d) (c : Code) : Prop :=
  ∀ (kx kg : Nat → Kn D d) (kn : Kn D d) ds e env hs H, RepE N d e env → RepH hs H → cl.run (mkF C kr kp ds) (mkX kx kg) kn e hs → SOk P env ds H (KS N kn kx kg C kr kp) fun a w Q => c.wp P Q a w
variable {C : CallF D} {kr : ETr d → List ADef → Hs D → Prop} {kp : V → ETr d → List ADef → Hs D → Prop}
def KN (N : Nat) (kn : Kn D d) (C : CallF D) (kr : ETr d → List ADef → Hs D → Prop) (kp : V → ETr d → List ADef → Hs D → Prop) : List AV → List ADef → AH → Prop := fun env ds H => ∃ e hs, RepE N d e env ∧ RepH hs H ∧ kn (mkF C kr kp ds) e hs
theorem KS_then (kn kn' : Kn D d) (kx kg : Nat → Kn D d) : KS N kn kx kg C kr kp = thenK (KN N kn C kr kp) (KS N kn' kx kg C kr kp) := by
  funext o env ds H
  cases o <;> rfl
theorem loopF_ok {cl : Cl D d} {c : Code} (hc : ClOk P N C kr kp cl c) (kx kg : Nat → Kn D d) (kn : Kn D d) : ∀ (M : Nat) ds e env hs H, RepE N d e env → RepH hs H → loopF M cl (mkX kx kg) (mkF C kr kp ds) e hs → SOk P env ds H (KS N kn kx kg C kr kp) fun a w Q => LI P c Q M a w
  | 0, _, _, _, _, _, _, _, h => h.elim
  | M + 1, ds, e, env, hs, H, he, hr, h => by
    have g := hc kx kg (loopF M cl (mkX kx kg)) ds e env hs H he hr h
    rw [KS_then _ kn] at g
    exact thenK_ok g (fun env ds H ⟨e, hs, he, hr, h⟩ => loopF_ok hc kx kg kn M ds e env hs H he hr h) (fun _ _ _ h => h)
theorem scopeF_ok {ih : Code → Cl D d} (hi : ∀ c, ClOk P N C kr kp (ih c) c) (c : Code) (kx kg : Nat → Kn D d) (kn : Kn D d) : ∀ (M : Nat) (r : Code) ds e env hs H, RepE N d e env → RepH hs H →
    scopeF M (fun l => lbC ih (findLabel c l)) (mkX kx kg) kn (ih r) (mkF C kr kp ds) e hs → SOk P env ds H (KS N kn kx kg C kr kp) fun a w Q => ScI P c Q M r a w
  | 0, _, _, _, _, _, _, _, _, h => h.elim
  | M + 1, r, ds, e, env, hs, H, he, hr, h => by
    have g := hi r kx (fun l F e h => (lbC ih (findLabel c l)).run (fun r => scopeF M (fun l => lbC ih (findLabel c l)) (mkX kx kg) kn r F e h) (kg l F e h)) kn ds e env hs H he hr h
    refine SOk.bind g (fun e a w Q => match e with | .goto l => (match findLabel c l with | some r' => ScI P c Q M r' a w | none => Q (.goto l) a w) | e => Q e a w) (fun o env1 ds1 H1 hh => ?_) (fun a w Q hh => hh)
    cases o with
    | normal => exact .inl ⟨hh, fun e a w Q he hq => by cases he; exact hq⟩
    | exit id => exact .inl ⟨hh, fun e a w Q he hq => by cases he; exact hq⟩
    | ret => exact .inl ⟨hh, fun e a w Q he hq => by cases he; exact hq⟩
    | pan v => exact .inl ⟨hh, fun e a w Q he hq => by obtain ⟨ch, rfl⟩ := he; exact hq⟩
    | goto l =>
      obtain ⟨e1, hs1, he1, hr1, hh⟩ := hh
      simp only at hh
      cases hf : findLabel c l with
      | none =>
        rw [hf] at hh
        exact .inl ⟨⟨e1, hs1, he1, hr1, hh⟩, fun e a w Q he hq => by cases he; simp only [hf]; exact hq⟩
      | some r' =>
        rw [hf] at hh
        refine .inr ⟨.goto l, fun e' h => h, ?_⟩
        simp only [hf]
        exact scopeF_ok hi c kx kg kn M r' ds1 e1 env1 hs1 H1 he1 hr1 hh

theorem codeS_ok (hmx : P.follows .mixedOrders = true) (hC : CallFOk P C) {ih : Code → Cl D d} (hi : ∀ c, ClOk P N C kr kp (ih c) c) (c : Code) : ClOk P N C kr kp (codeS P P.globals.size D N d M ih c) c := by
  intro kx kg kn ds e env hs H he hr h
  have here : kn (mkF C kr kp ds) e hs → KS N kn kx kg C kr kp .normal env ds H := fun h => ⟨e, hs, he, hr, h⟩
  cases c with
  | skip => exact SOk.done (here h) .normal (.inl ⟨rfl, rfl⟩) fun a w Q h => wp_skip h
  | region id ops draw =>
    cases draw with
    | true => exact drawC_ok hmx hC he hr h
    | false => exact (rgC_ok hC _ he hr h).mono (fun f a w Q _ h => wp_region_list h) fun _ _ _ _ h => h
  | seq a b =>
    have g := hi a kx kg (fun F e h => (ih b).run F (mkX kx kg) kn e h) ds e env hs H he hr h
    rw [KS_then _ kn] at g
    exact thenK_ok g (fun env ds H ⟨e, hs, he, hr, h⟩ => hi b kx kg kn ds e env hs H he hr h) fun a w Q h => wp_seq h
  | cond x a b =>
    have h := opdC_out he h
    have hc : ∀ {t : Bool}, aev P.globals.size env x = .bool t → ∀ {f : Emb} {a : Act}, AR P f env a → a.eval x = .bool t := fun {t} hv {f act} ha => by
      have := aev_ok ha x
      rw [hv] at this
      generalize act.eval x = u at this
      cases this; rfl
    have g := enc_cases h
    rcases g with ⟨e1, g⟩ | ⟨e1, g⟩ | ⟨n, _, g⟩ | ⟨n, _, g⟩ | ⟨c, n, _, _, g⟩ | ⟨n, x, _, g⟩ | ⟨b, o, _, g⟩ | ⟨b, o, l, c, s, x, _, g⟩ | ⟨l, _, g⟩ | ⟨l, _, g⟩ | ⟨_, g⟩ <;> try exact g.elim
    · exact (hi a kx kg kn ds e env hs H he hr g).mono (fun f a w Q ha h => wp_cond (hc e1 ha) h) fun _ _ _ _ h => h
    · exact (hi b kx kg kn ds e env hs H he hr g).mono (fun f a w Q ha h => wp_cond (hc e1 ha) h) fun _ _ _ _ h => h
  | block id c =>
    have g := hi c (fun i F e h => bI (Nat.beq i id) (kn F e h) (kx i F e h)) kg kn ds e env hs H he hr h
    refine SOk.bind g (fun e a w Q => Exit.inBlock id Q e a w) (fun o env1 ds1 H1 hh => ?_) (fun a w Q hh => wp_block hh)
    cases o with
    | normal => exact .inl ⟨hh, fun e a w Q he hq => by cases he; exact hq⟩
    | exit i =>
      obtain ⟨e1, hs1, he1, hr1, hh⟩ := hh
      rcases bI_out hh with ⟨hi, hh⟩ | ⟨hi, hh⟩
      · refine .inr ⟨.exit i, fun e' h => h, SOk.done (o := .normal) ⟨e1, hs1, he1, hr1, hh⟩ .normal (.inl ⟨rfl, rfl⟩) fun a w Q hq => ?_⟩
        simp only [Exit.inBlock]
        rw [if_pos (Nat.eq_of_beq_eq_true hi)]
        exact hq
      · refine .inl ⟨⟨e1, hs1, he1, hr1, hh⟩, fun e a w Q he hq => ?_⟩
        cases he
        simp only [Exit.inBlock]
        rw [if_neg (fun e => by subst e; simp at hi)]
        exact hq
    | goto l => exact .inl ⟨hh, fun e a w Q he hq => by cases he; exact hq⟩
    | ret => exact .inl ⟨hh, fun e a w Q he hq => by cases he; exact hq⟩
    | pan v => exact .inl ⟨hh, fun e a w Q he hq => by obtain ⟨ch, rfl⟩ := he; exact hq⟩
  | loop c => exact (loopF_ok (hi c) kx kg kn M ds e env hs H he hr h).mono (fun f a w Q _ h => wp_loop_rounds h) fun _ _ _ _ h => h
  | exit id => exact SOk.done (o := .exit id) ⟨e, hs, he, hr, h⟩ (.exit id) (.inr (.inl ⟨id, rfl, rfl⟩)) fun a w Q h => wp_exit h
  | goto l => exact SOk.done (o := .goto l) ⟨e, hs, he, hr, h⟩ (.goto l) (.inr (.inr (.inl ⟨l, rfl, rfl⟩))) fun a w Q h => wp_goto h
  | label l => exact SOk.done (here h) .normal (.inl ⟨rfl, rfl⟩) fun a w Q h => wp_label h
  | scope c => exact (scopeF_ok hi c kx kg kn M c ds e env hs H he hr h).mono (fun f a w Q _ h => wp_scope_jumps' h) fun _ _ _ _ h => h
  | ret => exact SOk.done (o := .ret) ⟨e, hs, he, hr, h⟩ .ret (.inr (.inr (.inr ⟨rfl, rfl⟩))) fun a w Q h => wp_ret h
  | rangeFunc => exact (show False from h).elim
  | refuse => exact (show False from h).elim
theorem codeC_ok (hmx : P.follows .mixedOrders = true) (hC : CallFOk P C) : ∀ (n : Nat) (c : Code), ClOk P N C kr kp (codeC P P.globals.size D N d M n c) c
  | 0, _ => fun _ _ _ _ _ _ _ _ _ _ h => (show False from h).elim
  | n + 1, c => codeS_ok hmx hC (codeC_ok hmx hC n) c
end
end Go.X

namespace Go.X
noncomputable section
structure RsC (D d : Nat) where
  run : (List AV → Prop) → ETr d → Hs D → Prop
structure ReC (D d : Nat) where
  run : (V → Prop) → ETr d → Hs D → Prop
/-- A frame of which all is undefined. -/
def unB (d : Nat) : TB (ETr d) := @Nat.rec (fun d => TB (ETr d)) ⟨(fun _ _ _ _ _ _ _ _ _ h _ => h [])⟩ (fun _ ih => ⟨fun s => s ih.t ih.t ih.t ih.t ih.t ih.t ih.t ih.t⟩) d
/-- A frame out of its first branch. -/
def frC (a : ETr 1) (d : Nat) : ETr (d + 1) := @Nat.rec (fun d => ETr (d + 1)) a (fun d t s => s t (unB (Nat.succ d)).t (unB (Nat.succ d)).t (unB (Nat.succ d)).t (unB (Nat.succ d)).t (unB (Nat.succ d)).t (unB (Nat.succ d)).t (unB (Nat.succ d)).t) d
def frD (n : Nat) : Nat := bif Nat.ble n 8 then 0 else bif Nat.ble n 64 then 1 else bif Nat.ble n 512 then 2 else 3
structure FrC (d : Nat) where
  run : ETr 1 → (ETr (d + 1) → Prop) → Prop
def frK (d : Nat) : FrC d :=
  match d with
  | 0 => ⟨fun a k => k a⟩
  | 1 => ⟨fun a k => k fun s => s a (unB 1).t (unB 1).t (unB 1).t (unB 1).t (unB 1).t (unB 1).t (unB 1).t⟩
  | 2 => ⟨fun a k => k fun s => s (fun s => s a (unB 1).t (unB 1).t (unB 1).t (unB 1).t (unB 1).t (unB 1).t (unB 1).t) (unB 2).t (unB 2).t (unB 2).t (unB 2).t (unB 2).t (unB 2).t (unB 2).t⟩
  | 3 => ⟨fun a k => k fun s => s (fun s => s (fun s => s a (unB 1).t (unB 1).t (unB 1).t (unB 1).t (unB 1).t (unB 1).t (unB 1).t) (unB 2).t (unB 2).t (unB 2).t (unB 2).t (unB 2).t (unB 2).t (unB 2).t) (unB 3).t (unB 3).t (unB 3).t (unB 3).t (unB 3).t (unB 3).t (unB 3).t⟩
  | _ => ⟨fun _ _ => False⟩
section
variable (P : Program) (G D N d M : Nat)
def ldC (t : TypeId) (x : Operand) : OpC D d :=
  match P.underlying t, P.info? t with
  | some _, some i => @Bool.rec (fun _ => OpC D d) ⟨fun k e h => (opdC G d x).get (fun a => sLoad D a h fun v => k v h) e⟩ ⟨fun k e h => (opdC G d x).get (fun a => sLoadN D i.size a h fun v => k v h) e⟩ (aggT P t)
  | _, _ => failO D d
def rsC (l : List ResultVar) : RsC D d :=
  @List.rec ResultVar (fun _ => RsC D d) ⟨fun k _ _ => k []⟩ (fun r _ ih => match r with
    | .tmp t => ⟨fun k e h => (opdC G d (.tmp t)).get (fun v => dec v fun a => ih.run (fun l => k (a :: l)) e h) e⟩
    | .cell a t => ⟨fun k e h => (ldC P G D d t (.tmp a)).run (fun v _ => dec v fun a => ih.run (fun l => k (a :: l)) e h) e h⟩) l
def reC (l : List ResultVar) : ReC D d :=
  match l with
  | [.tmp t] => ⟨fun k e _ => (opdC G d (.tmp t)).get k e⟩
  | [.cell a t] => ⟨fun k e h => (ldC P G D d t (.tmp a)).run (fun v _ => k v) e h⟩
  | l => ⟨fun k e h => (rsC P G D d l).run (fun l => k (fun _ _ _ _ _ _ _ _ _ h _ => h l)) e h⟩

/-! ### Put-off calls -/
/-- Code of a put-off call: what it does to the panic under way goes along. -/
structure ClR (D d : Nat) where
  run : CallF D → (V → AMode → ETr d → List ADef → Hs D → Prop) → (AMode → ETr d → List ADef → Hs D → Prop) → (AMode → ETr d → List ADef → Hs D → Prop) → AMode → ETr d → List ADef → Hs D → Prop
def recM (M : AMode) (k : V → AMode → Prop) : Prop := match M with | .pan v => k (encB v).v (.caught v) | M => k (fun _ _ _ _ _ _ _ _ _ _ h => h .niface) M
def rgR (l : List Oper) : ClR D d :=
  @List.rec Oper (fun _ => ClR D d) ⟨fun _ _ _ kn u e ds h => kn u e ds h⟩
    (fun o _ ih => @Bool.rec (fun _ => ClR D d) ⟨fun _ _ _ _ _ _ _ _ => False⟩ (@Bool.rec (fun _ => ClR D d)
      ⟨fun C kp kr kn u e ds h => (vopC P G D d o).run (fun v h => (putC N d o.dst).run v (fun e => ih.run C kp kr kn u e ds h) e) (fun v h => kp v u e ds h) C e h⟩
      ⟨fun C kp kr kn u e ds h => recM u fun v u => (putC N d o.dst).run v (fun e => ih.run C kp kr kn u e ds h) e⟩ (isRecover o)) (o.guard.isNone && !(isDefer o))) l
def codeRS (n : Nat) (ih : Code → ClR D d) (c : Code) : ClR D d :=
  match c with
  | .seq a b => ⟨fun C kp kr kn u e ds h => (ih a).run C kp kr (fun u e ds h => (ih b).run C kp kr kn u e ds h) u e ds h⟩
  | .cond x a b => ⟨fun C kp kr kn u e ds h => (opdC G d x).get (fun v => v ((ih a).run C kp kr kn u e ds h) ((ih b).run C kp kr kn u e ds h) N1 N1 N2 N2 N2 N6 NL NL NO) e⟩
  | .region _ ops false => rgR P G D N d ops.toList
  | c => ⟨fun C kp kr kn u e ds h => (codeC P G D N d M n c).run (fun s => s C (fun e ds h => kr u e ds h) (fun v e ds h => kp v u e ds h) ds) (fun s => s (fun _ _ _ _ => False) (fun _ _ _ _ => False)) (fun F e h => F fun _ _ _ ds => kn u e ds h) e h⟩
def codeR (n : Nat) : Code → ClR D d := @Nat.rec (fun _ => Code → ClR D d) (fun _ => ⟨fun _ _ _ _ _ _ _ _ => False⟩) (fun _ ih => codeRS P G D N d M n ih) n
end
def nilD (ds : List ADef) (x : Prop) : Prop := @List.casesOn ADef (fun _ => Prop) ds x fun _ _ => False
structure DfC (D : Nat) where
  run : CallF D → List AV → AMode → (AMode → Hs D → Prop) → (V → AMode → Hs D → Prop) → Hs D → Prop
section
variable (P : Program) (G D M n : Nat)
/-- A put-off call. -/
def dfC (g : Nat) : DfC D :=
  match P.funcs[g]? with
  | some fn => (match fn.body with
    | some c => @Bool.rec (fun _ => DfC D) ⟨fun _ _ _ _ _ _ => False⟩ ⟨fun C args u kr kp h => argsL args fun a => (frK (frD fn.ntmps)).run a fun e =>
        (codeR P G D fn.ntmps (frD fn.ntmps + 1) M n c).run C (fun v u _ ds h => nilD ds (kp v u h)) (fun u e ds h => nilD ds ((reC P G D (frD fn.ntmps + 1) fn.results.toList).run (fun _ => kr u h) e h))
          (fun u e ds h => nilD ds ((reC P G D (frD fn.ntmps + 1) fn.results.toList).run (fun _ => kr u h) e h)) u e [] h⟩ (Nat.ble fn.ntmps (Nat.pow 8 (frD fn.ntmps + 1)))
    | none => ⟨fun _ _ _ _ _ _ => False⟩)
  | none => ⟨fun _ _ _ _ _ _ => False⟩
def lvC (d : Nat) (fn : Func) (C : CallF D) (kr kp : V → Hs D → Prop) (e : ETr d) (ds : List ADef) : AMode → Hs D → Prop :=
  @List.rec ADef (fun _ => AMode → Hs D → Prop)
    (fun u h => @AMode.rec (fun _ => Prop) ((reC P G D d fn.results.toList).run (fun v => kr v h) e h) (fun v => kp (encB v).v h) (fun _ => False) u)
    (fun x _ ih u h => bT (hasBody P x.g) ((dfC P G D M n x.g).run C x.args u (fun u h => ih (settleA u) h) (fun v _ h => dec v fun v => ih (.pan v) h) h)) ds
structure FnC (D : Nat) where
  run : CallF D → ETr 1 → (V → Hs D → Prop) → (V → Hs D → Prop) → Hs D → Prop
/-- A function. -/
def fnC (g : Nat) : FnC D :=
  match P.funcs[g]? with
  | some fn => (match fn.body with
    | some c => @Bool.rec (fun _ => FnC D) ⟨fun _ _ _ _ _ => False⟩ ⟨fun C a kr kp h => (frK (frD fn.ntmps)).run a fun e =>
        (codeC P G D fn.ntmps (frD fn.ntmps + 1) M n c).run
          (fun s => s C (fun e ds h => @List.casesOn ADef (fun _ => Prop) ds ((reC P G D (frD fn.ntmps + 1) fn.results.toList).run (fun v => kr v h) e h) fun x l => lvC P G D M n (frD fn.ntmps + 1) fn C kr kp e (x :: l) .ret h)
            (fun v e ds h => @List.casesOn ADef (fun _ => Prop) ds (kp v h) fun x l => dec v fun v => lvC P G D M n (frD fn.ntmps + 1) fn C kr kp e (x :: l) (.pan v) h) [])
          (fun s => s (fun _ _ _ _ => False) (fun _ _ _ _ => False))
          (fun F e h => F fun _ kr _ ds => kr e ds h) e h⟩ (Nat.ble fn.ntmps (Nat.pow 8 (frD fn.ntmps + 1)))
    | none => ⟨fun _ _ _ _ _ => False⟩)
  | none => ⟨fun _ _ _ _ _ => False⟩
/-- Calls, so deep; functions of which it is known what they do are looked up. -/
def callF (known : Nat → Option (FnC D)) (q : Nat) : CallF D := @Nat.rec (fun _ => CallF D) (fun _ _ _ _ _ => False) (fun _ ih g a kr kp h => (match known g with | some c => c | none => fnC P G D M n g : FnC D).run ih a kr kp h) q
end
end

/-! ### The lemmas -/
section
variable {P : Program} {D N d : Nat}
theorem unB_ok : ∀ (d : Nat) (m : Nat → AV), (∀ i, m i = undefA) → TR (fun v a => v = enc a) d (unB d).t m
  | 0, m, hm => by show _ = enc (m 0); rw [hm]; rfl
  | d + 1, m, hm => ⟨fun _ => (unB d).t, rfl, fun j _ => unB_ok d _ fun i => hm _⟩
theorem frame_step {d : Nat} {t : ETr (d + 1)} {m : Nat → AV} (h : TR (fun v a => v = enc a) (d + 1) t m) (hm : ∀ i, 8 ≤ i → m i = undefA) :
    TR (fun v a => v = enc a) (d + 2) (fun s => s t (unB (d + 1)).t (unB (d + 1)).t (unB (d + 1)).t (unB (d + 1)).t (unB (d + 1)).t (unB (d + 1)).t (unB (d + 1)).t : ETr (d + 2)) m := by
  refine ⟨fun j => match j with | 0 => t | _ + 1 => (unB (d + 1)).t, rfl, fun j hj => ?_⟩
  cases j with
  | zero => exact h.congr' fun i _ => by rw [Nat.zero_mul, Nat.zero_add]
  | succ j =>
    refine unB_ok (d + 1) _ fun i => hm _ ?_
    have h1 : 1 * 8 ^ (d + 1) ≤ (j + 1) * 8 ^ (d + 1) := Nat.mul_le_mul_right _ (by omega)
    have h2 : 8 ^ 1 ≤ 8 ^ (d + 1) := Nat.pow_le_pow_right (by decide) (by omega)
    omega
theorem frK_out {d : Nat} {a : ETr 1} {args : List AV} (ha : RepA a args) {fn : Func} (hn : Nat.ble fn.ntmps (Nat.pow 8 (d + 1)) = true) {k : ETr (d + 1) → Prop} (h : (frK d).run a k) : ∃ e, RepE fn.ntmps (d + 1) e (frameA fn args) ∧ k e := by
  have hn := Nat.le_of_ble_eq_true hn
  have h8 : 8 ^ 1 ≤ 8 ^ (d + 1) := Nat.pow_le_pow_right (by decide) (by omega)
  have hl : (frameA fn args).length = max args.length fn.ntmps := by simp [frameA]; omega
  have hg : ∀ i, (frameA fn args).getD i undefA = args.getD i undefA := fun i => by
    simp only [frameA, List.getD_eq_getElem?_getD]
    by_cases hi : i < args.length
    · rw [List.getElem?_append_left hi]
    · rw [List.getElem?_append_right (by omega), List.getElem?_eq_none (by omega : args.length ≤ i), List.getElem?_replicate]
      split <;> rfl
  have fin : ∀ e : ETr (d + 1), TR (fun v a => v = enc a) (d + 1) e (fun i => args.getD i undefA) → k e → ∃ e, RepE fn.ntmps (d + 1) e (frameA fn args) ∧ k e := fun e h1 h2 =>
    ⟨e, ⟨by rw [hl]; omega, by rw [hl]; have := ha.le; have h3 : Nat.pow 8 (d + 1) = 8 ^ (d + 1) := rfl; omega, h1.congr' fun i _ => (hg i).symm⟩, h2⟩
  have hu : ∀ i, 8 ≤ i → args.getD i undefA = undefA := fun i hi => by
    have := ha.le
    simp [List.getD_eq_getElem?_getD, List.getElem?_eq_none (by omega : args.length ≤ i)]
  unfold frK at h
  split at h
  · exact fin _ ha.tr h
  · exact fin _ (frame_step ha.tr hu) h
  · exact fin _ (frame_step (frame_step ha.tr hu) hu) h
  · exact fin _ (frame_step (frame_step (frame_step ha.tr hu) hu) hu) h
  · exact (show False from h).elim
section
variable {e : ETr d} {env : List AV} {hs : Hs D} {H : AH}
theorem ldC_out (he : RepE N d e env) (hr : RepH hs H) {G : Nat} {t : TypeId} {x : Operand} {k : V → Prop} (h : (ldC P G D d t x).run (fun v _ => k v) e hs) : xLoad P t (aev G env x) H fun v => k (enc v) := by
  unfold ldC at h
  unfold xLoad
  split at h
  · rename_i du i hu hi
    rw [hu, hi]
    simp only
    cases ha : aggT P t with
    | true => rw [ha] at h; exact sLoadN_out hr (opdC_out he h)
    | false => rw [ha] at h; exact sLoad_out hr (opdC_out he h)
  · exact (show False from h).elim
theorem rsC_out (he : RepE N d e env) (hr : RepH hs H) {G : Nat} : ∀ (l : List ResultVar) {k : List AV → Prop}, (rsC P G D d l).run k e hs → resL P env H l k
  | [], k, h => h
  | .tmp t :: r, k, h => rsC_out he hr r (k := fun l => k (aev G env (.tmp t) :: l)) (dec_enc (k := fun a => (rsC P G D d r).run (fun l => k (a :: l)) e hs) (opdC_out he h))
  | .cell a t :: r, k, h => by
    have h := ldC_out he hr (k := fun v => dec v fun a => (rsC P G D d r).run (fun l => k (a :: l)) e hs) h
    obtain ⟨v, h1, h2⟩ := xLoad_out' h
    exact h2 _ (rsC_out he hr r (k := fun l => k (v :: l)) (dec_enc h1))
 where
  xLoad_out' {t : TypeId} {a : AV} {k : AV → Prop} {H : AH} (h : xLoad P t a H k) : ∃ v, k v ∧ ∀ k' : AV → Prop, k' v → xLoad P t a H k' := by
    unfold xLoad at h
    split at h
    · rename_i du i hu hi
      have fin : ∀ {v : AV}, (∀ k' : AV → Prop, k' v → bI (aggT P t) (pLoadN i.size a H k') (pLoad a H k')) → ∀ k' : AV → Prop, k' v → xLoad P t a H k' := fun h k' hk => by
        unfold xLoad; rw [hu, hi]; exact h k' hk
      rcases bI_out h with ⟨hb, h⟩ | ⟨hb, h⟩
      · obtain ⟨b, o, e1, h⟩ := onPtr_out h
        obtain ⟨c, n, m, e2, h⟩ := getK_out h
        obtain ⟨l, hl, hg, h⟩ := loadL_out' _ _ _ _ h
        exact ⟨_, h, fin fun k' hk => bI_in (.inl ⟨hb, by rw [e1]; exact getK_in e2 (hg _ hk)⟩)⟩
      · obtain ⟨b, o, e1, h⟩ := onPtr_out h
        obtain ⟨c, n, m, e2, h⟩ := getK_out h
        obtain ⟨x, e3, h⟩ := Bt.getK_out _ _ _ h
        exact ⟨_, h, fin fun k' hk => bI_in (.inr ⟨hb, by rw [e1]; exact getK_in e2 (Bt.getK_in e3 hk)⟩)⟩
    · exact h.elim
  loadL_out' : ∀ (c : Bt AV) (n o : Nat) (k : List AV → Prop), loadL c n o k → ∃ l, l.length = n ∧ (∀ k' : List AV → Prop, k' l → loadL c n o k') ∧ k l
    | _, 0, _, k, h => ⟨[], rfl, fun _ h => h, h⟩
    | c, n + 1, o, k, h => by
      obtain ⟨a, ha, h⟩ := Bt.getK_out c o _ h
      rw [forceN_eq] at h
      obtain ⟨l, h1, h2, h3⟩ := loadL_out' c n (o + 1) _ h
      exact ⟨a :: l, by simp [h1], fun k' hk => Bt.getK_in ha (by rw [forceN_eq]; exact h2 _ hk), h3⟩
theorem reC_out (he : RepE N d e env) (hr : RepH hs H) {G : Nat} {fn : Func} {k : V → Prop} (h : (reC P G D d fn.results.toList).run k e hs) : resA P fn env H fun v => k (enc v) := by
  unfold reC at h
  unfold resA
  split at h
  · rename_i t hl
    rw [hl]; exact opdC_out (G := G) he h
  · rename_i a t hl
    rw [hl]
    exact ldC_out (G := G) (x := .tmp a) he hr h
  · rename_i h1 h2
    have g := rsC_out he hr _ h
    generalize fn.results.toList = l at g h1 h2
    obtain ⟨vs, hv, hk, hlen⟩ := resL_out g
    refine hk _ ?_
    cases l with
    | nil => cases vs with
      | nil => exact hv
      | cons _ _ => simp at hlen
    | cons r l => cases l with
      | nil => cases r with
        | tmp t => exact absurd rfl (h1 t)
        | cell a t => exact absurd rfl (h2 a t)
      | cons r2 l =>
        match vs, hlen, hv with
        | v1 :: v2 :: vs, _, hv => exact hv
 where
  resL_out {env : List AV} {H : AH} : ∀ {l : List ResultVar} {k : List AV → Prop}, resL P env H l k → ∃ vs, k vs ∧ (∀ k' : List AV → Prop, k' vs → resL P env H l k') ∧ vs.length = l.length
    | [], k, h => ⟨[], h, fun _ h => h, rfl⟩
    | .tmp t :: r, k, h => by
      obtain ⟨vs, h1, h2, h3⟩ := resL_out (l := r) h
      exact ⟨_, h1, fun k' hk => h2 (fun l => k' (_ :: l)) hk, by simp [h3]⟩
    | .cell a t :: r, k, h => by
      obtain ⟨v, h1, hx⟩ := rsC_out.xLoad_out' h
      obtain ⟨vs, h1, h2, h3⟩ := resL_out (l := r) h1
      exact ⟨_, h1, fun k' hk => hx _ (h2 (fun l => k' (_ :: l)) hk), by simp [h3]⟩
end
end
end Go.X

namespace Go.X
section
variable {P : Program} {D N d M n : Nat}
def KRS (N : Nat) {d : Nat} (kp : V → AMode → ETr d → List ADef → Hs D → Prop) (kr kn : AMode → ETr d → List ADef → Hs D → Prop) : KR := fun o u env ds H => ∃ e hs, RepE N d e env ∧ RepH hs H ∧ match o with
  | .normal => kn u e ds hs
  | .ret => kr u e ds hs
  | .pan v => kp (enc v) u e ds hs
  | _ => False
def ClROk (P : Program) (N : Nat) {d : Nat} (C : CallF D) (cl : ClR D d) (c : Code) : Prop := ∀ kp kr kn u e env ds hs H, RepE N d e env → RepH hs H → cl.run C kp kr kn u e ds hs → SOkR P u env ds H (KRS N kp kr kn) fun a cs w Q => c.wpS P Q a cs w
variable {C : CallF D}
theorem recM_out {u : AMode} {k : V → AMode → Prop} (h : recM u k) : recA u fun v u => k (enc v) u := by cases u <;> exact h
theorem recA_mono {u : AMode} {k k' : AV → AMode → Prop} (hk : ∀ v u, k v u → k' v u) (h : recA u k) : recA u k' := by cases u <;> exact hk _ _ h
theorem rgR_ok (hC : CallFOk P C) {ops : Array Oper} : ∀ (l : List Oper) (kp : V → AMode → ETr d → List ADef → Hs D → Prop) (kr kn : AMode → ETr d → List ADef → Hs D → Prop) u e env ds hs H, RepE N d e env → RepH hs H → (rgR P P.globals.size D N d l).run C kp kr kn u e ds hs →
    SOkR P u env ds H (KRS N kp kr kn) fun a cs w Q => wpListS P ops Q l a cs w
  | [], kp, kr, kn, u, e, env, ds, hs, H, he, hr, h => ⟨.normal, u, env, ds, H, ⟨e, hs, he, hr, h⟩, fun f w a c₀ cs u hr ha hd hm hc Q hQ => by
    have := hQ .normal a u w ⟨f, Step.refl hr, ha, hd, hm, rfl⟩
    rw [mode_self hc] at this
    exact this⟩
  | o :: rest, kp, kr, kn, u, e, env, ds, hs, H, he, hr, h => by
    have h : (@Bool.rec (fun _ => ClR D d) ⟨fun _ _ _ _ _ _ _ _ => False⟩ (@Bool.rec (fun _ => ClR D d)
      ⟨fun C kp kr kn u e ds h => (vopC P P.globals.size D d o).run (fun v h => (putC N d o.dst).run v (fun e => (rgR P P.globals.size D N d rest).run C kp kr kn u e ds h) e) (fun v h => kp v u e ds h) C e h⟩
      ⟨fun C kp kr kn u e ds h => recM u fun v u => (putC N d o.dst).run v (fun e => (rgR P P.globals.size D N d rest).run C kp kr kn u e ds h) e⟩ (isRecover o)) (o.guard.isNone && !(isDefer o))).run C kp kr kn u e ds hs := h
    cases hg : (o.guard.isNone && !(isDefer o)) with
    | false => rw [hg] at h; exact (show False from h).elim
    | true =>
      rw [hg] at h
      rw [Bool.and_eq_true] at hg
      have hg1 : o.guard = none := by simpa using hg.1
      have hw : ∀ t, Region.wanted o t = true := fun t => by simp [Region.wanted, hg1]
      cases hrec : isRecover o with
      | true =>
        rw [hrec] at h
        dsimp only at h
        obtain ⟨v, M', h1, h2⟩ := recA_ok (recM_out h)
        obtain ⟨e', he', h1⟩ := putC_out he h1
        obtain ⟨ot, M2, env', ds', H2, g1, g2⟩ := rgR_ok hC rest kp kr kn _ _ _ _ _ _ he' hr h1
        refine ⟨ot, M2, env', ds', H2, g1, fun f w a c₀ cs u hr ha hd hm hc Q hQ => ?_⟩
        obtain ⟨x, u', h3, h4, h5⟩ := h2 f u c₀ cs hm hc
        refine wpListS_rec (hw _) (recover_run hrec _ w) ?_
        exact h5 (fun y cs' => wpListS P ops Q rest (a.put o.dst y) cs' w) (g2 f w _ { c₀ with mode := u' } cs u' hr (ha.put o.dst h3) (by rw [put_defers]; exact hd) h4 rfl Q hQ)
      | false =>
        rw [hrec] at h
        cases vopC_ok hC he hr h with
        | val v H' h g =>
          obtain ⟨hs', hr', h⟩ := h
          obtain ⟨e', he', h⟩ := putC_out he h
          obtain ⟨ot, M2, env', ds', H2, g1, g2⟩ := rgR_ok hC rest kp kr kn _ _ _ _ _ _ he' hr' h
          refine ⟨ot, M2, env', ds', H2, g1, fun f w a c₀ cs u hr ha hd hm hc Q hQ => wpListS_some (hw _) ?_⟩
          refine g f w a hr ha.glob (ha.stand o) _ _ fun f' w' x s hx => ?_
          exact g2 f' w' _ c₀ cs u s.rel ((ha.up s.le).put o.dst hx) (by rw [put_defers]; exact hd.up s.le) (hm.up s.le) hc Q fun e a' u' w'' hp => hQ e a' u' w'' (hp.after s)
        | pan v H' h g =>
          obtain ⟨hs', hr', h⟩ := h
          refine ⟨.pan v, u, env, ds, H', ⟨e, hs', he, hr', h⟩, fun f w a c₀ cs u hr ha hd hm hc Q hQ => wpListS_some (hw _) ?_⟩
          refine g f w a hr ha.glob (ha.stand o) _ _ fun f' w' ch s hp => ?_
          have := hQ (.panic ch) a u w' ⟨f', s, ha.up s.le, hd.up s.le, hm.up s.le, ch, rfl, hp⟩
          rw [mode_self hc] at this
          exact this
theorem SOkR.mono {u : AMode} {env : List AV} {ds : List ADef} {H : AH} {K K' : KR} {W : Act → List Frame → World → PS → Prop} (h : SOkR P u env ds H K W) (hK : ∀ o u env ds H, K o u env ds H → K' o u env ds H) : SOkR P u env ds H K' W := by
  obtain ⟨o, M', env', ds', H', h1, h2⟩ := h
  exact ⟨o, M', env', ds', H', hK _ _ _ _ _ h1, h2⟩
theorem codeRS_ok (hmx : P.follows .mixedOrders = true) (hC : CallFOk P C) {ih : Code → ClR D d} (hi : ∀ c, ClROk P N C (ih c) c) (c : Code) : ClROk P N C (codeRS P P.globals.size D N d M n ih c) c := by
  intro kp kr kn u e env ds hs H he hr h
  unfold codeRS at h
  split at h
  · rename_i a b
    obtain ⟨o, M1, env1, ds1, H1, h1, h2⟩ := hi a _ _ _ _ _ _ _ _ _ he hr h
    have pass : o ≠ .normal → KRS N kp kr kn o M1 env1 ds1 H1 → SOkR P u env ds H (KRS N kp kr kn) fun ac cs w Q => (Code.seq a b).wpS P Q ac cs w := fun hne hk => by
      refine ⟨o, M1, env1, ds1, H1, hk, fun f w ac c₀ cs u hr ha hd hm hc Q hQ => wpS_seq (h2 f w ac c₀ cs u hr ha hd hm hc _ fun e a' u' w' hp => ?_)⟩
      have hp' := hp
      obtain ⟨f', s, g1, g2, g3, g4⟩ := hp
      cases o with
      | normal => exact absurd rfl hne
      | exit id => subst g4; exact hQ _ _ _ _ hp'
      | goto l => subst g4; exact hQ _ _ _ _ hp'
      | ret => subst g4; exact hQ _ _ _ _ hp'
      | pan v => obtain ⟨ch, rfl, _⟩ := g4; exact hQ _ _ _ _ hp'
    cases o with
    | normal =>
      obtain ⟨e1, hs1, he1, hr1, h1⟩ := h1
      obtain ⟨o2, M2, env2, ds2, H2, g1, g2⟩ := hi b _ _ _ _ _ _ _ _ _ he1 hr1 h1
      refine ⟨o2, M2, env2, ds2, H2, g1, fun f w ac c₀ cs u hr ha hd hm hc Q hQ => wpS_seq (h2 f w ac c₀ cs u hr ha hd hm hc _ fun e a' u' w' hp => ?_)⟩
      obtain ⟨f', s, y1, y2, y3, rfl⟩ := hp
      exact g2 f' w' a' { c₀ with mode := u' } cs u' s.rel y1 y2 y3 rfl Q fun e a'' u'' w'' hp => hQ _ _ _ _ (hp.after s)
    | exit id => exact pass (by simp) h1
    | goto l => exact pass (by simp) h1
    | ret => exact pass (by simp) h1
    | pan v => exact pass (by simp) h1
  · rename_i x a b
    have h := opdC_out he h
    have hc : ∀ {t : Bool}, aev P.globals.size env x = .bool t → ∀ {f : Emb} {a : Act}, AR P f env a → a.eval x = .bool t := fun {t} hv {f act} ha => by
      have := aev_ok ha x
      rw [hv] at this
      generalize act.eval x = u at this
      cases this; rfl
    have g := enc_cases h
    rcases g with ⟨e1, g⟩ | ⟨e1, g⟩ | ⟨n, _, g⟩ | ⟨n, _, g⟩ | ⟨c, n, _, _, g⟩ | ⟨n, x, _, g⟩ | ⟨b, o, _, g⟩ | ⟨b, o, l, c, s, x, _, g⟩ | ⟨l, _, g⟩ | ⟨l, _, g⟩ | ⟨_, g⟩ <;> try exact g.elim
    · obtain ⟨o, M1, env1, ds1, H1, h1, h2⟩ := hi a _ _ _ _ _ _ _ _ _ he hr g
      exact ⟨o, M1, env1, ds1, H1, h1, fun f w ac c₀ cs u hr ha hd hm hc' Q hQ => wpS_cond (hc e1 ha) (h2 f w ac c₀ cs u hr ha hd hm hc' Q hQ)⟩
    · obtain ⟨o, M1, env1, ds1, H1, h1, h2⟩ := hi b _ _ _ _ _ _ _ _ _ he hr g
      exact ⟨o, M1, env1, ds1, H1, h1, fun f w ac c₀ cs u hr ha hd hm hc' Q hQ => wpS_cond (hc e1 ha) (h2 f w ac c₀ cs u hr ha hd hm hc' Q hQ)⟩
  · rename_i id ops
    obtain ⟨o, M1, env1, ds1, H1, h1, h2⟩ := rgR_ok (ops := ops) hC _ _ _ _ _ _ _ _ _ _ he hr h
    exact ⟨o, M1, env1, ds1, H1, h1, fun f w a c₀ cs u hr ha hd hm hc Q hQ => wpS_region_list (h2 f w a c₀ cs u hr ha hd hm hc Q hQ)⟩
  · have g := codeC_ok (kr := fun e ds h => kr u e ds h) (kp := fun v e ds h => kp v u e ds h) hmx hC n c (fun _ _ _ _ => False) (fun _ _ _ _ => False) (fun F e h => F fun _ _ _ ds => kn u e ds h) ds e env hs H he hr h
    refine (SOkR.of_SOk (K := KRS N kp kr kn) (M := u) (g.mono (fun _ _ _ _ _ h => h) fun o env ds H hk => ?_))
    obtain ⟨e, hs, he, hr, hk⟩ := hk
    cases o <;> first | exact ⟨e, hs, he, hr, hk⟩ | exact hk.elim
theorem codeR_ok (hmx : P.follows .mixedOrders = true) (hC : CallFOk P C) : ∀ (k : Nat) (c : Code), ClROk P N C (codeR P P.globals.size D N d M k c) c := by
  intro k
  have key : ∀ (m j : Nat) (c : Code), ClROk P N C (@Nat.rec (fun _ => Code → ClR D d) (fun _ => ⟨fun _ _ _ _ _ _ _ _ => False⟩) (fun _ ih => codeRS P P.globals.size D N d M m ih) j c) c := by
    intro m j
    induction j with
    | zero => exact fun _ _ _ _ _ _ _ _ _ _ _ _ h => (show False from h).elim
    | succ j ih => exact fun c => codeRS_ok hmx hC ih c
  exact key k k

theorem nilD_out {ds : List ADef} {x : Prop} (h : nilD ds x) : ds = [] ∧ x := by
  cases ds with
  | nil => exact ⟨rfl, h⟩
  | cons a l => exact (show False from h).elim
/-- A put-off call out of its body. -/
theorem callD_fin {g : Nat} {fn : Func} {c : Code} (hf : P.funcs[g]? = some fn) (hc : fn.body = some c) {args : List AV} {u : AMode} {H : AH} {K : KD} (h : SOkR P u (frameA fn args) [] H (finD P fn K) fun a cs w Q => c.wpS P Q a cs w) :
    ∃ o M' H', K o M' H' ∧ ∀ f w (vs : Array Value) v, HR f H w → (∀ g, g < P.globals.size → f.dom g ∧ f.blk g = g ∧ f.off g = 0) → VL f args vs.toList → MR f u v → CallsD P g vs v w (CPostD f H w o M' H') := by
  obtain ⟨o, M', env', ds', H', h1, h2⟩ := h
  unfold finD at h1
  split at h1
  · have key : ∀ (co : COut), (∀ (f : Emb) (H0 : AH) w e a u' w', XPostR P f H0 w o M' env' [] H' e a u' w' → ∀ c₀ cs, bodyPostS P fn c₀ cs (CPostD f H0 w co M' H') e a ({ c₀ with mode := u' } :: cs) w') → K co M' H' →
        ∃ o M' H', K o M' H' ∧ ∀ f w (vs : Array Value) v, HR f H w → (∀ g, g < P.globals.size → f.dom g ∧ f.blk g = g ∧ f.off g = 0) → VL f args vs.toList → MR f u v → CallsD P g vs v w (CPostD f H w o M' H') := fun co h3 h4 =>
      ⟨co, M', H', h4, fun f w vs u hr hg hv hm => callsD_of_wpS hf hc fun c₀ cs hu => h2 f w _ c₀ cs u hr (frameA_ok hv hg) .nil hm hu _ fun e a' u' w' hp => h3 f H w e a' u' w' hp c₀ cs⟩
    split at h1
    · obtain ⟨v, g1, g2⟩ := resA_ok h1
      refine key (.ret v) (fun f H0 w e a u' w' hp c₀ cs => ?_) g1
      obtain ⟨f', s, y1, y2, y3, rfl⟩ := hp
      obtain ⟨u, z1, z2⟩ := g2 f' w' a s.rel y1
      have hd : a.defers = [] := y2.nil_inv
      exact ⟨hd, u', rfl, u, z1, f', s, y3, u, rfl, z2⟩
    · obtain ⟨v, g1, g2⟩ := resA_ok h1
      refine key (.ret v) (fun f H0 w e a u' w' hp c₀ cs => ?_) g1
      obtain ⟨f', s, y1, y2, y3, rfl⟩ := hp
      obtain ⟨u, z1, z2⟩ := g2 f' w' a s.rel y1
      have hd : a.defers = [] := y2.nil_inv
      exact ⟨hd, u', rfl, u, z1, f', s, y3, u, rfl, z2⟩
    · rename_i v
      refine key (.pan v) (fun f H0 w e a u' w' hp c₀ cs => ?_) h1
      obtain ⟨f', s, y1, y2, y3, ch, rfl, hp⟩ := hp
      have hd : a.defers = [] := y2.nil_inv
      exact ⟨hd, u', rfl, f', s, y3, ch, rfl, hp⟩
    · exact h1.elim
  · exact h1.elim
/-- A call out of its body. -/
theorem call_fin {CD : CallDA} (hCD : CallDOk P CD) {g : Nat} {fn : Func} {c : Code} (hf : P.funcs[g]? = some fn) (hc : fn.body = some c) {args : List AV} {H : AH} {K : COut → AH → Prop} (h : SOk P (frameA fn args) [] H (finK P CD fn K) fun a w Q => c.wp P Q a w) :
    ∃ o H', K o H' ∧ ∀ f w (vs : Array Value), HR f H w → (∀ g, g < P.globals.size → f.dom g ∧ f.blk g = g ∧ f.off g = 0) → VL f args vs.toList → Calls P g vs w (CPost f H w o H') := by
  obtain ⟨o, env', ds', H', h1, h2⟩ := h
  have key : ∀ (M : AMode), leavesA P CD fn env' ds' M H' K →
      (∀ (f : Emb) (H0 : AH) w (R : Ending → World → Prop) e a w', XPost P f H0 w o env' ds' H' e a w' → (∀ f' u, Step f H0 w f' H' w' → AR P f' env' a → DR f' ds' a.defers → MR f' M u → Leaves P fn a.tmps R a.defers u w') → bodyPostD P fn R e a w') →
      ∃ o H', K o H' ∧ ∀ f w (vs : Array Value), HR f H w → (∀ g, g < P.globals.size → f.dom g ∧ f.blk g = g ∧ f.off g = 0) → VL f args vs.toList → Calls P g vs w (CPost f H w o H') := fun M hl hb => by
    obtain ⟨co, H2, g1, g2⟩ := leavesA_ok hCD _ _ _ hl
    refine ⟨co, H2, g1, fun f w vs hr hg hv => calls_of_wp_defers hf hc (h2 f w _ hr (frameA_ok hv hg) .nil _ fun e a' w' hp => hb f H w _ e a' w' hp fun f' u s ha hd hm => ?_)⟩
    exact Leaves.mono (fun e w h => h.after s) _ _ _ (g2 f' w' a' a'.defers u s.rel ha hd hm)
  cases o with
  | normal => exact key .ret h1 fun f H0 w R e a w' hp hl => by obtain ⟨f', s, y1, y2, rfl⟩ := hp; exact hl f' _ s y1 y2 rfl
  | ret => exact key .ret h1 fun f H0 w R e a w' hp hl => by obtain ⟨f', s, y1, y2, rfl⟩ := hp; exact hl f' _ s y1 y2 rfl
  | pan v => exact key (.pan v) h1 fun f H0 w R e a w' hp hl => by obtain ⟨f', s, y1, y2, ch, rfl, hp⟩ := hp; exact hl f' _ s y1 y2 ⟨ch, rfl, hp⟩
  | exit => exact h1.elim
  | goto => exact h1.elim

def toCD (P : Program) (M n : Nat) {D : Nat} (C : CallF D) : CallDA := fun g args u H K => ∃ kr kp, ∃ hs : Hs D, RepH hs H ∧ (dfC P P.globals.size D M n g).run C args u kr kp hs ∧ (∀ u v hs' H', RepH hs' H' → kr u hs' → K (.ret v) u H') ∧ ∀ v u hs' H', RepH hs' H' → kp (enc v) u hs' → K (.pan v) u H'
theorem toCD_ok (hmx : P.follows .mixedOrders = true) (hC : CallFOk P C) : CallDOk P (toCD P M n C) := by
  intro g args u H K hb h
  obtain ⟨kr, kp, hs, hr, h, hkr, hkp⟩ := h
  unfold dfC at h
  split at h
  · rename_i fn hf
    split at h
    · rename_i c hc
      cases hn : Nat.ble fn.ntmps (Nat.pow 8 (frD fn.ntmps + 1)) with
      | false => rw [hn] at h; exact (show False from h).elim
      | true =>
        rw [hn] at h
        dsimp only at h
        obtain ⟨a, ha, h⟩ := argsL_out h
        obtain ⟨e, he, h⟩ := frK_out ha hn h
        have g := codeR_ok hmx hC n c _ _ _ u e _ [] hs H he hr h
        refine callD_fin hf hc (g.mono fun o u env ds H hk => ?_)
        obtain ⟨e1, hs1, he1, hr1, hk⟩ := hk
        unfold finD
        cases o with
        | normal =>
          obtain ⟨rfl, hk⟩ := nilD_out hk
          exact resA_mono (fun v h => hkr u v hs1 H hr1 h) (reC_out he1 hr1 hk)
        | ret =>
          obtain ⟨rfl, hk⟩ := nilD_out hk
          exact resA_mono (fun v h => hkr u v hs1 H hr1 h) (reC_out he1 hr1 hk)
        | pan v =>
          obtain ⟨rfl, hk⟩ := nilD_out hk
          exact hkp v u hs1 H hr1 hk
        | exit => exact hk.elim
        | goto => exact hk.elim
    · exact (show False from h).elim
  · exact (show False from h).elim
 where
  resA_mono {fn : Func} {env : List AV} {H : AH} {k k' : AV → Prop} (hk : ∀ v, k v → k' v) (h : resA P fn env H k) : resA P fn env H k' := by
    unfold resA at h ⊢
    obtain ⟨vs, h1, h2, _⟩ := reC_out.resL_out h
    refine h2 _ ?_
    split at h1
    · exact hk _ h1
    · exact hk _ h1
theorem lvC_ok {fn : Func} {kr kp : V → Hs D → Prop} {e : ETr d} {env : List AV} (he : RepE N d e env) : ∀ (ds : List ADef) (u : AMode) (hs : Hs D) (H : AH), RepH hs H → lvC P P.globals.size D M n d fn C kr kp e ds u hs →
    leavesA P (toCD P M n C) fn env ds u H fun o H' => ∃ hs', RepH hs' H' ∧ match o with | .ret v => kr (enc v) hs' | .pan v => kp (enc v) hs'
  | [], u, hs, H, hr, h => by
    cases u with
    | ret => exact toCD_ok.resA_mono (fun v h => ⟨hs, hr, h⟩) (reC_out he hr h)
    | pan v => exact ⟨hs, hr, h⟩
    | caught v => exact (show False from h).elim
  | x :: ds, u, hs, H, hr, h => by
    obtain ⟨hb, h⟩ := bT_out h
    refine bT_in hb ⟨_, _, hs, hr, h, fun u v hs' H' hr' h => ?_, fun v u hs' H' hr' h => ?_⟩
    · exact lvC_ok he ds (settleA u) hs' H' hr' h
    · exact lvC_ok he ds (.pan v) hs' H' hr' (dec_enc h)
/-- A function goes as in the model. -/
def FnCOk (P : Program) (g : Nat) (F : FnC D) : Prop := ∀ (C : CallF D), CallFOk P C → ∀ args a kr kp (hs : Hs D) H, hasBody P g = true → RepA a args → RepH hs H → F.run C a kr kp hs →
  ∃ o H', (∃ hs', RepH hs' H' ∧ match o with | .ret v => kr (enc v) hs' | .pan v => kp (enc v) hs') ∧ ∀ f w (vs : Array Value), HR f H w → (∀ g, g < P.globals.size → f.dom g ∧ f.blk g = g ∧ f.off g = 0) → VL f args vs.toList → Calls P g vs w (CPost f H w o H')
theorem fnC_ok (hmx : P.follows .mixedOrders = true) (g : Nat) : FnCOk P g (fnC P P.globals.size D M n g) := by
  intro C hC args a kr kp hs H hb ha hr h
  unfold fnC at h
  split at h
  · rename_i fn hf
    split at h
    · rename_i c hc
      cases hn : Nat.ble fn.ntmps (Nat.pow 8 (frD fn.ntmps + 1)) with
      | false => rw [hn] at h; exact (show False from h).elim
      | true =>
        rw [hn] at h
        obtain ⟨e, he, h⟩ := frK_out ha hn h
        have g := codeC_ok hmx hC n c _ _ _ [] e _ hs H he hr h
        refine call_fin (toCD_ok (M := M) (n := n) hmx hC) hf hc (g.mono (fun _ _ _ _ _ h => h) fun o env ds H hk => ?_)
        obtain ⟨e1, hs1, he1, hr1, hk⟩ := hk
        have ret : (@List.casesOn ADef (fun _ => Prop) ds ((reC P P.globals.size D (frD fn.ntmps + 1) fn.results.toList).run (fun v => kr v hs1) e1 hs1) fun x l => lvC P P.globals.size D M n (frD fn.ntmps + 1) fn C kr kp e1 (x :: l) .ret hs1) →
            leavesA P (toCD P M n C) fn env ds .ret H fun o H' => ∃ hs', RepH hs' H' ∧ match o with | .ret v => kr (enc v) hs' | .pan v => kp (enc v) hs' := fun h => by
          cases ds with
          | nil => exact toCD_ok.resA_mono (fun v h => ⟨hs1, hr1, h⟩) (reC_out he1 hr1 h)
          | cons x l => exact lvC_ok he1 (x :: l) .ret hs1 H hr1 h
        cases o with
        | normal => exact ret hk
        | ret => exact ret hk
        | pan v =>
          cases ds with
          | nil => exact ⟨hs1, hr1, hk⟩
          | cons x l => exact lvC_ok he1 (x :: l) (.pan v) hs1 H hr1 (dec_enc hk)
        | exit => exact hk.elim
        | goto => exact hk.elim
    · exact (show False from h).elim
  · exact (show False from h).elim
theorem callF_ok (hmx : P.follows .mixedOrders = true) {known : Nat → Option (FnC D)} (hk : ∀ g c, known g = some c → FnCOk P g c) : ∀ q, CallFOk P (callF P P.globals.size D M n known q)
  | 0 => fun _ _ _ _ _ _ _ _ _ _ h => (show False from h).elim
  | q + 1 => fun g args a kr kp hs H hb ha hr h => by
    have h : ((match known g with | some c => c | none => fnC P P.globals.size D M n g : FnC D).run (callF P P.globals.size D M n known q) a kr kp hs) := h
    split at h
    · rename_i c hc
      exact hk g c hc _ (callF_ok hmx hk q) args a kr kp hs H hb ha hr h
    · exact fnC_ok hmx g _ (callF_ok hmx hk q) args a kr kp hs H hb ha hr h
end
end Go.X

namespace Go.X
noncomputable section
structure SB where
  so : SO
/-- A tree of blocks of a list. -/
def obT (l : List SB) (d : Nat) : Nat → TB (TrT SO d) :=
  @Nat.rec (fun d => Nat → TB (TrT SO d)) (fun i => match l[i]? with | some b => ⟨b.so⟩ | none => ⟨fun _ _ O => O .dead⟩)
    (fun _ ih i => ⟨fun s => s (ih (Nat.mul 8 i)).t (ih (Nat.add (Nat.mul 8 i) 1)).t (ih (Nat.add (Nat.mul 8 i) 2)).t (ih (Nat.add (Nat.mul 8 i) 3)).t (ih (Nat.add (Nat.mul 8 i) 4)).t (ih (Nat.add (Nat.mul 8 i) 5)).t (ih (Nat.add (Nat.mul 8 i) 6)).t (ih (Nat.add (Nat.mul 8 i) 7)).t⟩) d
/-- A variable of the program: a table that is only read, or one that is never looked at. -/
def glB (z : Option (List AV)) : SB := match z with | some z => ⟨fun _ C _ => C (depN z.length) (zerC z z.length (depN z.length) 0).t z.length 2⟩ | none => ⟨fun _ _ O => O .dead⟩
def hs0 (D : Nat) (gl : List (Option (List AV))) : Hs D := fun s => s (obT (gl.map glB) D 0).t gl.length
def isTY (v : V) : Prop := v True False N1 N1 N2 N2 N2 N6 NL NL NO
def aL (l : List AV) : ETr 1 := fun s => s (gA l 0).v (gA l 1).v (gA l 2).v (gA l 3).v (gA l 4).v (gA l 5).v (gA l 6).v (gA l 7).v
end
/-- Tables that may be. -/
def glOk (D : Nat) (gl : List (Option (List AV))) : Bool := Nat.ble gl.length (8 ^ D) && gl.all fun z => match z with | some z => z.all AV.one && Nat.ble z.length (8 ^ depN z.length) | none => true

theorem isT_outY {a : AV} (h : isTY (enc a)) : a = .bool true := by
  have g := enc_cases h
  rcases g with ⟨e, _⟩ | ⟨_, g⟩ | ⟨m, e, g⟩ | ⟨m, _, g⟩ | ⟨c, n, _, _, g⟩ | ⟨n, x, _, g⟩ | ⟨b, o, _, g⟩ | ⟨b, o, l, c, s, x, _, g⟩ | ⟨l, _, g⟩ | ⟨l, _, g⟩ | ⟨_, g⟩ <;> first | exact e | exact g.elim
theorem Bt.of_list {α : Type} (l : List α) : ∃ t : Bt α, Full t l.length ∧ ∀ i, t.get? i = l[i]? := by
  have key : ∀ n, n ≤ l.length → ∃ t : Bt α, Full t n ∧ ∀ i, i < n → t.get? i = l[i]? := by
    intro n
    induction n with
    | zero => exact fun _ => ⟨.e, Full.e, fun i hi => absurd hi (by omega)⟩
    | succ n ih =>
      intro hn
      obtain ⟨t, h1, h2⟩ := ih (by omega)
      obtain ⟨t', _, g2, g3⟩ := Bt.set_in h1 (Nat.le_refl _) l[n]
      have hf := h1.set (Nat.le_refl _) g2 g3
      rw [show max n (n + 1) = n + 1 by omega] at hf
      refine ⟨t', hf, fun i hi => ?_⟩
      by_cases e : i = n
      · subst e; rw [g2, List.getElem?_eq_getElem (by omega)]
      · rw [g3 i e, h2 i (by omega)]
  obtain ⟨t, h1, h2⟩ := key l.length (Nat.le_refl _)
  refine ⟨t, h1, fun i => ?_⟩
  rcases Nat.lt_or_ge i l.length with hi | hi
  · exact h2 i hi
  · have := h1 i
    rw [List.getElem?_eq_none hi]
    cases e : t.get? i with
    | none => rfl
    | some x => rw [e] at this; have := this.1 rfl; omega
theorem obT_ok (l : List SB) (m : Nat → AObj) (hm : ∀ i, rO (match l[i]? with | some b => b.so | none => fun _ _ O => O .dead) (m i)) : ∀ (d i : Nat), TR rO d (obT l d i).t (fun j => m (i * 8 ^ d + j))
  | 0, i => by
    show rO (match l[i]? with | some b => (⟨b.so⟩ : TB SO) | none => ⟨fun _ _ O => O .dead⟩).t (m (i * 1 + 0))
    have h := hm i
    rw [Nat.mul_one, Nat.add_zero]
    cases e : l[i]? <;> rw [e] at h <;> exact h
  | d + 1, i => by
    refine ⟨fun j => (obT l d (8 * i + j)).t, rfl, fun j hj => ?_⟩
    refine (obT_ok l m hm d (8 * i + j)).congr' fun x _ => ?_
    congr 1
    rw [Nat.pow_succ, Nat.add_mul, Nat.mul_comm 8 i, Nat.mul_assoc, Nat.mul_comm 8 (8 ^ d), Nat.add_assoc]

/-- What a table is. -/
def glO (gl : List (Option (List AV))) (b : Nat) : Option (List AV) := (gl[b]?).getD none
theorem hs0_ok {D : Nat} {gl : List (Option (List AV))} (h : glOk D gl = true) : ∃ H0 : AH, RepH (hs0 D gl) H0 ∧ H0.n = gl.length ∧ ∀ b, match glO gl b with | some z => ∃ c, H0.at b = .cells c z.length 2 ∧ ∀ i, c.get? i = z[i]? | none => H0.at b = .dead := by
  unfold glOk at h
  rw [Bool.and_eq_true] at h
  obtain ⟨h0, h1⟩ := h
  have hT : ∀ z : Option (List AV), ∃ o : AObj, (z ∈ gl → rO (glB z).so o) ∧ match z with | some z => ∃ c, o = .cells c z.length 2 ∧ ∀ i, c.get? i = z[i]? | none => o = .dead := by
    intro z
    cases z with
    | none => exact ⟨.dead, fun _ => rfl, rfl⟩
    | some z =>
      obtain ⟨c, g1, g2⟩ := Bt.of_list z
      refine ⟨.cells c z.length 2, fun hz => ?_, c, rfl, g2⟩
      have hz' := List.all_eq_true.1 h1 _ hz
      simp only [Bool.and_eq_true] at hz'
      refine ⟨depN z.length, _, rfl, Nat.le_of_ble_eq_true hz'.2, g1, ?_⟩
      refine (zerC_ok z z.length (fun i => c.get? i) (fun i => ?_) (depN z.length) 0).congr' fun i _ => by rw [Nat.zero_mul, Nat.zero_add]
      split
      · rename_i hi; rw [g2, Nat.mod_eq_of_lt hi]
      · rename_i hi; rw [g2, List.getElem?_eq_none (by omega)]
  let os : List AObj := gl.map fun z => (hT z).choose
  obtain ⟨t, ht1, ht2⟩ := Bt.of_list os
  have hlen : os.length = gl.length := by simp [os]
  have hat : ∀ b, (⟨t, gl.length⟩ : AH).at b = match gl[b]? with | some z => (hT z).choose | none => .dead := fun b => by
    simp only [AH.at, ht2, os, List.getElem?_map]
    cases gl[b]? <;> rfl
  refine ⟨⟨t, gl.length⟩, ⟨⟨_, rfl, ?_⟩, Nat.le_of_ble_eq_true h0, by rw [hlen] at ht1; exact ht1⟩, rfl, fun b => ?_⟩
  · refine (obT_ok (gl.map glB) (fun b => (⟨t, gl.length⟩ : AH).at b) (fun i => ?_) D 0).congr' fun i _ => by rw [Nat.zero_mul, Nat.zero_add]
    rw [hat, List.getElem?_map]
    cases e : gl[i]? with
    | none => rfl
    | some z => exact (hT z).choose_spec.1 (List.mem_of_getElem? e)
  · rw [hat]
    unfold glO
    cases e : gl[b]? with
    | none => rfl
    | some z => exact (hT z).choose_spec.2

/-- Where the program's variables lie. -/
def gEmb (gl : List (Option (List AV))) : Emb := ⟨fun b => b < gl.length, fun b => b, fun _ => 0, fun b => ((glO gl b).getD []).length⟩
/-- The tables are there. -/
def TabsAt (gl : List (Option (List AV))) (W : World) : Prop := ∀ (b : Nat) (z : List AV), glO gl b = some z → ∃ (cur : Array Value) (e : TypeId) (lo hi : Nat), W.heap[b]? = some (.cells cur e (lo, hi)) ∧ z.length ≤ cur.size ∧ ∀ (i : Nat) (a : AV), z[i]? = some a → ∃ v, cur[i]? = some v ∧ VR (gEmb gl) a v
theorem gEmb_HR {gl : List (Option (List AV))} {H0 : AH} {W : World} (hn : H0.n = gl.length) (h : ∀ b, match glO gl b with | some z => ∃ c, H0.at b = .cells c z.length 2 ∧ ∀ i, c.get? i = z[i]? | none => H0.at b = .dead) (ht : TabsAt gl W) : HR (gEmb gl) H0 W := by
  refine HRS.mk' (fun b hb => by rw [AH.sem_n, hn]; exact hb) (fun b hb ha => ?_) (fun b b' hb1 hb2 ho ha e => e)
  have hb' := h b
  cases e : glO gl b with
  | none => rw [e] at hb'; rw [AH.sem_ob, hb'] at ha; cases ha
  | some z =>
    rw [e] at hb'
    obtain ⟨c, h1, h2⟩ := hb'
    obtain ⟨cur, ty, lo, hi, g1, g2, g3⟩ := ht b z e
    rw [AH.sem_ob, h1]
    have hl : (gEmb gl).lim b = z.length := by simp [gEmb, e]
    refine ⟨cur, ty, lo, hi, g1, by rw [hl]; simpa [gEmb] using g2, by rw [hl]; exact Nat.le_refl _, fun j a hj => ?_, fun h => absurd h (by omega), fun h => absurd h (by omega)⟩
    have hj' : c.get? j = some a := hj
    rw [h2] at hj'
    have hjl : j < z.length := by
      rcases Nat.lt_or_ge j z.length with hx | hx
      · exact hx
      · rw [List.getElem?_eq_none hx] at hj'; cases hj'
    obtain ⟨v, y1, y2⟩ := g3 j a hj'
    exact ⟨hjl, v, by rw [show (gEmb gl).off b + j = j from Nat.zero_add j]; exact y1, y2⟩
theorem below_of_step {f f' : Emb} {H H' : AH} {w w' : World} (s : Step f H w f' H' w') (hown : ∀ b, f.dom b → (H.sem.ob b).own = false) : RowKit.Below w.heap.size w w' :=
  ⟨s.os, s.tape, s.output, s.size, fun k hk => s.keep k hk fun b hb ho => by rw [hown b hb] at ho; cases ho⟩
theorem aL_ok {l : List AV} (h : l.length ≤ 8) : RepA (aL l) l := RepA.of h (fun j => (gA l j).v) fun j _ => gA_ok l j
/-- Some calls, one behind the other, all of the same memory: each returns true. -/
noncomputable def runs {D : Nat} (C : CallF D) (g : Nat) (hs : Hs D) (l : List (List AV)) : Prop := @List.rec (List AV) (fun _ => Prop) True (fun a _ ih => C g (aL a) (fun v _ => v ih False N1 N1 N2 N2 N2 N6 NL NL NO) (fun _ _ => False) hs) l
theorem tT_out {a : AV} {x : Prop} (h : enc a x False N1 N1 N2 N2 N2 N6 NL NL NO) : a = .bool true ∧ x := by
  have g := enc_cases h
  rcases g with ⟨e, g⟩ | ⟨_, g⟩ | ⟨m, e, g⟩ | ⟨m, _, g⟩ | ⟨c, n, _, _, g⟩ | ⟨n, x, _, g⟩ | ⟨b, o, _, g⟩ | ⟨b, o, l, c, s, x, _, g⟩ | ⟨l, _, g⟩ | ⟨l, _, g⟩ | ⟨_, g⟩ <;> first | exact ⟨e, g⟩ | exact g.elim
/-- What is to be had of a run. -/
def CallsT (P : Program) (gl : List (Option (List AV))) (g : Nat) (args : List AV) : Prop := ∀ (W : World), TabsAt gl W → ∀ (vs : Array Value), VL (gEmb gl) args vs.toList → Calls P g vs W fun e w' => e = .returned (.bool true) ∧ RowKit.Below W.heap.size W w'
/-- From a run of the functions to a call in the model. -/
theorem calls_of_run {P : Program} {D : Nat} {gl : List (Option (List AV))} (hG : gl.length = P.globals.size) (hgl : glOk D gl = true) {C : CallF D} (hC : CallFOk P C) {g : Nat} (hb : hasBody P g = true) {args : List AV} (hl : args.length ≤ 8) {x : Prop}
    (h : C g (aL args) (fun v _ => v x False N1 N1 N2 N2 N2 N6 NL NL NO) (fun _ _ => False) (hs0 D gl)) : x ∧ CallsT P gl g args := by
  obtain ⟨H0, hr, hn, hat⟩ := hs0_ok hgl
  obtain ⟨o, H', h1, h2⟩ := hC g args _ _ _ _ H0 hb (aL_ok hl) hr h
  obtain ⟨_, _, h1⟩ := h1
  cases o with
  | pan v => exact h1.elim
  | ret v =>
    obtain ⟨hv1, hx⟩ := tT_out h1
    subst hv1
    refine ⟨hx, fun W ht vs hv => (h2 (gEmb gl) W vs (gEmb_HR hn hat ht) (fun g hg => ⟨by show g < gl.length; omega, rfl, rfl⟩) hv).mono fun e w' hp => ?_⟩
    obtain ⟨f', s, u, rfl, hu⟩ := hp
    cases hu
    refine ⟨rfl, below_of_step s fun b hb => ?_⟩
    have := hat b
    cases e : glO gl b with
    | none => rw [e] at this; rw [AH.sem_ob, this]; rfl
    | some z => rw [e] at this; obtain ⟨c, h1, _⟩ := this; rw [AH.sem_ob, h1]; rfl
theorem runs_ok {P : Program} {D : Nat} {gl : List (Option (List AV))} (hG : gl.length = P.globals.size) (hgl : glOk D gl = true) {C : CallF D} (hC : CallFOk P C) {g : Nat} (hb : hasBody P g = true) :
    ∀ {l : List (List AV)}, (∀ a ∈ l, a.length ≤ 8) → runs C g (hs0 D gl) l → ∀ a ∈ l, CallsT P gl g a
  | [], _, _, _, ha => by simp at ha
  | b :: l, hl, h, a, ha => by
    obtain ⟨h1, h2⟩ := calls_of_run hG hgl hC hb (hl b (by simp)) h
    rcases List.mem_cons.1 ha with rfl | ha
    · exact h2
    · exact runs_ok hG hgl hC hb (fun x hx => hl x (by simp [hx])) h1 a ha
end Go.X

namespace Go.X
noncomputable section
/-- Nothing is handed over. -/
def isE (v : V) (x : Prop) : Prop := v False False N1 N1 N2 N2 N2 N6 NL (fun l => match l with | [] => x | _ => False) NO
def noArgs (a : ETr 1) (x : Prop) : Prop := a fun v0 v1 v2 v3 v4 v5 v6 v7 => isE v0 (isE v1 (isE v2 (isE v3 (isE v4 (isE v5 (isE v6 (isE v7 x)))))))
/-- The tables are as they were. -/
def tabsK (D : Nat) : List (Option (List AV)) → Nat → Hs D → Prop → Prop
  | [], _, _, x => x
  | none :: r, b, h, x => tabsK D r (b + 1) h x
  | some z :: r, b, h, x => sLoadN D z.length (enc (.ptr b 0)) h fun v => dec v fun a => onAgg a fun l => bT (sameAL l z) (tabsK D r (b + 1) h x)
def knC (D : Nat) (gl : List (Option (List AV))) : FnC D := ⟨fun _ a kr _ h => noArgs a (tabsK D gl 0 h (kr (fun h _ _ _ _ _ _ _ _ _ _ => h) h))⟩
end
theorem isE_out {a : AV} {x : Prop} (h : isE (enc a) x) : a = undefA ∧ x := by
  obtain ⟨l, rfl, h⟩ := encQ h
  cases l with
  | nil => exact ⟨rfl, h⟩
  | cons _ _ => exact h.elim
theorem noArgs_out {a : ETr 1} {args : List AV} {x : Prop} (ha : RepA a args) (h : noArgs a x) : (∀ j, args.getD j undefA = undefA) ∧ x := by
  obtain ⟨hl, c, rfl, hc⟩ := ha
  have hc' : ∀ j, j < 8 → c j = enc (args.getD j undefA) := fun j hj => by
    have h : c j = enc (args.getD (j * 8 ^ 0 + 0) undefA) := hc j hj
    rwa [Nat.pow_zero, Nat.mul_one, Nat.add_zero] at h
  have h : isE (c 0) (isE (c 1) (isE (c 2) (isE (c 3) (isE (c 4) (isE (c 5) (isE (c 6) (isE (c 7) x))))))) := h
  rw [hc' 0 (by omega), hc' 1 (by omega), hc' 2 (by omega), hc' 3 (by omega), hc' 4 (by omega), hc' 5 (by omega), hc' 6 (by omega), hc' 7 (by omega)] at h
  obtain ⟨h0, h⟩ := isE_out h
  obtain ⟨h1, h⟩ := isE_out h
  obtain ⟨h2, h⟩ := isE_out h
  obtain ⟨h3, h⟩ := isE_out h
  obtain ⟨h4, h⟩ := isE_out h
  obtain ⟨h5, h⟩ := isE_out h
  obtain ⟨h6, h⟩ := isE_out h
  obtain ⟨h7, h⟩ := isE_out h
  refine ⟨fun j => ?_, h⟩
  match j with
  | 0 => exact h0
  | 1 => exact h1
  | 2 => exact h2
  | 3 => exact h3
  | 4 => exact h4
  | 5 => exact h5
  | 6 => exact h6
  | 7 => exact h7
  | j + 8 => rw [List.getD_eq_getElem?_getD, List.getElem?_eq_none (by omega)]; rfl
section
variable {P : Program} {D : Nat} {hs : Hs D} {H : AH}
theorem tabsK_out (hr : RepH hs H) : ∀ {l : List (Option (List AV))} {b : Nat} {x : Prop}, tabsK D l b hs x → (∀ j z, l[j]? = some (some z) → ∃ c n m, H.at (b + j) = .cells c n m ∧ ∀ i, i < z.length → c.get? i = z[i]?) ∧ x
  | [], _, _, h => ⟨fun j z hz => by simp at hz, h⟩
  | none :: r, b, x, h => by
    obtain ⟨h1, h2⟩ := tabsK_out hr (l := r) (b := b + 1) h
    refine ⟨fun j z hz => ?_, h2⟩
    cases j with
    | zero => simp at hz
    | succ j =>
      have := h1 j z (by simpa using hz)
      rwa [show b + 1 + j = b + (j + 1) by omega] at this
  | some z0 :: r, b, x, h => by
    have h := sLoadN_out hr h
    obtain ⟨c, n, m, hb, h⟩ := getK_out (show getK H b fun c _ _ => loadL c z0.length 0 fun l => dec (enc (.agg l)) fun a => onAgg a fun l => bT (sameAL l z0) (tabsK D r (b + 1) hs x) from h)
    obtain ⟨l, hl, hc, h⟩ := loadL_out _ _ _ _ h
    have h : bT (sameAL l z0) (tabsK D r (b + 1) hs x) := dec_enc (k := fun a => onAgg a fun l => bT (sameAL l z0) (tabsK D r (b + 1) hs x)) h
    obtain ⟨he, h5⟩ := bT_out h
    have he := sameAL_ok he
    subst he
    obtain ⟨h1, h2⟩ := tabsK_out hr (l := r) (b := b + 1) h5
    refine ⟨fun j z hz => ?_, h2⟩
    cases j with
    | zero =>
      simp at hz
      subst hz
      refine ⟨c, n, m, hb, fun i hi => ?_⟩
      have := hc i l[i] (List.getElem?_eq_getElem hi)
      rw [Nat.zero_add] at this
      rw [this, List.getElem?_eq_getElem hi]
    | succ j =>
      have := h1 j z (by simpa using hz)
      rwa [show b + 1 + j = b + (j + 1) by omega] at this
theorem pl_up {f f' : Emb} {a : AV} {v : Value} (h : pl a = true) (hv : VR f a v) : VR f' a v := by
  cases a with
  | bool b => cases hv; exact .bool b
  | int k n => cases hv; exact .int k n
  | str n x => cases hv with | str _ _ hx => exact .str n x hx
  | _ => cases h
theorem undef_up {f f' : Emb} : ∀ (args : List AV) (vs : List Value), (∀ j, args.getD j undefA = undefA) → VL f args vs → VL f' args vs
  | [], _, _, hv => by cases hv; exact .nil
  | a :: as, _, h, hv => by
    have h0 : a = undefA := by simpa using h 0
    subst h0
    cases hv with
    | cons _ v _ vs h1 h2 =>
      refine .cons _ _ _ _ ?_ (undef_up as vs (fun j => by simpa using h (j + 1)) h2)
      cases h1 with
      | tup _ us hu => cases hu; exact VR.undef f'
/-- From one run. -/
theorem knC_ok {gl : List (Option (List AV))} (hG : gl.length = P.globals.size) (hgl : glOk D gl = true) (hp : (gl.all fun z => match z with | some z => z.all pl | none => true) = true) {C0 : CallF D} (hC0 : CallFOk P C0) {g : Nat}
    (h0 : runs C0 g (hs0 D gl) [[]]) : FnCOk P g (knC D gl) := by
  intro C hC args a kr kp hs H hb ha hr h
  obtain ⟨hu, h⟩ := noArgs_out ha h
  obtain ⟨ht, h⟩ := tabsK_out hr h
  have hat : TabsAt gl = TabsAt gl := rfl
  refine ⟨.ret (.bool true), H, ⟨hs, hr, h⟩, fun f w vs hr' hg hv => ?_⟩
  have htab : TabsAt gl w := by
    intro b z hz
    have hz' : gl[b]? = some (some z) := by
      unfold glO at hz
      cases e : gl[b]? with
      | none => rw [e] at hz; cases hz
      | some y => rw [e] at hz; exact congrArg some hz
    have hbl : b < gl.length := (List.getElem?_eq_some_iff.1 hz').1
    obtain ⟨c, n, m, hb', hc⟩ := ht b z hz'
    rw [Nat.zero_add] at hb'
    obtain ⟨d1, d2, d3⟩ := hg b (by omega)
    obtain ⟨cur, e, lo, hi, g1, g2, g3, g4, _⟩ := hr'.toHRQ.cells d1 hb'
    rw [d2] at g1
    rw [d3] at g2
    refine ⟨cur, e, lo, hi, g1, ?_, fun i a hi' => ?_⟩
    · rcases Nat.eq_zero_or_pos z.length with hz0 | hz0
      · omega
      · have h1 := hc (z.length - 1) (by omega)
        rw [List.getElem?_eq_getElem (by omega)] at h1
        have := (g4 _ _ h1).1
        omega
    · have hil : i < z.length := (List.getElem?_eq_some_iff.1 hi').1
      obtain ⟨_, v, y1, y2⟩ := g4 i a (by rw [hc i hil, hi'])
      rw [d3, Nat.zero_add] at y1
      have hpl : pl a = true := by
        have h1 := List.all_eq_true.1 hp _ (List.mem_of_getElem? hz')
        exact List.all_eq_true.1 h1 a (List.mem_of_getElem? hi')
      exact ⟨v, y1, pl_up hpl y2⟩
  obtain ⟨H0, hr0, hn0, hat0⟩ := hs0_ok hgl
  have hA : RepA (aL []) args := RepA.of ha.1 (fun j => (gA [] j).v) fun j _ => by rw [gA_ok, hu j]; simp [List.getD]
  obtain ⟨o, H', h1, h2⟩ := hC0 g args _ _ _ _ H0 hb hA hr0 (show C0 g (aL []) (fun v _ => v True False N1 N1 N2 N2 N2 N6 NL NL NO) (fun _ _ => False) (hs0 D gl) from h0)
  obtain ⟨_, _, h1⟩ := h1
  cases o with
  | pan v => exact h1.elim
  | ret v =>
    obtain ⟨rfl, _⟩ := tT_out h1
    refine (h2 (gEmb gl) w vs (gEmb_HR hn0 hat0 htab) (fun g hg => ⟨by show g < gl.length; omega, rfl, rfl⟩) (undef_up _ _ hu hv)).mono fun e w' hp => ?_
    obtain ⟨f', s, u, rfl, hu'⟩ := hp
    cases hu'
    have bel := below_of_step s fun b hb => by
      have := hat0 b
      cases e : glO gl b with
      | none => rw [e] at this; rw [AH.sem_ob, this]; rfl
      | some z => rw [e] at this; obtain ⟨c, h1, _⟩ := this; rw [AH.sem_ob, h1]; rfl
    refine ⟨f, ⟨HRS.mk' hr'.dom (fun b hb ha => ?_) hr'.inj, .refl f, Nat.le_refl _, bel.size, fun k hk _ => bel.block k hk, fun b hd ho => .inl ⟨b, hd, ho, rfl⟩, fun b _ _ => rfl, fun _ _ h => h, fun _ _ h => h, fun _ _ _ => rfl, bel.os, bel.tape, bel.output⟩, .bool true, rfl, .bool true⟩
    rw [bel.block _ (hr'.toHRQ.block_lt hb ha)]
    exact hr'.obj b hb ha
end
end Go.X

namespace Go.X
def num : List Nat → Nat
  | [] => 0
  | c :: l => c + 256 * num l
def B8 (l : List Nat) : Prop := ∀ c ∈ l, c < 256
theorem B8.nil : B8 [] := fun _ h => by cases h
theorem B8.hd {c : Nat} {l : List Nat} (h : B8 (c :: l)) : c < 256 := h c (by simp)
theorem B8.tl {c : Nat} {l : List Nat} (h : B8 (c :: l)) : B8 l := fun x hx => h x (by simp [hx])
theorem B8.cons {c : Nat} {l : List Nat} (h : c < 256) (h' : B8 l) : B8 (c :: l) := fun x hx => by
  rcases List.mem_cons.1 hx with g | g
  · rw [g]; exact h
  · exact h' x g
theorem B8.app {l m : List Nat} (h : B8 l) (h' : B8 m) : B8 (l ++ m) := fun x hx => by
  rcases List.mem_append.1 hx with g | g
  · exact h x g
  · exact h' x g
theorem num_lt : ∀ {l : List Nat}, B8 l → num l < 256 ^ l.length
  | [], _ => by simp [num]
  | c :: l, h => by
    have h1 := num_lt h.tl
    have h2 := h.hd
    simp only [num, List.length_cons, Nat.pow_succ]
    omega
theorem num_app : ∀ (l m : List Nat), num (l ++ m) = num l + 256 ^ l.length * num m
  | [], m => by simp [num]
  | c :: l, m => by
    simp only [List.cons_append, num, num_app l m, List.length_cons, Nat.pow_succ]
    rw [Nat.mul_add, Nat.mul_comm (256 ^ l.length) 256, Nat.mul_assoc, Nat.add_assoc]
theorem str_ex : ∀ {n x : Nat}, x < 256 ^ n → ∃ l, B8 l ∧ l.length = n ∧ num l = x
  | 0, x, h => ⟨[], B8.nil, rfl, by simp at h; simp [num, h]⟩
  | n + 1, x, h => by
    obtain ⟨l, h1, h2, h3⟩ := str_ex (n := n) (x := x / 256) (by rw [Nat.pow_succ] at h; exact Nat.div_lt_of_lt_mul (by rw [Nat.mul_comm]; exact h))
    refine ⟨x % 256 :: l, h1.cons (Nat.mod_lt _ (by omega)), by simp [h2], ?_⟩
    simp only [num, h3]
    omega
/-- A list's bytes, as the model holds them. -/
def toU8 (l : List Nat) : List UInt8 := l.map UInt8.ofNat
theorem toL_num : ∀ {l : List Nat}, B8 l → toL l.length (num l) = toU8 l
  | [], _ => rfl
  | c :: l, h => by
    have hc := h.hd
    have e1 : (c + 256 * num l) % 256 = c := by omega
    have e2 : (c + 256 * num l) / 256 = num l := by omega
    show UInt8.ofNat ((c + 256 * num l) % 256) :: toL l.length ((c + 256 * num l) / 256) = UInt8.ofNat c :: toU8 l
    rw [e1, e2, toL_num h.tl]
theorem toBA_list {l : List Nat} (h : B8 l) : (toBA l.length (num l)).data.toList = toU8 l := by
  show (toL l.length (num l)).toArray.toList = _
  rw [toL_num h]
theorem VL.cons_inv {f : Emb} {a : AV} {l : List AV} {vs : List Value} (h : VL f (a :: l) vs) : ∃ v r, vs = v :: r ∧ VR f a v ∧ VL f l r := by
  cases h with
  | cons _ v _ r h1 h2 => exact ⟨v, r, rfl, h1, h2⟩
theorem VR.intA {f : Emb} {k : Nat} {z : Int} {v : Value} (h : VR f (.int k z) v) : v = .int (kd k) z := by
  cases h; rfl
end Go.X

namespace Go.X
noncomputable section
/-- Two values are handed over. -/
def twoA (a : ETr 1) (k : AV → AV → Prop) : Prop := a fun v0 v1 v2 v3 v4 v5 v6 v7 => isE v2 (isE v3 (isE v4 (isE v5 (isE v6 (isE v7 (dec v0 fun a0 => dec v1 fun a1 => k a0 a1))))))
def isTx (a : AV) (k : Nat → Nat → Prop) : Prop := match a with | .str n x => k n x | _ => False
def isNt (a : AV) (k : Nat → Prop) : Prop := match a with | .int 0 (.ofNat n) => k n | _ => False
def onSl (a : AV) (k : Nat → Nat → Nat → Nat → Prop) : Prop := match a with | .slice b o n c 1 _ => k b o n c | _ => False
/-- A text of n bytes so many times. -/
def repX (n x c : Nat) : Nat := Nat.div (Nat.mul x (Nat.sub (Nat.pow 256 (Nat.mul n c)) 1)) (Nat.sub (Nat.pow 256 n) 1)
def repC (D : Nat) : FnC D := ⟨fun _ a kr _ h => twoA a fun a0 a1 => isTx a0 fun n x => isNt a1 fun c => bT (Nat.ble 1 n) (bT (Nat.ble (Nat.mul n c) 1000000) (bT (Nat.ble c 1000000) (kr (enc (.str (Nat.mul n c) (repX n x c))) h)))⟩
/-- Texts with one between. -/
def joinX (n x : Nat) : List AV → Nat → Nat → (Nat → Nat → Prop) → Prop
  | [], m, y, k => k m y
  | a :: l, m, y, k => isTx a fun m' y' => joinX n x l (Nat.add m (Nat.add n m')) (Nat.add y (Nat.add (Nat.mul (Nat.pow 256 m) x) (Nat.mul (Nat.pow 256 (Nat.add m n)) y'))) k
def joinL (n x : Nat) (l : List AV) (k : Nat → Nat → Prop) : Prop := match l with
  | [] => False
  | a :: l => isTx a fun m y => joinX n x l m y k
def joinC (D : Nat) : FnC D := ⟨fun _ a kr _ h => twoA a fun a0 a1 => isTx a1 fun n x => onSl a0 fun b o s c => bT (Nat.ble 2 s) (bT (Nat.ble s c) (bT (Nat.ble c 1000000) (sLoadN D s (enc (.ptr b o)) h fun v => dec v fun w => onAgg w fun l => joinL n x l fun m y => bT (Nat.ble 1 m) (bT (Nat.ble m 1000000) (kr (enc (.str m y)) h)))))⟩
end
theorem twoA_out {a : ETr 1} {args : List AV} {k : AV → AV → Prop} (ha : RepA a args) (h : twoA a k) : (∀ j, args.getD (j + 2) undefA = undefA) ∧ k (args.getD 0 undefA) (args.getD 1 undefA) := by
  obtain ⟨hl, c, rfl, hc⟩ := ha
  have hc' : ∀ j, j < 8 → c j = enc (args.getD j undefA) := fun j hj => by
    have h : c j = enc (args.getD (j * 8 ^ 0 + 0) undefA) := hc j hj
    rwa [Nat.pow_zero, Nat.mul_one, Nat.add_zero] at h
  have h : isE (c 2) (isE (c 3) (isE (c 4) (isE (c 5) (isE (c 6) (isE (c 7) (dec (c 0) fun a0 => dec (c 1) fun a1 => k a0 a1)))))) := h
  rw [hc' 0 (by omega), hc' 1 (by omega), hc' 2 (by omega), hc' 3 (by omega), hc' 4 (by omega), hc' 5 (by omega), hc' 6 (by omega), hc' 7 (by omega)] at h
  obtain ⟨h2, h⟩ := isE_out h
  obtain ⟨h3, h⟩ := isE_out h
  obtain ⟨h4, h⟩ := isE_out h
  obtain ⟨h5, h⟩ := isE_out h
  obtain ⟨h6, h⟩ := isE_out h
  obtain ⟨h7, h⟩ := isE_out h
  have h := dec_enc h
  have h := dec_enc h
  refine ⟨fun j => ?_, h⟩
  match j with
  | 0 => exact h2
  | 1 => exact h3
  | 2 => exact h4
  | 3 => exact h5
  | 4 => exact h6
  | 5 => exact h7
  | j + 6 => rw [List.getD_eq_getElem?_getD, List.getElem?_eq_none (by omega)]; rfl
theorem isTx_out {a : AV} {k : Nat → Nat → Prop} (h : isTx a k) : ∃ n x, a = .str n x ∧ k n x := by
  cases a <;> first | exact h.elim | exact ⟨_, _, rfl, h⟩
theorem isNt_out {a : AV} {k : Nat → Prop} (h : isNt a k) : ∃ n, a = .int 0 (.ofNat n) ∧ k n := by
  unfold isNt at h
  split at h
  · exact ⟨_, rfl, h⟩
  · exact h.elim
theorem onSl_out {a : AV} {k : Nat → Nat → Nat → Nat → Prop} (h : onSl a k) : ∃ b o n c ex, a = .slice b o n c 1 ex ∧ k b o n c := by
  unfold onSl at h
  split at h
  · exact ⟨_, _, _, _, _, rfl, h⟩
  · exact h.elim
section
variable {P : Program} {D : Nat}
/-- What is handed over beyond is undefined. -/
theorem calls_pad {g : Nat} {fn : Func} {c : Code} (hf : P.funcs[g]? = some fn) (hb : fn.body = some c) {args : Array Value} {w : World} {R : Ending → World → Prop} {j : Nat} (hj : args.size + j ≤ fn.ntmps) (h : Calls P g args w R) : Calls P g (args ++ Array.replicate j undef) w R := by
  have e : Frame.enter P g (args ++ Array.replicate j undef) .normal = Frame.enter P g args .normal := by
    have e2 : args ++ Array.replicate j undef ++ Array.replicate (fn.ntmps - (args ++ Array.replicate j undef).size) undef = args ++ Array.replicate (fn.ntmps - args.size) undef := by
      apply Array.ext'
      simp only [Array.toList_append, Array.toList_replicate, Array.size_append, Array.size_replicate, List.append_assoc]
      rw [List.replicate_append_replicate]
      congr 2
      omega
    simp only [Frame.enter, hf, Option.map_some, Option.getD_some, e2]
  unfold Calls at h ⊢
  rw [e]
  exact h
theorem undefs {f : Emb} : ∀ (args : List AV) (vs : List Value), (∀ j, args.getD j undefA = undefA) → VL f args vs → vs = List.replicate args.length undef
  | [], _, _, hv => by cases hv; rfl
  | a :: as, _, h, hv => by
    have h0 : a = undefA := by simpa using h 0
    subst h0
    cases hv with
    | cons _ v _ vs h1 h2 =>
      rw [undefs as vs (fun j => by simpa using h (j + 1)) h2]
      cases h1 with
      | tup _ us hu => cases hu; rfl
theorem two_vals {f : Emb} {args : List AV} {vs : Array Value} {a0 a1 : AV} (h0 : args.getD 0 undefA = a0) (h1 : args.getD 1 undefA = a1) (n0 : a0 ≠ undefA) (n1 : a1 ≠ undefA) (hu : ∀ j, args.getD (j + 2) undefA = undefA) (hv : VL f args vs.toList) : ∃ v0 v1, VR f a0 v0 ∧ VR f a1 v1 ∧ vs = #[v0, v1] ++ Array.replicate (args.length - 2) undef := by
  match args, hv with
  | [], hv => exact absurd h0.symm (by simpa using n0)
  | [a], hv => exact absurd h1.symm (by simpa using n1)
  | a :: b :: r, hv =>
    have h0 : a = a0 := h0
    have h1 : b = a1 := h1
    subst h0; subst h1
    obtain ⟨v0, r0, e0, g0, hv⟩ := hv.cons_inv
    obtain ⟨v1, r1, rfl, g1, hv⟩ := hv.cons_inv
    have := undefs r r1 (fun j => hu j) hv
    subst this
    refine ⟨v0, v1, g0, g1, ?_⟩
    apply Array.ext'
    rw [e0]
    simp
/-- A function that leaves all there is as it was. -/
theorem FnCOk.of_below {g : Nat} {F : FnC D} (h : ∀ (C : CallF D) args a kr kp (hs : Hs D) H, RepA a args → RepH hs H → F.run C a kr kp hs → ∃ v, kr (enc v) hs ∧ ∀ f w (vs : Array Value), HR f H w → VL f args vs.toList → Calls P g vs w fun e w' => (∃ u, e = .returned u ∧ VR f v u) ∧ RowKit.Below w.heap.size w w') : FnCOk P g F := by
  intro C hC args a kr kp hs H hb ha hr hrun
  obtain ⟨v, hk, hc⟩ := h C args a kr kp hs H ha hr hrun
  refine ⟨.ret v, H, ⟨hs, hr, hk⟩, fun f w vs hr' hg hv => ?_⟩
  refine (hc f w vs hr' hv).mono fun e w' ⟨⟨u, he, hu⟩, bel⟩ => ?_
  refine ⟨f, ⟨HRS.mk' hr'.dom (fun b hb ha => ?_) hr'.inj, .refl f, Nat.le_refl _, bel.size, fun k hk _ => bel.block k hk, fun b hd ho => .inl ⟨b, hd, ho, rfl⟩, fun b _ _ => rfl, fun _ _ h => h, fun _ _ h => h, fun _ _ _ => rfl, bel.os, bel.tape, bel.output⟩, u, he, hu⟩
  rw [bel.block _ (hr'.toHRQ.block_lt hb ha)]
  exact hr'.obj b hb ha
theorem num_rep {l : List Nat} : ∀ c, num ((List.replicate c l).flatten) * (256 ^ l.length - 1) = num l * (256 ^ (l.length * c) - 1)
  | 0 => by simp [num]
  | c + 1 => by
    have ih := num_rep (l := l) c
    have p1 : 1 ≤ 256 ^ l.length := Nat.one_le_pow _ _ (by omega)
    have p2 : 1 ≤ 256 ^ (l.length * c) := Nat.one_le_pow _ _ (by omega)
    rw [List.replicate_succ, List.flatten_cons, num_app, Nat.add_mul, Nat.mul_assoc, ih, Nat.mul_succ, Nat.pow_add]
    obtain ⟨A, hA⟩ : ∃ A, 256 ^ l.length = A + 1 := ⟨256 ^ l.length - 1, by omega⟩
    obtain ⟨B, hB⟩ : ∃ B, 256 ^ (l.length * c) = B + 1 := ⟨256 ^ (l.length * c) - 1, by omega⟩
    rw [hA, hB]
    have e1 : (B + 1) * (A + 1) - 1 = B * A + B + A := by rw [Nat.add_mul, Nat.mul_add]; omega
    rw [e1]
    simp only [Nat.add_sub_cancel]
    rw [Nat.mul_add, Nat.mul_add, Nat.add_mul, Nat.mul_left_comm, Nat.mul_comm A B]
    omega
theorem repX_eq {l : List Nat} (h1 : 1 ≤ l.length) (c : Nat) : repX l.length (num l) c = num ((List.replicate c l).flatten) := by
  have h := num_rep (l := l) c
  have p1 : 256 ^ 1 ≤ 256 ^ l.length := Nat.pow_le_pow_right (by omega) h1
  show num l * (256 ^ (l.length * c) - 1) / (256 ^ l.length - 1) = _
  rw [← h]
  exact Nat.mul_div_cancel _ (by omega)
theorem repeatL_u8 (l : List Nat) : ∀ c, Lib.repeatL (toU8 l) c = toU8 ((List.replicate c l).flatten)
  | 0 => rfl
  | c + 1 => by
    rw [List.replicate_succ, List.flatten_cons]
    show toU8 l ++ Lib.repeatL (toU8 l) c = _
    rw [repeatL_u8 l c]
    simp [toU8]
theorem b8_flat {l : List Nat} (h : B8 l) : ∀ c, B8 ((List.replicate c l).flatten)
  | 0 => fun x hx => by simp at hx
  | c + 1 => fun x hx => by
    rw [List.replicate_succ, List.flatten_cons] at hx
    exact (List.mem_append.1 hx).elim (h x) (b8_flat h c x)
theorem flat_len (l : List Nat) : ∀ c, ((List.replicate c l).flatten).length = l.length * c
  | 0 => by simp
  | c + 1 => by
    rw [List.replicate_succ, List.flatten_cons, List.length_append, flat_len l c, Nat.mul_succ]
    omega
/-- The bytes of a text. -/
theorem str_val {f : Emb} {l : List Nat} (h : B8 l) : VR f (.str l.length (num l)) (.string ⟨(toU8 l).toArray⟩) := by
  have e : (⟨(toU8 l).toArray⟩ : ByteArray) = toBA l.length (num l) := by
    show _ = (⟨(toL l.length (num l)).toArray⟩ : ByteArray)
    rw [toL_num h]
  rw [e]
  exact .str _ _ (num_lt h)
theorem repC_ok {g : Nat} {fn : Func} {c : Code} (hf : P.funcs[g]? = some fn) (hb : fn.body = some c) (hn : 8 ≤ fn.ntmps)
    (hC : ∀ (s : ByteArray) (c : Nat) (w : World), c ≤ 1000000 → s.size * c ≤ 1000000 → Calls P g #[.string s, .int .i64 c] w fun e w' => e = .returned (.string ⟨(Lib.repeatL s.data.toList c).toArray⟩) ∧ RowKit.Below w.heap.size w w') : FnCOk P g (repC D) := FnCOk.of_below fun C args a kr kp hs H ha hr h => by
  obtain ⟨hu, h⟩ := twoA_out ha h
  have hl := ha.1
  obtain ⟨n, x, e0, h⟩ := isTx_out h
  obtain ⟨k, e1, h⟩ := isNt_out h
  obtain ⟨b1, h⟩ := bT_out h
  obtain ⟨b2, h⟩ := bT_out h
  obtain ⟨b3, h⟩ := bT_out h
  have b1 := Nat.le_of_ble_eq_true b1
  have b2 : n * k ≤ 1000000 := Nat.le_of_ble_eq_true b2
  have b3 := Nat.le_of_ble_eq_true b3
  refine ⟨_, h, fun f w vs hr' hv => ?_⟩
  obtain ⟨v0, v1, g0, g1, rfl⟩ := two_vals e0 e1 (by intro q; cases q) (by intro q; cases q) hu hv
  cases g0 with
  | str _ _ hx =>
    obtain ⟨l, h8, rfl, rfl⟩ := str_ex hx
    obtain rfl := g1.intA
    have hsz : (toBA l.length (num l)).size = l.length := toBA_size _ _
    refine (calls_pad hf hb (by simp only [List.size_toArray, List.length_cons, List.length_nil]; omega) (hC (toBA l.length (num l)) k w b3 (by rw [hsz]; exact b2))).mono fun e w' ⟨he, hw⟩ => ⟨⟨_, he, ?_⟩, hw⟩
    rw [toBA_list h8, repeatL_u8]
    have e2 : AV.str (Nat.mul l.length k) (repX l.length (num l) k) = .str ((List.replicate k l).flatten).length (num ((List.replicate k l).flatten)) := by
      rw [repX_eq b1, flat_len]
      rfl
    rw [e2]
    exact str_val (b8_flat h8 k)
def jt (t : List Nat) (ls : List (List Nat)) : List Nat := (ls.map (t ++ ·)).flatten
theorem jt_cons (t a : List Nat) (ls : List (List Nat)) : jt t (a :: ls) = (t ++ a) ++ jt t ls := rfl
theorem lib_join (t a : List Nat) (ls : List (List Nat)) : Lib.join ((a :: ls).map toU8) (toU8 t) = toU8 (a ++ jt t ls) := by
  induction ls generalizing a with
  | nil => simp only [List.map_cons, List.map_nil, Lib.join_one, jt, List.flatten_nil, List.append_nil]
  | cons b ls ih =>
    have ih := ih b
    simp only [Lib.join, List.map_cons, List.intercalate_cons_cons] at ih ⊢
    rw [ih, jt_cons]
    simp [toU8]
theorem b8_jt {t : List Nat} (ht : B8 t) : ∀ (ls : List (List Nat)), (∀ a ∈ ls, B8 a) → B8 (jt t ls)
  | [], _ => fun x hx => by simp [jt] at hx
  | a :: ls, h => by
    rw [jt_cons]
    exact (ht.app (h a (List.mem_cons_self ..))).app (b8_jt ht ls fun b hb => h b (List.mem_cons_of_mem _ hb))
theorem joinX_ok {n x : Nat} : ∀ (l : List AV) (m y : Nat) (k : Nat → Nat → Prop), joinX n x l m y k → ∃ m' y', k m' y' ∧ ∀ t acc : List Nat, t.length = n → num t = x → acc.length = m → num acc = y → (∀ n x, AV.str n x ∈ l → x < 256 ^ n) → ∃ ls : List (List Nat), l = ls.map (fun a => AV.str a.length (num a)) ∧ (∀ a ∈ ls, B8 a) ∧ m' = (acc ++ jt t ls).length ∧ y' = num (acc ++ jt t ls)
  | [], m, y, k, h => ⟨m, y, h, fun t acc h1 h2 h3 h4 _ => ⟨[], rfl, fun a ha => by simp at ha, by simp [jt, h3], by simp [jt, h4]⟩⟩
  | a :: l, m, y, k, h => by
    obtain ⟨m1, y1, e, h2⟩ := isTx_out (show isTx a _ from h)
    subst e
    obtain ⟨m', y', g1, g2⟩ := joinX_ok l _ _ k h2
    refine ⟨m', y', g1, fun t acc q1 q2 q3 q4 hl => ?_⟩
    obtain ⟨b, h8, r1, r2⟩ := str_ex (hl m1 y1 (List.mem_cons_self ..))
    subst r1; subst r2; subst q1; subst q2; subst q3; subst q4
    obtain ⟨ls, u1, u2, u3, u4⟩ := g2 t (acc ++ (t ++ b)) rfl rfl (by rw [List.length_append, List.length_append]; rfl) (by
      rw [num_app, num_app, Nat.mul_add, ← Nat.mul_assoc, ← Nat.pow_add]
      rfl) fun n x hx => hl n x (List.mem_cons_of_mem _ hx)
    refine ⟨b :: ls, by rw [u1]; rfl, fun a ha => (List.mem_cons.1 ha).elim (fun e => e ▸ h8) (u2 a), ?_, ?_⟩
    · rw [u3, jt_cons, List.append_assoc]
    · rw [u4, jt_cons, List.append_assoc]
theorem joinL_ok {n x : Nat} {l : List AV} {k : Nat → Nat → Prop} (h : joinL n x l k) : ∃ m' y', k m' y' ∧ ∀ t : List Nat, t.length = n → num t = x → (∀ n x, AV.str n x ∈ l → x < 256 ^ n) → ∃ a, ∃ ls : List (List Nat), l = (a :: ls).map (fun a => AV.str a.length (num a)) ∧ B8 a ∧ (∀ a ∈ ls, B8 a) ∧ m' = (a ++ jt t ls).length ∧ y' = num (a ++ jt t ls) := by
  cases l with
  | nil => exact (show False from h).elim
  | cons a l =>
    obtain ⟨m1, y1, e, h2⟩ := isTx_out (show isTx a _ from h)
    subst e
    obtain ⟨m', y', g1, g2⟩ := joinX_ok l _ _ k h2
    refine ⟨m', y', g1, fun t q1 q2 hl => ?_⟩
    obtain ⟨b, h8, r1, r2⟩ := str_ex (hl m1 y1 (List.mem_cons_self ..))
    obtain ⟨ls, u1, u2, u3, u4⟩ := g2 t b q1 q2 r1 r2 fun n x hx => hl n x (List.mem_cons_of_mem _ hx)
    subst r1; subst r2
    exact ⟨b, ls, by rw [u1]; rfl, h8, u2, u3, u4⟩
theorem joinC_ok {g : Nat} {fn : Func} {c : Code} (hf : P.funcs[g]? = some fn) (hb : fn.body = some c) (hn : 8 ≤ fn.ntmps)
    (hC : ∀ (bk o c : Nat) (xs : List ByteArray) (sep : ByteArray) (w : World), (∀ (j : Nat) x, xs[j]? = some x → w.cell? ⟨bk, o + j, none⟩ = some (.string x)) → bk < w.heap.size → xs.length ≤ 1000000 → xs.length ≤ c → (Lib.join (xs.map (·.data.toList)) sep.data.toList).length ≤ 1000000 → Calls P g #[.slice (some ⟨bk, o, none⟩) xs.length c, .string sep] w fun e w' => e = .returned (.string ⟨(Lib.join (xs.map (·.data.toList)) sep.data.toList).toArray⟩) ∧ RowKit.Below w.heap.size w w') : FnCOk P g (joinC D) := FnCOk.of_below fun C args a kr kp hs H ha hr h => by
  obtain ⟨hu, h⟩ := twoA_out ha h
  have hl8 := ha.1
  obtain ⟨n, x, e1, h⟩ := isTx_out h
  obtain ⟨b, o, s, cp, ex, e0, h⟩ := onSl_out h
  obtain ⟨b1, h⟩ := bT_out h
  obtain ⟨b2, h⟩ := bT_out h
  obtain ⟨b3, h⟩ := bT_out h
  have b1 := Nat.le_of_ble_eq_true b1
  have b2 := Nat.le_of_ble_eq_true b2
  have b3 := Nat.le_of_ble_eq_true b3
  have h := sLoadN_out hr h
  obtain ⟨cl, cn, m, hat, h⟩ := getK_out (show getK H b fun c _ _ => loadL c s o fun l => dec (enc (.agg l)) fun w => onAgg w fun l => joinL n x l fun m y => bT (Nat.ble 1 m) (bT (Nat.ble m 1000000) (kr (enc (.str m y)) hs)) from h)
  obtain ⟨l, hl, hc, h⟩ := loadL_out _ _ _ _ h
  have h : joinL n x l fun m y => bT (Nat.ble 1 m) (bT (Nat.ble m 1000000) (kr (enc (.str m y)) hs)) := dec_enc (k := fun w => onAgg w fun l => joinL n x l fun m y => bT (Nat.ble 1 m) (bT (Nat.ble m 1000000) (kr (enc (.str m y)) hs))) h
  obtain ⟨m', y', h, hv'⟩ := joinL_ok h
  obtain ⟨c1, h⟩ := bT_out h
  obtain ⟨c2, h⟩ := bT_out h
  have c1 := Nat.le_of_ble_eq_true c1
  have c2 := Nat.le_of_ble_eq_true c2
  refine ⟨_, h, fun f w vs hr' hv => ?_⟩
  obtain ⟨v0, v1, g0, g1, rfl⟩ := two_vals e0 e1 (by intro q; cases q) (by intro q; cases q) hu hv
  cases g1 with
  | str _ _ hx =>
    obtain ⟨t, t8, r1, r2⟩ := str_ex hx
    cases g0 with
    | slice _ _ _ _ _ _ cap' x' hdm q1 q2 q3 q4 =>
      have hq := hr'.toHRQ
      have cells : ∀ i a, l[i]? = some a → ∃ v, w.cell? ⟨f.blk b, f.off b + (o + i), none⟩ = some v ∧ VR f a v := fun i a hi => hq.cell hdm hat (hc i a hi)
      obtain ⟨a, ls, u1, a8, l8, u3, u4⟩ := hv' t r1 r2 fun n x hx => by
        obtain ⟨i, hi⟩ := List.mem_iff_getElem?.1 hx
        obtain ⟨v, _, hv⟩ := cells i _ hi
        cases hv with
        | str _ _ h => exact h
      have hx' := q3 (by omega)
      have hls : (a :: ls).length = s := by rw [← hl, u1, List.length_map]
      have hall : ∀ b ∈ a :: ls, B8 b := fun b hb => (List.mem_cons.1 hb).elim (fun e => e ▸ a8) (l8 b)
      have hdat : ((a :: ls).map fun a => toBA a.length (num a)).map (fun b : ByteArray => b.data.toList) = (a :: ls).map toU8 := by
        rw [List.map_map]
        exact List.map_congr_left fun b hb => toBA_list (hall b hb)
      have hsep : (toBA n x).data.toList = toU8 t := by
        rw [← r1, ← r2]
        exact toBA_list t8
      have hjl : (Lib.join (((a :: ls).map fun a => toBA a.length (num a)).map (fun b : ByteArray => b.data.toList)) (toBA n x).data.toList) = toU8 (a ++ jt t ls) := by
        rw [hdat, hsep, lib_join]
      have hcall := hC (f.blk b) x' cap' ((a :: ls).map fun a => toBA a.length (num a)) (toBA n x) w (fun j z hj => ?_) (hq.block_lt hdm (by rw [AH.sem_ob, hat]; rfl)) (by rw [List.length_map, hls]; omega) (by rw [List.length_map, hls]; omega) (by rw [hjl, toU8, List.length_map]; omega)
      · rw [List.length_map, hls] at hcall
        refine (calls_pad hf hb (by simp only [List.size_toArray, List.length_cons, List.length_nil]; omega) hcall).mono fun e w' ⟨he, hw⟩ => ⟨⟨_, he, ?_⟩, hw⟩
        rw [hjl, u3, u4]
        exact str_val (a8.app (b8_jt t8 ls l8))
      · rw [List.getElem?_map] at hj
        obtain ⟨z', hz, rfl⟩ := Option.map_eq_some_iff.1 hj
        obtain ⟨v, hv1, hv2⟩ := cells j (.str z'.length (num z')) (by rw [u1, List.getElem?_map, hz]; rfl)
        have ea : f.off b + (o + j) = x' + j := by omega
        rw [ea] at hv1
        rw [hv1]
        cases hv2 with
        | str _ _ h => rfl
end
end Go.X

namespace Go.X
noncomputable section
def oneA (a : ETr 1) (k : AV → Prop) : Prop := a fun v0 v1 v2 v3 v4 v5 v6 v7 => isE v1 (isE v2 (isE v3 (isE v4 (isE v5 (isE v6 (isE v7 (dec v0 fun a0 => k a0)))))))
variable (D : Nat)
/-- A block of one's own that holds these cells and no more. -/
def rowIs (z : List AV) (b : Nat) (hs : Hs D) (x : Prop) : Prop := hs fun ht _ => (acc SO D b).get (fun so => so (fun d t n => bT (Nat.beq n z.length) (sLoadL d t z.length 0 fun l => bT (sameAL l z) x)) (fun _ _ _ _ => False) NB) ht
def rowS (z : List AV) (hs : Hs D) (a : AV) : Prop := match a with | .slice b o n c 1 true => bT (Nat.beq o 0) (bT (Nat.beq n z.length) (bT (Nat.beq c z.length) (rowIs D z b hs True))) | _ => False
def rowK (z : List AV) (v : V) (hs : Hs D) : Prop := dec v fun a => rowS D z hs a
def rowR (l : List (AV × List AV)) (x : AV) (kr : V → Hs D → Prop) (h : Hs D) : Prop := @List.rec (AV × List AV) (fun _ => Prop) False (fun q _ ih => bI (sameAL [x] [q.1]) (sNewL D q.2 h fun b n h' => bT (Nat.beq n q.2.length) (kr (enc (.slice b 0 q.2.length q.2.length 1 true)) h')) ih) l
def rowC (gl : List (Option (List AV))) (l : List (AV × List AV)) : FnC D := ⟨fun _ a kr _ h => oneA a fun x => tabsK D gl 0 h (rowR D l x kr h)⟩
end
theorem oneA_out {a : ETr 1} {args : List AV} {k : AV → Prop} (ha : RepA a args) (h : oneA a k) : (∀ j, args.getD (j + 1) undefA = undefA) ∧ k (args.getD 0 undefA) := by
  obtain ⟨hl, c, rfl, hc⟩ := ha
  have hc' : ∀ j, j < 8 → c j = enc (args.getD j undefA) := fun j hj => by
    have h : c j = enc (args.getD (j * 8 ^ 0 + 0) undefA) := hc j hj
    rwa [Nat.pow_zero, Nat.mul_one, Nat.add_zero] at h
  have h : isE (c 1) (isE (c 2) (isE (c 3) (isE (c 4) (isE (c 5) (isE (c 6) (isE (c 7) (dec (c 0) fun a0 => k a0))))))) := h
  rw [hc' 0 (by omega), hc' 1 (by omega), hc' 2 (by omega), hc' 3 (by omega), hc' 4 (by omega), hc' 5 (by omega), hc' 6 (by omega), hc' 7 (by omega)] at h
  obtain ⟨h1, h⟩ := isE_out h
  obtain ⟨h2, h⟩ := isE_out h
  obtain ⟨h3, h⟩ := isE_out h
  obtain ⟨h4, h⟩ := isE_out h
  obtain ⟨h5, h⟩ := isE_out h
  obtain ⟨h6, h⟩ := isE_out h
  obtain ⟨h7, h⟩ := isE_out h
  have h := dec_enc h
  refine ⟨fun j => ?_, h⟩
  match j with
  | 0 => exact h1
  | 1 => exact h2
  | 2 => exact h3
  | 3 => exact h4
  | 4 => exact h5
  | 5 => exact h6
  | 6 => exact h7
  | j + 7 => rw [List.getD_eq_getElem?_getD, List.getElem?_eq_none (by omega)]; rfl
section
variable {P : Program} {D : Nat} {hs : Hs D} {H : AH}
theorem rowIs_out {z : List AV} {b : Nat} {x : Prop} (hr : RepH hs H) (h : rowIs D z b hs x) : ∃ c, H.at b = .cells c z.length 0 ∧ (∀ i, i < z.length → c.get? i = z[i]?) ∧ x := by
  obtain ⟨ht, rfl, htr⟩ := hr.tr
  obtain ⟨_, so, hso, hk⟩ := acc_get D htr h
  rcases so_cells hso hk with ⟨c, n, d, t, e, h1, h2⟩ | ⟨c, n, m, d, t, e, h1, h2⟩ | ⟨h, _⟩
  · obtain ⟨hn, g2⟩ := bT_out h2
    have hn := Nat.eq_of_beq_eq_true hn
    subst hn
    obtain ⟨l, hl, hc, h3⟩ := loadL_out _ _ _ _ (sLoadL_out h1 _ _ _ g2)
    obtain ⟨he, hx⟩ := bT_out h3
    have he := sameAL_ok he
    subst he
    refine ⟨c, e, fun i hi => ?_, hx⟩
    have := hc i l[i] (List.getElem?_eq_getElem hi)
    rw [Nat.zero_add] at this
    rw [this, List.getElem?_eq_getElem hi]
  · exact h2.elim
  · exact h.elim
theorem rowS_out {z : List AV} {a : AV} (hr : RepH hs H) (h : rowS D z hs a) : ∃ b c, a = .slice b 0 z.length z.length 1 true ∧ H.at b = .cells c z.length 0 ∧ ∀ i, i < z.length → c.get? i = z[i]? := by
  unfold rowS at h
  split at h
  · rename_i b o n c
    obtain ⟨h1, k1⟩ := bT_out h
    obtain ⟨h2, k2⟩ := bT_out k1
    obtain ⟨h3, k3⟩ := bT_out k2
    have e1 := Nat.eq_of_beq_eq_true h1
    have e2 := Nat.eq_of_beq_eq_true h2
    have e3 := Nat.eq_of_beq_eq_true h3
    subst e1; subst e2; subst e3
    obtain ⟨c, g1, g2, _⟩ := rowIs_out hr k3
    exact ⟨b, c, rfl, g1, g2⟩
  · exact h.elim
theorem one_up {f f' : Emb} {a : AV} (hp : pl a = true) : ∀ (args : List AV) (vs : List Value), args.getD 0 undefA = a → (∀ j, args.getD (j + 1) undefA = undefA) → VL f args vs → VL f' args vs
  | [], _, _, _, hv => by cases hv; exact .nil
  | x :: as, _, h0, h, hv => by
    have h0 : x = a := h0
    subst h0
    cases hv with
    | cons _ v _ vs h1 h2 => exact .cons _ _ _ _ (pl_up hp h1) (undef_up as vs (fun j => by simpa using h j) h2)
/-- A new row of plain values, as one run over the tables alone makes it, in any memory. -/
theorem row_step {gl : List (Option (List AV))} {z : List AV} (hz : ∀ a ∈ z, pl a = true) {H0 H1 H' : AH} {c1 c2 : Bt AV} {b1 : Nat} {g : Nat} {vs : Array Value} {f : Emb} {w : World}
    (hn0 : H0.n = gl.length) (hat0 : ∀ b, match glO gl b with | some z => ∃ c, H0.at b = .cells c z.length 2 ∧ ∀ i, c.get? i = z[i]? | none => H0.at b = .dead)
    (h1 : H1.at b1 = .cells c1 z.length 0) (k1 : ∀ i, i < z.length → c1.get? i = z[i]?)
    (hn' : H'.n = H.n + 1) (ha' : H'.at H.n = .cells c2 z.length 0) (ho' : ∀ b, b ≠ H.n → H'.at b = H.at b) (k2 : ∀ i, c2.get? i = z[i]?)
    (hr' : HR f H w) (hc : Calls P g vs w (CPost (gEmb gl) H0 w (.ret (.slice b1 0 z.length z.length 1 true)) H1)) : Calls P g vs w (CPost f H w (.ret (.slice H.n 0 z.length z.length 1 true)) H') := by
  refine hc.mono fun e w' hp' => ?_
  obtain ⟨f', s, u, rfl, hu⟩ := hp'
  have hown0 : ∀ b, (H0.sem.ob b).own = false := fun b => by
    have := hat0 b
    cases e : glO gl b with
    | none => rw [e] at this; rw [AH.sem_ob, this]; rfl
    | some z => rw [e] at this; obtain ⟨c, h1, _⟩ := this; rw [AH.sem_ob, h1]; rfl
  have hkeep : ∀ k, k < w.heap.size → w'.heap[k]? = w.heap[k]? := fun k hk => s.keep k hk fun b _ ho => by rw [hown0 b] at ho; cases ho
  have hSn : ¬ f.dom H.n := fun g => by have := hr'.dom _ g; rw [AH.sem_n] at this; omega
  have hd1 : f'.dom b1 := by cases hu; assumption
  have hob1 : H1.sem.ob b1 = .cells c1.get? z.length 0 := by rw [AH.sem_ob, h1]; rfl
  have hget : ∀ i : Nat, c1.get? i = z[i]? := fun i => by
    by_cases hi : i < z.length
    · exact k1 i hi
    · rw [List.getElem?_eq_none (by omega)]
      cases e : c1.get? i with
      | none => rfl
      | some a =>
        have h4 := s.rel.obj b1 hd1 (by rw [hob1]; rfl)
        rw [hob1] at h4
        obtain ⟨cur, ty, lo, hi', g1, g2, g3, g4, g5, g6⟩ := h4
        exact absurd (g4 i a e).1 hi
  have hbig : w.heap.size ≤ f'.blk b1 := by
    rcases s.src b1 hd1 (by rw [hob1]; rfl) with ⟨c, _, ho, _⟩ | g
    · rw [hown0 c] at ho; cases ho
    · exact g
  let f2 : Emb := ⟨fun b => f.dom b ∨ b = H.n, fun b => if b = H.n then f'.blk b1 else f.blk b, fun b => if b = H.n then f'.off b1 else f.off b, fun b => if b = H.n then f'.lim b1 else f.lim b⟩
  have hne : ∀ b, f.dom b → b ≠ H.n := fun b hb e => hSn (by rw [← e]; exact hb)
  have le2 : f.le f2 := ⟨fun b hb => .inl hb, fun b hb => if_neg (hne b hb), fun b hb => if_neg (hne b hb), fun b hb => if_neg (hne b hb)⟩
  have old : ∀ b, b ≠ H.n → H'.sem.ob b = H.sem.ob b := fun b hb => by rw [AH.sem_ob, AH.sem_ob, ho' b hb]
  have new : H'.sem.ob H.n = .cells c2.get? z.length 0 := by rw [AH.sem_ob, ha']; rfl
  have hOR : OR f2 H.n (H'.sem.ob H.n) w'.heap[f2.blk H.n]? := by
    have h4 := s.rel.obj b1 hd1 (by rw [hob1]; rfl)
    rw [hob1] at h4
    rw [new]
    have e1 : f2.blk H.n = f'.blk b1 := if_pos rfl
    have e2 : f2.off H.n = f'.off b1 := if_pos rfl
    have e3 : f2.lim H.n = f'.lim b1 := if_pos rfl
    obtain ⟨cur, ty, lo, hi, g1, g2, g3, g4, g5, g6⟩ := h4
    refine ⟨cur, ty, lo, hi, by rw [e1]; exact g1, by rw [e2, e3]; exact g2, by rw [e3]; exact g3, fun j a hj => ?_, by rw [e2, e3]; exact g5, g6⟩
    rw [k2] at hj
    obtain ⟨x0, v, x2, x3⟩ := g4 j a (by rw [hget]; exact hj)
    exact ⟨x0, v, by rw [e2]; exact x2, pl_up (hz a (List.mem_of_getElem? hj)) x3⟩
  have own_alive : ∀ x, (H.sem.ob x).own = true → (H.sem.ob x).alive = true := fun x hx => SObj.alive_of_own hx
  refine ⟨f2, ⟨HRS.mk' (fun b hb => ?_) (fun b hb ha => ?_) (fun b c hb hc ho ha e => ?_), le2, ?_, s.size, fun k hk _ => hkeep k hk, fun b hd ho => ?_, fun b ha ho => ?_, fun b hb ha => ?_, fun b hb hn hd => ?_, fun b hb hn => ?_, s.os, s.tape, s.output⟩, u, rfl, ?_⟩
  · rw [AH.sem_n, hn']
    rcases hb with g | g
    · have := hr'.dom b g; rw [AH.sem_n] at this; omega
    · omega
  · rcases hb with g | g
    · rw [old b (hne b g)] at ha ⊢
      have h5 := OR.up le2 g (hr'.obj b g ha)
      have e1 : f2.blk b = f.blk b := if_neg (hne b g)
      rw [e1, hkeep _ (hr'.toHRQ.block_lt g ha)]
      exact h5
    · subst g; exact hOR
  · rcases hb with g | g
    · rcases hc with g' | g'
      · rw [old b (hne b g)] at ho
        rw [old c (hne c g')] at ha
        have e1 : f2.blk b = f.blk b := if_neg (hne b g)
        have e2 : f2.blk c = f.blk c := if_neg (hne c g')
        rw [e1, e2] at e
        exact hr'.inj b c g g' ho ha e
      · subst g'
        rw [old b (hne b g)] at ho
        have := hr'.toHRQ.block_lt g (own_alive b ho)
        have e1 : f2.blk b = f.blk b := if_neg (hne b g)
        have e2 : f2.blk H.n = f'.blk b1 := if_pos rfl
        rw [e1, e2] at e
        omega
    · rcases hc with g' | g'
      · subst g
        rw [old c (hne c g')] at ha
        have := hr'.toHRQ.block_lt g' ha
        have e1 : f2.blk c = f.blk c := if_neg (hne c g')
        have e2 : f2.blk H.n = f'.blk b1 := if_pos rfl
        rw [e1, e2] at e
        omega
      · rw [g, g']
  · rw [AH.sem_n, AH.sem_n, hn']
    exact Nat.le_succ _
  · rcases hd with g | g
    · rw [old b (hne b g)] at ho
      exact .inl ⟨b, g, ho, if_neg (hne b g)⟩
    · subst g
      have e1 : f2.blk H.n = f'.blk b1 := if_pos rfl
      exact .inr (by rw [e1]; exact hbig)
  · by_cases g : b = H.n
    · subst g
      rw [new] at ho
      cases ho
    · exact (old b g).symm
  · rw [AH.sem_n] at hb
    rw [old b (by omega)]
    exact ha
  · rw [AH.sem_n] at hb
    rcases hd with g | g
    · exact hn g
    · omega
  · rw [AH.sem_n] at hb
    exact old b (by omega)
  · have e1 : f2.blk H.n = f'.blk b1 := if_pos rfl
    have e2 : f2.off H.n = f'.off b1 := if_pos rfl
    have e3 : f2.lim H.n = f'.lim b1 := if_pos rfl
    cases hu with
    | slice _ _ _ _ _ _ cap' x h1 h2 h3 h4 h5 =>
      rw [← e1]
      exact .slice _ _ _ _ _ _ cap' x (.inr rfl) h2 h3 (by rw [e2]; exact h4) (by rw [e3]; exact h5)
/-- The tables are there where they are looked up. -/
theorem tabs_there {gl : List (Option (List AV))} (hG : gl.length = P.globals.size) (hp : (gl.all fun z => match z with | some z => z.all pl | none => true) = true)
    (ht : ∀ j z, gl[j]? = some (some z) → ∃ c n m, H.at (0 + j) = .cells c n m ∧ ∀ i, i < z.length → c.get? i = z[i]?) {f : Emb} {w : World} (hr' : HR f H w) (hg : ∀ g, g < P.globals.size → f.dom g ∧ f.blk g = g ∧ f.off g = 0) : TabsAt gl w := by
  intro b z hz
  have hz' : gl[b]? = some (some z) := by
    unfold glO at hz
    cases e : gl[b]? with
    | none => rw [e] at hz; cases hz
    | some y => rw [e] at hz; exact congrArg some hz
  have hbl : b < gl.length := (List.getElem?_eq_some_iff.1 hz').1
  obtain ⟨c, n, m, hb', hc⟩ := ht b z hz'
  rw [Nat.zero_add] at hb'
  obtain ⟨d1, d2, d3⟩ := hg b (by omega)
  obtain ⟨cur, e, lo, hi, g1, g2, g3, g4, _⟩ := hr'.toHRQ.cells d1 hb'
  rw [d2] at g1
  rw [d3] at g2
  refine ⟨cur, e, lo, hi, g1, ?_, fun i a hi' => ?_⟩
  · rcases Nat.eq_zero_or_pos z.length with hz0 | hz0
    · omega
    · have h1 := hc (z.length - 1) (by omega)
      rw [List.getElem?_eq_getElem (by omega)] at h1
      have := (g4 _ _ h1).1
      omega
  · have hil : i < z.length := (List.getElem?_eq_some_iff.1 hi').1
    obtain ⟨_, v, y1, y2⟩ := g4 i a (by rw [hc i hil, hi'])
    rw [d3, Nat.zero_add] at y1
    have hpl : pl a = true := by
      have h1 := List.all_eq_true.1 hp _ (List.mem_of_getElem? hz')
      exact List.all_eq_true.1 h1 a (List.mem_of_getElem? hi')
    exact ⟨v, y1, pl_up hpl y2⟩
theorem rowR_out {l : List (AV × List AV)} {x : AV} {kr : V → Hs D → Prop} (hr : RepH hs H) (h : rowR D l x kr hs) : ∃ q ∈ l, x = q.1 ∧ ∃ hs' H' c, RepH hs' H' ∧ H'.n = H.n + 1 ∧ H'.at H.n = .cells c q.2.length 0 ∧ (∀ b, b ≠ H.n → H'.at b = H.at b) ∧ (∀ i, c.get? i = q.2[i]?) ∧ kr (enc (.slice H.n 0 q.2.length q.2.length 1 true)) hs' := by
  induction l with
  | nil => exact h.elim
  | cons q l ih =>
    have h : bI (sameAL [x] [q.1]) (sNewL D q.2 hs fun b n h' => bT (Nat.beq n q.2.length) (kr (enc (.slice b 0 q.2.length q.2.length 1 true)) h')) (rowR D l x kr hs) := h
    cases e : sameAL [x] [q.1] with
    | true =>
      rw [e] at h
      have e' := sameAL_ok e
      have h := sNewL_out hr (show sNewL D q.2 hs _ from h)
      obtain ⟨c', h, _, s1, s2⟩ := storeL_out _ _ _ _ h
      rw [Nat.zero_add] at h
      obtain ⟨H', ⟨en, hs', hr', h⟩, n1, n2, n3⟩ := newK_out h
      obtain ⟨_, h⟩ := bT_out h
      refine ⟨q, List.mem_cons_self .., by simpa using e', hs', H', c', hr', n1, n2, n3, fun i => ?_, h⟩
      by_cases hi : i < q.2.length
      · have := s1 i hi
        rwa [Nat.zero_add] at this
      · rw [s2 i (.inr (by omega)), List.getElem?_eq_none (by omega)]
        rfl
    | false =>
      rw [e] at h
      obtain ⟨q', hq, h⟩ := ih h
      exact ⟨q', List.mem_cons_of_mem _ hq, h⟩
/-- From one run for each text. -/
theorem rowC_ok {gl : List (Option (List AV))} (hG : gl.length = P.globals.size) (hgl : glOk D gl = true) (hp : (gl.all fun z => match z with | some z => z.all pl | none => true) = true) {C0 : CallF D} (hC0 : CallFOk P C0) {g : Nat} {l : List (AV × List AV)}
    (hl : (l.all fun q => pl q.1 && q.2.all pl) = true) (h0 : ∀ q ∈ l, C0 g (aL [q.1]) (fun v hs => rowK D q.2 v hs) (fun _ _ => False) (hs0 D gl)) : FnCOk P g (rowC D gl l) := by
  intro C hC args a kr kp hs H hb ha hr h
  obtain ⟨hu, h⟩ := oneA_out ha h
  obtain ⟨ht, h⟩ := tabsK_out hr h
  obtain ⟨q, hq, ex, hs', H', c, hr', n1, n2, n3, n4, h⟩ := rowR_out hr h
  have hq2 := List.all_eq_true.1 hl q hq
  rw [Bool.and_eq_true] at hq2
  refine ⟨.ret (.slice H.n 0 q.2.length q.2.length 1 true), H', ⟨hs', hr', h⟩, fun f w vs hrw hg hv => ?_⟩
  have htab := tabs_there hG hp ht hrw hg
  obtain ⟨H0, hr0, hn0, hat0⟩ := hs0_ok hgl
  have hA : RepA (aL [q.1]) args := RepA.of ha.1 (fun j => (gA [q.1] j).v) fun j _ => by
    rw [gA_ok]
    cases j with
    | zero => rw [ex]; rfl
    | succ j => rw [hu j]; simp [List.getD]
  obtain ⟨o, H1, h1, h2⟩ := hC0 g args _ _ _ _ H0 hb hA hr0 (h0 q hq)
  obtain ⟨hs1, hr1, h1⟩ := h1
  cases o with
  | pan v => exact h1.elim
  | ret v =>
    have h1 : rowK D q.2 (enc v) hs1 := h1
    have h1 : rowS D q.2 hs1 v := dec_enc (k := fun a => rowS D q.2 hs1 a) h1
    obtain ⟨b1, c1, rfl, g1, g2⟩ := rowS_out hr1 h1
    exact row_step (fun a ha => List.all_eq_true.1 hq2.2 a ha) hn0 hat0 g1 g2 n1 n2 n3 n4 hrw (h2 (gEmb gl) w vs (gEmb_HR hn0 hat0 htab) (fun g hg => ⟨by show g < gl.length; omega, rfl, rfl⟩) (one_up hq2.1 _ _ ex hu hv))
end
end Go.X

namespace Go.X
noncomputable section
def onP (a : AV) (k : Nat → Nat → Prop) : Prop := match a with | .ptr b o => k b o | _ => False
def headL (l : List AV) (k : AV → Prop) : Prop := match l with | a :: _ => k a | [] => False
def keyL (yes : Bool) (es : List AEnt) (cl : Nat) (k0 : Prop) (k1 : Nat → Nat → Prop) : Prop := match es with | [] => k0 | [e] => bT yes (bT (Nat.blt e.born cl) (isTx e.key fun n x => bT (Nat.ble n 1000000) (k1 n x))) | _ => False
def mapL (D : Nat) (m : AV) (h : Hs D) (k : List AEnt → Nat → Prop) : Prop := match m with | .nmap => k [] 0 | .map b => sMap D b h k | _ => False
/-- A function of yes pointer that answers the sorted keys of the map behind it, i cells on. -/
def keysC (D i : Nat) (yes : Bool) : FnC D := ⟨fun _ a kr _ h => oneA a fun p => onP p fun b o => sLoadN D 1 (enc (.ptr b (Nat.add o i))) h fun v => dec v fun w => onAgg w fun l => headL l fun m => mapL D m h fun es cl => keyL yes es cl (kr (enc .nslice) h) fun n x => sNewL D [.str n x] h fun b' m' h' => bT (Nat.beq m' 1) (kr (enc (.slice b' 0 1 1 1 false)) h')⟩
end
theorem onP_out {a : AV} {k : Nat → Nat → Prop} (h : onP a k) : ∃ b o, a = .ptr b o ∧ k b o := by
  cases a <;> first | exact h.elim | exact ⟨_, _, rfl, h⟩
theorem headL_out {l : List AV} {k : AV → Prop} (h : headL l k) : ∃ a r, l = a :: r ∧ k a := by
  cases l <;> first | exact h.elim | exact ⟨_, _, rfl, h⟩
section
variable {P : Program} {D : Nat} {hs : Hs D} {H : AH}
theorem mapL_out (hr : RepH hs H) {m : AV} {k : List AEnt → Nat → Prop} (h : mapL D m hs k) : ∃ es cl, ((m = .nmap ∧ es = []) ∨ ∃ b, m = .map b ∧ H.at b = .map es cl) ∧ k es cl := by
  cases m <;> first | exact h.elim | skip
  · exact ⟨[], 0, .inl ⟨rfl, rfl⟩, h⟩
  · obtain ⟨es, cl, e, h⟩ := sMap_out hr h
    exact ⟨es, cl, .inr ⟨_, rfl, e⟩, h⟩
theorem keyL_out {yes : Bool} {es : List AEnt} {cl : Nat} {k0 : Prop} {k1 : Nat → Nat → Prop} (h : keyL yes es cl k0 k1) : (es = [] ∧ k0) ∨ ∃ e n x, es = [e] ∧ yes = true ∧ e.born < cl ∧ e.key = .str n x ∧ n ≤ 1000000 ∧ k1 n x := by
  match es, h with
  | [], h => exact .inl ⟨rfl, h⟩
  | [e], h =>
    obtain ⟨h0, h⟩ := bT_out (show bT yes _ from h)
    obtain ⟨h1, h⟩ := bT_out h
    obtain ⟨n, x, h2, h⟩ := isTx_out h
    obtain ⟨h3, h⟩ := bT_out h
    exact .inr ⟨e, n, x, rfl, h0, Nat.le_of_ble_eq_true h1, h2, Nat.le_of_ble_eq_true h3, h⟩
/-- A row of plain values that a call has left behind all others. -/
theorem adopt {z : List AV} (hz : ∀ a ∈ z, pl a = true) {H' : AH} {c2 : Bt AV} {f : Emb} {w w' : World} (hn' : H'.n = H.n + 1) (ha' : H'.at H.n = .cells c2 z.length 0) (ho' : ∀ b, b ≠ H.n → H'.at b = H.at b) (k2 : ∀ i, c2.get? i = z[i]?)
    (hr' : HR f H w) (bel : RowKit.Below w.heap.size w w') {g cap : Nat} {cur : Array Value} {ty : TypeId} (hg : w.heap.size ≤ g) (hw : w'.heap[g]? = some (.cells cur ty (0, 0))) (hcap : cur.size = cap) (hle : z.length ≤ cap)
    (hv : ∀ (j : Nat) (a : AV), z[j]? = some a → ∃ v, cur[j]? = some v ∧ VR f a v) : ∃ f', Step f H w f' H' w' ∧ VR f' (.slice H.n 0 z.length z.length 1 false) (.slice (some ⟨g, 0, none⟩) z.length cap) := by
  have hSn : ¬ f.dom H.n := fun g => by have := hr'.dom _ g; rw [AH.sem_n] at this; omega
  let f2 : Emb := ⟨fun b => f.dom b ∨ b = H.n, fun b => if b = H.n then g else f.blk b, fun b => if b = H.n then 0 else f.off b, fun b => if b = H.n then cap else f.lim b⟩
  have hne : ∀ b, f.dom b → b ≠ H.n := fun b hb e => hSn (by rw [← e]; exact hb)
  have le2 : f.le f2 := ⟨fun b hb => .inl hb, fun b hb => if_neg (hne b hb), fun b hb => if_neg (hne b hb), fun b hb => if_neg (hne b hb)⟩
  have old : ∀ b, b ≠ H.n → H'.sem.ob b = H.sem.ob b := fun b hb => by rw [AH.sem_ob, AH.sem_ob, ho' b hb]
  have new : H'.sem.ob H.n = .cells c2.get? z.length 0 := by rw [AH.sem_ob, ha']; rfl
  have b1 : f2.blk H.n = g := if_pos rfl
  have b2 : f2.off H.n = 0 := if_pos rfl
  have b3 : f2.lim H.n = cap := if_pos rfl
  have hOR : OR f2 H.n (H'.sem.ob H.n) w'.heap[f2.blk H.n]? := by
    rw [new]
    refine ⟨cur, ty, 0, 0, by rw [b1]; exact hw, by rw [b2, b3, hcap]; omega, by rw [b3]; exact hle, fun j a hj => ?_, fun _ j _ => by omega, fun _ => ⟨rfl, rfl⟩⟩
    rw [k2] at hj
    obtain ⟨v, x2, x3⟩ := hv j a hj
    exact ⟨(List.getElem?_eq_some_iff.1 hj).1, v, by rw [b2, Nat.zero_add]; exact x2, pl_up (hz a (List.mem_of_getElem? hj)) x3⟩
  have own_alive : ∀ x, (H.sem.ob x).own = true → (H.sem.ob x).alive = true := fun x hx => SObj.alive_of_own hx
  refine ⟨f2, ⟨HRS.mk' (fun b hb => ?_) (fun b hb ha => ?_) (fun b c hb hc ho ha e => ?_), le2, ?_, bel.size, fun k hk _ => bel.block k hk, fun b hd ho => ?_, fun b ha ho => ?_, fun b hb ha => ?_, fun b hb hn hd => ?_, fun b hb hn => ?_, bel.os, bel.tape, bel.output⟩, ?_⟩
  · rw [AH.sem_n, hn']
    rcases hb with g | g
    · have := hr'.dom b g; rw [AH.sem_n] at this; omega
    · omega
  · rcases hb with g | g
    · rw [old b (hne b g)] at ha ⊢
      have h5 := OR.up le2 g (hr'.obj b g ha)
      have e1 : f2.blk b = f.blk b := if_neg (hne b g)
      rw [e1, bel.block _ (hr'.toHRQ.block_lt g ha)]
      exact h5
    · subst g; exact hOR
  · rcases hb with g | g
    · rcases hc with g' | g'
      · rw [old b (hne b g)] at ho
        rw [old c (hne c g')] at ha
        have e1 : f2.blk b = f.blk b := if_neg (hne b g)
        have e2 : f2.blk c = f.blk c := if_neg (hne c g')
        rw [e1, e2] at e
        exact hr'.inj b c g g' ho ha e
      · subst g'
        rw [old b (hne b g)] at ho
        have := hr'.toHRQ.block_lt g (own_alive b ho)
        have e1 : f2.blk b = f.blk b := if_neg (hne b g)
        rw [e1, b1] at e
        omega
    · rcases hc with g' | g'
      · subst g
        rw [old c (hne c g')] at ha
        have := hr'.toHRQ.block_lt g' ha
        have e1 : f2.blk c = f.blk c := if_neg (hne c g')
        rw [e1, b1] at e
        omega
      · rw [g, g']
  · rw [AH.sem_n, AH.sem_n, hn']
    exact Nat.le_succ _
  · rcases hd with g | g
    · rw [old b (hne b g)] at ho
      exact .inl ⟨b, g, ho, if_neg (hne b g)⟩
    · subst g
      exact .inr (by rw [b1]; exact hg)
  · by_cases g : b = H.n
    · subst g
      rw [new] at ho
      cases ho
    · exact (old b g).symm
  · rw [AH.sem_n] at hb
    rw [old b (by omega)]
    exact ha
  · rw [AH.sem_n] at hb
    rcases hd with g | g
    · exact hn g
    · omega
  · rw [AH.sem_n] at hb
    exact old b (by omega)
  · have := VR.slice (f := f2) H.n 0 z.length z.length 1 false cap 0 (.inr rfl) (Nat.le_refl _) hle (fun _ => by rw [b2]) (fun _ => ⟨rfl, by rw [b3]; omega⟩)
    rw [b1] at this
    exact this
/-- What is asked of such a function. -/
structure KeysR (P : Program) (g i : Nat) (yes : Bool) : Prop where
  none_ : ∀ (bk o : Nat) (bm : Option Nat) (W : World), bk < W.heap.size → W.cell? ⟨bk, o + i, none⟩ = some (.map bm) → (bm = none ∨ ∃ r cl, bm = some r ∧ W.heap[r]? = some (.map #[] cl)) →
    Calls P g #[.pointer (some ⟨bk, o, none⟩)] W fun e w' => e = .returned (.slice none 0 0) ∧ RowKit.Below W.heap.size W w'
  one_ : yes = true → ∀ (bk o r cl : Nat) (s : ByteArray) (v : Value) (b : Nat) (W : World), bk < W.heap.size → W.cell? ⟨bk, o + i, none⟩ = some (.map (some r)) → W.heap[r]? = some (.map #[⟨.string s, v, b⟩] cl) → b < cl → s.size ≤ 1000000 →
    Calls P g #[.pointer (some ⟨bk, o, none⟩)] W fun e w' => ∃ bl cap cur ty, e = .returned (.slice (some ⟨bl, 0, none⟩) 1 cap) ∧ W.heap.size ≤ bl ∧ w'.heap[bl]? = some (.cells cur ty (0, 0)) ∧ cur.size = cap ∧ 1 ≤ cap ∧ cur[0]? = some (.string s) ∧ RowKit.Below W.heap.size W w'
theorem one_val {f : Emb} {args : List AV} {vs : Array Value} {a0 : AV} (h0 : args.getD 0 undefA = a0) (n0 : a0 ≠ undefA) (hu : ∀ j, args.getD (j + 1) undefA = undefA) (hv : VL f args vs.toList) : ∃ v0, VR f a0 v0 ∧ vs = #[v0] ++ Array.replicate (args.length - 1) undef := by
  match args, hv with
  | [], hv => exact absurd h0.symm (by simpa using n0)
  | a :: r, hv =>
    have h0 : a = a0 := h0
    subst h0
    obtain ⟨v0, r0, e0, g0, hv⟩ := hv.cons_inv
    have := undefs r r0 (fun j => hu j) hv
    subst this
    refine ⟨v0, g0, ?_⟩
    apply Array.ext'
    rw [e0]
    simp
theorem keysC_ok {g i : Nat} {yes : Bool} {fn : Func} {c : Code} (hf : P.funcs[g]? = some fn) (hb : fn.body = some c) (hn : 8 ≤ fn.ntmps) (hC : KeysR P g i yes) : FnCOk P g (keysC D i yes) := by
  intro C hCC args a kr kp hs H hbd ha hr h
  obtain ⟨hu, h⟩ := oneA_out ha h
  have hl8 := ha.1
  obtain ⟨b, o, e0, h⟩ := onP_out h
  have h := sLoadN_out hr h
  obtain ⟨cc, cn, m, hat, h⟩ := getK_out (show getK H b fun c _ _ => loadL c 1 (Nat.add o i) fun l => dec (enc (.agg l)) fun w => onAgg w fun l => headL l fun m => mapL D m hs fun es cl => keyL yes es cl (kr (enc .nslice) hs) fun n x => sNewL D [.str n x] hs fun b' m' h' => bT (Nat.beq m' 1) (kr (enc (.slice b' 0 1 1 1 false)) h') from h)
  obtain ⟨l, hl, hc, h⟩ := loadL_out _ _ _ _ h
  have h : headL l fun m => mapL D m hs fun es cl => keyL yes es cl (kr (enc .nslice) hs) fun n x => sNewL D [.str n x] hs fun b' m' h' => bT (Nat.beq m' 1) (kr (enc (.slice b' 0 1 1 1 false)) h') :=
    dec_enc (k := fun w => onAgg w fun l => headL l fun m => mapL D m hs fun es cl => keyL yes es cl (kr (enc .nslice) hs) fun n x => sNewL D [.str n x] hs fun b' m' h' => bT (Nat.beq m' 1) (kr (enc (.slice b' 0 1 1 1 false)) h')) h
  obtain ⟨am, lr, rfl, h5⟩ := headL_out h
  obtain ⟨es, cl, hm, h⟩ := mapL_out hr h5
  have hcell := hc 0 am rfl
  rw [Nat.add_zero] at hcell
  have at_ : ∀ {f : Emb} {w : World} {vs : Array Value}, HR f H w → VL f args vs.toList → ∃ v bm, vs = #[.pointer (some ⟨f.blk b, f.off b + o, none⟩)] ++ Array.replicate (args.length - 1) undef ∧ f.blk b < w.heap.size ∧ w.cell? ⟨f.blk b, f.off b + o + i, none⟩ = some v ∧ v = .map bm ∧ ((bm = none ∧ es = []) ∨ ∃ r es', bm = some r ∧ w.heap[r]? = some (.map es' cl) ∧ ELs f es es'.toList) := fun {f w vs} hrw hv => by
    obtain ⟨v0, g0, rfl⟩ := one_val e0 (by intro q; cases q) hu hv
    cases g0 with
    | ptr _ _ hd =>
      have hq := hrw.toHRQ
      obtain ⟨v, w1, w2⟩ := hq.cell hd hat hcell
      have ea : f.off b + (Nat.add o i) = f.off b + o + i := by show f.off b + (o + i) = _; omega
      rw [ea] at w1
      rcases hm with ⟨rfl, rfl⟩ | ⟨mb, rfl, hmb⟩
      · cases w2
        exact ⟨_, none, rfl, hq.block_lt hd (by rw [AH.sem_ob, hat]; rfl), w1, rfl, .inl ⟨rfl, rfl⟩⟩
      · cases w2 with
        | map _ hdm =>
          have h4 := hq.obj mb hdm (by rw [AH.sem_ob, hmb]; rfl)
          rw [AH.sem_ob, hmb] at h4
          obtain ⟨es', y1, y2⟩ := h4
          exact ⟨_, some (f.blk mb), rfl, hq.block_lt hd (by rw [AH.sem_ob, hat]; rfl), w1, rfl, .inr ⟨_, es', rfl, y1, y2⟩⟩
  have pad : ∀ {v : Value} {w : World} {R : Ending → World → Prop}, Calls P g #[v] w R → Calls P g (#[v] ++ Array.replicate (args.length - 1) undef) w R := fun {v w R} hh => calls_pad hf hb (by simp only [List.size_toArray, List.length_cons, List.length_nil]; omega) hh
  rcases keyL_out h with ⟨rfl, h⟩ | ⟨e, n, x, rfl, ho, hbn, hk, hlen, h⟩
  · refine ⟨.ret .nslice, H, ⟨hs, hr, h⟩, fun f w vs hrw hg hv => ?_⟩
    obtain ⟨v, bm, rfl, q1, q2, rfl, q3⟩ := at_ hrw hv
    refine (pad (hC.none_ (f.blk b) (f.off b + o) bm w q1 q2 ?_)).mono fun e w' ⟨he, bel⟩ => ?_
    · rcases q3 with ⟨rfl, _⟩ | ⟨r, es', rfl, y1, y2⟩
      · exact .inl rfl
      · have : es' = #[] := by
          apply Array.ext'
          generalize es'.toList = l' at y2
          cases y2
          rfl
        subst this
        exact .inr ⟨r, cl, rfl, y1⟩
    · exact ⟨f, ⟨HRS.mk' hrw.dom (fun b hb ha => by rw [bel.block _ (hrw.toHRQ.block_lt hb ha)]; exact hrw.obj b hb ha) hrw.inj, .refl f, Nat.le_refl _, bel.size, fun k hk _ => bel.block k hk, fun b hd ho => .inl ⟨b, hd, ho, rfl⟩, fun b _ _ => rfl, fun _ _ h => h, fun _ _ h => h, fun _ _ _ => rfl, bel.os, bel.tape, bel.output⟩, _, he, .nslice⟩
  · have h := sNewL_out hr h
    obtain ⟨c', h, _, s1, s2⟩ := storeL_out _ _ _ _ h
    rw [Nat.zero_add] at h
    obtain ⟨H', ⟨en, hs', hr', h⟩, n1, n2, n3⟩ := newK_out h
    obtain ⟨_, h⟩ := bT_out h
    refine ⟨.ret (.slice H.n 0 1 1 1 false), H', ⟨hs', hr', h⟩, fun f w vs hrw hg hv => ?_⟩
    obtain ⟨v, bm, rfl, q1, q2, rfl, q3⟩ := at_ hrw hv
    rcases q3 with ⟨_, q4⟩ | ⟨r, es', rfl, y1, y2⟩
    · cases q4
    · obtain ⟨k0, v0, b0, hes, g1, g3⟩ : ∃ k0 v0 b0, es' = #[⟨k0, v0, b0⟩] ∧ VR f e.key k0 ∧ b0 = e.born := by
        obtain ⟨l'⟩ := es'
        cases y2 with
        | cons _ e' _ l2 h1 h2 =>
          cases h2
          exact ⟨e'.key, e'.val, e'.born, rfl, h1.1, h1.2.2⟩
      subst hes
      rw [hk] at g1
      obtain ⟨ek, hlt⟩ := g1.inv_str
      subst ek
      refine (pad (hC.one_ ho (f.blk b) (f.off b + o) r cl (toBA n x) v0 b0 w q1 q2 y1 (by omega) (by rw [toBA_size]; exact hlen))).mono fun e' w' ⟨bl, cap, cur, ty, he, z1, z2, z3, z4, z5, bel⟩ => ?_
      obtain ⟨f', st, hvr⟩ := adopt (z := [.str n x]) (fun a ha => by rw [List.mem_singleton.1 ha]; rfl) n1 n2 n3 (fun j => by
        by_cases hj : j < 1
        · have := s1 j (by simpa using hj)
          rwa [Nat.zero_add] at this
        · rw [s2 j (.inr (by simp; omega)), List.getElem?_eq_none (by simp; omega)]
          rfl) hrw bel z1 z2 z3 z4 (fun j a hj => by
        cases j with
        | zero =>
          obtain rfl : AV.str n x = a := by simpa using hj
          exact ⟨_, z5, .str n x hlt⟩
        | succ j => simp at hj)
      exact ⟨f', st, _, he, hvr⟩
end
end Go.X

namespace Go.X
theorem glO_push (gl : List (Option (List AV))) (z : List AV) (b : Nat) : glO (gl ++ [some z]) b = if b = gl.length then some z else glO gl b := by
  unfold glO
  by_cases h : b < gl.length
  · rw [List.getElem?_append_left h, if_neg (by omega)]
  · rw [List.getElem?_append_right (by omega)]
    by_cases e : b = gl.length
    · subst e; simp
    · rw [if_neg e, List.getElem?_eq_none (by simp; omega), List.getElem?_eq_none (by omega)]
/-- Where the program's variables and the row lie. -/
def xEmb (gl : List (Option (List AV))) (b0 o0 lim : Nat) : Emb := ⟨fun b => b < gl.length + 1, fun b => if b = gl.length then b0 else b, fun b => if b = gl.length then o0 else 0, fun b => if b = gl.length then lim else ((glO gl b).getD []).length⟩
/-- The row is there. -/
def RowX (gl : List (Option (List AV))) (z : List AV) (b0 o0 lim : Nat) (W : World) : Prop := ∃ (cur : Array Value) (e : TypeId) (lo hi : Nat), W.heap[b0]? = some (.cells cur e (lo, hi)) ∧ o0 + lim ≤ cur.size ∧ z.length ≤ lim ∧ ∀ (i : Nat) (a : AV), z[i]? = some a → ∃ v, cur[o0 + i]? = some v ∧ VR (xEmb gl b0 o0 lim) a v
theorem xEmb_le (gl : List (Option (List AV))) (b0 o0 lim : Nat) : (gEmb gl).le (xEmb gl b0 o0 lim) := by
  have ne : ∀ b, (gEmb gl).dom b → b ≠ gl.length := fun b h e => Nat.lt_irrefl _ (e ▸ h)
  exact ⟨fun b h => Nat.lt_succ_of_lt h, fun b h => if_neg (ne b h), fun b h => if_neg (ne b h), fun b h => if_neg (ne b h)⟩
theorem xEmb_HR {gl : List (Option (List AV))} {z : List AV} {b0 o0 lim : Nat} {H0 : AH} {W : World} (hn : H0.n = (gl ++ [some z]).length) (h : ∀ b, match glO (gl ++ [some z]) b with | some z => ∃ c, H0.at b = .cells c z.length 2 ∧ ∀ i, c.get? i = z[i]? | none => H0.at b = .dead) (ht : TabsAt gl W) (hx : RowX gl z b0 o0 lim W) : HR (xEmb gl b0 o0 lim) H0 W := by
  have own : ∀ b, (H0.sem.ob b).own = false := fun b => by
    have := h b
    cases e : glO (gl ++ [some z]) b with
    | none => rw [e] at this; rw [AH.sem_ob, this]; rfl
    | some z => rw [e] at this; obtain ⟨c, h1, _⟩ := this; rw [AH.sem_ob, h1]; rfl
  refine HRS.mk' (fun b hb => by rw [AH.sem_n, hn, List.length_append]; exact hb) (fun b hb ha => ?_) (fun b b' hb1 hb2 ho ha e => absurd ho (by rw [own b]; simp))
  have hb' := h b
  rw [glO_push] at hb'
  by_cases e : b = gl.length
  · subst e
    rw [if_pos rfl] at hb'
    obtain ⟨c, h1, h2⟩ := hb'
    obtain ⟨cur, ty, lo, hi, g1, g2, g3, g4⟩ := hx
    rw [AH.sem_ob, h1]
    have e1 : (xEmb gl b0 o0 lim).blk gl.length = b0 := if_pos rfl
    have e2 : (xEmb gl b0 o0 lim).off gl.length = o0 := if_pos rfl
    have e3 : (xEmb gl b0 o0 lim).lim gl.length = lim := if_pos rfl
    refine ⟨cur, ty, lo, hi, by rw [e1]; exact g1, by rw [e2, e3]; exact g2, by rw [e3]; exact g3, fun j a hj => ?_, fun h => absurd h (by omega), fun h => absurd h (by omega)⟩
    have hj' : c.get? j = some a := hj
    rw [h2] at hj'
    obtain ⟨v, y1, y2⟩ := g4 j a hj'
    exact ⟨(List.getElem?_eq_some_iff.1 hj').1, v, by rw [e2]; exact y1, y2⟩
  · rw [if_neg e] at hb'
    cases e' : glO gl b with
    | none => rw [e'] at hb'; rw [AH.sem_ob, hb'] at ha; cases ha
    | some y =>
      rw [e'] at hb'
      obtain ⟨c, h1, h2⟩ := hb'
      obtain ⟨cur, ty, lo, hi, g1, g2, g3⟩ := ht b y e'
      rw [AH.sem_ob, h1]
      have e1 : (xEmb gl b0 o0 lim).blk b = b := if_neg e
      have e2 : (xEmb gl b0 o0 lim).off b = 0 := if_neg e
      have e3 : (xEmb gl b0 o0 lim).lim b = y.length := (if_neg e).trans (by rw [e']; rfl)
      refine ⟨cur, ty, lo, hi, by rw [e1]; exact g1, by rw [e2, e3, Nat.zero_add]; exact g2, by rw [e3]; exact Nat.le_refl _, fun j a hj => ?_, fun h => absurd h (by omega), fun h => absurd h (by omega)⟩
      have hj' : c.get? j = some a := hj
      rw [h2] at hj'
      obtain ⟨v, y1, y2⟩ := g3 j a hj'
      exact ⟨(List.getElem?_eq_some_iff.1 hj').1, v, by rw [e2, Nat.zero_add]; exact y1, y2.up (xEmb_le gl b0 o0 lim)⟩
/-- What is to be had of such a run. -/
def CallsX (P : Program) (gl : List (Option (List AV))) (z : List AV) (g : Nat) (args : List AV) : Prop := ∀ (W : World) (b0 o0 lim : Nat), TabsAt gl W → RowX gl z b0 o0 lim W → ∀ (vs : Array Value), VL (xEmb gl b0 o0 lim) args vs.toList → Calls P g vs W fun e w' => e = .returned (.bool true) ∧ RowKit.Below W.heap.size W w'
theorem calls_of_runX {P : Program} {D : Nat} {gl : List (Option (List AV))} {z : List AV} (hG : gl.length = P.globals.size) (hgl : glOk D (gl ++ [some z]) = true) {C : CallF D} (hC : CallFOk P C) {g : Nat} (hb : hasBody P g = true) {args : List AV} (hl : args.length ≤ 8) {x : Prop}
    (h : C g (aL args) (fun v _ => v x False N1 N1 N2 N2 N2 N6 NL NL NO) (fun _ _ => False) (hs0 D (gl ++ [some z]))) : x ∧ CallsX P gl z g args := by
  obtain ⟨H0, hr, hn, hat⟩ := hs0_ok hgl
  obtain ⟨o, H', h1, h2⟩ := hC g args _ _ _ _ H0 hb (aL_ok hl) hr h
  obtain ⟨_, _, h1⟩ := h1
  cases o with
  | pan v => exact h1.elim
  | ret v =>
    obtain ⟨hv1, hx⟩ := tT_out h1
    subst hv1
    refine ⟨hx, fun W b0 o0 lim ht hrow vs hv => (h2 (xEmb gl b0 o0 lim) W vs (xEmb_HR hn hat ht hrow) (fun g hg => ⟨by show g < gl.length + 1; omega, if_neg (by omega), if_neg (by omega)⟩) hv).mono fun e w' hp => ?_⟩
    obtain ⟨f', s, u, rfl, hu⟩ := hp
    cases hu
    refine ⟨rfl, below_of_step s fun b hb => ?_⟩
    have := hat b
    cases e : glO (gl ++ [some z]) b with
    | none => rw [e] at this; rw [AH.sem_ob, this]; rfl
    | some z => rw [e] at this; obtain ⟨c, h1, _⟩ := this; rw [AH.sem_ob, h1]; rfl
theorem runsX_ok {P : Program} {D : Nat} {gl : List (Option (List AV))} {z : List AV} (hG : gl.length = P.globals.size) (hgl : glOk D (gl ++ [some z]) = true) {C : CallF D} (hC : CallFOk P C) {g : Nat} (hb : hasBody P g = true) :
    ∀ {l : List (List AV)}, (∀ a ∈ l, a.length ≤ 8) → runs C g (hs0 D (gl ++ [some z])) l → ∀ a ∈ l, CallsX P gl z g a
  | [], _, _, _, ha => by simp at ha
  | b :: l, hl, h, a, ha => by
    obtain ⟨h1, h2⟩ := calls_of_runX hG hgl hC hb (hl b (by simp)) h
    rcases List.mem_cons.1 ha with rfl | ha
    · exact h2
    · exact runsX_ok hG hgl hC hb (fun x hx => hl x (by simp [hx])) h1 a ha
end Go.X

namespace Go.X
noncomputable section
variable (D : Nat)
def onTupK (a : AV) (k : List AV → Prop) : Prop := match a with | .tup l => k l | _ => False
def tupK (z : List AV) (v : V) (_ : Hs D) : Prop := dec v fun a => onTupK a fun t => bT (sameAL t z) True
def tupR (l : List (AV × List AV)) (x : AV) (kr : V → Hs D → Prop) (h : Hs D) : Prop := @List.rec (AV × List AV) (fun _ => Prop) False (fun q _ ih => bI (sameAL [x] [q.1]) (kr (enc (.tup q.2)) h) ih) l
def tupC (gl : List (Option (List AV))) (l : List (AV × List AV)) : FnC D := ⟨fun _ a kr _ h => oneA a fun x => tabsK D gl 0 h (tupR D l x kr h)⟩
end
/-- Plain values and structs of plain values. -/
def pd (a : AV) : Bool := match a with | .agg l => l.all pl | a => pl a
theorem plL_up {f f' : Emb} : ∀ {l : List AV} {vs : List Value}, l.all pl = true → VL f l vs → VL f' l vs
  | [], _, _, h => by cases h; exact .nil
  | a :: l, _, hp, h => by
    simp only [List.all_cons, Bool.and_eq_true] at hp
    cases h with
    | cons _ v _ vs h1 h2 => exact .cons _ _ _ _ (pl_up hp.1 h1) (plL_up hp.2 h2)
theorem pd_up {f f' : Emb} {a : AV} {v : Value} (h : pd a = true) (hv : VR f a v) : VR f' a v := by
  cases a with
  | agg l => cases hv with | agg _ vs hl => exact .agg _ _ (plL_up h hl)
  | bool b => exact pl_up rfl hv
  | int k n => exact pl_up rfl hv
  | str n x => exact pl_up rfl hv
  | _ => cases h
theorem pdL_up {f f' : Emb} : ∀ {l : List AV} {vs : List Value}, l.all pd = true → VL f l vs → VL f' l vs
  | [], _, _, h => by cases h; exact .nil
  | a :: l, _, hp, h => by
    simp only [List.all_cons, Bool.and_eq_true] at hp
    cases h with
    | cons _ v _ vs h1 h2 => exact .cons _ _ _ _ (pd_up hp.1 h1) (pdL_up hp.2 h2)
section
variable {P : Program} {D : Nat} {hs : Hs D} {H : AH}
theorem tupR_out {l : List (AV × List AV)} {x : AV} {kr : V → Hs D → Prop} (h : tupR D l x kr hs) : ∃ q ∈ l, x = q.1 ∧ kr (enc (.tup q.2)) hs := by
  induction l with
  | nil => exact h.elim
  | cons q l ih =>
    have h : bI (sameAL [x] [q.1]) (kr (enc (.tup q.2)) hs) (tupR D l x kr hs) := h
    cases e : sameAL [x] [q.1] with
    | true =>
      rw [e] at h
      have e' := sameAL_ok e
      exact ⟨q, List.mem_cons_self .., by simpa using e', h⟩
    | false =>
      rw [e] at h
      obtain ⟨q', hq, h⟩ := ih h
      exact ⟨q', List.mem_cons_of_mem _ hq, h⟩
theorem tupK_out {z : List AV} {v : AV} (h : tupK D z (enc v) hs) : v = .tup z := by
  have h : onTupK v fun t => bT (sameAL t z) True := dec_enc (k := fun a => onTupK a fun t => bT (sameAL t z) True) h
  unfold onTupK at h
  split at h
  · obtain ⟨e, _⟩ := bT_out h
    rw [sameAL_ok e]
  · exact h.elim
/-- From one run for each text. -/
theorem tupC_ok {gl : List (Option (List AV))} (hG : gl.length = P.globals.size) (hgl : glOk D gl = true) (hp : (gl.all fun z => match z with | some z => z.all pl | none => true) = true) {C0 : CallF D} (hC0 : CallFOk P C0) {g : Nat} {l : List (AV × List AV)}
    (hl : (l.all fun q => pl q.1 && q.2.all pd) = true) (h0 : ∀ q ∈ l, C0 g (aL [q.1]) (fun v hs => tupK D q.2 v hs) (fun _ _ => False) (hs0 D gl)) : FnCOk P g (tupC D gl l) := by
  intro C hC args a kr kp hs H hb ha hr h
  obtain ⟨hu, h⟩ := oneA_out ha h
  obtain ⟨ht, h⟩ := tabsK_out hr h
  obtain ⟨q, hq, ex, h⟩ := tupR_out h
  have hq2 := List.all_eq_true.1 hl q hq
  rw [Bool.and_eq_true] at hq2
  refine ⟨.ret (.tup q.2), H, ⟨hs, hr, h⟩, fun f w vs hrw hg hv => ?_⟩
  have htab := tabs_there hG hp ht hrw hg
  obtain ⟨H0, hr0, hn0, hat0⟩ := hs0_ok hgl
  have hA : RepA (aL [q.1]) args := RepA.of ha.1 (fun j => (gA [q.1] j).v) fun j _ => by
    rw [gA_ok]
    cases j with
    | zero => rw [ex]; rfl
    | succ j => rw [hu j]; simp [List.getD]
  obtain ⟨o, H1, h1, h2⟩ := hC0 g args _ _ _ _ H0 hb hA hr0 (h0 q hq)
  obtain ⟨hs1, hr1, h1⟩ := h1
  cases o with
  | pan v => exact h1.elim
  | ret v =>
    obtain rfl := tupK_out (show tupK D q.2 (enc v) hs1 from h1)
    refine (h2 (gEmb gl) w vs (gEmb_HR hn0 hat0 htab) (fun g hg => ⟨by show g < gl.length; omega, rfl, rfl⟩) (one_up hq2.1 _ _ ex hu hv)).mono fun e w' hp' => ?_
    obtain ⟨f', s, u, rfl, hu'⟩ := hp'
    have bel := below_of_step s fun b hb => by
      have := hat0 b
      cases e : glO gl b with
      | none => rw [e] at this; rw [AH.sem_ob, this]; rfl
      | some z => rw [e] at this; obtain ⟨c, h1, _⟩ := this; rw [AH.sem_ob, h1]; rfl
    refine ⟨f, ⟨HRS.mk' hrw.dom (fun b hb ha => ?_) hrw.inj, .refl f, Nat.le_refl _, bel.size, fun k hk _ => bel.block k hk, fun b hd ho => .inl ⟨b, hd, ho, rfl⟩, fun b _ _ => rfl, fun _ _ h => h, fun _ _ h => h, fun _ _ _ => rfl, bel.os, bel.tape, bel.output⟩, u, rfl, ?_⟩
    · rw [bel.block _ (hrw.toHRQ.block_lt hb ha)]
      exact hrw.obj b hb ha
    · cases hu' with
      | tup _ us h3 => exact .tup _ _ (pdL_up hq2.2 h3)
end
end Go.X

namespace Go.X
noncomputable section
def isVal (z : AV) (v : V) (x : Prop) : Prop := dec v fun a => bT (sameAL [a] [z]) x
/-- Some calls, one behind the other, each with what it answers. -/
def runsV {D : Nat} (C : CallF D) (g : Nat) (hs : Hs D) (l : List (List AV × AV)) : Prop := @List.rec (List AV × AV) (fun _ => Prop) True (fun q _ ih => C g (aL q.1) (fun v _ => isVal q.2 v ih) (fun _ _ => False) hs) l
def ptr00 (a : AV) (x : Prop) : Prop := match a with | .tup [.ptr _ _, .int 0 (.ofNat 0), .int 0 (.ofNat 0)] => x | _ => False
/-- Some calls that answer a pointer and two noughts. -/
def runsQ {D : Nat} (C : CallF D) (g : Nat) (hs : Hs D) (l : List (List AV)) : Prop := @List.rec (List AV) (fun _ => Prop) True (fun a _ ih => C g (aL a) (fun v _ => dec v fun b => ptr00 b ih) (fun _ _ => False) hs) l
end
theorem isVal_out {z a : AV} {x : Prop} (h : isVal z (enc a) x) : a = z ∧ x := by
  have h : bT (sameAL [a] [z]) x := dec_enc (k := fun a => bT (sameAL [a] [z]) x) h
  obtain ⟨e, h⟩ := bT_out h
  exact ⟨by simpa using sameAL_ok e, h⟩
theorem ptr00_out {a : AV} {x : Prop} (h : ptr00 a x) : (∃ b o, a = .tup [.ptr b o, .int 0 (.ofNat 0), .int 0 (.ofNat 0)]) ∧ x := by
  unfold ptr00 at h
  split at h
  · exact ⟨⟨_, _, rfl⟩, h⟩
  · exact h.elim
section
variable {P : Program} {D : Nat} {gl : List (Option (List AV))}
def CallsV (P : Program) (gl : List (Option (List AV))) (g : Nat) (args : List AV) (z : AV) : Prop := ∀ (W : World), TabsAt gl W → ∀ (vs : Array Value), VL (gEmb gl) args vs.toList → Calls P g vs W fun e w' => (∃ u, e = .returned u ∧ VR (gEmb gl) z u) ∧ RowKit.Below W.heap.size W w'
def CallsQ (P : Program) (gl : List (Option (List AV))) (g : Nat) (args : List AV) : Prop := ∀ (W : World), TabsAt gl W → ∀ (vs : Array Value), VL (gEmb gl) args vs.toList → Calls P g vs W fun e w' => (∃ a, e = .returned (.tuple #[.pointer (some a), .int .i64 0, .int .i64 0])) ∧ RowKit.Below W.heap.size W w'
theorem calls_of_runV (hG : gl.length = P.globals.size) (hgl : glOk D gl = true) {C : CallF D} (hC : CallFOk P C) {g : Nat} (hb : hasBody P g = true) {args : List AV} (hl : args.length ≤ 8) {kr : V → Hs D → Prop} (h : C g (aL args) kr (fun _ _ => False) (hs0 D gl)) :
    ∃ v, (∃ hs, kr (enc v) hs) ∧ ∀ (W : World), TabsAt gl W → ∀ (vs : Array Value), VL (gEmb gl) args vs.toList → Calls P g vs W fun e w' => (∃ f' u, e = .returned u ∧ VR f' v u) ∧ RowKit.Below W.heap.size W w' := by
  obtain ⟨H0, hr, hn, hat⟩ := hs0_ok hgl
  obtain ⟨o, H', h1, h2⟩ := hC g args _ _ _ _ H0 hb (aL_ok hl) hr h
  obtain ⟨hs', _, h1⟩ := h1
  cases o with
  | pan v => exact h1.elim
  | ret v =>
    refine ⟨v, ⟨hs', h1⟩, fun W ht vs hv => (h2 (gEmb gl) W vs (gEmb_HR hn hat ht) (fun g hg => ⟨by show g < gl.length; omega, rfl, rfl⟩) hv).mono fun e w' hp => ?_⟩
    obtain ⟨f', s, u, rfl, hu⟩ := hp
    refine ⟨⟨f', u, rfl, hu⟩, below_of_step s fun b hb => ?_⟩
    have := hat b
    cases e : glO gl b with
    | none => rw [e] at this; rw [AH.sem_ob, this]; rfl
    | some z => rw [e] at this; obtain ⟨c, h1, _⟩ := this; rw [AH.sem_ob, h1]; rfl
theorem runsV_ok (hG : gl.length = P.globals.size) (hgl : glOk D gl = true) {C : CallF D} (hC : CallFOk P C) {g : Nat} (hb : hasBody P g = true) :
    ∀ {l : List (List AV × AV)}, (l.all fun q => Nat.ble q.1.length 8 && pd q.2) = true → runsV C g (hs0 D gl) l → ∀ q ∈ l, CallsV P gl g q.1 q.2
  | [], _, _, _, ha => by simp at ha
  | b :: l, hl, h, q, hq => by
    simp only [List.all_cons, Bool.and_eq_true] at hl
    obtain ⟨v, ⟨hs, h1⟩, h2⟩ := calls_of_runV hG hgl hC hb (Nat.le_of_ble_eq_true hl.1.1) h
    obtain ⟨ev, h3⟩ := isVal_out h1
    subst ev
    rcases List.mem_cons.1 hq with rfl | hq
    · exact fun W ht vs hv => (h2 W ht vs hv).mono fun e w' ⟨⟨f', u, e1, e2⟩, bel⟩ => ⟨⟨u, e1, pd_up hl.1.2 e2⟩, bel⟩
    · exact runsV_ok hG hgl hC hb hl.2 h3 q hq
theorem runsQ_ok (hG : gl.length = P.globals.size) (hgl : glOk D gl = true) {C : CallF D} (hC : CallFOk P C) {g : Nat} (hb : hasBody P g = true) :
    ∀ {l : List (List AV)}, (l.all fun q => Nat.ble q.length 8) = true → runsQ C g (hs0 D gl) l → ∀ q ∈ l, CallsQ P gl g q
  | [], _, _, _, ha => by simp at ha
  | b :: l, hl, h, q, hq => by
    simp only [List.all_cons, Bool.and_eq_true] at hl
    obtain ⟨v, ⟨hs, h1⟩, h2⟩ := calls_of_runV hG hgl hC hb (Nat.le_of_ble_eq_true hl.1) h
    obtain ⟨⟨b1, o1, rfl⟩, h1⟩ := ptr00_out (dec_enc (k := fun b => ptr00 b _) h1)
    rcases List.mem_cons.1 hq with rfl | hq
    · refine fun W ht vs hv => (h2 W ht vs hv).mono fun e w' ⟨⟨f', u, e1, e2⟩, bel⟩ => ⟨?_, bel⟩
      cases e2 with
      | tup _ vs h3 =>
        cases h3 with
        | cons _ _ _ _ h4 h3 =>
          cases h3 with
          | cons _ _ _ _ h5 h3 =>
            cases h3 with
            | cons _ _ _ _ h6 h3 =>
              cases h3
              cases h4
              cases h5
              cases h6
              exact ⟨_, e1⟩
    · exact runsQ_ok hG hgl hC hb hl.2 h1 q hq
/-- Functions of two plain values that answer a plain one, for some: looked up. -/
noncomputable def twoP (a : ETr 1) (k : AV → AV → Prop) : Prop := a fun v0 v1 v2 v3 v4 v5 v6 v7 => isE v2 (isE v3 (isE v4 (isE v5 (isE v6 (isE v7 (dec v0 fun a0 => dec v1 fun a1 => k a0 a1))))))
theorem twoP_out {a : ETr 1} {args : List AV} {k : AV → AV → Prop} (ha : RepA a args) (h : twoP a k) : (∀ j, args.getD (j + 2) undefA = undefA) ∧ k (args.getD 0 undefA) (args.getD 1 undefA) := by
  obtain ⟨hl, c, rfl, hc⟩ := ha
  have hc' : ∀ j, j < 8 → c j = enc (args.getD j undefA) := fun j hj => by
    have h : c j = enc (args.getD (j * 8 ^ 0 + 0) undefA) := hc j hj
    rwa [Nat.pow_zero, Nat.mul_one, Nat.add_zero] at h
  have h : isE (c 2) (isE (c 3) (isE (c 4) (isE (c 5) (isE (c 6) (isE (c 7) (dec (c 0) fun a0 => dec (c 1) fun a1 => k a0 a1)))))) := h
  rw [hc' 0 (by omega), hc' 1 (by omega), hc' 2 (by omega), hc' 3 (by omega), hc' 4 (by omega), hc' 5 (by omega), hc' 6 (by omega), hc' 7 (by omega)] at h
  obtain ⟨h2, h⟩ := isE_out h
  obtain ⟨h3, h⟩ := isE_out h
  obtain ⟨h4, h⟩ := isE_out h
  obtain ⟨h5, h⟩ := isE_out h
  obtain ⟨h6, h⟩ := isE_out h
  obtain ⟨h7, h⟩ := isE_out h
  have h := dec_enc (k := fun a0 => dec (enc (args.getD 1 undefA)) fun a1 => k a0 a1) h
  have h := dec_enc (k := fun a1 => k (args.getD 0 undefA) a1) h
  refine ⟨fun j => ?_, h⟩
  match j with
  | 0 => exact h2
  | 1 => exact h3
  | 2 => exact h4
  | 3 => exact h5
  | 4 => exact h6
  | 5 => exact h7
  | j + 6 => rw [List.getD_eq_getElem?_getD, List.getElem?_eq_none (by omega)]; rfl
noncomputable def ansR (D : Nat) (l : List (AV × AV × AV)) (x y : AV) (kr : V → Hs D → Prop) (h : Hs D) : Prop := @List.rec (AV × AV × AV) (fun _ => Prop) False (fun q _ ih => bI (sameAL [x, y] [q.1, q.2.1]) (kr (enc q.2.2) h) ih) l
noncomputable def ansC (D : Nat) (gl : List (Option (List AV))) (l : List (AV × AV × AV)) : FnC D := ⟨fun _ a kr _ h => twoP a fun x y => tabsK D gl 0 h (ansR D l x y kr h)⟩
theorem ansR_out {hs : Hs D} {l : List (AV × AV × AV)} {x y : AV} {kr : V → Hs D → Prop} (h : ansR D l x y kr hs) : ∃ q ∈ l, x = q.1 ∧ y = q.2.1 ∧ kr (enc q.2.2) hs := by
  induction l with
  | nil => exact h.elim
  | cons q l ih =>
    have h : bI (sameAL [x, y] [q.1, q.2.1]) (kr (enc q.2.2) hs) (ansR D l x y kr hs) := h
    cases e : sameAL [x, y] [q.1, q.2.1] with
    | true =>
      rw [e] at h
      have e' := sameAL_ok e
      simp only [List.cons.injEq, and_true] at e'
      exact ⟨q, List.mem_cons_self .., e'.1, e'.2, h⟩
    | false =>
      rw [e] at h
      obtain ⟨q', hq, h⟩ := ih h
      exact ⟨q', List.mem_cons_of_mem _ hq, h⟩
theorem two_up {f f' : Emb} {a b : AV} (hp : pl a = true) (hq : pl b = true) : ∀ (args : List AV) (vs : List Value), args.getD 0 undefA = a → args.getD 1 undefA = b → (∀ j, args.getD (j + 2) undefA = undefA) → VL f args vs → VL f' args vs
  | [], _, _, _, _, hv => by cases hv; exact .nil
  | x :: as, _, h0, h1, h, hv => by
    have h0 : x = a := h0
    subst h0
    cases hv with
    | cons _ v _ vs g1 g2 => exact .cons _ _ _ _ (pl_up hp g1) (one_up hq as vs (by simpa using h1) (fun j => by simpa using h j) g2)
theorem ansC_ok (hG : gl.length = P.globals.size) (hp : (gl.all fun z => match z with | some z => z.all pl | none => true) = true) {g : Nat} {l : List (AV × AV × AV)}
    (hl : (l.all fun q => pl q.1 && (pl q.2.1 && pd q.2.2)) = true) {fn : Func} {c : Code} (hf : P.funcs[g]? = some fn) (hbc : fn.body = some c) (hnt : 8 ≤ fn.ntmps) (h0 : ∀ q ∈ l, CallsV P gl g [q.1, q.2.1] q.2.2) : FnCOk P g (ansC D gl l) := by
  intro C hC args a kr kp hs H hb ha hr h
  obtain ⟨hu, h⟩ := twoP_out ha h
  obtain ⟨ht, h⟩ := tabsK_out hr h
  obtain ⟨q, hq, ex, ey, h⟩ := ansR_out h
  have hq2 := List.all_eq_true.1 hl q hq
  simp only [Bool.and_eq_true] at hq2
  refine ⟨.ret q.2.2, H, ⟨hs, hr, h⟩, fun f w vs hrw hg hv => ?_⟩
  have htab := tabs_there hG hp ht hrw hg
  have hl8 := ha.1
  have hcall : Calls P g vs w fun e w' => (∃ u, e = .returned u ∧ VR (gEmb gl) q.2.2 u) ∧ RowKit.Below w.heap.size w w' := by
    have hv2 : VL (gEmb gl) args vs.toList := two_up hq2.1 hq2.2.1 _ _ ex ey hu hv
    match args, ex, ey, hu, hv2 with
    | [], ex, _, _, _ => rw [← ex] at hq2; exact absurd hq2.1 (by simp [undefA, pl])
    | [_], _, ey, _, _ => rw [← ey] at hq2; exact absurd hq2.2.1 (by simp [undefA, pl])
    | x :: y :: r, ex, ey, hu, hv2 =>
      have ex : x = q.1 := ex
      have ey : y = q.2.1 := ey
      subst ex; subst ey
      cases hv' : vs.toList with
      | nil => rw [hv'] at hv2; cases hv2
      | cons u0 us =>
        rw [hv'] at hv2
        cases hv2 with
        | cons _ _ _ _ g0 hv2 =>
          cases us with
          | nil => cases hv2
          | cons u1 us =>
            cases hv2 with
            | cons _ _ _ _ g1 hv2 =>
              have hpad := undefs r us (fun j => by simpa using hu j) hv2
              have e : vs = #[u0, u1] ++ Array.replicate r.length undef := by
                apply Array.ext'
                rw [hv', hpad]
                simp
              rw [e]
              refine calls_pad hf hbc (by simp only [List.size_toArray, List.length_cons, List.length_nil]; simp only [List.length_cons] at hl8; omega) ?_
              exact h0 q hq w htab #[u0, u1] (.cons _ _ _ _ g0 (.cons _ _ _ _ g1 .nil))
  refine hcall.mono fun e w' ⟨⟨u, he, hu'⟩, bel⟩ => ⟨f, ⟨HRS.mk' hrw.dom (fun b hb ha => ?_) hrw.inj, .refl f, Nat.le_refl _, bel.size, fun k hk _ => bel.block k hk, fun b hd ho => .inl ⟨b, hd, ho, rfl⟩, fun b _ _ => rfl, fun _ _ h => h, fun _ _ h => h, fun _ _ _ => rfl, bel.os, bel.tape, bel.output⟩, u, he, pd_up hq2.2.2 hu'⟩
  rw [bel.block _ (hrw.toHRQ.block_lt hb ha)]
  exact hrw.obj b hb ha
/-- A function of nothing that answers plain values and structs of such: looked up. -/
noncomputable def tup0C (D : Nat) (gl : List (Option (List AV))) (z : List AV) : FnC D := ⟨fun _ a kr _ h => noArgs a (tabsK D gl 0 h (kr (enc (.tup z)) h))⟩
theorem tup0C_ok (hG : gl.length = P.globals.size) (hgl : glOk D gl = true) (hp : (gl.all fun z => match z with | some z => z.all pl | none => true) = true) {C0 : CallF D} (hC0 : CallFOk P C0) {g : Nat} {z : List AV}
    (hz : z.all pd = true) (h0 : C0 g (aL []) (fun v hs => tupK D z v hs) (fun _ _ => False) (hs0 D gl)) : FnCOk P g (tup0C D gl z) := by
  intro C hC args a kr kp hs H hb ha hr h
  obtain ⟨hu, h⟩ := noArgs_out ha h
  obtain ⟨ht, h⟩ := tabsK_out hr h
  refine ⟨.ret (.tup z), H, ⟨hs, hr, h⟩, fun f w vs hrw hg hv => ?_⟩
  have htab := tabs_there hG hp ht hrw hg
  obtain ⟨H0, hr0, hn0, hat0⟩ := hs0_ok hgl
  have hA : RepA (aL []) args := RepA.of ha.1 (fun j => (gA [] j).v) fun j _ => by rw [gA_ok, hu j]; simp [List.getD]
  obtain ⟨o, H1, h1, h2⟩ := hC0 g args _ _ _ _ H0 hb hA hr0 h0
  obtain ⟨hs1, hr1, h1⟩ := h1
  cases o with
  | pan v => exact h1.elim
  | ret v =>
    obtain rfl := tupK_out (show tupK D z (enc v) hs1 from h1)
    refine (h2 (gEmb gl) w vs (gEmb_HR hn0 hat0 htab) (fun g hg => ⟨by show g < gl.length; omega, rfl, rfl⟩) (undef_up _ _ hu hv)).mono fun e w' hp' => ?_
    obtain ⟨f', s, u, rfl, hu'⟩ := hp'
    have bel := below_of_step s fun b hb => by
      have := hat0 b
      cases e : glO gl b with
      | none => rw [e] at this; rw [AH.sem_ob, this]; rfl
      | some z => rw [e] at this; obtain ⟨c, h1, _⟩ := this; rw [AH.sem_ob, h1]; rfl
    refine ⟨f, ⟨HRS.mk' hrw.dom (fun b hb ha => ?_) hrw.inj, .refl f, Nat.le_refl _, bel.size, fun k hk _ => bel.block k hk, fun b hd ho => .inl ⟨b, hd, ho, rfl⟩, fun b _ _ => rfl, fun _ _ h => h, fun _ _ h => h, fun _ _ _ => rfl, bel.os, bel.tape, bel.output⟩, u, rfl, ?_⟩
    · rw [bel.block _ (hrw.toHRQ.block_lt hb ha)]
      exact hrw.obj b hb ha
    · cases hu' with
      | tup _ us h3 => exact .tup _ _ (pdL_up hz h3)
end
end Go.X
