/- All runs of this claim, and the law from them. No condition. -/
import Derived.Test.YtdbemgdlohcghaaGreatDoorScriptsFullP
import Derived.Test.YtdbemgdlohcghaaGreatDoorScriptsFullK
import Derived.Test.YtdbemgdlohcghaaGreatDoorScriptsFull0
import Derived.Test.YtdbemgdlohcghaaGreatDoorScriptsFull1
import Derived.Test.YtdbemgdlohcghaaGreatDoorScriptsFull2
import Derived.Test.YtdbemgdlohcghaaGreatDoorScriptsFull3
import Derived.Test.YtdbemgdlohcghaaGreatDoorScriptsFull4
import Derived.Test.YtdbemgdlohcghaaGreatDoorScriptsFull5
import Derived.Test.YtdbemgdlohcghaaGreatDoorScriptsFull6
import Derived.Test.YtdbemgdlohcghaaGreatDoorScriptsFull7
import Derived.Test.YtdbemgdlohcghaaGreatDoorScriptsFull8
import Derived.Test.YtdbemgdlohcghaaGreatDoorScriptsFull9
import Derived.Test.YtdbemgdlohcghaaGreatDoorScriptsFull10
import Derived.Test.YtdbemgdlohcghaaGreatDoorScriptsFull11
import Derived.Test.YtdbemgdlohcghaaGreatDoorScriptsFull12
import Derived.Test.YtdbemgdlohcghaaGreatDoorScriptsFullL
import Derived.Test.YtdbemgdlohcghaaGreatDoorScriptsFullM
import Derived.Test.YtdbemgdlohcghaaGreatDoorScriptsFullN
import Derived.OpenShut
namespace Go.Proofs.YtdbemgdlohcghaaGreatDoor.KScriptsFull
open Go Go.X Go.RowKit
set_option maxRecDepth 100000
set_option maxHeartbeats 0
set_option linter.unusedVariables false
theorem hG : gl.length = Tryz.prog.globals.size := by kernel_rfl
theorem hgl : glOk 5 gl = true := by kernel_rfl
theorem hpl : (gl.all fun z => match z with | some z => z.all pl | none => true) = true := by kernel_rfl
theorem hmx : Tryz.prog.follows .mixedOrders = true := by kernel_rfl
theorem nb {a b : Nat} (h : a ≠ b) : Nat.beq a b = false := by
  cases e : Nat.beq a b with
  | false => rfl
  | true => exact absurd (Nat.eq_of_beq_eq_true e) h
theorem hC00 : CallFOk Tryz.prog C00 := callF_ok hmx (fun _ _ h => by cases h) 4000
theorem runV_of {C : CallF 5} (hC : CallFOk Tryz.prog C) {g : Nat} (hb : hasBody Tryz.prog g = true) {l : List (List AV × AV)} (hl : (l.all fun q => Nat.ble q.1.length 8 && pd q.2) = true) (h : runsV C g (hs0 5 gl) l = True) : ∀ q ∈ l, CallsV Tryz.prog gl g q.1 q.2 := runsV_ok hG hgl hC hb hl (of_eq_true h)
theorem runQ_of {C : CallF 5} (hC : CallFOk Tryz.prog C) {g : Nat} (hb : hasBody Tryz.prog g = true) {l : List (List AV)} (hl : (l.all fun q => Nat.ble q.length 8) = true) (h : runsQ C g (hs0 5 gl) l = True) : ∀ q ∈ l, CallsQ Tryz.prog gl g q := runsQ_ok hG hgl hC hb hl (of_eq_true h)
theorem runK_of {C : CallF 5} (hC : CallFOk Tryz.prog C) {g : Nat} (hb : hasBody Tryz.prog g = true) (h : runs C g (hs0 5 gl) [[]] = True) : CallsT Tryz.prog gl g [] := runs_ok hG hgl hC hb (fun a ha => by rw [List.mem_singleton.1 ha]; exact Nat.zero_le _) (of_eq_true h) _ (List.mem_singleton.2 rfl)
theorem hb (g : Nat) (h : hasBody Tryz.prog g = true) : hasBody Tryz.prog g = true := h
theorem part_all : ∀ q ∈ parts, CallsV Tryz.prog gl 33 [q.1, q.2.1] q.2.2 := fun q hq => runV_of hC00 (by kernel_rfl) (by kernel_rfl) ep ([q.1, q.2.1], q.2.2) (List.mem_map.2 ⟨q, hq, rfl⟩)
theorem okPart : FnCOk Tryz.prog 33 (ansC 5 gl parts) := ansC_ok (fn := Tryz.f33) hG hpl (by kernel_rfl) Tryz.func33 rfl (Nat.le_of_ble_eq_true (by kernel_rfl)) part_all
theorem hk1 : ∀ g c, kn1 g = some c → FnCOk Tryz.prog g c := fun g c h => by
  unfold kn1 at h
  by_cases e0 : g = 33
  · subst e0
    obtain rfl := Option.some.inj h
    exact okPart
  rw [nb e0] at h
  simp only [cond_false] at h
  cases h
theorem hC1 : CallFOk Tryz.prog C1 := callF_ok hmx hk1 4000
theorem con_of {C : CallF 5} (hC : CallFOk Tryz.prog C) {g : Nat} {z : List AV} (hz : z.all pd = true) (h : C g (aL []) (fun v hs => tupK 5 z v hs) (fun _ _ => False) (hs0 5 gl) = True) : FnCOk Tryz.prog g (tup0C 5 gl z) := tup0C_ok hG hgl hpl hC hz (of_eq_true h)
theorem okCon : FnCOk Tryz.prog 22 (tup0C 5 gl zc) := con_of hC1 (by kernel_rfl) ec
theorem hk2 : ∀ g c, kn2 g = some c → FnCOk Tryz.prog g c := fun g c h => by
  unfold kn2 at h
  by_cases e0 : g = 22
  · subst e0
    obtain rfl := Option.some.inj h
    exact okCon
  rw [nb e0] at h
  simp only [cond_false] at h
  cases h
theorem hC2 : CallFOk Tryz.prog C2 := callF_ok hmx hk2 4000
theorem rK : CallsT Tryz.prog gl 7 [] := runK_of hC2 (by kernel_rfl) ek
theorem rt0 : ∀ q ∈ cT 0, CallsV Tryz.prog gl 5 q.1 q.2 := runV_of hC00 (by kernel_rfl) (by kernel_rfl) et0
theorem rt1 : ∀ q ∈ cT 1, CallsV Tryz.prog gl 5 q.1 q.2 := runV_of hC00 (by kernel_rfl) (by kernel_rfl) et1
theorem rt2 : ∀ q ∈ cT 2, CallsV Tryz.prog gl 5 q.1 q.2 := runV_of hC00 (by kernel_rfl) (by kernel_rfl) et2
theorem rt3 : ∀ q ∈ cT 3, CallsV Tryz.prog gl 5 q.1 q.2 := runV_of hC00 (by kernel_rfl) (by kernel_rfl) et3
theorem rt4 : ∀ q ∈ cT 4, CallsV Tryz.prog gl 5 q.1 q.2 := runV_of hC00 (by kernel_rfl) (by kernel_rfl) et4
theorem rt5 : ∀ q ∈ cT 5, CallsV Tryz.prog gl 5 q.1 q.2 := runV_of hC00 (by kernel_rfl) (by kernel_rfl) et5
theorem rt6 : ∀ q ∈ cT 6, CallsV Tryz.prog gl 5 q.1 q.2 := runV_of hC00 (by kernel_rfl) (by kernel_rfl) et6
theorem rt7 : ∀ q ∈ cT 7, CallsV Tryz.prog gl 5 q.1 q.2 := runV_of hC00 (by kernel_rfl) (by kernel_rfl) et7
theorem rt8 : ∀ q ∈ cT 8, CallsV Tryz.prog gl 5 q.1 q.2 := runV_of hC00 (by kernel_rfl) (by kernel_rfl) et8
theorem rt9 : ∀ q ∈ cT 9, CallsV Tryz.prog gl 5 q.1 q.2 := runV_of hC00 (by kernel_rfl) (by kernel_rfl) et9
theorem rt10 : ∀ q ∈ cT 10, CallsV Tryz.prog gl 5 q.1 q.2 := runV_of hC00 (by kernel_rfl) (by kernel_rfl) et10
theorem rt11 : ∀ q ∈ cT 11, CallsV Tryz.prog gl 5 q.1 q.2 := runV_of hC00 (by kernel_rfl) (by kernel_rfl) et11
theorem rt12 : ∀ q ∈ cT 12, CallsV Tryz.prog gl 5 q.1 q.2 := runV_of hC00 (by kernel_rfl) (by kernel_rfl) et12
theorem rt13 : ∀ q ∈ cT 13, CallsV Tryz.prog gl 5 q.1 q.2 := runV_of hC00 (by kernel_rfl) (by kernel_rfl) et13
theorem rt14 : ∀ q ∈ cT 14, CallsV Tryz.prog gl 5 q.1 q.2 := runV_of hC00 (by kernel_rfl) (by kernel_rfl) et14
theorem rt15 : ∀ q ∈ cT 15, CallsV Tryz.prog gl 5 q.1 q.2 := runV_of hC00 (by kernel_rfl) (by kernel_rfl) et15
theorem rt16 : ∀ q ∈ cT 16, CallsV Tryz.prog gl 5 q.1 q.2 := runV_of hC00 (by kernel_rfl) (by kernel_rfl) et16
theorem rt17 : ∀ q ∈ cT 17, CallsV Tryz.prog gl 5 q.1 q.2 := runV_of hC00 (by kernel_rfl) (by kernel_rfl) et17
theorem rt18 : ∀ q ∈ cT 18, CallsV Tryz.prog gl 5 q.1 q.2 := runV_of hC00 (by kernel_rfl) (by kernel_rfl) et18
theorem rt19 : ∀ q ∈ cT 19, CallsV Tryz.prog gl 5 q.1 q.2 := runV_of hC00 (by kernel_rfl) (by kernel_rfl) et19
theorem rt20 : ∀ q ∈ cT 20, CallsV Tryz.prog gl 5 q.1 q.2 := runV_of hC00 (by kernel_rfl) (by kernel_rfl) et20
theorem rt21 : ∀ q ∈ cT 21, CallsV Tryz.prog gl 5 q.1 q.2 := runV_of hC00 (by kernel_rfl) (by kernel_rfl) et21
theorem rt22 : ∀ q ∈ cT 22, CallsV Tryz.prog gl 5 q.1 q.2 := runV_of hC00 (by kernel_rfl) (by kernel_rfl) et22
theorem rt23 : ∀ q ∈ cT 23, CallsV Tryz.prog gl 5 q.1 q.2 := runV_of hC00 (by kernel_rfl) (by kernel_rfl) et23
theorem rt24 : ∀ q ∈ cT 24, CallsV Tryz.prog gl 5 q.1 q.2 := runV_of hC00 (by kernel_rfl) (by kernel_rfl) et24
theorem rt25 : ∀ q ∈ cT 25, CallsV Tryz.prog gl 5 q.1 q.2 := runV_of hC00 (by kernel_rfl) (by kernel_rfl) et25
theorem Rt : ∀ c, c < 26 → ∀ q ∈ cT c, CallsV Tryz.prog gl 5 q.1 q.2
  | 0, _ => rt0
  | 1, _ => rt1
  | 2, _ => rt2
  | 3, _ => rt3
  | 4, _ => rt4
  | 5, _ => rt5
  | 6, _ => rt6
  | 7, _ => rt7
  | 8, _ => rt8
  | 9, _ => rt9
  | 10, _ => rt10
  | 11, _ => rt11
  | 12, _ => rt12
  | 13, _ => rt13
  | 14, _ => rt14
  | 15, _ => rt15
  | 16, _ => rt16
  | 17, _ => rt17
  | 18, _ => rt18
  | 19, _ => rt19
  | 20, _ => rt20
  | 21, _ => rt21
  | 22, _ => rt22
  | 23, _ => rt23
  | 24, _ => rt24
  | 25, _ => rt25
  | c + 26, h => absurd h (by omega)
theorem rr0 : ∀ q ∈ cS 0, CallsV Tryz.prog gl 6 q.1 q.2 := runV_of hC00 (by kernel_rfl) (by kernel_rfl) er0
theorem rr1 : ∀ q ∈ cS 1, CallsV Tryz.prog gl 6 q.1 q.2 := runV_of hC00 (by kernel_rfl) (by kernel_rfl) er1
theorem rr2 : ∀ q ∈ cS 2, CallsV Tryz.prog gl 6 q.1 q.2 := runV_of hC00 (by kernel_rfl) (by kernel_rfl) er2
theorem rr3 : ∀ q ∈ cS 3, CallsV Tryz.prog gl 6 q.1 q.2 := runV_of hC00 (by kernel_rfl) (by kernel_rfl) er3
theorem rr4 : ∀ q ∈ cS 4, CallsV Tryz.prog gl 6 q.1 q.2 := runV_of hC00 (by kernel_rfl) (by kernel_rfl) er4
theorem rr5 : ∀ q ∈ cS 5, CallsV Tryz.prog gl 6 q.1 q.2 := runV_of hC00 (by kernel_rfl) (by kernel_rfl) er5
theorem rr6 : ∀ q ∈ cS 6, CallsV Tryz.prog gl 6 q.1 q.2 := runV_of hC00 (by kernel_rfl) (by kernel_rfl) er6
theorem rr7 : ∀ q ∈ cS 7, CallsV Tryz.prog gl 6 q.1 q.2 := runV_of hC00 (by kernel_rfl) (by kernel_rfl) er7
theorem rr8 : ∀ q ∈ cS 8, CallsV Tryz.prog gl 6 q.1 q.2 := runV_of hC00 (by kernel_rfl) (by kernel_rfl) er8
theorem rr9 : ∀ q ∈ cS 9, CallsV Tryz.prog gl 6 q.1 q.2 := runV_of hC00 (by kernel_rfl) (by kernel_rfl) er9
theorem rr10 : ∀ q ∈ cS 10, CallsV Tryz.prog gl 6 q.1 q.2 := runV_of hC00 (by kernel_rfl) (by kernel_rfl) er10
theorem rr11 : ∀ q ∈ cS 11, CallsV Tryz.prog gl 6 q.1 q.2 := runV_of hC00 (by kernel_rfl) (by kernel_rfl) er11
theorem rr12 : ∀ q ∈ cS 12, CallsV Tryz.prog gl 6 q.1 q.2 := runV_of hC00 (by kernel_rfl) (by kernel_rfl) er12
theorem rr13 : ∀ q ∈ cS 13, CallsV Tryz.prog gl 6 q.1 q.2 := runV_of hC00 (by kernel_rfl) (by kernel_rfl) er13
theorem rr14 : ∀ q ∈ cS 14, CallsV Tryz.prog gl 6 q.1 q.2 := runV_of hC00 (by kernel_rfl) (by kernel_rfl) er14
theorem rr15 : ∀ q ∈ cS 15, CallsV Tryz.prog gl 6 q.1 q.2 := runV_of hC00 (by kernel_rfl) (by kernel_rfl) er15
theorem rr16 : ∀ q ∈ cS 16, CallsV Tryz.prog gl 6 q.1 q.2 := runV_of hC00 (by kernel_rfl) (by kernel_rfl) er16
theorem rr17 : ∀ q ∈ cS 17, CallsV Tryz.prog gl 6 q.1 q.2 := runV_of hC00 (by kernel_rfl) (by kernel_rfl) er17
theorem rr18 : ∀ q ∈ cS 18, CallsV Tryz.prog gl 6 q.1 q.2 := runV_of hC00 (by kernel_rfl) (by kernel_rfl) er18
theorem rr19 : ∀ q ∈ cS 19, CallsV Tryz.prog gl 6 q.1 q.2 := runV_of hC00 (by kernel_rfl) (by kernel_rfl) er19
theorem rr20 : ∀ q ∈ cS 20, CallsV Tryz.prog gl 6 q.1 q.2 := runV_of hC00 (by kernel_rfl) (by kernel_rfl) er20
theorem rr21 : ∀ q ∈ cS 21, CallsV Tryz.prog gl 6 q.1 q.2 := runV_of hC00 (by kernel_rfl) (by kernel_rfl) er21
theorem rr22 : ∀ q ∈ cS 22, CallsV Tryz.prog gl 6 q.1 q.2 := runV_of hC00 (by kernel_rfl) (by kernel_rfl) er22
theorem rr23 : ∀ q ∈ cS 23, CallsV Tryz.prog gl 6 q.1 q.2 := runV_of hC00 (by kernel_rfl) (by kernel_rfl) er23
theorem rr24 : ∀ q ∈ cS 24, CallsV Tryz.prog gl 6 q.1 q.2 := runV_of hC00 (by kernel_rfl) (by kernel_rfl) er24
theorem rr25 : ∀ q ∈ cS 25, CallsV Tryz.prog gl 6 q.1 q.2 := runV_of hC00 (by kernel_rfl) (by kernel_rfl) er25
theorem Rr : ∀ c, c < 26 → ∀ q ∈ cS c, CallsV Tryz.prog gl 6 q.1 q.2
  | 0, _ => rr0
  | 1, _ => rr1
  | 2, _ => rr2
  | 3, _ => rr3
  | 4, _ => rr4
  | 5, _ => rr5
  | 6, _ => rr6
  | 7, _ => rr7
  | 8, _ => rr8
  | 9, _ => rr9
  | 10, _ => rr10
  | 11, _ => rr11
  | 12, _ => rr12
  | 13, _ => rr13
  | 14, _ => rr14
  | 15, _ => rr15
  | 16, _ => rr16
  | 17, _ => rr17
  | 18, _ => rr18
  | 19, _ => rr19
  | 20, _ => rr20
  | 21, _ => rr21
  | 22, _ => rr22
  | 23, _ => rr23
  | 24, _ => rr24
  | 25, _ => rr25
  | c + 26, h => absurd h (by omega)
theorem rq0 : ∀ q ∈ cQ 0, CallsQ Tryz.prog gl 15 q := runQ_of hC00 (by kernel_rfl) (by kernel_rfl) eq0
theorem rq1 : ∀ q ∈ cQ 1, CallsQ Tryz.prog gl 15 q := runQ_of hC00 (by kernel_rfl) (by kernel_rfl) eq1
theorem rq2 : ∀ q ∈ cQ 2, CallsQ Tryz.prog gl 15 q := runQ_of hC00 (by kernel_rfl) (by kernel_rfl) eq2
theorem rq3 : ∀ q ∈ cQ 3, CallsQ Tryz.prog gl 15 q := runQ_of hC00 (by kernel_rfl) (by kernel_rfl) eq3
theorem rq4 : ∀ q ∈ cQ 4, CallsQ Tryz.prog gl 15 q := runQ_of hC00 (by kernel_rfl) (by kernel_rfl) eq4
theorem rq5 : ∀ q ∈ cQ 5, CallsQ Tryz.prog gl 15 q := runQ_of hC00 (by kernel_rfl) (by kernel_rfl) eq5
theorem rq6 : ∀ q ∈ cQ 6, CallsQ Tryz.prog gl 15 q := runQ_of hC00 (by kernel_rfl) (by kernel_rfl) eq6
theorem rq7 : ∀ q ∈ cQ 7, CallsQ Tryz.prog gl 15 q := runQ_of hC00 (by kernel_rfl) (by kernel_rfl) eq7
theorem rq8 : ∀ q ∈ cQ 8, CallsQ Tryz.prog gl 15 q := runQ_of hC00 (by kernel_rfl) (by kernel_rfl) eq8
theorem rq9 : ∀ q ∈ cQ 9, CallsQ Tryz.prog gl 15 q := runQ_of hC00 (by kernel_rfl) (by kernel_rfl) eq9
theorem rq10 : ∀ q ∈ cQ 10, CallsQ Tryz.prog gl 15 q := runQ_of hC00 (by kernel_rfl) (by kernel_rfl) eq10
theorem rq11 : ∀ q ∈ cQ 11, CallsQ Tryz.prog gl 15 q := runQ_of hC00 (by kernel_rfl) (by kernel_rfl) eq11
theorem rq12 : ∀ q ∈ cQ 12, CallsQ Tryz.prog gl 15 q := runQ_of hC00 (by kernel_rfl) (by kernel_rfl) eq12
theorem rq13 : ∀ q ∈ cQ 13, CallsQ Tryz.prog gl 15 q := runQ_of hC00 (by kernel_rfl) (by kernel_rfl) eq13
theorem rq14 : ∀ q ∈ cQ 14, CallsQ Tryz.prog gl 15 q := runQ_of hC00 (by kernel_rfl) (by kernel_rfl) eq14
theorem rq15 : ∀ q ∈ cQ 15, CallsQ Tryz.prog gl 15 q := runQ_of hC00 (by kernel_rfl) (by kernel_rfl) eq15
theorem rq16 : ∀ q ∈ cQ 16, CallsQ Tryz.prog gl 15 q := runQ_of hC00 (by kernel_rfl) (by kernel_rfl) eq16
theorem rq17 : ∀ q ∈ cQ 17, CallsQ Tryz.prog gl 15 q := runQ_of hC00 (by kernel_rfl) (by kernel_rfl) eq17
theorem rq18 : ∀ q ∈ cQ 18, CallsQ Tryz.prog gl 15 q := runQ_of hC00 (by kernel_rfl) (by kernel_rfl) eq18
theorem rq19 : ∀ q ∈ cQ 19, CallsQ Tryz.prog gl 15 q := runQ_of hC00 (by kernel_rfl) (by kernel_rfl) eq19
theorem rq20 : ∀ q ∈ cQ 20, CallsQ Tryz.prog gl 15 q := runQ_of hC00 (by kernel_rfl) (by kernel_rfl) eq20
theorem rq21 : ∀ q ∈ cQ 21, CallsQ Tryz.prog gl 15 q := runQ_of hC00 (by kernel_rfl) (by kernel_rfl) eq21
theorem rq22 : ∀ q ∈ cQ 22, CallsQ Tryz.prog gl 15 q := runQ_of hC00 (by kernel_rfl) (by kernel_rfl) eq22
theorem rq23 : ∀ q ∈ cQ 23, CallsQ Tryz.prog gl 15 q := runQ_of hC00 (by kernel_rfl) (by kernel_rfl) eq23
theorem rq24 : ∀ q ∈ cQ 24, CallsQ Tryz.prog gl 15 q := runQ_of hC00 (by kernel_rfl) (by kernel_rfl) eq24
theorem rq25 : ∀ q ∈ cQ 25, CallsQ Tryz.prog gl 15 q := runQ_of hC00 (by kernel_rfl) (by kernel_rfl) eq25
theorem Rq : ∀ c, c < 26 → ∀ q ∈ cQ c, CallsQ Tryz.prog gl 15 q
  | 0, _ => rq0
  | 1, _ => rq1
  | 2, _ => rq2
  | 3, _ => rq3
  | 4, _ => rq4
  | 5, _ => rq5
  | 6, _ => rq6
  | 7, _ => rq7
  | 8, _ => rq8
  | 9, _ => rq9
  | 10, _ => rq10
  | 11, _ => rq11
  | 12, _ => rq12
  | 13, _ => rq13
  | 14, _ => rq14
  | 15, _ => rq15
  | 16, _ => rq16
  | 17, _ => rq17
  | 18, _ => rq18
  | 19, _ => rq19
  | 20, _ => rq20
  | 21, _ => rq21
  | 22, _ => rq22
  | 23, _ => rq23
  | 24, _ => rq24
  | 25, _ => rq25
  | c + 26, h => absurd h (by omega)
theorem rs0 : ∀ q ∈ cS 0, CallsV Tryz.prog gl 16 q.1 q.2 := runV_of hC2 (by kernel_rfl) (by kernel_rfl) es0
theorem rs1 : ∀ q ∈ cS 1, CallsV Tryz.prog gl 16 q.1 q.2 := runV_of hC2 (by kernel_rfl) (by kernel_rfl) es1
theorem rs2 : ∀ q ∈ cS 2, CallsV Tryz.prog gl 16 q.1 q.2 := runV_of hC2 (by kernel_rfl) (by kernel_rfl) es2
theorem rs3 : ∀ q ∈ cS 3, CallsV Tryz.prog gl 16 q.1 q.2 := runV_of hC2 (by kernel_rfl) (by kernel_rfl) es3
theorem rs4 : ∀ q ∈ cS 4, CallsV Tryz.prog gl 16 q.1 q.2 := runV_of hC2 (by kernel_rfl) (by kernel_rfl) es4
theorem rs5 : ∀ q ∈ cS 5, CallsV Tryz.prog gl 16 q.1 q.2 := runV_of hC2 (by kernel_rfl) (by kernel_rfl) es5
theorem rs6 : ∀ q ∈ cS 6, CallsV Tryz.prog gl 16 q.1 q.2 := runV_of hC2 (by kernel_rfl) (by kernel_rfl) es6
theorem rs7 : ∀ q ∈ cS 7, CallsV Tryz.prog gl 16 q.1 q.2 := runV_of hC2 (by kernel_rfl) (by kernel_rfl) es7
theorem rs8 : ∀ q ∈ cS 8, CallsV Tryz.prog gl 16 q.1 q.2 := runV_of hC2 (by kernel_rfl) (by kernel_rfl) es8
theorem rs9 : ∀ q ∈ cS 9, CallsV Tryz.prog gl 16 q.1 q.2 := runV_of hC2 (by kernel_rfl) (by kernel_rfl) es9
theorem rs10 : ∀ q ∈ cS 10, CallsV Tryz.prog gl 16 q.1 q.2 := runV_of hC2 (by kernel_rfl) (by kernel_rfl) es10
theorem rs11 : ∀ q ∈ cS 11, CallsV Tryz.prog gl 16 q.1 q.2 := runV_of hC2 (by kernel_rfl) (by kernel_rfl) es11
theorem rs12 : ∀ q ∈ cS 12, CallsV Tryz.prog gl 16 q.1 q.2 := runV_of hC2 (by kernel_rfl) (by kernel_rfl) es12
theorem rs13 : ∀ q ∈ cS 13, CallsV Tryz.prog gl 16 q.1 q.2 := runV_of hC2 (by kernel_rfl) (by kernel_rfl) es13
theorem rs14 : ∀ q ∈ cS 14, CallsV Tryz.prog gl 16 q.1 q.2 := runV_of hC2 (by kernel_rfl) (by kernel_rfl) es14
theorem rs15 : ∀ q ∈ cS 15, CallsV Tryz.prog gl 16 q.1 q.2 := runV_of hC2 (by kernel_rfl) (by kernel_rfl) es15
theorem rs16 : ∀ q ∈ cS 16, CallsV Tryz.prog gl 16 q.1 q.2 := runV_of hC2 (by kernel_rfl) (by kernel_rfl) es16
theorem rs17 : ∀ q ∈ cS 17, CallsV Tryz.prog gl 16 q.1 q.2 := runV_of hC2 (by kernel_rfl) (by kernel_rfl) es17
theorem rs18 : ∀ q ∈ cS 18, CallsV Tryz.prog gl 16 q.1 q.2 := runV_of hC2 (by kernel_rfl) (by kernel_rfl) es18
theorem rs19 : ∀ q ∈ cS 19, CallsV Tryz.prog gl 16 q.1 q.2 := runV_of hC2 (by kernel_rfl) (by kernel_rfl) es19
theorem rs20 : ∀ q ∈ cS 20, CallsV Tryz.prog gl 16 q.1 q.2 := runV_of hC2 (by kernel_rfl) (by kernel_rfl) es20
theorem rs21 : ∀ q ∈ cS 21, CallsV Tryz.prog gl 16 q.1 q.2 := runV_of hC2 (by kernel_rfl) (by kernel_rfl) es21
theorem rs22 : ∀ q ∈ cS 22, CallsV Tryz.prog gl 16 q.1 q.2 := runV_of hC2 (by kernel_rfl) (by kernel_rfl) es22
theorem rs23 : ∀ q ∈ cS 23, CallsV Tryz.prog gl 16 q.1 q.2 := runV_of hC2 (by kernel_rfl) (by kernel_rfl) es23
theorem rs24 : ∀ q ∈ cS 24, CallsV Tryz.prog gl 16 q.1 q.2 := runV_of hC2 (by kernel_rfl) (by kernel_rfl) es24
theorem rs25 : ∀ q ∈ cS 25, CallsV Tryz.prog gl 16 q.1 q.2 := runV_of hC2 (by kernel_rfl) (by kernel_rfl) es25
theorem Rs : ∀ c, c < 26 → ∀ q ∈ cS c, CallsV Tryz.prog gl 16 q.1 q.2
  | 0, _ => rs0
  | 1, _ => rs1
  | 2, _ => rs2
  | 3, _ => rs3
  | 4, _ => rs4
  | 5, _ => rs5
  | 6, _ => rs6
  | 7, _ => rs7
  | 8, _ => rs8
  | 9, _ => rs9
  | 10, _ => rs10
  | 11, _ => rs11
  | 12, _ => rs12
  | 13, _ => rs13
  | 14, _ => rs14
  | 15, _ => rs15
  | 16, _ => rs16
  | 17, _ => rs17
  | 18, _ => rs18
  | 19, _ => rs19
  | 20, _ => rs20
  | 21, _ => rs21
  | 22, _ => rs22
  | 23, _ => rs23
  | 24, _ => rs24
  | 25, _ => rs25
  | c + 26, h => absurd h (by omega)
theorem at_ (i : Nat) (h : i < 260) : i / 10 < 26 ∧ 10 * (i / 10) + i % 10 = i ∧ i % 10 < 10 := by omega
theorem aT (i : Nat) (h : i < 260) : CallsV Tryz.prog gl 5 [.int 0 (.ofNat i)] (tI i) := Rt (i / 10) (at_ i h).1 ([.int 0 (.ofNat i)], tI i) (List.mem_map.2 ⟨i % 10, List.mem_range.2 (at_ i h).2.2, by rw [(at_ i h).2.1]⟩)
theorem aR (i : Nat) (h : i < 260) : CallsV Tryz.prog gl 6 [tI i] (dI i) := Rr (i / 10) (at_ i h).1 ([tI i], dI i) (List.mem_map.2 ⟨i % 10, List.mem_range.2 (at_ i h).2.2, by rw [(at_ i h).2.1]⟩)
theorem aQ (i : Nat) (h : i < 260) : CallsQ Tryz.prog gl 15 [tI i] := Rq (i / 10) (at_ i h).1 [tI i] (List.mem_map.2 ⟨i % 10, List.mem_range.2 (at_ i h).2.2, by rw [(at_ i h).2.1]⟩)
theorem aS (i : Nat) (h : i < 260) : CallsV Tryz.prog gl 16 [tI i] (dI i) := Rs (i / 10) (at_ i h).1 ([tI i], dI i) (List.mem_map.2 ⟨i % 10, List.mem_range.2 (at_ i h).2.2, by rw [(at_ i h).2.1]⟩)
def tx (i : Nat) : ByteArray := toBA 11 (tC i)
def dg (i : Nat) : ByteArray := toBA 64 (dL.getD i 0)
theorem lt_t (i : Nat) (h : i < 260) : tC i < 256 ^ 11 := by
  have e : (256 : Nat) ^ 11 = 309485009821345068724781056 := rfl
  rw [e]; unfold tC; omega
theorem lt_all : (dL.all fun x => Nat.ble (x + 1) (256 ^ 64)) = true := by kernel_rfl
theorem len_d : dL.length = 260 := by kernel_rfl
theorem lt_d (i : Nat) (h : i < 260) : dL.getD i 0 < 256 ^ 64 := by
  have hi : i < dL.length := by rw [len_d]; exact h
  rw [List.getD_eq_getElem?_getD, List.getElem?_eq_getElem hi]
  exact Nat.le_of_ble_eq_true (List.all_eq_true.1 lt_all _ (List.getElem_mem hi))
theorem sV {f : Emb} {n x : Nat} {e : Ending} (h : ∃ u, e = .returned u ∧ VR f (.str n x) u) : e = .returned (.string (toBA n x)) := by
  obtain ⟨u, he, hu⟩ := h
  rw [he, hu.inv_str.1]
theorem toL_val : ∀ (n x : Nat), x < 256 ^ n → encL (toL n x) = x
  | 0, x, h => by
    have : x = 0 := by simpa using h
    subst this; rfl
  | n + 1, x, h => by
    have ih := toL_val n (x / 256) (by rw [Nat.pow_succ] at h; omega)
    have hm := Nat.mod_lt x (show 256 > 0 by omega)
    show (UInt8.ofNat (x % 256)).toNat + 256 * encL (toL n (x / 256)) = x
    rw [ih, UInt8.toNat_ofNat', Nat.mod_eq_of_lt hm]
    omega
theorem nodup : dL.Nodup := by decide +kernel
theorem grown_tabs {W w : World} {row : Option Nat} (h : TabsAt gl W) (hg : W.grownBy w row) (hr : row ≠ some 0) : TabsAt gl w := fun b z hz => by
  obtain ⟨cur, e, lo, hi, h1, h2⟩ := h b z hz
  refine ⟨cur, e, lo, hi, (hg.block b (Array.getElem?_eq_some_iff.1 h1).1 ?_).trans h1, h2⟩
  intro e0
  have hb0 : b = 0 := by
    unfold glO at hz
    match b, hz with
    | 0, _ => rfl
    | 1, hz => cases hz
    | 2, hz => cases hz
    | 3, hz => cases hz
    | 4, hz => cases hz
    | 5, hz => cases hz
    | 6, hz => cases hz
    | 7, hz => cases hz
    | 8, hz => cases hz
    | n + 9, hz =>
      have hlen : gl.length = 9 := rfl
      rw [List.getElem?_eq_none (by omega)] at hz
      cases hz
  subst hb0
  exact hr e0.symm
theorem env : Env (TabsAt gl) tx dg where
  keep := fun h hg hr => grown_tabs h hg hr
  text := fun {W i} h hi => (aT i hi W h #[.int .i64 i] (.cons _ _ _ _ (.int 0 (.ofNat i)) .nil)).mono fun e w' ⟨h1, h2⟩ => ⟨sV h1, h2⟩
  rsum := fun {W i} h hi => (aR i hi W h #[.string (tx i)] (.cons _ _ _ _ (.str _ _ (lt_t i hi)) .nil)).mono fun e w' ⟨h1, h2⟩ => ⟨sV h1, h2⟩
  src := fun {W i} h hi => aQ i hi W h #[.string (tx i)] (.cons _ _ _ _ (.str _ _ (lt_t i hi)) .nil)
  sum := fun {W i} h hi => (aS i hi W h #[.string (tx i)] (.cons _ _ _ _ (.str _ _ (lt_t i hi)) .nil)).mono fun e w' ⟨h1, h2⟩ => ⟨sV h1, h2⟩
  told := fun {W} h => rK W h #[] .nil
  apart := fun i j hij hj e => by
    have h1 : dL.getD i 0 = dL.getD j 0 := by
      rw [← toL_val 64 _ (lt_d i (by omega)), ← toL_val 64 _ (lt_d j hj)]
      have e1 : (dg i).data.toList = toL 64 (dL.getD i 0) := by unfold dg; rw [toBA_data]
      have e2 : (dg j).data.toList = toL 64 (dL.getD j 0) := by unfold dg; rw [toBA_data]
      rw [← e1, ← e2, e]
    have hi' : i < dL.length := by rw [len_d]; omega
    have hj' : j < dL.length := by rw [len_d]; exact hj
    rw [List.getD_eq_getElem?_getD, List.getD_eq_getElem?_getD, List.getElem?_eq_getElem hi', List.getElem?_eq_getElem hj'] at h1
    exact (List.pairwise_iff_getElem.1 nodup) i j hi' hj' hij h1
  size := fun i => by unfold dg; rw [toBA_size]; omega
theorem walk {W : World} {a0 : Int} (w0 : (Lit.int .i64 a0).wf = true) (ht : TabsAt gl W) : Calls Tryz.prog 3 #[.int .i64 a0] W fun e W' => e = .returned (.bool true) ∧ Below W.heap.size W W' := by
  obtain ⟨cur, e, lo, hi, h1, _⟩ := ht 0 spaces rfl
  have hW : 0 < W.heap.size := (Array.getElem?_eq_some_iff.1 h1).1
  exact full env a0 hW ht
end Go.Proofs.YtdbemgdlohcghaaGreatDoor.KScriptsFull
