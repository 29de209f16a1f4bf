/- All runs of this claim. No condition. -/
import Derived.Test.YtmhldielgmijaaaGreatDoorVmStopsK
import Derived.Test.YtmhldielgmijaaaGreatDoorVmStopsF
import Derived.Test.YtmhldielgmijaaaGreatDoorVmStopsL
import Derived.Test.YtmhldielgmijaaaGreatDoorVmStops0
import Derived.Test.YtmhldielgmijaaaGreatDoorVmStops1
import Derived.Test.YtmhldielgmijaaaGreatDoorVmStops2
import Derived.Test.YtmhldielgmijaaaGreatDoorVmStops3
namespace Go.Proofs.YtmhldielgmijaaaGreatDoor.KVmStops
open Go Go.X
set_option maxRecDepth 100000
set_option maxHeartbeats 0
set_option linter.unusedVariables false
theorem hG : gl.length = Tryz.prog.globals.size := by kernel_rfl
theorem hgl : glOk 5 gl = true := by kernel_rfl
theorem hmx : Tryz.prog.follows .mixedOrders = true := by kernel_rfl
theorem hC0 : CallFOk Tryz.prog C00 := callF_ok hmx (fun _ _ h => by cases h) 4000
theorem kn_of {C : CallF 5} {g : Nat} (hC : CallFOk Tryz.prog C) (h : runs C g (hs0 5 gl) [[]] = True) : FnCOk Tryz.prog g (knC 5 gl) := knC_ok hG hgl (by kernel_rfl) hC (of_eq_true h)
theorem nb {a b : Nat} (h : a ≠ b) : Nat.beq a b = false := by
  cases e : Nat.beq a b with
  | false => rfl
  | true => exact absurd (Nat.eq_of_beq_eq_true e) h
theorem fld_of {C : CallF 5} {g : Nat} {q : AV × List AV} (h : C g (aL [q.1]) (fun v hs => rowK 5 q.2 v hs) (fun _ _ => False) (hs0 5 gl) = True) : C g (aL [q.1]) (fun v hs => rowK 5 q.2 v hs) (fun _ _ => False) (hs0 5 gl) := by rw [h]; trivial
theorem mem2 {T : Type} {p : T → Prop} {a b : T} (ha : p a) (hb : p b) : ∀ q ∈ [a, b], p q := fun q hq => by
  simp only [List.mem_cons, List.not_mem_nil, or_false] at hq
  rcases hq with e | e
  · rw [e]; exact ha
  · rw [e]; exact hb
theorem okF_of {C : CallF 5} (hC : CallFOk Tryz.prog C) {g : Nat} {a b : AV × List AV} (hl : ([a, b].all fun q => pl q.1 && q.2.all pl) = true) (ha : C g (aL [a.1]) (fun v hs => rowK 5 a.2 v hs) (fun _ _ => False) (hs0 5 gl) = True) (hb : C g (aL [b.1]) (fun v hs => rowK 5 b.2 v hs) (fun _ _ => False) (hs0 5 gl) = True) : FnCOk Tryz.prog g (rowC 5 gl [a, b]) :=
  rowC_ok hG hgl (by kernel_rfl) hC hl (mem2 (p := fun q : AV × List AV => C g (aL [q.1]) (fun v hs => rowK 5 q.2 v hs) (fun _ _ => False) (hs0 5 gl)) (fld_of ha) (fld_of hb))
theorem okF : FnCOk Tryz.prog 160 (rowC 5 gl [q0, q1]) := okF_of hC0 (by kernel_rfl) ef0 ef1
theorem hk : ∀ g c, kn g = some c → FnCOk Tryz.prog g c := fun g c h => by
  unfold kn at h
  by_cases e0 : g = 11
  · subst e0
    obtain rfl := Option.some.inj h
    exact kn_of hC0 ek
  rw [nb e0] at h
  simp only [cond_false] at h
  by_cases e1 : g = 160
  · subst e1
    obtain rfl := Option.some.inj h
    exact okF
  rw [nb e1] at h
  simp only [cond_false] at h
  by_cases e2 : g = 269
  · subst e2
    obtain rfl := Option.some.inj h
    exact okrepC
  rw [nb e2] at h
  simp only [cond_false] at h
  by_cases e3 : g = 182
  · subst e3
    obtain rfl := Option.some.inj h
    exact okjoinC
  rw [nb e3] at h
  simp only [cond_false] at h
  cases h
theorem hC : CallFOk Tryz.prog C0 := callF_ok hmx hk 4000
theorem hB : hasBody Tryz.prog 3 = true := by kernel_rfl
theorem short {l : List (List AV)} (h : l.all (fun a => Nat.ble a.length 8) = true) : ∀ a ∈ l, a.length ≤ 8 := fun a ha => Nat.le_of_ble_eq_true (List.all_eq_true.1 h a ha)
theorem both {l m : List (List AV)} (h1 : ∀ a ∈ l, CallsT Tryz.prog gl 3 a) (h2 : ∀ a ∈ m, CallsT Tryz.prog gl 3 a) : ∀ a ∈ l ++ m, CallsT Tryz.prog gl 3 a := fun a ha => (List.mem_append.1 ha).elim (h1 a) (h2 a)
theorem run_of {l : List (List AV)} (hl : l.all (fun a => Nat.ble a.length 8) = true) (h : runs C0 3 (hs0 5 gl) l = True) : ∀ a ∈ l, CallsT Tryz.prog gl 3 a := runs_ok hG hgl hC hB (short hl) (of_eq_true h)
theorem r0 : ∀ a ∈ c0, CallsT Tryz.prog gl 3 a := run_of (l := c0) (by kernel_rfl) e0
theorem r1 : ∀ a ∈ c1, CallsT Tryz.prog gl 3 a := run_of (l := c1) (by kernel_rfl) e1
theorem r2 : ∀ a ∈ c2, CallsT Tryz.prog gl 3 a := run_of (l := c2) (by kernel_rfl) e2
theorem r3 : ∀ a ∈ c3, CallsT Tryz.prog gl 3 a := run_of (l := c3) (by kernel_rfl) e3
theorem every : ∀ a ∈ c0 ++ c1 ++ c2 ++ c3, CallsT Tryz.prog gl 3 a := (both (both (both r0 r1) r2) r3)
theorem listed : c0 ++ c1 ++ c2 ++ c3 = (List.range 4).map (fun i => [.symU 4 (i), .symU 1 ((i) % 1)]) := by kernel_rfl
theorem all (d0 : Nat) (h0 : d0 < 4) (d1 : Nat) (h1 : d1 < 1) : CallsT Tryz.prog gl 3 [.symU 4 (d0), .symU 1 (d1)] := by
  obtain rfl : d1 = 0 := by omega
  refine every _ ?_
  rw [listed, List.mem_map]
  refine ⟨(d0) * 1 + 0, List.mem_range.2 (by omega), ?_⟩
  have g0 : ((d0) * 1 + 0) = d0 := by omega
  simp only [g0, Nat.mod_one]
end Go.Proofs.YtmhldielgmijaaaGreatDoor.KVmStops
