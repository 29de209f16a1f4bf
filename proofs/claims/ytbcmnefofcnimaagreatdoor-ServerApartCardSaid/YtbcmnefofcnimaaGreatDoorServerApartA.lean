/- All runs of this claim. No condition. -/
import Derived.Test.YtbcmnefofcnimaaGreatDoorServerApartK
import Derived.Test.YtbcmnefofcnimaaGreatDoorServerApartN
import Derived.Test.YtbcmnefofcnimaaGreatDoorServerApartO
import Derived.Test.YtbcmnefofcnimaaGreatDoorServerApartF2
import Derived.Test.YtbcmnefofcnimaaGreatDoorServerApart0
import Derived.Test.YtbcmnefofcnimaaGreatDoorServerApart1
import Derived.Test.YtbcmnefofcnimaaGreatDoorServerApart2
import Derived.Test.YtbcmnefofcnimaaGreatDoorServerApart3
import Derived.Test.YtbcmnefofcnimaaGreatDoorServerApart4
namespace Go.Proofs.YtbcmnefofcnimaaGreatDoor.KServerApart
open Go Go.X
set_option maxRecDepth 100000
set_option maxHeartbeats 0
set_option linter.unusedVariables false
theorem hG : gl.length = Tryz.prog.globals.size := by kernel_rfl
theorem hgl : glOk 5 gl = true := by kernel_rfl
theorem hmx : Tryz.prog.follows .mixedOrders = true := by kernel_rfl
theorem hC0 : CallFOk Tryz.prog C00 := callF_ok hmx (fun _ _ h => by cases h) 4000
theorem kn_of {C : CallF 5} {g : Nat} (hC : CallFOk Tryz.prog C) (h : runs C g (hs0 5 gl) [[]] = True) : FnCOk Tryz.prog g (knC 5 gl) := knC_ok hG hgl (by kernel_rfl) hC (of_eq_true h)
theorem nb {a b : Nat} (h : a ≠ b) : Nat.beq a b = false := by
  cases e : Nat.beq a b with
  | false => rfl
  | true => exact absurd (Nat.eq_of_beq_eq_true e) h
theorem okNames : FnCOk Tryz.prog 312 (keysC 5 0 true) := keysC_ok (fn := Tryz.f312) Tryz.func312 rfl (Nat.le_of_ble_eq_true (by kernel_rfl)) namesR
theorem find_of {C : CallF 5} {g : Nat} {q : AV × List AV} (h : C g (aL [q.1]) (fun v hs => tupK 5 q.2 v hs) (fun _ _ => False) (hs0 5 gl) = True) : C g (aL [q.1]) (fun v hs => tupK 5 q.2 v hs) (fun _ _ => False) (hs0 5 gl) := by rw [h]; trivial
theorem find_all {C : CallF 5} (hC : CallFOk Tryz.prog C) {g : Nat} {l : List (AV × List AV)} (hl : (l.all fun q => pl q.1 && q.2.all pd) = true) (h : ∀ q ∈ l, C g (aL [q.1]) (fun v hs => tupK 5 q.2 v hs) (fun _ _ => False) (hs0 5 gl)) : FnCOk Tryz.prog g (tupC 5 gl l) := tupC_ok hG hgl (by kernel_rfl) hC hl h
theorem memC {T : Type} {p : T → Prop} {a : T} {l : List T} (ha : p a) (hl : ∀ q ∈ l, p q) : ∀ q ∈ a :: l, p q := fun q hq => (List.mem_cons.1 hq).elim (fun e => e ▸ ha) (hl q)
theorem memN {T : Type} {p : T → Prop} : ∀ q ∈ ([] : List T), p q := fun q hq => absurd hq (by simp)
theorem okFind : FnCOk Tryz.prog 160 (tupC 5 gl finds) := find_all hC0 (by kernel_rfl) (memC (p := fun q : AV × List AV => C00 160 (aL [q.1]) (fun v hs => tupK 5 q.2 v hs) (fun _ _ => False) (hs0 5 gl)) (find_of ew0) (memC (p := fun q : AV × List AV => C00 160 (aL [q.1]) (fun v hs => tupK 5 q.2 v hs) (fun _ _ => False) (hs0 5 gl)) (find_of ew1) (memC (p := fun q : AV × List AV => C00 160 (aL [q.1]) (fun v hs => tupK 5 q.2 v hs) (fun _ _ => False) (hs0 5 gl)) (find_of ew2) memN)))
theorem hk : ∀ g c, kn g = some c → FnCOk Tryz.prog g c := fun g c h => by
  unfold kn at h
  by_cases e0 : g = 10
  · subst e0
    obtain rfl := Option.some.inj h
    exact kn_of hC0 ek
  rw [nb e0] at h
  simp only [cond_false] at h
  by_cases e1 : g = 312
  · subst e1
    obtain rfl := Option.some.inj h
    exact okNames
  rw [nb e1] at h
  simp only [cond_false] at h
  by_cases e2 : g = 160
  · subst e2
    obtain rfl := Option.some.inj h
    exact okFind
  rw [nb e2] at h
  simp only [cond_false] at h
  cases h
theorem hC : CallFOk Tryz.prog C0 := callF_ok hmx hk 4000
theorem hB : hasBody Tryz.prog 4 = true := by kernel_rfl
theorem short {l : List (List AV)} (h : l.all (fun a => Nat.ble a.length 8) = true) : ∀ a ∈ l, a.length ≤ 8 := fun a ha => Nat.le_of_ble_eq_true (List.all_eq_true.1 h a ha)
theorem both {l m : List (List AV)} (h1 : ∀ a ∈ l, CallsT Tryz.prog gl 4 a) (h2 : ∀ a ∈ m, CallsT Tryz.prog gl 4 a) : ∀ a ∈ l ++ m, CallsT Tryz.prog gl 4 a := fun a ha => (List.mem_append.1 ha).elim (h1 a) (h2 a)
theorem run_of {l : List (List AV)} (hl : l.all (fun a => Nat.ble a.length 8) = true) (h : runs C0 4 (hs0 5 gl) l = True) : ∀ a ∈ l, CallsT Tryz.prog gl 4 a := runs_ok hG hgl hC hB (short hl) (of_eq_true h)
theorem r0 : ∀ a ∈ c0, CallsT Tryz.prog gl 4 a := run_of (l := c0) (by kernel_rfl) e0
theorem r1 : ∀ a ∈ c1, CallsT Tryz.prog gl 4 a := run_of (l := c1) (by kernel_rfl) e1
theorem r2 : ∀ a ∈ c2, CallsT Tryz.prog gl 4 a := run_of (l := c2) (by kernel_rfl) e2
theorem r3 : ∀ a ∈ c3, CallsT Tryz.prog gl 4 a := run_of (l := c3) (by kernel_rfl) e3
theorem r4 : ∀ a ∈ c4, CallsT Tryz.prog gl 4 a := run_of (l := c4) (by kernel_rfl) e4
theorem r5 : ∀ a ∈ c5, CallsT Tryz.prog gl 4 a := run_of (l := c5) (by kernel_rfl) e5
theorem r6 : ∀ a ∈ c6, CallsT Tryz.prog gl 4 a := run_of (l := c6) (by kernel_rfl) e6
theorem r7 : ∀ a ∈ c7, CallsT Tryz.prog gl 4 a := run_of (l := c7) (by kernel_rfl) e7
theorem r8 : ∀ a ∈ c8, CallsT Tryz.prog gl 4 a := run_of (l := c8) (by kernel_rfl) e8
theorem r9 : ∀ a ∈ c9, CallsT Tryz.prog gl 4 a := run_of (l := c9) (by kernel_rfl) e9
theorem every : ∀ a ∈ c0 ++ c1 ++ c2 ++ c3 ++ c4 ++ c5 ++ c6 ++ c7 ++ c8 ++ c9, CallsT Tryz.prog gl 4 a := (both (both (both (both (both (both (both (both (both r0 r1) r2) r3) r4) r5) r6) r7) r8) r9)
theorem listed : c0 ++ c1 ++ c2 ++ c3 ++ c4 ++ c5 ++ c6 ++ c7 ++ c8 ++ c9 = (List.range 20).map (fun i => [.symU 10 (i / 2), .bool (Nat.beq ((i) % 2) 1)]) := by kernel_rfl
theorem all (d0 : Nat) (h0 : d0 < 10) (d1 : Nat) (h1 : d1 < 2) : CallsT Tryz.prog gl 4 [.symU 10 (d0), .bool (Nat.beq (d1) 1)] := by
  refine every _ ?_
  rw [listed, List.mem_map]
  refine ⟨(d0) * 2 + d1, List.mem_range.2 (by omega), ?_⟩
  have g0 : ((d0) * 2 + d1) / 2 = d0 := by omega
  have g1 : (((d0) * 2 + d1)) % 2 = d1 := by omega
  simp only [g0, g1]
end Go.Proofs.YtbcmnefofcnimaaGreatDoor.KServerApart
