/- All runs of this claim. No condition. -/
import Derived.Test.YtbcmnefofcnimaaGreatDoorServerRoomsK
import Derived.Test.YtbcmnefofcnimaaGreatDoorServerRoomsN
import Derived.Test.YtbcmnefofcnimaaGreatDoorServerRooms0
namespace Go.Proofs.YtbcmnefofcnimaaGreatDoor.KServerRooms
open Go Go.X
set_option maxRecDepth 100000
set_option maxHeartbeats 0
set_option linter.unusedVariables false
theorem hG : gl.length = Tryz.prog.globals.size := by kernel_rfl
theorem hgl : glOk 5 gl = true := by kernel_rfl
theorem hmx : Tryz.prog.follows .mixedOrders = true := by kernel_rfl
theorem hC0 : CallFOk Tryz.prog C00 := callF_ok hmx (fun _ _ h => by cases h) 4000
theorem kn_of {C : CallF 5} {g : Nat} (hC : CallFOk Tryz.prog C) (h : runs C g (hs0 5 gl) [[]] = True) : FnCOk Tryz.prog g (knC 5 gl) := knC_ok hG hgl (by kernel_rfl) hC (of_eq_true h)
theorem nb {a b : Nat} (h : a ≠ b) : Nat.beq a b = false := by
  cases e : Nat.beq a b with
  | false => rfl
  | true => exact absurd (Nat.eq_of_beq_eq_true e) h
theorem okKeys : FnCOk Tryz.prog 36 (keysC 5 0 false) := keysC_ok (fn := Tryz.f36) Tryz.func36 rfl (Nat.le_of_ble_eq_true (by kernel_rfl)) allR
theorem hk : ∀ g c, kn g = some c → FnCOk Tryz.prog g c := fun g c h => by
  unfold kn at h
  by_cases e0 : g = 10
  · subst e0
    obtain rfl := Option.some.inj h
    exact kn_of hC0 ek
  rw [nb e0] at h
  simp only [cond_false] at h
  by_cases e1 : g = 36
  · subst e1
    obtain rfl := Option.some.inj h
    exact okKeys
  rw [nb e1] at h
  simp only [cond_false] at h
  cases h
theorem hC : CallFOk Tryz.prog C0 := callF_ok hmx hk 4000
theorem hB : hasBody Tryz.prog 5 = true := by kernel_rfl
theorem short {l : List (List AV)} (h : l.all (fun a => Nat.ble a.length 8) = true) : ∀ a ∈ l, a.length ≤ 8 := fun a ha => Nat.le_of_ble_eq_true (List.all_eq_true.1 h a ha)
theorem both {l m : List (List AV)} (h1 : ∀ a ∈ l, CallsT Tryz.prog gl 5 a) (h2 : ∀ a ∈ m, CallsT Tryz.prog gl 5 a) : ∀ a ∈ l ++ m, CallsT Tryz.prog gl 5 a := fun a ha => (List.mem_append.1 ha).elim (h1 a) (h2 a)
theorem run_of {l : List (List AV)} (hl : l.all (fun a => Nat.ble a.length 8) = true) (h : runs C0 5 (hs0 5 gl) l = True) : ∀ a ∈ l, CallsT Tryz.prog gl 5 a := runs_ok hG hgl hC hB (short hl) (of_eq_true h)
theorem r0 : ∀ a ∈ c0, CallsT Tryz.prog gl 5 a := run_of (l := c0) (by kernel_rfl) e0
theorem r1 : ∀ a ∈ c1, CallsT Tryz.prog gl 5 a := run_of (l := c1) (by kernel_rfl) e1
theorem r2 : ∀ a ∈ c2, CallsT Tryz.prog gl 5 a := run_of (l := c2) (by kernel_rfl) e2
theorem r3 : ∀ a ∈ c3, CallsT Tryz.prog gl 5 a := run_of (l := c3) (by kernel_rfl) e3
theorem r4 : ∀ a ∈ c4, CallsT Tryz.prog gl 5 a := run_of (l := c4) (by kernel_rfl) e4
theorem every : ∀ a ∈ c0 ++ c1 ++ c2 ++ c3 ++ c4, CallsT Tryz.prog gl 5 a := (both (both (both (both r0 r1) r2) r3) r4)
theorem listed : c0 ++ c1 ++ c2 ++ c3 ++ c4 = (List.range 25).map (fun i => [.symU 5 (i / 5), .symU 5 ((i) % 5)]) := by kernel_rfl
theorem all (d0 : Nat) (h0 : d0 < 5) (d1 : Nat) (h1 : d1 < 5) : CallsT Tryz.prog gl 5 [.symU 5 (d0), .symU 5 (d1)] := by
  refine every _ ?_
  rw [listed, List.mem_map]
  refine ⟨(d0) * 5 + d1, List.mem_range.2 (by omega), ?_⟩
  have g0 : ((d0) * 5 + d1) / 5 = d0 := by omega
  have g1 : (((d0) * 5 + d1)) % 5 = d1 := by omega
  simp only [g0, g1]
end Go.Proofs.YtbcmnefofcnimaaGreatDoor.KServerRooms
