/- All runs of this claim. No condition. -/
import Derived.Test.YtppmoalhoekadaaDoorParseFull0
import Derived.Test.YtppmoalhoekadaaDoorParseFull1
namespace Go.Proofs.YtppmoalhoekadaaDoor.KParseFull
open Go Go.X
set_option maxRecDepth 100000
set_option maxHeartbeats 0
set_option linter.unusedVariables false
theorem hG : gl.length = Tryd.prog.globals.size := by kernel_rfl
theorem hgl : glOk 5 gl = true := by kernel_rfl
theorem hmx : Tryd.prog.follows .mixedOrders = true := by kernel_rfl
theorem hC : CallFOk Tryd.prog C0 := callF_ok hmx (fun _ _ h => by cases h) 1000
theorem hB : hasBody Tryd.prog 3 = true := by kernel_rfl
theorem short {l : List (List AV)} (h : l.all (fun a => Nat.ble a.length 8) = true) : ∀ a ∈ l, a.length ≤ 8 := fun a ha => Nat.le_of_ble_eq_true (List.all_eq_true.1 h a ha)
theorem both {l m : List (List AV)} (h1 : ∀ a ∈ l, CallsT Tryd.prog gl 3 a) (h2 : ∀ a ∈ m, CallsT Tryd.prog gl 3 a) : ∀ a ∈ l ++ m, CallsT Tryd.prog gl 3 a := fun a ha => (List.mem_append.1 ha).elim (h1 a) (h2 a)
theorem run_of {l : List (List AV)} (hl : l.all (fun a => Nat.ble a.length 8) = true) (h : runs C0 3 (hs0 5 gl) l = True) : ∀ a ∈ l, CallsT Tryd.prog gl 3 a := runs_ok hG hgl hC hB (short hl) (of_eq_true h)
theorem r0 : ∀ a ∈ c0, CallsT Tryd.prog gl 3 a := run_of (l := c0) (by kernel_rfl) e0
theorem r1 : ∀ a ∈ c1, CallsT Tryd.prog gl 3 a := run_of (l := c1) (by kernel_rfl) e1
theorem r2 : ∀ a ∈ c2, CallsT Tryd.prog gl 3 a := run_of (l := c2) (by kernel_rfl) e2
theorem r3 : ∀ a ∈ c3, CallsT Tryd.prog gl 3 a := run_of (l := c3) (by kernel_rfl) e3
theorem r4 : ∀ a ∈ c4, CallsT Tryd.prog gl 3 a := run_of (l := c4) (by kernel_rfl) e4
theorem r5 : ∀ a ∈ c5, CallsT Tryd.prog gl 3 a := run_of (l := c5) (by kernel_rfl) e5
theorem r6 : ∀ a ∈ c6, CallsT Tryd.prog gl 3 a := run_of (l := c6) (by kernel_rfl) e6
theorem r7 : ∀ a ∈ c7, CallsT Tryd.prog gl 3 a := run_of (l := c7) (by kernel_rfl) e7
theorem every : ∀ a ∈ c0 ++ c1 ++ c2 ++ c3 ++ c4 ++ c5 ++ c6 ++ c7, CallsT Tryd.prog gl 3 a := (both (both (both (both (both (both (both r0 r1) r2) r3) r4) r5) r6) r7)
theorem listed : c0 ++ c1 ++ c2 ++ c3 ++ c4 ++ c5 ++ c6 ++ c7 = (List.range 60).map (fun i => [.symU 3 (i / 20), .symU 20 ((i) % 20)]) := by kernel_rfl
theorem all (d0 : Nat) (h0 : d0 < 3) (d1 : Nat) (h1 : d1 < 20) : CallsT Tryd.prog gl 3 [.symU 3 (d0), .symU 20 (d1)] := by
  refine every _ ?_
  rw [listed, List.mem_map]
  refine ⟨(d0) * 20 + d1, List.mem_range.2 (by omega), ?_⟩
  have g0 : ((d0) * 20 + d1) / 20 = d0 := by omega
  have g1 : (((d0) * 20 + d1)) % 20 = d1 := by omega
  simp only [g0, g1]
end Go.Proofs.YtppmoalhoekadaaDoor.KParseFull
