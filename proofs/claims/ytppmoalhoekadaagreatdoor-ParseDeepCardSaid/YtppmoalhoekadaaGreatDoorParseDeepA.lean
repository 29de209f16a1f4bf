/- All runs of this claim. No condition. -/
import Derived.Test.YtppmoalhoekadaaGreatDoorParseDeep0
import Derived.Test.YtppmoalhoekadaaGreatDoorParseDeep1
import Derived.Test.YtppmoalhoekadaaGreatDoorParseDeep2
import Derived.Test.YtppmoalhoekadaaGreatDoorParseDeep3
import Derived.Test.YtppmoalhoekadaaGreatDoorParseDeep4
import Derived.Test.YtppmoalhoekadaaGreatDoorParseDeep5
import Derived.Test.YtppmoalhoekadaaGreatDoorParseDeep6
import Derived.Test.YtppmoalhoekadaaGreatDoorParseDeep7
import Derived.Test.YtppmoalhoekadaaGreatDoorParseDeep8
import Derived.Test.YtppmoalhoekadaaGreatDoorParseDeep9
namespace Go.Proofs.YtppmoalhoekadaaGreatDoor.KParseDeep
open Go Go.X
set_option maxRecDepth 100000
set_option maxHeartbeats 0
set_option linter.unusedVariables false
theorem hG : gl.length = Tryz.prog.globals.size := by kernel_rfl
theorem hgl : glOk 5 gl = true := by kernel_rfl
theorem hmx : Tryz.prog.follows .mixedOrders = true := by kernel_rfl
theorem hC : CallFOk Tryz.prog C0 := callF_ok hmx (fun _ _ h => by cases h) 4000
theorem hB : hasBody Tryz.prog 4 = true := by kernel_rfl
theorem short {l : List (List AV)} (h : l.all (fun a => Nat.ble a.length 8) = true) : ∀ a ∈ l, a.length ≤ 8 := fun a ha => Nat.le_of_ble_eq_true (List.all_eq_true.1 h a ha)
theorem both {l m : List (List AV)} (h1 : ∀ a ∈ l, CallsT Tryz.prog gl 4 a) (h2 : ∀ a ∈ m, CallsT Tryz.prog gl 4 a) : ∀ a ∈ l ++ m, CallsT Tryz.prog gl 4 a := fun a ha => (List.mem_append.1 ha).elim (h1 a) (h2 a)
theorem run_of {l : List (List AV)} (hl : l.all (fun a => Nat.ble a.length 8) = true) (h : runs C0 4 (hs0 5 gl) l = True) : ∀ a ∈ l, CallsT Tryz.prog gl 4 a := runs_ok hG hgl hC hB (short hl) (of_eq_true h)
theorem r0 : ∀ a ∈ c0, CallsT Tryz.prog gl 4 a := run_of (l := c0) (by kernel_rfl) e0
theorem r1 : ∀ a ∈ c1, CallsT Tryz.prog gl 4 a := run_of (l := c1) (by kernel_rfl) e1
theorem r2 : ∀ a ∈ c2, CallsT Tryz.prog gl 4 a := run_of (l := c2) (by kernel_rfl) e2
theorem r3 : ∀ a ∈ c3, CallsT Tryz.prog gl 4 a := run_of (l := c3) (by kernel_rfl) e3
theorem r4 : ∀ a ∈ c4, CallsT Tryz.prog gl 4 a := run_of (l := c4) (by kernel_rfl) e4
theorem r5 : ∀ a ∈ c5, CallsT Tryz.prog gl 4 a := run_of (l := c5) (by kernel_rfl) e5
theorem r6 : ∀ a ∈ c6, CallsT Tryz.prog gl 4 a := run_of (l := c6) (by kernel_rfl) e6
theorem r7 : ∀ a ∈ c7, CallsT Tryz.prog gl 4 a := run_of (l := c7) (by kernel_rfl) e7
theorem r8 : ∀ a ∈ c8, CallsT Tryz.prog gl 4 a := run_of (l := c8) (by kernel_rfl) e8
theorem r9 : ∀ a ∈ c9, CallsT Tryz.prog gl 4 a := run_of (l := c9) (by kernel_rfl) e9
theorem r10 : ∀ a ∈ c10, CallsT Tryz.prog gl 4 a := run_of (l := c10) (by kernel_rfl) e10
theorem r11 : ∀ a ∈ c11, CallsT Tryz.prog gl 4 a := run_of (l := c11) (by kernel_rfl) e11
theorem r12 : ∀ a ∈ c12, CallsT Tryz.prog gl 4 a := run_of (l := c12) (by kernel_rfl) e12
theorem r13 : ∀ a ∈ c13, CallsT Tryz.prog gl 4 a := run_of (l := c13) (by kernel_rfl) e13
theorem r14 : ∀ a ∈ c14, CallsT Tryz.prog gl 4 a := run_of (l := c14) (by kernel_rfl) e14
theorem r15 : ∀ a ∈ c15, CallsT Tryz.prog gl 4 a := run_of (l := c15) (by kernel_rfl) e15
theorem r16 : ∀ a ∈ c16, CallsT Tryz.prog gl 4 a := run_of (l := c16) (by kernel_rfl) e16
theorem r17 : ∀ a ∈ c17, CallsT Tryz.prog gl 4 a := run_of (l := c17) (by kernel_rfl) e17
theorem r18 : ∀ a ∈ c18, CallsT Tryz.prog gl 4 a := run_of (l := c18) (by kernel_rfl) e18
theorem r19 : ∀ a ∈ c19, CallsT Tryz.prog gl 4 a := run_of (l := c19) (by kernel_rfl) e19
theorem r20 : ∀ a ∈ c20, CallsT Tryz.prog gl 4 a := run_of (l := c20) (by kernel_rfl) e20
theorem r21 : ∀ a ∈ c21, CallsT Tryz.prog gl 4 a := run_of (l := c21) (by kernel_rfl) e21
theorem r22 : ∀ a ∈ c22, CallsT Tryz.prog gl 4 a := run_of (l := c22) (by kernel_rfl) e22
theorem r23 : ∀ a ∈ c23, CallsT Tryz.prog gl 4 a := run_of (l := c23) (by kernel_rfl) e23
theorem r24 : ∀ a ∈ c24, CallsT Tryz.prog gl 4 a := run_of (l := c24) (by kernel_rfl) e24
theorem r25 : ∀ a ∈ c25, CallsT Tryz.prog gl 4 a := run_of (l := c25) (by kernel_rfl) e25
theorem r26 : ∀ a ∈ c26, CallsT Tryz.prog gl 4 a := run_of (l := c26) (by kernel_rfl) e26
theorem r27 : ∀ a ∈ c27, CallsT Tryz.prog gl 4 a := run_of (l := c27) (by kernel_rfl) e27
theorem r28 : ∀ a ∈ c28, CallsT Tryz.prog gl 4 a := run_of (l := c28) (by kernel_rfl) e28
theorem r29 : ∀ a ∈ c29, CallsT Tryz.prog gl 4 a := run_of (l := c29) (by kernel_rfl) e29
theorem r30 : ∀ a ∈ c30, CallsT Tryz.prog gl 4 a := run_of (l := c30) (by kernel_rfl) e30
theorem r31 : ∀ a ∈ c31, CallsT Tryz.prog gl 4 a := run_of (l := c31) (by kernel_rfl) e31
theorem r32 : ∀ a ∈ c32, CallsT Tryz.prog gl 4 a := run_of (l := c32) (by kernel_rfl) e32
theorem r33 : ∀ a ∈ c33, CallsT Tryz.prog gl 4 a := run_of (l := c33) (by kernel_rfl) e33
theorem r34 : ∀ a ∈ c34, CallsT Tryz.prog gl 4 a := run_of (l := c34) (by kernel_rfl) e34
theorem r35 : ∀ a ∈ c35, CallsT Tryz.prog gl 4 a := run_of (l := c35) (by kernel_rfl) e35
theorem r36 : ∀ a ∈ c36, CallsT Tryz.prog gl 4 a := run_of (l := c36) (by kernel_rfl) e36
theorem r37 : ∀ a ∈ c37, CallsT Tryz.prog gl 4 a := run_of (l := c37) (by kernel_rfl) e37
theorem r38 : ∀ a ∈ c38, CallsT Tryz.prog gl 4 a := run_of (l := c38) (by kernel_rfl) e38
theorem r39 : ∀ a ∈ c39, CallsT Tryz.prog gl 4 a := run_of (l := c39) (by kernel_rfl) e39
theorem every : ∀ a ∈ c0 ++ c1 ++ c2 ++ c3 ++ c4 ++ c5 ++ c6 ++ c7 ++ c8 ++ c9 ++ c10 ++ c11 ++ c12 ++ c13 ++ c14 ++ c15 ++ c16 ++ c17 ++ c18 ++ c19 ++ c20 ++ c21 ++ c22 ++ c23 ++ c24 ++ c25 ++ c26 ++ c27 ++ c28 ++ c29 ++ c30 ++ c31 ++ c32 ++ c33 ++ c34 ++ c35 ++ c36 ++ c37 ++ c38 ++ c39, CallsT Tryz.prog gl 4 a := (both (both (both (both (both (both (both (both (both (both (both (both (both (both (both (both (both (both (both (both (both (both (both (both (both (both (both (both (both (both (both (both (both (both (both (both (both (both (both r0 r1) r2) r3) r4) r5) r6) r7) r8) r9) r10) r11) r12) r13) r14) r15) r16) r17) r18) r19) r20) r21) r22) r23) r24) r25) r26) r27) r28) r29) r30) r31) r32) r33) r34) r35) r36) r37) r38) r39)
theorem listed : c0 ++ c1 ++ c2 ++ c3 ++ c4 ++ c5 ++ c6 ++ c7 ++ c8 ++ c9 ++ c10 ++ c11 ++ c12 ++ c13 ++ c14 ++ c15 ++ c16 ++ c17 ++ c18 ++ c19 ++ c20 ++ c21 ++ c22 ++ c23 ++ c24 ++ c25 ++ c26 ++ c27 ++ c28 ++ c29 ++ c30 ++ c31 ++ c32 ++ c33 ++ c34 ++ c35 ++ c36 ++ c37 ++ c38 ++ c39 = (List.range 40).map (fun i => [.symU 8 (i / 5), .symU 5 ((i) % 5)]) := by kernel_rfl
theorem all (d0 : Nat) (h0 : d0 < 8) (d1 : Nat) (h1 : d1 < 5) : CallsT Tryz.prog gl 4 [.symU 8 (d0), .symU 5 (d1)] := by
  refine every _ ?_
  rw [listed, List.mem_map]
  refine ⟨(d0) * 5 + d1, List.mem_range.2 (by omega), ?_⟩
  have g0 : ((d0) * 5 + d1) / 5 = d0 := by omega
  have g1 : (((d0) * 5 + d1)) % 5 = d1 := by omega
  simp only [g0, g1]
end Go.Proofs.YtppmoalhoekadaaGreatDoor.KParseDeep
