/- All runs of this claim. No condition. -/
import Derived.Test.YtcdiojlpmgfmeaaGreatDoorServerPipesK
import Derived.Test.YtcdiojlpmgfmeaaGreatDoorServerPipesN
import Derived.Test.YtcdiojlpmgfmeaaGreatDoorServerPipesO
import Derived.Test.YtcdiojlpmgfmeaaGreatDoorServerPipesF2
import Derived.Test.YtcdiojlpmgfmeaaGreatDoorServerPipes0
import Derived.Test.YtcdiojlpmgfmeaaGreatDoorServerPipes1
import Derived.Test.YtcdiojlpmgfmeaaGreatDoorServerPipes2
import Derived.Test.YtcdiojlpmgfmeaaGreatDoorServerPipes3
import Derived.Test.YtcdiojlpmgfmeaaGreatDoorServerPipes4
import Derived.Test.YtcdiojlpmgfmeaaGreatDoorServerPipes5
import Derived.Test.YtcdiojlpmgfmeaaGreatDoorServerPipes6
import Derived.Test.YtcdiojlpmgfmeaaGreatDoorServerPipes7
import Derived.Test.YtcdiojlpmgfmeaaGreatDoorServerPipes8
import Derived.Test.YtcdiojlpmgfmeaaGreatDoorServerPipes9
import Derived.Test.YtcdiojlpmgfmeaaGreatDoorServerPipes10
import Derived.Test.YtcdiojlpmgfmeaaGreatDoorServerPipes11
import Derived.Test.YtcdiojlpmgfmeaaGreatDoorServerPipes12
import Derived.Test.YtcdiojlpmgfmeaaGreatDoorServerPipes13
import Derived.Test.YtcdiojlpmgfmeaaGreatDoorServerPipes14
import Derived.Test.YtcdiojlpmgfmeaaGreatDoorServerPipes15
import Derived.Test.YtcdiojlpmgfmeaaGreatDoorServerPipes16
import Derived.Test.YtcdiojlpmgfmeaaGreatDoorServerPipes17
import Derived.Test.YtcdiojlpmgfmeaaGreatDoorServerPipes18
import Derived.Test.YtcdiojlpmgfmeaaGreatDoorServerPipes19
namespace Go.Proofs.YtcdiojlpmgfmeaaGreatDoor.KServerPipes
open Go Go.X
set_option maxRecDepth 100000
set_option maxHeartbeats 0
set_option linter.unusedVariables false
theorem hG : gl.length = Tryz.prog.globals.size := by kernel_rfl
theorem hgl : glOk 5 gl = true := by kernel_rfl
theorem hmx : Tryz.prog.follows .mixedOrders = true := by kernel_rfl
theorem hC0 : CallFOk Tryz.prog C00 := callF_ok hmx (fun _ _ h => by cases h) 4000
theorem kn_of {C : CallF 5} {g : Nat} (hC : CallFOk Tryz.prog C) (h : runs C g (hs0 5 gl) [[]] = True) : FnCOk Tryz.prog g (knC 5 gl) := knC_ok hG hgl (by kernel_rfl) hC (of_eq_true h)
theorem nb {a b : Nat} (h : a ≠ b) : Nat.beq a b = false := by
  cases e : Nat.beq a b with
  | false => rfl
  | true => exact absurd (Nat.eq_of_beq_eq_true e) h
theorem okNames : FnCOk Tryz.prog 37 (keysC 5 0 true) := keysC_ok (fn := Tryz.f37) Tryz.func37 rfl (Nat.le_of_ble_eq_true (by kernel_rfl)) namesR
theorem find_of {C : CallF 5} {g : Nat} {q : AV × List AV} (h : C g (aL [q.1]) (fun v hs => tupK 5 q.2 v hs) (fun _ _ => False) (hs0 5 gl) = True) : C g (aL [q.1]) (fun v hs => tupK 5 q.2 v hs) (fun _ _ => False) (hs0 5 gl) := by rw [h]; trivial
theorem find_all {C : CallF 5} (hC : CallFOk Tryz.prog C) {g : Nat} {l : List (AV × List AV)} (hl : (l.all fun q => pl q.1 && q.2.all pd) = true) (h : ∀ q ∈ l, C g (aL [q.1]) (fun v hs => tupK 5 q.2 v hs) (fun _ _ => False) (hs0 5 gl)) : FnCOk Tryz.prog g (tupC 5 gl l) := tupC_ok hG hgl (by kernel_rfl) hC hl h
theorem memC {T : Type} {p : T → Prop} {a : T} {l : List T} (ha : p a) (hl : ∀ q ∈ l, p q) : ∀ q ∈ a :: l, p q := fun q hq => (List.mem_cons.1 hq).elim (fun e => e ▸ ha) (hl q)
theorem memN {T : Type} {p : T → Prop} : ∀ q ∈ ([] : List T), p q := fun q hq => absurd hq (by simp)
theorem okFind : FnCOk Tryz.prog 165 (tupC 5 gl finds) := find_all hC0 (by kernel_rfl) (memC (p := fun q : AV × List AV => C00 165 (aL [q.1]) (fun v hs => tupK 5 q.2 v hs) (fun _ _ => False) (hs0 5 gl)) (find_of ew0) (memC (p := fun q : AV × List AV => C00 165 (aL [q.1]) (fun v hs => tupK 5 q.2 v hs) (fun _ _ => False) (hs0 5 gl)) (find_of ew1) memN))
theorem hk : ∀ g c, kn g = some c → FnCOk Tryz.prog g c := fun g c h => by
  unfold kn at h
  by_cases e0 : g = 10
  · subst e0
    obtain rfl := Option.some.inj h
    exact kn_of hC0 ek
  rw [nb e0] at h
  simp only [cond_false] at h
  by_cases e1 : g = 37
  · subst e1
    obtain rfl := Option.some.inj h
    exact okNames
  rw [nb e1] at h
  simp only [cond_false] at h
  by_cases e2 : g = 165
  · subst e2
    obtain rfl := Option.some.inj h
    exact okFind
  rw [nb e2] at h
  simp only [cond_false] at h
  cases h
theorem hC : CallFOk Tryz.prog C0 := callF_ok hmx hk 4000
theorem hB : hasBody Tryz.prog 3 = true := by kernel_rfl
theorem short {l : List (List AV)} (h : l.all (fun a => Nat.ble a.length 8) = true) : ∀ a ∈ l, a.length ≤ 8 := fun a ha => Nat.le_of_ble_eq_true (List.all_eq_true.1 h a ha)
theorem both {l m : List (List AV)} (h1 : ∀ a ∈ l, CallsT Tryz.prog gl 3 a) (h2 : ∀ a ∈ m, CallsT Tryz.prog gl 3 a) : ∀ a ∈ l ++ m, CallsT Tryz.prog gl 3 a := fun a ha => (List.mem_append.1 ha).elim (h1 a) (h2 a)
theorem run_of {l : List (List AV)} (hl : l.all (fun a => Nat.ble a.length 8) = true) (h : runs C0 3 (hs0 5 gl) l = True) : ∀ a ∈ l, CallsT Tryz.prog gl 3 a := runs_ok hG hgl hC hB (short hl) (of_eq_true h)
theorem r0 : ∀ a ∈ c0, CallsT Tryz.prog gl 3 a := run_of (l := c0) (by kernel_rfl) e0
theorem r1 : ∀ a ∈ c1, CallsT Tryz.prog gl 3 a := run_of (l := c1) (by kernel_rfl) e1
theorem r2 : ∀ a ∈ c2, CallsT Tryz.prog gl 3 a := run_of (l := c2) (by kernel_rfl) e2
theorem r3 : ∀ a ∈ c3, CallsT Tryz.prog gl 3 a := run_of (l := c3) (by kernel_rfl) e3
theorem r4 : ∀ a ∈ c4, CallsT Tryz.prog gl 3 a := run_of (l := c4) (by kernel_rfl) e4
theorem r5 : ∀ a ∈ c5, CallsT Tryz.prog gl 3 a := run_of (l := c5) (by kernel_rfl) e5
theorem r6 : ∀ a ∈ c6, CallsT Tryz.prog gl 3 a := run_of (l := c6) (by kernel_rfl) e6
theorem r7 : ∀ a ∈ c7, CallsT Tryz.prog gl 3 a := run_of (l := c7) (by kernel_rfl) e7
theorem r8 : ∀ a ∈ c8, CallsT Tryz.prog gl 3 a := run_of (l := c8) (by kernel_rfl) e8
theorem r9 : ∀ a ∈ c9, CallsT Tryz.prog gl 3 a := run_of (l := c9) (by kernel_rfl) e9
theorem r10 : ∀ a ∈ c10, CallsT Tryz.prog gl 3 a := run_of (l := c10) (by kernel_rfl) e10
theorem r11 : ∀ a ∈ c11, CallsT Tryz.prog gl 3 a := run_of (l := c11) (by kernel_rfl) e11
theorem r12 : ∀ a ∈ c12, CallsT Tryz.prog gl 3 a := run_of (l := c12) (by kernel_rfl) e12
theorem r13 : ∀ a ∈ c13, CallsT Tryz.prog gl 3 a := run_of (l := c13) (by kernel_rfl) e13
theorem r14 : ∀ a ∈ c14, CallsT Tryz.prog gl 3 a := run_of (l := c14) (by kernel_rfl) e14
theorem r15 : ∀ a ∈ c15, CallsT Tryz.prog gl 3 a := run_of (l := c15) (by kernel_rfl) e15
theorem r16 : ∀ a ∈ c16, CallsT Tryz.prog gl 3 a := run_of (l := c16) (by kernel_rfl) e16
theorem r17 : ∀ a ∈ c17, CallsT Tryz.prog gl 3 a := run_of (l := c17) (by kernel_rfl) e17
theorem r18 : ∀ a ∈ c18, CallsT Tryz.prog gl 3 a := run_of (l := c18) (by kernel_rfl) e18
theorem r19 : ∀ a ∈ c19, CallsT Tryz.prog gl 3 a := run_of (l := c19) (by kernel_rfl) e19
theorem r20 : ∀ a ∈ c20, CallsT Tryz.prog gl 3 a := run_of (l := c20) (by kernel_rfl) e20
theorem r21 : ∀ a ∈ c21, CallsT Tryz.prog gl 3 a := run_of (l := c21) (by kernel_rfl) e21
theorem r22 : ∀ a ∈ c22, CallsT Tryz.prog gl 3 a := run_of (l := c22) (by kernel_rfl) e22
theorem r23 : ∀ a ∈ c23, CallsT Tryz.prog gl 3 a := run_of (l := c23) (by kernel_rfl) e23
theorem r24 : ∀ a ∈ c24, CallsT Tryz.prog gl 3 a := run_of (l := c24) (by kernel_rfl) e24
theorem r25 : ∀ a ∈ c25, CallsT Tryz.prog gl 3 a := run_of (l := c25) (by kernel_rfl) e25
theorem r26 : ∀ a ∈ c26, CallsT Tryz.prog gl 3 a := run_of (l := c26) (by kernel_rfl) e26
theorem r27 : ∀ a ∈ c27, CallsT Tryz.prog gl 3 a := run_of (l := c27) (by kernel_rfl) e27
theorem r28 : ∀ a ∈ c28, CallsT Tryz.prog gl 3 a := run_of (l := c28) (by kernel_rfl) e28
theorem r29 : ∀ a ∈ c29, CallsT Tryz.prog gl 3 a := run_of (l := c29) (by kernel_rfl) e29
theorem r30 : ∀ a ∈ c30, CallsT Tryz.prog gl 3 a := run_of (l := c30) (by kernel_rfl) e30
theorem r31 : ∀ a ∈ c31, CallsT Tryz.prog gl 3 a := run_of (l := c31) (by kernel_rfl) e31
theorem r32 : ∀ a ∈ c32, CallsT Tryz.prog gl 3 a := run_of (l := c32) (by kernel_rfl) e32
theorem r33 : ∀ a ∈ c33, CallsT Tryz.prog gl 3 a := run_of (l := c33) (by kernel_rfl) e33
theorem r34 : ∀ a ∈ c34, CallsT Tryz.prog gl 3 a := run_of (l := c34) (by kernel_rfl) e34
theorem r35 : ∀ a ∈ c35, CallsT Tryz.prog gl 3 a := run_of (l := c35) (by kernel_rfl) e35
theorem r36 : ∀ a ∈ c36, CallsT Tryz.prog gl 3 a := run_of (l := c36) (by kernel_rfl) e36
theorem r37 : ∀ a ∈ c37, CallsT Tryz.prog gl 3 a := run_of (l := c37) (by kernel_rfl) e37
theorem r38 : ∀ a ∈ c38, CallsT Tryz.prog gl 3 a := run_of (l := c38) (by kernel_rfl) e38
theorem r39 : ∀ a ∈ c39, CallsT Tryz.prog gl 3 a := run_of (l := c39) (by kernel_rfl) e39
theorem r40 : ∀ a ∈ c40, CallsT Tryz.prog gl 3 a := run_of (l := c40) (by kernel_rfl) e40
theorem r41 : ∀ a ∈ c41, CallsT Tryz.prog gl 3 a := run_of (l := c41) (by kernel_rfl) e41
theorem r42 : ∀ a ∈ c42, CallsT Tryz.prog gl 3 a := run_of (l := c42) (by kernel_rfl) e42
theorem r43 : ∀ a ∈ c43, CallsT Tryz.prog gl 3 a := run_of (l := c43) (by kernel_rfl) e43
theorem r44 : ∀ a ∈ c44, CallsT Tryz.prog gl 3 a := run_of (l := c44) (by kernel_rfl) e44
theorem r45 : ∀ a ∈ c45, CallsT Tryz.prog gl 3 a := run_of (l := c45) (by kernel_rfl) e45
theorem r46 : ∀ a ∈ c46, CallsT Tryz.prog gl 3 a := run_of (l := c46) (by kernel_rfl) e46
theorem r47 : ∀ a ∈ c47, CallsT Tryz.prog gl 3 a := run_of (l := c47) (by kernel_rfl) e47
theorem r48 : ∀ a ∈ c48, CallsT Tryz.prog gl 3 a := run_of (l := c48) (by kernel_rfl) e48
theorem r49 : ∀ a ∈ c49, CallsT Tryz.prog gl 3 a := run_of (l := c49) (by kernel_rfl) e49
theorem r50 : ∀ a ∈ c50, CallsT Tryz.prog gl 3 a := run_of (l := c50) (by kernel_rfl) e50
theorem r51 : ∀ a ∈ c51, CallsT Tryz.prog gl 3 a := run_of (l := c51) (by kernel_rfl) e51
theorem r52 : ∀ a ∈ c52, CallsT Tryz.prog gl 3 a := run_of (l := c52) (by kernel_rfl) e52
theorem r53 : ∀ a ∈ c53, CallsT Tryz.prog gl 3 a := run_of (l := c53) (by kernel_rfl) e53
theorem r54 : ∀ a ∈ c54, CallsT Tryz.prog gl 3 a := run_of (l := c54) (by kernel_rfl) e54
theorem r55 : ∀ a ∈ c55, CallsT Tryz.prog gl 3 a := run_of (l := c55) (by kernel_rfl) e55
theorem r56 : ∀ a ∈ c56, CallsT Tryz.prog gl 3 a := run_of (l := c56) (by kernel_rfl) e56
theorem r57 : ∀ a ∈ c57, CallsT Tryz.prog gl 3 a := run_of (l := c57) (by kernel_rfl) e57
theorem r58 : ∀ a ∈ c58, CallsT Tryz.prog gl 3 a := run_of (l := c58) (by kernel_rfl) e58
theorem r59 : ∀ a ∈ c59, CallsT Tryz.prog gl 3 a := run_of (l := c59) (by kernel_rfl) e59
theorem every : ∀ a ∈ c0 ++ c1 ++ c2 ++ c3 ++ c4 ++ c5 ++ c6 ++ c7 ++ c8 ++ c9 ++ c10 ++ c11 ++ c12 ++ c13 ++ c14 ++ c15 ++ c16 ++ c17 ++ c18 ++ c19 ++ c20 ++ c21 ++ c22 ++ c23 ++ c24 ++ c25 ++ c26 ++ c27 ++ c28 ++ c29 ++ c30 ++ c31 ++ c32 ++ c33 ++ c34 ++ c35 ++ c36 ++ c37 ++ c38 ++ c39 ++ c40 ++ c41 ++ c42 ++ c43 ++ c44 ++ c45 ++ c46 ++ c47 ++ c48 ++ c49 ++ c50 ++ c51 ++ c52 ++ c53 ++ c54 ++ c55 ++ c56 ++ c57 ++ c58 ++ c59, CallsT Tryz.prog gl 3 a := (both (both (both (both (both (both (both (both (both (both (both (both (both (both (both (both (both (both (both (both (both (both (both (both (both (both (both (both (both (both (both (both (both (both (both (both (both (both (both (both (both (both (both (both (both (both (both (both (both (both (both (both (both (both (both (both (both (both (both r0 r1) r2) r3) r4) r5) r6) r7) r8) r9) r10) r11) r12) r13) r14) r15) r16) r17) r18) r19) r20) r21) r22) r23) r24) r25) r26) r27) r28) r29) r30) r31) r32) r33) r34) r35) r36) r37) r38) r39) r40) r41) r42) r43) r44) r45) r46) r47) r48) r49) r50) r51) r52) r53) r54) r55) r56) r57) r58) r59)
theorem listed : c0 ++ c1 ++ c2 ++ c3 ++ c4 ++ c5 ++ c6 ++ c7 ++ c8 ++ c9 ++ c10 ++ c11 ++ c12 ++ c13 ++ c14 ++ c15 ++ c16 ++ c17 ++ c18 ++ c19 ++ c20 ++ c21 ++ c22 ++ c23 ++ c24 ++ c25 ++ c26 ++ c27 ++ c28 ++ c29 ++ c30 ++ c31 ++ c32 ++ c33 ++ c34 ++ c35 ++ c36 ++ c37 ++ c38 ++ c39 ++ c40 ++ c41 ++ c42 ++ c43 ++ c44 ++ c45 ++ c46 ++ c47 ++ c48 ++ c49 ++ c50 ++ c51 ++ c52 ++ c53 ++ c54 ++ c55 ++ c56 ++ c57 ++ c58 ++ c59 = (List.range 60).map (fun i => [.symU 20 (i / 3), .symU 3 ((i) % 3)]) := by kernel_rfl
theorem all (d0 : Nat) (h0 : d0 < 20) (d1 : Nat) (h1 : d1 < 3) : CallsT Tryz.prog gl 3 [.symU 20 (d0), .symU 3 (d1)] := by
  refine every _ ?_
  rw [listed, List.mem_map]
  refine ⟨(d0) * 3 + d1, List.mem_range.2 (by omega), ?_⟩
  have g0 : ((d0) * 3 + d1) / 3 = d0 := by omega
  have g1 : (((d0) * 3 + d1)) % 3 = d1 := by omega
  simp only [g0, g1]
end Go.Proofs.YtcdiojlpmgfmeaaGreatDoor.KServerPipes
