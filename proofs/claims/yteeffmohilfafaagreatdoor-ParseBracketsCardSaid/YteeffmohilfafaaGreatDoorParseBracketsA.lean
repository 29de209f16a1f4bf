/- All runs of this claim. No condition. -/
import Derived.Test.YteeffmohilfafaaGreatDoorParseBracketsK
import Derived.Test.YteeffmohilfafaaGreatDoorParseBrackets0
import Derived.Test.YteeffmohilfafaaGreatDoorParseBrackets1
import Derived.Test.YteeffmohilfafaaGreatDoorParseBrackets2
import Derived.Test.YteeffmohilfafaaGreatDoorParseBrackets3
import Derived.Test.YteeffmohilfafaaGreatDoorParseBrackets4
import Derived.Test.YteeffmohilfafaaGreatDoorParseBrackets5
import Derived.Test.YteeffmohilfafaaGreatDoorParseBrackets6
import Derived.Test.YteeffmohilfafaaGreatDoorParseBrackets7
import Derived.Test.YteeffmohilfafaaGreatDoorParseBrackets8
import Derived.Test.YteeffmohilfafaaGreatDoorParseBrackets9
import Derived.Test.YteeffmohilfafaaGreatDoorParseBrackets10
import Derived.Test.YteeffmohilfafaaGreatDoorParseBrackets11
import Derived.Test.YteeffmohilfafaaGreatDoorParseBrackets12
import Derived.Test.YteeffmohilfafaaGreatDoorParseBrackets13
import Derived.Test.YteeffmohilfafaaGreatDoorParseBrackets14
import Derived.Test.YteeffmohilfafaaGreatDoorParseBrackets15
import Derived.Test.YteeffmohilfafaaGreatDoorParseBrackets16
import Derived.Test.YteeffmohilfafaaGreatDoorParseBrackets17
import Derived.Test.YteeffmohilfafaaGreatDoorParseBrackets18
import Derived.Test.YteeffmohilfafaaGreatDoorParseBrackets19
import Derived.Test.YteeffmohilfafaaGreatDoorParseBrackets20
import Derived.Test.YteeffmohilfafaaGreatDoorParseBrackets21
import Derived.Test.YteeffmohilfafaaGreatDoorParseBrackets22
import Derived.Test.YteeffmohilfafaaGreatDoorParseBrackets23
import Derived.Test.YteeffmohilfafaaGreatDoorParseBrackets24
import Derived.Test.YteeffmohilfafaaGreatDoorParseBrackets25
import Derived.Test.YteeffmohilfafaaGreatDoorParseBrackets26
import Derived.Test.YteeffmohilfafaaGreatDoorParseBrackets27
import Derived.Test.YteeffmohilfafaaGreatDoorParseBrackets28
import Derived.Test.YteeffmohilfafaaGreatDoorParseBrackets29
import Derived.Test.YteeffmohilfafaaGreatDoorParseBrackets30
import Derived.Test.YteeffmohilfafaaGreatDoorParseBrackets31
import Derived.Test.YteeffmohilfafaaGreatDoorParseBrackets32
import Derived.Test.YteeffmohilfafaaGreatDoorParseBrackets33
namespace Go.Proofs.YteeffmohilfafaaGreatDoor.KParseBrackets
open Go Go.X
set_option maxRecDepth 100000
set_option maxHeartbeats 0
set_option linter.unusedVariables false
theorem hG : gl.length = Tryz.prog.globals.size := by kernel_rfl
theorem hgl : glOk 5 gl = true := by kernel_rfl
theorem hmx : Tryz.prog.follows .mixedOrders = true := by kernel_rfl
theorem hC0 : CallFOk Tryz.prog C00 := callF_ok hmx (fun _ _ h => by cases h) 1000
theorem kn_of {C : CallF 5} {g : Nat} (hC : CallFOk Tryz.prog C) (h : runs C g (hs0 5 gl) [[]] = True) : FnCOk Tryz.prog g (knC 5 gl) := knC_ok hG hgl (by kernel_rfl) hC (of_eq_true h)
theorem hk : ∀ g c, kn g = some c → FnCOk Tryz.prog g c := fun g c h => by
  unfold kn at h
  cases e : Nat.beq g 5 with
  | false => rw [e] at h; cases h
  | true =>
    rw [e] at h
    obtain rfl := Nat.eq_of_beq_eq_true e
    obtain rfl := Option.some.inj h
    exact kn_of hC0 ek
theorem hC : CallFOk Tryz.prog C0 := callF_ok hmx hk 1000
theorem hB : hasBody Tryz.prog 3 = true := by kernel_rfl
theorem short {l : List (List AV)} (h : l.all (fun a => Nat.ble a.length 8) = true) : ∀ a ∈ l, a.length ≤ 8 := fun a ha => Nat.le_of_ble_eq_true (List.all_eq_true.1 h a ha)
theorem both {l m : List (List AV)} (h1 : ∀ a ∈ l, CallsT Tryz.prog gl 3 a) (h2 : ∀ a ∈ m, CallsT Tryz.prog gl 3 a) : ∀ a ∈ l ++ m, CallsT Tryz.prog gl 3 a := fun a ha => (List.mem_append.1 ha).elim (h1 a) (h2 a)
theorem run_of {l : List (List AV)} (hl : l.all (fun a => Nat.ble a.length 8) = true) (h : runs C0 3 (hs0 5 gl) l = True) : ∀ a ∈ l, CallsT Tryz.prog gl 3 a := runs_ok hG hgl hC hB (short hl) (of_eq_true h)
theorem r0 : ∀ a ∈ c0, CallsT Tryz.prog gl 3 a := run_of (l := c0) (by kernel_rfl) e0
theorem r1 : ∀ a ∈ c1, CallsT Tryz.prog gl 3 a := run_of (l := c1) (by kernel_rfl) e1
theorem r2 : ∀ a ∈ c2, CallsT Tryz.prog gl 3 a := run_of (l := c2) (by kernel_rfl) e2
theorem r3 : ∀ a ∈ c3, CallsT Tryz.prog gl 3 a := run_of (l := c3) (by kernel_rfl) e3
theorem r4 : ∀ a ∈ c4, CallsT Tryz.prog gl 3 a := run_of (l := c4) (by kernel_rfl) e4
theorem r5 : ∀ a ∈ c5, CallsT Tryz.prog gl 3 a := run_of (l := c5) (by kernel_rfl) e5
theorem r6 : ∀ a ∈ c6, CallsT Tryz.prog gl 3 a := run_of (l := c6) (by kernel_rfl) e6
theorem r7 : ∀ a ∈ c7, CallsT Tryz.prog gl 3 a := run_of (l := c7) (by kernel_rfl) e7
theorem r8 : ∀ a ∈ c8, CallsT Tryz.prog gl 3 a := run_of (l := c8) (by kernel_rfl) e8
theorem r9 : ∀ a ∈ c9, CallsT Tryz.prog gl 3 a := run_of (l := c9) (by kernel_rfl) e9
theorem r10 : ∀ a ∈ c10, CallsT Tryz.prog gl 3 a := run_of (l := c10) (by kernel_rfl) e10
theorem r11 : ∀ a ∈ c11, CallsT Tryz.prog gl 3 a := run_of (l := c11) (by kernel_rfl) e11
theorem r12 : ∀ a ∈ c12, CallsT Tryz.prog gl 3 a := run_of (l := c12) (by kernel_rfl) e12
theorem r13 : ∀ a ∈ c13, CallsT Tryz.prog gl 3 a := run_of (l := c13) (by kernel_rfl) e13
theorem r14 : ∀ a ∈ c14, CallsT Tryz.prog gl 3 a := run_of (l := c14) (by kernel_rfl) e14
theorem r15 : ∀ a ∈ c15, CallsT Tryz.prog gl 3 a := run_of (l := c15) (by kernel_rfl) e15
theorem r16 : ∀ a ∈ c16, CallsT Tryz.prog gl 3 a := run_of (l := c16) (by kernel_rfl) e16
theorem r17 : ∀ a ∈ c17, CallsT Tryz.prog gl 3 a := run_of (l := c17) (by kernel_rfl) e17
theorem r18 : ∀ a ∈ c18, CallsT Tryz.prog gl 3 a := run_of (l := c18) (by kernel_rfl) e18
theorem r19 : ∀ a ∈ c19, CallsT Tryz.prog gl 3 a := run_of (l := c19) (by kernel_rfl) e19
theorem r20 : ∀ a ∈ c20, CallsT Tryz.prog gl 3 a := run_of (l := c20) (by kernel_rfl) e20
theorem r21 : ∀ a ∈ c21, CallsT Tryz.prog gl 3 a := run_of (l := c21) (by kernel_rfl) e21
theorem r22 : ∀ a ∈ c22, CallsT Tryz.prog gl 3 a := run_of (l := c22) (by kernel_rfl) e22
theorem r23 : ∀ a ∈ c23, CallsT Tryz.prog gl 3 a := run_of (l := c23) (by kernel_rfl) e23
theorem r24 : ∀ a ∈ c24, CallsT Tryz.prog gl 3 a := run_of (l := c24) (by kernel_rfl) e24
theorem r25 : ∀ a ∈ c25, CallsT Tryz.prog gl 3 a := run_of (l := c25) (by kernel_rfl) e25
theorem r26 : ∀ a ∈ c26, CallsT Tryz.prog gl 3 a := run_of (l := c26) (by kernel_rfl) e26
theorem r27 : ∀ a ∈ c27, CallsT Tryz.prog gl 3 a := run_of (l := c27) (by kernel_rfl) e27
theorem r28 : ∀ a ∈ c28, CallsT Tryz.prog gl 3 a := run_of (l := c28) (by kernel_rfl) e28
theorem r29 : ∀ a ∈ c29, CallsT Tryz.prog gl 3 a := run_of (l := c29) (by kernel_rfl) e29
theorem r30 : ∀ a ∈ c30, CallsT Tryz.prog gl 3 a := run_of (l := c30) (by kernel_rfl) e30
theorem r31 : ∀ a ∈ c31, CallsT Tryz.prog gl 3 a := run_of (l := c31) (by kernel_rfl) e31
theorem r32 : ∀ a ∈ c32, CallsT Tryz.prog gl 3 a := run_of (l := c32) (by kernel_rfl) e32
theorem r33 : ∀ a ∈ c33, CallsT Tryz.prog gl 3 a := run_of (l := c33) (by kernel_rfl) e33
theorem r34 : ∀ a ∈ c34, CallsT Tryz.prog gl 3 a := run_of (l := c34) (by kernel_rfl) e34
theorem r35 : ∀ a ∈ c35, CallsT Tryz.prog gl 3 a := run_of (l := c35) (by kernel_rfl) e35
theorem r36 : ∀ a ∈ c36, CallsT Tryz.prog gl 3 a := run_of (l := c36) (by kernel_rfl) e36
theorem r37 : ∀ a ∈ c37, CallsT Tryz.prog gl 3 a := run_of (l := c37) (by kernel_rfl) e37
theorem r38 : ∀ a ∈ c38, CallsT Tryz.prog gl 3 a := run_of (l := c38) (by kernel_rfl) e38
theorem r39 : ∀ a ∈ c39, CallsT Tryz.prog gl 3 a := run_of (l := c39) (by kernel_rfl) e39
theorem r40 : ∀ a ∈ c40, CallsT Tryz.prog gl 3 a := run_of (l := c40) (by kernel_rfl) e40
theorem r41 : ∀ a ∈ c41, CallsT Tryz.prog gl 3 a := run_of (l := c41) (by kernel_rfl) e41
theorem r42 : ∀ a ∈ c42, CallsT Tryz.prog gl 3 a := run_of (l := c42) (by kernel_rfl) e42
theorem r43 : ∀ a ∈ c43, CallsT Tryz.prog gl 3 a := run_of (l := c43) (by kernel_rfl) e43
theorem r44 : ∀ a ∈ c44, CallsT Tryz.prog gl 3 a := run_of (l := c44) (by kernel_rfl) e44
theorem r45 : ∀ a ∈ c45, CallsT Tryz.prog gl 3 a := run_of (l := c45) (by kernel_rfl) e45
theorem r46 : ∀ a ∈ c46, CallsT Tryz.prog gl 3 a := run_of (l := c46) (by kernel_rfl) e46
theorem r47 : ∀ a ∈ c47, CallsT Tryz.prog gl 3 a := run_of (l := c47) (by kernel_rfl) e47
theorem r48 : ∀ a ∈ c48, CallsT Tryz.prog gl 3 a := run_of (l := c48) (by kernel_rfl) e48
theorem r49 : ∀ a ∈ c49, CallsT Tryz.prog gl 3 a := run_of (l := c49) (by kernel_rfl) e49
theorem r50 : ∀ a ∈ c50, CallsT Tryz.prog gl 3 a := run_of (l := c50) (by kernel_rfl) e50
theorem r51 : ∀ a ∈ c51, CallsT Tryz.prog gl 3 a := run_of (l := c51) (by kernel_rfl) e51
theorem r52 : ∀ a ∈ c52, CallsT Tryz.prog gl 3 a := run_of (l := c52) (by kernel_rfl) e52
theorem r53 : ∀ a ∈ c53, CallsT Tryz.prog gl 3 a := run_of (l := c53) (by kernel_rfl) e53
theorem r54 : ∀ a ∈ c54, CallsT Tryz.prog gl 3 a := run_of (l := c54) (by kernel_rfl) e54
theorem r55 : ∀ a ∈ c55, CallsT Tryz.prog gl 3 a := run_of (l := c55) (by kernel_rfl) e55
theorem r56 : ∀ a ∈ c56, CallsT Tryz.prog gl 3 a := run_of (l := c56) (by kernel_rfl) e56
theorem r57 : ∀ a ∈ c57, CallsT Tryz.prog gl 3 a := run_of (l := c57) (by kernel_rfl) e57
theorem r58 : ∀ a ∈ c58, CallsT Tryz.prog gl 3 a := run_of (l := c58) (by kernel_rfl) e58
theorem r59 : ∀ a ∈ c59, CallsT Tryz.prog gl 3 a := run_of (l := c59) (by kernel_rfl) e59
theorem r60 : ∀ a ∈ c60, CallsT Tryz.prog gl 3 a := run_of (l := c60) (by kernel_rfl) e60
theorem r61 : ∀ a ∈ c61, CallsT Tryz.prog gl 3 a := run_of (l := c61) (by kernel_rfl) e61
theorem r62 : ∀ a ∈ c62, CallsT Tryz.prog gl 3 a := run_of (l := c62) (by kernel_rfl) e62
theorem r63 : ∀ a ∈ c63, CallsT Tryz.prog gl 3 a := run_of (l := c63) (by kernel_rfl) e63
theorem r64 : ∀ a ∈ c64, CallsT Tryz.prog gl 3 a := run_of (l := c64) (by kernel_rfl) e64
theorem r65 : ∀ a ∈ c65, CallsT Tryz.prog gl 3 a := run_of (l := c65) (by kernel_rfl) e65
theorem r66 : ∀ a ∈ c66, CallsT Tryz.prog gl 3 a := run_of (l := c66) (by kernel_rfl) e66
theorem r67 : ∀ a ∈ c67, CallsT Tryz.prog gl 3 a := run_of (l := c67) (by kernel_rfl) e67
theorem r68 : ∀ a ∈ c68, CallsT Tryz.prog gl 3 a := run_of (l := c68) (by kernel_rfl) e68
theorem r69 : ∀ a ∈ c69, CallsT Tryz.prog gl 3 a := run_of (l := c69) (by kernel_rfl) e69
theorem r70 : ∀ a ∈ c70, CallsT Tryz.prog gl 3 a := run_of (l := c70) (by kernel_rfl) e70
theorem r71 : ∀ a ∈ c71, CallsT Tryz.prog gl 3 a := run_of (l := c71) (by kernel_rfl) e71
theorem r72 : ∀ a ∈ c72, CallsT Tryz.prog gl 3 a := run_of (l := c72) (by kernel_rfl) e72
theorem r73 : ∀ a ∈ c73, CallsT Tryz.prog gl 3 a := run_of (l := c73) (by kernel_rfl) e73
theorem r74 : ∀ a ∈ c74, CallsT Tryz.prog gl 3 a := run_of (l := c74) (by kernel_rfl) e74
theorem r75 : ∀ a ∈ c75, CallsT Tryz.prog gl 3 a := run_of (l := c75) (by kernel_rfl) e75
theorem r76 : ∀ a ∈ c76, CallsT Tryz.prog gl 3 a := run_of (l := c76) (by kernel_rfl) e76
theorem r77 : ∀ a ∈ c77, CallsT Tryz.prog gl 3 a := run_of (l := c77) (by kernel_rfl) e77
theorem r78 : ∀ a ∈ c78, CallsT Tryz.prog gl 3 a := run_of (l := c78) (by kernel_rfl) e78
theorem r79 : ∀ a ∈ c79, CallsT Tryz.prog gl 3 a := run_of (l := c79) (by kernel_rfl) e79
theorem r80 : ∀ a ∈ c80, CallsT Tryz.prog gl 3 a := run_of (l := c80) (by kernel_rfl) e80
theorem r81 : ∀ a ∈ c81, CallsT Tryz.prog gl 3 a := run_of (l := c81) (by kernel_rfl) e81
theorem r82 : ∀ a ∈ c82, CallsT Tryz.prog gl 3 a := run_of (l := c82) (by kernel_rfl) e82
theorem r83 : ∀ a ∈ c83, CallsT Tryz.prog gl 3 a := run_of (l := c83) (by kernel_rfl) e83
theorem r84 : ∀ a ∈ c84, CallsT Tryz.prog gl 3 a := run_of (l := c84) (by kernel_rfl) e84
theorem r85 : ∀ a ∈ c85, CallsT Tryz.prog gl 3 a := run_of (l := c85) (by kernel_rfl) e85
theorem r86 : ∀ a ∈ c86, CallsT Tryz.prog gl 3 a := run_of (l := c86) (by kernel_rfl) e86
theorem r87 : ∀ a ∈ c87, CallsT Tryz.prog gl 3 a := run_of (l := c87) (by kernel_rfl) e87
theorem r88 : ∀ a ∈ c88, CallsT Tryz.prog gl 3 a := run_of (l := c88) (by kernel_rfl) e88
theorem r89 : ∀ a ∈ c89, CallsT Tryz.prog gl 3 a := run_of (l := c89) (by kernel_rfl) e89
theorem r90 : ∀ a ∈ c90, CallsT Tryz.prog gl 3 a := run_of (l := c90) (by kernel_rfl) e90
theorem r91 : ∀ a ∈ c91, CallsT Tryz.prog gl 3 a := run_of (l := c91) (by kernel_rfl) e91
theorem r92 : ∀ a ∈ c92, CallsT Tryz.prog gl 3 a := run_of (l := c92) (by kernel_rfl) e92
theorem r93 : ∀ a ∈ c93, CallsT Tryz.prog gl 3 a := run_of (l := c93) (by kernel_rfl) e93
theorem r94 : ∀ a ∈ c94, CallsT Tryz.prog gl 3 a := run_of (l := c94) (by kernel_rfl) e94
theorem r95 : ∀ a ∈ c95, CallsT Tryz.prog gl 3 a := run_of (l := c95) (by kernel_rfl) e95
theorem r96 : ∀ a ∈ c96, CallsT Tryz.prog gl 3 a := run_of (l := c96) (by kernel_rfl) e96
theorem r97 : ∀ a ∈ c97, CallsT Tryz.prog gl 3 a := run_of (l := c97) (by kernel_rfl) e97
theorem r98 : ∀ a ∈ c98, CallsT Tryz.prog gl 3 a := run_of (l := c98) (by kernel_rfl) e98
theorem r99 : ∀ a ∈ c99, CallsT Tryz.prog gl 3 a := run_of (l := c99) (by kernel_rfl) e99
theorem every : ∀ a ∈ c0 ++ c1 ++ c2 ++ c3 ++ c4 ++ c5 ++ c6 ++ c7 ++ c8 ++ c9 ++ c10 ++ c11 ++ c12 ++ c13 ++ c14 ++ c15 ++ c16 ++ c17 ++ c18 ++ c19 ++ c20 ++ c21 ++ c22 ++ c23 ++ c24 ++ c25 ++ c26 ++ c27 ++ c28 ++ c29 ++ c30 ++ c31 ++ c32 ++ c33 ++ c34 ++ c35 ++ c36 ++ c37 ++ c38 ++ c39 ++ c40 ++ c41 ++ c42 ++ c43 ++ c44 ++ c45 ++ c46 ++ c47 ++ c48 ++ c49 ++ c50 ++ c51 ++ c52 ++ c53 ++ c54 ++ c55 ++ c56 ++ c57 ++ c58 ++ c59 ++ c60 ++ c61 ++ c62 ++ c63 ++ c64 ++ c65 ++ c66 ++ c67 ++ c68 ++ c69 ++ c70 ++ c71 ++ c72 ++ c73 ++ c74 ++ c75 ++ c76 ++ c77 ++ c78 ++ c79 ++ c80 ++ c81 ++ c82 ++ c83 ++ c84 ++ c85 ++ c86 ++ c87 ++ c88 ++ c89 ++ c90 ++ c91 ++ c92 ++ c93 ++ c94 ++ c95 ++ c96 ++ c97 ++ c98 ++ c99, CallsT Tryz.prog gl 3 a := (both (both (both (both (both (both (both (both (both (both (both (both (both (both (both (both (both (both (both (both (both (both (both (both (both (both (both (both (both (both (both (both (both (both (both (both (both (both (both (both (both (both (both (both (both (both (both (both (both (both (both (both (both (both (both (both (both (both (both (both (both (both (both (both (both (both (both (both (both (both (both (both (both (both (both (both (both (both (both (both (both (both (both (both (both (both (both (both (both (both (both (both (both (both (both (both (both (both (both r0 r1) r2) r3) r4) r5) r6) r7) r8) r9) r10) r11) r12) r13) r14) r15) r16) r17) r18) r19) r20) r21) r22) r23) r24) r25) r26) r27) r28) r29) r30) r31) r32) r33) r34) r35) r36) r37) r38) r39) r40) r41) r42) r43) r44) r45) r46) r47) r48) r49) r50) r51) r52) r53) r54) r55) r56) r57) r58) r59) r60) r61) r62) r63) r64) r65) r66) r67) r68) r69) r70) r71) r72) r73) r74) r75) r76) r77) r78) r79) r80) r81) r82) r83) r84) r85) r86) r87) r88) r89) r90) r91) r92) r93) r94) r95) r96) r97) r98) r99)
theorem listed : c0 ++ c1 ++ c2 ++ c3 ++ c4 ++ c5 ++ c6 ++ c7 ++ c8 ++ c9 ++ c10 ++ c11 ++ c12 ++ c13 ++ c14 ++ c15 ++ c16 ++ c17 ++ c18 ++ c19 ++ c20 ++ c21 ++ c22 ++ c23 ++ c24 ++ c25 ++ c26 ++ c27 ++ c28 ++ c29 ++ c30 ++ c31 ++ c32 ++ c33 ++ c34 ++ c35 ++ c36 ++ c37 ++ c38 ++ c39 ++ c40 ++ c41 ++ c42 ++ c43 ++ c44 ++ c45 ++ c46 ++ c47 ++ c48 ++ c49 ++ c50 ++ c51 ++ c52 ++ c53 ++ c54 ++ c55 ++ c56 ++ c57 ++ c58 ++ c59 ++ c60 ++ c61 ++ c62 ++ c63 ++ c64 ++ c65 ++ c66 ++ c67 ++ c68 ++ c69 ++ c70 ++ c71 ++ c72 ++ c73 ++ c74 ++ c75 ++ c76 ++ c77 ++ c78 ++ c79 ++ c80 ++ c81 ++ c82 ++ c83 ++ c84 ++ c85 ++ c86 ++ c87 ++ c88 ++ c89 ++ c90 ++ c91 ++ c92 ++ c93 ++ c94 ++ c95 ++ c96 ++ c97 ++ c98 ++ c99 = (List.range 399).map (fun i => [.symS 10 (Int.sub (.ofNat (i / 21)) 9), .symU 21 ((i) % 21)]) := by kernel_rfl
theorem all (d0 : Nat) (h0 : d0 < 19) (d1 : Nat) (h1 : d1 < 21) : CallsT Tryz.prog gl 3 [.symS 10 (Int.sub (.ofNat (d0)) 9), .symU 21 (d1)] := by
  refine every _ ?_
  rw [listed, List.mem_map]
  refine ⟨(d0) * 21 + d1, List.mem_range.2 (by omega), ?_⟩
  have g0 : ((d0) * 21 + d1) / 21 = d0 := by omega
  have g1 : (((d0) * 21 + d1)) % 21 = d1 := by omega
  simp only [g0, g1]
end Go.Proofs.YteeffmohilfafaaGreatDoor.KParseBrackets
