/- All runs of this claim. No condition. -/
import Derived.Test.YtbcmnefofcnimaaGreatDoorServerNewsK
import Derived.Test.YtbcmnefofcnimaaGreatDoorServerNews0
import Derived.Test.YtbcmnefofcnimaaGreatDoorServerNews1
import Derived.Test.YtbcmnefofcnimaaGreatDoorServerNews2
import Derived.OpenShut
import Derived.ChangeMaps5
import Derived.Carry
import Derived.ProofKit
import Derived.WalkKit
import Derived.ChangeVars
namespace Go.Proofs.YtbcmnefofcnimaaGreatDoor.KServerNews
open Go Go.X
open Go.ChangeShapes Go.WideShapes Go.ChangeAt Go.RowKit
set_option maxRecDepth 100000
set_option maxHeartbeats 0
set_option linter.unusedVariables false
theorem hG : gl.length = Tryz.prog.globals.size := by kernel_rfl
theorem hgl : glOk 5 gl = true := by kernel_rfl
theorem hmx : Tryz.prog.follows .mixedOrders = true := by kernel_rfl
theorem hC0 : CallFOk Tryz.prog C00 := callF_ok hmx (fun _ _ h => by cases h) 4000
theorem kn_of {C : CallF 5} {g : Nat} (hC : CallFOk Tryz.prog C) (h : runs C g (hs0 5 gl) [[]] = True) : FnCOk Tryz.prog g (knC 5 gl) := knC_ok hG hgl (by kernel_rfl) hC (of_eq_true h)
theorem nb {a b : Nat} (h : a ≠ b) : Nat.beq a b = false := by
  cases e : Nat.beq a b with
  | false => rfl
  | true => exact absurd (Nat.eq_of_beq_eq_true e) h
theorem hk : ∀ g c, kn g = some c → FnCOk Tryz.prog g c := fun g c h => by
  unfold kn at h
  by_cases e0 : g = 10
  · subst e0
    obtain rfl := Option.some.inj h
    exact kn_of hC0 ek
  rw [nb e0] at h
  simp only [cond_false] at h
  cases h
theorem hC : CallFOk Tryz.prog C0 := callF_ok hmx hk 4000
theorem hB : hasBody Tryz.prog 6 = true := by kernel_rfl
theorem short {l : List (List AV)} (h : l.all (fun a => Nat.ble a.length 8) = true) : ∀ a ∈ l, a.length ≤ 8 := fun a ha => Nat.le_of_ble_eq_true (List.all_eq_true.1 h a ha)
theorem run_of {l : List (List AV)} (hl : l.all (fun a => Nat.ble a.length 8) = true) (h : runs C0 6 (hs0 5 gl) l = True) : ∀ a ∈ l, CallsT Tryz.prog gl 6 a := runs_ok hG hgl hC hB (short hl) (of_eq_true h)
theorem mem_at {l : List (List AV)} {a : List AV} (i : Nat) (h : l[i]? = some a) : a ∈ l := List.mem_of_getElem? h
theorem r0 : CallsT Tryz.prog gl 6 c0 := run_of (l := [c0, c1, c2, c3, c4, c5, c6, c7, c8, c9]) (by kernel_rfl) e0 _ (mem_at 0 rfl)
theorem r1 : CallsT Tryz.prog gl 6 c1 := run_of (l := [c0, c1, c2, c3, c4, c5, c6, c7, c8, c9]) (by kernel_rfl) e0 _ (mem_at 1 rfl)
theorem r2 : CallsT Tryz.prog gl 6 c2 := run_of (l := [c0, c1, c2, c3, c4, c5, c6, c7, c8, c9]) (by kernel_rfl) e0 _ (mem_at 2 rfl)
theorem r3 : CallsT Tryz.prog gl 6 c3 := run_of (l := [c0, c1, c2, c3, c4, c5, c6, c7, c8, c9]) (by kernel_rfl) e0 _ (mem_at 3 rfl)
theorem r4 : CallsT Tryz.prog gl 6 c4 := run_of (l := [c0, c1, c2, c3, c4, c5, c6, c7, c8, c9]) (by kernel_rfl) e0 _ (mem_at 4 rfl)
theorem r5 : CallsT Tryz.prog gl 6 c5 := run_of (l := [c0, c1, c2, c3, c4, c5, c6, c7, c8, c9]) (by kernel_rfl) e0 _ (mem_at 5 rfl)
theorem r6 : CallsT Tryz.prog gl 6 c6 := run_of (l := [c0, c1, c2, c3, c4, c5, c6, c7, c8, c9]) (by kernel_rfl) e0 _ (mem_at 6 rfl)
theorem r7 : CallsT Tryz.prog gl 6 c7 := run_of (l := [c0, c1, c2, c3, c4, c5, c6, c7, c8, c9]) (by kernel_rfl) e0 _ (mem_at 7 rfl)
theorem r8 : CallsT Tryz.prog gl 6 c8 := run_of (l := [c0, c1, c2, c3, c4, c5, c6, c7, c8, c9]) (by kernel_rfl) e0 _ (mem_at 8 rfl)
theorem r9 : CallsT Tryz.prog gl 6 c9 := run_of (l := [c0, c1, c2, c3, c4, c5, c6, c7, c8, c9]) (by kernel_rfl) e0 _ (mem_at 9 rfl)
theorem r10 : CallsT Tryz.prog gl 6 c10 := run_of (l := [c10, c11, c12, c13, c14, c15, c16, c17, c18, c19]) (by kernel_rfl) e1 _ (mem_at 0 rfl)
theorem r11 : CallsT Tryz.prog gl 6 c11 := run_of (l := [c10, c11, c12, c13, c14, c15, c16, c17, c18, c19]) (by kernel_rfl) e1 _ (mem_at 1 rfl)
theorem r12 : CallsT Tryz.prog gl 6 c12 := run_of (l := [c10, c11, c12, c13, c14, c15, c16, c17, c18, c19]) (by kernel_rfl) e1 _ (mem_at 2 rfl)
theorem r13 : CallsT Tryz.prog gl 6 c13 := run_of (l := [c10, c11, c12, c13, c14, c15, c16, c17, c18, c19]) (by kernel_rfl) e1 _ (mem_at 3 rfl)
theorem r14 : CallsT Tryz.prog gl 6 c14 := run_of (l := [c10, c11, c12, c13, c14, c15, c16, c17, c18, c19]) (by kernel_rfl) e1 _ (mem_at 4 rfl)
theorem r15 : CallsT Tryz.prog gl 6 c15 := run_of (l := [c10, c11, c12, c13, c14, c15, c16, c17, c18, c19]) (by kernel_rfl) e1 _ (mem_at 5 rfl)
theorem r16 : CallsT Tryz.prog gl 6 c16 := run_of (l := [c10, c11, c12, c13, c14, c15, c16, c17, c18, c19]) (by kernel_rfl) e1 _ (mem_at 6 rfl)
theorem r17 : CallsT Tryz.prog gl 6 c17 := run_of (l := [c10, c11, c12, c13, c14, c15, c16, c17, c18, c19]) (by kernel_rfl) e1 _ (mem_at 7 rfl)
theorem r18 : CallsT Tryz.prog gl 6 c18 := run_of (l := [c10, c11, c12, c13, c14, c15, c16, c17, c18, c19]) (by kernel_rfl) e1 _ (mem_at 8 rfl)
theorem r19 : CallsT Tryz.prog gl 6 c19 := run_of (l := [c10, c11, c12, c13, c14, c15, c16, c17, c18, c19]) (by kernel_rfl) e1 _ (mem_at 9 rfl)
theorem r20 : CallsT Tryz.prog gl 6 c20 := run_of (l := [c20, c21, c22, c23, c24, c25, c26, c27, c28]) (by kernel_rfl) e2 _ (mem_at 0 rfl)
theorem r21 : CallsT Tryz.prog gl 6 c21 := run_of (l := [c20, c21, c22, c23, c24, c25, c26, c27, c28]) (by kernel_rfl) e2 _ (mem_at 1 rfl)
theorem r22 : CallsT Tryz.prog gl 6 c22 := run_of (l := [c20, c21, c22, c23, c24, c25, c26, c27, c28]) (by kernel_rfl) e2 _ (mem_at 2 rfl)
theorem r23 : CallsT Tryz.prog gl 6 c23 := run_of (l := [c20, c21, c22, c23, c24, c25, c26, c27, c28]) (by kernel_rfl) e2 _ (mem_at 3 rfl)
theorem r24 : CallsT Tryz.prog gl 6 c24 := run_of (l := [c20, c21, c22, c23, c24, c25, c26, c27, c28]) (by kernel_rfl) e2 _ (mem_at 4 rfl)
theorem r25 : CallsT Tryz.prog gl 6 c25 := run_of (l := [c20, c21, c22, c23, c24, c25, c26, c27, c28]) (by kernel_rfl) e2 _ (mem_at 5 rfl)
theorem r26 : CallsT Tryz.prog gl 6 c26 := run_of (l := [c20, c21, c22, c23, c24, c25, c26, c27, c28]) (by kernel_rfl) e2 _ (mem_at 6 rfl)
theorem r27 : CallsT Tryz.prog gl 6 c27 := run_of (l := [c20, c21, c22, c23, c24, c25, c26, c27, c28]) (by kernel_rfl) e2 _ (mem_at 7 rfl)
theorem r28 : CallsT Tryz.prog gl 6 c28 := run_of (l := [c20, c21, c22, c23, c24, c25, c26, c27, c28]) (by kernel_rfl) e2 _ (mem_at 8 rfl)
/-! ### Arguments -/
section
variable {H : Type} {enc : TypeId × Value → H} {P : Program} {w : World}
theorem fields1 {fs : Array Field} (h : ((List.range fs.size).all fun j => match fs[j]? with | some f => Nat.beq f.offset j && Nat.beq (P.cellsOf f.type) 1 | none => true) = true) : ∀ (j : Nat) (f : Field), fs[j]? = some f → f.offset = j ∧ P.cellsOf f.type = 1 := fun j f hj => by
  have h1 := List.all_eq_true.1 h j (List.mem_range.2 (Array.getElem?_eq_some_iff.1 hj).1)
  rw [hj] at h1
  simp only [Bool.and_eq_true] at h1
  exact ⟨Nat.eq_of_beq_eq_true h1.1, Nat.eq_of_beq_eq_true h1.2⟩
/-- A struct whose fields have one cell each. -/
theorem open_one {r : Reach} {b0 t k : Nat} {fs : Array Field} {v : Value} {d : DataW H} {ps : List MemPlace} (he : P.underlying t = some (.struct fs)) (hc : P.cellsOf t = k)
    (hfs : ∀ (j : Nat) (f : Field), fs[j]? = some f → f.offset = j ∧ P.cellsOf f.type = 1) (hfk : fs.size = k) (hv : Value.okWide P w r b0 t v) (hd : DataW.Trod enc P w 0 (fun _ => true) true t v d ps) :
    ∃ cs : Array Value, v = .agg cs ∧ cs.size = k ∧ ∀ (j : Nat) (f : Field), fs[j]? = some f → ∃ u n y, cs[j]? = some u ∧ DataW.trod enc P w 0 (fun _ => true) true n f.type [u] = some y := by
  obtain ⟨cs, rfl, hsz⟩ := okWide_struct he hv
  obtain ⟨fuel, hf⟩ := hd
  obtain ⟨xs, n, _, _, hcl, hxl, hff⟩ := DataW.trod_struct he hf
  refine ⟨cs, rfl, hsz.trans hc, fun j f hj => ?_⟩
  have hjk := (Array.getElem?_eq_some_iff.1 hj).1
  have hjs : j < cs.size := by omega
  have h3 := hff j f hj
  obtain ⟨o1, o2⟩ := hfs j f hj
  rw [o1, o2] at h3
  have hjl : j < (Value.agg cs).cells.toList.length := by show j < cs.toList.length; simpa using hjs
  have h4 : ((Value.agg cs).cells.toList.drop j).take 1 = [cs[j]] := by rw [List.drop_eq_getElem_cons hjl]; rfl
  rw [h4, List.getElem?_eq_getElem (by omega)] at h3
  exact ⟨_, _, _, Array.getElem?_eq_getElem hjs, h3⟩
theorem arr5 {cs : Array Value} (h : cs.size = 5) {a b c d e : Value} (h0 : cs[0]? = some a) (h1 : cs[1]? = some b) (h2 : cs[2]? = some c) (h3 : cs[3]? = some d) (h4 : cs[4]? = some e) : cs = #[a, b, c, d, e] := by
  obtain ⟨l⟩ := cs
  match l, h with
  | [x0, x1, x2, x3, x4], _ =>
    simp at h0 h1 h2 h3 h4
    rw [h0, h1, h2, h3, h4]
theorem int_at {t n : Nat} {u : Value} {y : DataW H × List MemPlace} (ht : P.underlying t = some (.int .i64)) (h : DataW.trod enc P w 0 (fun _ => true) true n t [u] = some y) : ∃ z : Int, u = .int .i64 z ∧ -9223372036854775808 ≤ z ∧ z ≤ 9223372036854775807 := by
  obtain ⟨z, h1, _, h2⟩ := DataW.trod_int ht h
  simp at h1
  exact ⟨z, h1, (bounds_i64 h2).1, (bounds_i64 h2).2⟩
theorem str_at {t n : Nat} {u : Value} {y : DataW H × List MemPlace} (ht : P.underlying t = some .string) (h : DataW.trod enc P w 0 (fun _ => true) true n t [u] = some y) : ∃ s : ByteArray, u = .string s ∧ s.size ≤ maxLen := by
  obtain ⟨z, h1, _, h2⟩ := DataW.trod_string ht h
  simp at h1
  exact ⟨z, h1, h2⟩
theorem bool_at {t n : Nat} {u : Value} {y : DataW H × List MemPlace} (ht : P.underlying t = some .bool) (h : DataW.trod enc P w 0 (fun _ => true) true n t [u] = some y) : ∃ b, u = .bool b := by
  obtain ⟨z, h1, _⟩ := DataW.trod_bool ht h
  simp at h1
  exact ⟨z, h1⟩
end
theorem em : (Int.negSucc 9223372036854775807 : Int) = -9223372036854775808 := rfl
theorem en : (Int.negSucc 0 : Int) = -1 := rfl
theorem vAny {f : Emb} {z : Int} (h : -9223372036854775808 ≤ z ∧ z ≤ 9223372036854775807) : VR f any (.int .i64 z) := .rng _ _ _ (by rw [em]; omega) (by show z ≤ (9223372036854775807 : Nat); omega)
theorem vLow {f : Emb} {z : Int} (h : -9223372036854775808 ≤ z ∧ z ≤ 9223372036854775807) (g : z < 0) : VR f low (.int .i64 z) := .rng _ _ _ (by rw [em]; omega) (by rw [en]; omega)
theorem vRng {f : Emb} {a b : Nat} {z : Int} (h : (a : Int) ≤ z) (g : z ≤ (b : Int)) : VR f (.rng (.ofNat a) (.ofNat b)) (.int .i64 z) := .rng _ _ _ h g
theorem tri (z m : Int) : z < 0 ∨ m < z ∨ (0 ≤ z ∧ z ≤ m) := by omega
theorem vl {f : Emb} {x0 x1 x2 x3 x4 y : AV} {a b c d e y' : Value} (h0 : VR f x0 a) (h1 : VR f x1 b) (h2 : VR f x2 c) (h3 : VR f x3 d) (h4 : VR f x4 e) (hy : VR f y y') : VL f [.agg [x0, x1, x2, x3, x4], y] #[.agg #[a, b, c, d, e], y'].toList :=
  .cons _ _ _ _ (.agg _ [a, b, c, d, e] (.cons _ _ _ _ h0 (.cons _ _ _ _ h1 (.cons _ _ _ _ h2 (.cons _ _ _ _ h3 (.cons _ _ _ _ h4 .nil)))))) (.cons _ _ _ _ hy .nil)
theorem all {f : Emb} (hf : f = gEmb gl) {a b c d e : Int} {y' : Value} (ha : -9223372036854775808 ≤ a ∧ a ≤ 9223372036854775807) (hb : -9223372036854775808 ≤ b ∧ b ≤ 9223372036854775807) (hc : -9223372036854775808 ≤ c ∧ c ≤ 9223372036854775807) (hd : -9223372036854775808 ≤ d ∧ d ≤ 9223372036854775807) (he : -9223372036854775808 ≤ e ∧ e ≤ 9223372036854775807) (hy : VR f ev y') {W : World} (ht : TabsAt gl W) :
    Calls Tryz.prog 6 #[.agg #[.int .i64 a, .int .i64 b, .int .i64 c, .int .i64 d, .int .i64 e], y'] W fun e W' => e = .returned (.bool true) ∧ RowKit.Below W.heap.size W W' := by
  subst hf
  rcases (by omega : b < 0 ∨ 3 ≤ b ∨ b = 0 ∨ b = 1 ∨ b = 2) with h | h | h | h | h
  · exact r0 W ht _ (vl (vAny ha) (vLow hb h) (vAny hc) (vAny hd) (vAny he) hy)
  · exact r1 W ht _ (vl (vAny ha) (vRng (by omega) (by omega)) (vAny hc) (vAny hd) (vAny he) hy)
  · subst h
    rcases tri c 1099511627776 with h1 | h1 | h1
    · exact r2 W ht _ (vl (vAny ha) (.int 0 (.ofNat 0)) (vLow hc h1) (vAny hd) (vAny he) hy)
    · exact r3 W ht _ (vl (vAny ha) (.int 0 (.ofNat 0)) (vRng (by omega) (by omega)) (vAny hd) (vAny he) hy)
    rcases tri d 1099511627776 with h2 | h2 | h2
    · exact r4 W ht _ (vl (vAny ha) (.int 0 (.ofNat 0)) (vRng (by omega) (by omega)) (vLow hd h2) (vAny he) hy)
    · exact r5 W ht _ (vl (vAny ha) (.int 0 (.ofNat 0)) (vRng (by omega) (by omega)) (vRng (by omega) (by omega)) (vAny he) hy)
    rcases tri e 1099511627776 with h3 | h3 | h3
    · exact r6 W ht _ (vl (vAny ha) (.int 0 (.ofNat 0)) (vRng (by omega) (by omega)) (vRng (by omega) (by omega)) (vLow he h3) hy)
    · exact r7 W ht _ (vl (vAny ha) (.int 0 (.ofNat 0)) (vRng (by omega) (by omega)) (vRng (by omega) (by omega)) (vRng (by omega) (by omega)) hy)
    rcases tri a 16777216 with h4 | h4 | h4
    · exact r8 W ht _ (vl (vLow ha h4) (.int 0 (.ofNat 0)) (vRng (by omega) (by omega)) (vRng (by omega) (by omega)) (vRng (by omega) (by omega)) hy)
    · exact r9 W ht _ (vl (vRng (by omega) (by omega)) (.int 0 (.ofNat 0)) (vRng (by omega) (by omega)) (vRng (by omega) (by omega)) (vRng (by omega) (by omega)) hy)
    · exact r10 W ht _ (vl (vRng (by omega) (by omega)) (.int 0 (.ofNat 0)) (vRng (by omega) (by omega)) (vRng (by omega) (by omega)) (vRng (by omega) (by omega)) hy)
  · subst h
    rcases tri c 1099511627776 with h1 | h1 | h1
    · exact r11 W ht _ (vl (vAny ha) (.int 0 (.ofNat 1)) (vLow hc h1) (vAny hd) (vAny he) hy)
    · exact r12 W ht _ (vl (vAny ha) (.int 0 (.ofNat 1)) (vRng (by omega) (by omega)) (vAny hd) (vAny he) hy)
    rcases tri d 1099511627776 with h2 | h2 | h2
    · exact r13 W ht _ (vl (vAny ha) (.int 0 (.ofNat 1)) (vRng (by omega) (by omega)) (vLow hd h2) (vAny he) hy)
    · exact r14 W ht _ (vl (vAny ha) (.int 0 (.ofNat 1)) (vRng (by omega) (by omega)) (vRng (by omega) (by omega)) (vAny he) hy)
    rcases tri e 1099511627776 with h3 | h3 | h3
    · exact r15 W ht _ (vl (vAny ha) (.int 0 (.ofNat 1)) (vRng (by omega) (by omega)) (vRng (by omega) (by omega)) (vLow he h3) hy)
    · exact r16 W ht _ (vl (vAny ha) (.int 0 (.ofNat 1)) (vRng (by omega) (by omega)) (vRng (by omega) (by omega)) (vRng (by omega) (by omega)) hy)
    rcases tri a 16777216 with h4 | h4 | h4
    · exact r17 W ht _ (vl (vLow ha h4) (.int 0 (.ofNat 1)) (vRng (by omega) (by omega)) (vRng (by omega) (by omega)) (vRng (by omega) (by omega)) hy)
    · exact r18 W ht _ (vl (vRng (by omega) (by omega)) (.int 0 (.ofNat 1)) (vRng (by omega) (by omega)) (vRng (by omega) (by omega)) (vRng (by omega) (by omega)) hy)
    · exact r19 W ht _ (vl (vRng (by omega) (by omega)) (.int 0 (.ofNat 1)) (vRng (by omega) (by omega)) (vRng (by omega) (by omega)) (vRng (by omega) (by omega)) hy)
  · subst h
    rcases tri c 1099511627776 with h1 | h1 | h1
    · exact r20 W ht _ (vl (vAny ha) (.int 0 (.ofNat 2)) (vLow hc h1) (vAny hd) (vAny he) hy)
    · exact r21 W ht _ (vl (vAny ha) (.int 0 (.ofNat 2)) (vRng (by omega) (by omega)) (vAny hd) (vAny he) hy)
    rcases tri d 1099511627776 with h2 | h2 | h2
    · exact r22 W ht _ (vl (vAny ha) (.int 0 (.ofNat 2)) (vRng (by omega) (by omega)) (vLow hd h2) (vAny he) hy)
    · exact r23 W ht _ (vl (vAny ha) (.int 0 (.ofNat 2)) (vRng (by omega) (by omega)) (vRng (by omega) (by omega)) (vAny he) hy)
    rcases tri e 1099511627776 with h3 | h3 | h3
    · exact r24 W ht _ (vl (vAny ha) (.int 0 (.ofNat 2)) (vRng (by omega) (by omega)) (vRng (by omega) (by omega)) (vLow he h3) hy)
    · exact r25 W ht _ (vl (vAny ha) (.int 0 (.ofNat 2)) (vRng (by omega) (by omega)) (vRng (by omega) (by omega)) (vRng (by omega) (by omega)) hy)
    rcases tri a 16777216 with h4 | h4 | h4
    · exact r26 W ht _ (vl (vLow ha h4) (.int 0 (.ofNat 2)) (vRng (by omega) (by omega)) (vRng (by omega) (by omega)) (vRng (by omega) (by omega)) hy)
    · exact r27 W ht _ (vl (vRng (by omega) (by omega)) (.int 0 (.ofNat 2)) (vRng (by omega) (by omega)) (vRng (by omega) (by omega)) (vRng (by omega) (by omega)) hy)
    · exact r28 W ht _ (vl (vRng (by omega) (by omega)) (.int 0 (.ofNat 2)) (vRng (by omega) (by omega)) (vRng (by omega) (by omega)) (vRng (by omega) (by omega)) hy)
theorem walk {H : Type} {enc : TypeId × Value → H} {W : World} {base : Nat} {v v' : Value} {d d' : DataW H} {ps ps' : List MemPlace} (hv : Value.okWide Tryz.prog W .any base 35 v) (hd : DataW.Trod enc Tryz.prog W 0 (fun _ => true) true 35 v d ps)
    (hv' : Value.okWide Tryz.prog W .any base 32 v') (hd' : DataW.Trod enc Tryz.prog W 0 (fun _ => true) true 32 v' d' ps') (ht : TabsAt gl W) : Calls Tryz.prog 6 #[v, v'] W fun e W' => e = .returned (.bool true) ∧ Below W.heap.size W W' := by
  obtain ⟨cs, rfl, hsz, hx⟩ := open_one (k := 5) Tryz.underlying35 (by kernel_rfl) (fields1 (by kernel_rfl)) rfl hv hd
  obtain ⟨ds, rfl, hsz', hy⟩ := open_one (k := 5) Tryz.underlying32 (by kernel_rfl) (fields1 (by kernel_rfl)) rfl hv' hd'
  obtain ⟨u0, n0, y0, e0, g0⟩ := hx 0 _ rfl
  obtain ⟨z0, rfl, l0, m0⟩ := int_at Tryz.underlying3 g0
  obtain ⟨u1, n1, y1, e1, g1⟩ := hx 1 _ rfl
  obtain ⟨z1, rfl, l1, m1⟩ := int_at Tryz.underlying3 g1
  obtain ⟨u2, n2, y2, e2, g2⟩ := hx 2 _ rfl
  obtain ⟨z2, rfl, l2, m2⟩ := int_at Tryz.underlying3 g2
  obtain ⟨u3, n3, y3, e3, g3⟩ := hx 3 _ rfl
  obtain ⟨z3, rfl, l3, m3⟩ := int_at Tryz.underlying3 g3
  obtain ⟨u4, n4, y4, e4, g4⟩ := hx 4 _ rfl
  obtain ⟨z4, rfl, l4, m4⟩ := int_at Tryz.underlying3 g4
  obtain ⟨s0, k0, x0, i0, o0⟩ := hy 0 _ rfl
  obtain ⟨w0, rfl, a0, b0⟩ := int_at Tryz.underlying3 o0
  obtain ⟨s1, k1, x1, i1, o1⟩ := hy 1 _ rfl
  obtain ⟨w1, rfl, a1, b1⟩ := int_at Tryz.underlying3 o1
  obtain ⟨s2, k2, x2, i2, o2⟩ := hy 2 _ rfl
  obtain ⟨w2, rfl, a2, b2⟩ := int_at Tryz.underlying3 o2
  obtain ⟨s3, k3, x3, i3, o3⟩ := hy 3 _ rfl
  obtain ⟨w3, rfl, a3⟩ := str_at Tryz.underlying9 o3
  obtain ⟨s4, k4, x4, i4, o4⟩ := hy 4 _ rfl
  obtain ⟨w4, rfl⟩ := bool_at Tryz.underlying4 o4
  obtain rfl := arr5 hsz e0 e1 e2 e3 e4
  obtain rfl := arr5 hsz' i0 i1 i2 i3 i4
  exact all rfl ⟨l0, m0⟩ ⟨l1, m1⟩ ⟨l2, m2⟩ ⟨l3, m3⟩ ⟨l4, m4⟩ (.agg _ [_, _, _, _, _] (.cons _ _ _ _ (vAny ⟨a0, b0⟩) (.cons _ _ _ _ (vAny ⟨a1, b1⟩) (.cons _ _ _ _ (vAny ⟨a2, b2⟩) (.cons _ _ _ _ (.txt _ _ (Nat.le_trans a3 (Nat.le_of_ble_eq_true (by kernel_rfl)))) (.cons _ _ _ _ (.anyB _) .nil)))))) ht
end Go.Proofs.YtbcmnefofcnimaaGreatDoor.KServerNews
