/- All runs of this claim, and the law's own way where the keys are many. No condition. -/
import Derived.Test.YtgkaojadfikegaaGreatDoorVmNobodyK
import Derived.Test.YtgkaojadfikegaaGreatDoorVmNobody0
import Derived.Test.YtgkaojadfikegaaGreatDoorVmNobody1
import Derived.Test.YtgkaojadfikegaaGreatDoorVmNobody2
import Derived.Test.YtgkaojadfikegaaGreatDoorVmNobody3
import Derived.Test.YtgkaojadfikegaaGreatDoorVmNobody4
import Derived.Test.YtgkaojadfikegaaGreatDoorVmNobody5
import Derived.OpenShut
import Derived.ChangeMaps5
import Derived.Carry
import Derived.ProofKit
import Derived.WalkKit
import Derived.ChangeVars
import Derived.Deep.Slices
namespace Go.Proofs.YtgkaojadfikegaaGreatDoor.KVmNobody
open Go Go.X
open Go.ChangeShapes Go.WideShapes Go.RowKit
set_option maxRecDepth 100000
set_option maxHeartbeats 0
set_option linter.unusedVariables false
theorem hG : gl.length = Tryz.prog.globals.size := by kernel_rfl
theorem hgl : glOk 5 gl = true := by kernel_rfl
theorem hmx : Tryz.prog.follows .mixedOrders = true := by kernel_rfl
theorem hC0 : CallFOk Tryz.prog C00 := callF_ok hmx (fun _ _ h => by cases h) 4000
theorem kn_of {C : CallF 5} {g : Nat} (hC : CallFOk Tryz.prog C) (h : runs C g (hs0 5 gl) [[]] = True) : FnCOk Tryz.prog g (knC 5 gl) := knC_ok hG hgl (by kernel_rfl) hC (of_eq_true h)
theorem nb {a b : Nat} (h : a ≠ b) : Nat.beq a b = false := by
  cases e : Nat.beq a b with
  | false => rfl
  | true => exact absurd (Nat.eq_of_beq_eq_true e) h
theorem hk : ∀ g c, kn g = some c → FnCOk Tryz.prog g c := fun g c h => by
  unfold kn at h
  by_cases e0 : g = 5
  · subst e0
    obtain rfl := Option.some.inj h
    exact kn_of hC0 ek
  rw [nb e0] at h
  simp only [cond_false] at h
  cases h
theorem hC : CallFOk Tryz.prog C0 := callF_ok hmx hk 4000
theorem hB : hasBody Tryz.prog 3 = true := by kernel_rfl
theorem hBk : hasBody Tryz.prog 5 = true := by kernel_rfl
theorem short {l : List (List AV)} (h : l.all (fun a => Nat.ble a.length 8) = true) : ∀ a ∈ l, a.length ≤ 8 := fun a ha => Nat.le_of_ble_eq_true (List.all_eq_true.1 h a ha)
theorem short6 (n : Nat) (a : AV) : ∀ x ∈ six n a, x.length ≤ 8 := fun x hx => by
  simp only [six, List.mem_cons, List.not_mem_nil, or_false] at hx
  rcases hx with rfl | rfl | rfl | rfl | rfl | rfl <;> exact Nat.le_of_ble_eq_true rfl
theorem run_of {n : Nat} {a : AV} (hg : glOk 5 (gl ++ [some (keys n)]) = true) (h : runs C0 3 (hs0 5 (gl ++ [some (keys n)])) (six n a) = True) : ∀ x ∈ six n a, CallsX Tryz.prog gl (keys n) 3 x := runsX_ok hG hg hC hB (short6 n a) (of_eq_true h)
theorem runN_of {l : List (List AV)} (hl : ∀ x ∈ l, x.length ≤ 8) (h : runs C0 3 (hs0 5 gl) l = True) : ∀ a ∈ l, CallsT Tryz.prog gl 3 a := runs_ok hG hgl hC hB hl (of_eq_true h)
theorem runK_of {C : CallF 5} (hC : CallFOk Tryz.prog C) {g : Nat} (hb : hasBody Tryz.prog g = true) (h : runs C g (hs0 5 gl) [[]] = True) : CallsT Tryz.prog gl g [] := runs_ok hG hgl hC hb (fun a ha => by rw [List.mem_singleton.1 ha]; exact Nat.zero_le _) (of_eq_true h) _ (List.mem_singleton.2 rfl)
theorem rN : ∀ x ∈ six 0 .nslice, CallsT Tryz.prog gl 3 x := runN_of (short6 0 .nslice) eN
theorem rK : CallsT Tryz.prog gl 5 [] := runK_of hC0 hBk ek
theorem r0 : ∀ x ∈ six 0 (.slice 9 0 0 0 1 false), CallsX Tryz.prog gl (keys 0) 3 x := run_of (n := 0) (by kernel_rfl) e0
theorem r1 : ∀ x ∈ six 1 (.slice 9 0 1 1 1 false), CallsX Tryz.prog gl (keys 1) 3 x := run_of (n := 1) (by kernel_rfl) e1
theorem r2 : ∀ x ∈ six 2 (.slice 9 0 2 2 1 false), CallsX Tryz.prog gl (keys 2) 3 x := run_of (n := 2) (by kernel_rfl) e2
theorem r3 : ∀ x ∈ six 3 (.slice 9 0 3 3 1 false), CallsX Tryz.prog gl (keys 3) 3 x := run_of (n := 3) (by kernel_rfl) e3
theorem r4 : ∀ x ∈ six 4 (.slice 9 0 4 4 1 false), CallsX Tryz.prog gl (keys 4) 3 x := run_of (n := 4) (by kernel_rfl) e4
theorem r5 : ∀ x ∈ six 5 (.slice 9 0 5 5 1 false), CallsX Tryz.prog gl (keys 5) 3 x := run_of (n := 5) (by kernel_rfl) e5
theorem r6 : ∀ x ∈ six 6 (.slice 9 0 6 6 1 false), CallsX Tryz.prog gl (keys 6) 3 x := run_of (n := 6) (by kernel_rfl) e6
theorem r7 : ∀ x ∈ six 7 (.slice 9 0 7 7 1 false), CallsX Tryz.prog gl (keys 7) 3 x := run_of (n := 7) (by kernel_rfl) e7
theorem r8 : ∀ x ∈ six 8 (.slice 9 0 8 8 1 false), CallsX Tryz.prog gl (keys 8) 3 x := run_of (n := 8) (by kernel_rfl) e8
theorem r9 : ∀ x ∈ six 9 (.slice 9 0 9 9 1 false), CallsX Tryz.prog gl (keys 9) 3 x := run_of (n := 9) (by kernel_rfl) e9
theorem r10 : ∀ x ∈ six 10 (.slice 9 0 10 10 1 false), CallsX Tryz.prog gl (keys 10) 3 x := run_of (n := 10) (by kernel_rfl) e10
theorem r11 : ∀ x ∈ six 11 (.slice 9 0 11 11 1 false), CallsX Tryz.prog gl (keys 11) 3 x := run_of (n := 11) (by kernel_rfl) e11
theorem r12 : ∀ x ∈ six 12 (.slice 9 0 12 12 1 false), CallsX Tryz.prog gl (keys 12) 3 x := run_of (n := 12) (by kernel_rfl) e12
theorem r13 : ∀ x ∈ six 13 (.slice 9 0 13 13 1 false), CallsX Tryz.prog gl (keys 13) 3 x := run_of (n := 13) (by kernel_rfl) e13
theorem r14 : ∀ x ∈ six 14 (.slice 9 0 14 14 1 false), CallsX Tryz.prog gl (keys 14) 3 x := run_of (n := 14) (by kernel_rfl) e14
theorem r15 : ∀ x ∈ six 15 (.slice 9 0 15 15 1 false), CallsX Tryz.prog gl (keys 15) 3 x := run_of (n := 15) (by kernel_rfl) e15
theorem r16 : ∀ x ∈ six 16 (.slice 9 0 16 16 1 false), CallsX Tryz.prog gl (keys 16) 3 x := run_of (n := 16) (by kernel_rfl) e16
theorem r17 : ∀ x ∈ six 17 (.slice 9 0 17 17 1 false), CallsX Tryz.prog gl (keys 17) 3 x := run_of (n := 17) (by kernel_rfl) e17
theorem r18 : ∀ x ∈ six 18 (.slice 9 0 18 18 1 false), CallsX Tryz.prog gl (keys 18) 3 x := run_of (n := 18) (by kernel_rfl) e18
theorem r19 : ∀ x ∈ six 19 (.slice 9 0 19 19 1 false), CallsX Tryz.prog gl (keys 19) 3 x := run_of (n := 19) (by kernel_rfl) e19
theorem r20 : ∀ x ∈ six 20 (.slice 9 0 20 20 1 false), CallsX Tryz.prog gl (keys 20) 3 x := run_of (n := 20) (by kernel_rfl) e20
theorem rA : ∀ n, n ≤ 20 → ∀ x ∈ six n (.slice 9 0 n n 1 false), CallsX Tryz.prog gl (keys n) 3 x
  | 0, _ => r0
  | 1, _ => r1
  | 2, _ => r2
  | 3, _ => r3
  | 4, _ => r4
  | 5, _ => r5
  | 6, _ => r6
  | 7, _ => r7
  | 8, _ => r8
  | 9, _ => r9
  | 10, _ => r10
  | 11, _ => r11
  | 12, _ => r12
  | 13, _ => r13
  | 14, _ => r14
  | 15, _ => r15
  | 16, _ => r16
  | 17, _ => r17
  | 18, _ => r18
  | 19, _ => r19
  | 20, _ => r20
  | n + 21, h => absurd h (by omega)
/-! ### Numbers -/
theorem em : (Int.negSucc 9223372036854775807 : Int) = -9223372036854775808 := rfl
theorem en : (Int.negSucc 0 : Int) = -1 := rfl
theorem vAny {f : Emb} {z : Int} (h : -9223372036854775808 ≤ z ∧ z ≤ 9223372036854775807) : VR f any (.int .i64 z) := .rng _ _ _ (by rw [em]; omega) (by show z ≤ (9223372036854775807 : Nat); omega)
theorem vLow {f : Emb} {z : Int} (h : -9223372036854775808 ≤ z ∧ z ≤ 9223372036854775807) (g : z < 0) : VR f low (.int .i64 z) := .rng _ _ _ (by rw [em]; omega) (by rw [en]; omega)
theorem vRng {f : Emb} {a b : Nat} {z : Int} (h : (a : Int) ≤ z) (g : z ≤ (b : Int)) : VR f (.rng (.ofNat a) (.ofNat b)) (.int .i64 z) := .rng _ _ _ h g
theorem vl {f : Emb} {x y z : AV} {a b c : Value} (h0 : VR f x a) (h1 : VR f y b) (h2 : VR f z c) : VL f [x, y, z] #[a, b, c].toList := .cons _ _ _ _ h0 (.cons _ _ _ _ h1 (.cons _ _ _ _ h2 .nil))
theorem pick {f : Emb} (n : Nat) (hn : n ≤ 20) {l : AV} {v : Value} (hl : VR f l v) {s c : Int} (hs : -9223372036854775808 ≤ s ∧ s ≤ 9223372036854775807) (hc : -9223372036854775808 ≤ c ∧ c ≤ 9223372036854775807) :
    ∃ x ∈ six n l, VL f x #[.int .i64 s, .int .i64 c, v].toList := by
  unfold six
  by_cases h1 : s < 0
  · exact ⟨_, .head _, vl (vLow hs h1) (vAny hc) hl⟩
  by_cases h2 : 1099511627776 < s
  · exact ⟨_, .tail _ (.head _), vl (vRng (by omega) (by omega)) (vAny hc) hl⟩
  by_cases h3 : c < 0
  · exact ⟨_, .tail _ (.tail _ (.head _)), vl (vRng (by omega) (by omega)) (vLow hc h3) hl⟩
  by_cases h4 : 1099511627776 < c
  · exact ⟨_, .tail _ (.tail _ (.tail _ (.head _))), vl (vRng (by omega) (by omega)) (vRng (by omega) (by omega)) hl⟩
  by_cases h5 : c ≤ ((n + 1 : Nat) : Int)
  · exact ⟨_, .tail _ (.tail _ (.tail _ (.tail _ (.head _)))), vl (vRng (by omega) (by omega)) (vRng (by omega) h5) hl⟩
  · exact ⟨_, .tail _ (.tail _ (.tail _ (.tail _ (.tail _ (.head _))))), vl (vRng (by omega) (by omega)) (vRng (by omega) (by omega)) hl⟩
/-! ### Many keys: the law tells what is told of all -/
theorem few_false (b x len cap : Nat) (Sx : Nat → ByteArray) (w : World) (hl : len ≤ 9223372036854775807) (hs : ∀ k, k < len → (Sx k).size ≤ 9223372036854775807) (hc : ∀ k, k < len → w.cell? ⟨b, x + k, none⟩ = some (.string (Sx k))) (hbad : 20 < len ∨ ∃ k, k < len ∧ 300 < (Sx k).size) :
    Calls Tryz.prog 4 #[.slice (some ⟨b, x, none⟩) len cap] w fun e w' => e = .returned (.bool false) ∧ w' = w := by
  go_enter Tryz.func4, Tryz.ntmps4
  go_wp2
  go_loop [3] (fun i => ∃ k : Nat, k ≤ len ∧ i = .int .i64 k ∧ ∀ j, j < k → (Sx j).size ≤ 300) (fun i => len - (intOf i).toNat)
  case atStart => exact ⟨0, Nat.zero_le _, rfl, fun j h => absurd h (by omega)⟩
  case round =>
    obtain ⟨k, hk, rfl, hpre⟩ := hrel
    have hcell : k < len → w.cell? ⟨b, x + k, none⟩ = some (.string (Sx k)) := hc k
    have hsz : k < len → (Sx k).size ≤ 9223372036854775807 := hs k
    go_wp2
    · go_ret
      exact ⟨rfl, rfl⟩
    · go_round
      case rel =>
        refine ⟨k + 1, by omega, by go_num, fun j hj => ?_⟩
        have h3 : ((Sx k).size : Int) ≤ 300 := by assumption
        by_cases e : j = k
        · subst e; omega
        · exact hpre j (by omega)
      case measure => simp [intOf]; omega
    · have hge : ¬ k < len := by assumption
      have e : k = len := by omega
      subst e
      have hb : 20 < k := hbad.elim id fun ⟨j, h1, h2⟩ => absurd (hpre j h1) (by omega)
      go_ret
      refine ⟨?_, rfl⟩
      have : ¬ ((k : Int) ≤ 20) := by omega
      simp [this]
theorem law_false {v : Value} {w : World} {s c : Int} (hf : Calls Tryz.prog 4 #[v] w fun e w' => e = .returned (.bool false) ∧ w' = w) (ht : Calls Tryz.prog 5 #[] w fun e w' => e = .returned (.bool true) ∧ Below w.heap.size w w') :
    Calls Tryz.prog 3 #[.int .i64 s, .int .i64 c, v] w fun e w' => e = .returned (.bool true) ∧ Below w.heap.size w w' := by
  go_enter Tryz.func3, Tryz.ntmps3
  go_wp2_with (first
    | (go_at_call 4; refine hf.mono ?_; rintro e w' ⟨rfl, rfl⟩)
    | (go_at_call 5; refine ht.mono ?_; rintro e w' ⟨rfl, hb⟩))
  go_ret
  exact ⟨rfl, hb⟩
/-! ### Arguments -/
section
open Go.Deep
variable {H : Type} {enc : TypeId × Value → H} {P : Program} {w : World}
/-- A slice of texts. -/
theorem open_texts {r : Reach} {b0 : Nat} {t e : Nat} {v : Value} {d : DataW H} {ps : List MemPlace} (ht : P.underlying t = some (.slice e)) (he : P.underlying e = some .string) (hc : P.cellsOf e = 1)
    (hv : Value.okWide P w r b0 t v) (hd : DataW.Trod enc P w 0 (fun _ => true) true t v d ps) :
    v = .slice none 0 0 ∨ ∃ b x len cap, v = .slice (some ⟨b, x, none⟩) len cap ∧ len ≤ cap ∧ cap ≤ maxLen ∧ (∃ cur ty fr, w.heap[b]? = some (.cells cur ty fr) ∧ (0 < cap → x + cap ≤ cur.size) ∧
      ∀ i, i < cap → ∃ s : ByteArray, cur[x + i]? = some (.string s) ∧ s.size ≤ maxLen) := by
  obtain ⟨a0, len0, cap0, rfl⟩ := WideShapes.okWide_slice ht hv
  obtain ⟨fuel, hf⟩ := hd
  rcases open_slice ht hf with ⟨hcs, _⟩ | ⟨a, len, cap, m, n, D, Pl, hcs, _, hl, hm, hmm, _, hx⟩
  · have hcs' : [Value.slice a0 len0 cap0] = [Value.slice none 0 0] := hcs
    exact .inl (List.cons.inj hcs').1
  · have hcs' : [Value.slice a0 len0 cap0] = [Value.slice (some a) len cap] := hcs
    obtain ⟨rfl, rfl, rfl⟩ : some a = a0 ∧ len = len0 ∧ cap = cap0 := by have := (List.cons.inj hcs').1; cases this; exact ⟨rfl, rfl, rfl⟩
    have hmm' : cap = m := by simpa using hmm.symm
    subst hmm'
    right
    simp only [Value.okWide, ht, Cell.okWide, Cell.ok] at hv
    obtain ⟨_, _, _, hsp, row, cells, hsh, _⟩ := hv
    obtain ⟨ab, ao, asp⟩ := a
    simp only at hsp
    subst hsp
    refine ⟨ab, ao, len, cap, rfl, hl, hm, ?_⟩
    unfold World.shape? at hsh
    split at hsh
    · rename_i cur ty fr hh
      refine ⟨cur, ty, fr, hh, ?_⟩
      have each : ∀ i, i < cap → ∃ s : ByteArray, cur[ao + i]? = some (.string s) ∧ s.size ≤ maxLen := fun i hi => by
        obtain ⟨cs', h1, h2⟩ := hx i hi
        rw [hc] at h1
        obtain ⟨_, hlen, hcell⟩ := World.cells?_some h1
        have hu : cs'[0]? = some cs'[0] := List.getElem?_eq_getElem (by omega)
        have hc1 := hcell 0 (by omega)
        rw [hu] at hc1
        have ha : ∀ (q o : Nat), (Addr.add ⟨ab, o, none⟩ q) = ⟨ab, o + q, none⟩ := fun q o => by
          unfold Addr.add
          split
          · rename_i h; subst h; rfl
          · rfl
        rw [ha, ha] at hc1
        unfold World.cell? at hc1
        simp only [hh] at hc1
        have h4 : cs' = [cs'[0]] := by
          cases cs' with
          | nil => simp at hlen
          | cons c l => cases l with
            | nil => rfl
            | cons c2 l2 => simp at hlen
        rw [h4] at h2
        obtain ⟨s, q1, _, q2⟩ := DataW.trod_string he h2
        have q1' : cs'[0] = .string s := (List.cons.inj q1).1
        exact ⟨s, by rw [← q1']; simpa using hc1, q2⟩
      refine ⟨fun hcap => ?_, each⟩
      obtain ⟨u, hu, _⟩ := each (cap - 1) (by omega)
      have := (Array.getElem?_eq_some_iff.1 hu).1
      omega
    · cases hsh
end
theorem walk {H : Type} {enc : TypeId × Value → H} {W : World} {base : Nat} {a0 a1 : Int} (w0 : (Lit.int .i64 a0).wf = true) (w1 : (Lit.int .i64 a1).wf = true) {v : Value} {d : DataW H} {ps : List MemPlace} (hv : Value.okWide Tryz.prog W .any base 22 v) (hd : DataW.Trod enc Tryz.prog W 0 (fun _ => true) true 22 v d ps)
    (ht : TabsAt gl W) : Calls Tryz.prog 3 #[.int .i64 a0, .int .i64 a1, v] W fun e W' => e = .returned (.bool true) ∧ Below W.heap.size W W' := by
  have b0 := bounds_i64 w0
  have b1 := bounds_i64 w1
  rcases open_texts Tryz.underlying22 Tryz.underlying9 (by kernel_rfl) hv hd with rfl | ⟨b, x, len, cap, rfl, hl, hm, cur, ty, ⟨lo, hi⟩, hb, hsz, hx⟩
  · obtain ⟨y, hy, hV⟩ := pick (f := gEmb gl) 0 (by omega) .nslice b0 b1
    exact rN y hy W ht _ hV
  · obtain ⟨Sx, hS⟩ := Go.Deep.choose_lt hx
    have hmx : cap ≤ 9223372036854775807 := hm
    by_cases hfew : len ≤ 20 ∧ ∀ k, k < len → (Sx k).size ≤ 300
    · obtain ⟨h20, h300⟩ := hfew
      by_cases hcap : 0 < cap
      · obtain ⟨y, hy, hV⟩ := pick (f := xEmb gl b x cap) len h20 (VR.slice (f := xEmb gl b x cap) 9 0 len len 1 false cap x (Nat.lt_succ_self _) (Nat.le_refl _) hl (fun _ => rfl) (fun _ => ⟨rfl, by show 0 + cap * 1 ≤ cap; omega⟩)) b0 b1
        refine rA len h20 y hy W b x cap ht ⟨cur, ty, lo, hi, hb, hsz hcap, by simpa [keys] using hl, fun i a hi => ?_⟩ _ hV
        obtain ⟨hil, e⟩ := List.getElem?_eq_some_iff.1 hi
        have hil' : i < len := by simpa [keys] using hil
        have e' : AV.txt 300 = a := by simpa [keys] using e
        subst e'
        exact ⟨_, (hS i (by omega)).1, .txt _ _ (h300 i hil')⟩
      · have h0 : len = 0 := by omega
        subst h0
        obtain ⟨y, hy, hV⟩ := pick (f := xEmb gl b 0 0) 0 h20 (VR.slice (f := xEmb gl b 0 0) 9 0 0 0 1 false cap x (Nat.lt_succ_self _) (Nat.le_refl _) (Nat.zero_le _) (fun h => absurd h hcap) (fun h => absurd h hcap)) b0 b1
        exact rA 0 h20 y hy W b 0 0 ht ⟨cur, ty, lo, hi, hb, Nat.zero_le _, Nat.le_refl _, fun i a hi => by simp [keys] at hi⟩ _ hV
    · refine law_false (few_false b x len cap Sx W (by omega) (fun k hk => (hS k (by omega)).2) (fun k hk => ?_) ?_) (rK W ht _ .nil)
      · unfold World.cell?
        rw [hb]
        exact (hS k (by omega)).1
      · by_cases h20 : len ≤ 20
        · right
          rcases Classical.em (∃ k, k < len ∧ 300 < (Sx k).size) with h | h
          · exact h
          · exact absurd ⟨h20, fun k hk => Nat.le_of_not_lt fun g => h ⟨k, hk, g⟩⟩ hfew
        · left; omega
end Go.Proofs.YtgkaojadfikegaaGreatDoor.KVmNobody
