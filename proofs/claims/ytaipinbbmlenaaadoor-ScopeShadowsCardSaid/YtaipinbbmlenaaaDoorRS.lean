/- Every pair of numbers is one of those worked out. No condition. -/
import Derived.Test.YtaipinbbmlenaaaDoorES
namespace Go.Proofs.YtaipinbbmlenaaaDoor.G
open Go Go.X
set_option maxRecDepth 100000
set_option maxHeartbeats 0
theorem wrapK_eq (c : Nat) (z : Int) (k : Int → Prop) : wrapK c z k = k ((kd c).wrap z) := propext ⟨wrapK_out, wrapK_intro⟩
theorem cS_eq (n : Int) : ∃ r : Nat, r < 6 ∧ cS n = forceI (.ofNat r) := by
  refine ⟨(Int.tmod ((kd 0).wrap (Int.add (Int.tmod n 6) 6)) 6).toNat, ?_, ?_⟩
  all_goals
    have h1 : -6 < Int.tmod n 6 := by have := Int.lt_tmod_of_pos n (b := 6) (by omega); omega
    have h2 : Int.tmod n 6 < 6 := Int.tmod_lt_of_pos n (by omega)
    have h3 : (kd 0).wrap (Int.add (Int.tmod n 6) 6) = Int.tmod n 6 + 6 := by
      exact wrap_small (c := 0) rfl (by show -(9223372036854775808 : Int) ≤ Int.tmod n 6 + 6; omega) (by show Int.tmod n 6 + 6 < (9223372036854775808 : Int); omega)
    have h4 : Int.tmod (Int.tmod n 6 + 6) 6 < 6 := Int.tmod_lt_of_pos _ (by omega)
    have h5 : 0 ≤ Int.tmod (Int.tmod n 6 + 6) 6 := Int.tmod_nonneg _ (by omega)
    rw [h3]
  · omega
  · funext k
    show (forceI (Int.tmod n 6) fun z => wrapK 0 (Int.add z 6) fun z => forceI (Int.tmod z 6) k) = _
    rw [forceI_eq, wrapK_eq, forceI_eq, forceI_eq, h3]
    congr 1
    show _ = ((Int.tmod (Int.tmod n 6 + 6) 6).toNat : Int)
    omega
theorem dS_eq (n : Int) : ∃ q : Nat, q < 5 ∧ dS n = forceI (.ofNat q) := by
  refine ⟨(Int.tmod ((kd 3).wrap n) 5).toNat, ?_, ?_⟩
  all_goals
    have h0 : 0 ≤ (kd 3).wrap n := by
      show 0 ≤ IntKind.wrap .u64 n
      simp only [IntKind.wrap, IntKind.bits, IntKind.signed, Bool.false_and, Bool.false_eq_true, if_false]
      exact Int.emod_nonneg _ (by decide)
    have h4 : Int.tmod ((kd 3).wrap n) 5 < 5 := Int.tmod_lt_of_pos _ (by omega)
    have h5 : 0 ≤ Int.tmod ((kd 3).wrap n) 5 := Int.tmod_nonneg _ h0
  · omega
  · funext k
    show (wrapK 3 n fun z => forceI (Int.tmod z (.ofNat 5)) k) = _
    rw [wrapK_eq, forceI_eq, forceI_eq]
    congr 1
    show Int.tmod ((kd 3).wrap n) 5 = ((Int.tmod ((kd 3).wrap n) 5).toNat : Int)
    omega
theorem fin {r q : Nat} (h : (init fun H => hS (forceI (.ofNat r)) (forceI (.ofNat q)) H (isB true)) = True) {c d : (Int → Prop) → Prop} (e : c = forceI (.ofNat r)) (e' : d = forceI (.ofNat q)) : init fun H => hS c d H (isB true) := by
  subst e e'
  exact of_eq_true h
theorem all : ∀ r q : Nat, r < 6 → q < 5 → (init fun H => hS (forceI (.ofNat r)) (forceI (.ofNat q)) H (isB true)) = True
  | 0, 0, _, _ => e0_0
  | 0, 1, _, _ => e0_1
  | 0, 2, _, _ => e0_2
  | 0, 3, _, _ => e0_3
  | 0, 4, _, _ => e0_4
  | 1, 0, _, _ => e1_0
  | 1, 1, _, _ => e1_1
  | 1, 2, _, _ => e1_2
  | 1, 3, _, _ => e1_3
  | 1, 4, _, _ => e1_4
  | 2, 0, _, _ => e2_0
  | 2, 1, _, _ => e2_1
  | 2, 2, _, _ => e2_2
  | 2, 3, _, _ => e2_3
  | 2, 4, _, _ => e2_4
  | 3, 0, _, _ => e3_0
  | 3, 1, _, _ => e3_1
  | 3, 2, _, _ => e3_2
  | 3, 3, _, _ => e3_3
  | 3, 4, _, _ => e3_4
  | 4, 0, _, _ => e4_0
  | 4, 1, _, _ => e4_1
  | 4, 2, _, _ => e4_2
  | 4, 3, _, _ => e4_3
  | 4, 4, _, _ => e4_4
  | 5, 0, _, _ => e5_0
  | 5, 1, _, _ => e5_1
  | 5, 2, _, _ => e5_2
  | 5, 3, _, _ => e5_3
  | 5, 4, _, _ => e5_4
  | r + 6, _, h, _ => absurd h (by omega)
  | _, q + 5, _, h => absurd h (by omega)
theorem run_shadows (n m : Int) : init (fun H => f7 n m H (isB true)) := by
  rw [stA]
  obtain ⟨r, hr, e⟩ := cS_eq n
  obtain ⟨q, hq, e'⟩ := dS_eq m
  exact fin (all r q hr hq) e e'
end Go.Proofs.YtaipinbbmlenaaaDoor.G
