/- Every number is one of those worked out. No condition. -/
import Derived.Test.YtaipinbbmlenaaaDoorE
namespace Go.Proofs.YtaipinbbmlenaaaDoor.G
open Go Go.X
set_option maxRecDepth 100000
set_option maxHeartbeats 0
theorem init_mono {k k' : AH → Prop} (h : init k) (hk : ∀ H, k H → k' H) : init k' :=
  storeL_mono _ _ _ _ _ h fun _ _ h => Bt.setK_mono _ _ _ _ _ h fun _ h => Bt.setK_mono _ _ _ _ _ h fun _ h => Bt.setK_mono _ _ _ _ _ h fun _ h => hk _ h
theorem hG_f6 {n r : Int} (h : Int.tmod n 20 = r) {H : AH} {K : KF} (g : hG r H K) : f6 n H K := by
  delta hG at g
  delta f6 f6_r f6_p0 f6_q0
  dsimp only at g ⊢
  refine pNewS_mono g fun v1 H2 g => ?_
  refine pNewS_mono g fun v3 H4 g => ?_
  refine pLen_mono g fun v5 g => ?_
  refine cI_mono g fun z6 g => ?_
  refine bI_mono g id fun g => ?_
  obtain ⟨h6, g⟩ := bT_out g
  rw [iEq_eq, beq_iff_eq] at h6
  subst h6
  rw [h]
  exact g
theorem all : ∀ r : Int, -20 < r → r < 20 → (init fun H => hG r H (isB true)) = True
  | .ofNat 0, _, _ => e0
  | .ofNat 1, _, _ => e1
  | .ofNat 2, _, _ => e2
  | .ofNat 3, _, _ => e3
  | .ofNat 4, _, _ => e4
  | .ofNat 5, _, _ => e5
  | .ofNat 6, _, _ => e6
  | .ofNat 7, _, _ => e7
  | .ofNat 8, _, _ => e8
  | .ofNat 9, _, _ => e9
  | .ofNat 10, _, _ => e10
  | .ofNat 11, _, _ => e11
  | .ofNat 12, _, _ => e12
  | .ofNat 13, _, _ => e13
  | .ofNat 14, _, _ => e14
  | .ofNat 15, _, _ => e15
  | .ofNat 16, _, _ => e16
  | .ofNat 17, _, _ => e17
  | .ofNat 18, _, _ => e18
  | .ofNat 19, _, _ => e19
  | .negSucc 0, _, _ => m1
  | .negSucc 1, _, _ => m2
  | .negSucc 2, _, _ => m3
  | .negSucc 3, _, _ => m4
  | .negSucc 4, _, _ => m5
  | .negSucc 5, _, _ => m6
  | .negSucc 6, _, _ => m7
  | .negSucc 7, _, _ => m8
  | .negSucc 8, _, _ => m9
  | .negSucc 9, _, _ => m10
  | .negSucc 10, _, _ => m11
  | .negSucc 11, _, _ => m12
  | .negSucc 12, _, _ => m13
  | .negSucc 13, _, _ => m14
  | .negSucc 14, _, _ => m15
  | .negSucc 15, _, _ => m16
  | .negSucc 16, _, _ => m17
  | .negSucc 17, _, _ => m18
  | .negSucc 18, _, _ => m19
  | .ofNat (n + 20), _, h => absurd h (by show ¬ ((n + 20 : Nat) : Int) < 20; omega)
  | .negSucc (n + 19), h, _ => absurd h (by rw [Int.negSucc_eq]; omega)
theorem run_all (n : Int) : init (fun H => f6 n H (isB true)) := by
  have h1 : -20 < Int.tmod n 20 := by have := Int.lt_tmod_of_pos n (b := 20) (by omega); omega
  have h2 : Int.tmod n 20 < 20 := Int.tmod_lt_of_pos n (by omega)
  exact init_mono (of_eq_true (all _ h1 h2)) fun H g => hG_f6 rfl g
end Go.Proofs.YtaipinbbmlenaaaDoor.G
