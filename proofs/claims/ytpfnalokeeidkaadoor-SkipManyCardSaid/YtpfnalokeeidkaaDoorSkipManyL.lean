/- The law SkipMany over lists. No condition: lemmas. -/
import Derived.Test.YtpfnalokeeidkaaDoorC
set_option linter.unusedVariables false
set_option linter.unusedSimpArgs false
namespace Go.Proofs.YtpfnalokeeidkaaDoor
open Go Go.X Go.Proofs.YtpfnalokeeidkaaDoor.G
set_option maxRecDepth 100000
set_option maxHeartbeats 1600000
set_option linter.unusedVariables false
set_option linter.unusedSimpArgs false
variable {H : AH} {S : LS} {K : KF}
def nmI (i : Nat) : Nm := if h : i < 65536 then ⟨2, i, h⟩ else ⟨0, 0, by decide⟩
theorem nmI_inj {i j : Nat} (hi : i < 65536) (hj : j < 65536) (h : nmI i = nmI j) : i = j := by
  unfold nmI at h
  rw [dif_pos hi, dif_pos hj] at h
  exact congrArg Nm.x h
theorem hasN_putL {L : List Sc} {x : Sc} {a : Nm} : hasN (putL L x) a = (decide (x.nm = a) || hasN L a) := by
  rw [Bool.eq_iff_iff, Bool.or_eq_true, hasN_iff, hasN_iff, decide_eq_true_eq]
  constructor
  · rintro ⟨y, h1, h2⟩
    rcases mem_putL.1 h1 with e | ⟨e, _⟩
    · subst e; exact .inl h2
    · exact .inr ⟨y, e, h2⟩
  · rintro (h | ⟨y, h1, h2⟩)
    · exact ⟨x, mem_putL.2 (.inl rfl), h⟩
    · by_cases g : y.nm = x.nm
      · exact ⟨x, mem_putL.2 (.inl rfl), g ▸ h2⟩
      · exact ⟨y, mem_putL.2 (.inr ⟨h1, g⟩), h2⟩
theorem hasN_delL {L : List Sc} {b a : Nm} : hasN (delL b L) a = (!decide (b = a) && hasN L a) := by
  rw [Bool.eq_iff_iff, Bool.and_eq_true, hasN_iff, hasN_iff, Bool.not_eq_true', decide_eq_false_iff_not]
  constructor
  · rintro ⟨y, h1, h2⟩
    obtain ⟨g1, g2⟩ := mem_delL.1 h1
    exact ⟨fun e => g2 (by rw [h2, e]), y, g1, h2⟩
  · rintro ⟨h, y, h1, h2⟩
    exact ⟨y, mem_delL.2 ⟨h1, fun e => h (by rw [← e, h2])⟩, h2⟩
theorem delL_len {a : Nm} : ∀ {L : List Sc}, Srt L → Nms L → hasN L a = true → (delL a L).length + 1 = L.length
  | [], _, _, h => by cases h
  | x :: L, hs, hn, h => by
    have hs' := List.pairwise_cons.1 hs
    by_cases g : x.nm = a
    · have hL : hasN L a = false := by
        cases e : hasN L a with
        | false => rfl
        | true =>
          obtain ⟨y, h1, h2⟩ := hasN_iff.1 e
          have : x = y := hn x (by simp) y (by simp [h1]) (by rw [g, h2])
          subst this
          exact absurd (hs'.1 x h1) (slt_irrefl x)
      have : delL a (x :: L) = delL a L := by simp [delL, g]
      rw [this, delL_away hL]; rfl
    · have hL : hasN L a = true := by
        obtain ⟨y, h1, h2⟩ := hasN_iff.1 h
        rcases List.mem_cons.1 h1 with e | e
        · subst e; exact absurd h2 g
        · exact hasN_iff.2 ⟨y, e, h2⟩
      have : delL a (x :: L) = x :: delL a L := by simp [delL, g]
      rw [this, List.length_cons, List.length_cons, delL_len hs'.2 (fun u hu w hw => hn u (by simp [hu]) w (by simp [hw])) hL]
theorem putL_len {x : Sc} {L : List Sc} (hs : Srt L) (hn : Nms L) : (putL L x).length = if hasN L x.nm then L.length else L.length + 1 := by
  unfold putL
  rw [len_insL]
  cases h : hasN L x.nm with
  | true => rw [if_pos rfl, delL_len hs hn h]
  | false => rw [if_neg (by simp), delL_away h]
end Go.Proofs.YtpfnalokeeidkaaDoor

namespace Go.Proofs.YtpfnalokeeidkaaDoor
open Go Go.X Go.Proofs.YtpfnalokeeidkaaDoor.G
set_option maxRecDepth 100000
set_option maxHeartbeats 1600000
set_option linter.unusedVariables false
set_option linter.unusedSimpArgs false
variable {H : AH} {S : LS} {K : KF}
theorem w1 {z : Int} {k : Int → Prop} (h : k (z % 256)) : wrapK 1 z k := wrapK_i wrap1 h
theorem pShr8 {i : Nat} {k : AV → Prop} (h : k (.int 0 ((i / 256 : Nat) : Int))) : pShr 0 (.int 0 (i : Int)) (.int 3 (.ofNat 8)) k := by
  have e : Nat.shiftRight i 8 = i / 256 := Nat.shiftRight_eq_div_pow i 8
  show bT true (forceI (.ofNat (Nat.shiftRight i 8)) fun z => k (.int 0 z))
  refine bT_i rfl (forceI_i ?_)
  rw [e]
  exact h
theorem f14_i {i : Nat} (hM : Mem H S) (hi : i < 65536) (hK : ∀ H' S', Mem H' S' → Ext S S' → K (.ret (nmI i).av) H') : f14 (i : Int) H K := by
  show f14_q0 f14_rr K (i : Int) H
  unfold f14_q0
  refine w1 (pShr8 ?_)
  simp only [cI_z]
  refine w1 ?_
  have e1 : ((i : Int) % 256) = ((i % 256 : Nat) : Int) := rfl
  have e2 : (((i / 256 : Nat) : Int) % 256) = ((i / 256 % 256 : Nat) : Int) := rfl
  rw [e1, e2]
  refine pNewS_i hM rfl (by simp) fun H1 h1 => ?_
  show bT (Nat.beq 1 1) (getK H1 S.n fun c _ _ => loadL c 2 0 fun l => numL l fun n x => K (.ret (.str n x)) H1)
  refine bT_i rfl (h1.getK_i (LS.push_ob_self _ _) fun c hc => loadL_i hc 2 0 (by simp) ?_)
  show bT (Nat.beq 1 1) (bT (Nat.ble (i % 256) 255) (bT (Nat.beq 1 1) (bT (Nat.ble (i / 256 % 256) 255) (forceN (Nat.succ 0) fun n' => forceN (Nat.add (i / 256 % 256) (Nat.mul 256 0)) fun x' => forceN (Nat.succ n') fun n2 => forceN (Nat.add (i % 256) (Nat.mul 256 x')) fun x2 => K (.ret (.str n2 x2)) H1))))
  refine bT_i rfl (bT_i (Nat.ble_eq_true_of_le (by omega)) (bT_i rfl (bT_i (Nat.ble_eq_true_of_le (by omega)) ?_)))
  simp only [forceN_eq]
  have e3 : AV.str (Nat.succ (Nat.succ 0)) (Nat.add (i % 256) (Nat.mul 256 (Nat.add (i / 256 % 256) (Nat.mul 256 0)))) = (nmI i).av := by
    unfold nmI
    rw [dif_pos hi]
    show AV.str 2 (i % 256 + 256 * (i / 256 % 256 + 256 * 0)) = AV.str 2 i
    congr 1
    omega
  rw [e3]
  exact hK H1 _ h1 (Ext.push _ _)
theorem nmI_n (i : Nat) : (nmI i).n ≤ maxLen := by
  have : (2 : Nat) ≤ maxLen := by decide
  unfold nmI
  split
  · exact this
  · exact Nat.zero_le _
theorem call14 {R : f4_R} {i : Int} {k : COut → AH → Prop} (h : R.2.2.2.2.1 i H k) : onFunc (.func 14 [] []) fun g x y => bT (hasBody Tryd.prog g) (callT (f4_ct R) g (x ++ ([.int 0 i] ++ y)) H k) := by
  refine bT_i (b := hasBody Tryd.prog 14) (by kernel_rfl) ?_
  exact h
theorem r4a : f4_rr.1 = f7 := rfl
theorem r4b : f4_rr.2.1 = f9 := rfl
theorem r4c : f4_rr.2.2.1 = f11 := rfl
theorem r4d : f4_rr.2.2.2.1 = f13 := rfl
theorem r4e : f4_rr.2.2.2.2.1 = f14 := rfl
theorem r4f : f4_rr.2.2.2.2.2.1 = f15 := rfl
theorem r4g : f4_rr.2.2.2.2.2.2.1 = f16 := rfl
theorem r4h : f4_rr.2.2.2.2.2.2.2 = f17 := rfl
/-- Which names there are. -/
structure Hld (S : LS) (sb mk len : Nat) (p : Nat → Prop) [DecidablePred p] : Prop where
  ex : ∃ mb ns, SetA S sb mb ns mk ∧ (scs ns).length = len ∧ ∀ j, j < 400 → hasN (scs ns) (nmI j) = decide (p j)
  tab : Tab S
theorem Hld.ext {S' : LS} {sb mk len : Nat} {p : Nat → Prop} [DecidablePred p] (h : Hld S sb mk len p) (hM : Mem H S) (hx : Ext S S') : Hld S' sb mk len p := by
  obtain ⟨⟨mb, ns, h1, h2⟩, h3⟩ := h
  exact ⟨⟨mb, ns, h1.ext hM hx, h2⟩, h3.ext hM hx⟩
section
variable {sb k m : Nat}
theorem f4_end {mk : Nat} {p : Nat → Prop} [DecidablePred p] (hM : Mem H S) (h : Hld S sb mk 0 p) (hK : ∀ H', K (.ret (.bool true)) H') : f4_q5 f4_rr K (.ptr sb 0) H := by
  obtain ⟨⟨mb, ns, hA, hL, _⟩, hT⟩ := h
  have hL0 : scs ns = [] := List.eq_nil_of_length_eq_zero hL
  unfold f4_q5
  rw [r4a, r4b, r4c, r4g]
  refine f7_i hM hT fun H1 S1 h1 x1 => ?_
  simp only [cR_ret, onB_b, bI_tt]
  have hA1 := hA.ext hM x1
  refine f16_i h1 hA1 ?_
  simp only [cR_ret, cI_z, hL, iEq_d]
  rw [show decide (((0 : Nat) : Int) = Int.ofNat 0) = true from rfl]
  simp only [bI_tt]
  refine f9_i h1 hA1 fun H2 S2 v h2 x2 o2 => ?_
  have r2 := o2.rd h2 (Q := fun _ => True) fun _ _ _ => trivial
  simp only [cR_ret]
  refine r2.len ?_
  simp only [cI_z, hL]
  rw [show decide (((0 : Nat) : Int) = Int.ofNat 0) = true from rfl]
  simp only [bI_tt]
  generalize Int.ofNat 4611686018427387904 = z
  refine f11_n h2 (hA1.ext h1 x2) z fun H3 S3 p h3 x3 hp hc => ?_
  have p0 : p = 0 := by omega
  subst p0
  simp only [cR_ret, cI_z]
  exact hK H3
theorem f4_third (hk : k ≤ 400) (hK : ∀ H', K (.ret (.bool true)) H') : ∀ (n i : Nat) {H : AH} {S : LS} {mk : Nat}, Mem H S → Hld S sb mk (k - i) (fun j => i ≤ j ∧ j < k) → i ≤ k → k - i < n → mk ≤ 2000 → f4_l7 f4_rr K n k (.ptr sb 0) (.func 14 [] []) i H
  | 0, _, _, _, _, _, _, _, h, _ => by omega
  | n + 1, i, H, S, mk, hM, h, hi, hn, hmk => by
    show f4_q7 f4_rr K (f4_l7 f4_rr K n) (f4_p5 f4_rr K) k (.ptr sb 0) (.func 14 [] []) i H
    unfold f4_q7
    rw [r4h]
    simp only [iLt_d]
    refine bI_dec (fun g => ?_) (fun g => ?_)
    · refine call14 ?_
      rw [r4e]
      refine f14_i hM (by omega) fun H1 S1 h1 x1 => ?_
      simp only [cR_ret]
      obtain ⟨⟨mb, ns, hA, hL, hh⟩, hT⟩ := h.ext hM x1
      refine f17_i h1 hA hT (nmI_n i) fun H2 S2 ns2 h2 f2 hA2 hT2 hL2 hn2 ho2 => ?_
      have e1 : hasN (scs ns) (nmI i) = true := by rw [hh i (by omega)]; simp; omega
      rw [e1]
      simp only [cR_ret, onB_b, Bool.not_true, bI_ff]
      refine call14 ?_
      rw [r4e]
      refine f14_i h2 (by omega) fun H3 S3 h3 x3 => ?_
      simp only [cR_ret]
      refine f17_i h3 (hA2.ext h2 x3) (hT2.ext h2 x3) (nmI_n i) fun H4 S4 ns4 h4 f4 hA4 hT4 hL4 hn4 ho4 => ?_
      have e2 : hasN (scs ns2) (nmI i) = false := by rw [hL2, hasN_delL]; simp
      rw [e2]
      simp only [cR_ret, onB_b, bI_ff, iadd, io1]
      refine w0 (by omega) (by omega) ?_
      have e4 : scs ns4 = scs ns2 := by rw [hL4, delL_away e2]
      refine f4_third hk hK n (i + 1) h4 ⟨⟨mb, ns4, hA4, ?_, fun j hj => ?_⟩, hT4⟩ (by omega) (by omega) hmk
      · have := delL_len hA.srt hA.nms e1
        rw [e4, hL2]; omega
      · rw [e4, hL2, hasN_delL, hh j hj]
        by_cases ej : i = j
        · subst ej; simp; omega
        · have : nmI i ≠ nmI j := fun e => ej (nmI_inj (by omega) (by omega) e)
          simp only [this, decide_false, Bool.not_false, Bool.true_and]
          congr 1
          apply propext
          omega
    · have : i = k := by omega
      subst this
      rw [Nat.sub_self] at h
      exact f4_end hM h hK
theorem f4_second (hk : k ≤ 400) (hm : 0 < m) (hm2 : m ≤ 50) (hK : ∀ H', K (.ret (.bool true)) H') : ∀ (n i : Nat) {H : AH} {S : LS}, Mem H S → Hld S sb (k + i) k (fun j => j < k) → i ≤ k → k - i < n → f4_l6 f4_rr K n k m (.ptr sb 0) (.func 14 [] []) i H
  | 0, _, _, _, _, _, _, h => by omega
  | n + 1, i, H, S, hM, h, hi, hn => by
    show f4_q6 f4_rr K (f4_l6 f4_rr K n) (f4_p3 f4_rr K) k m (.ptr sb 0) (.func 14 [] []) i H
    unfold f4_q6
    rw [r4f, r4g]
    simp only [iLt_d, iEq_d]
    refine bI_dec (fun g => ?_) (fun g => ?_)
    · have en : Int.neg (i : Int) = -(i : Int) := rfl
      rw [en]
      refine w0 (by omega) (by omega) ?_
      rw [show decide ((m : Int) = 0) = false from decide_eq_false (by omega)]
      simp only [bI_ff, forceI_s]
      refine call14 ?_
      rw [r4e]
      refine f14_i hM (by omega) fun H1 S1 h1 x1 => ?_
      simp only [cR_ret]
      obtain ⟨⟨mb, ns, hA, hL, hh⟩, hT⟩ := h.ext hM x1
      generalize hz : Int.tmod (-(i : Int)) m = z
      have hlen := @scs_len ns
      show f15 (.ptr sb 0) (Sc.nm ⟨nmI i, z⟩).av (Sc.s ⟨nmI i, z⟩) H1 _
      refine f15_i h1 hA hT (by omega) (by omega) ⟨nmI i, z⟩ (nmI_n i) fun H2 S2 ns2 h2 f2 hA2 hT2 hL2 hn2 ho2 => ?_
      have e1 : hasN (scs ns) (nmI i) = true := by rw [hh i (by omega)]; simp; omega
      have l2 : (scs ns2).length = k := by rw [hL2, putL_len hA.srt hA.nms, show (Sc.nm ⟨nmI i, z⟩) = nmI i from rfl, e1, if_pos rfl, hL]
      simp only [cR_ret, onB_b, e1, Bool.not_true, bI_ff]
      refine f16_i h2 hA2 ?_
      simp only [cR_ret, cI_z, l2, decide_true, Bool.not_true, bI_ff, iadd, io1]
      refine w0 (by omega) (by omega) ?_
      refine f4_second hk hm hm2 hK n (i + 1) h2 ⟨⟨mb, ns2, hA2, l2, fun j hj => ?_⟩, hT2⟩ (by omega) (by omega)
      rw [hL2, hasN_putL, hh j hj]
      by_cases ej : i = j
      · subst ej; simp; omega
      · have : nmI i ≠ nmI j := fun e => ej (nmI_inj (by omega) (by omega) e)
        simp [this]
    · have : i = k := by omega
      subst this
      show f4_q3 f4_rr K (f4_l7 f4_rr K NL) i (.ptr sb 0) (.func 14 [] []) H
      unfold f4_q3
      refine f4_third (k := i) hk hK NL 0 hM ⟨?_, h.tab⟩ (by omega) (by have : NL = 1000000 := rfl; omega) (by show i + i ≤ 2000; omega)
      obtain ⟨mb, ns, hA, hL, hh⟩ := h.ex
      exact ⟨mb, ns, hA, hL, fun j hj => by rw [hh j hj]; congr 1; apply propext; omega⟩
theorem f4_first (hk : k ≤ 400) (hm : 0 < m) (hm2 : m ≤ 50) (hK : ∀ H', K (.ret (.bool true)) H') : ∀ (n i : Nat) {H : AH} {S : LS}, Mem H S → Hld S sb i i (fun j => j < i) → i ≤ k → k - i < n → f4_l4 f4_rr K n k m (.ptr sb 0) (.func 14 [] []) i H
  | 0, _, _, _, _, _, _, h => by omega
  | n + 1, i, H, S, hM, h, hi, hn => by
    show f4_q4 f4_rr K (f4_l4 f4_rr K n) (f4_p2 f4_rr K) k m (.ptr sb 0) (.func 14 [] []) i H
    unfold f4_q4
    rw [r4f]
    simp only [iLt_d, iEq_d]
    refine bI_dec (fun g => ?_) (fun g => ?_)
    · rw [show decide ((m : Int) = 0) = false from decide_eq_false (by omega)]
      simp only [bI_ff, forceI_s]
      refine call14 ?_
      rw [r4e]
      refine f14_i hM (by omega) fun H1 S1 h1 x1 => ?_
      simp only [cR_ret]
      obtain ⟨⟨mb, ns, hA, hL, hh⟩, hT⟩ := h.ext hM x1
      generalize hz : Int.tmod (i : Int) m = z
      have hlen := @scs_len ns
      show f15 (.ptr sb 0) (Sc.nm ⟨nmI i, z⟩).av (Sc.s ⟨nmI i, z⟩) H1 _
      refine f15_i h1 hA hT (by omega) (by omega) ⟨nmI i, z⟩ (nmI_n i) fun H2 S2 ns2 h2 f2 hA2 hT2 hL2 hn2 ho2 => ?_
      have e1 : hasN (scs ns) (nmI i) = false := by rw [hh i (by omega)]; simp
      have l2 : (scs ns2).length = i + 1 := by rw [hL2, putL_len hA.srt hA.nms, show (Sc.nm ⟨nmI i, z⟩) = nmI i from rfl, e1, if_neg (by simp), hL]
      simp only [cR_ret, onB_b, e1, Bool.not_false, Bool.not_true, bI_ff, iadd, io1]
      refine w0 (by omega) (by omega) ?_
      refine f4_first hk hm hm2 hK n (i + 1) h2 ⟨⟨mb, ns2, hA2, l2, fun j hj => ?_⟩, hT2⟩ (by omega) (by omega)
      rw [hL2, hasN_putL, hh j hj]
      by_cases ej : i = j
      · subst ej; simp
      · have : nmI i ≠ nmI j := fun e => ej (nmI_inj (by omega) (by omega) e)
        simp only [this, decide_false, Bool.false_or]
        congr 1
        apply propext
        omega
    · have : i = k := by omega
      subst this
      show f4_q2 f4_rr K (f4_l6 f4_rr K NL) i m (.ptr sb 0) (.func 14 [] []) H
      unfold f4_q2
      exact f4_second (k := i) hk hm hm2 hK NL 0 hM h (by omega) (by have : NL = 1000000 := rfl; omega)
end
theorem f4_i {a b : Int} (hM : Mem H S) (hT : Tab S) (hK : ∀ H', K (.ret (.bool true)) H') : f4 a b H K := by
  show f4_q0 f4_rr K (f4_p1 f4_rr K) a b H
  unfold f4_q0
  rw [r4d]
  obtain ⟨u, hu⟩ := Int.eq_ofNat_of_zero_le (Int.emod_nonneg a (show (18446744073709551616 : Int) ≠ 0 by omega))
  obtain ⟨v, hv⟩ := Int.eq_ofNat_of_zero_le (Int.emod_nonneg b (show (18446744073709551616 : Int) ≠ 0 by omega))
  refine w3 ?_
  rw [hu, show iEq (Int.ofNat 400) 0 = false from rfl]
  simp only [bI_ff, forceI_s, iadd, io1]
  have e1 : Int.tmod ((u : Nat) : Int) (Int.ofNat 400) = ((u % 400 : Nat) : Int) := rfl
  rw [e1]
  refine w0 (by omega) (by omega) ?_
  refine w0 (by omega) (by omega) ?_
  refine w3 ?_
  rw [hv, show iEq (Int.ofNat 50) 0 = false from rfl]
  simp only [bI_ff]
  have e2 : Int.tmod ((v : Nat) : Int) (Int.ofNat 50) = ((v % 50 : Nat) : Int) := rfl
  rw [e2]
  refine w0 (by omega) (by omega) ?_
  refine w0 (by omega) (by omega) ?_
  obtain ⟨k, hk⟩ : ∃ k, k = 1 + u % 400 := ⟨_, rfl⟩
  obtain ⟨m, hm⟩ : ∃ m, m = 1 + v % 50 := ⟨_, rfl⟩
  rw [show 1 + ((u % 400 : Nat) : Int) = (k : Int) by rw [hk]; omega, show 1 + ((v % 50 : Nat) : Int) = (m : Int) by rw [hm]; omega]
  refine f13_i hM fun H1 S1 sb mb ns h1 x1 hA1 hL1 hn1 ho1 => ?_
  simp only [cR_ret, pPEq_pn, onB_b, Bool.not_true, bI_ff]
  show f4_q1 f4_rr K (f4_l4 f4_rr K NL) k m (.ptr sb 0) H1
  unfold f4_q1
  exact f4_first (by omega) (by omega) (by omega) hK NL 0 h1 ⟨⟨mb, ns, hA1, by rw [hL1]; rfl, fun j hj => by rw [hL1]; simp [hasN]⟩, hT.ext hM x1⟩ (by omega) (by have : NL = 1000000 := rfl; omega)
end Go.Proofs.YtpfnalokeeidkaaDoor
