/- The law ChunkPlays over lists. No condition: lemmas. -/
import Derived.Test.YthjmjehfcjchfaaC
set_option linter.unusedVariables false
set_option linter.unusedSimpArgs false
namespace Go.Proofs.Ythjmjehfcjchfaa
open Go Go.X Go.Proofs.Ythjmjehfcjchfaa.G
set_option maxRecDepth 100000
set_option maxHeartbeats 1600000
set_option linter.unusedVariables false
set_option linter.unusedSimpArgs false
variable {H : AH} {S : LS} {K : KF}
noncomputable def R3 : f3_R := (toldK, g8, f9, f10, f11, f12, f13, f14)
noncomputable def g3 : AV → Int → AH → KF → Prop := f3_r R3
theorem g3_ok : FunOk Try.prog 3 (fnX [.a, .i 0] g3) := f3_rok R3 (CTblOk.cons told_ok (CTblOk.cons g8_ok (CTblOk.cons f9_ok (CTblOk.cons f10_ok (CTblOk.cons f11_ok (CTblOk.cons f12_ok (CTblOk.cons f13_ok (CTblOk.cons f14_ok CTblOk.nil))))))))
theorem r3a : R3.1 = toldK := rfl
theorem r3b : R3.2.1 = g8 := rfl
theorem r3c : R3.2.2.1 = f9 := rfl
theorem r3d : R3.2.2.2.1 = f10 := rfl
theorem r3e : R3.2.2.2.2.1 = f11 := rfl
theorem r3f : R3.2.2.2.2.2.1 = f12 := rfl
theorem r3g : R3.2.2.2.2.2.2.1 = f13 := rfl
theorem r3h : R3.2.2.2.2.2.2.2 = f14 := rfl
theorem prt_at {L : List AV} {k : Nat} (h : k < L.length) : prt L k k = (L.drop k).take 1 := by
  unfold prt frZ toZ
  have e1 : (if (k : Int) < 0 then max ((k : Int) + L.length) 0 else (k : Int)) = k := if_neg (by omega)
  have e2 : (if (k : Int) < 0 then (k : Int) + L.length else (k : Int)) = k := if_neg (by omega)
  rw [e1, e2, if_neg (by omega)]
  congr 1
  · omega
theorem prt_end {L : List AV} {k : Nat} (h : k < L.length) : prt L (k - (L.length : Int)) (-1) = L.drop k := by
  unfold prt frZ toZ
  have e1 : (if (k : Int) - L.length < 0 then max ((k : Int) - L.length + L.length) 0 else (k : Int) - L.length) = k := by rw [if_pos (by omega)]; omega
  have e2 : (if (-1 : Int) < 0 then (-1 : Int) + L.length else (-1 : Int)) = L.length - 1 := by rw [if_pos (by omega)]; omega
  rw [e1, e2, if_neg (by omega)]
  have e3 : ((k : Int).toNat) = k := by omega
  rw [e3]
  exact List.take_of_length_le (by simp)
theorem plc_pos {n i : Nat} (h : i < n) : plc n (i : Int) = some i := by
  unfold plc
  rw [if_neg (by omega), if_pos (by omega)]
  rfl
theorem plc_neg {n i : Nat} (h : i < n) : plc n ((i : Int) - n) = some i := by
  unfold plc
  rw [if_pos (by omega), if_neg (by omega)]
  congr 1
  omega
theorem plc_over {n : Nat} : plc n (n : Int) = none := by
  unfold plc
  rw [if_neg (by omega), if_neg (by omega)]
theorem plc_under {n : Nat} : plc n (-(n : Int) - 1) = none := by
  unfold plc
  rw [if_pos (by omega), if_pos (by omega)]
section
variable {W W' : Nat → Prop} {rb sb : Nat}
theorem At_some {L : List AV} {z : Int} {i : Nat} {a : AV} (hM : Mem H S) (hR : RowE S W rb L) (hl : L.length ≤ 100000) (hz : i64 z) (hp : plc L.length z = some i) (ha : L[i]? = some a) (hK : K (.ret (.tup [a, .bool true])) H) : f10 (.ptr rb 0) z H K :=
  f10_i hM hR hz hl (fun h => by rw [hp] at h; cases h) fun j b h1 h2 => by
    rw [hp] at h1
    cases h1
    rw [ha] at h2
    cases h2
    exact hK
theorem At_none {L : List AV} {z : Int} (hM : Mem H S) (hR : RowE S W rb L) (hl : L.length ≤ 100000) (hz : i64 z) (hp : plc L.length z = none) (hK : K (.ret (.tup [.str 0 0, .bool false])) H) : f10 (.ptr rb 0) z H K :=
  f10_i hM hR hz hl (fun _ => hK) fun j b h1 _ => by rw [hp] at h1; cases h1
theorem g3_q2 {Q : Nat → Prop} {v : AV} {l : List AV} {k : Nat} {a : AV} (hM : Mem H S) (hr : RdV S Q v l) (hR : RowE S W rb l) (hS : RowE S W' sb l) (hl : l.length ≤ 100) (hs : ∀ a ∈ l, isS a) (ha : l[k]? = some a) (hK : ∀ H', K (.ret (.bool true)) H') : f3_q2 R3 K v (.ptr rb 0) (.ptr sb 0) l.length k a true a true H := by
  have hk := (List.getElem?_eq_some_iff.1 ha).1
  have hsa := hs a (List.mem_of_getElem? ha)
  unfold f3_q2
  rw [r3a, r3c, r3d, r3e, r3f, r3g, r3h]
  refine At_none hM hR (by omega) ⟨by omega, by omega⟩ plc_over ?_
  simp only [cR_ret]
  refine onTup_i (nth0 (onTup_i (nth1 ?_)))
  simp only [onB_b]
  have en : Int.neg (l.length : Int) = -(l.length : Int) := rfl
  rw [en]
  refine w0 (by omega) (by omega) ?_
  simp only [isub, io1]
  refine w0 (by omega) (by omega) ?_
  refine At_none hM hR (by omega) ⟨by omega, by omega⟩ plc_under ?_
  simp only [cR_ret]
  refine onTup_i (nth0 (onTup_i (nth1 ?_)))
  simp only [onB_b]
  unfold toldK
  simp only [cR_ret, onB_b, bI_tt, Bool.not_false]
  refine f9_i hM hS (by omega) fun H1 S1 v1 h1 x1 f1 e1 b1 => ?_
  simp only [cR_ret]
  refine f11_i h1 (f1.rd h1 (Q := fun _ => True) fun _ _ _ => trivial) (hr.ext hM x1) (by omega) hs ?_
  simp only [cR_ret, onB_b, bI_tt]
  refine sEq_i hsa ?_
  simp only [onB_b, bI_tt]
  have hr1 := hr.ext hM x1
  refine hr1.load h1 ha (sEq_i hsa ?_)
  simp only [onB_b, bI_tt, iadd, io1]
  refine w0 (by omega) (by omega) ?_
  have ek : (k : Int) + 1 = ((k + 1 : Nat) : Int) := rfl
  rw [ek]
  refine pSlice_v hr1 (i := k) (j := k + 1) (by omega) (by omega) (.inl rfl) (.inl rfl) fun v2 r2 => ?_
  have hR1 := hR.ext hM x1
  refine f12_i h1 hR1 (by omega) ⟨by omega, by omega⟩ ⟨by omega, by omega⟩ fun H3 S3 v3 h3 x3 f3 _ => ?_
  simp only [cR_ret]
  have e3 : (l.drop k).take (k + 1 - k) = prt l k k := by rw [prt_at hk]; congr 1; omega
  rw [e3] at r2
  have hsub : ∀ x ∈ prt l k k, isS x := fun x hx => hs x (by rw [prt_at hk] at hx; exact List.mem_of_mem_drop (List.mem_of_mem_take hx))
  have hlp : (prt l k k).length ≤ 100000 := by rw [prt_at hk]; simp; omega
  refine f11_i h3 (f3.rd h3 (Q := fun _ => True) fun _ _ _ => trivial) (r2.ext h1 x3) hlp hsub ?_
  simp only [cR_ret, onB_b, bI_tt, isub]
  refine w0 (by omega) (by omega) ?_
  have hr3 := hr1.ext h1 x3
  refine pSlice_v hr3 (i := k) (j := l.length) (by omega) (by omega) (.inl rfl) (.inr ⟨rfl, rfl⟩) fun v4 r4 => ?_
  have em : Int.negSucc 0 = -1 := rfl
  rw [em]
  have hR3 := hR1.ext h1 x3
  refine f12_i h3 hR3 (by omega) ⟨by omega, by omega⟩ ⟨by omega, by omega⟩ fun H5 S5 v5 h5 x5 f5 _ => ?_
  simp only [cR_ret]
  have e5 : (l.drop k).take (l.length - k) = l.drop k := List.take_of_length_le (by simp)
  rw [e5] at r4
  rw [prt_end hk] at f5
  refine f11_i h5 (f5.rd h5 (Q := fun _ => True) fun _ _ _ => trivial) (r4.ext h3 x5) (by simp; omega) (fun x hx => hs x (List.mem_of_mem_drop hx)) ?_
  simp only [cR_ret, onB_b, bI_tt]
  have hS5 := ((hS.ext hM x1).ext h1 x3).ext h3 x5
  refine f13_i h5 hS5 ?_
  simp only [cR_ret, cI_z, iEq_d, decide_true, bI_tt]
  have e8 : decide ((Int.ofNat 8) = 0) = false := by decide
  rw [e8]
  simp only [bI_ff]
  have e9 : Int.tdiv (l.length : Int) (.ofNat 8) = ((l.length / 8 : Nat) : Int) := rfl
  rw [e9]
  refine w0 (by omega) (by omega) ?_
  have e10 : ((l.length / 8 : Nat) : Int) + (Int.ofNat 2) = ((l.length / 8 + 2 : Nat) : Int) := rfl
  rw [e10]
  refine w0 (by omega) (by omega) ?_
  refine f14_i h5 hS5 fun n hn => ?_
  simp only [cR_ret, cI_z, iLt_d]
  have e11 : decide (((l.length / 8 + 2 : Nat) : Int) < (n : Int)) = false := decide_eq_false (by omega)
  rw [e11]
  exact hK _
theorem g3_q1 {Q : Nat → Prop} {v : AV} {l : List AV} {i : Int} (hM : Mem H S) (hr : RdV S Q v l) (hR : RowE S W rb l) (hS : RowE S W' sb l) (h0 : l ≠ []) (hl : l.length ≤ 100) (hs : ∀ a ∈ l, isS a) (hK : ∀ H', K (.ret (.bool true)) H') : f3_q1 R3 K (f3_q2 R3 K) v i (.ptr rb 0) (.ptr sb 0) H := by
  have hp : 0 < l.length := List.length_pos_iff.2 h0
  unfold f3_q1
  rw [r3d]
  refine hr.len ?_
  simp only [cI_z]
  refine w3 ?_
  refine w3 ?_
  have e1 : (l.length : Int) % 18446744073709551616 = l.length := by omega
  rw [e1, iEq_d, show decide ((l.length : Int) = 0) = false by simp; omega]
  simp only [bI_ff]
  obtain ⟨u, hu⟩ := Int.eq_ofNat_of_zero_le (Int.emod_nonneg i (show (18446744073709551616 : Int) ≠ 0 by omega))
  rw [hu]
  rw [forceI_eq]
  have e2 : Int.tmod ((u : Nat) : Int) (l.length : Int) = ((u % l.length : Nat) : Int) := rfl
  rw [e2]
  have hk := Nat.mod_lt u hp
  generalize u % l.length = k at hk
  refine w0 (by omega) (by omega) ?_
  have ha : l[k]? = some l[k] := List.getElem?_eq_getElem hk
  refine At_some hM hR (by omega) ⟨by omega, by omega⟩ (plc_pos hk) ha ?_
  simp only [cR_ret]
  refine onTup_i (nth0 (onTup_i (nth1 ?_)))
  simp only [onB_b, isub]
  refine w0 (by omega) (by omega) ?_
  refine At_some hM hS (by omega) ⟨by omega, by omega⟩ (plc_neg hk) ha ?_
  simp only [cR_ret]
  refine onTup_i (nth0 (onTup_i (nth1 ?_)))
  simp only [onB_b]
  exact g3_q2 hM hr hR hS hl hs ha hK
end
theorem g3_i {Q : Nat → Prop} {v : AV} {l : List AV} {i : Int} (hM : Mem H S) (hr : RdV S Q v l) (hs : ∀ a ∈ l, isS a) (hn : (l.length : Int) < 9223372036854775808) (hK : ∀ H', K (.ret (.bool true)) H') : g3 v i H K := by
  show f3_q0 R3 K (f3_q1 R3 K (f3_q2 R3 K)) v i H
  unfold f3_q0
  rw [r3a, r3b, r3c]
  refine hr.len ?_
  have e0 : Int.ofNat 0 = ((0 : Nat) : Int) := rfl
  simp only [cI_z, iEq_d]
  refine bI_dec (fun g => ?_) (fun g => ?_)
  · unfold toldK
    simp only [cR_ret, onB_b]
    exact hK _
  · refine hr.len ?_
    simp only [cI_z, iLt_d]
    refine bI_dec (fun g2 => ?_) (fun g2 => ?_)
    · unfold toldK
      simp only [cR_ret, onB_b]
      exact hK _
    · have e100 : Int.ofNat 100 = 100 := rfl
      have hl : l.length ≤ 100 := by omega
      refine g8_i hM hr (by omega) hs fun H1 S1 W1 r1 h1 x1 hR1 o1 => ?_
      simp only [cR_ret, pPEq_pn, onB_b, Bool.not_true, bI_ff]
      refine f9_i h1 hR1 (by omega) fun H2 S2 v2 h2 x2 f2 _ _ => ?_
      simp only [cR_ret]
      refine g8_i h2 (f2.rd h2 (Q := fun _ => True) fun _ _ _ => trivial) (by omega) hs fun H3 S3 W3 r3 h3 x3 hR3 o3 => ?_
      simp only [cR_ret, pPEq_pn, onB_b, Bool.not_true, bI_ff]
      exact g3_q1 h3 (((hr.ext hM x1).ext h1 x2).ext h2 x3) ((hR1.ext h1 x2).ext h2 x3) hR3 (fun h => g (by rw [h]; rfl)) hl hs hK
end Go.Proofs.Ythjmjehfcjchfaa

namespace Go.Proofs.Ythjmjehfcjchfaa
open Go Go.X Go.Proofs.Ythjmjehfcjchfaa.G
set_option maxRecDepth 100000
set_option maxHeartbeats 1600000
set_option linter.unusedVariables false
set_option linter.unusedSimpArgs false
variable {H : AH} {S : LS} {K : KF}
theorem sS (n x : Nat) : isS (.str n x) := trivial
section
variable {W : Nat → Prop} {rb : Nat}
theorem f21_i {L : List AV} {front : Bool} (hM : Mem H S) (hR : RowE S W rb L) (hl : L.length ≤ 100000) (hK1 : L = [] → K (.ret (.tup [.str 0 0, .bool false])) H)
    (hK2 : ∀ a L', (if front then L = a :: L' else L = L' ++ [a]) → RemG S W rb L' a K) : f21 (.ptr rb 0) front H K := by
  have r21 : f21_rr = f16 := rfl
  show f21_q0 f21_rr K (.ptr rb 0) front H
  unfold f21_q0
  rw [r21]
  have e0 : Int.ofNat 0 = 0 := rfl
  have e1 : Int.negSucc 0 = -1 := rfl
  cases front with
  | true =>
    simp only [bI_tt]
    rw [e0]
    refine f16_i hM hR ⟨by omega, by omega⟩ hl (fun hp => ?_) fun i a hp ha H1 S1 W1 h1 fr1 hR1 o1 => ?_
    · simp only [cR_ret]
      refine onTup_i (nth0 (onTup_i (nth1 ?_)))
      simp only [onB_b]
      refine hK1 ?_
      cases L with
      | nil => rfl
      | cons a l => exact absurd hp (by unfold plc; rw [if_neg (by omega), if_pos (by simp only [List.length_cons]; omega)]; simp)
    · simp only [cR_ret]
      refine onTup_i (nth0 (onTup_i (nth1 ?_)))
      simp only [onB_b]
      cases L with
      | nil => simp at ha
      | cons x l =>
        have hi : i = 0 := by
          unfold plc at hp
          rw [if_neg (by omega), if_pos (by simp only [List.length_cons]; omega)] at hp
          simp at hp
          exact hp.symm
        subst hi
        cases ha
        exact hK2 a l rfl H1 S1 W1 h1 fr1 hR1 o1
  | false =>
    simp only [bI_ff]
    rw [e1]
    refine f16_i hM hR ⟨by omega, by omega⟩ hl (fun hp => ?_) fun i a hp ha H1 S1 W1 h1 fr1 hR1 o1 => ?_
    · simp only [cR_ret]
      refine onTup_i (nth0 (onTup_i (nth1 ?_)))
      simp only [onB_b]
      refine hK1 ?_
      cases L with
      | nil => rfl
      | cons a l => exact absurd hp (by unfold plc; rw [if_pos (by omega), if_neg (by simp; omega)]; simp)
    · simp only [cR_ret]
      refine onTup_i (nth0 (onTup_i (nth1 ?_)))
      simp only [onB_b]
      rcases Nat.eq_zero_or_pos L.length with g | g
      · rw [List.length_eq_zero_iff.1 g] at ha; simp at ha
      · obtain ⟨l, x, rfl⟩ : ∃ l x, L = l ++ [x] := ⟨L.dropLast, L.getLast (List.length_pos_iff.1 g), (List.dropLast_concat_getLast _).symm⟩
        have hi : i = l.length := by
          unfold plc at hp
          rw [if_pos (by omega), if_neg (by simp; omega)] at hp
          simp at hp
          omega
        subst hi
        rw [List.getElem?_append_right (Nat.le_refl _)] at ha
        simp at ha
        subst ha
        have e : delAt (l ++ [x]) l.length = l := by unfold delAt; rw [List.take_left' rfl, List.drop_of_length_le (by simp), List.append_nil]
        rw [e] at hR1
        exact hK2 x l (by simp) H1 S1 W1 h1 fr1 hR1 o1
end
theorem w1 {z : Int} {k : Int → Prop} (h : k (z % 256)) : wrapK 1 z k := wrapK_i wrap1 h
theorem pShr8 {i : Nat} {k : AV → Prop} (h : k (.int 0 ((i / 256 : Nat) : Int))) : pShr 0 (.int 0 (i : Int)) (.int 3 (.ofNat 8)) k := by
  have e : Nat.shiftRight i 8 = i / 256 := Nat.shiftRight_eq_div_pow i 8
  show bT true (forceI (.ofNat (Nat.shiftRight i 8)) fun z => k (.int 0 z))
  refine bT_i rfl ?_
  rw [forceI_eq, e]
  exact h
theorem f19_i {i : Nat} (hM : Mem H S) (hi : i < 65536) (hK : ∀ H' S', Mem H' S' → Ext S S' → K (.ret (.str 2 i)) H') : f19 (i : Int) H K := by
  show f19_q0 f19_rr K (i : Int) H
  unfold f19_q0
  refine w1 (pShr8 ?_)
  simp only [cI_z]
  refine w1 ?_
  have e1 : ((i : Int) % 256) = ((i % 256 : Nat) : Int) := rfl
  have e2 : (((i / 256 : Nat) : Int) % 256) = ((i / 256 % 256 : Nat) : Int) := rfl
  rw [e1, e2]
  refine pNewS_i hM rfl (by simp [AV.one]) fun H1 h1 => ?_
  show bT (Nat.beq 1 1) (getK H1 S.n fun c _ _ => loadL c 2 0 fun l => numL l fun n x => K (.ret (.str n x)) H1)
  refine bT_i rfl (h1.getK_i (LS.push_ob_self _ _) fun c hc => loadL_i hc 2 0 (by simp) ?_)
  show bT (Nat.beq 1 1) (bT (Nat.ble (i % 256) 255) (bT (Nat.beq 1 1) (bT (Nat.ble (i / 256 % 256) 255) (forceN (Nat.succ 0) fun n' => forceN (Nat.add (i / 256 % 256) (Nat.mul 256 0)) fun x' => forceN (Nat.succ n') fun n2 => forceN (Nat.add (i % 256) (Nat.mul 256 x')) fun x2 => K (.ret (.str n2 x2)) H1))))
  refine bT_i rfl (bT_i (Nat.ble_eq_true_of_le (by omega)) (bT_i rfl (bT_i (Nat.ble_eq_true_of_le (by omega)) ?_)))
  simp only [forceN_eq]
  have e3 : AV.str (Nat.succ (Nat.succ 0)) (Nat.add (i % 256) (Nat.mul 256 (Nat.add (i / 256 % 256) (Nat.mul 256 0)))) = .str 2 i := by
    show AV.str 2 (i % 256 + 256 * (i / 256 % 256 + 256 * 0)) = AV.str 2 i
    congr 1
    omega
  rw [e3]
  exact hK H1 _ h1 (Ext.push _ _)
theorem call19 {R : f6_R} {i : Int} {k : COut → AH → Prop} (h : R.2.2.2.2.1 i H k) : onFunc (.func 19 [] []) fun g x y => bT (hasBody Try.prog g) (callT (f6_ct R) g (x ++ ([.int 0 i] ++ y)) H k) := by
  refine bT_i (b := hasBody Try.prog 19) (by kernel_rfl) ?_
  exact h
noncomputable def R6 : f6_R := (toldK, f13, f14, f18, f19, g20, f21)
noncomputable def g6 : Int → Bool → Int → AH → KF → Prop := f6_r R6
theorem g6_ok : FunOk Try.prog 6 (fnX [.i 0, .b, .i 0] g6) := f6_rok R6 (CTblOk.cons told_ok (CTblOk.cons f13_ok (CTblOk.cons f14_ok (CTblOk.cons f18_ok (CTblOk.cons f19_ok (CTblOk.cons g20_ok (CTblOk.cons f21_ok CTblOk.nil)))))))
theorem r6a : R6.1 = toldK := rfl
theorem r6b : R6.2.1 = f13 := rfl
theorem r6c : R6.2.2.1 = f14 := rfl
theorem r6d : R6.2.2.2.1 = f18 := rfl
theorem r6e : R6.2.2.2.2.1 = f19 := rfl
theorem r6f : R6.2.2.2.2.2.1 = g20 := rfl
theorem r6g : R6.2.2.2.2.2.2 = f21 := rfl
/-- The names from a place on, in the row's order. -/
def nml (a n : Nat) : List AV := (List.range' a n).map fun i => .str 2 i
def rowL (front : Bool) (a n : Nat) : List AV := if front then (nml a n).reverse else nml a n
theorem nml_cons (a n : Nat) : nml a (n + 1) = .str 2 a :: nml (a + 1) n := by simp [nml, List.range'_succ]
theorem nml_snoc (a n : Nat) : nml a (n + 1) = nml a n ++ [.str 2 (a + n)] := by simp [nml, List.range'_1_concat]
theorem rowL_len (front : Bool) (a n : Nat) : (rowL front a n).length = n := by cases front <;> simp [rowL, nml]
theorem rowL_push (front : Bool) (a n : Nat) : pushL front (rowL front a n) (.str 2 (a + n)) = rowL front a (n + 1) := by
  cases front
  · show nml a n ++ [_] = nml a (n + 1)
    rw [nml_snoc]
  · show _ :: (nml a n).reverse = (nml a (n + 1)).reverse
    rw [nml_snoc]; simp
/-- The oldest one goes. -/
theorem rowL_old {front : Bool} {a n : Nat} {x : AV} {L' : List AV} (h : if !front then rowL front a (n + 1) = x :: L' else rowL front a (n + 1) = L' ++ [x]) : x = .str 2 a ∧ L' = rowL front (a + 1) n := by
  cases front
  · have h' : nml a (n + 1) = x :: L' := h
    rw [nml_cons] at h'
    cases h'
    exact ⟨rfl, rfl⟩
  · have h' : (nml a (n + 1)).reverse = L' ++ [x] := h
    rw [nml_cons, List.reverse_cons] at h'
    obtain ⟨e1, e2⟩ := List.append_inj' h' rfl
    cases e2
    exact ⟨rfl, e1.symm⟩
/-- The newest one goes. -/
theorem rowL_new {front : Bool} {a n : Nat} {x : AV} {L' : List AV} (h : if front then rowL front a (n + 1) = x :: L' else rowL front a (n + 1) = L' ++ [x]) : x = .str 2 (a + n) ∧ L' = rowL front a n := by
  cases front
  · have h' : nml a (n + 1) = L' ++ [x] := h
    rw [nml_snoc] at h'
    obtain ⟨e1, e2⟩ := List.append_inj' h' rfl
    cases e2
    exact ⟨rfl, e1.symm⟩
  · have h' : (nml a (n + 1)).reverse = x :: L' := h
    rw [nml_snoc, List.reverse_append] at h'
    cases h'
    exact ⟨rfl, rfl⟩
theorem rowL_ne {front : Bool} {a n : Nat} (h : rowL front a (n + 1) = []) : False := by
  have := congrArg List.length h
  rw [rowL_len] at this
  simp at this
variable {W : Nat → Prop} {rb : Nat} {front : Bool}
theorem g6_q5 (hM : Mem H S) (hR : RowE S W rb []) (hK : ∀ H', K (.ret (.bool true)) H') : f6_q5 R6 K front (.ptr rb 0) H := by
  unfold f6_q5
  rw [r6a, r6g]
  refine f21_i hM hR (by simp) (fun _ => ?_) fun a L' h => ?_
  · simp only [cR_ret]
    refine onTup_i (nth0 (onTup_i (nth1 ?_)))
    simp only [onB_b]
    unfold toldK
    simp only [cR_ret, onB_b, bI_tt]
    exact hK _
  · cases front <;> simp at h
theorem g6_l7 (hK : ∀ H', K (.ret (.bool true)) H') : ∀ (n a c : Nat) {H : AH} {S : LS} {W : Nat → Prop}, Mem H S → RowE S W rb (rowL front a c) → c < n → a + c ≤ 1000 → f6_l7 R6 K n front (.ptr rb 0) (.func 19 [] []) a H
  | 0, _, _, _, _, _, _, _, h, _ => by omega
  | n + 1, a, c, H, S, W, hM, hR, hn, hc => by
    show f6_q7 R6 K (f6_q9 R6 K (f6_l7 R6 K n)) (f6_q5 R6 K) front (.ptr rb 0) (.func 19 [] []) a H
    unfold f6_q7
    rw [r6b, r6g]
    refine f13_i hM hR ?_
    have e0 : Int.ofNat 0 = 0 := rfl
    simp only [cR_ret, cI_z, iLt_d, rowL_len]
    refine bI_dec (fun g => ?_) (fun g => ?_)
    · obtain ⟨c, rfl⟩ : ∃ d, c = d + 1 := ⟨c - 1, by omega⟩
      refine f21_i hM hR (by rw [rowL_len]; omega) (fun h => (rowL_ne h).elim) fun x L' h H1 S1 W1 h1 fr1 hR1 o1 => ?_
      obtain ⟨rfl, rfl⟩ := rowL_old h
      simp only [cR_ret]
      refine onTup_i (nth0 (onTup_i (nth1 ?_)))
      simp only [onB_b, Bool.not_true, bI_ff]
      refine call19 ?_
      rw [r6e]
      refine f19_i h1 (by omega) fun H2 S2 h2 x2 => ?_
      simp only [cR_ret]
      refine sNe_i (sS _ _) ?_
      simp only [onB_b, bI_ff]
      show f6_q9 R6 K (f6_l7 R6 K n) front (.ptr rb 0) (.func 19 [] []) a H2
      unfold f6_q9
      simp only [iadd, io1]
      refine w0 (by omega) (by omega) ?_
      exact g6_l7 hK n (a + 1) c h2 (hR1.ext h1 x2) (by omega) (by omega)
    · obtain rfl : c = 0 := by omega
      have e : rowL front a 0 = [] := by cases front <;> rfl
      rw [e] at hR
      exact g6_q5 hM hR hK
theorem g6_l6 (hK : ∀ H', K (.ret (.bool true)) H') {k next m : Nat} (hkn : next ≤ k) (hk : k ≤ 300) (hm : m = (k - next) / 2) : ∀ (n c : Nat) {H : AH} {S : LS} {W : Nat → Prop}, Mem H S → RowE S W rb (rowL front next c) → m ≤ c → c < n → next + c ≤ k → f6_l6 R6 K n front k (.ptr rb 0) next (.func 19 [] []) (((next + c : Nat) : Int) - 1) H
  | 0, _, _, _, _, _, _, _, h, _ => by omega
  | n + 1, c, H, S, W, hM, hR, hmc, hn, hc => by
    show f6_q6 R6 K (f6_q10 R6 K (f6_l6 R6 K n)) (f6_q3 R6 K (f6_l7 R6 K NL)) front k (.ptr rb 0) next (.func 19 [] []) (((next + c : Nat) : Int) - 1) H
    unfold f6_q6
    rw [r6g]
    simp only [isub]
    refine w0 (by omega) (by omega) ?_
    rw [iEq_d, show decide (Int.ofNat 2 = 0) = false from rfl]
    simp only [bI_ff]
    have e1 : (k : Int) - next = ((k - next : Nat) : Int) := by omega
    have e2 : Int.tdiv ((k - next : Nat) : Int) (Int.ofNat 2) = (((k - next) / 2 : Nat) : Int) := rfl
    rw [e1, e2, ← hm]
    refine w0 (by omega) (by omega) ?_
    have e3 : Int.add (next : Int) (m : Int) = ((next + m : Nat) : Int) := rfl
    rw [e3]
    refine w0 (by omega) (by omega) ?_
    rw [iLt_d]
    by_cases g : c = m
    · rw [decide_eq_true (show (((next + c : Nat) : Int) - 1) < ((next + m : Nat) : Int) by omega)]
      simp only [Bool.not_true, bI_ff]
      show f6_q3 R6 K (f6_l7 R6 K NL) front (.ptr rb 0) next (.func 19 [] []) H
      unfold f6_q3
      exact g6_l7 hK NL next c hM hR (by have : NL = 1000000 := rfl; omega) (by omega)
    · rw [decide_eq_false (show ¬ (((next + c : Nat) : Int) - 1) < ((next + m : Nat) : Int) by omega)]
      simp only [Bool.not_false, bI_tt]
      obtain ⟨c, rfl⟩ : ∃ d, c = d + 1 := ⟨c - 1, by omega⟩
      refine f21_i hM hR (by rw [rowL_len]; omega) (fun h => (rowL_ne h).elim) fun x L' h H1 S1 W1 h1 fr1 hR1 o1 => ?_
      obtain ⟨rfl, rfl⟩ := rowL_new h
      simp only [cR_ret]
      refine onTup_i (nth0 (onTup_i (nth1 ?_)))
      simp only [onB_b, Bool.not_true, bI_ff]
      refine call19 ?_
      rw [r6e]
      have e5 : (((next + (c + 1) : Nat) : Int) - 1) = ((next + c : Nat) : Int) := by omega
      rw [e5]
      refine f19_i h1 (by omega) fun H2 S2 h2 x2 => ?_
      simp only [cR_ret]
      refine sNe_i (sS _ _) ?_
      simp only [onB_b, bI_ff]
      have hR2 := hR1.ext h1 x2
      show f6_q10 R6 K (f6_l6 R6 K n) front k (.ptr rb 0) next (.func 19 [] []) ((next + c : Nat) : Int) H2
      unfold f6_q10
      rw [r6b, r6c]
      refine f14_i h2 hR2 fun q hq => ?_
      simp only [cR_ret, cI_z]
      refine f13_i h2 hR2 ?_
      simp only [cR_ret, cI_z]
      rw [iEq_d, show decide (Int.ofNat 8 = 0) = false from rfl]
      simp only [bI_ff, rowL_len]
      have e8 : Int.tdiv (c : Int) (Int.ofNat 8) = ((c / 8 : Nat) : Int) := rfl
      rw [e8]
      refine w0 (by omega) (by omega) ?_
      have e9 : Int.add ((c / 8 : Nat) : Int) (Int.ofNat 2) = ((c / 8 + 2 : Nat) : Int) := rfl
      rw [e9]
      refine w0 (by omega) (by omega) ?_
      rw [rowL_len] at hq
      rw [iLt_d, decide_eq_false (show ¬ ((c / 8 + 2 : Nat) : Int) < (q : Int) by omega)]
      simp only [bI_ff, isub, io1]
      refine w0 (by omega) (by omega) ?_
      exact g6_l6 hK hkn hk hm n c h2 hR2 (by omega) (by omega) (by omega)
theorem g6_l4 (hK : ∀ H', K (.ret (.bool true)) H') {k e : Nat} (hk : k ≤ 300) (he : 2 ≤ e) (he2 : e ≤ 100) : ∀ (n i next : Nat) {H : AH} {S : LS} {W : Nat → Prop}, Mem H S → RowE S W rb (rowL front next (i - next)) → next ≤ i → i ≤ k → k - i < n → f6_l4 R6 K n front k e (.ptr rb 0) next (.func 19 [] []) i H
  | 0, _, _, _, _, _, _, _, _, _, h => by omega
  | n + 1, i, next, H, S, W, hM, hR, hni, hik, hn => by
    show f6_q4 R6 K (f6_q11 R6 K (f6_q8 R6 K (f6_l4 R6 K n))) (f6_q8 R6 K (f6_l4 R6 K n)) (f6_q2 R6 K (f6_l6 R6 K NL)) front k e (.ptr rb 0) next (.func 19 [] []) i H
    unfold f6_q4
    rw [r6f, r6g, iLt_d]
    have e0 : Int.ofNat 0 = 0 := rfl
    have next8 : ∀ (nx : Nat) {H : AH} {S : LS} {W : Nat → Prop}, Mem H S → RowE S W rb (rowL front nx (i + 1 - nx)) → nx ≤ i + 1 → i < k → f6_q8 R6 K (f6_l4 R6 K n) front k e (.ptr rb 0) nx (.func 19 [] []) i H := fun nx {H S W} hM hR h1 h2 => by
      unfold f6_q8
      simp only [iadd, io1]
      refine w0 (by omega) (by omega) ?_
      exact g6_l4 hK hk he he2 n (i + 1) nx hM hR h1 (by omega) (by omega)
    refine bI_dec (fun g => ?_) (fun g => ?_)
    · have hlt : i < k := by omega
      refine call19 ?_
      rw [r6e]
      refine f19_i hM (by omega) fun H1 S1 h1 x1 => ?_
      simp only [cR_ret]
      refine g20_i h1 (hR.ext hM x1) (by rw [rowL_len]; omega) trivial fun H2 S2 W2 h2 fr2 hR2 o2 => ?_
      simp only [cR_ret]
      have ep : pushL front (rowL front next (i - next)) (.str 2 i) = rowL front next (i + 1 - next) := by
        have h := rowL_push front next (i - next)
        rw [show next + (i - next) = i by omega, show i - next + 1 = i + 1 - next by omega] at h
        exact h
      rw [ep] at hR2
      rw [iEq_d, decide_eq_false (show ¬ (e : Int) = 0 by omega)]
      simp only [bI_ff]
      rw [forceI_eq]
      have e2 : Int.tmod (i : Int) (e : Int) = ((i % e : Nat) : Int) := rfl
      rw [e2, iEq_d, e0]
      refine bI_dec (fun g2 => ?_) (fun g2 => ?_)
      · rw [show i + 1 - next = (i - next) + 1 by omega] at hR2
        refine f21_i h2 hR2 (by rw [rowL_len]; omega) (fun h => (rowL_ne h).elim) fun x L' h H3 S3 W3 h3 fr3 hR3 o3 => ?_
        obtain ⟨rfl, rfl⟩ := rowL_old h
        simp only [cR_ret]
        refine onTup_i (nth0 (onTup_i (nth1 ?_)))
        simp only [onB_b, Bool.not_true, bI_ff]
        refine call19 ?_
        rw [r6e]
        refine f19_i h3 (by omega) fun H4 S4 h4 x4 => ?_
        simp only [cR_ret]
        refine sNe_i (sS _ _) ?_
        simp only [onB_b, bI_ff]
        show f6_q11 R6 K (f6_q8 R6 K (f6_l4 R6 K n)) front k e (.ptr rb 0) next (.func 19 [] []) i H4
        unfold f6_q11
        simp only [iadd, io1]
        refine w0 (by omega) (by omega) ?_
        rw [show i - next = i + 1 - (next + 1) by omega] at hR3
        exact next8 (next + 1) h4 (hR3.ext h3 x4) (by omega) hlt
      · exact next8 next h2 hR2 (by omega) hlt
    · obtain rfl : i = k := by omega
      unfold f6_q2
      simp only [isub, io1]
      refine w0 (by omega) (by omega) ?_
      have e5 : ((i : Int) - 1) = (((next + (i - next) : Nat) : Int) - 1) := by omega
      rw [e5]
      exact g6_l6 hK hni hk rfl NL (i - next) hM hR (by omega) (by have : NL = 1000000 := rfl; omega) (by omega)
theorem g6_i {a c : Int} (hM : Mem H S) (hK : ∀ H', K (.ret (.bool true)) H') : g6 a front c H K := by
  show f6_q0 R6 K (f6_q1 R6 K (f6_l4 R6 K NL)) a front c H
  unfold f6_q0
  rw [r6d]
  refine w3 ?_
  rw [iEq_d, show decide (Int.ofNat 300 = 0) = false from rfl]
  simp only [bI_ff]
  obtain ⟨u, hu⟩ := Int.eq_ofNat_of_zero_le (Int.emod_nonneg a (show (18446744073709551616 : Int) ≠ 0 by omega))
  obtain ⟨z, hz⟩ := Int.eq_ofNat_of_zero_le (Int.emod_nonneg c (show (18446744073709551616 : Int) ≠ 0 by omega))
  rw [hu, forceI_eq]
  have e2 : Int.tmod ((u : Nat) : Int) (Int.ofNat 300) = ((u % 300 : Nat) : Int) := rfl
  rw [e2]
  have hk := Nat.mod_lt u (show 0 < 300 by omega)
  generalize u % 300 = k at hk
  refine w0 (by omega) (by omega) ?_
  have e3 : Int.add (Int.ofNat 1) (k : Int) = ((1 + k : Nat) : Int) := rfl
  rw [e3]
  refine w0 (by omega) (by omega) ?_
  refine w3 ?_
  rw [iEq_d, show decide (Int.ofNat 9 = 0) = false from rfl]
  simp only [bI_ff]
  rw [hz, forceI_eq]
  have e4 : Int.tmod ((z : Nat) : Int) (Int.ofNat 9) = ((z % 9 : Nat) : Int) := rfl
  rw [e4]
  have hk2 := Nat.mod_lt z (show 0 < 9 by omega)
  generalize z % 9 = e at hk2
  refine w0 (by omega) (by omega) ?_
  have e5 : Int.add (Int.ofNat 2) (e : Int) = ((2 + e : Nat) : Int) := rfl
  rw [e5]
  refine w0 (by omega) (by omega) ?_
  refine f18_i hM fun H1 S1 h1 x1 hR1 => ?_
  simp only [cR_ret, pPEq_pn, onB_b, Bool.not_true, bI_ff]
  unfold f6_q1
  have e6 : rowL front 0 (0 - 0) = [] := by cases front <;> rfl
  exact g6_l4 hK (k := 1 + k) (e := 2 + e) (by omega) (by omega) (by omega) NL 0 0 h1 (by rw [e6]; exact hR1) (Nat.le_refl _) (by omega) (by have : NL = 1000000 := rfl; omega)
end Go.Proofs.Ythjmjehfcjchfaa

namespace Go.Proofs.Ythjmjehfcjchfaa
open Go Go.X Go.Proofs.Ythjmjehfcjchfaa.G
set_option maxRecDepth 100000
set_option maxHeartbeats 1600000
set_option linter.unusedVariables false
set_option linter.unusedSimpArgs false
variable {H : AH} {S : LS} {K : KF}
theorem sub_set_out {α : Type} {cs : List α} {k o n : Nat} {x : α} (h : k < o ∨ o + n ≤ k) : ((cs.set k x).drop o).take n = (cs.drop o).take n := by
  apply List.ext_getElem?
  intro i
  simp only [List.getElem?_take, List.getElem?_drop]
  split
  · rw [List.getElem?_set_ne (by omega)]
  · rfl
theorem sub_set_in {α : Type} {cs : List α} {i o n : Nat} {x : α} (h : i < n) : ((cs.set (o + i) x).drop o).take n = ((cs.drop o).take n).set i x := by
  apply List.ext_getElem?
  intro j
  simp only [List.getElem?_take, List.getElem?_drop, List.getElem?_set, List.length_take, List.length_drop]
  by_cases e : i = j
  · subst e
    simp only [h, if_true]
    by_cases g : o + i < cs.length
    · rw [if_pos g, if_pos (by omega)]
    · rw [if_neg g, if_neg (by omega)]
  · have g : ¬ o + i = o + j := by omega
    simp only [e, g, if_false]
section
variable {W : Nat → Prop} {rb : Nat} {vl : AV} {t : Int} {P : Chs}
/-- Another text in the place of one. -/
theorem RowG.setEl {j i : Nat} {p : AV × List AV} {s : AV} {k : AH → Prop} (h : Row S W rb vl t P) (hM : Mem H S) (hp : P[j]? = some p) (hi : i < p.2.length) (hs : isS s)
    (hk : ∀ H' S', Mem H' S' → S'.n = S.n → FrW S S' W → Row S' W rb vl t (P.set j (p.1, p.2.set i s)) → k H') : pIdx 1 p.1 (.int 0 i) fun w => pStore 1 w s H k := by
  obtain ⟨pv, pl⟩ := p
  have hj := (List.getElem?_eq_some_iff.1 hp).1
  have hpe : P[j] = (pv, pl) := (List.getElem?_eq_some_iff.1 hp).2
  have hpm : (pv, pl) ∈ P := List.mem_of_getElem? hp
  rcases h.ch _ hpm with ⟨_, e2⟩ | ⟨b, o, c, ex, cs, m, e1, hcap, hQ, hob, hol, htk⟩
  · have e : pl = [] := e2
    subst e; simp at hi
  · have e1' : pv = .slice b o pl.length c 1 ex := e1
    subst e1'
    have hi' : i < pl.length := hi
    obtain ⟨hW, hrb, hvl, cs', hcs'⟩ := hQ
    rw [hob] at hcs'
    obtain ⟨rfl, rfl⟩ : cs = cs' ∧ m = 0 := by cases hcs'; exact ⟨rfl, rfl⟩
    have hol' : o + pl.length ≤ cs.length := hol
    have htk' : (cs.drop o).take pl.length = pl := htk
    refine pIdx_i (by omega) (by omega) ?_
    rw [Int.toNat_natCast, Nat.mul_one]
    refine pStore_i hM hob (by omega) (by omega) hs.one fun H' h' => ?_
    have hne : ∀ x, x ≠ b → (S.set b (.cells (cs.set (o + i) s) 0)).ob x = S.ob x := fun x hx => LS.set_ob_ne _ _ hx
    have hself : (S.set b (.cells (cs.set (o + i) s) 0)).ob b = .cells (cs.set (o + i) s) 0 := LS.set_ob_self _ _ _
    refine hk H' _ h' rfl ⟨Nat.le_refl _, fun x _ hx => hne x fun e => hx (by rw [e]; exact hW)⟩ ⟨h.wl, h.wr, (hne rb fun e => hrb e.symm).trans h.rc, ?_, h.ex, h.wv, fun q hq => ?_, ?_, fun q hq => ?_, fun _ q hq => ?_⟩
    · have e : (P.set j (AV.slice b o pl.length c 1 ex, pl.set i s)).map (·.1) = P.map (·.1) := by
        rw [List.map_set]
        apply List.ext_getElem?
        intro x
        rw [List.getElem?_set]
        split
        · rename_i g
          subst g
          rw [if_pos (by simpa using hj), List.getElem?_map, hp]; rfl
        · rfl
      rw [e]
      exact h.fr.keep hM fun x hx _ => hne x fun e => hvl (by rw [← e]; exact hx)
    · obtain ⟨j2, hj2⟩ := List.getElem?_of_mem hq
      by_cases g : j = j2
      · subst g
        rw [List.getElem?_set_self hj] at hj2
        · cases hj2
          refine .inr ⟨b, o, c, ex, _, 0, by show _ = AV.slice b o (pl.set i s).length c 1 ex; rw [List.length_set], by show (pl.set i s).length ≤ c; rw [List.length_set]; exact hcap, ⟨hW, hrb, hvl, _, hself⟩, hself, by show o + (pl.set i s).length ≤ _; rw [List.length_set, List.length_set]; exact hol', ?_⟩
          show ((cs.set (o + i) s).drop o).take (pl.set i s).length = pl.set i s
          rw [List.length_set, sub_set_in hi', htk']
      · rw [List.getElem?_set_ne g] at hj2
        have hqm := List.mem_of_getElem? hj2
        obtain ⟨qv, ql⟩ := q
        have hdj : Dj (AV.slice b o pl.length c 1 ex) qv := by
          have hj2' := (List.getElem?_eq_some_iff.1 hj2).1
          have e2 : P[j2] = (qv, ql) := (List.getElem?_eq_some_iff.1 hj2).2
          rcases Nat.lt_or_gt_of_ne g with g | g
          · have := List.pairwise_iff_getElem.1 h.dj j j2 hj hj2' g
            rw [hpe, e2] at this; exact this
          · have := List.pairwise_iff_getElem.1 h.dj j2 j hj2' hj g
            rw [hpe, e2] at this; exact this.symm
        rcases h.ch _ hqm with g2 | ⟨b2, o2, c2, ex2, cs2, m2, f1, f2, f3, f4, f5, f6⟩
        · exact .inl g2
        · have f1' : qv = .slice b2 o2 ql.length c2 1 ex2 := f1
          subst f1'
          by_cases gb : b2 = b
          · subst gb
            rw [hob] at f4
            cases f4
            refine .inr ⟨b2, o2, c2, ex2, _, 0, rfl, f2, ⟨f3.1, f3.2.1, f3.2.2.1, _, hself⟩, hself, by rw [List.length_set]; exact f5, ?_⟩
            have hd : o + pl.length ≤ o2 ∨ o2 + ql.length ≤ o := hdj rfl
            show ((cs.set (o + i) s).drop o2).take ql.length = ql
            rw [sub_set_out (by omega)]
            exact f6
          · exact .inr ⟨b2, o2, c2, ex2, cs2, m2, rfl, f2, ⟨f3.1, f3.2.1, f3.2.2.1, f3.2.2.2.of (hne b2 gb)⟩, (hne b2 gb).trans f4, f5, f6⟩
    · rw [List.pairwise_iff_getElem]
      intro i1 i2 a1 a2 hlt
      have hd := List.pairwise_iff_getElem.1 h.dj i1 i2 (by simpa using a1) (by simpa using a2) hlt
      rw [List.getElem_set, List.getElem_set]
      by_cases e1 : j = i1
      · subst e1
        rw [if_pos rfl, if_neg (by omega)]
        rw [hpe] at hd; exact hd
      · by_cases e2 : j = i2
        · subst e2
          rw [if_neg e1, if_pos rfl]
          rw [hpe] at hd; exact hd
        · rw [if_neg e1, if_neg e2]; exact hd
    · rcases List.mem_or_eq_of_mem_set hq with g | g
      · exact h.st q g
      · subst g
        intro a ha
        rcases List.mem_or_eq_of_mem_set ha with g | g
        · exact h.st _ hpm a g
        · rw [g]; exact hs
    · rcases List.mem_or_eq_of_mem_set hq with g | g
      · exact h.ne trivial q g
      · subst g
        intro e
        have e' : pl.set i s = [] := e
        have := congrArg List.length e'
        rw [List.length_set] at this
        simp only [List.length_nil] at this
        omega
theorem f22_i {L : List AV} {z : Int} {s : AV} (hM : Mem H S) (hR : RowE S W rb L) (hz : i64 z) (hl : L.length ≤ 100000) (hs : isS s) (hK1 : plc L.length z = none → K (.ret (.bool false)) H)
    (hK2 : ∀ (i : Nat), plc L.length z = some i → i < L.length → ∀ H' S', Mem H' S' → S'.n = S.n → FrW S S' W → RowE S' W rb (L.set i s) → K (.ret (.bool true)) H') : f22 (.ptr rb 0) z s H K := by
  have r22a : f22_rr.1 = f24 := rfl
  have r22b : f22_rr.2 = f25 := rfl
  show f22_q0 f22_rr K (f22_q1 f22_rr K) (.ptr rb 0) z s H
  unfold f22_q0
  rw [r22a, r22b]
  refine f24_i hM hR hz hl (fun hp z' => ?_) (fun i hp hi => ?_)
  · simp only [cR_ret]
    refine onTup_i (nth0 ?_)
    simp only [cI_z]
    refine onTup_i (nth1 ?_)
    simp only [onB_b, bI_ff]
    exact hK1 hp
  · simp only [cR_ret]
    refine onTup_i (nth0 ?_)
    simp only [cI_z]
    refine onTup_i (nth1 ?_)
    simp only [onB_b, bI_tt]
    obtain ⟨vl, P, h, hf, hC⟩ := hR
    have hnum := hC.num
    have hfl : (P.map (·.2)).flatten = flt P := rfl
    rw [hfl, List.length_map, hf] at hnum
    refine find_at hM h (by rw [hf]; exact hi) (by rw [hf]; exact hl) (by omega) fun A p B at_ a e h1 h2 h3 h4 => ?_
    simp only [cR_ret]
    refine onTup_i (nth0 ?_)
    simp only [cI_z]
    refine onTup_i (nth1 ?_)
    simp only [cI_z]
    refine h.ldL hM ?_
    have hp0 : P[A.length]? = some p := by rw [e, List.getElem?_append_right (Nat.le_refl _)]; simp
    have hcp : (P.map (·.1))[A.length]? = some p.1 := by rw [List.getElem?_map, hp0]; rfl
    refine h.fr.load hM hcp ?_
    refine h.setEl hM hp0 h1 hs fun H' S' h' n' fr' hR' => ?_
    refine hK2 i hp hi H' S' h' n' fr' ⟨vl, _, by rw [List.length_set]; exact hR', ?_, ?_⟩
    · subst e
      rw [set_mid, ← hf, ← h2]
      have := set_flat (A := A.map (·.2)) (B := B.map (·.2)) (c := p.2) (x := s) h1
      unfold flt
      simp only [List.map_append, List.map_cons]
      rw [this]
    · subst e
      rw [set_mid]
      have e1 : (A ++ (p.1, p.2.set at_ s) :: B).map (·.2) = A.map (·.2) ++ p.2.set at_ s :: B.map (·.2) := by simp
      have e2 : (A ++ p :: B).map (·.2) = A.map (·.2) ++ p.2 :: B.map (·.2) := by simp
      rw [e1]
      rw [e2] at hC
      exact grow_chk hC (by rw [List.length_set]; exact Nat.le_refl _) (by rw [List.length_set]; exact (hC.sz (A.map (·.2)).length p.2 mid_eq).2)
end
theorem f32_i {n : Nat} {z : Int} (hn : n ≤ 100000) (hz : i64 z) (hK1 : plc n z = none → ∀ z', K (.ret (.tup [.int 0 z', .bool false])) H) (hK2 : ∀ i : Nat, plc n z = some i → i < n → K (.ret (.tup [.int 0 i, .bool true])) H) : f32 n z H K := by
  obtain ⟨hz1, hz2⟩ := hz
  have e0 : Int.ofNat 0 = 0 := rfl
  have q1 : ∀ z' : Int, z' = (if z < 0 then z + n else z) → f32_q1 f32_rr K n z' H := fun z' e => by
    unfold f32_q1
    simp only [iLt_d]
    rw [e0]
    by_cases h : z' < 0
    · rw [decide_eq_true h]
      simp only [Bool.not_true, bI_ff]
      refine hK1 ?_ z'
      unfold plc
      by_cases g : z < 0
      · rw [if_pos g] at e ⊢; rw [if_pos (by omega)]
      · rw [if_neg g] at e; omega
    · rw [decide_eq_false h]
      simp only [Bool.not_false, bI_tt]
      by_cases g2 : z' < n
      · rw [decide_eq_true g2]
        obtain ⟨i, rfl⟩ := Int.eq_ofNat_of_zero_le (show 0 ≤ z' by omega)
        refine hK2 i ?_ (by omega)
        unfold plc
        by_cases g : z < 0
        · rw [if_pos g] at e ⊢; rw [if_neg (by omega), ← e]; rfl
        · rw [if_neg g] at e ⊢; rw [if_pos (by omega), ← e]; rfl
      · rw [decide_eq_false g2]
        refine hK1 ?_ z'
        unfold plc
        by_cases g : z < 0
        · rw [if_pos g] at e; omega
        · rw [if_neg g] at e ⊢; rw [if_neg (by omega)]
  show f32_q0 f32_rr K (f32_q1 f32_rr K) n z H
  unfold f32_q0
  simp only [iLt_d, iadd]
  rw [e0]
  refine bI_dec (fun h => ?_) (fun h => ?_)
  · refine w0 (by omega) (by omega) ?_
    exact q1 _ (by rw [if_pos h])
  · exact q1 _ (by rw [if_neg h])
theorem f33_i {n : Nat} {a b : Int} (hn : n ≤ 100000) (ha : i64 a) (hb : i64 b)
    (hK : ∀ p q : Nat, p ≤ q → q ≤ n → (∀ L : List AV, L.length = n → prt L a b = (L.drop p).take (q - p)) → K (.ret (.tup [.int 0 p, .int 0 q])) H) : f33 n a b H K := by
  obtain ⟨ha1, ha2⟩ := ha
  obtain ⟨hb1, hb2⟩ := hb
  have e0 : Int.ofNat 0 = ((0 : Nat) : Int) := rfl
  have q2 : ∀ fr to : Int, fr = frZ n a → to = (if b < 0 then b + n else b) → f33_q2 f33_rr K n fr to H := fun fr to e1 e2 => by
    have hfr : 0 ≤ fr := by rw [e1]; unfold frZ; split <;> omega
    unfold f33_q2
    simp only [isub, io1]
    refine w0 (by omega) (by omega) ?_
    refine pMin_i fun z hz => ?_
    have ez : z = toZ n b := by unfold toZ; rw [← e2]; omega
    simp only [cI_z, iLt_d, iadd, io1]
    refine bI_dec (fun h => ?_) (fun h => ?_)
    · refine hK 0 0 (Nat.le_refl _) (Nat.zero_le _) fun L hL => ?_
      unfold prt
      rw [hL, ← e1, ← ez, if_pos (by omega)]
      simp
    · refine w0 (by omega) (by omega) ?_
      obtain ⟨p, rfl⟩ := Int.eq_ofNat_of_zero_le hfr
      obtain ⟨t, rfl⟩ := Int.eq_ofNat_of_zero_le (show 0 ≤ z by omega)
      refine hK p (t + 1) (by omega) (by unfold toZ at ez; omega) fun L hL => ?_
      unfold prt
      rw [hL, ← e1, ← ez, if_neg (by omega)]
      congr 1
      omega
  have q1 : ∀ fr : Int, fr = frZ n a → f33_q1 f33_rr K (f33_q2 f33_rr K) n fr b H := fun fr e1 => by
    unfold f33_q1
    simp only [iLt_d, iadd]
    rw [show Int.ofNat 0 = 0 from rfl]
    refine bI_dec (fun h => ?_) (fun h => ?_)
    · refine w0 (by omega) (by omega) ?_
      exact q2 fr _ e1 (by rw [if_pos h])
    · exact q2 fr _ e1 (by rw [if_neg h])
  show f33_q0 f33_rr K (f33_q1 f33_rr K (f33_q2 f33_rr K)) n a b H
  unfold f33_q0
  simp only [iLt_d, iadd]
  rw [show Int.ofNat 0 = 0 from rfl]
  refine bI_dec (fun h => ?_) (fun h => ?_)
  · refine w0 (by omega) (by omega) ?_
    refine pMax_i fun z hz => ?_
    simp only [cI_z]
    refine q1 z ?_
    unfold frZ
    rw [if_pos h]
    omega
  · exact q1 a (by unfold frZ; rw [if_neg h])
end Go.Proofs.Ythjmjehfcjchfaa

namespace Go.Proofs.Ythjmjehfcjchfaa
open Go Go.X Go.Proofs.Ythjmjehfcjchfaa.G
set_option maxRecDepth 100000
set_option maxHeartbeats 1600000
set_option linter.unusedVariables false
set_option linter.unusedSimpArgs false
variable {H : AH} {S : LS} {K : KF}
/-- A slice in memory that is newer than S0. -/
def NewV (S0 S : LS) (v : AV) (l : List AV) : Prop := Ext S0 S ∧ FrV S v l ∧ ∀ b, bkOf v b → S0.n ≤ b
theorem newV_nil {S0 : LS} {k : AV → AH → Prop} (hM : Mem H S) (hx : Ext S0 S) (hk : ∀ H' S' v, Mem H' S' → S'.n = S.n + 1 → Ext S S' → NewV S0 S' v [] → (∀ b, bkOf v b → b = S.n) → k v H') : pNewS (newK H) 0 1 [] k := by
  refine pNewS_i hM rfl (fun a ha => by simp at ha) fun H1 h1 => ?_
  exact hk H1 _ _ h1 rfl (Ext.push _ _) ⟨hx.trans (Ext.push _ _), .inr ⟨S.n, 0, true, [], rfl, LS.push_ob_self _ _, rfl, by simp, rfl, fun a ha => by simp at ha⟩, fun b hb => by
    have e : b = S.n := hb
    have := hx.n
    omega⟩ fun b hb => hb
theorem newV_one {S0 : LS} {s : AV} {k : AV → AH → Prop} (hM : Mem H S) (hx : Ext S0 S) (hs : s.one = true) (hk : ∀ H' S' v, Mem H' S' → S'.n = S.n + 1 → Ext S S' → NewV S0 S' v [s] → (∀ b, bkOf v b → b = S.n) → k v H') : pNewS (newK H) 1 1 [s] k := by
  refine pNewS_i hM rfl (fun a ha => by simp at ha; rw [ha]; exact hs) fun H1 h1 => ?_
  exact hk H1 _ _ h1 rfl (Ext.push _ _) ⟨hx.trans (Ext.push _ _), .inr ⟨S.n, 1, true, [s], rfl, LS.push_ob_self _ _, rfl, by simp, rfl, fun a ha => by simp at ha; rw [ha]; exact hs⟩, fun b hb => by
    have e : b = S.n := hb
    have := hx.n
    omega⟩ fun b hb => hb
theorem newV_app {S0 : LS} {v x : AV} {l l' : List AV} {Q : Nat → Prop} {k : AV → AH → Prop} (hM : Mem H S) (h : NewV S0 S v l) (hr : RdV S Q x l') (hl : l.length + l'.length ≤ 100000) (h1 : ∀ a ∈ l', a.one = true)
    (hk : ∀ H' S' v', Mem H' S' → (∀ b, b < S0.n → S'.ob b = S.ob b) → (∀ b, b < S.n → ¬ bkOf v b → S'.ob b = S.ob b) → S.n ≤ S'.n → NewV S0 S' v' (l ++ l') → (∀ b, bkOf v' b → bkOf v b ∨ S.n ≤ b) → k v' H') : pApp 1 16 v x H k := by
  obtain ⟨hx, hf, hb⟩ := h
  refine pApp_v hM hf hr (by omega) h1 fun H1 S1 v1 h1 n1 k1 f1 b1 _ _ _ => ?_
  have hk' : ∀ b, b < S0.n → S1.ob b = S.ob b := fun b hb' => k1 b (Nat.lt_of_lt_of_le hb' hx.n) fun g => by have := hb b g; omega
  refine hk H1 S1 v1 h1 hk' k1 n1 ⟨⟨Nat.le_trans hx.n n1, fun b hb' => (hk' b hb').trans (hx.ob b hb')⟩, f1, fun b g => ?_⟩ b1
  rcases b1 b g with q | q
  · exact hb b q
  · have := hx.n; omega
theorem FrW.extN {W : Nat → Prop} {n0 : Nat} {S0 S' : LS} (h : FrW S S' W) (hx : Ext S0 S) (hW : ∀ b, W b → S0.n ≤ b) : Ext S0 S' :=
  ⟨Nat.le_trans hx.n h.n, fun b hb => (h.ob b (Nat.lt_of_lt_of_le hb hx.n) fun g => by have := hW b g; omega).trans (hx.ob b hb)⟩
end Go.Proofs.Ythjmjehfcjchfaa

namespace Go.Proofs.Ythjmjehfcjchfaa
open Go Go.X Go.Proofs.Ythjmjehfcjchfaa.G
set_option maxRecDepth 100000
set_option maxHeartbeats 1600000
set_option linter.unusedVariables false
set_option linter.unusedSimpArgs false
variable {H : AH} {S : LS} {K : KF}
structure Opn where
  kind : Int
  i : Int
  j : Int
  fr : Bool
  s : AV
def Opn.cs (a : Opn) : List AV := [.int 0 a.kind, .int 0 a.i, .int 0 a.j, .bool a.fr, a.s]
structure Opn.ok (a : Opn) : Prop where
  i : i64 a.i
  j : i64 a.j
  kind : i64 a.kind
  s : isS a.s
def AtO (S : LS) (b o : Nat) (a : Opn) : Prop := ∃ cs m, S.ob b = .cells cs m ∧ o + 5 ≤ cs.length ∧ (cs.drop o).take 5 = a.cs
theorem AtO.ld {b o : Nat} {a : Opn} (h : AtO S b o a) (j : Nat) (x : AV) (hj : j < 5) (hx : a.cs[j]? = some x) {k : AV → Prop} (hM : Mem H S) (hk : k x) : pLoad (.ptr b (o + j)) H k := by
  obtain ⟨cs, m, h1, h2, h3⟩ := h
  refine pLoad_i hM h1 (v := x) ?_ hk
  have := congrArg (fun l => l[j]?) h3
  simp only [List.getElem?_take, hj, if_true, List.getElem?_drop] at this
  rw [this, hx]
theorem AtO.ld0 {b : Nat} {a : Opn} (h : AtO S b 0 a) (j : Nat) (x : AV) (hj : j < 5) (hx : a.cs[j]? = some x) {k : AV → Prop} (hM : Mem H S) (hk : k x) : pLoad (.ptr b j) H k := by
  have := h.ld j x hj hx (k := k) hM hk
  rw [Nat.zero_add] at this; exact this
theorem AtO.loadN {b o : Nat} {a : Opn} {k : AV → Prop} (h : AtO S b o a) (hM : Mem H S) (hk : k (.agg a.cs)) : pLoadN 5 (.ptr b o) H k := by
  obtain ⟨cs, m, h1, h2, h3⟩ := h
  refine pLoadN_i hM h1 h2 ?_
  rw [h3]; exact hk
theorem AtO.same {b o : Nat} {a : Opn} {S' : LS} (h : AtO S b o a) (e : S'.ob b = S.ob b) : AtO S' b o a := by
  obtain ⟨cs, m, h1, h2⟩ := h
  exact ⟨cs, m, e.trans h1, h2⟩
theorem AtO.lt {b o : Nat} {a : Opn} (h : AtO S b o a) (hM : Mem H S) : b < S.n := by
  obtain ⟨cs, m, h1, h2⟩ := h
  exact hM.lt (by rw [h1]; simp)
theorem cs_one {a : Opn} (h : a.ok) : ∀ x ∈ a.cs, x.one = true := by
  intro x hx
  simp only [Opn.cs, List.mem_cons, List.not_mem_nil, or_false] at hx
  rcases hx with rfl | rfl | rfl | rfl | rfl
  · rfl
  · rfl
  · rfl
  · rfl
  · exact h.s.one
theorem sameS {a : AV} (h : isS a) : sameAV a a = true := by
  cases a <;> first | exact h.elim | simp [sameAV]
theorem sameI (z : Int) : sameAV (.int 0 z) (.int 0 z) = true := sameAV_int 0 z
theorem pBEq_same (b : Bool) (q : AV → Prop) (h : q (.bool true)) : pBEq (.bool b) (.bool b) q := by cases b <;> exact h
noncomputable def R17 : f17_R := (f10, f11, f12, g15, f16, g20, f21, f22, f32, f33)
noncomputable def g17 : AV → AV → AV → AH → KF → Prop := f17_r R17
theorem g17_ok : FunOk Try.prog 17 (fnX [.a, .a, .a] g17) := f17_rok R17 (CTblOk.cons f10_ok (CTblOk.cons f11_ok (CTblOk.cons f12_ok (CTblOk.cons g15_ok (CTblOk.cons f16_ok (CTblOk.cons g20_ok (CTblOk.cons f21_ok (CTblOk.cons f22_ok (CTblOk.cons f32_ok (CTblOk.cons f33_ok CTblOk.nil))))))))))
theorem r17a : R17.1 = f10 := rfl
theorem r17b : R17.2.1 = f11 := rfl
theorem r17c : R17.2.2.1 = f12 := rfl
theorem r17d : R17.2.2.2.1 = g15 := rfl
theorem r17e : R17.2.2.2.2.1 = f16 := rfl
theorem r17f : R17.2.2.2.2.2.1 = g20 := rfl
theorem r17g : R17.2.2.2.2.2.2.1 = f21 := rfl
theorem r17h : R17.2.2.2.2.2.2.2.1 = f22 := rfl
theorem r17i : R17.2.2.2.2.2.2.2.2.1 = f32 := rfl
theorem r17j : R17.2.2.2.2.2.2.2.2.2 = f33 := rfl
section
variable {W : Nat → Prop} {rb : Nat}
theorem g15_out {L : List AV} {i : Int} {s : AV} (hM : Mem H S) (hR : RowE S W rb L) (hi : i < 0 ∨ (L.length : Int) < i) (hK : K (.ret (.bool false)) H) : g15 (.ptr rb 0) i s H K := by
  obtain ⟨vl, P, h, hf, hC⟩ := hR
  show f15_q0 R15 K (f15_p1 R15 K) (.ptr rb 0) i s H
  unfold f15_q0
  simp only [pPEq_pn, Bool.not_true, onB_b, bI_ff, iLt_d]
  have e0 : Int.ofNat 0 = 0 := rfl
  rw [e0]
  refine bI_dec (fun _ => hK) (fun g => ?_)
  refine h.ldT hM ?_
  simp only [cI_z]
  rw [decide_eq_true (show ((L.length : Int) < i) by omega)]
  exact hK
variable {L : List AV} {v : AV} {op : Opn} {bx : Nat}
/-- What holds between ops: the row and the list have the same texts. -/
structure Same (S : LS) (W : Nat → Prop) (rb : Nat) (v : AV) (L : List AV) : Prop where
  r : RowE S W rb L
  v : RdV S (fun b => ¬ W b) v L
/-- What an op may do. -/
def PlayG (S : LS) (W : Nat → Prop) (rb : Nat) (L : List AV) (K : KF) : Prop :=
  ∀ H' S' W' v' L', Mem H' S' → FrW S S' W → Same S' W' rb v' L' → (∀ b, W' b → W b ∨ S.n ≤ b) → L'.length ≤ L.length + 1 → K (.ret (.tup [v', .bool true])) H'
/-- The row has turned; the old list and the box are as they were. -/
theorem Same.keep {S1 : LS} {W1 : Nat → Prop} (h : Same S W rb v L) (hM : Mem H S) (fr : FrW S S1 W) (o : ∀ b, W1 b → W b ∨ S.n ≤ b) : RdV S1 (fun b => ¬ W1 b) v L :=
  h.v.keep hM fun b hq hb => ⟨fr.ob b hb hq, fun g => (o b g).elim hq fun g => by omega⟩
/-- What is new is none of the row's. -/
theorem new_rd {S1 S' : LS} {H' : AH} {W1 : Nat → Prop} {v' : AV} {L1 L' : List AV} (hM' : Mem H' S') (hR : RowE S1 W1 rb L1) (h : NewV S1 S' v' L') : RdV S' (fun b => ¬ W1 b) v' L' :=
  h.2.1.rd hM' fun b hb _ g => by have := hR.wl g; have := h.2.2 b hb; omega
theorem play_end {S1 S' : LS} {H1 H' : AH} {W1 : Nat → Prop} {v' : AV} {L' : List AV} (hM1 : Mem H1 S1) (hM' : Mem H' S') (fr : FrW S S1 W) (hR : RowE S1 W1 rb L') (o : ∀ b, W1 b → W b ∨ S.n ≤ b) (h : NewV S1 S' v' L') (hl : L'.length ≤ L.length + 1) (hK : PlayG S W rb L K) : K (.ret (.tup [v', .bool true])) H' :=
  hK H' S' W1 v' L' hM' ⟨Nat.le_trans fr.n h.1.n, fun b hb hn => (h.1.ob b (Nat.lt_of_lt_of_le hb fr.n)).trans (fr.ob b hb hn)⟩ ⟨hR.ext hM1 h.1, new_rd hM' hR h⟩ o hl
theorem play_push (hM : Mem H S) (h : Same S W rb v L) (hl : L.length ≤ 1000) (ht : AtO S bx 0 op) (hbx : ¬ W bx) (hop : op.ok) (hK : PlayG S W rb L K) {a8 a9 a34 : Int} {a10 : Bool} {x7 : AV → AV → Int → Bool → Bool → AH → Prop} {x6 : AV → Bool → Bool → AH → Prop} {x5 : AV → AV → AV → Int → Int → Bool → Int → Bool → AH → Prop} :
    f17_q4 R17 K x7 x6 x5 (.ptr rb 0) v (.ptr bx 0) a8 a9 a10 a34 true H := by
  unfold f17_q4
  rw [r17f]
  simp only [bI_tt, pFld_ptr, Nat.zero_add]
  refine ht.ld0 3 _ (by omega) rfl hM ?_
  simp only [onB_b]
  refine ht.ld0 4 _ (by omega) rfl hM ?_
  refine g20_i hM h.r (by omega) hop.s fun H1 S1 W1 h1 fr1 hR1 o1 => ?_
  simp only [cR_ret]
  have t1 := ht.same (fr1.ob bx (ht.lt hM) hbx)
  have v1 := h.keep hM fr1 o1
  have one : ∀ a ∈ L, a.one = true := fun a ha => (h.r.str a ha).one
  refine t1.ld0 3 _ (by omega) rfl h1 ?_
  simp only [onB_b]
  cases hf : op.fr with
  | true =>
    rw [hf] at hR1
    simp only [bI_tt]
    refine t1.ld0 4 _ (by omega) rfl h1 (one_i hop.s.one ?_)
    refine newV_one (S0 := S1) h1 (Ext.refl S1) hop.s.one fun H2 S2 v2 h2 _ x2 n2 _ => ?_
    refine newV_app h2 n2 (v1.ext h1 x2) (by simp; omega) one fun H3 S3 v3 h3 _ _ _ n3 _ => ?_
    exact play_end h1 h3 fr1 hR1 o1 n3 (by simp [pushL]) hK
  | false =>
    rw [hf] at hR1
    simp only [bI_ff]
    refine h1.atDead ?_
    refine newV_nil (S0 := S1) h1 (Ext.refl S1) fun H2 S2 v2 h2 e2 x2 n2 b2 => ?_
    refine bT_i (nbeq (by rw [h2.n, h1.n, e2])) ?_
    have t2 := t1.same (x2.ob bx (t1.lt h1))
    refine t2.ld0 4 _ (by omega) rfl h2 ?_
    refine h2.atDead (one_i hop.s.one ?_)
    refine newV_one (S0 := S2) h2 (Ext.refl S2) hop.s.one fun H3 S3 v3 h3 e3 x3 n3 b3 => ?_
    refine bT_i (nbeq (by rw [h3.n, h2.n, e3])) ?_
    have n2' : NewV S1 S3 v2 [] := ⟨x2.trans x3, n2.2.1.keep h2 fun b _ hb => x3.ob b hb, n2.2.2⟩
    have t3 := t2.same (x3.ob bx (t2.lt h2))
    refine newV_app h3 n2' ((v1.ext h1 x2).ext h2 x3) (by simp only [List.length_nil]; omega) one fun H4 S4 v4 h4 k4 k4' l4 n4 b4 => ?_
    have t4 := t3.same (S' := S4) (k4' bx (t3.lt h3) fun g => by have := b2 bx g; have := t1.lt h1; omega)
    refine t4.ld0 4 _ (by omega) rfl h4 (bT_i (sameS hop.s) ?_)
    have r3 : RdV S4 (fun _ => True) v3 [op.s] := (n3.2.1.rd h3 (Q := fun b => b = S2.n) fun b hb _ => b3 b hb).keep h3 fun b hq hb => ⟨k4' b hb fun g => by have := b2 b g; omega, trivial⟩
    refine newV_app h4 n4 r3 (by simp; omega) (by simp [hop.s.one]) fun H5 S5 v5 h5 _ _ _ n5 _ => ?_
    have e : ([] ++ L) ++ [op.s] = pushL false L op.s := rfl
    rw [e] at n5
    exact play_end h1 h5 fr1 hR1 o1 n5 (by simp [pushL]) hK
theorem play_pop (hM : Mem H S) (h : Same S W rb v L) (hl : L.length ≤ 1000) (ht : AtO S bx 0 op) (hbx : ¬ W bx) (hop : op.ok) (hK : PlayG S W rb L K) {a9 : Int} {a10 : Bool} {x7 : AV → AV → Int → Bool → Bool → AH → Prop} {x6 : AV → Bool → Bool → AH → Prop} {x5 : AV → AV → AV → Int → Int → Bool → Int → Bool → AH → Prop} :
    f17_q4 R17 K x7 x6 x5 (.ptr rb 0) v (.ptr bx 0) L.length a9 a10 2 false H := by
  unfold f17_q4
  rw [r17g]
  simp only [bI_ff, pFld_ptr, Nat.zero_add, iEq_d]
  rw [show decide ((2 : Int) = Int.ofNat 2) = true from rfl]
  simp only [bI_tt]
  refine ht.ld0 3 _ (by omega) rfl hM ?_
  simp only [onB_b]
  have e0 : Int.ofNat 0 = 0 := rfl
  refine f21_i hM h.r (by omega) (fun g => ?_) fun a L' g H1 S1 W1 h1 fr1 hR1 o1 => ?_
  · simp only [cR_ret]
    refine onTup_i (nth0 (onTup_i (nth1 ?_)))
    simp only [onB_b]
    subst g
    rw [e0, decide_eq_true (show ((([] : List AV).length : Nat) : Int) = 0 from rfl)]
    simp only [bI_tt, Bool.not_false]
    refine sEq_i (sS 0 0) ?_
    simp only [onB_b]
    exact hK H S W v [] hM (FrW.refl S W) h (fun b hb => .inl hb) (by simp)
  · simp only [cR_ret]
    refine onTup_i (nth0 (onTup_i (nth1 ?_)))
    simp only [onB_b]
    have v1 := h.keep hM fr1 o1
    have t1 := ht.same (fr1.ob bx (ht.lt hM) hbx)
    have hlen : L.length = L'.length + 1 := by
      cases hf : op.fr with
      | true => rw [hf] at g; have g' : L = a :: L' := g; rw [g']; simp
      | false => rw [hf] at g; have g' : L = L' ++ [a] := g; rw [g']; simp
    have has : isS a := by
      refine h.r.str a ?_
      cases hf : op.fr with
      | true => rw [hf] at g; have g' : L = a :: L' := g; rw [g']; simp
      | false => rw [hf] at g; have g' : L = L' ++ [a] := g; rw [g']; simp
    rw [e0, decide_eq_false (show ¬ ((L.length : Int) = 0) by omega)]
    simp only [bI_ff]
    refine t1.ld0 3 _ (by omega) rfl h1 ?_
    simp only [onB_b]
    cases hf : op.fr with
    | true =>
      rw [hf] at g
      have g' : L = a :: L' := g
      simp only [bI_tt]
      have e1 : Int.ofNat 1 = ((1 : Nat) : Int) := rfl
      rw [e1]
      refine pSlice_v v1 (i := 1) (j := L.length) (by omega) (Nat.le_refl _) (.inl rfl) (.inr ⟨rfl, rfl⟩) fun v2 r2 => ?_
      have e2 : (L.drop 1).take (L.length - 1) = L' := by rw [g']; simp
      rw [e2] at r2
      refine v1.load (i := 0) h1 (by rw [g']; rfl) ?_
      refine sEq_i has ?_
      simp only [onB_b]
      exact hK H1 S1 W1 v2 L' h1 fr1 ⟨hR1, r2⟩ o1 (by omega)
    | false =>
      rw [hf] at g
      have g' : L = L' ++ [a] := g
      simp only [bI_ff, bI_tt, isub, io1]
      refine w0 (by omega) (by omega) ?_
      have e1 : (L.length : Int) - 1 = (L'.length : Int) := by omega
      rw [e1]
      refine pSlice_v v1 (i := 0) (j := L'.length) (by omega) (by omega) (.inr ⟨rfl, rfl⟩) (.inl rfl) fun v2 r2 => ?_
      have e2 : (L.drop 0).take (L'.length - 0) = L' := by rw [g']; simp
      rw [e2] at r2
      refine w0 (by omega) (by omega) ?_
      refine v1.load (i := L'.length) (a := a) h1 (by rw [g']; simp) ?_
      refine sEq_i has ?_
      simp only [onB_b]
      exact hK H1 S1 W1 v2 L' h1 fr1 ⟨hR1, r2⟩ o1 (by omega)
/-- What the document says of a place. -/
def Plc (n : Nat) (z : Int) (a9 : Int) (a10 : Bool) : Prop := (plc n z = none ∧ a10 = false) ∨ ∃ i : Nat, plc n z = some i ∧ i < n ∧ a9 = i ∧ a10 = true
theorem play_set (hM : Mem H S) (h : Same S W rb v L) (hl : L.length ≤ 1000) (ht : AtO S bx 0 op) (hbx : ¬ W bx) (hop : op.ok) {a8 a9 : Int} {a10 : Bool} (hp : Plc L.length op.i a9 a10) (hK : PlayG S W rb L K) {x5 : AV → AV → AV → Int → Int → Bool → Int → Bool → AH → Prop} :
    f17_q4 R17 K (f17_p7 R17 K) (f17_p6 R17 K) x5 (.ptr rb 0) v (.ptr bx 0) a8 a9 a10 3 false H := by
  unfold f17_q4
  rw [r17h]
  simp only [bI_ff, pFld_ptr, Nat.zero_add, iEq_d]
  rw [show decide ((3 : Int) = Int.ofNat 2) = false from rfl, show decide ((3 : Int) = Int.ofNat 3) = true from rfl]
  simp only [bI_tt, bI_ff]
  refine ht.ld0 1 _ (by omega) rfl hM ?_
  simp only [cI_z]
  refine ht.ld0 4 _ (by omega) rfl hM ?_
  have one : ∀ a ∈ L, a.one = true := fun a ha => (h.r.str a ha).one
  refine f22_i hM h.r hop.i (by omega) hop.s (fun g => ?_) fun i g hi H1 S1 h1 n1 fr1 hR1 => ?_
  · simp only [cR_ret, onB_b, bI_ff]
    obtain ⟨_, rfl⟩ | ⟨i, g2, _⟩ := hp
    · show f17_q6 R17 K v false false H
      unfold f17_q6
      refine pBEq_same false _ ?_
      simp only [onB_b]
      exact hK H S W v L hM (FrW.refl S W) h (fun b hb => .inl hb) (by omega)
    · rw [g] at g2; cases g2
  · simp only [cR_ret, onB_b, bI_tt]
    obtain ⟨g2, _⟩ | ⟨i', g2, _, rfl, rfl⟩ := hp
    · rw [g] at g2; cases g2
    · rw [g] at g2; cases g2
      simp only [bI_tt]
      have v1 := h.keep hM fr1 (W1 := W) fun b hb => .inl hb
      have t1 := ht.same (fr1.ob bx (ht.lt hM) hbx)
      show f17_q7 R17 K (f17_q9 R17 K (f17_q6 R17 K)) v (.ptr bx 0) i true true H1
      unfold f17_q7
      refine newV_nil (S0 := S1) h1 (Ext.refl S1) fun H2 S2 v2 h2 e2 x2 n2 b2 => ?_
      refine newV_app h2 n2 (v1.ext h1 x2) (by simp; omega) one fun H3 S3 v3 h3 _ k3 l3 n3 b3 => ?_
      rw [List.nil_append] at n3
      have t3 := t1.same (n3.1.ob bx (t1.lt h1))
      unfold f17_q9
      simp only [pFld_ptr, Nat.zero_add]
      refine t3.ld0 4 _ (by omega) rfl h3 ?_
      refine n3.2.1.store h3 hi hop.s.one fun H4 S4 h4 n4 k4 f4 => ?_
      unfold f17_q6
      refine pBEq_same true _ ?_
      simp only [onB_b]
      have x4 : Ext S1 S4 := ⟨by rw [n4]; exact n3.1.n, fun b hb => (k4 b fun g => by have := n3.2.2 b g; omega).trans (n3.1.ob b hb)⟩
      exact play_end h1 h4 fr1 hR1 (fun b hb => .inl hb) ⟨x4, f4, n3.2.2⟩ (by simp) hK
end
end Go.Proofs.Ythjmjehfcjchfaa

namespace Go.Proofs.Ythjmjehfcjchfaa
open Go Go.X Go.Proofs.Ythjmjehfcjchfaa.G
set_option maxRecDepth 100000
set_option maxHeartbeats 1600000
set_option linter.unusedVariables false
set_option linter.unusedSimpArgs false
variable {H : AH} {S : LS} {K : KF}
section
variable {W : Nat → Prop} {rb : Nat} {L : List AV} {v : AV} {op : Opn} {bx : Nat}
theorem play_ins (hM : Mem H S) (h : Same S W rb v L) (hl : L.length ≤ 1000) (ht : AtO S bx 0 op) (hbx : ¬ W bx) (hop : op.ok) (hK : PlayG S W rb L K) {a9 a34 : Int} {a10 : Bool} {x1 : AV → AV → AV → Int → Int → Bool → AH → Prop} :
    f17_q5 R17 K (f17_p8 R17 K) x1 (.ptr rb 0) v (.ptr bx 0) L.length a9 a10 a34 true H := by
  have one : ∀ a ∈ L, a.one = true := fun a ha => (h.r.str a ha).one
  have e0 : Int.ofNat 0 = 0 := rfl
  unfold f17_q5
  rw [r17d]
  simp only [bI_tt, pFld_ptr, Nat.zero_add]
  refine ht.ld0 1 _ (by omega) rfl hM ?_
  simp only [cI_z]
  refine ht.ld0 4 _ (by omega) rfl hM ?_
  by_cases g : op.i < 0 ∨ (L.length : Int) < op.i
  · refine g15_out hM h.r g ?_
    simp only [cR_ret, onB_b, Bool.not_false]
    refine ht.ld0 1 _ (by omega) rfl hM ?_
    simp only [cI_z, iLt_d]
    rw [e0]
    have fin : K (.ret (.tup [v, .bool true])) H := hK H S W v L hM (FrW.refl S W) h (fun b hb => .inl hb) (by omega)
    refine bI_dec (fun _ => fin) (fun g1 => ?_)
    refine ht.ld0 1 _ (by omega) rfl hM ?_
    simp only [cI_z]
    rw [decide_eq_true (show (L.length : Int) < op.i by omega)]
    exact fin
  · obtain ⟨m, hm⟩ := Int.eq_ofNat_of_zero_le (show 0 ≤ op.i by omega)
    rw [hm]
    refine g15_i hM h.r (i := m) (by omega) (by omega) hop.s fun H1 S1 W1 h1 fr1 hR1 o1 => ?_
    simp only [cR_ret, onB_b, Bool.not_true]
    have v1 := h.keep hM fr1 o1
    have t1 := ht.same (fr1.ob bx (ht.lt hM) hbx)
    refine t1.ld0 1 _ (by omega) rfl h1 ?_
    simp only [cI_z, iLt_d]
    rw [e0, decide_eq_false (show ¬ op.i < 0 by omega)]
    simp only [bI_ff]
    refine t1.ld0 1 _ (by omega) rfl h1 ?_
    simp only [cI_z]
    rw [decide_eq_false (show ¬ (L.length : Int) < op.i by omega)]
    simp only [bI_ff]
    show f17_q8 R17 K v (.ptr bx 0) true H1
    unfold f17_q8
    simp only [pFld_ptr, Nat.zero_add]
    refine h1.atDead ?_
    refine newV_nil (S0 := S1) h1 (Ext.refl S1) fun H2 S2 v2 h2 e2 x2 n2 b2 => ?_
    refine bT_i (nbeq (by rw [h2.n, h1.n, e2])) ?_
    have t2 := t1.same (x2.ob bx (t1.lt h1))
    refine t2.ld0 1 _ (by omega) rfl h2 ?_
    simp only [cI_z]
    rw [hm]
    refine pSlice_v v1 (i := 0) (j := m) (by omega) (by omega) (.inr ⟨rfl, rfl⟩) (.inl rfl) fun v6 r6 => ?_
    rw [List.drop_zero, Nat.sub_zero] at r6
    refine t2.ld0 4 _ (by omega) rfl h2 ?_
    refine h2.atDead (one_i hop.s.one ?_)
    refine newV_one (S0 := S2) h2 (Ext.refl S2) hop.s.one fun H3 S3 v3 h3 e3 x3 n3 b3 => ?_
    refine bT_i (nbeq (by rw [h3.n, h2.n, e3])) ?_
    have n2' : NewV S1 S3 v2 [] := ⟨x2.trans x3, n2.2.1.keep h2 fun b _ hb => x3.ob b hb, n2.2.2⟩
    have t3 := t2.same (x3.ob bx (t2.lt h2))
    refine t3.ld0 1 _ (by omega) rfl h3 ?_
    simp only [cI_z]
    rw [hm]
    refine pSlice_v v1 (i := m) (j := L.length) (by omega) (Nat.le_refl _) (.inl rfl) (.inr ⟨rfl, rfl⟩) fun v7 r7 => ?_
    have e7 : (L.drop m).take (L.length - m) = L.drop m := List.take_of_length_le (by simp)
    rw [e7] at r7
    refine newV_app h3 n2' (r6.ext h1 n2'.1) (by simp; omega) (fun a ha => one a (List.mem_of_mem_take ha)) fun H4 S4 v4 h4 k4 k4' l4 n4 b4 => ?_
    have t4 := t3.same (S' := S4) (k4' bx (t3.lt h3) fun g => by have := b2 bx g; have := t1.lt h1; omega)
    refine t4.ld0 1 _ (by omega) rfl h4 ?_
    simp only [cI_z]
    rw [hm]
    refine bT_i (sameI _) ?_
    refine t4.ld0 4 _ (by omega) rfl h4 (bT_i (sameS hop.s) ?_)
    have r3 : RdV S4 (fun _ => True) v3 [op.s] := (n3.2.1.rd h3 (Q := fun b => b = S2.n) fun b hb _ => b3 b hb).keep h3 fun b hq hb => ⟨k4' b hb fun g => by have := b2 b g; omega, trivial⟩
    refine newV_app h4 n4 r3 (by simp; omega) (by simp [hop.s.one]) fun H5 S5 v5 h5 k5 k5' l5 n5 b5 => ?_
    have t5 := t4.same (S' := S5) (k5' bx (t4.lt h4) fun g => by have := n4.2.2 bx g; have := t1.lt h1; omega)
    refine t5.ld0 1 _ (by omega) rfl h5 ?_
    simp only [cI_z]
    rw [hm]
    refine bT_i (sameI _) ?_
    refine newV_app h5 n5 (r7.ext h1 n5.1) (by simp; omega) (fun a ha => one a (List.mem_of_mem_drop ha)) fun H6 S6 v6' h6 _ _ _ n6 _ => ?_
    have e : (([] ++ L.take m) ++ [op.s]) ++ L.drop m = insAt L m op.s := by unfold insAt; simp
    rw [e] at n6
    exact play_end h1 h6 fr1 hR1 o1 n6 (by rw [insAt_len (by omega)]; omega) hK
theorem play_rem (hM : Mem H S) (h : Same S W rb v L) (hl : L.length ≤ 1000) (ht : AtO S bx 0 op) (hbx : ¬ W bx) (hop : op.ok) {a8 a9 : Int} {a10 : Bool} (hp : Plc L.length op.i a9 a10) (hK : PlayG S W rb L K) {x8 : AV → AV → Bool → AH → Prop} {x1 : AV → AV → AV → Int → Int → Bool → AH → Prop} :
    f17_q5 R17 K x8 x1 (.ptr rb 0) v (.ptr bx 0) a8 a9 a10 6 false H := by
  have one : ∀ a ∈ L, a.one = true := fun a ha => (h.r.str a ha).one
  unfold f17_q5
  rw [r17e]
  simp only [bI_ff, pFld_ptr, Nat.zero_add, iEq_d]
  rw [show decide ((6 : Int) = Int.ofNat 6) = true from rfl]
  simp only [bI_tt]
  refine ht.ld0 1 _ (by omega) rfl hM ?_
  simp only [cI_z]
  refine f16_i hM h.r hop.i (by omega) (fun g => ?_) fun i a g ha H1 S1 W1 h1 fr1 hR1 o1 => ?_
  · simp only [cR_ret]
    refine onTup_i (nth0 (onTup_i (nth1 ?_)))
    simp only [onB_b]
    obtain ⟨_, rfl⟩ | ⟨i, g2, _⟩ := hp
    · simp only [Bool.not_false, bI_tt]
      refine sEq_i (sS 0 0) ?_
      simp only [onB_b]
      exact hK H S W v L hM (FrW.refl S W) h (fun b hb => .inl hb) (by omega)
    · rw [g] at g2; cases g2
  · simp only [cR_ret]
    refine onTup_i (nth0 (onTup_i (nth1 ?_)))
    simp only [onB_b]
    obtain ⟨g2, _⟩ | ⟨i', g2, hi, rfl, rfl⟩ := hp
    · rw [g] at g2; cases g2
    · rw [g] at g2; cases g2
      simp only [Bool.not_true, bI_ff, bI_tt]
      have v1 := h.keep hM fr1 o1
      refine h1.atDead ?_
      refine newV_nil (S0 := S1) h1 (Ext.refl S1) fun H2 S2 v2 h2 e2 x2 n2 b2 => ?_
      refine bT_i (nbeq (by rw [h2.n, h1.n, e2])) ?_
      refine pSlice_v v1 (i := 0) (j := i) (by omega) (by omega) (.inr ⟨rfl, rfl⟩) (.inl rfl) fun v6 r6 => ?_
      rw [List.drop_zero, Nat.sub_zero] at r6
      simp only [iadd, io1]
      refine w0 (by omega) (by omega) ?_
      have ei : (i : Int) + 1 = ((i + 1 : Nat) : Int) := rfl
      rw [ei]
      refine pSlice_v v1 (i := i + 1) (j := L.length) (by omega) (Nat.le_refl _) (.inl rfl) (.inr ⟨rfl, rfl⟩) fun v7 r7 => ?_
      have e7 : (L.drop (i + 1)).take (L.length - (i + 1)) = L.drop (i + 1) := List.take_of_length_le (by simp)
      rw [e7] at r7
      refine newV_app h2 n2 (r6.ext h1 n2.1) (by simp; omega) (fun a ha => one a (List.mem_of_mem_take ha)) fun H4 S4 v4 h4 _ _ _ n4 b4 => ?_
      refine newV_app h4 n4 (r7.ext h1 n4.1) (by simp; omega) (fun a ha => one a (List.mem_of_mem_drop ha)) fun H5 S5 v5 h5 _ _ _ n5 _ => ?_
      refine (v1.ext h1 n5.1).load h5 ha ?_
      refine sEq_i (h.r.str a (List.mem_of_getElem? ha)) ?_
      simp only [onB_b]
      have e : ([] ++ L.take i) ++ L.drop (i + 1) = delAt L i := by unfold delAt; simp
      rw [e] at n5
      exact play_end h1 h5 fr1 hR1 o1 n5 (by rw [delAt_len hi]; omega) hK
theorem play_cut (hM : Mem H S) (h : Same S W rb v L) (hl : L.length ≤ 1000) (ht : AtO S bx 0 op) (hbx : ¬ W bx) (hop : op.ok) {a9 : Int} {a10 : Bool} (hp : Plc L.length op.i a9 a10) (hK : PlayG S W rb L K) :
    f17_q1 R17 K (f17_q3 R17 K) (.ptr rb 0) v (.ptr bx 0) L.length a9 a10 H := by
  unfold f17_q1
  rw [r17a, r17j]
  simp only [pFld_ptr, Nat.zero_add]
  refine ht.ld0 1 _ (by omega) rfl hM ?_
  simp only [cI_z]
  refine ht.ld0 2 _ (by omega) rfl hM ?_
  simp only [cI_z]
  refine f33_i (by omega) hop.i hop.j fun p q hpq hq hprt => ?_
  simp only [cR_ret]
  refine onTup_i (nth0 ?_)
  simp only [cI_z]
  refine onTup_i (nth1 ?_)
  simp only [cI_z]
  refine ht.ld0 1 _ (by omega) rfl hM ?_
  simp only [cI_z]
  have rest : ∀ (s : AV) (is : Bool), is = a10 → (is = true → ∃ i : Nat, a9 = i ∧ L[i]? = some s) → f17_q3 R17 K (.ptr rb 0) v (.ptr bx 0) a9 a10 p q s is H := fun s is e1 e2 => by
    subst e1
    unfold f17_q3
    rw [r17b, r17c]
    simp only [pFld_ptr, Nat.zero_add]
    refine ht.ld0 1 _ (by omega) rfl hM ?_
    simp only [cI_z]
    refine ht.ld0 2 _ (by omega) rfl hM ?_
    simp only [cI_z]
    refine pSlice_v h.v (i := p) (j := q) hpq hq (.inl rfl) (.inl rfl) fun v7 r7 => ?_
    rw [← hprt L rfl] at r7
    refine f12_i hM h.r (by omega) hop.i hop.j fun H1 S1 v8 h1 x1 f1 b1 => ?_
    simp only [cR_ret]
    have hsub : ∀ a ∈ prt L op.i op.j, isS a := fun a ha => by
      rw [hprt L rfl] at ha
      exact h.r.str a (List.mem_of_mem_drop (List.mem_of_mem_take ha))
    have hlp : (prt L op.i op.j).length ≤ 100000 := by rw [hprt L rfl]; simp; omega
    refine f11_i h1 (f1.rd h1 (Q := fun _ => True) fun _ _ _ => trivial) (r7.ext hM x1) hlp hsub ?_
    simp only [cR_ret, onB_b, bI_tt]
    refine pBEq_same is _ ?_
    simp only [onB_b, bI_tt]
    have fin : K (.ret (.tup [v, .bool true])) H1 := hK H1 S1 W v L h1 (FrW.ext x1 W) ⟨h.r.ext hM x1, h.v.ext hM x1⟩ (fun b hb => .inl hb) (by omega)
    cases is with
    | false =>
      simp only [Bool.not_false, bI_tt]
      exact fin
    | true =>
      simp only [Bool.not_true, bI_ff]
      obtain ⟨i, rfl, hi⟩ := e2 rfl
      refine (h.v.ext hM x1).load h1 hi ?_
      refine sEq_i (h.r.str s (List.mem_of_getElem? hi)) ?_
      simp only [onB_b]
      exact fin
  refine f10_i hM h.r hop.i (by omega) (fun g => ?_) fun i a g ha => ?_
  · simp only [cR_ret]
    refine onTup_i (nth0 (onTup_i (nth1 ?_)))
    simp only [onB_b]
    obtain ⟨_, rfl⟩ | ⟨i, g2, _⟩ := hp
    · exact rest _ _ rfl fun g => by cases g
    · rw [g] at g2; cases g2
  · simp only [cR_ret]
    refine onTup_i (nth0 (onTup_i (nth1 ?_)))
    simp only [onB_b]
    obtain ⟨g2, _⟩ | ⟨i', g2, hi, rfl, rfl⟩ := hp
    · rw [g] at g2; cases g2
    · rw [g] at g2; cases g2
      exact rest _ _ rfl fun _ => ⟨i, rfl, ha⟩
theorem g17_i (hM : Mem H S) (h : Same S W rb v L) (hl : L.length ≤ 1000) (hop : op.ok) (hK : PlayG S W rb L K) : g17 (.ptr rb 0) v (.agg op.cs) H K := by
  show f17_q0 R17 K (f17_q2 R17 K (f17_q4 R17 K (f17_p7 R17 K) (f17_p6 R17 K) (f17_q5 R17 K (f17_p8 R17 K) (f17_q1 R17 K (f17_q3 R17 K))))) (.ptr rb 0) v (.agg op.cs) H
  unfold f17_q0
  rw [r17i]
  refine xBox_agg hM (cs_one hop) fun H1 h1 => ?_
  have x1 : Ext S (S.push (.cells op.cs 0)) := Ext.push _ _
  have t1 : AtO (S.push (.cells op.cs 0)) S.n 0 op := ⟨op.cs, 0, LS.push_ob_self _ _, by simp [Opn.cs], by simp [Opn.cs]⟩
  have n1 : (S.push (.cells op.cs 0)).n = S.n + 1 := rfl
  generalize S.push (.cells op.cs 0) = S1 at h1 x1 t1 n1
  have hbx : ¬ W S.n := fun g => by have := h.r.wl g; omega
  have hS1 : Same S1 W rb v L := ⟨h.r.ext hM x1, h.v.ext hM x1⟩
  have hK1 : PlayG S1 W rb L K := fun H' S' W' v' L' h' fr' sm' o' l' => hK H' S' W' v' L' h' ((FrW.ext x1 W).trans fr' fun b _ g => g) sm' (fun b hb => (o' b hb).imp id fun g => by omega) l'
  refine hS1.v.len ?_
  simp only [cI_z, pFld_ptr, Nat.zero_add]
  refine t1.ld0 1 _ (by omega) rfl h1 ?_
  simp only [cI_z]
  have e8 : Int.ofNat 8 = 8 := rfl
  have e0 : Int.ofNat 0 = 0 := rfl
  have e1 : Int.ofNat 1 = 1 := rfl
  have e2 : Int.ofNat 2 = 2 := rfl
  have e3 : Int.ofNat 3 = 3 := rfl
  have e4 : Int.ofNat 4 = 4 := rfl
  have e5 : Int.ofNat 5 = 5 := rfl
  have e6 : Int.ofNat 6 = 6 := rfl
  have main : ∀ (a9 : Int) (a10 : Bool), Plc L.length op.i a9 a10 → pLoad (.ptr S.n 0) H1 fun v18 => cI 0 v18 fun z19 => bI (iEq (.ofNat 8) 0) False (forceI (Int.tmod z19 (.ofNat 8)) fun z20 => wrapK 0 (Int.add z20 (.ofNat 8)) fun z21 => bI (iEq (.ofNat 8) 0) False (forceI (Int.tmod z21 (.ofNat 8)) fun z22 => f17_q2 R17 K (f17_q4 R17 K (f17_p7 R17 K) (f17_p6 R17 K) (f17_q5 R17 K (f17_p8 R17 K) (f17_q1 R17 K (f17_q3 R17 K)))) (.ptr rb 0) v (.ptr S.n 0) L.length a9 a10 z22 H1)) := fun a9 a10 hp => by
    refine t1.ld0 0 _ (by omega) rfl h1 ?_
    simp only [cI_z, iEq_d]
    rw [e8, show decide ((8 : Int) = 0) = false from rfl]
    simp only [bI_ff, forceI_s, iadd]
    have b1 := Int.lt_tmod_of_pos op.kind (show (0 : Int) < 8 by omega)
    have b2 := Int.tmod_lt_of_pos op.kind (show (0 : Int) < 8 by omega)
    refine w0 (by omega) (by omega) ?_
    have b3 : 0 ≤ Int.tmod (Int.tmod op.kind 8 + 8) 8 := Int.tmod_nonneg _ (by omega)
    have b4 := Int.tmod_lt_of_pos (Int.tmod op.kind 8 + 8) (show (0 : Int) < 8 by omega)
    generalize Int.tmod (Int.tmod op.kind 8 + 8) 8 = z at b3 b4
    unfold f17_q2
    simp only [iEq_d]
    by_cases g0 : z = 0
    · subst g0
      rw [e0, decide_eq_true (show (0 : Int) = 0 from rfl)]
      simp only [bI_tt]
      exact play_push h1 hS1 hl t1 hbx hop hK1
    rw [e0, decide_eq_false g0]
    simp only [bI_ff]
    by_cases g1 : z = 1
    · subst g1
      rw [e1, decide_eq_true (show (1 : Int) = 1 from rfl)]
      exact play_push h1 hS1 hl t1 hbx hop hK1
    rw [e1, decide_eq_false g1]
    by_cases g2 : z = 2
    · subst g2
      exact play_pop h1 hS1 hl t1 hbx hop hK1
    by_cases g3 : z = 3
    · subst g3
      exact play_set h1 hS1 hl t1 hbx hop hp hK1
    unfold f17_q4
    simp only [bI_ff, iEq_d]
    rw [e2, decide_eq_false g2]
    simp only [bI_ff]
    rw [e3, decide_eq_false g3]
    simp only [bI_ff]
    by_cases g4 : z = 4
    · subst g4
      rw [e4, decide_eq_true (show (4 : Int) = 4 from rfl)]
      simp only [bI_tt]
      exact play_ins h1 hS1 hl t1 hbx hop hK1
    rw [e4, decide_eq_false g4]
    simp only [bI_ff]
    by_cases g5 : z = 5
    · subst g5
      rw [e5, decide_eq_true (show (5 : Int) = 5 from rfl)]
      exact play_ins h1 hS1 hl t1 hbx hop hK1
    rw [e5, decide_eq_false g5]
    by_cases g6 : z = 6
    · subst g6
      exact play_rem h1 hS1 hl t1 hbx hop hp hK1
    unfold f17_q5
    simp only [bI_ff, iEq_d]
    rw [e6, decide_eq_false g6]
    simp only [bI_ff]
    exact play_cut h1 hS1 hl t1 hbx hop hp hK1
  refine f32_i (by omega) hop.i (fun g z' => ?_) fun i g hi => ?_
  · simp only [cR_ret]
    refine onTup_i (nth0 ?_)
    simp only [cI_z]
    refine onTup_i (nth1 ?_)
    simp only [onB_b]
    exact main _ _ (.inl ⟨g, rfl⟩)
  · simp only [cR_ret]
    refine onTup_i (nth0 ?_)
    simp only [cI_z]
    refine onTup_i (nth1 ?_)
    simp only [onB_b]
    exact main _ _ (.inr ⟨i, g, hi, rfl, rfl⟩)
end
end Go.Proofs.Ythjmjehfcjchfaa

namespace Go.Proofs.Ythjmjehfcjchfaa
open Go Go.X Go.Proofs.Ythjmjehfcjchfaa.G Go.ChangeShapes
set_option maxRecDepth 100000
set_option maxHeartbeats 1600000
set_option linter.unusedVariables false
set_option linter.unusedSimpArgs false
section
variable {H : AH} {S : LS} {K : KF}
/-- A slice's value that reads as a list of ops. -/
def RdO (S : LS) (v : AV) (l : List Opn) : Prop := (v = .nslice ∧ l = []) ∨ ∃ b o c ex cs m, v = .slice b o l.length c 5 ex ∧ S.ob b = .cells cs m ∧ o + l.length * 5 ≤ cs.length ∧ ∀ (i : Nat) a, l[i]? = some a → (cs.drop (o + i * 5)).take 5 = a.cs
theorem RdO.ext {S' : LS} {v : AV} {l : List Opn} (h : RdO S v l) (hM : Mem H S) (hx : Ext S S') : RdO S' v l := by
  rcases h with h | ⟨b, o, c, ex, cs, m, h1, h3, h4⟩
  · exact .inl h
  · exact .inr ⟨b, o, c, ex, cs, m, h1, (hx.ob b (hM.lt (by rw [h3]; simp))).trans h3, h4⟩
theorem RdO.len {v : AV} {l : List Opn} {k : AV → Prop} (h : RdO S v l) (hk : k (.int 0 l.length)) : pLen v k := by
  rcases h with ⟨rfl, rfl⟩ | ⟨b, o, c, ex, cs, m, rfl, _⟩
  · exact hk
  · exact hk
theorem RdO.at_ {v : AV} {l : List Opn} {i : Nat} {a : Opn} {q : Nat} {k : AV → Prop} (h : RdO S v l) (hi : l[i]? = some a) (hk : ∀ b o, AtO S b o a → k (.ptr b o)) : pIdx 5 v (.int q i) k := by
  have hil := (List.getElem?_eq_some_iff.1 hi).1
  rcases h with ⟨rfl, rfl⟩ | ⟨b, o, c, ex, cs, m, rfl, h3, h4, h5⟩
  · simp at hi
  · refine pIdx_i (by omega) (by omega) ?_
    refine hk _ _ ⟨cs, m, h3, by omega, ?_⟩
    rw [Int.toNat_natCast]
    exact h5 i a hi
noncomputable def R5 : f5_R := (toldK, g8, f9, f11, f13, f14, g17)
noncomputable def g5 : AV → AV → AH → KF → Prop := f5_r R5
theorem g5_ok : FunOk Try.prog 5 (fnX [.a, .a] g5) := f5_rok R5 (CTblOk.cons told_ok (CTblOk.cons g8_ok (CTblOk.cons f9_ok (CTblOk.cons f11_ok (CTblOk.cons f13_ok (CTblOk.cons f14_ok (CTblOk.cons g17_ok CTblOk.nil)))))))
theorem r5a : R5.1 = toldK := rfl
theorem r5b : R5.2.1 = g8 := rfl
theorem r5c : R5.2.2.1 = f9 := rfl
theorem r5d : R5.2.2.2.1 = f11 := rfl
theorem r5e : R5.2.2.2.2.1 = f13 := rfl
theorem r5f : R5.2.2.2.2.2.1 = f14 := rfl
theorem r5g : R5.2.2.2.2.2.2 = g17 := rfl
variable {S0 : LS} {H0 : AH} {rb : Nat} {vo : AV} {ops : List Opn}
/-- What holds ahead of each op. -/
structure Plays (S0 S : LS) (rb : Nat) (v : AV) (i : Nat) : Prop where
  ext : Ext S0 S
  ex : ∃ W L, Same S W rb v L ∧ (∀ b, W b → S0.n ≤ b) ∧ L.length ≤ 200 + i
theorem g5_end {v : AV} {i : Nat} (hM : Mem H S) (h : Plays S0 S rb v i) (hi : i ≤ 100) (hK : ∀ H', K (.ret (.bool true)) H') : f5_q1 R5 K (.ptr rb 0) v H := by
  obtain ⟨_, W, L, hs, _, hl⟩ := h
  unfold f5_q1
  rw [r5a, r5c, r5d]
  unfold toldK
  simp only [cR_ret, onB_b, bI_tt]
  refine f9_i hM hs.r (by omega) fun H1 S1 v1 h1 x1 f1 _ _ => ?_
  simp only [cR_ret]
  refine f11_i h1 (f1.rd h1 (Q := fun _ => True) fun _ _ _ => trivial) (hs.v.ext hM x1) (by omega) hs.r.str ?_
  simp only [cR_ret, onB_b]
  exact hK _
theorem g5_loop (hM0 : Mem H0 S0) (ho : RdO S0 vo ops) (hops : ∀ a ∈ ops, a.ok) (hK : ∀ H', K (.ret (.bool true)) H') :
    ∀ (n i : Nat) {H : AH} {S : LS} {v : AV}, Mem H S → Plays S0 S rb v i → i ≤ 100 → 100 - i < n → f5_l2 R5 K n vo (.ptr rb 0) v i H
  | 0, _, _, _, _, _, _, _, h => by omega
  | n + 1, i, H, S, v, hM, h, hi, hn => by
    show f5_q2 R5 K (f5_q4 R5 K (f5_q3 R5 K (f5_l2 R5 K n))) (f5_q1 R5 K) vo (.ptr rb 0) v i H
    unfold f5_q2
    rw [r5a, r5g]
    have ho1 := ho.ext hM0 h.ext
    refine ho1.len ?_
    have e100 : Int.ofNat 100 = 100 := rfl
    simp only [cI_z, iLt_d]
    refine bI_dec (fun g => ?_) (fun g => g5_end hM h hi hK)
    refine bI_dec (fun g2 => ?_) (fun g2 => g5_end hM h hi hK)
    obtain ⟨op, hop⟩ : ∃ op, ops[i]? = some op := ⟨ops[i], List.getElem?_eq_getElem (by omega)⟩
    have hok := hops op (List.mem_of_getElem? hop)
    refine ho1.at_ hop fun b o hat => ?_
    simp only [pFld_ptr]
    refine hat.ld 4 _ (by omega) rfl hM ?_
    obtain ⟨x, y, hxy⟩ : ∃ x y, op.s = .str x y := by
      have := hok.s
      cases hs : op.s <;> rw [hs] at this <;> first | exact this.elim | exact ⟨_, _, rfl⟩
    rw [hxy, sLen_s]
    simp only [cI_z]
    refine bI_dec (fun g3 => ?_) (fun g3 => ?_)
    · unfold toldK
      simp only [cR_ret, onB_b]
      exact hK _
    · refine ho1.at_ hop fun b o hat => hat.loadN hM ?_
      obtain ⟨hx, W, L, hs, hW, hl⟩ := h
      refine g17_i hM hs (by omega) hok fun H1 S1 W1 v1 L1 h1 fr1 hs1 o1 l1 => ?_
      simp only [cR_ret]
      refine onTup_i (nth0 (onTup_i (nth1 ?_)))
      simp only [onB_b]
      show f5_q4 R5 K (f5_q3 R5 K (f5_l2 R5 K n)) vo (.ptr rb 0) i v1 true H1
      unfold f5_q4
      rw [r5e, r5f]
      simp only [Bool.not_true, bI_ff]
      refine f13_i h1 hs1.r ?_
      simp only [cR_ret, cI_z]
      refine hs1.v.len ?_
      simp only [cI_z, iEq_d, decide_true, Bool.not_true, bI_ff]
      refine f14_i h1 hs1.r fun q hq => ?_
      simp only [cR_ret, cI_z]
      refine hs1.v.len ?_
      simp only [cI_z]
      rw [show decide (Int.ofNat 8 = 0) = false from rfl]
      simp only [bI_ff]
      have e8 : Int.tdiv (L1.length : Int) (Int.ofNat 8) = ((L1.length / 8 : Nat) : Int) := rfl
      rw [e8]
      refine w0 (by omega) (by omega) ?_
      have e9 : Int.add ((L1.length / 8 : Nat) : Int) (Int.ofNat 2) = ((L1.length / 8 + 2 : Nat) : Int) := rfl
      rw [e9]
      refine w0 (by omega) (by omega) ?_
      rw [iLt_d, decide_eq_false (show ¬ ((L1.length / 8 + 2 : Nat) : Int) < (q : Int) by omega)]
      simp only [bI_ff]
      refine f14_i h1 hs1.r fun q2 hq2 => ?_
      simp only [cR_ret, cI_z]
      rw [iLt_d, decide_eq_false (show ¬ ((q2 : Nat) : Int) < Int.ofNat 0 by have : Int.ofNat 0 = 0 := rfl; omega)]
      simp only [bI_ff]
      unfold f5_q3
      simp only [iadd, io1]
      refine w0 (by omega) (by omega) ?_
      exact g5_loop hM0 ho hops hK n (i + 1) h1 ⟨⟨Nat.le_trans hx.n fr1.n, fun b hb => (fr1.ob b (Nat.lt_of_lt_of_le hb hx.n) fun g => by have := hW b g; omega).trans (hx.ob b hb)⟩, W1, L1, hs1, fun b hb => (o1 b hb).elim (hW b) fun g => by have := hx.n; omega, by omega⟩ (by omega) (by omega)
theorem g5_i {Q : Nat → Prop} {l : List AV} {v0 : AV} (hM : Mem H S) (hr : RdV S Q v0 l) (hs : ∀ a ∈ l, isS a) (ho : RdO S vo ops) (hops : ∀ a ∈ ops, a.ok) (hK : ∀ H', K (.ret (.bool true)) H') : g5 v0 vo H K := by
  show f5_q0 R5 K (f5_l2 R5 K NL) v0 vo H
  unfold f5_q0
  rw [r5a, r5b]
  refine hr.len ?_
  have e100 : Int.ofNat 100 = 100 := rfl
  simp only [cI_z, iLt_d]
  refine bI_dec (fun g => ?_) (fun g => ?_)
  · unfold toldK
    simp only [cR_ret, onB_b]
    exact hK _
  · refine g8_i hM hr (by omega) hs fun H1 S1 W1 r1 h1 x1 hR1 o1 => ?_
    simp only [cR_ret, pPEq_pn, onB_b, Bool.not_true, bI_ff]
    refine newV_nil (S0 := S1) h1 (Ext.refl S1) fun H2 S2 v2 h2 _ x2 n2 _ => ?_
    refine newV_app h2 n2 ((hr.ext hM x1).ext h1 x2) (by simp; omega) (fun a ha => (hs a ha).one) fun H3 S3 v3 h3 _ _ _ n3 _ => ?_
    rw [List.nil_append] at n3
    exact g5_loop hM ho hops hK NL 0 h3 ⟨x1.trans n3.1, W1, l, ⟨hR1.ext h1 n3.1, new_rd h3 hR1 n3⟩, o1, by omega⟩ (by omega) (by have : NL = 1000000 := rfl; omega)
end
def flo : List Opn → List AV
  | [] => []
  | a :: l => a.cs ++ flo l
theorem flo_len : ∀ l : List Opn, (flo l).length = l.length * 5
  | [] => rfl
  | a :: l => by simp [flo, flo_len l, Opn.cs]; omega
theorem flo_part : ∀ {l : List Opn} {i : Nat} {a : Opn}, l[i]? = some a → ((flo l).drop (i * 5)).take 5 = a.cs
  | [], i, a, h => by simp at h
  | x :: l, 0, a, h => by
    simp only [List.getElem?_cons_zero, Option.some.injEq] at h
    subst h
    show ((x.cs ++ flo l).drop 0).take 5 = x.cs
    rw [List.drop_zero, List.take_append, show x.cs.length = 5 from rfl]
    simp [Opn.cs]
  | x :: l, i + 1, a, h => by
    have h' : l[i]? = some a := by simpa using h
    rw [show (i + 1) * 5 = 5 + i * 5 by omega, ← List.drop_drop]
    show ((List.drop 5 (x.cs ++ flo l)).drop (i * 5)).take 5 = a.cs
    rw [show List.drop 5 (x.cs ++ flo l) = flo l by simp [Opn.cs]]
    exact flo_part h'
theorem flo_at {l : List Opn} {i : Nat} {a : AV} (h : (flo l)[i]? = some a) : ∃ (j c : Nat) (s : Opn), l[j]? = some s ∧ i = j * 5 + c ∧ c < 5 ∧ s.cs[c]? = some a := by
  have hi := (List.getElem?_eq_some_iff.1 h).1
  rw [flo_len] at hi
  have hj : i / 5 < l.length := by omega
  refine ⟨i / 5, i % 5, l[i / 5], List.getElem?_eq_getElem hj, by omega, Nat.mod_lt _ (by omega), ?_⟩
  rw [← flo_part (List.getElem?_eq_getElem hj), List.getElem?_take, if_pos (Nat.mod_lt _ (by omega)), List.getElem?_drop, show i / 5 * 5 + i % 5 = i by omega]
  exact h
section
variable {H : Type} {enc : TypeId × Value → H} {W : World}
theorem int_ok {z : Int} (hz : (Lit.int .i64 z).wf = true) : i64 z := by
  simp only [Lit.wf, Bool.and_eq_true, decide_eq_true_eq] at hz
  have e3 : IntKind.min .i64 = -9223372036854775808 := by decide
  have e4 : IntKind.max .i64 = 9223372036854775807 := by decide
  show -9223372036854775808 ≤ z ∧ z < 9223372036854775808
  omega
theorem ops_arg {r : Reach} {b0 : Nat} {v : Value} {d : DataW H} {ps : List MemPlace} (hv : Value.okWide Try.prog W r b0 36 v) (hd : DataW.Trod enc Try.prog W 0 (fun _ => true) true 36 v d ps) :
    ∃ (q : Option Rw) (l : List Opn), (∀ x, q = some x → x.at_ W) ∧ (∀ a ∈ l, a.ok) ∧ ∀ (gl : List (Option (List AV))) (rows : List (Option Rw)) (j : Nat), rows[j]? = some q → ∃ av, VR (firstE gl rows) av v ∧ RdO (firstM gl rows) av l := by
  rcases open_structs (k := 5) Try.underlying36 Try.underlying37 (by kernel_rfl) (by omega) (fields_ok (by kernel_rfl)) rfl hv hd with rfl | ⟨b, x, len, cap, rfl, hl, hm, cur, ty, ⟨lo, hi⟩, hb, hsz, hx⟩
  · exact ⟨none, [], fun x h => (nomatch h), fun a h => by simp at h, fun gl rows j _ => ⟨.nslice, .nslice, .inl ⟨rfl, rfl⟩⟩⟩
  · have each : ∀ i, i < len → ∃ a : Opn, a.ok ∧ ∀ c u, c < 5 → a.cs[c]? = some u → plA u = true ∧ ∃ w, cur[x + i * 5 + c]? = some w ∧ VR noE u w := fun i hi => by
      obtain ⟨u0, n0, y0, h0, g0⟩ := hx i 0 _ (by omega) rfl
      obtain ⟨u1, n1, y1, h1, g1⟩ := hx i 1 _ (by omega) rfl
      obtain ⟨u2, n2, y2, h2, g2⟩ := hx i 2 _ (by omega) rfl
      obtain ⟨u3, n3, y3, h3, g3⟩ := hx i 3 _ (by omega) rfl
      obtain ⟨u4, n4, y4, h4, g4⟩ := hx i 4 _ (by omega) rfl
      obtain ⟨z0, e0, _, w0⟩ := DataW.trod_int Try.underlying3 g0
      obtain ⟨z1, e1, _, w1⟩ := DataW.trod_int Try.underlying3 g1
      obtain ⟨z2, e2, _, w2⟩ := DataW.trod_int Try.underlying3 g2
      obtain ⟨bo, e3, _⟩ := DataW.trod_bool Try.underlying4 g3
      obtain ⟨s, e4, _, w4⟩ := DataW.trod_string Try.underlying9 g4
      simp only [List.cons.injEq, and_true] at e0 e1 e2 e3 e4
      subst e0; subst e1; subst e2; subst e3; subst e4
      obtain ⟨n, xx, f1, f2, f3⟩ := str_of s
      refine ⟨⟨z0, z1, z2, bo, .str n xx⟩, ⟨int_ok w1, int_ok w2, int_ok w0, trivial⟩, fun c u hc hu => ?_⟩
      match c, hc, hu with
      | 0, _, hu => simp [Opn.cs] at hu; subst hu; exact ⟨rfl, _, h0, .int 0 _⟩
      | 1, _, hu => simp [Opn.cs] at hu; subst hu; exact ⟨rfl, _, h1, .int 0 _⟩
      | 2, _, hu => simp [Opn.cs] at hu; subst hu; exact ⟨rfl, _, h2, .int 0 _⟩
      | 3, _, hu => simp [Opn.cs] at hu; subst hu; exact ⟨rfl, _, h3, .bool _⟩
      | 4, _, hu => simp [Opn.cs] at hu; subst hu; exact ⟨rfl, _, h4, by rw [f2]; exact .str n xx f1⟩
    obtain ⟨l, hl1, hl2⟩ := list_of len each
    refine ⟨some ⟨b, if cap = 0 then 0 else x, flo l⟩, l, fun q hq => ?_, fun a ha => ?_, fun gl rows j hj => ⟨.slice (gl.length + j) 0 len cap 5 true, row_slice hj hl (fun g => by show x = if cap = 0 then 0 else x; rw [if_neg (by omega)]), .inr ⟨gl.length + j, 0, cap, true, flo l, 2, by rw [hl1], firstM_row j hj, by rw [flo_len]; omega, fun i a ha => ?_⟩⟩⟩
    · cases hq
      refine ⟨cur, ty, lo, hi, hb, ?_, fun i a ha => ?_⟩
      · show (if cap = 0 then 0 else x) + (flo l).length ≤ cur.size
        rw [flo_len, hl1]
        by_cases g : cap = 0
        · rw [if_pos g]; omega
        · rw [if_neg g]
          have := hsz (by omega)
          omega
      · obtain ⟨j, c, s, h1, h2, h3, h4⟩ := flo_at ha
        have hj := (List.getElem?_eq_some_iff.1 h1).1
        obtain ⟨p1, w, p2, p3⟩ := (hl2 j s h1).2 c a h3 h4
        show _ ∧ ∃ v, cur[(if cap = 0 then 0 else x) + i]? = some v ∧ _
        rw [if_neg (by omega)]
        exact ⟨p1, w, by rw [h2, ← Nat.add_assoc]; exact p2, p3⟩
    · obtain ⟨i, hi⟩ := List.getElem?_of_mem ha
      exact (hl2 i a hi).1
    · rw [Nat.zero_add]
      exact flo_part ha
end
end Go.Proofs.Ythjmjehfcjchfaa
