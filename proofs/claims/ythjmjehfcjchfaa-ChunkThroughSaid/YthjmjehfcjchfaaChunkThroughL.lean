/- The law ChunkThrough over lists. No condition: lemmas. -/
import Derived.Test.YthjmjehfcjchfaaC
set_option linter.unusedVariables false
set_option linter.unusedSimpArgs false
namespace Go.Proofs.Ythjmjehfcjchfaa
open Go Go.X Go.Proofs.Ythjmjehfcjchfaa.G
set_option maxRecDepth 100000
set_option maxHeartbeats 1600000
set_option linter.unusedVariables false
set_option linter.unusedSimpArgs false
variable {H : AH} {S : LS} {K : KF}
noncomputable def R3 : f3_R := (toldK, g8, f9, f10, f11, f12, f13, f14)
noncomputable def g3 : AV → Int → AH → KF → Prop := f3_r R3
theorem g3_ok : FunOk Try.prog 3 (fnX [.a, .i 0] g3) := f3_rok R3 (CTblOk.cons told_ok (CTblOk.cons g8_ok (CTblOk.cons f9_ok (CTblOk.cons f10_ok (CTblOk.cons f11_ok (CTblOk.cons f12_ok (CTblOk.cons f13_ok (CTblOk.cons f14_ok CTblOk.nil))))))))
theorem r3a : R3.1 = toldK := rfl
theorem r3b : R3.2.1 = g8 := rfl
theorem r3c : R3.2.2.1 = f9 := rfl
theorem r3d : R3.2.2.2.1 = f10 := rfl
theorem r3e : R3.2.2.2.2.1 = f11 := rfl
theorem r3f : R3.2.2.2.2.2.1 = f12 := rfl
theorem r3g : R3.2.2.2.2.2.2.1 = f13 := rfl
theorem r3h : R3.2.2.2.2.2.2.2 = f14 := rfl
theorem prt_at {L : List AV} {k : Nat} (h : k < L.length) : prt L k k = (L.drop k).take 1 := by
  unfold prt frZ toZ
  have e1 : (if (k : Int) < 0 then max ((k : Int) + L.length) 0 else (k : Int)) = k := if_neg (by omega)
  have e2 : (if (k : Int) < 0 then (k : Int) + L.length else (k : Int)) = k := if_neg (by omega)
  rw [e1, e2, if_neg (by omega)]
  congr 1
  · omega
theorem prt_end {L : List AV} {k : Nat} (h : k < L.length) : prt L (k - (L.length : Int)) (-1) = L.drop k := by
  unfold prt frZ toZ
  have e1 : (if (k : Int) - L.length < 0 then max ((k : Int) - L.length + L.length) 0 else (k : Int) - L.length) = k := by rw [if_pos (by omega)]; omega
  have e2 : (if (-1 : Int) < 0 then (-1 : Int) + L.length else (-1 : Int)) = L.length - 1 := by rw [if_pos (by omega)]; omega
  rw [e1, e2, if_neg (by omega)]
  have e3 : ((k : Int).toNat) = k := by omega
  rw [e3]
  exact List.take_of_length_le (by simp)
theorem plc_pos {n i : Nat} (h : i < n) : plc n (i : Int) = some i := by
  unfold plc
  rw [if_neg (by omega), if_pos (by omega)]
  rfl
theorem plc_neg {n i : Nat} (h : i < n) : plc n ((i : Int) - n) = some i := by
  unfold plc
  rw [if_pos (by omega), if_neg (by omega)]
  congr 1
  omega
theorem plc_over {n : Nat} : plc n (n : Int) = none := by
  unfold plc
  rw [if_neg (by omega), if_neg (by omega)]
theorem plc_under {n : Nat} : plc n (-(n : Int) - 1) = none := by
  unfold plc
  rw [if_pos (by omega), if_pos (by omega)]
section
variable {W W' : Nat → Prop} {rb sb : Nat}
theorem At_some {L : List AV} {z : Int} {i : Nat} {a : AV} (hM : Mem H S) (hR : RowE S W rb L) (hl : L.length ≤ 100000) (hz : i64 z) (hp : plc L.length z = some i) (ha : L[i]? = some a) (hK : K (.ret (.tup [a, .bool true])) H) : f10 (.ptr rb 0) z H K :=
  f10_i hM hR hz hl (fun h => by rw [hp] at h; cases h) fun j b h1 h2 => by
    rw [hp] at h1
    cases h1
    rw [ha] at h2
    cases h2
    exact hK
theorem At_none {L : List AV} {z : Int} (hM : Mem H S) (hR : RowE S W rb L) (hl : L.length ≤ 100000) (hz : i64 z) (hp : plc L.length z = none) (hK : K (.ret (.tup [.str 0 0, .bool false])) H) : f10 (.ptr rb 0) z H K :=
  f10_i hM hR hz hl (fun _ => hK) fun j b h1 _ => by rw [hp] at h1; cases h1
theorem g3_q2 {Q : Nat → Prop} {v : AV} {l : List AV} {k : Nat} {a : AV} (hM : Mem H S) (hr : RdV S Q v l) (hR : RowE S W rb l) (hS : RowE S W' sb l) (hl : l.length ≤ 100) (hs : ∀ a ∈ l, isS a) (ha : l[k]? = some a) (hK : ∀ H', K (.ret (.bool true)) H') : f3_q2 R3 K v (.ptr rb 0) (.ptr sb 0) l.length k a true a true H := by
  have hk := (List.getElem?_eq_some_iff.1 ha).1
  have hsa := hs a (List.mem_of_getElem? ha)
  unfold f3_q2
  rw [r3a, r3c, r3d, r3e, r3f, r3g, r3h]
  refine At_none hM hR (by omega) ⟨by omega, by omega⟩ plc_over ?_
  simp only [cR_ret]
  refine onTup_i (nth0 (onTup_i (nth1 ?_)))
  simp only [onB_b]
  have en : Int.neg (l.length : Int) = -(l.length : Int) := rfl
  rw [en]
  refine w0 (by omega) (by omega) ?_
  simp only [isub, io1]
  refine w0 (by omega) (by omega) ?_
  refine At_none hM hR (by omega) ⟨by omega, by omega⟩ plc_under ?_
  simp only [cR_ret]
  refine onTup_i (nth0 (onTup_i (nth1 ?_)))
  simp only [onB_b]
  unfold toldK
  simp only [cR_ret, onB_b, bI_tt, Bool.not_false]
  refine f9_i hM hS (by omega) fun H1 S1 v1 h1 x1 f1 e1 b1 => ?_
  simp only [cR_ret]
  refine f11_i h1 (f1.rd h1 (Q := fun _ => True) fun _ _ _ => trivial) (hr.ext hM x1) (by omega) hs ?_
  simp only [cR_ret, onB_b, bI_tt]
  refine sEq_i hsa ?_
  simp only [onB_b, bI_tt]
  have hr1 := hr.ext hM x1
  refine hr1.load h1 ha (sEq_i hsa ?_)
  simp only [onB_b, bI_tt, iadd, io1]
  refine w0 (by omega) (by omega) ?_
  have ek : (k : Int) + 1 = ((k + 1 : Nat) : Int) := rfl
  rw [ek]
  refine pSlice_v hr1 (i := k) (j := k + 1) (by omega) (by omega) (.inl rfl) (.inl rfl) fun v2 r2 => ?_
  have hR1 := hR.ext hM x1
  refine f12_i h1 hR1 (by omega) ⟨by omega, by omega⟩ ⟨by omega, by omega⟩ fun H3 S3 v3 h3 x3 f3 _ => ?_
  simp only [cR_ret]
  have e3 : (l.drop k).take (k + 1 - k) = prt l k k := by rw [prt_at hk]; congr 1; omega
  rw [e3] at r2
  have hsub : ∀ x ∈ prt l k k, isS x := fun x hx => hs x (by rw [prt_at hk] at hx; exact List.mem_of_mem_drop (List.mem_of_mem_take hx))
  have hlp : (prt l k k).length ≤ 100000 := by rw [prt_at hk]; simp; omega
  refine f11_i h3 (f3.rd h3 (Q := fun _ => True) fun _ _ _ => trivial) (r2.ext h1 x3) hlp hsub ?_
  simp only [cR_ret, onB_b, bI_tt, isub]
  refine w0 (by omega) (by omega) ?_
  have hr3 := hr1.ext h1 x3
  refine pSlice_v hr3 (i := k) (j := l.length) (by omega) (by omega) (.inl rfl) (.inr ⟨rfl, rfl⟩) fun v4 r4 => ?_
  have em : Int.negSucc 0 = -1 := rfl
  rw [em]
  have hR3 := hR1.ext h1 x3
  refine f12_i h3 hR3 (by omega) ⟨by omega, by omega⟩ ⟨by omega, by omega⟩ fun H5 S5 v5 h5 x5 f5 _ => ?_
  simp only [cR_ret]
  have e5 : (l.drop k).take (l.length - k) = l.drop k := List.take_of_length_le (by simp)
  rw [e5] at r4
  rw [prt_end hk] at f5
  refine f11_i h5 (f5.rd h5 (Q := fun _ => True) fun _ _ _ => trivial) (r4.ext h3 x5) (by simp; omega) (fun x hx => hs x (List.mem_of_mem_drop hx)) ?_
  simp only [cR_ret, onB_b, bI_tt]
  have hS5 := ((hS.ext hM x1).ext h1 x3).ext h3 x5
  refine f13_i h5 hS5 ?_
  simp only [cR_ret, cI_z, iEq_d, decide_true, bI_tt]
  have e8 : decide ((Int.ofNat 8) = 0) = false := by decide
  rw [e8]
  simp only [bI_ff]
  have e9 : Int.tdiv (l.length : Int) (.ofNat 8) = ((l.length / 8 : Nat) : Int) := rfl
  rw [e9]
  refine w0 (by omega) (by omega) ?_
  have e10 : ((l.length / 8 : Nat) : Int) + (Int.ofNat 2) = ((l.length / 8 + 2 : Nat) : Int) := rfl
  rw [e10]
  refine w0 (by omega) (by omega) ?_
  refine f14_i h5 hS5 fun n hn => ?_
  simp only [cR_ret, cI_z, iLt_d]
  have e11 : decide (((l.length / 8 + 2 : Nat) : Int) < (n : Int)) = false := decide_eq_false (by omega)
  rw [e11]
  exact hK _
theorem g3_q1 {Q : Nat → Prop} {v : AV} {l : List AV} {i : Int} (hM : Mem H S) (hr : RdV S Q v l) (hR : RowE S W rb l) (hS : RowE S W' sb l) (h0 : l ≠ []) (hl : l.length ≤ 100) (hs : ∀ a ∈ l, isS a) (hK : ∀ H', K (.ret (.bool true)) H') : f3_q1 R3 K (f3_q2 R3 K) v i (.ptr rb 0) (.ptr sb 0) H := by
  have hp : 0 < l.length := List.length_pos_iff.2 h0
  unfold f3_q1
  rw [r3d]
  refine hr.len ?_
  simp only [cI_z]
  refine w3 ?_
  refine w3 ?_
  have e1 : (l.length : Int) % 18446744073709551616 = l.length := by omega
  rw [e1, iEq_d, show decide ((l.length : Int) = 0) = false by simp; omega]
  simp only [bI_ff]
  obtain ⟨u, hu⟩ := Int.eq_ofNat_of_zero_le (Int.emod_nonneg i (show (18446744073709551616 : Int) ≠ 0 by omega))
  rw [hu]
  rw [forceI_eq]
  have e2 : Int.tmod ((u : Nat) : Int) (l.length : Int) = ((u % l.length : Nat) : Int) := rfl
  rw [e2]
  have hk := Nat.mod_lt u hp
  generalize u % l.length = k at hk
  refine w0 (by omega) (by omega) ?_
  have ha : l[k]? = some l[k] := List.getElem?_eq_getElem hk
  refine At_some hM hR (by omega) ⟨by omega, by omega⟩ (plc_pos hk) ha ?_
  simp only [cR_ret]
  refine onTup_i (nth0 (onTup_i (nth1 ?_)))
  simp only [onB_b, isub]
  refine w0 (by omega) (by omega) ?_
  refine At_some hM hS (by omega) ⟨by omega, by omega⟩ (plc_neg hk) ha ?_
  simp only [cR_ret]
  refine onTup_i (nth0 (onTup_i (nth1 ?_)))
  simp only [onB_b]
  exact g3_q2 hM hr hR hS hl hs ha hK
end
theorem g3_i {Q : Nat → Prop} {v : AV} {l : List AV} {i : Int} (hM : Mem H S) (hr : RdV S Q v l) (hs : ∀ a ∈ l, isS a) (hn : (l.length : Int) < 9223372036854775808) (hK : ∀ H', K (.ret (.bool true)) H') : g3 v i H K := by
  show f3_q0 R3 K (f3_q1 R3 K (f3_q2 R3 K)) v i H
  unfold f3_q0
  rw [r3a, r3b, r3c]
  refine hr.len ?_
  have e0 : Int.ofNat 0 = ((0 : Nat) : Int) := rfl
  simp only [cI_z, iEq_d]
  refine bI_dec (fun g => ?_) (fun g => ?_)
  · unfold toldK
    simp only [cR_ret, onB_b]
    exact hK _
  · refine hr.len ?_
    simp only [cI_z, iLt_d]
    refine bI_dec (fun g2 => ?_) (fun g2 => ?_)
    · unfold toldK
      simp only [cR_ret, onB_b]
      exact hK _
    · have e100 : Int.ofNat 100 = 100 := rfl
      have hl : l.length ≤ 100 := by omega
      refine g8_i hM hr (by omega) hs fun H1 S1 W1 r1 h1 x1 hR1 o1 => ?_
      simp only [cR_ret, pPEq_pn, onB_b, Bool.not_true, bI_ff]
      refine f9_i h1 hR1 (by omega) fun H2 S2 v2 h2 x2 f2 _ _ => ?_
      simp only [cR_ret]
      refine g8_i h2 (f2.rd h2 (Q := fun _ => True) fun _ _ _ => trivial) (by omega) hs fun H3 S3 W3 r3 h3 x3 hR3 o3 => ?_
      simp only [cR_ret, pPEq_pn, onB_b, Bool.not_true, bI_ff]
      exact g3_q1 h3 (((hr.ext hM x1).ext h1 x2).ext h2 x3) ((hR1.ext h1 x2).ext h2 x3) hR3 (fun h => g (by rw [h]; rfl)) hl hs hK
end Go.Proofs.Ythjmjehfcjchfaa

namespace Go.Proofs.Ythjmjehfcjchfaa
open Go Go.X Go.Proofs.Ythjmjehfcjchfaa.G
set_option maxRecDepth 100000
set_option maxHeartbeats 1600000
set_option linter.unusedVariables false
set_option linter.unusedSimpArgs false
variable {H : AH} {S : LS} {K : KF}
theorem sS (n x : Nat) : isS (.str n x) := trivial
section
variable {W : Nat → Prop} {rb : Nat}
theorem f21_i {L : List AV} {front : Bool} (hM : Mem H S) (hR : RowE S W rb L) (hl : L.length ≤ 100000) (hK1 : L = [] → K (.ret (.tup [.str 0 0, .bool false])) H)
    (hK2 : ∀ a L', (if front then L = a :: L' else L = L' ++ [a]) → RemG S W rb L' a K) : f21 (.ptr rb 0) front H K := by
  have r21 : f21_rr = f16 := rfl
  show f21_q0 f21_rr K (.ptr rb 0) front H
  unfold f21_q0
  rw [r21]
  have e0 : Int.ofNat 0 = 0 := rfl
  have e1 : Int.negSucc 0 = -1 := rfl
  cases front with
  | true =>
    simp only [bI_tt]
    rw [e0]
    refine f16_i hM hR ⟨by omega, by omega⟩ hl (fun hp => ?_) fun i a hp ha H1 S1 W1 h1 fr1 hR1 o1 => ?_
    · simp only [cR_ret]
      refine onTup_i (nth0 (onTup_i (nth1 ?_)))
      simp only [onB_b]
      refine hK1 ?_
      cases L with
      | nil => rfl
      | cons a l => exact absurd hp (by unfold plc; rw [if_neg (by omega), if_pos (by simp only [List.length_cons]; omega)]; simp)
    · simp only [cR_ret]
      refine onTup_i (nth0 (onTup_i (nth1 ?_)))
      simp only [onB_b]
      cases L with
      | nil => simp at ha
      | cons x l =>
        have hi : i = 0 := by
          unfold plc at hp
          rw [if_neg (by omega), if_pos (by simp only [List.length_cons]; omega)] at hp
          simp at hp
          exact hp.symm
        subst hi
        cases ha
        exact hK2 a l rfl H1 S1 W1 h1 fr1 hR1 o1
  | false =>
    simp only [bI_ff]
    rw [e1]
    refine f16_i hM hR ⟨by omega, by omega⟩ hl (fun hp => ?_) fun i a hp ha H1 S1 W1 h1 fr1 hR1 o1 => ?_
    · simp only [cR_ret]
      refine onTup_i (nth0 (onTup_i (nth1 ?_)))
      simp only [onB_b]
      refine hK1 ?_
      cases L with
      | nil => rfl
      | cons a l => exact absurd hp (by unfold plc; rw [if_pos (by omega), if_neg (by simp; omega)]; simp)
    · simp only [cR_ret]
      refine onTup_i (nth0 (onTup_i (nth1 ?_)))
      simp only [onB_b]
      rcases Nat.eq_zero_or_pos L.length with g | g
      · rw [List.length_eq_zero_iff.1 g] at ha; simp at ha
      · obtain ⟨l, x, rfl⟩ : ∃ l x, L = l ++ [x] := ⟨L.dropLast, L.getLast (List.length_pos_iff.1 g), (List.dropLast_concat_getLast _).symm⟩
        have hi : i = l.length := by
          unfold plc at hp
          rw [if_pos (by omega), if_neg (by simp; omega)] at hp
          simp at hp
          omega
        subst hi
        rw [List.getElem?_append_right (Nat.le_refl _)] at ha
        simp at ha
        subst ha
        have e : delAt (l ++ [x]) l.length = l := by unfold delAt; rw [List.take_left' rfl, List.drop_of_length_le (by simp), List.append_nil]
        rw [e] at hR1
        exact hK2 x l (by simp) H1 S1 W1 h1 fr1 hR1 o1
end
theorem w1 {z : Int} {k : Int → Prop} (h : k (z % 256)) : wrapK 1 z k := wrapK_i wrap1 h
theorem pShr8 {i : Nat} {k : AV → Prop} (h : k (.int 0 ((i / 256 : Nat) : Int))) : pShr 0 (.int 0 (i : Int)) (.int 3 (.ofNat 8)) k := by
  have e : Nat.shiftRight i 8 = i / 256 := Nat.shiftRight_eq_div_pow i 8
  show bT true (forceI (.ofNat (Nat.shiftRight i 8)) fun z => k (.int 0 z))
  refine bT_i rfl ?_
  rw [forceI_eq, e]
  exact h
theorem f19_i {i : Nat} (hM : Mem H S) (hi : i < 65536) (hK : ∀ H' S', Mem H' S' → Ext S S' → K (.ret (.str 2 i)) H') : f19 (i : Int) H K := by
  show f19_q0 f19_rr K (i : Int) H
  unfold f19_q0
  refine w1 (pShr8 ?_)
  simp only [cI_z]
  refine w1 ?_
  have e1 : ((i : Int) % 256) = ((i % 256 : Nat) : Int) := rfl
  have e2 : (((i / 256 : Nat) : Int) % 256) = ((i / 256 % 256 : Nat) : Int) := rfl
  rw [e1, e2]
  refine pNewS_i hM rfl (by simp [AV.one]) fun H1 h1 => ?_
  show bT (Nat.beq 1 1) (getK H1 S.n fun c _ _ => loadL c 2 0 fun l => numL l fun n x => K (.ret (.str n x)) H1)
  refine bT_i rfl (h1.getK_i (LS.push_ob_self _ _) fun c hc => loadL_i hc 2 0 (by simp) ?_)
  show bT (Nat.beq 1 1) (bT (Nat.ble (i % 256) 255) (bT (Nat.beq 1 1) (bT (Nat.ble (i / 256 % 256) 255) (forceN (Nat.succ 0) fun n' => forceN (Nat.add (i / 256 % 256) (Nat.mul 256 0)) fun x' => forceN (Nat.succ n') fun n2 => forceN (Nat.add (i % 256) (Nat.mul 256 x')) fun x2 => K (.ret (.str n2 x2)) H1))))
  refine bT_i rfl (bT_i (Nat.ble_eq_true_of_le (by omega)) (bT_i rfl (bT_i (Nat.ble_eq_true_of_le (by omega)) ?_)))
  simp only [forceN_eq]
  have e3 : AV.str (Nat.succ (Nat.succ 0)) (Nat.add (i % 256) (Nat.mul 256 (Nat.add (i / 256 % 256) (Nat.mul 256 0)))) = .str 2 i := by
    show AV.str 2 (i % 256 + 256 * (i / 256 % 256 + 256 * 0)) = AV.str 2 i
    congr 1
    omega
  rw [e3]
  exact hK H1 _ h1 (Ext.push _ _)
theorem call19 {R : f6_R} {i : Int} {k : COut → AH → Prop} (h : R.2.2.2.2.1 i H k) : onFunc (.func 19 [] []) fun g x y => bT (hasBody Try.prog g) (callT (f6_ct R) g (x ++ ([.int 0 i] ++ y)) H k) := by
  refine bT_i (b := hasBody Try.prog 19) (by kernel_rfl) ?_
  exact h
noncomputable def R6 : f6_R := (toldK, f13, f14, f18, f19, g20, f21)
noncomputable def g6 : Int → Bool → Int → AH → KF → Prop := f6_r R6
theorem g6_ok : FunOk Try.prog 6 (fnX [.i 0, .b, .i 0] g6) := f6_rok R6 (CTblOk.cons told_ok (CTblOk.cons f13_ok (CTblOk.cons f14_ok (CTblOk.cons f18_ok (CTblOk.cons f19_ok (CTblOk.cons g20_ok (CTblOk.cons f21_ok CTblOk.nil)))))))
theorem r6a : R6.1 = toldK := rfl
theorem r6b : R6.2.1 = f13 := rfl
theorem r6c : R6.2.2.1 = f14 := rfl
theorem r6d : R6.2.2.2.1 = f18 := rfl
theorem r6e : R6.2.2.2.2.1 = f19 := rfl
theorem r6f : R6.2.2.2.2.2.1 = g20 := rfl
theorem r6g : R6.2.2.2.2.2.2 = f21 := rfl
/-- The names from a place on, in the row's order. -/
def nml (a n : Nat) : List AV := (List.range' a n).map fun i => .str 2 i
def rowL (front : Bool) (a n : Nat) : List AV := if front then (nml a n).reverse else nml a n
theorem nml_cons (a n : Nat) : nml a (n + 1) = .str 2 a :: nml (a + 1) n := by simp [nml, List.range'_succ]
theorem nml_snoc (a n : Nat) : nml a (n + 1) = nml a n ++ [.str 2 (a + n)] := by simp [nml, List.range'_1_concat]
theorem rowL_len (front : Bool) (a n : Nat) : (rowL front a n).length = n := by cases front <;> simp [rowL, nml]
theorem rowL_push (front : Bool) (a n : Nat) : pushL front (rowL front a n) (.str 2 (a + n)) = rowL front a (n + 1) := by
  cases front
  · show nml a n ++ [_] = nml a (n + 1)
    rw [nml_snoc]
  · show _ :: (nml a n).reverse = (nml a (n + 1)).reverse
    rw [nml_snoc]; simp
/-- The oldest one goes. -/
theorem rowL_old {front : Bool} {a n : Nat} {x : AV} {L' : List AV} (h : if !front then rowL front a (n + 1) = x :: L' else rowL front a (n + 1) = L' ++ [x]) : x = .str 2 a ∧ L' = rowL front (a + 1) n := by
  cases front
  · have h' : nml a (n + 1) = x :: L' := h
    rw [nml_cons] at h'
    cases h'
    exact ⟨rfl, rfl⟩
  · have h' : (nml a (n + 1)).reverse = L' ++ [x] := h
    rw [nml_cons, List.reverse_cons] at h'
    obtain ⟨e1, e2⟩ := List.append_inj' h' rfl
    cases e2
    exact ⟨rfl, e1.symm⟩
/-- The newest one goes. -/
theorem rowL_new {front : Bool} {a n : Nat} {x : AV} {L' : List AV} (h : if front then rowL front a (n + 1) = x :: L' else rowL front a (n + 1) = L' ++ [x]) : x = .str 2 (a + n) ∧ L' = rowL front a n := by
  cases front
  · have h' : nml a (n + 1) = L' ++ [x] := h
    rw [nml_snoc] at h'
    obtain ⟨e1, e2⟩ := List.append_inj' h' rfl
    cases e2
    exact ⟨rfl, e1.symm⟩
  · have h' : (nml a (n + 1)).reverse = x :: L' := h
    rw [nml_snoc, List.reverse_append] at h'
    cases h'
    exact ⟨rfl, rfl⟩
theorem rowL_ne {front : Bool} {a n : Nat} (h : rowL front a (n + 1) = []) : False := by
  have := congrArg List.length h
  rw [rowL_len] at this
  simp at this
variable {W : Nat → Prop} {rb : Nat} {front : Bool}
theorem g6_q5 (hM : Mem H S) (hR : RowE S W rb []) (hK : ∀ H', K (.ret (.bool true)) H') : f6_q5 R6 K front (.ptr rb 0) H := by
  unfold f6_q5
  rw [r6a, r6g]
  refine f21_i hM hR (by simp) (fun _ => ?_) fun a L' h => ?_
  · simp only [cR_ret]
    refine onTup_i (nth0 (onTup_i (nth1 ?_)))
    simp only [onB_b]
    unfold toldK
    simp only [cR_ret, onB_b, bI_tt]
    exact hK _
  · cases front <;> simp at h
theorem g6_l7 (hK : ∀ H', K (.ret (.bool true)) H') : ∀ (n a c : Nat) {H : AH} {S : LS} {W : Nat → Prop}, Mem H S → RowE S W rb (rowL front a c) → c < n → a + c ≤ 1000 → f6_l7 R6 K n front (.ptr rb 0) (.func 19 [] []) a H
  | 0, _, _, _, _, _, _, _, h, _ => by omega
  | n + 1, a, c, H, S, W, hM, hR, hn, hc => by
    show f6_q7 R6 K (f6_q9 R6 K (f6_l7 R6 K n)) (f6_q5 R6 K) front (.ptr rb 0) (.func 19 [] []) a H
    unfold f6_q7
    rw [r6b, r6g]
    refine f13_i hM hR ?_
    have e0 : Int.ofNat 0 = 0 := rfl
    simp only [cR_ret, cI_z, iLt_d, rowL_len]
    refine bI_dec (fun g => ?_) (fun g => ?_)
    · obtain ⟨c, rfl⟩ : ∃ d, c = d + 1 := ⟨c - 1, by omega⟩
      refine f21_i hM hR (by rw [rowL_len]; omega) (fun h => (rowL_ne h).elim) fun x L' h H1 S1 W1 h1 fr1 hR1 o1 => ?_
      obtain ⟨rfl, rfl⟩ := rowL_old h
      simp only [cR_ret]
      refine onTup_i (nth0 (onTup_i (nth1 ?_)))
      simp only [onB_b, Bool.not_true, bI_ff]
      refine call19 ?_
      rw [r6e]
      refine f19_i h1 (by omega) fun H2 S2 h2 x2 => ?_
      simp only [cR_ret]
      refine sNe_i (sS _ _) ?_
      simp only [onB_b, bI_ff]
      show f6_q9 R6 K (f6_l7 R6 K n) front (.ptr rb 0) (.func 19 [] []) a H2
      unfold f6_q9
      simp only [iadd, io1]
      refine w0 (by omega) (by omega) ?_
      exact g6_l7 hK n (a + 1) c h2 (hR1.ext h1 x2) (by omega) (by omega)
    · obtain rfl : c = 0 := by omega
      have e : rowL front a 0 = [] := by cases front <;> rfl
      rw [e] at hR
      exact g6_q5 hM hR hK
theorem g6_l6 (hK : ∀ H', K (.ret (.bool true)) H') {k next m : Nat} (hkn : next ≤ k) (hk : k ≤ 300) (hm : m = (k - next) / 2) : ∀ (n c : Nat) {H : AH} {S : LS} {W : Nat → Prop}, Mem H S → RowE S W rb (rowL front next c) → m ≤ c → c < n → next + c ≤ k → f6_l6 R6 K n front k (.ptr rb 0) next (.func 19 [] []) (((next + c : Nat) : Int) - 1) H
  | 0, _, _, _, _, _, _, _, h, _ => by omega
  | n + 1, c, H, S, W, hM, hR, hmc, hn, hc => by
    show f6_q6 R6 K (f6_q10 R6 K (f6_l6 R6 K n)) (f6_q3 R6 K (f6_l7 R6 K NL)) front k (.ptr rb 0) next (.func 19 [] []) (((next + c : Nat) : Int) - 1) H
    unfold f6_q6
    rw [r6g]
    simp only [isub]
    refine w0 (by omega) (by omega) ?_
    rw [iEq_d, show decide (Int.ofNat 2 = 0) = false from rfl]
    simp only [bI_ff]
    have e1 : (k : Int) - next = ((k - next : Nat) : Int) := by omega
    have e2 : Int.tdiv ((k - next : Nat) : Int) (Int.ofNat 2) = (((k - next) / 2 : Nat) : Int) := rfl
    rw [e1, e2, ← hm]
    refine w0 (by omega) (by omega) ?_
    have e3 : Int.add (next : Int) (m : Int) = ((next + m : Nat) : Int) := rfl
    rw [e3]
    refine w0 (by omega) (by omega) ?_
    rw [iLt_d]
    by_cases g : c = m
    · rw [decide_eq_true (show (((next + c : Nat) : Int) - 1) < ((next + m : Nat) : Int) by omega)]
      simp only [Bool.not_true, bI_ff]
      show f6_q3 R6 K (f6_l7 R6 K NL) front (.ptr rb 0) next (.func 19 [] []) H
      unfold f6_q3
      exact g6_l7 hK NL next c hM hR (by have : NL = 1000000 := rfl; omega) (by omega)
    · rw [decide_eq_false (show ¬ (((next + c : Nat) : Int) - 1) < ((next + m : Nat) : Int) by omega)]
      simp only [Bool.not_false, bI_tt]
      obtain ⟨c, rfl⟩ : ∃ d, c = d + 1 := ⟨c - 1, by omega⟩
      refine f21_i hM hR (by rw [rowL_len]; omega) (fun h => (rowL_ne h).elim) fun x L' h H1 S1 W1 h1 fr1 hR1 o1 => ?_
      obtain ⟨rfl, rfl⟩ := rowL_new h
      simp only [cR_ret]
      refine onTup_i (nth0 (onTup_i (nth1 ?_)))
      simp only [onB_b, Bool.not_true, bI_ff]
      refine call19 ?_
      rw [r6e]
      have e5 : (((next + (c + 1) : Nat) : Int) - 1) = ((next + c : Nat) : Int) := by omega
      rw [e5]
      refine f19_i h1 (by omega) fun H2 S2 h2 x2 => ?_
      simp only [cR_ret]
      refine sNe_i (sS _ _) ?_
      simp only [onB_b, bI_ff]
      have hR2 := hR1.ext h1 x2
      show f6_q10 R6 K (f6_l6 R6 K n) front k (.ptr rb 0) next (.func 19 [] []) ((next + c : Nat) : Int) H2
      unfold f6_q10
      rw [r6b, r6c]
      refine f14_i h2 hR2 fun q hq => ?_
      simp only [cR_ret, cI_z]
      refine f13_i h2 hR2 ?_
      simp only [cR_ret, cI_z]
      rw [iEq_d, show decide (Int.ofNat 8 = 0) = false from rfl]
      simp only [bI_ff, rowL_len]
      have e8 : Int.tdiv (c : Int) (Int.ofNat 8) = ((c / 8 : Nat) : Int) := rfl
      rw [e8]
      refine w0 (by omega) (by omega) ?_
      have e9 : Int.add ((c / 8 : Nat) : Int) (Int.ofNat 2) = ((c / 8 + 2 : Nat) : Int) := rfl
      rw [e9]
      refine w0 (by omega) (by omega) ?_
      rw [rowL_len] at hq
      rw [iLt_d, decide_eq_false (show ¬ ((c / 8 + 2 : Nat) : Int) < (q : Int) by omega)]
      simp only [bI_ff, isub, io1]
      refine w0 (by omega) (by omega) ?_
      exact g6_l6 hK hkn hk hm n c h2 hR2 (by omega) (by omega) (by omega)
theorem g6_l4 (hK : ∀ H', K (.ret (.bool true)) H') {k e : Nat} (hk : k ≤ 300) (he : 2 ≤ e) (he2 : e ≤ 100) : ∀ (n i next : Nat) {H : AH} {S : LS} {W : Nat → Prop}, Mem H S → RowE S W rb (rowL front next (i - next)) → next ≤ i → i ≤ k → k - i < n → f6_l4 R6 K n front k e (.ptr rb 0) next (.func 19 [] []) i H
  | 0, _, _, _, _, _, _, _, _, _, h => by omega
  | n + 1, i, next, H, S, W, hM, hR, hni, hik, hn => by
    show f6_q4 R6 K (f6_q11 R6 K (f6_q8 R6 K (f6_l4 R6 K n))) (f6_q8 R6 K (f6_l4 R6 K n)) (f6_q2 R6 K (f6_l6 R6 K NL)) front k e (.ptr rb 0) next (.func 19 [] []) i H
    unfold f6_q4
    rw [r6f, r6g, iLt_d]
    have e0 : Int.ofNat 0 = 0 := rfl
    have next8 : ∀ (nx : Nat) {H : AH} {S : LS} {W : Nat → Prop}, Mem H S → RowE S W rb (rowL front nx (i + 1 - nx)) → nx ≤ i + 1 → i < k → f6_q8 R6 K (f6_l4 R6 K n) front k e (.ptr rb 0) nx (.func 19 [] []) i H := fun nx {H S W} hM hR h1 h2 => by
      unfold f6_q8
      simp only [iadd, io1]
      refine w0 (by omega) (by omega) ?_
      exact g6_l4 hK hk he he2 n (i + 1) nx hM hR h1 (by omega) (by omega)
    refine bI_dec (fun g => ?_) (fun g => ?_)
    · have hlt : i < k := by omega
      refine call19 ?_
      rw [r6e]
      refine f19_i hM (by omega) fun H1 S1 h1 x1 => ?_
      simp only [cR_ret]
      refine g20_i h1 (hR.ext hM x1) (by rw [rowL_len]; omega) trivial fun H2 S2 W2 h2 fr2 hR2 o2 => ?_
      simp only [cR_ret]
      have ep : pushL front (rowL front next (i - next)) (.str 2 i) = rowL front next (i + 1 - next) := by
        have h := rowL_push front next (i - next)
        rw [show next + (i - next) = i by omega, show i - next + 1 = i + 1 - next by omega] at h
        exact h
      rw [ep] at hR2
      rw [iEq_d, decide_eq_false (show ¬ (e : Int) = 0 by omega)]
      simp only [bI_ff]
      rw [forceI_eq]
      have e2 : Int.tmod (i : Int) (e : Int) = ((i % e : Nat) : Int) := rfl
      rw [e2, iEq_d, e0]
      refine bI_dec (fun g2 => ?_) (fun g2 => ?_)
      · rw [show i + 1 - next = (i - next) + 1 by omega] at hR2
        refine f21_i h2 hR2 (by rw [rowL_len]; omega) (fun h => (rowL_ne h).elim) fun x L' h H3 S3 W3 h3 fr3 hR3 o3 => ?_
        obtain ⟨rfl, rfl⟩ := rowL_old h
        simp only [cR_ret]
        refine onTup_i (nth0 (onTup_i (nth1 ?_)))
        simp only [onB_b, Bool.not_true, bI_ff]
        refine call19 ?_
        rw [r6e]
        refine f19_i h3 (by omega) fun H4 S4 h4 x4 => ?_
        simp only [cR_ret]
        refine sNe_i (sS _ _) ?_
        simp only [onB_b, bI_ff]
        show f6_q11 R6 K (f6_q8 R6 K (f6_l4 R6 K n)) front k e (.ptr rb 0) next (.func 19 [] []) i H4
        unfold f6_q11
        simp only [iadd, io1]
        refine w0 (by omega) (by omega) ?_
        rw [show i - next = i + 1 - (next + 1) by omega] at hR3
        exact next8 (next + 1) h4 (hR3.ext h3 x4) (by omega) hlt
      · exact next8 next h2 hR2 (by omega) hlt
    · obtain rfl : i = k := by omega
      unfold f6_q2
      simp only [isub, io1]
      refine w0 (by omega) (by omega) ?_
      have e5 : ((i : Int) - 1) = (((next + (i - next) : Nat) : Int) - 1) := by omega
      rw [e5]
      exact g6_l6 hK hni hk rfl NL (i - next) hM hR (by omega) (by have : NL = 1000000 := rfl; omega) (by omega)
theorem g6_i {a c : Int} (hM : Mem H S) (hK : ∀ H', K (.ret (.bool true)) H') : g6 a front c H K := by
  show f6_q0 R6 K (f6_q1 R6 K (f6_l4 R6 K NL)) a front c H
  unfold f6_q0
  rw [r6d]
  refine w3 ?_
  rw [iEq_d, show decide (Int.ofNat 300 = 0) = false from rfl]
  simp only [bI_ff]
  obtain ⟨u, hu⟩ := Int.eq_ofNat_of_zero_le (Int.emod_nonneg a (show (18446744073709551616 : Int) ≠ 0 by omega))
  obtain ⟨z, hz⟩ := Int.eq_ofNat_of_zero_le (Int.emod_nonneg c (show (18446744073709551616 : Int) ≠ 0 by omega))
  rw [hu, forceI_eq]
  have e2 : Int.tmod ((u : Nat) : Int) (Int.ofNat 300) = ((u % 300 : Nat) : Int) := rfl
  rw [e2]
  have hk := Nat.mod_lt u (show 0 < 300 by omega)
  generalize u % 300 = k at hk
  refine w0 (by omega) (by omega) ?_
  have e3 : Int.add (Int.ofNat 1) (k : Int) = ((1 + k : Nat) : Int) := rfl
  rw [e3]
  refine w0 (by omega) (by omega) ?_
  refine w3 ?_
  rw [iEq_d, show decide (Int.ofNat 9 = 0) = false from rfl]
  simp only [bI_ff]
  rw [hz, forceI_eq]
  have e4 : Int.tmod ((z : Nat) : Int) (Int.ofNat 9) = ((z % 9 : Nat) : Int) := rfl
  rw [e4]
  have hk2 := Nat.mod_lt z (show 0 < 9 by omega)
  generalize z % 9 = e at hk2
  refine w0 (by omega) (by omega) ?_
  have e5 : Int.add (Int.ofNat 2) (e : Int) = ((2 + e : Nat) : Int) := rfl
  rw [e5]
  refine w0 (by omega) (by omega) ?_
  refine f18_i hM fun H1 S1 h1 x1 hR1 => ?_
  simp only [cR_ret, pPEq_pn, onB_b, Bool.not_true, bI_ff]
  unfold f6_q1
  have e6 : rowL front 0 (0 - 0) = [] := by cases front <;> rfl
  exact g6_l4 hK (k := 1 + k) (e := 2 + e) (by omega) (by omega) (by omega) NL 0 0 h1 (by rw [e6]; exact hR1) (Nat.le_refl _) (by omega) (by have : NL = 1000000 := rfl; omega)
end Go.Proofs.Ythjmjehfcjchfaa
