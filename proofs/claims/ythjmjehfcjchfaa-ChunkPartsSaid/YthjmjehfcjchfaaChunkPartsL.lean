/- The law ChunkParts over lists. No condition: lemmas. -/
import Derived.Test.YthjmjehfcjchfaaC
set_option linter.unusedVariables false
set_option linter.unusedSimpArgs false
namespace Go.Proofs.Ythjmjehfcjchfaa
open Go Go.X Go.Proofs.Ythjmjehfcjchfaa.G
set_option maxRecDepth 100000
set_option maxHeartbeats 1600000
set_option linter.unusedVariables false
set_option linter.unusedSimpArgs false
variable {H : AH} {S : LS} {K : KF}
noncomputable def R3 : f3_R := (toldK, g8, f9, f10, f11, f12, f13, f14)
noncomputable def g3 : AV → Int → AH → KF → Prop := f3_r R3
theorem g3_ok : FunOk Try.prog 3 (fnX [.a, .i 0] g3) := f3_rok R3 (CTblOk.cons told_ok (CTblOk.cons g8_ok (CTblOk.cons f9_ok (CTblOk.cons f10_ok (CTblOk.cons f11_ok (CTblOk.cons f12_ok (CTblOk.cons f13_ok (CTblOk.cons f14_ok CTblOk.nil))))))))
theorem r3a : R3.1 = toldK := rfl
theorem r3b : R3.2.1 = g8 := rfl
theorem r3c : R3.2.2.1 = f9 := rfl
theorem r3d : R3.2.2.2.1 = f10 := rfl
theorem r3e : R3.2.2.2.2.1 = f11 := rfl
theorem r3f : R3.2.2.2.2.2.1 = f12 := rfl
theorem r3g : R3.2.2.2.2.2.2.1 = f13 := rfl
theorem r3h : R3.2.2.2.2.2.2.2 = f14 := rfl
theorem prt_at {L : List AV} {k : Nat} (h : k < L.length) : prt L k k = (L.drop k).take 1 := by
  unfold prt frZ toZ
  have e1 : (if (k : Int) < 0 then max ((k : Int) + L.length) 0 else (k : Int)) = k := if_neg (by omega)
  have e2 : (if (k : Int) < 0 then (k : Int) + L.length else (k : Int)) = k := if_neg (by omega)
  rw [e1, e2, if_neg (by omega)]
  congr 1
  · omega
theorem prt_end {L : List AV} {k : Nat} (h : k < L.length) : prt L (k - (L.length : Int)) (-1) = L.drop k := by
  unfold prt frZ toZ
  have e1 : (if (k : Int) - L.length < 0 then max ((k : Int) - L.length + L.length) 0 else (k : Int) - L.length) = k := by rw [if_pos (by omega)]; omega
  have e2 : (if (-1 : Int) < 0 then (-1 : Int) + L.length else (-1 : Int)) = L.length - 1 := by rw [if_pos (by omega)]; omega
  rw [e1, e2, if_neg (by omega)]
  have e3 : ((k : Int).toNat) = k := by omega
  rw [e3]
  exact List.take_of_length_le (by simp)
theorem plc_pos {n i : Nat} (h : i < n) : plc n (i : Int) = some i := by
  unfold plc
  rw [if_neg (by omega), if_pos (by omega)]
  rfl
theorem plc_neg {n i : Nat} (h : i < n) : plc n ((i : Int) - n) = some i := by
  unfold plc
  rw [if_pos (by omega), if_neg (by omega)]
  congr 1
  omega
theorem plc_over {n : Nat} : plc n (n : Int) = none := by
  unfold plc
  rw [if_neg (by omega), if_neg (by omega)]
theorem plc_under {n : Nat} : plc n (-(n : Int) - 1) = none := by
  unfold plc
  rw [if_pos (by omega), if_pos (by omega)]
section
variable {W W' : Nat → Prop} {rb sb : Nat}
theorem At_some {L : List AV} {z : Int} {i : Nat} {a : AV} (hM : Mem H S) (hR : RowE S W rb L) (hl : L.length ≤ 100000) (hz : i64 z) (hp : plc L.length z = some i) (ha : L[i]? = some a) (hK : K (.ret (.tup [a, .bool true])) H) : f10 (.ptr rb 0) z H K :=
  f10_i hM hR hz hl (fun h => by rw [hp] at h; cases h) fun j b h1 h2 => by
    rw [hp] at h1
    cases h1
    rw [ha] at h2
    cases h2
    exact hK
theorem At_none {L : List AV} {z : Int} (hM : Mem H S) (hR : RowE S W rb L) (hl : L.length ≤ 100000) (hz : i64 z) (hp : plc L.length z = none) (hK : K (.ret (.tup [.str 0 0, .bool false])) H) : f10 (.ptr rb 0) z H K :=
  f10_i hM hR hz hl (fun _ => hK) fun j b h1 _ => by rw [hp] at h1; cases h1
theorem g3_q2 {Q : Nat → Prop} {v : AV} {l : List AV} {k : Nat} {a : AV} (hM : Mem H S) (hr : RdV S Q v l) (hR : RowE S W rb l) (hS : RowE S W' sb l) (hl : l.length ≤ 100) (hs : ∀ a ∈ l, isS a) (ha : l[k]? = some a) (hK : ∀ H', K (.ret (.bool true)) H') : f3_q2 R3 K v (.ptr rb 0) (.ptr sb 0) l.length k a true a true H := by
  have hk := (List.getElem?_eq_some_iff.1 ha).1
  have hsa := hs a (List.mem_of_getElem? ha)
  unfold f3_q2
  rw [r3a, r3c, r3d, r3e, r3f, r3g, r3h]
  refine At_none hM hR (by omega) ⟨by omega, by omega⟩ plc_over ?_
  simp only [cR_ret]
  refine onTup_i (nth0 (onTup_i (nth1 ?_)))
  simp only [onB_b]
  have en : Int.neg (l.length : Int) = -(l.length : Int) := rfl
  rw [en]
  refine w0 (by omega) (by omega) ?_
  simp only [isub, io1]
  refine w0 (by omega) (by omega) ?_
  refine At_none hM hR (by omega) ⟨by omega, by omega⟩ plc_under ?_
  simp only [cR_ret]
  refine onTup_i (nth0 (onTup_i (nth1 ?_)))
  simp only [onB_b]
  unfold toldK
  simp only [cR_ret, onB_b, bI_tt, Bool.not_false]
  refine f9_i hM hS (by omega) fun H1 S1 v1 h1 x1 f1 e1 b1 => ?_
  simp only [cR_ret]
  refine f11_i h1 (f1.rd h1 (Q := fun _ => True) fun _ _ _ => trivial) (hr.ext hM x1) (by omega) hs ?_
  simp only [cR_ret, onB_b, bI_tt]
  refine sEq_i hsa ?_
  simp only [onB_b, bI_tt]
  have hr1 := hr.ext hM x1
  refine hr1.load h1 ha (sEq_i hsa ?_)
  simp only [onB_b, bI_tt, iadd, io1]
  refine w0 (by omega) (by omega) ?_
  have ek : (k : Int) + 1 = ((k + 1 : Nat) : Int) := rfl
  rw [ek]
  refine pSlice_v hr1 (i := k) (j := k + 1) (by omega) (by omega) (.inl rfl) (.inl rfl) fun v2 r2 => ?_
  have hR1 := hR.ext hM x1
  refine f12_i h1 hR1 (by omega) ⟨by omega, by omega⟩ ⟨by omega, by omega⟩ fun H3 S3 v3 h3 x3 f3 _ => ?_
  simp only [cR_ret]
  have e3 : (l.drop k).take (k + 1 - k) = prt l k k := by rw [prt_at hk]; congr 1; omega
  rw [e3] at r2
  have hsub : ∀ x ∈ prt l k k, isS x := fun x hx => hs x (by rw [prt_at hk] at hx; exact List.mem_of_mem_drop (List.mem_of_mem_take hx))
  have hlp : (prt l k k).length ≤ 100000 := by rw [prt_at hk]; simp; omega
  refine f11_i h3 (f3.rd h3 (Q := fun _ => True) fun _ _ _ => trivial) (r2.ext h1 x3) hlp hsub ?_
  simp only [cR_ret, onB_b, bI_tt, isub]
  refine w0 (by omega) (by omega) ?_
  have hr3 := hr1.ext h1 x3
  refine pSlice_v hr3 (i := k) (j := l.length) (by omega) (by omega) (.inl rfl) (.inr ⟨rfl, rfl⟩) fun v4 r4 => ?_
  have em : Int.negSucc 0 = -1 := rfl
  rw [em]
  have hR3 := hR1.ext h1 x3
  refine f12_i h3 hR3 (by omega) ⟨by omega, by omega⟩ ⟨by omega, by omega⟩ fun H5 S5 v5 h5 x5 f5 _ => ?_
  simp only [cR_ret]
  have e5 : (l.drop k).take (l.length - k) = l.drop k := List.take_of_length_le (by simp)
  rw [e5] at r4
  rw [prt_end hk] at f5
  refine f11_i h5 (f5.rd h5 (Q := fun _ => True) fun _ _ _ => trivial) (r4.ext h3 x5) (by simp; omega) (fun x hx => hs x (List.mem_of_mem_drop hx)) ?_
  simp only [cR_ret, onB_b, bI_tt]
  have hS5 := ((hS.ext hM x1).ext h1 x3).ext h3 x5
  refine f13_i h5 hS5 ?_
  simp only [cR_ret, cI_z, iEq_d, decide_true, bI_tt]
  have e8 : decide ((Int.ofNat 8) = 0) = false := by decide
  rw [e8]
  simp only [bI_ff]
  have e9 : Int.tdiv (l.length : Int) (.ofNat 8) = ((l.length / 8 : Nat) : Int) := rfl
  rw [e9]
  refine w0 (by omega) (by omega) ?_
  have e10 : ((l.length / 8 : Nat) : Int) + (Int.ofNat 2) = ((l.length / 8 + 2 : Nat) : Int) := rfl
  rw [e10]
  refine w0 (by omega) (by omega) ?_
  refine f14_i h5 hS5 fun n hn => ?_
  simp only [cR_ret, cI_z, iLt_d]
  have e11 : decide (((l.length / 8 + 2 : Nat) : Int) < (n : Int)) = false := decide_eq_false (by omega)
  rw [e11]
  exact hK _
theorem g3_q1 {Q : Nat → Prop} {v : AV} {l : List AV} {i : Int} (hM : Mem H S) (hr : RdV S Q v l) (hR : RowE S W rb l) (hS : RowE S W' sb l) (h0 : l ≠ []) (hl : l.length ≤ 100) (hs : ∀ a ∈ l, isS a) (hK : ∀ H', K (.ret (.bool true)) H') : f3_q1 R3 K (f3_q2 R3 K) v i (.ptr rb 0) (.ptr sb 0) H := by
  have hp : 0 < l.length := List.length_pos_iff.2 h0
  unfold f3_q1
  rw [r3d]
  refine hr.len ?_
  simp only [cI_z]
  refine w3 ?_
  refine w3 ?_
  have e1 : (l.length : Int) % 18446744073709551616 = l.length := by omega
  rw [e1, iEq_d, show decide ((l.length : Int) = 0) = false by simp; omega]
  simp only [bI_ff]
  obtain ⟨u, hu⟩ := Int.eq_ofNat_of_zero_le (Int.emod_nonneg i (show (18446744073709551616 : Int) ≠ 0 by omega))
  rw [hu]
  rw [forceI_eq]
  have e2 : Int.tmod ((u : Nat) : Int) (l.length : Int) = ((u % l.length : Nat) : Int) := rfl
  rw [e2]
  have hk := Nat.mod_lt u hp
  generalize u % l.length = k at hk
  refine w0 (by omega) (by omega) ?_
  have ha : l[k]? = some l[k] := List.getElem?_eq_getElem hk
  refine At_some hM hR (by omega) ⟨by omega, by omega⟩ (plc_pos hk) ha ?_
  simp only [cR_ret]
  refine onTup_i (nth0 (onTup_i (nth1 ?_)))
  simp only [onB_b, isub]
  refine w0 (by omega) (by omega) ?_
  refine At_some hM hS (by omega) ⟨by omega, by omega⟩ (plc_neg hk) ha ?_
  simp only [cR_ret]
  refine onTup_i (nth0 (onTup_i (nth1 ?_)))
  simp only [onB_b]
  exact g3_q2 hM hr hR hS hl hs ha hK
end
theorem g3_i {Q : Nat → Prop} {v : AV} {l : List AV} {i : Int} (hM : Mem H S) (hr : RdV S Q v l) (hs : ∀ a ∈ l, isS a) (hn : (l.length : Int) < 9223372036854775808) (hK : ∀ H', K (.ret (.bool true)) H') : g3 v i H K := by
  show f3_q0 R3 K (f3_q1 R3 K (f3_q2 R3 K)) v i H
  unfold f3_q0
  rw [r3a, r3b, r3c]
  refine hr.len ?_
  have e0 : Int.ofNat 0 = ((0 : Nat) : Int) := rfl
  simp only [cI_z, iEq_d]
  refine bI_dec (fun g => ?_) (fun g => ?_)
  · unfold toldK
    simp only [cR_ret, onB_b]
    exact hK _
  · refine hr.len ?_
    simp only [cI_z, iLt_d]
    refine bI_dec (fun g2 => ?_) (fun g2 => ?_)
    · unfold toldK
      simp only [cR_ret, onB_b]
      exact hK _
    · have e100 : Int.ofNat 100 = 100 := rfl
      have hl : l.length ≤ 100 := by omega
      refine g8_i hM hr (by omega) hs fun H1 S1 W1 r1 h1 x1 hR1 o1 => ?_
      simp only [cR_ret, pPEq_pn, onB_b, Bool.not_true, bI_ff]
      refine f9_i h1 hR1 (by omega) fun H2 S2 v2 h2 x2 f2 _ _ => ?_
      simp only [cR_ret]
      refine g8_i h2 (f2.rd h2 (Q := fun _ => True) fun _ _ _ => trivial) (by omega) hs fun H3 S3 W3 r3 h3 x3 hR3 o3 => ?_
      simp only [cR_ret, pPEq_pn, onB_b, Bool.not_true, bI_ff]
      exact g3_q1 h3 (((hr.ext hM x1).ext h1 x2).ext h2 x3) ((hR1.ext h1 x2).ext h2 x3) hR3 (fun h => g (by rw [h]; rfl)) hl hs hK
end Go.Proofs.Ythjmjehfcjchfaa

namespace Go.Proofs.Ythjmjehfcjchfaa
open Go Go.X Go.Proofs.Ythjmjehfcjchfaa.G
set_option maxRecDepth 100000
set_option maxHeartbeats 1600000
set_option linter.unusedVariables false
set_option linter.unusedSimpArgs false
variable {H : AH} {S : LS} {K : KF}
/-- A slice in memory that is newer than S0. -/
def NewV (S0 S : LS) (v : AV) (l : List AV) : Prop := Ext S0 S ∧ FrV S v l ∧ ∀ b, bkOf v b → S0.n ≤ b
theorem newV_nil {S0 : LS} {k : AV → AH → Prop} (hM : Mem H S) (hx : Ext S0 S) (hk : ∀ H' S' v, Mem H' S' → Ext S S' → NewV S0 S' v [] → k v H') : pNewS (newK H) 0 1 [] k := by
  refine pNewS_i hM rfl (fun a ha => by simp at ha) fun H1 h1 => ?_
  exact hk H1 _ _ h1 (Ext.push _ _) ⟨hx.trans (Ext.push _ _), .inr ⟨S.n, 0, true, [], rfl, LS.push_ob_self _ _, rfl, by simp, rfl, fun a ha => by simp at ha⟩, fun b hb => by
    have e : b = S.n := hb
    have := hx.n
    omega⟩
theorem newV_one {S0 : LS} {s : AV} {k : AV → AH → Prop} (hM : Mem H S) (hx : Ext S0 S) (hs : s.one = true) (hk : ∀ H' S' v, Mem H' S' → Ext S S' → NewV S0 S' v [s] → k v H') : pNewS (newK H) 1 1 [s] k := by
  refine pNewS_i hM rfl (fun a ha => by simp at ha; rw [ha]; exact hs) fun H1 h1 => ?_
  exact hk H1 _ _ h1 (Ext.push _ _) ⟨hx.trans (Ext.push _ _), .inr ⟨S.n, 1, true, [s], rfl, LS.push_ob_self _ _, rfl, by simp, rfl, fun a ha => by simp at ha; rw [ha]; exact hs⟩, fun b hb => by
    have e : b = S.n := hb
    have := hx.n
    omega⟩
theorem newV_app {S0 : LS} {v x : AV} {l l' : List AV} {Q : Nat → Prop} {k : AV → AH → Prop} (hM : Mem H S) (h : NewV S0 S v l) (hr : RdV S Q x l') (hl : l.length + l'.length ≤ 100000) (h1 : ∀ a ∈ l', a.one = true)
    (hk : ∀ H' S' v', Mem H' S' → (∀ b, b < S0.n → S'.ob b = S.ob b) → (∀ b, b < S.n → ¬ bkOf v b → S'.ob b = S.ob b) → S.n ≤ S'.n → NewV S0 S' v' (l ++ l') → k v' H') : pApp 1 16 v x H k := by
  obtain ⟨hx, hf, hb⟩ := h
  refine pApp_v hM hf hr (by omega) h1 fun H1 S1 v1 h1 n1 k1 f1 b1 _ _ _ => ?_
  have hk' : ∀ b, b < S0.n → S1.ob b = S.ob b := fun b hb' => k1 b (Nat.lt_of_lt_of_le hb' hx.n) fun g => by have := hb b g; omega
  refine hk H1 S1 v1 h1 hk' k1 n1 ⟨⟨Nat.le_trans hx.n n1, fun b hb' => (hk' b hb').trans (hx.ob b hb')⟩, f1, fun b g => ?_⟩
  rcases b1 b g with q | q
  · exact hb b q
  · have := hx.n; omega
noncomputable def R4 : f4_R := (toldK, g8, f9, f11, f12, g15, f16)
noncomputable def g4 : AV → Int → Int → AV → AH → KF → Prop := f4_r R4
theorem g4_ok : FunOk Try.prog 4 (fnX [.a, .i 0, .i 0, .a] g4) := f4_rok R4 (CTblOk.cons told_ok (CTblOk.cons g8_ok (CTblOk.cons f9_ok (CTblOk.cons f11_ok (CTblOk.cons f12_ok (CTblOk.cons g15_ok (CTblOk.cons f16_ok CTblOk.nil)))))))
theorem r4a : R4.1 = toldK := rfl
theorem r4b : R4.2.1 = g8 := rfl
theorem r4c : R4.2.2.1 = f9 := rfl
theorem r4d : R4.2.2.2.1 = f11 := rfl
theorem r4e : R4.2.2.2.2.1 = f12 := rfl
theorem r4f : R4.2.2.2.2.2.1 = g15 := rfl
theorem r4g : R4.2.2.2.2.2.2 = f16 := rfl
theorem prt_mid {L : List AV} {a b : Nat} (h : a ≤ b) (hb : b < L.length) : prt L a b = (L.drop a).take (b + 1 - a) := by
  unfold prt frZ toZ
  have e1 : (if (a : Int) < 0 then max ((a : Int) + L.length) 0 else (a : Int)) = a := if_neg (by omega)
  have e2 : (if (b : Int) < 0 then (b : Int) + L.length else (b : Int)) = b := if_neg (by omega)
  rw [e1, e2, if_neg (by omega)]
  congr 1
  omega
theorem prt_rest {L : List AV} {b : Nat} : prt L ((b + 1 : Nat) : Int) (L.length : Int) = L.drop (b + 1) := by
  unfold prt frZ toZ
  have e1 : (if ((b + 1 : Nat) : Int) < 0 then max (((b + 1 : Nat) : Int) + L.length) 0 else ((b + 1 : Nat) : Int)) = ((b + 1 : Nat) : Int) := if_neg (by omega)
  have e2 : (if (L.length : Int) < 0 then (L.length : Int) + L.length else (L.length : Int)) = L.length := if_neg (by omega)
  rw [e1, e2]
  split
  · rw [List.drop_of_length_le (by omega)]
  · rw [show ((b + 1 : Nat) : Int).toNat = b + 1 by omega]
    exact List.take_of_length_le (by simp; omega)
theorem prt_first {L : List AV} {a : Nat} (h : 0 < a) (ha : a ≤ L.length) : prt L 0 ((a : Int) - 1) = L.take a := by
  unfold prt frZ toZ
  have e1 : (if (0 : Int) < 0 then max ((0 : Int) + L.length) 0 else (0 : Int)) = 0 := if_neg (by omega)
  have e2 : (if (a : Int) - 1 < 0 then (a : Int) - 1 + L.length else (a : Int) - 1) = (a : Int) - 1 := if_neg (by omega)
  rw [e1, e2, if_neg (by omega)]
  rw [show (0 : Int).toNat = 0 from rfl, List.drop_zero]
  congr 1
  omega
theorem FrW.extN {W : Nat → Prop} {n0 : Nat} {S0 S' : LS} (h : FrW S S' W) (hx : Ext S0 S) (hW : ∀ b, W b → S0.n ≤ b) : Ext S0 S' :=
  ⟨Nat.le_trans hx.n h.n, fun b hb => (h.ob b (Nat.lt_of_lt_of_le hb hx.n) fun g => by have := hW b g; omega).trans (hx.ob b hb)⟩
section
variable {W : Nat → Prop} {rb : Nat} {S0 : LS} {H0 : AH}
theorem g4_q3 {Q : Nat → Prop} {v w x y s : AV} {l : List AV} {a b : Nat} (hM0 : Mem H0 S0) (hM : Mem H S) (hx0 : Ext S0 S) (hr : RdV S0 Q v l) (hR : RowE S W rb l) (hW : ∀ b, W b → S0.n ≤ b)
    (hw : RdV S (fun _ => True) w (l.take a)) (hx : RdV S (fun _ => True) x ((l.drop a).take (b + 1 - a))) (hy : RdV S (fun _ => True) y (l.drop (b + 1))) (hab : a ≤ b) (hb : b < l.length) (hl : l.length ≤ 150) (hs : ∀ a ∈ l, isS a) (hss : isS s) (hK : ∀ H', K (.ret (.bool true)) H') :
    f4_q3 R4 K (f4_q4 R4 K) v s (.ptr rb 0) l.length a x y w H := by
  have one : ∀ {l' : List AV}, (∀ c ∈ l', c ∈ l) → ∀ c ∈ l', c.one = true := fun h c hc => (hs c (h c hc)).one
  unfold f4_q3
  rw [r4d, r4f, r4g]
  refine newV_nil (S0 := S) hM (Ext.refl S) fun H1 S1 v1 h1 x1 f1 => ?_
  refine newV_app h1 f1 (hw.ext hM x1) (by simp; omega) (one fun c hc => List.mem_of_mem_take hc) fun H2 S2 v2 h2 _ _ _ f2 => ?_
  refine newV_app h2 f2 (hx.ext hM f2.1) (by simp; omega) (one fun c hc => List.mem_of_mem_drop (List.mem_of_mem_take hc)) fun H3 S3 v3 h3 _ _ _ f3 => ?_
  refine newV_app h3 f3 (hy.ext hM f3.1) (by simp; omega) (one fun c hc => List.mem_of_mem_drop hc) fun H4 S4 v4 h4 _ _ _ f4 => ?_
  have eall : (([] ++ l.take a) ++ (l.drop a).take (b + 1 - a)) ++ l.drop (b + 1) = l := by
    rw [List.nil_append, List.append_assoc]
    have e : l.drop (b + 1) = (l.drop a).drop (b + 1 - a) := by rw [List.drop_drop]; congr 1; omega
    rw [e, List.take_append_drop, List.take_append_drop]
  rw [eall] at f4
  have hr4 := hr.ext hM0 (hx0.trans f4.1)
  refine f11_i h4 (f4.2.1.rd h4 (Q := fun _ => True) fun _ _ _ => trivial) hr4 (by omega) hs ?_
  simp only [cR_ret, onB_b, Bool.not_true, bI_ff]
  refine g15_i h4 (hR.ext hM f4.1) (i := a) (by omega) (by omega) hss fun H5 S5 W5 h5 fr5 hR5 o5 => ?_
  simp only [cR_ret, onB_b, Bool.not_true, bI_ff, isub, io1]
  refine w0 (by omega) (by omega) ?_
  refine w0 (by omega) (by omega) ?_
  have il : (insAt l a s).length = l.length + 1 := insAt_len (by omega)
  have hpl : plc (insAt l a s).length ((a : Int) - l.length - 1) = some a := by
    have h := plc_neg (n := l.length + 1) (i := a) (by omega)
    rw [il]
    rw [show (a : Int) - l.length - 1 = (a : Int) - ((l.length + 1 : Nat) : Int) by omega]
    exact h
  have x5 : Ext S0 S5 := FrW.extN (n0 := 0) fr5 (hx0.trans f4.1) fun b' hb' => hW b' hb'
  have W5b : ∀ b, W5 b → S0.n ≤ b := fun b' hb' => (o5 b' hb').elim (hW b') fun g => by have := hx0.n; have := f4.1.n; omega
  refine f16_i h5 hR5 ⟨by omega, by omega⟩ (by omega) (fun h => by rw [hpl] at h; cases h) fun i c hi hc H6 S6 W6 h6 fr6 hR6 o6 => ?_
  rw [hpl] at hi
  cases hi
  have ec : c = s := by
    unfold insAt at hc
    rw [List.getElem?_append_right (by simp; omega)] at hc
    rw [show a - (l.take a).length = 0 by simp; omega] at hc
    simpa using hc.symm
  subst ec
  simp only [cR_ret]
  refine onTup_i (nth0 (onTup_i (nth1 ?_)))
  simp only [onB_b]
  unfold f4_q4
  rw [r4a, r4c, r4d]
  unfold toldK
  simp only [cR_ret, onB_b, bI_tt]
  refine sEq_i hss ?_
  simp only [onB_b, bI_tt]
  rw [delAt_insAt (by omega)] at hR6
  have x6 : Ext S0 S6 := FrW.extN (n0 := 0) fr6 x5 W5b
  refine f9_i h6 hR6 (by omega) fun H7 S7 v7 h7 x7 f7 _ _ => ?_
  simp only [cR_ret]
  refine f11_i h7 (f7.rd h7 (Q := fun _ => True) fun _ _ _ => trivial) (hr.ext hM0 (x6.trans x7)) (by omega) hs ?_
  simp only [cR_ret, onB_b]
  exact hK _
theorem g4_q2 {Q : Nat → Prop} {v s : AV} {l : List AV} {a b : Nat} (hM0 : Mem H0 S0) (hM : Mem H S) (hx0 : Ext S0 S) (hr : RdV S0 Q v l) (hR : RowE S W rb l) (hW : ∀ b, W b → S0.n ≤ b) (hab : a ≤ b) (hb : b < l.length) (hl : l.length ≤ 150) (hs : ∀ a ∈ l, isS a) (hss : isS s) (hK : ∀ H', K (.ret (.bool true)) H') :
    f4_q2 R4 K (f4_q3 R4 K (f4_q4 R4 K)) v s (.ptr rb 0) l.length a b H := by
  unfold f4_q2
  rw [r4e]
  refine f12_i hM hR (by omega) ⟨by omega, by omega⟩ ⟨by omega, by omega⟩ fun H1 S1 x h1 x1 fx _ => ?_
  simp only [cR_ret, iadd, io1]
  refine w0 (by omega) (by omega) ?_
  have eb : (b : Int) + 1 = ((b + 1 : Nat) : Int) := rfl
  rw [eb]
  have hR1 := hR.ext hM x1
  refine f12_i h1 hR1 (by omega) ⟨by omega, by omega⟩ ⟨by omega, by omega⟩ fun H2 S2 y h2 x2 fy _ => ?_
  simp only [cR_ret, iLt_d]
  rw [prt_mid hab hb] at fx
  rw [prt_rest] at fy
  have hx2 := (fx.rd h1 (Q := fun _ => True) fun _ _ _ => trivial).ext h1 x2
  have hy2 := fy.rd h2 (Q := fun _ => True) fun _ _ _ => trivial
  have hR2 := hR1.ext h1 x2
  have e0 : Int.ofNat 0 = 0 := rfl
  refine bI_dec (fun g => ?_) (fun g => ?_)
  · simp only [isub, io1]
    refine w0 (by omega) (by omega) ?_
    rw [e0]
    refine f12_i h2 hR2 (by omega) ⟨by omega, by omega⟩ ⟨by omega, by omega⟩ fun H3 S3 w h3 x3 fw _ => ?_
    simp only [cR_ret]
    rw [prt_first (by omega) (by omega)] at fw
    exact g4_q3 hM0 h3 ((hx0.trans x1).trans (x2.trans x3)) hr (hR2.ext h2 x3) hW (fw.rd h3 fun _ _ _ => trivial) (hx2.ext h2 x3) (hy2.ext h2 x3) hab hb hl hs hss hK
  · have ha : a = 0 := by omega
    subst ha
    exact g4_q3 hM0 h2 (hx0.trans (x1.trans x2)) hr hR2 hW (.inl ⟨rfl, rfl⟩) hx2 hy2 hab hb hl hs hss hK
end
theorem g4_i {Q : Nat → Prop} {v s : AV} {l : List AV} {i j : Int} (hM : Mem H S) (hr : RdV S Q v l) (hs : ∀ a ∈ l, isS a) (hss : isS s) (hK : ∀ H', K (.ret (.bool true)) H') : g4 v i j s H K := by
  show f4_q0 R4 K (f4_q1 R4 K (f4_q2 R4 K (f4_q3 R4 K (f4_q4 R4 K)))) v i j s H
  unfold f4_q0
  rw [r4a, r4b]
  refine hr.len ?_
  have e0 : Int.ofNat 0 = 0 := rfl
  have e150 : Int.ofNat 150 = 150 := rfl
  simp only [cI_z, iLt_d]
  refine bI_dec (fun g => ?_) (fun g => ?_)
  · unfold toldK
    simp only [cR_ret, onB_b]
    exact hK _
  refine hr.len ?_
  simp only [cI_z, iEq_d]
  refine bI_dec (fun g2 => ?_) (fun g2 => ?_)
  · unfold toldK
    simp only [cR_ret, onB_b]
    exact hK _
  obtain ⟨n, x, rfl⟩ : ∃ n x, s = .str n x := by cases s <;> first | exact hss.elim | exact ⟨_, _, rfl⟩
  rw [sLen_s]
  simp only [cI_z, iLt_d]
  refine bI_dec (fun g3 => ?_) (fun g3 => ?_)
  · unfold toldK
    simp only [cR_ret, onB_b]
    exact hK _
  have hl : l.length ≤ 150 := by omega
  have hp : 0 < l.length := by omega
  refine g8_i hM hr (by omega) hs fun H1 S1 W1 r1 h1 x1 hR1 o1 => ?_
  simp only [cR_ret, pPEq_pn, onB_b, Bool.not_true, bI_ff]
  have hr1 := hr.ext hM x1
  unfold f4_q1
  refine hr1.len ?_
  simp only [cI_z]
  refine w3 ?_
  refine w3 ?_
  have e1 : (l.length : Int) % 18446744073709551616 = l.length := by omega
  rw [e1, iEq_d, decide_eq_false (show ¬ ((l.length : Int) = 0) by omega)]
  simp only [bI_ff]
  obtain ⟨u, hu⟩ := Int.eq_ofNat_of_zero_le (Int.emod_nonneg i (show (18446744073709551616 : Int) ≠ 0 by omega))
  obtain ⟨z, hz⟩ := Int.eq_ofNat_of_zero_le (Int.emod_nonneg j (show (18446744073709551616 : Int) ≠ 0 by omega))
  rw [hu, forceI_eq]
  have e2 : Int.tmod ((u : Nat) : Int) (l.length : Int) = ((u % l.length : Nat) : Int) := rfl
  rw [e2]
  have hk := Nat.mod_lt u hp
  generalize u % l.length = a at hk
  refine w0 (by omega) (by omega) ?_
  refine w3 ?_
  refine w3 ?_
  rw [e1, iEq_d, decide_eq_false (show ¬ ((l.length : Int) = 0) by omega)]
  simp only [bI_ff]
  rw [hz, forceI_eq]
  have e3 : Int.tmod ((z : Nat) : Int) (l.length : Int) = ((z % l.length : Nat) : Int) := rfl
  rw [e3]
  have hk2 := Nat.mod_lt z hp
  generalize z % l.length = b at hk2
  refine w0 (by omega) (by omega) ?_
  simp only [iLt_d]
  refine bI_dec (fun g => ?_) (fun g => ?_)
  · exact g4_q2 hM h1 x1 hr hR1 o1 (by omega) (by omega) hl hs hss hK
  · exact g4_q2 hM h1 x1 hr hR1 o1 (by omega) (by omega) hl hs hss hK
end Go.Proofs.Ythjmjehfcjchfaa
