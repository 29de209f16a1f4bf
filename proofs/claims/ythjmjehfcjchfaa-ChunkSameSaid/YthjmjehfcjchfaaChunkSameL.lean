/- The law ChunkSame over lists. No condition: lemmas. -/
import Derived.Test.YthjmjehfcjchfaaC
set_option linter.unusedVariables false
set_option linter.unusedSimpArgs false
namespace Go.Proofs.Ythjmjehfcjchfaa
open Go Go.X Go.Proofs.Ythjmjehfcjchfaa.G
set_option maxRecDepth 100000
set_option maxHeartbeats 1600000
set_option linter.unusedVariables false
set_option linter.unusedSimpArgs false
variable {H : AH} {S : LS} {K : KF}
noncomputable def R3 : f3_R := (toldK, g8, f9, f10, f11, f12, f13, f14)
noncomputable def g3 : AV → Int → AH → KF → Prop := f3_r R3
theorem g3_ok : FunOk Try.prog 3 (fnX [.a, .i 0] g3) := f3_rok R3 (CTblOk.cons told_ok (CTblOk.cons g8_ok (CTblOk.cons f9_ok (CTblOk.cons f10_ok (CTblOk.cons f11_ok (CTblOk.cons f12_ok (CTblOk.cons f13_ok (CTblOk.cons f14_ok CTblOk.nil))))))))
theorem r3a : R3.1 = toldK := rfl
theorem r3b : R3.2.1 = g8 := rfl
theorem r3c : R3.2.2.1 = f9 := rfl
theorem r3d : R3.2.2.2.1 = f10 := rfl
theorem r3e : R3.2.2.2.2.1 = f11 := rfl
theorem r3f : R3.2.2.2.2.2.1 = f12 := rfl
theorem r3g : R3.2.2.2.2.2.2.1 = f13 := rfl
theorem r3h : R3.2.2.2.2.2.2.2 = f14 := rfl
theorem prt_at {L : List AV} {k : Nat} (h : k < L.length) : prt L k k = (L.drop k).take 1 := by
  unfold prt frZ toZ
  have e1 : (if (k : Int) < 0 then max ((k : Int) + L.length) 0 else (k : Int)) = k := if_neg (by omega)
  have e2 : (if (k : Int) < 0 then (k : Int) + L.length else (k : Int)) = k := if_neg (by omega)
  rw [e1, e2, if_neg (by omega)]
  congr 1
  · omega
theorem prt_end {L : List AV} {k : Nat} (h : k < L.length) : prt L (k - (L.length : Int)) (-1) = L.drop k := by
  unfold prt frZ toZ
  have e1 : (if (k : Int) - L.length < 0 then max ((k : Int) - L.length + L.length) 0 else (k : Int) - L.length) = k := by rw [if_pos (by omega)]; omega
  have e2 : (if (-1 : Int) < 0 then (-1 : Int) + L.length else (-1 : Int)) = L.length - 1 := by rw [if_pos (by omega)]; omega
  rw [e1, e2, if_neg (by omega)]
  have e3 : ((k : Int).toNat) = k := by omega
  rw [e3]
  exact List.take_of_length_le (by simp)
theorem plc_pos {n i : Nat} (h : i < n) : plc n (i : Int) = some i := by
  unfold plc
  rw [if_neg (by omega), if_pos (by omega)]
  rfl
theorem plc_neg {n i : Nat} (h : i < n) : plc n ((i : Int) - n) = some i := by
  unfold plc
  rw [if_pos (by omega), if_neg (by omega)]
  congr 1
  omega
theorem plc_over {n : Nat} : plc n (n : Int) = none := by
  unfold plc
  rw [if_neg (by omega), if_neg (by omega)]
theorem plc_under {n : Nat} : plc n (-(n : Int) - 1) = none := by
  unfold plc
  rw [if_pos (by omega), if_pos (by omega)]
section
variable {W W' : Nat → Prop} {rb sb : Nat}
theorem At_some {L : List AV} {z : Int} {i : Nat} {a : AV} (hM : Mem H S) (hR : RowE S W rb L) (hl : L.length ≤ 100000) (hz : i64 z) (hp : plc L.length z = some i) (ha : L[i]? = some a) (hK : K (.ret (.tup [a, .bool true])) H) : f10 (.ptr rb 0) z H K :=
  f10_i hM hR hz hl (fun h => by rw [hp] at h; cases h) fun j b h1 h2 => by
    rw [hp] at h1
    cases h1
    rw [ha] at h2
    cases h2
    exact hK
theorem At_none {L : List AV} {z : Int} (hM : Mem H S) (hR : RowE S W rb L) (hl : L.length ≤ 100000) (hz : i64 z) (hp : plc L.length z = none) (hK : K (.ret (.tup [.str 0 0, .bool false])) H) : f10 (.ptr rb 0) z H K :=
  f10_i hM hR hz hl (fun _ => hK) fun j b h1 _ => by rw [hp] at h1; cases h1
theorem g3_q2 {Q : Nat → Prop} {v : AV} {l : List AV} {k : Nat} {a : AV} (hM : Mem H S) (hr : RdV S Q v l) (hR : RowE S W rb l) (hS : RowE S W' sb l) (hl : l.length ≤ 100) (hs : ∀ a ∈ l, isS a) (ha : l[k]? = some a) (hK : ∀ H', K (.ret (.bool true)) H') : f3_q2 R3 K v (.ptr rb 0) (.ptr sb 0) l.length k a true a true H := by
  have hk := (List.getElem?_eq_some_iff.1 ha).1
  have hsa := hs a (List.mem_of_getElem? ha)
  unfold f3_q2
  rw [r3a, r3c, r3d, r3e, r3f, r3g, r3h]
  refine At_none hM hR (by omega) ⟨by omega, by omega⟩ plc_over ?_
  simp only [cR_ret]
  refine onTup_i (nth0 (onTup_i (nth1 ?_)))
  simp only [onB_b]
  have en : Int.neg (l.length : Int) = -(l.length : Int) := rfl
  rw [en]
  refine w0 (by omega) (by omega) ?_
  simp only [isub, io1]
  refine w0 (by omega) (by omega) ?_
  refine At_none hM hR (by omega) ⟨by omega, by omega⟩ plc_under ?_
  simp only [cR_ret]
  refine onTup_i (nth0 (onTup_i (nth1 ?_)))
  simp only [onB_b]
  unfold toldK
  simp only [cR_ret, onB_b, bI_tt, Bool.not_false]
  refine f9_i hM hS (by omega) fun H1 S1 v1 h1 x1 f1 e1 b1 => ?_
  simp only [cR_ret]
  refine f11_i h1 (f1.rd h1 (Q := fun _ => True) fun _ _ _ => trivial) (hr.ext hM x1) (by omega) hs ?_
  simp only [cR_ret, onB_b, bI_tt]
  refine sEq_i hsa ?_
  simp only [onB_b, bI_tt]
  have hr1 := hr.ext hM x1
  refine hr1.load h1 ha (sEq_i hsa ?_)
  simp only [onB_b, bI_tt, iadd, io1]
  refine w0 (by omega) (by omega) ?_
  have ek : (k : Int) + 1 = ((k + 1 : Nat) : Int) := rfl
  rw [ek]
  refine pSlice_v hr1 (i := k) (j := k + 1) (by omega) (by omega) (.inl rfl) (.inl rfl) fun v2 r2 => ?_
  have hR1 := hR.ext hM x1
  refine f12_i h1 hR1 (by omega) ⟨by omega, by omega⟩ ⟨by omega, by omega⟩ fun H3 S3 v3 h3 x3 f3 _ => ?_
  simp only [cR_ret]
  have e3 : (l.drop k).take (k + 1 - k) = prt l k k := by rw [prt_at hk]; congr 1; omega
  rw [e3] at r2
  have hsub : ∀ x ∈ prt l k k, isS x := fun x hx => hs x (by rw [prt_at hk] at hx; exact List.mem_of_mem_drop (List.mem_of_mem_take hx))
  have hlp : (prt l k k).length ≤ 100000 := by rw [prt_at hk]; simp; omega
  refine f11_i h3 (f3.rd h3 (Q := fun _ => True) fun _ _ _ => trivial) (r2.ext h1 x3) hlp hsub ?_
  simp only [cR_ret, onB_b, bI_tt, isub]
  refine w0 (by omega) (by omega) ?_
  have hr3 := hr1.ext h1 x3
  refine pSlice_v hr3 (i := k) (j := l.length) (by omega) (by omega) (.inl rfl) (.inr ⟨rfl, rfl⟩) fun v4 r4 => ?_
  have em : Int.negSucc 0 = -1 := rfl
  rw [em]
  have hR3 := hR1.ext h1 x3
  refine f12_i h3 hR3 (by omega) ⟨by omega, by omega⟩ ⟨by omega, by omega⟩ fun H5 S5 v5 h5 x5 f5 _ => ?_
  simp only [cR_ret]
  have e5 : (l.drop k).take (l.length - k) = l.drop k := List.take_of_length_le (by simp)
  rw [e5] at r4
  rw [prt_end hk] at f5
  refine f11_i h5 (f5.rd h5 (Q := fun _ => True) fun _ _ _ => trivial) (r4.ext h3 x5) (by simp; omega) (fun x hx => hs x (List.mem_of_mem_drop hx)) ?_
  simp only [cR_ret, onB_b, bI_tt]
  have hS5 := ((hS.ext hM x1).ext h1 x3).ext h3 x5
  refine f13_i h5 hS5 ?_
  simp only [cR_ret, cI_z, iEq_d, decide_true, bI_tt]
  have e8 : decide ((Int.ofNat 8) = 0) = false := by decide
  rw [e8]
  simp only [bI_ff]
  have e9 : Int.tdiv (l.length : Int) (.ofNat 8) = ((l.length / 8 : Nat) : Int) := rfl
  rw [e9]
  refine w0 (by omega) (by omega) ?_
  have e10 : ((l.length / 8 : Nat) : Int) + (Int.ofNat 2) = ((l.length / 8 + 2 : Nat) : Int) := rfl
  rw [e10]
  refine w0 (by omega) (by omega) ?_
  refine f14_i h5 hS5 fun n hn => ?_
  simp only [cR_ret, cI_z, iLt_d]
  have e11 : decide (((l.length / 8 + 2 : Nat) : Int) < (n : Int)) = false := decide_eq_false (by omega)
  rw [e11]
  exact hK _
theorem g3_q1 {Q : Nat → Prop} {v : AV} {l : List AV} {i : Int} (hM : Mem H S) (hr : RdV S Q v l) (hR : RowE S W rb l) (hS : RowE S W' sb l) (h0 : l ≠ []) (hl : l.length ≤ 100) (hs : ∀ a ∈ l, isS a) (hK : ∀ H', K (.ret (.bool true)) H') : f3_q1 R3 K (f3_q2 R3 K) v i (.ptr rb 0) (.ptr sb 0) H := by
  have hp : 0 < l.length := List.length_pos_iff.2 h0
  unfold f3_q1
  rw [r3d]
  refine hr.len ?_
  simp only [cI_z]
  refine w3 ?_
  refine w3 ?_
  have e1 : (l.length : Int) % 18446744073709551616 = l.length := by omega
  rw [e1, iEq_d, show decide ((l.length : Int) = 0) = false by simp; omega]
  simp only [bI_ff]
  obtain ⟨u, hu⟩ := Int.eq_ofNat_of_zero_le (Int.emod_nonneg i (show (18446744073709551616 : Int) ≠ 0 by omega))
  rw [hu]
  rw [forceI_eq]
  have e2 : Int.tmod ((u : Nat) : Int) (l.length : Int) = ((u % l.length : Nat) : Int) := rfl
  rw [e2]
  have hk := Nat.mod_lt u hp
  generalize u % l.length = k at hk
  refine w0 (by omega) (by omega) ?_
  have ha : l[k]? = some l[k] := List.getElem?_eq_getElem hk
  refine At_some hM hR (by omega) ⟨by omega, by omega⟩ (plc_pos hk) ha ?_
  simp only [cR_ret]
  refine onTup_i (nth0 (onTup_i (nth1 ?_)))
  simp only [onB_b, isub]
  refine w0 (by omega) (by omega) ?_
  refine At_some hM hS (by omega) ⟨by omega, by omega⟩ (plc_neg hk) ha ?_
  simp only [cR_ret]
  refine onTup_i (nth0 (onTup_i (nth1 ?_)))
  simp only [onB_b]
  exact g3_q2 hM hr hR hS hl hs ha hK
end
theorem g3_i {Q : Nat → Prop} {v : AV} {l : List AV} {i : Int} (hM : Mem H S) (hr : RdV S Q v l) (hs : ∀ a ∈ l, isS a) (hn : (l.length : Int) < 9223372036854775808) (hK : ∀ H', K (.ret (.bool true)) H') : g3 v i H K := by
  show f3_q0 R3 K (f3_q1 R3 K (f3_q2 R3 K)) v i H
  unfold f3_q0
  rw [r3a, r3b, r3c]
  refine hr.len ?_
  have e0 : Int.ofNat 0 = ((0 : Nat) : Int) := rfl
  simp only [cI_z, iEq_d]
  refine bI_dec (fun g => ?_) (fun g => ?_)
  · unfold toldK
    simp only [cR_ret, onB_b]
    exact hK _
  · refine hr.len ?_
    simp only [cI_z, iLt_d]
    refine bI_dec (fun g2 => ?_) (fun g2 => ?_)
    · unfold toldK
      simp only [cR_ret, onB_b]
      exact hK _
    · have e100 : Int.ofNat 100 = 100 := rfl
      have hl : l.length ≤ 100 := by omega
      refine g8_i hM hr (by omega) hs fun H1 S1 W1 r1 h1 x1 hR1 o1 => ?_
      simp only [cR_ret, pPEq_pn, onB_b, Bool.not_true, bI_ff]
      refine f9_i h1 hR1 (by omega) fun H2 S2 v2 h2 x2 f2 _ _ => ?_
      simp only [cR_ret]
      refine g8_i h2 (f2.rd h2 (Q := fun _ => True) fun _ _ _ => trivial) (by omega) hs fun H3 S3 W3 r3 h3 x3 hR3 o3 => ?_
      simp only [cR_ret, pPEq_pn, onB_b, Bool.not_true, bI_ff]
      exact g3_q1 h3 (((hr.ext hM x1).ext h1 x2).ext h2 x3) ((hR1.ext h1 x2).ext h2 x3) hR3 (fun h => g (by rw [h]; rfl)) hl hs hK
end Go.Proofs.Ythjmjehfcjchfaa

namespace Go.Proofs.Ythjmjehfcjchfaa
open Go Go.X Go.Proofs.Ythjmjehfcjchfaa.G Go.ChangeShapes
set_option maxRecDepth 100000
set_option maxHeartbeats 1600000
set_option linter.unusedVariables false
set_option linter.unusedSimpArgs false
section
variable {H : Type} {enc : TypeId × Value → H} {W : World}
theorem texts_arg {r : Reach} {b0 : Nat} {v : Value} {d : DataW H} {ps : List MemPlace} (hv : Value.okWide Try.prog W r b0 22 v) (hd : DataW.Trod enc Try.prog W 0 (fun _ => true) true 22 v d ps) :
    ∃ (q : Option Rw) (l : List AV), (∀ x, q = some x → x.at_ W) ∧ (∀ a ∈ l, isS a) ∧ (l.length : Int) < 9223372036854775808 ∧ ∀ (gl : List (Option (List AV))) (rows : List (Option Rw)) (j : Nat), rows[j]? = some q → ∃ av, VR (firstE gl rows) av v ∧ RdV (firstM gl rows) (fun _ => True) av l := by
  rcases open_cells Try.underlying22 (by kernel_rfl) hv hd with rfl | ⟨b, x, len, cap, rfl, hl, hm, cur, ty, ⟨lo, hi⟩, hb, hsz, hx⟩
  · exact ⟨none, [], fun x h => (nomatch h), fun a h => by simp at h, by simp, fun gl rows j _ => ⟨.nslice, .nslice, .inl ⟨rfl, rfl⟩⟩⟩
  · have each : ∀ i, i < len → ∃ a : AV, (∃ n y, a = .str n y ∧ y < 256 ^ n ∧ cur[x + i]? = some (.string (toBA n y))) := fun i hi => by
      obtain ⟨u, n, y, h1, h2⟩ := hx i (by omega)
      obtain ⟨s, e1, _, hs⟩ := DataW.trod_string Try.underlying9 h2
      simp only [List.cons.injEq, and_true] at e1
      subst e1
      obtain ⟨n, xx, g1, g2, g3⟩ := str_of s
      exact ⟨.str n xx, n, xx, rfl, g1, by rw [← g2]; exact h1⟩
    obtain ⟨l, hl1, hl2⟩ := list_of len each
    have hmx : (maxLen : Int) < 9223372036854775808 := by decide
    refine ⟨some ⟨b, if cap = 0 then 0 else x, l⟩, l, fun q hq => ?_, fun a ha => ?_, by omega, fun gl rows j hj => ⟨.slice (gl.length + j) 0 len cap 1 true, row_slice hj hl (fun g => by show x = if cap = 0 then 0 else x; rw [if_neg (by omega)]), .inr ⟨gl.length + j, 0, cap, true, l, 2, by rw [hl1], by omega, trivial, firstM_row j hj, by omega, ?_⟩⟩⟩
    · cases hq
      refine ⟨cur, ty, lo, hi, hb, ?_, fun i a ha => ?_⟩
      · show (if cap = 0 then 0 else x) + l.length ≤ cur.size
        by_cases g : cap = 0
        · rw [if_pos g]; omega
        · rw [if_neg g]
          have := hsz (by omega)
          omega
      · have hj := (List.getElem?_eq_some_iff.1 ha).1
        have hj' : i < l.length := hj
        obtain ⟨n, y, e, hy, h3⟩ := hl2 i a ha
        show _ ∧ ∃ v, cur[(if cap = 0 then 0 else x) + i]? = some v ∧ _
        rw [if_neg (by omega)]
        subst e
        exact ⟨rfl, _, h3, .str _ _ hy⟩
    · obtain ⟨i, hi⟩ := List.getElem?_of_mem ha
      obtain ⟨n, y, e, _⟩ := hl2 i a hi
      rw [e]; trivial
    · rw [List.drop_zero]
      exact List.take_of_length_le (Nat.le_refl _)
end
end Go.Proofs.Ythjmjehfcjchfaa
