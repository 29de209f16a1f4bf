/- The law LexTokens over lists. No condition: lemmas. -/
import Derived.Test.YthmjeojcciefcaaDoorLb
set_option linter.unusedVariables false
set_option linter.unusedSimpArgs false
namespace Go.Proofs.YthmjeojcciefcaaDoor
open Go Go.X Go.Proofs.YthmjeojcciefcaaDoor.G
set_option maxRecDepth 100000
set_option maxHeartbeats 1600000
set_option linter.unusedVariables false
set_option linter.unusedSimpArgs false
variable {H : AH} {S : LS} {K : KF}
theorem r24a : f24_rr.1 = f25 := rfl
theorem r24b : f24_rr.2 = f26 := rfl
section
variable {s : List Nat} {p : Nat}
theorem take2' {c : Nat} {l : List Nat} : (c :: l).take 2 = [45, 45] ↔ c = 45 ∧ l.head? = some 45 := take2
theorem f23_blank (h8 : B8 s) (hs : s.length ≤ 16384) {c : Nat} {l : List Nat} (hd : s.drop p = c :: l) (hc : BlP c) {q : Nat} (hk : f23_l2 f23_rr K q (strA s) ((p + 1 : Nat) : Int) H) : f23_l2 f23_rr K (q + 1) (strA s) (p : Int) H := by
  obtain ⟨h1, h2, h3⟩ := suf hd
  show f23_q2 f23_rr K (f23_l2 f23_rr K q) (f23_p3 f23_rr K (f23_l2 f23_rr K q)) (f23_p1 f23_rr K) (strA s) (p : Int) H
  unfold f23_q2
  have e32 : Int.ofNat 32 = 32 := rfl
  have e9 : Int.ofNat 9 = 9 := rfl
  have e10 : Int.ofNat 10 = 10 := rfl
  have e13 : Int.ofNat 13 = 13 := rfl
  have one : ∀ {k : Int → Prop}, k ((p + 1 : Nat) : Int) → wrapK 0 (Int.add (p : Int) (.ofNat 1)) k := fun {k} h => by
    simp only [iadd, io1]
    exact w0 (by omega) (by omega) h
  simp only [sLen_A, cI_z, iLt_d]
  rw [decide_eq_true (by omega), bI_tt, e32, e9, e10, e13]
  refine sIdx_A h8 h1 ?_
  simp only [cI_z, iEq_d]
  refine bI_dec (fun _ => one hk) (fun g1 => ?_)
  refine sIdx_A h8 h1 ?_
  simp only [cI_z, iEq_d]
  refine bI_dec (fun _ => one hk) (fun g2 => ?_)
  refine sIdx_A h8 h1 ?_
  simp only [cI_z, iEq_d]
  refine bI_dec (fun _ => one hk) (fun g3 => ?_)
  refine sIdx_A h8 h1 ?_
  simp only [cI_z, iEq_d]
  refine bI_dec (fun _ => one hk) (fun g4 => ?_)
  exfalso
  unfold BlP at hc
  omega
/-- No blank: to the test for a remark. -/
theorem f23_no (h8 : B8 s) (hs : s.length ≤ 16384) {c : Nat} {l : List Nat} (hd : s.drop p = c :: l) (hc : ¬ BlP c) {q : Nat} (hk : f23_p3 f23_rr K (f23_l2 f23_rr K q) (strA s) (p : Int) H) : f23_l2 f23_rr K (q + 1) (strA s) (p : Int) H := by
  obtain ⟨h1, h2, h3⟩ := suf hd
  show f23_q2 f23_rr K (f23_l2 f23_rr K q) (f23_p3 f23_rr K (f23_l2 f23_rr K q)) (f23_p1 f23_rr K) (strA s) (p : Int) H
  unfold f23_q2
  have e32 : Int.ofNat 32 = 32 := rfl
  have e9 : Int.ofNat 9 = 9 := rfl
  have e10 : Int.ofNat 10 = 10 := rfl
  have e13 : Int.ofNat 13 = 13 := rfl
  unfold BlP at hc
  simp only [sLen_A, cI_z, iLt_d]
  rw [decide_eq_true (by omega), bI_tt, e32, e9, e10, e13]
  refine sIdx_A h8 h1 ?_
  simp only [cI_z, iEq_d]
  rw [decide_eq_false (by omega), bI_ff]
  refine sIdx_A h8 h1 ?_
  simp only [cI_z, iEq_d]
  rw [decide_eq_false (by omega), bI_ff]
  refine sIdx_A h8 h1 ?_
  simp only [cI_z, iEq_d]
  rw [decide_eq_false (by omega), bI_ff]
  refine sIdx_A h8 h1 ?_
  simp only [cI_z, iEq_d]
  rw [decide_eq_false (by omega), bI_ff]
  exact hk
theorem f23_end (hs : s.length ≤ 16384) (hp : s.length ≤ p) {q : Nat} (hk : K (.ret (.int 0 (p : Int))) H) : f23_l2 f23_rr K (q + 1) (strA s) (p : Int) H := by
  show f23_q2 f23_rr K (f23_l2 f23_rr K q) (f23_p3 f23_rr K (f23_l2 f23_rr K q)) (f23_p1 f23_rr K) (strA s) (p : Int) H
  unfold f23_q2
  simp only [sLen_A, cI_z, iLt_d]
  rw [decide_eq_false (by omega), bI_ff]
  show f23_q1 f23_rr K (p : Int) H
  unfold f23_q1
  exact hk
theorem f23_stop (h8 : B8 s) (hs : s.length ≤ 16384) {c : Nat} {l : List Nat} (hd : s.drop p = c :: l) (hc : ¬ BlP c) (hr : ¬ (c = 45 ∧ l.head? = some 45)) {q : Nat} (hk : K (.ret (.int 0 (p : Int))) H) : f23_l2 f23_rr K (q + 1) (strA s) (p : Int) H := by
  obtain ⟨h1, h2, h3⟩ := suf hd
  refine f23_no h8 hs hd hc ?_
  show f23_q3 f23_rr K (f23_p4 f23_rr K (f23_l2 f23_rr K q)) (f23_q1 f23_rr K) (strA s) (p : Int) H
  unfold f23_q3 f23_q1
  have e2 : Int.ofNat 2 = 2 := rfl
  simp only [iadd, io1, e2]
  refine w0 (by omega) (by omega) ?_
  simp only [sLen_A, cI_z, iLt_d]
  refine bI_dec (fun g => ?_) (fun _ => hk)
  refine w0 (by omega) (by omega) ?_
  refine sub_A (i := p) (j := p + 2) h8 (by omega) (by omega) ?_
  rw [hd, Nat.add_sub_cancel_left]
  refine sEq_A (m := [45, 45]) (by rw [← hd]; exact (h8.drop p).take _) (b8_lit (by decide)) ?_
  rw [onB_b, decide_eq_false (fun g => hr (take2'.1 g)), bI_ff]
  exact hk
theorem f23_line (h8 : B8 s) (hs : s.length ≤ 16384) {e q0 : Nat} (hk : f23_l2 f23_rr K q0 (strA s) (e : Int) H) : ∀ (q j : Nat), j ≤ s.length → s.length - j < q → j + lineL (s.drop j) = e → f23_l5 f23_rr K (f23_l2 f23_rr K q0) q (strA s) (j : Int) H
  | 0, _, _, h, _ => by omega
  | q + 1, j, hj, hq, he => by
    show f23_q5 f23_rr K (f23_l5 f23_rr K (f23_l2 f23_rr K q0) q) (f23_l2 f23_rr K q0) (strA s) (j : Int) H
    unfold f23_q5
    simp only [sLen_A, cI_z, iLt_d]
    refine bI_dec (fun g => ?_) (fun g => ?_)
    · have hjl : j < s.length := by omega
      obtain ⟨c, hc⟩ : ∃ c, s[j]? = some c := ⟨_, List.getElem?_eq_getElem hjl⟩
      have hd : s.drop j = c :: s.drop (j + 1) := by
        rw [List.drop_eq_getElem_cons hjl]
        rw [(List.getElem?_eq_some_iff.1 hc).2]
      refine sIdx_A h8 hc ?_
      simp only [cI_z, iEq_d]
      have e10 : Int.ofNat 10 = 10 := rfl
      rw [e10]
      by_cases g2 : (c : Int) = 10
      · rw [decide_eq_true g2]
        simp only [Bool.not_true, bI_ff]
        have ec : c = 10 := by omega
        subst ec
        rw [hd] at he
        have : lineL (10 :: s.drop (j + 1)) = 0 := by unfold lineL; simp
        rw [this] at he
        rw [show j = e by omega]
        exact hk
      · rw [decide_eq_false g2]
        simp only [Bool.not_false, bI_tt, iadd, io1]
        refine w0 (by omega) (by omega) ?_
        refine f23_line h8 hs hk q (j + 1) (by omega) (by omega) ?_
        rw [hd] at he
        have : lineL (c :: s.drop (j + 1)) = lineL (s.drop (j + 1)) + 1 := by
          conv => lhs; unfold lineL
          rw [if_neg (by omega)]
        omega
    · rw [List.drop_of_length_le (by omega)] at he
      have : j = e := he
      subst this
      exact hk
theorem f23_remark (h8 : B8 s) (hs : s.length ≤ 16384) {l : List Nat} (hd : s.drop p = 45 :: 45 :: l) {q : Nat} (hk : f23_l2 f23_rr K q (strA s) ((p + lineL (45 :: 45 :: l) : Nat) : Int) H) : f23_l2 f23_rr K (q + 1) (strA s) (p : Int) H := by
  obtain ⟨h1, h2, h3⟩ := suf hd
  obtain ⟨h4, h5, h6⟩ := suf h3
  refine f23_no h8 hs hd (by unfold BlP; omega) ?_
  show f23_q3 f23_rr K (f23_q4 f23_rr K (f23_l5 f23_rr K (f23_l2 f23_rr K q) G.NL)) (f23_q1 f23_rr K) (strA s) (p : Int) H
  unfold f23_q3
  have e2 : Int.ofNat 2 = 2 := rfl
  simp only [iadd, io1, e2]
  refine w0 (by omega) (by omega) ?_
  simp only [sLen_A, cI_z, iLt_d]
  rw [decide_eq_true (by omega), bI_tt]
  refine w0 (by omega) (by omega) ?_
  refine sub_A (i := p) (j := p + 2) h8 (by omega) (by omega) ?_
  rw [hd, Nat.add_sub_cancel_left]
  refine sEq_A (m := [45, 45]) (by rw [← hd]; exact (h8.drop p).take _) (b8_lit (by decide)) ?_
  rw [onB_b, decide_eq_true (take2'.2 ⟨rfl, rfl⟩), bI_tt]
  unfold f23_q4
  exact f23_line h8 hs hk G.NL p (by omega) (by have : G.NL = 1000000 := rfl; omega) (by rw [hd])
theorem f24_A (h8 : B8 s) (hs : s.length ≤ 16384) (hp : p ≤ s.length) (hk : K (.ret (.int 0 ((p + runL (s.drop p) : Nat) : Int))) H) : f24 (strA s) (p : Int) H K := by
  have key : ∀ (q j : Nat), j ≤ s.length → s.length - j < q → j + runL (s.drop j) = p + runL (s.drop p) → f24_l2 f24_rr K q (strA s) (j : Int) H := by
    intro q
    induction q with
    | zero => intro j _ h _; omega
    | succ q ih =>
      intro j hj hq he
      show f24_q2 f24_rr K (f24_l2 f24_rr K q) (f24_q1 f24_rr K) (strA s) (j : Int) H
      unfold f24_q2 f24_q1
      rw [r24a, r24b]
      simp only [sLen_A, cI_z, iLt_d]
      refine bI_dec (fun g => ?_) (fun g => ?_)
      · have hjl : j < s.length := by omega
        obtain ⟨c, hc⟩ : ∃ c, s[j]? = some c := ⟨_, List.getElem?_eq_getElem hjl⟩
        have hd : s.drop j = c :: s.drop (j + 1) := by
          rw [List.drop_eq_getElem_cons hjl]
          rw [(List.getElem?_eq_some_iff.1 hc).2]
        rw [hd] at he
        have next : LP c ∨ DP c → f24_l2 f24_rr K q (strA s) ((j + 1 : Nat) : Int) H := fun hl => ih (j + 1) (by omega) (by omega) (by
          have : runL (c :: s.drop (j + 1)) = runL (s.drop (j + 1)) + 1 := by
            conv => lhs; unfold runL
            rw [if_pos hl]
          omega)
        refine sIdx_A h8 hc ?_
        simp only [cI_z, iadd, io1]
        refine f25_i fun b hb => ?_
        simp only [cR_ret, onB_b]
        refine bI_i (fun eb => ?_) (fun eb => ?_)
        · refine w0 (by omega) (by omega) ?_
          exact next (.inl (hb.1 eb))
        · refine sIdx_A h8 hc ?_
          simp only [cI_z]
          refine f26_i fun b' hb' => ?_
          simp only [cR_ret, onB_b]
          refine bI_i (fun eb' => ?_) (fun eb' => ?_)
          · refine w0 (by omega) (by omega) ?_
            exact next (.inr (hb'.1 eb'))
          · have : runL (c :: s.drop (j + 1)) = 0 := by
              unfold runL
              rw [if_neg]
              rintro (g | g)
              · have := hb.2 g; rw [this] at eb; cases eb
              · have := hb'.2 g; rw [this] at eb'; cases eb'
            rw [this, Nat.add_zero] at he
            rw [he]; exact hk
      · rw [List.drop_of_length_le (by omega)] at he
        have e : j = p + runL (s.drop p) := he
        rw [e]; exact hk
  show f24_q0 f24_rr K (f24_l2 f24_rr K G.NL) (strA s) (p : Int) H
  unfold f24_q0
  exact key G.NL p hp (by have : G.NL = 1000000 := rfl; omega) rfl
theorem f38_i {c : Nat} (hc : c < 256) (hk : ∀ z : Int, (∀ v, hexv c = some v → z = v) → (hexv c = none → z = -1) → K (.ret (.int 0 z)) H) : f38 (c : Int) H K := by
  have r38 : f38_rr = f26 := rfl
  show f38_q0 f38_rr K (f38_q1 f38_rr K) (f38_q2 f38_rr K (f38_q3 f38_rr K)) (c : Int) H
  unfold f38_q0
  rw [r38]
  refine f26_i fun b hb => ?_
  simp only [cR_ret, onB_b]
  have e48 : Int.ofNat 48 = 48 := rfl
  have e97 : Int.ofNat 97 = 97 := rfl
  have e102 : Int.ofNat 102 = 102 := rfl
  have e65 : Int.ofNat 65 = 65 := rfl
  have e70 : Int.ofNat 70 = 70 := rfl
  have e10 : Int.ofNat 10 = 10 := rfl
  refine bI_i (fun eb => ?_) (fun eb => ?_)
  · have hd := hb.1 eb
    have hd' := hd
    unfold DP at hd'
    rw [isub, e48]
    refine wrapK_i (z' := ((c - 48 : Nat) : Int)) (by rw [wrap1]; omega) ?_
    refine w0 (by omega) (by omega) ?_
    refine hk _ (fun v hv => ?_) (fun hn => ?_)
    · unfold hexv at hv; rw [if_pos hd] at hv; cases hv; rfl
    · unfold hexv at hn; rw [if_pos hd] at hn; cases hn
  · have hd : ¬ DP c := fun g => by have := hb.2 g; rw [this] at eb; cases eb
    have big : ¬ (97 ≤ c ∧ c ≤ 102) → f38_q2 f38_rr K (f38_q3 f38_rr K) (c : Int) H := fun h1 => by
      unfold f38_q2
      have none_ : ¬ (65 ≤ c ∧ c ≤ 70) → K (.ret (.int 0 (.negSucc 0))) H := fun h2 => hk _ (fun v hv => by
        unfold hexv at hv; rw [if_neg hd, if_neg h1, if_neg h2] at hv; cases hv) (fun _ => rfl)
      rw [iLt_d, iLt_d, e65, e70]
      by_cases g1 : (c : Int) < 65
      · rw [decide_eq_true g1]
        exact none_ (by omega)
      rw [decide_eq_false g1]
      simp only [Bool.not_false, bI_tt]
      by_cases g2 : (70 : Int) < c
      · rw [decide_eq_true g2]
        exact none_ (by omega)
      rw [decide_eq_false g2]
      simp only [Bool.not_false, bI_tt]
      unfold f38_q3
      rw [isub, e65]
      refine wrapK_i (z' := ((c - 65 : Nat) : Int)) (by rw [wrap1]; omega) ?_
      refine w0 (by omega) (by omega) ?_
      rw [iadd, e10]
      refine w0 (by omega) (by omega) ?_
      refine hk _ (fun v hv => ?_) (fun hn => ?_)
      · unfold hexv at hv; rw [if_neg hd, if_neg h1, if_pos (by omega)] at hv; cases hv; omega
      · unfold hexv at hn; rw [if_neg hd, if_neg h1, if_pos (by omega)] at hn; cases hn
    rw [iLt_d, iLt_d, e97, e102]
    by_cases g1 : (c : Int) < 97
    · rw [decide_eq_true g1]
      exact big (by omega)
    rw [decide_eq_false g1]
    simp only [Bool.not_false, bI_tt]
    by_cases g2 : (102 : Int) < c
    · rw [decide_eq_true g2]
      exact big (by omega)
    rw [decide_eq_false g2]
    simp only [Bool.not_false, bI_tt]
    unfold f38_q1
    rw [isub, e97]
    refine wrapK_i (z' := ((c - 97 : Nat) : Int)) (by rw [wrap1]; omega) ?_
    refine w0 (by omega) (by omega) ?_
    rw [iadd, e10]
    refine w0 (by omega) (by omega) ?_
    refine hk _ (fun v hv => ?_) (fun hn => ?_)
    · unfold hexv at hv; rw [if_neg hd, if_pos (by omega)] at hv; cases hv; omega
    · unfold hexv at hn; rw [if_neg hd, if_pos (by omega)] at hn; cases hn
/-- whole: digits' number. -/
theorem f27_i (h8 : B8 s) (hs : s.length ≤ 16384) (h1 : ∀ v, numT s = some v → K (.ret (.tup [.int 0 (v : Int), .bool true])) H) (h2 : numT s = none → K (.ret (.tup [.int 0 0, .bool false])) H) : f27 (strA s) H K := by
  have r27 : f27_rr = f26 := rfl
  have key : ∀ (q i a : Nat), i ≤ s.length → s.length - i < q → (∀ x ∈ s.take i, DP x) → valD 0 s = valD a (s.drop i) → a ≤ 9223372036854775809 → f27_l2 f27_rr K q (strA s) (a : Int) (i : Int) H := by
    intro q
    induction q with
    | zero => intro i a _ h _ _ _; omega
    | succ q ih =>
      intro i a hi hq hd hv ha
      show f27_q2 f27_rr K (f27_q3 f27_rr K (f27_l2 f27_rr K q)) (f27_q1 f27_rr K) (strA s) (a : Int) (i : Int) H
      unfold f27_q2
      rw [r27]
      simp only [sLen_A, cI_z, iLt_d]
      refine bI_dec (fun g => ?_) (fun g => ?_)
      · have hil : i < s.length := by omega
        obtain ⟨c, hc⟩ : ∃ c, s[i]? = some c := ⟨_, List.getElem?_eq_getElem hil⟩
        have hc8 := h8 c (List.mem_of_getElem? hc)
        have hdr : s.drop i = c :: s.drop (i + 1) := by
          rw [List.drop_eq_getElem_cons hil]
          rw [(List.getElem?_eq_some_iff.1 hc).2]
        rw [hdr] at hv
        refine sIdx_A h8 hc ?_
        simp only [cI_z]
        refine f26_i fun b hb => ?_
        simp only [cR_ret, onB_b]
        cases b with
        | false =>
          simp only [Bool.not_false, bI_tt]
          refine h2 ?_
          unfold numT
          rw [if_neg]
          rintro ⟨g1, _⟩
          have := hb.2 (g1 c (List.mem_of_getElem? hc))
          cases this
        | true =>
          have hdc := hb.1 rfl
          have hdc' := hdc
          unfold DP at hdc'
          simp only [Bool.not_true, bI_ff]
          have eb : Int.ofNat 922337203685477580 = 922337203685477580 := rfl
          have e10 : Int.ofNat 10 = 10 := rfl
          have e48 : Int.ofNat 48 = 48 := rfl
          rw [eb, e10, e48]
          refine bI_dec (fun g1 => h2 ?_) (fun g1 => ?_)
          · unfold numT
            rw [if_neg]
            rintro ⟨_, g2⟩
            have h3 : valD a (c :: s.drop (i + 1)) = valD (a * 10 + (c - 48)) (s.drop (i + 1)) := rfl
            have h4 := valD_le (s.drop (i + 1)) (a * 10 + (c - 48))
            omega
          · rw [imul]
            refine w3 ?_
            refine sIdx_A h8 hc ?_
            simp only [cI_z, isub, iadd]
            refine wrapK_i (z' := ((c - 48 : Nat) : Int)) (by rw [wrap1]; omega) ?_
            refine wrapK_i (z' := ((c - 48 : Nat) : Int)) (by rw [wrap3]; omega) ?_
            refine wrapK_i (z' := ((a * 10 + (c - 48) : Nat) : Int)) (by rw [wrap3]; omega) ?_
            unfold f27_q3
            simp only [iadd, io1]
            refine w0 (by omega) (by omega) ?_
            refine ih (i + 1) (a * 10 + (c - 48)) (by omega) (by omega) (fun x hx => ?_) hv (by omega)
            rw [List.take_add_one, hc] at hx
            simp only [List.mem_append, Option.toList] at hx
            rcases hx with hx | hx
            · exact hd x hx
            · have : x = c := by simpa using hx
              rw [this]; exact hdc
      · have hall : ∀ x ∈ s, DP x := fun x hx => hd x (by rw [List.take_of_length_le (by omega)]; exact hx)
        rw [List.drop_of_length_le (by omega)] at hv
        have hv' : valD 0 s = a := hv
        unfold f27_q1
        have em : Int.ofNat 9223372036854775807 = 9223372036854775807 := rfl
        rw [iLt_d, em]
        refine bI_dec (fun g1 => h2 ?_) (fun g1 => ?_)
        · unfold numT
          rw [if_neg]
          rintro ⟨_, g2⟩
          omega
        · refine w0 (by omega) (by omega) ?_
          refine h1 a ?_
          unfold numT
          rw [if_pos ⟨hall, by omega⟩, hv']
  show f27_q0 f27_rr K (f27_l2 f27_rr K G.NL) (strA s) H
  unfold f27_q0
  exact key G.NL 0 0 (Nat.zero_le _) (by have : G.NL = 1000000 := rfl; omega) (fun x hx => by simp at hx) rfl (by omega)
end
end Go.Proofs.YthmjeojcciefcaaDoor

namespace Go.X
variable {H : AH} {S : LS}
theorem push_s2 {bytes sz n : Nat} {v : AV} {l l' : List AV} {k : AV → AH → Prop} (hM : Mem H S) (hs : FrS S sz v n l) (hsz : 0 < sz) (hl' : l'.length = sz) (hl : (n + 1) * bytes ≤ 1099511627776) (h1 : ∀ a ∈ l', a.one = true)
    (hK : ∀ H' S' v', Mem H' S' → AppE S v (n + 1) sz (l ++ l') S' v' → k v' H') : pNewS (newK H) 1 sz l' fun x H' => bT (Nat.beq H'.n (Nat.succ H.n)) (pApp sz bytes v x H' k) := by
  refine pNewS_i hM (by omega) h1 fun H1 m1 => bT_i (nbeq (by rw [m1.n, hM.n]; rfl)) ?_
  have hs1 : FrS (S.push (.cells l' 0)) sz v n l := hs.keep hM fun b _ hb => LS.push_ob_lt _ _ hb
  have hlt1 : ∀ b, bkOf v b → b < S.n := fun b hb => hs.lt hM hb
  refine cellsOf_i (ex := true) (cap := 1) (o := 0) (n := 1) (l := l') (m := 0) (b := S.n) (k := fun l => appL sz bytes 1 _ l H1 k) m1 (LS.push_ob_self _ _) (by omega) ?_
  rw [List.drop_zero, List.take_of_length_le (by omega)]
  refine appL_s m1 hs1 hsz (by omega) (by omega) hl h1 fun H' S' v' h' he => ?_
  obtain ⟨e1, e2, e3, e4⟩ := he
  have e1' : S.n + 1 ≤ S'.n := e1
  refine hK H' S' v' h' ⟨by omega, fun b hb hne => ?_, e3, fun b hb => ?_⟩
  · rw [e2 b (by show b < S.n + 1; omega) hne, LS.push_ob_lt _ _ hb]
  · rcases e4 b hb with g | g
    · exact .inl g
    · have g' : S.n + 1 ≤ b := g
      exact .inr (by omega)
theorem Byt.push2 {S0 : LS} {v : AV} {acc : List Nat} (h : Byt S0 S v acc) (hM : Mem H S) {c : Nat} (hc : c < 256) (hl : acc.length ≤ 1000000) {k : AV → AH → Prop} (hK : ∀ H' S' v', Mem H' S' → Byt S0 S' v' (acc ++ [c]) → k v' H') :
    pNewS (newK H) 1 1 [.int 1 (c : Int)] fun x H' => bT (Nat.beq H'.n (Nat.succ H.n)) (pApp 1 1 v x H' k) := by
  refine push_s2 hM h.fr (by omega) rfl (by omega) (fun a ha => by simp at ha; subst ha; rfl) fun H' S' v' h' he => hK H' S' v' h' ?_
  obtain ⟨e1, e2⟩ := he.ext h.x h.own
  refine ⟨e1, ?_, e2, h.b8.app (B8.cons hc B8.nil)⟩
  rw [bcs_app, List.length_append]
  exact he.2.2.1
end Go.X
namespace Go.Proofs.YthmjeojcciefcaaDoor
open Go Go.X Go.Proofs.YthmjeojcciefcaaDoor.G
set_option maxRecDepth 100000
set_option maxHeartbeats 1600000
set_option linter.unusedVariables false
set_option linter.unusedSimpArgs false
variable {H : AH} {S : LS} {K : KF}
section
variable {s : List Nat} {p : Nat}
theorem ones_A : (AV.str 17 20123422373665890509693217210346309823787) = strA ones := by rfl
theorem f29_i (h8 : B8 s) (hs : s.length ≤ 16384) (hM : Mem H S) {c : Nat} {l : List Nat} (hd : s.drop p = c :: l) (hK : ∀ H' S', Mem H' S' → Ext S S' → K (.ret (.int 0 ((sgnL (c :: l) : Nat) : Int))) H') : f29 (strA s) (p : Int) H K := by
  have r29 : f29_rr = f32 := rfl
  obtain ⟨g1, g2, g3⟩ := suf hd
  have o8 : B8 ones := b8_lit (by decide)
  have loop : ∀ {H : AH} {S1 : LS}, Mem H S1 → Ext S S1 → (∀ m ∈ twos, (c :: l).take 2 ≠ m) → ∀ (q i : Nat), i ≤ 17 → 17 - i < q → (∀ j, j < i → ones[j]? ≠ some c) → f29_l2 f29_rr K q (strA s) (p : Int) (strA ones) (i : Int) H := by
    intro H S1 hM hx hno q
    induction q with
    | zero => intro i _ h _; omega
    | succ q ih =>
      intro i hi hq hn
      show f29_q2 f29_rr K (f29_l2 f29_rr K q) (f29_q1 f29_rr K) (strA s) (p : Int) (strA ones) (i : Int) H
      unfold f29_q2
      simp only [sLen_A, cI_z, iLt_d]
      have hk := hK H S1 hM hx
      rw [sgn_one hno] at hk
      refine bI_dec (fun g => ?_) (fun g => ?_)
      · have hil : i < ones.length := by omega
        obtain ⟨d, hdd⟩ : ∃ d, ones[i]? = some d := ⟨_, List.getElem?_eq_getElem hil⟩
        refine sIdx_A o8 hdd ?_
        simp only [cI_z]
        refine sIdx_A h8 g1 ?_
        simp only [cI_z, iEq_d]
        refine bI_dec (fun g4 => ?_) (fun g4 => ?_)
        · have e : d = c := by omega
          subst e
          rw [if_pos (List.mem_of_getElem? hdd)] at hk
          exact hk
        · simp only [iadd, io1]
          refine w0 (by omega) (by omega) ?_
          refine ih (i + 1) (by have : ones.length = 17 := rfl; omega) (by have : ones.length = 17 := rfl; omega) fun j hj hjc => ?_
          by_cases e : j = i
          · subst e
            rw [hdd] at hjc
            cases hjc
            exact g4 rfl
          · exact hn j (by omega) hjc
      · have hnm : c ∉ ones := fun hm => by
          obtain ⟨j, hj, e⟩ := List.mem_iff_getElem.1 hm
          exact hn j (by omega) (by rw [List.getElem?_eq_getElem hj, e])
        unfold f29_q1
        rw [if_neg hnm] at hk
        exact hk
  show f29_q0 f29_rr K (f29_l2 f29_rr K G.NL) (strA s) (p : Int) H
  unfold f29_q0
  have e2 : Int.ofNat 2 = 2 := rfl
  rw [r29, ones_A]
  simp only [iadd, io1, e2]
  refine w0 (by omega) (by omega) ?_
  simp only [sLen_A, cI_z, iLt_d]
  have hsl : (c :: l).length = s.length - p := by rw [← hd]; simp
  refine bI_dec (fun g => ?_) (fun g => ?_)
  · rw [twos_cells]
    refine pNewS_i hM rfl (fun a ha => ?_) fun H1 m1 => ?_
    · obtain ⟨x, _, rfl⟩ := List.mem_map.1 ha
      rfl
    · refine w0 (by omega) (by omega) ?_
      refine sub_A (i := p) (j := p + 2) h8 (by omega) (by omega) ?_
      rw [hd, Nat.add_sub_cancel_left]
      have h8t : B8 ((c :: l).take 2) := by rw [← hd]; exact (h8.drop p).take 2
      have tw8 : ∀ m ∈ twos, B8 m := fun m hm => b8_lit ((by decide : ∀ m ∈ twos, (m.all fun c => Nat.blt c 256) = true) m hm)
      have x1 : Ext S (S.push (.cells (twos.map strA) 0)) := Ext.push _ _
      have hw : hasW (twos.map strA) (strA ((c :: l).take 2)) = decide ((c :: l).take 2 ∈ twos) := any_words (fun m hm => eqN_A h8t hm) twos tw8
      refine f32_i (l := twos.map strA) (v := .slice S.n 0 6 6 1 true) m1 (Q := fun _ => True) (.inr ⟨S.n, 0, 6, true, twos.map strA, 0, rfl, Nat.le_refl _, trivial, LS.push_ob_self _ _, by decide, rfl⟩) (by decide) (fun a ha => by obtain ⟨x, _, rfl⟩ := List.mem_map.1 ha; exact ⟨_, _, rfl⟩) ?_
      have hw' : hasW (twos.map strA) (.str ((c :: l).take 2).length (num ((c :: l).take 2))) = decide ((c :: l).take 2 ∈ twos) := hw
      rw [hw', cR_ret, onB_b]
      refine bI_dec (fun g4 => ?_) (fun g4 => ?_)
      · have hk := hK H1 _ m1 x1
        rw [sgn_two rfl g4] at hk
        exact hk
      · exact loop m1 x1 (fun m hm e => g4 (by rw [e]; exact hm)) G.NL 0 (by omega) (by have : G.NL = 1000000 := rfl; omega) fun j hj => by omega
  · have hl1 : l = [] := by
      cases l with
      | nil => rfl
      | cons d r => simp at hsl; omega
    exact loop hM (Ext.refl S) (fun m hm e => by
      have := twos_len m hm
      rw [← e, hl1] at this
      simp at this) G.NL 0 (by omega) (by have : G.NL = 1000000 := rfl; omega) fun j hj => by omega
def bad3 (K : KF) (H : AH) : Prop := K (.ret (.tup [.str 0 0, .int 0 0, .bool false])) H
/-- One byte of a quoted text. -/
theorem f28_round {S0 : LS} {m i q : Nat} {v : AV} {acc : List Nat} (h8 : B8 s) (hi : i ≤ s.length) (hs : s.length ≤ 16384) (hM : Mem H S) (hB : Byt S0 S v acc) (hal : acc.length ≤ i) (hm10 : m ≠ 10) (hm92 : m ≠ 92)
    (hbad : s.drop i = [] ∨ ((s.drop i).head? = some 10 ∧ 10 ≠ m) ∨ (∃ l', s.drop i = 92 :: l' ∧ 92 ≠ m ∧ esc l' = none) → bad3 K H)
    (hgood : (s.drop i).head? = some m → K (.ret (.tup [strA acc, .int 0 ((i + 1 : Nat) : Int), .bool (decide (acc.length ≤ 4096))])) H)
    (hone : ∀ c, (s.drop i).head? = some c → c ≠ m → c ≠ 10 → c ≠ 92 → ∀ H' S' v', Mem H' S' → Byt S0 S' v' (acc ++ [c]) → f28_l2 f28_rr K q (strA s) (m : Int) v' ((i + 1 : Nat) : Int) H')
    (hesc : ∀ l' x k, s.drop i = 92 :: l' → 92 ≠ m → esc l' = some (x, k) → ∀ H' S' v', Mem H' S' → Byt S0 S' v' (acc ++ [x]) → f28_l2 f28_rr K q (strA s) (m : Int) v' ((i + k + 1 : Nat) : Int) H') :
    f28_l2 f28_rr K (q + 1) (strA s) (m : Int) v (i : Int) H := by
  have r28 : f28_rr = f38 := rfl
  show f28_q2 f28_rr K (f28_q3 f28_rr K (f28_l2 f28_rr K q)) (f28_q1 f28_rr K) (f28_p4 f28_rr K (f28_l2 f28_rr K q)) (strA s) (m : Int) v (i : Int) H
  unfold f28_q2
  try simp only [sLen_A, cI_z, iLt_d]
  have hnext : ∀ (n : Nat) (v' : AV) (H' : AH), (n : Int) ≤ 2000000 → f28_l2 f28_rr K q (strA s) (m : Int) v' ((n + 1 : Nat) : Int) H' → f28_q3 f28_rr K (f28_l2 f28_rr K q) (strA s) (m : Int) v' (n : Int) H' := fun n v' H' hn h => by
    unfold f28_q3
    simp only [iadd, io1]
    exact w0 (by omega) (by omega) h
  refine bI_dec (fun g => ?_) (fun g => hbad (.inl ?_))
  · have hil : i < s.length := by omega
    obtain ⟨c, hc⟩ : ∃ c, s[i]? = some c := ⟨_, List.getElem?_eq_getElem hil⟩
    have hd : s.drop i = c :: s.drop (i + 1) := by
      rw [List.drop_eq_getElem_cons hil]
      rw [(List.getElem?_eq_some_iff.1 hc).2]
    have hhd : (s.drop i).head? = some c := by rw [hd]; rfl
    refine sIdx_A h8 hc ?_
    have e10 : Int.ofNat 10 = 10 := rfl
    have e92 : Int.ofNat 92 = 92 := rfl
    have e110 : Int.ofNat 110 = 110 := rfl
    have e116 : Int.ofNat 116 = 116 := rfl
    have e34 : Int.ofNat 34 = 34 := rfl
    have e39 : Int.ofNat 39 = 39 := rfl
    have e120 : Int.ofNat 120 = 120 := rfl
    have e0 : Int.ofNat 0 = 0 := rfl
    have e2 : Int.ofNat 2 = 2 := rfl
    have e4096 : Int.ofNat 4096 = 4096 := rfl
    simp only [cI_z, iEq_d]
    rw [e10, e92]
    refine bI_dec (fun g3 => hbad (.inr (.inl ?_))) (fun g3 => ?_)
    · have ec : c = 10 := by omega
      subst ec
      exact ⟨hhd, fun e => hm10 e.symm⟩
    refine bI_dec (fun g2 => ?_) (fun g2 => ?_)
    · have ecm : c = m := by omega
      refine pTextOf_v hM hB.fr.frv hB.b8 ?_
      simp only [iadd, io1]
      refine w0 (by omega) (by omega) ?_
      refine hB.fr.len ?_
      simp only [cI_z, iLt_d]
      have := hgood (by rw [hhd, ecm])
      have e : (!decide (Int.ofNat 4096 < (acc.length : Int))) = decide (acc.length ≤ 4096) := by
        rw [Bool.eq_iff_iff, e4096]
        simp
        omega
      rw [e]
      exact this
    · have hcm : c ≠ m := by omega
      by_cases g4 : (c : Int) = 92
      · rw [decide_eq_true g4]
        have ec : c = 92 := by omega
        subst ec
        simp only [Bool.not_true, bI_ff, iadd, io1]
        refine w0 (by omega) (by omega) ?_
        try simp only [sLen_A, cI_z, iLt_d]
        by_cases g5 : ((i : Int) + 1) < s.length
        · rw [decide_eq_true g5]
          simp only [Bool.not_true, bI_ff]
          have hil2 : i + 1 < s.length := by omega
          obtain ⟨d, hdd⟩ : ∃ d, s[i + 1]? = some d := ⟨_, List.getElem?_eq_getElem hil2⟩
          have hd8 := h8 d (List.mem_of_getElem? hdd)
          have hd2 : s.drop (i + 1) = d :: s.drop (i + 2) := by
            rw [List.drop_eq_getElem_cons hil2]
            rw [(List.getElem?_eq_some_iff.1 hdd).2]
          have sx : ∀ {k : AV → Prop}, k (.int 1 (d : Int)) → sIdx (strA s) (.int 0 ((i : Int) + 1)) k := fun hk => sIdx_A (i := i + 1) h8 hdd hk
          refine sx ?_
          simp only [cI_z]
          have hbadE : esc (d :: s.drop (i + 2)) = none → bad3 K H := fun he => hbad (.inr (.inr ⟨_, hd, hcm, by rw [hd2]; exact he⟩))
          have hescE : ∀ x, esc (d :: s.drop (i + 2)) = some (x, 1) → x < 256 → pNewS (newK H) 1 1 [.int 1 (x : Int)] fun w H' => pApp 1 1 v w H' fun v' H'' => f28_q3 f28_rr K (f28_l2 f28_rr K q) (strA s) (m : Int) v' ((i : Int) + 1) H'' := fun x he hx => by
            refine hB.push hM hx (by omega) fun H' S' v' h' hB' => ?_
            refine hnext (i + 1) v' H' (by omega) ?_
            exact hesc _ x 1 hd hcm (by rw [hd2]; exact he) H' S' v' h' hB'
          show f28_q4 f28_rr K (f28_q3 f28_rr K (f28_l2 f28_rr K q)) (f28_p5 f28_rr K (f28_l2 f28_rr K q)) (strA s) (m : Int) v ((i : Int) + 1) (d : Int) H
          unfold f28_q4
          simp only [iEq_d]
          rw [e110, e116, e92, e34, e39]
          refine bI_dec (fun g6 => hescE 10 (by simp only [esc]; rw [if_pos (by omega)]) (by omega)) (fun g6 => ?_)
          refine bI_dec (fun g7 => hescE 9 (by simp only [esc]; rw [if_neg (by omega), if_pos (by omega)]) (by omega)) (fun g7 => ?_)
          have mark : d = 92 ∨ d = 34 ∨ d = 39 → f28_p5 f28_rr K (f28_l2 f28_rr K q) (strA s) (m : Int) v ((i : Int) + 1) (d : Int) true H := fun hdm => by
            show f28_q5 f28_rr K (f28_p6 f28_rr K (f28_l2 f28_rr K q)) (f28_q3 f28_rr K (f28_l2 f28_rr K q)) (strA s) (m : Int) v ((i : Int) + 1) (d : Int) true H
            unfold f28_q5
            rw [bI_tt]
            refine sx ?_
            simp only [cI_z]
            exact hescE d (by simp only [esc]; rw [if_neg (by omega), if_neg (by omega), if_pos hdm]) hd8
          refine bI_dec (fun g8 => ?_) fun g8 => bI_dec (fun g9 => ?_) fun g9 => ?_
          · rw [decide_eq_true g8]; exact mark (by omega)
          · rw [decide_eq_true g9]; exact mark (by omega)
          by_cases g10 : (d : Int) = 39
          · rw [decide_eq_true g10]; exact mark (by omega)
          rw [decide_eq_false g10]
          show f28_q5 f28_rr K (f28_p6 f28_rr K (f28_l2 f28_rr K q)) (f28_q3 f28_rr K (f28_l2 f28_rr K q)) (strA s) (m : Int) v ((i : Int) + 1) (d : Int) false H
          unfold f28_q5
          rw [bI_ff, iEq_d, e120]
          refine bI_dec (fun g11 => ?_) (fun g11 => hbadE ?_)
          · have ed : d = 120 := by omega
            subst ed
            simp only [iadd, e2, io1]
            refine w0 (by omega) (by omega) ?_
            try simp only [sLen_A, cI_z, iLt_d]
            by_cases g12 : ((i : Int) + 1 + 2) < s.length
            · rw [decide_eq_true g12]
              simp only [Bool.not_true, bI_ff]
              have hil3 : i + 2 < s.length := by omega
              have hil4 : i + 3 < s.length := by omega
              obtain ⟨a, haa⟩ : ∃ a, s[i + 2]? = some a := ⟨_, List.getElem?_eq_getElem hil3⟩
              obtain ⟨b, hbb⟩ : ∃ b, s[i + 3]? = some b := ⟨_, List.getElem?_eq_getElem hil4⟩
              have hd3 : s.drop (i + 2) = a :: b :: s.drop (i + 4) := by
                rw [List.drop_eq_getElem_cons hil3, List.drop_eq_getElem_cons hil4]
                rw [(List.getElem?_eq_some_iff.1 haa).2, (List.getElem?_eq_some_iff.1 hbb).2]
              have ha8 := h8 a (List.mem_of_getElem? haa)
              have hb8 := h8 b (List.mem_of_getElem? hbb)
              have sa : ∀ {k : AV → Prop}, k (.int 1 (a : Int)) → sIdx (strA s) (.int 0 ((i : Int) + 1 + 1)) k := fun hk => by
                have := sIdx_A (q := 0) (i := i + 2) h8 haa hk
                rw [show ((i + 2 : Nat) : Int) = (i : Int) + 1 + 1 by omega] at this
                exact this
              have sb : ∀ {k : AV → Prop}, k (.int 1 (b : Int)) → sIdx (strA s) (.int 0 ((i : Int) + 1 + 2)) k := fun hk => by
                have := sIdx_A (q := 0) (i := i + 3) h8 hbb hk
                rw [show ((i + 3 : Nat) : Int) = (i : Int) + 1 + 2 by omega] at this
                exact this
              refine w0 (by omega) (by omega) ?_
              refine sa ?_
              simp only [cI_z]
              rw [r28]
              refine f38_i ha8 fun z hz1 hz2 => ?_
              simp only [cR_ret, cI_z, iLt_d]
              rw [e0]
              cases ea : hexv a with
              | none =>
                have := hz2 ea
                rw [decide_eq_true (by omega), bI_tt]
                exact hbadE (by rw [hd3]; exact hex_no (.inl (by rw [ea]; rintro ⟨x, hx⟩; cases hx)))
              | some x =>
                have hzx := hz1 x ea
                have hx16 := hexv_lt ea
                rw [decide_eq_false (by omega), bI_ff]
                refine w0 (by omega) (by omega) ?_
                refine sb ?_
                simp only [cI_z]
                refine f38_i hb8 fun z' hz1' hz2' => ?_
                simp only [cR_ret, cI_z, iLt_d]
                cases eb : hexv b with
                | none =>
                  have := hz2' eb
                  rw [decide_eq_true (by omega), bI_tt]
                  exact hbadE (by rw [hd3]; exact hex_no (.inr (by rw [eb]; rintro ⟨x, hx⟩; cases hx)))
                | some y =>
                  have hzy := hz1' y eb
                  have hy16 := hexv_lt eb
                  rw [decide_eq_false (by omega), bI_ff]
                  show f28_q6 f28_rr K (f28_p7 f28_rr K (f28_l2 f28_rr K q)) (strA s) (m : Int) v ((i : Int) + 1) H
                  unfold f28_q6
                  rw [r28]
                  simp only [iadd, e2, io1]
                  refine w0 (by omega) (by omega) ?_
                  refine sa ?_
                  simp only [cI_z]
                  refine w0 (by omega) (by omega) ?_
                  refine sb ?_
                  simp only [cI_z]
                  refine f38_i ha8 fun w hw1 _ => ?_
                  have hwx := hw1 x ea
                  simp only [cR_ret, cI_z]
                  have shl : ∀ {k : AV → Prop}, k (.int 0 ((16 * x : Nat) : Int)) → pShl 0 (.int 0 w) (.int 3 (.ofNat 4)) k := fun {k} hk => by
                    rw [hwx]
                    show bT (Nat.beq 0 0) (wrapK 0 (Int.mul (x : Int) (.ofNat (Nat.pow 2 (Nat.min 4 64)))) fun z => k (.int 0 z))
                    refine bT_i rfl ?_
                    have e : (Nat.pow 2 (Nat.min 4 64)) = 16 := rfl
                    rw [e, imul]
                    refine wrapK_i (z := (x : Int) * Int.ofNat 16) (z' := ((16 * x : Nat) : Int)) ?_ hk
                    have e16 : Int.ofNat 16 = 16 := rfl
                    rw [e16, wrap0 (by omega) (by omega)]
                    omega
                  refine shl ?_
                  simp only [cI_z]
                  refine f38_i hb8 fun w' hw1' _ => ?_
                  have hwy := hw1' y eb
                  simp only [cR_ret, cI_z]
                  rw [forceN_eq, forceN_eq, hwy]
                  have elor : Nat.lor (toU 0 ((16 * x : Nat) : Int)) (toU 0 (y : Int)) = 16 * x + y := by
                    show (16 * x) ||| y = _
                    exact (by decide +kernel : ∀ x, x < 16 → ∀ y, y < 16 → ((16 * x) ||| y) = 16 * x + y) x hx16 y hy16
                  rw [elor]
                  refine wrapK_i (z := Int.ofNat (16 * x + y)) (z' := ((16 * x + y : Nat) : Int)) (by rw [wrap0 (by show (_ : Int) ≤ ((16 * x + y : Nat) : Int); omega) (by show ((16 * x + y : Nat) : Int) < _; omega)]; rfl) ?_
                  refine wrapK_i (z := ((16 * x + y : Nat) : Int)) (z' := ((16 * x + y : Nat) : Int)) (by rw [wrap1]; omega) ?_
                  refine hM.atDead (hB.push2 hM (by omega) (by omega) fun H' S' v' h' hB' => ?_)
                  show f28_q7 f28_rr K (f28_q3 f28_rr K (f28_l2 f28_rr K q)) (strA s) (m : Int) v' ((i : Int) + 1) H'
                  unfold f28_q7
                  simp only [iadd, e2]
                  refine w0 (by omega) (by omega) ?_
                  have := hnext (i + 3) v' H' (by omega) (hesc _ (16 * x + y) 3 hd hcm (by
                    rw [hd2, hd3]
                    simp only [esc]
                    rw [if_neg (by omega), if_neg (by omega), if_neg (by omega), if_pos trivial, ea, eb]) H' S' v' h' hB')
                  rw [show ((i + 3 : Nat) : Int) = (i : Int) + 1 + 2 by omega] at this
                  exact this
            · rw [decide_eq_false g12]
              simp only [Bool.not_false, bI_tt]
              refine hbadE ?_
              simp only [esc]
              rw [if_neg (by omega), if_neg (by omega), if_neg (by omega), if_pos trivial]
              have hlen : (s.drop (i + 2)).length ≤ 1 := by simp; omega
              match hx : s.drop (i + 2), hlen with
              | [], _ => rfl
              | [a], _ => rfl
              | a :: b :: r, h => simp at h
          · simp only [esc]
            rw [if_neg (by omega), if_neg (by omega), if_neg (by omega), if_neg (by omega)]
        · rw [decide_eq_false g5]
          simp only [Bool.not_false, bI_tt]
          refine hbad (.inr (.inr ⟨_, hd, hcm, ?_⟩))
          rw [List.drop_of_length_le (by omega)]
          rfl
      · rw [decide_eq_false g4]
        simp only [Bool.not_false, bI_tt]
        refine hB.push hM (h8 c (List.mem_of_getElem? hc)) (by omega) fun H' S' v' h' hB' => ?_
        refine hnext i v' H' (by omega) ?_
        exact hone c hhd hcm (by omega) (by omega) H' S' v' h' hB'
  · exact List.drop_of_length_le (by omega)
end
end Go.Proofs.YthmjeojcciefcaaDoor

namespace Go.Proofs.YthmjeojcciefcaaDoor
open Go Go.X Go.Proofs.YthmjeojcciefcaaDoor.G
set_option maxRecDepth 100000
set_option maxHeartbeats 1600000
set_option linter.unusedVariables false
set_option linter.unusedSimpArgs false
variable {H : AH} {S : LS} {K : KF}
section
variable {s : List Nat} {p : Nat}
theorem f28_quo {S0 : LS} {m : Nat} (h8 : B8 s) (hlen : s.length ≤ 16384) (hm10 : m ≠ 10) (hm92 : m ≠ 92) {l t : List Nat} {j : Nat} (hq : Quo m l t j) :
    ∀ (q i : Nat) (acc : List Nat) (v : AV) (H : AH) (S : LS), l = s.drop i → i ≤ s.length → s.length - i < q → Mem H S → Byt S0 S v acc → acc.length ≤ i →
      (∀ H' S', Mem H' S' → Ext S0 S' → K (.ret (.tup [strA (acc ++ t), .int 0 ((i + j : Nat) : Int), .bool (decide ((acc ++ t).length ≤ 4096))])) H') → f28_l2 f28_rr K q (strA s) (m : Int) v i H := by
  induction hq with
  | stop l =>
    intro q i acc v H S hl hi hq hM hB ha hg
    obtain ⟨q, rfl⟩ : ∃ p, q = p + 1 := ⟨q - 1, by omega⟩
    rw [List.append_nil] at hg
    refine f28_round h8 hi hlen hM hB ha hm10 hm92 (fun h => ?_) (fun _ => hg H S hM hB.x) (fun c h hc => ?_) (fun l' x k h hm => ?_)
    · rw [← hl] at h
      rcases h with h | ⟨h, h'⟩ | ⟨l', h, h', _⟩
      · cases h
      · simp at h; exact absurd h.symm h'
      · injection h with h1; exact absurd h1.symm h'
    · rw [← hl] at h
      simp at h
      exact absurd h.symm hc
    · rw [← hl] at h
      injection h with h1
      exact absurd h1.symm hm
  | one c l t j hm h10 h92 hq' ih =>
    intro q i acc v H S hl hi hq hM hB ha hg
    obtain ⟨q, rfl⟩ : ∃ p, q = p + 1 := ⟨q - 1, by omega⟩
    have hil : i < s.length := by
      rcases Nat.lt_or_ge i s.length with g | g
      · exact g
      · rw [List.drop_of_length_le g] at hl; cases hl
    have hl' : l = s.drop (i + 1) := by
      rw [← List.drop_drop, ← hl]; rfl
    have e : ∀ x : List Nat, (acc ++ [c]) ++ x = acc ++ c :: x := fun x => by simp
    refine f28_round h8 hi hlen hM hB ha hm10 hm92 (fun h => ?_) (fun h => ?_) (fun d h _ _ _ H' S' v' h' hB' => ?_) (fun l' x k h hm => ?_)
    · rw [← hl] at h
      rcases h with h | ⟨h, h'⟩ | ⟨l', h, h', _⟩
      · cases h
      · simp at h; exact absurd h h10
      · injection h with h1; exact absurd h1 h92
    · rw [← hl] at h
      simp at h
      exact absurd h hm
    · rw [← hl] at h
      have hdc : c = d := by simpa using h
      subst hdc
      refine ih q (i + 1) (acc ++ [c]) v' H' S' hl' (by omega) (by omega) h' hB' (by simp; omega) ?_
      rw [e, show i + 1 + j = i + (j + 1) by omega]
      exact hg
    · rw [← hl] at h
      injection h with h1
      exact absurd h1 h92
  | esc l t x k j h92 he hq' ih =>
    intro q i acc v H S hl hi hq hM hB ha hg
    obtain ⟨q, rfl⟩ : ∃ p, q = p + 1 := ⟨q - 1, by omega⟩
    have hil : i < s.length := by
      rcases Nat.lt_or_ge i s.length with g | g
      · exact g
      · rw [List.drop_of_length_le g] at hl; cases hl
    have hl' : l = s.drop (i + 1) := by
      rw [← List.drop_drop, ← hl]; rfl
    have hk := esc_len he
    have hkl : i + 1 + k ≤ s.length := by
      have : l.length = s.length - (i + 1) := by rw [hl']; simp
      omega
    have e : ∀ y : List Nat, (acc ++ [x]) ++ y = acc ++ x :: y := fun y => by simp
    refine f28_round h8 hi hlen hM hB ha hm10 hm92 (fun h => ?_) (fun h => ?_) (fun d h _ _ h92' => ?_) (fun l' x' k' h _ he' H' S' v' h' hB' => ?_)
    · rw [← hl] at h
      rcases h with h | ⟨h, h'⟩ | ⟨l', h, h', hn⟩
      · cases h
      · simp at h
      · injection h with _ h1
        subst h1
        rw [he] at hn
        cases hn
    · rw [← hl] at h
      simp at h
      exact absurd h.symm h92
    · rw [← hl] at h
      have hdc : 92 = d := by simpa using h
      exact absurd hdc.symm h92'
    · rw [← hl] at h
      injection h with _ h1
      subst h1
      rw [he] at he'
      cases he'
      refine ih q (i + k + 1) (acc ++ [x]) v' H' S' (by rw [hl', List.drop_drop]; congr 1; omega) (by omega) (by omega) h' hB' (by simp; omega) ?_
      rw [e, show i + k + 1 + j = i + (k + j + 1) by omega]
      exact hg
theorem f28_non {S0 : LS} {m : Nat} (h8 : B8 s) (hlen : s.length ≤ 16384) (hm10 : m ≠ 10) (hm92 : m ≠ 92) {l : List Nat} (hq : QuoN m l) :
    ∀ (q i : Nat) (acc : List Nat) (v : AV) (H : AH) (S : LS), l = s.drop i → i ≤ s.length → s.length - i < q → Mem H S → Byt S0 S v acc → acc.length ≤ i →
      (∀ H' S', Mem H' S' → Ext S0 S' → bad3 K H') → f28_l2 f28_rr K q (strA s) (m : Int) v i H := by
  induction hq with
  | nil =>
    intro q i acc v H S hl hi hq hM hB ha hb
    obtain ⟨q, rfl⟩ : ∃ p, q = p + 1 := ⟨q - 1, by omega⟩
    refine f28_round h8 hi hlen hM hB ha hm10 hm92 (fun _ => hb H S hM hB.x) (fun h => ?_) (fun c h hc => ?_) (fun l' x k h hm => ?_) <;> (rw [← hl] at h; cases h)
  | line l hm10 =>
    intro q i acc v H S hl hi hq hM hB ha hb
    obtain ⟨q, rfl⟩ : ∃ p, q = p + 1 := ⟨q - 1, by omega⟩
    refine f28_round h8 hi hlen hM hB ha hm10 hm92 (fun _ => hb H S hM hB.x) (fun h => ?_) (fun c h _ hc => ?_) (fun l' x k h hm => ?_)
    · rw [← hl] at h; simp at h; exact absurd h.symm hm10
    · rw [← hl] at h; simp at h; exact absurd h.symm hc
    · rw [← hl] at h; injection h with h1; cases h1
  | one c l hm h10 h92 hq' ih =>
    intro q i acc v H S hl hi hq hM hB ha hb
    obtain ⟨q, rfl⟩ : ∃ p, q = p + 1 := ⟨q - 1, by omega⟩
    have hil : i < s.length := by
      rcases Nat.lt_or_ge i s.length with g | g
      · exact g
      · rw [List.drop_of_length_le g] at hl; cases hl
    have hl' : l = s.drop (i + 1) := by
      rw [← List.drop_drop, ← hl]; rfl
    refine f28_round h8 hi hlen hM hB ha hm10 hm92 (fun _ => hb H S hM hB.x) (fun h => ?_) (fun d h _ _ _ H' S' v' h' hB' => ?_) (fun l' x k h hm => ?_)
    · rw [← hl] at h
      simp at h
      exact absurd h hm
    · exact ih q (i + 1) _ v' H' S' hl' (by omega) (by omega) h' hB' (by simp; omega) hb
    · rw [← hl] at h
      injection h with h1
      exact absurd h1 h92
  | bad l hm he =>
    intro q i acc v H S hl hi hq hM hB ha hb
    obtain ⟨q, rfl⟩ : ∃ p, q = p + 1 := ⟨q - 1, by omega⟩
    refine f28_round h8 hi hlen hM hB ha hm10 hm92 (fun _ => hb H S hM hB.x) (fun h => ?_) (fun d h _ _ h92' => ?_) (fun l' x' k' h _ he' => ?_)
    · rw [← hl] at h; simp at h; exact absurd h.symm hm
    · rw [← hl] at h
      have hdc : 92 = d := by simpa using h
      exact absurd hdc.symm h92'
    · rw [← hl] at h
      injection h with _ h1
      subst h1
      rw [he] at he'
      cases he'
  | esc l x k h92 he hq' ih =>
    intro q i acc v H S hl hi hq hM hB ha hb
    obtain ⟨q, rfl⟩ : ∃ p, q = p + 1 := ⟨q - 1, by omega⟩
    have hil : i < s.length := by
      rcases Nat.lt_or_ge i s.length with g | g
      · exact g
      · rw [List.drop_of_length_le g] at hl; cases hl
    have hl' : l = s.drop (i + 1) := by
      rw [← List.drop_drop, ← hl]; rfl
    have hk := esc_len he
    have hkl : i + 1 + k ≤ s.length := by
      have : l.length = s.length - (i + 1) := by rw [hl']; simp
      omega
    refine f28_round h8 hi hlen hM hB ha hm10 hm92 (fun _ => hb H S hM hB.x) (fun h => ?_) (fun d h _ _ h92' => ?_) (fun l' x' k' h _ he' H' S' v' h' hB' => ?_)
    · rw [← hl] at h; simp at h; exact absurd h.symm h92
    · rw [← hl] at h
      have hdc : 92 = d := by simpa using h
      exact absurd hdc.symm h92'
    · rw [← hl] at h
      injection h with _ h1
      subst h1
      rw [he] at he'
      cases he'
      exact ih q (i + k + 1) _ v' H' S' (by rw [hl', List.drop_drop]; congr 1; omega) (by omega) (by omega) h' hB' (by simp; omega) hb
theorem f28_i {m : Nat} {l : List Nat} (h8 : B8 s) (hs : s.length ≤ 16384) (hd : s.drop p = m :: l) (hm : m = 34 ∨ m = 39) (hM : Mem H S)
    (hg : ∀ t j, Quo m l t j → ∀ H' S', Mem H' S' → Ext S S' → K (.ret (.tup [strA t, .int 0 ((p + 1 + j : Nat) : Int), .bool (decide (t.length ≤ 4096))])) H')
    (hb : QuoN m l → ∀ H' S', Mem H' S' → Ext S S' → bad3 K H') : f28 (strA s) (p : Int) H K := by
  obtain ⟨g1, g2, g3⟩ := suf hd
  show f28_q0 f28_rr K (f28_l2 f28_rr K G.NL) (strA s) (p : Int) H
  unfold f28_q0
  refine sIdx_A h8 g1 ?_
  simp only [cI_z, iadd, io1]
  refine w0 (by omega) (by omega) ?_
  have hB : Byt S S .nslice [] := ⟨Ext.refl S, FrS.nil S 1, fun _ h => h.elim, B8.nil⟩
  have hNL : G.NL = 1000000 := rfl
  rcases quo_ex (m := m) (by omega) (by omega) (l.length + 1) l (by omega) with ⟨t, j, hq⟩ | hq
  · exact f28_quo h8 hs (by omega) (by omega) hq G.NL (p + 1) [] .nslice H S g3.symm (by omega) (by omega) hM hB (by simp) (hg t j hq)
  · exact f28_non h8 hs (by omega) (by omega) hq G.NL (p + 1) [] .nslice H S g3.symm (by omega) (by omega) hM hB (by simp) (hb hq)
end
end Go.Proofs.YthmjeojcciefcaaDoor

namespace Go.Proofs.YthmjeojcciefcaaDoor
open Go Go.X Go.Proofs.YthmjeojcciefcaaDoor.G
set_option maxRecDepth 100000
set_option maxHeartbeats 1600000
set_option linter.unusedVariables false
set_option linter.unusedSimpArgs false
variable {H : AH} {S : LS} {K : KF}
theorem r10a : f10_rr.1 = f13 := rfl
theorem r10b : f10_rr.2.1 = f23 := rfl
theorem r10c : f10_rr.2.2.1 = f24 := rfl
theorem r10d : f10_rr.2.2.2.1 = f25 := rfl
theorem r10e : f10_rr.2.2.2.2.1 = f26 := rfl
theorem r10f : f10_rr.2.2.2.2.2.1 = f27 := rfl
theorem r10g : f10_rr.2.2.2.2.2.2.1 = f28 := rfl
theorem r10h : f10_rr.2.2.2.2.2.2.2 = f29 := rfl
structure LxJ (S0 S : LS) (v : AV) (acc : List Tok) : Prop where
  x : Ext S0 S
  fr : FrS S 4 v acc.length (tcs acc)
  own : ∀ b, bkOf v b → S0.n ≤ b
theorem LxI.j {S0 : LS} {v : AV} {acc : List Tok} {bt : Nat} {tc : List AV} (h : LxI S0 S v acc bt tc) : LxJ S0 S v acc := ⟨h.x, h.fr, h.own⟩
theorem LxJ.new {S0 : LS} {v : AV} {acc : List Tok} {c0 c1 : List AV} (hJ : LxJ S0 S v acc) (hM : Mem H S) (h4 : c1.length = 4) : LxI S0 ((S.push (.cells c0 0)).set S.n (.cells c1 0)) v acc S.n c1 := by
  have lt : ∀ b, bkOf v b → b < S.n := fun b hb => hJ.fr.lt hM hb
  exact ⟨(hJ.x.trans (Ext.push S _)).set hJ.x.n _, hJ.fr.keep hM fun b hb hlt => by
      rw [LS.set_ob_ne _ _ (by have := lt b hb; omega), LS.push_ob_lt _ _ hlt], hJ.own, LS.set_ob_self _ _ _, h4, hJ.x.n, fun g => by have := lt _ g; omega⟩
/-- What goes on behind blanks. -/
noncomputable def K23 (K : KF) (s : List Nat) (q : Nat) (v : AV) : KF := fun o H => cR K o H fun v5 => cI 0 v5 fun z => f10_l2 f10_rr K q (strA s) v z H
theorem f13_A {t : List Nat} (h : B8 t) (hM : Mem H S) (hK : ∀ H' S', Mem H' S' → Ext S S' → K (.ret (.bool (decide (t ∈ wordsB)))) H') : f13 (strA t) H K := by
  refine f13_i hM fun H' S' h' x' => ?_
  have := hasW_A h
  unfold strA at this
  rw [this]
  exact hK H' S' h' x'
section
variable {S0 : LS} {H0 : AH} {v : AV} {acc : List Tok} {bt : Nat} {tc : List AV} {s : List Nat} {p q : Nat}
theorem f10_done (hs : s.length ≤ 16384) (hM : Mem H S) {t : Tok} (hI : LxI S0 S v acc bt t.cs) (hal : acc.length ≤ 100000) {e : Nat} (hk : ∀ H' S' v', Mem H' S' → LxJ S0 S' v' (acc ++ [t]) → f23_l2 f23_rr (K23 K s q v') G.NL (strA s) (e : Int) H') :
    f10_p3 f10_rr K (f10_l2 f10_rr K q) (strA s) v (.ptr bt 0) (e : Int) H := by
  show f10_q3 f10_rr K (f10_l2 f10_rr K q) (strA s) v (.ptr bt 0) (e : Int) H
  unfold f10_q3
  rw [r10b]
  refine hI.push hM rfl hal fun H' S' v' h' i' => ?_
  show f23_q0 f23_rr (K23 K s q v') (f23_l2 f23_rr (K23 K s q v') G.NL) (strA s) (e : Int) H'
  unfold f23_q0
  exact hk H' S' v' h' i'.j
theorem f10_word (h8 : B8 s) (hs : s.length ≤ 16384) (hp : p ≤ s.length) (hM : Mem H S) {t : List Nat} (h8t : B8 t) {e : Nat} (het : e = p + t.length) (hes : e ≤ s.length) (hI : LxI S0 S v acc bt (Tok.cs ⟨2, t, 0, p⟩)) (hal : acc.length ≤ 100000)
    (h1 : t.length ≤ 32 → ∀ k, (k = 1 ∧ t ∈ wordsB ∨ k = 2 ∧ t ∉ wordsB) → ∀ H' S' v', Mem H' S' → LxJ S0 S' v' (acc ++ [⟨k, t, 0, p⟩]) → f23_l2 f23_rr (K23 K s q v') G.NL (strA s) (e : Int) H')
    (h2 : 32 < t.length → badL K S0 p) : f10_p4 f10_rr K (f10_l2 f10_rr K q) (strA s) v (p : Int) (.ptr bt 0) (e : Int) H := by
  show f10_q4 f10_rr K (f10_p5 f10_rr K (f10_l2 f10_rr K q)) (strA s) v (p : Int) (.ptr bt 0) (e : Int) H
  unfold f10_q4
  have e32 : Int.ofNat 32 = 32 := rfl
  have last : ∀ {H : AH} {S : LS} (k : Nat), Mem H S → LxI S0 S v acc bt (Tok.cs ⟨k, t, 0, p⟩) → (k = 1 ∧ t ∈ wordsB ∨ k = 2 ∧ t ∉ wordsB) → f10_p5 f10_rr K (f10_l2 f10_rr K q) (strA s) v (p : Int) (.ptr bt 0) (e : Int) H := fun {H S} k hM hI hk => by
    show f10_q5 f10_rr K (f10_p3 f10_rr K (f10_l2 f10_rr K q)) (strA s) v (p : Int) (.ptr bt 0) (e : Int) H
    unfold f10_q5
    rw [isub]
    refine w0 (by omega) (by omega) ?_
    rw [iLt_d, e32]
    refine bI_dec (fun g => h2 (by omega) H S hM hI.x) (fun g => ?_)
    exact f10_done (t := ⟨k, t, 0, p⟩) hs hM hI hal (h1 (by omega) k hk)
  refine hI.load hM rfl ?_
  rw [r10a]
  refine f13_A h8t hM fun H2 S2 m2 x2 => ?_
  simp only [cR_ret, onB_b]
  have i2 := hI.ext hM x2
  refine bI_dec (fun g => ?_) (fun g => last 2 m2 i2 (.inr ⟨rfl, g⟩))
  refine i2.store m2 (by omega) rfl fun H3 S3 m3 i3 => ?_
  exact last 1 m3 i3 (.inl ⟨rfl, g⟩)
theorem f10_num (h8 : B8 s) (hs : s.length ≤ 16384) (hM : Mem H S) {t : List Nat} {e : Nat} (hpe : p ≤ e) (hes : e ≤ s.length) (ht : (s.drop p).take (e - p) = t) (hI : LxI S0 S v acc bt (Tok.cs ⟨3, [], 0, p⟩)) (hal : acc.length ≤ 100000)
    (h1 : ∀ n, numT t = some n → ∀ H' S' v', Mem H' S' → LxJ S0 S' v' (acc ++ [⟨3, [], n, p⟩]) → f23_l2 f23_rr (K23 K s q v') G.NL (strA s) (e : Int) H')
    (h2 : numT t = none → badL K S0 p) : f10_p6 f10_rr K (f10_l2 f10_rr K q) (strA s) v (p : Int) (.ptr bt 0) (e : Int) H := by
  show f10_q6 f10_rr K (f10_p3 f10_rr K (f10_l2 f10_rr K q)) (strA s) v (p : Int) (.ptr bt 0) (e : Int) H
  unfold f10_q6
  refine sub_A (i := p) (j := e) h8 hpe hes ?_
  rw [r10f, ht]
  have h8t : B8 t := by rw [← ht]; exact (h8.drop p).take _
  have hlt : t.length ≤ 16384 := by rw [← ht]; simp; omega
  refine f27_i h8t hlt (fun n hn => ?_) (fun hn => ?_)
  · simp only [cR_ret, onTup_t, nthK_0, nthK_s, cI_z, onB_b, Bool.not_true, bI_ff]
    refine hI.store hM (by omega) rfl fun H1 S1 m1 i1 => ?_
    exact f10_done (t := ⟨3, [], n, p⟩) hs m1 i1 hal (h1 n hn)
  · simp only [cR_ret, onTup_t, nthK_0, nthK_s, cI_z, onB_b, Bool.not_false, bI_tt]
    exact h2 hn H S hM hI.x
theorem f10_quoted (h8 : B8 s) (hs : s.length ≤ 16384) (hM : Mem H S) {c : Nat} {l : List Nat} (hd : s.drop p = c :: l) (hc : c = 34 ∨ c = 39) (hI : LxI S0 S v acc bt (Tok.cs ⟨0, [], 0, p⟩)) (hal : acc.length ≤ 100000)
    (h1 : ∀ t j, Quo c l t j → t.length ≤ 4096 → ∀ H' S' v', Mem H' S' → LxJ S0 S' v' (acc ++ [⟨4, t, 0, p⟩]) → f23_l2 f23_rr (K23 K s q v') G.NL (strA s) ((p + (j + 1) : Nat) : Int) H')
    (h2 : (QuoN c l ∨ ∃ t j, Quo c l t j ∧ 4096 < t.length) → badL K S0 p) : f10_p7 f10_rr K (f10_l2 f10_rr K q) (strA s) v (p : Int) (.ptr bt 0) H := by
  show f10_q7 f10_rr K (f10_p9 f10_rr K (f10_l2 f10_rr K q)) (strA s) v (p : Int) (.ptr bt 0) H
  unfold f10_q7
  rw [r10g]
  refine f28_i h8 hs hd hc hM (fun t j hq H2 S2 m2 x2 => ?_) (fun hb H2 S2 m2 x2 => ?_)
  · simp only [cR_ret, onTup_t, nthK_0, nthK_s, cI_z, onB_b]
    have i2 := hI.ext hM x2
    show f10_q9 f10_rr K (f10_p3 f10_rr K (f10_l2 f10_rr K q)) (strA s) v (p : Int) (.ptr bt 0) (strA t) ((p + 1 + j : Nat) : Int) (decide (t.length ≤ 4096)) H2
    unfold f10_q9
    by_cases g : t.length ≤ 4096
    · rw [decide_eq_true g]
      simp only [Bool.not_true, bI_ff]
      refine i2.store m2 (by omega) rfl fun H3 S3 m3 i3 => ?_
      refine i3.store m3 (by omega) rfl fun H4 S4 m4 i4 => ?_
      refine f10_done (t := ⟨4, t, 0, p⟩) hs m4 i4 hal ?_
      rw [show p + 1 + j = p + (j + 1) by omega]
      exact h1 t j hq g
    · rw [decide_eq_false g]
      simp only [Bool.not_false, bI_tt]
      exact h2 (.inr ⟨t, j, hq, by omega⟩) H2 S2 m2 i2.x
  · show cR K (.ret (.tup [.str 0 0, .int 0 0, .bool false])) H2 _
    simp only [cR_ret, onTup_t, nthK_0, nthK_s, cI_z, onB_b]
    have i2 := hI.ext hM x2
    show f10_q9 f10_rr K (f10_p3 f10_rr K (f10_l2 f10_rr K q)) (strA s) v (p : Int) (.ptr bt 0) (.str 0 0) 0 false H2
    unfold f10_q9
    simp only [Bool.not_false, bI_tt]
    exact h2 (.inl hb) H2 S2 m2 i2.x
theorem f10_sign (h8 : B8 s) (hs : s.length ≤ 16384) (hM : Mem H S) {c : Nat} {l : List Nat} (hd : s.drop p = c :: l) (hI : LxI S0 S v acc bt (Tok.cs ⟨0, [], 0, p⟩)) (hal : acc.length ≤ 100000)
    (h1 : sgnL (c :: l) ≠ 0 → ∀ H' S' v', Mem H' S' → LxJ S0 S' v' (acc ++ [⟨5, (c :: l).take (sgnL (c :: l)), 0, p⟩]) → f23_l2 f23_rr (K23 K s q v') G.NL (strA s) ((p + sgnL (c :: l) : Nat) : Int) H')
    (h2 : sgnL (c :: l) = 0 → badL K S0 p) : f10_p8 f10_rr K (f10_l2 f10_rr K q) (strA s) v (p : Int) (.ptr bt 0) H := by
  show f10_q8 f10_rr K (f10_p10 f10_rr K (f10_l2 f10_rr K q)) (strA s) v (p : Int) (.ptr bt 0) H
  unfold f10_q8
  obtain ⟨g1, g2, g3⟩ := suf hd
  rw [r10h]
  have hsg := sgn_le (c :: l)
  have hsl : (c :: l).length = s.length - p := by rw [← hd]; simp
  refine f29_i h8 hs hM hd fun H1 S1 m1 x1 => ?_
  simp only [cR_ret, cI_z]
  have i1 := hI.ext hM x1
  show f10_q10 f10_rr K (f10_p3 f10_rr K (f10_l2 f10_rr K q)) (strA s) v (p : Int) (.ptr bt 0) ((sgnL (c :: l) : Nat) : Int) H1
  unfold f10_q10
  have e0 : Int.ofNat 0 = 0 := rfl
  rw [iEq_d, e0]
  refine bI_dec (fun g => h2 (by omega) H1 S1 m1 i1.x) (fun g => ?_)
  simp only [iadd]
  refine w0 (by omega) (by omega) ?_
  refine sub_A (i := p) (j := p + sgnL (c :: l)) h8 (by omega) (by omega) ?_
  refine w0 (by omega) (by omega) ?_
  rw [hd, Nat.add_sub_cancel_left]
  refine i1.store m1 (by omega) rfl fun H3 S3 m3 i3 => ?_
  refine i3.store m3 (by omega) rfl fun H4 S4 m4 i4 => ?_
  exact f10_done (t := ⟨5, (c :: l).take (sgnL (c :: l)), 0, p⟩) (e := p + sgnL (c :: l)) hs m4 i4 hal (h1 (by omega))
theorem f10_token (h8 : B8 s) (hs : s.length ≤ 16384) (hM : Mem H S) {c : Nat} {l : List Nat} (hd : s.drop p = c :: l) (hJ : LxJ S0 S v acc) (hal : acc.length ≤ 100000)
    (h1 : ∀ k t n j, TokR (c :: l) k t n j → ∀ H' S' v', Mem H' S' → LxJ S0 S' v' (acc ++ [⟨k, t, n, p⟩]) → f23_l2 f23_rr (K23 K s q v') G.NL (strA s) ((p + j : Nat) : Int) H')
    (h2 : TokN (c :: l) → badL K S0 p) : f10_l2 f10_rr K (q + 1) (strA s) v (p : Int) H := by
  show f10_q2 f10_rr K (f10_p7 f10_rr K (f10_l2 f10_rr K q)) (f10_p4 f10_rr K (f10_l2 f10_rr K q)) (f10_p6 f10_rr K (f10_l2 f10_rr K q)) (f10_p1 f10_rr K) (f10_p8 f10_rr K (f10_l2 f10_rr K q)) (strA s) v (p : Int) H
  unfold f10_q2
  obtain ⟨g1, g2, g3⟩ := suf hd
  have hrl := runL_le (c :: l)
  have hsl : (c :: l).length = s.length - p := by rw [← hd]; simp
  have e34 : Int.ofNat 34 = 34 := rfl
  have e39 : Int.ofNat 39 = 39 := rfl
  simp only [sLen_A, cI_z, iLt_d]
  rw [decide_eq_true (by omega), bI_tt, r10c, r10d, r10e, e34, e39]
  refine onAH_i (pNew_i hM (fun a ha => ?_) fun H1 m1 => ?_)
  · simp only [List.mem_cons, List.not_mem_nil, or_false] at ha
    rcases ha with rfl | rfl | rfl | rfl <;> rfl
  refine pStoreN_i m1 (LS.push_ob_self _ _) (by omega) rfl (by show 0 + 4 ≤ 4; omega) (fun a ha => ?_) fun H2 m2 => ?_
  · simp only [List.mem_cons, List.not_mem_nil, or_false] at ha
    rcases ha with rfl | rfl | rfl | rfl <;> rfl
  have m2 : Mem H2 ((S.push (.cells [.int 0 (.ofNat 0), .str 0 0, .int 0 (.ofNat 0), .int 0 (.ofNat 0)] 0)).set S.n (.cells (Tok.cs ⟨0, [], 0, p⟩) 0)) := m2
  have i2 := hJ.new hM (c0 := [.int 0 (.ofNat 0), .str 0 0, .int 0 (.ofNat 0), .int 0 (.ofNat 0)]) (c1 := Tok.cs ⟨0, [], 0, p⟩) rfl
  refine f24_A h8 hs (by omega) ?_
  simp only [cR_ret, cI_z]
  rw [hd]
  have lenT : ((c :: l).take (runL (c :: l))).length = runL (c :: l) := by rw [List.length_take]; omega
  have h8t : B8 ((c :: l).take (runL (c :: l))) := by rw [← hd]; exact (h8.drop p).take _
  refine sIdx_A h8 g1 ?_
  simp only [cI_z]
  refine f25_i fun b hb => ?_
  simp only [cR_ret, onB_b]
  refine bI_i (fun eb => ?_) (fun eb => ?_)
  · have hlp := hb.1 eb
    refine sub_A (i := p) (j := p + runL (c :: l)) h8 (by omega) (by omega) ?_
    rw [hd, Nat.add_sub_cancel_left]
    refine i2.store m2 (by omega) rfl fun H3 S3 m3 i3 => ?_
    refine i3.store m3 (by omega) rfl fun H4 S4 m4 i4 => ?_
    refine f10_word h8 hs (by omega) m4 h8t (by rw [lenT]) (by omega) i4 hal (fun ht k hk => ?_) (fun ht => h2 (.long c l hlp (by omega)))
    rcases hk with ⟨rfl, hk⟩ | ⟨rfl, hk⟩
    · exact h1 _ _ _ _ (.word c l hlp (by omega) hk)
    · exact h1 _ _ _ _ (.name c l hlp (by omega) hk)
  · have hnl : ¬ LP c := fun g => by have := hb.2 g; rw [this] at eb; cases eb
    refine sIdx_A h8 g1 ?_
    simp only [cI_z]
    refine f26_i fun b' hb' => ?_
    simp only [cR_ret, onB_b]
    refine bI_i (fun eb' => ?_) (fun eb' => ?_)
    · have hdp := hb'.1 eb'
      refine i2.store m2 (by omega) rfl fun H3 S3 m3 i3 => ?_
      refine f10_num (t := (c :: l).take (runL (c :: l))) h8 hs m3 (by omega) (by omega) (by rw [hd, Nat.add_sub_cancel_left]) i3 hal (fun n hn => h1 _ _ _ _ (.num c l n hdp hn)) (fun hn => h2 (.num c l hdp hn))
    · have hnd : ¬ DP c := fun g => by have := hb'.2 g; rw [this] at eb'; cases eb'
      have quo : c = 34 ∨ c = 39 → f10_p7 f10_rr K (f10_l2 f10_rr K q) (strA s) v (p : Int) (.ptr S.n 0) H2 := fun hc => by
        refine f10_quoted h8 hs m2 hd hc i2 hal (fun t j hq ht => h1 _ _ _ _ (.quo c l t j hc hq ht)) (fun hb => ?_)
        rcases hb with hb | ⟨t, j, hq, ht⟩
        · exact h2 (.quo c l hc hb)
        · exact h2 (.great c l t j hc hq ht)
      refine sIdx_A h8 g1 ?_
      simp only [cI_z, iEq_d]
      refine bI_dec (fun g4 => quo (by omega)) (fun g4 => ?_)
      refine sIdx_A h8 g1 ?_
      simp only [cI_z, iEq_d]
      refine bI_dec (fun g5 => quo (by omega)) (fun g5 => ?_)
      exact f10_sign h8 hs m2 hd i2 hal (fun hz => h1 _ _ _ _ (.sign c l hnd hnl (by omega) (by omega) hz)) (fun hz => h2 (.sign c l hnd hnl (by omega) (by omega) hz))
theorem f10_end (hs : s.length ≤ 16384) (hM : Mem H S) (hJ : LxJ S0 S v acc) (hp : p = s.length) (hal : acc.length ≤ 100000) (hP : LxP K S0 acc (.inl [⟨0, [], 0, p⟩])) : f10_l2 f10_rr K (q + 1) (strA s) v (p : Int) H := by
  show f10_q2 f10_rr K (f10_p7 f10_rr K (f10_l2 f10_rr K q)) (f10_p4 f10_rr K (f10_l2 f10_rr K q)) (f10_p6 f10_rr K (f10_l2 f10_rr K q)) (f10_p1 f10_rr K) (f10_p8 f10_rr K (f10_l2 f10_rr K q)) (strA s) v (p : Int) H
  unfold f10_q2
  simp only [sLen_A, cI_z, iLt_d]
  rw [decide_eq_false (by omega), bI_ff]
  show f10_q1 f10_rr K (strA s) v H
  unfold f10_q1
  simp only [sLen_A, cI_z]
  subst hp
  refine push_s (l' := Tok.cs ⟨0, [], 0, s.length⟩) hM hJ.fr (by omega) rfl (by omega) (fun a ha => ?_) fun H' S' v' h' he => ?_
  · simp only [Tok.cs, List.mem_cons, List.not_mem_nil, or_false] at ha
    rcases ha with rfl | rfl | rfl | rfl <;> rfl
  · obtain ⟨e1, e2⟩ := he.ext hJ.x hJ.own
    have ecs : tcs (acc ++ [⟨0, [], 0, s.length⟩]) = tcs acc ++ Tok.cs ⟨0, [], 0, s.length⟩ := by
      rw [tcs_app]
      show tcs acc ++ (Tok.cs _ ++ []) = _
      rw [List.append_nil]
    exact hP H' S' v' h' e1 (by rw [ecs, List.length_append]; exact he.2.2.1) e2
theorem K23_ret {H : AH} (h : f10_l2 f10_rr K q (strA s) v (p : Int) H) : K23 K s q v (.ret (.int 0 (p : Int))) H := by
  unfold K23
  rw [cR_ret, cI_z]
  exact h
theorem f10_all (h8 : B8 s) (hs : s.length ≤ 16384) {l : List Nat} {p : Nat} {r : List Tok ⊕ Nat} (hr : LexR l p r) :
    l = s.drop p → p ≤ s.length → ∀ (q m : Nat), s.length - p < q → s.length - p < m → ∀ (acc : List Tok) (v : AV) (H : AH) (S : LS), Mem H S → LxJ S0 S v acc → acc.length ≤ p → LxP K S0 acc r →
      f23_l2 f23_rr (K23 K s q v) m (strA s) (p : Int) H := by
  have hNL : G.NL = 1000000 := rfl
  induction hr with
  | nil p =>
    intro hl hp q m hq hm acc v H S hM hJ ha hP
    obtain ⟨m, rfl⟩ : ∃ n, m = n + 1 := ⟨m - 1, by omega⟩
    obtain ⟨q, rfl⟩ : ∃ n, q = n + 1 := ⟨q - 1, by omega⟩
    have hps : p = s.length := by
      have := congrArg List.length hl
      simp at this
      omega
    exact f23_end hs (by omega) (K23_ret (f10_end hs hM hJ hps (by omega) hP))
  | blank c l p r hc _ ih =>
    intro hl hp q m hq hm acc v H S hM hJ ha hP
    obtain ⟨m, rfl⟩ : ∃ n, m = n + 1 := ⟨m - 1, by omega⟩
    obtain ⟨g1, g2, g3⟩ := suf hl.symm
    exact f23_blank h8 hs hl.symm hc (ih g3.symm (by omega) q m (by omega) (by omega) acc v H S hM hJ (by omega) hP)
  | remark l p r _ ih =>
    intro hl hp q m hq hm acc v H S hM hJ ha hP
    obtain ⟨m, rfl⟩ : ∃ n, m = n + 1 := ⟨m - 1, by omega⟩
    obtain ⟨g1, g2, g3⟩ := suf hl.symm
    have hll := lineL_le (45 :: 45 :: l)
    have h1 : 1 ≤ lineL (45 :: 45 :: l) := by unfold lineL; simp
    have hsl : (45 :: 45 :: l).length = s.length - p := by rw [hl]; simp
    refine f23_remark h8 hs hl.symm ?_
    exact ih (by rw [hl, List.drop_drop]) (by omega) q m (by omega) (by omega) acc v H S hM hJ (by omega) hP
  | wrong c l p h1 h2 hn =>
    intro hl hp q m hq hm acc v H S hM hJ ha hP
    obtain ⟨m, rfl⟩ : ∃ n, m = n + 1 := ⟨m - 1, by omega⟩
    obtain ⟨q, rfl⟩ : ∃ n, q = n + 1 := ⟨q - 1, by omega⟩
    obtain ⟨g1, g2, g3⟩ := suf hl.symm
    refine f23_stop h8 hs hl.symm h1 h2 (K23_ret ?_)
    refine f10_token h8 hs hM hl.symm hJ (by omega) (fun k t n j ht => ?_) (fun _ => hP)
    exact absurd hn (tok_not ht)
  | tok c l p k t n j ts h1 h2 ht _ ih =>
    intro hl hp q m hq hm acc v H S hM hJ ha hP
    obtain ⟨m, rfl⟩ : ∃ n, m = n + 1 := ⟨m - 1, by omega⟩
    obtain ⟨q, rfl⟩ : ∃ n, q = n + 1 := ⟨q - 1, by omega⟩
    obtain ⟨g1, g2, g3⟩ := suf hl.symm
    have hj := ht.len
    have hsl : (c :: l).length = s.length - p := by rw [hl]; simp
    refine f23_stop h8 hs hl.symm h1 h2 (K23_ret ?_)
    refine f10_token h8 hs hM hl.symm hJ (by omega) (fun k' t' n' j' ht' H2 S2 v2 m2 i2 => ?_) (fun hn => absurd hn (tok_not ht))
    obtain ⟨rfl, rfl, rfl, rfl⟩ := tok_one ht ht'
    exact ih (by rw [hl, List.drop_drop]) (by omega) q G.NL (by omega) (by omega) _ v2 H2 S2 m2 i2 (by simp; omega) hP.tok
  | bad c l p k t n j e h1 h2 ht _ ih =>
    intro hl hp q m hq hm acc v H S hM hJ ha hP
    obtain ⟨m, rfl⟩ : ∃ n, m = n + 1 := ⟨m - 1, by omega⟩
    obtain ⟨q, rfl⟩ : ∃ n, q = n + 1 := ⟨q - 1, by omega⟩
    obtain ⟨g1, g2, g3⟩ := suf hl.symm
    have hj := ht.len
    have hsl : (c :: l).length = s.length - p := by rw [hl]; simp
    refine f23_stop h8 hs hl.symm h1 h2 (K23_ret ?_)
    refine f10_token h8 hs hM hl.symm hJ (by omega) (fun k' t' n' j' ht' H2 S2 v2 m2 i2 => ?_) (fun hn => absurd hn (tok_not ht))
    obtain ⟨rfl, rfl, rfl, rfl⟩ := tok_one ht ht'
    exact ih (by rw [hl, List.drop_drop]) (by omega) q G.NL (by omega) (by omega) _ v2 H2 S2 m2 i2 (by simp; omega) hP
theorem f10_i (h8 : B8 s) (hs : s.length ≤ 16384) (hM : Mem H S) {r : List Tok ⊕ Nat} (hr : LexR s 0 r) (hP : LxP K S [] r) : f10 (strA s) H K := by
  show f10_q0 f10_rr K (f10_l2 f10_rr K G.NL) (strA s) H
  unfold f10_q0
  simp only [sLen_A, cI_z, iLt_d]
  have e : Int.ofNat 16384 = 16384 := rfl
  rw [e, decide_eq_false (by omega), bI_ff, r10b]
  show f23_q0 f23_rr (K23 K s G.NL .nslice) (f23_l2 f23_rr (K23 K s G.NL .nslice) G.NL) (strA s) ((0 : Nat) : Int) H
  unfold f23_q0
  have hNL : G.NL = 1000000 := rfl
  exact f10_all h8 hs hr rfl (Nat.zero_le _) G.NL G.NL (by omega) (by omega) [] .nslice H S hM ⟨Ext.refl S, FrS.nil _ _, fun _ h => h.elim⟩ (Nat.le_refl _) hP
end
end Go.Proofs.YthmjeojcciefcaaDoor

namespace Go.X
variable {H : AH} {S : LS}
theorem iEqB_same {z : Int} {k : Bool → Prop} (h : k true) : iEqB 0 (.int 0 z) (.int 0 z) k := by
  show bT (Nat.beq 0 0) (bT (Nat.beq 0 0) (k (iEq z z)))
  refine bT_i rfl (bT_i rfl ?_)
  rw [iEq_d, decide_eq_true rfl]
  exact h
theorem sEqB_same {l : List Nat} {k : Bool → Prop} (h : k true) : sEqB (strA l) (strA l) k := by
  show k (Nat.beq l.length l.length && Nat.beq (num l) (num l))
  rw [Nat.beq_refl, Nat.beq_refl]
  exact h
theorem onAgg_l (l : List AV) (k : List AV → Prop) : onAgg (.agg l) k = k l := rfl
theorem LexR.few : ∀ {l : List Nat} {p : Nat} {r : List Tok ⊕ Nat}, LexR l p r → ∀ ts, r = .inl ts → ts.length ≤ l.length + 1 := by
  intro l p r h
  induction h with
  | nil p => intro ts e; cases e; simp
  | blank c l p r _ _ ih => intro ts e; have := ih ts e; simp; omega
  | remark l p r _ ih => intro ts e; have := ih ts e; simp at this ⊢; omega
  | wrong => intro ts e; cases e
  | tok c l p k t n j ts _ _ ht _ ih =>
    intro ts' e
    cases e
    have := ih ts rfl
    have := ht.len
    simp at *
    omega
  | bad => intro ts e; cases e
end Go.X
namespace Go.Proofs.YthmjeojcciefcaaDoor
open Go Go.X Go.Proofs.YthmjeojcciefcaaDoor.G
set_option maxRecDepth 100000
set_option maxHeartbeats 1600000
set_option linter.unusedVariables false
set_option linter.unusedSimpArgs false
variable {H : AH} {S : LS} {K : KF}
/-- Two tokens held against each other that are the same. -/
theorem tok_same {t : Tok} {k : Bool → Prop} (h : k true) : nthK t.cs 0 fun v10 => nthK t.cs 0 fun v11 => iEqB 0 v10 v11 fun e12 => nthK t.cs 1 fun v13 => nthK t.cs 1 fun v14 => sEqB v13 v14 fun e15 => nthK t.cs 2 fun v16 => nthK t.cs 2 fun v17 => iEqB 0 v16 v17 fun e18 => nthK t.cs 3 fun v19 => nthK t.cs 3 fun v20 => iEqB 0 v19 v20 fun e21 => k (e12 && (e15 && (e18 && (e21 && true)))) := by
  unfold Tok.cs
  simp only [nthK_0, nthK_s]
  refine iEqB_same ?_
  refine sEqB_same ?_
  refine iEqB_same ?_
  refine iEqB_same ?_
  exact h
theorem f11_i {v v' : AV} {ts : List Tok} (hM : Mem H S) (h1 : FrS S 4 v ts.length (tcs ts)) (h2 : FrS S 4 v' ts.length (tcs ts)) (hl : ts.length ≤ 100000) (hK : K (.ret (.bool true)) H) : f11 v v' H K := by
  have loop : ∀ (q i : Nat), i ≤ ts.length → ts.length - i < q → f11_l2 f11_rr K q v v' (i : Int) H := by
    intro q
    induction q with
    | zero => intro i _ h; omega
    | succ q ih =>
      intro i hi hq
      show f11_q2 f11_rr K (f11_l2 f11_rr K q) (f11_q1 f11_rr K) v v' (i : Int) H
      unfold f11_q2 f11_q1
      refine h1.len ?_
      simp only [cI_z, iLt_d]
      refine bI_dec (fun g => ?_) (fun _ => hK)
      have hil : i < ts.length := by omega
      obtain ⟨t, ht⟩ : ∃ t, ts[i]? = some t := ⟨_, List.getElem?_eq_getElem hil⟩
      refine h1.load hM hil ?_
      refine h2.load hM hil ?_
      rw [tcs_get ht]
      simp only [onAgg_l]
      refine tok_same (k := fun b => bI (!b) _ _) ?_
      simp only [Bool.not_true, bI_ff, iadd, io1]
      refine w0 (by omega) (by omega) ?_
      exact ih (i + 1) (by omega) (by omega)
  show f11_q0 f11_rr K (f11_l2 f11_rr K G.NL) v v' H
  unfold f11_q0
  refine h1.len ?_
  simp only [cI_z]
  refine h2.len ?_
  simp only [cI_z, iEq_d, decide_true, Bool.not_true, bI_ff]
  exact loop G.NL 0 (Nat.zero_le _) (by have : G.NL = 1000000 := rfl; omega)
noncomputable def R3 : f3_R := (toldT, g9, f10, f11)
noncomputable def g3 : AV → AH → KF → Prop := f3_r R3
theorem g3_ok (ht : FunOk Tryd.prog 8 (fnX [] toldT)) : FunOk Tryd.prog 3 (fnX [.a] g3) := f3_rok R3 (CTblOk.cons ht (CTblOk.cons g9_ok (CTblOk.cons f10_ok (CTblOk.cons f11_ok CTblOk.nil))))
theorem g3_i {s : List Nat} (h8 : B8 s) (hM : Mem H S) (hT : TabS gl2 S) (hK : ∀ H', K (.ret (.bool true)) H') : g3 (strA s) H K := by
  have r3a : R3.1 = toldT := rfl
  have r3b : R3.2.1 = g9 := rfl
  have r3c : R3.2.2.1 = f10 := rfl
  have r3d : R3.2.2.2 = f11 := rfl
  show f3_q0 R3 K (f3_q1 R3 K) (strA s) H
  unfold f3_q0
  rw [r3a, r3b, r3c]
  simp only [sLen_A, cI_z, iLt_d]
  have e : Int.ofNat 2000 = 2000 := rfl
  rw [e]
  refine bI_dec (fun g => ?_) (fun g => ?_)
  · refine ⟨⟨S, hM, gl2_gl hT⟩, ?_⟩
    simp only [cR_ret, onB_b]
    exact hK _
  · have hs : s.length ≤ 2000 := by omega
    obtain ⟨r, hr⟩ := lex_ex (s.length + 1) s 0 (by omega)
    refine g9_i h8 (by omega) hM hT hr ?_
    cases r with
    | inl ts =>
      have hfew := hr.few ts rfl
      intro H1 S1 v1 m1 x1 f1 o1
      simp only [cR_ret, onTup_t, nthK_0, nthK_s, cI_z]
      refine f10_i h8 (by omega) m1 hr ?_
      intro H2 S2 v2 m2 x2 f2 o2
      simp only [cR_ret, onTup_t, nthK_0, nthK_s, cI_z]
      unfold f3_q1
      rw [r3a, r3d]
      refine ⟨⟨S2, m2, gl2_gl (hT.ext hM (x1.trans x2))⟩, ?_⟩
      simp only [cR_ret, onB_b, bI_tt]
      refine f11_i m2 (f1.keep m1 fun b _ hb => x2.ob b hb) f2 (by simp; omega) ?_
      simp only [cR_ret, onB_b, bI_tt]
      rw [iEq_d, decide_eq_true rfl, bI_tt]
      exact hK _
    | inr n =>
      intro H1 S1 m1 x1
      simp only [cR_ret, onTup_t, nthK_0, nthK_s, cI_z]
      refine f10_i h8 (by omega) m1 hr ?_
      intro H2 S2 m2 x2
      simp only [cR_ret, onTup_t, nthK_0, nthK_s, cI_z]
      unfold f3_q1
      rw [r3a, r3d]
      refine ⟨⟨S2, m2, gl2_gl (hT.ext hM (x1.trans x2))⟩, ?_⟩
      simp only [cR_ret, onB_b, bI_tt]
      refine f11_i (ts := []) m2 (FrS.nil _ _) (FrS.nil _ _) (by simp) ?_
      simp only [cR_ret, onB_b, bI_tt]
      rw [iEq_d, decide_eq_true rfl, bI_tt, iEq_d, decide_eq_true rfl]
      exact hK _
end Go.Proofs.YthmjeojcciefcaaDoor
