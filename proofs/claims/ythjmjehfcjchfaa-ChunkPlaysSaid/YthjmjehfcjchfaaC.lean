/- Rows of texts in memory: a contract for each function. No condition: lemmas. -/
import Derived.Test.YthjmjehfcjchfaaGb
set_option linter.unusedVariables false
set_option linter.unusedSimpArgs false
namespace Go.X
variable {H : AH} {S : LS}
theorem pCopy_i {b o len c : Nat} {ex : Bool} {b2 o2 len2 c2 : Nat} {ex2 : Bool} {cs cs2 : List AV} {m m2 q : Nat} {k : AV → AH → Prop} (hM : Mem H S) (hb : S.ob b = .cells cs m) (hm : m ≤ 1) (hb2 : S.ob b2 = .cells cs2 m2) (hq : q = min len2 len) (ho2 : o2 + q ≤ cs2.length) (ho : o + q ≤ cs.length)
    (h1 : ∀ a ∈ (cs2.drop o2).take q, a.one = true) (hk : ∀ H', Mem H' (S.set b (.cells (spliceL cs o ((cs2.drop o2).take q)) m)) → k (.int 0 q) H') : pCopy 1 (.slice b o len c 1 ex) (.slice b2 o2 len2 c2 1 ex2) H k := by
  subst hq
  have hl : ((cs2.drop o2).take (min len2 len)).length = min len2 len := by simp; omega
  show forceN (Nat.min len2 len) _
  rw [forceN_eq]
  refine cellsOf_i' (ex := ex2) (cap := c2) hM hb2 (Nat.min_le_left _ _) (by rw [Nat.mul_one]; exact ho2) ?_
  rw [Nat.mul_one]
  show bT (Nat.beq 1 1) (getK H b fun c m w => bT (Nat.ble w 1) (storeL _ c o fun c' o' => bT (Nat.ble o' m) (setK H b (.cells c' m w) fun H' => k (.int 0 (.ofNat (min len2 len))) H')))
  refine bT_i rfl (hM.getK_i hb fun cc hc => bT_i (Nat.ble_eq_true_of_le hm) (storeL_i _ hc (by omega) h1 fun c' hc' => bT_i (Nat.ble_eq_true_of_le (by rw [hl]; exact ho)) ?_))
  have hsl : (spliceL cs o ((cs2.drop o2).take (min len2 len))).length = cs.length := spliceL_length (by rw [hl]; exact ho)
  rw [← hsl]
  exact hM.setC (hM.lt (by rw [hb]; simp)) rfl hc' fun H' h' => hk H' h'
end Go.X

namespace Go.Proofs.Ythjmjehfcjchfaa
open Go Go.X Go.Proofs.Ythjmjehfcjchfaa.G
set_option maxRecDepth 100000
set_option maxHeartbeats 1600000
set_option linter.unusedVariables false
set_option linter.unusedSimpArgs false
variable {H : AH} {S : LS} {K : KF}
theorem pSlice_s {b o n c i j : Nat} {ex : Bool} {lo hi : Option AV} {k : AV → Prop} (hij : i ≤ j) (hj : j ≤ c) (hlo : lo = some (.int 0 i) ∨ lo = none ∧ i = 0) (hhi : hi = some (.int 0 j) ∨ hi = none ∧ j = n) (hk : k (.slice b (o + i) (j - i) (c - i) 1 ex)) : pSlice 1 (.slice b o n c 1 ex) lo hi none k := by
  have go : bT (Nat.ble i j) (bT (Nat.ble j c) (bT (Nat.ble c c) (forceN (Nat.add o (Nat.mul i 1)) fun o' => forceN (Nat.sub j i) fun n => forceN (Nat.sub c i) fun c' => k (.slice b o' n c' 1 (ex || Option.isSome (none : Option AV)))))) := by
    refine bT_i (Nat.ble_eq_true_of_le hij) (bT_i (Nat.ble_eq_true_of_le hj) (bT_i (Nat.ble_eq_true_of_le (Nat.le_refl _)) ?_))
    simp only [forceN_eq, Option.isSome_none, Bool.or_false]
    have e : Nat.add o (Nat.mul i 1) = o + i := by show o + i * 1 = _; omega
    rw [e]
    exact hk
  rcases hlo with rfl | ⟨rfl, rfl⟩ <;> rcases hhi with rfl | ⟨rfl, rfl⟩ <;> (show bT (Nat.beq 1 1) _; exact bT_i rfl go)
@[simp] theorem pCap_s (b o n c : Nat) (k : AV → Prop) : pCap (.slice b o n c 1 true) k = k (.int 0 c) := rfl
theorem app_exact {bytes b len c n : Nat} {W l' : List AV} {k : AV → AH → Prop} {S1 : LS} (hM : Mem H S1) (hb : S1.ob b = .cells W 0) (hW : W.length = c) (hl : len ≤ c) (h1 : ∀ a ∈ W.take len, a.one = true) (hn : l'.length = n) (h2 : ∀ a ∈ l', a.one = true) (big : (len + n) * bytes ≤ 1099511627776)
    (k1 : len + n ≤ c → ∀ H', Mem H' (S1.set b (.cells (spliceL W len l') 0)) → k (.slice b 0 (len + n) c 1 true) H') (k2 : c < len + n → ∀ H', Mem H' (S1.push (.cells (W.take len ++ l') 0)) → k (.slice S1.n 0 (len + n) (len + n) 1 false) H') :
    appL 1 bytes n (.slice b 0 len c 1 true) l' H k := by
  refine bT_i rfl ?_
  show bT (Nat.beq 1 1) _
  refine bT_i rfl ?_
  rw [forceN_eq]
  show bI (Nat.ble (len + n) c) _ _
  have em : Nat.mul len 1 = len := Nat.mul_one _
  by_cases h : len + n ≤ c
  · rw [Nat.ble_eq_true_of_le h]
    refine hM.getK_i hb fun cc hc => bT_i rfl ?_
    have en : Nat.add 0 (Nat.mul len 1) = len := by show 0 + len * 1 = _; omega
    rw [en]
    refine storeL_i l' hc (by omega) h2 fun c' hc' => bT_i (Nat.ble_eq_true_of_le (by omega)) ?_
    have hsl : (spliceL W len l').length = W.length := spliceL_length (by omega)
    rw [← hsl]
    exact hM.setC (hM.lt (by rw [hb]; simp)) rfl hc' fun H' h' => k1 h H' h'
  · rw [nbl (by omega)]
    refine bT_i (Nat.ble_eq_true_of_le (show (len + n) * bytes ≤ _ from big)) ?_
    show getK H b _
    refine hM.getK_i hb fun cc hc => ?_
    rw [em]
    refine loadL_i hc _ 0 (by omega) ?_
    rw [List.drop_zero]
    refine storeL_new h1 fun c1 hc1 => ?_
    refine storeL_i l' hc1 (Nat.le_refl _) h2 fun c2 hc2 => ?_
    rw [spliceL_end] at hc2
    have e2 : (W.take len).length + l'.length = (W.take len ++ l').length := by simp
    rw [e2]
    exact hM.newC hc2 fun H' h' => k2 (by omega) H' h'
theorem pAppZ_i {bytes n : Nat} {z : List AV} {s : AV} {k : AV → AH → Prop} (hn : n * bytes ≤ 1099511627776) (h : appL 1 bytes n s (repL n z) H k) : pAppZ 1 bytes z s (.int 0 (n : Int)) H k := by
  show bT (Nat.ble 1 1) (bT (Nat.ble (Nat.mul n bytes) 1099511627776) (appL 1 bytes n s (repL n z) H k))
  exact bT_i rfl (bT_i (Nat.ble_eq_true_of_le hn) h)
theorem pOver_i {b1 o1 l1 c1 s1 b2 o2 l2 c2 s2 m2 : Nat} {x1 x2 : Bool} {cs1 cs2 : List AV} {k : AV → Prop} {S1 : LS} (hM : Mem H S1) (h1 : S1.ob b1 = .cells cs1 0) (h2 : S1.ob b2 = .cells cs2 m2) (hne : b1 ≠ b2) (hl : 1 ≤ cs2.length) (hk : k (.bool false)) : pOver (.slice b1 o1 l1 c1 s1 x1) (.slice b2 o2 l2 c2 s2 x2) H k := by
  have e : Nat.beq b1 b2 = false := nbq hne
  show bT (!(Nat.beq b1 b2)) _
  rw [e]
  exact bT_i rfl (hM.getK_i h1 fun _ _ => bT_i rfl (hM.getK_i h2 fun _ _ => bT_i (Nat.ble_eq_true_of_le hl) hk))
theorem splice_fill {A Y Z R : List AV} (h : R.length = Y.length + Z.length) : spliceL (spliceL (A ++ R) A.length Y) (A.length + Y.length) Z = A ++ Y ++ Z := by
  unfold spliceL
  have e1 : (A ++ R).take A.length = A := List.take_left
  rw [e1]
  have e2 : (A ++ Y ++ (A ++ R).drop (A.length + Y.length)).take (A.length + Y.length) = A ++ Y := List.take_left' (by simp)
  rw [e2]
  have e3 : (A ++ Y ++ (A ++ R).drop (A.length + Y.length)).drop (A.length + Y.length + Z.length) = [] := List.drop_of_length_le (by simp; omega)
  rw [e3, List.append_nil]
theorem splice_back {W Y Z : List AV} {i : Nat} (h : i + Y.length + Z.length ≤ W.length) : (spliceL (spliceL W (i + Y.length) Z) i Y).take (i + Y.length + Z.length) = W.take i ++ Y ++ Z := by
  unfold spliceL
  have e1 : (W.take (i + Y.length) ++ Z ++ W.drop (i + Y.length + Z.length)).take i = W.take i := by
    rw [List.append_assoc, List.take_append_of_le_length (by simp; omega), List.take_take, Nat.min_eq_left (by omega)]
  have e2 : (W.take (i + Y.length) ++ Z ++ W.drop (i + Y.length + Z.length)).drop (i + Y.length) = Z ++ W.drop (i + Y.length + Z.length) := by
    rw [List.append_assoc]
    exact List.drop_left' (by simp; omega)
  rw [e1, e2, ← List.append_assoc]
  exact List.take_left' (by simp; omega)

section
variable {b len cap i vb m c : Nat} {l lv : List AV} {H1 : AH}
theorem f27_run (h : InsC S 16 b len cap i vb m l lv) (hc : cap ≤ c) (hM : Mem H1 (wide S b l c)) : f27 (.slice b 0 len c 1 true) (i : Int) (.slice vb 0 m m 1 true) H1 (InsE S b (len + m) (insN l lv len i)) := by
  obtain ⟨sb, ll, lc, il, vv, lm, m0, ne, big, o1, o2⟩ := h
  obtain ⟨W, hW⟩ : ∃ W, W = l ++ List.replicate (c - l.length) AV.pois := ⟨_, rfl⟩
  have hWl : W.length = c := by rw [hW]; simp; omega
  have hS1 : wide S b l c = S.set b (.cells W 0) := by unfold wide; rw [hW]
  rw [hS1] at hM
  have wb : (S.set b (.cells W 0)).ob b = .cells W 0 := LS.set_ob_self _ _ _
  have wv : (S.set b (.cells W 0)).ob vb = .cells lv 0 := by rw [LS.set_ob_ne _ _ ne]; exact vv
  have hbn : b < S.n := hM.lt (b := b) (by rw [wb]; simp)
  have wtk : ∀ j, j ≤ len → W.take j = l.take j := fun j hj => by rw [hW, List.take_append_of_le_length (by omega)]
  have wto : ∀ j, j ≤ len → ∀ a ∈ W.take j, a.one = true := fun j hj a ha => o1 a (List.mem_of_mem_take (by rw [← wtk j hj]; exact ha))
  have hmid : (W.drop i).take (len - i) = (l.take len).drop i := by rw [← wtk len (Nat.le_refl _), List.drop_take]
  have omid : ∀ a ∈ (W.drop i).take (len - i), a.one = true := fun a ha => by rw [hmid] at ha; exact o1 a (List.mem_of_mem_take (List.mem_of_mem_drop ha))
  have lmid : ((l.take len).drop i).length = len - i := by simp; omega
  have vtk : (lv.drop 0).take m = lv := by rw [List.drop_zero]; exact List.take_of_length_le (by omega)
  have b1 : (len + m) ≤ 1099511627776 := by omega
  generalize hE : InsE S b (len + m) (insN l lv len i) = E
  show f27_q0 f27_rr E (f27_p2 f27_rr E) (f27_p1 f27_rr E) (.slice b 0 len c 1 true) (i : Int) (.slice vb 0 m m 1 true) H1
  unfold f27_q0
  refine pSlice_s (i := i) (j := len) il (by omega) (.inl rfl) (.inr ⟨rfl, rfl⟩) ?_
  simp only [pLen_slice, cI_z, iEq_d]
  rw [decide_eq_false (show ¬ ((m : Int) = Int.ofNat 0) by have : Int.ofNat 0 = 0 := rfl; omega)]
  simp only [bI_ff]
  refine bI_dec (fun e => ?_) (fun e => ?_)
  · have e : i = len := by omega
    subst e
    refine cellsOf_i' (ex := true) (cap := m) (k := fun x => appL 1 16 m _ x H1 _) hM wv (Nat.le_refl _) (by omega) ?_
    rw [Nat.mul_one, vtk]
    have hend : (l.take i).drop i = [] := List.drop_of_length_le (by simp; omega)
    refine app_exact hM wb hWl (by omega) (wto i (Nat.le_refl _)) lm o2 (by omega) (fun hle H2 h2 => ?_) (fun hgt H2 h2 => ?_)
    · rw [← hE]
      refine ⟨_, b, 0, c, true, _, h2, rfl, fun x hx hne => by rw [LS.set_ob_ne _ _ hne, LS.set_ob_ne _ _ hne], LS.set_ob_self _ _ _, .inl rfl, ?_, ?_, hle⟩
      · rw [List.drop_zero]
        unfold spliceL insN
        rw [wtk i (Nat.le_refl _), hend, List.append_nil]
        exact List.take_left' (by simp; omega)
      · rw [spliceL_length (by omega), hWl]; omega
    · rw [← hE]
      refine ⟨_, S.n, 0, i + m, false, _, h2, rfl, fun x hx hne => by rw [LS.push_ob_lt _ _ (by exact hx), LS.set_ob_ne _ _ hne], LS.push_ob_self _ _, .inr (Nat.le_refl _), ?_, ?_, Nat.le_refl _⟩
      · rw [List.drop_zero]
        unfold insN
        rw [wtk i (Nat.le_refl _), hend, List.append_nil]
        exact List.take_of_length_le (by simp; omega)
      · rw [List.length_append, List.length_take, hWl, lm]; omega
  · simp only [iadd, isub]
    refine w0 (by omega) (by omega) ?_
    simp only [pCap_s, cI_z, iLt_d]
    refine bI_dec (fun hgt => ?_) (fun hle => ?_)
    · refine pSlice_s (i := 0) (j := i) (Nat.zero_le _) (by omega) (.inr ⟨rfl, rfl⟩) (.inl rfl) ?_
      refine w0 (by omega) (by omega) ?_
      refine w0 (by omega) (by omega) ?_
      have ez : (len : Int) + m - i = ((len + m - i : Nat) : Int) := by omega
      rw [ez]
      refine pAppZ_i (by omega) ?_
      have rl : (repL (len + m - i) [(.str 0 0)]).length = len + m - i := by rw [repL_length]; simp
      refine app_exact (len := i) hM wb hWl (by omega) (wto i il) rl (fun a ha => by have := repL_mem ha; simp at this; subst this; rfl) (by rw [show i + (len + m - i) = len + m by omega]; omega) (fun hle H2 h2 => absurd hle (by omega)) (fun _ H2 h2 => ?_)
      rw [show i + (len + m - i) = len + m by omega]
      show f27_q2 f27_rr E (.slice b 0 len c 1 true) (i : Int) (.slice vb 0 m m 1 true) (m : Int) (.slice S.n 0 (len + m) (len + m) 1 false) H2
      unfold f27_q2
      have p2 : ((S.set b (.cells W 0)).push (.cells (W.take i ++ repL (len + m - i) [(.str 0 0)]) 0)).ob S.n = .cells (W.take i ++ repL (len + m - i) [(.str 0 0)]) 0 := LS.push_ob_self _ _
      have p3 : ((S.set b (.cells W 0)).push (.cells (W.take i ++ repL (len + m - i) [(.str 0 0)]) 0)).ob vb = .cells lv 0 := by rw [LS.push_ob_lt _ _ (hM.lt (by rw [wv]; simp))]; exact wv
      have p4 : ((S.set b (.cells W 0)).push (.cells (W.take i ++ repL (len + m - i) [(.str 0 0)]) 0)).ob b = .cells W 0 := by rw [LS.push_ob_lt _ _ (by exact hbn)]; exact wb
      have pl : (W.take i ++ repL (len + m - i) [(.str 0 0)]).length = len + m := by rw [List.length_append, rl]; simp; omega
      refine pSlice_s (i := i) (j := len + m) (by omega) (Nat.le_refl _) (.inl rfl) (.inr ⟨rfl, rfl⟩) ?_
      refine pCopy_i (q := m) h2 p2 (by omega) p3 (by omega) (by omega) (by rw [pl]; omega) (by rw [vtk]; exact o2) fun H3 h3 => ?_
      rw [vtk] at h3
      simp only [cI_z, iadd]
      refine w0 (by omega) (by omega) ?_
      have ei : (i : Int) + m = ((i + m : Nat) : Int) := by omega
      rw [ei]
      refine pSlice_s (i := i + m) (j := len + m) (by omega) (Nat.le_refl _) (.inl rfl) (.inr ⟨rfl, rfl⟩) ?_
      refine pSlice_s (i := i) (j := len) il (by omega) (.inl rfl) (.inr ⟨rfl, rfl⟩) ?_
      have hne2 : b ≠ S.n := by omega
      refine pCopy_i (q := len - i) h3 (LS.set_ob_self _ _ _) (by omega) (by rw [LS.set_ob_ne _ _ hne2]; exact p4) (by omega) (by rw [hWl]; omega) (by rw [spliceL_length (by rw [pl]; omega), pl]; omega) (by simpa only [Nat.zero_add] using omid) fun H4 h4 => ?_
      simp only [Nat.zero_add] at h4
      rw [hmid] at h4
      simp only [cI_z]
      have efin : spliceL (spliceL (W.take i ++ repL (len + m - i) [(.str 0 0)]) i lv) (i + m) ((l.take len).drop i) = insN l lv len i := by
        have := splice_fill (A := W.take i) (Y := lv) (Z := (l.take len).drop i) (R := repL (len + m - i) [(.str 0 0)]) (by rw [rl, lm, lmid]; omega)
        rw [show (W.take i).length = i by simp; omega, lm] at this
        rw [this, wtk i il]
        rfl
      rw [efin] at h4
      rw [← hE]
      refine ⟨_, S.n, 0, len + m, false, _, h4, rfl, fun x hx hne => ?_, LS.set_ob_self _ _ _, .inr (Nat.le_refl _), ?_, ?_, Nat.le_refl _⟩
      · rw [LS.set_ob_ne _ _ (by omega), LS.set_ob_ne _ _ (by omega), LS.push_ob_lt _ _ (by exact hx), LS.set_ob_ne _ _ hne]
      · rw [List.drop_zero]
        exact List.take_of_length_le (by rw [insN_len (by omega) il, lm]; omega)
      · rw [insN_len (by omega) il, lm]; omega
    · have hle : len + m ≤ c := by omega
      refine w0 (by omega) (by omega) ?_
      have el : (len : Int) + m = ((len + m : Nat) : Int) := by omega
      rw [el]
      refine pSlice_s (i := 0) (j := len + m) (Nat.zero_le _) hle (.inr ⟨rfl, rfl⟩) (.inl rfl) ?_
      show f27_q1 f27_rr E (f27_p3 f27_rr E) (.slice b (0 + 0) (len + m - 0) (c - 0) 1 true) (i : Int) (.slice vb 0 m m 1 true) (m : Int) (len : Int) H1
      simp only [Nat.add_zero, Nat.sub_zero]
      unfold f27_q1
      simp only [iadd]
      have ei : (i : Int) + m = ((i + m : Nat) : Int) := by omega
      refine w0 (by omega) (by omega) ?_
      rw [ei]
      refine pSlice_s (i := i + m) (j := len + m) (by omega) (by omega) (.inl rfl) (.inr ⟨by rfl, by omega⟩) ?_
      refine pOver_i hM wv wb ne (by omega) ?_
      simp only [onB_b, Bool.not_false, bI_tt]
      refine w0 (by omega) (by omega) ?_
      refine pSlice_s (i := i + m) (j := len + m) (by omega) (by omega) (.inl rfl) (.inr ⟨by rfl, by omega⟩) ?_
      refine pSlice_s (i := i) (j := len + m) (by omega) (by omega) (.inl rfl) (.inr ⟨by rfl, by omega⟩) ?_
      refine pCopy_i (q := len - i) hM wb (by omega) wb (by omega) (by rw [hWl]; omega) (by rw [hWl]; omega) (by simpa only [Nat.zero_add] using omid) fun H3 h3 => ?_
      simp only [Nat.zero_add] at h3
      rw [hmid] at h3
      simp only [cI_z]
      refine pSlice_s (i := i) (j := len + m) (by omega) (by omega) (.inl rfl) (.inr ⟨by rfl, by omega⟩) ?_
      have s2 : (spliceL W (i + m) ((l.take len).drop i)).length = c := by rw [spliceL_length (by rw [lmid, hWl]; omega), hWl]
      refine pCopy_i (q := m) h3 (LS.set_ob_self _ _ _) (by omega) (by rw [LS.set_ob_ne _ _ ne]; exact wv) (by omega) (by omega) (by rw [s2]; omega) (by rw [vtk]; exact o2) fun H4 h4 => ?_
      simp only [Nat.zero_add] at h4
      rw [vtk] at h4
      simp only [cI_z]
      show E (.ret (.slice b 0 (len + m) c 1 true)) H4
      rw [← hE]
      refine ⟨_, b, 0, c, true, _, h4, rfl, fun x hx hne => by rw [LS.set_ob_ne _ _ hne, LS.set_ob_ne _ _ hne, LS.set_ob_ne _ _ hne], LS.set_ob_self _ _ _, .inl rfl, ?_, ?_, hle⟩
      · rw [List.drop_zero, ← lm]
        have := splice_back (W := W) (Y := lv) (Z := (l.take len).drop i) (i := i) (by rw [lmid, lm, hWl]; omega)
        rw [lmid, show i + lv.length + (len - i) = len + lv.length by omega] at this
        rw [this, wtk i il]
        rfl
      · rw [spliceL_length (by rw [lm, s2]; omega), s2]; omega
end
theorem f27k_ok : FunOk Try.prog 27 (fnX [.a, .i 0, .a] (insK f27 16)) := insK_ok f27_ok fun h c H1 hc hM => f27_run h hc hM
end Go.Proofs.Ythjmjehfcjchfaa

namespace Go.Proofs.Ythjmjehfcjchfaa
open Go Go.X Go.Proofs.Ythjmjehfcjchfaa.G
set_option maxRecDepth 100000
set_option maxHeartbeats 1600000
set_option linter.unusedVariables false
set_option linter.unusedSimpArgs false
variable {H : AH} {S : LS} {K : KF}

section
variable {b len cap i vb m c : Nat} {l lv : List AV} {H1 : AH}
theorem f28_run (h : InsC S 24 b len cap i vb m l lv) (hc : cap ≤ c) (hM : Mem H1 (wide S b l c)) : f28 (.slice b 0 len c 1 true) (i : Int) (.slice vb 0 m m 1 true) H1 (InsE S b (len + m) (insN l lv len i)) := by
  obtain ⟨sb, ll, lc, il, vv, lm, m0, ne, big, o1, o2⟩ := h
  obtain ⟨W, hW⟩ : ∃ W, W = l ++ List.replicate (c - l.length) AV.pois := ⟨_, rfl⟩
  have hWl : W.length = c := by rw [hW]; simp; omega
  have hS1 : wide S b l c = S.set b (.cells W 0) := by unfold wide; rw [hW]
  rw [hS1] at hM
  have wb : (S.set b (.cells W 0)).ob b = .cells W 0 := LS.set_ob_self _ _ _
  have wv : (S.set b (.cells W 0)).ob vb = .cells lv 0 := by rw [LS.set_ob_ne _ _ ne]; exact vv
  have hbn : b < S.n := hM.lt (b := b) (by rw [wb]; simp)
  have wtk : ∀ j, j ≤ len → W.take j = l.take j := fun j hj => by rw [hW, List.take_append_of_le_length (by omega)]
  have wto : ∀ j, j ≤ len → ∀ a ∈ W.take j, a.one = true := fun j hj a ha => o1 a (List.mem_of_mem_take (by rw [← wtk j hj]; exact ha))
  have hmid : (W.drop i).take (len - i) = (l.take len).drop i := by rw [← wtk len (Nat.le_refl _), List.drop_take]
  have omid : ∀ a ∈ (W.drop i).take (len - i), a.one = true := fun a ha => by rw [hmid] at ha; exact o1 a (List.mem_of_mem_take (List.mem_of_mem_drop ha))
  have lmid : ((l.take len).drop i).length = len - i := by simp; omega
  have vtk : (lv.drop 0).take m = lv := by rw [List.drop_zero]; exact List.take_of_length_le (by omega)
  have b1 : (len + m) ≤ 1099511627776 := by omega
  generalize hE : InsE S b (len + m) (insN l lv len i) = E
  show f28_q0 f28_rr E (f28_p2 f28_rr E) (f28_p1 f28_rr E) (.slice b 0 len c 1 true) (i : Int) (.slice vb 0 m m 1 true) H1
  unfold f28_q0
  refine pSlice_s (i := i) (j := len) il (by omega) (.inl rfl) (.inr ⟨rfl, rfl⟩) ?_
  simp only [pLen_slice, cI_z, iEq_d]
  rw [decide_eq_false (show ¬ ((m : Int) = Int.ofNat 0) by have : Int.ofNat 0 = 0 := rfl; omega)]
  simp only [bI_ff]
  refine bI_dec (fun e => ?_) (fun e => ?_)
  · have e : i = len := by omega
    subst e
    refine cellsOf_i' (ex := true) (cap := m) (k := fun x => appL 1 24 m _ x H1 _) hM wv (Nat.le_refl _) (by omega) ?_
    rw [Nat.mul_one, vtk]
    have hend : (l.take i).drop i = [] := List.drop_of_length_le (by simp; omega)
    refine app_exact hM wb hWl (by omega) (wto i (Nat.le_refl _)) lm o2 (by omega) (fun hle H2 h2 => ?_) (fun hgt H2 h2 => ?_)
    · rw [← hE]
      refine ⟨_, b, 0, c, true, _, h2, rfl, fun x hx hne => by rw [LS.set_ob_ne _ _ hne, LS.set_ob_ne _ _ hne], LS.set_ob_self _ _ _, .inl rfl, ?_, ?_, hle⟩
      · rw [List.drop_zero]
        unfold spliceL insN
        rw [wtk i (Nat.le_refl _), hend, List.append_nil]
        exact List.take_left' (by simp; omega)
      · rw [spliceL_length (by omega), hWl]; omega
    · rw [← hE]
      refine ⟨_, S.n, 0, i + m, false, _, h2, rfl, fun x hx hne => by rw [LS.push_ob_lt _ _ (by exact hx), LS.set_ob_ne _ _ hne], LS.push_ob_self _ _, .inr (Nat.le_refl _), ?_, ?_, Nat.le_refl _⟩
      · rw [List.drop_zero]
        unfold insN
        rw [wtk i (Nat.le_refl _), hend, List.append_nil]
        exact List.take_of_length_le (by simp; omega)
      · rw [List.length_append, List.length_take, hWl, lm]; omega
  · simp only [iadd, isub]
    refine w0 (by omega) (by omega) ?_
    simp only [pCap_s, cI_z, iLt_d]
    refine bI_dec (fun hgt => ?_) (fun hle => ?_)
    · refine pSlice_s (i := 0) (j := i) (Nat.zero_le _) (by omega) (.inr ⟨rfl, rfl⟩) (.inl rfl) ?_
      refine w0 (by omega) (by omega) ?_
      refine w0 (by omega) (by omega) ?_
      have ez : (len : Int) + m - i = ((len + m - i : Nat) : Int) := by omega
      rw [ez]
      refine pAppZ_i (by omega) ?_
      have rl : (repL (len + m - i) [.nslice]).length = len + m - i := by rw [repL_length]; simp
      refine app_exact (len := i) hM wb hWl (by omega) (wto i il) rl (fun a ha => by have := repL_mem ha; simp at this; subst this; rfl) (by rw [show i + (len + m - i) = len + m by omega]; omega) (fun hle H2 h2 => absurd hle (by omega)) (fun _ H2 h2 => ?_)
      rw [show i + (len + m - i) = len + m by omega]
      show f28_q2 f28_rr E (.slice b 0 len c 1 true) (i : Int) (.slice vb 0 m m 1 true) (m : Int) (.slice S.n 0 (len + m) (len + m) 1 false) H2
      unfold f28_q2
      have p2 : ((S.set b (.cells W 0)).push (.cells (W.take i ++ repL (len + m - i) [.nslice]) 0)).ob S.n = .cells (W.take i ++ repL (len + m - i) [.nslice]) 0 := LS.push_ob_self _ _
      have p3 : ((S.set b (.cells W 0)).push (.cells (W.take i ++ repL (len + m - i) [.nslice]) 0)).ob vb = .cells lv 0 := by rw [LS.push_ob_lt _ _ (hM.lt (by rw [wv]; simp))]; exact wv
      have p4 : ((S.set b (.cells W 0)).push (.cells (W.take i ++ repL (len + m - i) [.nslice]) 0)).ob b = .cells W 0 := by rw [LS.push_ob_lt _ _ (by exact hbn)]; exact wb
      have pl : (W.take i ++ repL (len + m - i) [.nslice]).length = len + m := by rw [List.length_append, rl]; simp; omega
      refine pSlice_s (i := i) (j := len + m) (by omega) (Nat.le_refl _) (.inl rfl) (.inr ⟨rfl, rfl⟩) ?_
      refine pCopy_i (q := m) h2 p2 (by omega) p3 (by omega) (by omega) (by rw [pl]; omega) (by rw [vtk]; exact o2) fun H3 h3 => ?_
      rw [vtk] at h3
      simp only [cI_z, iadd]
      refine w0 (by omega) (by omega) ?_
      have ei : (i : Int) + m = ((i + m : Nat) : Int) := by omega
      rw [ei]
      refine pSlice_s (i := i + m) (j := len + m) (by omega) (Nat.le_refl _) (.inl rfl) (.inr ⟨rfl, rfl⟩) ?_
      refine pSlice_s (i := i) (j := len) il (by omega) (.inl rfl) (.inr ⟨rfl, rfl⟩) ?_
      have hne2 : b ≠ S.n := by omega
      refine pCopy_i (q := len - i) h3 (LS.set_ob_self _ _ _) (by omega) (by rw [LS.set_ob_ne _ _ hne2]; exact p4) (by omega) (by rw [hWl]; omega) (by rw [spliceL_length (by rw [pl]; omega), pl]; omega) (by simpa only [Nat.zero_add] using omid) fun H4 h4 => ?_
      simp only [Nat.zero_add] at h4
      rw [hmid] at h4
      simp only [cI_z]
      have efin : spliceL (spliceL (W.take i ++ repL (len + m - i) [.nslice]) i lv) (i + m) ((l.take len).drop i) = insN l lv len i := by
        have := splice_fill (A := W.take i) (Y := lv) (Z := (l.take len).drop i) (R := repL (len + m - i) [.nslice]) (by rw [rl, lm, lmid]; omega)
        rw [show (W.take i).length = i by simp; omega, lm] at this
        rw [this, wtk i il]
        rfl
      rw [efin] at h4
      rw [← hE]
      refine ⟨_, S.n, 0, len + m, false, _, h4, rfl, fun x hx hne => ?_, LS.set_ob_self _ _ _, .inr (Nat.le_refl _), ?_, ?_, Nat.le_refl _⟩
      · rw [LS.set_ob_ne _ _ (by omega), LS.set_ob_ne _ _ (by omega), LS.push_ob_lt _ _ (by exact hx), LS.set_ob_ne _ _ hne]
      · rw [List.drop_zero]
        exact List.take_of_length_le (by rw [insN_len (by omega) il, lm]; omega)
      · rw [insN_len (by omega) il, lm]; omega
    · have hle : len + m ≤ c := by omega
      refine w0 (by omega) (by omega) ?_
      have el : (len : Int) + m = ((len + m : Nat) : Int) := by omega
      rw [el]
      refine pSlice_s (i := 0) (j := len + m) (Nat.zero_le _) hle (.inr ⟨rfl, rfl⟩) (.inl rfl) ?_
      show f28_q1 f28_rr E (f28_p3 f28_rr E) (.slice b (0 + 0) (len + m - 0) (c - 0) 1 true) (i : Int) (.slice vb 0 m m 1 true) (m : Int) (len : Int) H1
      simp only [Nat.add_zero, Nat.sub_zero]
      unfold f28_q1
      simp only [iadd]
      have ei : (i : Int) + m = ((i + m : Nat) : Int) := by omega
      refine w0 (by omega) (by omega) ?_
      rw [ei]
      refine pSlice_s (i := i + m) (j := len + m) (by omega) (by omega) (.inl rfl) (.inr ⟨by rfl, by omega⟩) ?_
      refine pOver_i hM wv wb ne (by omega) ?_
      simp only [onB_b, Bool.not_false, bI_tt]
      refine w0 (by omega) (by omega) ?_
      refine pSlice_s (i := i + m) (j := len + m) (by omega) (by omega) (.inl rfl) (.inr ⟨by rfl, by omega⟩) ?_
      refine pSlice_s (i := i) (j := len + m) (by omega) (by omega) (.inl rfl) (.inr ⟨by rfl, by omega⟩) ?_
      refine pCopy_i (q := len - i) hM wb (by omega) wb (by omega) (by rw [hWl]; omega) (by rw [hWl]; omega) (by simpa only [Nat.zero_add] using omid) fun H3 h3 => ?_
      simp only [Nat.zero_add] at h3
      rw [hmid] at h3
      simp only [cI_z]
      refine pSlice_s (i := i) (j := len + m) (by omega) (by omega) (.inl rfl) (.inr ⟨by rfl, by omega⟩) ?_
      have s2 : (spliceL W (i + m) ((l.take len).drop i)).length = c := by rw [spliceL_length (by rw [lmid, hWl]; omega), hWl]
      refine pCopy_i (q := m) h3 (LS.set_ob_self _ _ _) (by omega) (by rw [LS.set_ob_ne _ _ ne]; exact wv) (by omega) (by omega) (by rw [s2]; omega) (by rw [vtk]; exact o2) fun H4 h4 => ?_
      simp only [Nat.zero_add] at h4
      rw [vtk] at h4
      simp only [cI_z]
      show E (.ret (.slice b 0 (len + m) c 1 true)) H4
      rw [← hE]
      refine ⟨_, b, 0, c, true, _, h4, rfl, fun x hx hne => by rw [LS.set_ob_ne _ _ hne, LS.set_ob_ne _ _ hne, LS.set_ob_ne _ _ hne], LS.set_ob_self _ _ _, .inl rfl, ?_, ?_, hle⟩
      · rw [List.drop_zero, ← lm]
        have := splice_back (W := W) (Y := lv) (Z := (l.take len).drop i) (i := i) (by rw [lmid, lm, hWl]; omega)
        rw [lmid, show i + lv.length + (len - i) = len + lv.length by omega] at this
        rw [this, wtk i il]
        rfl
      · rw [spliceL_length (by rw [lm, s2]; omega), s2]; omega
end
theorem f28k_ok : FunOk Try.prog 28 (fnX [.a, .i 0, .a] (insK f28 24)) := insK_ok f28_ok fun h c H1 hc hM => f28_run h hc hM
end Go.Proofs.Ythjmjehfcjchfaa

namespace Go.Proofs.Ythjmjehfcjchfaa
open Go Go.X Go.Proofs.Ythjmjehfcjchfaa.G
set_option maxRecDepth 100000
set_option maxHeartbeats 1600000
set_option linter.unusedVariables false
set_option linter.unusedSimpArgs false
variable {H : AH} {S : LS} {K : KF}
theorem pNilS_n {k : AV → Prop} (h : k (.bool true)) : pNilS true .nslice k := h
theorem pNilS_s {b o n c z : Nat} {ex : Bool} {k : AV → Prop} (h : k (.bool false)) : pNilS true (.slice b o n c z ex) k := h
theorem pCap_n {k : AV → Prop} (h : k (.int 0 (.ofNat 0))) : pCap .nslice k := h
theorem frame_ext {S0 S1 S2 : LS} {v : AV} (hx : Ext S0 S1) (hn : S1.n ≤ S2.n) (hf : ∀ b, b < S1.n → ¬ bkOf v b → S2.ob b = S1.ob b) (hv : ∀ b, bkOf v b → S0.n ≤ b) : Ext S0 S2 :=
  ⟨Nat.le_trans hx.n hn, fun b hb => (hf b (Nat.lt_of_lt_of_le hb hx.n) fun g => by have := hv b g; omega).trans (hx.ob b hb)⟩
theorem f26_i {Q : Nat → Prop} {v : AV} {l : List AV} (hM : Mem H S) (hr : RdV S Q v l) (hl : l.length ≤ 1000000) (h1 : ∀ a ∈ l, a.one = true) (hne : l = [] → v = .nslice)
    (hK : ∀ H' S' v', Mem H' S' → Ext S S' → FrV S' v' l → exF v' → (∀ b, bkOf v' b → S.n ≤ b) → (l = [] → v' = .nslice) → K (.ret v') H') : f26 v H K := by
  show f26_q0 f26_rr K v H
  unfold f26_q0
  by_cases h0 : l = []
  · have hv := hne h0
    subst h0
    subst hv
    refine pNilS_n ?_
    exact hK H S .nslice hM (Ext.refl S) (.inl ⟨rfl, rfl⟩) trivial (fun _ h => h.elim) (fun _ => rfl)
  · have hnil : pNilS true v (fun v1 => onB v1 fun z2 => bI z2 (K (.ret .nslice) H) (pNewS (newK H) 0 1 [] fun v3 H4 => pApp 1 16 v3 v H4 fun v5 H6 => K (.ret v5) H6)) := by
      have go : pNewS (newK H) 0 1 [] fun v3 H4 => pApp 1 16 v3 v H4 fun v5 H6 => K (.ret v5) H6 := by
        refine pNewS_i hM rfl (fun _ h => by simp at h) fun H1 h1' => ?_
        have x1 : Ext S (S.push (.cells [] 0)) := Ext.push _ _
        have f1 : FrV (S.push (.cells [] 0)) (.slice S.n 0 0 0 1 true) [] := .inr ⟨S.n, 0, true, [], rfl, LS.push_ob_self _ _, rfl, Nat.le_refl _, rfl, fun _ h => by simp at h⟩
        refine pApp_v h1' f1 (hr.ext hM x1) (by simp; omega) h1 fun H2 S2 v2 h2 n2 k2 r2 b2 e2 g2 _ => ?_
        have hpos : 0 < l.length := List.length_pos_iff.2 h0
        obtain ⟨q1, q2⟩ := g2 (by show 0 < 0 + l.length; omega)
        refine hK H2 S2 v2 h2 (frame_ext x1 n2 k2 (fun b hb => by have : b = S.n := hb; omega)) r2 q1 (fun b hb => by have := q2 b hb; simp at this; omega) (fun g => absurd g h0)
      rcases hr with ⟨rfl, e⟩ | ⟨b, o, c, ex, cs, m, rfl, _⟩
      · exact absurd e h0
      · refine pNilS_s ?_
        exact go
    exact hnil
/-- The places behind the elements turned to nothing. -/
theorem clear_v {v : AV} {l : List AV} {j : Nat} {z : AV} {k : AH → Prop} (hM : Mem H S) (hr : FrV S v l) (hj : l.length ≤ j) (hc : j ≤ capOf v) (hz : z.one = true) (hk : ∀ H' S', Mem H' S' → S'.n = S.n → (∀ b, ¬ bkOf v b → S'.ob b = S.ob b) → FrV S' v l → k H') :
    pSlice 1 v (some (.int 0 l.length)) (some (.int 0 j)) none fun t => pClear 1 [z] t H k := by
  rcases hr with ⟨rfl, rfl⟩ | ⟨b, c, ex, cs, rfl, h2, h3, h4, h5, h6⟩
  · have : j = 0 := by have : j ≤ 0 := hc; omega
    subst this
    exact bT_i rfl (bT_i rfl (bT_i rfl (hk H S hM rfl (fun _ _ => rfl) (.inl ⟨rfl, rfl⟩))))
  · have hc' : j ≤ c := hc
    refine pSlice_s hj hc' (.inl rfl) (.inl rfl) ?_
    show bT (Nat.beq 1 1) (getK H b fun c m w => bT (Nat.ble w 1) (storeL (repL (j - l.length) [z]) c (0 + l.length) fun c' o' => bT (Nat.ble o' m) (setK H b (.cells c' m w) k)))
    refine bT_i rfl (hM.getK_i h2 fun cc hcc => bT_i rfl ?_)
    have rl : (repL (j - l.length) [z]).length = j - l.length := by rw [repL_length]; simp
    rw [Nat.zero_add]
    refine storeL_i _ hcc (by omega) (fun a ha => by have := repL_mem ha; simp at this; subst this; exact hz) fun c' hc2 => bT_i (Nat.ble_eq_true_of_le (by omega)) ?_
    have hsl : (spliceL cs l.length (repL (j - l.length) [z])).length = cs.length := spliceL_length (by omega)
    rw [← hsl]
    refine hM.setC (hM.lt (by rw [h2]; simp)) rfl hc2 fun H' h' => ?_
    refine hk H' _ h' rfl (fun x hx => LS.set_ob_ne _ _ hx) (.inr ⟨b, c, ex, _, rfl, LS.set_ob_self _ _ _, by rw [hsl]; exact h3, h4, ?_, fun a ha => ?_⟩)
    · unfold spliceL
      rw [List.append_assoc, List.take_append_of_le_length (by simp; omega), h5]
      exact List.take_of_length_le (Nat.le_refl _)
    · simp only [spliceL, List.mem_append] at ha
      rcases ha with (g | g) | g
      · exact h6 a (List.mem_of_mem_take g)
      · have := repL_mem g; simp at this; subst this; exact hz
      · exact h6 a (List.mem_of_mem_drop g)
theorem pSlice3_v {v : AV} {l : List AV} {i j : Nat} {k : AV → Prop} (hr : FrV S v l) (hij : i ≤ j) (hj : j ≤ l.length) (hk : ∀ v', k v') : pSlice 1 v (some (.int 0 i)) (some (.int 0 j)) (some (.int 0 l.length)) k := by
  rcases hr with ⟨rfl, rfl⟩ | ⟨b, c, ex, cs, rfl, h2, h3, h4, h5, h6⟩
  · simp at hj
    subst hj
    have : i = 0 := by omega
    subst this
    exact bT_i rfl (bT_i rfl (bT_i rfl (hk _)))
  · show bT (Nat.beq 1 1) (bT (Nat.ble i j) (bT (Nat.ble j l.length) (bT (Nat.ble l.length c) (forceN (Nat.add 0 (Nat.mul i 1)) fun o' => forceN (Nat.sub j i) fun n => forceN (Nat.sub l.length i) fun c' => k (.slice b o' n c' 1 (ex || Option.isSome (some (AV.int 0 l.length))))))))
    refine bT_i rfl (bT_i (Nat.ble_eq_true_of_le hij) (bT_i (Nat.ble_eq_true_of_le hj) (bT_i (Nat.ble_eq_true_of_le h4) ?_)))
    simp only [forceN_eq]
    exact hk _
theorem f29_i {v : AV} {l : List AV} {i j : Nat} (hM : Mem H S) (hr : FrV S v l) (hij : i ≤ j) (hj : j ≤ l.length) (hl : l.length ≤ 1000000) (h1 : ∀ a ∈ l, a.one = true)
    (hK : ∀ H' S' v', Mem H' S' → S.n ≤ S'.n → (∀ b, b < S.n → ¬ bkOf v b → S'.ob b = S.ob b) → FrV S' v' (l.take i ++ l.drop j) → (exF v → exF v') → (∀ b, bkOf v' b → bkOf v b) → K (.ret v') H') : f29 v (i : Int) (j : Int) H K := by
  show f29_q0 f29_rr K (f29_q1 f29_rr K) v (i : Int) (j : Int) H
  unfold f29_q0
  refine hr.len ?_
  simp only [cI_z]
  refine pSlice3_v hr hij hj fun v' => ?_
  simp only [iEq_d]
  refine bI_dec (fun e => ?_) (fun e => ?_)
  · have : i = j := by omega
    subst this
    exact hK H S v hM (Nat.le_refl _) (fun _ _ _ => rfl) (by rw [List.take_append_drop]; exact hr) id (fun _ h => h)
  · refine hr.len ?_
    simp only [cI_z]
    have hcap : l.length ≤ capOf v := by
      rcases hr with ⟨rfl, rfl⟩ | ⟨b, c, ex, cs, rfl, h2, h3, h4, h5, h6⟩
      · exact Nat.zero_le _
      · exact h4
    refine pSlice_f hr (show i ≤ l.length by omega) fun v6 f6 b6 c6 e6 => ?_
    refine pSlice_v (hr.rd hM (Q := fun _ => True) fun _ _ _ => trivial) hj (Nat.le_refl _) (.inl rfl) (.inr ⟨rfl, rfl⟩) fun v7 r7 => ?_
    have e7 : (l.drop j).take (l.length - j) = l.drop j := List.take_of_length_le (by simp)
    rw [e7] at r7
    have tl : (l.take i).length = i := by simp; omega
    have dl : (l.drop j).length = l.length - j := by simp
    refine pApp_v hM f6 r7 (by omega) (fun a ha => h1 a (List.mem_of_mem_drop ha)) fun H2 S2 v8 h2 n2 k2 r8 b8 e8 _ g8 => ?_
    obtain ⟨q1, q2⟩ := g8 (by rw [c6]; omega)
    refine r8.len ?_
    simp only [cI_z]
    refine clear_v h2 r8 (by rw [List.length_append]; omega) (by rw [q1, c6]; exact hcap) rfl fun H3 S3 h3 n3 k3 r3 => ?_
    show f29_q1 f29_rr K v8 H3
    unfold f29_q1
    refine hK H3 S3 v8 h3 (by omega) (fun b hb hnb => ?_) r3 (fun g => e8 (e6 g)) (fun b g => (b6 b).1 (q2 b g))
    have hn6 : ¬ bkOf v6 b := fun g => hnb ((b6 b).1 g)
    rw [k3 b (fun g => hn6 (q2 b g))]
    exact k2 b hb hn6
theorem f30_i {v : AV} {l : List AV} {i j : Nat} (hM : Mem H S) (hr : FrV S v l) (hij : i ≤ j) (hj : j ≤ l.length) (hl : l.length ≤ 1000000) (h1 : ∀ a ∈ l, a.one = true)
    (hK : ∀ H' S' v', Mem H' S' → S.n ≤ S'.n → (∀ b, b < S.n → ¬ bkOf v b → S'.ob b = S.ob b) → FrV S' v' (l.take i ++ l.drop j) → (exF v → exF v') → (∀ b, bkOf v' b → bkOf v b) → K (.ret v') H') : f30 v (i : Int) (j : Int) H K := by
  show f30_q0 f30_rr K (f30_q1 f30_rr K) v (i : Int) (j : Int) H
  unfold f30_q0
  refine hr.len ?_
  simp only [cI_z]
  refine pSlice3_v hr hij hj fun v' => ?_
  simp only [iEq_d]
  refine bI_dec (fun e => ?_) (fun e => ?_)
  · have : i = j := by omega
    subst this
    exact hK H S v hM (Nat.le_refl _) (fun _ _ _ => rfl) (by rw [List.take_append_drop]; exact hr) id (fun _ h => h)
  · refine hr.len ?_
    simp only [cI_z]
    have hcap : l.length ≤ capOf v := by
      rcases hr with ⟨rfl, rfl⟩ | ⟨b, c, ex, cs, rfl, h2, h3, h4, h5, h6⟩
      · exact Nat.zero_le _
      · exact h4
    refine pSlice_f hr (show i ≤ l.length by omega) fun v6 f6 b6 c6 e6 => ?_
    refine pSlice_v (hr.rd hM (Q := fun _ => True) fun _ _ _ => trivial) hj (Nat.le_refl _) (.inl rfl) (.inr ⟨rfl, rfl⟩) fun v7 r7 => ?_
    have e7 : (l.drop j).take (l.length - j) = l.drop j := List.take_of_length_le (by simp)
    rw [e7] at r7
    have tl : (l.take i).length = i := by simp; omega
    have dl : (l.drop j).length = l.length - j := by simp
    refine pApp_v hM f6 r7 (by omega) (fun a ha => h1 a (List.mem_of_mem_drop ha)) fun H2 S2 v8 h2 n2 k2 r8 b8 e8 _ g8 => ?_
    obtain ⟨q1, q2⟩ := g8 (by rw [c6]; omega)
    refine r8.len ?_
    simp only [cI_z]
    refine clear_v h2 r8 (by rw [List.length_append]; omega) (by rw [q1, c6]; exact hcap) rfl fun H3 S3 h3 n3 k3 r3 => ?_
    show f30_q1 f30_rr K v8 H3
    unfold f30_q1
    refine hK H3 S3 v8 h3 (by omega) (fun b hb hnb => ?_) r3 (fun g => e8 (e6 g)) (fun b g => (b6 b).1 (q2 b g))
    have hn6 : ¬ bkOf v6 b := fun g => hnb ((b6 b).1 g)
    rw [k3 b (fun g => hn6 (q2 b g))]
    exact k2 b hb hn6

theorem f34_i {n : Nat} (hM : Mem H S) (hn : n ≤ 1000000) (hK : ∀ H' S' v', Mem H' S' → Ext S S' → FrV S' v' [] → exF v' → (∀ b, bkOf v' b → S.n ≤ b) → K (.ret v') H') : f34 .nslice (n : Int) H K := by
  show f34_q0 f34_rr K (f34_q1 f34_rr K (f34_q2 f34_rr K)) .nslice (n : Int) H
  unfold f34_q0
  simp only [iLt_d]
  rw [decide_eq_false (show ¬ ((n : Int) < Int.ofNat 0) by have : Int.ofNat 0 = 0 := rfl; omega)]
  simp only [bI_ff]
  unfold f34_q1
  refine pCap_n ?_
  simp only [cI_z, pLen_nil, isub, io0]
  refine w0 (by omega) (by omega) ?_
  refine w0 (by omega) (by omega) ?_
  rw [show (n : Int) - (0 - 0) = (n : Int) by omega, iLt_d]
  refine bI_dec (fun h => ?_) (fun h => ?_)
  · refine pCap_n ?_
    simp only [cI_z]
    refine pSlice_f (v := .nslice) (l := []) (S := S) (j := 0) (.inl ⟨rfl, rfl⟩) (Nat.le_refl _) fun v9 f9 b9 c9 e9 => ?_
    have h9 : v9 = .nslice := by
      rcases f9 with ⟨h, _⟩ | ⟨b, c, ex, cs, h, _⟩
      · exact h
      · exact ((b9 b).1 (by rw [h]; rfl)).elim
    subst h9
    refine pAppZ_i (by omega) ?_
    show bT (Nat.ble 1 1) (bI (Nat.beq n 0) _ _)
    refine bT_i rfl ?_
    rw [nbq (show n ≠ 0 by omega)]
    refine bT_i (Nat.ble_eq_true_of_le (show n * 16 ≤ _ by omega)) ?_
    have rl : (repL n [AV.str 0 0]).length = n := by rw [repL_length]; simp
    refine storeL_new (fun a ha => by have := repL_mem ha; simp at this; subst this; rfl) fun c hc => hM.newC hc fun H1 h1 => ?_
    simp only [pLen_nil, cI_z]
    refine pSlice_s (i := 0) (j := 0) (Nat.le_refl _) (Nat.zero_le _) (.inr ⟨rfl, rfl⟩) (.inl rfl) ?_
    exact hK H1 _ _ h1 (Ext.push _ _) (.inr ⟨S.n, n, false, _, rfl, LS.push_ob_self _ _, rl, Nat.zero_le _, by simp, fun a ha => by have := repL_mem ha; simp at this; subst this; rfl⟩) rfl (fun b hb => by have : b = S.n := hb; omega)
  · exact hK H S .nslice hM (Ext.refl S) (.inl ⟨rfl, rfl⟩) trivial (fun _ h => h.elim)
/-- A list of rows, each read where it lies. -/
def RRs (S : LS) (vs : List AV) (LL : List (List AV)) : Prop := vs.length = LL.length ∧ ∀ (j : Nat) (v : AV) (c : List AV), vs[j]? = some v → LL[j]? = some c → RdV S (fun _ => True) v c
theorem RRs.ext {S' : LS} {vs : List AV} {LL : List (List AV)} (h : RRs S vs LL) (hM : Mem H S) (hx : Ext S S') : RRs S' vs LL := ⟨h.1, fun j v c h1 h2 => (h.2 j v c h1 h2).ext hM hx⟩
theorem f23_l4_i {a : AV} {vs : List AV} {LL : List (List AV)} {S0 : LS} {H0 : AH} {Q : Nat → Prop} (hM0 : Mem H0 S0) (ha : RdV S0 Q a vs) (hv : RRs S0 vs LL) (htot : LL.flatten.length ≤ 1000000) (hone : ∀ x ∈ LL.flatten, x.one = true)
    (hK : ∀ H' S' v', Mem H' S' → Ext S0 S' → FrV S' v' LL.flatten → exF v' → (∀ b, bkOf v' b → S0.n ≤ b) → K (.ret v') H') :
    ∀ (n i : Nat) {H : AH} {S : LS} {v : AV}, Mem H S → Ext S0 S → FrV S v (LL.take i).flatten → exF v → (∀ b, bkOf v b → S0.n ≤ b) → i ≤ vs.length → vs.length - i < n → vs.length ≤ 1000000 → f23_l4 f23_rr K n v a vs.length i H
  | 0, _, _, _, _, _, _, _, _, _, _, h, _ => by omega
  | n + 1, i, H, S, v, hM, hx, hf, he, hb, hi, hn, hlv => by
    have hlen := hv.1
    show f23_q4 f23_rr K (f23_l4 f23_rr K n) (f23_q3 f23_rr K) v a vs.length i H
    unfold f23_q4
    simp only [iLt_d]
    refine bI_dec (fun h => ?_) (fun h => ?_)
    · obtain ⟨x, hx1⟩ : ∃ x, vs[i]? = some x := ⟨vs[i], List.getElem?_eq_getElem (by omega)⟩
      obtain ⟨c, hc⟩ : ∃ c, LL[i]? = some c := ⟨LL[i]'(by omega), List.getElem?_eq_getElem (by omega)⟩
      refine (ha.ext hM0 hx).load hM hx1 ?_
      have e : (LL.take (i + 1)).flatten = (LL.take i).flatten ++ c := by rw [List.take_add_one, hc]; simp
      have hle : ((LL.take (i + 1)).flatten).length ≤ LL.flatten.length := by
        conv => rhs; rw [← List.take_append_drop (i + 1) LL, List.flatten_append, List.length_append]
        omega
      rw [e, List.length_append] at hle
      refine pApp_v hM hf ((hv.2 i x c hx1 hc).ext hM0 hx) (by omega) (fun y hy => hone y (List.mem_flatten.2 ⟨c, List.mem_of_getElem? hc, hy⟩)) fun H2 S2 v2 h2 n2 k2 r2 b2 e2 _ _ => ?_
      simp only [iadd, io1]
      refine w0 (by omega) (by omega) ?_
      rw [← e] at r2
      exact f23_l4_i hM0 ha hv htot hone hK n (i + 1) h2 (frame_ext hx n2 k2 hb) r2 (e2 he) (fun b g => (b2 b g).elim (hb b) fun g => by have := hx.n; omega) (by omega) (by omega) hlv
    · unfold f23_q3
      have e : LL.take i = LL := List.take_of_length_le (by omega)
      rw [e] at hf
      exact hK H S v hM hx hf he hb
theorem f23_l2_i {a : AV} {vs : List AV} {LL : List (List AV)} {Q : Nat → Prop} {x1 : AV → Int → AH → Prop} (hM : Mem H S) (ha : RdV S Q a vs) (hv : RRs S vs LL) (htot : LL.flatten.length ≤ 1000000) (hx1 : x1 a LL.flatten.length H) (hx1' : x1 = f23_p1 f23_rr K) :
    ∀ (n i : Nat), i ≤ vs.length → vs.length - i < n → vs.length ≤ 1000000 → f23_l2 f23_rr K n a ((LL.take i).flatten.length : Int) a vs.length i H
  | 0, _, _, h, _ => by omega
  | n + 1, i, hi, hn, hlv => by
    have hlen := hv.1
    show f23_q2 f23_rr K (f23_p1 f23_rr K) (f23_q5 f23_rr K (f23_l2 f23_rr K n)) a ((LL.take i).flatten.length : Int) a vs.length i H
    unfold f23_q2
    simp only [iLt_d]
    refine bI_dec (fun h => ?_) (fun h => ?_)
    · obtain ⟨x, hx⟩ : ∃ x, vs[i]? = some x := ⟨vs[i], List.getElem?_eq_getElem (by omega)⟩
      obtain ⟨c, hc⟩ : ∃ c, LL[i]? = some c := ⟨LL[i]'(by omega), List.getElem?_eq_getElem (by omega)⟩
      refine ha.load hM hx ?_
      refine (hv.2 i x c hx hc).len ?_
      simp only [cI_z, iadd]
      have e : (LL.take (i + 1)).flatten = (LL.take i).flatten ++ c := by rw [List.take_add_one, hc]; simp
      have hle : ((LL.take (i + 1)).flatten).length ≤ LL.flatten.length := by
        conv => rhs; rw [← List.take_append_drop (i + 1) LL, List.flatten_append, List.length_append]
        omega
      rw [e, List.length_append] at hle
      refine w0 (by omega) (by omega) ?_
      rw [decide_eq_false (show ¬ (((LL.take i).flatten.length : Int) + (c.length : Int) < Int.ofNat 0) by have : Int.ofNat 0 = 0 := rfl; omega)]
      simp only [bI_ff]
      unfold f23_q5
      simp only [iadd, io1]
      refine w0 (by omega) (by omega) ?_
      have e3 : ((LL.take i).flatten.length : Int) + (c.length : Int) = ((LL.take (i + 1)).flatten.length : Int) := by rw [e, List.length_append]; omega
      rw [e3]
      exact f23_l2_i hM ha hv htot hx1 hx1' n (i + 1) (by omega) (by omega) hlv
    · have e : LL.take i = LL := List.take_of_length_le (by omega)
      rw [e, ← hx1']
      exact hx1
theorem r23 : f23_rr = f34 := rfl
theorem f23_i {a : AV} {vs : List AV} {LL : List (List AV)} {Q : Nat → Prop} (hM : Mem H S) (ha : RdV S Q a vs) (hv : RRs S vs LL) (htot : LL.flatten.length ≤ 900000) (hlv : vs.length ≤ 900000) (hone : ∀ x ∈ LL.flatten, x.one = true)
    (hK : ∀ H' S' v', Mem H' S' → Ext S S' → FrV S' v' LL.flatten → exF v' → (∀ b, bkOf v' b → S.n ≤ b) → K (.ret v') H') : f23 a H K := by
  show f23_q0 f23_rr K (f23_l2 f23_rr K NL) a H
  unfold f23_q0
  refine ha.len ?_
  simp only [cI_z]
  refine f23_l2_i (x1 := f23_p1 f23_rr K) hM ha hv (by omega) ?_ rfl NL 0 (by omega) (by have : NL = 1000000 := rfl; omega) (by omega)
  show f23_q1 f23_rr K (f23_l4 f23_rr K NL) a (LL.flatten.length : Int) H
  unfold f23_q1
  rw [r23]
  refine f34_i hM (by omega) fun H1 S1 v1 h1 x1 f1 e1 b1 => ?_
  simp only [cR_ret]
  refine ha.len ?_
  simp only [cI_z]
  exact f23_l4_i hM ha hv (by omega) hone hK NL 0 h1 x1 (by simpa using f1) e1 b1 (by omega) (by have : NL = 1000000 := rfl; omega) (by omega)
end Go.Proofs.Ythjmjehfcjchfaa

namespace Go.Proofs.Ythjmjehfcjchfaa
open Go Go.X Go.Proofs.Ythjmjehfcjchfaa.G
set_option maxRecDepth 100000
set_option maxHeartbeats 1600000
set_option linter.unusedVariables false
set_option linter.unusedSimpArgs false
variable {H : AH} {S : LS} {K : KF}
def isS (a : AV) : Prop := match a with | .str _ _ => True | _ => False
theorem isS.one {a : AV} (h : isS a) : a.one = true := by cases a <;> first | exact h.elim | rfl
/-- Two slices without a place in common. -/
def Dj (v w : AV) : Prop := match v, w with | .slice b o n _ _ _, .slice b' o' n' _ _ _ => b = b' → o + n ≤ o' ∨ o' + n' ≤ o | _, _ => True
theorem Dj.symm {v w : AV} (h : Dj v w) : Dj w v := by
  cases v <;> cases w <;> first | exact trivial | skip
  intro e
  exact (h e.symm).symm
theorem Dj.of {v w : AV} (h : ∀ b, bkOf v b → ¬ bkOf w b) : Dj v w := by
  cases v <;> cases w <;> first | exact trivial | skip
  intro e
  exact absurd e (h _ rfl)
abbrev Chs : Type := List (AV × List AV)
def flt (P : Chs) : List AV := (P.map (·.2)).flatten
/-- A block that may be written. -/
def WrB (S : LS) (b : Nat) : Prop := ∃ cs, S.ob b = .cells cs 0
theorem WrB.of {S S' : LS} {b : Nat} (h : WrB S b) (e : S'.ob b = S.ob b) : WrB S' b := by
  obtain ⟨cs, h⟩ := h
  exact ⟨cs, e.trans h⟩
theorem FrV.wr {v : AV} {l : List AV} (h : FrV S v l) {b : Nat} (hb : bkOf v b) : WrB S b := by
  rcases h with ⟨rfl, _⟩ | ⟨b', c, ex, cs, rfl, h2, _⟩
  · exact hb.elim
  · have e : b = b' := hb
    subst e; exact ⟨cs, h2⟩
structure RowG (N : Prop) (S : LS) (W : Nat → Prop) (rb : Nat) (vl : AV) (t : Int) (P : Chs) : Prop where
  wl : ∀ b, W b → b < S.n
  wr : W rb
  rc : S.ob rb = .cells [vl, .int 0 t] 0
  fr : FrV S vl (P.map (·.1))
  ex : exF vl
  wv : ∀ b, bkOf vl b → W b ∧ b ≠ rb
  ch : ∀ p ∈ P, RdV S (fun b => W b ∧ b ≠ rb ∧ ¬ bkOf vl b ∧ WrB S b) p.1 p.2
  dj : P.Pairwise fun p q => Dj p.1 q.1
  st : ∀ p ∈ P, ∀ a ∈ p.2, isS a
  ne : N → ∀ p ∈ P, p.2 = [] → p.1 = .nslice
abbrev Row := RowG True
theorem RdV.one {Q : Nat → Prop} {v : AV} {l : List AV} (h : RdV S Q v l) : v.one = true := by
  rcases h with ⟨rfl, _⟩ | ⟨b, o, c, ex, cs, m, rfl, _⟩ <;> rfl
theorem FrV.one {v : AV} {l : List AV} (h : FrV S v l) : v.one = true := by
  rcases h with ⟨rfl, _⟩ | ⟨b, c, ex, cs, rfl, _⟩ <;> rfl
theorem RdV.bk {Q : Nat → Prop} {v : AV} {l : List AV} (h : RdV S Q v l) {b : Nat} (hb : bkOf v b) : Q b := by
  rcases h with ⟨rfl, _⟩ | ⟨b', o, c, ex, cs, m, rfl, _, hQ, _⟩
  · exact hb.elim
  · have e : b = b' := hb
    subst e; exact hQ
section
variable {N : Prop} {W : Nat → Prop} {rb : Nat} {vl : AV} {t : Int} {P : Chs}
theorem RowG.ext {S' : LS} (h : RowG N S W rb vl t P) (hM : Mem H S) (hx : Ext S S') : RowG N S' W rb vl t P :=
  ⟨fun b hb => Nat.lt_of_lt_of_le (h.wl b hb) hx.n, h.wr, (hx.ob rb (h.wl rb h.wr)).trans h.rc, h.fr.keep hM fun b _ hb => hx.ob b hb, h.ex, h.wv, fun p hp => (h.ch p hp).keep hM fun b hq hb => ⟨hx.ob b hb, hq.1, hq.2.1, hq.2.2.1, hq.2.2.2.of (hx.ob b hb)⟩, h.dj, h.st, h.ne⟩
theorem RowG.one (h : RowG N S W rb vl t P) : ∀ a ∈ P.map (·.1), a.one = true := fun a ha => by
  obtain ⟨p, hp, rfl⟩ := List.mem_map.1 ha
  exact RdV.one (h.ch p hp)
theorem RowG.str (h : RowG N S W rb vl t P) : ∀ a ∈ flt P, isS a := fun a ha => by
  obtain ⟨c, hc, hac⟩ := List.mem_flatten.1 ha
  obtain ⟨p, hp, rfl⟩ := List.mem_map.1 hc
  exact h.st p hp a hac
/-- The fields of the row. -/
theorem RowG.ldL {k : AV → Prop} (h : RowG N S W rb vl t P) (hM : Mem H S) (hk : k vl) : pNil (.ptr rb 0) (pFld 0 (.ptr rb 0) fun v => pLoad v H k) := by
  simp only [pNil_ptr, pFld_ptr, Nat.add_zero]
  exact pLoad_i hM h.rc rfl hk
theorem RowG.ldT {k : AV → Prop} (h : RowG N S W rb vl t P) (hM : Mem H S) (hk : k (.int 0 t)) : pNil (.ptr rb 0) (pFld 1 (.ptr rb 0) fun v => pLoad v H k) := by
  simp only [pNil_ptr, pFld_ptr]
  exact pLoad_i hM h.rc rfl hk
/-- Only what the row owns has turned. -/
structure FrW (S S' : LS) (W : Nat → Prop) : Prop where
  n : S.n ≤ S'.n
  ob : ∀ b, b < S.n → ¬ W b → S'.ob b = S.ob b
theorem FrW.refl (S : LS) (W : Nat → Prop) : FrW S S W := ⟨Nat.le_refl _, fun _ _ _ => rfl⟩
theorem FrW.ext {S S' : LS} (h : Ext S S') (W : Nat → Prop) : FrW S S' W := ⟨h.n, fun b hb _ => h.ob b hb⟩
theorem FrW.trans {A B C : LS} {W W' : Nat → Prop} (h : FrW A B W) (g : FrW B C W') (hw : ∀ b, b < A.n → W' b → W b) : FrW A C W :=
  ⟨Nat.le_trans h.n g.n, fun b hb hn => (g.ob b (Nat.lt_of_lt_of_le hb h.n) fun x => hn (hw b hb x)).trans (h.ob b hb hn)⟩
theorem RowG.setT {t' : Int} {k : AH → Prop} (h : RowG N S W rb vl t P) (hM : Mem H S) (hk : ∀ H' S', Mem H' S' → S'.n = S.n → FrW S S' W → RowG N S' W rb vl t' P → k H') : pNil (.ptr rb 0) (pFld 1 (.ptr rb 0) fun v => pStore 1 v (.int 0 t') H k) := by
  simp only [pNil_ptr, pFld_ptr]
  refine pStore_i hM h.rc (by omega) (by simp) rfl fun H' h' => ?_
  have hne : ∀ x, x ≠ rb → (S.set rb (.cells ([vl, .int 0 t].set (0 + 1) (.int 0 t')) 0)).ob x = S.ob x := fun x hx => LS.set_ob_ne _ _ hx
  refine hk H' _ h' rfl ⟨Nat.le_refl _, fun b _ hb => hne b fun e => hb (by rw [e]; exact h.wr)⟩ ⟨h.wl, h.wr, LS.set_ob_self _ _ _, h.fr.keep hM fun b hb _ => hne b (h.wv b hb).2, h.ex, h.wv, fun p hp => (h.ch p hp).keep hM fun b hq _ => ⟨hne b hq.2.1, hq.1, hq.2.1, hq.2.2.1, hq.2.2.2.of (hne b hq.2.1)⟩, h.dj, h.st, h.ne⟩
/-- Another list of chunks in the place of the old one. -/
theorem RowG.newVl0 {N' : Prop} {S' : LS} {H' : AH} {vl' : AV} {P' : Chs} {k : AH → Prop} (h : RowG N S W rb vl t P) (hM : Mem H S) (hM' : Mem H' S') (hn : S.n ≤ S'.n) (hf : ∀ b, b < S.n → ¬ bkOf vl b → S'.ob b = S.ob b) (f' : FrV S' vl' (P'.map (·.1))) (e' : exF vl') (b' : ∀ b, bkOf vl' b → bkOf vl b ∨ S.n ≤ b)
    (hP : ∀ p ∈ P', RdV S (fun b => W b ∧ b ≠ rb ∧ ¬ bkOf vl b ∧ WrB S b) p.1 p.2 ∧ (∀ a ∈ p.2, isS a) ∧ (N' → p.2 = [] → p.1 = .nslice)) (hdj : P'.Pairwise fun p q => Dj p.1 q.1)
    (hk : ∀ H2 S2, Mem H2 S2 → FrW S S2 W → RowG N' S2 (fun b => W b ∨ (S.n ≤ b ∧ b < S'.n)) rb vl' t P' → k H2) : pNil (.ptr rb 0) (pFld 0 (.ptr rb 0) fun v => pStore 1 v vl' H' k) := by
  have hrb := h.wl rb h.wr
  have hnrb : ¬ bkOf vl rb := fun g => (h.wv rb g).2 rfl
  have rc' : S'.ob rb = .cells [vl, .int 0 t] 0 := (hf rb hrb hnrb).trans h.rc
  simp only [pNil_ptr, pFld_ptr, Nat.add_zero]
  refine pStore_i hM' rc' (by omega) (by simp) (FrV.one f') fun H2 h2 => ?_
  have hne : ∀ x, x ≠ rb → (S'.set rb (.cells ([vl, .int 0 t].set 0 vl') 0)).ob x = S'.ob x := fun x hx => LS.set_ob_ne _ _ hx
  refine hk H2 _ h2 ⟨hn, fun b hb hw => ?_⟩ ⟨fun b hb => ?_, .inl h.wr, LS.set_ob_self _ _ _, f'.keep hM' fun b hb _ => hne b fun e => ?_, e', fun b hb => ?_, fun p hp => ?_, hdj, fun p hp => (hP p hp).2.1, fun hN p hp => (hP p hp).2.2 hN⟩
  · rw [hne b (fun e => hw (by rw [e]; exact h.wr))]
    exact hf b hb fun g => hw (h.wv b g).1
  · rcases hb with g | g
    · exact Nat.lt_of_lt_of_le (h.wl b g) hn
    · exact g.2
  · subst e
    rcases b' b hb with g | g
    · exact hnrb g
    · omega
  · have hbl := f'.lt hM' hb
    rcases b' b hb with g | g
    · exact ⟨.inl (h.wv b g).1, (h.wv b g).2⟩
    · exact ⟨.inr ⟨g, hbl⟩, by omega⟩
  · refine (hP p hp).1.keep hM fun b hq hb => ?_
    have e : (S'.set rb (.cells ([vl, .int 0 t].set 0 vl') 0)).ob b = S.ob b := by
      rw [hne b hq.2.1]
      exact hf b hb hq.2.2.1
    refine ⟨e, .inl hq.1, hq.2.1, fun g => ?_, hq.2.2.2.of e⟩
    rcases b' b g with q | q
    · exact hq.2.2.1 q
    · omega
theorem RowG.newVl {S' : LS} {H' : AH} {vl' : AV} {P' : Chs} {k : AH → Prop} (h : Row S W rb vl t P) (hM : Mem H S) (hM' : Mem H' S') (hn : S.n ≤ S'.n) (hf : ∀ b, b < S.n → ¬ bkOf vl b → S'.ob b = S.ob b) (f' : FrV S' vl' (P'.map (·.1))) (e' : exF vl') (b' : ∀ b, bkOf vl' b → bkOf vl b ∨ S.n ≤ b)
    (hP : ∀ p ∈ P', RdV S (fun b => W b ∧ b ≠ rb ∧ ¬ bkOf vl b ∧ WrB S b) p.1 p.2 ∧ (∀ a ∈ p.2, isS a) ∧ (p.2 = [] → p.1 = .nslice)) (hdj : P'.Pairwise fun p q => Dj p.1 q.1)
    (hk : ∀ H2 S2, Mem H2 S2 → FrW S S2 W → Row S2 (fun b => W b ∨ (S.n ≤ b ∧ b < S'.n)) rb vl' t P' → k H2) : pNil (.ptr rb 0) (pFld 0 (.ptr rb 0) fun v => pStore 1 v vl' H' k) :=
  h.newVl0 (N' := True) hM hM' hn hf f' e' b' (fun p hp => ⟨(hP p hp).1, (hP p hp).2.1, fun _ => (hP p hp).2.2⟩) hdj hk
/-- Another chunk in the place of one. -/
theorem RowG.setCh0 {N' : Prop} {j : Nat} {v' : AV} {c' : List AV} {q : Nat} {k : AH → Prop} (h : RowG N S W rb vl t P) (hM : Mem H S) (hj : j < P.length) (hr : RdV S (fun b => ¬ W b ∧ b < S.n ∧ WrB S b) v' c') (hs : ∀ a ∈ c', isS a) (hNN : N' → N) (hne : N' → c' = [] → v' = .nslice)
    (hk : ∀ H' S', Mem H' S' → S'.n = S.n → FrW S S' W → RowG N' S' (fun b => W b ∨ bkOf v' b) rb vl t (P.set j (v', c')) → k H') : pIdx 1 vl (.int q j) fun v => pStore 1 v v' H k := by
  refine h.fr.store hM (by simpa using hj) (RdV.one hr) fun H' S' h' n' k' f' => ?_
  have hnb : ∀ b, bkOf v' b → ¬ W b := fun b hb => (RdV.bk hr hb).1
  refine hk H' S' h' n' ⟨by omega, fun b _ hw => k' b fun g => hw (h.wv b g).1⟩ ⟨fun b hb => ?_, .inl h.wr, ?_, ?_, h.ex, fun b hb => ⟨.inl (h.wv b hb).1, (h.wv b hb).2⟩, fun p hp => ?_, ?_, fun p hp => ?_, fun hN p hp => ?_⟩
  · rw [n']
    rcases hb with g | g
    · exact h.wl b g
    · exact (RdV.bk hr g).2.1
  · rw [k' rb fun g => (h.wv rb g).2 rfl]; exact h.rc
  · rw [List.map_set]; exact f'
  · rcases List.mem_or_eq_of_mem_set hp with g | g
    · exact (h.ch p g).keep hM fun b hq _ => ⟨k' b hq.2.2.1, .inl hq.1, hq.2.1, hq.2.2.1, hq.2.2.2.of (k' b hq.2.2.1)⟩
    · subst g
      have hr2 : RdV S (fun b => bkOf v' b ∧ ¬ W b ∧ WrB S b) v' c' := by
        rcases hr with g | ⟨b, o, c, ex, cs, m, e1, e2, e3, e4⟩
        · exact .inl g
        · exact .inr ⟨b, o, c, ex, cs, m, e1, e2, ⟨by rw [e1]; rfl, e3.1, e3.2.2⟩, e4⟩
      exact hr2.keep hM fun b hq _ => ⟨k' b fun g => hq.2.1 (h.wv b g).1, .inr hq.1, fun e => hq.2.1 (by rw [e]; exact h.wr), fun g => hq.2.1 (h.wv b g).1, hq.2.2.of (k' b fun g => hq.2.1 (h.wv b g).1)⟩
  · rw [List.pairwise_iff_getElem]
    intro i1 i2 a1 a2 hlt
    have hd := List.pairwise_iff_getElem.1 h.dj i1 i2 (by simpa using a1) (by simpa using a2) hlt
    rw [List.getElem_set, List.getElem_set]
    have newold : ∀ p ∈ P, Dj v' p.1 := fun p hp => Dj.of fun b hb g => hnb b hb (RdV.bk (h.ch p hp) g).1
    by_cases e1 : j = i1
    · rw [if_pos e1, if_neg (by omega)]
      exact newold _ (List.getElem_mem _)
    · by_cases e2 : j = i2
      · rw [if_neg e1, if_pos e2]
        exact (newold _ (List.getElem_mem _)).symm
      · rw [if_neg e1, if_neg e2]
        exact hd
  · rcases List.mem_or_eq_of_mem_set hp with g | g
    · exact h.st p g
    · subst g; exact hs
  · rcases List.mem_or_eq_of_mem_set hp with g | g
    · exact h.ne (hNN hN) p g
    · subst g; exact hne hN
theorem RowG.setCh {j : Nat} {v' : AV} {c' : List AV} {q : Nat} {k : AH → Prop} (h : Row S W rb vl t P) (hM : Mem H S) (hj : j < P.length) (hr : RdV S (fun b => ¬ W b ∧ b < S.n ∧ WrB S b) v' c') (hs : ∀ a ∈ c', isS a) (hne : c' = [] → v' = .nslice)
    (hk : ∀ H' S', Mem H' S' → S'.n = S.n → FrW S S' W → Row S' (fun b => W b ∨ bkOf v' b) rb vl t (P.set j (v', c')) → k H') : pIdx 1 vl (.int q j) fun v => pStore 1 v v' H k :=
  h.setCh0 (N' := True) hM hj hr hs (fun x => x) (fun _ => hne) hk
end
end Go.Proofs.Ythjmjehfcjchfaa

namespace Go.Proofs.Ythjmjehfcjchfaa
open Go Go.X Go.Proofs.Ythjmjehfcjchfaa.G
set_option maxRecDepth 100000
set_option maxHeartbeats 1600000
set_option linter.unusedVariables false
set_option linter.unusedSimpArgs false
variable {H : AH} {S : LS} {K : KF}
theorem onTup_i {l : List AV} {k : List AV → Prop} (h : k l) : onTup (.tup l) k := h
theorem nth0 {a b : AV} {k : AV → Prop} (h : k a) : nthK [a, b] 0 k := h
theorem nth1 {a b : AV} {k : AV → Prop} (h : k b) : nthK [a, b] 1 k := h
theorem one_i {a : AV} {x : Prop} (h : a.one = true) (hx : x) : one a x := bT_i h hx
theorem flt_app (A B : Chs) : flt (A ++ B) = flt A ++ flt B := by simp [flt]
theorem flt_cons (p : AV × List AV) (B : Chs) : flt (p :: B) = p.2 ++ flt B := by simp [flt]
section
variable {W : Nat → Prop} {rb : Nat} {vl : AV} {t : Int} {P : Chs}
theorem f25_loop (hM : Mem H S) (h : Row S W rb vl t P) {i : Nat} (hi : i ≤ 1000000) (hP : P.length ≤ 900000)
    (hK1 : ∀ A p B, P = A ++ p :: B → (flt A).length ≤ i → i < (flt A).length + p.2.length → K (.ret (.tup [.int 0 A.length, .int 0 ((i - (flt A).length : Nat) : Int)])) H)
    (hK2 : (flt P).length ≤ i → K (.ret (.tup [.int 0 P.length, .int 0 ((i - (flt P).length : Nat) : Int)])) H) :
    ∀ (n : Nat) (A B : Chs), P = A ++ B → (flt A).length ≤ i → B.length < n → f25_l2 f25_rr K n (.ptr rb 0) ((i - (flt A).length : Nat) : Int) vl P.length A.length H
  | 0, _, _, _, _, h => by omega
  | n + 1, A, B, e, hA, hn => by
    show f25_q2 f25_rr K (f25_l2 f25_rr K n) (f25_q1 f25_rr K) (.ptr rb 0) ((i - (flt A).length : Nat) : Int) vl P.length A.length H
    unfold f25_q2
    simp only [iLt_d]
    have el : P.length = A.length + B.length := by rw [e]; simp
    refine bI_dec (fun g => ?_) (fun g => ?_)
    · cases B with
      | nil => simp at el; omega
      | cons p B =>
        have hp : P[A.length]? = some p := by rw [e, List.getElem?_append_right (Nat.le_refl _)]; simp
        have hcp : (P.map (·.1))[A.length]? = some p.1 := by rw [List.getElem?_map, hp]; rfl
        refine h.fr.load hM hcp ?_
        have hr := h.ch p (by rw [e]; simp)
        refine hr.len ?_
        simp only [cI_z]
        refine bI_dec (fun g2 => ?_) (fun g2 => ?_)
        · exact hK1 A p B e hA (by omega)
        · refine hr.len ?_
          simp only [cI_z, isub, iadd, io1]
          refine w0 (by omega) (by omega) ?_
          refine w0 (by simp at el; omega) (by simp at el; omega) ?_
          have ef : (flt (A ++ [p])).length = (flt A).length + p.2.length := by rw [flt_app, List.length_append]; simp [flt]
          have e1 : ((i - (flt A).length : Nat) : Int) - (p.2.length : Int) = ((i - (flt (A ++ [p])).length : Nat) : Int) := by rw [ef]; omega
          have e2 : ((A.length : Int) + 1) = ((A ++ [p]).length : Int) := by simp
          rw [e1, e2]
          exact f25_loop hM h hi hP hK1 hK2 n (A ++ [p]) B (by rw [e]; simp) (by rw [ef]; omega) (by simp at hn ⊢; omega)
    · have hB : B = [] := by
        cases B with
        | nil => rfl
        | cons p B => simp at el; omega
      subst hB
      have e' : P = A := by rw [e]; simp
      rw [← e'] at hA ⊢
      unfold f25_q1
      refine h.ldL hM ?_
      refine h.fr.len ?_
      simp only [cI_z, List.length_map]
      exact hK2 hA
theorem f25_i (hM : Mem H S) (h : Row S W rb vl t P) {i : Nat} (hi : i ≤ 1000000) (hP : P.length ≤ 900000)
    (hK1 : ∀ A p B, P = A ++ p :: B → (flt A).length ≤ i → i < (flt A).length + p.2.length → K (.ret (.tup [.int 0 A.length, .int 0 ((i - (flt A).length : Nat) : Int)])) H)
    (hK2 : (flt P).length ≤ i → K (.ret (.tup [.int 0 P.length, .int 0 ((i - (flt P).length : Nat) : Int)])) H) : f25 (.ptr rb 0) (i : Int) H K := by
  show f25_q0 f25_rr K (f25_l2 f25_rr K NL) (.ptr rb 0) (i : Int) H
  unfold f25_q0
  refine h.ldL hM ?_
  refine h.fr.len ?_
  simp only [cI_z, List.length_map]
  have := f25_loop hM h hi hP hK1 hK2 NL [] P rfl (Nat.zero_le _) (by have : NL = 1000000 := rfl; omega)
  exact this
end
/-! ### A value put into a slice -/
theorem f27_nil {vb : Nat} {x : AV} (hM : Mem H S) (hv : S.ob vb = .cells [x] 0) (hx : x.one = true) (hK : ∀ H', Mem H' (S.push (.cells [x] 0)) → K (.ret (.slice S.n 0 1 1 1 false)) H') : f27 .nslice ((0 : Nat) : Int) (.slice vb 0 1 1 1 true) H K := by
  show f27_q0 f27_rr K (f27_p2 f27_rr K) (f27_p1 f27_rr K) .nslice ((0 : Nat) : Int) (.slice vb 0 1 1 1 true) H
  unfold f27_q0
  refine pSlice_v (S := S) (Q := fun _ => True) (v := .nslice) (l := []) (i := 0) (j := 0) (.inl ⟨rfl, rfl⟩) (Nat.le_refl _) (Nat.le_refl _) (.inl rfl) (.inr ⟨rfl, rfl⟩) fun v1 _ => ?_
  simp only [pLen_slice, cI_z, iEq_d, pLen_nil]
  rw [decide_eq_false (show ¬ (((1 : Nat) : Int) = Int.ofNat 0) by decide), decide_eq_true (show (((0 : Nat) : Int) = 0) by rfl)]
  simp only [bI_ff, bI_tt]
  refine pApp_nil hM hv (by simp) (by omega) (by omega) (by omega) (fun a ha => by simp at ha; subst ha; exact hx) fun H1 h1 => ?_
  exact hK H1 h1
theorem f28_nil {vb : Nat} {x : AV} (hM : Mem H S) (hv : S.ob vb = .cells [x] 0) (hx : x.one = true) (hK : ∀ H', Mem H' (S.push (.cells [x] 0)) → K (.ret (.slice S.n 0 1 1 1 false)) H') : f28 .nslice ((0 : Nat) : Int) (.slice vb 0 1 1 1 true) H K := by
  show f28_q0 f28_rr K (f28_p2 f28_rr K) (f28_p1 f28_rr K) .nslice ((0 : Nat) : Int) (.slice vb 0 1 1 1 true) H
  unfold f28_q0
  refine pSlice_v (S := S) (Q := fun _ => True) (v := .nslice) (l := []) (i := 0) (j := 0) (.inl ⟨rfl, rfl⟩) (Nat.le_refl _) (Nat.le_refl _) (.inl rfl) (.inr ⟨rfl, rfl⟩) fun v1 _ => ?_
  simp only [pLen_slice, cI_z, iEq_d, pLen_nil]
  rw [decide_eq_false (show ¬ (((1 : Nat) : Int) = Int.ofNat 0) by decide), decide_eq_true (show (((0 : Nat) : Int) = 0) by rfl)]
  simp only [bI_ff, bI_tt]
  refine pApp_nil hM hv (by simp) (by omega) (by omega) (by omega) (fun a ha => by simp at ha; subst ha; exact hx) fun H1 h1 => ?_
  exact hK H1 h1
theorem insN_one {cs l : List AV} {i : Nat} {x : AV} (h : cs.take l.length = l) (hi : i ≤ l.length) : insN cs [x] l.length i = insAt l i x := by
  unfold insN insAt
  rw [h]
  have : cs.take i = l.take i := by
    conv => rhs; rw [← h]
    rw [List.take_take, Nat.min_eq_left hi]
  rw [this]
  simp
theorem f27k_i {v : AV} {l : List AV} {i vb : Nat} {x : AV} (hM : Mem H S) (hf : FrV S v l) (he : exF v) (hi : i ≤ l.length) (hv : S.ob vb = .cells [x] 0) (hx : x.one = true) (hnb : ¬ bkOf v vb) (hl : l.length ≤ 1000000)
    (hK : ∀ H' S' v', Mem H' S' → S.n ≤ S'.n → (∀ b, b < S.n → ¬ bkOf v b → S'.ob b = S.ob b) → FrV S' v' (insAt l i x) → exF v' → (∀ b, bkOf v' b → S.n ≤ b) → (∃ b, v' = .slice b 0 (insAt l i x).length (insAt l i x).length 1 false ∧ S'.ob b = .cells (insAt l i x) 0) → K (.ret v') H') : insK f27 16 v (i : Int) (.slice vb 0 1 1 1 true) H K := by
  rcases hf with ⟨rfl, rfl⟩ | ⟨b, c, ex, cs, rfl, h2, h3, h4, h5, h6⟩
  · have : i = 0 := by simp at hi; exact hi
    subst this
    refine .inl (f27_nil hM hv hx fun H1 h1 => ?_)
    exact hK H1 _ _ h1 (by simp) (fun b hb _ => LS.push_ob_lt _ _ hb) (.inr ⟨S.n, 1, false, [x], rfl, LS.push_ob_self _ _, rfl, Nat.le_refl _, rfl, fun a ha => by simp at ha; subst ha; exact hx⟩) rfl (fun b hb => by have : b = S.n := hb; omega) ⟨S.n, rfl, LS.push_ob_self _ _⟩
  · have he' : ex = false := he
    subst he'
    have hbn := hM.lt (show S.ob b ≠ _ by rw [h2]; simp)
    have el : (insAt l i x).length = l.length + 1 := insAt_len hi
    refine .inr ⟨S, b, l.length, c, i, vb, 1, cs, [x], hM, rfl, rfl, rfl, ⟨h2, h3, h4, hi, hv, rfl, by omega, hnb, by omega, h6, fun a ha => by simp at ha; subst ha; exact hx⟩, fun H1 h1 => ?_⟩
    rw [insN_one h5 hi] at h1
    refine hK H1 _ _ h1 (by simp) (fun b' hb hne => by rw [LS.push_ob_lt _ _ (by exact hb)]; exact LS.set_ob_ne _ _ hne) (.inr ⟨S.n, l.length + 1, false, insAt l i x, by rw [el], LS.push_ob_self (S.set b .dead) _, el, by rw [el]; exact Nat.le_refl _, List.take_of_length_le (Nat.le_refl _), fun a ha => ?_⟩) rfl (fun b' hb => by have : b' = S.n := hb; omega) ⟨S.n, by rw [el], LS.push_ob_self (S.set b .dead) _⟩
    simp only [insAt, List.mem_append, List.mem_cons] at ha
    rcases ha with g | g | g
    · exact h6 a (List.mem_of_mem_take (by rw [h5]; exact List.mem_of_mem_take g))
    · subst g; exact hx
    · exact h6 a (List.mem_of_mem_take (by rw [h5]; exact List.mem_of_mem_drop g))
theorem f28k_i {v : AV} {l : List AV} {i vb : Nat} {x : AV} (hM : Mem H S) (hf : FrV S v l) (he : exF v) (hi : i ≤ l.length) (hv : S.ob vb = .cells [x] 0) (hx : x.one = true) (hnb : ¬ bkOf v vb) (hl : l.length ≤ 1000000)
    (hK : ∀ H' S' v', Mem H' S' → S.n ≤ S'.n → (∀ b, b < S.n → ¬ bkOf v b → S'.ob b = S.ob b) → FrV S' v' (insAt l i x) → exF v' → (∀ b, bkOf v' b → S.n ≤ b) → (∃ b, v' = .slice b 0 (insAt l i x).length (insAt l i x).length 1 false ∧ S'.ob b = .cells (insAt l i x) 0) → K (.ret v') H') : insK f28 24 v (i : Int) (.slice vb 0 1 1 1 true) H K := by
  rcases hf with ⟨rfl, rfl⟩ | ⟨b, c, ex, cs, rfl, h2, h3, h4, h5, h6⟩
  · have : i = 0 := by simp at hi; exact hi
    subst this
    refine .inl (f28_nil hM hv hx fun H1 h1 => ?_)
    exact hK H1 _ _ h1 (by simp) (fun b hb _ => LS.push_ob_lt _ _ hb) (.inr ⟨S.n, 1, false, [x], rfl, LS.push_ob_self _ _, rfl, Nat.le_refl _, rfl, fun a ha => by simp at ha; subst ha; exact hx⟩) rfl (fun b hb => by have : b = S.n := hb; omega) ⟨S.n, rfl, LS.push_ob_self _ _⟩
  · have he' : ex = false := he
    subst he'
    have hbn := hM.lt (show S.ob b ≠ _ by rw [h2]; simp)
    have el : (insAt l i x).length = l.length + 1 := insAt_len hi
    refine .inr ⟨S, b, l.length, c, i, vb, 1, cs, [x], hM, rfl, rfl, rfl, ⟨h2, h3, h4, hi, hv, rfl, by omega, hnb, by omega, h6, fun a ha => by simp at ha; subst ha; exact hx⟩, fun H1 h1 => ?_⟩
    rw [insN_one h5 hi] at h1
    refine hK H1 _ _ h1 (by simp) (fun b' hb hne => by rw [LS.push_ob_lt _ _ (by exact hb)]; exact LS.set_ob_ne _ _ hne) (.inr ⟨S.n, l.length + 1, false, insAt l i x, by rw [el], LS.push_ob_self (S.set b .dead) _, el, by rw [el]; exact Nat.le_refl _, List.take_of_length_le (Nat.le_refl _), fun a ha => ?_⟩) rfl (fun b' hb => by have : b' = S.n := hb; omega) ⟨S.n, by rw [el], LS.push_ob_self (S.set b .dead) _⟩
    simp only [insAt, List.mem_append, List.mem_cons] at ha
    rcases ha with g | g | g
    · exact h6 a (List.mem_of_mem_take (by rw [h5]; exact List.mem_of_mem_take g))
    · subst g; exact hx
    · exact h6 a (List.mem_of_mem_take (by rw [h5]; exact List.mem_of_mem_drop g))
end Go.Proofs.Ythjmjehfcjchfaa

namespace Go.Proofs.Ythjmjehfcjchfaa
open Go Go.X Go.Proofs.Ythjmjehfcjchfaa.G
set_option maxRecDepth 100000
set_option maxHeartbeats 1600000
set_option linter.unusedVariables false
set_option linter.unusedSimpArgs false
variable {H : AH} {S : LS} {K : KF}
noncomputable def R15 : f15_R := (f25, f26, insK f27 16, insK f28 24)
theorem r15a : R15.1 = f25 := rfl
theorem r15b : R15.2.1 = f26 := rfl
theorem r15c : R15.2.2.1 = insK f27 16 := rfl
theorem r15d : R15.2.2.2 = insK f28 24 := rfl
noncomputable def g15 : AV → Int → AV → AH → KF → Prop := f15_r R15
theorem g15_ok : FunOk Try.prog 15 (fnX [.a, .i 0, .a] g15) := f15_rok R15 (CTblOk.cons f25_ok (CTblOk.cons f26_ok (CTblOk.cons f27k_ok (CTblOk.cons f28k_ok CTblOk.nil))))
/-- A row that holds a list of texts. -/
def RowE (S : LS) (W : Nat → Prop) (rb : Nat) (L : List AV) : Prop := ∃ vl P, Row S W rb vl L.length P ∧ flt P = L ∧ Chnk (P.map (·.2))
theorem pairwise_ins {α : Type} {R : α → α → Prop} {A B : List α} {x y : α} (h : (A ++ x :: B).Pairwise R) (h1 : ∀ a ∈ A, R a y) (h2 : R x y) (h3 : ∀ b ∈ B, R y b) : (A ++ x :: y :: B).Pairwise R := by
  rw [List.pairwise_append] at h ⊢
  obtain ⟨a1, a2, a3⟩ := h
  rw [List.pairwise_cons] at a2
  refine ⟨a1, List.pairwise_cons.2 ⟨fun b hb => ?_, List.pairwise_cons.2 ⟨h3, a2.2⟩⟩, fun a ha b hb => ?_⟩
  · rcases List.mem_cons.1 hb with e | g
    · rw [e]; exact h2
    · exact a2.1 b g
  · rcases List.mem_cons.1 hb with e | g
    · rw [e]; exact a3 a ha x (by simp)
    · rcases List.mem_cons.1 g with e | g
      · rw [e]; exact h1 a ha
      · exact a3 a ha b (by simp [g])
theorem set_mid {α : Type} {A B : List α} {x y : α} : (A ++ x :: B).set A.length y = A ++ y :: B := by
  rw [List.set_append_right _ _ (Nat.le_refl _)]; simp
theorem insAt_mid {α : Type} {A B : List α} {x y : α} : insAt (A ++ x :: B) (A.length + 1) y = A ++ x :: y :: B := by
  unfold insAt
  rw [List.take_append, List.drop_append, List.take_of_length_le (l := A) (by omega), List.drop_of_length_le (l := A) (by omega), show A.length + 1 - A.length = 1 by omega]
  simp
/-- A slice with three places. -/
theorem pSlice3_s {b o n c i j : Nat} {ex : Bool} {lo : Option AV} {k : AV → Prop} (hij : i ≤ j) (hj : j ≤ c) (hlo : lo = some (.int 0 i) ∨ lo = none ∧ i = 0) (hk : k (.slice b (o + i) (j - i) (j - i) 1 true)) : pSlice 1 (.slice b o n c 1 ex) lo (some (.int 0 j)) (some (.int 0 j)) k := by
  have go : bT (Nat.ble i j) (bT (Nat.ble j j) (bT (Nat.ble j c) (forceN (Nat.add o (Nat.mul i 1)) fun o' => forceN (Nat.sub j i) fun n => forceN (Nat.sub j i) fun c' => k (.slice b o' n c' 1 (ex || Option.isSome (some (AV.int 0 j))))))) := by
    refine bT_i (Nat.ble_eq_true_of_le hij) (bT_i (Nat.ble_eq_true_of_le (Nat.le_refl _)) (bT_i (Nat.ble_eq_true_of_le hj) ?_))
    simp only [forceN_eq, Option.isSome_some, Bool.or_true]
    have e : Nat.add o (Nat.mul i 1) = o + i := by show o + i * 1 = _; omega
    rw [e]
    exact hk
  rcases hlo with rfl | ⟨rfl, rfl⟩ <;> (show bT (Nat.beq 1 1) _; exact bT_i rfl go)
/-- What holds while a text is put in. -/
def InsG (S : LS) (W0 W : Nat → Prop) (n0 rb : Nat) (L : List AV) (i : Nat) (s : AV) (K : KF) : Prop :=
  ∀ H' S' W', Mem H' S' → FrW S S' W → RowE S' W' rb (insAt L i s) → (∀ b, W' b → W b ∨ S.n ≤ b) → K (.ret (.bool true)) H'
section
variable {W : Nat → Prop} {rb : Nat} {vl : AV} {t : Int} {A B : Chs} {p : AV × List AV} {at_ : Nat} {s : AV}
theorem g15_q2 (hM : Mem H S) (h : Row S W rb vl t (A ++ p :: B)) (ht : t = (flt (A ++ p :: B)).length) (hC : Chnk ((A ++ p :: B).map (·.2)) ∨ (A = [] ∧ B = [] ∧ p.2 = [])) (ha : at_ ≤ p.2.length) (hl : (flt (A ++ p :: B)).length ≤ 100000) (hPl : (A ++ p :: B).length ≤ 200000) (hs : isS s)
    (hK : ∀ H' S' W', Mem H' S' → FrW S S' W → RowE S' W' rb (insAt (flt (A ++ p :: B)) ((flt A).length + at_) s) → (∀ b, W' b → W b ∨ S.n ≤ b) → K (.ret (.bool true)) H') :
    f15_p2 R15 K (.ptr rb 0) s A.length at_ H := by
  have hpm : p ∈ A ++ p :: B := by simp
  have hp32 : p.2.length ≤ 32 := by
    rcases hC with g | ⟨_, _, g⟩
    · exact (g.sz A.length p.2 (by rw [List.getElem?_map, List.getElem?_append_right (Nat.le_refl _)]; simp)).2
    · rw [g]; exact Nat.zero_le _
  show f15_q2 R15 K (f15_p3 R15 K) (.ptr rb 0) s A.length at_ H
  unfold f15_q2
  rw [r15b, r15c]
  refine h.ldT hM ?_
  simp only [cI_z, iadd, io1]
  refine w0 (by omega) (by omega) ?_
  refine h.setT hM fun H1 S1 h1 n1 fr1 hR1 => ?_
  refine hR1.ldL h1 ?_
  have hcp : ((A ++ p :: B).map (·.1))[A.length]? = some p.1 := by rw [List.getElem?_map, List.getElem?_append_right (Nat.le_refl _)]; simp
  refine hR1.fr.load h1 hcp ?_
  have hrp := hR1.ch p hpm
  refine f26_i h1 hrp (by omega) (fun a g => (h.st p hpm a g).one) (h.ne trivial p hpm) fun H2 S2 v2 h2 x2 f2 e2 b2 nn2 => ?_
  simp only [cR_ret]
  refine one_i hs.one ?_
  refine pNewS_i h2 rfl (by simpa using hs.one) fun H3 h3 => ?_
  have x3 : Ext S2 (S2.push (.cells [s] 0)) := Ext.push _ _
  have f3 := f2.keep h2 (S' := S2.push (.cells [s] 0)) fun b _ hb => LS.push_ob_lt _ _ hb
  have hnb : ¬ bkOf v2 S2.n := fun g => by have := f2.lt h2 g; omega
  refine f27k_i h3 f3 e2 ha (LS.push_ob_self _ _) hs.one hnb (by omega) fun H4 S4 v4 h4 n4 k4 f4 e4 b4 ⟨cb, ev4, cb4⟩ => ?_
  simp only [cR_ret]
  have x12 : Ext S1 (S2.push (.cells [s] 0)) := x2.trans x3
  have x14 : Ext S1 S4 := ⟨Nat.le_trans x12.n n4, fun b hb => (k4 b (Nat.lt_of_lt_of_le hb x12.n) fun g => by have := b2 b g; omega).trans (x12.ob b hb)⟩
  have hR4 := hR1.ext h1 x14
  have el : (insAt p.2 at_ s).length = p.2.length + 1 := insAt_len ha
  have hstr : ∀ a ∈ insAt p.2 at_ s, isS a := fun a g => by
    simp only [insAt, List.mem_append, List.mem_cons] at g
    rcases g with g | g | g
    · exact h.st p hpm a (List.mem_of_mem_take g)
    · rw [g]; exact hs
    · exact h.st p hpm a (List.mem_of_mem_drop g)
  have hcbn : S1.n ≤ cb := by
    exact Nat.le_trans x12.n (b4 cb (by rw [ev4]; rfl))
  have hcb4n : cb < S4.n := h4.lt (by rw [cb4]; simp)
  have hcbw : ¬ W cb := fun g => by have := h.wl cb g; omega
  have hfl : ∀ c', flt (A ++ (v4, c') :: B) = flt A ++ (c' ++ flt B) := fun c' => by rw [flt_app, flt_cons]
  have hmap : (A ++ p :: B).map (·.2) = A.map (·.2) ++ p.2 :: B.map (·.2) := by simp
  have hinsf : insAt (flt (A ++ p :: B)) ((flt A).length + at_) s = flt A ++ (insAt p.2 at_ s ++ flt B) := by
    have := ins_flat (A := A.map (·.2)) (B := B.map (·.2)) (c := p.2) (x := s) ha
    unfold flt
    rw [hmap]
    rw [this]
    simp
  have htl : (t + 1) = ((flt A ++ (insAt p.2 at_ s ++ flt B)).length : Int) := by
    rw [ht, flt_app, flt_cons]
    simp only [List.length_append, el]
    omega
  show f15_q3 R15 K (f15_p4 R15 K) (.ptr rb 0) A.length v4 H4
  unfold f15_q3
  refine f4.len ?_
  simp only [cI_z, iLt_d, el]
  have hPj : A.length < (A ++ p :: B).length := by simp
  by_cases g32 : p.2.length + 1 ≤ 32
  · rw [decide_eq_false (show ¬ (Int.ofNat 32 < ((p.2.length + 1 : Nat) : Int)) by have : Int.ofNat 32 = 32 := rfl; omega)]
    simp only [Bool.not_false, bI_tt]
    refine hR4.ldL h4 ?_
    refine hR4.setCh h4 hPj (v' := v4) (c' := insAt p.2 at_ s) (f4.rd h4 fun b hb hlt => ⟨fun g => by have q1 := h.wl b g; have q2 := b4 b hb; have q3 := x12.n; omega, hlt, FrV.wr f4 hb⟩) hstr (fun g => by have := congrArg List.length g; rw [el] at this; simp at this) fun H5 S5 h5 n5 fr5 hR5 => ?_
    rw [set_mid] at hR5
    refine hK H5 S5 _ h5 ((fr1.trans (FrW.ext x14 W) fun b _ g => g).trans fr5 fun b _ g => g) ⟨vl, _, by rw [hinsf, ← htl]; exact hR5, by rw [hfl, hinsf], ?_⟩ (fun b hb => ?_)
    · have e : (A ++ (v4, insAt p.2 at_ s) :: B).map (·.2) = A.map (·.2) ++ insAt p.2 at_ s :: B.map (·.2) := by simp
      rw [e]
      rcases hC with g | ⟨ga, gb, gp⟩
      · rw [hmap] at g
        exact grow_chk g (by rw [el]; omega) (by rw [el]; omega)
      · subst ga; subst gb
        refine ⟨fun j x hx => ?_, fun j x y hx hy => ?_⟩
        · cases j with
          | zero => simp at hx; subst hx; rw [el]; omega
          | succ j => simp at hx
        · simp at hy
    · rcases hb with g | g
      · exact .inl g
      · have q2 := b4 b g
        have q3 := x12.n
        exact .inr (by omega)
  · rw [decide_eq_true (show (Int.ofNat 32 < ((p.2.length + 1 : Nat) : Int)) by have : Int.ofNat 32 = 32 := rfl; omega)]
    simp only [Bool.not_true, bI_ff]
    have e33 : p.2.length = 32 := by omega
    have hcg : Chnk ((A ++ p :: B).map (·.2)) := by
      rcases hC with g | ⟨_, _, g⟩
      · exact g
      · rw [g] at e33; simp at e33
    refine f4.len ?_
    simp only [cI_z, el]
    rw [show iEq (Int.ofNat 2) 0 = false from rfl]
    simp only [bI_ff]
    have etd : Int.tdiv ((p.2.length + 1 : Nat) : Int) (Int.ofNat 2) = ((16 : Nat) : Int) := by rw [e33]; rfl
    rw [etd]
    refine w0 (by omega) (by omega) ?_
    refine hR4.ldL h4 ?_
    rw [ev4, el]
    refine pSlice3_s (i := 0) (j := 16) (Nat.zero_le _) (by omega) (.inr ⟨rfl, rfl⟩) ?_
    have hc1 : ((insAt p.2 at_ s).take 16).length = 16 := by simp [el]; omega
    have hc2 : ((insAt p.2 at_ s).drop 16).length = 17 := by simp [el]; omega
    have hr1 : RdV S4 (fun b => ¬ W b ∧ b < S4.n ∧ WrB S4 b) (.slice cb (0 + 0) (16 - 0) (16 - 0) 1 true) ((insAt p.2 at_ s).take 16) := .inr ⟨cb, 0, 16, true, insAt p.2 at_ s, 0, by rw [hc1], by omega, ⟨hcbw, hcb4n, _, cb4⟩, cb4, by rw [hc1, el]; omega, by rw [List.drop_zero, hc1]⟩
    refine hR4.setCh h4 hPj hr1 (fun a g => hstr a (List.mem_of_mem_take g)) (fun g => by rw [g] at hc1; simp at hc1) fun H5 S5 h5 n5 fr5 hR5 => ?_
    rw [set_mid] at hR5
    show f15_q4 R15 K (f15_q5 R15 K) (.ptr rb 0) A.length (.slice cb 0 (p.2.length + 1) (p.2.length + 1) 1 false) ((16 : Nat) : Int) H5
    unfold f15_q4
    rw [r15d]
    refine hR5.ldL h5 ?_
    simp only [iadd, io1, pLen_slice, cI_z]
    refine w0 (by omega) (by omega) ?_
    refine pSlice3_s (i := 16) (j := p.2.length + 1) (by omega) (Nat.le_refl _) (.inl rfl) ?_
    refine h5.atDead (one_i rfl ?_)
    refine pNewS_i h5 rfl (by simp [AV.one]) fun H6 h6 => ?_
    refine bT_i (nbeq (by rw [h6.n, h5.n]; rfl)) ?_
    have ek : (A.length : Int) + 1 = ((A.length + 1 : Nat) : Int) := rfl
    rw [ek]
    obtain ⟨v8, hv8⟩ : ∃ v8, v8 = AV.slice cb (0 + 16) (p.2.length + 1 - 16) (p.2.length + 1 - 16) 1 true := ⟨_, rfl⟩
    rw [← hv8] at h6
    have x6 : Ext S5 (S5.push (.cells [v8] 0)) := Ext.push _ _
    have hR6 := hR5.ext h5 x6
    have hnb6 : ¬ bkOf vl S5.n := fun g => by have := hR5.fr.lt h5 g; omega
    refine f28k_i h6 hR6.fr hR6.ex (i := A.length + 1) (by simp) (LS.push_ob_self _ _) (by rw [hv8]; rfl) hnb6 (by rw [List.length_map, List.length_append, List.length_cons]; rw [List.length_append, List.length_cons] at hPl; omega) fun H7 S7 vl7 h7 n7 k7 f7 e7 b7 _ => ?_
    simp only [cR_ret]
    have fr7 : ∀ b, b < S5.n → ¬ bkOf vl b → S7.ob b = S5.ob b := fun b hb hn => (k7 b (by simp; omega) hn).trans (LS.push_ob_lt _ _ hb)
    have cb5 : S5.ob cb = .cells (insAt p.2 at_ s) 0 := (fr5.ob cb hcb4n hcbw).trans cb4
    have hcrb : cb ≠ rb := fun e => hcbw (by rw [e]; exact h.wr)
    have hcvl : ¬ bkOf vl cb := fun g => hcbw (h.wv cb g).1
    have hr8 : RdV S5 (fun b => (W b ∨ bkOf (AV.slice cb (0 + 0) (16 - 0) (16 - 0) 1 true) b) ∧ b ≠ rb ∧ ¬ bkOf vl b ∧ WrB S5 b) v8 ((insAt p.2 at_ s).drop 16) := .inr ⟨cb, 16, p.2.length + 1 - 16, true, insAt p.2 at_ s, 0, by rw [hv8, hc2, e33], by rw [hc2, e33]; omega, ⟨.inr rfl, hcrb, hcvl, _, cb5⟩, cb5, by rw [hc2, el, e33]; omega, List.take_of_length_le (Nat.le_refl _)⟩
    have hfresh : ∀ q ∈ A ++ p :: B, Dj v8 q.1 := fun q hq => Dj.of fun b hb g => by
      have e : b = cb := by rw [hv8] at hb; exact hb
      subst e
      exact hcbw (RdV.bk (h.ch q hq) g).1
    refine hR5.newVl h5 h7 (by have q := n7; have q2 := x6.n; omega) fr7 (P' := A ++ ((.slice cb (0 + 0) (16 - 0) (16 - 0) 1 true), (insAt p.2 at_ s).take 16) :: (v8, (insAt p.2 at_ s).drop 16) :: B) ?_ e7 (fun b hb => .inr (by have q := b7 b hb; have q2 := x6.n; omega)) ?_ ?_ fun H8 S8 h8 fr8 hR8 => ?_
    · have e := insAt_mid (A := A.map (·.1)) (B := B.map (·.1)) (x := AV.slice cb (0 + 0) (16 - 0) (16 - 0) 1 true) (y := v8)
      rw [List.length_map] at e
      simp only [List.map_append, List.map_cons] at f7 ⊢
      rw [e] at f7
      exact f7
    · intro q hq
      simp only [List.mem_append, List.mem_cons] at hq
      have old : q ∈ A ++ ((.slice cb (0 + 0) (16 - 0) (16 - 0) 1 true), (insAt p.2 at_ s).take 16) :: B → _ := fun g => (⟨hR5.ch q g, hR5.st q g, hR5.ne trivial q g⟩ : _ ∧ _ ∧ _)
      rcases hq with g | g | g | g
      · exact old (by simp [g])
      · exact old (by simp [g])
      · subst g
        exact ⟨hr8, fun a g => hstr a (List.mem_of_mem_drop g), fun g => by have := congrArg List.length g; rw [hc2] at this; simp at this⟩
      · exact old (by simp [g])
    · refine pairwise_ins hR5.dj (fun a g => (hfresh a (by simp [g])).symm) ?_ (fun b g => hfresh b (by simp [g]))
      rw [hv8]
      intro _
      exact .inl (by omega)
    · show f15_q5 R15 K H8
      unfold f15_q5
      have ef : flt (A ++ ((.slice cb (0 + 0) (16 - 0) (16 - 0) 1 true), (insAt p.2 at_ s).take 16) :: (v8, (insAt p.2 at_ s).drop 16) :: B) = flt A ++ (insAt p.2 at_ s ++ flt B) := by
        rw [flt_app, flt_cons, flt_cons, ← List.append_assoc ((insAt p.2 at_ s).take 16), List.take_append_drop]
      refine hK H8 S8 _ h8 (((fr1.trans (FrW.ext x14 W) fun b _ g => g).trans fr5 fun b _ g => g).trans fr8 fun b hb g => ?_) ⟨vl7, _, by rw [hinsf, ← htl]; exact hR8, by rw [ef, hinsf], ?_⟩ (fun b hb => ?_)
      · rcases g with g | g
        · exact g
        · have e : b = cb := g
          subst e; omega
      · have e : (A ++ ((AV.slice cb (0 + 0) (16 - 0) (16 - 0) 1 true), (insAt p.2 at_ s).take 16) :: (v8, (insAt p.2 at_ s).drop 16) :: B).map (·.2) = A.map (·.2) ++ (insAt p.2 at_ s).take 16 :: (insAt p.2 at_ s).drop 16 :: B.map (·.2) := by simp
        rw [e]
        rw [hmap] at hcg
        exact cut_chk hcg (by omega) (by omega) (by omega) (by omega)
      · rcases hb with (g | g) | g
        · exact .inl g
        · have e : b = cb := g
          subst e; exact .inr (by omega)
        · have := x14.n
          exact .inr (by omega)
end
end Go.Proofs.Ythjmjehfcjchfaa

namespace Go.Proofs.Ythjmjehfcjchfaa
open Go Go.X Go.Proofs.Ythjmjehfcjchfaa.G
set_option maxRecDepth 100000
set_option maxHeartbeats 1600000
set_option linter.unusedVariables false
set_option linter.unusedSimpArgs false
variable {H : AH} {S : LS} {K : KF}
section
variable {W : Nat → Prop} {rb : Nat}
theorem g15_q1 {vl : AV} {t : Int} {P : Chs} {i : Nat} {s : AV} (hM : Mem H S) (h : Row S W rb vl t P) (ht : t = (flt P).length) (hC : Chnk (P.map (·.2)) ∨ ∃ p, P = [p] ∧ p.2 = []) (hne : P ≠ []) (hi : i ≤ (flt P).length) (hl : (flt P).length ≤ 100000) (hPl : P.length ≤ 200000) (hs : isS s)
    (hK : ∀ H' S' W', Mem H' S' → FrW S S' W → RowE S' W' rb (insAt (flt P) i s) → (∀ b, W' b → W b ∨ S.n ≤ b) → K (.ret (.bool true)) H') :
    f15_p1 R15 K (.ptr rb 0) (i : Int) s H := by
  show f15_q1 R15 K (f15_p2 R15 K) (.ptr rb 0) (i : Int) s H
  unfold f15_q1
  rw [r15a]
  have conv : ∀ A p B, P = A ++ p :: B → Chnk ((A ++ p :: B).map (·.2)) ∨ (A = [] ∧ B = [] ∧ p.2 = []) := fun A p B e => by
    rcases hC with g | ⟨q, g1, g2⟩
    · rw [← e]; exact .inl g
    · rw [g1] at e
      cases A with
      | nil =>
        simp only [List.nil_append, List.cons.injEq] at e
        obtain ⟨e1, e2⟩ := e
        subst e1
        exact .inr ⟨rfl, e2.symm, g2⟩
      | cons a A => simp at e
  refine f25_i hM h (by omega) (by omega) (fun A p B e h1 h2 => ?_) (fun h1 => ?_)
  · simp only [cR_ret]
    refine onTup_i (nth0 ?_)
    simp only [cI_z]
    refine onTup_i (nth1 ?_)
    simp only [cI_z]
    refine h.ldL hM ?_
    refine h.fr.len ?_
    simp only [cI_z, List.length_map, iEq_d]
    have el : P.length = A.length + (B.length + 1) := by rw [e]; simp
    rw [decide_eq_false (show ¬ ((A.length : Int) = (P.length : Int)) by omega)]
    simp only [bI_ff]
    subst e
    refine g15_q2 hM h ht (conv A p B rfl) (by omega) hl hPl hs ?_
    rw [show (flt A).length + (i - (flt A).length) = i by omega]
    exact hK
  · simp only [cR_ret]
    refine onTup_i (nth0 ?_)
    simp only [cI_z]
    refine onTup_i (nth1 ?_)
    simp only [cI_z]
    refine h.ldL hM ?_
    refine h.fr.len ?_
    simp only [cI_z, List.length_map, iEq_d, decide_true, bI_tt, isub, io1]
    obtain ⟨A, p, e⟩ : ∃ A p, P = A ++ [p] := ⟨P.dropLast, P.getLast hne, (List.dropLast_concat_getLast hne).symm⟩
    have el : P.length = A.length + 1 := by rw [e]; simp
    refine w0 (by omega) (by omega) ?_
    refine h.ldL hM ?_
    refine w0 (by omega) (by omega) ?_
    have ek : (P.length : Int) - 1 = (A.length : Int) := by omega
    rw [ek]
    have hcp : (P.map (·.1))[A.length]? = some p.1 := by rw [List.getElem?_map, e, List.getElem?_append_right (Nat.le_refl _)]; simp
    refine h.fr.load hM hcp ?_
    refine (h.ch p (by rw [e]; simp)).len ?_
    simp only [cI_z]
    have ef : (flt P).length = (flt A).length + p.2.length := by rw [e, flt_app, List.length_append]; simp [flt]
    have e' : P = A ++ p :: [] := e
    subst e'
    refine g15_q2 hM h ht (conv A p [] rfl) (Nat.le_refl _) hl hPl hs ?_
    rw [show (flt A).length + p.2.length = i by omega]
    exact hK
theorem g15_i {L : List AV} {i : Nat} {s : AV} (hM : Mem H S) (hR : RowE S W rb L) (hi : i ≤ L.length) (hl : L.length ≤ 100000) (hs : isS s)
    (hK : ∀ H' S' W', Mem H' S' → FrW S S' W → RowE S' W' rb (insAt L i s) → (∀ b, W' b → W b ∨ S.n ≤ b) → K (.ret (.bool true)) H') : g15 (.ptr rb 0) (i : Int) s H K := by
  obtain ⟨vl, P, h, hf, hC⟩ := hR
  subst hf
  have hnum := hC.num
  have hfl : (P.map (·.2)).flatten = flt P := rfl
  rw [hfl, List.length_map] at hnum
  show f15_q0 R15 K (f15_p1 R15 K) (.ptr rb 0) (i : Int) s H
  unfold f15_q0
  simp only [pPEq_pn, Bool.not_true, onB_b, bI_ff, iLt_d]
  rw [decide_eq_false (show ¬ ((i : Int) < Int.ofNat 0) by have : Int.ofNat 0 = 0 := rfl; omega)]
  simp only [bI_ff]
  refine h.ldT hM ?_
  simp only [cI_z]
  rw [decide_eq_false (show ¬ (((flt P).length : Int) < (i : Int)) by omega)]
  simp only [bI_ff]
  refine h.ldL hM ?_
  refine h.fr.len ?_
  simp only [cI_z, List.length_map, iEq_d]
  refine bI_dec (fun g => ?_) (fun g => ?_)
  · have hP0 : P = [] := List.eq_nil_of_length_eq_zero (by have : Int.ofNat 0 = 0 := rfl; omega)
    subst hP0
    refine h.ldL hM ?_
    refine pNewS_i hM rfl (by simp [AV.one]) fun H1 h1 => ?_
    have x1 : Ext S (S.push (.cells [.nslice] 0)) := Ext.push _ _
    have hR1 := h.ext hM x1
    refine pApp_v h1 hR1.fr (Q := fun _ => True) (l' := [.nslice]) (.inr ⟨S.n, 0, 1, true, [.nslice], 0, rfl, Nat.le_refl _, trivial, LS.push_ob_self _ _, Nat.le_refl _, rfl⟩) (by simp) (by simp [AV.one]) fun H2 S2 v2 h2 n2 k2 f2 b2 e2 _ _ => ?_
    refine h.newVl hM h2 (by have q := x1.n; omega) (fun b hb hn => (k2 b (by have q := x1.n; omega) hn).trans (LS.push_ob_lt _ _ hb)) (P' := [(.nslice, [])]) f2 (e2 hR1.ex) (fun b hb => (b2 b hb).imp id fun q => by have q2 := x1.n; omega) (fun p hp => ?_) (List.pairwise_singleton _ _) fun H3 S3 h3 fr3 hR3 => ?_
    · simp only [List.mem_cons, List.not_mem_nil, or_false] at hp
      subst hp
      exact ⟨.inl ⟨rfl, rfl⟩, fun a ha => by simp at ha, fun _ => rfl⟩
    · refine g15_q1 h3 hR3 rfl (.inr ⟨_, rfl, rfl⟩) (by simp) hi (by simp [flt]) (by simp) hs fun H4 S4 W4 h4 fr4 hR4 ho4 => ?_
      refine hK H4 S4 W4 h4 (fr3.trans fr4 fun b hb g => ?_) hR4 fun b hb => ?_
      · rcases g with g | g
        · exact g
        · omega
      · rcases ho4 b hb with (g | g) | g
        · exact .inl g
        · exact .inr g.1
        · have := fr3.n; exact .inr (by omega)
  · refine g15_q1 hM h rfl (.inl hC) (fun e => g (by rw [e]; rfl)) hi hl (by omega) hs hK
theorem f13_i {L : List AV} (hM : Mem H S) (hR : RowE S W rb L) (hK : K (.ret (.int 0 L.length)) H) : f13 (.ptr rb 0) H K := by
  obtain ⟨vl, P, h, hf, hC⟩ := hR
  show f13_q0 f13_rr K (.ptr rb 0) H
  unfold f13_q0
  simp only [pPEq_pn, Bool.not_true, onB_b, bI_ff]
  refine h.ldT hM ?_
  simp only [cI_z]
  exact hK
theorem f14_i {L : List AV} (hM : Mem H S) (hR : RowE S W rb L) (hK : ∀ n : Nat, n ≤ L.length / 8 + 2 → K (.ret (.int 0 n)) H) : f14 (.ptr rb 0) H K := by
  obtain ⟨vl, P, h, hf, hC⟩ := hR
  have hnum := hC.num
  have hfl : (P.map (·.2)).flatten = flt P := rfl
  rw [hfl, List.length_map, hf] at hnum
  show f14_q0 f14_rr K (.ptr rb 0) H
  unfold f14_q0
  simp only [pPEq_pn, Bool.not_true, onB_b, bI_ff]
  refine h.ldL hM ?_
  refine h.fr.len ?_
  simp only [cI_z, List.length_map]
  exact hK _ hnum
/-- The place that a number means, if there is one. -/
def plc (n : Nat) (z : Int) : Option Nat := if z < 0 then (if z + n < 0 then none else some (z + n).toNat) else (if z < n then some z.toNat else none)
def i64 (z : Int) : Prop := -9223372036854775808 ≤ z ∧ z < 9223372036854775808
theorem f24_i {L : List AV} {z : Int} (hM : Mem H S) (hR : RowE S W rb L) (hz : i64 z) (hl : L.length ≤ 100000) (hK1 : plc L.length z = none → ∀ z', K (.ret (.tup [.int 0 z', .bool false])) H) (hK2 : ∀ i : Nat, plc L.length z = some i → i < L.length → K (.ret (.tup [.int 0 i, .bool true])) H) : f24 (.ptr rb 0) z H K := by
  obtain ⟨hz1, hz2⟩ := hz
  have r24 : f24_rr = f13 := rfl
  have q1 : ∀ z' : Int, z' = (if z < 0 then z + L.length else z) → f24_q1 f24_rr K (.ptr rb 0) z' H := fun z' e => by
    unfold f24_q1
    rw [r24]
    simp only [iLt_d, io0]
    by_cases h : z' < 0
    · rw [decide_eq_true h]
      simp only [Bool.not_true, bI_ff]
      refine hK1 ?_ z'
      unfold plc
      by_cases g : z < 0
      · rw [if_pos g] at e ⊢; rw [if_pos (by omega)]
      · rw [if_neg g] at e; omega
    · rw [decide_eq_false h]
      simp only [Bool.not_false, bI_tt]
      refine f13_i hM hR ?_
      simp only [cR_ret, cI_z]
      by_cases g2 : z' < L.length
      · rw [decide_eq_true g2]
        obtain ⟨i, rfl⟩ := Int.eq_ofNat_of_zero_le (show 0 ≤ z' by omega)
        refine hK2 i ?_ (by omega)
        unfold plc
        by_cases g : z < 0
        · rw [if_pos g] at e ⊢; rw [if_neg (by omega), ← e]; rfl
        · rw [if_neg g] at e ⊢; rw [if_pos (by omega), ← e]; rfl
      · rw [decide_eq_false g2]
        refine hK1 ?_ z'
        unfold plc
        by_cases g : z < 0
        · rw [if_pos g] at e; omega
        · rw [if_neg g] at e ⊢; rw [if_neg (by omega)]
  show f24_q0 f24_rr K (f24_q1 f24_rr K) (.ptr rb 0) z H
  unfold f24_q0
  rw [r24]
  simp only [iLt_d, io0, iadd]
  refine bI_dec (fun h => ?_) (fun h => ?_)
  · refine f13_i hM hR ?_
    simp only [cR_ret, cI_z]
    refine w0 (by omega) (by omega) ?_
    exact q1 _ (by rw [if_pos h])
  · exact q1 _ (by rw [if_neg h])
/-- The chunk of a place, and the place in it. -/
theorem find_at {vl : AV} {t : Int} {P : Chs} {i : Nat} (hM : Mem H S) (h : Row S W rb vl t P) (hi : i < (flt P).length) (hl : (flt P).length ≤ 100000) (hPl : P.length ≤ 200000)
    (hK : ∀ A p B at_ a, P = A ++ p :: B → at_ < p.2.length → (flt A).length + at_ = i → p.2[at_]? = some a → (flt P)[i]? = some a → K (.ret (.tup [.int 0 A.length, .int 0 ((at_ : Nat) : Int)])) H) : f25 (.ptr rb 0) (i : Int) H K := by
  refine f25_i hM h (by omega) (by omega) (fun A p B e h1 h2 => ?_) (fun h1 => by omega)
  have hat : i - (flt A).length < p.2.length := by omega
  refine hK A p B _ (p.2[i - (flt A).length]) e hat (by omega) (List.getElem?_eq_getElem hat) ?_
  have := at_flat (A := A.map (·.2)) (B := B.map (·.2)) (c := p.2) hat
  rw [show (A.map (·.2)).flatten = flt A from rfl, show (flt A).length + (i - (flt A).length) = i by omega] at this
  rw [e]
  unfold flt
  simp only [List.map_append, List.map_cons]
  rw [this]
  exact List.getElem?_eq_getElem hat
theorem f10_i {L : List AV} {z : Int} (hM : Mem H S) (hR : RowE S W rb L) (hz : i64 z) (hl : L.length ≤ 100000) (hK1 : plc L.length z = none → K (.ret (.tup [.str 0 0, .bool false])) H) (hK2 : ∀ (i : Nat) a, plc L.length z = some i → L[i]? = some a → K (.ret (.tup [a, .bool true])) H) : f10 (.ptr rb 0) z H K := by
  show f10_q0 f10_rr K (.ptr rb 0) z H
  have r10a : f10_rr.1 = f24 := rfl
  have r10b : f10_rr.2 = f25 := rfl
  unfold f10_q0
  rw [r10a, r10b]
  refine f24_i hM hR hz hl (fun hp z' => ?_) (fun i hp hi => ?_)
  · simp only [cR_ret]
    refine onTup_i (nth0 ?_)
    simp only [cI_z]
    refine onTup_i (nth1 ?_)
    simp only [onB_b, Bool.not_false, bI_tt]
    exact hK1 hp
  · simp only [cR_ret]
    refine onTup_i (nth0 ?_)
    simp only [cI_z]
    refine onTup_i (nth1 ?_)
    simp only [onB_b, Bool.not_true, bI_ff]
    obtain ⟨vl, P, h, hf, hC⟩ := hR
    have hnum := hC.num
    have hfl : (P.map (·.2)).flatten = flt P := rfl
    rw [hfl, List.length_map, hf] at hnum
    refine find_at hM h (by rw [hf]; exact hi) (by rw [hf]; exact hl) (by omega) fun A p B at_ a e h1 h2 h3 h4 => ?_
    simp only [cR_ret]
    refine onTup_i (nth0 ?_)
    simp only [cI_z]
    refine onTup_i (nth1 ?_)
    simp only [cI_z]
    refine h.ldL hM ?_
    have hcp : (P.map (·.1))[A.length]? = some p.1 := by rw [List.getElem?_map, e, List.getElem?_append_right (Nat.le_refl _)]; simp
    refine h.fr.load hM hcp ?_
    refine (h.ch p (by rw [e]; simp)).load hM h3 ?_
    rw [hf] at h4
    exact hK2 i a hp h4
theorem f9_i {L : List AV} (hM : Mem H S) (hR : RowE S W rb L) (hl : L.length ≤ 100000) (hK : ∀ H' S' v, Mem H' S' → Ext S S' → FrV S' v L → exF v → (∀ b, bkOf v b → S.n ≤ b) → K (.ret v) H') : f9 (.ptr rb 0) H K := by
  obtain ⟨vl, P, h, hf, hC⟩ := hR
  have hnum := hC.num
  have hfl : (P.map (·.2)).flatten = flt P := rfl
  rw [hfl, List.length_map, hf] at hnum
  have r9 : f9_rr = f23 := rfl
  show f9_q0 f9_rr K (.ptr rb 0) H
  unfold f9_q0
  rw [r9]
  simp only [pPEq_pn, Bool.not_true, onB_b, bI_ff]
  refine h.ldL hM ?_
  refine f23_i hM (h.fr.rd hM (Q := fun _ => True) fun _ _ _ => trivial) (LL := List.map (fun p : AV × List AV => p.2) P) ⟨by simp, fun j v c h1 h2 => ?_⟩ (by rw [hfl, hf]; omega) (by simp; omega) (fun x hx => (h.str x hx).one) fun H1 S1 v1 h1 x1 f1 e1 b1 => ?_
  · rw [List.getElem?_map] at h1 h2
    cases g : P[j]? with
    | none => rw [g] at h1; cases h1
    | some p =>
      rw [g] at h1 h2
      simp only [Option.map_some, Option.some.injEq] at h1 h2
      subst h1; subst h2
      exact (h.ch p (List.mem_of_getElem? g)).keep hM fun b _ _ => ⟨rfl, trivial⟩
  · simp only [cR_ret]
    rw [hfl, hf] at f1
    exact hK H1 S1 v1 h1 x1 f1 e1 b1
end
end Go.Proofs.Ythjmjehfcjchfaa

namespace Go.X
/-- A run from nothing, in any memory: what it leaves is nobody's. -/
theorem FunOk.known {P : Program} {g : Nat} {F : AH → KF → Prop} (hG : P.globals.size = 0) (hF : FunOk P g (fnX [] F)) (hr : F ⟨.e, 0⟩ fun o _ => isT o) : FunOk P g (fnX [] fun H K => K (.ret (.bool true)) H) := fun hb args H K h => by
  cases args with
  | cons a l => exact h.elim
  | nil =>
    refine ⟨.ret (.bool true), H, h, fun f w vs hr' hg hv => ?_⟩
    obtain ⟨o, H', ho, h2⟩ := hF hb [] ⟨.e, 0⟩ (fun o _ => isT o) hr
    obtain rfl := isT_out ho
    have h3 := h2 ⟨fun _ => False, f.blk, f.off, f.lim⟩ w vs (HRS.mk' (fun b hb => hb.elim) (fun b hb => hb.elim) (fun b c hb => hb.elim)) (fun g hg => by omega) (by generalize vs.toList = l at hv; cases hv; exact .nil)
    refine h3.mono fun e w' hp => ?_
    obtain ⟨f', s, u, rfl, hu⟩ := hp
    cases hu
    have hkeep : ∀ k, k < w.heap.size → w'.heap[k]? = w.heap[k]? := fun k hk => s.keep k hk fun b hb => hb.elim
    refine ⟨f, ⟨HRS.mk' hr'.dom (fun b hb ha => ?_) hr'.inj, .refl f, Nat.le_refl _, s.size, fun k hk _ => hkeep k hk, fun b hd ho => .inl ⟨b, hd, ho, rfl⟩, fun b _ _ => rfl, fun _ _ h => h, fun _ _ h => h, fun _ _ _ => rfl, s.os, s.tape, s.output⟩, .bool true, rfl, .bool true⟩
    rw [hkeep _ (hr'.toHRQ.block_lt hb ha)]
    exact hr'.obj b hb ha
end Go.X
namespace Go.Proofs.Ythjmjehfcjchfaa
open Go Go.X Go.Proofs.Ythjmjehfcjchfaa.G
set_option maxRecDepth 100000
set_option maxHeartbeats 1600000
set_option linter.unusedVariables false
set_option linter.unusedSimpArgs false
variable {H : AH} {S : LS} {K : KF}
theorem told_run : f7 ⟨.e, 0⟩ (fun o _ => isT o) = True := by kernel_rfl
noncomputable def toldK : AH → KF → Prop := fun H K => K (.ret (.bool true)) H
theorem told_ok : FunOk Try.prog 7 (fnX [] toldK) := FunOk.known (by kernel_rfl) f7_ok (told_run ▸ trivial)
def frZ (n : Int) (a : Int) : Int := if a < 0 then max (a + n) 0 else a
def toZ (n : Int) (b : Int) : Int := min (if b < 0 then b + n else b) (n - 1)
def prt (L : List AV) (a b : Int) : List AV := if frZ L.length a > toZ L.length b then [] else (L.drop (frZ L.length a).toNat).take (toZ L.length b + 1 - frZ L.length a).toNat
theorem pMin_i {a b : Int} {k : AV → Prop} (h : ∀ z, (z = a ∧ a < b ∨ z = b ∧ b ≤ a) → k (.int 0 z)) : foldK pMin2 [.int 0 a] (.int 0 b) k := by
  show bI (iLt a b) (k (.int 0 a)) (k (.int 0 b))
  rw [iLt_d]
  exact bI_dec (fun g => h a (.inl ⟨rfl, g⟩)) (fun g => h b (.inr ⟨rfl, by omega⟩))
theorem pMax_i {a b : Int} {k : AV → Prop} (h : ∀ z, (z = a ∧ b < a ∨ z = b ∧ a ≤ b) → k (.int 0 z)) : foldK pMax2 [.int 0 a] (.int 0 b) k := by
  show bI (iLt b a) (k (.int 0 a)) (k (.int 0 b))
  rw [iLt_d]
  exact bI_dec (fun g => h a (.inl ⟨rfl, g⟩)) (fun g => h b (.inr ⟨rfl, by omega⟩))
theorem RowE.str {W : Nat → Prop} {rb : Nat} {L : List AV} (h : RowE S W rb L) : ∀ a ∈ L, isS a := by
  obtain ⟨vl, P, h, hf, hC⟩ := h
  intro a ha
  exact h.str a (by rw [hf]; exact ha)
theorem RowE.ext {W : Nat → Prop} {rb : Nat} {L : List AV} {S' : LS} (h : RowE S W rb L) (hM : Mem H S) (hx : Ext S S') : RowE S' W rb L := by
  obtain ⟨vl, P, h, hf⟩ := h
  exact ⟨vl, P, h.ext hM hx, hf⟩
theorem RowE.wl {W : Nat → Prop} {rb : Nat} {L : List AV} (h : RowE S W rb L) {b : Nat} (hb : W b) : b < S.n := by
  obtain ⟨vl, P, h, _⟩ := h
  exact h.wl b hb
section
variable {W : Nat → Prop} {rb : Nat}
theorem f12_i {L : List AV} {a b : Int} (hM : Mem H S) (hR : RowE S W rb L) (hl : L.length ≤ 100000) (ha : i64 a) (hb : i64 b) (hK : ∀ H' S' v, Mem H' S' → Ext S S' → FrV S' v (prt L a b) → (∀ b, bkOf v b → S.n ≤ b) → K (.ret v) H') : f12 (.ptr rb 0) a b H K := by
  obtain ⟨ha1, ha2⟩ := ha
  obtain ⟨hb1, hb2⟩ := hb
  have r12a : f12_rr.1 = f9 := rfl
  have r12b : f12_rr.2.1 = f13 := rfl
  have r12c : f12_rr.2.2 = f26 := rfl
  have q2 : ∀ fr to : Int, fr = frZ L.length a → to = (if b < 0 then b + L.length else b) → f12_q2 f12_rr K (.ptr rb 0) fr to L.length H := fun fr to e1 e2 => by
    have hfr : 0 ≤ fr := by rw [e1]; unfold frZ; split <;> omega
    unfold f12_q2
    rw [r12a, r12c]
    simp only [isub, io1]
    refine w0 (by omega) (by omega) ?_
    refine pMin_i fun z hz => ?_
    have ez : z = toZ L.length b := by unfold toZ; rw [← e2]; omega
    simp only [cI_z, iLt_d]
    refine bI_dec (fun h => ?_) (fun h => ?_)
    · refine hK H S .nslice hM (Ext.refl S) (.inl ⟨rfl, ?_⟩) (fun _ h => h.elim)
      unfold prt
      rw [if_pos (by omega)]
    · obtain ⟨n, rfl⟩ := Int.eq_ofNat_of_zero_le hfr
      obtain ⟨q, rfl⟩ := Int.eq_ofNat_of_zero_le (show 0 ≤ z by omega)
      refine f9_i hM hR hl fun H1 S1 v1 h1 x1 f1 e1' b1 => ?_
      simp only [cR_ret, iadd, io1]
      refine w0 (by omega) (by omega) ?_
      have eq1 : (q : Int) + 1 = ((q + 1 : Nat) : Int) := rfl
      rw [eq1]
      have hqL : q + 1 ≤ L.length := by unfold toZ at ez; omega
      refine pSlice_v (f1.rd h1 (Q := fun _ => True) fun _ _ _ => trivial) (i := n) (j := q + 1) (by omega) hqL (.inl rfl) (.inl rfl) fun v2 r2 => ?_
      have e3 : prt L a b = (L.drop n).take (q + 1 - n) := by
        unfold prt
        rw [← e1, ← ez, if_neg (by omega)]
        congr 1
        omega
      rw [← e3] at r2
      have hlen : (prt L a b).length = q + 1 - n := by rw [e3]; simp; omega
      refine f26_i h1 r2 (by omega) (fun x hx => (hR.str x (by rw [e3] at hx; exact List.mem_of_mem_drop (List.mem_of_mem_take hx))).one) (fun g => by rw [g] at hlen; simp at hlen; omega) fun H3 S3 v3 h3 x3 f3 _ b3 _ => ?_
      simp only [cR_ret]
      exact hK H3 S3 v3 h3 (x1.trans x3) f3 fun b hb => by have := b3 b hb; have := x1.n; omega
  have q1 : ∀ fr : Int, fr = frZ L.length a → f12_q1 f12_rr K (f12_q2 f12_rr K) (.ptr rb 0) fr b L.length H := fun fr e1 => by
    unfold f12_q1
    simp only [iLt_d, iadd, io0]
    refine bI_dec (fun h => ?_) (fun h => ?_)
    · refine w0 (by omega) (by omega) ?_
      exact q2 fr _ e1 (by rw [if_pos h])
    · exact q2 fr _ e1 (by rw [if_neg h])
  show f12_q0 f12_rr K (f12_q1 f12_rr K (f12_q2 f12_rr K)) (.ptr rb 0) a b H
  unfold f12_q0
  rw [r12b]
  refine f13_i hM hR ?_
  simp only [cR_ret, cI_z, iLt_d, iadd, io0]
  refine bI_dec (fun h => ?_) (fun h => ?_)
  · refine w0 (by omega) (by omega) ?_
    refine pMax_i fun z hz => ?_
    simp only [cI_z]
    refine q1 z ?_
    unfold frZ
    rw [if_pos h]
    omega
  · exact q1 a (by unfold frZ; rw [if_neg h])
noncomputable def R20 : f20_R := (f13, g15)
noncomputable def g20 : AV → Bool → AV → AH → KF → Prop := f20_r R20
theorem g20_ok : FunOk Try.prog 20 (fnX [.a, .b, .a] g20) := f20_rok R20 (CTblOk.cons f13_ok (CTblOk.cons g15_ok CTblOk.nil))
def pushL (front : Bool) (L : List AV) (s : AV) : List AV := if front then s :: L else L ++ [s]
theorem g20_i {L : List AV} {front : Bool} {s : AV} (hM : Mem H S) (hR : RowE S W rb L) (hl : L.length ≤ 100000) (hs : isS s)
    (hK : ∀ H' S' W', Mem H' S' → FrW S S' W → RowE S' W' rb (pushL front L s) → (∀ b, W' b → W b ∨ S.n ≤ b) → K (.ret (.tup [])) H') : g20 (.ptr rb 0) front s H K := by
  have r20a : R20.1 = f13 := rfl
  have r20b : R20.2 = g15 := rfl
  show f20_q0 R20 K (.ptr rb 0) front s H
  unfold f20_q0
  rw [r20a, r20b]
  cases front with
  | true =>
    simp only [bI_tt]
    show g15 (.ptr rb 0) ((0 : Nat) : Int) s H _
    refine g15_i hM hR (Nat.zero_le _) hl hs fun H' S' W' h' f' hR' o' => ?_
    simp only [cR_ret, onB_b]
    exact hK H' S' W' h' f' hR' o'
  | false =>
    simp only [bI_ff]
    refine f13_i hM hR ?_
    simp only [cR_ret, cI_z]
    refine g15_i hM hR (Nat.le_refl _) hl hs fun H' S' W' h' f' hR' o' => ?_
    simp only [cR_ret, onB_b]
    have e : insAt L L.length s = pushL false L s := by unfold insAt pushL; simp
    rw [e] at hR'
    exact hK H' S' W' h' f' hR' o'
end
theorem f18_i (hM : Mem H S) (hK : ∀ H' S', Mem H' S' → Ext S S' → RowE S' (fun b => b = S.n) S.n [] → K (.ret (.ptr S.n 0)) H') : f18 H K := by
  show f18_q0 f18_rr K H
  unfold f18_q0
  refine pNew_i hM (by simp [AV.one]) fun H1 h1 => ?_
  exact hK H1 _ h1 (Ext.push _ _) ⟨.nslice, [], ⟨fun b hb => by rw [hb]; simp, rfl, LS.push_ob_self _ _, .inl ⟨rfl, rfl⟩, trivial, fun b hb => hb.elim, fun p hp => by simp at hp, List.Pairwise.nil, fun p hp => by simp at hp, fun _ p hp => by simp at hp⟩, rfl, ⟨fun j c hc => by simp at hc, fun j c d hc => by simp at hc⟩⟩
noncomputable def R8 : f8_R := (f18, g20)
noncomputable def g8 : AV → AH → KF → Prop := f8_r R8
theorem g8_ok : FunOk Try.prog 8 (fnX [.a] g8) := f8_rok R8 (CTblOk.cons f18_ok (CTblOk.cons g20_ok CTblOk.nil))
theorem r8a : R8.1 = f18 := rfl
theorem r8b : R8.2 = g20 := rfl
theorem g8_loop {Q : Nat → Prop} {l : List AV} {v : AV} {S0 : LS} {H0 : AH} {rb : Nat} (hM0 : Mem H0 S0) (hr : RdV S0 Q v l) (hl : l.length ≤ 1000) (hs : ∀ a ∈ l, isS a)
    (hK : ∀ H' S' W, Mem H' S' → Ext S0 S' → RowE S' W rb l → (∀ b, W b → S0.n ≤ b) → K (.ret (.ptr rb 0)) H') :
    ∀ (n i : Nat) {H : AH} {S : LS} {W : Nat → Prop}, Mem H S → Ext S0 S → RowE S W rb (l.take i) → (∀ b, W b → S0.n ≤ b) → i ≤ l.length → l.length - i < n → f8_l2 R8 K n (.ptr rb 0) v l.length i H
  | 0, _, _, _, _, _, _, _, _, _, h => by omega
  | n + 1, i, H, S, W, hM, hx, hR, hw, hi, hn => by
    show f8_q2 R8 K (f8_l2 R8 K n) (f8_p1 R8 K) (.ptr rb 0) v l.length i H
    unfold f8_q2
    rw [r8b]
    simp only [iLt_d]
    refine bI_dec (fun g => ?_) (fun g => ?_)
    · obtain ⟨a, ha⟩ : ∃ a, l[i]? = some a := ⟨l[i], List.getElem?_eq_getElem (by omega)⟩
      refine (hr.ext hM0 hx).load hM ha ?_
      refine g20_i hM hR (by simp; omega) (hs a (List.mem_of_getElem? ha)) fun H2 S2 W2 h2 f2 hR2 o2 => ?_
      simp only [cR_ret, iadd, io1]
      refine w0 (by omega) (by omega) ?_
      have x2 : Ext S0 S2 := ⟨Nat.le_trans hx.n f2.n, fun b hb => (f2.ob b (Nat.lt_of_lt_of_le hb hx.n) fun g => by have := hw b g; omega).trans (hx.ob b hb)⟩
      have e : pushL false (l.take i) a = l.take (i + 1) := by unfold pushL; rw [List.take_add_one, ha]; rfl
      rw [e] at hR2
      exact g8_loop hM0 hr hl hs hK n (i + 1) h2 x2 hR2 (fun b hb => (o2 b hb).elim (hw b) fun q => by have := hx.n; omega) (by omega) (by omega)
    · show f8_q1 R8 K (.ptr rb 0) H
      unfold f8_q1
      have e : l.take i = l := List.take_of_length_le (by omega)
      rw [e] at hR
      exact hK H S W hM hx hR hw
theorem g8_i {Q : Nat → Prop} {l : List AV} {v : AV} (hM : Mem H S) (hr : RdV S Q v l) (hl : l.length ≤ 1000) (hs : ∀ a ∈ l, isS a)
    (hK : ∀ H' S' W rb, Mem H' S' → Ext S S' → RowE S' W rb l → (∀ b, W b → S.n ≤ b) → K (.ret (.ptr rb 0)) H') : g8 v H K := by
  show f8_q0 R8 K (f8_l2 R8 K NL) v H
  unfold f8_q0
  rw [r8a]
  refine f18_i hM fun H1 S1 h1 x1 hR1 => ?_
  simp only [cR_ret]
  refine hr.len ?_
  simp only [cI_z]
  exact g8_loop hM hr hl hs (fun H' S' W => hK H' S' W S.n) NL 0 h1 x1 (by simpa using hR1) (fun b hb => by rw [hb]; exact Nat.le_refl _) (by omega) (by have : NL = 1000000 := rfl; omega)
theorem sNe_i {a : AV} (h : isS a) {k : AV → Prop} (hk : k (.bool false)) : sNe a a k := by
  cases a <;> first | exact h.elim | skip
  rename_i n x
  show k (.bool (!(Nat.beq n n && Nat.beq x x)))
  rw [Nat.beq_refl, Nat.beq_refl]
  exact hk
theorem sEq_i {a : AV} (h : isS a) {k : AV → Prop} (hk : k (.bool true)) : sEq a a k := by
  cases a <;> first | exact h.elim | skip
  rename_i n x
  rw [sEq_s, Nat.beq_refl, Nat.beq_refl]
  exact hk
theorem f11_loop {Q Q' : Nat → Prop} {v w : AV} {l : List AV} (hM : Mem H S) (h1 : RdV S Q v l) (h2 : RdV S Q' w l) (hl : l.length ≤ 100000) (hs : ∀ a ∈ l, isS a) (hK : K (.ret (.bool true)) H) :
    ∀ (n i : Nat), i ≤ l.length → l.length - i < n → f11_l2 f11_rr K n v w i H
  | 0, _, _, h => by omega
  | n + 1, i, hi, hn => by
    show f11_q2 f11_rr K (f11_l2 f11_rr K n) (f11_p1 f11_rr K) v w i H
    unfold f11_q2
    refine h1.len ?_
    simp only [cI_z, iLt_d]
    refine bI_dec (fun h => ?_) (fun h => ?_)
    · obtain ⟨a, ha⟩ : ∃ a, l[i]? = some a := ⟨l[i], List.getElem?_eq_getElem (by omega)⟩
      refine h1.load hM ha (h2.load hM ha (sNe_i (hs a (List.mem_of_getElem? ha)) ?_))
      simp only [onB_b, bI_ff, iadd, io1]
      refine w0 (by omega) (by omega) ?_
      exact f11_loop hM h1 h2 hl hs hK n (i + 1) (by omega) (by omega)
    · exact hK
theorem f11_i {Q Q' : Nat → Prop} {v w : AV} {l : List AV} (hM : Mem H S) (h1 : RdV S Q v l) (h2 : RdV S Q' w l) (hl : l.length ≤ 100000) (hs : ∀ a ∈ l, isS a) (hK : K (.ret (.bool true)) H) : f11 v w H K := by
  show f11_q0 f11_rr K (f11_l2 f11_rr K NL) v w H
  unfold f11_q0
  refine h1.len ?_
  simp only [cI_z]
  refine h2.len ?_
  simp only [cI_z, iEq_d, decide_true, Bool.not_true, bI_ff]
  exact f11_loop hM h1 h2 hl hs hK NL 0 (by omega) (by have : NL = 1000000 := rfl; omega)
end Go.Proofs.Ythjmjehfcjchfaa

namespace Go.Proofs.Ythjmjehfcjchfaa
open Go Go.X Go.Proofs.Ythjmjehfcjchfaa.G Go.ChangeShapes
set_option maxRecDepth 100000
set_option maxHeartbeats 1600000
set_option linter.unusedVariables false
set_option linter.unusedSimpArgs false
section
variable {H : Type} {enc : TypeId × Value → H} {W : World}
theorem texts_arg {r : Reach} {b0 : Nat} {v : Value} {d : DataW H} {ps : List MemPlace} (hv : Value.okWide Try.prog W r b0 22 v) (hd : DataW.Trod enc Try.prog W 0 (fun _ => true) true 22 v d ps) :
    ∃ (q : Option Rw) (l : List AV), (∀ x, q = some x → x.at_ W) ∧ (∀ a ∈ l, isS a) ∧ (l.length : Int) < 9223372036854775808 ∧ ∀ (gl : List (Option (List AV))) (rows : List (Option Rw)) (j : Nat), rows[j]? = some q → ∃ av, VR (firstE gl rows) av v ∧ RdV (firstM gl rows) (fun _ => True) av l := by
  rcases open_cells Try.underlying22 (by kernel_rfl) hv hd with rfl | ⟨b, x, len, cap, rfl, hl, hm, cur, ty, ⟨lo, hi⟩, hb, hsz, hx⟩
  · exact ⟨none, [], fun x h => (nomatch h), fun a h => by simp at h, by simp, fun gl rows j _ => ⟨.nslice, .nslice, .inl ⟨rfl, rfl⟩⟩⟩
  · have each : ∀ i, i < len → ∃ a : AV, (∃ n y, a = .str n y ∧ y < 256 ^ n ∧ cur[x + i]? = some (.string (toBA n y))) := fun i hi => by
      obtain ⟨u, n, y, h1, h2⟩ := hx i (by omega)
      obtain ⟨s, e1, _, hs⟩ := DataW.trod_string Try.underlying9 h2
      simp only [List.cons.injEq, and_true] at e1
      subst e1
      obtain ⟨n, xx, g1, g2, g3⟩ := str_of s
      exact ⟨.str n xx, n, xx, rfl, g1, by rw [← g2]; exact h1⟩
    obtain ⟨l, hl1, hl2⟩ := list_of len each
    have hmx : (maxLen : Int) < 9223372036854775808 := by decide
    refine ⟨some ⟨b, if cap = 0 then 0 else x, l⟩, l, fun q hq => ?_, fun a ha => ?_, by omega, fun gl rows j hj => ⟨.slice (gl.length + j) 0 len cap 1 true, row_slice hj hl (fun g => by show x = if cap = 0 then 0 else x; rw [if_neg (by omega)]), .inr ⟨gl.length + j, 0, cap, true, l, 2, by rw [hl1], by omega, trivial, firstM_row j hj, by omega, ?_⟩⟩⟩
    · cases hq
      refine ⟨cur, ty, lo, hi, hb, ?_, fun i a ha => ?_⟩
      · show (if cap = 0 then 0 else x) + l.length ≤ cur.size
        by_cases g : cap = 0
        · rw [if_pos g]; omega
        · rw [if_neg g]
          have := hsz (by omega)
          omega
      · have hj := (List.getElem?_eq_some_iff.1 ha).1
        have hj' : i < l.length := hj
        obtain ⟨n, y, e, hy, h3⟩ := hl2 i a ha
        show _ ∧ ∃ v, cur[(if cap = 0 then 0 else x) + i]? = some v ∧ _
        rw [if_neg (by omega)]
        subst e
        exact ⟨rfl, _, h3, .str _ _ hy⟩
    · obtain ⟨i, hi⟩ := List.getElem?_of_mem ha
      obtain ⟨n, y, e, _⟩ := hl2 i a hi
      rw [e]; trivial
    · rw [List.drop_zero]
      exact List.take_of_length_le (Nat.le_refl _)
end
end Go.Proofs.Ythjmjehfcjchfaa

namespace Go.Proofs.Ythjmjehfcjchfaa
open Go Go.X Go.Proofs.Ythjmjehfcjchfaa.G
set_option maxRecDepth 100000
set_option maxHeartbeats 1600000
set_option linter.unusedVariables false
set_option linter.unusedSimpArgs false
variable {H : AH} {S : LS} {K : KF}
theorem r31a : f31_rr.1 = f23 := rfl
theorem r31b : f31_rr.2 = f30 := rfl
theorem split_at {α : Type} : ∀ {l : List α} {k : Nat}, k < l.length → ∃ A x B, l = A ++ x :: B ∧ A.length = k
  | [], k, h => by simp at h
  | x :: l, 0, _ => ⟨[], x, l, rfl, rfl⟩
  | y :: l, k + 1, h => by
    obtain ⟨A, x, B, e, e2⟩ := split_at (l := l) (k := k) (by simpa using h)
    exact ⟨y :: A, x, B, by rw [e]; rfl, by simp [e2]⟩
theorem FrV.same {v : AV} {l : List AV} (h : FrV S v l) : sameAV v v = true := by
  rcases h with ⟨rfl, _⟩ | ⟨b, c, ex, cs, rfl, _⟩
  · rfl
  · simp [sameAV]
section
variable {W : Nat → Prop} {rb : Nat} {vl : AV} {t : Int}
def JoinG (S : LS) (W : Nat → Prop) (rb : Nat) (t : Int) (P : Chs) (p : Int → Prop) (K : KF) : Prop :=
  ∀ H' S' W' vl' P', Mem H' S' → FrW S S' W → Row S' W' rb vl' t P' → flt P' = flt P → ChkB (P'.map (·.2)) p → (∀ b, W' b → W b ∨ S.n ≤ b) → P'.length ≤ P.length → K (.ret (.tup [])) H'
theorem f31_q1_i {A B : Chs} {x y : AV × List AV} {p : Int → Prop} (hM : Mem H S) (h : Row S W rb vl t (A ++ x :: y :: B)) (hPl : (A ++ x :: y :: B).length ≤ 200000) (hC : ChkB ((A ++ x :: y :: B).map (·.2)) p) (hp : ∀ j, p j → j ≤ A.length) (hs : x.2.length + y.2.length ≤ 16)
    (hK : JoinG S W rb t (A ++ x :: y :: B) (fun j => p j ∧ j ≠ A.length) K) : f31_q1 f31_rr K (f31_q2 f31_rr K) (.ptr rb 0) A.length H := by
  have hxm : x ∈ A ++ x :: y :: B := by simp
  have hym : y ∈ A ++ x :: y :: B := by simp
  have hlen : (A ++ x :: y :: B).length = A.length + (B.length + 2) := by simp
  unfold f31_q1
  rw [r31a]
  simp only [pNil_ptr, pFld_ptr, Nat.add_zero]
  refine pLoad_i hM h.rc rfl (pLoad_i hM h.rc rfl ?_)
  have hcx : ((A ++ x :: y :: B).map (·.1))[A.length]? = some x.1 := by rw [List.getElem?_map, List.getElem?_append_right (Nat.le_refl _)]; simp
  have hcy : ((A ++ x :: y :: B).map (·.1))[A.length + 1]? = some y.1 := by rw [List.getElem?_map, List.getElem?_append_right (by omega), show A.length + 1 - A.length = 1 by omega]; simp
  refine h.fr.load hM hcx ?_
  refine pLoad_i hM h.rc rfl ?_
  simp only [iadd, io1]
  refine w0 (by omega) (by omega) ?_
  have ek : (A.length : Int) + 1 = ((A.length + 1 : Nat) : Int) := rfl
  rw [ek]
  refine h.fr.load hM hcy ?_
  have hrx := h.ch x hxm
  have hry := h.ch y hym
  refine hM.atDead (one_i (RdV.one hrx) (one_i (RdV.one hry) ?_))
  refine pNewS_i hM rfl (fun a ha => by
    simp only [List.mem_cons, List.not_mem_nil, or_false] at ha
    rcases ha with rfl | rfl
    · exact RdV.one hrx
    · exact RdV.one hry) fun H1 h1 => ?_
  refine bT_i (nbeq (by rw [h1.n, hM.n]; rfl)) ?_
  have x1 : Ext S (S.push (.cells [x.1, y.1] 0)) := Ext.push _ _
  have hone : ∀ z ∈ [x.2, y.2].flatten, z.one = true := fun z hz => by
    simp only [List.flatten_cons, List.flatten_nil, List.append_nil, List.mem_append] at hz
    rcases hz with g | g
    · exact (h.st x hxm z g).one
    · exact (h.st y hym z g).one
  have hfl : [x.2, y.2].flatten = x.2 ++ y.2 := by simp
  refine f23_i h1 (Q := fun _ => True) (vs := [x.1, y.1]) (LL := [x.2, y.2]) (.inr ⟨S.n, 0, 2, true, [x.1, y.1], 0, rfl, by simp, trivial, LS.push_ob_self _ _, by simp, by simp⟩) ⟨rfl, fun j v c hv hc => ?_⟩ (by rw [hfl, List.length_append]; omega) (by simp) hone fun H2 S2 v2 h2 x2 f2 e2 b2 => ?_
  · match j, hv, hc with
    | 0, hv, hc =>
      cases hv; cases hc
      exact (hrx.ext hM x1).keep h1 fun b _ _ => ⟨rfl, trivial⟩
    | 1, hv, hc =>
      cases hv; cases hc
      exact (hry.ext hM x1).keep h1 fun b _ _ => ⟨rfl, trivial⟩
    | j + 2, hv, hc => simp at hv
  simp only [cR_ret]
  rw [hfl] at f2
  have x12 := x1.trans x2
  have hR2 := h.ext hM x12
  refine pLoad_i h2 hR2.rc rfl (bT_i (FrV.same hR2.fr) ?_)
  have hj : A.length < (A ++ x :: y :: B).length := by omega
  have hlx : 1 ≤ x.2.length := (hC.sz A.length x.2 (by rw [List.getElem?_map, List.getElem?_append_right (Nat.le_refl _)]; simp)).1
  refine hR2.setCh h2 hj (v' := v2) (c' := x.2 ++ y.2) (f2.rd h2 fun b hb hlt => ⟨fun g => by have q1 := h.wl b g; have q2 := b2 b hb; have q3 := x1.n; omega, hlt, FrV.wr f2 hb⟩) (fun a g => (List.mem_append.1 g).elim (h.st x hxm a) (h.st y hym a)) (fun g => by have := congrArg List.length g; rw [List.length_append] at this; simp only [List.length_nil] at this; omega) fun H3 S3 h3 n3 fr3 hR3 => ?_
  rw [set_mid] at hR3
  show f31_q2 f31_rr K (.ptr rb 0) A.length H3
  unfold f31_q2
  rw [r31b]
  refine hR3.ldL h3 ?_
  simp only [iadd, io1]
  refine w0 (by omega) (by omega) ?_
  have e2i : Int.ofNat 2 = 2 := rfl
  rw [e2i]
  refine w0 (by omega) (by omega) ?_
  have ek2 : (A.length : Int) + 2 = ((A.length + 2 : Nat) : Int) := rfl
  rw [ek, ek2]
  refine f30_i h3 hR3.fr (i := A.length + 1) (j := A.length + 2) (by omega) (by simp) (by simp at hPl ⊢; omega) hR3.one fun H4 S4 vl4 h4 n4 k4 f4 e4 b4 => ?_
  simp only [cR_ret]
  have edel : ((A ++ (v2, x.2 ++ y.2) :: y :: B).map (·.1)).take (A.length + 1) ++ ((A ++ (v2, x.2 ++ y.2) :: y :: B).map (·.1)).drop (A.length + 2) = (A ++ (v2, x.2 ++ y.2) :: B).map (·.1) := by
    simp only [List.map_append, List.map_cons]
    rw [List.take_append, List.drop_append, List.length_map, show A.length + 1 - A.length = 1 by omega, show A.length + 2 - A.length = 2 by omega, List.take_of_length_le (by simp), List.drop_of_length_le (by simp)]
    simp
  rw [edel] at f4
  refine hR3.newVl h3 h4 n4 k4 (P' := A ++ (v2, x.2 ++ y.2) :: B) f4 (e4 hR3.ex) (fun b hb => .inl (b4 b hb)) (fun q hq => ?_) ?_ fun H5 S5 h5 fr5 hR5 => ?_
  · have hq' : q ∈ A ++ (v2, x.2 ++ y.2) :: y :: B := by
      simp only [List.mem_append, List.mem_cons] at hq ⊢
      rcases hq with g | g | g
      · exact .inl g
      · exact .inr (.inl g)
      · exact .inr (.inr (.inr g))
    exact ⟨hR3.ch q hq', hR3.st q hq', hR3.ne trivial q hq'⟩
  · refine hR3.dj.sublist ?_
    exact List.Sublist.append_left (List.Sublist.cons_cons _ (List.sublist_cons_self _ _)) _
  · refine hK H5 S5 _ vl4 _ h5 (((FrW.ext x12 W).trans fr3 fun b _ g => g).trans fr5 fun b hb g => ?_) hR5 ?_ ?_ (fun b hb => ?_) (by simp)
    · rcases g with g | g
      · exact g
      · have := b2 b g; have := x1.n; omega
    · rw [flt_app, flt_cons, flt_app, flt_cons, flt_cons, List.append_assoc]
    · have e : (A ++ (v2, x.2 ++ y.2) :: B).map (·.2) = A.map (·.2) ++ (x.2 ++ y.2) :: B.map (·.2) := by simp
      have e0 : (A ++ x :: y :: B).map (·.2) = A.map (·.2) ++ x.2 :: y.2 :: B.map (·.2) := by simp
      rw [e]
      rw [e0] at hC
      refine join_chk hC hs (fun j hj => ?_) (fun j hj => by rw [List.length_map]; exact hp j hj)
      rw [List.length_map]
      by_cases g : j = A.length
      · exact .inl g
      · exact .inr ⟨hj, g⟩
    · rcases hb with (g | g) | g
      · exact .inl g
      · exact .inr (by have := b2 b g; have := x1.n; omega)
      · exact .inr (by have := g.1; have := x12.n; omega)
theorem f31_i {P : Chs} {k : Int} {p : Int → Prop} (hM : Mem H S) (h : Row S W rb vl t P) (hPl : P.length ≤ 200000) (hC : ChkB (P.map (·.2)) p) (hk1 : -100 ≤ k) (hk2 : k ≤ 1000000) (hp : ∀ j, p j → j ≤ k)
    (hK : JoinG S W rb t P (fun j => p j ∧ j ≠ k) K) : f31 (.ptr rb 0) k H K := by
  have skip : (∀ (j : Nat) c d, (j : Int) = k → (P.map (·.2))[j]? = some c → (P.map (·.2))[j + 1]? = some d → 16 < c.length + d.length) → K (.ret (.tup [])) H := fun hn =>
    hK H S W vl P hM (FrW.refl S W) h rfl ⟨hC.sz, fun j c d hc hd hnp => by
      by_cases g : (j : Int) = k
      · exact hn j c d g hc hd
      · exact hC.adj j c d hc hd fun q => hnp ⟨q, g⟩⟩ (fun b hb => .inl hb) (Nat.le_refl _)
  show f31_q0 f31_rr K (f31_q1 f31_rr K (f31_q2 f31_rr K)) (.ptr rb 0) k H
  unfold f31_q0
  have e0 : Int.ofNat 0 = 0 := rfl
  simp only [iLt_d, iadd, io1]
  refine bI_dec (fun g => skip fun j c d e _ _ => by omega) (fun g => ?_)
  refine w0 (by omega) (by omega) ?_
  refine h.ldL hM ?_
  refine h.fr.len ?_
  simp only [cI_z, iLt_d, List.length_map]
  obtain ⟨n, rfl⟩ := Int.eq_ofNat_of_zero_le (show 0 ≤ k by omega)
  have ek : (n : Int) + 1 = ((n + 1 : Nat) : Int) := rfl
  rw [ek]
  by_cases g2 : n + 1 < P.length
  · rw [decide_eq_true (show ((n + 1 : Nat) : Int) < (P.length : Int) by omega)]
    simp only [Bool.not_true, bI_ff]
    obtain ⟨A, x, B', rfl, rfl⟩ := split_at (l := P) (k := n) (by omega)
    obtain ⟨y, B, rfl⟩ : ∃ y B, B' = y :: B := by
      cases B' with
      | nil => simp at g2
      | cons y B => exact ⟨y, B, rfl⟩
    have hcx : ((A ++ x :: y :: B).map (·.1))[A.length]? = some x.1 := by rw [List.getElem?_map, List.getElem?_append_right (Nat.le_refl _)]; simp
    have hcy : ((A ++ x :: y :: B).map (·.1))[A.length + 1]? = some y.1 := by rw [List.getElem?_map, List.getElem?_append_right (by omega), show A.length + 1 - A.length = 1 by omega]; simp
    have hdx : ((A ++ x :: y :: B).map (·.2))[A.length]? = some x.2 := by rw [List.getElem?_map, List.getElem?_append_right (Nat.le_refl _)]; simp
    have hdy : ((A ++ x :: y :: B).map (·.2))[A.length + 1]? = some y.2 := by rw [List.getElem?_map, List.getElem?_append_right (by omega), show A.length + 1 - A.length = 1 by omega]; simp
    have sx := (hC.sz _ _ hdx).2
    have sy := (hC.sz _ _ hdy).2
    refine h.ldL hM ?_
    refine h.fr.load hM hcx ?_
    refine (h.ch x (by simp)).len ?_
    simp only [cI_z]
    refine h.ldL hM ?_
    refine w0 (by omega) (by omega) ?_
    refine h.fr.load hM hcy ?_
    refine (h.ch y (by simp)).len ?_
    simp only [cI_z]
    refine w0 (by omega) (by omega) ?_
    have e16 : Int.ofNat 16 = 16 := rfl
    refine bI_dec (fun g3 => skip fun j c d e hc hd => ?_) (fun g3 => ?_)
    · obtain rfl : j = A.length := by omega
      rw [hdx] at hc; cases hc
      rw [hdy] at hd; cases hd
      omega
    · exact f31_q1_i hM h hPl hC hp (by omega) hK
  · rw [decide_eq_false (show ¬ ((n + 1 : Nat) : Int) < (P.length : Int) by omega)]
    simp only [Bool.not_false, bI_tt]
    refine skip fun j c d e hc hd => ?_
    have := (List.getElem?_eq_some_iff.1 hd).1
    rw [List.length_map] at this
    omega
end
end Go.Proofs.Ythjmjehfcjchfaa

namespace Go.Proofs.Ythjmjehfcjchfaa
open Go Go.X Go.Proofs.Ythjmjehfcjchfaa.G
set_option maxRecDepth 100000
set_option maxHeartbeats 1600000
set_option linter.unusedVariables false
set_option linter.unusedSimpArgs false
variable {H : AH} {S : LS} {K : KF}
theorem r16a : f16_rr.1 = f24 := rfl
theorem r16b : f16_rr.2.1 = f25 := rfl
theorem r16c : f16_rr.2.2.1 = f26 := rfl
theorem r16d : f16_rr.2.2.2.1 = f29 := rfl
theorem r16e : f16_rr.2.2.2.2.1 = f30 := rfl
theorem r16f : f16_rr.2.2.2.2.2 = f31 := rfl
theorem RowG.imp {N N' : Prop} {W : Nat → Prop} {rb : Nat} {vl : AV} {t : Int} {P : Chs} (h : RowG N S W rb vl t P) (hN : N' → N) : RowG N' S W rb vl t P :=
  ⟨h.wl, h.wr, h.rc, h.fr, h.ex, h.wv, h.ch, h.dj, h.st, fun g => h.ne (hN g)⟩
section
variable {W : Nat → Prop} {rb : Nat}
def RemG (S : LS) (W : Nat → Prop) (rb : Nat) (L : List AV) (a : AV) (K : KF) : Prop :=
  ∀ H' S' W', Mem H' S' → FrW S S' W → RowE S' W' rb L → (∀ b, W' b → W b ∨ S.n ≤ b) → K (.ret (.tup [a, .bool true])) H'
theorem f16_q3_i {vl : AV} {P : Chs} {t : Int} {a : AV} {k : Int} (hM : Mem H S) (h : Row S W rb vl t P) (ht : t = (flt P).length) (hPl : P.length ≤ 200000) (hC : ChkB (P.map (·.2)) fun j => j = k ∨ j = k - 1) (hk1 : -10 ≤ k) (hk2 : k ≤ 1000000)
    (hK : RemG S W rb (flt P) a K) : f16_q3 f16_rr K (.ptr rb 0) k a H := by
  unfold f16_q3
  rw [r16f]
  refine f31_i hM h hPl hC (by omega) hk2 (fun j hj => by omega) fun H1 S1 W1 vl1 P1 h1 fr1 hR1 e1 hC1 o1 l1 => ?_
  simp only [cR_ret, isub, io1]
  refine w0 (by omega) (by omega) ?_
  refine f31_i h1 hR1 (by omega) hC1 (by omega) (by omega) (fun j hj => by omega) fun H2 S2 W2 vl2 P2 h2 fr2 hR2 e2 hC2 o2 l2 => ?_
  simp only [cR_ret]
  have ef : flt P2 = flt P := e2.trans e1
  refine hK H2 S2 W2 h2 (fr1.trans fr2 fun b hb g => (o1 b g).elim (fun x => x) fun x => by omega) ⟨vl2, P2, by rw [← ef] at ht ⊢; rw [ht] at hR2; exact hR2, ef, hC2.chk fun j hj => by omega⟩ fun b hb => ?_
  rcases o2 b hb with g | g
  · exact o1 b g
  · exact .inr (by have := fr1.n; omega)
theorem f16_q2_i {vl : AV} {A B : Chs} {t : Int} {a : AV} {v : AV} {c c' : List AV} (hM : Mem H S) (h : RowG (c' ≠ []) S W rb vl t (A ++ (v, c') :: B)) (hn : ∀ q ∈ A ++ B, q.2 = [] → q.1 = .nslice) (ht : t = (flt (A ++ (v, c') :: B)).length + 1) (hl : (flt (A ++ (v, c') :: B)).length ≤ 100000) (hPl : (A ++ (v, c') :: B).length ≤ 200000) (hC : Chnk (A.map (·.2) ++ c :: B.map (·.2))) (hc : c'.length ≤ 32)
    (hK : RemG S W rb (flt (A ++ (v, c') :: B)) a K) : f16_q2 f16_rr K (f16_p4 f16_rr K) (f16_p3 f16_rr K) (.ptr rb 0) A.length a H := by
  have hlen : (A ++ (v, c') :: B).length = A.length + (B.length + 1) := by simp
  unfold f16_q2
  rw [r16e]
  refine h.ldT hM ?_
  simp only [cI_z, isub, io1]
  refine w0 (by omega) (by omega) ?_
  refine h.setT hM fun H1 S1 h1 n1 fr1 hR1 => ?_
  refine hR1.ldL h1 ?_
  have hcp : ((A ++ (v, c') :: B).map (·.1))[A.length]? = some v := by rw [List.getElem?_map, List.getElem?_append_right (Nat.le_refl _)]; simp
  refine hR1.fr.load h1 hcp ?_
  refine RdV.len (hR1.ch (v, c') (by simp)) ?_
  simp only [cI_z, iEq_d]
  have e0 : Int.ofNat 0 = 0 := rfl
  have eP : (A ++ (v, c') :: B).map (·.2) = A.map (·.2) ++ c' :: B.map (·.2) := by simp
  have ht1 : t - 1 = ((flt (A ++ (v, c') :: B)).length : Int) := by omega
  rw [ht1] at hR1
  refine bI_dec (fun g => ?_) (fun g => ?_)
  · have hc0 : c' = [] := List.length_eq_zero_iff.1 (by show c'.length = 0; simp only [Int.ofNat_eq_natCast] at g; omega)
    refine hR1.ldL h1 ?_
    simp only [iadd, io1]
    refine w0 (by omega) (by omega) ?_
    have ek : (A.length : Int) + 1 = ((A.length + 1 : Nat) : Int) := rfl
    rw [ek]
    refine f30_i h1 hR1.fr (i := A.length) (j := A.length + 1) (by omega) (by simp) (by rw [List.length_map]; omega) hR1.one fun H2 S2 vl2 h2 n2 k2 f2 e2 b2 => ?_
    simp only [cR_ret]
    have edel : ((A ++ (v, c') :: B).map (·.1)).take A.length ++ ((A ++ (v, c') :: B).map (·.1)).drop (A.length + 1) = (A ++ B).map (·.1) := by
      simp only [List.map_append, List.map_cons]
      rw [List.take_append, List.drop_append, List.length_map, show A.length - A.length = 0 by omega, show A.length + 1 - A.length = 1 by omega, List.take_of_length_le (by simp), List.drop_of_length_le (by simp)]
      simp
    rw [edel] at f2
    have hsub : ∀ q ∈ A ++ B, q ∈ A ++ (v, c') :: B := fun q hq => by
      simp only [List.mem_append, List.mem_cons] at hq ⊢
      rcases hq with g | g
      · exact .inl g
      · exact .inr (.inr g)
    have ef : flt (A ++ (v, c') :: B) = flt (A ++ B) := by rw [flt_app, flt_cons, flt_app, hc0, List.nil_append]
    refine hR1.newVl0 (N' := True) h1 h2 n2 k2 (P' := A ++ B) f2 (e2 hR1.ex) (fun b hb => .inl (b2 b hb)) (fun q hq => ⟨hR1.ch q (hsub q hq), hR1.st q (hsub q hq), fun _ => hn q hq⟩) ?_ fun H3 S3 h3 fr3 hR3 => ?_
    · exact hR1.dj.sublist (List.Sublist.append_left (List.sublist_cons_self _ _) _)
    · show f16_q4 f16_rr K (f16_q3 f16_rr K) (.ptr rb 0) A.length a H3
      unfold f16_q4
      simp only [isub, io1]
      refine w0 (by omega) (by omega) ?_
      have hC' := away_chk hC
      rw [List.length_map] at hC'
      refine f16_q3_i h3 hR3 (by rw [ef]) (by rw [List.length_append]; omega) ?_ (by omega) (by omega) fun H4 S4 W4 h4 fr4 hR4 o4 => ?_
      · rw [List.map_append]
        exact ⟨hC'.sz, fun j c d hc hd hn => hC'.adj j c d hc hd fun g => hn (by omega)⟩
      · rw [← ef] at hR4
        refine hK H4 S4 W4 h4 ((fr1.trans fr3 fun b _ g => g).trans fr4 fun b hb g => ?_) hR4 fun b hb => ?_
        · rcases g with g | g
          · exact g
          · omega
        · rcases o4 b hb with (g | g) | g
          · exact .inl g
          · exact .inr (by omega)
          · exact .inr (by have := fr3.n; omega)
  · have hc0 : c' ≠ [] := fun e => g (by rw [e]; rfl)
    have hc1 : 1 ≤ c'.length := by have := List.length_pos_iff.2 hc0; omega
    show f16_q3 f16_rr K (.ptr rb 0) A.length a H1
    have hC' := turn_chk hC hc1 hc
    rw [List.length_map, ← eP] at hC'
    refine f16_q3_i h1 (hR1.imp fun _ => hc0) rfl hPl hC' (by omega) (by omega) fun H4 S4 W4 h4 fr4 hR4 o4 => ?_
    refine hK H4 S4 W4 h4 (fr1.trans fr4 fun b _ g => g) hR4 fun b hb => ?_
    rcases o4 b hb with g | g
    · exact .inl g
    · exact .inr (by omega)
theorem f16_q1_i {vl : AV} {A B : Chs} {p : AV × List AV} {t : Int} {a : AV} {at_ : Nat} (hM : Mem H S) (h : Row S W rb vl t (A ++ p :: B)) (ht : t = (flt (A ++ p :: B)).length) (hl : (flt (A ++ p :: B)).length ≤ 100000) (hPl : (A ++ p :: B).length ≤ 200000) (hC : Chnk ((A ++ p :: B).map (·.2))) (ha : at_ < p.2.length)
    (hK : RemG S W rb (delAt (flt (A ++ p :: B)) ((flt A).length + at_)) a K) : f16_q1 f16_rr K (f16_q2 f16_rr K (f16_p4 f16_rr K) (f16_p3 f16_rr K)) (.ptr rb 0) A.length at_ a H := by
  have hpm : p ∈ A ++ p :: B := by simp
  have hmap : (A ++ p :: B).map (·.2) = A.map (·.2) ++ p.2 :: B.map (·.2) := by simp
  have hp32 : p.2.length ≤ 32 := (hC.sz A.length p.2 (by rw [List.getElem?_map, List.getElem?_append_right (Nat.le_refl _)]; simp)).2
  have hcp : ((A ++ p :: B).map (·.1))[A.length]? = some p.1 := by rw [List.getElem?_map, List.getElem?_append_right (Nat.le_refl _)]; simp
  unfold f16_q1
  rw [r16c, r16d]
  simp only [pNil_ptr, pFld_ptr, Nat.add_zero]
  refine pLoad_i hM h.rc rfl (pLoad_i hM h.rc rfl ?_)
  refine h.fr.load hM hcp ?_
  simp only [iadd, io1]
  refine w0 (by omega) (by omega) ?_
  have hrp := h.ch p hpm
  refine f26_i hM hrp (by omega) (fun x g => (h.st p hpm x g).one) (h.ne trivial p hpm) fun H2 S2 v2 h2 x2 f2 e2 b2 nn2 => ?_
  simp only [cR_ret]
  have hR2 := h.ext hM x2
  refine pLoad_i h2 hR2.rc rfl (bT_i (FrV.same hR2.fr) ?_)
  have ek : (at_ : Int) + 1 = ((at_ + 1 : Nat) : Int) := rfl
  rw [ek]
  refine f29_i h2 f2 (i := at_) (j := at_ + 1) (by omega) ha (by omega) (fun x g => (h.st p hpm x g).one) fun H3 S3 v3 h3 n3 k3 f3 e3 b3 => ?_
  simp only [cR_ret]
  have x3 : Ext S S3 := ⟨Nat.le_trans x2.n n3, fun b hb => (k3 b (Nat.lt_of_lt_of_le hb x2.n) fun g => by have := b2 b g; omega).trans (x2.ob b hb)⟩
  have hR3 := h.ext hM x3
  refine pLoad_i h3 hR3.rc rfl (bT_i (FrV.same hR3.fr) ?_)
  have hPj : A.length < (A ++ p :: B).length := by simp
  have hdel : p.2.take at_ ++ p.2.drop (at_ + 1) = delAt p.2 at_ := rfl
  rw [hdel] at f3
  have hdl : (delAt p.2 at_).length = p.2.length - 1 := delAt_len ha
  refine hR3.setCh0 (N' := delAt p.2 at_ ≠ []) h3 hPj (v' := v3) (c' := delAt p.2 at_) (f3.rd h3 fun b hb hlt => ⟨fun g => by have q1 := h.wl b g; have q2 := b2 b (b3 b hb); omega, hlt, FrV.wr f3 hb⟩) (fun x g => ?_) (fun _ => trivial) (fun g g2 => absurd g2 g) fun H4 S4 h4 n4 fr4 hR4 => ?_
  · simp only [delAt, List.mem_append] at g
    exact g.elim (fun g => h.st p hpm x (List.mem_of_mem_take g)) fun g => h.st p hpm x (List.mem_of_mem_drop g)
  · rw [set_mid] at hR4
    have hfl : delAt (flt (A ++ p :: B)) ((flt A).length + at_) = flt (A ++ (v3, delAt p.2 at_) :: B) := by
      have := del_flat (A := A.map (·.2)) (B := B.map (·.2)) (c := p.2) ha
      unfold flt
      rw [hmap, this]
      simp
    have hfa : (flt A).length + at_ < (flt (A ++ p :: B)).length := by rw [flt_app, flt_cons]; simp only [List.length_append]; omega
    have hll : (flt (A ++ (v3, delAt p.2 at_) :: B)).length + 1 = (flt (A ++ p :: B)).length := by rw [← hfl, delAt_len hfa]; omega
    refine f16_q2_i (c := p.2) h4 hR4 (fun q hq => h.ne trivial q ?_) (by omega) (by omega) (by simpa using hPl) (by rw [← hmap]; exact hC) (by omega) fun H5 S5 W5 h5 fr5 hR5 o5 => ?_
    · simp only [List.mem_append, List.mem_cons] at hq ⊢
      rcases hq with g | g
      · exact .inl g
      · exact .inr (.inr g)
    · rw [← hfl] at hR5
      refine hK H5 S5 W5 h5 (((FrW.ext x3 W).trans fr4 fun b _ g => g).trans fr5 fun b hb g => ?_) hR5 fun b hb => ?_
      · rcases g with g | g
        · exact g
        · have := b2 b (b3 b g); omega
      · rcases o5 b hb with (g | g) | g
        · exact .inl g
        · exact .inr (b2 b (b3 b g))
        · exact .inr (by have := x3.n; omega)
theorem f16_i {L : List AV} {z : Int} (hM : Mem H S) (hR : RowE S W rb L) (hz : i64 z) (hl : L.length ≤ 100000) (hK1 : plc L.length z = none → K (.ret (.tup [.str 0 0, .bool false])) H)
    (hK2 : ∀ (i : Nat) a, plc L.length z = some i → L[i]? = some a → RemG S W rb (delAt L i) a K) : f16 (.ptr rb 0) z H K := by
  show f16_q0 f16_rr K (f16_q1 f16_rr K (f16_q2 f16_rr K (f16_p4 f16_rr K) (f16_p3 f16_rr K))) (.ptr rb 0) z H
  unfold f16_q0
  rw [r16a, r16b]
  refine f24_i hM hR hz hl (fun hp z' => ?_) (fun i hp hi => ?_)
  · simp only [cR_ret]
    refine onTup_i (nth0 ?_)
    simp only [cI_z]
    refine onTup_i (nth1 ?_)
    simp only [onB_b, Bool.not_false, bI_tt]
    exact hK1 hp
  · simp only [cR_ret]
    refine onTup_i (nth0 ?_)
    simp only [cI_z]
    refine onTup_i (nth1 ?_)
    simp only [onB_b, Bool.not_true, bI_ff]
    obtain ⟨vl, P, h, hf, hC⟩ := hR
    have hnum := hC.num
    have hfl : (P.map (·.2)).flatten = flt P := rfl
    rw [hfl, List.length_map, hf] at hnum
    refine find_at hM h (by rw [hf]; exact hi) (by rw [hf]; exact hl) (by omega) fun A p B at_ a e h1 h2 h3 h4 => ?_
    simp only [cR_ret]
    refine onTup_i (nth0 ?_)
    simp only [cI_z]
    refine onTup_i (nth1 ?_)
    simp only [cI_z]
    refine h.ldL hM ?_
    have hcp : (P.map (·.1))[A.length]? = some p.1 := by rw [List.getElem?_map, e, List.getElem?_append_right (Nat.le_refl _)]; simp
    refine h.fr.load hM hcp ?_
    refine (h.ch p (by rw [e]; simp)).load hM h3 ?_
    rw [hf] at h4
    subst e
    refine f16_q1_i hM h (by rw [hf]) (by rw [hf]; exact hl) (by omega) hC h1 ?_
    rw [hf, h2]
    exact hK2 i a hp h4
end
end Go.Proofs.Ythjmjehfcjchfaa
