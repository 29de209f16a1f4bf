/- The law SkipPlays over lists. No condition: lemmas. -/
import Derived.Test.YtpfnalokeeidkaaDoorC
set_option linter.unusedVariables false
set_option linter.unusedSimpArgs false
namespace Go.Proofs.YtpfnalokeeidkaaDoor
open Go Go.X Go.Proofs.YtpfnalokeeidkaaDoor.G
set_option maxRecDepth 100000
set_option maxHeartbeats 1600000
set_option linter.unusedVariables false
set_option linter.unusedSimpArgs false
variable {H : AH} {S : LS} {K : KF}
def capOk (v : AV) : Prop := match v with | .slice _ _ n c _ _ => n ≤ c | .nslice => True | _ => False
theorem OutE.cap {b0 : Nat} {v : AV} {l : List Sc} (h : OutE S b0 v l) : capOk v := by
  rcases h with (⟨rfl, _⟩ | ⟨b, ex, rfl, _⟩) | ⟨b, rfl, _⟩
  · trivial
  · exact Nat.le_refl _
  · exact Nat.le_refl _
theorem fl_part {l : List Sc} {cs : List AV} {o : Nat} (h : (cs.drop o).take (l.length * 2) = fl l) (ho : o + l.length * 2 ≤ cs.length) {i j : Nat} (hij : i ≤ j) (hj : j ≤ l.length) : (cs.drop (o + i * 2)).take ((j - i) * 2) = fl ((l.drop i).take (j - i)) := by
  rw [← take_fl, ← drop_fl, ← h, List.drop_take, List.drop_drop, List.take_take, show min ((j - i) * 2) (l.length * 2 - i * 2) = (j - i) * 2 by omega]
theorem pSlice_rd {Q : Nat → Prop} {v : AV} {l : List Sc} {lo hi : Option AV} {i j : Nat} {k : AV → Prop} (hr : Rd S Q v l) (hc : capOk v) (hij : i ≤ j) (hj : j ≤ l.length)
    (hlo : lo = some (.int 0 i) ∨ lo = none ∧ i = 0) (hhi : hi = some (.int 0 j) ∨ hi = none ∧ j = l.length) (hk : ∀ v', Rd S Q v' ((l.drop i).take (j - i)) → capOk v' → k v') : pSlice 2 v lo hi none k := by
  rcases hr with ⟨rfl, rfl⟩ | ⟨b, o, c, ex, cs, m, rfl, hQ, h3, h4, h5⟩
  · simp at hj
    subst hj
    have : i = 0 := by omega
    subst this
    have hk := hk .nslice (.inl ⟨rfl, by simp⟩) trivial
    rcases hlo with rfl | ⟨rfl, _⟩ <;> rcases hhi with rfl | ⟨rfl, _⟩ <;> exact bT_i rfl (bT_i rfl (bT_i rfl hk))
  · have hn : ((l.drop i).take (j - i)).length = j - i := by simp; omega
    have hcap : l.length ≤ c := hc
    have hk := hk (.slice b (o + i * 2) (j - i) (c - i) 2 (ex || Option.isSome (none : Option AV))) (.inr ⟨b, o + i * 2, c - i, _, cs, m, by rw [hn], hQ, h3, by rw [hn]; omega, by rw [hn]; exact fl_part h5 h4 hij hj⟩) (show j - i ≤ c - i by omega)
    have go : bT (Nat.ble i j) (bT (Nat.ble j c) (bT (Nat.ble c c) (forceN (Nat.add o (Nat.mul i 2)) fun o' => forceN (Nat.sub j i) fun n => forceN (Nat.sub c i) fun c' => k (.slice b o' n c' 2 (ex || Option.isSome (none : Option AV)))))) := by
      refine bT_i (Nat.ble_eq_true_of_le hij) (bT_i (Nat.ble_eq_true_of_le (by omega)) (bT_i (Nat.ble_eq_true_of_le (Nat.le_refl _)) ?_))
      simp only [forceN_eq]
      exact hk
    rcases hlo with rfl | ⟨rfl, rfl⟩ <;> rcases hhi with rfl | ⟨rfl, rfl⟩ <;> (show bT (Nat.beq 2 2) _; exact bT_i rfl go)
theorem delL_at {L : List Sc} (hs : Srt L) (hn : Nms L) {i : Nat} {a : Sc} (ha : L[i]? = some a) : delL a.nm L = L.take i ++ L.drop (i + 1) := by
  have hi := (List.getElem?_eq_some_iff.1 ha).1
  have one : ∀ j y, L[j]? = some y → y.nm = a.nm → j = i := fun j y hy e => by
    have : y = a := hn y (List.mem_of_getElem? hy) a (List.mem_of_getElem? ha) e
    subst this
    rcases Nat.lt_trichotomy j i with g | g | g
    · exact absurd (srt_at hs hy ha g) (slt_irrefl y)
    · exact g
    · exact absurd (srt_at hs ha hy g) (slt_irrefl y)
  have e : L = L.take i ++ a :: L.drop (i + 1) := by
    have h := List.getElem?_eq_getElem hi
    rw [ha] at h
    conv => lhs; rw [← List.take_append_drop i L, List.drop_eq_getElem_cons hi, ← Option.some.inj h]
  have f1 : delL a.nm (L.take i) = L.take i := delL_away (by
    cases g : hasN (L.take i) a.nm with
    | false => rfl
    | true =>
      obtain ⟨y, h1, h2⟩ := hasN_iff.1 g
      obtain ⟨j, hj⟩ := List.getElem?_of_mem h1
      rw [List.getElem?_take] at hj
      split at hj
      · have := one j y hj h2; omega
      · cases hj)
  have f2 : delL a.nm (L.drop (i + 1)) = L.drop (i + 1) := delL_away (by
    cases g : hasN (L.drop (i + 1)) a.nm with
    | false => rfl
    | true =>
      obtain ⟨y, h1, h2⟩ := hasN_iff.1 g
      obtain ⟨j, hj⟩ := List.getElem?_of_mem h1
      rw [List.getElem?_drop] at hj
      have := one (i + 1 + j) y hj h2; omega)
  have f3 : delL a.nm L = delL a.nm (L.take i) ++ delL a.nm (a :: L.drop (i + 1)) := by
    conv => lhs; rw [e]
    exact List.filter_append _ _
  rw [f3, f1, show delL a.nm (a :: L.drop (i + 1)) = delL a.nm (L.drop (i + 1)) by simp [delL], f2]
theorem sEq_i {a b : Nm} {k : AV → Prop} (h : k (.bool (decide (a = b)))) : sEq a.av b.av k := sEqB_i (k := fun z => k (.bool z)) h
section
variable {Q : Nat → Prop} {v : AV} {l : List Sc} {a : Nm}
theorem f22_loop (hM : Mem H S) (hQ : ∀ b, S.n ≤ b → Q b) (hr : Rd S Q v l) (hc : capOk v) (hs : Srt l) (hn : Nms l) (hl : l.length ≤ 100000)
    (hK : ∀ H' S' v', Mem H' S' → Ext S S' → Rd S' Q v' (delL a l) → capOk v' → K (.ret (.tup [v', .bool (hasN l a)])) H') :
    ∀ (n i : Nat), i ≤ l.length → (∀ j y, j < i → l[j]? = some y → y.nm ≠ a) → l.length - i < n → f22_l2 f22_rr K n v a.av i H
  | 0, _, _, _, h => by omega
  | n + 1, i, hi, hno, hn' => by
    show f22_q2 f22_rr K (f22_l2 f22_rr K n) (f22_p1 f22_rr K) v a.av i H
    unfold f22_q2
    refine hr.len ?_
    simp only [cI_z, iLt_d]
    refine bI_dec (fun h => ?_) (fun h => ?_)
    · obtain ⟨y, hy⟩ : ∃ y, l[i]? = some y := ⟨l[i], List.getElem?_eq_getElem (by omega)⟩
      refine hr.at_ hy fun b o hat _ => hat.nm hM ?_
      refine sEq_i ?_
      simp only [onB_b]
      refine bI_dec (fun e => ?_) (fun e => ?_)
      · subst e
        have hh : hasN l y.nm = true := hasN_iff.2 ⟨y, List.mem_of_getElem? hy, rfl⟩
        rw [hh] at hK
        refine hM.atDead ?_
        refine pNewE hM (Ext.refl S) fun H1 S1 v1 h1 x1 o1 e1 => ?_
        refine bT_i (nbeq e1) ?_
        have keep : ∀ {S' : LS} {u : AV} {r : List Sc}, Ext S S' → Rd S Q u r → Rd S' Q u r := fun hx hr => hr.keep hM fun b hq hb => ⟨hx.ob b hb, hq⟩
        refine pSlice_rd (i := 0) (j := i) hr hc (by omega) (by omega) (.inr ⟨rfl, rfl⟩) (.inl rfl) fun v2 r2 c2 => ?_
        simp only [iadd, io1]
        refine w0 (by omega) (by omega) ?_
        have ei : ((i : Int) + 1) = ((i + 1 : Nat) : Int) := rfl
        rw [ei]
        refine pSlice_rd (i := i + 1) (j := l.length) hr hc (by omega) (by omega) (.inl rfl) (.inr ⟨rfl, rfl⟩) fun v3 r3 c3 => ?_
        refine pApp_out h1 x1 o1 (keep x1 r2) (by simp; omega) fun H4 S4 v4 h4 x4 o4 => ?_
        refine pApp_out h4 x4 o4 (keep x4 r3) (by simp; omega) fun H5 S5 v5 h5 x5 o5 => ?_
        have e5 : ([] ++ (l.drop 0).take (i - 0)) ++ (l.drop (i + 1)).take (l.length - (i + 1)) = delL y.nm l := by
          rw [delL_at hs hn hy, List.nil_append, List.drop_zero, Nat.sub_zero, List.take_of_length_le (l := l.drop (i + 1)) (by simp)]
        rw [e5] at o5
        exact hK H5 S5 v5 h5 x5 (o5.rd h5 fun b hb _ => hQ b hb) o5.cap
      · simp only [iadd, io1]
        refine w0 (by omega) (by omega) ?_
        refine f22_loop hM hQ hr hc hs hn hl hK n (i + 1) (by omega) (fun j z hj hz => ?_) (by omega)
        rcases Nat.lt_or_ge j i with g | g
        · exact hno j z g hz
        · have : j = i := by omega
          subst this
          rw [hy] at hz
          cases hz
          exact e
    · show f22_q1 f22_rr K v H
      unfold f22_q1
      have hh : hasN l a = false := by
        cases g : hasN l a with
        | false => rfl
        | true =>
          obtain ⟨y, h1, h2⟩ := hasN_iff.1 g
          obtain ⟨j, hj⟩ := List.getElem?_of_mem h1
          have := (List.getElem?_eq_some_iff.1 hj).1
          exact absurd h2 (hno j y (by omega) hj)
      rw [hh, delL_away hh] at hK
      exact hK H S v hM (Ext.refl S) hr hc
theorem f22_i (hM : Mem H S) (hQ : ∀ b, S.n ≤ b → Q b) (hr : Rd S Q v l) (hc : capOk v) (hs : Srt l) (hn : Nms l) (hl : l.length ≤ 100000)
    (hK : ∀ H' S' v', Mem H' S' → Ext S S' → Rd S' Q v' (delL a l) → capOk v' → K (.ret (.tup [v', .bool (hasN l a)])) H') : f22 v a.av H K := by
  show f22_q0 f22_rr K (f22_l2 f22_rr K NL) v a.av H
  unfold f22_q0
  exact f22_loop hM hQ hr hc hs hn hl hK NL 0 (by omega) (fun j y h => by omega) (by have : NL = 1000000 := rfl; omega)
end
/-- Above. -/
theorem sGt_i {a b : Nm} {k : AV → Prop} (h : k (.bool (decide (nlt b a)))) : sGtK a.av b.av k := by
  have e : (!(sLt a.n a.x b.n b.x || (Nat.beq a.n b.n && Nat.beq a.x b.x))) = decide (nlt b a) := by
    have c := cmpZ_nm a b
    unfold cmpZ at c
    have h2 : (Nat.beq a.n b.n && Nat.beq a.x b.x) = decide (a = b) := by
      by_cases g : a = b
      · subst g; simp
      · simp only [g, decide_false]
        cases e : (Nat.beq a.n b.n && Nat.beq a.x b.x) with
        | false => rfl
        | true =>
          simp only [Bool.and_eq_true, Nat.beq_eq_true_eq] at e
          exact absurd (Nm.ext' (by simpa using e.1) (by simpa using e.2)) g
    have h1 : sLt a.n a.x b.n b.x = decide (nlt a b) := by
      rw [sLt_eq]
      by_cases g : nlt a b
      · rw [decide_eq_true g]; exact g
      · rw [decide_eq_false g]; exact Bool.eq_false_iff.2 g
    rw [h1, h2]
    by_cases g1 : nlt a b
    · have : ¬ nlt b a := fun g => by have := bl_trans g1 g; rw [bl_irrefl] at this; cases this
      simp [g1, this]
    · by_cases g2 : a = b
      · subst g2; simp [g1]
      · have : nlt b a := by
          unfold nlt
          cases hb : Op.bytesLess b.l a.l with
          | true => rfl
          | false => exact absurd (Nm.l_inj (bl_total (by cases hx : Op.bytesLess a.l b.l with | false => rfl | true => exact absurd hx g1) hb)) g2
        simp [g1, g2, this]
  rw [← e] at h
  exact h
theorem f29_i {x y : Sc} (hM : Mem H S) (hK : ∀ H' S', Mem H' S' → Ext S S' → K (.ret (.bool (decide (slt y x)))) H') : f29 (.agg x.cs) (.agg y.cs) H K := by
  show f29_q0 f29_rr K (.agg x.cs) (.agg y.cs) H
  unfold f29_q0
  refine xBox_agg hM (by simp [Sc.cs, Nm.av]) fun H1 h1 => ?_
  refine xBox_agg h1 (by simp [Sc.cs, Nm.av]) fun H2 h2 => ?_
  have x2 : Ext S ((S.push (.cells x.cs 0)).push (.cells y.cs 0)) := (Ext.push _ _).trans (Ext.push _ _)
  have tx : AtS ((S.push (.cells x.cs 0)).push (.cells y.cs 0)) S.n 0 x := ⟨x.cs, 0, by rw [LS.push_ob_lt _ _ (by simp)]; exact LS.push_ob_self _ _, by simp [Sc.cs], by simp [Sc.cs]⟩
  have ty : AtS ((S.push (.cells x.cs 0)).push (.cells y.cs 0)) (S.push (.cells x.cs 0)).n 0 y := ⟨y.cs, 0, LS.push_ob_self _ _, by simp [Sc.cs], by simp [Sc.cs]⟩
  refine tx.sc h2 ?_
  simp only [cI_z]
  refine ty.sc h2 ?_
  simp only [cI_z, iLt_d]
  refine bI_dec (fun g => ?_) (fun g => ?_)
  · have : decide (slt y x) = true := decide_eq_true (.inl g)
    rw [this] at hK
    exact hK H2 _ h2 x2
  · refine tx.sc h2 ?_
    simp only [cI_z]
    refine ty.sc h2 ?_
    simp only [cI_z, iEq_d]
    refine bI_dec (fun e => ?_) (fun e => ?_)
    · refine tx.nm h2 ?_
      refine ty.nm h2 ?_
      refine sGt_i ?_
      simp only [onB_b]
      have : decide (slt y x) = decide (nlt y.nm x.nm) := by
        unfold slt
        simp [e]
      rw [this] at hK
      exact hK H2 _ h2 x2
    · have : decide (slt y x) = false := decide_eq_false (fun h => by rcases h with h | ⟨h, _⟩ <;> omega)
      rw [this] at hK
      exact hK H2 _ h2 x2
theorem insL_at {x : Sc} : ∀ {l : List Sc} {i : Nat}, i ≤ l.length → (∀ j y, j < i → l[j]? = some y → slt y x) → (∀ y, l[i]? = some y → ¬ slt y x) → insL x l = (l.take i ++ [x]) ++ l.drop i
  | [], 0, _, _, _ => rfl
  | [], i + 1, h, _, _ => by simp at h
  | y :: l, 0, _, _, h => by
    have := h y rfl
    simp [insL, this]
  | y :: l, i + 1, hi, h1, h2 => by
    have := h1 0 y (by omega) rfl
    simp only [insL, this, if_true, List.take_succ_cons, List.drop_succ_cons, List.cons_append]
    rw [insL_at (i := i) (by simpa using hi) (fun j z hj hz => h1 (j + 1) z (by omega) (by simpa using hz)) fun z hz => h2 z (by simpa using hz)]
end Go.Proofs.YtpfnalokeeidkaaDoor

namespace Go.Proofs.YtpfnalokeeidkaaDoor
open Go Go.X Go.Proofs.YtpfnalokeeidkaaDoor.G
set_option maxRecDepth 100000
set_option maxHeartbeats 1600000
set_option linter.unusedVariables false
set_option linter.unusedSimpArgs false
variable {H : AH} {S : LS} {K : KF}
theorem r21a : f21_rr.1 = f22 := rfl
theorem r21b : f21_rr.2 = f29 := rfl
theorem ats_ext {b o : Nat} {a : Sc} {S' : LS} (h : AtS S b o a) (hM : Mem H S) (hx : Ext S S') : AtS S' b o a := by
  obtain ⟨cs, m, h1, h2⟩ := h
  exact ⟨cs, m, (hx.ob b (hM.lt (by rw [h1]; simp))).trans h1, h2⟩
theorem sameAV_cs (a : Sc) : sameAV (.agg a.cs) (.agg a.cs) = true := by
  show sameAL a.cs a.cs = true
  refine sameAL_refl fun x hx => ?_
  simp only [Sc.cs, List.mem_cons, List.not_mem_nil, or_false] at hx
  rcases hx with rfl | rfl
  · exact sameAV_str _ _
  · exact sameAV_int _ _
theorem stay_rd {S' : LS} {Q : Nat → Prop} {v : AV} {l : List Sc} (hr : Rd S Q v l) (hM : Mem H S) (hx : Ext S S') : Rd S' Q v l := hr.keep hM fun b hq hb => ⟨hx.ob b hb, hq⟩
theorem f21_end {Q : Nat → Prop} {v : AV} {l : List Sc} {x : Sc} {bx i : Nat} {was : Bool} (hM : Mem H S) (hQ : ∀ b, S.n ≤ b → Q b) (hr : Rd S Q v l) (hc : capOk v) (hx : AtS S bx 0 x) (hl : l.length ≤ 100000) (hi : i ≤ l.length)
    (hK : ∀ H' S' v', Mem H' S' → Ext S S' → Rd S' Q v' ((l.take i ++ [x]) ++ l.drop i) → capOk v' → K (.ret (.tup [v', .bool (!was)])) H') : f21_q1 f21_rr K v (.ptr bx 0) was i H := by
  unfold f21_q1
  refine hM.atDead ?_
  refine pNewE hM (Ext.refl S) fun H1 S1 v1 h1 x1 o1 e1 => ?_
  refine bT_i (nbeq e1) ?_
  refine pSlice_rd (i := 0) (j := i) hr hc (by omega) hi (.inr ⟨rfl, rfl⟩) (.inl rfl) fun v2 r2 c2 => ?_
  have hx1 := ats_ext hx hM x1
  refine hx1.loadN h1 ?_
  refine h1.atDead ?_
  refine onVal_agg (lenI_cs ?_)
  show pNewS (newK H1) 1 2 (fl [x]) _
  refine pNewS_i h1 (by simp [fl, Sc.cs]) (fl_one _) fun H2 h2 => ?_
  refine bT_i (nbeq (by rw [h2.n, h1.n]; rfl)) ?_
  have x2 : Ext S (S1.push (.cells (fl [x]) 0)) := x1.trans (Ext.push _ _)
  have r6 : Rd (S1.push (.cells (fl [x]) 0)) (fun b => b = S1.n) (.slice S1.n 0 1 1 2 true) [x] := .inr ⟨S1.n, 0, 1, true, fl [x], 0, rfl, rfl, LS.push_ob_self _ _, by simp [fl, Sc.cs], by simp [fl, Sc.cs]⟩
  refine pSlice_rd (i := i) (j := l.length) hr hc hi (Nat.le_refl _) (.inl rfl) (.inr ⟨rfl, rfl⟩) fun v3 r3 c3 => ?_
  have o1' : OutE (S1.push (.cells (fl [x]) 0)) S.n v1 [] := by
    rcases o1 with (⟨e, e'⟩ | ⟨b, ex, e, g1, g2, g3, _⟩) | ⟨b, e, g1, g2, g3⟩
    · exact .inl (.inl ⟨e, e'⟩)
    · exact absurd rfl g3
    · exact .inr ⟨b, e, g1, (LS.push_ob_lt _ _ (h1.lt (by rw [g2]; simp))).trans g2, g3⟩
  have nb : ¬ blkOf v1 S1.n := by
    rcases o1 with (⟨e, e'⟩ | ⟨b, ex, e, g1, g2, g3, _⟩) | ⟨b, e, g1, g2, g3⟩
    · subst e; exact id
    · exact absurd rfl g3
    · subst e
      intro g
      have : S1.n = b := g
      have := h1.lt (show S1.ob b ≠ _ by rw [g2]; simp)
      omega
  refine pApp_out2 h2 x2 o1' (stay_rd r2 hM x2) (by simp; omega) fun H4 S4 v4 h4 x4 o4 k4 n4 => ?_
  refine (ats_ext hx hM x4).loadN h4 ?_
  refine bT_i (sameAV_cs x) ?_
  have r6' : Rd S4 (fun b => b = S1.n) (.slice S1.n 0 1 1 2 true) [x] := r6.keep h2 fun b hb hlt => by
    subst hb
    exact ⟨k4 _ hlt nb, rfl⟩
  refine pApp_out2 h4 x4 o4 r6' (by simp; omega) fun H5 S5 v5 h5 x5 o5 _ _ => ?_
  refine pApp_out2 h5 x5 o5 (stay_rd r3 hM x5) (by simp; omega) fun H6 S6 v6 h6 x6 o6 _ _ => ?_
  have e6 : (([] ++ (l.drop 0).take (i - 0)) ++ [x]) ++ (l.drop i).take (l.length - i) = (l.take i ++ [x]) ++ l.drop i := by
    rw [List.nil_append, List.drop_zero, Nat.sub_zero, List.take_of_length_le (l := l.drop i) (by simp)]
  rw [e6] at o6
  exact hK H6 S6 v6 h6 x6 (o6.rd h6 fun b hb _ => hQ b hb) o6.cap
theorem f21_loop {Q : Nat → Prop} {v : AV} {l : List Sc} {x : Sc} {bx : Nat} {was : Bool} {S0 : LS} {H0 : AH} (hM0 : Mem H0 S0) (hQ : ∀ b, S0.n ≤ b → Q b) (hr : Rd S0 Q v l) (hc : capOk v) (hx : AtS S0 bx 0 x) (hl : l.length ≤ 100000)
    (hK : ∀ H' S' v', Mem H' S' → Ext S0 S' → Rd S' Q v' (insL x l) → capOk v' → K (.ret (.tup [v', .bool (!was)])) H') :
    ∀ (n i : Nat) {H : AH} {S : LS}, Mem H S → Ext S0 S → i ≤ l.length → (∀ j y, j < i → l[j]? = some y → slt y x) → l.length - i < n → f21_l2 f21_rr K n v (.ptr bx 0) was i H
  | 0, _, _, _, _, _, _, _, h => by omega
  | n + 1, i, H, S, hM, hS, hi, hall, hn => by
    have hr1 := stay_rd hr hM0 hS
    have fin : ∀ {H2 : AH} {S2 : LS}, Mem H2 S2 → Ext S0 S2 → (∀ y, l[i]? = some y → ¬ slt y x) → f21_p1 f21_rr K v (.ptr bx 0) was i H2 := fun {H2 S2} h2 x2 hno => by
      refine f21_end h2 (fun b hb => hQ b (Nat.le_trans x2.n hb)) (stay_rd hr hM0 x2) hc (ats_ext hx hM0 x2) hl hi fun H' S' v' h' x' r' c' => ?_
      rw [← insL_at hi hall hno] at r'
      exact hK H' S' v' h' (x2.trans x') r' c'
    show f21_q2 f21_rr K (f21_l2 f21_rr K n) (f21_p1 f21_rr K) v (.ptr bx 0) was i H
    unfold f21_q2
    rw [r21b]
    refine hr1.len ?_
    simp only [cI_z, iLt_d]
    refine bI_dec (fun h => ?_) (fun h => ?_)
    · obtain ⟨y, hy⟩ : ∃ y, l[i]? = some y := ⟨l[i], List.getElem?_eq_getElem (by omega)⟩
      refine (ats_ext hx hM0 hS).loadN hM ?_
      refine hr1.at_ hy fun b o hat _ => hat.loadN hM ?_
      refine f29_i hM fun H2 S2 h2 x2 => ?_
      simp only [cR_ret, onB_b]
      refine bI_dec (fun e => ?_) (fun e => ?_)
      · simp only [iadd, io1]
        refine w0 (by omega) (by omega) ?_
        refine f21_loop hM0 hQ hr hc hx hl hK n (i + 1) h2 (hS.trans x2) (by omega) (fun j z hj hz => ?_) (by omega)
        rcases Nat.lt_or_ge j i with g | g
        · exact hall j z g hz
        · have : j = i := by omega
          subst this
          rw [hy] at hz
          cases hz
          exact e
      · exact fin h2 (hS.trans x2) fun z hz => by rw [hy] at hz; cases hz; exact e
    · exact fin hM hS fun z hz => by have := (List.getElem?_eq_some_iff.1 hz).1; omega
theorem f21_i {Q : Nat → Prop} {v : AV} {l : List Sc} {x : Sc} (hM : Mem H S) (hQ : ∀ b, S.n ≤ b → Q b) (hr : Rd S Q v l) (hc : capOk v) (hs : Srt l) (hn : Nms l) (hl : l.length ≤ 90000)
    (hK : ∀ H' S' v', Mem H' S' → Ext S S' → Rd S' Q v' (putL l x) → capOk v' → K (.ret (.tup [v', .bool (!hasN l x.nm)])) H') : f21 v (.agg x.cs) H K := by
  show f21_q0 f21_rr K (f21_l2 f21_rr K NL) v (.agg x.cs) H
  unfold f21_q0
  rw [r21a]
  refine xBox_agg hM (by simp [Sc.cs, Nm.av]) fun H1 h1 => ?_
  have x1 : Ext S (S.push (.cells x.cs 0)) := Ext.push _ _
  have t1 : AtS (S.push (.cells x.cs 0)) S.n 0 x := ⟨x.cs, 0, LS.push_ob_self _ _, by simp [Sc.cs], by simp [Sc.cs]⟩
  refine t1.nm h1 ?_
  refine f22_i h1 (fun b hb => hQ b (by simp at hb; omega)) (stay_rd hr hM x1) hc hs hn (by omega) fun H2 S2 v2 h2 x2 r2 c2 => ?_
  simp only [cR_ret]
  refine onTup_i (nth0 (onTup_i (nth1 ?_)))
  simp only [onB_b]
  have hl2 := @len_delL x.nm l
  have x12 := x1.trans x2
  exact f21_loop h2 (fun b hb => hQ b (Nat.le_trans x12.n hb)) r2 c2 (ats_ext t1 h1 x2) (by omega) (fun H' S' v' h' x' r' c' => hK H' S' v' h' (x12.trans x') r' c') NL 0 h2 (Ext.refl S2) (by omega) (fun j y h => by omega) (by have : NL = 1000000 := rfl; omega)
/-! ### Rank, Place, Places -/
theorem f30_loop {Q : Nat → Prop} {v : AV} {l : List Sc} {a : Nm} (hM : Mem H S) (hr : Rd S Q v l) (hl : l.length ≤ 100000) (hK1 : ∀ (r : Nat) y, l[r]? = some y → y.nm = a → K (.ret (.int 0 r)) H) (hK2 : hasN l a = false → K (.ret (.int 0 (.negSucc 0))) H) :
    ∀ (n i : Nat), i ≤ l.length → (∀ j y, j < i → l[j]? = some y → y.nm ≠ a) → l.length - i < n → f30_l2 f30_rr K n v a.av i H
  | 0, _, _, _, h => by omega
  | n + 1, i, hi, hno, hn' => by
    show f30_q2 f30_rr K (f30_l2 f30_rr K n) (f30_p1 f30_rr K) v a.av i H
    unfold f30_q2
    refine hr.len ?_
    simp only [cI_z, iLt_d]
    refine bI_dec (fun h => ?_) (fun h => ?_)
    · obtain ⟨y, hy⟩ : ∃ y, l[i]? = some y := ⟨l[i], List.getElem?_eq_getElem (by omega)⟩
      refine hr.at_ hy fun b o hat _ => hat.nm hM ?_
      refine sEq_i ?_
      simp only [onB_b]
      refine bI_dec (fun e => ?_) (fun e => ?_)
      · exact hK1 i y hy e
      · simp only [iadd, io1]
        refine w0 (by omega) (by omega) ?_
        refine f30_loop hM hr hl hK1 hK2 n (i + 1) (by omega) (fun j z hj hz => ?_) (by omega)
        rcases Nat.lt_or_ge j i with g | g
        · exact hno j z g hz
        · have : j = i := by omega
          subst this
          rw [hy] at hz
          cases hz
          exact e
    · show f30_q1 f30_rr K H
      unfold f30_q1
      refine hK2 ?_
      cases g : hasN l a with
      | false => rfl
      | true =>
        obtain ⟨y, h1, h2⟩ := hasN_iff.1 g
        obtain ⟨j, hj⟩ := List.getElem?_of_mem h1
        have := (List.getElem?_eq_some_iff.1 hj).1
        exact absurd h2 (hno j y (by omega) hj)
theorem f30_i {Q : Nat → Prop} {v : AV} {l : List Sc} {a : Nm} (hM : Mem H S) (hr : Rd S Q v l) (hl : l.length ≤ 100000) (hK1 : ∀ (r : Nat) y, l[r]? = some y → y.nm = a → K (.ret (.int 0 r)) H) (hK2 : hasN l a = false → K (.ret (.int 0 (.negSucc 0))) H) : f30 v a.av H K := by
  show f30_q0 f30_rr K (f30_l2 f30_rr K NL) v a.av H
  unfold f30_q0
  exact f30_loop hM hr hl hK1 hK2 NL 0 (by omega) (fun j y h => by omega) (by have : NL = 1000000 := rfl; omega)
theorem f31_i {n : Nat} {z : Int} (hn : n ≤ 100000) (hz : i64 z) (hK1 : plc n z = none → ∀ z', K (.ret (.tup [.int 0 z', .bool false])) H) (hK2 : ∀ i : Nat, plc n z = some i → K (.ret (.tup [.int 0 i, .bool true])) H) : f31 n z H K := by
  obtain ⟨hz1, hz2⟩ := hz
  have q1 : ∀ z' : Int, z' = (if z < 0 then z + n else z) → f31_q1 f31_rr K n z' H := fun z' e => by
    unfold f31_q1
    simp only [iLt_d, io0]
    by_cases h : z' < 0
    · rw [decide_eq_true h]
      simp only [Bool.not_true, bI_ff]
      refine hK1 ?_ z'
      unfold plc
      by_cases g : z < 0
      · rw [if_pos g] at e ⊢; rw [if_pos (by omega)]
      · rw [if_neg g] at e; omega
    · rw [decide_eq_false h]
      simp only [Bool.not_false, bI_tt]
      by_cases g2 : z' < n
      · rw [decide_eq_true g2]
        obtain ⟨i, rfl⟩ := Int.eq_ofNat_of_zero_le (show 0 ≤ z' by omega)
        refine hK2 i ?_
        unfold plc
        by_cases g : z < 0
        · rw [if_pos g] at e ⊢; rw [if_neg (by omega), ← e]; rfl
        · rw [if_neg g] at e ⊢; rw [if_pos (by omega), ← e]; rfl
      · rw [decide_eq_false g2]
        refine hK1 ?_ z'
        unfold plc
        by_cases g : z < 0
        · rw [if_pos g] at e; omega
        · rw [if_neg g] at e ⊢; rw [if_neg (by omega)]
  show f31_q0 f31_rr K (f31_q1 f31_rr K) n z H
  unfold f31_q0
  simp only [iLt_d, io0, iadd]
  refine bI_dec (fun h => ?_) (fun h => ?_)
  · refine w0 (by omega) (by omega) ?_
    exact q1 _ (by rw [if_pos h])
  · exact q1 _ (by rw [if_neg h])
theorem f32_i {n : Nat} {a b : Int} (hn : n ≤ 100000) (ha : i64 a) (hb : i64 b)
    (hK : ∀ p q : Nat, p ≤ q → q ≤ n → (∀ L : List Sc, L.length = n → partL L a b = (L.drop p).take (q - p)) → K (.ret (.tup [.int 0 p, .int 0 q])) H) : f32 n a b H K := by
  obtain ⟨ha1, ha2⟩ := ha
  obtain ⟨hb1, hb2⟩ := hb
  have q2 : ∀ fr to : Int, fr = frZ n a → to = (if b < 0 then b + n else b) → f32_q2 f32_rr K n fr to H := fun fr to e1 e2 => by
    have hfr : 0 ≤ fr := by rw [e1]; unfold frZ; split <;> omega
    unfold f32_q2
    simp only [isub, io1]
    refine w0 (by omega) (by omega) ?_
    refine pMin_i fun z hz => ?_
    have ez : z = toZ n b := by unfold toZ; rw [← e2]; omega
    simp only [cI_z, iLt_d, iadd, io1]
    refine bI_dec (fun h => ?_) (fun h => ?_)
    · refine hK 0 0 (Nat.le_refl _) (Nat.zero_le _) fun L hL => ?_
      unfold partL
      rw [hL, ← e1, ← ez, if_pos (by omega)]
      simp
    · refine w0 (by omega) (by omega) ?_
      obtain ⟨p, rfl⟩ := Int.eq_ofNat_of_zero_le hfr
      obtain ⟨t, rfl⟩ := Int.eq_ofNat_of_zero_le (show 0 ≤ z by omega)
      refine hK p (t + 1) (by omega) (by unfold toZ at ez; omega) fun L hL => ?_
      unfold partL
      rw [hL, ← e1, ← ez, if_neg (by omega)]
      congr 1
      omega
  have q1 : ∀ fr : Int, fr = frZ n a → f32_q1 f32_rr K (f32_q2 f32_rr K) n fr b H := fun fr e1 => by
    unfold f32_q1
    simp only [iLt_d, iadd, io0]
    refine bI_dec (fun h => ?_) (fun h => ?_)
    · refine w0 (by omega) (by omega) ?_
      exact q2 fr _ e1 (by rw [if_pos h])
    · exact q2 fr _ e1 (by rw [if_neg h])
  show f32_q0 f32_rr K (f32_q1 f32_rr K (f32_q2 f32_rr K)) n a b H
  unfold f32_q0
  simp only [iLt_d, iadd, io0]
  refine bI_dec (fun h => ?_) (fun h => ?_)
  · refine w0 (by omega) (by omega) ?_
    refine pMax_i fun z hz => ?_
    simp only [cI_z]
    refine q1 z ?_
    unfold frZ
    rw [if_pos h]
    omega
  · exact q1 a (by unfold frZ; rw [if_neg h])
end Go.Proofs.YtpfnalokeeidkaaDoor

namespace Go.Proofs.YtpfnalokeeidkaaDoor
open Go Go.X Go.Proofs.YtpfnalokeeidkaaDoor.G
set_option maxRecDepth 100000
set_option maxHeartbeats 1600000
set_option linter.unusedVariables false
set_option linter.unusedSimpArgs false
variable {H : AH} {S : LS} {K : KF}
structure Opn where
  kind : Int
  i : Int
  j : Int
  nm : Nm
  s : Int
def Opn.cs (a : Opn) : List AV := [.int 0 a.kind, .int 0 a.i, .int 0 a.j, a.nm.av, .int 0 a.s]
structure Opn.ok (a : Opn) : Prop where
  i : i64 a.i
  j : i64 a.j
  s : i64 a.s
  kind : i64 a.kind
def AtO (S : LS) (b o : Nat) (a : Opn) : Prop := ∃ cs m, S.ob b = .cells cs m ∧ o + 5 ≤ cs.length ∧ (cs.drop o).take 5 = a.cs
theorem AtO.get {b o : Nat} {a : Opn} (h : AtO S b o a) (j : Nat) (x : AV) (hj : j < 5) (hx : a.cs[j]? = some x) {k : AV → Prop} (hM : Mem H S) (hk : k x) : pFld j (.ptr b o) (fun v => pLoad v H k) := by
  obtain ⟨cs, m, h1, h2, h3⟩ := h
  simp only [pFld_ptr]
  refine pLoad_i hM h1 (v := x) ?_ hk
  have := congrArg (fun l => l[j]?) h3
  simp only [List.getElem?_take, hj, if_true, List.getElem?_drop] at this
  rw [this, hx]
theorem AtO.loadN {b o : Nat} {a : Opn} {k : AV → Prop} (h : AtO S b o a) (hM : Mem H S) (hk : k (.agg a.cs)) : pLoadN 5 (.ptr b o) H k := by
  obtain ⟨cs, m, h1, h2, h3⟩ := h
  refine pLoadN_i hM h1 h2 ?_
  rw [h3]; exact hk
theorem ato_ext {b o : Nat} {a : Opn} {S' : LS} (h : AtO S b o a) (hM : Mem H S) (hx : Ext S S') : AtO S' b o a := by
  obtain ⟨cs, m, h1, h2⟩ := h
  exact ⟨cs, m, (hx.ob b (hM.lt (by rw [h1]; simp))).trans h1, h2⟩
theorem cs_one (a : Opn) : ∀ x ∈ a.cs, x.one = true := by
  intro x hx
  simp only [Opn.cs, List.mem_cons, List.not_mem_nil, or_false] at hx
  rcases hx with rfl | rfl | rfl | rfl | rfl <;> rfl
theorem r23a : f23_rr.1 = f10 := rfl
theorem r23b : f23_rr.2.1 = f11 := rfl
theorem r23c : f23_rr.2.2.1 = f12 := rfl
theorem r23d : f23_rr.2.2.2.1 = f18 := rfl
theorem r23e : f23_rr.2.2.2.2.1 = f19 := rfl
theorem r23f : f23_rr.2.2.2.2.2.1 = f20 := rfl
theorem r23g : f23_rr.2.2.2.2.2.2.1 = f30 := rfl
theorem r23h : f23_rr.2.2.2.2.2.2.2.1 = f31 := rfl
theorem r23i : f23_rr.2.2.2.2.2.2.2.2 = f32 := rfl
theorem pBNe_same (b : Bool) (q : AV → Prop) (h : q (.bool false)) : pBNe (.bool b) (.bool b) q := by cases b <;> exact h
section
variable {S0 : LS} {H0 : AH} {sb mb mk : Nat} {ns : List Nd} {v : AV} {Q : Nat → Prop} {op : Opn} {bx : Nat}
/-- What holds all along. -/
structure Askd (S0 : LS) (sb mb mk : Nat) (ns : List Nd) (Q : Nat → Prop) (v : AV) (op : Opn) (bx : Nat) : Prop where
  a : SetA S0 sb mb ns mk
  r : Rd S0 Q v (scs ns)
  c : capOk v
  o : AtO S0 bx 0 op
  k : op.ok
  n : (scs ns).length ≤ 90000
theorem f23_end (hM0 : Mem H0 S0) (h : Askd S0 sb mb mk ns Q v op bx) {p : Nat} (hp : p ≤ (scs ns).length) (hc : ∀ i y, (scs ns)[i]? = some y → (i < p ↔ y.s < op.s)) (hM : Mem H S) (hx : Ext S0 S) (hK : ∀ H' S', Mem H' S' → Ext S0 S' → K (.ret (.bool true)) H') :
    f23_q4 f23_rr K (.ptr sb 0) v (.ptr bx 0) p H := by
  have o1 := ato_ext h.o hM0 hx
  unfold f23_q4
  rw [r23a, r23b, r23c, r23i]
  refine (stay_rd h.r hM0 hx).len ?_
  simp only [cI_z]
  refine o1.get 1 _ (by omega) rfl hM ?_
  simp only [cI_z]
  refine o1.get 2 _ (by omega) rfl hM ?_
  simp only [cI_z]
  refine f32_i (by have := h.n; omega) h.k.i h.k.j fun fr to h1 h2 h3 => ?_
  simp only [cR_ret]
  refine onTup_i (nth0 ?_)
  simp only [cI_z]
  refine onTup_i (nth1 ?_)
  simp only [cI_z]
  refine o1.get 4 _ (by omega) rfl hM ?_
  simp only [cI_z]
  refine f11_n hM (h.a.ext hM0 hx) op.s fun H2 S2 p2 m2 x2 hp2 hc2 => ?_
  have ep : p2 = p := by
    rcases Nat.lt_trichotomy p2 p with g | g | g
    · have e := List.getElem?_eq_getElem (show p2 < (scs ns).length by omega)
      have a1 := (hc _ _ e).1 g
      have a2 := (hc2 _ _ e).2 a1
      omega
    · exact g
    · have e := List.getElem?_eq_getElem (show p < (scs ns).length by omega)
      have a1 := (hc2 _ _ e).1 g
      have a2 := (hc _ _ e).2 a1
      omega
  subst ep
  simp only [cR_ret, cI_z, iEq_d, decide_true, bI_tt]
  have x02 := hx.trans x2
  have o2 := ato_ext h.o hM0 x02
  refine o2.get 1 _ (by omega) rfl m2 ?_
  simp only [cI_z]
  refine o2.get 2 _ (by omega) rfl m2 ?_
  simp only [cI_z]
  refine pSlice_rd (i := fr) (j := to) (stay_rd h.r hM0 x02) h.c h1 h2 (.inl rfl) (.inl rfl) fun v' r' c' => ?_
  refine f10_i m2 (h.a.ext hM0 x02) h.k.i h.k.j fun H3 S3 v3 m3 x3 o3 => ?_
  simp only [cR_ret]
  rw [h3 _ rfl] at o3
  refine f12_i m3 (o3.rd m3 (Q := fun _ => True) fun _ _ _ => trivial) (stay_rd r' m2 x3) (by have := h.n; simp; omega) ?_
  simp only [cR_ret, onB_b]
  exact hK H3 S3 m3 (x02.trans x3)
theorem f23_loop (hM0 : Mem H0 S0) (h : Askd S0 sb mb mk ns Q v op bx) (hM : Mem H S) (hx : Ext S0 S) (hK : ∀ H' S', Mem H' S' → Ext S0 S' → K (.ret (.bool true)) H') :
    ∀ (n i : Nat), i ≤ (scs ns).length → (∀ j y, j < i → (scs ns)[j]? = some y → y.s < op.s) → (scs ns).length - i < n → f23_l5 f23_rr K n (.ptr sb 0) v (.ptr bx 0) i H
  | 0, _, _, _, h => by omega
  | n + 1, i, hi, hall, hn => by
    have hlen := h.n
    have hsrt := h.a.srt
    have fin : (∀ y, (scs ns)[i]? = some y → ¬ y.s < op.s) → f23_p4 f23_rr K (.ptr sb 0) v (.ptr bx 0) i H := fun hno => by
      refine f23_end hM0 h hi (fun j y hj => ?_) hM hx hK
      constructor
      · exact fun g => hall j y g hj
      · intro g
        rcases Nat.lt_or_ge j i with q | q
        · exact q
        · have hil : i < (scs ns).length := by have := (List.getElem?_eq_some_iff.1 hj).1; omega
          have e := List.getElem?_eq_getElem hil
          have a1 := hno _ e
          rcases Nat.eq_or_lt_of_le q with z | z
          · subst z; rw [hj] at e; cases e; exact absurd g a1
          · have a2 := srt_at hsrt e hj z
            rcases a2 with a2 | ⟨a2, _⟩ <;> omega
    show f23_q5 f23_rr K (f23_l5 f23_rr K n) (f23_p4 f23_rr K) (.ptr sb 0) v (.ptr bx 0) i H
    unfold f23_q5
    refine (stay_rd h.r hM0 hx).len ?_
    simp only [cI_z, iLt_d]
    refine bI_dec (fun g => ?_) (fun g => ?_)
    · obtain ⟨y, hy⟩ : ∃ y, (scs ns)[i]? = some y := ⟨(scs ns)[i], List.getElem?_eq_getElem (by omega)⟩
      refine (stay_rd h.r hM0 hx).at_ hy fun b o hat _ => hat.sc hM ?_
      simp only [cI_z]
      refine (ato_ext h.o hM0 hx).get 4 _ (by omega) rfl hM ?_
      simp only [cI_z]
      refine bI_dec (fun e => ?_) (fun e => ?_)
      · simp only [iadd, io1]
        refine w0 (by omega) (by omega) ?_
        refine f23_loop hM0 h hM hx hK n (i + 1) (by omega) (fun j z hj hz => ?_) (by omega)
        rcases Nat.lt_or_ge j i with g | g
        · exact hall j z g hz
        · have : j = i := by omega
          subst this
          rw [hy] at hz
          cases hz
          exact e
      · exact fin fun z hz => by rw [hy] at hz; cases hz; exact e
    · exact fin fun z hz => by have := (List.getElem?_eq_some_iff.1 hz).1; omega
theorem box2_i {cs : List AV} (hcs : cs.length = 2) (h1 : ∀ a ∈ cs, a.one = true) {k : AV → AH → Prop} (hM : Mem H S) (hk : ∀ H' S' b, Mem H' S' → Ext S S' → S'.ob b = .cells cs 0 → k (.ptr b 0) H') : onAH H (pNew (newK H) [(.str 0 0), (.int 0 (.ofNat 0))] fun v9 H10 => pStore 2 v9 (.agg cs) H10 fun H11 => k v9 H11) := by
  refine onAH_i (pNew_i hM (by simp) fun H1 m1 => ?_)
  refine pStoreN_i m1 (LS.push_ob_self _ _) (by omega) hcs (by simp) h1 fun H2 m2 => ?_
  have e2 : spliceL [.str 0 0, .int 0 (.ofNat 0)] 0 cs = cs := by simp [spliceL, hcs]
  rw [e2] at m2
  exact hk H2 _ S.n m2 ((Ext.push _ _).set (Nat.le_refl _) _) (LS.set_ob_self _ _ _)
theorem f23_q2_i (hM0 : Mem H0 S0) (h : Askd S0 sb mb mk ns Q v op bx) (hM : Mem H S) (hx : Ext S0 S) (hK : ∀ H' S', Mem H' S' → Ext S0 S' → K (.ret (.bool true)) H') : f23_q2 f23_rr K (f23_p3 f23_rr K) (.ptr sb 0) v (.ptr bx 0) H := by
  have o1 := ato_ext h.o hM0 hx
  have hlen := h.n
  unfold f23_q2
  rw [r23f, r23h]
  refine (stay_rd h.r hM0 hx).len ?_
  simp only [cI_z]
  refine o1.get 1 _ (by omega) rfl hM ?_
  simp only [cI_z]
  have hA := h.a.ext hM0 hx
  refine f31_i (by omega) h.k.i (fun hpl z' => ?_) (fun i hpl => ?_)
  · simp only [cR_ret]
    refine onTup_i (nth0 ?_)
    simp only [cI_z]
    refine onTup_i (nth1 ?_)
    simp only [onB_b]
    refine o1.get 1 _ (by omega) rfl hM ?_
    simp only [cI_z]
    refine f20_i hM hA _ h.k.i.1 h.k.i.2 (fun H2 S2 m2 x2 _ => ?_) (fun H2 S2 i a m2 x2 g _ => by rw [hpl] at g; cases g)
    simp only [cR_ret]
    refine onTup_i (nth0 (onTup_i (nth1 ?_)))
    simp only [onB_b]
    refine box2_i rfl (by simp [sc0, Sc.cs, nm0, Nm.av]) m2 fun H3 S3 b3 m3 x3 _ => ?_
    show f23_q3 f23_rr K (f23_l5 f23_rr K NL) (.ptr sb 0) v (.ptr bx 0) z' false (.ptr b3 0) false H3
    unfold f23_q3
    refine pBNe_same _ _ ?_
    simp only [onB_b, bI_ff]
    exact f23_loop hM0 h m3 ((hx.trans x2).trans x3) hK NL 0 (by omega) (fun j y h => by omega) (by have : NL = 1000000 := rfl; omega)
  · simp only [cR_ret]
    refine onTup_i (nth0 ?_)
    simp only [cI_z]
    refine onTup_i (nth1 ?_)
    simp only [onB_b]
    refine o1.get 1 _ (by omega) rfl hM ?_
    simp only [cI_z]
    refine f20_i hM hA _ h.k.i.1 h.k.i.2 (fun H2 S2 m2 x2 g => by rw [hpl] at g; cases g) (fun H2 S2 i' a m2 x2 g ha => ?_)
    rw [hpl] at g
    cases g
    simp only [cR_ret]
    refine onTup_i (nth0 (onTup_i (nth1 ?_)))
    simp only [onB_b]
    refine box2_i rfl (by simp [Sc.cs, Nm.av]) m2 fun H3 S3 b3 m3 x3 e3 => ?_
    have x03 := (hx.trans x2).trans x3
    have t3 : AtS S3 b3 0 a := ⟨a.cs, 0, e3, by simp [Sc.cs], by simp [Sc.cs]⟩
    show f23_q3 f23_rr K (f23_l5 f23_rr K NL) (.ptr sb 0) v (.ptr bx 0) i true (.ptr b3 0) true H3
    unfold f23_q3
    refine pBNe_same _ _ ?_
    simp only [onB_b, bI_ff, bI_tt]
    refine t3.loadN m3 ((stay_rd h.r hM0 x03).at_ ha fun b o hat _ => hat.loadN m3 ?_)
    refine onAgg_i (onAgg_i (cs0 (cs0 (sEqB_i (cs1 (cs1 (iEqB_i ?_)))))))
    simp only [decide_true, Bool.and_self, Bool.not_true, bI_ff]
    exact f23_loop hM0 h m3 x03 hK NL 0 (by omega) (fun j y h => by omega) (by have : NL = 1000000 := rfl; omega)
end
theorem f23_i {sb mb mk : Nat} {ns : List Nd} {v : AV} {Q : Nat → Prop} {op : Opn} (hM : Mem H S) (hA : SetA S sb mb ns mk) (hr : Rd S Q v (scs ns)) (hc : capOk v) (hop : op.ok) (hnm : op.nm.n ≤ maxLen) (hlen : (scs ns).length ≤ 90000)
    (hK : ∀ H' S', Mem H' S' → Ext S S' → K (.ret (.bool true)) H') : f23 (.ptr sb 0) v (.agg op.cs) H K := by
  show f23_q0 f23_rr K (f23_p1 f23_rr K) (.ptr sb 0) v (.agg op.cs) H
  unfold f23_q0
  rw [r23d, r23e, r23g]
  refine xBox_agg hM (cs_one op) fun H1 m1 => ?_
  have x1 : Ext S (S.push (.cells op.cs 0)) := Ext.push _ _
  have t1 : AtO (S.push (.cells op.cs 0)) S.n 0 op := ⟨op.cs, 0, LS.push_ob_self _ _, by simp [Opn.cs], by simp [Opn.cs]⟩
  have hA1 := hA.ext hM x1
  have hr1 := stay_rd hr hM x1
  have ask : Askd (S.push (.cells op.cs 0)) sb mb mk ns Q v op S.n := ⟨hA1, hr1, hc, t1, hop, hlen⟩
  have hK1 : ∀ H' S', Mem H' S' → Ext (S.push (.cells op.cs 0)) S' → K (.ret (.bool true)) H' := fun H' S' m x => hK H' S' m (x1.trans x)
  refine t1.get 3 _ (by omega) rfl m1 ?_
  refine f30_i m1 hr1 (by omega) (fun r y hy hn => ?_) (fun hno => ?_)
  · simp only [cR_ret, cI_z]
    refine t1.get 3 _ (by omega) rfl m1 ?_
    have hmem := List.mem_of_getElem? hy
    have hhas : hasN (scs ns) op.nm = true := hasN_iff.2 ⟨y, hmem, hn⟩
    refine f19_i m1 hA1 hnm (fun y' hy' e' => ?_) (fun g => by rw [hhas] at g; cases g)
    obtain rfl := hA.nms y' hy' y hmem (e'.trans hn.symm)
    simp only [cR_ret]
    refine onTup_i (nth0 ?_)
    simp only [cI_z]
    refine onTup_i (nth1 ?_)
    simp only [onB_b]
    refine t1.get 3 _ (by omega) rfl m1 ?_
    refine f18_i m1 hA1 hnm (fun H2 S2 r2 y2 m2 x2 hr2 hy2 => ?_) (fun g => by rw [hhas] at g; cases g)
    obtain rfl := hA.nms y2 (List.mem_of_getElem? hr2) y' hmem (hy2.trans hn.symm)
    have er : r2 = r := by
      rcases Nat.lt_trichotomy r2 r with g | g | g
      · exact absurd (srt_at hA.srt hr2 hy g) (slt_irrefl _)
      · exact g
      · exact absurd (srt_at hA.srt hy hr2 g) (slt_irrefl _)
    subst er
    simp only [cR_ret]
    refine onTup_i (nth0 ?_)
    simp only [cI_z]
    refine onTup_i (nth1 ?_)
    simp only [onB_b]
    show f23_q1 f23_rr K (f23_p2 f23_rr K) (.ptr sb 0) v (.ptr S.n 0) r2 y2.s true r2 true H2
    unfold f23_q1
    simp only [iLt_d, io0]
    rw [decide_eq_false (show ¬ ((r2 : Int) < 0) by omega)]
    refine pBNe_same _ _ ?_
    simp only [onB_b, bI_ff]
    refine pBNe_same _ _ ?_
    simp only [onB_b, bI_ff, bI_tt]
    refine (stay_rd hr1 m1 x2).at_ hy fun b o hat _ => hat.sc m2 ?_
    simp only [cI_z, iEq_d, decide_true, Bool.not_true, bI_ff]
    exact f23_q2_i m1 ask m2 x2 hK1
  · simp only [cR_ret, cI_z]
    refine t1.get 3 _ (by omega) rfl m1 ?_
    refine f19_i m1 hA1 hnm (fun y' hy' e' => by have := hasN_iff.2 ⟨y', hy', e'⟩; rw [hno] at this; cases this) (fun _ => ?_)
    simp only [cR_ret]
    refine onTup_i (nth0 ?_)
    simp only [cI_z]
    refine onTup_i (nth1 ?_)
    simp only [onB_b]
    refine t1.get 3 _ (by omega) rfl m1 ?_
    refine f18_i m1 hA1 hnm (fun H2 S2 r2 y2 m2 x2 hr2 hy2 => by have := hasN_iff.2 ⟨y2, List.mem_of_getElem? hr2, hy2⟩; rw [hno] at this; cases this) (fun _ => ?_)
    simp only [cR_ret]
    refine onTup_i (nth0 ?_)
    simp only [cI_z]
    refine onTup_i (nth1 ?_)
    simp only [onB_b]
    show f23_q1 f23_rr K (f23_p2 f23_rr K) (.ptr sb 0) v (.ptr S.n 0) (.negSucc 0) 0 false 0 false H1
    unfold f23_q1
    simp only [iLt_d, io0]
    rw [decide_eq_true (show (Int.negSucc 0 : Int) < 0 by decide)]
    refine pBNe_same _ _ ?_
    simp only [onB_b, bI_ff]
    refine pBNe_same _ _ ?_
    simp only [onB_b, bI_ff]
    exact f23_q2_i m1 ask m1 (Ext.refl _) hK1
end Go.Proofs.YtpfnalokeeidkaaDoor

namespace Go.Proofs.YtpfnalokeeidkaaDoor
open Go Go.X Go.Proofs.YtpfnalokeeidkaaDoor.G
set_option maxRecDepth 100000
set_option maxHeartbeats 1600000
set_option linter.unusedVariables false
set_option linter.unusedSimpArgs false
variable {H : AH} {S : LS} {K : KF}
theorem r6a : f6_rr.1 = f7 := rfl
theorem r6b : f6_rr.2.1 = f8 := rfl
theorem r6c : f6_rr.2.2.1 = f9 := rfl
theorem r6d : f6_rr.2.2.2.1 = f12 := rfl
theorem r6e : f6_rr.2.2.2.2.1 = f15 := rfl
theorem r6f : f6_rr.2.2.2.2.2.1 = f16 := rfl
theorem r6g : f6_rr.2.2.2.2.2.2.1 = f17 := rfl
theorem r6h : f6_rr.2.2.2.2.2.2.2.1 = f21 := rfl
theorem r6i : f6_rr.2.2.2.2.2.2.2.2.1 = f22 := rfl
theorem r6j : f6_rr.2.2.2.2.2.2.2.2.2.1 = f23 := rfl
theorem r6k : f6_rr.2.2.2.2.2.2.2.2.2.2 = f24 := rfl
/-- A slice's value that reads as a list of ops. -/
def RdO (S : LS) (v : AV) (l : List Opn) : Prop := (v = .nslice ∧ l = []) ∨ ∃ b o c ex cs m, v = .slice b o l.length c 5 ex ∧ S.ob b = .cells cs m ∧ o + l.length * 5 ≤ cs.length ∧ ∀ (i : Nat) a, l[i]? = some a → (cs.drop (o + i * 5)).take 5 = a.cs
theorem RdO.ext {S' : LS} {v : AV} {l : List Opn} (h : RdO S v l) (hM : Mem H S) (hx : Ext S S') : RdO S' v l := by
  rcases h with h | ⟨b, o, c, ex, cs, m, h1, h3, h4⟩
  · exact .inl h
  · exact .inr ⟨b, o, c, ex, cs, m, h1, (hx.ob b (hM.lt (by rw [h3]; simp))).trans h3, h4⟩
theorem RdO.len {v : AV} {l : List Opn} {k : AV → Prop} (h : RdO S v l) (hk : k (.int 0 l.length)) : pLen v k := by
  rcases h with ⟨rfl, rfl⟩ | ⟨b, o, c, ex, cs, m, rfl, _⟩
  · exact hk
  · exact hk
theorem RdO.at_ {v : AV} {l : List Opn} {i : Nat} {a : Opn} {q : Nat} {k : AV → Prop} (h : RdO S v l) (hi : l[i]? = some a) (hk : ∀ b o, AtO S b o a → k (.ptr b o)) : pIdx 5 v (.int q i) k := by
  have hil := (List.getElem?_eq_some_iff.1 hi).1
  rcases h with ⟨rfl, rfl⟩ | ⟨b, o, c, ex, cs, m, rfl, h3, h4, h5⟩
  · simp at hi
  · refine pIdx_i (by omega) (by omega) ?_
    refine hk _ _ ⟨cs, m, h3, by omega, ?_⟩
    rw [Int.toNat_natCast]
    exact h5 i a hi
theorem sLen_nm {a : Nm} {k : AV → Prop} (h : k (.int 0 a.n)) : sLen a.av k := by
  show sLen (.str a.n a.x) k
  rw [sLen_s]
  exact h
section
variable {S0 : LS} {H0 : AH} {sb : Nat} {vo : AV} {ops : List Opn}
/-- What holds ahead of each op. -/
structure Plays (S0 S : LS) (sb : Nat) (v : AV) (i : Nat) (L : List Sc) : Prop where
  ext : Ext S0 S
  ex : ∃ mb ns mk, SetA S sb mb ns mk ∧ scs ns = L ∧ mk ≤ 1000 + i ∧ ns.length ≤ 200 + i ∧ (∀ b, OwnA sb mb ns b → S0.n ≤ b) ∧ Rd S (fun b => ¬ OwnA sb mb ns b) v L
  tab : Tab S
  cap : capOk v
theorem Plays.grow {S' : LS} {v : AV} {i : Nat} {L : List Sc} (h : Plays S0 S sb v i L) (hM : Mem H S) (hx : Ext S S') : Plays S0 S' sb v i L := by
  obtain ⟨h1, ⟨mb, ns, mk, a, b, c, d, e, f⟩, h3, h4⟩ := h
  exact ⟨h1.trans hx, ⟨mb, ns, mk, a.ext hM hx, b, c, d, e, stay_rd f hM hx⟩, h3.ext hM hx, h4⟩
theorem f6_end {v : AV} {i : Nat} {L : List Sc} (hM : Mem H S) (h : Plays S0 S sb v i L) (hi : i ≤ 100) (hK : ∀ H', K (.ret (.bool true)) H') : f6_q2 f6_rr K (.ptr sb 0) v H := by
  obtain ⟨_, ⟨mb, ns, mk, hA, hL, hmk, hns, _, hr⟩, hT, _⟩ := h
  subst hL
  have hlen := @scs_len ns
  unfold f6_q2
  rw [r6a, r6c, r6d]
  refine f7_i hM hT fun H1 S1 m1 x1 => ?_
  simp only [cR_ret, onB_b, bI_tt]
  refine f9_i m1 (hA.ext hM x1) fun H2 S2 v2 m2 x2 o2 => ?_
  simp only [cR_ret]
  refine f12_i m2 (o2.rd m2 (Q := fun _ => True) fun _ _ _ => trivial) (stay_rd hr hM (x1.trans x2)) (by omega) ?_
  simp only [cR_ret, onB_b]
  exact hK H2
theorem f6_next {n : Nat} {v : AV} {i : Nat} {L : List Sc} {x5 : AV → AV → AV → Int → AH → Prop} (hM : Mem H S) (h : Plays S0 S sb v (i + 1) L) (hi : i < 100) (hx5 : x5 vo (.ptr sb 0) v i H) : f6_q7 f6_rr K x5 vo (.ptr sb 0) v i H := by
  obtain ⟨_, ⟨mb, ns, mk, hA, hL, hmk, hns, _, hr⟩, hT, _⟩ := h
  subst hL
  unfold f6_q7
  rw [r6f, r6k]
  refine f16_i hM hA ?_
  simp only [cR_ret, cI_z]
  refine hr.len ?_
  simp only [cI_z, iEq_d, decide_true, Bool.not_true, bI_ff]
  refine f24_i hM hA.i fun z z1 z2 => ?_
  simp only [cR_ret, cI_z, iLt_d]
  rw [decide_eq_false (show ¬ (Int.ofNat 20 < z) by have : Int.ofNat 20 = 20 := rfl; omega)]
  simp only [bI_ff]
  refine f24_i hM hA.i fun z z1 z2 => ?_
  simp only [cR_ret, cI_z]
  rw [decide_eq_false (show ¬ (z < Int.ofNat 0) by have : Int.ofNat 0 = 0 := rfl; omega)]
  simp only [bI_ff]
  exact hx5
theorem f6_act {v : AV} {i : Nat} {L : List Sc} {x7 : AV → AV → AV → Int → AH → Prop} {op : Opn} {bx : Nat} {a60 : Int} {a66 : Bool} (hM : Mem H S) (h : Plays S0 S sb v i L) (hi : i < 100) (ht : AtO S bx 0 op) (hop : op.ok) (hnm : op.nm.n ≤ maxLen)
    (hx7 : ∀ H' S' v' L', Mem H' S' → Plays S0 S' sb v' (i + 1) L' → x7 vo (.ptr sb 0) v' i H') : f6_q8 f6_rr K x7 vo (.ptr sb 0) v i (.ptr bx 0) a60 a66 H := by
  obtain ⟨hx0, ⟨mb, ns, mk, hA, hL, hmk, hns, hown, hr⟩, hT, hc⟩ := h
  subst hL
  have hlen := @scs_len ns
  have hQ : ∀ b, S.n ≤ b → ¬ OwnA sb mb ns b := fun b hb g => by have := hA.own_lt hM g; omega
  unfold f6_q8
  rw [r6e, r6g, r6h, r6i, r6j]
  refine bI_i (fun _ => ?_) (fun _ => bI_i (fun _ => ?_) (fun _ => ?_))
  · refine ht.get 3 _ (by omega) rfl hM ?_
    refine ht.get 4 _ (by omega) rfl hM ?_
    simp only [cI_z]
    refine one_i rfl ?_
    show f21 v (.agg (Sc.cs ⟨op.nm, op.s⟩)) H _
    refine f21_i hM hQ hr hc hA.srt hA.nms (by omega) fun H2 S2 v2 m2 x2 r2 c2 => ?_
    simp only [cR_ret]
    refine onTup_i (nth0 (onTup_i (nth1 ?_)))
    simp only [onB_b]
    have t2 := ato_ext ht hM x2
    refine t2.get 3 _ (by omega) rfl m2 ?_
    refine t2.get 4 _ (by omega) rfl m2 ?_
    simp only [cI_z]
    show f15 (.ptr sb 0) (Sc.nm ⟨op.nm, op.s⟩).av (Sc.s ⟨op.nm, op.s⟩) H2 _
    have hA2 := hA.ext hM x2
    refine f15_i m2 hA2 (hT.ext hM x2) (by omega) (by omega) ⟨op.nm, op.s⟩ hnm fun H3 S3 ns3 m3 f3 hA3 hT3 hL3 hn3 ho3 => ?_
    simp only [cR_ret, onB_b]
    refine pBNe_same _ _ ?_
    simp only [onB_b, bI_ff]
    refine hx7 H3 S3 v2 _ m3 ⟨ext_frm (hx0.trans x2) f3 hown, ⟨mb, ns3, mk + 1, hA3, rfl, by omega, by omega, fun b hb => ?_, ?_⟩, hT3, c2⟩
    · rcases ho3 b hb with g | g
      · exact hown b g
      · have := hx0.n; have := x2.n; omega
    · rw [hL3]
      exact r2.keep m2 fun b hb hlt => ⟨f3.ob b hlt hb, fun g => (ho3 b g).elim hb (fun g' => by omega)⟩
  · refine ht.get 3 _ (by omega) rfl hM ?_
    refine f22_i hM hQ hr hc hA.srt hA.nms (by omega) fun H2 S2 v2 m2 x2 r2 c2 => ?_
    simp only [cR_ret]
    refine onTup_i (nth0 (onTup_i (nth1 ?_)))
    simp only [onB_b]
    have t2 := ato_ext ht hM x2
    refine t2.get 3 _ (by omega) rfl m2 ?_
    have hA2 := hA.ext hM x2
    refine f17_i m2 hA2 (hT.ext hM x2) hnm fun H3 S3 ns3 m3 f3 hA3 hT3 hL3 hn3 ho3 => ?_
    simp only [cR_ret, onB_b]
    refine pBNe_same _ _ ?_
    simp only [onB_b, bI_ff]
    refine hx7 H3 S3 v2 _ m3 ⟨ext_frm (hx0.trans x2) f3 hown, ⟨mb, ns3, mk, hA3, rfl, by omega, by omega, fun b hb => hown b (ho3 b hb), ?_⟩, hT3, c2⟩
    rw [hL3]
    exact r2.keep m2 fun b hb hlt => ⟨f3.ob b hlt hb, fun g => hb (ho3 b g)⟩
  · refine ht.loadN hM ?_
    refine f23_i hM hA hr hc hop hnm (by omega) fun H2 S2 m2 x2 => ?_
    simp only [cR_ret, onB_b, Bool.not_true, bI_ff]
    exact hx7 H2 S2 v _ m2 ⟨hx0.trans x2, ⟨mb, ns, mk, hA.ext hM x2, rfl, by omega, by omega, hown, stay_rd hr hM x2⟩, hT.ext hM x2, hc⟩
theorem f6_loop (hM0 : Mem H0 S0) (ho : RdO S0 vo ops) (hol : (ops.length : Int) < 9223372036854775808) (hops : ∀ a ∈ ops, a.ok) (hK : ∀ H', K (.ret (.bool true)) H') :
    ∀ (n i : Nat) {H : AH} {S : LS} {v : AV} {L : List Sc}, Mem H S → Plays S0 S sb v i L → i ≤ 100 → 100 - i < n → f6_l4 f6_rr K n vo (.ptr sb 0) v i H
  | 0, _, _, _, _, _, _, _, _, h => by omega
  | n + 1, i, H, S, v, L, hM, h, hi, hn => by
    show f6_q4 f6_rr K (f6_p6 f6_rr K (f6_l4 f6_rr K n)) (f6_p2 f6_rr K) vo (.ptr sb 0) v i H
    unfold f6_q4
    rw [r6a]
    have ho1 := ho.ext hM0 h.ext
    refine ho1.len ?_
    simp only [cI_z, iLt_d]
    refine bI_dec (fun g => ?_) (fun g => f6_end hM h hi hK)
    refine bI_dec (fun g2 => ?_) (fun g2 => f6_end hM h hi hK)
    have h100 : i < 100 := by have : Int.ofNat 100 = 100 := rfl; omega
    obtain ⟨op, hop⟩ : ∃ op, ops[i]? = some op := ⟨ops[i], List.getElem?_eq_getElem (by omega)⟩
    refine ho1.at_ hop fun b o hat => hat.loadN hM ?_
    refine onAH_i (pNew_i hM (by simp) fun H1 m1 => ?_)
    refine pStoreN_i m1 (LS.push_ob_self _ _) (by omega) (by simp [Opn.cs]) (by simp) (cs_one op) fun H2 m2 => ?_
    have e2 : ∀ l : List AV, l.length = 5 → spliceL l 0 op.cs = op.cs := fun l hl => by simp [spliceL, hl, Opn.cs]
    rw [e2 _ rfl] at m2
    have x2 : Ext S ((S.push (.cells [.int 0 (.ofNat 0), .int 0 (.ofNat 0), .int 0 (.ofNat 0), .str 0 0, .int 0 (.ofNat 0)] 0)).set S.n (.cells op.cs 0)) := (Ext.push _ _).set (Nat.le_refl _) _
    have t2 : AtO ((S.push (.cells [.int 0 (.ofNat 0), .int 0 (.ofNat 0), .int 0 (.ofNat 0), .str 0 0, .int 0 (.ofNat 0)] 0)).set S.n (.cells op.cs 0)) S.n 0 op := ⟨op.cs, 0, LS.set_ob_self _ _ _, by simp [Opn.cs], by simp [Opn.cs]⟩
    generalize hS2 : ((S.push (.cells [.int 0 (.ofNat 0), .int 0 (.ofNat 0), .int 0 (.ofNat 0), .str 0 0, .int 0 (.ofNat 0)] 0)).set S.n (.cells op.cs 0)) = S2 at m2 x2 t2
    have h2 := h.grow hM x2
    refine t2.get 3 _ (by omega) rfl m2 ?_
    refine sLen_nm ?_
    simp only [cI_z]
    refine bI_dec (fun g3 => ?_) (fun g3 => ?_)
    · refine f7_i m2 h2.tab fun H3 S3 m3 x3 => ?_
      simp only [cR_ret, onB_b]
      exact hK H3
    · have hnm : op.nm.n ≤ maxLen := by
        have : (20 : Nat) ≤ maxLen := by decide
        have : Int.ofNat 20 = 20 := rfl
        omega
      have hok := hops op (List.mem_of_getElem? hop)
      have act : ∀ (a60 : Int) (a66 : Bool), f6_p8 f6_rr K (f6_l4 f6_rr K n) vo (.ptr sb 0) v i (.ptr S.n 0) a60 a66 H2 := fun a60 a66 => by
        refine f6_act m2 h2 h100 t2 hok hnm fun H3 S3 v3 L3 m3 h3 => ?_
        refine f6_next (n := n) m3 h3 h100 ?_
        show f6_q5 f6_rr K (f6_l4 f6_rr K n) vo (.ptr sb 0) v3 i H3
        unfold f6_q5
        simp only [iadd, io1]
        refine w0 (by omega) (by omega) ?_
        exact f6_loop hM0 ho hol hops hK n (i + 1) m3 h3 (by omega) (by omega)
      show f6_q6 f6_rr K (f6_p8 f6_rr K (f6_l4 f6_rr K n)) vo (.ptr sb 0) v i (.ptr S.n 0) H2
      unfold f6_q6
      refine t2.get 0 _ (by omega) rfl m2 ?_
      simp only [cI_z]
      rw [show iEq (Int.ofNat 5) 0 = false from rfl]
      simp only [bI_ff, forceI_s, iadd]
      have b1 := Int.lt_tmod_of_pos op.kind (show (0 : Int) < 5 by omega)
      have b2 := Int.tmod_lt_of_pos op.kind (show (0 : Int) < 5 by omega)
      have e5 : Int.ofNat 5 = 5 := rfl
      rw [e5]
      refine w0 (by omega) (by omega) ?_
      generalize Int.tmod (Int.tmod op.kind 5 + 5) 5 = z6
      refine bI_i (fun _ => act _ _) (fun _ => bI_i (fun _ => act _ _) (fun _ => act _ _))
theorem f6_first {l : List Sc} {v0 : AV} {S1 : LS} {H1 : AH} {mb mk : Nat} {ns : List Nd} (hM0 : Mem H0 S0) (ho : RdO S0 vo ops) (hol : (ops.length : Int) < 9223372036854775808) (hops : ∀ a ∈ ops, a.ok)
    (hM1 : Mem H1 S1) (hx01 : Ext S0 S1) (hA1 : SetA S1 sb mb ns mk) (hT1 : Tab S1) (hL : scs ns = ofL l) (hmk : mk ≤ 1000) (hown : ∀ b, OwnA sb mb ns b → S0.n ≤ b) (hr0 : Rd S0 (fun _ => True) v0 l) (hl : l.length ≤ 60) (hK : ∀ H', K (.ret (.bool true)) H') :
    ∀ (n i : Nat) {H : AH} {S : LS} {v : AV}, Mem H S → Ext S1 S → Rd S (fun b => ¬ OwnA sb mb ns b) v (ofL (l.take i)) → capOk v → i ≤ l.length → l.length - i < n → f6_l3 f6_rr K n v0 vo (.ptr sb 0) v i H
  | 0, _, _, _, _, _, _, _, _, _, h => by omega
  | n + 1, i, H, S, v, hM, hx, hr, hc, hi, hn => by
    have hlen := @scs_len ns
    have hlo := foldl_len l (L := [])
    simp only [List.length_nil] at hlo
    have hln : (scs ns).length ≤ 60 := by rw [hL]; unfold ofL; omega
    show f6_q3 f6_rr K (f6_l3 f6_rr K n) (f6_p1 f6_rr K) v0 vo (.ptr sb 0) v i H
    unfold f6_q3
    rw [r6h]
    have hr0' := stay_rd hr0 hM0 (hx01.trans hx)
    refine hr0'.len ?_
    simp only [cI_z, iLt_d]
    refine bI_dec (fun g => ?_) (fun g => ?_)
    · obtain ⟨a, ha⟩ : ∃ a, l[i]? = some a := ⟨l[i], List.getElem?_eq_getElem (by omega)⟩
      refine hr0'.at_ ha fun b o hat _ => hat.loadN hM ?_
      have h2 : (ofL (l.take i)).length ≤ 60 := by have := foldl_len (l.take i) (L := []); simp at this; unfold ofL; omega
      refine f21_i hM (fun b hb g => by have := hA1.own_lt hM1 g; have := hx.n; omega) hr hc (foldl_srt _ List.Pairwise.nil) (foldl_nms _ (fun a ha => by simp at ha)) (by omega) fun H2 S2 v2 m2 x2 r2 c2 => ?_
      simp only [cR_ret]
      refine onTup_i (nth0 (onTup_i (nth1 ?_)))
      simp only [onB_b, iadd, io1]
      refine w0 (by omega) (by omega) ?_
      refine f6_first hM0 ho hol hops hM1 hx01 hA1 hT1 hL hmk hown hr0 hl hK n (i + 1) m2 (hx.trans x2) ?_ c2 (by omega) (by omega)
      have e : ofL (l.take (i + 1)) = putL (ofL (l.take i)) a := by
        rw [List.take_add_one, ha]
        show ofL (l.take i ++ [a]) = _
        unfold ofL
        rw [List.foldl_append]; rfl
      rw [e]; exact r2
    · show f6_q1 f6_rr K (f6_l4 f6_rr K NL) vo (.ptr sb 0) v H
      unfold f6_q1
      have e : l.take i = l := List.take_of_length_le (by omega)
      rw [e, ← hL] at hr
      exact f6_loop hM0 ho hol hops hK NL 0 hM ⟨hx01.trans hx, ⟨mb, ns, mk, hA1.ext hM1 hx, rfl, by omega, by omega, hown, hr⟩, hT1.ext hM1 hx, hc⟩ (by omega) (by have : NL = 1000000 := rfl; omega)
theorem f6_i {l : List Sc} {v0 : AV} (hM : Mem H S) (hT : Tab S) (hr : Rd S (fun _ => True) v0 l) (hs : ∀ a ∈ l, a.nm.n ≤ maxLen) (ho : RdO S vo ops) (hol : (ops.length : Int) < 9223372036854775808) (hops : ∀ a ∈ ops, a.ok) (hK : ∀ H', K (.ret (.bool true)) H') : f6 v0 vo H K := by
  show f6_q0 f6_rr K (f6_l3 f6_rr K NL) v0 vo H
  unfold f6_q0
  rw [r6a, r6b]
  refine hr.len ?_
  simp only [cI_z, iLt_d]
  refine bI_dec (fun h => ?_) (fun h => ?_)
  · refine f7_i hM hT fun H1 S1 h1 x1 => ?_
    simp only [cR_ret, onB_b]
    exact hK H1
  · have h60 : l.length ≤ 60 := by have : (Int.ofNat 60) = 60 := rfl; omega
    refine f8_i hM hT hr (by omega) hs fun H1 S1 sb mb ns mk h1 x1 hA1 hT1 hL1 hmk ho1 => ?_
    simp only [cR_ret, pPEq_pn, onB_b, Bool.not_true, bI_ff]
    exact f6_first hM ho hol hops h1 x1 hA1 hT1 hL1 hmk ho1 hr h60 hK NL 0 h1 (Ext.refl S1) (.inl ⟨rfl, by simp [ofL]⟩) trivial (by omega) (by have : NL = 1000000 := rfl; omega)
end
end Go.Proofs.YtpfnalokeeidkaaDoor

namespace Go.Proofs.YtpfnalokeeidkaaDoor
open Go Go.X Go.Proofs.YtpfnalokeeidkaaDoor.G Go.ChangeShapes
set_option maxRecDepth 100000
set_option maxHeartbeats 1600000
set_option linter.unusedVariables false
set_option linter.unusedSimpArgs false
def flo : List Opn → List AV
  | [] => []
  | a :: l => a.cs ++ flo l
theorem flo_len : ∀ l : List Opn, (flo l).length = l.length * 5
  | [] => rfl
  | a :: l => by simp [flo, flo_len l, Opn.cs]; omega
theorem flo_part : ∀ {l : List Opn} {i : Nat} {a : Opn}, l[i]? = some a → ((flo l).drop (i * 5)).take 5 = a.cs
  | [], i, a, h => by simp at h
  | x :: l, 0, a, h => by
    simp only [List.getElem?_cons_zero, Option.some.injEq] at h
    subst h
    show ((x.cs ++ flo l).drop 0).take 5 = x.cs
    rw [List.drop_zero, List.take_append, show x.cs.length = 5 from rfl]
    simp [Opn.cs]
  | x :: l, i + 1, a, h => by
    have h' : l[i]? = some a := by simpa using h
    rw [show (i + 1) * 5 = 5 + i * 5 by omega, ← List.drop_drop]
    show ((List.drop 5 (x.cs ++ flo l)).drop (i * 5)).take 5 = a.cs
    rw [show List.drop 5 (x.cs ++ flo l) = flo l by simp [Opn.cs]]
    exact flo_part h'
theorem flo_at {l : List Opn} {i : Nat} {a : AV} (h : (flo l)[i]? = some a) : ∃ (j c : Nat) (s : Opn), l[j]? = some s ∧ i = j * 5 + c ∧ c < 5 ∧ s.cs[c]? = some a := by
  have hi := (List.getElem?_eq_some_iff.1 h).1
  rw [flo_len] at hi
  have hj : i / 5 < l.length := by omega
  refine ⟨i / 5, i % 5, l[i / 5], List.getElem?_eq_getElem hj, by omega, Nat.mod_lt _ (by omega), ?_⟩
  rw [← flo_part (List.getElem?_eq_getElem hj), List.getElem?_take, if_pos (Nat.mod_lt _ (by omega)), List.getElem?_drop, show i / 5 * 5 + i % 5 = i by omega]
  exact h
section
variable {H : Type} {enc : TypeId × Value → H} {W : World}
theorem int_ok {z : Int} (hz : (Lit.int .i64 z).wf = true) : i64 z := by
  simp only [Lit.wf, Bool.and_eq_true, decide_eq_true_eq] at hz
  have e3 : IntKind.min .i64 = -9223372036854775808 := by decide
  have e4 : IntKind.max .i64 = 9223372036854775807 := by decide
  show -9223372036854775808 ≤ z ∧ z < 9223372036854775808
  omega
theorem ops_arg {r : Reach} {b0 : Nat} {v : Value} {d : DataW H} {ps : List MemPlace} (hv : Value.okWide Tryd.prog W r b0 48 v) (hd : DataW.Trod enc Tryd.prog W 0 (fun _ => true) true 48 v d ps) :
    ∃ (q : Option Rw) (l : List Opn), (∀ x, q = some x → x.at_ W) ∧ (∀ a ∈ l, a.ok) ∧ (l.length : Int) < 9223372036854775808 ∧ ∀ (gl : List (Option (List AV))) (rows : List (Option Rw)) (j : Nat), rows[j]? = some q → ∃ av, VR (firstE gl rows) av v ∧ RdO (firstM gl rows) av l := by
  rcases open_structs (k := 5) Tryd.underlying48 Tryd.underlying52 (by kernel_rfl) (by omega) (fields_ok (by kernel_rfl)) rfl hv hd with rfl | ⟨b, x, len, cap, rfl, hl, hm, cur, ty, ⟨lo, hi⟩, hb, hsz, hx⟩
  · exact ⟨none, [], fun x h => (nomatch h), fun a h => by simp at h, by simp, fun gl rows j _ => ⟨.nslice, .nslice, .inl ⟨rfl, rfl⟩⟩⟩
  · have each : ∀ i, i < len → ∃ a : Opn, a.ok ∧ ∀ c u, c < 5 → a.cs[c]? = some u → plA u = true ∧ ∃ w, cur[x + i * 5 + c]? = some w ∧ VR noE u w := fun i hi => by
      obtain ⟨u0, n0, y0, h0, g0⟩ := hx i 0 _ (by omega) rfl
      obtain ⟨u1, n1, y1, h1, g1⟩ := hx i 1 _ (by omega) rfl
      obtain ⟨u2, n2, y2, h2, g2⟩ := hx i 2 _ (by omega) rfl
      obtain ⟨u3, n3, y3, h3, g3⟩ := hx i 3 _ (by omega) rfl
      obtain ⟨u4, n4, y4, h4, g4⟩ := hx i 4 _ (by omega) rfl
      obtain ⟨z0, e0, _, w0⟩ := DataW.trod_int Tryd.underlying3 g0
      obtain ⟨z1, e1, _, w1⟩ := DataW.trod_int Tryd.underlying3 g1
      obtain ⟨z2, e2, _, w2⟩ := DataW.trod_int Tryd.underlying3 g2
      obtain ⟨s, e3, _, w3⟩ := DataW.trod_string Tryd.underlying9 g3
      obtain ⟨z4, e4, _, w4⟩ := DataW.trod_int Tryd.underlying2 g4
      simp only [List.cons.injEq, and_true] at e0 e1 e2 e3 e4
      subst e0; subst e1; subst e2; subst e3; subst e4
      obtain ⟨n, xx, f1, f2, f3⟩ := str_of s
      refine ⟨⟨z0, z1, z2, ⟨n, xx, f1⟩, z4⟩, ⟨int_ok w1, int_ok w2, int_ok w4, int_ok w0⟩, fun c u hc hu => ?_⟩
      match c, hc, hu with
      | 0, _, hu => simp [Opn.cs] at hu; subst hu; exact ⟨rfl, _, h0, .int 0 _⟩
      | 1, _, hu => simp [Opn.cs] at hu; subst hu; exact ⟨rfl, _, h1, .int 0 _⟩
      | 2, _, hu => simp [Opn.cs] at hu; subst hu; exact ⟨rfl, _, h2, .int 0 _⟩
      | 3, _, hu => simp [Opn.cs] at hu; subst hu; exact ⟨rfl, _, h3, by rw [f2]; exact .str n xx f1⟩
      | 4, _, hu => simp [Opn.cs] at hu; subst hu; exact ⟨rfl, _, h4, .int 0 _⟩
    obtain ⟨l, hl1, hl2⟩ := list_of len each
    have hmx : (maxLen : Int) < 9223372036854775808 := by decide
    refine ⟨some ⟨b, if cap = 0 then 0 else x, flo l⟩, l, fun q hq => ?_, fun a ha => ?_, by omega, fun gl rows j hj => ⟨.slice (gl.length + j) 0 len cap 5 true, row_slice hj hl (fun g => by show x = if cap = 0 then 0 else x; rw [if_neg (by omega)]), .inr ⟨gl.length + j, 0, cap, true, flo l, 2, by rw [hl1], firstM_row j hj, by rw [flo_len]; omega, fun i a ha => ?_⟩⟩⟩
    · cases hq
      refine ⟨cur, ty, lo, hi, hb, ?_, fun i a ha => ?_⟩
      · show (if cap = 0 then 0 else x) + (flo l).length ≤ cur.size
        rw [flo_len, hl1]
        by_cases g : cap = 0
        · rw [if_pos g]; omega
        · rw [if_neg g]
          have := hsz (by omega)
          omega
      · obtain ⟨j, c, s, h1, h2, h3, h4⟩ := flo_at ha
        have hj := (List.getElem?_eq_some_iff.1 h1).1
        obtain ⟨p1, w, p2, p3⟩ := (hl2 j s h1).2 c a h3 h4
        show _ ∧ ∃ v, cur[(if cap = 0 then 0 else x) + i]? = some v ∧ _
        rw [if_neg (by omega)]
        exact ⟨p1, w, by rw [h2, ← Nat.add_assoc]; exact p2, p3⟩
    · obtain ⟨i, hi⟩ := List.getElem?_of_mem ha
      exact (hl2 i a hi).1
    · rw [Nat.zero_add]
      exact flo_part ha
end
end Go.Proofs.YtpfnalokeeidkaaDoor
