/- The law SkipOrder over lists. No condition: lemmas. -/
import Derived.Test.YtpfnalokeeidkaaDoorC
set_option linter.unusedVariables false
set_option linter.unusedSimpArgs false
namespace Go.Proofs.YtpfnalokeeidkaaDoor
open Go Go.X Go.Proofs.YtpfnalokeeidkaaDoor.G
set_option maxRecDepth 100000
set_option maxHeartbeats 1600000
set_option linter.unusedVariables false
set_option linter.unusedSimpArgs false
variable {H : AH} {S : LS} {K : KF}
theorem r5a : f5_rr.1 = f7 := rfl
theorem r5b : f5_rr.2.1 = f8 := rfl
theorem r5c : f5_rr.2.2.1 = f9 := rfl
theorem r5d : f5_rr.2.2.2.1 = f11 := rfl
theorem r5e : f5_rr.2.2.2.2.1 = f16 := rfl
theorem r5f : f5_rr.2.2.2.2.2.1 = f18 := rfl
theorem r5g : f5_rr.2.2.2.2.2.2.1 = f19 := rfl
theorem r5h : f5_rr.2.2.2.2.2.2.2 = f20 := rfl
theorem mem_foldl : ∀ (l : List Sc) {L : List Sc} {y : Sc}, y ∈ l.foldl putL L → y ∈ L ∨ y ∈ l
  | [], _, _, h => .inl h
  | x :: l, L, y, h => by
    rcases mem_foldl l h with g | g
    · rcases mem_putL.1 g with e | ⟨e, _⟩
      · subst e; exact .inr (by simp)
      · exact .inl e
    · exact .inr (by simp [g])
theorem mem_ofL {l : List Sc} {y : Sc} (h : y ∈ ofL l) : y ∈ l := (mem_foldl l h).elim (fun h => by simp at h) id
theorem srt_one {L : List Sc} (h : Srt L) {i j : Nat} {a : Sc} (hi : L[i]? = some a) (hj : L[j]? = some a) : i = j := by
  rcases Nat.lt_trichotomy i j with g | g | g
  · exact absurd (srt_at h hi hj g) (slt_irrefl a)
  · exact g
  · exact absurd (srt_at h hj hi g) (slt_irrefl a)
theorem sGe_f {a b : Nm} {k : AV → Prop} (h : nlt a b) (hk : k (.bool false)) : sGeK a.av b.av k := by
  have e : sLt a.n a.x b.n b.x = true := by rw [sLt_eq]; exact h
  show k (.bool (!(sLt a.n a.x b.n b.x)))
  rw [e]; exact hk
section
variable {S1 : LS} {H1 : AH} {sb mb mk : Nat} {ns : List Nd} {vl : AV}
theorem f5_end (hM : Mem H S) (hA : SetA S sb mb ns mk) (hT : Tab S) (hs : ∀ y ∈ scs ns, i64 y.s) (hK : ∀ H', K (.ret (.bool true)) H') : f5_q1 f5_rr K (.ptr sb 0) H := by
  unfold f5_q1
  rw [r5a, r5d]
  refine f7_i hM hT fun H2 S2 h2 x2 => ?_
  simp only [cR_ret, onB_b, bI_tt]
  generalize hz : Int.negSucc 9223372036854775807 = z
  refine f11_n h2 (hA.ext hM x2) z fun H3 S3 p h3 x3 hp hc => ?_
  have p0 : p = 0 := by
    rcases Nat.eq_zero_or_pos p with g | g
    · exact g
    · have e := List.getElem?_eq_getElem (show 0 < (scs ns).length by omega)
      have h1 := (hc 0 _ e).1 g
      have h2 := (hs _ (List.mem_of_getElem? e)).1
      rw [← hz] at h1
      have : (Int.negSucc 9223372036854775807) = -9223372036854775808 := rfl
      omega
  subst p0
  simp only [cR_ret, cI_z]
  exact hK H3
theorem f5_prev (hM : Mem H S) (hl : Rd S (fun _ => True) vl (scs ns)) (hsrt : Srt (scs ns)) (hlen : (scs ns).length ≤ 1000) {x3 : AV → AV → Int → AH → Prop} {i : Nat} {a : Sc} (ha : (scs ns)[i]? = some a) (hx : x3 (.ptr sb 0) vl i H) :
    f5_q6 f5_rr K x3 (.ptr sb 0) vl i H := by
  have hi := (List.getElem?_eq_some_iff.1 ha).1
  unfold f5_q6
  simp only [iLt_d, isub, io1]
  refine bI_dec (fun h => ?_) (fun h => hx)
  have h0 : 0 < i := by have : (Int.ofNat 0) = 0 := rfl; omega
  obtain ⟨b, hb⟩ : ∃ b, (scs ns)[i - 1]? = some b := ⟨_, List.getElem?_eq_getElem (by omega)⟩
  have hba := srt_at hsrt hb ha (by omega)
  have e : (i : Int) - 1 = ((i - 1 : Nat) : Int) := by omega
  refine w0 (by omega) (by omega) ?_
  rw [e]
  refine hl.at_ hb fun b1 o1 t1 _ => t1.sc hM ?_
  simp only [cI_z]
  refine hl.at_ ha fun b2 o2 t2 _ => t2.sc hM ?_
  simp only [cI_z]
  rw [show decide (a.s < b.s) = false from decide_eq_false (by rcases hba with g | g <;> omega)]
  simp only [bI_ff]
  refine w0 (by omega) (by omega) ?_
  refine hl.at_ hb fun b3 o3 t3 _ => t3.sc hM ?_
  simp only [cI_z]
  refine hl.at_ ha fun b4 o4 t4 _ => t4.sc hM ?_
  simp only [cI_z, iEq_d]
  refine bI_dec (fun g => ?_) (fun g => hx)
  have hn : nlt b.nm a.nm := by
    rcases hba with z | z
    · omega
    · exact z.2
  refine w0 (by omega) (by omega) ?_
  refine hl.at_ hb fun b5 o5 t5 _ => t5.nm hM ?_
  refine hl.at_ ha fun b6 o6 t6 _ => t6.nm hM ?_
  refine sGe_f hn ?_
  simp only [onB_b, bI_ff]
  exact hx
theorem box_at (b : Nat) (a : Sc) (S : LS) : AtS ((S.push (.cells [.str 0 0, .int 0 (.ofNat 0)] 0)).set S.n (.cells a.cs 0)) S.n 0 a := ⟨a.cs, 0, LS.set_ob_self _ _ _, by simp [Sc.cs], by simp [Sc.cs]⟩
theorem box_i {a : Sc} {k : AV → AH → Prop} (hM : Mem H S) (hk : ∀ H' S' b, Mem H' S' → Ext S S' → AtS S' b 0 a → k (.ptr b 0) H') : onAH H (pNew (newK H) [(.str 0 0), (.int 0 (.ofNat 0))] fun v9 H10 => pStore 2 v9 (.agg a.cs) H10 fun H11 => k v9 H11) := by
  refine onAH_i (pNew_i hM (by simp) fun H1 h1 => ?_)
  refine pStoreN_i h1 (LS.push_ob_self _ _) (by omega) (by simp [Sc.cs]) (by simp) (by simp [Sc.cs, Nm.av]) fun H2 h2 => ?_
  have e2 : spliceL [.str 0 0, .int 0 (.ofNat 0)] 0 a.cs = a.cs := by simp [spliceL, Sc.cs]
  rw [e2] at h2
  exact hk H2 _ S.n h2 ((Ext.push _ _).set (Nat.le_refl _) _) (box_at 0 a S)
theorem AtS.ext {b o : Nat} {a : Sc} {S' : LS} (h : AtS S b o a) (hM : Mem H S) (hx : Ext S S') : AtS S' b o a := by
  obtain ⟨cs, m, h1, h2⟩ := h
  exact ⟨cs, m, (hx.ob b (hM.lt (by rw [h1]; simp))).trans h1, h2⟩
theorem f5_loop (hM1 : Mem H1 S1) (hA1 : SetA S1 sb mb ns mk) (hT1 : Tab S1) (hl1 : Rd S1 (fun _ => True) vl (scs ns)) (hlen : (scs ns).length ≤ 1000) (hs : ∀ y ∈ scs ns, i64 y.s) (hK : ∀ H', K (.ret (.bool true)) H') :
    ∀ (n i : Nat) {H : AH} {S : LS}, Mem H S → Ext S1 S → i ≤ (scs ns).length → (scs ns).length - i < n → f5_l2 f5_rr K n (.ptr sb 0) vl i H
  | 0, _, _, _, _, _, _, h => by omega
  | n + 1, i, H, S, hM, hx, hi, hn => by
    have stay : ∀ {B : LS}, Ext S1 B → Rd B (fun _ => True) vl (scs ns) := fun hx => hl1.keep hM1 fun b _ hb => ⟨hx.ob b hb, trivial⟩
    have hl := stay hx
    have hA := hA1.ext hM1 hx
    have hsrt := hA.srt
    show f5_q2 f5_rr K (f5_p4 f5_rr K (f5_l2 f5_rr K n)) (f5_p1 f5_rr K) (.ptr sb 0) vl i H
    unfold f5_q2
    rw [r5f, r5g]
    refine hl.len ?_
    simp only [cI_z, iLt_d]
    refine bI_dec (fun h => ?_) (fun h => ?_)
    · obtain ⟨a, ha⟩ : ∃ a, (scs ns)[i]? = some a := ⟨(scs ns)[i], List.getElem?_eq_getElem (by omega)⟩
      have hmem := List.mem_of_getElem? ha
      have hshort := hA.short a hmem
      have hhas : hasN (scs ns) a.nm = true := hasN_iff.2 ⟨a, hmem, rfl⟩
      refine hl.at_ ha fun b o hat _ => hat.nm hM ?_
      refine f18_i hM hA hshort (fun H2 S2 r y h2 x2 hr hy => ?_) (fun g => by rw [hhas] at g; cases g)
      obtain rfl := hA.nms y (List.mem_of_getElem? hr) a hmem hy
      obtain rfl := srt_one hsrt hr ha
      simp only [cR_ret]
      refine onTup_i (nth0 ?_)
      simp only [cI_z]
      refine onTup_i (nth1 ?_)
      simp only [onB_b]
      have x2' := hx.trans x2
      have hl2 := stay x2'
      refine hl2.at_ ha fun b o hat _ => hat.nm h2 ?_
      refine f19_i h2 (hA1.ext hM1 x2') hshort (fun y' hy' e' => ?_) (fun g => by rw [hhas] at g; cases g)
      obtain rfl := hA.nms y' hy' y hmem e'
      simp only [cR_ret]
      refine onTup_i (nth0 ?_)
      simp only [cI_z]
      refine onTup_i (nth1 ?_)
      simp only [onB_b]
      show f5_q4 f5_rr K (f5_p5 f5_rr K (f5_l2 f5_rr K n)) (.ptr sb 0) vl r r true y'.s true H2
      unfold f5_q4
      rw [r5h]
      refine f20_i h2 (hA1.ext hM1 x2') r (by omega) (by omega) (fun H3 S3 _ _ g => by unfold plc at g; rw [if_neg (by omega), if_pos (by omega)] at g; cases g) fun H3 S3 j y3 h3 x3 g hj => ?_
      have ej : j = r := by unfold plc at g; rw [if_neg (by omega), if_pos (by omega)] at g; simpa using g.symm
      subst ej
      obtain rfl := Option.some.inj (hj.symm.trans ha)
      simp only [cR_ret]
      refine onTup_i (nth0 (onTup_i (nth1 ?_)))
      simp only [onB_b]
      refine box_i h3 fun H4 S4 b4 h4 x4 t4 => ?_
      have x14 := (x2'.trans x3).trans x4
      refine (stay x14).len ?_
      simp only [cI_z, isub]
      refine w0 (by omega) (by omega) ?_
      refine f20_i h4 (hA1.ext hM1 x14) _ (by omega) (by omega) (fun H5 S5 _ _ g => by unfold plc at g; rw [if_pos (by omega), if_neg (by omega)] at g; cases g) fun H5 S5 j' y5 h5 x5 g' hj' => ?_
      have ej' : j' = j := by unfold plc at g'; rw [if_pos (by omega), if_neg (by omega)] at g'; simp only [Option.some.injEq] at g'; omega
      subst ej'
      obtain rfl := Option.some.inj (hj'.symm.trans ha)
      simp only [cR_ret]
      refine onTup_i (nth0 (onTup_i (nth1 ?_)))
      simp only [onB_b]
      refine box_i h5 fun H6 S6 b6 h6 x6 t6 => ?_
      have x16 := (x14.trans x5).trans x6
      have t4' := (t4.ext h4 x5).ext h5 x6
      have hl6 := stay x16
      show f5_q5 f5_rr K (f5_p6 f5_rr K (f5_l2 f5_rr K n)) (.ptr sb 0) vl j' j' true y5.s true (.ptr b4 0) true (.ptr b6 0) true H6
      unfold f5_q5
      rw [r5d]
      simp only [Bool.not_true, bI_ff, iEq_d, decide_true]
      refine hl6.at_ ha fun b o hat _ => hat.sc h6 ?_
      simp only [cI_z, decide_true, Bool.not_true, bI_ff]
      refine t4'.loadN h6 (hl6.at_ ha fun b o hat _ => hat.loadN h6 ?_)
      refine onAgg_i (onAgg_i (cs0 (cs0 (sEqB_i (cs1 (cs1 (iEqB_i ?_)))))))
      simp only [decide_true, Bool.and_self, Bool.not_true, bI_ff]
      refine t6.loadN h6 (hl6.at_ ha fun b o hat _ => hat.loadN h6 ?_)
      refine onAgg_i (onAgg_i (cs0 (cs0 (sEqB_i (cs1 (cs1 (iEqB_i ?_)))))))
      simp only [decide_true, Bool.and_self, Bool.not_true, bI_ff]
      refine hl6.at_ ha fun b o hat _ => hat.sc h6 ?_
      simp only [cI_z]
      refine f11_n h6 (hA1.ext hM1 x16) y5.s fun H7 S7 p h7 x7 hp hc => ?_
      have hpi : p ≤ j' := by
        rcases Nat.lt_or_ge j' p with g | g
        · have := (hc j' y5 ha).1 g; omega
        · exact g
      simp only [cR_ret, cI_z, iLt_d]
      rw [show decide ((j' : Int) < (p : Int)) = false from decide_eq_false (by omega)]
      simp only [bI_ff]
      have x17 := x16.trans x7
      refine f5_prev h7 (stay x17) hsrt hlen ha ?_
      show f5_q3 f5_rr K (f5_l2 f5_rr K n) (.ptr sb 0) vl j' H7
      unfold f5_q3
      simp only [iadd, io1]
      refine w0 (by omega) (by omega) ?_
      exact f5_loop hM1 hA1 hT1 hl1 hlen hs hK n (j' + 1) h7 x17 (by omega) (by omega)
    · exact f5_end hM hA (hT1.ext hM1 hx) hs hK
end
theorem f5_i {l : List Sc} {v : AV} (hM : Mem H S) (hT : Tab S) (hR : Rd S (fun _ => True) v l) (hs : ∀ a ∈ l, a.nm.n ≤ maxLen ∧ i64 a.s) (hK : ∀ H', K (.ret (.bool true)) H') : f5 v H K := by
  show f5_q0 f5_rr K (f5_l2 f5_rr K NL) v H
  unfold f5_q0
  rw [r5a, r5b, r5c, r5e]
  refine hR.len ?_
  simp only [cI_z, iLt_d]
  refine bI_dec (fun h => ?_) (fun h => ?_)
  · refine f7_i hM hT fun H1 S1 h1 x1 => ?_
    simp only [cR_ret, onB_b]
    exact hK H1
  · have h60 : l.length ≤ 100 := by have : (Int.ofNat 100) = 100 := rfl; omega
    refine f8_i hM hT hR (by omega) (fun a ha => (hs a ha).1) fun H1 S1 sb mb ns mk h1 x1 hA1 hT1 hL1 hmk ho1 => ?_
    simp only [cR_ret, pPEq_pn, onB_b, Bool.not_true, bI_ff]
    have hlen : (scs ns).length ≤ 100 := by rw [hL1]; have := foldl_len l (L := []); simp at this; unfold ofL; omega
    refine f9_i h1 hA1 fun H2 S2 vl h2 x2 hl2 => ?_
    have hl2' := hl2.rd h2 (Q := fun _ => True) fun _ _ _ => trivial
    simp only [cR_ret]
    refine hl2'.len ?_
    simp only [cI_z]
    have hA2 := hA1.ext h1 x2
    refine f16_i h2 hA2 ?_
    simp only [cR_ret, cI_z, iEq_d, decide_true, Bool.not_true, bI_ff]
    exact f5_loop h2 hA2 (hT1.ext h1 x2) hl2' (by omega) (fun y hy => (hs y (mem_ofL (by rw [← hL1]; exact hy))).2) hK NL 0 h2 (Ext.refl S2) (by omega) (by have : NL = 1000000 := rfl; omega)
end Go.Proofs.YtpfnalokeeidkaaDoor
